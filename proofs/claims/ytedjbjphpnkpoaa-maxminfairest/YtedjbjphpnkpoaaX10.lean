/- The law MaxminFairest returns true for every input, and each argument reads as it read before; no conditions. This file: the row, last of the parts. -/
import Derived.IntWalk
import Derived.KernelRfl
import Derived.Test.YtedjbjphpnkpoaaRows
import Derived.WalkKit
import Derived.ProofKit
import Derived.OpenShut
import Derived.ShutString
import Derived.ChangeOld
import Derived.Below
import Derived.SizedLaws
import Derived.Test.YtedjbjphpnkpoaaX9
set_option linter.unusedVariables false
set_option linter.unusedSimpArgs false
section
/- Max-min fair rates, without a program: what makes rates fair, and that there is one choice of them. -/
namespace Go.Mm
def sm(p:Nat→Bool)(x:Nat→Rat):Nat→Rat
 |0=>0
 |n+1=>sm p x n+bif p n then x n else 0
structure yr where
 F:Nat
 L:Nat
 on:Nat→Nat→Bool
 c:Nat→Rat
 has:Nat→Bool
 k:Nat→Rat
structure Ov(N:yr)(x:Nat→Rat):Prop where
 nn:∀ i,i<N.F→0≤x i
 lO:∀ i,i<N.F→N.has i=true→x i≤N.k i
 cap:∀ l,l<N.L→sm (N.on l) x N.F≤N.c l
def W2(N:yr)(x:Nat→Rat)(i:Nat):Prop:=
 (N.has i=true∧x i=N.k i)∨∃ l,l<N.L∧N.on l i=true∧sm (N.on l) x N.F=N.c l∧∀ j,j<N.F→N.on l j=true→x j≤x i
structure Fair(N:yr)(x:Nat→Rat):Prop where
 Rb:Ov N x
 Lq:∀ i,i<N.F→W2 N x i
theorem P5{p:Nat→Bool}{x y:Nat→Rat}:∀ {n:Nat},(∀ j,j<n→p j=true→x j≤y j)→sm p x n≤sm p y n
 |0,_=>Rat.le_refl
 |n+1,h=>by
  have h1:=P5 (n:=n) fun j hj=>h j (by omega)
  have h2:=h n (by omega)
  simp only[sm]
  cases hp:p n with
  |false=>simp only[cond_false]; grind
  |true=>simp only[cond_true]; have:=h2 hp; grind
theorem P6{p:Nat→Bool}{x y:Nat→Rat}:∀ {n i:Nat},i<n→p i=true→x i<y i→(∀ j,j<n→p j=true→x j≤y j)→sm p x n<sm p y n
 |0,i,h,_,_,_=>by omega
 |n+1,i,hi,hp,hx,h=>by
  simp only[sm]
  by_cases e:i=n
  ·subst e
   have h1:=P5 (n:=i) fun j hj=>h j (by omega)
   rw[hp]; simp only[cond_true]; grind
  ·have h1:=P6 (n:=n) (i:=i) (by omega) hp hx fun j hj=>h j (by omega)
   have h2:=h n (by omega)
   cases hp:p n with
   |false=>simp only[cond_false]; grind
   |true=>simp only[cond_true]; have:=h2 hp; grind
theorem nX{p q:Nat→Bool}{x y:Nat→Rat}:∀ {n:Nat},(∀ j,j<n→p j=q j)→(∀ j,j<n→p j=true→x j=y j)→sm p x n=sm q y n
 |0,_,_=>rfl
 |n+1,h,g=>by
  simp only[sm]
  rw[nX (n:=n) (fun j hj=>h j (by omega)) fun j hj=>g j (by omega),←h n (by omega)]
  cases hp:p n with
  |false=>rfl
  |true=>rw[g n (by omega) hp]
theorem DE{p:Nat→Bool}{x:Nat→Rat}(t:Rat):∀ {n:Nat},sm p (fun i=>t*x i) n=t*sm p x n
 |0=>by simp[sm]
 |n+1=>by
  simp only[sm]
  rw[DE t (n:=n)]
  cases p n<;>simp only[cond_true,cond_false]<;>grind
theorem DF{p q:Nat→Bool}{x:Nat→Rat}:∀ {n:Nat},sm p x n=sm (fun i=>p i&&q i) x n+sm (fun i=>p i&&!q i) x n
 |0=>by simp only[sm]; grind
 |n+1=>by
  simp only[sm]
  rw[DF (q:=q) (n:=n)]
  cases p n<;>cases q n<;>simp only[Bool.and_true,Bool.and_false,Bool.not_true,Bool.not_false,Bool.true_and,Bool.false_and,cond_true,cond_false]<;>grind
theorem Hx{N:yr}{x y:Nat→Rat}(h:Fair N x)(hy:Ov N y){i:Nat}(hi:i<N.F)(bL:x i<y i):∃ j,j<N.F∧x j≤x i∧y j<x j:=by
 rcases h.Lq i hi with ⟨h1,h2⟩|⟨l,hl,pt,Rc,Fs⟩
 ·have:=hy.lO i hi h1; exfalso; grind
 ·apply Classical.byContradiction
  intro hc
  have bg:∀ j,j<N.F→N.on l j=true→x j≤y j:=fun j hj ho=>by
   apply Classical.byContradiction
   intro hn
   exact hc ⟨j,hj,Fs j hj ho,by grind⟩
  have h1:=P6 hi pt bL bg
  have h2:=hy.cap l hl
  grind
theorem Lr(P:Nat→Prop)(f:Nat→Rat):∀ n,(∃ i,i<n∧P i)→∃ i,i<n∧P i∧∀ j,j<n→P j→f i≤f j
 |0,⟨i,hi,_⟩=>by omega
 |n+1,⟨i,hi,hp⟩=>by
  by_cases hex:∃ i,i<n∧P i
  ·obtain⟨m,hm,hpm,wU⟩:=Lr P f n hex
   by_cases hn:P n∧f n<f m
   ·refine⟨n,by omega,hn.1,fun j hj F5=>?_⟩
    by_cases e:j=n
    ·subst e; exact Rat.le_refl
    ·have:=wU j (by omega) F5; have:=hn.2; grind
   ·refine⟨m,by omega,hpm,fun j hj F5=>?_⟩
    by_cases e:j=n
    ·subst e; have:¬f j<f m:=fun h=>hn ⟨F5,h⟩; grind
    ·exact wU j (by omega) F5
  ·have:i=n:=by
    apply Classical.byContradiction
    intro e
    exact hex ⟨i,by omega,hp⟩
   subst this
   refine⟨i,by omega,hp,fun j hj F5=>?_⟩
   by_cases e:j=i
   ·subst e; exact Rat.le_refl
   ·exact absurd ⟨j,by omega,F5⟩ hex
/-! ### Filling -/
def ct(p:Nat→Bool):Nat→Nat
 |0=>0
 |n+1=>ct p n+bif p n then 1 else 0
theorem nY{p q:Nat→Bool}:∀ {n:Nat},(∀ j,j<n→p j=q j)→ct p n=ct q n
 |0,_=>rfl
 |n+1,h=>by simp only[ct]; rw[nY (n:=n) fun j hj=>h j (by omega),h n (by omega)]
theorem Hy{p q:Nat→Bool}:∀ {n:Nat},(∀ j,j<n→p j=true→q j=true)→ct p n≤ct q n
 |0,_=>Nat.le_refl _
 |n+1,h=>by
  have h1:=Hy (n:=n) fun j hj=>h j (by omega)
  have h2:=h n (by omega)
  simp only[ct]
  cases hp:p n with
  |false=>simp only[cond_false]; omega
  |true=>rw[h2 hp]; simp only[cond_true]; omega
theorem p6{p:Nat→Bool}:∀ {n i:Nat},i<n→p i=true→0<ct p n
 |0,i,h,_=>by omega
 |n+1,i,h,hp=>by
  simp only[ct]
  by_cases e:i=n
  ·subst e; rw[hp]; simp only[cond_true]; omega
  ·have:=p6 (n:=n) (i:=i) (by omega) hp; omega
theorem Ls{p:Nat→Bool}:∀ {n:Nat},0<ct p n→∃ i,i<n∧p i=true
 |0,h=>by simp[ct]at h
 |n+1,h=>by
  simp only[ct]at h
  cases hp:p n with
  |true=>exact⟨n,by omega,hp⟩
  |false=>
   rw[hp]at h
   obtain⟨i,hi,h1⟩:=Ls (n:=n) (by simpa using h)
   exact⟨i,by omega,h1⟩
theorem p7{p q:Nat→Bool}:∀ {n:Nat},ct p n=ct (fun i=>p i&&q i) n+ct (fun i=>p i&&!q i) n
 |0=>rfl
 |n+1=>by
  simp only[ct]
  rw[p7 (q:=q) (n:=n)]
  cases p n<;>cases q n<;>simp only[Bool.and_true,Bool.and_false,Bool.not_true,Bool.not_false,Bool.true_and,Bool.false_and,cond_true,cond_false]<;>omega
theorem p8{p:Nat→Bool}:∀ {n:Nat},ct p n≤n
 |0=>Nat.le_refl _
 |n+1=>by
  have:=p8 (p:=p) (n:=n)
  simp only[ct]
  cases p n<;>simp only[cond_true,cond_false]<;>omega
theorem yu{p:Nat→Bool}{v:Rat}:∀ {n:Nat},sm p (fun _=>v) n=v*(ct p n:Nat)
 |0=>by simp[sm,ct]
 |n+1=>by
  simp only[sm,ct]
  rw[yu (n:=n)]
  cases p n
  ·simp only[cond_false,Nat.add_zero]; grind
  ·simp only[cond_true]
   rw[Rat.natCast_add]
   grind
end Go.Mm
namespace Go.Mm
def Dv(P:Nat)(q:Rat):Prop:=∃ n:Int,q*(P:Rat)=n
theorem Dv.mul{P m:Nat}{q:Rat}(h:Dv P q):Dv (P*m) q:=by
 obtain⟨n,hn⟩:=h
 refine⟨n*m,?_⟩
 rw[Rat.natCast_mul,Rat.intCast_mul,Rat.intCast_natCast,←hn]
 grind
theorem Dv.int{P:Nat}(n:Int):Dv P n:=⟨n*P,by rw[Rat.intCast_mul,Rat.intCast_natCast]⟩
theorem Dv.zero{P:Nat}:Dv P 0:=⟨0,by simp⟩
theorem Dv.add{P:Nat}{p q:Rat}(h:Dv P p)(h':Dv P q):Dv P (p+q):=by
 obtain⟨n,hn⟩:=h
 obtain⟨m,hm⟩:=h'
 exact⟨n+m,by rw[Rat.intCast_add,←hn,←hm]; grind⟩
theorem Dv.sub{P:Nat}{p q:Rat}(h:Dv P p)(h':Dv P q):Dv P (p-q):=by
 obtain⟨n,hn⟩:=h
 obtain⟨m,hm⟩:=h'
 exact⟨n-m,by rw[Rat.intCast_sub,←hn,←hm]; grind⟩
theorem Dv.sm{P:Nat}{p:Nat→Bool}{x:Nat→Rat}:∀ {n:Nat},(∀ j,j<n→p j=true→Dv P (x j))→Dv P (sm p x n)
 |0,_=>Dv.zero
 |n+1,h=>by
  have h1:=Dv.sm (n:=n) fun j hj=>h j (by omega)
  simp only[Go.Mm.sm]
  cases hp:p n with
  |false=>simp only[cond_false]; exact h1.add .zero
  |true=>exact h1.add (h n (by omega) hp)
theorem Dv.part{P m:Nat}{q r:Rat}(h:Dv P q)(hm:r*(m:Rat)=q):Dv (P*m) r:=by
 obtain⟨n,hn⟩:=h
 refine⟨n,?_⟩
 rw[Rat.natCast_mul,←hn,←hm]
 grind
def mp:Nat→Nat
 |0=>1|1=>1|2=>2|3=>3|4=>4|5=>6|6=>9|7=>12|_=>18
theorem Hz{m u u':Nat}(hm:1≤m)(hu:u≤8)(h:m+u'≤u):m*mp u'≤mp u:=by
 have:∀ u,u≤8→∀ m,m≤8→∀ u',u'≤8→1≤m→m+u'≤u→m*mp u'≤mp u:=by decide
 exact this u hu m (by omega) u' (by omega) hm h
theorem Lt(u:Nat):1≤mp u:=by unfold mp; split<;>omega
structure Inv(N:yr)(fx:Nat→Bool)(x:Nat→Rat)(lo:Rat)(P:Nat):Prop where
 l0:0≤lo
 nn:∀ i,i<N.F→fx i=true→0≤x i∧x i≤lo
 lO:∀ i,i<N.F→fx i=true→N.has i=true→x i≤N.k i
 cap:∀ l,l<N.L→sm (fun i=>N.on l i&&fx i) x N.F≤N.c l
 ZF:∀ l,l<N.L→lo*(ct (fun i=>N.on l i&&!fx i) N.F:Nat)≤N.c l-sm (fun i=>N.on l i&&fx i) x N.F
 wait:∀ i,i<N.F→fx i=false→N.has i=true→lo≤N.k i
 Lq:∀ i,i<N.F→fx i=true→(N.has i=true∧x i=N.k i) ∨
  ∃ l,l<N.L∧N.on l i=true∧sm (fun i=>N.on l i&&fx i) x N.F=N.c l∧ct (fun i=>N.on l i&&!fx i) N.F=0∧∀ j,j<N.F→N.on l j=true→x j≤x i
 P1:1≤P
 Rd:P*mp (ct (fun i=>!fx i) N.F)≤18
 dv:∀ i,i<N.F→fx i=true→Dv P (x i)
structure ZG(N:yr)(fx:Nat→Bool)(x:Nat→Rat)(low:Rat)(nw:Nat→Bool):Prop where
 sub:∀ i,i<N.F→nw i=true→fx i=false
 Tz:∀ l,l<N.L→low*(ct (fun i=>N.on l i&&!fx i) N.F:Nat)≤N.c l-sm (fun i=>N.on l i&&fx i) x N.F
 lO:∀ i,i<N.F→fx i=false→N.has i=true→low≤N.k i
 W3:∀ i,i<N.F→nw i=true→(N.has i=true∧low=N.k i) ∨
  ∃ l,l<N.L∧N.on l i=true∧low*(ct (fun i=>N.on l i&&!fx i) N.F:Nat)=N.c l-sm (fun i=>N.on l i&&fx i) x N.F∧∀ j,j<N.F→N.on l j=true→fx j=false→nw j=true
 some:∃ i,i<N.F∧nw i=true
theorem F6{N:yr}(hF:N.F≤8)(hc:∀ l,l<N.L→0≤N.c l)(hk:∀ i,i<N.F→N.has i=true→0≤N.k i)(x:Nat→Rat):Inv N (fun _=>false) x 0 1 where
 l0:=Rat.le_refl
 nn:=by simp
 lO:=by simp
 cap l hl:=by
  rw[nX (q:=fun _=>false) (y:=x) (by simp) (by simp)]
  have h0:∀ n,sm (fun _=>false) x n=0:=by
   intro n; induction n with
   |zero=>rfl
   |succ n ih=>simp only[sm,ih,cond_false]; grind
  rw[h0]; exact hc l hl
 ZF l hl:=by
  have h0:∀ n,sm (fun i=>N.on l i&&false) x n=0:=by
   intro n; induction n with
   |zero=>rfl
   |succ n ih=>simp only[sm,ih,Bool.and_false,cond_false]; grind
  rw[h0]
  have:=hc l hl
  grind
 wait i hi _ hh:=hk i hi hh
 Lq:=by simp
 P1:=Nat.le_refl _
 Rd:=by
  have:=p8 (p:=fun _=>!false) (n:=N.F)
  have h8:∀ u,u≤8→1*mp u≤18:=by decide
  exact h8 _ (by omega)
 dv:=by simp
theorem IV{N:yr}(hF:N.F≤8)(W4:∀ l,l<N.L→Dv 1 (N.c l))(Ig:∀ i,i<N.F→Dv 1 (N.k i)){fx:Nat→Bool}{x:Nat→Rat}{lo:Rat}{P:Nat}(h:Inv N fx x lo P){low:Rat}{nw:Nat→Bool}(g:ZG N fx x low nw):
  ∃ P',Inv N (fun i=>fx i||nw i) (fun i=>if nw i=true then low else x i) low P':=by
 have hS:∀ l,sm (fun i=>N.on l i&&(fx i||nw i)) (fun i=>if nw i=true then low else x i) N.F=sm (fun i=>N.on l i&&fx i) x N.F+low*(ct (fun i=>N.on l i&&nw i) N.F:Nat):=by
  intro l
  rw[DF (q:=nw)]
  rw[nX (p:=fun i=>(N.on l i&&(fx i||nw i))&&nw i) (q:=fun i=>N.on l i&&nw i) (y:=fun _=>low) (fun j hj=>by cases N.on l j<;>cases fx j<;>cases nw j<;>rfl) (fun j hj hp=>by
   have:nw j=true:=by simp only[Bool.and_eq_true]at hp; exact hp.2
   simp[this]),yu]
  rw[nX (p:=fun i=>(N.on l i&&(fx i||nw i))&&!nw i) (q:=fun i=>N.on l i&&fx i) (y:=x) (fun j hj=>by
   have:=g.sub j hj
   cases h1:N.on l j<;>cases h2:fx j<;>cases h3:nw j<;>simp_all) (fun j hj hp=>by
   have:nw j=false:=by simp only[Bool.and_eq_true,Bool.not_eq_true']at hp; exact hp.2
   simp[this])]
  grind
 have hM:∀ l,ct (fun i=>N.on l i&&!fx i) N.F=ct (fun i=>N.on l i&&nw i) N.F+ct (fun i=>N.on l i&&!(fx i||nw i)) N.F:=by
  intro l
  rw[p7 (q:=nw)]
  congr 1
  ·exact nY fun j hj=>by
    have:=g.sub j hj
    cases h1:N.on l j<;>cases h2:fx j<;>cases h3:nw j<;>simp_all
  ·exact nY fun j hj=>by cases N.on l j<;>cases fx j<;>cases nw j<;>rfl
 have hU:ct (fun i=>!fx i) N.F=ct nw N.F+ct (fun i=>!(fx i||nw i)) N.F:=by
  rw[p7 (q:=nw)]
  congr 1
  ·exact nY fun j hj=>by
    have:=g.sub j hj
    cases h2:fx j<;>cases h3:nw j<;>simp_all
  ·exact nY fun j hj=>by cases fx j<;>cases nw j<;>rfl
 have W5:∀ l,((ct (fun i=>N.on l i&&!fx i) N.F:Nat):Rat)=(ct (fun i=>N.on l i&&nw i) N.F:Nat)+(ct (fun i=>N.on l i&&!(fx i||nw i)) N.F:Nat):=fun l=>by rw[hM l,Rat.natCast_add]
 have W6:lo≤low:=by
  obtain⟨i,hi,hn⟩:=g.some
  rcases g.W3 i hi hn with ⟨h1,h2⟩|⟨l,hl,pt,he,_⟩
  ·rw[h2]; exact h.wait i hi (g.sub i hi hn) h1
  ·have h1:=h.ZF l hl
   have hp:0<ct (fun i=>N.on l i&&!fx i) N.F:=p6 hi (by simp[pt,g.sub i hi hn])
   have hpr:(0:Rat)<(ct (fun i=>N.on l i&&!fx i) N.F:Nat):=by exact_mod_cast hp
   rw[←he]at h1
   exact Rat.le_of_mul_le_mul_right h1 hpr
 have xf:0≤low:=Rat.le_trans h.l0 W6
 have ZH:∀ j,j<N.F→fx j=true→(if nw j=true then low else x j)=x j:=fun j hj hf=>by
  have:nw j=false:=by cases hn:nw j with|false=>rfl|true=>rw[g.sub j hj hn]at hf; cases hf
  simp[this]
 have hP:∃ P',1≤P'∧P'*mp (ct (fun i=>!(fx i||nw i)) N.F)≤18∧Dv P' low∧∃ m,P'=P*m:=by
  obtain⟨i,hi,hn⟩:=g.some
  have ZI:ct (fun i=>!fx i) N.F≤8:=by have:=p8 (p:=fun i=>!fx i) (n:=N.F); omega
  have WN:=p6 hi hn
  have h18:=h.Rd
  rcases g.W3 i hi hn with ⟨h1,h2⟩|⟨l,hl,pt,he,bg⟩
  ·refine⟨P,h.P1,?_,?_,1,by simp⟩
   ·have:=Hz (m:=ct nw N.F) (u:=ct (fun i=>!fx i) N.F) (u':=ct (fun i=>!(fx i||nw i)) N.F) WN ZI (by omega)
    have h3:mp (ct (fun i=>!(fx i||nw i)) N.F)≤mp (ct (fun i=>!fx i) N.F):=Nat.le_trans (Nat.le_mul_of_pos_left _ WN) this
    exact Nat.le_trans (Nat.mul_le_mul_left _ h3) h18
   ·rw[h2]
    have:=(Ig i hi).mul (m:=P)
    rwa [Nat.one_mul]at this
  ·have TA:0<ct (fun i=>N.on l i&&!fx i) N.F:=p6 hi (by simp[pt,g.sub i hi hn])
   refine⟨P*ct (fun i=>N.on l i&&!fx i) N.F,Nat.mul_pos h.P1 TA,?_,?_,_,rfl⟩
   ·have hle:ct (fun i=>N.on l i&&!fx i) N.F≤ct nw N.F:=Hy fun j hj hp=>by
     simp only[Bool.and_eq_true,Bool.not_eq_true']at hp
     exact bg j hj hp.1 hp.2
    have:=Hz (m:=ct (fun i=>N.on l i&&!fx i) N.F) (u:=ct (fun i=>!fx i) N.F) (u':=ct (fun i=>!(fx i||nw i)) N.F) TA ZI (by omega)
    rw[Nat.mul_assoc]
    exact Nat.le_trans (Nat.mul_le_mul_left _ this) h18
   ·refine Dv.part ?_ he
    have hc:=(W4 l hl).mul (m:=P)
    rw[Nat.one_mul]at hc
    exact hc.sub (Dv.sm fun j hj hp=>h.dv j hj (by simp only[Bool.and_eq_true]at hp; exact hp.2))
 obtain⟨P',Re,W7,hPd,m,rfl⟩:=hP
 refine⟨_,xf,?_,?_,?_,?_,?_,?_,Re,W7,?_⟩
 ·intro i hi hf
  by_cases hn:nw i=true
  ·simp only[hn,if_true]; exact⟨xf,Rat.le_refl⟩
  ·simp only[hn,if_false,Bool.or_false,Bool.false_eq_true]at hf ⊢
   have:=h.nn i hi hf
   exact⟨this.1,Rat.le_trans this.2 W6⟩
 ·intro i hi hf hh
  by_cases hn:nw i=true
  ·simp only[hn,if_true]; exact g.lO i hi (g.sub i hi hn) hh
  ·simp only[hn,if_false,Bool.or_false,Bool.false_eq_true]at hf ⊢
   exact h.lO i hi hf hh
 ·intro l hl
  rw[hS l]
  have h1:=g.Tz l hl
  rw[W5 l]at h1
  have h2:(0:Rat)≤low*(ct (fun i=>N.on l i&&!(fx i||nw i)) N.F:Nat):=Rat.mul_nonneg xf (by exact_mod_cast Nat.zero_le _)
  grind
 ·intro l hl
  rw[hS l]
  have h1:=g.Tz l hl
  rw[W5 l]at h1
  grind
 ·intro i hi hf hh
  simp only[Bool.or_eq_false_iff]at hf
  exact g.lO i hi hf.1 hh
 ·intro i hi hf
  by_cases hn:nw i=true
  ·simp only[hn,if_true]
   rcases g.W3 i hi hn with h1|⟨l,hl,pt,he,bg⟩
   ·exact .inl h1
   ·have hz:ct (fun i=>N.on l i&&!(fx i||nw i)) N.F=0:=by
     apply Nat.eq_zero_of_not_pos
     intro hp
     obtain⟨j,hj,F5⟩:=Ls hp
     simp only[Bool.and_eq_true,Bool.not_eq_true',Bool.or_eq_false_iff]at F5
     rw[bg j hj F5.1 F5.2.1]at F5
     exact absurd F5.2.2 (by decide)
    refine .inr ⟨l,hl,pt,?_,hz,fun j hj P7=>?_⟩
    ·rw[hS l]
     rw[W5 l,hz]at he
     grind
    ·by_cases W8:nw j=true
     ·simp only[W8,if_true]; exact Rat.le_refl
     ·simp only[W8,if_false,Bool.false_eq_true]
      have:fx j=true:=by
       cases gZ:fx j with
       |true=>rfl
       |false=>exact absurd (bg j hj P7 gZ) W8
      exact Rat.le_trans (h.nn j hj this).2 W6
  ·have gZ:fx i=true:=by simpa[hn] using hf
   rw[ZH i hi gZ]
   rcases h.Lq i hi gZ with h1|⟨l,hl,pt,he,hz,Fs⟩
   ·exact .inl h1
   ·have TB:∀ j,j<N.F→N.on l j=true→fx j=true:=fun j hj P7=>by
     cases NH:fx j with
     |true=>rfl
     |false=>
      have:=p6 (p:=fun i=>N.on l i&&!fx i) hj (by simp[P7,NH])
      omega
    have Ow:=hM l
    rw[hz]at Ow
    have Rf:ct (fun i=>N.on l i&&nw i) N.F=0:=by omega
    refine .inr ⟨l,hl,pt,?_,by omega,fun j hj P7=>?_⟩
    ·rw[hS l,Rf,he]; grind
    ·rw[ZH j hj (TB j hj P7)]
     exact Fs j hj P7
 ·intro i hi hf
  by_cases hn:nw i=true
  ·simp only[hn,if_true]; exact hPd
  ·simp only[hn,if_false,Bool.or_false,Bool.false_eq_true]at hf ⊢
   exact(h.dv i hi hf).mul
theorem Lu{N:yr}{fx:Nat→Bool}{x:Nat→Rat}{lo:Rat}{P:Nat}(h:Inv N fx x lo P)(bg:∀ i,i<N.F→fx i=true):Fair N x∧∀ i,i<N.F→Dv P (x i)∧P≤18:=by
 have hS:∀ l,sm (fun i=>N.on l i&&fx i) x N.F=sm (N.on l) x N.F:=fun l=>nX (fun j hj=>by rw[bg j hj,Bool.and_true]) fun _ _ _=>rfl
 refine⟨⟨⟨fun i hi=>(h.nn i hi (bg i hi)).1,fun i hi hh=>h.lO i hi (bg i hi) hh,fun l hl=>by rw[←hS l]; exact h.cap l hl⟩,fun i hi=>?_⟩,fun i hi=>⟨h.dv i hi (bg i hi),?_⟩⟩
 ·rcases h.Lq i hi (bg i hi) with h1|⟨l,hl,pt,he,_,Fs⟩
  ·exact .inl h1
  ·exact .inr ⟨l,hl,pt,by rw[←hS l]; exact he,Fs⟩
 ·have:=h.Rd
  exact Nat.le_trans (Nat.le_mul_of_pos_right _ (Lt _)) this
end Go.Mm
end
section
/- Plain facts: fair rates, in increasing order, are the greatest; sorting by insertion. -/
set_option maxHeartbeats 1000000
namespace Go.Mm
theorem F7{x:Nat→Rat}{u:Rat}:∀ {n:Nat},((List.range n).map x).countP (fun v=>decide (v≤u))=ct (fun i=>decide (x i≤u)) n
 |0=>rfl
 |n+1=>by
  rw[List.range_succ,List.map_append,List.countP_append,F7 (n:=n)]
  simp only[List.map_cons,List.map_nil,List.countP_cons,List.countP_nil,ct]
  cases decide (x n≤u)<;>simp
theorem TC{p q:Nat→Bool}{n i:Nat}(h:∀ j,j<n→p j=true→q j=true)(hi:i<n)(hq:q i=true)(hp:p i=false):ct p n<ct q n:=by
 have h1:=p7 (p:=q) (q:=p) (n:=n)
 have h2:ct p n≤ct (fun i=>q i&&p i) n:=Hy fun j hj F5=>by simp[F5,h j hj F5]
 have h3:0<ct (fun i=>q i&&!p i) n:=p6 hi (by simp[hq,hp])
 omega
theorem yw{a:List Rat}(sa:a.Pairwise (·≤·)){k:Nat}(hk:k<a.length){u:Rat}(hu:u<a[k]):a.countP (fun v=>decide (v≤u))=(a.take k).countP (fun v=>decide (v≤u)):=by
 have e:a=a.take k++a.drop k:=(List.take_append_drop k a).symm
 have h0:(a.drop k).countP (fun v=>decide (v≤u))=0:=by
  rw[List.countP_eq_zero]
  intro v hv
  obtain⟨m,hm,rfl⟩:=List.getElem_of_mem hv
  rw[List.getElem_drop]
  rw[List.length_drop]at hm
  have:a[k]≤a[k+m]:=by
   cases m with
   |zero=>exact Rat.le_refl
   |succ m=>exact(List.pairwise_iff_getElem.1 sa) k (k+(m+1)) hk (by omega) (by omega)
  simp only[decide_eq_true_eq]
  grind
 have e2:a.countP (fun v=>decide (v≤u))=(a.take k++a.drop k).countP (fun v=>decide (v≤u)):=by rw[←e]
 rw[e2,List.countP_append,h0,Nat.add_zero]
theorem Ox{N:yr}{x y:Nat→Rat}(h:Fair N x)(hy:Ov N y){a b:List Rat}(ha:a.Perm ((List.range N.F).map x))(hb:b.Perm ((List.range N.F).map y))
  (sa:a.Pairwise (·≤·)) (sb:b.Pairwise (·≤·)) {k:Nat} (hk:k<a.length) (ZJ:k<b.length) (Oy:a.take k=b.take k) (dA:a[k]≠b[k]):b[k]<a[k]:=by
 apply Classical.byContradiction
 intro hc
 have bL:a[k]<b[k]:=by grind
 have cx:∀ u,a.countP (fun v=>decide (v≤u))=ct (fun i=>decide (x i≤u)) N.F:=fun u=>by rw[ha.countP_eq,F7]
 have cy:∀ u,b.countP (fun v=>decide (v≤u))=ct (fun i=>decide (y i≤u)) N.F:=fun u=>by rw[hb.countP_eq,F7]
 have h1:ct (fun i=>decide (y i≤a[k])) N.F≤k:=by
  rw[←cy,yw sb ZJ bL]
  exact Nat.le_trans List.countP_le_length (by rw[List.length_take]; omega)
 have h2:k+1≤ct (fun i=>decide (x i≤a[k])) N.F:=by
  rw[←cx]
  have e2:a.countP (fun v=>decide (v≤a[k]))=(a.take (k+1)++a.drop (k+1)).countP (fun v=>decide (v≤a[k])):=by rw[List.take_append_drop]
  rw[e2,List.countP_append]
  have:(a.take (k+1)).countP (fun v=>decide (v≤a[k]))=(a.take (k+1)).length:=by
   rw[List.countP_eq_length]
   intro v hv
   obtain⟨m,hm,rfl⟩:=List.getElem_of_mem hv
   rw[List.getElem_take]
   rw[List.length_take]at hm
   simp only[decide_eq_true_eq]
   by_cases e:m=k
   ·subst e; exact Rat.le_refl
   ·exact(List.pairwise_iff_getElem.1 sa) m k (by omega) hk (by omega)
  rw[this,List.length_take]; omega
 have h3:∃ i,i<N.F∧x i≤a[k]∧x i<y i:=by
  apply Classical.byContradiction
  intro hn
  have:ct (fun i=>decide (x i≤a[k])) N.F≤ct (fun i=>decide (y i≤a[k])) N.F:=Hy fun j hj hp=>by
   simp only[decide_eq_true_eq]at hp ⊢
   apply Classical.byContradiction
   intro hq
   exact hn ⟨j,hj,hp,by grind⟩
  omega
 obtain⟨i,hi,Zx,W9⟩:=h3
 obtain⟨j0,hj0,q1,q2⟩:=Hx h hy hi W9
 obtain⟨j,hj,⟨p1,p2⟩,wU⟩:=Lr (fun j=>x j≤a[k]∧y j<x j) y N.F ⟨j0,hj0,by grind,q2⟩
 have hv:y j<a[k]:=by grind
 have e1:ct (fun i=>decide (x i≤y j)) N.F=ct (fun i=>decide (y i≤y j)) N.F:=by
  rw[←cx,←cy,yw sa hk hv,yw sb ZJ (by grind),Oy]
 have h4:ct (fun i=>decide (x i≤y j)) N.F<ct (fun i=>decide (y i≤y j)) N.F:=by
  refine TC (fun m hm hp=>?_) hj (by simp[Rat.le_refl]) (by simp only[decide_eq_false_iff_not]; grind)
  simp only[decide_eq_true_eq]at hp ⊢
  apply Classical.byContradiction
  intro hq
  obtain⟨j2,Nw,r1,r2⟩:=Hx h hy hm (by grind)
  have:=wU j2 Nw ⟨by grind,r2⟩
  grind
 omega
theorem F8{α:Type}{key:α→Rat}{s:List α}{x:α}{p:Nat}(hs:s.Pairwise fun a b=>key a≤key b)(h1:∀ y∈s.take p,key y≤key x)(h2:∀ y∈s.drop p,key x≤key y):
  (s.take p++x::s.drop p).Pairwise fun a b=>key a≤key b:=by
 rw[List.pairwise_append]
 refine⟨hs.sublist (List.take_sublist _ _),?_,fun a ha b hb=>?_⟩
 ·rw[List.pairwise_cons]
  exact⟨h2,hs.sublist (List.drop_sublist _ _)⟩
 ·rcases List.mem_cons.1 hb with rfl|hb
  ·exact h1 a ha
  ·rw[←List.take_append_drop p s,List.pairwise_append]at hs
   exact hs.2.2 a ha b hb
theorem Oz{α:Type}{A T:List α}{x y:α}{j:Nat}(hj:j=A.length+1):((A++y::x::T).set j y).set (j-1) x=A++x::y::T:=by
 subst hj
 rw[List.set_append_right _ _ (by omega),show A.length+1-A.length=1 by omega,List.set_cons_succ,List.set_cons_zero,Nat.add_sub_cancel,List.set_append_right _ _ (Nat.le_refl _),Nat.sub_self,List.set_cons_zero]
end Go.Mm
end
section
/- Plain facts of this seat: ratios. -/
set_option maxRecDepth 100000
namespace Go.Proofs.Ytedjbjphpnkpoaa
open Go.PI Go.Pl Go.Mm
variable {α β:Type}
theorem bT{c:Bool}{x y r:Option α}(hc:c=true)(hx:x=r):(bif c then x else y)=r:=by subst hc; exact hx
theorem bF{c:Bool}{x y r:Option α}(hc:c=false)(hy:y=r):(bif c then x else y)=r:=by subst hc; exact hy
theorem bB{e:Option β}{v:β}{k:β→Option α}{r:Option α}(he:e=some v)(hk:k v=r):e.bind k=r:=by subst he; exact hk
theorem HA{a b:Bool}:(bif a then some b else some false)=some (a&&b):=by cases a<;>rfl
theorem cI{n:Int}(h1 : -9223372036854775808≤n)(h2:n≤9223372036854775807):IntKind.i64.wrap n=n:=IntWalk.i64_in _ (by omega)
theorem dC{i n:Nat}(h:i<n):decide ((i:Int)<(n:Int))=true:=decide_eq_true (by omega)
theorem eC(n:Nat):decide ((n:Int)<(n:Int))=false:=decide_eq_false (by omega)
theorem aO(i:Nat):decide (0≤(i:Int))=true:=decide_eq_true (by omega)
/-! ### The greatest common divisor -/
theorem HB:∀ (k a b n:Nat),b<2^k→2*k+1≤n→aa.F9 n (a:Int) (b:Int)=some ((Nat.gcd a b:Nat):Int)
 |0,a,b,n,hb,hn=>by
  obtain rfl:b=0:=by simpa using hb
  obtain⟨m,rfl⟩:∃ m,n=m+1:=⟨n-1,by omega⟩
  exact bT rfl (by rw[Nat.gcd_zero_right])
 |k+1,a,b,n,hb,hn=>by
  obtain⟨m,rfl⟩:∃ m,n=m+1:=⟨n-1,by omega⟩
  by_cases h0:b=0
  ·subst h0
   exact bT rfl (by rw[Nat.gcd_zero_right])
  have hr:((a:Int).tmod (b:Int))=((a%b:Nat):Int):=by rw[Int.tmod_eq_emod_of_nonneg (by omega)]; simp
  have Xa:((b:Int)==0)=false:=by simp; omega
  have g1:Nat.gcd a b=Nat.gcd b (a%b):=by rw[Nat.gcd_comm a b,Nat.gcd_rec b a,Nat.gcd_comm]
  refine bF Xa (bF (decide_eq_false (by omega)) ?_)
  rw[hr]
  have bL:=Nat.mod_lt a (Nat.pos_of_ne_zero h0)
  obtain⟨m',rfl⟩:∃ m',m=m'+1:=⟨m-1,by omega⟩
  refine bB (v:=((Nat.gcd b (a%b):Nat):Int)) ?_ (by rw[g1])
  by_cases h1:a%b=0
  ·rw[h1]
   exact bT rfl (by rw[Nat.gcd_zero_right])
  ·have BU:((b:Int).tmod ((a%b:Nat):Int))=((b%(a%b):Nat):Int):=by rw[Int.tmod_eq_emod_of_nonneg (by omega)]; simp
   refine bF (by simp; omega) (bF (decide_eq_false (by omega)) ?_)
   rw[BU]
   have yk:=Nat.mod_lt b (Nat.pos_of_ne_zero h1)
   have hd:=Nat.div_add_mod b (a%b)
   have hq:1≤b/(a%b):=Nat.div_pos (Nat.le_of_lt bL) (Nat.pos_of_ne_zero h1)
   have ed:a%b≤(a%b)*(b/(a%b)):=Nat.le_mul_of_pos_right _ hq
   have hs:b%(a%b)<2^k:=by rw[Nat.pow_succ]at hb; omega
   refine bB (HB k (a%b) (b%(a%b)) m' hs (by omega)) ?_
   have g2:Nat.gcd b (a%b)=Nat.gcd (a%b) (b%(a%b)):=by rw[Nat.gcd_comm b,Nat.gcd_rec (a%b) b,Nat.gcd_comm]
   rw[←g2]
theorem OA(a b:Nat)(hb:b<2^63):aa.km (a:Int) (b:Int)=some ((Nat.gcd a b:Nat):Int):=HB 63 a b 200 hb (by omega)
/-! ### Ratios -/
def iT(q:Rat):aj:=⟨q.num,q.den⟩
def gf(q:Rat):Prop := -1000000000≤q.num∧q.num≤1000000000∧q.den≤1000000000
instance (q:Rat):Decidable (gf q):=inferInstanceAs (Decidable (_∧_∧_))
theorem abs_eq{n:Int}(h1 : -9223372036854775807≤n)(h2:n≤9223372036854775807):(if n<IntKind.i64.wrap (0-n) then IntKind.i64.wrap (0-n) else n)=(n.natAbs:Int):=by
 rw[cI (by omega) (by omega)]
 split<;>omega
theorem Lv{n:Int}{d:Nat}(h1 : -9223372036854775807≤n)(h2:n≤9223372036854775807)(h3:1≤d)(h4:d≤9223372036854775807):aa.cU ⟨n,d⟩=some (iT (mkRat n d)):=by
 unfold aa.cU
 rw[abs_eq h1 h2,abs_eq (n:=(d:Int)) (by omega) (by omega)]
 have hg:=OA n.natAbs d (by omega)
 have dV:0<Nat.gcd n.natAbs d:=Nat.gcd_pos_of_pos_right _ (by omega)
 have Sy:((Nat.gcd n.natAbs d:Nat):Int)∣n:=Int.ofNat_dvd_left.2 (Nat.gcd_dvd_left _ _)
 have ZD:(Nat.gcd n.natAbs d)∣d:=Nat.gcd_dvd_right _ _
 rw[show ((d:Int).natAbs:Int)=(d:Int) by omega]
 refine bB hg (bF (decide_eq_false (by show ¬(d:Int)<0; omega)) (bF (decide_eq_false (by omega)) (bF (decide_eq_false (by omega)) ?_)))
 have e1:(mkRat n d).num=n/((Nat.gcd n.natAbs d:Nat):Int):=by rw[Rat.num_mkRat,if_neg (by omega),Nat.gcd_comm]
 have e2:(mkRat n d).den=d/Nat.gcd n.natAbs d:=by rw[Rat.den_mkRat,if_neg (by omega),Nat.gcd_comm]
 have b1:n.tdiv ((Nat.gcd n.natAbs d:Nat):Int)=n/((Nat.gcd n.natAbs d:Nat):Int):=Int.tdiv_eq_ediv_of_dvd Sy
 have b2:(d:Int).tdiv ((Nat.gcd n.natAbs d:Nat):Int)=((d/Nat.gcd n.natAbs d:Nat):Int):=by
  rw[Int.tdiv_eq_ediv_of_nonneg (by omega)]; simp
 have c1:(n/((Nat.gcd n.natAbs d:Nat):Int)).natAbs≤n.natAbs:=by
  generalize Nat.gcd n.natAbs d=g at Sy dV
  obtain⟨k,rfl⟩:=Sy
  rw[Int.mul_ediv_cancel_left _ (by omega),Int.natAbs_mul,Int.natAbs_natCast]
  exact Nat.le_mul_of_pos_left _ dV
 have c2:d/Nat.gcd n.natAbs d≤d:=Nat.div_le_self _ _
 show some (aj.mk (IntKind.i64.wrap (n.tdiv _)) (IntKind.i64.wrap ((d:Int).tdiv _)))=_
 rw[b1,b2,cI (by omega) (by omega),cI (by omega) (by omega)]
 simp only[iT,e1,e2]
theorem OB(q:Rat)(h1 : -9223372036854775807≤q.num)(h2:q.num≤9223372036854775807):aa.bP (iT q)=some (decide (gf q)):=by
 unfold aa.bP
 show (bif decide ((if q.num<IntKind.i64.wrap (0-q.num) then IntKind.i64.wrap (0-q.num) else q.num)≤(1000000000:Int)) then bif decide (1≤(q.den:Int)) then some (decide ((q.den:Int)≤1000000000)) else some false else some false)=_
 rw[abs_eq h1 h2]
 have hd:=q.den_pos
 by_cases ha:((q.num.natAbs:Nat):Int)≤1000000000
 ·refine bT (decide_eq_true ha) (bT (decide_eq_true (by omega)) ?_)
  congr 1
  rw[decide_eq_decide]
  unfold gf
  omega
 ·refine bF (decide_eq_false ha) ?_
  rw[decide_eq_false]
  unfold gf
  omega
theorem Lw{n:Int}{d:Nat}(h:1≤d):(mkRat n d).num.natAbs≤n.natAbs:=by
 rw[Rat.num_mkRat,if_neg (by omega)]
 have hg:0<Nat.gcd d n.natAbs:=Nat.gcd_pos_of_pos_left _ (by omega)
 have Sy:((Nat.gcd d n.natAbs:Nat):Int)∣n:=Int.ofNat_dvd_left.2 (Nat.gcd_dvd_right _ _)
 generalize Nat.gcd d n.natAbs=g at Sy hg
 obtain⟨k,rfl⟩:=Sy
 rw[Int.mul_ediv_cancel_left _ (by omega),Int.natAbs_mul,Int.natAbs_natCast]
 exact Nat.le_mul_of_pos_left _ hg
theorem Lx{n:Int}{d:Nat}(h1 : -9223372036854775807≤n)(h2:n≤9223372036854775807)(h3:1≤d)(h4:d≤9223372036854775807):
  aa.bt ⟨n,d⟩=some (if gf (mkRat n d) then (iT (mkRat n d),0) else (⟨0,0⟩,3)):=by
 unfold aa.bt
 have:=Lw (n:=n) h3
 refine bB (Lv h1 h2 h3 h4) (bB (OB _ (by omega) (by omega)) ?_)
 by_cases hf:gf (mkRat n d)
 ·rw[if_pos hf,decide_eq_true hf]; rfl
 ·rw[if_neg hf,decide_eq_false hf]; rfl
instance:DecidableEq aj:=fun a b=>by
 cases a; cases b
 simp only[aj.mk.injEq]
 exact inferInstance
def vR(a:aj):Bool:=decide (-1000000000≤a.dW∧a.dW≤1000000000∧1≤a.Den∧a.Den≤1000000000∧iT (mkRat a.dW a.Den.toNat)=a)
theorem u4(q:Rat):vR (iT q)=decide (gf q):=by
 unfold vR
 rw[decide_eq_decide]
 have hd:=q.den_pos
 have e:iT (mkRat (iT q).dW (iT q).Den.toNat)=iT q:=by
  show iT (mkRat q.num ((q.den:Int)).toNat)=_
  rw[Int.toNat_natCast,Rat.mkRat_self]
 show (-1000000000≤q.num∧q.num≤1000000000∧1≤(q.den:Int)∧(q.den:Int)≤1000000000∧_)↔_
 unfold gf
 simp only[e,and_true]
 omega
theorem nZ(a:aj):aa.cO a=some (vR a):=by
 unfold aa.cO
 by_cases h1 : -1000000000≤a.dW
 ·refine bT (decide_eq_true h1) ?_
  by_cases h2:a.dW≤1000000000∧1≤a.Den∧a.Den≤1000000000
  ·have hf:aa.bP a=some true:=by
    unfold aa.bP
    rw[abs_eq (by omega) (by omega)]
    exact bT (decide_eq_true (by omega)) (bT (decide_eq_true h2.2.1) (by rw[decide_eq_true h2.2.2]))
   have he:a=⟨a.dW,(a.Den.toNat:Nat)⟩:=by
    cases a; simp only[aj.mk.injEq,true_and]; simp only at h2; omega
   refine bB hf (bT rfl ?_)
   have hr:=Lv (n:=a.dW) (d:=a.Den.toNat) (by omega) (by omega) (by omega) (by omega)
   rw[←he]at hr
   refine bB hr ?_
   congr 1
   unfold vR
   rw[Bool.eq_iff_iff]
   simp only[Bool.and_eq_true,beq_iff_eq,decide_eq_true_eq]
   constructor
   ·rintro⟨g1,g2⟩
    refine⟨h1,h2.1,h2.2.1,h2.2.2,?_⟩
    cases a
    simp only[iT,aj.mk.injEq]at g1 g2 ⊢
    exact⟨g1,g2⟩
   ·rintro⟨_,_,_,_,g⟩
    rw[g]; exact⟨rfl,rfl⟩
  ·have hv:vR a=false:=decide_eq_false (by omega)
   rw[hv]
   refine bB (v:=false) ?_ rfl
   unfold aa.bP
   by_cases h3:(if a.dW<IntKind.i64.wrap (0-a.dW) then IntKind.i64.wrap (0-a.dW) else a.dW)≤1000000000
   ·refine bT (decide_eq_true h3) ?_
    have h4:a.dW≤1000000000:=by split at h3<;>omega
    by_cases h5:1≤a.Den
    ·exact bT (decide_eq_true h5) (by rw[decide_eq_false]; omega)
    ·exact bF (decide_eq_false h5) rfl
   ·exact bF (decide_eq_false h3) rfl
 ·refine bF (decide_eq_false h1) ?_
  rw[show vR a=false from decide_eq_false (by omega)]
/-! ### Operations -/
theorem oC{q:Rat}(h:gf q):(q.den:Int)≤1000000000∧1≤(q.den:Int):=⟨by have:=h.2.2; omega,by have:=q.den_pos; omega⟩
theorem ma{a b:Int}(h1 : -1000000000≤a)(h2:a≤1000000000)(h3:0≤b)(h4:b≤1000000000): -1000000000000000000≤a*b∧a*b≤1000000000000000000:=by
 have e1:a*b≤1000000000*b:=Int.mul_le_mul_of_nonneg_right h2 h3
 have e2 : -1000000000*b≤a*b:=Int.mul_le_mul_of_nonneg_right h1 h3
 omega
theorem sub_eq{p q:Rat}(hp:gf p)(hq:gf q):aa.n4 (iT p) (iT q)=some (if gf (p-q) then (iT (p-q),0) else (⟨0,0⟩,3)):=by
 unfold aa.n4
 have dp:=oC hp
 have dq:=oC hq
 have m1:=ma hp.1 hp.2.1 (b:=(q.den:Int)) (by omega) (by omega)
 have m2:=ma hq.1 hq.2.1 (b:=(p.den:Int)) (by omega) (by omega)
 have m3:=ma (a:=(p.den:Int)) (b:=(q.den:Int)) (by omega) (by omega) (by omega) (by omega)
 have m4:1≤p.den*q.den:=Nat.mul_pos p.den_pos q.den_pos
 have e3:(p.den:Int)*(q.den:Int)=((p.den*q.den:Nat):Int):=by simp
 have dA:((((p.den*q.den:Nat):Int))==0)=false:=by rw[beq_eq_false_iff_ne]; omega
 refine bB (nZ _) (bF (by rw[u4,decide_eq_true hp]; rfl) (bB (nZ _) (bF (by rw[u4,decide_eq_true hq]; rfl) ?_)))
 show (bif IntKind.i64.wrap ((p.den:Int)*(q.den:Int))==0 then _ else (aa.bt (aj.mk (IntKind.i64.wrap (IntKind.i64.wrap (p.num*(q.den:Int))-IntKind.i64.wrap (q.num*(p.den:Int)))) (IntKind.i64.wrap ((p.den:Int)*(q.den:Int))))).bind fun x=>some (x.1,x.2))=_
 rw[cI (n:=p.num*(q.den:Int)) (by omega) (by omega),cI (n:=q.num*(p.den:Int)) (by omega) (by omega),cI (n:=p.num*(q.den:Int)-q.num*(p.den:Int)) (by omega) (by omega),cI (n:=(p.den:Int)*(q.den:Int)) (by omega) (by omega),e3]
 refine bF dA (bB (Lx (by omega) (by omega) m4 (by omega)) ?_)
 rw[Rat.sub_def']
theorem qA(p:Rat){m:Nat}(hm:1≤m):mkRat p.num (p.den*m)=p/(m:Rat):=by
 have h:=Rat.mkRat_self p
 rw[Rat.div_def]
 have hi:((m:Rat))⁻¹=mkRat 1 m:=by
  rw[Rat.mkRat_eq_div,Rat.div_def]; simp
 rw[hi]
 conv=>rhs; rw[←h]
 rw[Rat.mkRat_mul_mkRat]; simp
theorem div_eq{p:Rat}(hp:gf p){m:Nat}(h1:1≤m)(h2:m≤1000):aa.qM (iT p) ⟨m,1⟩=some (if gf (p/(m:Rat)) then (iT (p/(m:Rat)),0) else (⟨0,0⟩,3)):=by
 unfold aa.qM
 have dp:=oC hp
 have hm:(⟨m,1⟩:aj)=iT ((m:Int):Rat):=rfl
 have fm:gf ((m:Int):Rat):=⟨by show (_:Int)≤(m:Int); omega,by show (m:Int)≤_; omega,by show 1≤1000000000; omega⟩
 have m3:=ma (a:=(p.den:Int)) (b:=(m:Int)) (by omega) (by omega) (by omega) (by omega)
 have m4:1≤p.den*m:=Nat.mul_pos p.den_pos h1
 have e3:(p.den:Int)*(m:Int)=((p.den*m:Nat):Int):=by simp
 have dA:((((p.den*m:Nat):Int))==0)=false:=by rw[beq_eq_false_iff_ne]; omega
 refine bB (nZ _) (bF (by rw[u4,decide_eq_true hp]; rfl) (bB (nZ _) (bF (by rw[hm,u4,decide_eq_true fm]; rfl) ?_)))
 show (bif IntKind.i64.wrap ((p.den:Int)*(m:Int))==0 then _ else (aa.bt (aj.mk (IntKind.i64.wrap (p.num*1)) (IntKind.i64.wrap ((p.den:Int)*(m:Int))))).bind fun x=>some (x.1,x.2))=_
 have VI:=hp.1
 have NC:=hp.2.1
 rw[Int.mul_one,cI (n:=p.num) (by omega) (by omega),cI (n:=(p.den:Int)*(m:Int)) (by omega) (by omega),e3]
 refine bF dA (bB (Lx (by omega) (by omega) m4 (by omega)) ?_)
 rw[qA p h1]
def zO(p q:Rat):Int:=if p<q then -1 else if q<p then 1 else 0
theorem Rg{p q:Rat}(hp:gf p)(hq:gf q):aa.qN (iT p) (iT q)=some (zO p q,0):=by
 unfold aa.qN aa.p9 aa.jW
 have dp:=oC hp
 have dq:=oC hq
 have m1:=ma hp.1 hp.2.1 (b:=(q.den:Int)) (by omega) (by omega)
 have m2:=ma hq.1 hq.2.1 (b:=(p.den:Int)) (by omega) (by omega)
 refine bB (nZ _) (bF (by rw[u4,decide_eq_true hp]; rfl) (bB (nZ _) (bF (by rw[u4,decide_eq_true hq]; rfl) ?_)))
 have w1:IntKind.i64.wrap ((iT p).dW*(iT q).Den)=p.num*(q.den:Int):=cI (n:=p.num*(q.den:Int)) (by omega) (by omega)
 have w2:IntKind.i64.wrap ((iT q).dW*(iT p).Den)=q.num*(p.den:Int):=cI (n:=q.num*(p.den:Int)) (by omega) (by omega)
 rw[w1,w2]
 refine bB (v:=zO p q) ?_ rfl
 simp only[beq_self_eq_true,Bool.not_true,Option.bind_some,cond_false]
 unfold zO
 by_cases h1:p<q
 ·rw[if_pos h1]
  exact bT (decide_eq_true ((Rat.lt_iff p q).1 h1)) rfl
 ·rw[if_neg h1]
  refine bF (decide_eq_false fun h=>h1 ((Rat.lt_iff p q).2 h)) ?_
  by_cases h2:q<p
  ·rw[if_pos h2]
   exact bT (decide_eq_true ((Rat.lt_iff q p).1 h2)) rfl
  ·rw[if_neg h2]
   exact bF (decide_eq_false fun h=>h2 ((Rat.lt_iff q p).2 h)) rfl
theorem OC{p q:Rat}(hp:gf p)(hq:gf q):aa.gg (iT p) (iT q)=some (decide (p<q)):=by
 unfold aa.gg
 refine bB (Rg hp hq) ?_
 show some (decide (zO p q<0))=_
 congr 1
 rw[decide_eq_decide]
 unfold zO
 by_cases h1:p<q
 ·simp[h1]
 ·rw[if_neg h1]
  by_cases h2:q<p<;>simp[h1,h2]
end Go.Proofs.Ytedjbjphpnkpoaa
end
section
/- Plain facts of this seat: valid networks. -/
set_option maxRecDepth 100000
namespace Go.Proofs.Ytedjbjphpnkpoaa
open Go.PI Go.Pl Go.Mm
theorem xp{τ ω:Type}{f:τ→Option (τ ⊕ ω)}(st:Nat→τ)(c:Nat→Bool)(n:Nat)(e bad:ω){x0:τ}
  (h:∀ i,i<n→f (st i)=bif c i then some (.inl (st (i+1))) else some (.inr bad)) (he:f (st n)=some (.inr e)) (hx:x0=st 0) :
  aI f x0=some (bif (List.range n).all c then e else bad):=by
 subst hx
 rcases tS st c (fun _=>bad) n e (fun i hi=>by rw[h i hi]; cases c i<;>rfl) he with ⟨h1,h2⟩|⟨h1,i,_,_,h2⟩
 ·rw[h1,h2]; rfl
 ·rw[h1,h2]; rfl
theorem gI{τ ω:Type}{f:τ→Option (τ ⊕ ω)}(st:Nat→τ)(n:Nat)(e:ω){x0:τ}(h:∀ i,i<n→f (st i)=some (.inl (st (i+1))))(he:f (st n)=some (.inr e))(hx:x0=st 0):aI f x0=some e:=by
 subst hx
 have key:∀ m i,m=n-i→i≤n→aI f (st i)=some e:=by
  intro m
  induction m with
  |zero=>intro i hm hi; obtain rfl:i=n:=by omega
         exact out he
  |succ m ih=>intro i hm hi; rw[next (h i (by omega))]; exact ih (i+1) (by omega) (by omega)
 exact key n 0 rfl (Nat.zero_le _)
theorem get_at{γ:Type}{l:List γ}{i:Nat}(h:i<l.length):l[(i:Int).toNat]?=some l[i]:=by simp[h]
theorem eF{i:Nat}(h:i<2^62):IntKind.i64.wrap ((i:Int)+1)=((i+1:Nat):Int):=cI (by omega) (by omega)
theorem Rh(n lo hi:Int):aa.n5 n lo hi=some (decide (lo≤n)&&decide (n≤hi)):=HA
def pF(l:List Int)(L:Int)(i:Nat):Bool:=
 match l[i]? with
 |none=>false
 |some x=>(decide (0≤x)&&decide (x≤L-1))&&(if i=0 then true else match l[i-1]? with|none=>false|some y=>decide (y<x))
def DG(l:List Int)(L:Int):Bool:=(List.range l.length).all (pF l L)&&(decide (1≤(l.length:Int))&&decide ((l.length:Int)≤6))
theorem OD{l:List Int}{L:Int}(hl:l.length≤2^62)(h0:0≤L)(h1:L≤1000000):aa.kn l L=some (DG l L):=by
 unfold aa.kn
 refine bB (xp (fun i=>(false,(i:Int))) (pF l L) l.length (Sum.inr (false,(l.length:Int))) (Sum.inl false) (fun i hi=>?_) (bF (eC _) rfl) rfl) ?_
 ·refine bT (dC hi) (bT (aO i) (bB (get_at hi) (bB (Rh _ _ _) ?_)))
  rw[cI (n:=L-1) (by omega) (by omega)]
  unfold pF
  rw[List.getElem?_eq_getElem hi]
  cases hc:(decide (0≤l[i])&&decide (l[i]≤L-1)) with
  |false=>simp only[hc]; rfl
  |true=>
   simp only[hc]
   by_cases e:i=0
   ·subst e
    exact bF rfl (bF rfl (by rw[eF (by omega)]; rfl))
   ·have hw:IntKind.i64.wrap ((i:Int)-1)=((i-1:Nat):Int):=by rw[cI (by omega) (by omega)]; omega
    have E6:i-1<l.length:=by omega
    refine bF rfl (bT (decide_eq_true (by omega)) (bT (by rw[hw]; exact aO _) (bB (v:=l[i-1]) (by rw[hw]; exact get_at E6) ?_)))
    rw[if_neg e,List.getElem?_eq_getElem E6,eF (by omega)]
    by_cases bL:l[i]≤l[i-1]
    ·rw[decide_eq_true bL]; simp only[decide_eq_false (by omega:¬l[i-1]<l[i])]; rfl
    ·rw[decide_eq_false bL]; simp only[decide_eq_true (by omega:l[i-1]<l[i])]; rfl
 ·unfold DG
  cases (List.range l.length).all (pF l L) with
  |false=>rfl
  |true=>exact bB (Rh _ _ _) rfl
theorem Ly{l:List Int}{L:Int}(hl:l.length≤2^62):aa.oD l L=some (DG l L):=by
 unfold aa.oD
 refine bB (xp (fun i=>(false,(i:Int))) (pF l L) l.length (Sum.inr (false,(l.length:Int))) (Sum.inl false) (fun i hi=>?_) (bF (eC _) rfl) rfl) ?_
 ·refine bT (dC hi) (bT (aO i) (bB (get_at hi) ?_))
  unfold pF
  rw[List.getElem?_eq_getElem hi]
  by_cases h1:l[i]<0
  ·refine bT (decide_eq_true h1) ?_
   simp only[decide_eq_false (by omega:¬0≤l[i])]; rfl
  refine bF (decide_eq_false h1) (bT (aO i) (bB (get_at hi) ?_))
  simp only[decide_eq_true (by omega:0≤l[i])]
  by_cases h2:L≤l[i]
  ·refine bT (decide_eq_true h2) ?_
   simp only[decide_eq_false (by omega:¬l[i]≤L-1)]; rfl
  refine bF (decide_eq_false h2) ?_
  simp only[decide_eq_true (by omega:l[i]≤L-1)]
  by_cases e:i=0
  ·subst e
   exact bF rfl (by rw[eF (by omega)]; rfl)
  ·have hw:IntKind.i64.wrap ((i:Int)-1)=((i-1:Nat):Int):=by rw[cI (by omega) (by omega)]; omega
   have E6:i-1<l.length:=by omega
   refine bT (decide_eq_true (by omega)) (bT (aO i) (bB (get_at hi) (bT (by rw[hw]; exact aO _) (bB (v:=l[i-1]) (by rw[hw]; exact get_at E6) ?_))))
   rw[if_neg e,List.getElem?_eq_getElem E6,eF (by omega)]
   by_cases bL:l[i]≤l[i-1]
   ·rw[decide_eq_true bL]; simp only[decide_eq_false (by omega:¬l[i-1]<l[i])]; rfl
   ·rw[decide_eq_false bL]; simp only[decide_eq_true (by omega:l[i-1]<l[i])]; rfl
 ·unfold DG
  cases (List.range l.length).all (pF l L) with
  |false=>rfl
  |true=>exact HA
def uw(x:Int):Bool:=decide (0≤x)&&decide (x≤1000)
def vN(n:cw):Bool:=decide (n.aQ.length≤8)&&(decide (n.af.length≤8)&&(decide (n.aG.length=n.af.length)&&((n.aQ.all uw&&n.aG.all uw)&&n.af.all fun l=>DG l (n.aQ.length:Int))))
theorem OE{n:cw}(hl:∀ l∈n.af,l.length≤2^62):aa.ju n=some (vN n):=by
 unfold aa.ju vN
 by_cases h1:n.aQ.length≤8
 case neg=>rw[decide_eq_false h1]; exact bT (decide_eq_true (by omega)) rfl
 rw[decide_eq_true h1]
 refine bF (decide_eq_false (by omega)) ?_
 by_cases h2:n.af.length≤8
 case neg=>rw[decide_eq_false h2]; exact bT (decide_eq_true (by omega)) rfl
 rw[decide_eq_true h2]
 refine bF (decide_eq_false (by omega)) ?_
 by_cases h3:n.aG.length=n.af.length
 case neg=>rw[decide_eq_false h3]; exact bT (by simp; omega) rfl
 rw[decide_eq_true h3]
 refine bF (by simp; omega) ?_
 have hc:aa.ig [n.aQ,n.aG]=some (n.aQ++n.aG):=by
  show tT 8 [n.aQ,n.aG]=_
  unfold tT AM
  have:[n.aQ,n.aG].flatten=n.aQ++n.aG:=by simp
  rw[this]
  have hlen:(n.aQ++n.aG).length≤16:=by rw[List.length_append]; omega
  exact bT (by simp only[Bool.and_eq_true,decide_eq_true_eq]; exact⟨by simp,by omega,by omega⟩) rfl
 refine bB hc ?_
 have hlen:(n.aQ++n.aG).length≤16:=by rw[List.length_append]; omega
 refine bB (u3 (n.aQ++n.aG) (fun i=>(false,(i:Int))) uw (Sum.inl false) (Sum.inr (false,((n.aQ++n.aG).length:Int))) (fun i hi=>?_) (bF (eC _) rfl) rfl) ?_
 ·refine bT (dC hi) (bT (aO i) (bB (get_at hi) (bB (Rh _ _ _) ?_)))
  rw[eF (by omega)]
  show (bif !uw _ then _ else _)=_
  cases uw (n.aQ++n.aG)[i]<;>rfl
 rw[List.all_append]
 cases hca:(n.aQ.all uw&&n.aG.all uw) with
 |false=>rfl
 |true=>
  simp only[cond_true,Sum.elim_inr,Bool.true_and]
  refine bB (u3 n.af (fun i=>(false,(i:Int))) (fun l=>DG l (n.aQ.length:Int)) (Sum.inl false) (Sum.inr (false,(n.af.length:Int))) (fun i hi=>?_) (bF (eC _) rfl) rfl) ?_
  ·refine bT (dC hi) (bT (aO i) (bB (get_at hi) (bB (OD (hl _ (List.getElem_mem hi)) (by omega) (by omega)) ?_)))
   rw[eF (by omega)]
   cases DG n.af[i] (n.aQ.length:Int)<;>rfl
  ·cases n.af.all fun l=>DG l (n.aQ.length:Int)<;>rfl
theorem OF{γ δ:Type}{l:List γ}{m:List δ}{p:γ→Bool}{q:δ→Bool}(h:l.length=m.length):((List.range l.length).all fun i=>(l[i]?.map p).getD false&&(m[i]?.map q).getD false)=(l.all p&&m.all q):=by
 rw[Bool.eq_iff_iff,List.all_eq_true,Bool.and_eq_true,List.all_eq_true,List.all_eq_true]
 constructor
 ·intro hh
  refine⟨fun x hx=>?_,fun x hx=>?_⟩
  ·obtain⟨i,hi,rfl⟩:=List.getElem_of_mem hx
   have:=hh i (List.mem_range.2 hi)
   rw[List.getElem?_eq_getElem hi]at this
   simp only[Bool.and_eq_true]at this
   exact this.1
  ·obtain⟨i,hi,rfl⟩:=List.getElem_of_mem hx
   have:=hh i (List.mem_range.2 (by omega))
   rw[List.getElem?_eq_getElem hi]at this
   simp only[Bool.and_eq_true]at this
   exact this.2
 ·rintro⟨h1,h2⟩ i hi
  have hi:=List.mem_range.1 hi
  rw[List.getElem?_eq_getElem hi,List.getElem?_eq_getElem (show i<m.length by omega)]
  simp only[Bool.and_eq_true]
  exact⟨h1 _ (List.getElem_mem _),h2 _ (List.getElem_mem _)⟩
theorem Lz{n:cw}(hl:∀ l∈n.af,l.length≤2^62):aa.iU n=some (vN n):=by
 unfold aa.iU vN
 by_cases h1:n.aQ.length≤8
 case neg=>rw[decide_eq_false h1]; exact bT (decide_eq_true (by omega)) rfl
 rw[decide_eq_true h1]
 refine bF (decide_eq_false (by omega)) ?_
 by_cases h2:n.af.length≤8
 case neg=>rw[decide_eq_false h2]; exact bT (decide_eq_true (by omega)) rfl
 rw[decide_eq_true h2]
 refine bF (decide_eq_false (by omega)) ?_
 by_cases h3:n.aG.length=n.af.length
 case neg=>rw[decide_eq_false h3]; exact bT (by simp; omega) rfl
 rw[decide_eq_true h3]
 refine bF (by simp; omega) ?_
 refine bB (u3 n.aQ (fun i=>(false,(i:Int))) uw (Sum.inl false) (Sum.inr (false,(n.aQ.length:Int))) (fun i hi=>?_) (bF (eC _) rfl) rfl) ?_
 ·refine bT (dC hi) (bT (aO i) (bB (get_at hi) ?_))
  rw[eF (by omega)]
  unfold uw
  by_cases g1:n.aQ[i]<0
  ·rw[decide_eq_false (by omega:¬0≤n.aQ[i])]; exact bT (decide_eq_true g1) rfl
  rw[decide_eq_true (by omega:0≤n.aQ[i])]
  refine bF (decide_eq_false g1) (bT (aO i) (bB (get_at hi) ?_))
  by_cases g2:1000<n.aQ[i]
  ·rw[decide_eq_false (by omega:¬n.aQ[i]≤1000)]; exact bT (decide_eq_true g2) rfl
  ·rw[decide_eq_true (by omega:n.aQ[i]≤1000)]; exact bF (decide_eq_false g2) rfl
 cases hca:n.aQ.all uw with
 |false=>rfl
 |true=>
  simp only[cond_true,Sum.elim_inr,Bool.true_and]
  refine bB (xp (fun i=>(false,(i:Int))) (fun i=>(n.af[i]?.map fun l=>DG l (n.aQ.length:Int)).getD false&&(n.aG[i]?.map uw).getD false) n.af.length (Sum.inr (false,(n.af.length:Int))) (Sum.inl false) (fun i hi=>?_) (bF (eC _) rfl) rfl) ?_
  ·have G4:i<n.aG.length:=by omega
   refine bT (dC hi) (bT (aO i) (bB (get_at hi) (bB (Ly (hl _ (List.getElem_mem hi))) ?_)))
   rw[eF (by omega),List.getElem?_eq_getElem hi,List.getElem?_eq_getElem G4]
   show (bif !DG n.af[i] (n.aQ.length:Int) then _ else _)=bif (DG n.af[i] (n.aQ.length:Int)&&uw n.aG[i]) then _ else _
   cases DG n.af[i] (n.aQ.length:Int) with
   |false=>rfl
   |true=>
    refine bF rfl (bT (aO i) (bB (get_at G4) ?_))
    unfold uw
    by_cases g1:n.aG[i]<0
    ·simp only[decide_eq_false (by omega:¬0≤n.aG[i])]; exact bT (decide_eq_true g1) rfl
    simp only[decide_eq_true (by omega:0≤n.aG[i])]
    refine bF (decide_eq_false g1) (bT (aO i) (bB (get_at G4) ?_))
    by_cases g2:1000<n.aG[i]
    ·simp only[decide_eq_false (by omega:¬n.aG[i]≤1000)]; exact bT (decide_eq_true g2) rfl
    ·simp only[decide_eq_true (by omega:n.aG[i]≤1000)]; exact bF (decide_eq_false g2) rfl
  ·rw[OF (p:=fun l=>DG l (n.aQ.length:Int)) (q:=uw) h3.symm,Bool.and_comm]
   cases (n.aG.all uw&&n.af.all fun l=>DG l (n.aQ.length:Int))<;>rfl
theorem TD(n:cw)(hw:n.af.length≤2^63-1):∃ b,aa.qO n=some b∧(b=true→n.aQ.length≤50∧n.af.length≤50∧n.aG.length≤50∧∀ l∈n.af,l.length≤50):=by
 unfold aa.qO
 have yx:=xp (ω:=Bool ⊕ Bool×Int) (f:=fun ((b1,i2):Bool×Int)=>
   bif decide (i2<(↑n.af.length:Int)) then bif decide (i2<50) then bif decide (0≤i2) then (n.af[i2.toNat]?).bind fun l3=>bif decide (50<(↑l3.length:Int)) then some (Sum.inr (Sum.inl false)) else some (Sum.inl (b1,IntKind.i64.wrap (i2+1))) else none else some (Sum.inr (Sum.inr (b1,i2))) else some (Sum.inr (Sum.inr (b1,i2))))
  (fun i=>(false,(i:Int))) (fun i=>match n.af[i]? with|some l=>decide (l.length≤50)|none=>false) (min n.af.length 50) (Sum.inr (false,((min n.af.length 50:Nat):Int))) (Sum.inl false) (x0:=(false,0)) (fun i hi=>?_) ?_ rfl
 ·cases bg:(List.range (min n.af.length 50)).all (fun i=>match n.af[i]? with|some l=>decide (l.length≤50)|none=>false) with
  |false=>
   rw[bg]at yx
   exact⟨false,bB yx rfl,fun h=>Bool.noConfusion h⟩
  |true=>
   rw[bg]at yx
   refine⟨_,bB yx (by show (bif _ then bif _ then _ else _ else _)=some (decide ((n.aQ.length:Int)≤50)&&(decide ((n.af.length:Int)≤50)&&decide ((n.aG.length:Int)≤50))); cases decide ((n.aQ.length:Int)≤50)<;>cases decide ((n.af.length:Int)≤50)<;>rfl),fun h=>?_⟩
   simp only[Bool.and_eq_true,decide_eq_true_eq]at h
   refine⟨by omega,by omega,by omega,fun l hl=>?_⟩
   obtain⟨i,hi,rfl⟩:=List.getElem_of_mem hl
   have:=List.all_eq_true.1 bg i (List.mem_range.2 (by omega))
   rw[List.getElem?_eq_getElem hi]at this
   simpa using this
 ·have h1:i<n.af.length:=by omega
  refine bT (dC h1) (bT (decide_eq_true (by omega)) (bT (aO i) (bB (get_at h1) ?_)))
  rw[List.getElem?_eq_getElem h1,eF (by omega)]
  by_cases g:n.af[i].length≤50
  ·simp only[decide_eq_true g]; exact bF (decide_eq_false (by omega)) rfl
  ·simp only[decide_eq_false g]; exact bT (decide_eq_true (by omega)) rfl
 ·by_cases g:n.af.length≤50
  ·have e:min n.af.length 50=n.af.length:=by omega
   rw[e]
   exact bF (eC _) rfl
  ·have e:min n.af.length 50=50:=by omega
   rw[e]
   exact bT (dC (by omega)) (bF (by decide) rfl)
end Go.Proofs.Ytedjbjphpnkpoaa
end
section
/- Plain facts of this seat: levels. -/
set_option maxRecDepth 100000
namespace Go.Proofs.Ytedjbjphpnkpoaa
open Go.PI Go.Pl Go.Mm
theorem OG{l:List Int}(hl:l.length≤2^62)(v:Int):aa.bO l v=some (decide (v∈l)):=by
 unfold aa.bO aa.nd
 have key:=tS (ω:=Int ⊕ Int×Int) (f:=fun ((i1,i2):Int×Int)=>bif decide (i2<(↑l.length:Int)) then bif decide (0≤i2) then (l[i2.toNat]?).bind fun i3=>bif v==i3 then some (Sum.inr (Sum.inl i2)) else some (Sum.inl (i1,IntKind.i64.wrap (i2+1))) else none else some (Sum.inr (Sum.inr (i1,i2))))
  (fun i=>((0:Int),(i:Int))) (fun i=>(l[i]?.map fun x=>!(v==x)).getD false) (fun i=>Sum.inl (i:Int)) l.length (Sum.inr (0,(l.length:Int))) (fun i hi=>by
    refine bT (dC hi) (bT (aO i) (bB (get_at hi) ?_))
    rw[List.getElem?_eq_getElem hi,eF (by omega)]
    show (bif v==l[i] then _ else _)=some (bif !(v==l[i]) then _ else _)
    cases v==l[i]<;>rfl) (bF (eC _) rfl)
 rcases key with ⟨h1,h2⟩|⟨h1,i,hi,hp,h2⟩
 ·refine bB (v := -1) (bB h2 rfl) ?_
  rw[show decide (v∈l)=false from decide_eq_false fun hm=>?_]; ·rfl
  obtain⟨i,hi,rfl⟩:=List.getElem_of_mem hm
  have:=List.all_eq_true.1 h1 i (List.mem_range.2 hi)
  rw[List.getElem?_eq_getElem hi]at this
  simp at this
 ·refine bB (v:=(i:Int)) (bB h2 rfl) ?_
  rw[show decide (v∈l)=true from decide_eq_true ?_]; ·rw[aO]
  rw[List.getElem?_eq_getElem hi]at hp
  simp only[Option.map_some,Option.getD_some,Bool.not_eq_false',beq_iff_eq]at hp
  rw[hp]; exact List.getElem_mem _
theorem LA{l:List Bool}(hl:l.length≤2^62)(v:Bool):aa.fu l v=some (decide (v∈l)):=by
 unfold aa.fu aa.oE
 have key:=tS (ω:=Int ⊕ Int×Int) (f:=fun ((i1,i2):Int×Int)=>bif decide (i2<(↑l.length:Int)) then bif decide (0≤i2) then (l[i2.toNat]?).bind fun i3=>bif v==i3 then some (Sum.inr (Sum.inl i2)) else some (Sum.inl (i1,IntKind.i64.wrap (i2+1))) else none else some (Sum.inr (Sum.inr (i1,i2))))
  (fun i=>((0:Int),(i:Int))) (fun i=>(l[i]?.map fun x=>!(v==x)).getD false) (fun i=>Sum.inl (i:Int)) l.length (Sum.inr (0,(l.length:Int))) (fun i hi=>by
    refine bT (dC hi) (bT (aO i) (bB (get_at hi) ?_))
    rw[List.getElem?_eq_getElem hi,eF (by omega)]
    show (bif v==l[i] then _ else _)=some (bif !(v==l[i]) then _ else _)
    cases v==l[i]<;>rfl) (bF (eC _) rfl)
 rcases key with ⟨h1,h2⟩|⟨h1,i,hi,hp,h2⟩
 ·refine bB (v := -1) (bB h2 rfl) ?_
  rw[show decide (v∈l)=false from decide_eq_false fun hm=>?_]; ·rfl
  obtain⟨i,hi,rfl⟩:=List.getElem_of_mem hm
  have:=List.all_eq_true.1 h1 i (List.mem_range.2 hi)
  rw[List.getElem?_eq_getElem hi]at this
  simp at this
 ·refine bB (v:=(i:Int)) (bB h2 rfl) ?_
  rw[show decide (v∈l)=true from decide_eq_true ?_]; ·rw[aO]
  rw[List.getElem?_eq_getElem hi]at hp
  simp only[Option.map_some,Option.getD_some,Bool.not_eq_false',beq_iff_eq]at hp
  rw[hp]; exact List.getElem_mem _
/-! ### A valid network -/
def nx(n:cw)(l i:Nat):Bool:=(n.af[i]?.map fun f=>decide ((l:Int)∈f)).getD false
def cj(n:cw):yr where
 F:=n.af.length
 L:=n.aQ.length
 on:=nx n
 c l:=((n.aQ[l]?.getD 0:Int):Rat)
 has i:=decide (0<n.aG[i]?.getD 0)
 k i:=((n.aG[i]?.getD 0:Int):Rat)
structure VN(n:cw):Prop where
 nc:n.aQ.length≤8
 nf:n.af.length≤8
 nl:n.aG.length=n.af.length
 c:∀ x∈n.aQ,0≤x∧x≤1000
 k:∀ x∈n.aG,0≤x∧x≤1000
 f6:∀ l∈n.af,1≤l.length∧l.length≤6
 fr:∀ l∈n.af,∀ x∈l,0≤x∧x<n.aQ.length
theorem HC{n:cw}(h:vN n=true):VN n:=by
 unfold vN at h
 simp only[Bool.and_eq_true,decide_eq_true_eq,List.all_eq_true]at h
 obtain⟨h1,h2,h3,⟨h4,h5⟩,h6⟩:=h
 have hk:∀ x,uw x=true→0≤x∧x≤1000:=fun x hx=>by simpa[uw] using hx
 refine⟨h1,h2,h3,fun x hx=>hk x (h4 x hx),fun x hx=>hk x (h5 x hx),fun l hl=>?_,fun l hl x hx=>?_⟩
 ·have:=h6 l hl
  unfold DG at this
  simp only[Bool.and_eq_true,decide_eq_true_eq]at this
  omega
 ·have:=h6 l hl
  unfold DG at this
  simp only[Bool.and_eq_true,List.all_eq_true]at this
  obtain⟨i,hi,rfl⟩:=List.getElem_of_mem hx
  have:=this.1 i (List.mem_range.2 hi)
  unfold pF at this
  rw[List.getElem?_eq_getElem hi]at this
  simp only[Bool.and_eq_true,decide_eq_true_eq]at this
  omega
theorem VN.TE{n:cw}(h:VN n){l:List Int}(hl:l∈n.af):l.length≤2^62:=by have:=h.f6 l hl; omega
theorem VN.cap{n:cw}(h:VN n){l:Nat}(hl:l<n.aQ.length):(cj n).c l=((n.aQ[l]:Int):Rat)∧0≤n.aQ[l]∧n.aQ[l]≤1000:=by
 refine⟨?_,h.c _ (List.getElem_mem _)⟩
 show ((n.aQ[l]?.getD 0:Int):Rat)=_
 rw[List.getElem?_eq_getElem hl]; rfl
theorem VN.lO{n:cw}(h:VN n){i:Nat}(hi:i<n.af.length):∃ k,n.aG[i]?=some k∧(cj n).k i=(k:Rat)∧(cj n).has i=decide (0<k)∧0≤k∧k≤1000:=by
 have hl:i<n.aG.length:=by rw[h.nl]; exact hi
 refine⟨n.aG[i],List.getElem?_eq_getElem hl,?_,?_,h.k _ (List.getElem_mem _)⟩
 ·show ((n.aG[i]?.getD 0:Int):Rat)=_
  rw[List.getElem?_eq_getElem hl]; rfl
 ·show decide (0<n.aG[i]?.getD 0)=_
  rw[List.getElem?_eq_getElem hl]; rfl
theorem VN.on{n:cw}(h:VN n){l i:Nat}(hi:i<n.af.length):aa.bO n.af[i] (l:Int)=some (nx n l i):=by
 rw[OG (h.TE (List.getElem_mem _))]
 unfold nx
 rw[List.getElem?_eq_getElem hi]; rfl
theorem VN.ex{n:cw}(h:VN n){i:Nat}(hi:i<n.af.length):∃ l,l<n.aQ.length∧nx n l i=true:=by
 have h1:=h.f6 _ (List.getElem_mem hi)
 have h2:=h.fr _ (List.getElem_mem hi) _ (List.getElem_mem (show 0<n.af[i].length by omega))
 refine⟨n.af[i][0].toNat,by omega,?_⟩
 unfold nx
 rw[List.getElem?_eq_getElem hi]
 simp only[Option.map_some,Option.getD_some,decide_eq_true_eq]
 rw[Int.toNat_of_nonneg h2.1]
 exact List.getElem_mem _
theorem BX{P:Nat}{q:Rat}(h1:1≤P)(h2:P≤1000)(hd:Dv P q)(h0:0≤q)(hq:q≤1000):gf q∧q.den≤P:=by
 obtain⟨m,hm⟩:=hd
 have hP:(P:Rat)≠0:=by intro e; have:P=0:=by exact_mod_cast e
                       omega
 have ZK:(0:Rat)<(P:Rat):=by exact_mod_cast h1
 have e:q=mkRat m P:=by
  rw[Rat.mkRat_eq_div,←hm,Rat.div_def,Rat.mul_assoc,Rat.mul_inv_cancel _ hP,Rat.mul_one]
 have Nx:0≤m:=by
  have:(0:Rat)≤(m:Rat):=by rw[←hm]; exact Rat.mul_nonneg h0 (Rat.le_of_lt ZK)
  exact_mod_cast this
 have qC:m≤1000*P:=by
  have:(m:Rat)≤1000*(P:Rat):=by rw[←hm]; exact Rat.mul_le_mul_of_nonneg_right hq (Rat.le_of_lt ZK)
  exact_mod_cast this
 have hn:=Lw (n:=m) h1
 have TF:(mkRat m P).den≤P:=by rw[Rat.den_mkRat,if_neg (by omega)]; exact Nat.div_le_self _ _
 rw[←e]at hn TF
 exact⟨⟨by omega,by omega,by omega⟩,TF⟩
theorem OH{k:Int}(h0:0≤k)(h1:k≤1000):gf (k:Rat):=⟨by show _≤k; omega,by show k≤_; omega,by show 1≤_; omega⟩
structure my(n:cw)(rates:List aj)(fixed:List Bool)(x:Nat→Rat)(lo:Rat)(P:Nat):Prop where
 nr:rates.length=n.af.length
 nf:fixed.length=n.af.length
 r:∀ i,i<n.af.length→fixed[i]?=some true→rates[i]?=some (iT (x i))
 inv:Inv (cj n) (fun i=>fixed[i]?.getD false) x lo P
abbrev jG(fixed:List Bool)(i:Nat):Bool:=fixed[i]?.getD false
theorem qP{p:Nat→Bool}{x:Nat→Rat}{n:Nat}(h:∀ j,j<n→p j=true→0≤x j):∀ {i:Nat},i≤n→0≤sm p x i∧sm p x i≤sm p x n:=by
 have up:∀ m i,i+m=n→sm p x i≤sm p x n:=by
  intro m
  induction m with
  |zero=>intro i hi; rw[show i=n by omega]; exact Rat.le_refl
  |succ m ih=>
   intro i hi
   have h1:=ih (i+1) (by omega)
   simp only[sm]at h1
   cases hp:p i with
   |false=>rw[hp]at h1; simp only[cond_false]at h1; grind
   |true=>rw[hp]at h1; simp only[cond_true]at h1; have:=h i (by omega) hp; grind
 intro i hi
 refine⟨?_,up (n-i) i (by omega)⟩
 clear up
 induction i with
 |zero=>exact Rat.le_refl
 |succ i ih=>
  have h1:=ih (by omega)
  simp only[sm]
  cases hp:p i with
  |false=>simp only[cond_false]; grind
  |true=>simp only[cond_true]; have:=h i (by omega) hp; grind
section
variable {n:cw}{rates:List aj}{fixed:List Bool}{x:Nat→Rat}{lo:Rat}{P:Nat}
theorem my.Rd(h:my n rates fixed x lo P):P≤18:=Nat.le_trans (Nat.le_mul_of_pos_right _ (Lt _)) h.inv.Rd
abbrev sF(n:cw)(fixed:List Bool)(x:Nat→Rat)(l:Nat):Rat:=sm (fun i=>nx n l i&&jG fixed i) x n.af.length
abbrev mF(n:cw)(fixed:List Bool)(l:Nat):Nat:=ct (fun i=>nx n l i&&!jG fixed i) n.af.length
theorem yy(hv:VN n)(h:my n rates fixed x lo P){l:Nat}(hl:l<n.aQ.length):
  ∃ q,aa.cm (l:Int) (ck.mk n fixed rates)=some (iT q,decide (mF n fixed l≠0))∧(mF n fixed l≠0→q*(mF n fixed l:Nat)=(cj n).c l-sF n fixed x l∧gf q):=by
 obtain⟨hc,Ny,Kb⟩:=hv.cap hl
 have Ri:∀ j,j<n.af.length→(nx n l j&&jG fixed j)=true→0≤x j:=fun j hj hp=>by
  simp only[Bool.and_eq_true]at hp
  exact(h.inv.nn j hj hp.2).1
 have Bs:=h.inv.cap l hl
 have hP:=h.Rd
 have Re:=h.inv.P1
 have LB:∀ i,i≤n.af.length→gf ((cj n).c l-sm (fun i=>nx n l i&&jG fixed i) x i):=fun i hi=>by
  have hm:=qP Ri hi
  refine(BX Re (by omega) ?_ ?_ ?_).1
  ·refine Dv.sub ?_ (Dv.sm fun j hj hp=>h.inv.dv j (by show j<n.af.length; omega) (by simp only[Bool.and_eq_true]at hp; exact hp.2))
   rw[hc]; exact Dv.int _
  ·have:sm (fun i=>nx n l i&&jG fixed i) x n.af.length≤(cj n).c l:=Bs
   grind
  ·have h1:(cj n).c l≤1000:=by rw[hc]; exact_mod_cast Kb
   have:=hm.1
   grind
 have hx:∀ i,i<n.af.length→jG fixed i=true→gf (x i):=fun i hi hf=>by
  have h1:=h.inv.nn i hi hf
  obtain⟨l',je,pt⟩:=hv.ex hi
  obtain⟨IW,_,TG⟩:=hv.cap je
  have ZL:sm (fun i=>nx n l' i&&jG fixed i) x n.af.length≤(cj n).c l':=h.inv.cap l' je
  have TH:∀ j,j<n.af.length→(nx n l' j&&jG fixed j)=true→0≤x j:=fun j hj hp=>by
   simp only[Bool.and_eq_true]at hp
   exact(h.inv.nn j hj hp.2).1
  have h2:=(qP TH (i:=i+1) (by omega)).2
  have h3:=(qP TH (i:=i) (by omega)).1
  simp only[sm,pt,hf,Bool.and_self,cond_true]at h2
  have h4:(cj n).c l'≤1000:=by rw[IW]; exact_mod_cast TG
  exact(BX Re (by omega) (h.inv.dv i hi hf) h1.1 (by grind)).1
 have IX:∀ i,i<n.af.length→fixed[i]?=some (jG fixed i):=fun i hi=>by
  have:i<fixed.length:=by rw[h.nf]; exact hi
  unfold jG
  rw[List.getElem?_eq_getElem this]; rfl
 have TI:=hv.nf
 have Vo:n.aQ[(l:Int).toNat]?=some n.aQ[l]:=get_at hl
 have hS0:0≤(cj n).c l-sF n fixed x l:=by
  have:sm (fun i=>nx n l i&&jG fixed i) x n.af.length≤(cj n).c l:=Bs
  grind
 have TG:(cj n).c l≤1000:=by rw[hc]; exact_mod_cast Kb
 have hS1:(cj n).c l-sF n fixed x l≤1000:=by
  have:=(qP Ri (i:=n.af.length) (Nat.le_refl _)).1
  grind
 have hDv:Dv P ((cj n).c l-sF n fixed x l):=by
  refine Dv.sub ?_ (Dv.sm fun j hj hp=>h.inv.dv j hj (by simp only[Bool.and_eq_true]at hp; exact hp.2))
  rw[hc]; exact Dv.int _
 have hm8:mF n fixed l≤8:=Nat.le_trans p8 TI
 have yx:aI (ω:=Int×Int×Int×Int) (fun ((i3,i4,i5,i6):Int×Int×Int×Int)=>
    bif decide (i3<(↑(ck.mk n fixed rates).Net.af.length:Int)) then
     bif decide (0≤i3) then
      ((ck.mk n fixed rates).Net.af[i3.toNat]?).bind fun l7=>
      (aa.bO l7 l).bind fun b8=>
      bif b8 then
       bif decide (0≤i3) then
        ((ck.mk n fixed rates).DH[i3.toNat]?).bind fun b9=>
        bif !b9 then
         some (Sum.inl (IntKind.i64.wrap (i3+1),IntKind.i64.wrap (i4+1),i5,i6))
        else
         bif decide (0≤i3) then
          ((ck.mk n fixed rates).DI[i3.toNat]?).bind fun JQ=>
          (aa.n4 (aj.mk i5 i6) JQ).bind fun (TJ,i12)=>
          some (Sum.inl (IntKind.i64.wrap (i3+1),i4,TJ.dW,TJ.Den))
         else
          none
       else
        none
      else
       some (Sum.inl (IntKind.i64.wrap (i3+1),i4,i5,i6))
     else
      none
    else
     some (Sum.inr (i3,i4,i5,i6))) (0,0,n.aQ[l],1)=some ((n.af.length:Int),((mF n fixed l:Nat):Int),((cj n).c l-sF n fixed x l).num,(((cj n).c l-sF n fixed x l).den:Int)):=by
  refine gI (fun i=>((i:Int),((ct (fun i=>nx n l i&&!jG fixed i) i:Nat):Int),((cj n).c l-sm (fun i=>nx n l i&&jG fixed i) x i).num,((((cj n).c l-sm (fun i=>nx n l i&&jG fixed i) x i).den:Nat):Int))) n.af.length _ (fun i hi=>?_) (bF (eC _) rfl) ?_
  ·refine bT (dC hi) (bT (aO i) (bB (get_at hi) (bB (hv.on hi) ?_)))
   rw[eF (by omega)]
   have Wt:=p8 (p:=fun i=>nx n l i&&!jG fixed i) (n:=i)
   cases pt:nx n l i with
   |false=>
    refine bF rfl ?_
    simp only[ct,sm,pt,Bool.false_and,cond_false,Nat.add_zero]
    have:(cj n).c l-(sm (fun i=>nx n l i&&jG fixed i) x i+0)=(cj n).c l-sm (fun i=>nx n l i&&jG fixed i) x i:=by grind
    rw[this]
   |true=>
    refine bT rfl (bT (aO i) (bB (v:=jG fixed i) (by rw[Int.toNat_natCast]; exact IX i hi) ?_))
    cases hf:jG fixed i with
    |false=>
     refine bT rfl ?_
     rw[eF (by omega)]
     simp only[ct,sm,pt,hf,Bool.true_and,Bool.not_false,cond_true,cond_false]
     have:(cj n).c l-(sm (fun i=>nx n l i&&jG fixed i) x i+0)=(cj n).c l-sm (fun i=>nx n l i&&jG fixed i) x i:=by grind
     rw[this]
    |true=>
     have JM:fixed[i]?=some true:=by rw[IX i hi,hf]
     have tE:=sub_eq (LB i (by omega)) (hx i hi hf)
     have TK:(cj n).c l-sm (fun i=>nx n l i&&jG fixed i) x i-x i=(cj n).c l-sm (fun i=>nx n l i&&jG fixed i) x (i+1):=by
      simp only[sm,pt,hf,Bool.and_self,cond_true]; grind
     rw[TK,if_pos (LB (i+1) (by omega))]at tE
     refine bF rfl (bT (aO i) (bB (v:=iT (x i)) (by rw[Int.toNat_natCast]; exact h.r i hi JM) (bB tE ?_)))
     simp only[ct,pt,hf,Bool.true_and,Bool.not_true,cond_false,Nat.add_zero]
     rfl
  ·have:(cj n).c l-sm (fun i=>nx n l i&&jG fixed i) x 0=(n.aQ[l]:Rat):=by rw[←hc]; simp only[sm]; grind
   rw[this]; rfl
 by_cases hm:mF n fixed l=0
 ·refine⟨(cj n).c l-sF n fixed x l,?_,fun h=>absurd hm h⟩
  unfold aa.cm
  refine bT (aO l) (bB Vo (bB (v:=⟨n.aQ[l],1⟩) rfl (bB yx (bT (by rw[hm]; rfl) ?_))))
  rw[hm]; rfl
 ·have qC:1≤mF n fixed l:=by omega
  have Xb:((mF n fixed l:Nat):Rat)≠0:=fun e=>hm (by exact_mod_cast e)
  have TA:(0:Rat)<((mF n fixed l:Nat):Rat):=by exact_mod_cast qC
  have hq:((cj n).c l-sF n fixed x l)/((mF n fixed l:Nat):Rat)*((mF n fixed l:Nat):Rat)=(cj n).c l-sF n fixed x l:=by
   rw[Rat.div_def,Rat.mul_assoc,Rat.inv_mul_cancel _ Xb,Rat.mul_one]
  have Xc:0≤((cj n).c l-sF n fixed x l)/((mF n fixed l:Nat):Rat):=by
   apply Rat.le_of_mul_le_mul_right (c:=((mF n fixed l:Nat):Rat)) _ TA
   rw[hq,Rat.zero_mul]; exact hS0
  have hG:((cj n).c l-sF n fixed x l)/((mF n fixed l:Nat):Rat)≤1000:=by
   apply Rat.le_of_mul_le_mul_right (c:=((mF n fixed l:Nat):Rat)) _ TA
   rw[hq]
   have:(1:Rat)≤((mF n fixed l:Nat):Rat):=by exact_mod_cast qC
   grind
  have hPm:P*mF n fixed l≤1000:=Nat.le_trans (Nat.mul_le_mul hP hm8) (by omega)
  have jc:=(BX (Nat.mul_pos Re qC) hPm (Dv.part hDv hq) Xc hG).1
  have Xd:gf ((cj n).c l-sF n fixed x l):=LB n.af.length (Nat.le_refl _)
  have hdiv:=div_eq Xd qC (by omega)
  rw[if_pos jc]at hdiv
  refine⟨_,?_,fun _=>⟨hq,jc⟩⟩
  unfold aa.cm
  refine bT (aO l) (bB Vo (bB (v:=⟨n.aQ[l],1⟩) rfl (bB yx (bF (by show (((mF n fixed l:Nat):Int)==0)=false; rw[beq_eq_false_iff_ne]; omega) (bB (v:=⟨((mF n fixed l:Nat):Int),1⟩) rfl (bB hdiv ?_))))))
  rw[decide_eq_true hm]
theorem wu(hv:VN n)(h:my n rates fixed x lo P){i:Nat}(hi:i<n.af.length):
  aa.cC (i:Int) (ck.mk n fixed rates)=some (iT ((cj n).k i),(cj n).has i&&!jG fixed i):=by
 obtain⟨k,hk,e1,e2,k0,k1⟩:=hv.lO hi
 have Ig:n.aG[(i:Int).toNat]?=some k:=by rw[Int.toNat_natCast]; exact hk
 unfold aa.cC
 refine bT (aO i) (bB Ig (bB (v:=⟨k,1⟩) rfl (bT (aO i) (bB Ig ?_))))
 rw[e1,e2]
 by_cases hp:0<k
 ·have:i<fixed.length:=by rw[h.nf]; exact hi
  refine bT (decide_eq_true hp) (bT (aO i) (bB (v:=jG fixed i) (by rw[Int.toNat_natCast]; unfold jG; rw[List.getElem?_eq_getElem this]; rfl) ?_))
  rw[decide_eq_true hp]; rfl
 ·rw[decide_eq_false hp]
  exact bF rfl rfl
theorem Ga(hv:VN n)(l:Nat){i:Nat}(hi:i<n.af.length):aa.fS (l:Int) (ck.mk n fixed rates) (i:Int)=some (nx n l i):=by
 unfold aa.fS
 exact bT (aO i) (bB (get_at hi) (bB (hv.on hi) rfl))
end
end Go.Proofs.Ytedjbjphpnkpoaa
end
section
/- Plain facts of this seat: what Share returns. -/
set_option maxRecDepth 100000
set_option maxHeartbeats 1000000
namespace Go.Proofs.Ytedjbjphpnkpoaa
open Go.PI Go.Pl Go.Mm
section
variable {γ:Type}{Q:γ→Prop}
theorem dX{c:Bool}{x y:Option γ}(hc:c=true)(hx:∃ r,x=some r∧Q r):∃ r,(bif c then x else y)=some r∧Q r:=by subst hc; exact hx
theorem DJ{c:Bool}{x y:Option γ}(hc:c=false)(hy:∃ r,y=some r∧Q r):∃ r,(bif c then x else y)=some r∧Q r:=by subst hc; exact hy
theorem mb{β:Type}{e:Option β}{v:β}{K:β→Option γ}(he:e=some v)(hk:∃ r,K v=some r∧Q r):∃ r,e.bind K=some r∧Q r:=by subst he; exact hk
theorem IY{τ ω:Type}{f:τ→Option (τ ⊕ ω)}(I:τ→Prop)(μ:τ→Nat)(P:ω→Prop)(h:∀ s,I s→(∃ s',f s=some (.inl s')∧I s'∧μ s'<μ s)∨(∃ w,f s=some (.inr w)∧P w)):
  ∀ s,I s→∃ w,aI f s=some w∧P w:=by
 have key:∀ m s,μ s<m→I s→∃ w,aI f s=some w∧P w:=by
  intro m
  induction m with
  |zero=>intro s hs; omega
  |succ m ih=>
   intro s hs hI
   rcases h s hI with ⟨s',h1,h2,h3⟩|⟨w,h1,h2⟩
   ·obtain⟨w,h4,h5⟩:=ih s' (by omega) h2
    exact⟨w,by rw[next h1,h4],h5⟩
   ·exact⟨w,out h1,h2⟩
 exact fun s hs=>key (μ s+1) s (Nat.lt_succ_self _) hs
theorem OI{τ ω:Type}{f:τ→Option (τ ⊕ ω)}{x0:τ}{K:ω→Option γ}(I:τ→Prop)(μ:τ→Nat)(P:ω→Prop)(h:∀ s,I s→(∃ s',f s=some (.inl s')∧I s'∧μ s'<μ s)∨(∃ w,f s=some (.inr w)∧P w))(h0:I x0)
  (hk:∀ w,P w→∃ r,K w=some r∧Q r):∃ r,(aI f x0).bind K=some r∧Q r:=by
 obtain⟨w,h1,h2⟩:=IY I μ P h x0 h0
 exact mb h1 (hk w h2)
end
/-! ### Stops -/
def iV(i:Nat):dY:=⟨true,(i:Int)⟩
def sn(i:Nat):dY:=⟨false,(i:Int)⟩
def qa(n:cw):List dY:=(List.range n.aQ.length).map iV++(List.range n.af.length).map sn
theorem DK{n:cw}{s:dY}(h:s∈qa n):(∃ l,l<n.aQ.length∧s=iV l)∨∃ i,i<n.af.length∧s=sn i:=by
 unfold qa at h
 simp only[List.mem_append,List.mem_map,List.mem_range]at h
 rcases h with ⟨l,h1,h2⟩|⟨l,h1,h2⟩
 ·exact .inl ⟨l,h1,h2.symm⟩
 ·exact .inr ⟨l,h1,h2.symm⟩
theorem DL(n:cw):(qa n).length=n.aQ.length+n.af.length:=by simp[qa]
section
variable {n:cw}{rates:List aj}{fixed:List Bool}{x:Nat→Rat}{lo:Rat}{P:Nat}
noncomputable def lvl(n:cw)(rates:List aj)(fixed:List Bool)(s:dY):Option (aj×Bool):=
 bif s.A then aa.cm s.N (ck.mk n fixed rates) else aa.cC s.N (ck.mk n fixed rates)
noncomputable def act(n:cw)(rates:List aj)(fixed:List Bool)(s:dY):Bool:=((lvl n rates fixed s).map (·.2)).getD false
noncomputable def lv(n:cw)(rates:List aj)(fixed:List Bool)(s:dY):aj:=((lvl n rates fixed s).map (·.1)).getD ⟨0,0⟩
noncomputable def rq(n:cw)(rates:List aj)(fixed:List Bool)(s:dY):Rat:=mkRat (lv n rates fixed s).dW (lv n rates fixed s).Den.toNat
theorem DM(q:Rat):mkRat (iT q).dW (iT q).Den.toNat=q:=by
 show mkRat q.num ((q.den:Int)).toNat=q
 rw[Int.toNat_natCast,Rat.mkRat_self]
theorem Rj(hv:VN n)(h:my n rates fixed x lo P){s:dY}(hs:s∈qa n):lvl n rates fixed s=some (lv n rates fixed s,act n rates fixed s):=by
 have:∃ r,lvl n rates fixed s=some r:=by
  rcases DK hs with ⟨l,hl,rfl⟩|⟨i,hi,rfl⟩
  ·obtain⟨q,hq,_⟩:=yy hv h hl
   exact⟨_,hq⟩
  ·exact⟨_,wu hv h hi⟩
 obtain⟨r,hr⟩:=this
 unfold lv act
 rw[hr]; rfl
theorem u6(hv:VN n)(h:my n rates fixed x lo P){l:Nat}(hl:l<n.aQ.length):act n rates fixed (iV l)=decide (mF n fixed l≠0)∧(mF n fixed l≠0→lv n rates fixed (iV l)=iT (rq n rates fixed (iV l))∧gf (rq n rates fixed (iV l))∧rq n rates fixed (iV l)*(mF n fixed l:Nat)=(cj n).c l-sF n fixed x l):=by
 obtain⟨q,hq,hf⟩:=yy hv h hl
 have e1:act n rates fixed (iV l)=decide (mF n fixed l≠0):=by unfold act lvl; show ((aa.cm (l:Int) _).map _).getD false=_; rw[hq]; rfl
 have e2:lv n rates fixed (iV l)=iT q:=by unfold lv lvl; show ((aa.cm (l:Int) _).map _).getD _=_; rw[hq]; rfl
 have e3:rq n rates fixed (iV l)=q:=by unfold rq; rw[e2]; exact DM q
 refine⟨e1,fun hm=>?_⟩
 rw[e3]
 exact⟨e2,(hf hm).2,(hf hm).1⟩
theorem yz(hv:VN n)(h:my n rates fixed x lo P){i:Nat}(hi:i<n.af.length):act n rates fixed (sn i)=((cj n).has i&&!jG fixed i)∧lv n rates fixed (sn i)=iT (rq n rates fixed (sn i))∧gf (rq n rates fixed (sn i))∧rq n rates fixed (sn i)=(cj n).k i:=by
 have hq:=wu hv h hi
 obtain⟨k,_,QN,_,k0,k1⟩:=hv.lO hi
 have e1:act n rates fixed (sn i)=((cj n).has i&&!jG fixed i):=by unfold act lvl; show ((aa.cC (i:Int) _).map _).getD false=_; rw[hq]; rfl
 have e2:lv n rates fixed (sn i)=iT ((cj n).k i):=by unfold lv lvl; show ((aa.cC (i:Int) _).map _).getD _=_; rw[hq]; rfl
 have e3:rq n rates fixed (sn i)=(cj n).k i:=by unfold rq; rw[e2]; exact DM _
 rw[e3]
 exact⟨e1,e2,by rw[QN]; exact OH k0 k1,rfl⟩
noncomputable def eT(n:cw)(rates:List aj)(fixed:List Bool):List dY:=(qa n).filter (act n rates fixed)
theorem gJ(hv:VN n)(h:my n rates fixed x lo P){s:dY}(hs:s∈eT n rates fixed):lv n rates fixed s=iT (rq n rates fixed s)∧gf (rq n rates fixed s) ∧
  ((∃ l,l<n.aQ.length∧s=iV l∧mF n fixed l≠0∧rq n rates fixed s*(mF n fixed l:Nat)=(cj n).c l-sF n fixed x l)∨∃ i,i<n.af.length∧s=sn i∧(cj n).has i=true∧jG fixed i=false∧rq n rates fixed s=(cj n).k i):=by
 unfold eT at hs
 obtain⟨h1,h2⟩:=List.mem_filter.1 hs
 rcases DK h1 with ⟨l,hl,rfl⟩|⟨i,hi,rfl⟩
 ·obtain⟨g1,g2⟩:=u6 hv h hl
  rw[g1]at h2
  have hm:=of_decide_eq_true h2
  obtain⟨g3,g4,g5⟩:=g2 hm
  exact⟨g3,g4,.inl ⟨l,hl,rfl,hm,g5⟩⟩
 ·obtain⟨g1,g2,g3,g4⟩:=yz hv h hi
  rw[g1]at h2
  simp only[Bool.and_eq_true,Bool.not_eq_true']at h2
  exact⟨g2,g3,.inr ⟨i,hi,rfl,h2.1,h2.2,g4⟩⟩
theorem AN(hv:VN n)(h:my n rates fixed x lo P){l:Nat}(hl:l<n.aQ.length)(hm:mF n fixed l≠0):iV l∈eT n rates fixed:=by
 refine List.mem_filter.2 ⟨?_,by rw[(u6 hv h hl).1]; exact decide_eq_true hm⟩
 unfold qa
 exact List.mem_append_left _ (List.mem_map.2 ⟨l,List.mem_range.2 hl,rfl⟩)
theorem LC(hv:VN n)(h:my n rates fixed x lo P){i:Nat}(hi:i<n.af.length)(h1:(cj n).has i=true)(h2:jG fixed i=false):sn i∈eT n rates fixed:=by
 refine List.mem_filter.2 ⟨?_,by rw[(yz hv h hi).1,h1,h2]; rfl⟩
 unfold qa
 exact List.mem_append_right _ (List.mem_map.2 ⟨i,List.mem_range.2 hi,rfl⟩)
def Cz(m:Rat)(l:List Rat):Rat:=l.foldl (fun m q=>if q<m then q else m) m
theorem Rk(l:List Rat):∀ m,Cz m l≤m∧∀ q∈l,Cz m l≤q:=by
 induction l with
 |nil=>intro m; exact⟨Rat.le_refl,fun q hq=>by cases hq⟩
 |cons a l ih=>
  intro m
  have h:=ih (if a<m then a else m)
  show Cz (if a<m then a else m) l≤m∧∀ q∈a::l,Cz (if a<m then a else m) l≤q
  have h1:(if a<m then a else m)≤m∧(if a<m then a else m)≤a:=by split<;>constructor<;>grind
  refine⟨Rat.le_trans h.1 h1.1,fun q hq=>?_⟩
  rcases List.mem_cons.1 hq with rfl|hq
  ·exact Rat.le_trans h.1 h1.2
  ·exact h.2 q hq
theorem HD(l:List Rat):∀ m,Cz m l=m∨Cz m l∈l:=by
 induction l with
 |nil=>intro m; exact .inl rfl
 |cons a l ih=>
  intro m
  show Cz (if a<m then a else m) l=m∨Cz (if a<m then a else m) l∈a::l
  rcases ih (if a<m then a else m) with h|h
  ·rw[h]
   split
   ·exact .inr (by simp)
   ·exact .inl rfl
  ·exact .inr (List.mem_cons_of_mem _ h)
def dZ{γ:Type}(l:List γ)(is:List Nat)(v:γ):List γ:=is.foldl (fun l i=>l.set i v) l
theorem dP{γ:Type}(is:List Nat)(v:γ):∀ l:List γ,(dZ l is v).length=l.length:=by
 induction is with
 |nil=>intro l; rfl
 |cons i is ih=>intro l; show (dZ (l.set i v) is v).length=_; rw[ih,List.length_set]
theorem sq{γ:Type}(is:List Nat)(v:γ):∀ (l:List γ) (j:Nat),j<l.length→(dZ l is v)[j]?=if j∈is then some v else l[j]?:=by
 induction is with
 |nil=>intro l j hj; simp[dZ]
 |cons i is ih=>
  intro l j hj
  show (dZ (l.set i v) is v)[j]?=_
  rw[ih _ _ (by rw[List.length_set]; exact hj)]
  by_cases h1:j∈is
  ·rw[if_pos h1,if_pos (List.mem_cons_of_mem _ h1)]
  ·rw[if_neg h1]
   by_cases h2:j=i
   ·subst h2
    rw[if_pos (by simp),List.getElem?_set_self hj]
   ·rw[if_neg (by simp[h1,h2]),List.getElem?_set_ne (fun e=>h2 e.symm)]
theorem wv{γ:Type}(l:List γ)(is:List Nat)(v:γ){t:Nat}(ht:t<is.length):dZ l (is.take (t+1)) v=(dZ l (is.take t) v).set is[t] v:=by
 unfold dZ
 rw[List.take_succ_eq_append_getElem ht,List.foldl_append]; rfl
end
end Go.Proofs.Ytedjbjphpnkpoaa
end
section
/- Plain facts of this seat: a step of Share, and Share. -/
set_option maxRecDepth 100000
set_option maxHeartbeats 2000000
namespace Go.Proofs.Ytedjbjphpnkpoaa
open Go.PI Go.Pl Go.Mm
theorem mM{m k:Nat}(h:m≤100000)(hk:k≤64):(decide (m*k≤2^44)&&decide (m≤2^44))=true:=by
 have:m*k≤100000*64:=Nat.mul_le_mul h hk
 simp only[Bool.and_eq_true,decide_eq_true_eq]
 omega
theorem tU(q r:Rat):((iT q).dW==r.num&&(iT q).Den==(r.den:Int))=decide (q=r):=by
 rw[Bool.eq_iff_iff]
 simp only[iT,Bool.and_eq_true,beq_iff_eq,decide_eq_true_eq]
 constructor
 ·rintro⟨h1,h2⟩; exact Rat.ext h1 (by omega)
 ·rintro rfl; exact⟨rfl,rfl⟩
def LD(n:cw)(s:dY)(i:Nat):Bool:=bif s.A then nx n s.N.toNat i else s.N==(i:Int)
noncomputable def JR(n:cw)(fixed:List Bool)(low:Rat)(r:Rat)(s:dY)(i:Nat):Bool:=decide (r=low)&&(!jG fixed i&&LD n s i)
noncomputable def BZ(n:cw)(rates:List aj)(fixed:List Bool)(low:Rat)(s:dY)(m:Nat):List Nat:=(List.range m).filter (JR n fixed low (rq n rates fixed s) s)
noncomputable def iA(n:cw)(rates:List aj)(fixed:List Bool)(low:Rat):List Nat:=(eT n rates fixed).flatMap fun s=>BZ n rates fixed low s n.af.length
theorem sr{γ:Type}(p:γ→Bool)(l:List γ):(l.filter p).length≤l.length:=List.length_filter_le _ _
theorem yA{γ δ:Type}{f:γ→List δ}{b:Nat}:∀ {l:List γ},(∀ x∈l,(f x).length≤b)→(l.flatMap f).length≤l.length*b
 |[],_=>by simp
 |x::l,h=>by
  have h1:=yA (l:=l) fun y hy=>h y (List.mem_cons_of_mem _ hy)
  have h2:=h x (by simp)
  simp only[List.flatMap_cons,List.length_append,List.length_cons,Nat.succ_mul]
  omega
section
variable {n:cw}{rates:List aj}{fixed:List Bool}{x:Nat→Rat}{lo:Rat}{P:Nat}
theorem LF(hv:VN n):(eT n rates fixed).length≤16:=by
 have h1:=sr (act n rates fixed) (qa n)
 have h2:=DL n
 have:=hv.nc; have:=hv.nf
 unfold eT; omega
theorem u7{γ:Type}{p:γ→Bool}{l:List γ}{i:Nat}(h:i<l.length):(l.take (i+1)).filter p=(l.take i).filter p++bif p l[i] then [l[i]] else []:=by
 rw[List.take_succ_eq_append_getElem h,List.filter_append]
 cases hp:p l[i]<;>simp[hp]
theorem tV{p:Nat→Bool}{i:Nat}:(List.range (i+1)).filter p=(List.range i).filter p++bif p i then [i] else []:=by
 rw[List.range_succ,List.filter_append]
 cases hp:p i<;>simp[hp]
abbrev Gb(n:cw)(fixed:List Bool):Nat:=ct (fun i=>!jG fixed i) n.af.length
noncomputable def cD(n:cw)(rates:List aj)(fixed:List Bool):Rat:=match eT n rates fixed with
 |[]=>0
 |s::l=>Cz (rq n rates fixed s) ((s::l).map (rq n rates fixed))
theorem HE(hv:VN n)(h:my n rates fixed x lo P)(hm:false∈fixed):∃ s l,eT n rates fixed=s::l:=by
 obtain⟨i,hi,he⟩:=List.getElem_of_mem hm
 have wQ:i<n.af.length:=by rw[←h.nf]; exact hi
 have hf:jG fixed i=false:=by unfold jG; rw[List.getElem?_eq_getElem hi,he]; rfl
 obtain⟨l,hl,pt⟩:=hv.ex wQ
 have NI:mF n fixed l≠0:=by
  have:=p6 (p:=fun i=>nx n l i&&!jG fixed i) wQ (by simp[pt,hf])
  unfold mF; omega
 have:=AN hv h hl NI
 cases ha:eT n rates fixed with
 |nil=>rw[ha]at this; cases this
 |cons s l=>exact⟨s,l,rfl⟩
theorem DN(hv:VN n)(h:my n rates fixed x lo P)(hm:false∈fixed):(∃ s∈eT n rates fixed,rq n rates fixed s=cD n rates fixed)∧∀ s∈eT n rates fixed,cD n rates fixed≤rq n rates fixed s:=by
 obtain⟨s,l,ha⟩:=HE hv h hm
 unfold cD
 rw[ha]
 simp only
 have h1:=Rk ((s::l).map (rq n rates fixed)) (rq n rates fixed s)
 refine⟨?_,fun t ht=>h1.2 _ (List.mem_map.2 ⟨t,ht,rfl⟩)⟩
 rcases HD ((s::l).map (rq n rates fixed)) (rq n rates fixed s) with h2|h2
 ·exact⟨s,by simp,h2.symm⟩
 ·obtain⟨t,ht,e⟩:=List.mem_map.1 h2
  exact⟨t,ht,e⟩
theorem OJ(hv:VN n)(h:my n rates fixed x lo P)(hm:false∈fixed):gf (cD n rates fixed):=by
 obtain⟨⟨s,hs,e⟩,_⟩:=DN hv h hm
 rw[←e]; exact(gJ hv h hs).2.1
theorem qQ{i:Nat}{low:Rat}:i∈iA n rates fixed low↔∃ s∈eT n rates fixed,i<n.af.length∧rq n rates fixed s=low∧jG fixed i=false∧LD n s i=true:=by
 unfold iA BZ JR
 simp only[List.mem_flatMap,List.mem_filter,List.mem_range,Bool.and_eq_true,decide_eq_true_eq,Bool.not_eq_true']
theorem OK(hv:VN n)(h:my n rates fixed x lo P)(hm:false∈fixed):ZG (cj n) (jG fixed) x (cD n rates fixed) (fun i=>decide (i∈iA n rates fixed (cD n rates fixed))):=by
 obtain⟨⟨s0,E8,e0⟩,wU⟩:=DN hv h hm
 have lk:∀ l,l<n.aQ.length→mF n fixed l≠0→cD n rates fixed≤rq n rates fixed (iV l)∧rq n rates fixed (iV l)*(mF n fixed l:Nat)=(cj n).c l-sF n fixed x l:=fun l hl NI=>
  ⟨wU _ (AN hv h hl NI),((u6 hv h hl).2 NI).2.2⟩
 refine⟨fun i hi hw=>?_,fun l hl=>?_,fun i hi hf hh=>?_,fun i hi hw=>?_,?_⟩
 ·obtain⟨s,_,_,_,h3,_⟩:=qQ.1 (of_decide_eq_true hw)
  exact h3
 ·show cD n rates fixed*((mF n fixed l:Nat):Rat)≤(cj n).c l-sF n fixed x l
  by_cases NI:mF n fixed l=0
  ·rw[NI]
   have:sF n fixed x l≤(cj n).c l:=h.inv.cap l hl
   have e:cD n rates fixed*((0:Nat):Rat)=0:=by
    have:((0:Nat):Rat)=0:=rfl
    rw[this,Rat.mul_zero]
   rw[e]; grind
  ·obtain⟨g1,g2⟩:=lk l hl NI
   rw[←g2]
   exact Rat.mul_le_mul_of_nonneg_right g1 (by exact_mod_cast Nat.zero_le _)
 ·have:=wU _ (LC hv h hi hh hf)
  rw[(yz hv h hi).2.2.2]at this
  exact this
 ·obtain⟨s,hs,_,hq,hf,gC⟩:=qQ.1 (of_decide_eq_true hw)
  obtain⟨_,_,⟨l,hl,rfl,NI,Rl⟩|⟨j,hj,rfl,hh,_,hk⟩⟩:=gJ hv h hs
  ·have pt:nx n l i=true:=by simpa[LD,iV] using gC
   rw[hq]at Rl
   refine .inr ⟨l,hl,pt,Rl,fun j hj P7 Rm=>decide_eq_true (qQ.2 ⟨_,hs,hj,hq,Rm,by have Xe:nx n l j=true:=P7; simpa[LD,iV] using Xe⟩)⟩
  ·have Nz:j=i:=by simp only[LD,sn,cond_false,beq_iff_eq]at gC; omega
   subst Nz
   exact .inl ⟨hh,by rw[←hq,hk]⟩
 ·obtain⟨_,_,⟨l,hl,rfl,NI,Rl⟩|⟨j,hj,rfl,hh,hf,hk⟩⟩:=gJ hv h E8
  ·obtain⟨i,hi,hp⟩:=Ls (p:=fun i=>nx n l i&&!jG fixed i) (n:=n.af.length) (by unfold mF at NI; omega)
   simp only[Bool.and_eq_true,Bool.not_eq_true']at hp
   exact⟨i,hi,decide_eq_true (qQ.2 ⟨_,E8,hi,e0,hp.2,by simpa[LD,iV] using hp.1⟩)⟩
  ·exact⟨j,hj,decide_eq_true (qQ.2 ⟨_,E8,hj,e0,hf,by simp[LD,sn]⟩)⟩
theorem LG{low:Rat}{i:Nat}(h:i∈iA n rates fixed low):i<n.af.length:=by
 obtain⟨_,_,h1,_⟩:=qQ.1 h; exact h1
theorem OL(hv:VN n)(h:my n rates fixed x lo P)(hm:false∈fixed):∃ x' P',my n (dZ rates (iA n rates fixed (cD n rates fixed)) (iT (cD n rates fixed))) (dZ fixed (iA n rates fixed (cD n rates fixed)) true) x' (cD n rates fixed) P' ∧
  Gb n (dZ fixed (iA n rates fixed (cD n rates fixed)) true)<Gb n fixed:=by
 have g:=OK hv h hm
 have W4:∀ l,l<(cj n).L→Dv 1 ((cj n).c l):=fun l hl=>by rw[(hv.cap hl).1]; exact Dv.int _
 have Ig:∀ i,i<(cj n).F→Dv 1 ((cj n).k i):=fun i hi=>by obtain⟨k,_,e,_⟩:=hv.lO hi; rw[e]; exact Dv.int _
 obtain⟨P',hI⟩:=IV (N:=cj n) hv.nf W4 Ig h.inv g
 have ZM:(fun i=>jG (dZ fixed (iA n rates fixed (cD n rates fixed)) true) i)=fun i=>jG fixed i||decide (i∈iA n rates fixed (cD n rates fixed)):=by
  funext i
  by_cases hi:i<fixed.length
  ·unfold jG
   rw[sq _ _ _ _ hi]
   by_cases hw:i∈iA n rates fixed (cD n rates fixed)
   ·rw[if_pos hw,decide_eq_true hw,Bool.or_true]; rfl
   ·rw[if_neg hw,decide_eq_false hw,Bool.or_false]
  ·have h1:i∉iA n rates fixed (cD n rates fixed):=fun hw=>hi (by rw[h.nf]; exact LG hw)
   rw[decide_eq_false h1,Bool.or_false]
   unfold jG
   have e1:(dZ fixed (iA n rates fixed (cD n rates fixed)) true)[i]?=none:=List.getElem?_eq_none (by rw[dP]; omega)
   have e2:fixed[i]?=none:=List.getElem?_eq_none (by omega)
   rw[e1,e2]
 refine⟨_,P',⟨by rw[dP]; exact h.nr,by rw[dP]; exact h.nf,fun i hi hf=>?_,by rw[ZM]; exact hI⟩,?_⟩
 ·rw[sq _ _ _ _ (by rw[h.nr]; exact hi)]
  rw[sq _ _ _ _ (by rw[h.nf]; exact hi)]at hf
  by_cases hw:i∈iA n rates fixed (cD n rates fixed)
  ·simp[hw]
  ·simp only[hw,if_false]at hf ⊢
   simp only[decide_false,Bool.false_eq_true,if_false]
   exact h.r i hi hf
 ·show ct (fun i=>!jG (dZ fixed _ true) i) n.af.length<_
  have e:(fun i=>!jG (dZ fixed (iA n rates fixed (cD n rates fixed)) true) i)=fun i=>!(jG fixed i||decide (i∈iA n rates fixed (cD n rates fixed))):=by
   funext i; rw[show jG (dZ fixed _ true) i=_ from congrFun ZM i]
  rw[e]
  obtain⟨i,hi,hw⟩:=g.some
  have S1:=p7 (p:=fun i=>!jG fixed i) (q:=fun i=>decide (i∈iA n rates fixed (cD n rates fixed))) (n:=n.af.length)
  have hp:=p6 (p:=fun i=>!jG fixed i&&decide (i∈iA n rates fixed (cD n rates fixed))) (n:=n.af.length) hi (by rw[g.sub i hi hw,hw]; rfl)
  have e2:ct (fun i=>!(jG fixed i||decide (i∈iA n rates fixed (cD n rates fixed)))) n.af.length=ct (fun i=>!jG fixed i&&!decide (i∈iA n rates fixed (cD n rates fixed))) n.af.length:=nY fun j _=>by cases jG fixed j<;>rfl
  show _<ct (fun i=>!jG fixed i) n.af.length
  rw[e2]; omega
end
end Go.Proofs.Ytedjbjphpnkpoaa
end
section
/- Plain facts of this seat: Share returns the fair rates. -/
set_option maxRecDepth 100000
set_option maxHeartbeats 4000000
namespace Go.Proofs.Ytedjbjphpnkpoaa
open Go.PI Go.Pl Go.Mm
theorem OM{γ:Type}{l:List γ}{i:Nat}(h:i<l.length):l[0+(i:Int).toNat]?=some l[i]:=by
 rw[Nat.zero_add,Int.toNat_natCast]; exact List.getElem?_eq_getElem h
theorem NJ{i m:Nat}(h:i<m):decide ((i:Int).toNat<m)=true:=decide_eq_true (by rw[Int.toNat_natCast]; exact h)
theorem LH(m:Rat)(l:List Rat)(q:Rat):Cz m (l++[q])=if q<Cz m l then q else Cz m l:=by
 unfold Cz; rw[List.foldl_append]; rfl
theorem LI{n:cw}(hb:vN n=true):∃ r,aa.gK n=some r∧r.2=0∧∃ x lo P,my n r.1 (List.replicate n.af.length true) x lo P:=by
 have hv:=HC hb
 have TI:=hv.nf
 have hL8:=hv.nc
 have IX:∀ l∈n.af,l.length≤2^62:=fun l hl=>hv.TE hl
 have eN:((n.af.length:Int)).toNat=n.af.length:=Int.toNat_natCast _
 unfold aa.gK
 refine mb (OE IX) (DJ (by rw[hb]; rfl) (dX (by rw[eN]; simp only[Bool.and_eq_true,decide_eq_true_eq]; omega) (dX (by rw[eN]; simp only[Bool.and_eq_true,decide_eq_true_eq]; omega) ?_)))
 refine mb (v:=((n.aQ.length:Int),(List.range n.aQ.length).map iV)) (gI (fun i=>((i:Int),(List.range i).map iV)) n.aQ.length _ (fun i hi=>?_) (bF (eC _) rfl) rfl) ?_
 ·refine bT (dC hi) (bT (by rw[List.length_map,List.length_range]; exact mM (by omega) (by omega)) ?_)
  rw[eF (by omega),List.range_succ,List.map_append]; rfl
 refine mb (v:=((n.aG.length:Int),qa n)) (gI (fun i=>((i:Int),(List.range n.aQ.length).map iV++(List.range i).map sn)) n.aG.length _ (fun i hi=>?_) (bF (eC _) (by rw[hv.nl]; rfl)) (by simp)) ?_
 ·have:=hv.nl
  refine bT (dC hi) (bT (by simp only[List.length_append,List.length_map,List.length_range]; exact mM (by omega) (by omega)) ?_)
  rw[eF (by omega),List.range_succ,List.map_append,List.append_assoc]; rfl
 refine OI (fun s=>∃ x lo P,my n s.1 s.2 x lo P) (fun s=>Gb n s.2) (fun w=>(∃ x lo P,my n w.1 w.2 x lo P)∧false∉w.2) ?_ ?_ ?_
 ·rintro⟨rates,fixed⟩ ⟨x,lo,P,h⟩
  have TL:rates.length=n.af.length:=h.nr
  have TM:fixed.length=n.af.length:=h.nf
  have h':my n rates fixed x lo P:=h
  have hc:=LA (l:=fixed) (by omega) false
  have er:decide (rates.length=(List.replicate ((n.af.length:Int)).toNat (aj.mk 0 0)).length)=true:=decide_eq_true (by rw[List.length_replicate,eN]; exact TL)
  have ef:decide (fixed.length=(List.replicate ((n.af.length:Int)).toNat false).length)=true:=decide_eq_true (by rw[List.length_replicate,eN]; exact TM)
  by_cases hm:false∈fixed
  ·obtain⟨x',P',hS,bL⟩:=OL hv h' hm
   refine .inl ⟨(_,_),?_,⟨x',_,P',hS⟩,bL⟩
   obtain⟨s0,rest,ha⟩:=HE hv h' hm
   have abx:=OJ hv h' hm
   have Xf:=LF (n:=n) (rates:=rates) (fixed:=fixed) hv
   have bg:=DL n
   refine bB hc (bT (decide_eq_true hm) ?_)
   refine bB (v:=(((qa n).length:Int),(eT n rates fixed).map (lv n rates fixed),eT n rates fixed)) (gI (fun i=>((i:Int),(((qa n).take i).filter (act n rates fixed)).map (lv n rates fixed),((qa n).take i).filter (act n rates fixed))) (qa n).length _ (fun i hi=>?_) (bF (eC _) (by simp only[List.take_length]; rfl)) rfl) ?_
   ·have hl:=Rj hv h' (List.getElem_mem hi)
    have VE:=u7 (p:=act n rates fixed) hi
    have aby:=sr (act n rates fixed) ((qa n).take i)
    have yk:((qa n).take i).length≤16:=by rw[List.length_take]; omega
    refine bT (dC hi) (bT (aO i) (bT (NJ hi) (bB (OM hi) ?_)))
    rw[eF (by omega),VE]
    generalize (qa n)[i]=s at hl
    obtain⟨A,N⟩:=s
    cases A with
    |true=>
     refine bT rfl (bB hl ?_)
     cases act n rates fixed ⟨true,N⟩ with
     |false=>exact bF rfl (by simp)
     |true=>exact bT rfl (bT (by rw[List.length_map]; exact mM (by omega) (by omega)) (bT (mM (by omega) (by omega)) (by simp)))
    |false=>
     refine bF rfl (bB hl ?_)
     cases act n rates fixed ⟨false,N⟩ with
     |false=>exact bF rfl (by simp)
     |true=>exact bT rfl (bT (by rw[List.length_map]; exact mM (by omega) (by omega)) (bT (mM (by omega) (by omega)) (by simp)))
   have lQ:∀ {i:Nat} (hi:i<(eT n rates fixed).length),((eT n rates fixed).map (lv n rates fixed))[0+(i:Int).toNat]?=some (iT (rq n rates fixed (eT n rates fixed)[i])):=fun {i} hi=>by
    rw[Nat.zero_add,Int.toNat_natCast,List.getElem?_map,List.getElem?_eq_getElem hi,Option.map_some,(gJ hv h' (List.getElem_mem hi)).1]
   have E8:s0∈eT n rates fixed:=by rw[ha]; simp
   have dV:0<(eT n rates fixed).length:=by rw[ha]; simp
   refine bT (decide_eq_true (by rw[List.length_map]; exact dV)) (bB (v:=iT (rq n rates fixed s0)) (by rw[ha,List.map_cons,List.getElem?_cons_zero,(gJ hv h' E8).1]) ?_)
   have Wy:∀ i,gf (Cz (rq n rates fixed s0) (((eT n rates fixed).take i).map (rq n rates fixed))):=fun i=>by
    rcases HD (((eT n rates fixed).take i).map (rq n rates fixed)) (rq n rates fixed s0) with e|e
    ·rw[e]; exact(gJ hv h' E8).2.1
    ·obtain⟨t,ht,e⟩:=List.mem_map.1 e
     rw[←e]; exact(gJ hv h' (List.mem_of_mem_take ht)).2.1
   refine bB (v:=(((eT n rates fixed).length:Int),(cD n rates fixed).num,((cD n rates fixed).den:Int))) (gI (fun i=>((i:Int),(Cz (rq n rates fixed s0) (((eT n rates fixed).take i).map (rq n rates fixed))).num,((Cz (rq n rates fixed s0) (((eT n rates fixed).take i).map (rq n rates fixed))).den:Int))) (eT n rates fixed).length _ (fun i hi=>?_) (bF (by rw[List.length_map]; exact eC _) ?_) rfl) ?_
   ·have hf:=gJ hv h' (List.getElem_mem hi)
    have TN:=OC hf.2.1 (Wy i)
    refine bT (by rw[List.length_map]; exact dC hi) (bT (aO i) (bT (by rw[List.length_map]; exact NJ hi) (bB (lQ hi) (bB TN ?_))))
    rw[eF (by omega),List.take_succ_eq_append_getElem hi,List.map_append,List.map_cons,List.map_nil,LH]
    by_cases hq:rq n rates fixed (eT n rates fixed)[i]<Cz (rq n rates fixed s0) (((eT n rates fixed).take i).map (rq n rates fixed))
    ·rw[if_pos hq]; exact bT (decide_eq_true hq) rfl
    ·rw[if_neg hq]; exact bF (decide_eq_false hq) rfl
   ·rw[List.take_length]
    have:cD n rates fixed=Cz (rq n rates fixed s0) ((eT n rates fixed).map (rq n rates fixed)):=by unfold cD; rw[ha]
    rw[this]
   have VJ:∀ s m,(BZ n rates fixed (cD n rates fixed) s m).length≤m:=fun s m=>by
    have:=sr (JR n fixed (cD n rates fixed) (rq n rates fixed s) s) (List.range m)
    rw[List.length_range]at this; exact this
   refine bB (v:=(((eT n rates fixed).length:Int),(iA n rates fixed (cD n rates fixed)).map fun i:Nat=>(i:Int))) (gI (fun k=>((k:Int),(((eT n rates fixed).take k).flatMap fun s=>BZ n rates fixed (cD n rates fixed) s n.af.length).map fun i:Nat=>(i:Int))) (eT n rates fixed).length _ (fun k hk=>?_) (bF (eC _) (by rw[List.take_length]; rfl)) rfl) ?_
   ·refine bT (dC hk) (bT (aO k) (bT (NJ hk) (bB (OM hk) ?_)))
    have Xg:=lQ hk
    have TO:((eT n rates fixed).take (k+1)).flatMap (fun s=>BZ n rates fixed (cD n rates fixed) s n.af.length)=((eT n rates fixed).take k).flatMap (fun s=>BZ n rates fixed (cD n rates fixed) s n.af.length)++BZ n rates fixed (cD n rates fixed) (eT n rates fixed)[k] n.af.length:=by
     rw[List.take_succ_eq_append_getElem hk,List.flatMap_append]; simp
    have zx:(((eT n rates fixed).take k).flatMap fun s=>BZ n rates fixed (cD n rates fixed) s n.af.length).length≤128:=by
     have h1:=yA (l:=(eT n rates fixed).take k) (f:=fun s=>BZ n rates fixed (cD n rates fixed) s n.af.length) (b:=8) (fun s _=>Nat.le_trans (VJ s _) TI)
     have h2:((eT n rates fixed).take k).length≤16:=by rw[List.length_take]; omega
     omega
    rw[TO,List.map_append]
    have hf:=gJ hv h' (List.getElem_mem hk)
    have Cx:∀ j (hj:j<n.af.length),fixed[0+(j:Int).toNat]?=some (jG fixed j):=fun j hj=>by
     rw[Nat.zero_add,Int.toNat_natCast,List.getElem?_eq_getElem (by omega)]
     unfold jG; rw[List.getElem?_eq_getElem (by omega)]; rfl
    generalize TP:(((eT n rates fixed).take k).flatMap fun s=>BZ n rates fixed (cD n rates fixed) s n.af.length).map (fun i:Nat=>(i:Int))=base
    have abz:base.length≤128:=by rw[←TP,List.length_map]; exact zx
    generalize hs:(eT n rates fixed)[k]=s at Xg hf
    have dM:∀ j,BZ n rates fixed (cD n rates fixed) s (j+1)=BZ n rates fixed (cD n rates fixed) s j++bif JR n fixed (cD n rates fixed) (rq n rates fixed s) s j then [j] else []:=fun j=>tV
    obtain⟨A,N⟩:=s
    cases A with
    |true=>
     refine bT rfl (bB (v:=((n.af.length:Int),base++(BZ n rates fixed (cD n rates fixed) ⟨true,N⟩ n.af.length).map fun i:Nat=>(i:Int))) (gI (fun j=>((j:Int),base++(BZ n rates fixed (cD n rates fixed) ⟨true,N⟩ j).map fun i:Nat=>(i:Int))) n.af.length _ (fun j hj=>?_) (bF (eC _) rfl) (by simp[BZ])) ?_)
     ·obtain⟨l,hN⟩:∃ l:Nat,N=(l:Int):=by
       rcases hf.2.2 with ⟨l,_,e,_⟩|⟨i,_,e,_⟩
       ·exact⟨l,congrArg dY.N e⟩
       ·cases congrArg dY.A e
      subst hN
      have hgj:=VJ ⟨true,(l:Int)⟩ j
      refine bT (dC hj) (bT (aO k) (bT (by rw[List.length_map]; exact NJ hk) (bB Xg ?_)))
      rw[eF (by omega),dM j]
      by_cases hq:rq n rates fixed ⟨true,(l:Int)⟩=cD n rates fixed
      ·refine bT (by rw[tU]; exact decide_eq_true hq) (bT (aO j) (bT (NJ (by omega)) (bB (Cx j hj) ?_)))
       cases Rm:jG fixed j with
       |true=>exact bF rfl (by simp[JR,Rm])
       |false=>
        refine bT rfl (bB (Ga hv l hj) ?_)
        have gC:LD n ⟨true,(l:Int)⟩ j=nx n l j:=by simp[LD]
        cases pt:nx n l j with
        |false=>exact bF rfl (by simp[JR,gC,pt])
        |true=>exact bT rfl (bT (by rw[List.length_append,List.length_map]; exact mM (by omega) (by omega)) (by simp[JR,gC,pt,Rm,hq]))
      ·exact bF (by rw[tU]; exact decide_eq_false hq) (by simp[JR,hq])
     ·rw[eF (by omega)]
    |false=>
     refine bF rfl (bB (v:=((n.af.length:Int),base++(BZ n rates fixed (cD n rates fixed) ⟨false,N⟩ n.af.length).map fun i:Nat=>(i:Int))) (gI (fun j=>((j:Int),base++(BZ n rates fixed (cD n rates fixed) ⟨false,N⟩ j).map fun i:Nat=>(i:Int))) n.af.length _ (fun j hj=>?_) (bF (eC _) rfl) (by simp[BZ])) ?_)
     ·have hgj:=VJ ⟨false,N⟩ j
      refine bT (dC hj) (bT (aO k) (bT (by rw[List.length_map]; exact NJ hk) (bB Xg ?_)))
      rw[eF (by omega),dM j]
      by_cases hq:rq n rates fixed ⟨false,N⟩=cD n rates fixed
      ·refine bT (by rw[tU]; exact decide_eq_true hq) (bT (aO j) (bT (NJ (by omega)) (bB (Cx j hj) ?_)))
       cases Rm:jG fixed j with
       |true=>exact bF rfl (by simp[JR,Rm])
       |false=>
        refine bT rfl (bB (v:=N==(j:Int)) rfl ?_)
        have gC:LD n ⟨false,N⟩ j=(N==(j:Int)):=by simp[LD]
        cases pt:(N==(j:Int)) with
        |false=>exact bF rfl (by simp[JR,gC,pt])
        |true=>exact bT rfl (bT (by rw[List.length_append,List.length_map]; exact mM (by omega) (by omega)) (by simp[JR,gC,pt,Rm,hq]))
      ·exact bF (by rw[tU]; exact decide_eq_false hq) (by simp[JR,hq])
     ·rw[eF (by omega)]
   have Vr:(iA n rates fixed (cD n rates fixed)).length≤128:=by
    have h1:=yA (l:=eT n rates fixed) (f:=fun s=>BZ n rates fixed (cD n rates fixed) s n.af.length) (b:=8) (fun s _=>Nat.le_trans (VJ s _) TI)
    unfold iA; omega
   refine bB (v:=(((iA n rates fixed (cD n rates fixed)).length:Int),dZ rates (iA n rates fixed (cD n rates fixed)) (iT (cD n rates fixed)),dZ fixed (iA n rates fixed (cD n rates fixed)) true))
    (gI (fun t=>((t:Int),dZ rates ((iA n rates fixed (cD n rates fixed)).take t) (iT (cD n rates fixed)),dZ fixed ((iA n rates fixed (cD n rates fixed)).take t) true)) (iA n rates fixed (cD n rates fixed)).length _ (fun t ht=>?_) (bF (by rw[List.length_map]; exact eC _) (bT (decide_eq_true (dP _ _ _)) (bT (decide_eq_true (dP _ _ _)) (by rw[List.take_length])))) rfl) ?_
   ·have bL:=LG (List.getElem_mem ht)
    have l1:(dZ rates ((iA n rates fixed (cD n rates fixed)).take t) (iT (cD n rates fixed))).length=n.af.length:=by rw[dP]; exact TL
    have l2:(dZ fixed ((iA n rates fixed (cD n rates fixed)).take t) true).length=n.af.length:=by rw[dP]; exact TM
    refine bT (by rw[List.length_map]; exact dC ht) (bT (aO t) (bT (by rw[List.length_map]; exact NJ ht) (bB (v:=((iA n rates fixed (cD n rates fixed))[t]:Int)) (by rw[Nat.zero_add,Int.toNat_natCast,List.getElem?_map,List.getElem?_eq_getElem ht]; rfl) ?_)))
    refine bT (aO _) (bT (NJ (by omega)) (bB (OM (by omega)) (bT (aO _) (bT (NJ (by omega)) (bB (OM (by omega)) ?_)))))
    refine bT (decide_eq_true (by rw[List.length_set]; exact dP _ _ _)) (bT (decide_eq_true (by rw[List.length_set]; exact dP _ _ _)) ?_)
    rw[eF (by omega),wv _ _ _ ht,wv _ _ _ ht,Nat.zero_add,Int.toNat_natCast]; rfl
   exact bT (decide_eq_true (by rw[dP,List.length_replicate,eN]; exact TL)) (bT (decide_eq_true (by rw[dP,List.length_replicate,eN]; exact TM)) rfl)
  ·exact .inr ⟨(rates,fixed),bB hc (bF (decide_eq_false hm) (bT er (bT ef rfl))),⟨x,lo,P,h⟩,hm⟩
 ·rw[eN]
  refine⟨fun _=>0,0,1,by simp,by simp,fun i hi hf=>?_,?_⟩
  ·rw[List.getElem?_replicate]at hf; split at hf<;>simp at hf
  ·have:(fun i:Nat=>(List.replicate n.af.length false)[i]?.getD false)=fun _=>false:=by
    funext i
    rw[List.getElem?_replicate]
    split<;>rfl
   show Mm.Inv (cj n) (fun i:Nat=>(List.replicate n.af.length false)[i]?.getD false) _ _ _
   rw[this]
   exact F6 TI (fun l hl=>by rw[(hv.cap hl).1]; exact_mod_cast (hv.cap hl).2.1) (fun i hi hh=>by obtain⟨k,_,e,_,k0,_⟩:=hv.lO hi; rw[e]; exact_mod_cast k0) _
 ·rintro⟨rates,fixed⟩ ⟨⟨x,lo,P,h⟩,hm⟩
  refine⟨_,rfl,rfl,x,lo,P,?_⟩
  have TM:fixed.length=n.af.length:=h.nf
  have Bu:false∉fixed:=hm
  have:fixed=List.replicate n.af.length true:=by
   rw[List.eq_replicate_iff]
   exact⟨TM,fun b hb=>by cases b with|true=>rfl|false=>exact absurd hb Bu⟩
  have h2:my n rates fixed x lo P:=h
  rw[this]at h2
  exact h2
end Go.Proofs.Ytedjbjphpnkpoaa
end
section
/- Plain facts of this seat: the fair rates; the law MaxminScale. -/
set_option maxRecDepth 100000
set_option maxHeartbeats 1000000
namespace Go.Proofs.Ytedjbjphpnkpoaa
open Go.PI Go.Pl Go.Mm
structure Sh(n:cw)(xs:List aj)(x:Nat→Rat):Prop where
 e:aa.gK n=some (xs,0)
 len:xs.length=n.af.length
 fair:Mm.Fair (cj n) x
 get:∀ i,i<n.af.length→xs[i]?=some (iT (x i))
 nn:∀ i,i<n.af.length→0≤x i∧x i≤1000
 fit:∀ i,i<n.af.length→gf (x i)∧(x i).den≤18
 dv:∃ P:Nat,1≤P∧P≤18∧∀ i,i<n.af.length→Dv P (x i)
theorem Gc{n:cw}(hb:vN n=true):∃ xs x,Sh n xs x:=by
 have hv:=HC hb
 obtain⟨⟨xs,e⟩,h1,h2,x,lo,P,h⟩:=LI hb
 obtain rfl:e=0:=h2
 have h':my n xs (List.replicate n.af.length true) x lo P:=h
 have bg:∀ i,i<(cj n).F→(fun i:Nat=>(List.replicate n.af.length true)[i]?.getD false) i=true:=fun i hi=>by
  show (List.replicate n.af.length true)[i]?.getD false=true
  rw[List.getElem?_replicate,if_pos (show i<n.af.length from hi)]; rfl
 obtain⟨hf,hd⟩:=Lu h'.inv bg
 have hx:∀ i,i<n.af.length→0≤x i∧x i≤1000:=fun i hi=>by
  obtain⟨l,hl,pt⟩:=hv.ex hi
  obtain⟨hc,_,Kb⟩:=hv.cap hl
  have Bs:sm (nx n l) x n.af.length≤(cj n).c l:=hf.Rb.cap l hl
  have Ri:∀ j,j<n.af.length→nx n l j=true→0≤x j:=fun j hj _=>hf.Rb.nn j hj
  have h2:=(qP Ri (i:=i+1) (by omega)).2
  have h3:=(qP Ri (i:=i) (by omega)).1
  simp only[sm,pt,cond_true]at h2
  have h4:(cj n).c l≤1000:=by rw[hc]; exact_mod_cast Kb
  exact⟨hf.Rb.nn i hi,by grind⟩
 refine⟨xs,x,h1,h'.nr,hf,fun i hi=>h'.r i hi (by rw[List.getElem?_replicate,if_pos hi]),hx,fun i hi=>?_,P,h'.inv.P1,h'.Rd,fun i hi=>(hd i hi).1⟩
 obtain⟨d1,d2⟩:=hd i hi
 have Re:=h'.inv.P1
 have:=BX Re (by omega) d1 (hx i hi).1 (hx i hi).2
 exact⟨this.1,by omega⟩
end Go.Proofs.Ytedjbjphpnkpoaa
end
section
/- Plain facts of this seat: the reference's ratios; the law MaxminNoMore. -/
set_option maxRecDepth 100000
set_option maxHeartbeats 1000000
namespace Go.Proofs.Ytedjbjphpnkpoaa
open Go.PI Go.Pl Go.Mm
theorem Xh(a b:Nat):aa.fD (a:Int) (b:Int)=some ((Nat.gcd a b:Nat):Int):=by
 unfold aa.fD
 have key:∀ m (a b:Nat),b<m→aI (ω:=Int×Int) (fun ((i1,i2):Int×Int)=>
   bif !i2==0 then bif decide (i2=0) then none else some (Sum.inl (i2,i1.tmod i2)) else some (Sum.inr (i1,i2))) ((a:Int),(b:Int))=some (((Nat.gcd a b:Nat):Int),0):=by
  intro m
  induction m with
  |zero=>intro a b h; omega
  |succ m ih=>
   intro a b h
   by_cases h0:b=0
   ·subst h0
    rw[Nat.gcd_zero_right]; exact out rfl
   ·have Xa:((b:Int)==0)=false:=by simp; omega
    have hr:((a:Int).tmod (b:Int))=((a%b:Nat):Int):=by rw[Int.tmod_eq_emod_of_nonneg (by omega)]; simp
    have g1:Nat.gcd a b=Nat.gcd b (a%b):=by rw[Nat.gcd_comm a b,Nat.gcd_rec b a,Nat.gcd_comm]
    have bL:=Nat.mod_lt a (Nat.pos_of_ne_zero h0)
    rw[g1]
    exact(next (y:=((b:Int),((a%b:Nat):Int))) (bT (congrArg not Xa) (bF (decide_eq_false (by omega)) (congrArg (fun z=>some (Sum.inl ((b:Int),z))) hr)))).trans (ih b (a%b) (by omega))
 exact bB (key (b+1) a b (Nat.lt_succ_self _)) rfl
theorem DP{q:Rat}(h:gf q):aa.cP (iT q)=some true:=by
 unfold aa.cP aa.mc aa.n6
 have d:=oC h
 have h1:=h.1
 have h2:=h.2.1
 have g:Nat.gcd q.num.natAbs q.den=1:=q.reduced
 refine bB (v:=true) (bT (decide_eq_true h.1) (bT (decide_eq_true h.2.1) (bT (decide_eq_true d.2) (congrArg some (decide_eq_true d.1))))) (bT rfl (bB (v:=(q.num.natAbs:Int)) (congrArg some (abs_eq (n:=q.num) (by omega) (by omega))) (bB (Xh q.num.natAbs q.den) ?_)))
 rw[g]; rfl
theorem ON{p q:Rat}(hp:gf p)(hq:gf q):aa.jX (iT p) (iT q)=some (zO p q,0):=by
 unfold aa.jX
 have dp:=oC hp
 have dq:=oC hq
 have m1:=ma hp.1 hp.2.1 (b:=(q.den:Int)) (by omega) (by omega)
 have m2:=ma hq.1 hq.2.1 (b:=(p.den:Int)) (by omega) (by omega)
 refine bB (DP hp) (bF rfl (bB (DP hq) (bF rfl ?_)))
 have w1:IntKind.i64.wrap ((iT p).dW*(iT q).Den)=p.num*(q.den:Int):=cI (n:=p.num*(q.den:Int)) (by omega) (by omega)
 have w2:IntKind.i64.wrap ((iT q).dW*(iT p).Den)=q.num*(p.den:Int):=cI (n:=q.num*(p.den:Int)) (by omega) (by omega)
 rw[w1,w2]
 unfold zO
 by_cases h1:p<q
 ·rw[if_pos h1]
  exact bT (decide_eq_true ((Rat.lt_iff p q).1 h1)) rfl
 ·rw[if_neg h1]
  refine bF (decide_eq_false fun h=>h1 ((Rat.lt_iff p q).2 h)) ?_
  by_cases h2:q<p
  ·rw[if_pos h2]
   exact bT (decide_eq_true ((Rat.lt_iff q p).1 h2)) rfl
  ·rw[if_neg h2]
   exact bF (decide_eq_false fun h=>h2 ((Rat.lt_iff q p).2 h)) rfl
section
variable {γ:Type}{Q:γ→Prop}
theorem B0{τ ω:Type}{f:τ→Option (τ ⊕ ω)}{x0:τ}{K:ω→Option γ}(N:Nat)(I:Nat→τ→Prop)(P:ω→Prop)(h:∀ i s,i<N→I i s→∃ r,f s=some r∧∃ s',r=.inl s'∧I (i+1) s')
  (he:∀ s,I N s→∃ r,f s=some r∧∃ w,r=.inr w∧P w) (h0:I 0 x0) (hk:∀ w,P w→∃ r,K w=some r∧Q r):∃ r,(aI f x0).bind K=some r∧Q r:=by
 have key:∀ m i s,m=N-i→i≤N→I i s→∃ w,aI f s=some w∧P w:=by
  intro m
  induction m with
  |zero=>
   intro i s hm hi hI
   obtain rfl:i=N:=by omega
   obtain⟨_,h1,w,rfl,h2⟩:=he s hI
   exact⟨w,out h1,h2⟩
  |succ m ih=>
   intro i s hm hi hI
   obtain⟨_,h1,s',rfl,h2⟩:=h i s (by omega) hI
   obtain⟨w,h3,h4⟩:=ih (i+1) s' (by omega) (by omega) h2
   exact⟨w,by rw[next h1,h3],h4⟩
 obtain⟨w,h1,h2⟩:=key N 0 x0 rfl (Nat.zero_le _) h0
 exact mb h1 (hk w h2)
end
/-! ### A possible choice -/
theorem LJ{n:cw}(h:vN n=true){l:List Int}(hl:l∈n.af):∀ b a (hb:b<l.length) (hab:a<b),l[a]<l[b]:=by
 unfold vN at h
 simp only[Bool.and_eq_true,decide_eq_true_eq,List.all_eq_true]at h
 have h6:=h.2.2.2.2 l hl
 unfold DG at h6
 simp only[Bool.and_eq_true,List.all_eq_true,List.mem_range]at h6
 have st:∀ b (hb:b+1<l.length),l[b]<l[b+1]:=fun b hb=>by
  have:=h6.1 (b+1) hb
  unfold pF at this
  rw[List.getElem?_eq_getElem hb]at this
  simp only[Nat.add_sub_cancel,Bool.and_eq_true,if_neg (Nat.succ_ne_zero b)]at this
  rw[List.getElem?_eq_getElem (by omega)]at this
  simpa using this.2
 intro b
 induction b with
 |zero=>intro a _ h; omega
 |succ b ih=>
  intro a hb hab
  by_cases e:a=b
  ·subst e; exact st a hb
  ·have h1:=ih a (by omega) (by omega)
   have h2:=st b hb
   omega
theorem LK{n:cw}(h:vN n=true){l:List Int}(hl:l∈n.af){k:Nat}(hk:k<l.length):l[k]∉l.take k:=fun hm=>by
 obtain⟨a,ha,e⟩:=List.mem_take_iff_getElem.1 hm
 have:=LJ h hl k a hk (by omega)
 omega
theorem LL{p:Nat→Bool}{x y:Nat→Rat}{i:Nat}{v:Rat}(hx:y i=x i+v)(h:∀ j,j≠i→y j=x j):∀ {n:Nat},i<n→sm p y n=sm p x n+bif p i then v else 0
 |n+1,hi=>by
  simp only[sm]
  by_cases e:i=n
  ·subst e
   rw[nX (p:=p) (q:=p) (x:=y) (y:=x) (n:=i) (fun _ _=>rfl) fun j hj _=>h j (by omega),hx]
   cases p i<;>simp only[cond_true,cond_false]<;>grind
  ·rw[LL hx h (n:=n) (by omega),h n (fun q=>e q.symm)]
   cases p i<;>cases p n<;>simp only[cond_true,cond_false]<;>grind
structure Pos(n:cw)(d:Int)(i:Nat)(room y:List Int):Prop where
 rl:room.length=n.aQ.length
 yl:y.length=n.af.length
 yv:∀ j,j<n.af.length→∃ v,y[j]?=some v∧0≤v∧v≤60000∧((cj n).has j=true→(v:Rat)≤(cj n).k j*(d:Rat))
 y0:∀ j,i≤j→j<n.af.length→y[j]?=some 0
 rm:∀ l,l<n.aQ.length→∃ r,room[l]?=some r∧0≤r∧r≤60000∧(r:Rat)+sm (nx n l) (fun j=>((y[j]?.getD 0:Int):Rat)) n.af.length=(cj n).c l*(d:Rat)
noncomputable def HF(n:cw)(parts:List Int)(l6:List Int)(i7:Int)(l8 l9:List Int)(init:Int):Option ((Int×List Int×List Int) ⊕ (Int×List Int×List Int)):=
 (aI (ω:=Int×Int) (fun ((i12,i13):Int×Int)=>
 bif decide (0≤i7) then
 (n.af[i7.toNat]?).bind fun LM=>
 bif decide (i13<(↑LM.length:Int)) then
 bif decide (0≤i7) then
 (n.af[i7.toNat]?).bind fun zt=>
 bif decide (0≤i13) then
 (zt[i13.toNat]?).bind fun i16=>
 bif decide (0≤i16) then
 bif decide (i16.toNat<l8.length) then
 (l8[0+i16.toNat]?).bind fun i17=>
 some (Sum.inl (if i17<i12 then i17 else i12,IntKind.i64.wrap (i13+1)))
 else
 none
 else
 none
 else
 none
 else
 none
 else
 some (Sum.inr (i12,i13))
 else
 none) (init,0)).bind fun (i18,i19)=>
 bif decide (0≤i7) then
 (parts[i7.toNat]?).bind fun i20=>
 bif decide (IntKind.i64.wrap (i18+1)=0) then
 none
 else
 bif decide (0≤i7) then
 bif decide (i7.toNat<l9.length) then
 (l9[0+i7.toNat]?).bind fun i21=>
 (aI (ω:=Int×List Int) (fun ((i22,JS):Int×List Int)=>
 bif decide (0≤i7) then
 (n.af[i7.toNat]?).bind fun l24=>
 bif decide (i22<(↑l24.length:Int)) then
 bif decide (0≤i7) then
 (n.af[i7.toNat]?).bind fun JT=>
 bif decide (0≤i22) then
 (JT[i22.toNat]?).bind fun i26=>
 bif decide (0≤i26) then
 bif decide (i26.toNat<JS.length) then
 (JS[0+i26.toNat]?).bind fun i27=>
 bif decide (0≤i7) then
 bif decide (i7.toNat<(l9.set (0+i7.toNat) ((IntKind.i64.wrap i20).tmod (IntKind.i64.wrap (i18+1)))).length) then
 ((l9.set (0+i7.toNat) ((IntKind.i64.wrap i20).tmod (IntKind.i64.wrap (i18+1))))[0+i7.toNat]?).bind fun i28=>
 bif decide (0≤i26) then
 bif decide (i26.toNat<JS.length) then
 (JS[0+i26.toNat]?).bind fun i29=>
 bif decide ((JS.set (0+i26.toNat) (IntKind.i64.wrap (i27-i28))).length=l8.length) then
 some (Sum.inl (IntKind.i64.wrap (i22+1),JS.set (0+i26.toNat) (IntKind.i64.wrap (i27-i28))))
 else
 none
 else
 none
 else
 none
 else
 none
 else
 none
 else
 none
 else
 none
 else
 none
 else
 none
 else
 bif decide (JS.length=l8.length) then
 some (Sum.inr (i22,JS))
 else
 none
 else
 none) (0,l8)).bind fun (i30,zP)=>
 bif decide (zP.length=l6.length) then
 bif decide ((l9.set (0+i7.toNat) ((IntKind.i64.wrap i20).tmod (IntKind.i64.wrap (i18+1)))).length=(List.replicate (↑n.af.length:Int).toNat (0:Int)).length) then
 some (Sum.inl (IntKind.i64.wrap (i7+1),zP,l9.set (0+i7.toNat) ((IntKind.i64.wrap i20).tmod (IntKind.i64.wrap (i18+1)))))
 else
 none
 else
 none
 else
 none
 else
 none
 else
 none
theorem B1{γ:Type}{l:List γ}{i j:Nat}{v:γ}(h:i<l.length):(l.set i v)[j]?=if j=i then some v else l[j]?:=by
 rw[List.getElem?_set]
 by_cases e:i=j
 ·subst e; simp[h]
 ·rw[if_neg e,if_neg fun q=>e q.symm]
theorem DQ{n:cw}(hb:vN n=true){parts:List Int}(hp:∀ y∈parts,0≤y∧y≤65535){d:Int}{l6:List Int}(Xi:l6.length=n.aQ.length){i:Nat}{room y:List Int}(hi:i<n.af.length)(ZN:i<parts.length)(h:Pos n d i room y)
  {init:Int} (h0:0≤init) (h1:init≤60000) (hk:(cj n).has i=true→(init:Rat)≤(cj n).k i*(d:Rat)) :
  ∃ r,HF n parts l6 (i:Int) room y init=some r∧∃ s',r=.inl s'∧s'.1=((i+1:Nat):Int)∧Pos n d (i+1) s'.2.1 s'.2.2:=by
 have hv:=HC hb
 have hF:=hv.nf
 have wV:n.af[i]∈n.af:=List.getElem_mem _
 have gF:n.af[(i:Int).toNat]?=some n.af[i]:=get_at hi
 have h6:=hv.f6 _ wV
 have eX:=hv.fr _ wV
 have VK:i<y.length:=by rw[h.yl]; exact hi
 unfold HF
 refine B0 n.af[i].length (fun k s=>s.2=(k:Int)∧0≤s.1∧s.1≤init∧∀ t (ht:t<n.af[i].length),t<k→∃ r,room[(n.af[i][t]).toNat]?=some r∧s.1≤r)
  (fun w=>0≤w.1∧w.1≤init∧∀ t (ht:t<n.af[i].length),∃ r,room[(n.af[i][t]).toNat]?=some r∧w.1≤r) ?_ ?_ ⟨rfl,h0,Int.le_refl _,fun t _ ht=>by omega⟩ ?_
 ·rintro k ⟨m,a⟩ hk ⟨e,Nx,qC,hm⟩
  obtain rfl:a=(k:Int):=e
  have hx:=eX _ (List.getElem_mem hk)
  obtain⟨r,hr,r0,r1,_⟩:=h.rm (n.af[i][k]).toNat (by omega)
  have bL:(n.af[i][k]).toNat<room.length:=by rw[h.rl]; omega
  refine dX (aO i) (mb gF (dX (dC hk) (dX (aO i) (mb gF (dX (aO k) (mb (get_at hk) (dX (decide_eq_true hx.1) (dX (decide_eq_true bL) (mb (v:=r) (by rw[Nat.zero_add]; exact hr) ⟨_,rfl,_,rfl,eF (by omega),?_,?_,?_⟩)))))))))
  ·show 0≤if r<m then r else m
   split<;>omega
  ·show (if r<m then r else m)≤init
   split<;>omega
  ·intro t ht Xj
   show ∃ r',_∧(if r<m then r else m)≤r'
   by_cases e:t=k
   ·subst e; exact⟨r,hr,by split<;>omega⟩
   ·obtain⟨r',g1,g2⟩:=hm t ht (by omega)
    refine⟨r',g1,?_⟩
    have g2':m≤r':=g2
    split<;>omega
 ·rintro⟨m,a⟩ ⟨e,Nx,qC,hm⟩
  obtain rfl:a=(n.af[i].length:Int):=e
  exact dX (aO i) (mb gF (DJ (eC _) ⟨_,rfl,_,rfl,Nx,qC,fun t ht=>hm t ht ht⟩))
 ·rintro⟨m,a⟩ ⟨Nx,qC,hm⟩
  have abD:0≤m:=Nx
  have abE:m≤init:=qC
  have hpp:=hp _ (List.getElem_mem ZN)
  have w1:IntKind.i64.wrap (m+1)=m+1:=cI (by omega) (by omega)
  have w2:IntKind.i64.wrap parts[i]=parts[i]:=cI (by omega) (by omega)
  refine dX (aO i) (mb (get_at ZN) (DJ (by show decide (IntKind.i64.wrap (m+1)=0)=false; rw[w1]; exact decide_eq_false (by omega)) (dX (aO i) (dX (decide_eq_true (by rw[Int.toNat_natCast]; exact VK)) (mb (v:=y[i]) (by rw[Nat.zero_add]; exact get_at VK) ?_)))))
  show ∃ r,_=some r∧_
  rw[w1,w2]
  obtain⟨v,Fi⟩:∃ v,v=parts[i].tmod (m+1):=⟨_,rfl⟩
  rw[←Fi]
  have Kh:0≤v:=by rw[Fi]; exact Int.tmod_nonneg _ hpp.1
  have hv1:v≤m:=by
   have:=Int.tmod_lt_of_pos parts[i] (show 0<m+1 by omega)
   omega
  have du:∀ j,(y.set (0+(i:Int).toNat) v)[j]?=if j=i then some v else y[j]?:=fun j=>by
   rw[Nat.zero_add,Int.toNat_natCast]; exact B1 VK
  have TQ:(y.set (0+(i:Int).toNat) v).length=y.length:=List.length_set
  refine B0 n.af[i].length (fun k s=>s.1=(k:Int)∧s.2.length=room.length∧∀ l,l<n.aQ.length→s.2[l]?=(room[l]?).map fun r=>r-if (l:Int)∈n.af[i].take k then v else 0)
   (fun w=>w.2.length=room.length∧∀ l,l<n.aQ.length→w.2[l]?=(room[l]?).map fun r=>r-if (l:Int)∈n.af[i] then v else 0) ?_ ?_ ⟨rfl,rfl,fun l _=>by simp⟩ ?_
  ·rintro k ⟨a,rm⟩ hk ⟨e,zQ,Sz⟩
   obtain rfl:a=(k:Int):=e
   have IZ:rm.length=room.length:=zQ
   have hx:=eX _ (List.getElem_mem hk)
   have Cv:(n.af[i][k]).toNat<n.aQ.length:=by omega
   have SA:(((n.af[i][k]).toNat:Nat):Int)=n.af[i][k]:=Int.toNat_of_nonneg hx.1
   have bL:(n.af[i][k]).toNat<rm.length:=by rw[IZ,h.rl]; omega
   obtain⟨r,hr,r0,r1,_⟩:=h.rm _ Cv
   have ZO:rm[(n.af[i][k]).toNat]?=some r:=by
    have:=Sz _ Cv
    rw[hr,SA,if_neg (LK hb wV hk)]at this
    simpa using this
   have w3:IntKind.i64.wrap (r-v)=r-v:=cI (by omega) (by omega)
   refine dX (aO i) (mb gF (dX (dC hk) (dX (aO i) (mb gF (dX (aO k) (mb (get_at hk) (dX (decide_eq_true hx.1) (dX (decide_eq_true bL) (mb (v:=r) (by rw[Nat.zero_add]; exact ZO) ?_)))))))))
   refine dX (aO i) (dX (decide_eq_true (by rw[TQ,Int.toNat_natCast]; exact VK)) (mb (v:=v) (by rw[du,Nat.zero_add,Int.toNat_natCast,if_pos rfl]) (dX (decide_eq_true hx.1) (dX (decide_eq_true bL) (mb (v:=r) (by rw[Nat.zero_add]; exact ZO) ?_)))))
   rw[w3]
   refine dX (decide_eq_true (by rw[List.length_set]; exact IZ)) ⟨_,rfl,_,rfl,eF (by omega),by show (rm.set _ _).length=_; rw[List.length_set]; exact IZ,fun l hl=>?_⟩
   show (rm.set (0+(n.af[i][k]).toNat) (r-v))[l]?=_
   rw[Nat.zero_add,B1 bL,List.take_succ_eq_append_getElem hk]
   by_cases e:l=(n.af[i][k]).toNat
   ·subst e
    rw[if_pos rfl,hr,SA,if_pos (List.mem_append_right _ (List.mem_singleton.2 rfl))]
    rfl
   ·have dA:(l:Int)≠n.af[i][k]:=fun q=>e (by omega)
    rw[if_neg e,Sz l hl]
    congr 1
    funext r'
    simp only[List.mem_append,List.mem_singleton,dA,or_false]
  ·rintro⟨a,rm⟩ ⟨e,zQ,Sz⟩
   obtain rfl:a=(n.af[i].length:Int):=e
   exact dX (aO i) (mb gF (DJ (eC _) (dX (decide_eq_true zQ) ⟨_,rfl,_,rfl,zQ,fun l hl=>by have:=Sz l hl; rw[List.take_length]at this; exact this⟩)))
  ·rintro⟨a,rm⟩ ⟨zQ,Sz⟩
   have IZ:rm.length=room.length:=zQ
   refine dX (decide_eq_true (by show rm.length=_; rw[IZ,h.rl,Xi])) (dX (decide_eq_true (by rw[TQ,h.yl]; simp)) ⟨_,rfl,_,rfl,eF (by omega),?_⟩)
   show Pos n d (i+1) rm (y.set (0+(i:Int).toNat) v)
   refine⟨by rw[IZ,h.rl],by rw[TQ,h.yl],fun j hj=>?_,fun j QE Nw=>?_,fun l hl=>?_⟩
   ·rw[du]
    by_cases e:j=i
    ·subst e
     refine⟨v,if_pos rfl,Kh,by omega,fun hh=>?_⟩
     have g1:=hk hh
     have g2:(v:Rat)≤(init:Rat):=by exact_mod_cast (show v≤init by omega)
     exact Rat.le_trans g2 g1
    ·rw[if_neg e]; exact h.yv j hj
   ·rw[du,if_neg (by omega)]; exact h.y0 j (by omega) Nw
   ·obtain⟨r,hr,r0,r1,hs⟩:=h.rm l hl
    have pt:nx n l i=decide ((l:Int)∈n.af[i]):=by
     unfold nx
     rw[List.getElem?_eq_getElem hi]; rfl
    have VL:=h.y0 i (Nat.le_refl _) hi
    have Rc:=LL (p:=nx n l) (x:=fun j=>((y[j]?.getD 0:Int):Rat)) (y:=fun j=>(((y.set (0+(i:Int).toNat) v)[j]?.getD 0:Int):Rat)) (i:=i) (v:=(v:Rat))
     (by simp only[du,if_pos rfl,VL,Option.getD_some]; grind) (fun j hj=>by simp only[du,if_neg hj]) hi
    have LN:=Sz l hl
    rw[hr]at LN
    by_cases Cx:(l:Int)∈n.af[i]
    ·rw[if_pos Cx]at LN
     rw[Rc,pt,decide_eq_true Cx]
     obtain⟨t,ht,mr⟩:=List.getElem_of_mem Cx
     obtain⟨r',kL,hle⟩:=hm t ht
     rw[mr,Int.toNat_natCast,hr]at kL
     obtain rfl:r=r':=Option.some.inj kL
     have abG:m≤r:=hle
     refine⟨r-v,LN,by omega,by omega,?_⟩
     rw[←hs,Rat.intCast_sub]
     simp only[cond_true]
     grind
    ·rw[if_neg Cx]at LN
     rw[Rc,pt,decide_eq_false Cx]
     refine⟨r-0,LN,by omega,by omega,?_⟩
     rw[←hs,Int.sub_zero]
     simp only[cond_false]
     grind
end Go.Proofs.Ytedjbjphpnkpoaa
end
section
/- Plain facts of this seat: the law MaxminNoMore. -/
set_option maxRecDepth 100000
set_option maxHeartbeats 1000000
namespace Go.Proofs.Ytedjbjphpnkpoaa
open Go.PI Go.Pl Go.Mm
theorem P8{m k:Nat}(h:m≤64)(hk:k≤8):(decide (((m:Nat):Int).toNat*k≤2^47)&&decide (((m:Nat):Int).toNat<2^62))=true:=by
 have:=Nat.mul_le_mul h hk
 simp only[Int.toNat_natCast,Bool.and_eq_true,decide_eq_true_eq]; omega
theorem HG(q:Rat):q*(q.den:Rat)=(q.num:Rat):=by
 have hd:((q.den:Nat):Rat)≠0:=fun e=>absurd (show q.den=0 by exact_mod_cast e) (by have:=q.den_pos; omega)
 have e:q=(q.num:Rat)/(q.den:Rat):=by rw[←Rat.mkRat_eq_div,Rat.mkRat_self]
 have e2:q*(q.den:Rat)=(q.num:Rat)/(q.den:Rat)*(q.den:Rat):=congrArg (·*(q.den:Rat)) e
 rw[e2,Rat.div_def,Rat.mul_assoc,Rat.inv_mul_cancel _ hd,Rat.mul_one]
theorem DS{q:Rat}(hf:gf q){v d:Int}(v0:0≤v)(v1:v≤60000)(h1:1≤d)(h2:d≤60):aa.gh (iT q) v d=some (q.num*d-v*(q.den:Int)):=by
 unfold aa.gh
 have dq:=oC hf
 have m1:=ma hf.1 hf.2.1 (b:=d) (by omega) (by omega)
 have m2:=ma (a:=v) (b:=(q.den:Int)) (by omega) (by omega) (by omega) (by omega)
 show some (IntKind.i64.wrap (IntKind.i64.wrap (q.num*d)-IntKind.i64.wrap (v*(q.den:Int))))=_
 rw[cI (n:=q.num*d) (by omega) (by omega),cI (n:=v*(q.den:Int)) (by omega) (by omega),cI (by omega) (by omega)]
theorem LO{q:Rat}{v d:Int}:q.num*d<v*(q.den:Int)↔q*(d:Rat)<(v:Rat):=by
 have hd:(0:Rat)<(q.den:Rat):=by exact_mod_cast q.den_pos
 rw[←Rat.mul_lt_mul_right hd,show q*(d:Rat)*(q.den:Rat)=(q.num:Rat)*(d:Rat) by rw[←HG q]; grind]
 exact_mod_cast Iff.rfl
theorem Gd{q:Rat}{v d:Int}:v*(q.den:Int)<q.num*d↔(v:Rat)<q*(d:Rat):=by
 have hd:(0:Rat)<(q.den:Rat):=by exact_mod_cast q.den_pos
 rw[←Rat.mul_lt_mul_right hd (a:=(v:Rat)),show q*(d:Rat)*(q.den:Rat)=(q.num:Rat)*(d:Rat) by rw[←HG q]; grind]
 exact_mod_cast Iff.rfl
end Go.Proofs.Ytedjbjphpnkpoaa
end
section
/- Plain facts of this seat: sorting by insertion, as the library does it for few elements. -/
set_option maxRecDepth 100000
set_option maxHeartbeats 1000000
namespace Go.Proofs.Ytedjbjphpnkpoaa
open Go.PI Go.Pl Go.Mm
section
variable {α β:Type}(cmp:α→α→Option β)(tst:β→Bool)
def TR(a:Int)(L:Nat):Int×List α→Option ((Int×List α) ⊕ (Int×List α)):=fun ((i30,zP):Int×List α)=>
 bif decide (a<i30) then
  bif decide (0≤i30) then
   bif decide (i30.toNat<zP.length) then
    (zP[0+i30.toNat]?).bind fun i32=>
    bif decide (0≤IntKind.i64.wrap (i30-1)) then
     bif decide ((IntKind.i64.wrap (i30-1)).toNat<zP.length) then
      (zP[0+(IntKind.i64.wrap (i30-1)).toNat]?).bind fun i33=>
      (cmp i32 i33).bind fun b34=>
      bif tst b34 then
       bif decide (0≤IntKind.i64.wrap (i30-1)) then
        bif decide ((IntKind.i64.wrap (i30-1)).toNat<zP.length) then
         (zP[0+(IntKind.i64.wrap (i30-1)).toNat]?).bind fun i35=>
         bif decide (0≤i30) then
          bif decide (i30.toNat<zP.length) then
           (zP[0+i30.toNat]?).bind fun i36=>
           bif decide (0≤i30) then
            bif decide (i30.toNat<zP.length) then
             (zP[0+i30.toNat]?).bind fun i37=>
             bif decide (0≤IntKind.i64.wrap (i30-1)) then
              bif decide ((IntKind.i64.wrap (i30-1)).toNat<(zP.set (0+i30.toNat) i35).length) then
               ((zP.set (0+i30.toNat) i35)[0+(IntKind.i64.wrap (i30-1)).toNat]?).bind fun i38=>
               bif decide (((zP.set (0+i30.toNat) i35).set (0+(IntKind.i64.wrap (i30-1)).toNat) i36).length=L) then
                some (Sum.inl (IntKind.i64.wrap (i30-1),(zP.set (0+i30.toNat) i35).set (0+(IntKind.i64.wrap (i30-1)).toNat) i36))
               else
                none
              else
               none
             else
              none
            else
             none
           else
            none
          else
           none
         else
          none
        else
         none
       else
        none
      else
       bif decide (zP.length=L) then
        some (Sum.inr (i30,zP))
       else
        none
     else
      none
    else
     none
   else
    none
  else
   none
 else
  bif decide (zP.length=L) then
   some (Sum.inr (i30,zP))
  else
   none
variable {cmp tst}{key:α→Rat}{U:α→Prop}(B2:∀ x y,U x→U y→∃ b,cmp x y=some b∧tst b=decide (key x<key y))
include B2
theorem LP{s rest:List α}{x:α}{L:Nat}(hL:L=s.length+1+rest.length)(h62:L≤2^40)(hs:s.Pairwise fun a b=>key a≤key b)(hU:∀ y∈s,U y)(hx:U x):
  ∀ j,j≤s.length→∃ p,p≤j∧aI (TR cmp tst 0 L) ((j:Int),s.take j++x::(s.drop j++rest))=some ((p:Int),s.take p++x::(s.drop p++rest)) ∧
    (∀ y∈s.take p,key y≤key x)∧∀ m,p≤m→(hm:m<j)→(h:m<s.length)→key x<key s[m]
 |0,_=>by
  refine⟨0,Nat.le_refl _,out ?_,by simp,fun m _ hm=>by omega⟩
  exact bT (decide_eq_true (by rw[hL]; simp; omega)) rfl
 |j+1,hj=>by
  have hlen:(s.take (j+1)++x::(s.drop (j+1)++rest)).length=L:=by simp[hL]; omega
  have hA:(s.take j).length=j:=by rw[List.length_take]; omega
  have e1:s.take (j+1)=s.take j++[s[j]]:=List.take_succ_eq_append_getElem (by omega)
  have e2:s.drop j=s[j]::s.drop (j+1):=List.drop_eq_getElem_cons (by omega)
  have el:s.take (j+1)++x::(s.drop (j+1)++rest)=s.take j++s[j]::x::(s.drop (j+1)++rest):=by rw[e1,List.append_assoc]; rfl
  have g1:(s.take (j+1)++x::(s.drop (j+1)++rest))[j+1]?=some x:=by
   rw[List.getElem?_append_right (by rw[List.length_take]; omega),List.length_take,Nat.min_eq_left hj,Nat.sub_self]; rfl
  have g0:(s.take (j+1)++x::(s.drop (j+1)++rest))[j]?=some s[j]:=by
   rw[el,List.getElem?_append_right (by omega),hA,Nat.sub_self]; rfl
  have w0:IntKind.i64.wrap (((j+1:Nat):Int)-1)=(j:Int):=by rw[cI (by omega) (by omega)]; omega
  have OO:=hU _ (List.getElem_mem (show j<s.length by omega))
  obtain⟨b,hb,ht⟩:=B2 x s[j] hx OO
  have p1:decide (((j+1:Nat):Int).toNat<(s.take (j+1)++x::(s.drop (j+1)++rest)).length)=true:=decide_eq_true (by rw[hlen]; omega)
  have p0:decide ((IntKind.i64.wrap (((j+1:Nat):Int)-1)).toNat<(s.take (j+1)++x::(s.drop (j+1)++rest)).length)=true:=decide_eq_true (by rw[hlen,w0]; omega)
  have n0:decide (0≤IntKind.i64.wrap (((j+1:Nat):Int)-1))=true:=by rw[w0]; exact aO j
  have q1:(s.take (j+1)++x::(s.drop (j+1)++rest))[0+((j+1:Nat):Int).toNat]?=some x:=by rw[Nat.zero_add,Int.toNat_natCast]; exact g1
  have q0:(s.take (j+1)++x::(s.drop (j+1)++rest))[0+(IntKind.i64.wrap (((j+1:Nat):Int)-1)).toNat]?=some s[j]:=by rw[Nat.zero_add,w0,Int.toNat_natCast]; exact g0
  by_cases hk:key x<key s[j]
  ·obtain⟨p,hp,aU,h1,h2⟩:=LP hL h62 hs hU hx j (by omega)
   refine⟨p,by omega,?_,h1,fun m qC vY P9=>?_⟩
   ·refine(next (y:=((j:Int),s.take j++x::(s.drop j++rest))) ?_).trans aU
    have du:(((s.take (j+1)++x::(s.drop (j+1)++rest)).set (0+((j+1:Nat):Int).toNat) s[j]).set (0+(IntKind.i64.wrap (((j+1:Nat):Int)-1)).toNat) x)=s.take j++x::(s.drop j++rest):=by
     rw[Nat.zero_add,Nat.zero_add,w0,Int.toNat_natCast,Int.toNat_natCast,el,e2]
     have:=Oz (A:=s.take j) (T:=s.drop (j+1)++rest) (x:=x) (y:=s[j]) (j:=j+1) (by rw[hA])
     exact this
    have q5:∃ v,((s.take (j+1)++x::(s.drop (j+1)++rest)).set (0+((j+1:Nat):Int).toNat) s[j])[0+(IntKind.i64.wrap (((j+1:Nat):Int)-1)).toNat]?=some v:=
     ⟨_,List.getElem?_eq_getElem (by rw[List.length_set,hlen,w0]; omega)⟩
    obtain⟨v,q5⟩:=q5
    refine bT (decide_eq_true (by omega)) (bT (aO _) (bT p1 (bB q1 (bT n0 (bT p0 (bB q0 (bB hb (bT (by rw[ht]; exact decide_eq_true hk) (bT n0 (bT p0 (bB q0 (bT (aO _) (bT p1 (bB q1 (bT (aO _) (bT p1 (bB q1 (bT n0 (bT (by rw[List.length_set]; exact p0) (bB q5 (bT (decide_eq_true (by rw[List.length_set,List.length_set,hlen])) ?_)))))))))))))))))))))
    rw[du,w0]
   ·by_cases e:m=j
    ·subst e; exact hk
    ·exact h2 m qC (by omega) P9
  ·refine⟨j+1,Nat.le_refl _,out ?_,fun y hy=>?_,fun m h1 h2=>by omega⟩
   ·exact bT (decide_eq_true (by omega)) (bT (aO _) (bT p1 (bB q1 (bT n0 (bT p0 (bB q0 (bB hb (bF (by rw[ht]; exact decide_eq_false hk) (bT (decide_eq_true hlen) rfl)))))))))
   ·have hle:key s[j]≤key x:=Rat.not_lt.1 hk
    rw[e1]at hy
    rcases List.mem_append.1 hy with hy|hy
    ·obtain⟨m,hm,rfl⟩:=List.getElem_of_mem hy
     rw[hA]at hm
     rw[List.getElem_take]
     exact Rat.le_trans ((List.pairwise_iff_getElem.1 hs) m j (by omega) (by omega) hm) hle
    ·rw[List.mem_singleton.1 hy]; exact hle
noncomputable def TS(cmp:α→α→Option β)(tst:β→Bool)(a b:Int)(L:Nat):Int×List α→Option ((Int×List α) ⊕ (Int×List α)):=fun ((i28,yB):Int×List α)=>
 bif decide (i28<b) then
  (aI (TR cmp tst a yB.length) (i28,yB)).bind fun (i39,VM)=>
  bif decide (VM.length=L) then
   some (Sum.inl (IntKind.i64.wrap (i28+1),VM))
  else
   none
 else
  bif decide (yB.length=L) then
   some (Sum.inr (i28,yB))
  else
   none
theorem B3{l:List α}(h62:l.length≤2^40)(hU:∀ y∈l,U y):∀ k s rest,k=rest.length→l.Perm (s++rest)→1≤s.length∨l=[]→s.Pairwise (fun a b=>key a≤key b) →
  ∃ i r,aI (TS cmp tst 0 (l.length:Int) l.length) (if l=[] then 1 else (s.length:Int),s++rest)=some (i,r)∧l.Perm r∧r.Pairwise fun a b=>key a≤key b
 |0,s,rest,hk,hp,h1,hs=>by
  obtain rfl:=List.eq_nil_of_length_eq_zero hk.symm
  rw[List.append_nil]at hp ⊢
  refine⟨_,s,out (bF (decide_eq_false ?_) (bT (decide_eq_true hp.length_eq.symm) rfl)),hp,hs⟩
  have:=hp.length_eq
  split
  ·rename_i e; subst e; simp
  ·omega
 |k+1,s,rest,hk,hp,h1,hs=>by
  cases rest with
  |nil=>simp at hk
  |cons x rest=>
   have hlen:=hp.length_eq
   simp only[List.length_append,List.length_cons]at hlen
   have dA:l≠[]:=by intro e; subst e; simp at hlen
   rw[if_neg dA]
   have hUs:∀ y∈s,U y:=fun y hy=>hU y (hp.symm.subset (List.mem_append_left _ hy))
   have hUx:U x:=hU x (hp.symm.subset (List.mem_append_right _ (List.mem_cons_self)))
   obtain⟨p,vM,aU,g1,g2⟩:=LP B2 (rest:=rest) (x:=x) (L:=(s++x::rest).length) (by simp; omega) (by simp; omega) hs hUs hUx s.length (Nat.le_refl _)
   rw[List.take_length,List.drop_length,List.nil_append]at aU
   have VO:l.Perm ((s.take p++x::s.drop p)++rest):=by
    refine hp.trans ?_
    have e1:(s++x::rest).Perm (x::(s++rest)):=List.perm_middle
    have e2:((s.take p++x::s.drop p)++rest).Perm (x::(s++rest)):=by
     have:((s.take p++x::s.drop p)++rest).Perm ((x::(s.take p++s.drop p))++rest):=List.perm_middle.append_right _
     rwa [List.take_append_drop]at this
    exact e1.trans e2.symm
   obtain⟨i,r,hr,BU⟩:=B3 h62 hU k (s.take p++x::s.drop p) rest (by simpa using hk) VO (.inl (by simp; omega)) (F8 hs g1 fun y hy=>by
    obtain⟨m,hm,rfl⟩:=List.getElem_of_mem hy
    rw[List.getElem_drop]
    rw[List.length_drop]at hm
    exact Rat.le_of_lt (g2 (p+m) (by omega) (by omega) (by omega)))
   refine⟨i,r,(next (y:=(((s.take p++x::s.drop p).length:Int),(s.take p++x::s.drop p)++rest)) ?_).trans (by rw[if_neg dA]at hr; exact hr),BU⟩
   have m9:s.length+1=(s.take p++x::s.drop p).length:=by simp; omega
   refine bT (decide_eq_true (by omega)) (bB aU (bT (decide_eq_true (by have:=VO.length_eq; simp at this ⊢; omega)) ?_))
   rw[eF (by omega),←m9,List.append_assoc]; rfl
end
theorem DT{α β:Type}{cmp:α→α→Option β}{tst:β→Bool}{key:α→Rat}{U:α→Prop}(B2:∀ x y,U x→U y→∃ b,cmp x y=some b∧tst b=decide (key x<key y))
  {l:List α} (h62:l.length≤2^40) (hU:∀ y∈l,U y):∃ i r,aI (TS cmp tst 0 (l.length:Int) l.length) (1,l)=some (i,r)∧l.Perm r∧r.Pairwise fun a b=>key a≤key b:=by
 cases l with
 |nil=>exact B3 B2 h62 hU 0 [] [] rfl (List.Perm.refl _) (.inr rfl) List.Pairwise.nil
 |cons x l=>
  have:=B3 B2 h62 hU l.length [x] l rfl (List.Perm.refl _) (.inl (Nat.le_refl _)) (List.pairwise_singleton _ _)
  rw[if_neg (by simp)]at this
  exact this
end Go.Proofs.Ytedjbjphpnkpoaa
end
section
/- Plain facts of this seat: the law MaxminFairest. -/
set_option maxRecDepth 100000
set_option maxHeartbeats 4000000
namespace Go.Proofs.Ytedjbjphpnkpoaa
open Go.PI Go.Pl Go.Mm
theorem OP{e:Option Bool}(h:∃ r,e=some r∧r=true):e=some true:=by
 obtain⟨r,h1,h2⟩:=h
 rw[h1,h2]
theorem HH:∀ k:Nat,k≤8→∃ i,aa.tW (IntKind.u64.wrap (k:Int))=some i
 |0,_|1,_|2,_|3,_|4,_|5,_|6,_|7,_|8,_=>⟨_,rfl⟩
 |n+9,h=>by omega
def kR(r:aj):Rat:=mkRat r.dW r.Den.toNat
theorem HI(q:Rat):kR (iT q)=q:=by
 show mkRat q.num (q.den:Int).toNat=q
 rw[Int.toNat_natCast,Rat.mkRat_self]
theorem TT(a b:Int):aa.qb a b=some (decide (a<b)):=by
 unfold aa.qb
 have h:∀ x:Int,aa.jW x=some false:=fun x=>congrArg some (by simp)
 exact bB (h _) (bF rfl rfl)
theorem DU{γ:Type}{l:List γ}{N:Nat}{f:Nat→γ}(hl:l.length=N)(h:∀ i,i<N→l[i]?=some (f i)):l=(List.range N).map f:=by
 apply List.ext_getElem (by simp[hl])
 intro i h1 h2
 have:=h i (by omega)
 rw[List.getElem?_eq_getElem h1]at this
 simpa using Option.some.inj this
theorem zR(n:cw)(parts:List Int)(ky:Int)(hw:n.af.length≤2^63-1)(hp:∀ y∈parts,0≤y∧y≤65535)(hd:0≤ky∧ky≤255):aa.eK n parts ky=some true:=by
 unfold aa.eK
 obtain⟨b2,hf,hlen⟩:=TD n hw
 refine bB (v:=true) rfl (bB hf ?_)
 cases b2 with
 |false=>rfl
 |true=>
 obtain⟨_,_,_,h4⟩:=hlen rfl
 refine bT rfl (bB (Lz fun l hl=>by have:=h4 l hl; omega) ?_)
 cases hb:vN n with
 |false=>rfl
 |true=>
 have hv:=HC hb
 have hF:=hv.nf
 obtain⟨d,hde,d1,d2⟩:∃ d,IntKind.i64.wrap (1+(IntKind.i64.wrap ky).tmod 60)=d∧1≤d∧d≤60:=by
  have t0:=Int.tmod_nonneg (a:=ky) 60 hd.1
  have t1:=Int.tmod_lt_of_pos ky (show (0:Int)<60 by omega)
  refine⟨_,rfl,?_,?_⟩<;>rw[cI (n:=ky) (by omega) (by omega),cI (by omega) (by omega)]<;>omega
 rw[hde]
 refine bF rfl (OP ?_)
 have hL:=hv.nc
 refine dX (P8 (by omega) (Nat.le_refl _)) (B0 n.aQ.length (fun k s=>s.1=(k:Int)∧s.2.length=n.aQ.length∧∀ l,l<n.aQ.length→s.2[l]?=some (if l<k then n.aQ[l]?.getD 0*d else 0)) (fun w=>w.2.length=n.aQ.length∧∀ l,l<n.aQ.length→w.2[l]?=some (n.aQ[l]?.getD 0*d)) ?_ ?_ ?_ ?_)
 ·rintro k ⟨a,s⟩ hk ⟨e,hl,hs⟩
  obtain rfl:a=(k:Int):=e
  have je:s.length=n.aQ.length:=hl
  have hc:=hv.c _ (List.getElem_mem hk)
  have m1:=ma (a:=n.aQ[k]) (b:=d) (by omega) (by omega) (by omega) (by omega)
  have w1:IntKind.i64.wrap (n.aQ[k]*d)=n.aQ[k]*d:=cI (by omega) (by omega)
  have TU:k<s.length:=by omega
  refine dX (dC hk) (dX (aO k) (mb (get_at hk) (dX (aO k) (dX (decide_eq_true (by rw[Int.toNat_natCast]; exact TU)) (mb (v:=s[k]) (by rw[Nat.zero_add]; exact get_at TU) ?_)))))
  rw[w1]
  refine dX (decide_eq_true (by rw[List.length_set,je,List.length_replicate,Int.toNat_natCast])) ⟨_,rfl,_,rfl,eF (by omega),by show (s.set _ _).length=_; rw[List.length_set]; exact je,fun l hl=>?_⟩
  show (s.set (0+(k:Int).toNat) (n.aQ[k]*d))[l]?=_
  rw[Nat.zero_add,Int.toNat_natCast,B1 TU]
  by_cases e:l=k
  ·subst e
   rw[if_pos rfl,if_pos (Nat.lt_succ_self _),List.getElem?_eq_getElem hk]; rfl
  ·rw[if_neg e,hs l hl]
   by_cases e2:l<k
   ·rw[if_pos e2,if_pos (by omega)]
   ·rw[if_neg e2,if_neg (by omega)]
 ·rintro⟨a,s⟩ ⟨e,hl,hs⟩
  obtain rfl:a=(n.aQ.length:Int):=e
  have je:s.length=n.aQ.length:=hl
  exact DJ (eC _) (dX (decide_eq_true (by rw[je,List.length_replicate,Int.toNat_natCast])) ⟨_,rfl,_,rfl,je,fun l hl=>by have:=hs l hl; rw[if_pos hl]at this; exact this⟩)
 ·refine⟨rfl,by show (List.replicate _ _).length=_; rw[List.length_replicate,Int.toNat_natCast],fun l hl=>?_⟩
  show (List.replicate _ _)[l]?=_
  rw[List.getElem?_replicate,Int.toNat_natCast,if_pos hl,if_neg (Nat.not_lt_zero _)]
 rintro⟨a,l6⟩ ⟨Xi,hs6⟩
 have OQ:l6.length=n.aQ.length:=Xi
 have hz:∀ j:Nat,(List.replicate ((n.af.length:Nat):Int).toNat (0:Int))[j]?.getD 0=0:=fun j=>by
  rw[List.getElem?_replicate]; split<;>rfl
 refine dX (P8 (by omega) (Nat.le_refl _)) (B0 (min n.af.length parts.length) (fun i s=>s.1=(i:Int)∧Pos n d i s.2.1 s.2.2) (fun w=>∃ i,Pos n d i w.2.1 w.2.2) ?_ ?_ ?_ ?_)
 ·rintro i ⟨a,room,y⟩ hi ⟨e,h⟩
  obtain rfl:a=(i:Int):=e
  have VP:i<n.af.length:=by omega
  have Xk:i<parts.length:=by omega
  obtain⟨k,gk,ek,eh,k0,k1⟩:=hv.lO VP
  have ZQ:n.aG[(i:Int).toNat]?=some k:=by rw[Int.toNat_natCast]; exact gk
  refine dX (dC VP) (dX (dC Xk) (dX (aO i) (mb ZQ ?_)))
  by_cases dV:0<k
  ·have m1:k*d≤1000*d:=Int.mul_le_mul_of_nonneg_right k1 (by omega)
   have m0:0≤k*d:=Int.mul_nonneg k0 (by omega)
   have w1:IntKind.i64.wrap (k*d)=k*d:=cI (by omega) (by omega)
   refine dX (decide_eq_true dV) (dX (aO i) (mb ZQ ?_))
   show ∃ r,HF n parts l6 (i:Int) room y (IntKind.i64.wrap (k*d))=some r∧_
   rw[w1]
   exact DQ hb hp OQ VP Xk h m0 (by omega) (fun _=>by rw[ek,Rat.intCast_mul]; exact Rat.le_refl)
  ·refine DJ (decide_eq_false dV) ?_
   show ∃ r,HF n parts l6 (i:Int) room y (IntKind.i64.wrap (1000*d))=some r∧_
   rw[cI (n:=1000*d) (by omega) (by omega)]
   exact DQ hb hp OQ VP Xk h (by omega) (by omega) (fun hh=>by rw[eh]at hh; exact absurd (of_decide_eq_true hh) dV)
 ·rintro⟨a,room,y⟩ ⟨e,h⟩
  obtain rfl:a=((min n.af.length parts.length:Nat):Int):=e
  have hr:(decide (room.length=l6.length))=true:=decide_eq_true (by rw[h.rl,OQ])
  have hy:(decide (y.length=(List.replicate ((n.af.length:Nat):Int).toNat (0:Int)).length))=true:=decide_eq_true (by rw[h.yl,List.length_replicate,Int.toNat_natCast])
  by_cases hm:n.af.length≤parts.length
  ·exact DJ (decide_eq_false (by omega)) (dX hr (dX hy ⟨_,rfl,_,rfl,_,h⟩))
  ·exact dX (decide_eq_true (by omega)) (DJ (decide_eq_false (by omega)) (dX hr (dX hy ⟨_,rfl,_,rfl,_,h⟩)))
 ·refine⟨rfl,OQ,by show (List.replicate _ _).length=_; rw[List.length_replicate,Int.toNat_natCast],fun j hj=>?_,fun j _ hj=>?_,fun l hl=>?_⟩
  ·obtain⟨k,gk,ek,eh,k0,k1⟩:=hv.lO hj
   refine⟨0,?_,Int.le_refl _,by omega,fun _=>?_⟩
   ·show (List.replicate _ _)[j]?=_
    rw[List.getElem?_replicate,Int.toNat_natCast,if_pos hj]
   ·rw[ek,←Rat.intCast_mul]
    exact_mod_cast Int.mul_nonneg k0 (by omega)
  ·show (List.replicate _ _)[j]?=_
   rw[List.getElem?_replicate,Int.toNat_natCast,if_pos hj]
  ·obtain⟨hc,c0,c1⟩:=hv.cap hl
   have h6:=hs6 l hl
   have m1:n.aQ[l]*d≤1000*d:=Int.mul_le_mul_of_nonneg_right c1 (by omega)
   have m0:0≤n.aQ[l]*d:=Int.mul_nonneg c0 (by omega)
   rw[List.getElem?_eq_getElem hl]at h6
   refine⟨n.aQ[l]*d,h6,m0,by omega,?_⟩
   show _+sm (nx n l) (fun j=>(((List.replicate ((n.af.length:Nat):Int).toNat (0:Int))[j]?.getD 0:Int):Rat)) _=_
   simp only[hz]
   rw[yu,hc,Rat.intCast_mul]
   simp[Rat.add_zero]
 ·rintro⟨a,room,y⟩ ⟨i,h⟩
  refine⟨true,?_,rfl⟩
  have dV:Pos n d i room y:=h
  obtain⟨xs,x,hx⟩:=Gc hb
  have FM:=hx.len
  have JP:y.length=n.af.length:=dV.yl
  have TW:(0:Rat)<(d:Rat):=by exact_mod_cast d1
  obtain⟨e,he⟩:∃ e:Rat,e*(d:Rat)=1:=⟨(d:Rat)⁻¹,Rat.inv_mul_cancel _ fun h=>by rw[h]at TW; exact absurd TW (Rat.lt_irrefl)⟩
  have QD:0≤e:=by
   apply Classical.byContradiction
   intro hc
   have:=Rat.mul_lt_mul_of_pos_right (a:=e) (b:=0) (by grind) TW
   rw[he,Rat.zero_mul]at this
   exact absurd this (by decide)
  have Rn:∀ a b:Rat,a<e*b↔a*(d:Rat)<b:=fun a b=>by
   rw[←Rat.mul_lt_mul_right TW (b:=e*b),show e*b*(d:Rat)=b by grind]
  have LQ:∀ a b:Rat,e*b<a↔b<a*(d:Rat):=fun a b=>by
   rw[←Rat.mul_lt_mul_right TW (a:=e*b),show e*b*(d:Rat)=b by grind]
  have TX:∀ a b:Rat,b≤a*(d:Rat)→e*b≤a:=fun a b h=>by
   apply Rat.not_lt.1
   intro hc
   have:=(Rn a b).1 hc
   grind
  let vv:Nat→Int:=fun j=>y[j]?.getD 0
  have VQ:∀ j,j<n.af.length→y[j]?=some (vv j)∧0≤vv j∧vv j≤60000∧((cj n).has j=true→((vv j:Int):Rat)≤(cj n).k j*(d:Rat)):=fun j hj=>by
   obtain⟨v,h1,h2⟩:=dV.yv j hj
   have h3:vv j=v:=by show y[j]?.getD 0=v; rw[h1]; rfl
   rw[h3]; exact⟨h1,h2⟩
  have Vz:Ov (cj n) (fun j=>e*((vv j:Int):Rat)):=by
   refine⟨fun j hj=>Rat.mul_nonneg QD (by exact_mod_cast (VQ j hj).2.1),fun j hj hh=>TX _ _ ((VQ j hj).2.2.2 hh),fun l hl=>?_⟩
   obtain⟨r,_,r0,_,hr⟩:=dV.rm l hl
   show sm (nx n l) (fun j=>e*((vv j:Int):Rat)) n.af.length≤_
   rw[DE]
   apply TX
   have CQ:(0:Rat)≤(r:Rat):=by exact_mod_cast r0
   have kL:(r:Rat)+sm (nx n l) (fun j=>((vv j:Int):Rat)) n.af.length=(cj n).c l*(d:Rat):=hr
   grind
  have gx:xs=(List.range n.af.length).map fun i=>iT (x i):=DU FM fun i hi=>hx.get i hi
  have gy:y=(List.range n.af.length).map vv:=DU JP fun i hi=>(VQ i hi).1
  obtain⟨c1,Kb⟩:=HH xs.length (by omega)
  obtain⟨c2,NB⟩:=HH y.length (by omega)
  obtain⟨i1,r1,s1,p1,o1⟩:=DT (cmp:=aa.fK) (tst:=fun i=>decide (i<0)) (key:=kR) (U:=fun r=>∃ i,i<n.af.length∧r=iT (x i))
   (fun a b ⟨i,hi,ea⟩ ⟨j,hj,eb⟩=>⟨zO (x i) (x j),by rw[ea,eb]; exact bB (ON (hx.fit i hi).1 (hx.fit j hj).1) rfl,by
     rw[ea,eb,HI,HI]
     show decide (zO (x i) (x j)<0)=_
     unfold zO
     by_cases hl:x i<x j
     ·rw[if_pos hl,decide_eq_true hl]; rfl
     ·rw[if_neg hl,decide_eq_false hl]; split<;>rfl⟩)
   (l:=xs) (by omega) (fun r hr=>by
     rw[gx]at hr
     obtain⟨i,hi,rfl⟩:=List.mem_map.1 hr
     exact⟨i,List.mem_range.1 hi,rfl⟩)
  obtain⟨i2,r2,s2,p2,o2⟩:=DT (cmp:=aa.qb) (tst:=fun b=>b) (key:=fun v:Int=>(v:Rat)) (U:=fun _=>True)
   (fun a b _ _=>⟨_,TT a b,by rw[decide_eq_decide]; exact Rat.intCast_lt_intCast.symm⟩) (l:=y) (by omega) (fun _ _=>trivial)
  have qB:r1.length=n.af.length:=by rw[←p1.length_eq]; exact FM
  have pf:r2.length=n.af.length:=by rw[←p2.length_eq]; exact JP
  have kM:aa.jv xs=some xs:=bT (by unfold AM; simp only[Bool.and_eq_true,decide_eq_true_eq]; omega) rfl
  have ZR:∀ k:Nat,k≤8→decide (IntKind.i64.wrap ((k:Int)-0)≤12)=true:=fun k hk=>decide_eq_true (by rw[cI (by omega) (by omega)]; omega)
  refine bB hx.e (bF rfl (bF (by rw[FM,JP]; simp) (bB kM (bB Kb (bB (v:=r1) (out (bT (ZR _ (by omega)) (bB s1 (bT (decide_eq_true (by rw[qB,FM])) rfl)))) (bB NB (bB (v:=r2) (out (bT (ZR _ (by omega)) (bB s2 (bT (decide_eq_true (by rw[pf,JP])) rfl)))) ?_)))))))
  have hA:(r1.map kR).Perm ((List.range n.af.length).map x):=by
   refine(p1.symm.map kR).trans ?_
   rw[gx,List.map_map]
   have:(kR∘fun i=>iT (x i))=x:=funext fun i=>HI (x i)
   rw[this]
  have hB:(r2.map fun v:Int=>e*(v:Rat)).Perm ((List.range n.af.length).map fun j=>e*((vv j:Int):Rat)):=by
   refine(p2.symm.map _).trans ?_
   rw[gy,List.map_map]
   exact List.Perm.refl _
  have sA:(r1.map kR).Pairwise (·≤·):=List.pairwise_map.2 o1
  have sB:(r2.map fun v:Int=>e*(v:Rat)).Pairwise (·≤·):=List.pairwise_map.2 (o2.imp fun h=>Rat.mul_le_mul_of_nonneg_left h QD)
  have g1:∀ k (hk:k<n.af.length),∃ i,i<n.af.length∧r1[k]?=some (iT (x i)):=fun k hk=>by
   have bL:k<r1.length:=by omega
   have hm:=p1.symm.subset (List.getElem_mem bL)
   generalize hv:r1[k]=v at hm
   rw[gx]at hm
   obtain⟨i,hi,e1⟩:=List.mem_map.1 hm
   exact⟨i,List.mem_range.1 hi,by rw[List.getElem?_eq_getElem bL,hv,e1]⟩
  have g2:∀ k (hk:k<n.af.length),∃ v,0≤v∧v≤60000∧r2[k]?=some v:=fun k hk=>by
   have bL:k<r2.length:=by omega
   have hm:=p2.symm.subset (List.getElem_mem bL)
   generalize hv:r2[k]=v at hm
   rw[gy]at hm
   obtain⟨i,hi,e1⟩:=List.mem_map.1 hm
   have h2:=VQ i (List.mem_range.1 hi)
   exact⟨vv i,h2.2.1,h2.2.2.1,by rw[List.getElem?_eq_getElem bL,hv,e1]⟩
  have key:∀ m k,m=n.af.length-k→k≤n.af.length→(r1.map kR).take k=(r2.map fun v:Int=>e*(v:Rat)).take k →
    ∃ w,aI (ω:=Bool ⊕ Bool×Int) (fun ((LR,i108):Bool×Int)=>
         bif decide (i108<(↑r1.length:Int)) then
          bif decide (0≤i108) then
           bif decide (i108.toNat<r1.length) then
            (r1[0+i108.toNat]?).bind fun Ro=>
            bif decide (0≤i108) then
             bif decide (i108.toNat<r2.length) then
              (r2[0+i108.toNat]?).bind fun i110=>
              (aa.gh Ro i110 d).bind fun i111=>
              bif !i111==0 then
               bif true then
                some (Sum.inr (Sum.inl (decide (0<i111))))
               else
                some (Sum.inr (Sum.inl false))
              else
               some (Sum.inl (LR,IntKind.i64.wrap (i108+1)))
             else
              none
            else
             none
           else
            none
          else
           none
         else
          some (Sum.inr (Sum.inr (LR,i108)))) (false,(k:Int))=some w∧(w=.inl true∨∃ p,w=.inr p):=by
   intro m
   induction m with
   |zero=>
    intro k hm hk _
    obtain rfl:k=n.af.length:=by omega
    exact⟨_,out (bF (decide_eq_false (by omega)) rfl),.inr ⟨_,rfl⟩⟩
   |succ m ih=>
    intro k hm hk Oy
    have CP:k<n.af.length:=by omega
    obtain⟨i,hi,e1⟩:=g1 k CP
    obtain⟨v,v0,v1,e2⟩:=g2 k CP
    have q1:r1[0+(k:Int).toNat]?=some (iT (x i)):=by rw[Nat.zero_add,Int.toNat_natCast]; exact e1
    have q2:r2[0+(k:Int).toNat]?=some v:=by rw[Nat.zero_add,Int.toNat_natCast]; exact e2
    have t1:decide ((k:Int).toNat<r1.length)=true:=decide_eq_true (by rw[Int.toNat_natCast]; omega)
    have t2:decide ((k:Int).toNat<r2.length)=true:=decide_eq_true (by rw[Int.toNat_natCast]; omega)
    have B2:=DS (hx.fit i hi).1 v0 v1 d1 d2
    have a1:(r1.map kR)[k]?=some (x i):=by rw[List.getElem?_map,e1]; show some (kR (iT (x i)))=_; rw[HI]
    have a2:(r2.map fun v:Int=>e*(v:Rat))[k]?=some (e*(v:Rat)):=by rw[List.getElem?_map,e2]; rfl
    have la:k<(r1.map kR).length:=by rw[List.length_map]; omega
    have lb:k<(r2.map fun v:Int=>e*(v:Rat)).length:=by rw[List.length_map]; omega
    have b1:(r1.map kR)[k]=x i:=by rw[List.getElem?_eq_getElem la]at a1; exact Option.some.inj a1
    have b2:(r2.map fun v:Int=>e*(v:Rat))[k]=e*(v:Rat):=by rw[List.getElem?_eq_getElem lb]at a2; exact Option.some.inj a2
    by_cases hz:(x i).num*d-v*((x i).den:Int)=0
    ·have SA:x i=e*(v:Rat):=by
      have n1:¬x i<e*(v:Rat):=fun h=>by have:=LO.2 ((Rn _ _).1 h); omega
      have n2:¬e*(v:Rat)<x i:=fun h=>by have:=Gd.2 ((LQ _ _).1 h); omega
      grind
     obtain⟨w,Fh,Rp⟩:=ih (k+1) (by omega) (by omega) (by
      rw[List.take_succ_eq_append_getElem la,List.take_succ_eq_append_getElem lb,Oy,b1,b2,SA])
     refine⟨w,(next (y:=(false,((k+1:Nat):Int))) (bT (decide_eq_true (by omega)) (bT (aO k) (bT t1 (bB q1 (bT (aO k) (bT t2 (bB q2 (bB B2 (bF (by rw[hz]; rfl) (by rw[eF (by omega)]))))))))))).trans Fh,Rp⟩
    ·have PM:=Ox hx.fair Vz hA hB sA sB la lb Oy (by
      rw[b1,b2]
      intro h
      have n1:¬x i<e*(v:Rat):=by rw[h]; exact Rat.lt_irrefl
      have n2:¬e*(v:Rat)<x i:=by rw[h]; exact Rat.lt_irrefl
      have m1:¬(x i).num*d<v*((x i).den:Int):=fun h=>n1 ((Rn _ _).2 (LO.1 h))
      have m2:¬v*((x i).den:Int)<(x i).num*d:=fun h=>n2 ((LQ _ _).2 (Gd.1 h))
      omega)
     rw[b1,b2]at PM
     have hc:=Gd.2 ((LQ _ _).1 PM)
     refine⟨_,out (bT (decide_eq_true (by omega)) (bT (aO k) (bT t1 (bB q1 (bT (aO k) (bT t2 (bB q2 (bB B2 (bT (by simp; omega) (bT rfl rfl)))))))))),.inl (by rw[decide_eq_true (by omega)])⟩
  obtain⟨w,Fh,Rp⟩:=key n.af.length 0 rfl (Nat.zero_le _) rfl
  refine bB Fh ?_
  rcases Rp with rfl|⟨p,rfl⟩
  ·rfl
  ·rfl
end Go.Proofs.Ytedjbjphpnkpoaa
end
section
/- The law MaxminFairest: its row. -/
namespace Go.Proofs.Ytedjbjphpnkpoaa.rR
open Go.PI Go.ChangeShapes Go.WideShapes Go.ChangeAt Go.RowKit
theorem own:ownKnob Try.prog.godebug=none:=by kernel_rfl
theorem laidOut:laidOutB Try.prog=true:=by kernel_rfl
theorem okWide_struct{P:Program}{w:World}{r:Reach}{base:Nat}{t:TypeId}{v:Value}{fs:Array Field}(ht:P.underlying t=some (.struct fs))(h:Value.okWide P w r base t v):∃ cs,v=.agg cs:=by
 unfold Value.okWide at h
 rw[ht]at h
 obtain⟨cs,h,_⟩:=h
 exact⟨cs,h⟩
theorem Po{E:Env}{l:List AV}{cs:Array Value}(h:aF E false l (Value.agg cs).cells.toList):ak E false (.agg l) (.agg cs):=by
 simp only[ak]
 exact⟨cs.toList,by simp,by simpa[Value.cells] using h⟩
theorem Jv{E:Env}{l:List AV}{a:Option Addr}{len cap:Nat}(h:aF E false l (Value.slice a len cap).cells.toList){x:AV}(hl:l=[x]):ak E false x (.slice a len cap):=by
 subst hl
 have h2:ak E false x (Value.slice a len cap)∧iH (Value.slice a len cap)=true:=by simpa[Value.cells,aF] using h
 exact h2.1
set_option maxRecDepth 100000 in
theorem walk(W:World)(UH:Array Value)(UI:Option Addr)(MO MP:Nat)(a2:Int){l0:List AV}{l1:List AV}(e0:aF (Env.all W) false l0 (Value.agg UH:Value).cells.toList)(e1:aF (Env.all W) false l1 (Value.slice UI MO MP:Value).cells.toList){n0:Nat}(s0:Shape Try.prog n0 25 l0){n1:Nat}(s1:Shape Try.prog n1 36 l1)(Rp:(Lit.int .u8 a2).wf=true):Calls Try.prog 9 #[.agg UH,.slice UI MO MP,.int .u8 a2] W fun e w'=>e=.returned (.bool true)∧Below W.heap.size W w':=by
 obtain⟨x0,w0,r0⟩:=Yt (iC (show Try.prog.underlying 25=Try.prog.underlying 24 by kernel_rfl) s0)
 obtain⟨x1,w1,b1,qB,r1⟩:=Yu s1
 have hs:qn C T 9 ⟨[25,36,5],[4],fun x=>Go.aa.eK x.1 x.2.1 x.2.2⟩:=Pn s57 rfl
 refine MN Cok hs rfl (x:=(x0,x1,a2)) (y:=true) (zR x0 x1 a2 (Nat.le_trans w0.2.1.1 (by decide)) (fun y hy=>w1.2 y hy) (by simpa[Lit.wf,IntKind.min,IntKind.max,IntKind.signed,IntKind.bits] using Rp)) ?_ («as»:=[.agg l0,b1,.lit (.int .u8 a2)]) ⟨r0,r1,rfl,trivial⟩ (show m6 (Env.all W) from fun b c h=>by cases h) (vs:=[.agg UH,.slice UI MO MP,.int .u8 a2]) ?_
 ·intro l hl
  match l,hl with
  |[a],hl=>have:a=.lit (.bool true):=hl.1; rw[this]
  |[],hl=>exact False.elim hl
  |_::_::_,hl=>exact False.elim hl.2
 ·simp only[an]
  exact⟨Po e0,Jv e1 qB,by simp[ak],trivial⟩
set_option maxRecDepth 100000 in
theorem lifted(os:Os)(started:os.Started)(H:Type)(enc:TypeId×Value→H):
  ReturnsInHanded {} Try.checked os 9 .any (Rows.maxminFairestSpec.pre6 enc Try.prog Try.f9 Rows.maxminFairestRow.domain false) (Rows.maxminFairestSpec.post enc Try.prog Try.f9 false true false false):=by
 refine returnsInHanded_of_change_sized (C:=Try.checked) own started (by kernel_rfl) Try.func9
  (ChangeSpec.witness6 (enc:=enc) (C:=Try.checked) false ⟨#[],#[.agg #[.slice none 0 0,.slice none 0 0,.slice none 0 0],.slice none 0 0,.int .u8 0],[]⟩ 8 (by kernel_rfl) (by kernel_rfl) (by kernel_rfl) (by kernel_rfl)) ?_
 intro W base args ds gs before Qs hW Kd Yv _
 have Pp:∀ (j:Nat) t v,Try.f9.params[j]?=some t→args[j]?=some v→Value.okWide Try.prog W .any base t v:=Qs
 have hW':=hW
 obtain⟨p,q,hA0,hV,rfl,Ka,AE⟩:=hW
 have hA:DataW.TrodAll enc Try.prog W 0 (fun _=>true) true Try.f9.params.toList args.toList ds p:=hA0
 rw[Try.params9]at hA Pp
 obtain⟨v0,vs0,d0,ds0,p0,q0,jo,rfl,rfl,h0,r0⟩:=trodAll_cons hA
 obtain⟨v1,vs1,d1,ds1,p1,q1,rfl,rfl,rfl,h1,r1⟩:=trodAll_cons r0
 obtain⟨v2,vs2,d2,ds2,p2,q2,rfl,rfl,rfl,h2,r2⟩:=trodAll_cons r1
 obtain⟨rfl,rfl,rfl⟩:=trodAll_nil r2
 obtain rfl:args=#[v0,v1,v2]:=by cases args; simp_all
 obtain⟨rfl,rfl⟩:=trodVars_none hV
 obtain⟨UH,rfl⟩:=okWide_struct Try.underlying25 (Pp 0 25 v0 rfl rfl)
 obtain⟨UI,MO,MP,rfl⟩:=Go.WideShapes.okWide_slice Try.underlying36 (Pp 1 36 v1 rfl rfl)
 obtain⟨a2,rfl,rfl,rfl,w2⟩:=open_int Try.underlying5 (Pp 2 5 v2 rfl rfl) h2
 have k0:=h0
 have lt0:∀ x∈p0,x.block<W.heap.size:=by obtain⟨m,hm⟩:=k0; exact DataW.trod_lt m _ _ _ hm
 have k1:=h1
 have lt1:∀ x∈p1,x.block<W.heap.size:=by obtain⟨m,hm⟩:=k1; exact DataW.trod_lt m _ _ _ hm
 obtain⟨f0,hf0⟩:=h0
 obtain⟨l0,e0,s0⟩:=G6 f0 10 25 _ _ (by kernel_rfl) hf0
 obtain⟨f1,rz⟩:=h1
 obtain⟨l1,e1,s1⟩:=G6 f1 10 36 _ _ (by kernel_rfl) rz
 clear hA0 Qs Yv
 refine(walk W UH UI MO MP a2 e0 e1 s0 s1 w2).mono fun e W' ⟨he,Yw⟩=>?_
 subst he
 exact⟨_,rfl,_,_,_,[],_,[],hW',trodAll_mk1 (shut_bool Try.underlying4 _),(trodAll_cons_mk (Below.trod laidOut (by kernel_rfl) (of_decide_eq_true (by kernel_rfl)) k0 Yw lt0) (trodAll_cons_mk (Below.trod laidOut (by kernel_rfl) (of_decide_eq_true (by kernel_rfl)) k1 Yw lt1) (trodAll_cons_mk (shut_int Try.underlying5 w2) trodAll_mk0))),rfl,Yw.frame _,fun h=>by cases h⟩
theorem hJ:Rows.maxminFairestRow.holds Try.pinned (OpenSpec.ofChange Rows.maxminFairestSpec):=
 OpenClaim.holds_of_wide 9 Try.f9 rfl rfl rfl rfl rfl rfl rfl ⟨rfl,rfl,rfl,rfl,rfl⟩ rfl rfl rfl rfl rfl (by kernel_rfl) Try.func9 (by kernel_rfl)
  (of_decide_eq_true (by kernel_rfl)) (by unfold Func.isWrapper; first|(rw[if_pos (by decide +kernel)]; kernel_rfl)|(rw[if_neg (by decide +kernel)]; exact⟨rfl,rfl⟩))
  (fun os started H enc _=>lifted os started H enc)
theorem proved:Rows.MaxminFairestSaid:=hJ
end Go.Proofs.Ytedjbjphpnkpoaa.rR
namespace Go.Proofs.Ytedjbjphpnkpoaa
theorem maxminFairest_holds:Rows.MaxminFairestSaid:=rR.proved
end Go.Proofs.Ytedjbjphpnkpoaa
end
