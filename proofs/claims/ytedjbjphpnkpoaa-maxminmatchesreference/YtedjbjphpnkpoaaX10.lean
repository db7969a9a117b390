/- The law MaxminMatchesReference returns true for every input, and each argument reads as it read before; no conditions. This file: the row, last of the parts. -/
import Derived.IntWalk
import Derived.KernelRfl
import Derived.Test.YtedjbjphpnkpoaaRows
import Derived.WalkKit
import Derived.ProofKit
import Derived.OpenShut
import Derived.ShutString
import Derived.ChangeOld
import Derived.Below
import Derived.SizedLaws
import Derived.Test.YtedjbjphpnkpoaaX9
set_option linter.unusedVariables false
set_option linter.unusedSimpArgs false
section
/- Max-min fair rates, without a program: what makes rates fair, and that there is one choice of them. -/
namespace Go.Mm
def sm(p:Nat→Bool)(x:Nat→Rat):Nat→Rat
 |0=>0
 |n+1=>sm p x n+bif p n then x n else 0
structure xi where
 F:Nat
 L:Nat
 on:Nat→Nat→Bool
 c:Nat→Rat
 has:Nat→Bool
 k:Nat→Rat
structure Ts(N:xi)(x:Nat→Rat):Prop where
 nn:∀ i,i<N.F→0≤x i
 kf:∀ i,i<N.F→N.has i=true→x i≤N.k i
 cap:∀ l,l<N.L→sm (N.on l) x N.F≤N.c l
def zQ(N:xi)(x:Nat→Rat)(i:Nat):Prop:=
 (N.has i=true∧x i=N.k i)∨∃ l,l<N.L∧N.on l i=true∧sm (N.on l) x N.F=N.c l∧∀ j,j<N.F→N.on l j=true→x j≤x i
structure Fair(N:xi)(x:Nat→Rat):Prop where
 sK:Ts N x
 Ds:∀ i,i<N.F→zQ N x i
theorem PJ{p:Nat→Bool}{x y:Nat→Rat}:∀ {n:Nat},(∀ j,j<n→p j=true→x j≤y j)→sm p x n≤sm p y n
 |0,_=>Rat.le_refl
 |n+1,h=>by
  have h1:=PJ (n:=n) fun j hj=>h j (by omega)
  have h2:=h n (by omega)
  simp only[sm]
  cases hp:p n with
  |false=>simp only[cond_false]; grind
  |true=>simp only[cond_true]; have:=h2 hp; grind
theorem PK{p:Nat→Bool}{x y:Nat→Rat}:∀ {n i:Nat},i<n→p i=true→x i<y i→(∀ j,j<n→p j=true→x j≤y j)→sm p x n<sm p y n
 |0,i,h,_,_,_=>by omega
 |n+1,i,hi,hp,hx,h=>by
  simp only[sm]
  by_cases e:i=n
  ·subst e
   have h1:=PJ (n:=i) fun j hj=>h j (by omega)
   rw[hp]; simp only[cond_true]; grind
  ·have h1:=PK (n:=n) (i:=i) (by omega) hp hx fun j hj=>h j (by omega)
   have h2:=h n (by omega)
   cases hp:p n with
   |false=>simp only[cond_false]; grind
   |true=>simp only[cond_true]; have:=h2 hp; grind
theorem mr{p q:Nat→Bool}{x y:Nat→Rat}:∀ {n:Nat},(∀ j,j<n→p j=q j)→(∀ j,j<n→p j=true→x j=y j)→sm p x n=sm q y n
 |0,_,_=>rfl
 |n+1,h,g=>by
  simp only[sm]
  rw[mr (n:=n) (fun j hj=>h j (by omega)) fun j hj=>g j (by omega),←h n (by omega)]
  cases hp:p n with
  |false=>rfl
  |true=>rw[g n (by omega) hp]
theorem Dt{p q:Nat→Bool}{x:Nat→Rat}:∀ {n:Nat},sm p x n=sm (fun i=>p i&&q i) x n+sm (fun i=>p i&&!q i) x n
 |0=>by simp only[sm]; grind
 |n+1=>by
  simp only[sm]
  rw[Dt (q:=q) (n:=n)]
  cases p n<;>cases q n<;>simp only[Bool.and_true,Bool.and_false,Bool.not_true,Bool.not_false,Bool.true_and,Bool.false_and,cond_true,cond_false]<;>grind
theorem Hb{N:xi}{x y:Nat→Rat}(h:Fair N x)(hy:Ts N y){i:Nat}(hi:i<N.F)(bE:x i<y i):∃ j,j<N.F∧x j≤x i∧y j<x j:=by
 rcases h.Ds i hi with ⟨h1,h2⟩|⟨l,hl,jb,QW,Bp⟩
 ·have:=hy.kf i hi h1; exfalso; grind
 ·apply Classical.byContradiction
  intro hc
  have aX:∀ j,j<N.F→N.on l j=true→x j≤y j:=fun j hj ho=>by
   apply Classical.byContradiction
   intro hn
   exact hc ⟨j,hj,Bp j hj ho,by grind⟩
  have h1:=PK hi jb bE aX
  have h2:=hy.cap l hl
  grind
theorem K5(P:Nat→Prop)(f:Nat→Rat):∀ n,(∃ i,i<n∧P i)→∃ i,i<n∧P i∧∀ j,j<n→P j→f i≤f j
 |0,⟨i,hi,_⟩=>by omega
 |n+1,⟨i,hi,hp⟩=>by
  by_cases hex:∃ i,i<n∧P i
  ·obtain⟨m,hm,hpm,rO⟩:=K5 P f n hex
   by_cases hn:P n∧f n<f m
   ·refine⟨n,by omega,hn.1,fun j hj Jt=>?_⟩
    by_cases e:j=n
    ·subst e; exact Rat.le_refl
    ·have:=rO j (by omega) Jt; have:=hn.2; grind
   ·refine⟨m,by omega,hpm,fun j hj Jt=>?_⟩
    by_cases e:j=n
    ·subst e; have:¬f j<f m:=fun h=>hn ⟨Jt,h⟩; grind
    ·exact rO j (by omega) Jt
  ·have:i=n:=by
    apply Classical.byContradiction
    intro e
    exact hex ⟨i,by omega,hp⟩
   subst this
   refine⟨i,by omega,hp,fun j hj Jt=>?_⟩
   by_cases e:j=i
   ·subst e; exact Rat.le_refl
   ·exact absurd ⟨j,by omega,Jt⟩ hex
theorem qk{N:xi}{x y:Nat→Rat}(h:Fair N x)(h':Fair N y):∀ i,i<N.F→x i=y i:=by
 apply Classical.byContradiction
 intro dE
 have hex:∃ i,i<N.F∧x i≠y i:=by
  apply Classical.byContradiction
  intro hc
  exact dE fun i hi=>Classical.byContradiction fun e=>hc ⟨i,hi,e⟩
 obtain⟨i,hi,hd,rO⟩:=K5 (fun i=>x i≠y i) (fun i=>if x i≤y i then x i else y i) N.F hex
 by_cases hle:x i≤y i
 ·obtain⟨j,hj,h1,h2⟩:=Hb h h'.sK hi (by grind)
  have:=rO j hj (by grind)
  grind
 ·obtain⟨j,hj,h1,h2⟩:=Hb h' h.sK hi (by grind)
  have:=rO j hj (by grind)
  grind
/-! ### Filling -/
def ct(p:Nat→Bool):Nat→Nat
 |0=>0
 |n+1=>ct p n+bif p n then 1 else 0
theorem kK{p q:Nat→Bool}:∀ {n:Nat},(∀ j,j<n→p j=q j)→ct p n=ct q n
 |0,_=>rfl
 |n+1,h=>by simp only[ct]; rw[kK (n:=n) fun j hj=>h j (by omega),h n (by omega)]
theorem PL{p q:Nat→Bool}:∀ {n:Nat},(∀ j,j<n→p j=true→q j=true)→ct p n≤ct q n
 |0,_=>Nat.le_refl _
 |n+1,h=>by
  have h1:=PL (n:=n) fun j hj=>h j (by omega)
  have h2:=h n (by omega)
  simp only[ct]
  cases hp:p n with
  |false=>simp only[cond_false]; omega
  |true=>rw[h2 hp]; simp only[cond_true]; omega
theorem nx{p:Nat→Bool}:∀ {n i:Nat},i<n→p i=true→0<ct p n
 |0,i,h,_=>by omega
 |n+1,i,h,hp=>by
  simp only[ct]
  by_cases e:i=n
  ·subst e; rw[hp]; simp only[cond_true]; omega
  ·have:=nx (n:=n) (i:=i) (by omega) hp; omega
theorem Du{p:Nat→Bool}:∀ {n:Nat},0<ct p n→∃ i,i<n∧p i=true
 |0,h=>by simp[ct]at h
 |n+1,h=>by
  simp only[ct]at h
  cases hp:p n with
  |true=>exact⟨n,by omega,hp⟩
  |false=>
   rw[hp]at h
   obtain⟨i,hi,h1⟩:=Du (n:=n) (by simpa using h)
   exact⟨i,by omega,h1⟩
theorem ql{p q:Nat→Bool}:∀ {n:Nat},ct p n=ct (fun i=>p i&&q i) n+ct (fun i=>p i&&!q i) n
 |0=>rfl
 |n+1=>by
  simp only[ct]
  rw[ql (q:=q) (n:=n)]
  cases p n<;>cases q n<;>simp only[Bool.and_true,Bool.and_false,Bool.not_true,Bool.not_false,Bool.true_and,Bool.false_and,cond_true,cond_false]<;>omega
theorem iz{p:Nat→Bool}:∀ {n:Nat},ct p n≤n
 |0=>Nat.le_refl _
 |n+1=>by
  have:=iz (p:=p) (n:=n)
  simp only[ct]
  cases p n<;>simp only[cond_true,cond_false]<;>omega
theorem Dw{p:Nat→Bool}{v:Rat}:∀ {n:Nat},sm p (fun _=>v) n=v*(ct p n:Nat)
 |0=>by simp[sm,ct]
 |n+1=>by
  simp only[sm,ct]
  rw[Dw (n:=n)]
  cases p n
  ·simp only[cond_false,Nat.add_zero]; grind
  ·simp only[cond_true]
   rw[Rat.natCast_add]
   grind
end Go.Mm
namespace Go.Mm
def Dv(P:Nat)(q:Rat):Prop:=∃ n:Int,q*(P:Rat)=n
theorem Dv.mul{P m:Nat}{q:Rat}(h:Dv P q):Dv (P*m) q:=by
 obtain⟨n,hn⟩:=h
 refine⟨n*m,?_⟩
 rw[Rat.natCast_mul,Rat.intCast_mul,Rat.intCast_natCast,←hn]
 grind
theorem Dv.int{P:Nat}(n:Int):Dv P n:=⟨n*P,by rw[Rat.intCast_mul,Rat.intCast_natCast]⟩
theorem Dv.zero{P:Nat}:Dv P 0:=⟨0,by simp⟩
theorem Dv.add{P:Nat}{p q:Rat}(h:Dv P p)(h':Dv P q):Dv P (p+q):=by
 obtain⟨n,hn⟩:=h
 obtain⟨m,hm⟩:=h'
 exact⟨n+m,by rw[Rat.intCast_add,←hn,←hm]; grind⟩
theorem Dv.sub{P:Nat}{p q:Rat}(h:Dv P p)(h':Dv P q):Dv P (p-q):=by
 obtain⟨n,hn⟩:=h
 obtain⟨m,hm⟩:=h'
 exact⟨n-m,by rw[Rat.intCast_sub,←hn,←hm]; grind⟩
theorem Dv.sm{P:Nat}{p:Nat→Bool}{x:Nat→Rat}:∀ {n:Nat},(∀ j,j<n→p j=true→Dv P (x j))→Dv P (sm p x n)
 |0,_=>Dv.zero
 |n+1,h=>by
  have h1:=Dv.sm (n:=n) fun j hj=>h j (by omega)
  simp only[Go.Mm.sm]
  cases hp:p n with
  |false=>simp only[cond_false]; exact h1.add .zero
  |true=>exact h1.add (h n (by omega) hp)
theorem Dv.part{P m:Nat}{q r:Rat}(h:Dv P q)(hm:r*(m:Rat)=q):Dv (P*m) r:=by
 obtain⟨n,hn⟩:=h
 refine⟨n,?_⟩
 rw[Rat.natCast_mul,←hn,←hm]
 grind
def mp:Nat→Nat
 |0=>1|1=>1|2=>2|3=>3|4=>4|5=>6|6=>9|7=>12|_=>18
theorem Hd{m u u':Nat}(hm:1≤m)(hu:u≤8)(h:m+u'≤u):m*mp u'≤mp u:=by
 have:∀ u,u≤8→∀ m,m≤8→∀ u',u'≤8→1≤m→m+u'≤u→m*mp u'≤mp u:=by decide
 exact this u hu m (by omega) u' (by omega) hm h
theorem K6(u:Nat):1≤mp u:=by unfold mp; split<;>omega
structure Inv(N:xi)(fx:Nat→Bool)(x:Nat→Rat)(lo:Rat)(P:Nat):Prop where
 l0:0≤lo
 nn:∀ i,i<N.F→fx i=true→0≤x i∧x i≤lo
 kf:∀ i,i<N.F→fx i=true→N.has i=true→x i≤N.k i
 cap:∀ l,l<N.L→sm (fun i=>N.on l i&&fx i) x N.F≤N.c l
 Y4:∀ l,l<N.L→lo*(ct (fun i=>N.on l i&&!fx i) N.F:Nat)≤N.c l-sm (fun i=>N.on l i&&fx i) x N.F
 wait:∀ i,i<N.F→fx i=false→N.has i=true→lo≤N.k i
 Ds:∀ i,i<N.F→fx i=true→(N.has i=true∧x i=N.k i) ∨
  ∃ l,l<N.L∧N.on l i=true∧sm (fun i=>N.on l i&&fx i) x N.F=N.c l∧ct (fun i=>N.on l i&&!fx i) N.F=0∧∀ j,j<N.F→N.on l j=true→x j≤x i
 P1:1≤P
 PM:P*mp (ct (fun i=>!fx i) N.F)≤18
 dv:∀ i,i<N.F→fx i=true→Dv P (x i)
structure Sv(N:xi)(fx:Nat→Bool)(x:Nat→Rat)(low:Rat)(nw:Nat→Bool):Prop where
 sub:∀ i,i<N.F→nw i=true→fx i=false
 Tt:∀ l,l<N.L→low*(ct (fun i=>N.on l i&&!fx i) N.F:Nat)≤N.c l-sm (fun i=>N.on l i&&fx i) x N.F
 kf:∀ i,i<N.F→fx i=false→N.has i=true→low≤N.k i
 Wy:∀ i,i<N.F→nw i=true→(N.has i=true∧low=N.k i) ∨
  ∃ l,l<N.L∧N.on l i=true∧low*(ct (fun i=>N.on l i&&!fx i) N.F:Nat)=N.c l-sm (fun i=>N.on l i&&fx i) x N.F∧∀ j,j<N.F→N.on l j=true→fx j=false→nw j=true
 some:∃ i,i<N.F∧nw i=true
theorem yy{N:xi}(hF:N.F≤8)(hc:∀ l,l<N.L→0≤N.c l)(hk:∀ i,i<N.F→N.has i=true→0≤N.k i)(x:Nat→Rat):Inv N (fun _=>false) x 0 1 where
 l0:=Rat.le_refl
 nn:=by simp
 kf:=by simp
 cap l hl:=by
  rw[mr (q:=fun _=>false) (y:=x) (by simp) (by simp)]
  have h0:∀ n,sm (fun _=>false) x n=0:=by
   intro n; induction n with
   |zero=>rfl
   |succ n ih=>simp only[sm,ih,cond_false]; grind
  rw[h0]; exact hc l hl
 Y4 l hl:=by
  have h0:∀ n,sm (fun i=>N.on l i&&false) x n=0:=by
   intro n; induction n with
   |zero=>rfl
   |succ n ih=>simp only[sm,ih,Bool.and_false,cond_false]; grind
  rw[h0]
  have:=hc l hl
  grind
 wait i hi _ hh:=hk i hi hh
 Ds:=by simp
 P1:=Nat.le_refl _
 PM:=by
  have:=iz (p:=fun _=>!false) (n:=N.F)
  have h8:∀ u,u≤8→1*mp u≤18:=by decide
  exact h8 _ (by omega)
 dv:=by simp
theorem AK{N:xi}(hF:N.F≤8)(Tu:∀ l,l<N.L→Dv 1 (N.c l))(EZ:∀ i,i<N.F→Dv 1 (N.k i)){fx:Nat→Bool}{x:Nat→Rat}{lo:Rat}{P:Nat}(h:Inv N fx x lo P){low:Rat}{nw:Nat→Bool}(g:Sv N fx x low nw):
  ∃ P',Inv N (fun i=>fx i||nw i) (fun i=>if nw i=true then low else x i) low P':=by
 have hS:∀ l,sm (fun i=>N.on l i&&(fx i||nw i)) (fun i=>if nw i=true then low else x i) N.F=sm (fun i=>N.on l i&&fx i) x N.F+low*(ct (fun i=>N.on l i&&nw i) N.F:Nat):=by
  intro l
  rw[Dt (q:=nw)]
  rw[mr (p:=fun i=>(N.on l i&&(fx i||nw i))&&nw i) (q:=fun i=>N.on l i&&nw i) (y:=fun _=>low) (fun j hj=>by cases N.on l j<;>cases fx j<;>cases nw j<;>rfl) (fun j hj hp=>by
   have:nw j=true:=by simp only[Bool.and_eq_true]at hp; exact hp.2
   simp[this]),Dw]
  rw[mr (p:=fun i=>(N.on l i&&(fx i||nw i))&&!nw i) (q:=fun i=>N.on l i&&fx i) (y:=x) (fun j hj=>by
   have:=g.sub j hj
   cases h1:N.on l j<;>cases h2:fx j<;>cases h3:nw j<;>simp_all) (fun j hj hp=>by
   have:nw j=false:=by simp only[Bool.and_eq_true,Bool.not_eq_true']at hp; exact hp.2
   simp[this])]
  grind
 have hM:∀ l,ct (fun i=>N.on l i&&!fx i) N.F=ct (fun i=>N.on l i&&nw i) N.F+ct (fun i=>N.on l i&&!(fx i||nw i)) N.F:=by
  intro l
  rw[ql (q:=nw)]
  congr 1
  ·exact kK fun j hj=>by
    have:=g.sub j hj
    cases h1:N.on l j<;>cases h2:fx j<;>cases h3:nw j<;>simp_all
  ·exact kK fun j hj=>by cases N.on l j<;>cases fx j<;>cases nw j<;>rfl
 have hU:ct (fun i=>!fx i) N.F=ct nw N.F+ct (fun i=>!(fx i||nw i)) N.F:=by
  rw[ql (q:=nw)]
  congr 1
  ·exact kK fun j hj=>by
    have:=g.sub j hj
    cases h2:fx j<;>cases h3:nw j<;>simp_all
  ·exact kK fun j hj=>by cases fx j<;>cases nw j<;>rfl
 have Wz:∀ l,((ct (fun i=>N.on l i&&!fx i) N.F:Nat):Rat)=(ct (fun i=>N.on l i&&nw i) N.F:Nat)+(ct (fun i=>N.on l i&&!(fx i||nw i)) N.F:Nat):=fun l=>by rw[hM l,Rat.natCast_add]
 have WA:lo≤low:=by
  obtain⟨i,hi,hn⟩:=g.some
  rcases g.Wy i hi hn with ⟨h1,h2⟩|⟨l,hl,jb,he,_⟩
  ·rw[h2]; exact h.wait i hi (g.sub i hi hn) h1
  ·have h1:=h.Y4 l hl
   have hp:0<ct (fun i=>N.on l i&&!fx i) N.F:=nx hi (by simp[jb,g.sub i hi hn])
   have hpr:(0:Rat)<(ct (fun i=>N.on l i&&!fx i) N.F:Nat):=by exact_mod_cast hp
   rw[←he]at h1
   exact Rat.le_of_mul_le_mul_right h1 hpr
 have u0:0≤low:=Rat.le_trans h.l0 WA
 have Y5:∀ j,j<N.F→fx j=true→(if nw j=true then low else x j)=x j:=fun j hj hf=>by
  have:nw j=false:=by cases hn:nw j with|false=>rfl|true=>rw[g.sub j hj hn]at hf; cases hf
  simp[this]
 have hP:∃ P',1≤P'∧P'*mp (ct (fun i=>!(fx i||nw i)) N.F)≤18∧Dv P' low∧∃ m,P'=P*m:=by
  obtain⟨i,hi,hn⟩:=g.some
  have Y6:ct (fun i=>!fx i) N.F≤8:=by have:=iz (p:=fun i=>!fx i) (n:=N.F); omega
  have Wl:=nx hi hn
  have h18:=h.PM
  rcases g.Wy i hi hn with ⟨h1,h2⟩|⟨l,hl,jb,he,aX⟩
  ·refine⟨P,h.P1,?_,?_,1,by simp⟩
   ·have:=Hd (m:=ct nw N.F) (u:=ct (fun i=>!fx i) N.F) (u':=ct (fun i=>!(fx i||nw i)) N.F) Wl Y6 (by omega)
    have h3:mp (ct (fun i=>!(fx i||nw i)) N.F)≤mp (ct (fun i=>!fx i) N.F):=Nat.le_trans (Nat.le_mul_of_pos_left _ Wl) this
    exact Nat.le_trans (Nat.mul_le_mul_left _ h3) h18
   ·rw[h2]
    have:=(EZ i hi).mul (m:=P)
    rwa [Nat.one_mul]at this
  ·have PN:0<ct (fun i=>N.on l i&&!fx i) N.F:=nx hi (by simp[jb,g.sub i hi hn])
   refine⟨P*ct (fun i=>N.on l i&&!fx i) N.F,Nat.mul_pos h.P1 PN,?_,?_,_,rfl⟩
   ·have hle:ct (fun i=>N.on l i&&!fx i) N.F≤ct nw N.F:=PL fun j hj hp=>by
     simp only[Bool.and_eq_true,Bool.not_eq_true']at hp
     exact aX j hj hp.1 hp.2
    have:=Hd (m:=ct (fun i=>N.on l i&&!fx i) N.F) (u:=ct (fun i=>!fx i) N.F) (u':=ct (fun i=>!(fx i||nw i)) N.F) PN Y6 (by omega)
    rw[Nat.mul_assoc]
    exact Nat.le_trans (Nat.mul_le_mul_left _ this) h18
   ·refine Dv.part ?_ he
    have hc:=(Tu l hl).mul (m:=P)
    rw[Nat.one_mul]at hc
    exact hc.sub (Dv.sm fun j hj hp=>h.dv j hj (by simp only[Bool.and_eq_true]at hp; exact hp.2))
 obtain⟨P',K7,WB,hPd,m,rfl⟩:=hP
 refine⟨_,u0,?_,?_,?_,?_,?_,?_,K7,WB,?_⟩
 ·intro i hi hf
  by_cases hn:nw i=true
  ·simp only[hn,if_true]; exact⟨u0,Rat.le_refl⟩
  ·simp only[hn,if_false,Bool.or_false,Bool.false_eq_true]at hf ⊢
   have:=h.nn i hi hf
   exact⟨this.1,Rat.le_trans this.2 WA⟩
 ·intro i hi hf hh
  by_cases hn:nw i=true
  ·simp only[hn,if_true]; exact g.kf i hi (g.sub i hi hn) hh
  ·simp only[hn,if_false,Bool.or_false,Bool.false_eq_true]at hf ⊢
   exact h.kf i hi hf hh
 ·intro l hl
  rw[hS l]
  have h1:=g.Tt l hl
  rw[Wz l]at h1
  have h2:(0:Rat)≤low*(ct (fun i=>N.on l i&&!(fx i||nw i)) N.F:Nat):=Rat.mul_nonneg u0 (by exact_mod_cast Nat.zero_le _)
  grind
 ·intro l hl
  rw[hS l]
  have h1:=g.Tt l hl
  rw[Wz l]at h1
  grind
 ·intro i hi hf hh
  simp only[Bool.or_eq_false_iff]at hf
  exact g.kf i hi hf.1 hh
 ·intro i hi hf
  by_cases hn:nw i=true
  ·simp only[hn,if_true]
   rcases g.Wy i hi hn with h1|⟨l,hl,jb,he,aX⟩
   ·exact .inl h1
   ·have hz:ct (fun i=>N.on l i&&!(fx i||nw i)) N.F=0:=by
     apply Nat.eq_zero_of_not_pos
     intro hp
     obtain⟨j,hj,Jt⟩:=Du hp
     simp only[Bool.and_eq_true,Bool.not_eq_true',Bool.or_eq_false_iff]at Jt
     rw[aX j hj Jt.1 Jt.2.1]at Jt
     exact absurd Jt.2.2 (by decide)
    refine .inr ⟨l,hl,jb,?_,hz,fun j hj PO=>?_⟩
    ·rw[hS l]
     rw[Wz l,hz]at he
     grind
    ·by_cases WC:nw j=true
     ·simp only[WC,if_true]; exact Rat.le_refl
     ·simp only[WC,if_false,Bool.false_eq_true]
      have:fx j=true:=by
       cases jg:fx j with
       |true=>rfl
       |false=>exact absurd (aX j hj PO jg) WC
      exact Rat.le_trans (h.nn j hj this).2 WA
  ·have jg:fx i=true:=by simpa[hn] using hf
   rw[Y5 i hi jg]
   rcases h.Ds i hi jg with h1|⟨l,hl,jb,he,hz,Bp⟩
   ·exact .inl h1
   ·have Tv:∀ j,j<N.F→N.on l j=true→fx j=true:=fun j hj PO=>by
     cases Nd:fx j with
     |true=>rfl
     |false=>
      have:=nx (p:=fun i=>N.on l i&&!fx i) hj (by simp[PO,Nd])
      omega
    have N9:=hM l
    rw[hz]at N9
    have QX:ct (fun i=>N.on l i&&nw i) N.F=0:=by omega
    refine .inr ⟨l,hl,jb,?_,by omega,fun j hj PO=>?_⟩
    ·rw[hS l,QX,he]; grind
    ·rw[Y5 j hj (Tv j hj PO)]
     exact Bp j hj PO
 ·intro i hi hf
  by_cases hn:nw i=true
  ·simp only[hn,if_true]; exact hPd
  ·simp only[hn,if_false,Bool.or_false,Bool.false_eq_true]at hf ⊢
   exact(h.dv i hi hf).mul
theorem Dx{N:xi}{fx:Nat→Bool}{x:Nat→Rat}{lo:Rat}{P:Nat}(h:Inv N fx x lo P)(aX:∀ i,i<N.F→fx i=true):Fair N x∧∀ i,i<N.F→Dv P (x i)∧P≤18:=by
 have hS:∀ l,sm (fun i=>N.on l i&&fx i) x N.F=sm (N.on l) x N.F:=fun l=>mr (fun j hj=>by rw[aX j hj,Bool.and_true]) fun _ _ _=>rfl
 refine⟨⟨⟨fun i hi=>(h.nn i hi (aX i hi)).1,fun i hi hh=>h.kf i hi (aX i hi) hh,fun l hl=>by rw[←hS l]; exact h.cap l hl⟩,fun i hi=>?_⟩,fun i hi=>⟨h.dv i hi (aX i hi),?_⟩⟩
 ·rcases h.Ds i hi (aX i hi) with h1|⟨l,hl,jb,he,_,Bp⟩
  ·exact .inl h1
  ·exact .inr ⟨l,hl,jb,by rw[←hS l]; exact he,Bp⟩
 ·have:=h.PM
  exact Nat.le_trans (Nat.le_mul_of_pos_right _ (K6 _)) this
end Go.Mm
end
section
/- Plain facts of this seat: ratios. -/
set_option maxRecDepth 100000
namespace Go.Proofs.Ytedjbjphpnkpoaa
open Go.PI Go.Pl Go.Mm
variable {α β:Type}
theorem bT{c:Bool}{x y r:Option α}(hc:c=true)(hx:x=r):(bif c then x else y)=r:=by subst hc; exact hx
theorem bF{c:Bool}{x y r:Option α}(hc:c=false)(hy:y=r):(bif c then x else y)=r:=by subst hc; exact hy
theorem bB{e:Option β}{v:β}{k:β→Option α}{r:Option α}(he:e=some v)(hk:k v=r):e.bind k=r:=by subst he; exact hk
theorem He{a b:Bool}:(bif a then some b else some false)=some (a&&b):=by cases a<;>rfl
theorem bZ{n:Int}(h1 : -9223372036854775808≤n)(h2:n≤9223372036854775807):IntKind.i64.wrap n=n:=IntWalk.i64_in _ (by omega)
theorem ca{i n:Nat}(h:i<n):decide ((i:Int)<(n:Int))=true:=decide_eq_true (by omega)
theorem cw(n:Nat):decide ((n:Int)<(n:Int))=false:=decide_eq_false (by omega)
theorem av(i:Nat):decide (0≤(i:Int))=true:=decide_eq_true (by omega)
/-! ### The greatest common divisor -/
theorem Hg:∀ (k a b n:Nat),b<2^k→2*k+1≤n→aa.FP n (a:Int) (b:Int)=some ((Nat.gcd a b:Nat):Int)
 |0,a,b,n,hb,hn=>by
  obtain rfl:b=0:=by simpa using hb
  obtain⟨m,rfl⟩:∃ m,n=m+1:=⟨n-1,by omega⟩
  exact bT rfl (by rw[Nat.gcd_zero_right])
 |k+1,a,b,n,hb,hn=>by
  obtain⟨m,rfl⟩:∃ m,n=m+1:=⟨n-1,by omega⟩
  by_cases h0:b=0
  ·subst h0
   exact bT rfl (by rw[Nat.gcd_zero_right])
  have hr:((a:Int).tmod (b:Int))=((a%b:Nat):Int):=by rw[Int.tmod_eq_emod_of_nonneg (by omega)]; simp
  have WD:((b:Int)==0)=false:=by simp; omega
  have g1:Nat.gcd a b=Nat.gcd b (a%b):=by rw[Nat.gcd_comm a b,Nat.gcd_rec b a,Nat.gcd_comm]
  refine bF WD (bF (decide_eq_false (by omega)) ?_)
  rw[hr]
  have bE:=Nat.mod_lt a (Nat.pos_of_ne_zero h0)
  obtain⟨m',rfl⟩:∃ m',m=m'+1:=⟨m-1,by omega⟩
  refine bB (v:=((Nat.gcd b (a%b):Nat):Int)) ?_ (by rw[g1])
  by_cases h1:a%b=0
  ·rw[h1]
   exact bT rfl (by rw[Nat.gcd_zero_right])
  ·have zO:((b:Int).tmod ((a%b:Nat):Int))=((b%(a%b):Nat):Int):=by rw[Int.tmod_eq_emod_of_nonneg (by omega)]; simp
   refine bF (by simp; omega) (bF (decide_eq_false (by omega)) ?_)
   rw[zO]
   have yr:=Nat.mod_lt b (Nat.pos_of_ne_zero h1)
   have hd:=Nat.div_add_mod b (a%b)
   have hq:1≤b/(a%b):=Nat.div_pos (Nat.le_of_lt bE) (Nat.pos_of_ne_zero h1)
   have eC:a%b≤(a%b)*(b/(a%b)):=Nat.le_mul_of_pos_right _ hq
   have hs:b%(a%b)<2^k:=by rw[Nat.pow_succ]at hb; omega
   refine bB (Hg k (a%b) (b%(a%b)) m' hs (by omega)) ?_
   have g2:Nat.gcd b (a%b)=Nat.gcd (a%b) (b%(a%b)):=by rw[Nat.gcd_comm b,Nat.gcd_rec (a%b) b,Nat.gcd_comm]
   rw[←g2]
theorem Oa(a b:Nat)(hb:b<2^63):aa.kA (a:Int) (b:Int)=some ((Nat.gcd a b:Nat):Int):=Hg 63 a b 200 hb (by omega)
/-! ### Ratios -/
def c9(q:Rat):ah:=⟨q.num,q.den⟩
def bI(q:Rat):Prop := -1000000000≤q.num∧q.num≤1000000000∧q.den≤1000000000
instance (q:Rat):Decidable (bI q):=inferInstanceAs (Decidable (_∧_∧_))
theorem xw{p q:Rat}(h:c9 p=c9 q):p=q:=by
 simp only[c9,ah.mk.injEq]at h
 exact Rat.ext h.1 (by omega)
theorem abs_eq{n:Int}(h1 : -9223372036854775807≤n)(h2:n≤9223372036854775807):(if n<IntKind.i64.wrap (0-n) then IntKind.i64.wrap (0-n) else n)=(n.natAbs:Int):=by
 rw[bZ (by omega) (by omega)]
 split<;>omega
theorem K8{n:Int}{d:Nat}(h1 : -9223372036854775807≤n)(h2:n≤9223372036854775807)(h3:1≤d)(h4:d≤9223372036854775807):aa.dg ⟨n,d⟩=some (c9 (mkRat n d)):=by
 unfold aa.dg
 rw[abs_eq h1 h2,abs_eq (n:=(d:Int)) (by omega) (by omega)]
 have hg:=Oa n.natAbs d (by omega)
 have cH:0<Nat.gcd n.natAbs d:=Nat.gcd_pos_of_pos_right _ (by omega)
 have PQ:((Nat.gcd n.natAbs d:Nat):Int)∣n:=Int.ofNat_dvd_left.2 (Nat.gcd_dvd_left _ _)
 have Y2:(Nat.gcd n.natAbs d)∣d:=Nat.gcd_dvd_right _ _
 rw[show ((d:Int).natAbs:Int)=(d:Int) by omega]
 refine bB hg (bF (decide_eq_false (by show ¬(d:Int)<0; omega)) (bF (decide_eq_false (by omega)) (bF (decide_eq_false (by omega)) ?_)))
 have e1:(mkRat n d).num=n/((Nat.gcd n.natAbs d:Nat):Int):=by rw[Rat.num_mkRat,if_neg (by omega),Nat.gcd_comm]
 have e2:(mkRat n d).den=d/Nat.gcd n.natAbs d:=by rw[Rat.den_mkRat,if_neg (by omega),Nat.gcd_comm]
 have b1:n.tdiv ((Nat.gcd n.natAbs d:Nat):Int)=n/((Nat.gcd n.natAbs d:Nat):Int):=Int.tdiv_eq_ediv_of_dvd PQ
 have b2:(d:Int).tdiv ((Nat.gcd n.natAbs d:Nat):Int)=((d/Nat.gcd n.natAbs d:Nat):Int):=by
  rw[Int.tdiv_eq_ediv_of_nonneg (by omega)]; simp
 have c1:(n/((Nat.gcd n.natAbs d:Nat):Int)).natAbs≤n.natAbs:=by
  generalize Nat.gcd n.natAbs d=g at PQ cH
  obtain⟨k,rfl⟩:=PQ
  rw[Int.mul_ediv_cancel_left _ (by omega),Int.natAbs_mul,Int.natAbs_natCast]
  exact Nat.le_mul_of_pos_left _ cH
 have c2:d/Nat.gcd n.natAbs d≤d:=Nat.div_le_self _ _
 show some (ah.mk (IntKind.i64.wrap (n.tdiv _)) (IntKind.i64.wrap ((d:Int).tdiv _)))=_
 rw[b1,b2,bZ (by omega) (by omega),bZ (by omega) (by omega)]
 simp only[c9,e1,e2]
theorem Ob(q:Rat)(h1 : -9223372036854775807≤q.num)(h2:q.num≤9223372036854775807):aa.bR (c9 q)=some (decide (bI q)):=by
 unfold aa.bR
 show (bif decide ((if q.num<IntKind.i64.wrap (0-q.num) then IntKind.i64.wrap (0-q.num) else q.num)≤(1000000000:Int)) then bif decide (1≤(q.den:Int)) then some (decide ((q.den:Int)≤1000000000)) else some false else some false)=_
 rw[abs_eq h1 h2]
 have hd:=q.den_pos
 by_cases ha:((q.num.natAbs:Nat):Int)≤1000000000
 ·refine bT (decide_eq_true ha) (bT (decide_eq_true (by omega)) ?_)
  congr 1
  rw[decide_eq_decide]
  unfold bI
  omega
 ·refine bF (decide_eq_false ha) ?_
  rw[decide_eq_false]
  unfold bI
  omega
theorem FQ{n:Int}{d:Nat}(h:1≤d):(mkRat n d).num.natAbs≤n.natAbs:=by
 rw[Rat.num_mkRat,if_neg (by omega)]
 have hg:0<Nat.gcd d n.natAbs:=Nat.gcd_pos_of_pos_left _ (by omega)
 have PQ:((Nat.gcd d n.natAbs:Nat):Int)∣n:=Int.ofNat_dvd_left.2 (Nat.gcd_dvd_right _ _)
 generalize Nat.gcd d n.natAbs=g at PQ hg
 obtain⟨k,rfl⟩:=PQ
 rw[Int.mul_ediv_cancel_left _ (by omega),Int.natAbs_mul,Int.natAbs_natCast]
 exact Nat.le_mul_of_pos_left _ hg
theorem FR{n:Int}{d:Nat}(h1 : -9223372036854775807≤n)(h2:n≤9223372036854775807)(h3:1≤d)(h4:d≤9223372036854775807):
  aa.bj ⟨n,d⟩=some (if bI (mkRat n d) then (c9 (mkRat n d),0) else (⟨0,0⟩,3)):=by
 unfold aa.bj
 have:=FQ (n:=n) h3
 refine bB (K8 h1 h2 h3 h4) (bB (Ob _ (by omega) (by omega)) ?_)
 by_cases hf:bI (mkRat n d)
 ·rw[if_pos hf,decide_eq_true hf]; rfl
 ·rw[if_neg hf,decide_eq_false hf]; rfl
instance:DecidableEq ah:=fun a b=>by
 cases a; cases b
 simp only[ah.mk.injEq]
 exact inferInstance
def vR(a:ah):Bool:=decide (-1000000000≤a.cF∧a.cF≤1000000000∧1≤a.Den∧a.Den≤1000000000∧c9 (mkRat a.cF a.Den.toNat)=a)
theorem lf(q:Rat):vR (c9 q)=decide (bI q):=by
 unfold vR
 rw[decide_eq_decide]
 have hd:=q.den_pos
 have e:c9 (mkRat (c9 q).cF (c9 q).Den.toNat)=c9 q:=by
  show c9 (mkRat q.num ((q.den:Int)).toNat)=_
  rw[Int.toNat_natCast,Rat.mkRat_self]
 show (-1000000000≤q.num∧q.num≤1000000000∧1≤(q.den:Int)∧(q.den:Int)≤1000000000∧_)↔_
 unfold bI
 simp only[e,and_true]
 omega
theorem K9(a:ah):vR a=true↔∃ q,a=c9 q∧bI q:=by
 constructor
 ·intro h
  have h':=of_decide_eq_true h
  refine⟨mkRat a.cF a.Den.toNat,h'.2.2.2.2.symm,?_⟩
  rw[←h'.2.2.2.2,lf]at h
  exact of_decide_eq_true h
 ·rintro⟨q,rfl,h⟩
  rw[lf]
  exact decide_eq_true h
theorem jF(a:ah):aa.cZ a=some (vR a):=by
 unfold aa.cZ
 by_cases h1 : -1000000000≤a.cF
 ·refine bT (decide_eq_true h1) ?_
  by_cases h2:a.cF≤1000000000∧1≤a.Den∧a.Den≤1000000000
  ·have hf:aa.bR a=some true:=by
    unfold aa.bR
    rw[abs_eq (by omega) (by omega)]
    exact bT (decide_eq_true (by omega)) (bT (decide_eq_true h2.2.1) (by rw[decide_eq_true h2.2.2]))
   have he:a=⟨a.cF,(a.Den.toNat:Nat)⟩:=by
    cases a; simp only[ah.mk.injEq,true_and]; simp only at h2; omega
   refine bB hf (bT rfl ?_)
   have hr:=K8 (n:=a.cF) (d:=a.Den.toNat) (by omega) (by omega) (by omega) (by omega)
   rw[←he]at hr
   refine bB hr ?_
   congr 1
   unfold vR
   rw[Bool.eq_iff_iff]
   simp only[Bool.and_eq_true,beq_iff_eq,decide_eq_true_eq]
   constructor
   ·rintro⟨g1,g2⟩
    refine⟨h1,h2.1,h2.2.1,h2.2.2,?_⟩
    cases a
    simp only[c9,ah.mk.injEq]at g1 g2 ⊢
    exact⟨g1,g2⟩
   ·rintro⟨_,_,_,_,g⟩
    rw[g]; exact⟨rfl,rfl⟩
  ·have hv:vR a=false:=decide_eq_false (by omega)
   rw[hv]
   refine bB (v:=false) ?_ rfl
   unfold aa.bR
   by_cases h3:(if a.cF<IntKind.i64.wrap (0-a.cF) then IntKind.i64.wrap (0-a.cF) else a.cF)≤1000000000
   ·refine bT (decide_eq_true h3) ?_
    have h4:a.cF≤1000000000:=by split at h3<;>omega
    by_cases h5:1≤a.Den
    ·exact bT (decide_eq_true h5) (by rw[decide_eq_false]; omega)
    ·exact bF (decide_eq_false h5) rfl
   ·exact bF (decide_eq_false h3) rfl
 ·refine bF (decide_eq_false h1) ?_
  rw[show vR a=false from decide_eq_false (by omega)]
/-! ### Operations -/
theorem gu{q:Rat}(h:bI q):(q.den:Int)≤1000000000∧1≤(q.den:Int):=⟨by have:=h.2.2; omega,by have:=q.den_pos; omega⟩
theorem eY{a b:Int}(h1 : -1000000000≤a)(h2:a≤1000000000)(h3:0≤b)(h4:b≤1000000000): -1000000000000000000≤a*b∧a*b≤1000000000000000000:=by
 have e1:a*b≤1000000000*b:=Int.mul_le_mul_of_nonneg_right h2 h3
 have e2 : -1000000000*b≤a*b:=Int.mul_le_mul_of_nonneg_right h1 h3
 omega
theorem sub_eq{p q:Rat}(hp:bI p)(hq:bI q):aa.oa (c9 p) (c9 q)=some (if bI (p-q) then (c9 (p-q),0) else (⟨0,0⟩,3)):=by
 unfold aa.oa
 have dp:=gu hp
 have dq:=gu hq
 have m1:=eY hp.1 hp.2.1 (b:=(q.den:Int)) (by omega) (by omega)
 have m2:=eY hq.1 hq.2.1 (b:=(p.den:Int)) (by omega) (by omega)
 have m3:=eY (a:=(p.den:Int)) (b:=(q.den:Int)) (by omega) (by omega) (by omega) (by omega)
 have m4:1≤p.den*q.den:=Nat.mul_pos p.den_pos q.den_pos
 have e3:(p.den:Int)*(q.den:Int)=((p.den*q.den:Nat):Int):=by simp
 have dE:((((p.den*q.den:Nat):Int))==0)=false:=by rw[beq_eq_false_iff_ne]; omega
 refine bB (jF _) (bF (by rw[lf,decide_eq_true hp]; rfl) (bB (jF _) (bF (by rw[lf,decide_eq_true hq]; rfl) ?_)))
 show (bif IntKind.i64.wrap ((p.den:Int)*(q.den:Int))==0 then _ else (aa.bj (ah.mk (IntKind.i64.wrap (IntKind.i64.wrap (p.num*(q.den:Int))-IntKind.i64.wrap (q.num*(p.den:Int)))) (IntKind.i64.wrap ((p.den:Int)*(q.den:Int))))).bind fun x=>some (x.1,x.2))=_
 rw[bZ (n:=p.num*(q.den:Int)) (by omega) (by omega),bZ (n:=q.num*(p.den:Int)) (by omega) (by omega),bZ (n:=p.num*(q.den:Int)-q.num*(p.den:Int)) (by omega) (by omega),bZ (n:=(p.den:Int)*(q.den:Int)) (by omega) (by omega),e3]
 refine bF dE (bB (FR (by omega) (by omega) m4 (by omega)) ?_)
 rw[Rat.sub_def']
theorem add_eq{p q:Rat}(hp:bI p)(hq:bI q):aa.ra (c9 p) (c9 q)=some (if bI (p+q) then (c9 (p+q),0) else (⟨0,0⟩,3)):=by
 unfold aa.ra
 have dp:=gu hp
 have dq:=gu hq
 have m1:=eY hp.1 hp.2.1 (b:=(q.den:Int)) (by omega) (by omega)
 have m2:=eY hq.1 hq.2.1 (b:=(p.den:Int)) (by omega) (by omega)
 have m3:=eY (a:=(p.den:Int)) (b:=(q.den:Int)) (by omega) (by omega) (by omega) (by omega)
 have m4:1≤p.den*q.den:=Nat.mul_pos p.den_pos q.den_pos
 have e3:(p.den:Int)*(q.den:Int)=((p.den*q.den:Nat):Int):=by simp
 have dE:((((p.den*q.den:Nat):Int))==0)=false:=by rw[beq_eq_false_iff_ne]; omega
 refine bB (jF _) (bF (by rw[lf,decide_eq_true hp]; rfl) (bB (jF _) (bF (by rw[lf,decide_eq_true hq]; rfl) ?_)))
 show (bif IntKind.i64.wrap ((p.den:Int)*(q.den:Int))==0 then _ else (aa.bj (ah.mk (IntKind.i64.wrap (IntKind.i64.wrap (p.num*(q.den:Int))+IntKind.i64.wrap (q.num*(p.den:Int)))) (IntKind.i64.wrap ((p.den:Int)*(q.den:Int))))).bind fun x=>some (x.1,x.2))=_
 rw[bZ (n:=p.num*(q.den:Int)) (by omega) (by omega),bZ (n:=q.num*(p.den:Int)) (by omega) (by omega),bZ (n:=p.num*(q.den:Int)+q.num*(p.den:Int)) (by omega) (by omega),bZ (n:=(p.den:Int)*(q.den:Int)) (by omega) (by omega),e3]
 refine bF dE (bB (FR (by omega) (by omega) m4 (by omega)) ?_)
 rw[Rat.add_def']
theorem ow(p:Rat){m:Nat}(hm:1≤m):mkRat p.num (p.den*m)=p/(m:Rat):=by
 have h:=Rat.mkRat_self p
 rw[Rat.div_def]
 have hi:((m:Rat))⁻¹=mkRat 1 m:=by
  rw[Rat.mkRat_eq_div,Rat.div_def]; simp
 rw[hi]
 conv=>rhs; rw[←h]
 rw[Rat.mkRat_mul_mkRat]; simp
theorem div_eq{p:Rat}(hp:bI p){m:Nat}(h1:1≤m)(h2:m≤1000):aa.rb (c9 p) ⟨m,1⟩=some (if bI (p/(m:Rat)) then (c9 (p/(m:Rat)),0) else (⟨0,0⟩,3)):=by
 unfold aa.rb
 have dp:=gu hp
 have hm:(⟨m,1⟩:ah)=c9 ((m:Int):Rat):=rfl
 have fm:bI ((m:Int):Rat):=⟨by show (_:Int)≤(m:Int); omega,by show (m:Int)≤_; omega,by show 1≤1000000000; omega⟩
 have m3:=eY (a:=(p.den:Int)) (b:=(m:Int)) (by omega) (by omega) (by omega) (by omega)
 have m4:1≤p.den*m:=Nat.mul_pos p.den_pos h1
 have e3:(p.den:Int)*(m:Int)=((p.den*m:Nat):Int):=by simp
 have dE:((((p.den*m:Nat):Int))==0)=false:=by rw[beq_eq_false_iff_ne]; omega
 refine bB (jF _) (bF (by rw[lf,decide_eq_true hp]; rfl) (bB (jF _) (bF (by rw[hm,lf,decide_eq_true fm]; rfl) ?_)))
 show (bif IntKind.i64.wrap ((p.den:Int)*(m:Int))==0 then _ else (aa.bj (ah.mk (IntKind.i64.wrap (p.num*1)) (IntKind.i64.wrap ((p.den:Int)*(m:Int))))).bind fun x=>some (x.1,x.2))=_
 have Tx:=hp.1
 have KD:=hp.2.1
 rw[Int.mul_one,bZ (n:=p.num) (by omega) (by omega),bZ (n:=(p.den:Int)*(m:Int)) (by omega) (by omega),e3]
 refine bF dE (bB (FR (by omega) (by omega) m4 (by omega)) ?_)
 rw[ow p h1]
def sL(p q:Rat):Int:=if p<q then -1 else if q<p then 1 else 0
theorem QY{p q:Rat}(hp:bI p)(hq:bI q):aa.rf (c9 p) (c9 q)=some (sL p q,0):=by
 unfold aa.rf aa.qm aa.rh
 have dp:=gu hp
 have dq:=gu hq
 have m1:=eY hp.1 hp.2.1 (b:=(q.den:Int)) (by omega) (by omega)
 have m2:=eY hq.1 hq.2.1 (b:=(p.den:Int)) (by omega) (by omega)
 refine bB (jF _) (bF (by rw[lf,decide_eq_true hp]; rfl) (bB (jF _) (bF (by rw[lf,decide_eq_true hq]; rfl) ?_)))
 have w1:IntKind.i64.wrap ((c9 p).cF*(c9 q).Den)=p.num*(q.den:Int):=bZ (n:=p.num*(q.den:Int)) (by omega) (by omega)
 have w2:IntKind.i64.wrap ((c9 q).cF*(c9 p).Den)=q.num*(p.den:Int):=bZ (n:=q.num*(p.den:Int)) (by omega) (by omega)
 rw[w1,w2]
 refine bB (v:=sL p q) ?_ rfl
 simp only[beq_self_eq_true,Bool.not_true,Option.bind_some,cond_false]
 unfold sL
 by_cases h1:p<q
 ·rw[if_pos h1]
  exact bT (decide_eq_true ((Rat.lt_iff p q).1 h1)) rfl
 ·rw[if_neg h1]
  refine bF (decide_eq_false fun h=>h1 ((Rat.lt_iff p q).2 h)) ?_
  by_cases h2:q<p
  ·rw[if_pos h2]
   exact bT (decide_eq_true ((Rat.lt_iff q p).1 h2)) rfl
  ·rw[if_neg h2]
   exact bF (decide_eq_false fun h=>h2 ((Rat.lt_iff q p).2 h)) rfl
theorem xx{p q:Rat}(hp:bI p)(hq:bI q):aa.fh (c9 p) (c9 q)=some (decide (p<q)):=by
 unfold aa.fh
 refine bB (QY hp hq) ?_
 show some (decide (sL p q<0))=_
 congr 1
 rw[decide_eq_decide]
 unfold sL
 by_cases h1:p<q
 ·simp[h1]
 ·rw[if_neg h1]
  by_cases h2:q<p<;>simp[h1,h2]
end Go.Proofs.Ytedjbjphpnkpoaa
end
section
/- Plain facts of this seat: valid networks. -/
set_option maxRecDepth 100000
namespace Go.Proofs.Ytedjbjphpnkpoaa
open Go.PI Go.Pl Go.Mm
theorem ug{τ ω:Type}{f:τ→Option (τ ⊕ ω)}(st:Nat→τ)(c:Nat→Bool)(n:Nat)(e bad:ω){x0:τ}
  (h:∀ i,i<n→f (st i)=bif c i then some (.inl (st (i+1))) else some (.inr bad)) (he:f (st n)=some (.inr e)) (hx:x0=st 0) :
  aM f x0=some (bif (List.range n).all c then e else bad):=by
 subst hx
 rcases qj st c (fun _=>bad) n e (fun i hi=>by rw[h i hi]; cases c i<;>rfl) he with ⟨h1,h2⟩|⟨h1,i,_,_,h2⟩
 ·rw[h1,h2]; rfl
 ·rw[h1,h2]; rfl
theorem eD{τ ω:Type}{f:τ→Option (τ ⊕ ω)}(st:Nat→τ)(n:Nat)(e:ω){x0:τ}(h:∀ i,i<n→f (st i)=some (.inl (st (i+1))))(he:f (st n)=some (.inr e))(hx:x0=st 0):aM f x0=some e:=by
 subst hx
 have key:∀ m i,m=n-i→i≤n→aM f (st i)=some e:=by
  intro m
  induction m with
  |zero=>intro i hm hi; obtain rfl:i=n:=by omega
         exact out he
  |succ m ih=>intro i hm hi; rw[next (h i (by omega))]; exact ih (i+1) (by omega) (by omega)
 exact key n 0 rfl (Nat.zero_le _)
theorem get_at{γ:Type}{l:List γ}{i:Nat}(h:i<l.length):l[(i:Int).toNat]?=some l[i]:=by simp[h]
theorem cK{i:Nat}(h:i<2^62):IntKind.i64.wrap ((i:Int)+1)=((i+1:Nat):Int):=bZ (by omega) (by omega)
theorem QZ(n lo hi:Int):aa.od n lo hi=some (decide (lo≤n)&&decide (n≤hi)):=He
def pF(l:List Int)(L:Int)(i:Nat):Bool:=
 match l[i]? with
 |none=>false
 |some x=>(decide (0≤x)&&decide (x≤L-1))&&(if i=0 then true else match l[i-1]? with|none=>false|some y=>decide (y<x))
def ER(l:List Int)(L:Int):Bool:=(List.range l.length).all (pF l L)&&(decide (1≤(l.length:Int))&&decide ((l.length:Int)≤6))
theorem Oc{l:List Int}{L:Int}(hl:l.length≤2^62)(h0:0≤L)(h1:L≤1000000):aa.kB l L=some (ER l L):=by
 unfold aa.kB
 refine bB (ug (fun i=>(false,(i:Int))) (pF l L) l.length (Sum.inr (false,(l.length:Int))) (Sum.inl false) (fun i hi=>?_) (bF (cw _) rfl) rfl) ?_
 ·refine bT (ca hi) (bT (av i) (bB (get_at hi) (bB (QZ _ _ _) ?_)))
  rw[bZ (n:=L-1) (by omega) (by omega)]
  unfold pF
  rw[List.getElem?_eq_getElem hi]
  cases hc:(decide (0≤l[i])&&decide (l[i]≤L-1)) with
  |false=>simp only[hc]; rfl
  |true=>
   simp only[hc]
   by_cases e:i=0
   ·subst e
    exact bF rfl (bF rfl (by rw[cK (by omega)]; rfl))
   ·have hw:IntKind.i64.wrap ((i:Int)-1)=((i-1:Nat):Int):=by rw[bZ (by omega) (by omega)]; omega
    have EM:i-1<l.length:=by omega
    refine bF rfl (bT (decide_eq_true (by omega)) (bT (by rw[hw]; exact av _) (bB (v:=l[i-1]) (by rw[hw]; exact get_at EM) ?_)))
    rw[if_neg e,List.getElem?_eq_getElem EM,cK (by omega)]
    by_cases bE:l[i]≤l[i-1]
    ·rw[decide_eq_true bE]; simp only[decide_eq_false (by omega:¬l[i-1]<l[i])]; rfl
    ·rw[decide_eq_false bE]; simp only[decide_eq_true (by omega:l[i-1]<l[i])]; rfl
 ·unfold ER
  cases (List.range l.length).all (pF l L) with
  |false=>rfl
  |true=>exact bB (QZ _ _ _) rfl
theorem La{l:List Int}{L:Int}(hl:l.length≤2^62):aa.oO l L=some (ER l L):=by
 unfold aa.oO
 refine bB (ug (fun i=>(false,(i:Int))) (pF l L) l.length (Sum.inr (false,(l.length:Int))) (Sum.inl false) (fun i hi=>?_) (bF (cw _) rfl) rfl) ?_
 ·refine bT (ca hi) (bT (av i) (bB (get_at hi) ?_))
  unfold pF
  rw[List.getElem?_eq_getElem hi]
  by_cases h1:l[i]<0
  ·refine bT (decide_eq_true h1) ?_
   simp only[decide_eq_false (by omega:¬0≤l[i])]; rfl
  refine bF (decide_eq_false h1) (bT (av i) (bB (get_at hi) ?_))
  simp only[decide_eq_true (by omega:0≤l[i])]
  by_cases h2:L≤l[i]
  ·refine bT (decide_eq_true h2) ?_
   simp only[decide_eq_false (by omega:¬l[i]≤L-1)]; rfl
  refine bF (decide_eq_false h2) ?_
  simp only[decide_eq_true (by omega:l[i]≤L-1)]
  by_cases e:i=0
  ·subst e
   exact bF rfl (by rw[cK (by omega)]; rfl)
  ·have hw:IntKind.i64.wrap ((i:Int)-1)=((i-1:Nat):Int):=by rw[bZ (by omega) (by omega)]; omega
   have EM:i-1<l.length:=by omega
   refine bT (decide_eq_true (by omega)) (bT (av i) (bB (get_at hi) (bT (by rw[hw]; exact av _) (bB (v:=l[i-1]) (by rw[hw]; exact get_at EM) ?_))))
   rw[if_neg e,List.getElem?_eq_getElem EM,cK (by omega)]
   by_cases bE:l[i]≤l[i-1]
   ·rw[decide_eq_true bE]; simp only[decide_eq_false (by omega:¬l[i-1]<l[i])]; rfl
   ·rw[decide_eq_false bE]; simp only[decide_eq_true (by omega:l[i-1]<l[i])]; rfl
 ·unfold ER
  cases (List.range l.length).all (pF l L) with
  |false=>rfl
  |true=>exact He
def uS(x:Int):Bool:=decide (0≤x)&&decide (x≤1000)
def vN(n:bt):Bool:=decide (n.aA.length≤8)&&(decide (n.ab.length≤8)&&(decide (n.aF.length=n.ab.length)&&((n.aA.all uS&&n.aF.all uS)&&n.ab.all fun l=>ER l (n.aA.length:Int))))
theorem uh{n:bt}(hl:∀ l∈n.ab,l.length≤2^62):aa.fC n=some (vN n):=by
 unfold aa.fC vN
 by_cases h1:n.aA.length≤8
 case neg=>rw[decide_eq_false h1]; exact bT (decide_eq_true (by omega)) rfl
 rw[decide_eq_true h1]
 refine bF (decide_eq_false (by omega)) ?_
 by_cases h2:n.ab.length≤8
 case neg=>rw[decide_eq_false h2]; exact bT (decide_eq_true (by omega)) rfl
 rw[decide_eq_true h2]
 refine bF (decide_eq_false (by omega)) ?_
 by_cases h3:n.aF.length=n.ab.length
 case neg=>rw[decide_eq_false h3]; exact bT (by simp; omega) rfl
 rw[decide_eq_true h3]
 refine bF (by simp; omega) ?_
 have hc:aa.iA [n.aA,n.aF]=some (n.aA++n.aF):=by
  show ui 8 [n.aA,n.aF]=_
  unfold ui Lb
  have:[n.aA,n.aF].flatten=n.aA++n.aF:=by simp
  rw[this]
  have hlen:(n.aA++n.aF).length≤16:=by rw[List.length_append]; omega
  exact bT (by simp only[Bool.and_eq_true,decide_eq_true_eq]; exact⟨by simp,by omega,by omega⟩) rfl
 refine bB hc ?_
 have hlen:(n.aA++n.aF).length≤16:=by rw[List.length_append]; omega
 refine bB (vz (n.aA++n.aF) (fun i=>(false,(i:Int))) uS (Sum.inl false) (Sum.inr (false,((n.aA++n.aF).length:Int))) (fun i hi=>?_) (bF (cw _) rfl) rfl) ?_
 ·refine bT (ca hi) (bT (av i) (bB (get_at hi) (bB (QZ _ _ _) ?_)))
  rw[cK (by omega)]
  show (bif !uS _ then _ else _)=_
  cases uS (n.aA++n.aF)[i]<;>rfl
 rw[List.all_append]
 cases hca:(n.aA.all uS&&n.aF.all uS) with
 |false=>rfl
 |true=>
  simp only[cond_true,Sum.elim_inr,Bool.true_and]
  refine bB (vz n.ab (fun i=>(false,(i:Int))) (fun l=>ER l (n.aA.length:Int)) (Sum.inl false) (Sum.inr (false,(n.ab.length:Int))) (fun i hi=>?_) (bF (cw _) rfl) rfl) ?_
  ·refine bT (ca hi) (bT (av i) (bB (get_at hi) (bB (Oc (hl _ (List.getElem_mem hi)) (by omega) (by omega)) ?_)))
   rw[cK (by omega)]
   cases ER n.ab[i] (n.aA.length:Int)<;>rfl
  ·cases n.ab.all fun l=>ER l (n.aA.length:Int)<;>rfl
theorem Od{γ δ:Type}{l:List γ}{m:List δ}{p:γ→Bool}{q:δ→Bool}(h:l.length=m.length):((List.range l.length).all fun i=>(l[i]?.map p).getD false&&(m[i]?.map q).getD false)=(l.all p&&m.all q):=by
 rw[Bool.eq_iff_iff,List.all_eq_true,Bool.and_eq_true,List.all_eq_true,List.all_eq_true]
 constructor
 ·intro hh
  refine⟨fun x hx=>?_,fun x hx=>?_⟩
  ·obtain⟨i,hi,rfl⟩:=List.getElem_of_mem hx
   have:=hh i (List.mem_range.2 hi)
   rw[List.getElem?_eq_getElem hi]at this
   simp only[Bool.and_eq_true]at this
   exact this.1
  ·obtain⟨i,hi,rfl⟩:=List.getElem_of_mem hx
   have:=hh i (List.mem_range.2 (by omega))
   rw[List.getElem?_eq_getElem hi]at this
   simp only[Bool.and_eq_true]at this
   exact this.2
 ·rintro⟨h1,h2⟩ i hi
  have hi:=List.mem_range.1 hi
  rw[List.getElem?_eq_getElem hi,List.getElem?_eq_getElem (show i<m.length by omega)]
  simp only[Bool.and_eq_true]
  exact⟨h1 _ (List.getElem_mem _),h2 _ (List.getElem_mem _)⟩
theorem qn{n:bt}(hl:∀ l∈n.ab,l.length≤2^62):aa.c6 n=some (vN n):=by
 unfold aa.c6 vN
 by_cases h1:n.aA.length≤8
 case neg=>rw[decide_eq_false h1]; exact bT (decide_eq_true (by omega)) rfl
 rw[decide_eq_true h1]
 refine bF (decide_eq_false (by omega)) ?_
 by_cases h2:n.ab.length≤8
 case neg=>rw[decide_eq_false h2]; exact bT (decide_eq_true (by omega)) rfl
 rw[decide_eq_true h2]
 refine bF (decide_eq_false (by omega)) ?_
 by_cases h3:n.aF.length=n.ab.length
 case neg=>rw[decide_eq_false h3]; exact bT (by simp; omega) rfl
 rw[decide_eq_true h3]
 refine bF (by simp; omega) ?_
 refine bB (vz n.aA (fun i=>(false,(i:Int))) uS (Sum.inl false) (Sum.inr (false,(n.aA.length:Int))) (fun i hi=>?_) (bF (cw _) rfl) rfl) ?_
 ·refine bT (ca hi) (bT (av i) (bB (get_at hi) ?_))
  rw[cK (by omega)]
  unfold uS
  by_cases g1:n.aA[i]<0
  ·rw[decide_eq_false (by omega:¬0≤n.aA[i])]; exact bT (decide_eq_true g1) rfl
  rw[decide_eq_true (by omega:0≤n.aA[i])]
  refine bF (decide_eq_false g1) (bT (av i) (bB (get_at hi) ?_))
  by_cases g2:1000<n.aA[i]
  ·rw[decide_eq_false (by omega:¬n.aA[i]≤1000)]; exact bT (decide_eq_true g2) rfl
  ·rw[decide_eq_true (by omega:n.aA[i]≤1000)]; exact bF (decide_eq_false g2) rfl
 cases hca:n.aA.all uS with
 |false=>rfl
 |true=>
  simp only[cond_true,Sum.elim_inr,Bool.true_and]
  refine bB (ug (fun i=>(false,(i:Int))) (fun i=>(n.ab[i]?.map fun l=>ER l (n.aA.length:Int)).getD false&&(n.aF[i]?.map uS).getD false) n.ab.length (Sum.inr (false,(n.ab.length:Int))) (Sum.inl false) (fun i hi=>?_) (bF (cw _) rfl) rfl) ?_
  ·have Jr:i<n.aF.length:=by omega
   refine bT (ca hi) (bT (av i) (bB (get_at hi) (bB (La (hl _ (List.getElem_mem hi))) ?_)))
   rw[cK (by omega),List.getElem?_eq_getElem hi,List.getElem?_eq_getElem Jr]
   show (bif !ER n.ab[i] (n.aA.length:Int) then _ else _)=bif (ER n.ab[i] (n.aA.length:Int)&&uS n.aF[i]) then _ else _
   cases ER n.ab[i] (n.aA.length:Int) with
   |false=>rfl
   |true=>
    refine bF rfl (bT (av i) (bB (get_at Jr) ?_))
    unfold uS
    by_cases g1:n.aF[i]<0
    ·simp only[decide_eq_false (by omega:¬0≤n.aF[i])]; exact bT (decide_eq_true g1) rfl
    simp only[decide_eq_true (by omega:0≤n.aF[i])]
    refine bF (decide_eq_false g1) (bT (av i) (bB (get_at Jr) ?_))
    by_cases g2:1000<n.aF[i]
    ·simp only[decide_eq_false (by omega:¬n.aF[i]≤1000)]; exact bT (decide_eq_true g2) rfl
    ·simp only[decide_eq_true (by omega:n.aF[i]≤1000)]; exact bF (decide_eq_false g2) rfl
  ·rw[Od (p:=fun l=>ER l (n.aA.length:Int)) (q:=uS) h3.symm,Bool.and_comm]
   cases (n.aF.all uS&&n.ab.all fun l=>ER l (n.aA.length:Int))<;>rfl
theorem Ty(n:bt)(hw:n.ab.length≤2^63-1):∃ b,aa.ji n=some b∧(b=true→n.aA.length≤50∧n.ab.length≤50∧n.aF.length≤50∧∀ l∈n.ab,l.length≤50):=by
 unfold aa.ji
 have sd:=ug (ω:=Bool ⊕ Bool×Int) (f:=fun ((b1,i2):Bool×Int)=>
   bif decide (i2<(↑n.ab.length:Int)) then bif decide (i2<50) then bif decide (0≤i2) then (n.ab[i2.toNat]?).bind fun l3=>bif decide (50<(↑l3.length:Int)) then some (Sum.inr (Sum.inl false)) else some (Sum.inl (b1,IntKind.i64.wrap (i2+1))) else none else some (Sum.inr (Sum.inr (b1,i2))) else some (Sum.inr (Sum.inr (b1,i2))))
  (fun i=>(false,(i:Int))) (fun i=>match n.ab[i]? with|some l=>decide (l.length≤50)|none=>false) (min n.ab.length 50) (Sum.inr (false,((min n.ab.length 50:Nat):Int))) (Sum.inl false) (x0:=(false,0)) (fun i hi=>?_) ?_ rfl
 ·cases aX:(List.range (min n.ab.length 50)).all (fun i=>match n.ab[i]? with|some l=>decide (l.length≤50)|none=>false) with
  |false=>
   rw[aX]at sd
   exact⟨false,bB sd rfl,fun h=>Bool.noConfusion h⟩
  |true=>
   rw[aX]at sd
   refine⟨_,bB sd (by show (bif _ then bif _ then _ else _ else _)=some (decide ((n.aA.length:Int)≤50)&&(decide ((n.ab.length:Int)≤50)&&decide ((n.aF.length:Int)≤50))); cases decide ((n.aA.length:Int)≤50)<;>cases decide ((n.ab.length:Int)≤50)<;>rfl),fun h=>?_⟩
   simp only[Bool.and_eq_true,decide_eq_true_eq]at h
   refine⟨by omega,by omega,by omega,fun l hl=>?_⟩
   obtain⟨i,hi,rfl⟩:=List.getElem_of_mem hl
   have:=List.all_eq_true.1 aX i (List.mem_range.2 (by omega))
   rw[List.getElem?_eq_getElem hi]at this
   simpa using this
 ·have h1:i<n.ab.length:=by omega
  refine bT (ca h1) (bT (decide_eq_true (by omega)) (bT (av i) (bB (get_at h1) ?_)))
  rw[List.getElem?_eq_getElem h1,cK (by omega)]
  by_cases g:n.ab[i].length≤50
  ·simp only[decide_eq_true g]; exact bF (decide_eq_false (by omega)) rfl
  ·simp only[decide_eq_false g]; exact bT (decide_eq_true (by omega)) rfl
 ·by_cases g:n.ab.length≤50
  ·have e:min n.ab.length 50=n.ab.length:=by omega
   rw[e]
   exact bF (cw _) rfl
  ·have e:min n.ab.length 50=50:=by omega
   rw[e]
   exact bT (ca (by omega)) (bF (by decide) rfl)
end Go.Proofs.Ytedjbjphpnkpoaa
end
section
/- Plain facts of this seat: levels. -/
set_option maxRecDepth 100000
namespace Go.Proofs.Ytedjbjphpnkpoaa
open Go.PI Go.Pl Go.Mm
theorem Oe{l:List Int}(hl:l.length≤2^62)(v:Int):aa.bG l v=some (decide (v∈l)):=by
 unfold aa.bG aa.ny
 have key:=qj (ω:=Int ⊕ Int×Int) (f:=fun ((i1,i2):Int×Int)=>bif decide (i2<(↑l.length:Int)) then bif decide (0≤i2) then (l[i2.toNat]?).bind fun i3=>bif v==i3 then some (Sum.inr (Sum.inl i2)) else some (Sum.inl (i1,IntKind.i64.wrap (i2+1))) else none else some (Sum.inr (Sum.inr (i1,i2))))
  (fun i=>((0:Int),(i:Int))) (fun i=>(l[i]?.map fun x=>!(v==x)).getD false) (fun i=>Sum.inl (i:Int)) l.length (Sum.inr (0,(l.length:Int))) (fun i hi=>by
    refine bT (ca hi) (bT (av i) (bB (get_at hi) ?_))
    rw[List.getElem?_eq_getElem hi,cK (by omega)]
    show (bif v==l[i] then _ else _)=some (bif !(v==l[i]) then _ else _)
    cases v==l[i]<;>rfl) (bF (cw _) rfl)
 rcases key with ⟨h1,h2⟩|⟨h1,i,hi,hp,h2⟩
 ·refine bB (v := -1) (bB h2 rfl) ?_
  rw[show decide (v∈l)=false from decide_eq_false fun hm=>?_]; ·rfl
  obtain⟨i,hi,rfl⟩:=List.getElem_of_mem hm
  have:=List.all_eq_true.1 h1 i (List.mem_range.2 hi)
  rw[List.getElem?_eq_getElem hi]at this
  simp at this
 ·refine bB (v:=(i:Int)) (bB h2 rfl) ?_
  rw[show decide (v∈l)=true from decide_eq_true ?_]; ·rw[av]
  rw[List.getElem?_eq_getElem hi]at hp
  simp only[Option.map_some,Option.getD_some,Bool.not_eq_false',beq_iff_eq]at hp
  rw[hp]; exact List.getElem_mem _
theorem Dy{l:List Bool}(hl:l.length≤2^62)(v:Bool):aa.fK l v=some (decide (v∈l)):=by
 unfold aa.fK aa.oP
 have key:=qj (ω:=Int ⊕ Int×Int) (f:=fun ((i1,i2):Int×Int)=>bif decide (i2<(↑l.length:Int)) then bif decide (0≤i2) then (l[i2.toNat]?).bind fun i3=>bif v==i3 then some (Sum.inr (Sum.inl i2)) else some (Sum.inl (i1,IntKind.i64.wrap (i2+1))) else none else some (Sum.inr (Sum.inr (i1,i2))))
  (fun i=>((0:Int),(i:Int))) (fun i=>(l[i]?.map fun x=>!(v==x)).getD false) (fun i=>Sum.inl (i:Int)) l.length (Sum.inr (0,(l.length:Int))) (fun i hi=>by
    refine bT (ca hi) (bT (av i) (bB (get_at hi) ?_))
    rw[List.getElem?_eq_getElem hi,cK (by omega)]
    show (bif v==l[i] then _ else _)=some (bif !(v==l[i]) then _ else _)
    cases v==l[i]<;>rfl) (bF (cw _) rfl)
 rcases key with ⟨h1,h2⟩|⟨h1,i,hi,hp,h2⟩
 ·refine bB (v := -1) (bB h2 rfl) ?_
  rw[show decide (v∈l)=false from decide_eq_false fun hm=>?_]; ·rfl
  obtain⟨i,hi,rfl⟩:=List.getElem_of_mem hm
  have:=List.all_eq_true.1 h1 i (List.mem_range.2 hi)
  rw[List.getElem?_eq_getElem hi]at this
  simp at this
 ·refine bB (v:=(i:Int)) (bB h2 rfl) ?_
  rw[show decide (v∈l)=true from decide_eq_true ?_]; ·rw[av]
  rw[List.getElem?_eq_getElem hi]at hp
  simp only[Option.map_some,Option.getD_some,Bool.not_eq_false',beq_iff_eq]at hp
  rw[hp]; exact List.getElem_mem _
/-! ### A valid network -/
def bS(n:bt)(l i:Nat):Bool:=(n.ab[i]?.map fun f=>decide ((l:Int)∈f)).getD false
def az(n:bt):xi where
 F:=n.ab.length
 L:=n.aA.length
 on:=bS n
 c l:=((n.aA[l]?.getD 0:Int):Rat)
 has i:=decide (0<n.aF[i]?.getD 0)
 k i:=((n.aF[i]?.getD 0:Int):Rat)
structure VN(n:bt):Prop where
 nc:n.aA.length≤8
 nf:n.ab.length≤8
 nl:n.aF.length=n.ab.length
 c:∀ x∈n.aA,0≤x∧x≤1000
 k:∀ x∈n.aF,0≤x∧x≤1000
 f6:∀ l∈n.ab,1≤l.length∧l.length≤6
 fr:∀ l∈n.ab,∀ x∈l,0≤x∧x<n.aA.length
theorem qo{n:bt}(h:vN n=true):VN n:=by
 unfold vN at h
 simp only[Bool.and_eq_true,decide_eq_true_eq,List.all_eq_true]at h
 obtain⟨h1,h2,h3,⟨h4,h5⟩,h6⟩:=h
 have hk:∀ x,uS x=true→0≤x∧x≤1000:=fun x hx=>by simpa[uS] using hx
 refine⟨h1,h2,h3,fun x hx=>hk x (h4 x hx),fun x hx=>hk x (h5 x hx),fun l hl=>?_,fun l hl x hx=>?_⟩
 ·have:=h6 l hl
  unfold ER at this
  simp only[Bool.and_eq_true,decide_eq_true_eq]at this
  omega
 ·have:=h6 l hl
  unfold ER at this
  simp only[Bool.and_eq_true,List.all_eq_true]at this
  obtain⟨i,hi,rfl⟩:=List.getElem_of_mem hx
  have:=this.1 i (List.mem_range.2 hi)
  unfold pF at this
  rw[List.getElem?_eq_getElem hi]at this
  simp only[Bool.and_eq_true,decide_eq_true_eq]at this
  omega
theorem VN.Iv{n:bt}(h:VN n){l:List Int}(hl:l∈n.ab):l.length≤2^62:=by have:=h.f6 l hl; omega
theorem VN.cap{n:bt}(h:VN n){l:Nat}(hl:l<n.aA.length):(az n).c l=((n.aA[l]:Int):Rat)∧0≤n.aA[l]∧n.aA[l]≤1000:=by
 refine⟨?_,h.c _ (List.getElem_mem _)⟩
 show ((n.aA[l]?.getD 0:Int):Rat)=_
 rw[List.getElem?_eq_getElem hl]; rfl
theorem VN.kf{n:bt}(h:VN n){i:Nat}(hi:i<n.ab.length):∃ k,n.aF[i]?=some k∧(az n).k i=(k:Rat)∧(az n).has i=decide (0<k)∧0≤k∧k≤1000:=by
 have hl:i<n.aF.length:=by rw[h.nl]; exact hi
 refine⟨n.aF[i],List.getElem?_eq_getElem hl,?_,?_,h.k _ (List.getElem_mem _)⟩
 ·show ((n.aF[i]?.getD 0:Int):Rat)=_
  rw[List.getElem?_eq_getElem hl]; rfl
 ·show decide (0<n.aF[i]?.getD 0)=_
  rw[List.getElem?_eq_getElem hl]; rfl
theorem VN.on{n:bt}(h:VN n){l i:Nat}(hi:i<n.ab.length):aa.bG n.ab[i] (l:Int)=some (bS n l i):=by
 rw[Oe (h.Iv (List.getElem_mem _))]
 unfold bS
 rw[List.getElem?_eq_getElem hi]; rfl
theorem VN.ex{n:bt}(h:VN n){i:Nat}(hi:i<n.ab.length):∃ l,l<n.aA.length∧bS n l i=true:=by
 have h1:=h.f6 _ (List.getElem_mem hi)
 have h2:=h.fr _ (List.getElem_mem hi) _ (List.getElem_mem (show 0<n.ab[i].length by omega))
 refine⟨n.ab[i][0].toNat,by omega,?_⟩
 unfold bS
 rw[List.getElem?_eq_getElem hi]
 simp only[Option.map_some,Option.getD_some,decide_eq_true_eq]
 rw[Int.toNat_of_nonneg h2.1]
 exact List.getElem_mem _
theorem qp{P:Nat}{q:Rat}(h1:1≤P)(h2:P≤1000)(hd:Dv P q)(h0:0≤q)(hq:q≤1000):bI q∧q.den≤P:=by
 obtain⟨m,hm⟩:=hd
 have hP:(P:Rat)≠0:=by intro e; have:P=0:=by exact_mod_cast e
                       omega
 have Y7:(0:Rat)<(P:Rat):=by exact_mod_cast h1
 have e:q=mkRat m P:=by
  rw[Rat.mkRat_eq_div,←hm,Rat.div_def,Rat.mul_assoc,Rat.mul_inv_cancel _ hP,Rat.mul_one]
 have Jo:0≤m:=by
  have:(0:Rat)≤(m:Rat):=by rw[←hm]; exact Rat.mul_nonneg h0 (Rat.le_of_lt Y7)
  exact_mod_cast this
 have r8:m≤1000*P:=by
  have:(m:Rat)≤1000*(P:Rat):=by rw[←hm]; exact Rat.mul_le_mul_of_nonneg_right hq (Rat.le_of_lt Y7)
  exact_mod_cast this
 have hn:=FQ (n:=m) h1
 have Tz:(mkRat m P).den≤P:=by rw[Rat.den_mkRat,if_neg (by omega)]; exact Nat.div_le_self _ _
 rw[←e]at hn Tz
 exact⟨⟨by omega,by omega,by omega⟩,Tz⟩
theorem oQ{k:Int}(h0:0≤k)(h1:k≤1000):bI (k:Rat):=⟨by show _≤k; omega,by show k≤_; omega,by show 1≤_; omega⟩
structure ij(n:bt)(rates:List ah)(fixed:List Bool)(x:Nat→Rat)(lo:Rat)(P:Nat):Prop where
 nr:rates.length=n.ab.length
 nf:fixed.length=n.ab.length
 r:∀ i,i<n.ab.length→fixed[i]?=some true→rates[i]?=some (c9 (x i))
 inv:Inv (az n) (fun i=>fixed[i]?.getD false) x lo P
abbrev cx(fixed:List Bool)(i:Nat):Bool:=fixed[i]?.getD false
theorem jG{p:Nat→Bool}{x:Nat→Rat}{n:Nat}(h:∀ j,j<n→p j=true→0≤x j):∀ {i:Nat},i≤n→0≤sm p x i∧sm p x i≤sm p x n:=by
 have up:∀ m i,i+m=n→sm p x i≤sm p x n:=by
  intro m
  induction m with
  |zero=>intro i hi; rw[show i=n by omega]; exact Rat.le_refl
  |succ m ih=>
   intro i hi
   have h1:=ih (i+1) (by omega)
   simp only[sm]at h1
   cases hp:p i with
   |false=>rw[hp]at h1; simp only[cond_false]at h1; grind
   |true=>rw[hp]at h1; simp only[cond_true]at h1; have:=h i (by omega) hp; grind
 intro i hi
 refine⟨?_,up (n-i) i (by omega)⟩
 clear up
 induction i with
 |zero=>exact Rat.le_refl
 |succ i ih=>
  have h1:=ih (by omega)
  simp only[sm]
  cases hp:p i with
  |false=>simp only[cond_false]; grind
  |true=>simp only[cond_true]; have:=h i (by omega) hp; grind
section
variable {n:bt}{rates:List ah}{fixed:List Bool}{x:Nat→Rat}{lo:Rat}{P:Nat}
theorem ij.PM(h:ij n rates fixed x lo P):P≤18:=Nat.le_trans (Nat.le_mul_of_pos_right _ (K6 _)) h.inv.PM
abbrev sF(n:bt)(fixed:List Bool)(x:Nat→Rat)(l:Nat):Rat:=sm (fun i=>bS n l i&&cx fixed i) x n.ab.length
abbrev mF(n:bt)(fixed:List Bool)(l:Nat):Nat:=ct (fun i=>bS n l i&&!cx fixed i) n.ab.length
theorem yz(hv:VN n)(h:ij n rates fixed x lo P){l:Nat}(hl:l<n.aA.length):
  ∃ q,aa.cz (l:Int) (cr.mk n fixed rates)=some (c9 q,decide (mF n fixed l≠0))∧(mF n fixed l≠0→q*(mF n fixed l:Nat)=(az n).c l-sF n fixed x l∧bI q):=by
 obtain⟨hc,JY,GB⟩:=hv.cap hl
 have Nf:∀ j,j<n.ab.length→(bS n l j&&cx fixed j)=true→0≤x j:=fun j hj hp=>by
  simp only[Bool.and_eq_true]at hp
  exact(h.inv.nn j hj hp.2).1
 have mJ:=h.inv.cap l hl
 have hP:=h.PM
 have K7:=h.inv.P1
 have yA:∀ i,i≤n.ab.length→bI ((az n).c l-sm (fun i=>bS n l i&&cx fixed i) x i):=fun i hi=>by
  have hm:=jG Nf hi
  refine(qp K7 (by omega) ?_ ?_ ?_).1
  ·refine Dv.sub ?_ (Dv.sm fun j hj hp=>h.inv.dv j (by show j<n.ab.length; omega) (by simp only[Bool.and_eq_true]at hp; exact hp.2))
   rw[hc]; exact Dv.int _
  ·have:sm (fun i=>bS n l i&&cx fixed i) x n.ab.length≤(az n).c l:=mJ
   grind
  ·have h1:(az n).c l≤1000:=by rw[hc]; exact_mod_cast GB
   have:=hm.1
   grind
 have hx:∀ i,i<n.ab.length→cx fixed i=true→bI (x i):=fun i hi hf=>by
  have h1:=h.inv.nn i hi hf
  obtain⟨l',gJ,jb⟩:=hv.ex hi
  obtain⟨FT,_,Lc⟩:=hv.cap gJ
  have TA:sm (fun i=>bS n l' i&&cx fixed i) x n.ab.length≤(az n).c l':=h.inv.cap l' gJ
  have Ld:∀ j,j<n.ab.length→(bS n l' j&&cx fixed j)=true→0≤x j:=fun j hj hp=>by
   simp only[Bool.and_eq_true]at hp
   exact(h.inv.nn j hj hp.2).1
  have h2:=(jG Ld (i:=i+1) (by omega)).2
  have h3:=(jG Ld (i:=i) (by omega)).1
  simp only[sm,jb,hf,Bool.and_self,cond_true]at h2
  have h4:(az n).c l'≤1000:=by rw[FT]; exact_mod_cast Lc
  exact(qp K7 (by omega) (h.inv.dv i hi hf) h1.1 (by grind)).1
 have tx:∀ i,i<n.ab.length→fixed[i]?=some (cx fixed i):=fun i hi=>by
  have:i<fixed.length:=by rw[h.nf]; exact hi
  unfold cx
  rw[List.getElem?_eq_getElem this]; rfl
 have Q0:=hv.nf
 have Qq:n.aA[(l:Int).toNat]?=some n.aA[l]:=get_at hl
 have WE:0≤(az n).c l-sF n fixed x l:=by
  have:sm (fun i=>bS n l i&&cx fixed i) x n.ab.length≤(az n).c l:=mJ
  grind
 have Lc:(az n).c l≤1000:=by rw[hc]; exact_mod_cast GB
 have Y8:(az n).c l-sF n fixed x l≤1000:=by
  have:=(jG Nf (i:=n.ab.length) (Nat.le_refl _)).1
  grind
 have WG:Dv P ((az n).c l-sF n fixed x l):=by
  refine Dv.sub ?_ (Dv.sm fun j hj hp=>h.inv.dv j hj (by simp only[Bool.and_eq_true]at hp; exact hp.2))
  rw[hc]; exact Dv.int _
 have TB:mF n fixed l≤8:=Nat.le_trans iz Q0
 have sd:aM (ω:=Int×Int×Int×Int) (fun ((i3,i4,i5,i6):Int×Int×Int×Int)=>
    bif decide (i3<(↑(cr.mk n fixed rates).Net.ab.length:Int)) then
     bif decide (0≤i3) then
      ((cr.mk n fixed rates).Net.ab[i3.toNat]?).bind fun l7=>
      (aa.bG l7 l).bind fun b8=>
      bif b8 then
       bif decide (0≤i3) then
        ((cr.mk n fixed rates).Dz[i3.toNat]?).bind fun b9=>
        bif !b9 then
         some (Sum.inl (IntKind.i64.wrap (i3+1),IntKind.i64.wrap (i4+1),i5,i6))
        else
         bif decide (0≤i3) then
          ((cr.mk n fixed rates).DA[i3.toNat]?).bind fun xy=>
          (aa.oa (ah.mk i5 i6) xy).bind fun (Ng,i12)=>
          some (Sum.inl (IntKind.i64.wrap (i3+1),i4,Ng.cF,Ng.Den))
         else
          none
       else
        none
      else
       some (Sum.inl (IntKind.i64.wrap (i3+1),i4,i5,i6))
     else
      none
    else
     some (Sum.inr (i3,i4,i5,i6))) (0,0,n.aA[l],1)=some ((n.ab.length:Int),((mF n fixed l:Nat):Int),((az n).c l-sF n fixed x l).num,(((az n).c l-sF n fixed x l).den:Int)):=by
  refine eD (fun i=>((i:Int),((ct (fun i=>bS n l i&&!cx fixed i) i:Nat):Int),((az n).c l-sm (fun i=>bS n l i&&cx fixed i) x i).num,((((az n).c l-sm (fun i=>bS n l i&&cx fixed i) x i).den:Nat):Int))) n.ab.length _ (fun i hi=>?_) (bF (cw _) rfl) ?_
  ·refine bT (ca hi) (bT (av i) (bB (get_at hi) (bB (hv.on hi) ?_)))
   rw[cK (by omega)]
   have So:=iz (p:=fun i=>bS n l i&&!cx fixed i) (n:=i)
   cases jb:bS n l i with
   |false=>
    refine bF rfl ?_
    simp only[ct,sm,jb,Bool.false_and,cond_false,Nat.add_zero]
    have:(az n).c l-(sm (fun i=>bS n l i&&cx fixed i) x i+0)=(az n).c l-sm (fun i=>bS n l i&&cx fixed i) x i:=by grind
    rw[this]
   |true=>
    refine bT rfl (bT (av i) (bB (v:=cx fixed i) (by rw[Int.toNat_natCast]; exact tx i hi) ?_))
    cases hf:cx fixed i with
    |false=>
     refine bT rfl ?_
     rw[cK (by omega)]
     simp only[ct,sm,jb,hf,Bool.true_and,Bool.not_false,cond_true,cond_false]
     have:(az n).c l-(sm (fun i=>bS n l i&&cx fixed i) x i+0)=(az n).c l-sm (fun i=>bS n l i&&cx fixed i) x i:=by grind
     rw[this]
    |true=>
     have x9:fixed[i]?=some true:=by rw[tx i hi,hf]
     have p6:=sub_eq (yA i (by omega)) (hx i hi hf)
     have uj:(az n).c l-sm (fun i=>bS n l i&&cx fixed i) x i-x i=(az n).c l-sm (fun i=>bS n l i&&cx fixed i) x (i+1):=by
      simp only[sm,jb,hf,Bool.and_self,cond_true]; grind
     rw[uj,if_pos (yA (i+1) (by omega))]at p6
     refine bF rfl (bT (av i) (bB (v:=c9 (x i)) (by rw[Int.toNat_natCast]; exact h.r i hi x9) (bB p6 ?_)))
     simp only[ct,jb,hf,Bool.true_and,Bool.not_true,cond_false,Nat.add_zero]
     rfl
  ·have:(az n).c l-sm (fun i=>bS n l i&&cx fixed i) x 0=(n.aA[l]:Rat):=by rw[←hc]; simp only[sm]; grind
   rw[this]; rfl
 by_cases hm:mF n fixed l=0
 ·refine⟨(az n).c l-sF n fixed x l,?_,fun h=>absurd hm h⟩
  unfold aa.cz
  refine bT (av l) (bB Qq (bB (v:=⟨n.aA[l],1⟩) rfl (bB sd (bT (by rw[hm]; rfl) ?_))))
  rw[hm]; rfl
 ·have r8:1≤mF n fixed l:=by omega
  have TC:((mF n fixed l:Nat):Rat)≠0:=fun e=>hm (by exact_mod_cast e)
  have PN:(0:Rat)<((mF n fixed l:Nat):Rat):=by exact_mod_cast r8
  have hq:((az n).c l-sF n fixed x l)/((mF n fixed l:Nat):Rat)*((mF n fixed l:Nat):Rat)=(az n).c l-sF n fixed x l:=by
   rw[Rat.div_def,Rat.mul_assoc,Rat.inv_mul_cancel _ TC,Rat.mul_one]
  have Of:0≤((az n).c l-sF n fixed x l)/((mF n fixed l:Nat):Rat):=by
   apply Rat.le_of_mul_le_mul_right (c:=((mF n fixed l:Nat):Rat)) _ PN
   rw[hq,Rat.zero_mul]; exact WE
  have gR:((az n).c l-sF n fixed x l)/((mF n fixed l:Nat):Rat)≤1000:=by
   apply Rat.le_of_mul_le_mul_right (c:=((mF n fixed l:Nat):Rat)) _ PN
   rw[hq]
   have:(1:Rat)≤((mF n fixed l:Nat):Rat):=by exact_mod_cast r8
   grind
  have WH:P*mF n fixed l≤1000:=Nat.le_trans (Nat.mul_le_mul hP TB) (by omega)
  have dG:=(qp (Nat.mul_pos K7 r8) WH (Dv.part WG hq) Of gR).1
  have Og:bI ((az n).c l-sF n fixed x l):=yA n.ab.length (Nat.le_refl _)
  have hdiv:=div_eq Og r8 (by omega)
  rw[if_pos dG]at hdiv
  refine⟨_,?_,fun _=>⟨hq,dG⟩⟩
  unfold aa.cz
  refine bT (av l) (bB Qq (bB (v:=⟨n.aA[l],1⟩) rfl (bB sd (bF (by show (((mF n fixed l:Nat):Int)==0)=false; rw[beq_eq_false_iff_ne]; omega) (bB (v:=⟨((mF n fixed l:Nat):Int),1⟩) rfl (bB hdiv ?_))))))
  rw[decide_eq_true hm]
theorem wN(hv:VN n)(h:ij n rates fixed x lo P){i:Nat}(hi:i<n.ab.length):
  aa.cM (i:Int) (cr.mk n fixed rates)=some (c9 ((az n).k i),(az n).has i&&!cx fixed i):=by
 obtain⟨k,hk,e1,e2,k0,k1⟩:=hv.kf hi
 have EZ:n.aF[(i:Int).toNat]?=some k:=by rw[Int.toNat_natCast]; exact hk
 unfold aa.cM
 refine bT (av i) (bB EZ (bB (v:=⟨k,1⟩) rfl (bT (av i) (bB EZ ?_))))
 rw[e1,e2]
 by_cases hp:0<k
 ·have:i<fixed.length:=by rw[h.nf]; exact hi
  refine bT (decide_eq_true hp) (bT (av i) (bB (v:=cx fixed i) (by rw[Int.toNat_natCast]; unfold cx; rw[List.getElem?_eq_getElem this]; rfl) ?_))
  rw[decide_eq_true hp]; rfl
 ·rw[decide_eq_false hp]
  exact bF rfl rfl
theorem FU(hv:VN n)(l:Nat){i:Nat}(hi:i<n.ab.length):aa.gb (l:Int) (cr.mk n fixed rates) (i:Int)=some (bS n l i):=by
 unfold aa.gb
 exact bT (av i) (bB (get_at hi) (bB (hv.on hi) rfl))
end
end Go.Proofs.Ytedjbjphpnkpoaa
end
section
/- Plain facts of this seat: what Share returns. -/
set_option maxRecDepth 100000
set_option maxHeartbeats 1000000
namespace Go.Proofs.Ytedjbjphpnkpoaa
open Go.PI Go.Pl Go.Mm
section
variable {γ:Type}{Q:γ→Prop}
theorem aK{c:Bool}{x y:Option γ}(hc:c=true)(hx:∃ r,x=some r∧Q r):∃ r,(bif c then x else y)=some r∧Q r:=by subst hc; exact hx
theorem dk{c:Bool}{x y:Option γ}(hc:c=false)(hy:∃ r,y=some r∧Q r):∃ r,(bif c then x else y)=some r∧Q r:=by subst hc; exact hy
theorem bU{β:Type}{e:Option β}{v:β}{K:β→Option γ}(he:e=some v)(hk:∃ r,K v=some r∧Q r):∃ r,e.bind K=some r∧Q r:=by subst he; exact hk
theorem Iw{τ ω:Type}{f:τ→Option (τ ⊕ ω)}(I:τ→Prop)(μ:τ→Nat)(P:ω→Prop)(h:∀ s,I s→(∃ s',f s=some (.inl s')∧I s'∧μ s'<μ s)∨(∃ w,f s=some (.inr w)∧P w)):
  ∀ s,I s→∃ w,aM f s=some w∧P w:=by
 have key:∀ m s,μ s<m→I s→∃ w,aM f s=some w∧P w:=by
  intro m
  induction m with
  |zero=>intro s hs; omega
  |succ m ih=>
   intro s hs hI
   rcases h s hI with ⟨s',h1,h2,h3⟩|⟨w,h1,h2⟩
   ·obtain⟨w,h4,h5⟩:=ih s' (by omega) h2
    exact⟨w,by rw[next h1,h4],h5⟩
   ·exact⟨w,out h1,h2⟩
 exact fun s hs=>key (μ s+1) s (Nat.lt_succ_self _) hs
theorem Hh{τ ω:Type}{f:τ→Option (τ ⊕ ω)}{x0:τ}{K:ω→Option γ}(I:τ→Prop)(μ:τ→Nat)(P:ω→Prop)(h:∀ s,I s→(∃ s',f s=some (.inl s')∧I s'∧μ s'<μ s)∨(∃ w,f s=some (.inr w)∧P w))(h0:I x0)
  (hk:∀ w,P w→∃ r,K w=some r∧Q r):∃ r,(aM f x0).bind K=some r∧Q r:=by
 obtain⟨w,h1,h2⟩:=Iw I μ P h x0 h0
 exact bU h1 (hk w h2)
end
/-! ### Stops -/
def jj(i:Nat):eu:=⟨true,(i:Int)⟩
def sM(i:Nat):eu:=⟨false,(i:Int)⟩
def qt(n:bt):List eu:=(List.range n.aA.length).map jj++(List.range n.ab.length).map sM
theorem DB{n:bt}{s:eu}(h:s∈qt n):(∃ l,l<n.aA.length∧s=jj l)∨∃ i,i<n.ab.length∧s=sM i:=by
 unfold qt at h
 simp only[List.mem_append,List.mem_map,List.mem_range]at h
 rcases h with ⟨l,h1,h2⟩|⟨l,h1,h2⟩
 ·exact .inl ⟨l,h1,h2.symm⟩
 ·exact .inr ⟨l,h1,h2.symm⟩
theorem DC(n:bt):(qt n).length=n.aA.length+n.ab.length:=by simp[qt]
section
variable {n:bt}{rates:List ah}{fixed:List Bool}{x:Nat→Rat}{lo:Rat}{P:Nat}
noncomputable def lvl(n:bt)(rates:List ah)(fixed:List Bool)(s:eu):Option (ah×Bool):=
 bif s.A then aa.cz s.N (cr.mk n fixed rates) else aa.cM s.N (cr.mk n fixed rates)
noncomputable def act(n:bt)(rates:List ah)(fixed:List Bool)(s:eu):Bool:=((lvl n rates fixed s).map (·.2)).getD false
noncomputable def lv(n:bt)(rates:List ah)(fixed:List Bool)(s:eu):ah:=((lvl n rates fixed s).map (·.1)).getD ⟨0,0⟩
noncomputable def rq(n:bt)(rates:List ah)(fixed:List Bool)(s:eu):Rat:=mkRat (lv n rates fixed s).cF (lv n rates fixed s).Den.toNat
theorem uk(q:Rat):mkRat (c9 q).cF (c9 q).Den.toNat=q:=by
 show mkRat q.num ((q.den:Int)).toNat=q
 rw[Int.toNat_natCast,Rat.mkRat_self]
theorem Q1(hv:VN n)(h:ij n rates fixed x lo P){s:eu}(hs:s∈qt n):lvl n rates fixed s=some (lv n rates fixed s,act n rates fixed s):=by
 have:∃ r,lvl n rates fixed s=some r:=by
  rcases DB hs with ⟨l,hl,rfl⟩|⟨i,hi,rfl⟩
  ·obtain⟨q,hq,_⟩:=yz hv h hl
   exact⟨_,hq⟩
  ·exact⟨_,wN hv h hi⟩
 obtain⟨r,hr⟩:=this
 unfold lv act
 rw[hr]; rfl
theorem vA(hv:VN n)(h:ij n rates fixed x lo P){l:Nat}(hl:l<n.aA.length):act n rates fixed (jj l)=decide (mF n fixed l≠0)∧(mF n fixed l≠0→lv n rates fixed (jj l)=c9 (rq n rates fixed (jj l))∧bI (rq n rates fixed (jj l))∧rq n rates fixed (jj l)*(mF n fixed l:Nat)=(az n).c l-sF n fixed x l):=by
 obtain⟨q,hq,hf⟩:=yz hv h hl
 have e1:act n rates fixed (jj l)=decide (mF n fixed l≠0):=by unfold act lvl; show ((aa.cz (l:Int) _).map _).getD false=_; rw[hq]; rfl
 have e2:lv n rates fixed (jj l)=c9 q:=by unfold lv lvl; show ((aa.cz (l:Int) _).map _).getD _=_; rw[hq]; rfl
 have e3:rq n rates fixed (jj l)=q:=by unfold rq; rw[e2]; exact uk q
 refine⟨e1,fun hm=>?_⟩
 rw[e3]
 exact⟨e2,(hf hm).2,(hf hm).1⟩
theorem yB(hv:VN n)(h:ij n rates fixed x lo P){i:Nat}(hi:i<n.ab.length):act n rates fixed (sM i)=((az n).has i&&!cx fixed i)∧lv n rates fixed (sM i)=c9 (rq n rates fixed (sM i))∧bI (rq n rates fixed (sM i))∧rq n rates fixed (sM i)=(az n).k i:=by
 have hq:=wN hv h hi
 obtain⟨k,_,Qu,_,k0,k1⟩:=hv.kf hi
 have e1:act n rates fixed (sM i)=((az n).has i&&!cx fixed i):=by unfold act lvl; show ((aa.cM (i:Int) _).map _).getD false=_; rw[hq]; rfl
 have e2:lv n rates fixed (sM i)=c9 ((az n).k i):=by unfold lv lvl; show ((aa.cM (i:Int) _).map _).getD _=_; rw[hq]; rfl
 have e3:rq n rates fixed (sM i)=(az n).k i:=by unfold rq; rw[e2]; exact uk _
 rw[e3]
 exact⟨e1,e2,by rw[Qu]; exact oQ k0 k1,rfl⟩
noncomputable def eZ(n:bt)(rates:List ah)(fixed:List Bool):List eu:=(qt n).filter (act n rates fixed)
theorem gT(hv:VN n)(h:ij n rates fixed x lo P){s:eu}(hs:s∈eZ n rates fixed):lv n rates fixed s=c9 (rq n rates fixed s)∧bI (rq n rates fixed s) ∧
  ((∃ l,l<n.aA.length∧s=jj l∧mF n fixed l≠0∧rq n rates fixed s*(mF n fixed l:Nat)=(az n).c l-sF n fixed x l)∨∃ i,i<n.ab.length∧s=sM i∧(az n).has i=true∧cx fixed i=false∧rq n rates fixed s=(az n).k i):=by
 unfold eZ at hs
 obtain⟨h1,h2⟩:=List.mem_filter.1 hs
 rcases DB h1 with ⟨l,hl,rfl⟩|⟨i,hi,rfl⟩
 ·obtain⟨g1,g2⟩:=vA hv h hl
  rw[g1]at h2
  have hm:=of_decide_eq_true h2
  obtain⟨g3,g4,g5⟩:=g2 hm
  exact⟨g3,g4,.inl ⟨l,hl,rfl,hm,g5⟩⟩
 ·obtain⟨g1,g2,g3,g4⟩:=yB hv h hi
  rw[g1]at h2
  simp only[Bool.and_eq_true,Bool.not_eq_true']at h2
  exact⟨g2,g3,.inr ⟨i,hi,rfl,h2.1,h2.2,g4⟩⟩
theorem AL(hv:VN n)(h:ij n rates fixed x lo P){l:Nat}(hl:l<n.aA.length)(hm:mF n fixed l≠0):jj l∈eZ n rates fixed:=by
 refine List.mem_filter.2 ⟨?_,by rw[(vA hv h hl).1]; exact decide_eq_true hm⟩
 unfold qt
 exact List.mem_append_left _ (List.mem_map.2 ⟨l,List.mem_range.2 hl,rfl⟩)
theorem Lf(hv:VN n)(h:ij n rates fixed x lo P){i:Nat}(hi:i<n.ab.length)(h1:(az n).has i=true)(h2:cx fixed i=false):sM i∈eZ n rates fixed:=by
 refine List.mem_filter.2 ⟨?_,by rw[(yB hv h hi).1,h1,h2]; rfl⟩
 unfold qt
 exact List.mem_append_right _ (List.mem_map.2 ⟨i,List.mem_range.2 hi,rfl⟩)
def Co(m:Rat)(l:List Rat):Rat:=l.foldl (fun m q=>if q<m then q else m) m
theorem Q2(l:List Rat):∀ m,Co m l≤m∧∀ q∈l,Co m l≤q:=by
 induction l with
 |nil=>intro m; exact⟨Rat.le_refl,fun q hq=>by cases hq⟩
 |cons a l ih=>
  intro m
  have h:=ih (if a<m then a else m)
  show Co (if a<m then a else m) l≤m∧∀ q∈a::l,Co (if a<m then a else m) l≤q
  have h1:(if a<m then a else m)≤m∧(if a<m then a else m)≤a:=by split<;>constructor<;>grind
  refine⟨Rat.le_trans h.1 h1.1,fun q hq=>?_⟩
  rcases List.mem_cons.1 hq with rfl|hq
  ·exact Rat.le_trans h.1 h1.2
  ·exact h.2 q hq
theorem Hi(l:List Rat):∀ m,Co m l=m∨Co m l∈l:=by
 induction l with
 |nil=>intro m; exact .inl rfl
 |cons a l ih=>
  intro m
  show Co (if a<m then a else m) l=m∨Co (if a<m then a else m) l∈a::l
  rcases ih (if a<m then a else m) with h|h
  ·rw[h]
   split
   ·exact .inr (by simp)
   ·exact .inl rfl
  ·exact .inr (List.mem_cons_of_mem _ h)
def eA{γ:Type}(l:List γ)(is:List Nat)(v:γ):List γ:=is.foldl (fun l i=>l.set i v) l
theorem ed{γ:Type}(is:List Nat)(v:γ):∀ l:List γ,(eA l is v).length=l.length:=by
 induction is with
 |nil=>intro l; rfl
 |cons i is ih=>intro l; show (eA (l.set i v) is v).length=_; rw[ih,List.length_set]
theorem sN{γ:Type}(is:List Nat)(v:γ):∀ (l:List γ) (j:Nat),j<l.length→(eA l is v)[j]?=if j∈is then some v else l[j]?:=by
 induction is with
 |nil=>intro l j hj; simp[eA]
 |cons i is ih=>
  intro l j hj
  show (eA (l.set i v) is v)[j]?=_
  rw[ih _ _ (by rw[List.length_set]; exact hj)]
  by_cases h1:j∈is
  ·rw[if_pos h1,if_pos (List.mem_cons_of_mem _ h1)]
  ·rw[if_neg h1]
   by_cases h2:j=i
   ·subst h2
    rw[if_pos (by simp),List.getElem?_set_self hj]
   ·rw[if_neg (by simp[h1,h2]),List.getElem?_set_ne (fun e=>h2 e.symm)]
theorem wO{γ:Type}(l:List γ)(is:List Nat)(v:γ){t:Nat}(ht:t<is.length):eA l (is.take (t+1)) v=(eA l (is.take t) v).set is[t] v:=by
 unfold eA
 rw[List.take_succ_eq_append_getElem ht,List.foldl_append]; rfl
end
end Go.Proofs.Ytedjbjphpnkpoaa
end
section
/- Plain facts of this seat: a step of Share, and Share. -/
set_option maxRecDepth 100000
set_option maxHeartbeats 2000000
namespace Go.Proofs.Ytedjbjphpnkpoaa
open Go.PI Go.Pl Go.Mm
theorem m6{m k:Nat}(h:m≤100000)(hk:k≤64):(decide (m*k≤2^44)&&decide (m≤2^44))=true:=by
 have:m*k≤100000*64:=Nat.mul_le_mul h hk
 simp only[Bool.and_eq_true,decide_eq_true_eq]
 omega
theorem kL(q r:Rat):((c9 q).cF==r.num&&(c9 q).Den==(r.den:Int))=decide (q=r):=by
 rw[Bool.eq_iff_iff]
 simp only[c9,Bool.and_eq_true,beq_iff_eq,decide_eq_true_eq]
 constructor
 ·rintro⟨h1,h2⟩; exact Rat.ext h1 (by omega)
 ·rintro rfl; exact⟨rfl,rfl⟩
def Lg(n:bt)(s:eu)(i:Nat):Bool:=bif s.A then bS n s.N.toNat i else s.N==(i:Int)
noncomputable def Ju(n:bt)(fixed:List Bool)(low:Rat)(r:Rat)(s:eu)(i:Nat):Bool:=decide (r=low)&&(!cx fixed i&&Lg n s i)
noncomputable def BO(n:bt)(rates:List ah)(fixed:List Bool)(low:Rat)(s:eu)(m:Nat):List Nat:=(List.range m).filter (Ju n fixed low (rq n rates fixed s) s)
noncomputable def iP(n:bt)(rates:List ah)(fixed:List Bool)(low:Rat):List Nat:=(eZ n rates fixed).flatMap fun s=>BO n rates fixed low s n.ab.length
theorem sO{γ:Type}(p:γ→Bool)(l:List γ):(l.filter p).length≤l.length:=List.length_filter_le _ _
theorem yC{γ δ:Type}{f:γ→List δ}{b:Nat}:∀ {l:List γ},(∀ x∈l,(f x).length≤b)→(l.flatMap f).length≤l.length*b
 |[],_=>by simp
 |x::l,h=>by
  have h1:=yC (l:=l) fun y hy=>h y (List.mem_cons_of_mem _ hy)
  have h2:=h x (by simp)
  simp only[List.flatMap_cons,List.length_append,List.length_cons,Nat.succ_mul]
  omega
section
variable {n:bt}{rates:List ah}{fixed:List Bool}{x:Nat→Rat}{lo:Rat}{P:Nat}
theorem Lh(hv:VN n):(eZ n rates fixed).length≤16:=by
 have h1:=sO (act n rates fixed) (qt n)
 have h2:=DC n
 have:=hv.nc; have:=hv.nf
 unfold eZ; omega
theorem vB{γ:Type}{p:γ→Bool}{l:List γ}{i:Nat}(h:i<l.length):(l.take (i+1)).filter p=(l.take i).filter p++bif p l[i] then [l[i]] else []:=by
 rw[List.take_succ_eq_append_getElem h,List.filter_append]
 cases hp:p l[i]<;>simp[hp]
theorem um{p:Nat→Bool}{i:Nat}:(List.range (i+1)).filter p=(List.range i).filter p++bif p i then [i] else []:=by
 rw[List.range_succ,List.filter_append]
 cases hp:p i<;>simp[hp]
abbrev dw(n:bt)(fixed:List Bool):Nat:=ct (fun i=>!cx fixed i) n.ab.length
noncomputable def cN(n:bt)(rates:List ah)(fixed:List Bool):Rat:=match eZ n rates fixed with
 |[]=>0
 |s::l=>Co (rq n rates fixed s) ((s::l).map (rq n rates fixed))
theorem Hj(hv:VN n)(h:ij n rates fixed x lo P)(hm:false∈fixed):∃ s l,eZ n rates fixed=s::l:=by
 obtain⟨i,hi,he⟩:=List.getElem_of_mem hm
 have uO:i<n.ab.length:=by rw[←h.nf]; exact hi
 have hf:cx fixed i=false:=by unfold cx; rw[List.getElem?_eq_getElem hi,he]; rfl
 obtain⟨l,hl,jb⟩:=hv.ex uO
 have Hk:mF n fixed l≠0:=by
  have:=nx (p:=fun i=>bS n l i&&!cx fixed i) uO (by simp[jb,hf])
  unfold mF; omega
 have:=AL hv h hl Hk
 cases ha:eZ n rates fixed with
 |nil=>rw[ha]at this; cases this
 |cons s l=>exact⟨s,l,rfl⟩
theorem DD(hv:VN n)(h:ij n rates fixed x lo P)(hm:false∈fixed):(∃ s∈eZ n rates fixed,rq n rates fixed s=cN n rates fixed)∧∀ s∈eZ n rates fixed,cN n rates fixed≤rq n rates fixed s:=by
 obtain⟨s,l,ha⟩:=Hj hv h hm
 unfold cN
 rw[ha]
 simp only
 have h1:=Q2 ((s::l).map (rq n rates fixed)) (rq n rates fixed s)
 refine⟨?_,fun t ht=>h1.2 _ (List.mem_map.2 ⟨t,ht,rfl⟩)⟩
 rcases Hi ((s::l).map (rq n rates fixed)) (rq n rates fixed s) with h2|h2
 ·exact⟨s,by simp,h2.symm⟩
 ·obtain⟨t,ht,e⟩:=List.mem_map.1 h2
  exact⟨t,ht,e⟩
theorem Oh(hv:VN n)(h:ij n rates fixed x lo P)(hm:false∈fixed):bI (cN n rates fixed):=by
 obtain⟨⟨s,hs,e⟩,_⟩:=DD hv h hm
 rw[←e]; exact(gT hv h hs).2.1
theorem ri{i:Nat}{low:Rat}:i∈iP n rates fixed low↔∃ s∈eZ n rates fixed,i<n.ab.length∧rq n rates fixed s=low∧cx fixed i=false∧Lg n s i=true:=by
 unfold iP BO Ju
 simp only[List.mem_flatMap,List.mem_filter,List.mem_range,Bool.and_eq_true,decide_eq_true_eq,Bool.not_eq_true']
theorem Oi(hv:VN n)(h:ij n rates fixed x lo P)(hm:false∈fixed):Sv (az n) (cx fixed) x (cN n rates fixed) (fun i=>decide (i∈iP n rates fixed (cN n rates fixed))):=by
 obtain⟨⟨s0,EO,e0⟩,rO⟩:=DD hv h hm
 have lk:∀ l,l<n.aA.length→mF n fixed l≠0→cN n rates fixed≤rq n rates fixed (jj l)∧rq n rates fixed (jj l)*(mF n fixed l:Nat)=(az n).c l-sF n fixed x l:=fun l hl Hk=>
  ⟨rO _ (AL hv h hl Hk),((vA hv h hl).2 Hk).2.2⟩
 refine⟨fun i hi hw=>?_,fun l hl=>?_,fun i hi hf hh=>?_,fun i hi hw=>?_,?_⟩
 ·obtain⟨s,_,_,_,h3,_⟩:=ri.1 (of_decide_eq_true hw)
  exact h3
 ·show cN n rates fixed*((mF n fixed l:Nat):Rat)≤(az n).c l-sF n fixed x l
  by_cases Hk:mF n fixed l=0
  ·rw[Hk]
   have:sF n fixed x l≤(az n).c l:=h.inv.cap l hl
   have e:cN n rates fixed*((0:Nat):Rat)=0:=by
    have:((0:Nat):Rat)=0:=rfl
    rw[this,Rat.mul_zero]
   rw[e]; grind
  ·obtain⟨g1,g2⟩:=lk l hl Hk
   rw[←g2]
   exact Rat.mul_le_mul_of_nonneg_right g1 (by exact_mod_cast Nat.zero_le _)
 ·have:=rO _ (Lf hv h hi hh hf)
  rw[(yB hv h hi).2.2.2]at this
  exact this
 ·obtain⟨s,hs,_,hq,hf,ig⟩:=ri.1 (of_decide_eq_true hw)
  obtain⟨_,_,⟨l,hl,rfl,Hk,Li⟩|⟨j,hj,rfl,hh,_,hk⟩⟩:=gT hv h hs
  ·have jb:bS n l i=true:=by simpa[Lg,jj] using ig
   rw[hq]at Li
   refine .inr ⟨l,hl,jb,Li,fun j hj PO Q3=>decide_eq_true (ri.2 ⟨_,hs,hj,hq,Q3,by have WI:bS n l j=true:=PO; simpa[Lg,jj] using WI⟩)⟩
  ·have M6:j=i:=by simp only[Lg,sM,cond_false,beq_iff_eq]at ig; omega
   subst M6
   exact .inl ⟨hh,by rw[←hq,hk]⟩
 ·obtain⟨_,_,⟨l,hl,rfl,Hk,Li⟩|⟨j,hj,rfl,hh,hf,hk⟩⟩:=gT hv h EO
  ·obtain⟨i,hi,hp⟩:=Du (p:=fun i=>bS n l i&&!cx fixed i) (n:=n.ab.length) (by unfold mF at Hk; omega)
   simp only[Bool.and_eq_true,Bool.not_eq_true']at hp
   exact⟨i,hi,decide_eq_true (ri.2 ⟨_,EO,hi,e0,hp.2,by simpa[Lg,jj] using hp.1⟩)⟩
  ·exact⟨j,hj,decide_eq_true (ri.2 ⟨_,EO,hj,e0,hf,by simp[Lg,sM]⟩)⟩
theorem Lj{low:Rat}{i:Nat}(h:i∈iP n rates fixed low):i<n.ab.length:=by
 obtain⟨_,_,h1,_⟩:=ri.1 h; exact h1
theorem Oj(hv:VN n)(h:ij n rates fixed x lo P)(hm:false∈fixed):∃ x' P',ij n (eA rates (iP n rates fixed (cN n rates fixed)) (c9 (cN n rates fixed))) (eA fixed (iP n rates fixed (cN n rates fixed)) true) x' (cN n rates fixed) P' ∧
  dw n (eA fixed (iP n rates fixed (cN n rates fixed)) true)<dw n fixed:=by
 have g:=Oi hv h hm
 have Tu:∀ l,l<(az n).L→Dv 1 ((az n).c l):=fun l hl=>by rw[(hv.cap hl).1]; exact Dv.int _
 have EZ:∀ i,i<(az n).F→Dv 1 ((az n).k i):=fun i hi=>by obtain⟨k,_,e,_⟩:=hv.kf hi; rw[e]; exact Dv.int _
 obtain⟨P',hI⟩:=AK (N:=az n) hv.nf Tu EZ h.inv g
 have TD:(fun i=>cx (eA fixed (iP n rates fixed (cN n rates fixed)) true) i)=fun i=>cx fixed i||decide (i∈iP n rates fixed (cN n rates fixed)):=by
  funext i
  by_cases hi:i<fixed.length
  ·unfold cx
   rw[sN _ _ _ _ hi]
   by_cases hw:i∈iP n rates fixed (cN n rates fixed)
   ·rw[if_pos hw,decide_eq_true hw,Bool.or_true]; rfl
   ·rw[if_neg hw,decide_eq_false hw,Bool.or_false]
  ·have h1:i∉iP n rates fixed (cN n rates fixed):=fun hw=>hi (by rw[h.nf]; exact Lj hw)
   rw[decide_eq_false h1,Bool.or_false]
   unfold cx
   have e1:(eA fixed (iP n rates fixed (cN n rates fixed)) true)[i]?=none:=List.getElem?_eq_none (by rw[ed]; omega)
   have e2:fixed[i]?=none:=List.getElem?_eq_none (by omega)
   rw[e1,e2]
 refine⟨_,P',⟨by rw[ed]; exact h.nr,by rw[ed]; exact h.nf,fun i hi hf=>?_,by rw[TD]; exact hI⟩,?_⟩
 ·rw[sN _ _ _ _ (by rw[h.nr]; exact hi)]
  rw[sN _ _ _ _ (by rw[h.nf]; exact hi)]at hf
  by_cases hw:i∈iP n rates fixed (cN n rates fixed)
  ·simp[hw]
  ·simp only[hw,if_false]at hf ⊢
   simp only[decide_false,Bool.false_eq_true,if_false]
   exact h.r i hi hf
 ·show ct (fun i=>!cx (eA fixed _ true) i) n.ab.length<_
  have e:(fun i=>!cx (eA fixed (iP n rates fixed (cN n rates fixed)) true) i)=fun i=>!(cx fixed i||decide (i∈iP n rates fixed (cN n rates fixed))):=by
   funext i; rw[show cx (eA fixed _ true) i=_ from congrFun TD i]
  rw[e]
  obtain⟨i,hi,hw⟩:=g.some
  have Sm:=ql (p:=fun i=>!cx fixed i) (q:=fun i=>decide (i∈iP n rates fixed (cN n rates fixed))) (n:=n.ab.length)
  have hp:=nx (p:=fun i=>!cx fixed i&&decide (i∈iP n rates fixed (cN n rates fixed))) (n:=n.ab.length) hi (by rw[g.sub i hi hw,hw]; rfl)
  have e2:ct (fun i=>!(cx fixed i||decide (i∈iP n rates fixed (cN n rates fixed)))) n.ab.length=ct (fun i=>!cx fixed i&&!decide (i∈iP n rates fixed (cN n rates fixed))) n.ab.length:=kK fun j _=>by cases cx fixed j<;>rfl
  show _<ct (fun i=>!cx fixed i) n.ab.length
  rw[e2]; omega
end
end Go.Proofs.Ytedjbjphpnkpoaa
end
section
/- Plain facts of this seat: Share returns the fair rates. -/
set_option maxRecDepth 100000
set_option maxHeartbeats 4000000
namespace Go.Proofs.Ytedjbjphpnkpoaa
open Go.PI Go.Pl Go.Mm
theorem Ol{γ:Type}{l:List γ}{i:Nat}(h:i<l.length):l[0+(i:Int).toNat]?=some l[i]:=by
 rw[Nat.zero_add,Int.toNat_natCast]; exact List.getElem?_eq_getElem h
theorem Nh{i m:Nat}(h:i<m):decide ((i:Int).toNat<m)=true:=decide_eq_true (by rw[Int.toNat_natCast]; exact h)
theorem Lk(m:Rat)(l:List Rat)(q:Rat):Co m (l++[q])=if q<Co m l then q else Co m l:=by
 unfold Co; rw[List.foldl_append]; rfl
theorem Ll{n:bt}(hb:vN n=true):∃ r,aa.bX n=some r∧r.2=0∧∃ x lo P,ij n r.1 (List.replicate n.ab.length true) x lo P:=by
 have hv:=qo hb
 have Q0:=hv.nf
 have hL8:=hv.nc
 have tx:∀ l∈n.ab,l.length≤2^62:=fun l hl=>hv.Iv hl
 have eN:((n.ab.length:Int)).toNat=n.ab.length:=Int.toNat_natCast _
 unfold aa.bX
 refine bU (uh tx) (dk (by rw[hb]; rfl) (aK (by rw[eN]; simp only[Bool.and_eq_true,decide_eq_true_eq]; omega) (aK (by rw[eN]; simp only[Bool.and_eq_true,decide_eq_true_eq]; omega) ?_)))
 refine bU (v:=((n.aA.length:Int),(List.range n.aA.length).map jj)) (eD (fun i=>((i:Int),(List.range i).map jj)) n.aA.length _ (fun i hi=>?_) (bF (cw _) rfl) rfl) ?_
 ·refine bT (ca hi) (bT (by rw[List.length_map,List.length_range]; exact m6 (by omega) (by omega)) ?_)
  rw[cK (by omega),List.range_succ,List.map_append]; rfl
 refine bU (v:=((n.aF.length:Int),qt n)) (eD (fun i=>((i:Int),(List.range n.aA.length).map jj++(List.range i).map sM)) n.aF.length _ (fun i hi=>?_) (bF (cw _) (by rw[hv.nl]; rfl)) (by simp)) ?_
 ·have:=hv.nl
  refine bT (ca hi) (bT (by simp only[List.length_append,List.length_map,List.length_range]; exact m6 (by omega) (by omega)) ?_)
  rw[cK (by omega),List.range_succ,List.map_append,List.append_assoc]; rfl
 refine Hh (fun s=>∃ x lo P,ij n s.1 s.2 x lo P) (fun s=>dw n s.2) (fun w=>(∃ x lo P,ij n w.1 w.2 x lo P)∧false∉w.2) ?_ ?_ ?_
 ·rintro⟨rates,fixed⟩ ⟨x,lo,P,h⟩
  have Ni:rates.length=n.ab.length:=h.nr
  have Lm:fixed.length=n.ab.length:=h.nf
  have h':ij n rates fixed x lo P:=h
  have hc:=Dy (l:=fixed) (by omega) false
  have er:decide (rates.length=(List.replicate ((n.ab.length:Int)).toNat (ah.mk 0 0)).length)=true:=decide_eq_true (by rw[List.length_replicate,eN]; exact Ni)
  have ef:decide (fixed.length=(List.replicate ((n.ab.length:Int)).toNat false).length)=true:=decide_eq_true (by rw[List.length_replicate,eN]; exact Lm)
  by_cases hm:false∈fixed
  ·obtain⟨x',P',hS,bE⟩:=Oj hv h' hm
   refine .inl ⟨(_,_),?_,⟨x',_,P',hS⟩,bE⟩
   obtain⟨s0,rest,ha⟩:=Hj hv h' hm
   have aaO:=Oh hv h' hm
   have WJ:=Lh (n:=n) (rates:=rates) (fixed:=fixed) hv
   have aX:=DC n
   refine bB hc (bT (decide_eq_true hm) ?_)
   refine bB (v:=(((qt n).length:Int),(eZ n rates fixed).map (lv n rates fixed),eZ n rates fixed)) (eD (fun i=>((i:Int),(((qt n).take i).filter (act n rates fixed)).map (lv n rates fixed),((qt n).take i).filter (act n rates fixed))) (qt n).length _ (fun i hi=>?_) (bF (cw _) (by simp only[List.take_length]; rfl)) rfl) ?_
   ·have hl:=Q1 hv h' (List.getElem_mem hi)
    have Vi:=vB (p:=act n rates fixed) hi
    have aaP:=sO (act n rates fixed) ((qt n).take i)
    have yr:((qt n).take i).length≤16:=by rw[List.length_take]; omega
    refine bT (ca hi) (bT (av i) (bT (Nh hi) (bB (Ol hi) ?_)))
    rw[cK (by omega),Vi]
    generalize (qt n)[i]=s at hl
    obtain⟨A,N⟩:=s
    cases A with
    |true=>
     refine bT rfl (bB hl ?_)
     cases act n rates fixed ⟨true,N⟩ with
     |false=>exact bF rfl (by simp)
     |true=>exact bT rfl (bT (by rw[List.length_map]; exact m6 (by omega) (by omega)) (bT (m6 (by omega) (by omega)) (by simp)))
    |false=>
     refine bF rfl (bB hl ?_)
     cases act n rates fixed ⟨false,N⟩ with
     |false=>exact bF rfl (by simp)
     |true=>exact bT rfl (bT (by rw[List.length_map]; exact m6 (by omega) (by omega)) (bT (m6 (by omega) (by omega)) (by simp)))
   have nW:∀ {i:Nat} (hi:i<(eZ n rates fixed).length),((eZ n rates fixed).map (lv n rates fixed))[0+(i:Int).toNat]?=some (c9 (rq n rates fixed (eZ n rates fixed)[i])):=fun {i} hi=>by
    rw[Nat.zero_add,Int.toNat_natCast,List.getElem?_map,List.getElem?_eq_getElem hi,Option.map_some,(gT hv h' (List.getElem_mem hi)).1]
   have EO:s0∈eZ n rates fixed:=by rw[ha]; simp
   have cH:0<(eZ n rates fixed).length:=by rw[ha]; simp
   refine bT (decide_eq_true (by rw[List.length_map]; exact cH)) (bB (v:=c9 (rq n rates fixed s0)) (by rw[ha,List.map_cons,List.getElem?_cons_zero,(gT hv h' EO).1]) ?_)
   have V7:∀ i,bI (Co (rq n rates fixed s0) (((eZ n rates fixed).take i).map (rq n rates fixed))):=fun i=>by
    rcases Hi (((eZ n rates fixed).take i).map (rq n rates fixed)) (rq n rates fixed s0) with e|e
    ·rw[e]; exact(gT hv h' EO).2.1
    ·obtain⟨t,ht,e⟩:=List.mem_map.1 e
     rw[←e]; exact(gT hv h' (List.mem_of_mem_take ht)).2.1
   refine bB (v:=(((eZ n rates fixed).length:Int),(cN n rates fixed).num,((cN n rates fixed).den:Int))) (eD (fun i=>((i:Int),(Co (rq n rates fixed s0) (((eZ n rates fixed).take i).map (rq n rates fixed))).num,((Co (rq n rates fixed s0) (((eZ n rates fixed).take i).map (rq n rates fixed))).den:Int))) (eZ n rates fixed).length _ (fun i hi=>?_) (bF (by rw[List.length_map]; exact cw _) ?_) rfl) ?_
   ·have hf:=gT hv h' (List.getElem_mem hi)
    have Ln:=xx hf.2.1 (V7 i)
    refine bT (by rw[List.length_map]; exact ca hi) (bT (av i) (bT (by rw[List.length_map]; exact Nh hi) (bB (nW hi) (bB Ln ?_))))
    rw[cK (by omega),List.take_succ_eq_append_getElem hi,List.map_append,List.map_cons,List.map_nil,Lk]
    by_cases hq:rq n rates fixed (eZ n rates fixed)[i]<Co (rq n rates fixed s0) (((eZ n rates fixed).take i).map (rq n rates fixed))
    ·rw[if_pos hq]; exact bT (decide_eq_true hq) rfl
    ·rw[if_neg hq]; exact bF (decide_eq_false hq) rfl
   ·rw[List.take_length]
    have:cN n rates fixed=Co (rq n rates fixed s0) ((eZ n rates fixed).map (rq n rates fixed)):=by unfold cN; rw[ha]
    rw[this]
   have Vm:∀ s m,(BO n rates fixed (cN n rates fixed) s m).length≤m:=fun s m=>by
    have:=sO (Ju n fixed (cN n rates fixed) (rq n rates fixed s) s) (List.range m)
    rw[List.length_range]at this; exact this
   refine bB (v:=(((eZ n rates fixed).length:Int),(iP n rates fixed (cN n rates fixed)).map fun i:Nat=>(i:Int))) (eD (fun k=>((k:Int),(((eZ n rates fixed).take k).flatMap fun s=>BO n rates fixed (cN n rates fixed) s n.ab.length).map fun i:Nat=>(i:Int))) (eZ n rates fixed).length _ (fun k hk=>?_) (bF (cw _) (by rw[List.take_length]; rfl)) rfl) ?_
   ·refine bT (ca hk) (bT (av k) (bT (Nh hk) (bB (Ol hk) ?_)))
    have WK:=nW hk
    have AM:((eZ n rates fixed).take (k+1)).flatMap (fun s=>BO n rates fixed (cN n rates fixed) s n.ab.length)=((eZ n rates fixed).take k).flatMap (fun s=>BO n rates fixed (cN n rates fixed) s n.ab.length)++BO n rates fixed (cN n rates fixed) (eZ n rates fixed)[k] n.ab.length:=by
     rw[List.take_succ_eq_append_getElem hk,List.flatMap_append]; simp
    have zw:(((eZ n rates fixed).take k).flatMap fun s=>BO n rates fixed (cN n rates fixed) s n.ab.length).length≤128:=by
     have h1:=yC (l:=(eZ n rates fixed).take k) (f:=fun s=>BO n rates fixed (cN n rates fixed) s n.ab.length) (b:=8) (fun s _=>Nat.le_trans (Vm s _) Q0)
     have h2:((eZ n rates fixed).take k).length≤16:=by rw[List.length_take]; omega
     omega
    rw[AM,List.map_append]
    have hf:=gT hv h' (List.getElem_mem hk)
    have M8:∀ j (hj:j<n.ab.length),fixed[0+(j:Int).toNat]?=some (cx fixed j):=fun j hj=>by
     rw[Nat.zero_add,Int.toNat_natCast,List.getElem?_eq_getElem (by omega)]
     unfold cx; rw[List.getElem?_eq_getElem (by omega)]; rfl
    generalize TE:(((eZ n rates fixed).take k).flatMap fun s=>BO n rates fixed (cN n rates fixed) s n.ab.length).map (fun i:Nat=>(i:Int))=base
    have aaQ:base.length≤128:=by rw[←TE,List.length_map]; exact zw
    generalize hs:(eZ n rates fixed)[k]=s at WK hf
    have dY:∀ j,BO n rates fixed (cN n rates fixed) s (j+1)=BO n rates fixed (cN n rates fixed) s j++bif Ju n fixed (cN n rates fixed) (rq n rates fixed s) s j then [j] else []:=fun j=>um
    obtain⟨A,N⟩:=s
    cases A with
    |true=>
     refine bT rfl (bB (v:=((n.ab.length:Int),base++(BO n rates fixed (cN n rates fixed) ⟨true,N⟩ n.ab.length).map fun i:Nat=>(i:Int))) (eD (fun j=>((j:Int),base++(BO n rates fixed (cN n rates fixed) ⟨true,N⟩ j).map fun i:Nat=>(i:Int))) n.ab.length _ (fun j hj=>?_) (bF (cw _) rfl) (by simp[BO])) ?_)
     ·obtain⟨l,hN⟩:∃ l:Nat,N=(l:Int):=by
       rcases hf.2.2 with ⟨l,_,e,_⟩|⟨i,_,e,_⟩
       ·exact⟨l,congrArg eu.N e⟩
       ·cases congrArg eu.A e
      subst hN
      have hgj:=Vm ⟨true,(l:Int)⟩ j
      refine bT (ca hj) (bT (av k) (bT (by rw[List.length_map]; exact Nh hk) (bB WK ?_)))
      rw[cK (by omega),dY j]
      by_cases hq:rq n rates fixed ⟨true,(l:Int)⟩=cN n rates fixed
      ·refine bT (by rw[kL]; exact decide_eq_true hq) (bT (av j) (bT (Nh (by omega)) (bB (M8 j hj) ?_)))
       cases Q3:cx fixed j with
       |true=>exact bF rfl (by simp[Ju,Q3])
       |false=>
        refine bT rfl (bB (FU hv l hj) ?_)
        have ig:Lg n ⟨true,(l:Int)⟩ j=bS n l j:=by simp[Lg]
        cases jb:bS n l j with
        |false=>exact bF rfl (by simp[Ju,ig,jb])
        |true=>exact bT rfl (bT (by rw[List.length_append,List.length_map]; exact m6 (by omega) (by omega)) (by simp[Ju,ig,jb,Q3,hq]))
      ·exact bF (by rw[kL]; exact decide_eq_false hq) (by simp[Ju,hq])
     ·rw[cK (by omega)]
    |false=>
     refine bF rfl (bB (v:=((n.ab.length:Int),base++(BO n rates fixed (cN n rates fixed) ⟨false,N⟩ n.ab.length).map fun i:Nat=>(i:Int))) (eD (fun j=>((j:Int),base++(BO n rates fixed (cN n rates fixed) ⟨false,N⟩ j).map fun i:Nat=>(i:Int))) n.ab.length _ (fun j hj=>?_) (bF (cw _) rfl) (by simp[BO])) ?_)
     ·have hgj:=Vm ⟨false,N⟩ j
      refine bT (ca hj) (bT (av k) (bT (by rw[List.length_map]; exact Nh hk) (bB WK ?_)))
      rw[cK (by omega),dY j]
      by_cases hq:rq n rates fixed ⟨false,N⟩=cN n rates fixed
      ·refine bT (by rw[kL]; exact decide_eq_true hq) (bT (av j) (bT (Nh (by omega)) (bB (M8 j hj) ?_)))
       cases Q3:cx fixed j with
       |true=>exact bF rfl (by simp[Ju,Q3])
       |false=>
        refine bT rfl (bB (v:=N==(j:Int)) rfl ?_)
        have ig:Lg n ⟨false,N⟩ j=(N==(j:Int)):=by simp[Lg]
        cases jb:(N==(j:Int)) with
        |false=>exact bF rfl (by simp[Ju,ig,jb])
        |true=>exact bT rfl (bT (by rw[List.length_append,List.length_map]; exact m6 (by omega) (by omega)) (by simp[Ju,ig,jb,Q3,hq]))
      ·exact bF (by rw[kL]; exact decide_eq_false hq) (by simp[Ju,hq])
     ·rw[cK (by omega)]
   have Qw:(iP n rates fixed (cN n rates fixed)).length≤128:=by
    have h1:=yC (l:=eZ n rates fixed) (f:=fun s=>BO n rates fixed (cN n rates fixed) s n.ab.length) (b:=8) (fun s _=>Nat.le_trans (Vm s _) Q0)
    unfold iP; omega
   refine bB (v:=(((iP n rates fixed (cN n rates fixed)).length:Int),eA rates (iP n rates fixed (cN n rates fixed)) (c9 (cN n rates fixed)),eA fixed (iP n rates fixed (cN n rates fixed)) true))
    (eD (fun t=>((t:Int),eA rates ((iP n rates fixed (cN n rates fixed)).take t) (c9 (cN n rates fixed)),eA fixed ((iP n rates fixed (cN n rates fixed)).take t) true)) (iP n rates fixed (cN n rates fixed)).length _ (fun t ht=>?_) (bF (by rw[List.length_map]; exact cw _) (bT (decide_eq_true (ed _ _ _)) (bT (decide_eq_true (ed _ _ _)) (by rw[List.take_length])))) rfl) ?_
   ·have bE:=Lj (List.getElem_mem ht)
    have l1:(eA rates ((iP n rates fixed (cN n rates fixed)).take t) (c9 (cN n rates fixed))).length=n.ab.length:=by rw[ed]; exact Ni
    have l2:(eA fixed ((iP n rates fixed (cN n rates fixed)).take t) true).length=n.ab.length:=by rw[ed]; exact Lm
    refine bT (by rw[List.length_map]; exact ca ht) (bT (av t) (bT (by rw[List.length_map]; exact Nh ht) (bB (v:=((iP n rates fixed (cN n rates fixed))[t]:Int)) (by rw[Nat.zero_add,Int.toNat_natCast,List.getElem?_map,List.getElem?_eq_getElem ht]; rfl) ?_)))
    refine bT (av _) (bT (Nh (by omega)) (bB (Ol (by omega)) (bT (av _) (bT (Nh (by omega)) (bB (Ol (by omega)) ?_)))))
    refine bT (decide_eq_true (by rw[List.length_set]; exact ed _ _ _)) (bT (decide_eq_true (by rw[List.length_set]; exact ed _ _ _)) ?_)
    rw[cK (by omega),wO _ _ _ ht,wO _ _ _ ht,Nat.zero_add,Int.toNat_natCast]; rfl
   exact bT (decide_eq_true (by rw[ed,List.length_replicate,eN]; exact Ni)) (bT (decide_eq_true (by rw[ed,List.length_replicate,eN]; exact Lm)) rfl)
  ·exact .inr ⟨(rates,fixed),bB hc (bF (decide_eq_false hm) (bT er (bT ef rfl))),⟨x,lo,P,h⟩,hm⟩
 ·rw[eN]
  refine⟨fun _=>0,0,1,by simp,by simp,fun i hi hf=>?_,?_⟩
  ·rw[List.getElem?_replicate]at hf; split at hf<;>simp at hf
  ·have:(fun i:Nat=>(List.replicate n.ab.length false)[i]?.getD false)=fun _=>false:=by
    funext i
    rw[List.getElem?_replicate]
    split<;>rfl
   show Mm.Inv (az n) (fun i:Nat=>(List.replicate n.ab.length false)[i]?.getD false) _ _ _
   rw[this]
   exact yy Q0 (fun l hl=>by rw[(hv.cap hl).1]; exact_mod_cast (hv.cap hl).2.1) (fun i hi hh=>by obtain⟨k,_,e,_,k0,_⟩:=hv.kf hi; rw[e]; exact_mod_cast k0) _
 ·rintro⟨rates,fixed⟩ ⟨⟨x,lo,P,h⟩,hm⟩
  refine⟨_,rfl,rfl,x,lo,P,?_⟩
  have Lm:fixed.length=n.ab.length:=h.nf
  have uQ:false∉fixed:=hm
  have:fixed=List.replicate n.ab.length true:=by
   rw[List.eq_replicate_iff]
   exact⟨Lm,fun b hb=>by cases b with|true=>rfl|false=>exact absurd hb uQ⟩
  have h2:ij n rates fixed x lo P:=h
  rw[this]at h2
  exact h2
end Go.Proofs.Ytedjbjphpnkpoaa
end
section
/- Plain facts of this seat: the fair rates; the law MaxminScale. -/
set_option maxRecDepth 100000
set_option maxHeartbeats 1000000
namespace Go.Proofs.Ytedjbjphpnkpoaa
open Go.PI Go.Pl Go.Mm
structure Sh(n:bt)(xs:List ah)(x:Nat→Rat):Prop where
 e:aa.bX n=some (xs,0)
 len:xs.length=n.ab.length
 fair:Mm.Fair (az n) x
 get:∀ i,i<n.ab.length→xs[i]?=some (c9 (x i))
 nn:∀ i,i<n.ab.length→0≤x i∧x i≤1000
 fit:∀ i,i<n.ab.length→bI (x i)∧(x i).den≤18
 dv:∃ P:Nat,1≤P∧P≤18∧∀ i,i<n.ab.length→Dv P (x i)
theorem sP{n:bt}(hb:vN n=true):∃ xs x,Sh n xs x:=by
 have hv:=qo hb
 obtain⟨⟨xs,e⟩,h1,h2,x,lo,P,h⟩:=Ll hb
 obtain rfl:e=0:=h2
 have h':ij n xs (List.replicate n.ab.length true) x lo P:=h
 have aX:∀ i,i<(az n).F→(fun i:Nat=>(List.replicate n.ab.length true)[i]?.getD false) i=true:=fun i hi=>by
  show (List.replicate n.ab.length true)[i]?.getD false=true
  rw[List.getElem?_replicate,if_pos (show i<n.ab.length from hi)]; rfl
 obtain⟨hf,hd⟩:=Dx h'.inv aX
 have hx:∀ i,i<n.ab.length→0≤x i∧x i≤1000:=fun i hi=>by
  obtain⟨l,hl,jb⟩:=hv.ex hi
  obtain⟨hc,_,GB⟩:=hv.cap hl
  have mJ:sm (bS n l) x n.ab.length≤(az n).c l:=hf.sK.cap l hl
  have Nf:∀ j,j<n.ab.length→bS n l j=true→0≤x j:=fun j hj _=>hf.sK.nn j hj
  have h2:=(jG Nf (i:=i+1) (by omega)).2
  have h3:=(jG Nf (i:=i) (by omega)).1
  simp only[sm,jb,cond_true]at h2
  have h4:(az n).c l≤1000:=by rw[hc]; exact_mod_cast GB
  exact⟨hf.sK.nn i hi,by grind⟩
 refine⟨xs,x,h1,h'.nr,hf,fun i hi=>h'.r i hi (by rw[List.getElem?_replicate,if_pos hi]),hx,fun i hi=>?_,P,h'.inv.P1,h'.PM,fun i hi=>(hd i hi).1⟩
 obtain⟨d1,d2⟩:=hd i hi
 have K7:=h'.inv.P1
 have:=qp K7 (by omega) d1 (hx i hi).1 (hx i hi).2
 exact⟨this.1,by omega⟩
end Go.Proofs.Ytedjbjphpnkpoaa
end
section
/- Plain facts of this seat: the reference's ratios; the law MaxminNoMore. -/
set_option maxRecDepth 100000
set_option maxHeartbeats 1000000
namespace Go.Proofs.Ytedjbjphpnkpoaa
open Go.PI Go.Pl Go.Mm
theorem Q4(a b:Nat):aa.fN (a:Int) (b:Int)=some ((Nat.gcd a b:Nat):Int):=by
 unfold aa.fN
 have key:∀ m (a b:Nat),b<m→aM (ω:=Int×Int) (fun ((i1,i2):Int×Int)=>
   bif !i2==0 then bif decide (i2=0) then none else some (Sum.inl (i2,i1.tmod i2)) else some (Sum.inr (i1,i2))) ((a:Int),(b:Int))=some (((Nat.gcd a b:Nat):Int),0):=by
  intro m
  induction m with
  |zero=>intro a b h; omega
  |succ m ih=>
   intro a b h
   by_cases h0:b=0
   ·subst h0
    rw[Nat.gcd_zero_right]; exact out rfl
   ·have WD:((b:Int)==0)=false:=by simp; omega
    have hr:((a:Int).tmod (b:Int))=((a%b:Nat):Int):=by rw[Int.tmod_eq_emod_of_nonneg (by omega)]; simp
    have g1:Nat.gcd a b=Nat.gcd b (a%b):=by rw[Nat.gcd_comm a b,Nat.gcd_rec b a,Nat.gcd_comm]
    have bE:=Nat.mod_lt a (Nat.pos_of_ne_zero h0)
    rw[g1]
    exact(next (y:=((b:Int),((a%b:Nat):Int))) (bT (congrArg not WD) (bF (decide_eq_false (by omega)) (congrArg (fun z=>some (Sum.inl ((b:Int),z))) hr)))).trans (ih b (a%b) (by omega))
 exact bB (key (b+1) a b (Nat.lt_succ_self _)) rfl
theorem kM{q:Rat}(h:bI q):aa.cA (c9 q)=some true:=by
 unfold aa.cA aa.fD aa.kj
 have d:=gu h
 have h1:=h.1
 have h2:=h.2.1
 have g:Nat.gcd q.num.natAbs q.den=1:=q.reduced
 refine bB (v:=true) (bT (decide_eq_true h.1) (bT (decide_eq_true h.2.1) (bT (decide_eq_true d.2) (congrArg some (decide_eq_true d.1))))) (bT rfl (bB (v:=(q.num.natAbs:Int)) (congrArg some (abs_eq (n:=q.num) (by omega) (by omega))) (bB (Q4 q.num.natAbs q.den) ?_)))
 rw[g]; rfl
theorem BP{p q:Rat}(hp:bI p)(hq:bI q):aa.fO (c9 p) (c9 q)=some (sL p q,0):=by
 unfold aa.fO
 have dp:=gu hp
 have dq:=gu hq
 have m1:=eY hp.1 hp.2.1 (b:=(q.den:Int)) (by omega) (by omega)
 have m2:=eY hq.1 hq.2.1 (b:=(p.den:Int)) (by omega) (by omega)
 refine bB (kM hp) (bF rfl (bB (kM hq) (bF rfl ?_)))
 have w1:IntKind.i64.wrap ((c9 p).cF*(c9 q).Den)=p.num*(q.den:Int):=bZ (n:=p.num*(q.den:Int)) (by omega) (by omega)
 have w2:IntKind.i64.wrap ((c9 q).cF*(c9 p).Den)=q.num*(p.den:Int):=bZ (n:=q.num*(p.den:Int)) (by omega) (by omega)
 rw[w1,w2]
 unfold sL
 by_cases h1:p<q
 ·rw[if_pos h1]
  exact bT (decide_eq_true ((Rat.lt_iff p q).1 h1)) rfl
 ·rw[if_neg h1]
  refine bF (decide_eq_false fun h=>h1 ((Rat.lt_iff p q).2 h)) ?_
  by_cases h2:q<p
  ·rw[if_pos h2]
   exact bT (decide_eq_true ((Rat.lt_iff q p).1 h2)) rfl
  ·rw[if_neg h2]
   exact bF (decide_eq_false fun h=>h2 ((Rat.lt_iff q p).2 h)) rfl
section
variable {γ:Type}{Q:γ→Prop}
theorem vC{τ ω:Type}{f:τ→Option (τ ⊕ ω)}{x0:τ}{K:ω→Option γ}(N:Nat)(I:Nat→τ→Prop)(P:ω→Prop)(h:∀ i s,i<N→I i s→∃ r,f s=some r∧∃ s',r=.inl s'∧I (i+1) s')
  (he:∀ s,I N s→∃ r,f s=some r∧∃ w,r=.inr w∧P w) (h0:I 0 x0) (hk:∀ w,P w→∃ r,K w=some r∧Q r):∃ r,(aM f x0).bind K=some r∧Q r:=by
 have key:∀ m i s,m=N-i→i≤N→I i s→∃ w,aM f s=some w∧P w:=by
  intro m
  induction m with
  |zero=>
   intro i s hm hi hI
   obtain rfl:i=N:=by omega
   obtain⟨_,h1,w,rfl,h2⟩:=he s hI
   exact⟨w,out h1,h2⟩
  |succ m ih=>
   intro i s hm hi hI
   obtain⟨_,h1,s',rfl,h2⟩:=h i s (by omega) hI
   obtain⟨w,h3,h4⟩:=ih (i+1) s' (by omega) (by omega) h2
   exact⟨w,by rw[next h1,h3],h4⟩
 obtain⟨w,h1,h2⟩:=key N 0 x0 rfl (Nat.zero_le _) h0
 exact bU h1 (hk w h2)
end
/-! ### A possible choice -/
theorem xz{γ:Type}{l:List γ}{i j:Nat}{v:γ}(h:i<l.length):(l.set i v)[j]?=if j=i then some v else l[j]?:=by
 rw[List.getElem?_set]
 by_cases e:i=j
 ·subst e; simp[h]
 ·rw[if_neg e,if_neg fun q=>e q.symm]
end Go.Proofs.Ytedjbjphpnkpoaa
end
section
/- Plain facts of this seat: the law MaxminNoMore. -/
set_option maxRecDepth 100000
set_option maxHeartbeats 1000000
namespace Go.Proofs.Ytedjbjphpnkpoaa
open Go.PI Go.Pl Go.Mm
theorem TF{m k:Nat}(h:m≤64)(hk:k≤8):(decide (((m:Nat):Int).toNat*k≤2^47)&&decide (((m:Nat):Int).toNat<2^62))=true:=by
 have:=Nat.mul_le_mul h hk
 simp only[Int.toNat_natCast,Bool.and_eq_true,decide_eq_true_eq]; omega
theorem Om(q:Rat):q*(q.den:Rat)=(q.num:Rat):=by
 have hd:((q.den:Nat):Rat)≠0:=fun e=>absurd (show q.den=0 by exact_mod_cast e) (by have:=q.den_pos; omega)
 have e:q=(q.num:Rat)/(q.den:Rat):=by rw[←Rat.mkRat_eq_div,Rat.mkRat_self]
 have e2:q*(q.den:Rat)=(q.num:Rat)/(q.den:Rat)*(q.den:Rat):=congrArg (·*(q.den:Rat)) e
 rw[e2,Rat.div_def,Rat.mul_assoc,Rat.inv_mul_cancel _ hd,Rat.mul_one]
theorem Q5{q:Rat}{v d:Int}:v*(q.den:Int)<q.num*d↔(v:Rat)<q*(d:Rat):=by
 have hd:(0:Rat)<(q.den:Rat):=by exact_mod_cast q.den_pos
 rw[←Rat.mul_lt_mul_right hd (a:=(v:Rat)),show q*(d:Rat)*(q.den:Rat)=(q.num:Rat)*(d:Rat) by rw[←Om q]; grind]
 exact_mod_cast Iff.rfl
end Go.Proofs.Ytedjbjphpnkpoaa
end
section
/- Plain facts of this seat: the reference's sums. -/
set_option maxRecDepth 100000
set_option maxHeartbeats 1000000
namespace Go.Proofs.Ytedjbjphpnkpoaa
open Go.PI Go.Pl Go.Mm
theorem BQ{n:Int}{d:Nat}(h1 : -9223372036854775807≤n)(h2:n≤9223372036854775807)(h3:1≤d)(h4:d≤9223372036854775807):aa.dm n d=some (if bI (mkRat n d) then (c9 (mkRat n d),0) else (⟨0,0⟩,3)):=by
 unfold aa.dm aa.kj
 have hg:=Q4 n.natAbs d
 have cH:0<Nat.gcd n.natAbs d:=Nat.gcd_pos_of_pos_right _ (by omega)
 have PQ:((Nat.gcd n.natAbs d:Nat):Int)∣n:=Int.ofNat_dvd_left.2 (Nat.gcd_dvd_left _ _)
 have e1:(mkRat n d).num=n/((Nat.gcd n.natAbs d:Nat):Int):=by rw[Rat.num_mkRat,if_neg (by omega),Nat.gcd_comm]
 have e2:(mkRat n d).den=d/Nat.gcd n.natAbs d:=by rw[Rat.den_mkRat,if_neg (by omega),Nat.gcd_comm]
 have b1:n.tdiv ((Nat.gcd n.natAbs d:Nat):Int)=n/((Nat.gcd n.natAbs d:Nat):Int):=Int.tdiv_eq_ediv_of_dvd PQ
 have b2:(d:Int).tdiv ((Nat.gcd n.natAbs d:Nat):Int)=((d/Nat.gcd n.natAbs d:Nat):Int):=by
  rw[Int.tdiv_eq_ediv_of_nonneg (by omega)]; simp
 have c1:=FQ (n:=n) h3
 have c2:d/Nat.gcd n.natAbs d≤d:=Nat.div_le_self _ _
 have hd0:=(mkRat n d).den_pos
 refine bF (decide_eq_false (by omega)) (bB (v:=((n.natAbs:Nat):Int)) (congrArg some (abs_eq h1 h2)) (bB hg (bF (decide_eq_false (by omega)) (bF (decide_eq_false (by omega)) ?_))))
 have w1:IntKind.i64.wrap (n.tdiv ((Nat.gcd n.natAbs d:Nat):Int))=(mkRat n d).num:=by rw[b1,←e1,bZ (by omega) (by omega)]
 have w2:IntKind.i64.wrap ((d:Int).tdiv ((Nat.gcd n.natAbs d:Nat):Int))=((mkRat n d).den:Int):=by rw[b2,←e2,bZ (by omega) (by omega)]
 rw[w1,w2]
 have dG:aa.fD (mkRat n d).num ((mkRat n d).den:Int)=some (decide (bI (mkRat n d))):=by
  unfold aa.fD
  by_cases a1 : -1000000000≤(mkRat n d).num
  ·refine bT (decide_eq_true a1) ?_
   by_cases a2:(mkRat n d).num≤1000000000
   ·refine bT (decide_eq_true a2) (bT (decide_eq_true (by omega)) (congrArg some ?_))
    rw[decide_eq_decide]; unfold bI; omega
   ·exact bF (decide_eq_false a2) (congrArg some (decide_eq_false (by unfold bI; omega)).symm)
  ·exact bF (decide_eq_false a1) (congrArg some (decide_eq_false (by unfold bI; omega)).symm)
 refine bB dG ?_
 by_cases hf:bI (mkRat n d)
 ·rw[if_pos hf,decide_eq_true hf]
  exact bF rfl (bF (decide_eq_false (by omega)) (bF (decide_eq_false (by omega)) rfl))
 ·rw[if_neg hf,decide_eq_false hf]; rfl
theorem On{p q:Rat}(hp:bI p)(hq:bI q):aa.rj (c9 p) (c9 q)=some (if bI (p+q) then (c9 (p+q),0) else (⟨0,0⟩,3)):=by
 unfold aa.rj
 have dp:=gu hp
 have dq:=gu hq
 have m1:=eY hp.1 hp.2.1 (b:=(q.den:Int)) (by omega) (by omega)
 have m2:=eY hq.1 hq.2.1 (b:=(p.den:Int)) (by omega) (by omega)
 have m3:=eY (a:=(p.den:Int)) (b:=(q.den:Int)) (by omega) (by omega) (by omega) (by omega)
 have m4:1≤p.den*q.den:=Nat.mul_pos p.den_pos q.den_pos
 have e3:(p.den:Int)*(q.den:Int)=((p.den*q.den:Nat):Int):=by simp
 refine bB (kM hp) (bF rfl (bB (kM hq) (bF rfl ?_)))
 show (aa.dm (IntKind.i64.wrap (IntKind.i64.wrap (p.num*(q.den:Int))+IntKind.i64.wrap (q.num*(p.den:Int)))) (IntKind.i64.wrap ((p.den:Int)*(q.den:Int)))).bind (fun x=>some (x.1,x.2))=_
 rw[bZ (n:=p.num*(q.den:Int)) (by omega) (by omega),bZ (n:=q.num*(p.den:Int)) (by omega) (by omega),bZ (n:=p.num*(q.den:Int)+q.num*(p.den:Int)) (by omega) (by omega),bZ (n:=(p.den:Int)*(q.den:Int)) (by omega) (by omega),e3]
 refine bB (BQ (by omega) (by omega) m4 (by omega)) ?_
 rw[Rat.add_def']
theorem Q6{l:List Int}(hl:l.length≤2^62)(v:Int):aa.jH l v=some (decide (v∈l)):=by
 unfold aa.jH
 have key:=qj (ω:=Bool ⊕ Bool×Int) (f:=fun ((b1,i2):Bool×Int)=>bif decide (i2<(↑l.length:Int)) then bif decide (0≤i2) then (l[i2.toNat]?).bind fun i3=>bif i3==v then some (Sum.inr (Sum.inl true)) else some (Sum.inl (b1,IntKind.i64.wrap (i2+1))) else none else some (Sum.inr (Sum.inr (b1,i2))))
  (fun i=>(false,(i:Int))) (fun i=>(l[i]?.map fun x=>!(x==v)).getD false) (fun i=>Sum.inl true) l.length (Sum.inr (false,(l.length:Int))) (fun i hi=>by
    refine bT (ca hi) (bT (av i) (bB (get_at hi) ?_))
    rw[List.getElem?_eq_getElem hi,cK (by omega)]
    show (bif l[i]==v then _ else _)=some (bif !(l[i]==v) then _ else _)
    cases l[i]==v<;>rfl) (bF (cw _) rfl)
 rcases key with ⟨h1,h2⟩|⟨h1,i,hi,hp,h2⟩
 ·refine bB h2 ?_
  rw[show decide (v∈l)=false from decide_eq_false fun hm=>?_]; ·rfl
  obtain⟨i,hi,rfl⟩:=List.getElem_of_mem hm
  have:=List.all_eq_true.1 h1 i (List.mem_range.2 hi)
  rw[List.getElem?_eq_getElem hi]at this
  simp at this
 ·refine bB h2 ?_
  rw[show decide (v∈l)=true from decide_eq_true ?_]; ·rfl
  rw[List.getElem?_eq_getElem hi]at hp
  simp only[Option.map_some,Option.getD_some,Bool.not_eq_false',beq_iff_eq]at hp
  rw[←hp]; exact List.getElem_mem _
theorem VN.Vn{n:bt}(h:VN n){l i:Nat}(hi:i<n.ab.length):aa.jH n.ab[i] (l:Int)=some (bS n l i):=by
 rw[Q6 (h.Iv (List.getElem_mem _))]
 unfold bS
 rw[List.getElem?_eq_getElem hi]; rfl
theorem AN{a:List ah}(hl:a.length≤2^62):aa.iQ a a=some true:=by
 unfold aa.iQ
 refine bF (by simp) (bB (v:=Sum.inr (false,(a.length:Int))) (eD (fun i=>(false,(i:Int))) a.length _ (fun i hi=>?_) (bF (cw _) rfl) rfl) rfl)
 exact bT (ca hi) (bT (av i) (bB (get_at hi) (bT (av i) (bB (get_at hi) (bF (by simp) (by rw[cK (by omega)]))))))
theorem Sh.Q7{n:bt}(hv:VN n){xs:List ah}{x:Nat→Rat}(h:Sh n xs x){l:Nat}(hl:l<n.aA.length){i:Nat}(hi:i≤n.ab.length):bI (sm (bS n l) x i):=by
 obtain⟨hc,_,GB⟩:=hv.cap hl
 obtain⟨P,p1,p2,hd⟩:=h.dv
 have hm:=jG (p:=bS n l) (x:=x) (n:=n.ab.length) (fun j hj _=>(h.nn j hj).1) hi
 have mJ:sm (bS n l) x n.ab.length≤(az n).c l:=h.fair.sK.cap l hl
 have h4:(az n).c l≤1000:=by rw[hc]; exact_mod_cast GB
 exact(qp p1 (by omega) (Dv.sm fun j hj _=>hd j (by omega)) hm.1 (by grind)).1
end Go.Proofs.Ytedjbjphpnkpoaa
end
section
/- Plain facts of this seat: the law MaxminRoom. -/
set_option maxRecDepth 100000
set_option maxHeartbeats 1000000
namespace Go.Proofs.Ytedjbjphpnkpoaa
open Go.PI Go.Pl Go.Mm
theorem xA{p q:Rat}:decide (sL p q<0)=decide (p<q):=by
 rw[decide_eq_decide]
 unfold sL
 by_cases h1:p<q
 ·simp[h1]
 ·rw[if_neg h1]
  by_cases h2:q<p<;>simp[h1,h2]
end Go.Proofs.Ytedjbjphpnkpoaa
end
section
/- Plain facts of this seat: what Check says. -/
set_option maxRecDepth 100000
set_option maxHeartbeats 1000000
namespace Go.Proofs.Ytedjbjphpnkpoaa
open Go.PI Go.Pl Go.Mm
section
variable {γ:Type}{Q:γ→Prop}
theorem m9{τ ω:Type}{f:τ→Option (τ ⊕ ω)}{x0:τ}{K:ω→Option γ}(N:Nat)(I:Nat→τ→Prop)(P:ω→Prop)(h:∀ i s,i<N→I i s→∃ r,f s=some r∧((∃ s',r=.inl s'∧I (i+1) s')∨∃ w,r=.inr w∧P w))
  (he:∀ s,I N s→∃ r,f s=some r∧∃ w,r=.inr w∧P w) (h0:I 0 x0) (hk:∀ w,P w→∃ r,K w=some r∧Q r):∃ r,(aM f x0).bind K=some r∧Q r:=by
 have key:∀ m i s,m=N-i→i≤N→I i s→∃ w,aM f s=some w∧P w:=by
  intro m
  induction m with
  |zero=>
   intro i s hm hi hI
   obtain rfl:i=N:=by omega
   obtain⟨_,h1,w,rfl,h2⟩:=he s hI
   exact⟨w,out h1,h2⟩
  |succ m ih=>
   intro i s hm hi hI
   obtain⟨_,h1,h2⟩:=h i s (by omega) hI
   rcases h2 with ⟨s',rfl,h2⟩|⟨w,rfl,h2⟩
   ·obtain⟨w,h3,h4⟩:=ih (i+1) s' (by omega) (by omega) h2
    exact⟨w,by rw[next h1,h3],h4⟩
   ·exact⟨w,out h1,h2⟩
 obtain⟨w,h1,h2⟩:=key N 0 x0 rfl (Nat.zero_le _) h0
 exact bU h1 (hk w h2)
end
theorem yD{N:xi}{x y:Nat→Rat}(h:∀ i,i<N.F→x i=y i)(hx:Mm.Fair N x):Mm.Fair N y:=by
 have hs:∀ l,sm (N.on l) x N.F=sm (N.on l) y N.F:=fun l=>mr (fun _ _=>rfl) fun j hj _=>h j hj
 refine⟨⟨fun i hi=>by rw[←h i hi]; exact hx.sK.nn i hi,fun i hi hh=>by rw[←h i hi]; exact hx.sK.kf i hi hh,fun l hl=>by rw[←hs]; exact hx.sK.cap l hl⟩,fun i hi=>?_⟩
 rcases hx.Ds i hi with ⟨h1,h2⟩|⟨l,hl,jb,QW,Bp⟩
 ·exact .inl ⟨h1,by rw[←h i hi]; exact h2⟩
 ·exact .inr ⟨l,hl,jb,by rw[←hs]; exact QW,fun j hj ho=>by rw[←h i hi,←h j hj]; exact Bp j hj ho⟩
theorem AO{n:bt}(hb:vN n=true){z:Nat→Rat}(h:Mm.Fair (az n) z){l:Nat}(hl:l<n.aA.length){i:Nat}(hi:i≤n.ab.length):bI (sm (bS n l) z i):=by
 obtain⟨xs,x,hx⟩:=sP hb
 have he:=qk hx.fair h
 have:=hx.Q7 (qo hb) hl hi
 rwa [mr (q:=bS n l) (y:=z) (fun _ _=>rfl) fun j hj _=>he j (show j<n.ab.length by omega)]at this
section
variable {n:bt}{x:List ah}{z:Nat→Rat}
structure Rz(n:bt)(x:List ah)(z:Nat→Rat):Prop where
 len:x.length=n.ab.length
 get:∀ i,i<n.ab.length→x[i]?=some (c9 (z i))
 fit:∀ i,i<n.ab.length→bI (z i)
theorem Oo(hb:vN n=true)(h:Rz n x z){l:Nat}(hl:l<n.aA.length):
  ∃ r,aa.gd (cr.mk n [] x) (l:Int)=some r∧((r=(c9 (sm (bS n l) z n.ab.length),true)∧bI (sm (bS n l) z n.ab.length)∧sm (bS n l) z n.ab.length≤(az n).c l)∨(r.2=false∧¬Mm.Fair (az n) z)):=by
 have hv:=qo hb
 have hF:=hv.nf
 unfold aa.gd
 refine bU (v:=⟨0,1⟩) rfl ?_
 refine m9 n.ab.length (fun i s=>s=((i:Int),(sm (bS n l) z i).num,((sm (bS n l) z i).den:Int))∧bI (sm (bS n l) z i))
  (fun w=>(w=Sum.inr ((n.ab.length:Int),(sm (bS n l) z n.ab.length).num,((sm (bS n l) z n.ab.length).den:Int))∧bI (sm (bS n l) z n.ab.length))∨(∃ a b c d,w=Sum.inl (a,b,false,c,d))∧¬Mm.Fair (az n) z) ?_ ?_ ⟨rfl,by show bI 0; exact oQ (k:=0) (by omega) (by omega)⟩ ?_
 ·rintro i s hi ⟨rfl,dG⟩
  refine aK (ca hi) (aK (av i) (bU (get_at hi) (bU (hv.on hi) ?_)))
  have w1:IntKind.i64.wrap ((i:Int)+1)=((i+1:Nat):Int):=cK (by omega)
  cases jb:bS n l i with
  |false=>
   have he:sm (bS n l) z (i+1)=sm (bS n l) z i:=by simp only[sm,jb,cond_false,Rat.add_zero]
   exact dk rfl ⟨_,rfl,.inl ⟨_,rfl,by rw[he,w1],by rw[he]; exact dG⟩⟩
  |true=>
   have he:sm (bS n l) z (i+1)=sm (bS n l) z i+z i:=by simp only[sm,jb,cond_true]
   have ha:=add_eq dG (h.fit i hi)
   rw[←he]at ha
   refine aK rfl (aK (av i) (bU (v:=c9 (z i)) (by rw[Int.toNat_natCast]; exact h.get i hi) (bU ha ?_)))
   by_cases hf:bI (sm (bS n l) z (i+1))
   ·rw[if_pos hf]
    exact dk rfl ⟨_,rfl,.inl ⟨_,rfl,by rw[w1]; rfl,hf⟩⟩
   ·rw[if_neg hf]
    exact aK rfl ⟨_,rfl,.inr ⟨_,rfl,.inr ⟨⟨_,_,_,_,rfl⟩,fun eK=>hf (AO hb eK hl (by omega))⟩⟩⟩
 ·rintro s ⟨rfl,dG⟩
  exact dk (cw _) ⟨_,rfl,_,rfl,.inl ⟨rfl,dG⟩⟩
 ·rintro w (⟨rfl,dG⟩|⟨⟨a,b,c,d,rfl⟩,hn⟩)
  ·obtain⟨hc,c0,c1⟩:=hv.cap hl
   have Ln:=xx (oQ c0 c1) dG
   refine aK (y:=none) (av l) (bU (get_at hl) (bU (v:=⟨n.aA[l],1⟩) rfl (bU Ln ⟨_,rfl,?_⟩)))
   by_cases bE:((n.aA[l]:Int):Rat)<sm (bS n l) z n.ab.length
   ·exact .inr ⟨by show (!decide _)=false; rw[decide_eq_true bE]; rfl,fun eK=>by
     have:=eK.sK.cap l hl
     rw[hc]at this
     exact absurd bE (Rat.not_lt.2 this)⟩
   ·exact .inl ⟨by show (_,!decide _)=_; rw[decide_eq_false bE]; rfl,dG,by rw[hc]; exact Rat.not_lt.1 bE⟩
  ·exact⟨_,rfl,.inr ⟨rfl,hn⟩⟩
def Ix(n:bt)(z:Nat→Rat)(j:Nat):Bool:=(az n).has j&&decide (z j=(az n).k j)
def DE(n:bt)(z:Nat→Rat)(l i m:Nat):Bool:=(List.range m).all fun j=>!(bS n l j&&decide (z i<z j))
def Q8(n:bt)(z:Nat→Rat)(l i:Nat):Bool:=bS n l i&&(DE n z l i n.ab.length&&decide (sm (bS n l) z n.ab.length=(az n).c l))
def AP(n:bt)(z:Nat→Rat)(l i:Nat):Bool:=Ix n z i||(List.range l).any fun l'=>Q8 n z l' i
theorem Lo(l i:Nat):AP n z (l+1) i=(AP n z l i||Q8 n z l i):=by
 unfold AP
 rw[List.range_succ,List.any_append]
 simp[Bool.or_assoc]
theorem yE(i:Nat):AP n z n.aA.length i=true↔zQ (az n) z i:=by
 unfold AP Ix Q8 DE zQ
 simp only[Bool.or_eq_true,Bool.and_eq_true,decide_eq_true_eq,List.any_eq_true,List.all_eq_true,List.mem_range,Bool.not_eq_true',Bool.and_eq_false_iff,decide_eq_false_iff_not]
 constructor
 ·rintro (h|⟨l,hl,jb,hm,hs⟩)
  ·exact .inl h
  ·refine .inr ⟨l,hl,jb,hs,fun j hj ho=>?_⟩
   rcases hm j hj with h|h
   ·rw[show bS n l j=true from ho]at h; exact absurd h (by decide)
   ·exact Rat.not_lt.1 h
 ·rintro (h|⟨l,hl,jb,hs,hm⟩)
  ·exact .inl h
  ·refine .inr ⟨l,hl,jb,fun j hj=>?_,hs⟩
   cases ho:bS n l j with
   |false=>exact .inl rfl
   |true=>exact .inr (Rat.not_lt.2 (hm j hj ho))
end
end Go.Proofs.Ytedjbjphpnkpoaa
end
section
/- Plain facts of this seat: Check says which rates are fair; the law MaxminExactly. -/
set_option maxRecDepth 100000
set_option maxHeartbeats 1000000
namespace Go.Proofs.Ytedjbjphpnkpoaa
open Go.PI Go.Pl Go.Mm
def Jv(n:bt)(x:List ah):Prop:=∃ z,Rz n x z∧Mm.Fair (az n) z
theorem Oq{n:bt}(hv:VN n){x:List ah}{z:Nat→Rat}(h:Rz n x z){l:Nat}(hl:l<n.aA.length){i:Nat}(hi:i<n.ab.length):
  aM (ω:=Int×Bool) (fun ((i32,Ot):Int×Bool)=>
 bif decide (i32<(↑n.ab.length:Int)) then
 bif decide (0≤i32) then
 (n.ab[i32.toNat]?).bind fun pI=>
 (aa.bG pI (l:Int)).bind fun Q9=>
 bif Q9 then
 bif Ot then
 bif decide (0≤(i:Int)) then
 (x[(i:Int).toNat]?).bind fun WL=>
 bif decide (0≤i32) then
 (x[i32.toNat]?).bind fun WM=>
 (aa.fh WL WM).bind fun Ou=>
 some (Sum.inl (IntKind.i64.wrap (i32+1),!Ou))
 else
 none
 else
 none
 else
 some (Sum.inl (IntKind.i64.wrap (i32+1),false))
 else
 some (Sum.inl (IntKind.i64.wrap (i32+1),Ot))
 else
 none
 else
 some (Sum.inr (i32,Ot))) (0,true)=some ((n.ab.length:Int),DE n z l i n.ab.length):=by
  have hF:=hv.nf
  refine eD (fun j=>((j:Int),DE n z l i j)) n.ab.length _ (fun j hj=>?_) (bF (cw _) rfl) rfl
  have hs:DE n z l i (j+1)=(DE n z l i j&&!(bS n l j&&decide (z i<z j))):=by
   unfold DE
   rw[List.range_succ,List.all_append]; simp
  refine bT (ca hj) (bT (av j) (bB (get_at hj) (bB (hv.on hj) ?_)))
  rw[hs,cK (by omega)]
  cases bS n l j with
  |false=>exact bF rfl (by simp)
  |true=>
   refine bT rfl ?_
   cases DE n z l i j with
   |false=>exact bF rfl (by simp)
   |true=>
    exact bT rfl (bT (av i) (bB (v:=c9 (z i)) (by rw[Int.toNat_natCast]; exact h.get i hi) (bT (av j) (bB (v:=c9 (z j)) (by rw[Int.toNat_natCast]; exact h.get j hj) (bB (xx (h.fit i hi) (h.fit j hj)) (by simp))))))
theorem Lp{n:bt}(hb:vN n=true){x:List ah}(Cz:x.length≤50):∃ b,aa.dN n x=some b∧(b=true↔Jv n x):=by
 have hv:=qo hb
 have hF:=hv.nf
 have hL:=hv.nc
 have wj:¬Jv n x→(false=true↔Jv n x):=fun h=>⟨fun e=>absurd e (by decide),fun e=>absurd e h⟩
 unfold aa.dN
 refine bU (uh fun l hl=>hv.Iv hl) (dk (by rw[hb]; rfl) ?_)
 by_cases hlen:x.length≠n.ab.length
 ·exact aK (by rw[Bool.not_eq_true',beq_eq_false_iff_ne]; omega) ⟨_,rfl,wj fun⟨z,h,_⟩=>hlen h.len⟩
 have nX:x.length=n.ab.length:=Classical.not_not.1 hlen
 refine dk (by rw[nX]; simp) ?_
 refine m9 n.ab.length (fun i s=>s=(false,(i:Int))∧∀ j,j<i→∃ q,x[j]?=some (c9 q)∧bI q∧0≤q∧((az n).has j=true→q≤(az n).k j))
  (fun w=>(w=Sum.inr (false,(n.ab.length:Int))∧∀ j,j<n.ab.length→∃ q,x[j]?=some (c9 q)∧bI q∧0≤q∧((az n).has j=true→q≤(az n).k j))∨(w=Sum.inl false∧¬Jv n x)) ?_ ?_ ⟨rfl,fun j hj=>by omega⟩ ?_
 ·rintro i s hi ⟨rfl,yF⟩
  have JT:i<x.length:=by omega
  obtain⟨k,gk,ek,eh,k0,k1⟩:=hv.kf hi
  have Iy:n.aF[(i:Int).toNat]?=some k:=by rw[Int.toNat_natCast]; exact gk
  have w1:IntKind.i64.wrap ((i:Int)+1)=((i+1:Nat):Int):=cK (by omega)
  refine aK (ca JT) (aK (av i) (bU (get_at JT) (bU (jF _) ?_)))
  cases Ra:vR x[i] with
  |false=>
   refine aK rfl ⟨_,rfl,.inr ⟨_,rfl,.inr ⟨rfl,fun⟨z,h,_⟩=>?_⟩⟩⟩
   have h1:=h.get i hi
   rw[List.getElem?_eq_getElem JT]at h1
   rw[Option.some.inj h1,lf,decide_eq_true (h.fit i hi)]at Ra
   exact absurd Ra (by decide)
  |true=>
   obtain⟨q,hq,TG⟩:=(K9 _).1 Ra
   have PG:x[i]?=some (c9 q):=by rw[List.getElem?_eq_getElem JT,hq]
   have hz:∀ z,Rz n x z→z i=q:=fun z h=>xw (Option.some.inj ((h.get i hi).symm.trans PG))
   rw[hq]
   refine dk rfl ?_
   by_cases BR:q.num<0
   ·refine aK (decide_eq_true BR) ⟨_,rfl,.inr ⟨_,rfl,.inr ⟨rfl,fun⟨z,h,hf⟩=>?_⟩⟩⟩
    have:=hf.sK.nn i hi
    rw[hz z h]at this
    have:=Rat.num_nonneg.2 this
    omega
   have Of:0≤q:=Rat.num_nonneg.1 (by omega)
   refine dk (decide_eq_false BR) (aK (av i) (bU Iy ?_))
   have uj:((az n).has i=true→q≤(az n).k i)→∀ j,j<i+1→∃ q,x[j]?=some (c9 q)∧bI q∧0≤q∧((az n).has j=true→q≤(az n).k j):=fun hh j hj=>by
    by_cases e:j=i
    ·subst e; exact⟨q,PG,TG,Of,hh⟩
    ·exact yF j (by omega)
   by_cases cH:0<k
   ·refine aK (decide_eq_true cH) (aK (av i) (bU Iy (bU (v:=⟨k,1⟩) rfl (bU (xx (oQ k0 k1) TG) ?_))))
    by_cases bE:(k:Rat)<q
    ·refine aK (decide_eq_true bE) ⟨_,rfl,.inr ⟨_,rfl,.inr ⟨rfl,fun⟨z,h,hf⟩=>?_⟩⟩⟩
     have:=hf.sK.kf i hi (by rw[eh]; exact decide_eq_true cH)
     rw[hz z h,ek]at this
     exact absurd bE (Rat.not_lt.2 this)
    ·exact dk (decide_eq_false bE) ⟨_,rfl,.inl ⟨_,rfl,by rw[w1],uj fun _=>by rw[ek]; exact Rat.not_lt.1 bE⟩⟩
   ·exact dk (decide_eq_false cH) ⟨_,rfl,.inl ⟨_,rfl,by rw[w1],uj fun hh=>by rw[eh]at hh; exact absurd (of_decide_eq_true hh) cH⟩⟩
 ·rintro s ⟨rfl,aX⟩
  exact dk (decide_eq_false (by omega)) ⟨_,rfl,_,rfl,.inl ⟨rfl,aX⟩⟩
 rintro w (⟨rfl,aX⟩|⟨rfl,hn⟩)
 rotate_left
 ·exact⟨_,rfl,wj hn⟩
 obtain⟨z,hz⟩:∃ z:Nat→Rat,∀ j,j<n.ab.length→x[j]?=some (c9 (z j))∧bI (z j)∧0≤z j∧((az n).has j=true→z j≤(az n).k j):=by
  refine⟨fun j=>mkRat (x[j]?.getD ⟨0,0⟩).cF (x[j]?.getD ⟨0,0⟩).Den.toNat,fun j hj=>?_⟩
  obtain⟨q,h1,h2⟩:=aX j hj
  simp only[h1,Option.getD_some,uk]
  exact⟨trivial,h2⟩
 have rz:Rz n x z:=⟨nX,fun j hj=>(hz j hj).1,fun j hj=>(hz j hj).2.1⟩
 have bM:Jv n x↔Mm.Fair (az n) z:=by
  refine⟨fun⟨z',r',f'⟩=>yD (fun j hj=>xw (Option.some.inj ((r'.get j hj).symm.trans (rz.get j hj)))) f',fun h=>⟨z,rz,h⟩⟩
 rw[bM]
 have Ov:¬Mm.Fair (az n) z→(false=true↔Mm.Fair (az n) z):=fun h=>⟨fun e=>absurd e (by decide),fun e=>absurd e h⟩
 refine aK (y:=none) (TF (by omega) (by omega)) ?_
 have sA:(List.replicate ((x.length:Nat):Int).toNat false).length=n.ab.length:=by rw[List.length_replicate,Int.toNat_natCast,nX]
 refine vC n.ab.length (fun k s=>s.1=(k:Int)∧s.2.length=n.ab.length∧∀ j,j<n.ab.length→s.2[j]?=some (if j<k then Ix n z j else false))
  (fun w=>w.2.length=n.ab.length∧∀ j,j<n.ab.length→w.2[j]?=some (Ix n z j)) ?_ ?_ ⟨rfl,sA,fun j hj=>by
    show (List.replicate _ _)[j]?=_
    rw[List.getElem?_replicate,if_pos (by rw[Int.toNat_natCast,nX]; exact hj),if_neg (Nat.not_lt_zero _)]⟩ ?_
 ·rintro i ⟨a,s⟩ hi ⟨e,Lq,hs⟩
  obtain rfl:a=(i:Int):=e
  have rQ:s.length=n.ab.length:=Lq
  have G6:i<s.length:=by omega
  have Qw:=hv.nl
  obtain⟨k,gk,ek,eh,k0,k1⟩:=hv.kf hi
  have Iy:n.aF[(i:Int).toNat]?=some k:=by rw[Int.toNat_natCast]; exact gk
  have w1:IntKind.i64.wrap ((i:Int)+1)=((i+1:Nat):Int):=cK (by omega)
  have oz:∀ v,v=Ix n z i→∃ r,(bif decide ((s.set (0+(i:Int).toNat) v).length=(List.replicate ((x.length:Nat):Int).toNat false).length) then some (Sum.inl (IntKind.i64.wrap ((i:Int)+1),s.set (0+(i:Int).toNat) v)) else none:Option ((Int×List Bool) ⊕ (Int×List Bool)))=some r∧∃ s',r=.inl s'∧s'.1=((i+1:Nat):Int)∧s'.2.length=n.ab.length∧∀ j,j<n.ab.length→s'.2[j]?=some (if j<i+1 then Ix n z j else false):=fun v jS=>by
   refine aK (decide_eq_true (by rw[List.length_set,rQ,sA])) ⟨_,rfl,_,rfl,w1,by show (s.set _ _).length=_; rw[List.length_set,rQ],fun j hj=>?_⟩
   show (s.set (0+(i:Int).toNat) v)[j]?=_
   rw[Nat.zero_add,Int.toNat_natCast,xz G6]
   by_cases e:j=i
   ·subst e; rw[if_pos rfl,if_pos (Nat.lt_succ_self _),jS]
   ·rw[if_neg e,hs j hj]
    by_cases e2:j<i
    ·rw[if_pos e2,if_pos (by omega)]
    ·rw[if_neg e2,if_neg (by omega)]
  refine aK (decide_eq_true (by omega)) (aK (av i) (bU Iy ?_))
  by_cases cH:0<k
  ·refine aK (decide_eq_true cH) (aK (av i) (bU (v:=c9 (z i)) (by rw[Int.toNat_natCast]; exact rz.get i hi) (bU (v:=⟨k,1⟩) rfl (aK (av i) (aK (decide_eq_true (by rw[Int.toNat_natCast]; exact G6)) (bU (v:=s[i]) (by rw[Nat.zero_add]; exact get_at G6) (oz _ ?_)))))))
   have hs:=kL (z i) (k:Rat)
   unfold Ix
   rw[eh,ek,decide_eq_true cH,Bool.true_and]
   exact hs
  ·refine dk (decide_eq_false cH) (aK (av i) (aK (decide_eq_true (by rw[Int.toNat_natCast]; exact G6)) (bU (v:=s[i]) (by rw[Nat.zero_add]; exact get_at G6) (oz _ ?_))))
   unfold Ix
   rw[eh,decide_eq_false cH,Bool.false_and]
 ·rintro⟨a,s⟩ ⟨e,Lq,hs⟩
  obtain rfl:a=(n.ab.length:Int):=e
  have rQ:s.length=n.ab.length:=Lq
  have Qw:=hv.nl
  exact dk (decide_eq_false (by omega)) (aK (decide_eq_true (by rw[rQ,sA])) ⟨_,rfl,_,rfl,rQ,fun j hj=>by have:=hs j hj; rw[if_pos hj]at this; exact this⟩)
 rintro⟨a,m0⟩ ⟨Jo,hm⟩
 have Ow:m0.length=n.ab.length:=Jo
 refine m9 n.aA.length (fun l s=>s.1=false∧s.2.1=(l:Int)∧s.2.2.length=n.ab.length∧(∀ j,j<n.ab.length→s.2.2[j]?=some (AP n z l j))∧∀ l',l'<l→sm (bS n l') z n.ab.length≤(az n).c l')
  (fun w=>(∃ m:List Bool,w=Sum.inr (false,(n.aA.length:Int),m)∧m.length=n.ab.length∧(∀ j,j<n.ab.length→m[j]?=some (AP n z n.aA.length j))∧∀ l',l'<n.aA.length→sm (bS n l') z n.ab.length≤(az n).c l')∨((∃ m,w=Sum.inl (false,m))∧¬Mm.Fair (az n) z)) ?_ ?_ ⟨rfl,rfl,Ow,fun j hj=>?_,fun l' gJ=>by omega⟩ ?_
 ·rintro l ⟨b,a,m⟩ hl ⟨e1,e2,CE,Sw,mJ⟩
  obtain rfl:b=false:=e1
  obtain rfl:a=(l:Int):=e2
  have DF:m.length=n.ab.length:=CE
  have WN:∀ j,j<n.ab.length→m[j]?=some (AP n z l j):=Sw
  obtain⟨r,hr,eb⟩:=Oo hb rz hl
  refine aK (ca hl) (bU hr ?_)
  rcases eb with ⟨rfl,Y9,hle⟩|⟨zO,hn⟩
  rotate_left
  ·obtain⟨q,b⟩:=r
   obtain rfl:b=false:=zO
   exact aK rfl (aK (decide_eq_true (by rw[DF,Ow])) ⟨_,rfl,.inr ⟨_,rfl,.inr ⟨⟨_,rfl⟩,hn⟩⟩⟩)
  refine dk rfl (vC n.ab.length (fun k s=>s.1=(k:Int)∧s.2.length=n.ab.length∧∀ j,j<n.ab.length→s.2[j]?=some (if j<k then AP n z (l+1) j else AP n z l j))
   (fun w=>w.2.length=n.ab.length∧∀ j,j<n.ab.length→w.2[j]?=some (AP n z (l+1) j)) ?_ ?_ ⟨rfl,DF,fun j hj=>by rw[if_neg (Nat.not_lt_zero _)]; exact WN j hj⟩ ?_)
  ·rintro i ⟨a,s⟩ hi ⟨e,Lq,hs⟩
   obtain rfl:a=(i:Int):=e
   have rQ:s.length=n.ab.length:=Lq
   have G6:i<s.length:=by omega
   have w1:IntKind.i64.wrap ((i:Int)+1)=((i+1:Nat):Int):=cK (by omega)
   have hsi:s[(i:Int).toNat]?=some (AP n z l i):=by
    have:=hs i hi
    rw[if_neg (Nat.lt_irrefl _)]at this
    rw[Int.toNat_natCast]; exact this
   have oz:∀ v,v=AP n z (l+1) i→∃ r,(bif decide ((s.set (0+(i:Int).toNat) v).length=m.length) then some (Sum.inl (IntKind.i64.wrap ((i:Int)+1),s.set (0+(i:Int).toNat) v)) else none:Option ((Int×List Bool) ⊕ (Int×List Bool)))=some r∧∃ s',r=.inl s'∧s'.1=((i+1:Nat):Int)∧s'.2.length=n.ab.length∧∀ j,j<n.ab.length→s'.2[j]?=some (if j<i+1 then AP n z (l+1) j else AP n z l j):=fun v jS=>by
    refine aK (decide_eq_true (by rw[List.length_set,rQ,DF])) ⟨_,rfl,_,rfl,w1,by show (s.set _ _).length=_; rw[List.length_set,rQ],fun j hj=>?_⟩
    show (s.set (0+(i:Int).toNat) v)[j]?=_
    rw[Nat.zero_add,Int.toNat_natCast,xz G6]
    by_cases e:j=i
    ·subst e; rw[if_pos rfl,if_pos (Nat.lt_succ_self _),jS]
    ·rw[if_neg e,hs j hj]
     by_cases e2:j<i
     ·rw[if_pos e2,if_pos (by omega)]
     ·rw[if_neg e2,if_neg (by omega)]
   have Ox:decide ((i:Int).toNat<s.length)=true:=decide_eq_true (by rw[Int.toNat_natCast]; exact G6)
   have Oy:s[0+(i:Int).toNat]?=some (AP n z l i):=by rw[Nat.zero_add]; exact hsi
   refine aK (ca hi) (aK (av i) (bU (get_at hi) (bU (hv.on hi) ?_)))
   have AM:=Lo (n:=n) (z:=z) l i
   cases jb:bS n l i with
   |false=>
    refine dk rfl (aK (decide_eq_true (by rw[rQ,DF])) ⟨_,rfl,_,rfl,w1,rQ,fun j hj=>?_⟩)
    show s[j]?=_
    rw[hs j hj]
    by_cases e:j=i
    ·subst e
     rw[if_neg (Nat.lt_irrefl _),if_pos (Nat.lt_succ_self _),AM]
     unfold Q8
     rw[jb,Bool.false_and,Bool.or_false]
    ·by_cases e2:j<i
     ·rw[if_pos e2,if_pos (by omega)]
     ·rw[if_neg e2,if_neg (by omega)]
   |true=>
    refine aK rfl (bU (Oq hv rz hl hi) (aK (av i) (aK Ox (bU Oy ?_))))
    have fF:Q8 n z l i=(DE n z l i n.ab.length&&decide (sm (bS n l) z n.ab.length=(az n).c l)):=by
     unfold Q8; rw[jb,Bool.true_and]
    cases mu:AP n z l i with
    |true=>
     refine aK rfl (aK (av i) (aK Ox (bU Oy (oz _ ?_))))
     rw[AM,mu]; rfl
    |false=>
     refine dk rfl ?_
     cases Za:DE n z l i n.ab.length with
     |true=>
      refine aK rfl (aK (av l) (bU (get_at hl) (bU (v:=⟨n.aA[l],1⟩) rfl (aK (av i) (aK Ox (bU Oy (oz _ ?_)))))))
      rw[AM,mu,fF,Za,Bool.false_or,Bool.true_and,(hv.cap hl).1]
      exact kL _ ((n.aA[l]:Int):Rat)
     |false=>
      refine dk rfl (aK (av i) (aK Ox (bU Oy (oz _ ?_))))
      rw[AM,mu,fF,Za]; rfl
  ·rintro⟨a,s⟩ ⟨e,Lq,hs⟩
   obtain rfl:a=(n.ab.length:Int):=e
   have rQ:s.length=n.ab.length:=Lq
   exact dk (cw _) (aK (decide_eq_true (by rw[rQ,DF])) ⟨_,rfl,_,rfl,rQ,fun j hj=>by have:=hs j hj; rw[if_pos hj]at this; exact this⟩)
  ·rintro⟨a,s⟩ ⟨Lq,hs⟩
   have rQ:s.length=n.ab.length:=Lq
   refine aK (decide_eq_true (by rw[rQ,Ow])) ⟨_,rfl,.inl ⟨_,rfl,rfl,cK (by omega),rQ,hs,fun l' gJ=>?_⟩⟩
   by_cases e:l'=l
   ·subst e; exact hle
   ·exact mJ l' (by omega)
 ·rintro⟨b,a,m⟩ ⟨e1,e2,CE,Sw,mJ⟩
  obtain rfl:b=false:=e1
  obtain rfl:a=(n.aA.length:Int):=e2
  have DF:m.length=n.ab.length:=CE
  exact dk (cw _) (aK (decide_eq_true (by rw[DF,Ow])) ⟨_,rfl,_,rfl,.inl ⟨m,rfl,DF,Sw,mJ⟩⟩)
 ·have:=hm j hj
  show m0[j]?=_
  rw[this]
  unfold AP
  simp
 ·rintro w (⟨m,rfl,CE,Sw,mJ⟩|⟨⟨m,rfl⟩,hn⟩)
  ·refine bU (Dy (by omega) false) ⟨_,rfl,?_⟩
   rw[Bool.not_eq_true',decide_eq_false_iff_not]
   constructor
   ·intro lG
    refine⟨⟨fun j hj=>(hz j hj).2.2.1,fun j hj=>(hz j hj).2.2.2,fun l hl=>mJ l hl⟩,fun j hj=>(yE j).1 ?_⟩
    cases hc:AP n z n.aA.length j with
    |true=>rfl
    |false=>
     have h1:=Sw j hj
     rw[hc]at h1
     exact absurd (List.mem_of_getElem? h1) lG
   ·intro hf lG
    obtain⟨j,hj,e⟩:=List.getElem_of_mem lG
    have h1:=Sw j (by omega)
    rw[List.getElem?_eq_getElem hj,e,(yE j).2 (hf.Ds j (show j<n.ab.length by omega))]at h1
    exact absurd (Option.some.inj h1) (by decide)
  ·exact⟨_,rfl,Ov hn⟩
end Go.Proofs.Ytedjbjphpnkpoaa
end
section
/- Plain facts of this seat: the law MaxminExactly. -/
set_option maxRecDepth 100000
set_option maxHeartbeats 1000000
namespace Go.Proofs.Ytedjbjphpnkpoaa
open Go.PI Go.Pl Go.Mm
theorem ok_eq{n:bt}{xs:List ah}{x:Nat→Rat}(hx:Sh n xs x)(y:List ah):Jv n y↔y=xs:=by
 constructor
 ·rintro⟨z,hr,hf⟩
  have he:=qk hf hx.fair
  have h1:=hr.len
  have h2:=hx.len
  apply List.ext_getElem?
  intro i
  by_cases hi:i<n.ab.length
  ·rw[hr.get i hi,hx.get i hi,he i hi]
  ·rw[List.getElem?_eq_none (by omega),List.getElem?_eq_none (by omega)]
 ·rintro rfl
  exact⟨x,⟨hx.len,hx.get,fun i hi=>(hx.fit i hi).1⟩,hx.fair⟩
end Go.Proofs.Ytedjbjphpnkpoaa
end
section
/- Plain facts of this seat: what the reference's Check says. -/
set_option maxRecDepth 100000
set_option maxHeartbeats 1000000
namespace Go.Proofs.Ytedjbjphpnkpoaa
open Go.PI Go.Pl Go.Mm
theorem TH(n d:Int):aa.fD n d=some (decide (-1000000000≤n∧n≤1000000000∧1≤d∧d≤1000000000)):=by
 unfold aa.fD
 by_cases a1 : -1000000000≤n
 ·refine bT (decide_eq_true a1) ?_
  by_cases a2:n≤1000000000
  ·refine bT (decide_eq_true a2) ?_
   by_cases a3:1≤d
   ·exact bT (decide_eq_true a3) (congrArg some (decide_eq_decide.2 (by omega)))
   ·exact bF (decide_eq_false a3) (congrArg some (decide_eq_false (by omega)).symm)
  ·exact bF (decide_eq_false a2) (congrArg some (decide_eq_false (by omega)).symm)
 ·exact bF (decide_eq_false a1) (congrArg some (decide_eq_false (by omega)).symm)
theorem Iz(a:ah):aa.cA a=some (vR a):=by
 unfold aa.cA aa.kj
 refine bB (TH _ _) ?_
 by_cases hr : -1000000000≤a.cF∧a.cF≤1000000000∧1≤a.Den∧a.Den≤1000000000
 ·have hd:(a.Den.toNat:Int)=a.Den:=Int.toNat_of_nonneg (by omega)
  have hg:=Q4 a.cF.natAbs a.Den.toNat
  rw[hd]at hg
  refine bT (decide_eq_true hr) (bB (v:=((a.cF.natAbs:Nat):Int)) (congrArg some (abs_eq (n:=a.cF) (by omega) (by omega))) (bB hg (congrArg some ?_)))
  unfold vR
  rw[Bool.eq_iff_iff,beq_iff_eq,decide_eq_true_eq]
  have e1:(mkRat a.cF a.Den.toNat).num=a.cF/((Nat.gcd a.cF.natAbs a.Den.toNat:Nat):Int):=by rw[Rat.num_mkRat,if_neg (by omega),Nat.gcd_comm]
  have e2:(mkRat a.cF a.Den.toNat).den=a.Den.toNat/Nat.gcd a.cF.natAbs a.Den.toNat:=by rw[Rat.den_mkRat,if_neg (by omega),Nat.gcd_comm]
  constructor
  ·intro h
   have h':Nat.gcd a.cF.natAbs a.Den.toNat=1:=by omega
   rw[h']at e1 e2
   refine⟨hr.1,hr.2.1,hr.2.2.1,hr.2.2.2,?_⟩
   unfold c9
   rw[e1,e2,Nat.div_one,hd]
   show ah.mk (a.cF/1) a.Den=a
   rw[Int.ediv_one]
  ·rintro⟨_,_,_,_,h⟩
   have g:Nat.gcd (mkRat a.cF a.Den.toNat).num.natAbs (mkRat a.cF a.Den.toNat).den=1:=(mkRat a.cF a.Den.toNat).reduced
   have h1:(mkRat a.cF a.Den.toNat).num=a.cF:=congrArg ah.cF h
   have h2:((mkRat a.cF a.Den.toNat).den:Int)=a.Den:=congrArg ah.Den h
   have h3:(mkRat a.cF a.Den.toNat).den=a.Den.toNat:=by omega
   rw[h1,h3]at g
   rw[g]; rfl
 ·refine bF (decide_eq_false hr) (congrArg some (decide_eq_false ?_).symm)
  omega
theorem BS{q:Rat}{v:Int}:v*(q.den:Int)<q.num↔(v:Rat)<q:=by
 have:=Q5 (q:=q) (v:=v) (d:=1)
 rw[Int.mul_one]at this
 rw[this]
 have e:q*((1:Int):Rat)=q:=by
  rw[show ((1:Int):Rat)=1 from rfl,Rat.mul_one]
 rw[e]
section
variable {n:bt}{x:List ah}{z:Nat→Rat}
theorem Lr(hb:vN n=true)(h:Rz n x z){l:Nat}(hl:l<n.aA.length):
  ∃ r,aa.eM n x (l:Int)=some r∧((r=(c9 (sm (bS n l) z n.ab.length),true)∧bI (sm (bS n l) z n.ab.length))∨(r.2=false∧¬Mm.Fair (az n) z)):=by
 have hv:=qo hb
 have hF:=hv.nf
 unfold aa.eM
 refine m9 n.ab.length (fun i s=>s=(false,(i:Int),(sm (bS n l) z i).num,((sm (bS n l) z i).den:Int))∧bI (sm (bS n l) z i))
  (fun w=>(w=Sum.inr (false,(n.ab.length:Int),(sm (bS n l) z n.ab.length).num,((sm (bS n l) z n.ab.length).den:Int))∧bI (sm (bS n l) z n.ab.length))∨(∃ a b c d,w=Sum.inl (false,a,b,c,d))∧¬Mm.Fair (az n) z) ?_ ?_ ⟨rfl,by show bI 0; exact oQ (k:=0) (by omega) (by omega)⟩ ?_
 ·rintro i s hi ⟨rfl,dG⟩
  refine aK (ca hi) (aK (av i) (bU (get_at hi) (bU (hv.Vn hi) ?_)))
  have w1:IntKind.i64.wrap ((i:Int)+1)=((i+1:Nat):Int):=cK (by omega)
  cases jb:bS n l i with
  |false=>
   have he:sm (bS n l) z (i+1)=sm (bS n l) z i:=by simp only[sm,jb,cond_false,Rat.add_zero]
   exact dk rfl ⟨_,rfl,.inl ⟨_,rfl,by rw[he,w1],by rw[he]; exact dG⟩⟩
  |true=>
   have he:sm (bS n l) z (i+1)=sm (bS n l) z i+z i:=by simp only[sm,jb,cond_true]
   have ha:=On dG (h.fit i hi)
   rw[←he]at ha
   refine aK rfl (aK (av i) (bU (v:=c9 (z i)) (by rw[Int.toNat_natCast]; exact h.get i hi) (bU ha ?_)))
   by_cases hf:bI (sm (bS n l) z (i+1))
   ·rw[if_pos hf]
    exact dk rfl ⟨_,rfl,.inl ⟨_,rfl,by rw[w1]; rfl,hf⟩⟩
   ·rw[if_neg hf]
    exact aK rfl ⟨_,rfl,.inr ⟨_,rfl,.inr ⟨⟨_,_,_,_,rfl⟩,fun eK=>hf (AO hb eK hl (by omega))⟩⟩⟩
 ·rintro s ⟨rfl,dG⟩
  exact dk (cw _) ⟨_,rfl,_,rfl,.inl ⟨rfl,dG⟩⟩
 ·rintro w (⟨rfl,dG⟩|⟨⟨a,b,c,d,rfl⟩,hn⟩)
  ·exact⟨_,rfl,.inl ⟨rfl,dG⟩⟩
  ·exact⟨_,rfl,.inr ⟨rfl,hn⟩⟩
theorem Oz(hb:vN n=true)(h:Rz n x z){l:Nat}(hl:l<n.aA.length){i:Nat}(hi:i<n.ab.length)(hS:aa.eM n x (l:Int)=some (c9 (sm (bS n l) z n.ab.length),true)):
  aa.iR n x (i:Int) (l:Int)=some (DE n z l i n.ab.length&&decide (sm (bS n l) z n.ab.length=(az n).c l)):=by
 have hv:=qo hb
 have hF:=hv.nf
 unfold aa.iR
 refine bB hS (bB (ug (fun j=>(false,(j:Int))) (fun j=>!(bS n l j&&decide (z i<z j))) n.ab.length (Sum.inr (false,(n.ab.length:Int))) (Sum.inl false) (fun j hj=>?_) (bF (cw _) rfl) rfl) ?_)
 ·refine bT (ca hj) (bT (av j) (bB (get_at hj) (bB (hv.Vn hj) (bT (av j) (bB (v:=c9 (z j)) (by rw[Int.toNat_natCast]; exact h.get j hj) (bT (av i) (bB (v:=c9 (z i)) (by rw[Int.toNat_natCast]; exact h.get i hi) (bB (BP (h.fit j hj) (h.fit i hi)) ?_))))))))
  rw[cK (by omega)]
  cases bS n l j with
  |false=>exact bF rfl rfl
  |true=>
   refine bT rfl ?_
   have hc:decide (0<sL (z j) (z i))=decide (z i<z j):=by
    rw[decide_eq_decide]
    unfold sL
    by_cases h1:z j<z i
    ·simp only[if_pos h1]
     exact⟨fun q=>absurd q (by decide),fun q=>by grind⟩
    ·rw[if_neg h1]
     by_cases h2:z i<z j<;>simp[h2]
   rw[hc]
   cases decide (z i<z j)<;>rfl
 ·show Sum.elim _ _ (bif DE n z l i n.ab.length then _ else _)=_
  cases DE n z l i n.ab.length with
  |false=>rfl
  |true=>
   have hs:=kL (sm (bS n l) z n.ab.length) ((n.aA[l]:Int):Rat)
   show (bif (c9 (sm (bS n l) z n.ab.length)).Den==1 then (bif decide (0≤(l:Int)) then (n.aA[(l:Int).toNat]?).bind fun i15=>some ((c9 (sm (bS n l) z n.ab.length)).cF==i15) else none) else some false)=_
   rw[(hv.cap hl).1,←hs,av,get_at hl]
   show (bif (c9 (sm (bS n l) z n.ab.length)).Den==1 then some ((c9 (sm (bS n l) z n.ab.length)).cF==n.aA[l]) else some false)=some (true&&((c9 (sm (bS n l) z n.ab.length)).cF==n.aA[l]&&(c9 (sm (bS n l) z n.ab.length)).Den==1))
   cases (c9 (sm (bS n l) z n.ab.length)).Den==1<;>simp
end
noncomputable def Rb(n:bt)(x:List ah)(i25:Int)(Sx b0:Bool):Option ((Bool×Int) ⊕ (Bool ⊕ Bool×Int)):=
 (aM (ω:=Bool×Int) (fun ((Rc,i31):Bool×Int)=>
 bif decide (0≤i25) then
 (n.ab[i25.toNat]?).bind fun WO=>
 bif decide (i31<(↑WO.length:Int)) then
 bif !Rc then
 bif decide (0≤i25) then
 (n.ab[i25.toNat]?).bind fun WQ=>
 bif decide (0≤i31) then
 (WQ[i31.toNat]?).bind fun i34=>
 (aa.iR n x i25 i34).bind fun Q9=>
 some (Sum.inl (Q9,IntKind.i64.wrap (i31+1)))
 else
 none
 else
 none
 else
 some (Sum.inr (Rc,i31))
 else
 some (Sum.inr (Rc,i31))
 else
 none) (b0,0)).bind fun (TI,i37)=>
 bif !TI then
 some (Sum.inr (Sum.inl false))
 else
 some (Sum.inl (Sx,IntKind.i64.wrap (i25+1)))
section
variable {n:bt}{x:List ah}{z:Nat→Rat}
theorem Rd(hb:vN n=true)(h:Rz n x z){i:Nat}(hi:i<n.ab.length)(hS:∀ l:Nat,l<n.aA.length→aa.eM n x (l:Int)=some (c9 (sm (bS n l) z n.ab.length),true)){b b0:Bool}(h0:b0=Ix n z i):
  ∃ r,Rb n x (i:Int) b b0=some r∧((r=.inl (b,((i+1:Nat):Int))∧zQ (az n) z i)∨(r=.inr (.inl false)∧¬zQ (az n) z i)):=by
 have hv:=qo hb
 have hF:=hv.nf
 have lG:n.ab[i]∈n.ab:=List.getElem_mem _
 have gF:n.ab[(i:Int).toNat]?=some n.ab[i]:=get_at hi
 have h6:=hv.f6 _ lG
 have eK:=hv.fr _ lG
 have DG:(b0||n.ab[i].any fun l=>DE n z l.toNat i n.ab.length&&decide (sm (bS n l.toNat) z n.ab.length=(az n).c l.toNat))=true↔zQ (az n) z i:=by
  rw[←yE]
  unfold AP Q8
  rw[←h0]
  have jb:∀ l:Nat,bS n l i=decide ((l:Int)∈n.ab[i]):=fun l=>by
   unfold bS; rw[List.getElem?_eq_getElem hi]; rfl
  simp only[Bool.or_eq_true,List.any_eq_true,List.mem_range,Bool.and_eq_true,jb,decide_eq_true_eq]
  constructor
  ·rintro (h|⟨l,hl,h1,h2⟩)
   ·exact .inl h
   ·have hx:=eK l hl
    exact .inr ⟨l.toNat,by omega,by rw[Int.toNat_of_nonneg hx.1]; exact hl,h1,h2⟩
  ·rintro (h|⟨l,hl,hm,h1,h2⟩)
   ·exact .inl h
   ·exact .inr ⟨(l:Int),hm,by rw[Int.toNat_natCast]; exact⟨h1,h2⟩⟩
 unfold Rb
 refine m9 n.ab[i].length (fun k s=>s=((b0||(n.ab[i].take k).any fun l=>DE n z l.toNat i n.ab.length&&decide (sm (bS n l.toNat) z n.ab.length=(az n).c l.toNat)),(k:Int)))
  (fun w=>w.1=(b0||n.ab[i].any fun l=>DE n z l.toNat i n.ab.length&&decide (sm (bS n l.toNat) z n.ab.length=(az n).c l.toNat))) ?_ ?_ (by simp) ?_
 ·rintro k s hk rfl
  refine aK (av i) (bU gF (aK (ca hk) ?_))
  cases mu:(b0||(n.ab[i].take k).any fun l=>DE n z l.toNat i n.ab.length&&decide (sm (bS n l.toNat) z n.ab.length=(az n).c l.toNat)) with
  |true=>
   refine dk rfl ⟨_,rfl,.inr ⟨_,rfl,?_⟩⟩
   show true=_
   rw[←List.take_append_drop k n.ab[i],List.any_append,←Bool.or_assoc,mu]; rfl
  |false=>
   have hx:=eK _ (List.getElem_mem hk)
   have WR:(((n.ab[i][k]).toNat:Nat):Int)=n.ab[i][k]:=Int.toNat_of_nonneg hx.1
   have tx:=Oz hb h (l:=(n.ab[i][k]).toNat) (by omega) hi (hS _ (by omega))
   rw[WR]at tx
   refine aK rfl (aK (av i) (bU gF (aK (av k) (bU (get_at hk) (bU tx ⟨_,rfl,.inl ⟨_,rfl,?_⟩⟩)))))
   rw[cK (by omega),List.take_succ_eq_append_getElem hk,List.any_append,←Bool.or_assoc,mu]
   simp
 ·rintro s rfl
  refine aK (av i) (bU gF (dk (cw _) ⟨_,rfl,_,rfl,?_⟩))
  rw[List.take_length]
 ·rintro⟨c,a⟩ hw
  have VV:c=_:=hw
  have w1:IntKind.i64.wrap ((i:Int)+1)=((i+1:Nat):Int):=cK (by omega)
  rw[←VV]at DG
  cases c with
  |true=>exact dk rfl ⟨_,rfl,.inl ⟨by rw[w1],DG.1 rfl⟩⟩
  |false=>exact aK rfl ⟨_,rfl,.inr ⟨rfl,fun q=>absurd (DG.2 q) (by decide)⟩⟩
end
end Go.Proofs.Ytedjbjphpnkpoaa
end
section
/- Plain facts of this seat: the reference's Check says which rates are fair. -/
set_option maxRecDepth 100000
set_option maxHeartbeats 1000000
namespace Go.Proofs.Ytedjbjphpnkpoaa
open Go.PI Go.Pl Go.Mm
theorem IA{n:bt}(hb:vN n=true){x:List ah}(Cz:x.length≤50):∃ b,aa.jk n x=some b∧(b=true↔Jv n x):=by
 have hv:=qo hb
 have hF:=hv.nf
 have hL:=hv.nc
 have wj:¬Jv n x→(false=true↔Jv n x):=fun h=>⟨fun e=>absurd e (by decide),fun e=>absurd e h⟩
 unfold aa.jk
 refine bU (qn fun l hl=>hv.Iv hl) (dk (by rw[hb]; rfl) ?_)
 by_cases hlen:x.length≠n.ab.length
 ·exact aK (by rw[Bool.not_eq_true',beq_eq_false_iff_ne]; omega) ⟨_,rfl,wj fun⟨z,h,_⟩=>hlen h.len⟩
 have nX:x.length=n.ab.length:=Classical.not_not.1 hlen
 refine dk (by rw[nX]; simp) ?_
 refine m9 n.ab.length (fun i s=>s=(false,(i:Int))∧∀ j,j<i→∃ q,x[j]?=some (c9 q)∧bI q∧0≤q∧((az n).has j=true→q≤(az n).k j))
  (fun w=>(w=Sum.inr (false,(n.ab.length:Int))∧∀ j,j<n.ab.length→∃ q,x[j]?=some (c9 q)∧bI q∧0≤q∧((az n).has j=true→q≤(az n).k j))∨(w=Sum.inl false∧¬Jv n x)) ?_ ?_ ⟨rfl,fun j hj=>by omega⟩ ?_
 ·rintro i s hi ⟨rfl,yF⟩
  have JT:i<x.length:=by omega
  obtain⟨k,gk,ek,eh,k0,k1⟩:=hv.kf hi
  have Iy:n.aF[(i:Int).toNat]?=some k:=by rw[Int.toNat_natCast]; exact gk
  have w1:IntKind.i64.wrap ((i:Int)+1)=((i+1:Nat):Int):=cK (by omega)
  refine aK (ca JT) (aK (av i) (bU (get_at JT) (bU (Iz _) ?_)))
  cases Ra:vR x[i] with
  |false=>
   refine aK rfl ⟨_,rfl,.inr ⟨_,rfl,.inr ⟨rfl,fun⟨z,h,_⟩=>?_⟩⟩⟩
   have h1:=h.get i hi
   rw[List.getElem?_eq_getElem JT]at h1
   rw[Option.some.inj h1,lf,decide_eq_true (h.fit i hi)]at Ra
   exact absurd Ra (by decide)
  |true=>
   obtain⟨q,hq,TG⟩:=(K9 _).1 Ra
   have PG:x[i]?=some (c9 q):=by rw[List.getElem?_eq_getElem JT,hq]
   have Re:x[(i:Int).toNat]?=some (c9 q):=by rw[Int.toNat_natCast]; exact PG
   have hz:∀ z,Rz n x z→z i=q:=fun z h=>xw (Option.some.inj ((h.get i hi).symm.trans PG))
   have dq:=gu TG
   refine dk rfl (aK (av i) (bU Re ?_))
   by_cases BR:q.num<0
   ·refine aK (decide_eq_true BR) ⟨_,rfl,.inr ⟨_,rfl,.inr ⟨rfl,fun⟨z,h,hf⟩=>?_⟩⟩⟩
    have:=hf.sK.nn i hi
    rw[hz z h]at this
    have:=Rat.num_nonneg.2 this
    omega
   have Of:0≤q:=Rat.num_nonneg.1 (by omega)
   refine dk (decide_eq_false BR) (aK (av i) (bU Iy ?_))
   have uj:((az n).has i=true→q≤(az n).k i)→∀ j,j<i+1→∃ q,x[j]?=some (c9 q)∧bI q∧0≤q∧((az n).has j=true→q≤(az n).k j):=fun hh j hj=>by
    by_cases e:j=i
    ·subst e; exact⟨q,PG,TG,Of,hh⟩
    ·exact yF j (by omega)
   by_cases cH:0<k
   ·have m1:=eY (a:=k) (b:=(q.den:Int)) (by omega) (by omega) (by omega) (by omega)
    have w2:IntKind.i64.wrap (k*(c9 q).Den)=k*(q.den:Int):=bZ (n:=k*(q.den:Int)) (by omega) (by omega)
    refine aK (decide_eq_true cH) (aK (av i) (bU Re (aK (av i) (bU Iy (aK (av i) (bU Re ?_))))))
    rw[w2]
    by_cases bE:k*(q.den:Int)<q.num
    ·refine aK (decide_eq_true bE) ⟨_,rfl,.inr ⟨_,rfl,.inr ⟨rfl,fun⟨z,h,hf⟩=>?_⟩⟩⟩
     have:=hf.sK.kf i hi (by rw[eh]; exact decide_eq_true cH)
     rw[hz z h,ek]at this
     exact absurd (BS.1 bE) (Rat.not_lt.2 this)
    ·exact dk (decide_eq_false bE) ⟨_,rfl,.inl ⟨_,rfl,by rw[w1],uj fun _=>by rw[ek]; exact Rat.not_lt.1 fun h=>bE (BS.2 h)⟩⟩
   ·exact dk (decide_eq_false cH) ⟨_,rfl,.inl ⟨_,rfl,by rw[w1],uj fun hh=>by rw[eh]at hh; exact absurd (of_decide_eq_true hh) cH⟩⟩
 ·rintro s ⟨rfl,aX⟩
  exact dk (decide_eq_false (by omega)) ⟨_,rfl,_,rfl,.inl ⟨rfl,aX⟩⟩
 rintro w (⟨rfl,aX⟩|⟨rfl,hn⟩)
 rotate_left
 ·exact⟨_,rfl,wj hn⟩
 obtain⟨z,hz⟩:∃ z:Nat→Rat,∀ j,j<n.ab.length→x[j]?=some (c9 (z j))∧bI (z j)∧0≤z j∧((az n).has j=true→z j≤(az n).k j):=by
  refine⟨fun j=>mkRat (x[j]?.getD ⟨0,0⟩).cF (x[j]?.getD ⟨0,0⟩).Den.toNat,fun j hj=>?_⟩
  obtain⟨q,h1,h2⟩:=aX j hj
  simp only[h1,Option.getD_some,uk]
  exact⟨trivial,h2⟩
 have rz:Rz n x z:=⟨nX,fun j hj=>(hz j hj).1,fun j hj=>(hz j hj).2.1⟩
 have bM:Jv n x↔Mm.Fair (az n) z:=by
  refine⟨fun⟨z',r',f'⟩=>yD (fun j hj=>xw (Option.some.inj ((r'.get j hj).symm.trans (rz.get j hj)))) f',fun h=>⟨z,rz,h⟩⟩
 rw[bM]
 have Ov:¬Mm.Fair (az n) z→(false=true↔Mm.Fair (az n) z):=fun h=>⟨fun e=>absurd e (by decide),fun e=>absurd e h⟩
 refine m9 n.aA.length (fun l s=>s=(false,(l:Int))∧∀ l':Nat,l'<l→aa.eM n x (l':Int)=some (c9 (sm (bS n l') z n.ab.length),true)∧sm (bS n l') z n.ab.length≤(az n).c l')
  (fun w=>(w=Sum.inr (false,(n.aA.length:Int))∧∀ l':Nat,l'<n.aA.length→aa.eM n x (l':Int)=some (c9 (sm (bS n l') z n.ab.length),true)∧sm (bS n l') z n.ab.length≤(az n).c l')∨(w=Sum.inl false∧¬Mm.Fair (az n) z)) ?_ ?_ ⟨rfl,fun l' gJ=>by omega⟩ ?_
 ·rintro l s hl ⟨rfl,yF⟩
  obtain⟨r,hr,eb⟩:=Lr hb rz hl
  obtain⟨hc,c0,c1⟩:=hv.cap hl
  refine aK (ca hl) (bU hr ?_)
  rcases eb with ⟨rfl,Y9⟩|⟨zO,hn⟩
  ·have dS:=gu Y9
   have m1:=eY (a:=n.aA[l]) (b:=((sm (bS n l) z n.ab.length).den:Int)) (by omega) (by omega) (by omega) (by omega)
   have w2:IntKind.i64.wrap (n.aA[l]*(c9 (sm (bS n l) z n.ab.length)).Den)=n.aA[l]*((sm (bS n l) z n.ab.length).den:Int):=bZ (n:=n.aA[l]*((sm (bS n l) z n.ab.length).den:Int)) (by omega) (by omega)
   refine dk rfl (aK (av l) (bU (get_at hl) ?_))
   rw[w2]
   by_cases bE:n.aA[l]*((sm (bS n l) z n.ab.length).den:Int)<(sm (bS n l) z n.ab.length).num
   ·refine aK (decide_eq_true bE) ⟨_,rfl,.inr ⟨_,rfl,.inr ⟨rfl,fun hf=>?_⟩⟩⟩
    have:=hf.sK.cap l hl
    rw[hc]at this
    exact absurd (BS.1 bE) (Rat.not_lt.2 this)
   ·refine dk (decide_eq_false bE) ⟨_,rfl,.inl ⟨_,rfl,by rw[cK (by omega)],fun l' gJ=>?_⟩⟩
    by_cases e:l'=l
    ·subst e
     exact⟨hr,by rw[hc]; exact Rat.not_lt.1 fun h=>bE (BS.2 h)⟩
    ·exact yF l' (by omega)
  ·obtain⟨q,b⟩:=r
   obtain rfl:b=false:=zO
   exact aK rfl ⟨_,rfl,.inr ⟨_,rfl,.inr ⟨rfl,hn⟩⟩⟩
 ·rintro s ⟨rfl,aX⟩
  exact dk (cw _) ⟨_,rfl,_,rfl,.inl ⟨rfl,aX⟩⟩
 rintro w (⟨rfl,mJ⟩|⟨rfl,hn⟩)
 rotate_left
 ·exact⟨_,rfl,Ov hn⟩
 refine m9 n.ab.length (fun i s=>s=(false,(i:Int))∧∀ j,j<i→zQ (az n) z j)
  (fun w=>(w=Sum.inr (false,(n.ab.length:Int))∧∀ j,j<n.ab.length→zQ (az n) z j)∨(w=Sum.inl false∧¬Mm.Fair (az n) z)) ?_ ?_ ⟨rfl,fun j hj=>by omega⟩ ?_
 ·rintro i s hi ⟨rfl,yF⟩
  obtain⟨k,gk,ek,eh,k0,k1⟩:=hv.kf hi
  have Iy:n.aF[(i:Int).toNat]?=some k:=by rw[Int.toNat_natCast]; exact gk
  have gx:x[(i:Int).toNat]?=some (c9 (z i)):=by rw[Int.toNat_natCast]; exact rz.get i hi
  have oz:∀ b0,b0=Ix n z i→∃ r,Rb n x (i:Int) false b0=some r∧((∃ s',r=Sum.inl s'∧s'=(false,((i+1:Nat):Int))∧∀ j,j<i+1→zQ (az n) z j)∨∃ w,r=Sum.inr w∧((w=Sum.inr (false,(n.ab.length:Int))∧∀ j,j<n.ab.length→zQ (az n) z j)∨(w=Sum.inl false∧¬Mm.Fair (az n) z))):=fun b0 h0=>by
   obtain⟨r,hr,eb⟩:=Rd hb rz hi (fun l hl=>(mJ l hl).1) (b:=false) h0
   refine⟨r,hr,?_⟩
   rcases eb with ⟨rfl,hN⟩|⟨rfl,hN⟩
   ·refine .inl ⟨_,rfl,rfl,fun j hj=>?_⟩
    by_cases e:j=i
    ·subst e; exact hN
    ·exact yF j (by omega)
   ·exact .inr ⟨_,rfl,.inr ⟨rfl,fun hf=>hN (hf.Ds i hi)⟩⟩
  refine aK (decide_eq_true (by omega)) (aK (av i) (bU Iy ?_))
  by_cases cH:0<k
  ·have hs:=kL (z i) (k:Rat)
   have Jo:Ix n z i=((c9 (z i)).cF==k&&(c9 (z i)).Den==1):=by
    unfold Ix
    rw[eh,ek,decide_eq_true cH,Bool.true_and]
    exact hs.symm
   refine aK (decide_eq_true cH) (aK (av i) (bU gx ?_))
   cases KE:(c9 (z i)).Den==1 with
   |true=>
    refine aK rfl (aK (av i) (bU gx (aK (av i) (bU Iy (oz _ ?_)))))
    rw[Jo,KE,Bool.and_true]
   |false=>
    refine dk rfl (oz _ ?_)
    rw[Jo,KE,Bool.and_false]
  ·refine dk (decide_eq_false cH) (oz _ ?_)
   unfold Ix
   rw[eh,decide_eq_false cH,Bool.false_and]
 ·rintro s ⟨rfl,aX⟩
  exact dk (decide_eq_false (by omega)) ⟨_,rfl,_,rfl,.inl ⟨rfl,aX⟩⟩
 rintro w (⟨rfl,DG⟩|⟨rfl,hn⟩)
 ·exact⟨_,rfl,fun _=>⟨⟨fun j hj=>(hz j hj).2.2.1,fun j hj=>(hz j hj).2.2.2,fun l hl=>(mJ l hl).2⟩,DG⟩,fun _=>rfl⟩
 ·exact⟨_,rfl,Ov hn⟩
end Go.Proofs.Ytedjbjphpnkpoaa
end
section
/- Plain facts of this seat: the reference's levels. -/
set_option maxRecDepth 100000
set_option maxHeartbeats 1000000
namespace Go.Proofs.Ytedjbjphpnkpoaa
open Go.PI Go.Pl Go.Mm
theorem OA{p q:Rat}(hp:bI p)(hq:bI q):aa.oe (c9 p) (c9 q)=some (if bI (p-q) then (c9 (p-q),0) else (⟨0,0⟩,3)):=by
 unfold aa.oe
 have dp:=gu hp
 have dq:=gu hq
 have m1:=eY hp.1 hp.2.1 (b:=(q.den:Int)) (by omega) (by omega)
 have m2:=eY hq.1 hq.2.1 (b:=(p.den:Int)) (by omega) (by omega)
 have m3:=eY (a:=(p.den:Int)) (b:=(q.den:Int)) (by omega) (by omega) (by omega) (by omega)
 have m4:1≤p.den*q.den:=Nat.mul_pos p.den_pos q.den_pos
 have e3:(p.den:Int)*(q.den:Int)=((p.den*q.den:Nat):Int):=by simp
 refine bB (kM hp) (bF rfl (bB (kM hq) (bF rfl ?_)))
 show (aa.dm (IntKind.i64.wrap (IntKind.i64.wrap (p.num*(q.den:Int))-IntKind.i64.wrap (q.num*(p.den:Int)))) (IntKind.i64.wrap ((p.den:Int)*(q.den:Int)))).bind (fun x=>some (x.1,x.2))=_
 rw[bZ (n:=p.num*(q.den:Int)) (by omega) (by omega),bZ (n:=q.num*(p.den:Int)) (by omega) (by omega),bZ (n:=p.num*(q.den:Int)-q.num*(p.den:Int)) (by omega) (by omega),bZ (n:=(p.den:Int)*(q.den:Int)) (by omega) (by omega),e3]
 refine bB (BQ (by omega) (by omega) m4 (by omega)) ?_
 rw[Rat.sub_def']
theorem Ls{p:Rat}(hp:bI p){m:Nat}(h1:1≤m)(h2:m≤1000):aa.rk (c9 p) ⟨m,1⟩=some (if bI (p/(m:Rat)) then (c9 (p/(m:Rat)),0) else (⟨0,0⟩,3)):=by
 unfold aa.rk
 have dp:=gu hp
 have hm:(⟨m,1⟩:ah)=c9 ((m:Int):Rat):=rfl
 have fm:bI ((m:Int):Rat):=⟨by show (_:Int)≤(m:Int); omega,by show (m:Int)≤_; omega,by show 1≤1000000000; omega⟩
 have m3:=eY (a:=(p.den:Int)) (b:=(m:Int)) (by omega) (by omega) (by omega) (by omega)
 have m4:1≤p.den*m:=Nat.mul_pos p.den_pos h1
 have e3:(p.den:Int)*(m:Int)=((p.den*m:Nat):Int):=by simp
 have dE:(((m:Nat):Int)==0)=false:=by rw[beq_eq_false_iff_ne]; omega
 refine bB (kM hp) (bF rfl (bB (v:=true) (by rw[hm]; exact kM fm) (bF rfl (bF dE ?_))))
 show (aa.dm (IntKind.i64.wrap (p.num*1)) (IntKind.i64.wrap ((p.den:Int)*(m:Int)))).bind (fun x=>some (x.1,x.2))=_
 have Tx:=hp.1
 have KD:=hp.2.1
 rw[Int.mul_one,bZ (n:=p.num) (by omega) (by omega),bZ (n:=(p.den:Int)*(m:Int)) (by omega) (by omega),e3]
 refine bB (BQ (by omega) (by omega) m4 (by omega)) ?_
 rw[ow p h1]
section
variable {n:bt}{rates:List ah}{fixed:List Bool}{x:Nat→Rat}{lo:Rat}{P:Nat}
noncomputable def uo(n:bt)(fixed:List Bool)(x:Nat→Rat)(l:Nat):Rat:=if mF n fixed l=0 then (az n).c l-sF n fixed x l else ((az n).c l-sF n fixed x l)/((mF n fixed l:Nat):Rat)
theorem BT(hv:VN n)(h:ij n rates fixed x lo P){l:Nat}(hl:l<n.aA.length):
  aa.kN n fixed rates (l:Int)=some (c9 (uo n fixed x l),((mF n fixed l:Nat):Int))∧bI (uo n fixed x l)∧uo n fixed x l≤1000∧mF n fixed l≤8∧(mF n fixed l≠0→uo n fixed x l*(mF n fixed l:Nat)=(az n).c l-sF n fixed x l):=by
 obtain⟨hc,JY,GB⟩:=hv.cap hl
 have Nf:∀ j,j<n.ab.length→(bS n l j&&cx fixed j)=true→0≤x j:=fun j hj hp=>by
  simp only[Bool.and_eq_true]at hp
  exact(h.inv.nn j hj hp.2).1
 have mJ:=h.inv.cap l hl
 have hP:=h.PM
 have K7:=h.inv.P1
 have yA:∀ i,i≤n.ab.length→bI ((az n).c l-sm (fun i=>bS n l i&&cx fixed i) x i):=fun i hi=>by
  have hm:=jG Nf hi
  refine(qp K7 (by omega) ?_ ?_ ?_).1
  ·refine Dv.sub ?_ (Dv.sm fun j hj hp=>h.inv.dv j (by show j<n.ab.length; omega) (by simp only[Bool.and_eq_true]at hp; exact hp.2))
   rw[hc]; exact Dv.int _
  ·have:sm (fun i=>bS n l i&&cx fixed i) x n.ab.length≤(az n).c l:=mJ
   grind
  ·have h1:(az n).c l≤1000:=by rw[hc]; exact_mod_cast GB
   have:=hm.1
   grind
 have hx:∀ i,i<n.ab.length→cx fixed i=true→bI (x i):=fun i hi hf=>by
  have h1:=h.inv.nn i hi hf
  obtain⟨l',gJ,jb⟩:=hv.ex hi
  obtain⟨FT,_,Lc⟩:=hv.cap gJ
  have TA:sm (fun i=>bS n l' i&&cx fixed i) x n.ab.length≤(az n).c l':=h.inv.cap l' gJ
  have Ld:∀ j,j<n.ab.length→(bS n l' j&&cx fixed j)=true→0≤x j:=fun j hj hp=>by
   simp only[Bool.and_eq_true]at hp
   exact(h.inv.nn j hj hp.2).1
  have h2:=(jG Ld (i:=i+1) (by omega)).2
  have h3:=(jG Ld (i:=i) (by omega)).1
  simp only[sm,jb,hf,Bool.and_self,cond_true]at h2
  have h4:(az n).c l'≤1000:=by rw[FT]; exact_mod_cast Lc
  exact(qp K7 (by omega) (h.inv.dv i hi hf) h1.1 (by grind)).1
 have tx:∀ i,i<n.ab.length→fixed[i]?=some (cx fixed i):=fun i hi=>by
  have:i<fixed.length:=by rw[h.nf]; exact hi
  unfold cx
  rw[List.getElem?_eq_getElem this]; rfl
 have Q0:=hv.nf
 have Qq:n.aA[(l:Int).toNat]?=some n.aA[l]:=get_at hl
 have WE:0≤(az n).c l-sF n fixed x l:=by
  have:sm (fun i=>bS n l i&&cx fixed i) x n.ab.length≤(az n).c l:=mJ
  grind
 have Lc:(az n).c l≤1000:=by rw[hc]; exact_mod_cast GB
 have Y8:(az n).c l-sF n fixed x l≤1000:=by
  have:=(jG Nf (i:=n.ab.length) (Nat.le_refl _)).1
  grind
 have WG:Dv P ((az n).c l-sF n fixed x l):=by
  refine Dv.sub ?_ (Dv.sm fun j hj hp=>h.inv.dv j hj (by simp only[Bool.and_eq_true]at hp; exact hp.2))
  rw[hc]; exact Dv.int _
 have TB:mF n fixed l≤8:=Nat.le_trans iz Q0
 have sd:aM (ω:=Int×Int×Int×Int) (fun ((i2,i3,i4,i5):Int×Int×Int×Int)=>
    bif decide (i3<(↑n.ab.length:Int)) then
    bif decide (0≤i3) then
    (n.ab[i3.toNat]?).bind fun l6=>
    (aa.jH l6 (l:Int)).bind fun b7=>
    bif b7 then
    bif decide (0≤i3) then
    (fixed[i3.toNat]?).bind fun b8=>
    bif b8 then
    bif decide (0≤i3) then
    (rates[i3.toNat]?).bind fun q9=>
    (aa.oe (ah.mk i4 i5) q9).bind fun (xy,i11)=>
    bif b7 then
    bif decide (0≤i3) then
    (fixed[i3.toNat]?).bind fun Cp=>
    bif !Cp then
    some (Sum.inl (IntKind.i64.wrap (i2+1),IntKind.i64.wrap (i3+1),xy.cF,xy.Den))
    else
    some (Sum.inl (i2,IntKind.i64.wrap (i3+1),xy.cF,xy.Den))
    else
    none
    else
    some (Sum.inl (i2,IntKind.i64.wrap (i3+1),xy.cF,xy.Den))
    else
    none
    else
    bif b7 then
    bif decide (0≤i3) then
    (fixed[i3.toNat]?).bind fun Nj=>
    bif !Nj then
    some (Sum.inl (IntKind.i64.wrap (i2+1),IntKind.i64.wrap (i3+1),i4,i5))
    else
    some (Sum.inl (i2,IntKind.i64.wrap (i3+1),i4,i5))
    else
    none
    else
    some (Sum.inl (i2,IntKind.i64.wrap (i3+1),i4,i5))
    else
    none
    else
    bif b7 then
    bif decide (0≤i3) then
    (fixed[i3.toNat]?).bind fun TJ=>
    bif !TJ then
    some (Sum.inl (IntKind.i64.wrap (i2+1),IntKind.i64.wrap (i3+1),i4,i5))
    else
    some (Sum.inl (i2,IntKind.i64.wrap (i3+1),i4,i5))
    else
    none
    else
    some (Sum.inl (i2,IntKind.i64.wrap (i3+1),i4,i5))
    else
    none
    else
    some (Sum.inr (i2,i3,i4,i5)))
    (0,0,n.aA[l],1)=some (((mF n fixed l:Nat):Int),(n.ab.length:Int),((az n).c l-sF n fixed x l).num,(((az n).c l-sF n fixed x l).den:Int)):=by
  refine eD (fun i=>(((ct (fun i=>bS n l i&&!cx fixed i) i:Nat):Int),(i:Int),((az n).c l-sm (fun i=>bS n l i&&cx fixed i) x i).num,((((az n).c l-sm (fun i=>bS n l i&&cx fixed i) x i).den:Nat):Int))) n.ab.length _ (fun i hi=>?_) (bF (cw _) rfl) ?_
  ·refine bT (ca hi) (bT (av i) (bB (get_at hi) (bB (hv.Vn hi) ?_)))
   rw[cK (i:=i) (by omega)]
   have So:=iz (p:=fun i=>bS n l i&&!cx fixed i) (n:=i)
   have gf:fixed[(i:Int).toNat]?=some (cx fixed i):=by rw[Int.toNat_natCast]; exact tx i hi
   cases jb:bS n l i with
   |false=>
    refine bF rfl (bF rfl ?_)
    simp only[ct,sm,jb,Bool.false_and,cond_false,Nat.add_zero]
    have:(az n).c l-(sm (fun i=>bS n l i&&cx fixed i) x i+0)=(az n).c l-sm (fun i=>bS n l i&&cx fixed i) x i:=by grind
    rw[this]
   |true=>
    refine bT rfl (bT (av i) (bB gf ?_))
    cases hf:cx fixed i with
    |false=>
     refine bF rfl (bT rfl (bT (av i) (bB (v:=false) (by rw[gf,hf]) (bT rfl ?_))))
     rw[cK (by omega)]
     simp only[ct,sm,jb,hf,Bool.true_and,Bool.not_false,cond_true,cond_false]
     have:(az n).c l-(sm (fun i=>bS n l i&&cx fixed i) x i+0)=(az n).c l-sm (fun i=>bS n l i&&cx fixed i) x i:=by grind
     rw[this]
    |true=>
     have x9:fixed[i]?=some true:=by rw[tx i hi,hf]
     have p6:=OA (yA i (by omega)) (hx i hi hf)
     have uj:(az n).c l-sm (fun i=>bS n l i&&cx fixed i) x i-x i=(az n).c l-sm (fun i=>bS n l i&&cx fixed i) x (i+1):=by
      simp only[sm,jb,hf,Bool.and_self,cond_true]; grind
     rw[uj,if_pos (yA (i+1) (by omega))]at p6
     refine bT rfl (bT (av i) (bB (v:=c9 (x i)) (by rw[Int.toNat_natCast]; exact h.r i hi x9) (bB p6 (bT rfl (bT (av i) (bB (v:=true) (by rw[gf,hf]) (bF rfl ?_)))))))
     simp only[ct,jb,hf,Bool.true_and,Bool.not_true,cond_false,Nat.add_zero]
     rfl
  ·have:(az n).c l-sm (fun i=>bS n l i&&cx fixed i) x 0=(n.aA[l]:Rat):=by rw[←hc]; simp only[sm]; grind
   rw[this]; rfl
 have Og:bI ((az n).c l-sF n fixed x l):=yA n.ab.length (Nat.le_refl _)
 by_cases hm:mF n fixed l=0
 ·have e:uo n fixed x l=(az n).c l-sF n fixed x l:=if_pos hm
  rw[e]
  refine⟨?_,Og,Y8,TB,fun h=>absurd hm h⟩
  unfold aa.kN
  refine bT (av l) (bB Qq (bB sd (bT (by rw[hm]; rfl) ?_)))
  rw[hm]; rfl
 ·have e:uo n fixed x l=((az n).c l-sF n fixed x l)/((mF n fixed l:Nat):Rat):=if_neg hm
  rw[e]
  have r8:1≤mF n fixed l:=by omega
  have TC:((mF n fixed l:Nat):Rat)≠0:=fun e=>hm (by exact_mod_cast e)
  have PN:(0:Rat)<((mF n fixed l:Nat):Rat):=by exact_mod_cast r8
  have hq:((az n).c l-sF n fixed x l)/((mF n fixed l:Nat):Rat)*((mF n fixed l:Nat):Rat)=(az n).c l-sF n fixed x l:=by
   rw[Rat.div_def,Rat.mul_assoc,Rat.inv_mul_cancel _ TC,Rat.mul_one]
  have Of:0≤((az n).c l-sF n fixed x l)/((mF n fixed l:Nat):Rat):=by
   apply Rat.le_of_mul_le_mul_right (c:=((mF n fixed l:Nat):Rat)) _ PN
   rw[hq,Rat.zero_mul]; exact WE
  have gR:((az n).c l-sF n fixed x l)/((mF n fixed l:Nat):Rat)≤1000:=by
   apply Rat.le_of_mul_le_mul_right (c:=((mF n fixed l:Nat):Rat)) _ PN
   rw[hq]
   have:(1:Rat)≤((mF n fixed l:Nat):Rat):=by exact_mod_cast r8
   grind
  have WH:P*mF n fixed l≤1000:=Nat.le_trans (Nat.mul_le_mul hP TB) (by omega)
  have dG:=(qp (Nat.mul_pos K7 r8) WH (Dv.part WG hq) Of gR).1
  have hdiv:=Ls Og r8 (by omega)
  rw[if_pos dG]at hdiv
  refine⟨?_,dG,gR,TB,fun _=>hq⟩
  unfold aa.kN
  exact bT (av l) (bB Qq (bB sd (bF (by show (((mF n fixed l:Nat):Int)==0)=false; rw[beq_eq_false_iff_ne]; omega) (bB hdiv rfl))))
end
end Go.Proofs.Ytedjbjphpnkpoaa
end
section
/- Plain facts of this seat: what the reference's Share returns. -/
set_option maxRecDepth 100000
set_option maxHeartbeats 1000000
namespace Go.Proofs.Ytedjbjphpnkpoaa
open Go.PI Go.Pl Go.Mm
section
variable {n:bt}{rates:List ah}{fixed:List Bool}{x:Nat→Rat}{lo:Rat}{P:Nat}
structure Jw(n:bt)(rates:List ah)(fixed:List Bool)(nw:Nat→Bool)(low:Rat)(m:Nat)(r':List ah)(f':List Bool):Prop where
 rl:r'.length=n.ab.length
 fl:f'.length=n.ab.length
 r:∀ j,j<n.ab.length→r'[j]?=if j<m∧nw j=true then some (c9 low) else rates[j]?
 f:∀ j,j<n.ab.length→f'[j]?=if j<m∧nw j=true then some true else fixed[j]?
theorem Jw.pz{nw:Nat→Bool}{low:Rat}{m:Nat}{r':List ah}{f':List Bool}(h:Jw n rates fixed nw low m r' f')(hm:nw m=false):Jw n rates fixed nw low (m+1) r' f':=by
 have e:∀ j,(j<m+1∧nw j=true)↔(j<m∧nw j=true):=fun j=>by
  constructor
  ·rintro⟨h1,h2⟩
   refine⟨?_,h2⟩
   by_cases e:j=m
   ·subst e; rw[hm]at h2; exact absurd h2 (by decide)
   ·omega
  ·rintro⟨h1,h2⟩; exact⟨by omega,h2⟩
 exact⟨h.rl,h.fl,fun j hj=>by rw[h.r j hj]; simp only[e],fun j hj=>by rw[h.f j hj]; simp only[e]⟩
theorem Jw.set{nw:Nat→Bool}{low:Rat}{m:Nat}{r':List ah}{f':List Bool}(h:Jw n rates fixed nw low m r' f')(hF:m<n.ab.length)(hm:nw m=true):Jw n rates fixed nw low (m+1) (r'.set m (c9 low)) (f'.set m true):=by
 have e:∀ j,j≠m→((j<m+1∧nw j=true)↔(j<m∧nw j=true)):=fun j hj=>by
  constructor
  ·rintro⟨h1,h2⟩; exact⟨by omega,h2⟩
  ·rintro⟨h1,h2⟩; exact⟨by omega,h2⟩
 refine⟨by rw[List.length_set]; exact h.rl,by rw[List.length_set]; exact h.fl,fun j hj=>?_,fun j hj=>?_⟩
 ·rw[xz (by rw[h.rl]; exact hF)]
  by_cases ej:j=m
  ·subst ej; rw[if_pos rfl,if_pos ⟨Nat.lt_succ_self _,hm⟩]
  ·rw[if_neg ej,h.r j hj]; simp only[e j ej]
 ·rw[xz (by rw[h.fl]; exact hF)]
  by_cases ej:j=m
  ·subst ej; rw[if_pos rfl,if_pos ⟨Nat.lt_succ_self _,hm⟩]
  ·rw[if_neg ej,h.f j hj]; simp only[e j ej]
theorem Lt(hv:VN n)(h:ij n rates fixed x lo P){nw:Nat→Bool}{low:Rat}(g:Sv (az n) (cx fixed) x low nw)(Rf:∀ i,n.ab.length≤i→nw i=false){r':List ah}{f':List Bool}(hp:Jw n rates fixed nw low n.ab.length r' f'):
  (∃ x' P',ij n r' f' x' low P')∧dw n f'+ct nw n.ab.length=dw n fixed:=by
 have Tu:∀ l,l<(az n).L→Dv 1 ((az n).c l):=fun l hl=>by rw[(hv.cap hl).1]; exact Dv.int _
 have EZ:∀ i,i<(az n).F→Dv 1 ((az n).k i):=fun i hi=>by obtain⟨k,_,e,_⟩:=hv.kf hi; rw[e]; exact Dv.int _
 obtain⟨P',hI⟩:=AK (N:=az n) hv.nf Tu EZ h.inv g
 have TD:(fun i=>cx f' i)=fun i=>cx fixed i||nw i:=by
  funext i
  by_cases hi:i<n.ab.length
  ·unfold cx
   rw[hp.f i hi]
   cases hw:nw i with
   |true=>rw[if_pos ⟨hi,rfl⟩,Bool.or_true]; rfl
   |false=>rw[if_neg (fun q=>absurd q.2 (by decide)),Bool.or_false]
  ·rw[Rf i (by omega),Bool.or_false]
   unfold cx
   have e1:f'[i]?=none:=List.getElem?_eq_none (by rw[hp.fl]; omega)
   have e2:fixed[i]?=none:=List.getElem?_eq_none (by rw[h.nf]; omega)
   rw[e1,e2]
 refine⟨⟨_,P',hp.rl,hp.fl,fun i hi hf=>?_,by rw[TD]; exact hI⟩,?_⟩
 ·rw[hp.f i hi]at hf
  rw[hp.r i hi]
  by_cases hw:nw i=true
  ·rw[if_pos ⟨hi,hw⟩,if_pos hw]
  ·rw[if_neg (fun q=>hw q.2)]at hf ⊢
   rw[if_neg hw]
   exact h.r i hi hf
 ·have e2:ct (fun i=>!cx f' i) n.ab.length=ct (fun i=>!cx fixed i&&!nw i) n.ab.length:=kK fun j _=>by
   rw[show cx f' j=_ from congrFun TD j]; cases cx fixed j<;>rfl
  have e3:ct nw n.ab.length=ct (fun i=>!cx fixed i&&nw i) n.ab.length:=kK fun j hj=>by
   cases hw:nw j with
   |false=>rw[Bool.and_false]
   |true=>rw[g.sub j hj hw]; rfl
  have Sm:=ql (p:=fun i=>!cx fixed i) (q:=nw) (n:=n.ab.length)
  show ct (fun i=>!cx f' i) n.ab.length+_=ct (fun i=>!cx fixed i) n.ab.length
  omega
theorem Hl(hv:VN n)(h:ij n rates fixed x lo P){low:Rat}(hl:∀ l,l<n.aA.length→mF n fixed l≠0→low≤uo n fixed x l):∀ l,l<n.aA.length→low*((mF n fixed l:Nat):Rat)≤(az n).c l-sF n fixed x l:=fun l gJ=>by
 by_cases Hk:mF n fixed l=0
 ·rw[Hk]
  have:sF n fixed x l≤(az n).c l:=h.inv.cap l gJ
  have e:low*((0:Nat):Rat)=0:=by
   have:((0:Nat):Rat)=0:=rfl
   rw[this,Rat.mul_zero]
  rw[e]; grind
 ·rw[←(BT hv h gJ).2.2.2.2 Hk]
  exact Rat.mul_le_mul_of_nonneg_right (hl l gJ Hk) (by exact_mod_cast Nat.zero_le _)
theorem Lu(hv:VN n)(h:ij n rates fixed x lo P){l0:Nat}(h0:l0<n.aA.length)(hm:mF n fixed l0≠0)(hl:∀ l,l<n.aA.length→mF n fixed l≠0→uo n fixed x l0≤uo n fixed x l)
  (hk:∀ i,i<n.ab.length→cx fixed i=false→(az n).has i=true→uo n fixed x l0≤(az n).k i):Sv (az n) (cx fixed) x (uo n fixed x l0) (fun i=>bS n l0 i&&!cx fixed i):=by
 refine⟨fun i hi hw=>?_,Hl hv h hl,hk,fun i hi hw=>?_,?_⟩
 ·simp only[Bool.and_eq_true,Bool.not_eq_true']at hw
  exact hw.2
 ·simp only[Bool.and_eq_true,Bool.not_eq_true']at hw
  refine .inr ⟨l0,h0,hw.1,(BT hv h h0).2.2.2.2 hm,fun j hj ho hf=>?_⟩
  have dr:bS n l0 j=true:=ho
  show (bS n l0 j&&!cx fixed j)=true
  rw[dr,hf]; rfl
 ·obtain⟨i,hi,hp⟩:=Du (p:=fun i=>bS n l0 i&&!cx fixed i) (n:=n.ab.length) (by unfold mF at hm; omega)
  exact⟨i,hi,hp⟩
theorem OB(hv:VN n)(h:ij n rates fixed x lo P){i0:Nat}(h0:i0<n.ab.length)(hf:cx fixed i0=false)(hh:(az n).has i0=true)(hl:∀ l,l<n.aA.length→mF n fixed l≠0→(az n).k i0≤uo n fixed x l)
  (hk:∀ i,i<n.ab.length→cx fixed i=false→(az n).has i=true→(az n).k i0≤(az n).k i):Sv (az n) (cx fixed) x ((az n).k i0) (fun i=>decide (i=i0)):=by
 refine⟨fun i hi hw=>?_,Hl hv h hl,hk,fun i hi hw=>?_,i0,h0,decide_eq_true rfl⟩
 ·rw[of_decide_eq_true hw]; exact hf
 ·rw[of_decide_eq_true hw]; exact .inl ⟨hh,rfl⟩
end
end Go.Proofs.Ytedjbjphpnkpoaa
end
section
/- Plain facts of this seat: what the reference's Share returns. -/
set_option maxRecDepth 100000
set_option maxHeartbeats 1000000
namespace Go.Proofs.Ytedjbjphpnkpoaa
open Go.PI Go.Pl Go.Mm
theorem OC{τ ω:Type}{e:Option (τ ⊕ ω)}{A:τ→Prop}(h:∃ r,e=some r∧∃ s',r=.inl s'∧A s'):∃ s',e=some (.inl s')∧A s':=by
 obtain⟨_,h1,s',rfl,h2⟩:=h; exact⟨s',h1,h2⟩
theorem IB{n:bt}(hb:vN n=true):∃ r,aa.jl n=some r∧r.2=0∧Jv n r.1:=by
 have hv:=qo hb
 have hF:=hv.nf
 have hL:=hv.nc
 have Qw:=hv.nl
 unfold aa.jl
 have eN:((n.ab.length:Int)).toNat=n.ab.length:=Int.toNat_natCast _
 refine bU (qn fun l hl=>hv.Iv hl) (dk (by rw[hb]; rfl) (aK (by rw[eN]; simp only[Bool.and_eq_true,decide_eq_true_eq]; omega) (aK (by rw[eN]; simp only[Bool.and_eq_true,decide_eq_true_eq]; omega) ?_)))
 refine Hh (fun s=>s.1=((dw n s.2.2:Nat):Int)∧∃ x lo P,ij n s.2.1 s.2.2 x lo P) (fun s=>dw n s.2.2) (fun w=>dw n w.2.2=0∧∃ x lo P,ij n w.2.1 w.2.2 x lo P) ?_ ?_ ?_
 ·rintro⟨left,rates,fixed⟩ ⟨e,x,lo,P,h⟩
  obtain rfl:left=((dw n fixed:Nat):Int):=e
  have h':ij n rates fixed x lo P:=h
  have Ni:rates.length=n.ab.length:=h'.nr
  have Lm:fixed.length=n.ab.length:=h'.nf
  have er:∀ l:List ah,l.length=n.ab.length→decide (l.length=(List.replicate ((n.ab.length:Int)).toNat (ah.mk 0 0)).length)=true:=fun l hl=>decide_eq_true (by rw[List.length_replicate,eN]; exact hl)
  have ef:∀ l:List Bool,l.length=n.ab.length→decide (l.length=(List.replicate ((n.ab.length:Int)).toNat false).length)=true:=fun l hl=>decide_eq_true (by rw[List.length_replicate,eN]; exact hl)
  by_cases hz:dw n fixed=0
  ·exact .inr ⟨_,bF (decide_eq_false (by rw[hz]; decide)) (bT (er _ Ni) (bT (ef _ Lm) rfl)),hz,x,lo,P,h'⟩
  refine .inl (OC ?_)
  have hl8:dw n fixed≤8:=Nat.le_trans iz hF
  have tx:∀ i,i<n.ab.length→fixed[i]?=some (cx fixed i):=fun i hi=>by
   have:i<fixed.length:=by rw[Lm]; exact hi
   unfold cx
   rw[List.getElem?_eq_getElem this]; rfl
  refine aK (decide_eq_true (by omega)) ?_
  refine vC n.aA.length (fun l s=>∃ (b:Int) (q:Rat),s=(b,(l:Int),q.num,(q.den:Int))∧bI q∧((b = -1∧q=((1000000:Int):Rat)∧∀ l',l'<l→mF n fixed l'=0)∨∃ l0:Nat,b=l0∧l0<n.aA.length∧mF n fixed l0≠0∧q=uo n fixed x l0∧∀ l',l'<l→mF n fixed l'≠0→q≤uo n fixed x l'))
   (fun w=>∃ (l0:Nat) (a:Int),w=((l0:Int),a,(uo n fixed x l0).num,((uo n fixed x l0).den:Int))∧l0<n.aA.length∧mF n fixed l0≠0∧∀ l',l'<n.aA.length→mF n fixed l'≠0→uo n fixed x l0≤uo n fixed x l') ?_ ?_
   ⟨-1,((1000000:Int):Rat),rfl,⟨by show (_:Int)≤1000000; omega,by show (1000000:Int)≤_; omega,by show 1≤_; omega⟩,.inl ⟨rfl,rfl,fun l' gJ=>by omega⟩⟩ ?_
  ·rintro l s hl ⟨b,q,rfl,fq,eb⟩
   obtain⟨Li,Zb,lv1,m8,hmul⟩:=BT hv h' hl
   refine aK (ca hl) (bU Li (bU (BP Zb fq) ?_))
   have w1:IntKind.i64.wrap ((l:Int)+1)=((l+1:Nat):Int):=cK (by omega)
   by_cases hm:mF n fixed l=0
   ·refine dk (decide_eq_false (by rw[hm]; decide)) ⟨_,rfl,_,rfl,b,q,by rw[w1],fq,?_⟩
    rcases eb with ⟨h1,h2,h3⟩|⟨l0,h1,h2,h3,h4,h5⟩
    ·refine .inl ⟨h1,h2,fun l' gJ=>?_⟩
     by_cases e:l'=l
     ·rw[e]; exact hm
     ·exact h3 l' (by omega)
    ·refine .inr ⟨l0,h1,h2,h3,h4,fun l' gJ uQ=>?_⟩
     by_cases e:l'=l
     ·rw[e]at uQ; exact absurd hm uQ
     ·exact h5 l' (by omega) uQ
   ·refine aK (decide_eq_true (by omega)) ?_
    by_cases bE:uo n fixed x l<q
    ·refine aK (by show decide (sL (uo n fixed x l) q<0)=true; rw[xA]; exact decide_eq_true bE) ⟨_,rfl,_,rfl,(l:Int),uo n fixed x l,by rw[w1]; rfl,Zb,.inr ⟨l,rfl,hl,hm,rfl,fun l' gJ uQ=>?_⟩⟩
     by_cases e:l'=l
     ·rw[e]; exact Rat.le_refl
     ·rcases eb with ⟨h1,h2,h3⟩|⟨l0,h1,h2,h3,h4,h5⟩
      ·exact absurd (h3 l' (by omega)) uQ
      ·have:=h5 l' (by omega) uQ
       grind
    ·refine dk (by show decide (sL (uo n fixed x l) q<0)=false; rw[xA]; exact decide_eq_false bE) ⟨_,rfl,_,rfl,b,q,by rw[w1],fq,?_⟩
     rcases eb with ⟨h1,h2,h3⟩|⟨l0,h1,h2,h3,h4,h5⟩
     ·exfalso
      apply bE
      rw[h2]
      have:(1000:Rat)<((1000000:Int):Rat):=by decide
      grind
     ·refine .inr ⟨l0,h1,h2,h3,h4,fun l' gJ uQ=>?_⟩
      by_cases e:l'=l
      ·rw[e]; exact Rat.not_lt.1 bE
      ·exact h5 l' (by omega) uQ
  ·rintro s ⟨b,q,rfl,fq,eb⟩
   refine dk (cw _) ⟨_,rfl,_,rfl,?_⟩
   rcases eb with ⟨h1,h2,h3⟩|⟨l0,rfl,h2,h3,rfl,h5⟩
   ·exfalso
    obtain⟨i,hi,hp⟩:=Du (p:=fun i=>!cx fixed i) (n:=n.ab.length) (by unfold dw at hz; omega)
    obtain⟨l,hl,jb⟩:=hv.ex hi
    have cB:(!cx fixed i)=true:=hp
    have:=nx (p:=fun i=>bS n l i&&!cx fixed i) (n:=n.ab.length) hi (by show (bS n l i&&!cx fixed i)=true; rw[jb,cB]; rfl)
    have h4:ct (fun i=>bS n l i&&!cx fixed i) n.ab.length=0:=h3 l hl
    omega
   ·exact⟨l0,_,rfl,h2,h3,h5⟩
  rintro w ⟨l0,a,rfl,u0,Jo,rO⟩
  obtain⟨_,fl0,_,_,_⟩:=BT hv h' u0
  refine vC n.ab.length (fun i s=>∃ (f k:Int) (q:Rat),s=(f,k,(i:Int),q.num,(q.den:Int))∧bI q∧q≤uo n fixed x l0∧(∀ i',i'<i→cx fixed i'=false→(az n).has i'=true→q≤(az n).k i')∧((f = -1∧k=(l0:Int)∧q=uo n fixed x l0)∨∃ i0:Nat,f=(i0:Int)∧k = -1∧i0<n.ab.length∧cx fixed i0=false∧(az n).has i0=true∧q=(az n).k i0))
   (fun w=>∃ (f k a:Int) (q:Rat),w=(f,k,a,q.num,(q.den:Int))∧q≤uo n fixed x l0∧(∀ i',i'<n.ab.length→cx fixed i'=false→(az n).has i'=true→q≤(az n).k i')∧((f = -1∧k=(l0:Int)∧q=uo n fixed x l0)∨∃ i0:Nat,f=(i0:Int)∧k = -1∧i0<n.ab.length∧cx fixed i0=false∧(az n).has i0=true∧q=(az n).k i0)) ?_ ?_
   ⟨-1,(l0:Int),uo n fixed x l0,rfl,fl0,Rat.le_refl,fun i' uO=>by omega,.inl ⟨rfl,rfl,rfl⟩⟩ ?_
  ·rintro i s hi ⟨f,k,q,rfl,fq,hle,hk,eb⟩
   obtain⟨kk,gk,ek,eh,k0,k1⟩:=hv.kf hi
   have Iy:n.aF[(i:Int).toNat]?=some kk:=by rw[Int.toNat_natCast]; exact gk
   have w1:IntKind.i64.wrap ((i:Int)+1)=((i+1:Nat):Int):=cK (by omega)
   have hc:=BP (oQ k0 k1) fq
   have G6:decide ((i:Int).toNat<fixed.length)=true:=decide_eq_true (by rw[Int.toNat_natCast]; omega)
   have pz:(cx fixed i=false→(az n).has i=true→q≤(az n).k i)→∀ i',i'<i+1→cx fixed i'=false→(az n).has i'=true→q≤(az n).k i':=fun hh i' uO h1 h2=>by
    by_cases e:i'=i
    ·rw[e]at h1 h2 ⊢; exact hh h1 h2
    ·exact hk i' (by omega) h1 h2
   refine aK (ca hi) (aK (av i) (bU Iy (bU hc (aK (av i) (aK G6 (bU (v:=cx fixed i) (by rw[Nat.zero_add,Int.toNat_natCast]; exact tx i hi) ?_))))))
   cases x9:cx fixed i with
   |true=>exact dk rfl ⟨_,rfl,_,rfl,f,k,q,by rw[w1],fq,hle,pz (fun h1=>by rw[x9]at h1; exact absurd h1 (by decide)),eb⟩
   |false=>
    refine aK rfl (aK (av i) (bU Iy ?_))
    by_cases cH:0<kk
    ·refine aK (decide_eq_true cH) ?_
     by_cases bE:(kk:Rat)<q
     ·refine aK (by show decide (sL (kk:Rat) q<0)=true; rw[xA]; exact decide_eq_true bE) ⟨_,rfl,_,rfl,(i:Int),-1,(kk:Rat),by rw[w1]; rfl,oQ k0 k1,by grind,fun i' uO h1 h2=>?_,.inr ⟨i,rfl,rfl,hi,x9,by rw[eh]; exact decide_eq_true cH,ek.symm⟩⟩
      by_cases e:i'=i
      ·rw[e,ek]; exact Rat.le_refl
      ·have:=hk i' (by omega) h1 h2
       grind
     ·exact dk (by show decide (sL (kk:Rat) q<0)=false; rw[xA]; exact decide_eq_false bE) ⟨_,rfl,_,rfl,f,k,q,by rw[w1],fq,hle,pz (fun _ _=>by rw[ek]; exact Rat.not_lt.1 bE),eb⟩
    ·exact dk (decide_eq_false cH) ⟨_,rfl,_,rfl,f,k,q,by rw[w1],fq,hle,pz (fun _ h2=>by rw[eh]at h2; exact absurd (of_decide_eq_true h2) cH),eb⟩
  ·rintro s ⟨f,k,q,rfl,fq,hle,hk,eb⟩
   exact dk (cw _) ⟨_,rfl,_,rfl,f,k,_,q,rfl,hle,hk,eb⟩
  rintro w ⟨f,k,a',q,rfl,hle,hk,eb⟩
  have key:∀ (nw:Nat→Bool),Sv (az n) (cx fixed) x q nw→(∀ i,n.ab.length≤i→nw i=false)→∀ w:Int×Int×List ah×List Bool,(∃ r' f' b,w=(((dw n fixed:Nat):Int)-((ct nw n.ab.length:Nat):Int),b,r',f')∧Jw n rates fixed nw q n.ab.length r' f') →
    w.2.2.1.length=n.ab.length∧w.2.2.2.length=n.ab.length∧(w.1=((dw n w.2.2.2:Nat):Int)∧∃ x lo P,ij n w.2.2.1 w.2.2.2 x lo P)∧dw n w.2.2.2<dw n fixed:=by
   rintro nw g Rf w ⟨r',f',b,rfl,hp⟩
   obtain⟨⟨x',P',hS⟩,QW⟩:=Lt hv h' g Rf hp
   obtain⟨i,hi,hw⟩:=g.some
   have cH:=nx (p:=nw) (n:=n.ab.length) hi hw
   refine⟨hp.rl,hp.fl,⟨?_,x',q,P',hS⟩,?_⟩
   ·show _-_=((dw n f':Nat):Int)
    omega
   ·show dw n f'<_
    omega
  have w2:∀ m:Nat,m≤8→IntKind.i64.wrap (((dw n fixed:Nat):Int)-(m:Int)-1)=((dw n fixed:Nat):Int)-((m+1:Nat):Int):=fun m hm=>by rw[bZ (by omega) (by omega)]; omega
  have dl:∀ l:List ah,l.length=n.ab.length→decide (l.length=rates.length)=true:=fun l hl=>decide_eq_true (by rw[hl,Ni])
  have df:∀ l:List Bool,l.length=n.ab.length→decide (l.length=fixed.length)=true:=fun l hl=>decide_eq_true (by rw[hl,Lm])
  rcases eb with ⟨rfl,rfl,rfl⟩|⟨i0,rfl,rfl,Rg,Vo,hh0,rfl⟩
  ·have g:=Lu hv h' u0 Jo rO hk
   have Rf:∀ i,n.ab.length≤i→(fun i=>bS n l0 i&&!cx fixed i) i=false:=fun i hi=>by
    show (bS n l0 i&&_)=false
    unfold bS
    rw[List.getElem?_eq_none hi]; rfl
   refine vC n.ab.length (fun i s=>∃ r' f',s=(((dw n fixed:Nat):Int)-((ct (fun i=>bS n l0 i&&!cx fixed i) i:Nat):Int),(i:Int),r',f')∧Jw n rates fixed (fun i=>bS n l0 i&&!cx fixed i) (uo n fixed x l0) i r' f')
    (fun w=>∃ r' f' b,w=(((dw n fixed:Nat):Int)-((ct (fun i=>bS n l0 i&&!cx fixed i) n.ab.length:Nat):Int),b,r',f')∧Jw n rates fixed (fun i=>bS n l0 i&&!cx fixed i) (uo n fixed x l0) n.ab.length r' f') ?_ ?_ ⟨rates,fixed,by simp[ct],Ni,Lm,fun j hj=>by rw[if_neg (fun q=>absurd q.1 (Nat.not_lt_zero _))],fun j hj=>by rw[if_neg (fun q=>absurd q.1 (Nat.not_lt_zero _))]⟩ ?_
   ·rintro i s hi ⟨r',f',rfl,hp⟩
    have So:ct (fun i=>bS n l0 i&&!cx fixed i) i≤i:=iz
    have w1:IntKind.i64.wrap ((i:Int)+1)=((i+1:Nat):Int):=cK (by omega)
    have Ss:decide ((i:Int).toNat<f'.length)=true:=decide_eq_true (by rw[Int.toNat_natCast,hp.fl]; exact hi)
    have WS:decide ((i:Int).toNat<r'.length)=true:=decide_eq_true (by rw[Int.toNat_natCast,hp.rl]; exact hi)
    have gf:f'[0+(i:Int).toNat]?=some (cx fixed i):=by
     rw[Nat.zero_add,Int.toNat_natCast,hp.f i hi,if_neg (fun q=>absurd q.1 (Nat.lt_irrefl _))]; exact tx i hi
    have gr:r'[0+(i:Int).toNat]?=some (r'[i]'(by rw[hp.rl]; exact hi)):=by
     rw[Nat.zero_add,Int.toNat_natCast]; exact List.getElem?_eq_getElem _
    have e0:0+(i:Int).toNat=i:=by rw[Nat.zero_add,Int.toNat_natCast]
    refine aK (ca hi) (aK (av l0) (aK (av i) (bU (get_at hi) (bU (hv.Vn hi) (aK (av i) (aK Ss (bU gf ?_)))))))
    cases x9:cx fixed i with
    |true=>
     have qu:(fun i=>bS n l0 i&&!cx fixed i) i=false:=by show (bS n l0 i&&!cx fixed i)=false; rw[x9]; simp
     refine dk rfl (aK (dl _ hp.rl) (aK (df _ hp.fl) ⟨_,rfl,_,rfl,r',f',?_,hp.pz qu⟩))
     simp only[ct,qu,w1,cond_false,Nat.add_zero]
    |false=>
     refine aK rfl ?_
     cases jb:bS n l0 i with
     |false=>
      have qu:(fun i=>bS n l0 i&&!cx fixed i) i=false:=by show (bS n l0 i&&!cx fixed i)=false; rw[jb]; rfl
      refine dk rfl (dk (decide_eq_false (by omega)) (aK (dl _ hp.rl) (aK (df _ hp.fl) ⟨_,rfl,_,rfl,r',f',?_,hp.pz qu⟩)))
      simp only[ct,qu,w1,cond_false,Nat.add_zero]
     |true=>
      have qu:(fun i=>bS n l0 i&&!cx fixed i) i=true:=by show (bS n l0 i&&!cx fixed i)=true; rw[jb,x9]; rfl
      have hq:=hp.set hi qu
      refine aK rfl (aK (av i) (aK Ss (bU gf (aK (av i) (aK WS (bU gr ?_))))))
      rw[e0,w2 _ (by omega),w1]
      refine aK (dl _ hq.rl) (aK (df _ hq.fl) ⟨_,rfl,_,rfl,_,_,?_,hq⟩)
      simp only[ct,qu,cond_true]
      rfl
   ·rintro s ⟨r',f',rfl,hp⟩
    exact dk (cw _) (aK (dl _ hp.rl) (aK (df _ hp.fl) ⟨_,rfl,_,rfl,r',f',_,rfl,hp⟩))
   ·intro w hw
    obtain⟨k1,k2,k3,k4⟩:=key _ g Rf w hw
    exact aK (er _ k1) (aK (ef _ k2) ⟨_,rfl,_,rfl,k3,k4⟩)
  ·have g:=OB hv h' Rg Vo hh0 (fun l hl hm=>Rat.le_trans hle (rO l hl hm)) hk
   have Rf:∀ i,n.ab.length≤i→(fun i=>decide (i=i0)) i=false:=fun i hi=>decide_eq_false (by omega)
   refine vC n.ab.length (fun i s=>∃ r' f',s=(((dw n fixed:Nat):Int)-((ct (fun i=>decide (i=i0)) i:Nat):Int),(i:Int),r',f')∧Jw n rates fixed (fun i=>decide (i=i0)) ((az n).k i0) i r' f')
    (fun w=>∃ r' f' b,w=(((dw n fixed:Nat):Int)-((ct (fun i=>decide (i=i0)) n.ab.length:Nat):Int),b,r',f')∧Jw n rates fixed (fun i=>decide (i=i0)) ((az n).k i0) n.ab.length r' f') ?_ ?_ ⟨rates,fixed,by simp[ct],Ni,Lm,fun j hj=>by rw[if_neg (fun q=>absurd q.1 (Nat.not_lt_zero _))],fun j hj=>by rw[if_neg (fun q=>absurd q.1 (Nat.not_lt_zero _))]⟩ ?_
   ·rintro i s hi ⟨r',f',rfl,hp⟩
    have So:ct (fun i=>decide (i=i0)) i≤i:=iz
    have w1:IntKind.i64.wrap ((i:Int)+1)=((i+1:Nat):Int):=cK (by omega)
    have Ss:decide ((i:Int).toNat<f'.length)=true:=decide_eq_true (by rw[Int.toNat_natCast,hp.fl]; exact hi)
    have WS:decide ((i:Int).toNat<r'.length)=true:=decide_eq_true (by rw[Int.toNat_natCast,hp.rl]; exact hi)
    have gf:f'[0+(i:Int).toNat]?=some (cx fixed i):=by
     rw[Nat.zero_add,Int.toNat_natCast,hp.f i hi,if_neg (fun q=>absurd q.1 (Nat.lt_irrefl _))]; exact tx i hi
    have gr:r'[0+(i:Int).toNat]?=some (r'[i]'(by rw[hp.rl]; exact hi)):=by
     rw[Nat.zero_add,Int.toNat_natCast]; exact List.getElem?_eq_getElem _
    have e0:0+(i:Int).toNat=i:=by rw[Nat.zero_add,Int.toNat_natCast]
    refine aK (ca hi) (dk rfl (aK (av i) (aK Ss (bU gf ?_))))
    cases x9:cx fixed i with
    |true=>
     have dE:i≠i0:=fun e=>by rw[e,Vo]at x9; exact absurd x9 (by decide)
     have qu:(fun i=>decide (i=i0)) i=false:=decide_eq_false dE
     refine dk rfl (aK (dl _ hp.rl) (aK (df _ hp.fl) ⟨_,rfl,_,rfl,r',f',?_,hp.pz qu⟩))
     simp only[ct,qu,w1,cond_false,Nat.add_zero]
    |false=>
     refine aK rfl (aK rfl ?_)
     by_cases dE:i=i0
     ·have qu:(fun i=>decide (i=i0)) i=true:=decide_eq_true dE
      have hq:=hp.set hi qu
      refine aK (by rw[dE]; exact beq_self_eq_true _) (aK (av i) (aK Ss (bU gf (aK (av i) (aK WS (bU gr ?_))))))
      rw[e0,w2 _ (by omega),w1]
      refine aK (dl _ hq.rl) (aK (df _ hq.fl) ⟨_,rfl,_,rfl,_,_,?_,hq⟩)
      simp only[ct,qu,cond_true]
      rfl
     ·have qu:(fun i=>decide (i=i0)) i=false:=decide_eq_false dE
      refine dk (by rw[beq_eq_false_iff_ne]; omega) (aK (dl _ hp.rl) (aK (df _ hp.fl) ⟨_,rfl,_,rfl,r',f',?_,hp.pz qu⟩))
      simp only[ct,qu,w1,cond_false,Nat.add_zero]
   ·rintro s ⟨r',f',rfl,hp⟩
    exact dk (cw _) (aK (dl _ hp.rl) (aK (df _ hp.fl) ⟨_,rfl,_,rfl,r',f',_,rfl,hp⟩))
   ·intro w hw
    obtain⟨k1,k2,k3,k4⟩:=key _ g Rf w hw
    exact aK (er _ k1) (aK (ef _ k2) ⟨_,rfl,_,rfl,k3,k4⟩)
 ·rw[eN]
  have Lv:(fun i:Nat=>(List.replicate n.ab.length false)[i]?.getD false)=fun _=>false:=by
   funext i
   rw[List.getElem?_replicate]
   split<;>rfl
  refine⟨?_,fun _=>0,0,1,by simp,by simp,fun i hi hf=>?_,?_⟩
  ·show (n.ab.length:Int)=((ct (fun i=>!(List.replicate n.ab.length false)[i]?.getD false) n.ab.length:Nat):Int)
   have:(fun i:Nat=>!(List.replicate n.ab.length false)[i]?.getD false)=fun _=>true:=by
    funext i
    rw[congrFun Lv i]; rfl
   rw[this]
   have:∀ m,ct (fun _=>true) m=m:=fun m=>by
    induction m with
    |zero=>rfl
    |succ m ih=>simp only[ct,ih,cond_true]
   rw[this]
  ·rw[List.getElem?_replicate,if_pos hi]at hf; exact absurd (Option.some.inj hf) (by decide)
  ·show Mm.Inv (az n) (fun i:Nat=>(List.replicate n.ab.length false)[i]?.getD false) _ _ _
   rw[Lv]
   exact yy hF (fun l hl=>by rw[(hv.cap hl).1]; exact_mod_cast (hv.cap hl).2.1) (fun i hi hh=>by obtain⟨k,_,e,_,k0,_⟩:=hv.kf hi; rw[e]; exact_mod_cast k0) _
 ·rintro⟨left,rates,fixed⟩ ⟨hz,x,lo,P,h⟩
  have h':ij n rates fixed x lo P:=h
  have Qz:dw n fixed=0:=hz
  have aX:∀ i,i<(az n).F→(fun i:Nat=>fixed[i]?.getD false) i=true:=fun i hi=>by
   cases hc:fixed[i]?.getD false with
   |true=>exact hc
   |false=>
    have:=nx (p:=fun i=>!cx fixed i) (n:=n.ab.length) hi (by show (!cx fixed i)=true; rw[show cx fixed i=false from hc]; rfl)
    unfold dw at Qz
    omega
  obtain⟨hf,hd⟩:=Dx h'.inv aX
  refine⟨_,rfl,rfl,x,⟨h'.nr,fun i hi=>h'.r i hi ?_,fun i hi=>?_⟩,hf⟩
  ·have h1:fixed[i]?.getD false=true:=aX i hi
   have h2:i<fixed.length:=by rw[h'.nf]; exact hi
   rw[List.getElem?_eq_getElem h2]at h1 ⊢
   exact congrArg some h1
  ·obtain⟨xs,y,hy⟩:=sP hb
   rw[qk hf hy.fair i hi]
   exact(hy.fit i hi).1
end Go.Proofs.Ytedjbjphpnkpoaa
end
section
/- Plain facts of this seat: the law MaxminMatchesReference. -/
set_option maxRecDepth 100000
set_option maxHeartbeats 1000000
namespace Go.Proofs.Ytedjbjphpnkpoaa
open Go.PI Go.Pl Go.Mm
theorem zR(n:bt)(x:List ah)(hw:n.ab.length≤2^63-1):aa.cI n x=some true:=by
 unfold aa.cI
 obtain⟨b2,hf,hlen⟩:=Ty n hw
 refine bB (v:=true) rfl (bB hf ?_)
 cases b2 with
 |false=>rfl
 |true=>
 obtain⟨_,_,_,h4⟩:=hlen rfl
 have tx:∀ l∈n.ab,l.length≤2^62:=fun l hl=>by have:=h4 l hl; omega
 refine bF rfl ?_
 by_cases h50:50<x.length
 ·exact bT (decide_eq_true (by omega)) rfl
 refine bF (decide_eq_false (by omega)) ?_
 have Zc:∀ b:Bool,(aa.fC n).bind (fun PR=>(aa.c6 n).bind fun Rh=>some (PR==Rh))=some true:=fun _=>bB (uh tx) (bB (qn tx) (by simp))
 cases hb:vN n with
 |false=>
  have e1:aa.bX n=some ([],1):=by
   unfold aa.bX
   exact bB (uh tx) (bT (by rw[hb]; rfl) rfl)
  have e2:aa.jl n=some ([],1):=by
   unfold aa.jl
   exact bB (qn tx) (bT (by rw[hb]; rfl) rfl)
  have e3:aa.dN n x=some false:=by
   unfold aa.dN
   exact bB (uh tx) (bT (by rw[hb]; rfl) rfl)
  have e4:aa.jk n x=some false:=by
   unfold aa.jk
   exact bB (qn tx) (bT (by rw[hb]; rfl) rfl)
  exact bB e1 (bB e2 (bT rfl (bB (AN (by simp)) (bT rfl (bT rfl (bB e3 (bB e4 (bT rfl (Zc true)))))))))
 |true=>
  obtain⟨xs,q,hx⟩:=sP hb
  obtain⟨⟨ys,e⟩,hr,zO,WT⟩:=IB hb
  obtain rfl:e=0:=zO
  obtain rfl:ys=xs:=(ok_eq hx ys).1 WT
  obtain⟨b7,hc7,hi7⟩:=Lp hb (x:=x) (by omega)
  obtain⟨b8,hc8,hi8⟩:=IA hb (x:=x) (by omega)
  have hF:=(qo hb).nf
  have Pz:=hx.len
  have h78:(b7==b8)=true:=by
   rw[beq_iff_eq,Bool.eq_iff_iff,hi7,hi8]
  exact bB hx.e (bB hr (bT rfl (bB (AN (by omega)) (bT rfl (bT rfl (bB hc7 (bB hc8 (bT h78 (Zc true)))))))))
end Go.Proofs.Ytedjbjphpnkpoaa
end
section
/- The law MaxminMatchesReference: its row. -/
namespace Go.Proofs.Ytedjbjphpnkpoaa.jR
open Go.PI Go.ChangeShapes Go.WideShapes Go.ChangeAt Go.RowKit
theorem own:ownKnob Try.prog.godebug=none:=by kernel_rfl
theorem laidOut:laidOutB Try.prog=true:=by kernel_rfl
theorem okWide_struct{P:Program}{w:World}{r:Reach}{base:Nat}{t:TypeId}{v:Value}{fs:Array Field}(ht:P.underlying t=some (.struct fs))(h:Value.okWide P w r base t v):∃ cs,v=.agg cs:=by
 unfold Value.okWide at h
 rw[ht]at h
 obtain⟨cs,h,_⟩:=h
 exact⟨cs,h⟩
theorem O5{E:Env}{l:List AV}{cs:Array Value}(h:aI E false l (Value.agg cs).cells.toList):aj E false (.agg l) (.agg cs):=by
 simp only[aj]
 exact⟨cs.toList,by simp,by simpa[Value.cells] using h⟩
theorem Jb{E:Env}{l:List AV}{a:Option Addr}{len cap:Nat}(h:aI E false l (Value.slice a len cap).cells.toList){x:AV}(hl:l=[x]):aj E false x (.slice a len cap):=by
 subst hl
 have h2:aj E false x (Value.slice a len cap)∧iX (Value.slice a len cap)=true:=by simpa[Value.cells,aI] using h
 exact h2.1
set_option maxRecDepth 100000 in
theorem walk(W:World)(Up:Array Value)(Uq:Option Addr)(Mq Mr:Nat){l0:List AV}{l1:List AV}(e0:aI (Env.all W) false l0 (Value.agg Up:Value).cells.toList)(e1:aI (Env.all W) false l1 (Value.slice Uq Mq Mr:Value).cells.toList){n0:Nat}(s0:Shape Try.prog n0 25 l0){n1:Nat}(s1:Shape Try.prog n1 26 l1):Calls Try.prog 3 #[.agg Up,.slice Uq Mq Mr] W fun e w'=>e=.returned (.bool true)∧Below W.heap.size W w':=by
 obtain⟨x0,w0,r0⟩:=XR (fE (show Try.prog.underlying 25=Try.prog.underlying 24 by kernel_rfl) s0)
 obtain⟨x1,w1,b1,rZ,r1⟩:=XS s1
 have hs:qF C T 3 ⟨[25,26],[4],fun x=>Go.aa.cI x.1 x.2⟩:=O4 s56 rfl
 refine Mp Cok hs rfl (x:=(x0,x1)) (y:=true) (zR x0 x1 (Nat.le_trans w0.2.1.1 (by decide))) ?_ («as»:=[.agg l0,b1]) ⟨r0,r1,trivial⟩ (show nq (Env.all W) from fun b c h=>by cases h) (vs:=[.agg Up,.slice Uq Mq Mr]) ?_
 ·intro l hl
  match l,hl with
  |[a],hl=>have:a=.lit (.bool true):=hl.1; rw[this]
  |[],hl=>exact False.elim hl
  |_::_::_,hl=>exact False.elim hl.2
 ·simp only[an]
  exact⟨O5 e0,Jb e1 rZ,trivial⟩
set_option maxRecDepth 100000 in
theorem lifted(os:Os)(started:os.Started)(H:Type)(enc:TypeId×Value→H):
  ReturnsInHanded {} Try.checked os 3 .any (Rows.maxminMatchesReferenceSpec.pre6 enc Try.prog Try.f3 Rows.maxminMatchesReferenceRow.domain false) (Rows.maxminMatchesReferenceSpec.post enc Try.prog Try.f3 false true false false):=by
 refine returnsInHanded_of_change_sized (C:=Try.checked) own started (by kernel_rfl) Try.func3
  (ChangeSpec.witness6 (enc:=enc) (C:=Try.checked) false ⟨#[],#[.agg #[.slice none 0 0,.slice none 0 0,.slice none 0 0],.slice none 0 0],[]⟩ 8 (by kernel_rfl) (by kernel_rfl) (by kernel_rfl) (by kernel_rfl)) ?_
 intro W base args ds gs before Qa hW JQ XT _
 have R1:∀ (j:Nat) t v,Try.f3.params[j]?=some t→args[j]?=some v→Value.okWide Try.prog W .any base t v:=Qa
 have hW':=hW
 obtain⟨p,q,ZI,hV,rfl,Nv,AB⟩:=hW
 have hA:DataW.TrodAll enc Try.prog W 0 (fun _=>true) true Try.f3.params.toList args.toList ds p:=ZI
 rw[Try.params3]at hA R1
 obtain⟨v0,vs0,d0,ds0,p0,q0,jC,rfl,rfl,h0,r0⟩:=trodAll_cons hA
 obtain⟨v1,vs1,d1,ds1,p1,q1,rfl,rfl,rfl,h1,r1⟩:=trodAll_cons r0
 obtain⟨rfl,rfl,rfl⟩:=trodAll_nil r1
 obtain rfl:args=#[v0,v1]:=by cases args; simp_all
 obtain⟨rfl,rfl⟩:=trodVars_none hV
 obtain⟨Up,rfl⟩:=okWide_struct Try.underlying25 (R1 0 25 v0 rfl rfl)
 obtain⟨Uq,Mq,Mr,rfl⟩:=Go.WideShapes.okWide_slice Try.underlying26 (R1 1 26 v1 rfl rfl)
 have k0:=h0
 have lt0:∀ x∈p0,x.block<W.heap.size:=by obtain⟨m,hm⟩:=k0; exact DataW.trod_lt m _ _ _ hm
 have k1:=h1
 have lt1:∀ x∈p1,x.block<W.heap.size:=by obtain⟨m,hm⟩:=k1; exact DataW.trod_lt m _ _ _ hm
 obtain⟨f0,Vo⟩:=h0
 obtain⟨l0,e0,s0⟩:=GH f0 10 25 _ _ (by kernel_rfl) Vo
 obtain⟨f1,rP⟩:=h1
 obtain⟨l1,e1,s1⟩:=GH f1 10 26 _ _ (by kernel_rfl) rP
 clear ZI Qa XT
 refine(walk W Up Uq Mq Mr e0 e1 s0 s1 ).mono fun e W' ⟨he,XU⟩=>?_
 subst he
 exact⟨_,rfl,_,_,_,[],_,[],hW',trodAll_mk1 (shut_bool Try.underlying4 _),(trodAll_cons_mk (Below.trod laidOut (by kernel_rfl) (of_decide_eq_true (by kernel_rfl)) k0 XU lt0) (trodAll_cons_mk (Below.trod laidOut (by kernel_rfl) (of_decide_eq_true (by kernel_rfl)) k1 XU lt1) trodAll_mk0)),rfl,XU.frame _,fun h=>by cases h⟩
theorem il:Rows.maxminMatchesReferenceRow.holds Try.pinned (OpenSpec.ofChange Rows.maxminMatchesReferenceSpec):=
 OpenClaim.holds_of_wide 3 Try.f3 rfl rfl rfl rfl rfl rfl rfl ⟨rfl,rfl,rfl,rfl,rfl⟩ rfl rfl rfl rfl rfl (by kernel_rfl) Try.func3 (by kernel_rfl)
  (of_decide_eq_true (by kernel_rfl)) (by unfold Func.isWrapper; first|(rw[if_pos (by decide +kernel)]; kernel_rfl)|(rw[if_neg (by decide +kernel)]; exact⟨rfl,rfl⟩))
  (fun os started H enc _=>lifted os started H enc)
theorem proved:Rows.MaxminMatchesReferenceSaid:=il
end Go.Proofs.Ytedjbjphpnkpoaa.jR
namespace Go.Proofs.Ytedjbjphpnkpoaa
theorem maxminMatchesReference_holds:Rows.MaxminMatchesReferenceSaid:=jR.proved
end Go.Proofs.Ytedjbjphpnkpoaa
end
