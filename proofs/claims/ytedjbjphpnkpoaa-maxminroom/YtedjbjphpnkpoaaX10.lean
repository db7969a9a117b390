/- The law MaxminRoom returns true for every input, and each argument reads as it read before; no conditions. This file: the row, last of the parts. -/
import Derived.IntWalk
import Derived.KernelRfl
import Derived.Test.YtedjbjphpnkpoaaRows
import Derived.WalkKit
import Derived.ProofKit
import Derived.OpenShut
import Derived.ShutString
import Derived.ChangeOld
import Derived.Below
import Derived.SizedLaws
import Derived.Test.YtedjbjphpnkpoaaX9
set_option linter.unusedVariables false
set_option linter.unusedSimpArgs false
section
/- Max-min fair rates, without a program: what makes rates fair, and that there is one choice of them. -/
namespace Go.Mm
def sm(p:Nat→Bool)(x:Nat→Rat):Nat→Rat
 |0=>0
 |n+1=>sm p x n+bif p n then x n else 0
structure wv where
 F:Nat
 L:Nat
 on:Nat→Nat→Bool
 c:Nat→Rat
 has:Nat→Bool
 k:Nat→Rat
structure M6(N:wv)(x:Nat→Rat):Prop where
 nn:∀ i,i<N.F→0≤x i
 lY:∀ i,i<N.F→N.has i=true→x i≤N.k i
 cap:∀ l,l<N.L→sm (N.on l) x N.F≤N.c l
def Vh(N:wv)(x:Nat→Rat)(i:Nat):Prop:=
 (N.has i=true∧x i=N.k i)∨∃ l,l<N.L∧N.on l i=true∧sm (N.on l) x N.F=N.c l∧∀ j,j<N.F→N.on l j=true→x j≤x i
structure Fair(N:wv)(x:Nat→Rat):Prop where
 A3:M6 N x
 HA:∀ i,i<N.F→Vh N x i
theorem Ox{p:Nat→Bool}{x y:Nat→Rat}:∀ {n:Nat},(∀ j,j<n→p j=true→x j≤y j)→sm p x n≤sm p y n
 |0,_=>Rat.le_refl
 |n+1,h=>by
  have h1:=Ox (n:=n) fun j hj=>h j (by omega)
  have h2:=h n (by omega)
  simp only[sm]
  cases hp:p n with
  |false=>simp only[cond_false]; grind
  |true=>simp only[cond_true]; have:=h2 hp; grind
theorem Oy{p:Nat→Bool}{x y:Nat→Rat}:∀ {n i:Nat},i<n→p i=true→x i<y i→(∀ j,j<n→p j=true→x j≤y j)→sm p x n<sm p y n
 |0,i,h,_,_,_=>by omega
 |n+1,i,hi,hp,hx,h=>by
  simp only[sm]
  by_cases e:i=n
  ·subst e
   have h1:=Ox (n:=i) fun j hj=>h j (by omega)
   rw[hp]; simp only[cond_true]; grind
  ·have h1:=Oy (n:=n) (i:=i) (by omega) hp hx fun j hj=>h j (by omega)
   have h2:=h n (by omega)
   cases hp:p n with
   |false=>simp only[cond_false]; grind
   |true=>simp only[cond_true]; have:=h2 hp; grind
theorem pN{p q:Nat→Bool}{x y:Nat→Rat}:∀ {n:Nat},(∀ j,j<n→p j=q j)→(∀ j,j<n→p j=true→x j=y j)→sm p x n=sm q y n
 |0,_,_=>rfl
 |n+1,h,g=>by
  simp only[sm]
  rw[pN (n:=n) (fun j hj=>h j (by omega)) fun j hj=>g j (by omega),←h n (by omega)]
  cases hp:p n with
  |false=>rfl
  |true=>rw[g n (by omega) hp]
theorem CF{p q:Nat→Bool}{x:Nat→Rat}:∀ {n:Nat},sm p x n=sm (fun i=>p i&&q i) x n+sm (fun i=>p i&&!q i) x n
 |0=>by simp only[sm]; grind
 |n+1=>by
  simp only[sm]
  rw[CF (q:=q) (n:=n)]
  cases p n<;>cases q n<;>simp only[Bool.and_true,Bool.and_false,Bool.not_true,Bool.not_false,Bool.true_and,Bool.false_and,cond_true,cond_false]<;>grind
theorem A4{N:wv}{x y:Nat→Rat}(h:Fair N x)(hy:M6 N y){i:Nat}(hi:i<N.F)(bS:x i<y i):∃ j,j<N.F∧x j≤x i∧y j<x j:=by
 rcases h.HA i hi with ⟨h1,h2⟩|⟨l,hl,oJ,Zs,AB⟩
 ·have:=hy.lY i hi h1; exfalso; grind
 ·apply Classical.byContradiction
  intro hc
  have bg:∀ j,j<N.F→N.on l j=true→x j≤y j:=fun j hj ho=>by
   apply Classical.byContradiction
   intro hn
   exact hc ⟨j,hj,AB j hj ho,by grind⟩
  have h1:=Oy hi oJ bS bg
  have h2:=hy.cap l hl
  grind
theorem Kb(P:Nat→Prop)(f:Nat→Rat):∀ n,(∃ i,i<n∧P i)→∃ i,i<n∧P i∧∀ j,j<n→P j→f i≤f j
 |0,⟨i,hi,_⟩=>by omega
 |n+1,⟨i,hi,hp⟩=>by
  by_cases hex:∃ i,i<n∧P i
  ·obtain⟨m,hm,Zt,nt⟩:=Kb P f n hex
   by_cases hn:P n∧f n<f m
   ·refine⟨n,by omega,hn.1,fun j hj IA=>?_⟩
    by_cases e:j=n
    ·subst e; exact Rat.le_refl
    ·have:=nt j (by omega) IA; have:=hn.2; grind
   ·refine⟨m,by omega,Zt,fun j hj IA=>?_⟩
    by_cases e:j=n
    ·subst e; have:¬f j<f m:=fun h=>hn ⟨IA,h⟩; grind
    ·exact nt j (by omega) IA
  ·have:i=n:=by
    apply Classical.byContradiction
    intro e
    exact hex ⟨i,by omega,hp⟩
   subst this
   refine⟨i,by omega,hp,fun j hj IA=>?_⟩
   by_cases e:j=i
   ·subst e; exact Rat.le_refl
   ·exact absurd ⟨j,by omega,IA⟩ hex
theorem CG{N:wv}{x y:Nat→Rat}(h:Fair N x)(h':Fair N y):∀ i,i<N.F→x i=y i:=by
 apply Classical.byContradiction
 intro dK
 have hex:∃ i,i<N.F∧x i≠y i:=by
  apply Classical.byContradiction
  intro hc
  exact dK fun i hi=>Classical.byContradiction fun e=>hc ⟨i,hi,e⟩
 obtain⟨i,hi,hd,nt⟩:=Kb (fun i=>x i≠y i) (fun i=>if x i≤y i then x i else y i) N.F hex
 by_cases hle:x i≤y i
 ·obtain⟨j,hj,h1,h2⟩:=A4 h h'.A3 hi (by grind)
  have:=nt j hj (by grind)
  grind
 ·obtain⟨j,hj,h1,h2⟩:=A4 h' h.A3 hi (by grind)
  have:=nt j hj (by grind)
  grind
theorem EW{N M:wv}{x y:Nat→Rat}(hF:M.F=N.F)(h:Fair N x)(h':Fair M y)(hx:M6 M x){a b:Rat}(ha:∀ i,i<N.F→a≤x i)(hb:∃ i,i<N.F∧y i=b):a≤b:=by
 obtain⟨i,hi,rfl⟩:=hb
 apply Classical.byContradiction
 intro hc
 have h1:=ha i hi
 obtain⟨j,hj,h2,h3⟩:=A4 h' hx (i:=i) (by omega) (by grind)
 have:=ha j (by omega)
 grind
/-! ### Filling -/
def ct(p:Nat→Bool):Nat→Nat
 |0=>0
 |n+1=>ct p n+bif p n then 1 else 0
theorem nE{p q:Nat→Bool}:∀ {n:Nat},(∀ j,j<n→p j=q j)→ct p n=ct q n
 |0,_=>rfl
 |n+1,h=>by simp only[ct]; rw[nE (n:=n) fun j hj=>h j (by omega),h n (by omega)]
theorem Oz{p q:Nat→Bool}:∀ {n:Nat},(∀ j,j<n→p j=true→q j=true)→ct p n≤ct q n
 |0,_=>Nat.le_refl _
 |n+1,h=>by
  have h1:=Oz (n:=n) fun j hj=>h j (by omega)
  have h2:=h n (by omega)
  simp only[ct]
  cases hp:p n with
  |false=>simp only[cond_false]; omega
  |true=>rw[h2 hp]; simp only[cond_true]; omega
theorem rV{p:Nat→Bool}:∀ {n i:Nat},i<n→p i=true→0<ct p n
 |0,i,h,_=>by omega
 |n+1,i,h,hp=>by
  simp only[ct]
  by_cases e:i=n
  ·subst e; rw[hp]; simp only[cond_true]; omega
  ·have:=rV (n:=n) (i:=i) (by omega) hp; omega
theorem Kc{p:Nat→Bool}:∀ {n:Nat},0<ct p n→∃ i,i<n∧p i=true
 |0,h=>by simp[ct]at h
 |n+1,h=>by
  simp only[ct]at h
  cases hp:p n with
  |true=>exact⟨n,by omega,hp⟩
  |false=>
   rw[hp]at h
   obtain⟨i,hi,h1⟩:=Kc (n:=n) (by simpa using h)
   exact⟨i,by omega,h1⟩
theorem tu{p q:Nat→Bool}:∀ {n:Nat},ct p n=ct (fun i=>p i&&q i) n+ct (fun i=>p i&&!q i) n
 |0=>rfl
 |n+1=>by
  simp only[ct]
  rw[tu (q:=q) (n:=n)]
  cases p n<;>cases q n<;>simp only[Bool.and_true,Bool.and_false,Bool.not_true,Bool.not_false,Bool.true_and,Bool.false_and,cond_true,cond_false]<;>omega
theorem pO{p:Nat→Bool}:∀ {n:Nat},ct p n≤n
 |0=>Nat.le_refl _
 |n+1=>by
  have:=pO (p:=p) (n:=n)
  simp only[ct]
  cases p n<;>simp only[cond_true,cond_false]<;>omega
theorem CH{p:Nat→Bool}{v:Rat}:∀ {n:Nat},sm p (fun _=>v) n=v*(ct p n:Nat)
 |0=>by simp[sm,ct]
 |n+1=>by
  simp only[sm,ct]
  rw[CH (n:=n)]
  cases p n
  ·simp only[cond_false,Nat.add_zero]; grind
  ·simp only[cond_true]
   rw[Rat.natCast_add]
   grind
end Go.Mm
namespace Go.Mm
def Dv(P:Nat)(q:Rat):Prop:=∃ n:Int,q*(P:Rat)=n
theorem Dv.mul{P m:Nat}{q:Rat}(h:Dv P q):Dv (P*m) q:=by
 obtain⟨n,hn⟩:=h
 refine⟨n*m,?_⟩
 rw[Rat.natCast_mul,Rat.intCast_mul,Rat.intCast_natCast,←hn]
 grind
theorem Dv.int{P:Nat}(n:Int):Dv P n:=⟨n*P,by rw[Rat.intCast_mul,Rat.intCast_natCast]⟩
theorem Dv.zero{P:Nat}:Dv P 0:=⟨0,by simp⟩
theorem Dv.add{P:Nat}{p q:Rat}(h:Dv P p)(h':Dv P q):Dv P (p+q):=by
 obtain⟨n,hn⟩:=h
 obtain⟨m,hm⟩:=h'
 exact⟨n+m,by rw[Rat.intCast_add,←hn,←hm]; grind⟩
theorem Dv.sub{P:Nat}{p q:Rat}(h:Dv P p)(h':Dv P q):Dv P (p-q):=by
 obtain⟨n,hn⟩:=h
 obtain⟨m,hm⟩:=h'
 exact⟨n-m,by rw[Rat.intCast_sub,←hn,←hm]; grind⟩
theorem Dv.sm{P:Nat}{p:Nat→Bool}{x:Nat→Rat}:∀ {n:Nat},(∀ j,j<n→p j=true→Dv P (x j))→Dv P (sm p x n)
 |0,_=>Dv.zero
 |n+1,h=>by
  have h1:=Dv.sm (n:=n) fun j hj=>h j (by omega)
  simp only[Go.Mm.sm]
  cases hp:p n with
  |false=>simp only[cond_false]; exact h1.add .zero
  |true=>exact h1.add (h n (by omega) hp)
theorem Dv.part{P m:Nat}{q r:Rat}(h:Dv P q)(hm:r*(m:Rat)=q):Dv (P*m) r:=by
 obtain⟨n,hn⟩:=h
 refine⟨n,?_⟩
 rw[Rat.natCast_mul,←hn,←hm]
 grind
def mp:Nat→Nat
 |0=>1|1=>1|2=>2|3=>3|4=>4|5=>6|6=>9|7=>12|_=>18
theorem Gn{m u u':Nat}(hm:1≤m)(hu:u≤8)(h:m+u'≤u):m*mp u'≤mp u:=by
 have:∀ u,u≤8→∀ m,m≤8→∀ u',u'≤8→1≤m→m+u'≤u→m*mp u'≤mp u:=by decide
 exact this u hu m (by omega) u' (by omega) hm h
theorem Kd(u:Nat):1≤mp u:=by unfold mp; split<;>omega
structure Inv(N:wv)(fx:Nat→Bool)(x:Nat→Rat)(lo:Rat)(P:Nat):Prop where
 l0:0≤lo
 nn:∀ i,i<N.F→fx i=true→0≤x i∧x i≤lo
 lY:∀ i,i<N.F→fx i=true→N.has i=true→x i≤N.k i
 cap:∀ l,l<N.L→sm (fun i=>N.on l i&&fx i) x N.F≤N.c l
 XH:∀ l,l<N.L→lo*(ct (fun i=>N.on l i&&!fx i) N.F:Nat)≤N.c l-sm (fun i=>N.on l i&&fx i) x N.F
 wait:∀ i,i<N.F→fx i=false→N.has i=true→lo≤N.k i
 HA:∀ i,i<N.F→fx i=true→(N.has i=true∧x i=N.k i) ∨
  ∃ l,l<N.L∧N.on l i=true∧sm (fun i=>N.on l i&&fx i) x N.F=N.c l∧ct (fun i=>N.on l i&&!fx i) N.F=0∧∀ j,j<N.F→N.on l j=true→x j≤x i
 P1:1≤P
 PF:P*mp (ct (fun i=>!fx i) N.F)≤18
 dv:∀ i,i<N.F→fx i=true→Dv P (x i)
structure XI(N:wv)(fx:Nat→Bool)(x:Nat→Rat)(low:Rat)(nw:Nat→Bool):Prop where
 sub:∀ i,i<N.F→nw i=true→fx i=false
 R1:∀ l,l<N.L→low*(ct (fun i=>N.on l i&&!fx i) N.F:Nat)≤N.c l-sm (fun i=>N.on l i&&fx i) x N.F
 lY:∀ i,i<N.F→fx i=false→N.has i=true→low≤N.k i
 Vi:∀ i,i<N.F→nw i=true→(N.has i=true∧low=N.k i) ∨
  ∃ l,l<N.L∧N.on l i=true∧low*(ct (fun i=>N.on l i&&!fx i) N.F:Nat)=N.c l-sm (fun i=>N.on l i&&fx i) x N.F∧∀ j,j<N.F→N.on l j=true→fx j=false→nw j=true
 some:∃ i,i<N.F∧nw i=true
theorem EX{N:wv}(hF:N.F≤8)(hc:∀ l,l<N.L→0≤N.c l)(hk:∀ i,i<N.F→N.has i=true→0≤N.k i)(x:Nat→Rat):Inv N (fun _=>false) x 0 1 where
 l0:=Rat.le_refl
 nn:=by simp
 lY:=by simp
 cap l hl:=by
  rw[pN (q:=fun _=>false) (y:=x) (by simp) (by simp)]
  have h0:∀ n,sm (fun _=>false) x n=0:=by
   intro n; induction n with
   |zero=>rfl
   |succ n ih=>simp only[sm,ih,cond_false]; grind
  rw[h0]; exact hc l hl
 XH l hl:=by
  have h0:∀ n,sm (fun i=>N.on l i&&false) x n=0:=by
   intro n; induction n with
   |zero=>rfl
   |succ n ih=>simp only[sm,ih,Bool.and_false,cond_false]; grind
  rw[h0]
  have:=hc l hl
  grind
 wait i hi _ hh:=hk i hi hh
 HA:=by simp
 P1:=Nat.le_refl _
 PF:=by
  have:=pO (p:=fun _=>!false) (n:=N.F)
  have h8:∀ u,u≤8→1*mp u≤18:=by decide
  exact h8 _ (by omega)
 dv:=by simp
theorem HB{N:wv}(hF:N.F≤8)(Vj:∀ l,l<N.L→Dv 1 (N.c l))(GZ:∀ i,i<N.F→Dv 1 (N.k i)){fx:Nat→Bool}{x:Nat→Rat}{lo:Rat}{P:Nat}(h:Inv N fx x lo P){low:Rat}{nw:Nat→Bool}(g:XI N fx x low nw):
  ∃ P',Inv N (fun i=>fx i||nw i) (fun i=>if nw i=true then low else x i) low P':=by
 have hS:∀ l,sm (fun i=>N.on l i&&(fx i||nw i)) (fun i=>if nw i=true then low else x i) N.F=sm (fun i=>N.on l i&&fx i) x N.F+low*(ct (fun i=>N.on l i&&nw i) N.F:Nat):=by
  intro l
  rw[CF (q:=nw)]
  rw[pN (p:=fun i=>(N.on l i&&(fx i||nw i))&&nw i) (q:=fun i=>N.on l i&&nw i) (y:=fun _=>low) (fun j hj=>by cases N.on l j<;>cases fx j<;>cases nw j<;>rfl) (fun j hj hp=>by
   have:nw j=true:=by simp only[Bool.and_eq_true]at hp; exact hp.2
   simp[this]),CH]
  rw[pN (p:=fun i=>(N.on l i&&(fx i||nw i))&&!nw i) (q:=fun i=>N.on l i&&fx i) (y:=x) (fun j hj=>by
   have:=g.sub j hj
   cases h1:N.on l j<;>cases h2:fx j<;>cases h3:nw j<;>simp_all) (fun j hj hp=>by
   have:nw j=false:=by simp only[Bool.and_eq_true,Bool.not_eq_true']at hp; exact hp.2
   simp[this])]
  grind
 have hM:∀ l,ct (fun i=>N.on l i&&!fx i) N.F=ct (fun i=>N.on l i&&nw i) N.F+ct (fun i=>N.on l i&&!(fx i||nw i)) N.F:=by
  intro l
  rw[tu (q:=nw)]
  congr 1
  ·exact nE fun j hj=>by
    have:=g.sub j hj
    cases h1:N.on l j<;>cases h2:fx j<;>cases h3:nw j<;>simp_all
  ·exact nE fun j hj=>by cases N.on l j<;>cases fx j<;>cases nw j<;>rfl
 have hU:ct (fun i=>!fx i) N.F=ct nw N.F+ct (fun i=>!(fx i||nw i)) N.F:=by
  rw[tu (q:=nw)]
  congr 1
  ·exact nE fun j hj=>by
    have:=g.sub j hj
    cases h2:fx j<;>cases h3:nw j<;>simp_all
  ·exact nE fun j hj=>by cases fx j<;>cases nw j<;>rfl
 have Vk:∀ l,((ct (fun i=>N.on l i&&!fx i) N.F:Nat):Rat)=(ct (fun i=>N.on l i&&nw i) N.F:Nat)+(ct (fun i=>N.on l i&&!(fx i||nw i)) N.F:Nat):=fun l=>by rw[hM l,Rat.natCast_add]
 have Vl:lo≤low:=by
  obtain⟨i,hi,hn⟩:=g.some
  rcases g.Vi i hi hn with ⟨h1,h2⟩|⟨l,hl,oJ,he,_⟩
  ·rw[h2]; exact h.wait i hi (g.sub i hi hn) h1
  ·have h1:=h.XH l hl
   have hp:0<ct (fun i=>N.on l i&&!fx i) N.F:=rV hi (by simp[oJ,g.sub i hi hn])
   have Zu:(0:Rat)<(ct (fun i=>N.on l i&&!fx i) N.F:Nat):=by exact_mod_cast hp
   rw[←he]at h1
   exact Rat.le_of_mul_le_mul_right h1 Zu
 have wm:0≤low:=Rat.le_trans h.l0 Vl
 have XJ:∀ j,j<N.F→fx j=true→(if nw j=true then low else x j)=x j:=fun j hj hf=>by
  have:nw j=false:=by cases hn:nw j with|false=>rfl|true=>rw[g.sub j hj hn]at hf; cases hf
  simp[this]
 have hP:∃ P',1≤P'∧P'*mp (ct (fun i=>!(fx i||nw i)) N.F)≤18∧Dv P' low∧∃ m,P'=P*m:=by
  obtain⟨i,hi,hn⟩:=g.some
  have XK:ct (fun i=>!fx i) N.F≤8:=by have:=pO (p:=fun i=>!fx i) (n:=N.F); omega
  have U3:=rV hi hn
  have h18:=h.PF
  rcases g.Vi i hi hn with ⟨h1,h2⟩|⟨l,hl,oJ,he,bg⟩
  ·refine⟨P,h.P1,?_,?_,1,by simp⟩
   ·have:=Gn (m:=ct nw N.F) (u:=ct (fun i=>!fx i) N.F) (u':=ct (fun i=>!(fx i||nw i)) N.F) U3 XK (by omega)
    have h3:mp (ct (fun i=>!(fx i||nw i)) N.F)≤mp (ct (fun i=>!fx i) N.F):=Nat.le_trans (Nat.le_mul_of_pos_left _ U3) this
    exact Nat.le_trans (Nat.mul_le_mul_left _ h3) h18
   ·rw[h2]
    have:=(GZ i hi).mul (m:=P)
    rwa [Nat.one_mul]at this
  ·have R2:0<ct (fun i=>N.on l i&&!fx i) N.F:=rV hi (by simp[oJ,g.sub i hi hn])
   refine⟨P*ct (fun i=>N.on l i&&!fx i) N.F,Nat.mul_pos h.P1 R2,?_,?_,_,rfl⟩
   ·have hle:ct (fun i=>N.on l i&&!fx i) N.F≤ct nw N.F:=Oz fun j hj hp=>by
     simp only[Bool.and_eq_true,Bool.not_eq_true']at hp
     exact bg j hj hp.1 hp.2
    have:=Gn (m:=ct (fun i=>N.on l i&&!fx i) N.F) (u:=ct (fun i=>!fx i) N.F) (u':=ct (fun i=>!(fx i||nw i)) N.F) R2 XK (by omega)
    rw[Nat.mul_assoc]
    exact Nat.le_trans (Nat.mul_le_mul_left _ this) h18
   ·refine Dv.part ?_ he
    have hc:=(Vj l hl).mul (m:=P)
    rw[Nat.one_mul]at hc
    exact hc.sub (Dv.sm fun j hj hp=>h.dv j hj (by simp only[Bool.and_eq_true]at hp; exact hp.2))
 obtain⟨P',PG,Vm,Zv,m,rfl⟩:=hP
 refine⟨_,wm,?_,?_,?_,?_,?_,?_,PG,Vm,?_⟩
 ·intro i hi hf
  by_cases hn:nw i=true
  ·simp only[hn,if_true]; exact⟨wm,Rat.le_refl⟩
  ·simp only[hn,if_false,Bool.or_false,Bool.false_eq_true]at hf ⊢
   have:=h.nn i hi hf
   exact⟨this.1,Rat.le_trans this.2 Vl⟩
 ·intro i hi hf hh
  by_cases hn:nw i=true
  ·simp only[hn,if_true]; exact g.lY i hi (g.sub i hi hn) hh
  ·simp only[hn,if_false,Bool.or_false,Bool.false_eq_true]at hf ⊢
   exact h.lY i hi hf hh
 ·intro l hl
  rw[hS l]
  have h1:=g.R1 l hl
  rw[Vk l]at h1
  have h2:(0:Rat)≤low*(ct (fun i=>N.on l i&&!(fx i||nw i)) N.F:Nat):=Rat.mul_nonneg wm (by exact_mod_cast Nat.zero_le _)
  grind
 ·intro l hl
  rw[hS l]
  have h1:=g.R1 l hl
  rw[Vk l]at h1
  grind
 ·intro i hi hf hh
  simp only[Bool.or_eq_false_iff]at hf
  exact g.lY i hi hf.1 hh
 ·intro i hi hf
  by_cases hn:nw i=true
  ·simp only[hn,if_true]
   rcases g.Vi i hi hn with h1|⟨l,hl,oJ,he,bg⟩
   ·exact .inl h1
   ·have hz:ct (fun i=>N.on l i&&!(fx i||nw i)) N.F=0:=by
     apply Nat.eq_zero_of_not_pos
     intro hp
     obtain⟨j,hj,IA⟩:=Kc hp
     simp only[Bool.and_eq_true,Bool.not_eq_true',Bool.or_eq_false_iff]at IA
     rw[bg j hj IA.1 IA.2.1]at IA
     exact absurd IA.2.2 (by decide)
    refine .inr ⟨l,hl,oJ,?_,hz,fun j hj OA=>?_⟩
    ·rw[hS l]
     rw[Vk l,hz]at he
     grind
    ·by_cases Vn:nw j=true
     ·simp only[Vn,if_true]; exact Rat.le_refl
     ·simp only[Vn,if_false,Bool.false_eq_true]
      have:fx j=true:=by
       cases iD:fx j with
       |true=>rfl
       |false=>exact absurd (bg j hj OA iD) Vn
      exact Rat.le_trans (h.nn j hj this).2 Vl
  ·have iD:fx i=true:=by simpa[hn] using hf
   rw[XJ i hi iD]
   rcases h.HA i hi iD with h1|⟨l,hl,oJ,he,hz,AB⟩
   ·exact .inl h1
   ·have R3:∀ j,j<N.F→N.on l j=true→fx j=true:=fun j hj OA=>by
     cases L8:fx j with
     |true=>rfl
     |false=>
      have:=rV (p:=fun i=>N.on l i&&!fx i) hj (by simp[OA,L8])
      omega
    have M7:=hM l
    rw[hz]at M7
    have PH:ct (fun i=>N.on l i&&nw i) N.F=0:=by omega
    refine .inr ⟨l,hl,oJ,?_,by omega,fun j hj OA=>?_⟩
    ·rw[hS l,PH,he]; grind
    ·rw[XJ j hj (R3 j hj OA)]
     exact AB j hj OA
 ·intro i hi hf
  by_cases hn:nw i=true
  ·simp only[hn,if_true]; exact Zv
  ·simp only[hn,if_false,Bool.or_false,Bool.false_eq_true]at hf ⊢
   exact(h.dv i hi hf).mul
theorem Ke{N:wv}{fx:Nat→Bool}{x:Nat→Rat}{lo:Rat}{P:Nat}(h:Inv N fx x lo P)(bg:∀ i,i<N.F→fx i=true):Fair N x∧∀ i,i<N.F→Dv P (x i)∧P≤18:=by
 have hS:∀ l,sm (fun i=>N.on l i&&fx i) x N.F=sm (N.on l) x N.F:=fun l=>pN (fun j hj=>by rw[bg j hj,Bool.and_true]) fun _ _ _=>rfl
 refine⟨⟨⟨fun i hi=>(h.nn i hi (bg i hi)).1,fun i hi hh=>h.lY i hi (bg i hi) hh,fun l hl=>by rw[←hS l]; exact h.cap l hl⟩,fun i hi=>?_⟩,fun i hi=>⟨h.dv i hi (bg i hi),?_⟩⟩
 ·rcases h.HA i hi (bg i hi) with h1|⟨l,hl,oJ,he,_,AB⟩
  ·exact .inl h1
  ·exact .inr ⟨l,hl,oJ,by rw[←hS l]; exact he,AB⟩
 ·have:=h.PF
  exact Nat.le_trans (Nat.le_mul_of_pos_right _ (Kd _)) this
end Go.Mm
end
section
/- Plain facts of this seat: ratios. -/
set_option maxRecDepth 100000
namespace Go.Proofs.Ytedjbjphpnkpoaa
open Go.PI Go.Pl Go.Mm
variable {α β:Type}
theorem bT{c:Bool}{x y r:Option α}(hc:c=true)(hx:x=r):(bif c then x else y)=r:=by subst hc; exact hx
theorem bF{c:Bool}{x y r:Option α}(hc:c=false)(hy:y=r):(bif c then x else y)=r:=by subst hc; exact hy
theorem bB{e:Option β}{v:β}{k:β→Option α}{r:Option α}(he:e=some v)(hk:k v=r):e.bind k=r:=by subst he; exact hk
theorem Gp{a b:Bool}:(bif a then some b else some false)=some (a&&b):=by cases a<;>rfl
theorem dg{n:Int}(h1 : -9223372036854775808≤n)(h2:n≤9223372036854775807):IntKind.i64.wrap n=n:=IntWalk.i64_in _ (by omega)
theorem dN{i n:Nat}(h:i<n):decide ((i:Int)<(n:Int))=true:=decide_eq_true (by omega)
theorem dZ(n:Nat):decide ((n:Int)<(n:Int))=false:=decide_eq_false (by omega)
theorem ba(i:Nat):decide (0≤(i:Int))=true:=decide_eq_true (by omega)
/-! ### The greatest common divisor -/
theorem Gq:∀ (k a b n:Nat),b<2^k→2*k+1≤n→aa.EY n (a:Int) (b:Int)=some ((Nat.gcd a b:Nat):Int)
 |0,a,b,n,hb,hn=>by
  obtain rfl:b=0:=by simpa using hb
  obtain⟨m,rfl⟩:∃ m,n=m+1:=⟨n-1,by omega⟩
  exact bT rfl (by rw[Nat.gcd_zero_right])
 |k+1,a,b,n,hb,hn=>by
  obtain⟨m,rfl⟩:∃ m,n=m+1:=⟨n-1,by omega⟩
  by_cases h0:b=0
  ·subst h0
   exact bT rfl (by rw[Nat.gcd_zero_right])
  have hr:((a:Int).tmod (b:Int))=((a%b:Nat):Int):=by rw[Int.tmod_eq_emod_of_nonneg (by omega)]; simp
  have Vo:((b:Int)==0)=false:=by simp; omega
  have g1:Nat.gcd a b=Nat.gcd b (a%b):=by rw[Nat.gcd_comm a b,Nat.gcd_rec b a,Nat.gcd_comm]
  refine bF Vo (bF (decide_eq_false (by omega)) ?_)
  rw[hr]
  have bS:=Nat.mod_lt a (Nat.pos_of_ne_zero h0)
  obtain⟨m',rfl⟩:∃ m',m=m'+1:=⟨m-1,by omega⟩
  refine bB (v:=((Nat.gcd b (a%b):Nat):Int)) ?_ (by rw[g1])
  by_cases h1:a%b=0
  ·rw[h1]
   exact bT rfl (by rw[Nat.gcd_zero_right])
  ·have EJ:((b:Int).tmod ((a%b:Nat):Int))=((b%(a%b):Nat):Int):=by rw[Int.tmod_eq_emod_of_nonneg (by omega)]; simp
   refine bF (by simp; omega) (bF (decide_eq_false (by omega)) ?_)
   rw[EJ]
   have rT:=Nat.mod_lt b (Nat.pos_of_ne_zero h1)
   have hd:=Nat.div_add_mod b (a%b)
   have hq:1≤b/(a%b):=Nat.div_pos (Nat.le_of_lt bS) (Nat.pos_of_ne_zero h1)
   have dR:a%b≤(a%b)*(b/(a%b)):=Nat.le_mul_of_pos_right _ hq
   have hs:b%(a%b)<2^k:=by rw[Nat.pow_succ]at hb; omega
   refine bB (Gq k (a%b) (b%(a%b)) m' hs (by omega)) ?_
   have g2:Nat.gcd b (a%b)=Nat.gcd (a%b) (b%(a%b)):=by rw[Nat.gcd_comm b,Nat.gcd_rec (a%b) b,Nat.gcd_comm]
   rw[←g2]
theorem M8(a b:Nat)(hb:b<2^63):aa.jX (a:Int) (b:Int)=some ((Nat.gcd a b:Nat):Int):=Gq 63 a b 200 hb (by omega)
/-! ### Ratios -/
def hX(q:Rat):ai:=⟨q.num,q.den⟩
def dj(q:Rat):Prop := -1000000000≤q.num∧q.num≤1000000000∧q.den≤1000000000
instance (q:Rat):Decidable (dj q):=inferInstanceAs (Decidable (_∧_∧_))
theorem abs_eq{n:Int}(h1 : -9223372036854775807≤n)(h2:n≤9223372036854775807):(if n<IntKind.i64.wrap (0-n) then IntKind.i64.wrap (0-n) else n)=(n.natAbs:Int):=by
 rw[dg (by omega) (by omega)]
 split<;>omega
theorem Kf{n:Int}{d:Nat}(h1 : -9223372036854775807≤n)(h2:n≤9223372036854775807)(h3:1≤d)(h4:d≤9223372036854775807):aa.cS ⟨n,d⟩=some (hX (mkRat n d)):=by
 unfold aa.cS
 rw[abs_eq h1 h2,abs_eq (n:=(d:Int)) (by omega) (by omega)]
 have hg:=M8 n.natAbs d (by omega)
 have e9:0<Nat.gcd n.natAbs d:=Nat.gcd_pos_of_pos_right _ (by omega)
 have OB:((Nat.gcd n.natAbs d:Nat):Int)∣n:=Int.ofNat_dvd_left.2 (Nat.gcd_dvd_left _ _)
 have XF:(Nat.gcd n.natAbs d)∣d:=Nat.gcd_dvd_right _ _
 rw[show ((d:Int).natAbs:Int)=(d:Int) by omega]
 refine bB hg (bF (decide_eq_false (by show ¬(d:Int)<0; omega)) (bF (decide_eq_false (by omega)) (bF (decide_eq_false (by omega)) ?_)))
 have e1:(mkRat n d).num=n/((Nat.gcd n.natAbs d:Nat):Int):=by rw[Rat.num_mkRat,if_neg (by omega),Nat.gcd_comm]
 have e2:(mkRat n d).den=d/Nat.gcd n.natAbs d:=by rw[Rat.den_mkRat,if_neg (by omega),Nat.gcd_comm]
 have b1:n.tdiv ((Nat.gcd n.natAbs d:Nat):Int)=n/((Nat.gcd n.natAbs d:Nat):Int):=Int.tdiv_eq_ediv_of_dvd OB
 have b2:(d:Int).tdiv ((Nat.gcd n.natAbs d:Nat):Int)=((d/Nat.gcd n.natAbs d:Nat):Int):=by
  rw[Int.tdiv_eq_ediv_of_nonneg (by omega)]; simp
 have c1:(n/((Nat.gcd n.natAbs d:Nat):Int)).natAbs≤n.natAbs:=by
  generalize Nat.gcd n.natAbs d=g at OB e9
  obtain⟨k,rfl⟩:=OB
  rw[Int.mul_ediv_cancel_left _ (by omega),Int.natAbs_mul,Int.natAbs_natCast]
  exact Nat.le_mul_of_pos_left _ e9
 have c2:d/Nat.gcd n.natAbs d≤d:=Nat.div_le_self _ _
 show some (ai.mk (IntKind.i64.wrap (n.tdiv _)) (IntKind.i64.wrap ((d:Int).tdiv _)))=_
 rw[b1,b2,dg (by omega) (by omega),dg (by omega) (by omega)]
 simp only[hX,e1,e2]
theorem M9(q:Rat)(h1 : -9223372036854775807≤q.num)(h2:q.num≤9223372036854775807):aa.bM (hX q)=some (decide (dj q)):=by
 unfold aa.bM
 show (bif decide ((if q.num<IntKind.i64.wrap (0-q.num) then IntKind.i64.wrap (0-q.num) else q.num)≤(1000000000:Int)) then bif decide (1≤(q.den:Int)) then some (decide ((q.den:Int)≤1000000000)) else some false else some false)=_
 rw[abs_eq h1 h2]
 have hd:=q.den_pos
 by_cases ha:((q.num.natAbs:Nat):Int)≤1000000000
 ·refine bT (decide_eq_true ha) (bT (decide_eq_true (by omega)) ?_)
  congr 1
  rw[decide_eq_decide]
  unfold dj
  omega
 ·refine bF (decide_eq_false ha) ?_
  rw[decide_eq_false]
  unfold dj
  omega
theorem EZ{n:Int}{d:Nat}(h:1≤d):(mkRat n d).num.natAbs≤n.natAbs:=by
 rw[Rat.num_mkRat,if_neg (by omega)]
 have hg:0<Nat.gcd d n.natAbs:=Nat.gcd_pos_of_pos_left _ (by omega)
 have OB:((Nat.gcd d n.natAbs:Nat):Int)∣n:=Int.ofNat_dvd_left.2 (Nat.gcd_dvd_right _ _)
 generalize Nat.gcd d n.natAbs=g at OB hg
 obtain⟨k,rfl⟩:=OB
 rw[Int.mul_ediv_cancel_left _ (by omega),Int.natAbs_mul,Int.natAbs_natCast]
 exact Nat.le_mul_of_pos_left _ hg
theorem Kg{n:Int}{d:Nat}(h1 : -9223372036854775807≤n)(h2:n≤9223372036854775807)(h3:1≤d)(h4:d≤9223372036854775807):
  aa.bp ⟨n,d⟩=some (if dj (mkRat n d) then (hX (mkRat n d),0) else (⟨0,0⟩,3)):=by
 unfold aa.bp
 have:=EZ (n:=n) h3
 refine bB (Kf h1 h2 h3 h4) (bB (M9 _ (by omega) (by omega)) ?_)
 by_cases hf:dj (mkRat n d)
 ·rw[if_pos hf,decide_eq_true hf]; rfl
 ·rw[if_neg hf,decide_eq_false hf]; rfl
instance:DecidableEq ai:=fun a b=>by
 cases a; cases b
 simp only[ai.mk.injEq]
 exact inferInstance
def vR(a:ai):Bool:=decide (-1000000000≤a.du∧a.du≤1000000000∧1≤a.Den∧a.Den≤1000000000∧hX (mkRat a.du a.Den.toNat)=a)
theorem uE(q:Rat):vR (hX q)=decide (dj q):=by
 unfold vR
 rw[decide_eq_decide]
 have hd:=q.den_pos
 have e:hX (mkRat (hX q).du (hX q).Den.toNat)=hX q:=by
  show hX (mkRat q.num ((q.den:Int)).toNat)=_
  rw[Int.toNat_natCast,Rat.mkRat_self]
 show (-1000000000≤q.num∧q.num≤1000000000∧1≤(q.den:Int)∧(q.den:Int)≤1000000000∧_)↔_
 unfold dj
 simp only[e,and_true]
 omega
theorem nF(a:ai):aa.cM a=some (vR a):=by
 unfold aa.cM
 by_cases h1 : -1000000000≤a.du
 ·refine bT (decide_eq_true h1) ?_
  by_cases h2:a.du≤1000000000∧1≤a.Den∧a.Den≤1000000000
  ·have hf:aa.bM a=some true:=by
    unfold aa.bM
    rw[abs_eq (by omega) (by omega)]
    exact bT (decide_eq_true (by omega)) (bT (decide_eq_true h2.2.1) (by rw[decide_eq_true h2.2.2]))
   have he:a=⟨a.du,(a.Den.toNat:Nat)⟩:=by
    cases a; simp only[ai.mk.injEq,true_and]; simp only at h2; omega
   refine bB hf (bT rfl ?_)
   have hr:=Kf (n:=a.du) (d:=a.Den.toNat) (by omega) (by omega) (by omega) (by omega)
   rw[←he]at hr
   refine bB hr ?_
   congr 1
   unfold vR
   rw[Bool.eq_iff_iff]
   simp only[Bool.and_eq_true,beq_iff_eq,decide_eq_true_eq]
   constructor
   ·rintro⟨g1,g2⟩
    refine⟨h1,h2.1,h2.2.1,h2.2.2,?_⟩
    cases a
    simp only[hX,ai.mk.injEq]at g1 g2 ⊢
    exact⟨g1,g2⟩
   ·rintro⟨_,_,_,_,g⟩
    rw[g]; exact⟨rfl,rfl⟩
  ·have hv:vR a=false:=decide_eq_false (by omega)
   rw[hv]
   refine bB (v:=false) ?_ rfl
   unfold aa.bM
   by_cases h3:(if a.du<IntKind.i64.wrap (0-a.du) then IntKind.i64.wrap (0-a.du) else a.du)≤1000000000
   ·refine bT (decide_eq_true h3) ?_
    have h4:a.du≤1000000000:=by split at h3<;>omega
    by_cases h5:1≤a.Den
    ·exact bT (decide_eq_true h5) (by rw[decide_eq_false]; omega)
    ·exact bF (decide_eq_false h5) rfl
   ·exact bF (decide_eq_false h3) rfl
 ·refine bF (decide_eq_false h1) ?_
  rw[show vR a=false from decide_eq_false (by omega)]
/-! ### Operations -/
theorem lM{q:Rat}(h:dj q):(q.den:Int)≤1000000000∧1≤(q.den:Int):=⟨by have:=h.2.2; omega,by have:=q.den_pos; omega⟩
theorem kD{a b:Int}(h1 : -1000000000≤a)(h2:a≤1000000000)(h3:0≤b)(h4:b≤1000000000): -1000000000000000000≤a*b∧a*b≤1000000000000000000:=by
 have e1:a*b≤1000000000*b:=Int.mul_le_mul_of_nonneg_right h2 h3
 have e2 : -1000000000*b≤a*b:=Int.mul_le_mul_of_nonneg_right h1 h3
 omega
theorem sub_eq{p q:Rat}(hp:dj p)(hq:dj q):aa.nG (hX p) (hX q)=some (if dj (p-q) then (hX (p-q),0) else (⟨0,0⟩,3)):=by
 unfold aa.nG
 have dp:=lM hp
 have dq:=lM hq
 have m1:=kD hp.1 hp.2.1 (b:=(q.den:Int)) (by omega) (by omega)
 have m2:=kD hq.1 hq.2.1 (b:=(p.den:Int)) (by omega) (by omega)
 have m3:=kD (a:=(p.den:Int)) (b:=(q.den:Int)) (by omega) (by omega) (by omega) (by omega)
 have m4:1≤p.den*q.den:=Nat.mul_pos p.den_pos q.den_pos
 have e3:(p.den:Int)*(q.den:Int)=((p.den*q.den:Nat):Int):=by simp
 have dK:((((p.den*q.den:Nat):Int))==0)=false:=by rw[beq_eq_false_iff_ne]; omega
 refine bB (nF _) (bF (by rw[uE,decide_eq_true hp]; rfl) (bB (nF _) (bF (by rw[uE,decide_eq_true hq]; rfl) ?_)))
 show (bif IntKind.i64.wrap ((p.den:Int)*(q.den:Int))==0 then _ else (aa.bp (ai.mk (IntKind.i64.wrap (IntKind.i64.wrap (p.num*(q.den:Int))-IntKind.i64.wrap (q.num*(p.den:Int)))) (IntKind.i64.wrap ((p.den:Int)*(q.den:Int))))).bind fun x=>some (x.1,x.2))=_
 rw[dg (n:=p.num*(q.den:Int)) (by omega) (by omega),dg (n:=q.num*(p.den:Int)) (by omega) (by omega),dg (n:=p.num*(q.den:Int)-q.num*(p.den:Int)) (by omega) (by omega),dg (n:=(p.den:Int)*(q.den:Int)) (by omega) (by omega),e3]
 refine bF dK (bB (Kg (by omega) (by omega) m4 (by omega)) ?_)
 rw[Rat.sub_def']
theorem qg(p:Rat){m:Nat}(hm:1≤m):mkRat p.num (p.den*m)=p/(m:Rat):=by
 have h:=Rat.mkRat_self p
 rw[Rat.div_def]
 have hi:((m:Rat))⁻¹=mkRat 1 m:=by
  rw[Rat.mkRat_eq_div,Rat.div_def]; simp
 rw[hi]
 conv=>rhs; rw[←h]
 rw[Rat.mkRat_mul_mkRat]; simp
theorem div_eq{p:Rat}(hp:dj p){m:Nat}(h1:1≤m)(h2:m≤1000):aa.qw (hX p) ⟨m,1⟩=some (if dj (p/(m:Rat)) then (hX (p/(m:Rat)),0) else (⟨0,0⟩,3)):=by
 unfold aa.qw
 have dp:=lM hp
 have hm:(⟨m,1⟩:ai)=hX ((m:Int):Rat):=rfl
 have fm:dj ((m:Int):Rat):=⟨by show (_:Int)≤(m:Int); omega,by show (m:Int)≤_; omega,by show 1≤1000000000; omega⟩
 have m3:=kD (a:=(p.den:Int)) (b:=(m:Int)) (by omega) (by omega) (by omega) (by omega)
 have m4:1≤p.den*m:=Nat.mul_pos p.den_pos h1
 have e3:(p.den:Int)*(m:Int)=((p.den*m:Nat):Int):=by simp
 have dK:((((p.den*m:Nat):Int))==0)=false:=by rw[beq_eq_false_iff_ne]; omega
 refine bB (nF _) (bF (by rw[uE,decide_eq_true hp]; rfl) (bB (nF _) (bF (by rw[hm,uE,decide_eq_true fm]; rfl) ?_)))
 show (bif IntKind.i64.wrap ((p.den:Int)*(m:Int))==0 then _ else (aa.bp (ai.mk (IntKind.i64.wrap (p.num*1)) (IntKind.i64.wrap ((p.den:Int)*(m:Int))))).bind fun x=>some (x.1,x.2))=_
 have T5:=hp.1
 have L4:=hp.2.1
 rw[Int.mul_one,dg (n:=p.num) (by omega) (by omega),dg (n:=(p.den:Int)*(m:Int)) (by omega) (by omega),e3]
 refine bF dK (bB (Kg (by omega) (by omega) m4 (by omega)) ?_)
 rw[qg p h1]
def pP(p q:Rat):Int:=if p<q then -1 else if q<p then 1 else 0
theorem PJ{p q:Rat}(hp:dj p)(hq:dj q):aa.qx (hX p) (hX q)=some (pP p q,0):=by
 unfold aa.qx aa.pQ aa.qy
 have dp:=lM hp
 have dq:=lM hq
 have m1:=kD hp.1 hp.2.1 (b:=(q.den:Int)) (by omega) (by omega)
 have m2:=kD hq.1 hq.2.1 (b:=(p.den:Int)) (by omega) (by omega)
 refine bB (nF _) (bF (by rw[uE,decide_eq_true hp]; rfl) (bB (nF _) (bF (by rw[uE,decide_eq_true hq]; rfl) ?_)))
 have w1:IntKind.i64.wrap ((hX p).du*(hX q).Den)=p.num*(q.den:Int):=dg (n:=p.num*(q.den:Int)) (by omega) (by omega)
 have w2:IntKind.i64.wrap ((hX q).du*(hX p).Den)=q.num*(p.den:Int):=dg (n:=q.num*(p.den:Int)) (by omega) (by omega)
 rw[w1,w2]
 refine bB (v:=pP p q) ?_ rfl
 simp only[beq_self_eq_true,Bool.not_true,Option.bind_some,cond_false]
 unfold pP
 by_cases h1:p<q
 ·rw[if_pos h1]
  exact bT (decide_eq_true ((Rat.lt_iff p q).1 h1)) rfl
 ·rw[if_neg h1]
  refine bF (decide_eq_false fun h=>h1 ((Rat.lt_iff p q).2 h)) ?_
  by_cases h2:q<p
  ·rw[if_pos h2]
   exact bT (decide_eq_true ((Rat.lt_iff q p).1 h2)) rfl
  ·rw[if_neg h2]
   exact bF (decide_eq_false fun h=>h2 ((Rat.lt_iff q p).2 h)) rfl
theorem Na{p q:Rat}(hp:dj p)(hq:dj q):aa.fR (hX p) (hX q)=some (decide (p<q)):=by
 unfold aa.fR
 refine bB (PJ hp hq) ?_
 show some (decide (pP p q<0))=_
 congr 1
 rw[decide_eq_decide]
 unfold pP
 by_cases h1:p<q
 ·simp[h1]
 ·rw[if_neg h1]
  by_cases h2:q<p<;>simp[h1,h2]
end Go.Proofs.Ytedjbjphpnkpoaa
end
section
/- Plain facts of this seat: valid networks. -/
set_option maxRecDepth 100000
namespace Go.Proofs.Ytedjbjphpnkpoaa
open Go.PI Go.Pl Go.Mm
theorem wJ{τ ω:Type}{f:τ→Option (τ ⊕ ω)}(st:Nat→τ)(c:Nat→Bool)(n:Nat)(e bad:ω){x0:τ}
  (h:∀ i,i<n→f (st i)=bif c i then some (.inl (st (i+1))) else some (.inr bad)) (he:f (st n)=some (.inr e)) (hx:x0=st 0) :
  aO f x0=some (bif (List.range n).all c then e else bad):=by
 subst hx
 rcases pM st c (fun _=>bad) n e (fun i hi=>by rw[h i hi]; cases c i<;>rfl) he with ⟨h1,h2⟩|⟨h1,i,_,_,h2⟩
 ·rw[h1,h2]; rfl
 ·rw[h1,h2]; rfl
theorem eA{τ ω:Type}{f:τ→Option (τ ⊕ ω)}(st:Nat→τ)(n:Nat)(e:ω){x0:τ}(h:∀ i,i<n→f (st i)=some (.inl (st (i+1))))(he:f (st n)=some (.inr e))(hx:x0=st 0):aO f x0=some e:=by
 subst hx
 have key:∀ m i,m=n-i→i≤n→aO f (st i)=some e:=by
  intro m
  induction m with
  |zero=>intro i hm hi; obtain rfl:i=n:=by omega
         exact out he
  |succ m ih=>intro i hm hi; rw[next (h i (by omega))]; exact ih (i+1) (by omega) (by omega)
 exact key n 0 rfl (Nat.zero_le _)
theorem get_at{γ:Type}{l:List γ}{i:Nat}(h:i<l.length):l[(i:Int).toNat]?=some l[i]:=by simp[h]
theorem eK{i:Nat}(h:i<2^62):IntKind.i64.wrap ((i:Int)+1)=((i+1:Nat):Int):=dg (by omega) (by omega)
theorem PK(n lo hi:Int):aa.nH n lo hi=some (decide (lo≤n)&&decide (n≤hi)):=Gp
def pF(l:List Int)(L:Int)(i:Nat):Bool:=
 match l[i]? with
 |none=>false
 |some x=>(decide (0≤x)&&decide (x≤L-1))&&(if i=0 then true else match l[i-1]? with|none=>false|some y=>decide (y<x))
def DZ(l:List Int)(L:Int):Bool:=(List.range l.length).all (pF l L)&&(decide (1≤(l.length:Int))&&decide ((l.length:Int)≤6))
theorem Nb{l:List Int}{L:Int}(hl:l.length≤2^62)(h0:0≤L)(h1:L≤1000000):aa.jY l L=some (DZ l L):=by
 unfold aa.jY
 refine bB (wJ (fun i=>(false,(i:Int))) (pF l L) l.length (Sum.inr (false,(l.length:Int))) (Sum.inl false) (fun i hi=>?_) (bF (dZ _) rfl) rfl) ?_
 ·refine bT (dN hi) (bT (ba i) (bB (get_at hi) (bB (PK _ _ _) ?_)))
  rw[dg (n:=L-1) (by omega) (by omega)]
  unfold pF
  rw[List.getElem?_eq_getElem hi]
  cases hc:(decide (0≤l[i])&&decide (l[i]≤L-1)) with
  |false=>simp only[hc]; rfl
  |true=>
   simp only[hc]
   by_cases e:i=0
   ·subst e
    exact bF rfl (bF rfl (by rw[eK (by omega)]; rfl))
   ·have hw:IntKind.i64.wrap ((i:Int)-1)=((i-1:Nat):Int):=by rw[dg (by omega) (by omega)]; omega
    have DV:i-1<l.length:=by omega
    refine bF rfl (bT (decide_eq_true (by omega)) (bT (by rw[hw]; exact ba _) (bB (v:=l[i-1]) (by rw[hw]; exact get_at DV) ?_)))
    rw[if_neg e,List.getElem?_eq_getElem DV,eK (by omega)]
    by_cases bS:l[i]≤l[i-1]
    ·rw[decide_eq_true bS]; simp only[decide_eq_false (by omega:¬l[i-1]<l[i])]; rfl
    ·rw[decide_eq_false bS]; simp only[decide_eq_true (by omega:l[i-1]<l[i])]; rfl
 ·unfold DZ
  cases (List.range l.length).all (pF l L) with
  |false=>rfl
  |true=>exact bB (PK _ _ _) rfl
theorem Kh{l:List Int}{L:Int}(hl:l.length≤2^62):aa.n8 l L=some (DZ l L):=by
 unfold aa.n8
 refine bB (wJ (fun i=>(false,(i:Int))) (pF l L) l.length (Sum.inr (false,(l.length:Int))) (Sum.inl false) (fun i hi=>?_) (bF (dZ _) rfl) rfl) ?_
 ·refine bT (dN hi) (bT (ba i) (bB (get_at hi) ?_))
  unfold pF
  rw[List.getElem?_eq_getElem hi]
  by_cases h1:l[i]<0
  ·refine bT (decide_eq_true h1) ?_
   simp only[decide_eq_false (by omega:¬0≤l[i])]; rfl
  refine bF (decide_eq_false h1) (bT (ba i) (bB (get_at hi) ?_))
  simp only[decide_eq_true (by omega:0≤l[i])]
  by_cases h2:L≤l[i]
  ·refine bT (decide_eq_true h2) ?_
   simp only[decide_eq_false (by omega:¬l[i]≤L-1)]; rfl
  refine bF (decide_eq_false h2) ?_
  simp only[decide_eq_true (by omega:l[i]≤L-1)]
  by_cases e:i=0
  ·subst e
   exact bF rfl (by rw[eK (by omega)]; rfl)
  ·have hw:IntKind.i64.wrap ((i:Int)-1)=((i-1:Nat):Int):=by rw[dg (by omega) (by omega)]; omega
   have DV:i-1<l.length:=by omega
   refine bT (decide_eq_true (by omega)) (bT (ba i) (bB (get_at hi) (bT (by rw[hw]; exact ba _) (bB (v:=l[i-1]) (by rw[hw]; exact get_at DV) ?_))))
   rw[if_neg e,List.getElem?_eq_getElem DV,eK (by omega)]
   by_cases bS:l[i]≤l[i-1]
   ·rw[decide_eq_true bS]; simp only[decide_eq_false (by omega:¬l[i-1]<l[i])]; rfl
   ·rw[decide_eq_false bS]; simp only[decide_eq_true (by omega:l[i-1]<l[i])]; rfl
 ·unfold DZ
  cases (List.range l.length).all (pF l L) with
  |false=>rfl
  |true=>exact Gp
def tv(x:Int):Bool:=decide (0≤x)&&decide (x≤1000)
def vN(n:bP):Bool:=decide (n.ay.length≤8)&&(decide (n.af.length≤8)&&(decide (n.aD.length=n.af.length)&&((n.ay.all tv&&n.aD.all tv)&&n.af.all fun l=>DZ l (n.ay.length:Int))))
theorem Nc{n:bP}(hl:∀ l∈n.af,l.length≤2^62):aa.gp n=some (vN n):=by
 unfold aa.gp vN
 by_cases h1:n.ay.length≤8
 case neg=>rw[decide_eq_false h1]; exact bT (decide_eq_true (by omega)) rfl
 rw[decide_eq_true h1]
 refine bF (decide_eq_false (by omega)) ?_
 by_cases h2:n.af.length≤8
 case neg=>rw[decide_eq_false h2]; exact bT (decide_eq_true (by omega)) rfl
 rw[decide_eq_true h2]
 refine bF (decide_eq_false (by omega)) ?_
 by_cases h3:n.aD.length=n.af.length
 case neg=>rw[decide_eq_false h3]; exact bT (by simp; omega) rfl
 rw[decide_eq_true h3]
 refine bF (by simp; omega) ?_
 have hc:aa.gW [n.ay,n.aD]=some (n.ay++n.aD):=by
  show tx 8 [n.ay,n.aD]=_
  unfold tx Ki
  have:[n.ay,n.aD].flatten=n.ay++n.aD:=by simp
  rw[this]
  have hlen:(n.ay++n.aD).length≤16:=by rw[List.length_append]; omega
  exact bT (by simp only[Bool.and_eq_true,decide_eq_true_eq]; exact⟨by simp,by omega,by omega⟩) rfl
 refine bB hc ?_
 have hlen:(n.ay++n.aD).length≤16:=by rw[List.length_append]; omega
 refine bB (uD (n.ay++n.aD) (fun i=>(false,(i:Int))) tv (Sum.inl false) (Sum.inr (false,((n.ay++n.aD).length:Int))) (fun i hi=>?_) (bF (dZ _) rfl) rfl) ?_
 ·refine bT (dN hi) (bT (ba i) (bB (get_at hi) (bB (PK _ _ _) ?_)))
  rw[eK (by omega)]
  show (bif !tv _ then _ else _)=_
  cases tv (n.ay++n.aD)[i]<;>rfl
 rw[List.all_append]
 cases Zw:(n.ay.all tv&&n.aD.all tv) with
 |false=>rfl
 |true=>
  simp only[cond_true,Sum.elim_inr,Bool.true_and]
  refine bB (uD n.af (fun i=>(false,(i:Int))) (fun l=>DZ l (n.ay.length:Int)) (Sum.inl false) (Sum.inr (false,(n.af.length:Int))) (fun i hi=>?_) (bF (dZ _) rfl) rfl) ?_
  ·refine bT (dN hi) (bT (ba i) (bB (get_at hi) (bB (Nb (hl _ (List.getElem_mem hi)) (by omega) (by omega)) ?_)))
   rw[eK (by omega)]
   cases DZ n.af[i] (n.ay.length:Int)<;>rfl
  ·cases n.af.all fun l=>DZ l (n.ay.length:Int)<;>rfl
theorem Nd{γ δ:Type}{l:List γ}{m:List δ}{p:γ→Bool}{q:δ→Bool}(h:l.length=m.length):((List.range l.length).all fun i=>(l[i]?.map p).getD false&&(m[i]?.map q).getD false)=(l.all p&&m.all q):=by
 rw[Bool.eq_iff_iff,List.all_eq_true,Bool.and_eq_true,List.all_eq_true,List.all_eq_true]
 constructor
 ·intro hh
  refine⟨fun x hx=>?_,fun x hx=>?_⟩
  ·obtain⟨i,hi,rfl⟩:=List.getElem_of_mem hx
   have:=hh i (List.mem_range.2 hi)
   rw[List.getElem?_eq_getElem hi]at this
   simp only[Bool.and_eq_true]at this
   exact this.1
  ·obtain⟨i,hi,rfl⟩:=List.getElem_of_mem hx
   have:=hh i (List.mem_range.2 (by omega))
   rw[List.getElem?_eq_getElem hi]at this
   simp only[Bool.and_eq_true]at this
   exact this.2
 ·rintro⟨h1,h2⟩ i hi
  have hi:=List.mem_range.1 hi
  rw[List.getElem?_eq_getElem hi,List.getElem?_eq_getElem (show i<m.length by omega)]
  simp only[Bool.and_eq_true]
  exact⟨h1 _ (List.getElem_mem _),h2 _ (List.getElem_mem _)⟩
theorem Kj{n:bP}(hl:∀ l∈n.af,l.length≤2^62):aa.cY n=some (vN n):=by
 unfold aa.cY vN
 by_cases h1:n.ay.length≤8
 case neg=>rw[decide_eq_false h1]; exact bT (decide_eq_true (by omega)) rfl
 rw[decide_eq_true h1]
 refine bF (decide_eq_false (by omega)) ?_
 by_cases h2:n.af.length≤8
 case neg=>rw[decide_eq_false h2]; exact bT (decide_eq_true (by omega)) rfl
 rw[decide_eq_true h2]
 refine bF (decide_eq_false (by omega)) ?_
 by_cases h3:n.aD.length=n.af.length
 case neg=>rw[decide_eq_false h3]; exact bT (by simp; omega) rfl
 rw[decide_eq_true h3]
 refine bF (by simp; omega) ?_
 refine bB (uD n.ay (fun i=>(false,(i:Int))) tv (Sum.inl false) (Sum.inr (false,(n.ay.length:Int))) (fun i hi=>?_) (bF (dZ _) rfl) rfl) ?_
 ·refine bT (dN hi) (bT (ba i) (bB (get_at hi) ?_))
  rw[eK (by omega)]
  unfold tv
  by_cases g1:n.ay[i]<0
  ·rw[decide_eq_false (by omega:¬0≤n.ay[i])]; exact bT (decide_eq_true g1) rfl
  rw[decide_eq_true (by omega:0≤n.ay[i])]
  refine bF (decide_eq_false g1) (bT (ba i) (bB (get_at hi) ?_))
  by_cases g2:1000<n.ay[i]
  ·rw[decide_eq_false (by omega:¬n.ay[i]≤1000)]; exact bT (decide_eq_true g2) rfl
  ·rw[decide_eq_true (by omega:n.ay[i]≤1000)]; exact bF (decide_eq_false g2) rfl
 cases Zw:n.ay.all tv with
 |false=>rfl
 |true=>
  simp only[cond_true,Sum.elim_inr,Bool.true_and]
  refine bB (wJ (fun i=>(false,(i:Int))) (fun i=>(n.af[i]?.map fun l=>DZ l (n.ay.length:Int)).getD false&&(n.aD[i]?.map tv).getD false) n.af.length (Sum.inr (false,(n.af.length:Int))) (Sum.inl false) (fun i hi=>?_) (bF (dZ _) rfl) rfl) ?_
  ·have Ix:i<n.aD.length:=by omega
   refine bT (dN hi) (bT (ba i) (bB (get_at hi) (bB (Kh (hl _ (List.getElem_mem hi))) ?_)))
   rw[eK (by omega),List.getElem?_eq_getElem hi,List.getElem?_eq_getElem Ix]
   show (bif !DZ n.af[i] (n.ay.length:Int) then _ else _)=bif (DZ n.af[i] (n.ay.length:Int)&&tv n.aD[i]) then _ else _
   cases DZ n.af[i] (n.ay.length:Int) with
   |false=>rfl
   |true=>
    refine bF rfl (bT (ba i) (bB (get_at Ix) ?_))
    unfold tv
    by_cases g1:n.aD[i]<0
    ·simp only[decide_eq_false (by omega:¬0≤n.aD[i])]; exact bT (decide_eq_true g1) rfl
    simp only[decide_eq_true (by omega:0≤n.aD[i])]
    refine bF (decide_eq_false g1) (bT (ba i) (bB (get_at Ix) ?_))
    by_cases g2:1000<n.aD[i]
    ·simp only[decide_eq_false (by omega:¬n.aD[i]≤1000)]; exact bT (decide_eq_true g2) rfl
    ·simp only[decide_eq_true (by omega:n.aD[i]≤1000)]; exact bF (decide_eq_false g2) rfl
  ·rw[Nd (p:=fun l=>DZ l (n.ay.length:Int)) (q:=tv) h3.symm,Bool.and_comm]
   cases (n.aD.all tv&&n.af.all fun l=>DZ l (n.ay.length:Int))<;>rfl
theorem R4(n:bP)(hw:n.af.length≤2^63-1):∃ b,aa.iG n=some b∧(b=true→n.ay.length≤50∧n.af.length≤50∧n.aD.length≤50∧∀ l∈n.af,l.length≤50):=by
 unfold aa.iG
 have xJ:=wJ (ω:=Bool ⊕ Bool×Int) (f:=fun ((b1,i2):Bool×Int)=>
   bif decide (i2<(↑n.af.length:Int)) then bif decide (i2<50) then bif decide (0≤i2) then (n.af[i2.toNat]?).bind fun l3=>bif decide (50<(↑l3.length:Int)) then some (Sum.inr (Sum.inl false)) else some (Sum.inl (b1,IntKind.i64.wrap (i2+1))) else none else some (Sum.inr (Sum.inr (b1,i2))) else some (Sum.inr (Sum.inr (b1,i2))))
  (fun i=>(false,(i:Int))) (fun i=>match n.af[i]? with|some l=>decide (l.length≤50)|none=>false) (min n.af.length 50) (Sum.inr (false,((min n.af.length 50:Nat):Int))) (Sum.inl false) (x0:=(false,0)) (fun i hi=>?_) ?_ rfl
 ·cases bg:(List.range (min n.af.length 50)).all (fun i=>match n.af[i]? with|some l=>decide (l.length≤50)|none=>false) with
  |false=>
   rw[bg]at xJ
   exact⟨false,bB xJ rfl,fun h=>Bool.noConfusion h⟩
  |true=>
   rw[bg]at xJ
   refine⟨_,bB xJ (by show (bif _ then bif _ then _ else _ else _)=some (decide ((n.ay.length:Int)≤50)&&(decide ((n.af.length:Int)≤50)&&decide ((n.aD.length:Int)≤50))); cases decide ((n.ay.length:Int)≤50)<;>cases decide ((n.af.length:Int)≤50)<;>rfl),fun h=>?_⟩
   simp only[Bool.and_eq_true,decide_eq_true_eq]at h
   refine⟨by omega,by omega,by omega,fun l hl=>?_⟩
   obtain⟨i,hi,rfl⟩:=List.getElem_of_mem hl
   have:=List.all_eq_true.1 bg i (List.mem_range.2 (by omega))
   rw[List.getElem?_eq_getElem hi]at this
   simpa using this
 ·have h1:i<n.af.length:=by omega
  refine bT (dN h1) (bT (decide_eq_true (by omega)) (bT (ba i) (bB (get_at h1) ?_)))
  rw[List.getElem?_eq_getElem h1,eK (by omega)]
  by_cases g:n.af[i].length≤50
  ·simp only[decide_eq_true g]; exact bF (decide_eq_false (by omega)) rfl
  ·simp only[decide_eq_false g]; exact bT (decide_eq_true (by omega)) rfl
 ·by_cases g:n.af.length≤50
  ·have e:min n.af.length 50=n.af.length:=by omega
   rw[e]
   exact bF (dZ _) rfl
  ·have e:min n.af.length 50=50:=by omega
   rw[e]
   exact bT (dN (by omega)) (bF (by decide) rfl)
end Go.Proofs.Ytedjbjphpnkpoaa
end
section
/- Plain facts of this seat: levels. -/
set_option maxRecDepth 100000
namespace Go.Proofs.Ytedjbjphpnkpoaa
open Go.PI Go.Pl Go.Mm
theorem Nf{l:List Int}(hl:l.length≤2^62)(v:Int):aa.bK l v=some (decide (v∈l)):=by
 unfold aa.bK aa.mO
 have key:=pM (ω:=Int ⊕ Int×Int) (f:=fun ((i1,i2):Int×Int)=>bif decide (i2<(↑l.length:Int)) then bif decide (0≤i2) then (l[i2.toNat]?).bind fun i3=>bif v==i3 then some (Sum.inr (Sum.inl i2)) else some (Sum.inl (i1,IntKind.i64.wrap (i2+1))) else none else some (Sum.inr (Sum.inr (i1,i2))))
  (fun i=>((0:Int),(i:Int))) (fun i=>(l[i]?.map fun x=>!(v==x)).getD false) (fun i=>Sum.inl (i:Int)) l.length (Sum.inr (0,(l.length:Int))) (fun i hi=>by
    refine bT (dN hi) (bT (ba i) (bB (get_at hi) ?_))
    rw[List.getElem?_eq_getElem hi,eK (by omega)]
    show (bif v==l[i] then _ else _)=some (bif !(v==l[i]) then _ else _)
    cases v==l[i]<;>rfl) (bF (dZ _) rfl)
 rcases key with ⟨h1,h2⟩|⟨h1,i,hi,hp,h2⟩
 ·refine bB (v := -1) (bB h2 rfl) ?_
  rw[show decide (v∈l)=false from decide_eq_false fun hm=>?_]; ·rfl
  obtain⟨i,hi,rfl⟩:=List.getElem_of_mem hm
  have:=List.all_eq_true.1 h1 i (List.mem_range.2 hi)
  rw[List.getElem?_eq_getElem hi]at this
  simp at this
 ·refine bB (v:=(i:Int)) (bB h2 rfl) ?_
  rw[show decide (v∈l)=true from decide_eq_true ?_]; ·rw[ba]
  rw[List.getElem?_eq_getElem hi]at hp
  simp only[Option.map_some,Option.getD_some,Bool.not_eq_false',beq_iff_eq]at hp
  rw[hp]; exact List.getElem_mem _
theorem Kk{l:List Bool}(hl:l.length≤2^62)(v:Bool):aa.fe l v=some (decide (v∈l)):=by
 unfold aa.fe aa.n9
 have key:=pM (ω:=Int ⊕ Int×Int) (f:=fun ((i1,i2):Int×Int)=>bif decide (i2<(↑l.length:Int)) then bif decide (0≤i2) then (l[i2.toNat]?).bind fun i3=>bif v==i3 then some (Sum.inr (Sum.inl i2)) else some (Sum.inl (i1,IntKind.i64.wrap (i2+1))) else none else some (Sum.inr (Sum.inr (i1,i2))))
  (fun i=>((0:Int),(i:Int))) (fun i=>(l[i]?.map fun x=>!(v==x)).getD false) (fun i=>Sum.inl (i:Int)) l.length (Sum.inr (0,(l.length:Int))) (fun i hi=>by
    refine bT (dN hi) (bT (ba i) (bB (get_at hi) ?_))
    rw[List.getElem?_eq_getElem hi,eK (by omega)]
    show (bif v==l[i] then _ else _)=some (bif !(v==l[i]) then _ else _)
    cases v==l[i]<;>rfl) (bF (dZ _) rfl)
 rcases key with ⟨h1,h2⟩|⟨h1,i,hi,hp,h2⟩
 ·refine bB (v := -1) (bB h2 rfl) ?_
  rw[show decide (v∈l)=false from decide_eq_false fun hm=>?_]; ·rfl
  obtain⟨i,hi,rfl⟩:=List.getElem_of_mem hm
  have:=List.all_eq_true.1 h1 i (List.mem_range.2 hi)
  rw[List.getElem?_eq_getElem hi]at this
  simp at this
 ·refine bB (v:=(i:Int)) (bB h2 rfl) ?_
  rw[show decide (v∈l)=true from decide_eq_true ?_]; ·rw[ba]
  rw[List.getElem?_eq_getElem hi]at hp
  simp only[Option.map_some,Option.getD_some,Bool.not_eq_false',beq_iff_eq]at hp
  rw[hp]; exact List.getElem_mem _
/-! ### A valid network -/
def jf(n:bP)(l i:Nat):Bool:=(n.af[i]?.map fun f=>decide ((l:Int)∈f)).getD false
def bR(n:bP):wv where
 F:=n.af.length
 L:=n.ay.length
 on:=jf n
 c l:=((n.ay[l]?.getD 0:Int):Rat)
 has i:=decide (0<n.aD[i]?.getD 0)
 k i:=((n.aD[i]?.getD 0:Int):Rat)
structure VN(n:bP):Prop where
 nc:n.ay.length≤8
 nf:n.af.length≤8
 nl:n.aD.length=n.af.length
 c:∀ x∈n.ay,0≤x∧x≤1000
 k:∀ x∈n.aD,0≤x∧x≤1000
 f6:∀ l∈n.af,1≤l.length∧l.length≤6
 fr:∀ l∈n.af,∀ x∈l,0≤x∧x<n.ay.length
theorem Kl{n:bP}(h:vN n=true):VN n:=by
 unfold vN at h
 simp only[Bool.and_eq_true,decide_eq_true_eq,List.all_eq_true]at h
 obtain⟨h1,h2,h3,⟨h4,h5⟩,h6⟩:=h
 have hk:∀ x,tv x=true→0≤x∧x≤1000:=fun x hx=>by simpa[tv] using hx
 refine⟨h1,h2,h3,fun x hx=>hk x (h4 x hx),fun x hx=>hk x (h5 x hx),fun l hl=>?_,fun l hl x hx=>?_⟩
 ·have:=h6 l hl
  unfold DZ at this
  simp only[Bool.and_eq_true,decide_eq_true_eq]at this
  omega
 ·have:=h6 l hl
  unfold DZ at this
  simp only[Bool.and_eq_true,List.all_eq_true]at this
  obtain⟨i,hi,rfl⟩:=List.getElem_of_mem hx
  have:=this.1 i (List.mem_range.2 hi)
  unfold pF at this
  rw[List.getElem?_eq_getElem hi]at this
  simp only[Bool.and_eq_true,decide_eq_true_eq]at this
  omega
theorem VN.PL{n:bP}(h:VN n){l:List Int}(hl:l∈n.af):l.length≤2^62:=by have:=h.f6 l hl; omega
theorem VN.cap{n:bP}(h:VN n){l:Nat}(hl:l<n.ay.length):(bR n).c l=((n.ay[l]:Int):Rat)∧0≤n.ay[l]∧n.ay[l]≤1000:=by
 refine⟨?_,h.c _ (List.getElem_mem _)⟩
 show ((n.ay[l]?.getD 0:Int):Rat)=_
 rw[List.getElem?_eq_getElem hl]; rfl
theorem VN.lY{n:bP}(h:VN n){i:Nat}(hi:i<n.af.length):∃ k,n.aD[i]?=some k∧(bR n).k i=(k:Rat)∧(bR n).has i=decide (0<k)∧0≤k∧k≤1000:=by
 have hl:i<n.aD.length:=by rw[h.nl]; exact hi
 refine⟨n.aD[i],List.getElem?_eq_getElem hl,?_,?_,h.k _ (List.getElem_mem _)⟩
 ·show ((n.aD[i]?.getD 0:Int):Rat)=_
  rw[List.getElem?_eq_getElem hl]; rfl
 ·show decide (0<n.aD[i]?.getD 0)=_
  rw[List.getElem?_eq_getElem hl]; rfl
theorem VN.on{n:bP}(h:VN n){l i:Nat}(hi:i<n.af.length):aa.bK n.af[i] (l:Int)=some (jf n l i):=by
 rw[Nf (h.PL (List.getElem_mem _))]
 unfold jf
 rw[List.getElem?_eq_getElem hi]; rfl
theorem VN.ex{n:bP}(h:VN n){i:Nat}(hi:i<n.af.length):∃ l,l<n.ay.length∧jf n l i=true:=by
 have h1:=h.f6 _ (List.getElem_mem hi)
 have h2:=h.fr _ (List.getElem_mem hi) _ (List.getElem_mem (show 0<n.af[i].length by omega))
 refine⟨n.af[i][0].toNat,by omega,?_⟩
 unfold jf
 rw[List.getElem?_eq_getElem hi]
 simp only[Option.map_some,Option.getD_some,decide_eq_true_eq]
 rw[Int.toNat_of_nonneg h2.1]
 exact List.getElem_mem _
theorem xK{P:Nat}{q:Rat}(h1:1≤P)(h2:P≤1000)(hd:Dv P q)(h0:0≤q)(hq:q≤1000):dj q∧q.den≤P:=by
 obtain⟨m,hm⟩:=hd
 have hP:(P:Rat)≠0:=by intro e; have:P=0:=by exact_mod_cast e
                       omega
 have XL:(0:Rat)<(P:Rat):=by exact_mod_cast h1
 have e:q=mkRat m P:=by
  rw[Rat.mkRat_eq_div,←hm,Rat.div_def,Rat.mul_assoc,Rat.mul_inv_cancel _ hP,Rat.mul_one]
 have Rf:0≤m:=by
  have:(0:Rat)≤(m:Rat):=by rw[←hm]; exact Rat.mul_nonneg h0 (Rat.le_of_lt XL)
  exact_mod_cast this
 have uk:m≤1000*P:=by
  have:(m:Rat)≤1000*(P:Rat):=by rw[←hm]; exact Rat.mul_le_mul_of_nonneg_right hq (Rat.le_of_lt XL)
  exact_mod_cast this
 have hn:=EZ (n:=m) h1
 have R5:(mkRat m P).den≤P:=by rw[Rat.den_mkRat,if_neg (by omega)]; exact Nat.div_le_self _ _
 rw[←e]at hn R5
 exact⟨⟨by omega,by omega,by omega⟩,R5⟩
theorem Ng{k:Int}(h0:0≤k)(h1:k≤1000):dj (k:Rat):=⟨by show _≤k; omega,by show k≤_; omega,by show 1≤_; omega⟩
structure mc(n:bP)(rates:List ai)(fixed:List Bool)(x:Nat→Rat)(lo:Rat)(P:Nat):Prop where
 nr:rates.length=n.af.length
 nf:fixed.length=n.af.length
 r:∀ i,i<n.af.length→fixed[i]?=some true→rates[i]?=some (hX (x i))
 inv:Inv (bR n) (fun i=>fixed[i]?.getD false) x lo P
abbrev jw(fixed:List Bool)(i:Nat):Bool:=fixed[i]?.getD false
theorem oa{p:Nat→Bool}{x:Nat→Rat}{n:Nat}(h:∀ j,j<n→p j=true→0≤x j):∀ {i:Nat},i≤n→0≤sm p x i∧sm p x i≤sm p x n:=by
 have up:∀ m i,i+m=n→sm p x i≤sm p x n:=by
  intro m
  induction m with
  |zero=>intro i hi; rw[show i=n by omega]; exact Rat.le_refl
  |succ m ih=>
   intro i hi
   have h1:=ih (i+1) (by omega)
   simp only[sm]at h1
   cases hp:p i with
   |false=>rw[hp]at h1; simp only[cond_false]at h1; grind
   |true=>rw[hp]at h1; simp only[cond_true]at h1; have:=h i (by omega) hp; grind
 intro i hi
 refine⟨?_,up (n-i) i (by omega)⟩
 clear up
 induction i with
 |zero=>exact Rat.le_refl
 |succ i ih=>
  have h1:=ih (by omega)
  simp only[sm]
  cases hp:p i with
  |false=>simp only[cond_false]; grind
  |true=>simp only[cond_true]; have:=h i (by omega) hp; grind
section
variable {n:bP}{rates:List ai}{fixed:List Bool}{x:Nat→Rat}{lo:Rat}{P:Nat}
theorem mc.PF(h:mc n rates fixed x lo P):P≤18:=Nat.le_trans (Nat.le_mul_of_pos_right _ (Kd _)) h.inv.PF
abbrev sF(n:bP)(fixed:List Bool)(x:Nat→Rat)(l:Nat):Rat:=sm (fun i=>jf n l i&&jw fixed i) x n.af.length
abbrev mF(n:bP)(fixed:List Bool)(l:Nat):Nat:=ct (fun i=>jf n l i&&!jw fixed i) n.af.length
theorem xL(hv:VN n)(h:mc n rates fixed x lo P){l:Nat}(hl:l<n.ay.length):
  ∃ q,aa.cf (l:Int) (cb.mk n fixed rates)=some (hX q,decide (mF n fixed l≠0))∧(mF n fixed l≠0→q*(mF n fixed l:Nat)=(bR n).c l-sF n fixed x l∧dj q):=by
 obtain⟨hc,L0,IY⟩:=hv.cap hl
 have PM:∀ j,j<n.af.length→(jf n l j&&jw fixed j)=true→0≤x j:=fun j hj hp=>by
  simp only[Bool.and_eq_true]at hp
  exact(h.inv.nn j hj hp.2).1
 have yL:=h.inv.cap l hl
 have hP:=h.PF
 have PG:=h.inv.P1
 have Km:∀ i,i≤n.af.length→dj ((bR n).c l-sm (fun i=>jf n l i&&jw fixed i) x i):=fun i hi=>by
  have hm:=oa PM hi
  refine(xK PG (by omega) ?_ ?_ ?_).1
  ·refine Dv.sub ?_ (Dv.sm fun j hj hp=>h.inv.dv j (by show j<n.af.length; omega) (by simp only[Bool.and_eq_true]at hp; exact hp.2))
   rw[hc]; exact Dv.int _
  ·have:sm (fun i=>jf n l i&&jw fixed i) x n.af.length≤(bR n).c l:=yL
   grind
  ·have h1:(bR n).c l≤1000:=by rw[hc]; exact_mod_cast IY
   have:=hm.1
   grind
 have hx:∀ i,i<n.af.length→jw fixed i=true→dj (x i):=fun i hi hf=>by
  have h1:=h.inv.nn i hi hf
  obtain⟨l',iQ,oJ⟩:=hv.ex hi
  obtain⟨HC,_,R6⟩:=hv.cap iQ
  have XM:sm (fun i=>jf n l' i&&jw fixed i) x n.af.length≤(bR n).c l':=h.inv.cap l' iQ
  have R7:∀ j,j<n.af.length→(jf n l' j&&jw fixed j)=true→0≤x j:=fun j hj hp=>by
   simp only[Bool.and_eq_true]at hp
   exact(h.inv.nn j hj hp.2).1
  have h2:=(oa R7 (i:=i+1) (by omega)).2
  have h3:=(oa R7 (i:=i) (by omega)).1
  simp only[sm,oJ,hf,Bool.and_self,cond_true]at h2
  have h4:(bR n).c l'≤1000:=by rw[HC]; exact_mod_cast R6
  exact(xK PG (by omega) (h.inv.dv i hi hf) h1.1 (by grind)).1
 have HD:∀ i,i<n.af.length→fixed[i]?=some (jw fixed i):=fun i hi=>by
  have:i<fixed.length:=by rw[h.nf]; exact hi
  unfold jw
  rw[List.getElem?_eq_getElem this]; rfl
 have R8:=hv.nf
 have TK:n.ay[(l:Int).toNat]?=some n.ay[l]:=get_at hl
 have Zx:0≤(bR n).c l-sF n fixed x l:=by
  have:sm (fun i=>jf n l i&&jw fixed i) x n.af.length≤(bR n).c l:=yL
  grind
 have R6:(bR n).c l≤1000:=by rw[hc]; exact_mod_cast IY
 have hS1:(bR n).c l-sF n fixed x l≤1000:=by
  have:=(oa PM (i:=n.af.length) (Nat.le_refl _)).1
  grind
 have Zy:Dv P ((bR n).c l-sF n fixed x l):=by
  refine Dv.sub ?_ (Dv.sm fun j hj hp=>h.inv.dv j hj (by simp only[Bool.and_eq_true]at hp; exact hp.2))
  rw[hc]; exact Dv.int _
 have Zz:mF n fixed l≤8:=Nat.le_trans pO R8
 have xJ:aO (ω:=Int×Int×Int×Int) (fun ((i3,i4,i5,i6):Int×Int×Int×Int)=>
    bif decide (i3<(↑(cb.mk n fixed rates).Net.af.length:Int)) then
     bif decide (0≤i3) then
      ((cb.mk n fixed rates).Net.af[i3.toNat]?).bind fun l7=>
      (aa.bK l7 l).bind fun b8=>
      bif b8 then
       bif decide (0≤i3) then
        ((cb.mk n fixed rates).CI[i3.toNat]?).bind fun b9=>
        bif !b9 then
         some (Sum.inl (IntKind.i64.wrap (i3+1),IntKind.i64.wrap (i4+1),i5,i6))
        else
         bif decide (0≤i3) then
          ((cb.mk n fixed rates).CJ[i3.toNat]?).bind fun CL=>
          (aa.nG (ai.mk i5 i6) CL).bind fun (L9,i12)=>
          some (Sum.inl (IntKind.i64.wrap (i3+1),i4,L9.du,L9.Den))
         else
          none
       else
        none
      else
       some (Sum.inl (IntKind.i64.wrap (i3+1),i4,i5,i6))
     else
      none
    else
     some (Sum.inr (i3,i4,i5,i6))) (0,0,n.ay[l],1)=some ((n.af.length:Int),((mF n fixed l:Nat):Int),((bR n).c l-sF n fixed x l).num,(((bR n).c l-sF n fixed x l).den:Int)):=by
  refine eA (fun i=>((i:Int),((ct (fun i=>jf n l i&&!jw fixed i) i:Nat):Int),((bR n).c l-sm (fun i=>jf n l i&&jw fixed i) x i).num,((((bR n).c l-sm (fun i=>jf n l i&&jw fixed i) x i).den:Nat):Int))) n.af.length _ (fun i hi=>?_) (bF (dZ _) rfl) ?_
  ·refine bT (dN hi) (bT (ba i) (bB (get_at hi) (bB (hv.on hi) ?_)))
   rw[eK (by omega)]
   have UI:=pO (p:=fun i=>jf n l i&&!jw fixed i) (n:=i)
   cases oJ:jf n l i with
   |false=>
    refine bF rfl ?_
    simp only[ct,sm,oJ,Bool.false_and,cond_false,Nat.add_zero]
    have:(bR n).c l-(sm (fun i=>jf n l i&&jw fixed i) x i+0)=(bR n).c l-sm (fun i=>jf n l i&&jw fixed i) x i:=by grind
    rw[this]
   |true=>
    refine bT rfl (bT (ba i) (bB (v:=jw fixed i) (by rw[Int.toNat_natCast]; exact HD i hi) ?_))
    cases hf:jw fixed i with
    |false=>
     refine bT rfl ?_
     rw[eK (by omega)]
     simp only[ct,sm,oJ,hf,Bool.true_and,Bool.not_false,cond_true,cond_false]
     have:(bR n).c l-(sm (fun i=>jf n l i&&jw fixed i) x i+0)=(bR n).c l-sm (fun i=>jf n l i&&jw fixed i) x i:=by grind
     rw[this]
    |true=>
     have Iy:fixed[i]?=some true:=by rw[HD i hi,hf]
     have tb:=sub_eq (Km i (by omega)) (hx i hi hf)
     have R9:(bR n).c l-sm (fun i=>jf n l i&&jw fixed i) x i-x i=(bR n).c l-sm (fun i=>jf n l i&&jw fixed i) x (i+1):=by
      simp only[sm,oJ,hf,Bool.and_self,cond_true]; grind
     rw[R9,if_pos (Km (i+1) (by omega))]at tb
     refine bF rfl (bT (ba i) (bB (v:=hX (x i)) (by rw[Int.toNat_natCast]; exact h.r i hi Iy) (bB tb ?_)))
     simp only[ct,oJ,hf,Bool.true_and,Bool.not_true,cond_false,Nat.add_zero]
     rfl
  ·have:(bR n).c l-sm (fun i=>jf n l i&&jw fixed i) x 0=(n.ay[l]:Rat):=by rw[←hc]; simp only[sm]; grind
   rw[this]; rfl
 by_cases hm:mF n fixed l=0
 ·refine⟨(bR n).c l-sF n fixed x l,?_,fun h=>absurd hm h⟩
  unfold aa.cf
  refine bT (ba l) (bB TK (bB (v:=⟨n.ay[l],1⟩) rfl (bB xJ (bT (by rw[hm]; rfl) ?_))))
  rw[hm]; rfl
 ·have uk:1≤mF n fixed l:=by omega
  have Vp:((mF n fixed l:Nat):Rat)≠0:=fun e=>hm (by exact_mod_cast e)
  have R2:(0:Rat)<((mF n fixed l:Nat):Rat):=by exact_mod_cast uk
  have hq:((bR n).c l-sF n fixed x l)/((mF n fixed l:Nat):Rat)*((mF n fixed l:Nat):Rat)=(bR n).c l-sF n fixed x l:=by
   rw[Rat.div_def,Rat.mul_assoc,Rat.inv_mul_cancel _ Vp,Rat.mul_one]
  have Vq:0≤((bR n).c l-sF n fixed x l)/((mF n fixed l:Nat):Rat):=by
   apply Rat.le_of_mul_le_mul_right (c:=((mF n fixed l:Nat):Rat)) _ R2
   rw[hq,Rat.zero_mul]; exact Zx
  have gL:((bR n).c l-sF n fixed x l)/((mF n fixed l:Nat):Rat)≤1000:=by
   apply Rat.le_of_mul_le_mul_right (c:=((mF n fixed l:Nat):Rat)) _ R2
   rw[hq]
   have:(1:Rat)≤((mF n fixed l:Nat):Rat):=by exact_mod_cast uk
   grind
  have ZA:P*mF n fixed l≤1000:=Nat.le_trans (Nat.mul_le_mul hP Zz) (by omega)
  have gQ:=(xK (Nat.mul_pos PG uk) ZA (Dv.part Zy hq) Vq gL).1
  have Vr:dj ((bR n).c l-sF n fixed x l):=Km n.af.length (Nat.le_refl _)
  have hdiv:=div_eq Vr uk (by omega)
  rw[if_pos gQ]at hdiv
  refine⟨_,?_,fun _=>⟨hq,gQ⟩⟩
  unfold aa.cf
  refine bT (ba l) (bB TK (bB (v:=⟨n.ay[l],1⟩) rfl (bB xJ (bF (by show (((mF n fixed l:Nat):Int)==0)=false; rw[beq_eq_false_iff_ne]; omega) (bB (v:=⟨((mF n fixed l:Nat):Int),1⟩) rfl (bB hdiv ?_))))))
  rw[decide_eq_true hm]
theorem vM(hv:VN n)(h:mc n rates fixed x lo P){i:Nat}(hi:i<n.af.length):
  aa.cz (i:Int) (cb.mk n fixed rates)=some (hX ((bR n).k i),(bR n).has i&&!jw fixed i):=by
 obtain⟨k,hk,e1,e2,k0,k1⟩:=hv.lY hi
 have GZ:n.aD[(i:Int).toNat]?=some k:=by rw[Int.toNat_natCast]; exact hk
 unfold aa.cz
 refine bT (ba i) (bB GZ (bB (v:=⟨k,1⟩) rfl (bT (ba i) (bB GZ ?_))))
 rw[e1,e2]
 by_cases hp:0<k
 ·have:i<fixed.length:=by rw[h.nf]; exact hi
  refine bT (decide_eq_true hp) (bT (ba i) (bB (v:=jw fixed i) (by rw[Int.toNat_natCast]; unfold jw; rw[List.getElem?_eq_getElem this]; rfl) ?_))
  rw[decide_eq_true hp]; rfl
 ·rw[decide_eq_false hp]
  exact bF rfl rfl
theorem E5(hv:VN n)(l:Nat){i:Nat}(hi:i<n.af.length):aa.fI (l:Int) (cb.mk n fixed rates) (i:Int)=some (jf n l i):=by
 unfold aa.fI
 exact bT (ba i) (bB (get_at hi) (bB (hv.on hi) rfl))
end
end Go.Proofs.Ytedjbjphpnkpoaa
end
section
/- Plain facts of this seat: what Share returns. -/
set_option maxRecDepth 100000
set_option maxHeartbeats 1000000
namespace Go.Proofs.Ytedjbjphpnkpoaa
open Go.PI Go.Pl Go.Mm
section
variable {γ:Type}{Q:γ→Prop}
theorem pR{c:Bool}{x y:Option γ}(hc:c=true)(hx:∃ r,x=some r∧Q r):∃ r,(bif c then x else y)=some r∧Q r:=by subst hc; exact hx
theorem HE{c:Bool}{x y:Option γ}(hc:c=false)(hy:∃ r,y=some r∧Q r):∃ r,(bif c then x else y)=some r∧Q r:=by subst hc; exact hy
theorem qU{β:Type}{e:Option β}{v:β}{K:β→Option γ}(he:e=some v)(hk:∃ r,K v=some r∧Q r):∃ r,e.bind K=some r∧Q r:=by subst he; exact hk
theorem HF{τ ω:Type}{f:τ→Option (τ ⊕ ω)}(I:τ→Prop)(μ:τ→Nat)(P:ω→Prop)(h:∀ s,I s→(∃ s',f s=some (.inl s')∧I s'∧μ s'<μ s)∨(∃ w,f s=some (.inr w)∧P w)):
  ∀ s,I s→∃ w,aO f s=some w∧P w:=by
 have key:∀ m s,μ s<m→I s→∃ w,aO f s=some w∧P w:=by
  intro m
  induction m with
  |zero=>intro s hs; omega
  |succ m ih=>
   intro s hs hI
   rcases h s hI with ⟨s',h1,h2,h3⟩|⟨w,h1,h2⟩
   ·obtain⟨w,h4,h5⟩:=ih s' (by omega) h2
    exact⟨w,by rw[next h1,h4],h5⟩
   ·exact⟨w,out h1,h2⟩
 exact fun s hs=>key (μ s+1) s (Nat.lt_succ_self _) hs
theorem Nh{τ ω:Type}{f:τ→Option (τ ⊕ ω)}{x0:τ}{K:ω→Option γ}(I:τ→Prop)(μ:τ→Nat)(P:ω→Prop)(h:∀ s,I s→(∃ s',f s=some (.inl s')∧I s'∧μ s'<μ s)∨(∃ w,f s=some (.inr w)∧P w))(h0:I x0)
  (hk:∀ w,P w→∃ r,K w=some r∧Q r):∃ r,(aO f x0).bind K=some r∧Q r:=by
 obtain⟨w,h1,h2⟩:=HF I μ P h x0 h0
 exact qU h1 (hk w h2)
end
/-! ### Stops -/
def iH(i:Nat):dP:=⟨true,(i:Int)⟩
def rW(i:Nat):dP:=⟨false,(i:Int)⟩
def pS(n:bP):List dP:=(List.range n.ay.length).map iH++(List.range n.af.length).map rW
theorem CM{n:bP}{s:dP}(h:s∈pS n):(∃ l,l<n.ay.length∧s=iH l)∨∃ i,i<n.af.length∧s=rW i:=by
 unfold pS at h
 simp only[List.mem_append,List.mem_map,List.mem_range]at h
 rcases h with ⟨l,h1,h2⟩|⟨l,h1,h2⟩
 ·exact .inl ⟨l,h1,h2.symm⟩
 ·exact .inr ⟨l,h1,h2.symm⟩
theorem CN(n:bP):(pS n).length=n.ay.length+n.af.length:=by simp[pS]
section
variable {n:bP}{rates:List ai}{fixed:List Bool}{x:Nat→Rat}{lo:Rat}{P:Nat}
noncomputable def lvl(n:bP)(rates:List ai)(fixed:List Bool)(s:dP):Option (ai×Bool):=
 bif s.A then aa.cf s.N (cb.mk n fixed rates) else aa.cz s.N (cb.mk n fixed rates)
noncomputable def act(n:bP)(rates:List ai)(fixed:List Bool)(s:dP):Bool:=((lvl n rates fixed s).map (·.2)).getD false
noncomputable def lv(n:bP)(rates:List ai)(fixed:List Bool)(s:dP):ai:=((lvl n rates fixed s).map (·.1)).getD ⟨0,0⟩
noncomputable def rq(n:bP)(rates:List ai)(fixed:List Bool)(s:dP):Rat:=mkRat (lv n rates fixed s).du (lv n rates fixed s).Den.toNat
theorem CO(q:Rat):mkRat (hX q).du (hX q).Den.toNat=q:=by
 show mkRat q.num ((q.den:Int)).toNat=q
 rw[Int.toNat_natCast,Rat.mkRat_self]
theorem PN(hv:VN n)(h:mc n rates fixed x lo P){s:dP}(hs:s∈pS n):lvl n rates fixed s=some (lv n rates fixed s,act n rates fixed s):=by
 have:∃ r,lvl n rates fixed s=some r:=by
  rcases CM hs with ⟨l,hl,rfl⟩|⟨i,hi,rfl⟩
  ·obtain⟨q,hq,_⟩:=xL hv h hl
   exact⟨_,hq⟩
  ·exact⟨_,vM hv h hi⟩
 obtain⟨r,hr⟩:=this
 unfold lv act
 rw[hr]; rfl
theorem uF(hv:VN n)(h:mc n rates fixed x lo P){l:Nat}(hl:l<n.ay.length):act n rates fixed (iH l)=decide (mF n fixed l≠0)∧(mF n fixed l≠0→lv n rates fixed (iH l)=hX (rq n rates fixed (iH l))∧dj (rq n rates fixed (iH l))∧rq n rates fixed (iH l)*(mF n fixed l:Nat)=(bR n).c l-sF n fixed x l):=by
 obtain⟨q,hq,hf⟩:=xL hv h hl
 have e1:act n rates fixed (iH l)=decide (mF n fixed l≠0):=by unfold act lvl; show ((aa.cf (l:Int) _).map _).getD false=_; rw[hq]; rfl
 have e2:lv n rates fixed (iH l)=hX q:=by unfold lv lvl; show ((aa.cf (l:Int) _).map _).getD _=_; rw[hq]; rfl
 have e3:rq n rates fixed (iH l)=q:=by unfold rq; rw[e2]; exact CO q
 refine⟨e1,fun hm=>?_⟩
 rw[e3]
 exact⟨e2,(hf hm).2,(hf hm).1⟩
theorem xM(hv:VN n)(h:mc n rates fixed x lo P){i:Nat}(hi:i<n.af.length):act n rates fixed (rW i)=((bR n).has i&&!jw fixed i)∧lv n rates fixed (rW i)=hX (rq n rates fixed (rW i))∧dj (rq n rates fixed (rW i))∧rq n rates fixed (rW i)=(bR n).k i:=by
 have hq:=vM hv h hi
 obtain⟨k,_,Pd,_,k0,k1⟩:=hv.lY hi
 have e1:act n rates fixed (rW i)=((bR n).has i&&!jw fixed i):=by unfold act lvl; show ((aa.cz (i:Int) _).map _).getD false=_; rw[hq]; rfl
 have e2:lv n rates fixed (rW i)=hX ((bR n).k i):=by unfold lv lvl; show ((aa.cz (i:Int) _).map _).getD _=_; rw[hq]; rfl
 have e3:rq n rates fixed (rW i)=(bR n).k i:=by unfold rq; rw[e2]; exact CO _
 rw[e3]
 exact⟨e1,e2,by rw[Pd]; exact Ng k0 k1,rfl⟩
noncomputable def eC(n:bP)(rates:List ai)(fixed:List Bool):List dP:=(pS n).filter (act n rates fixed)
theorem gq(hv:VN n)(h:mc n rates fixed x lo P){s:dP}(hs:s∈eC n rates fixed):lv n rates fixed s=hX (rq n rates fixed s)∧dj (rq n rates fixed s) ∧
  ((∃ l,l<n.ay.length∧s=iH l∧mF n fixed l≠0∧rq n rates fixed s*(mF n fixed l:Nat)=(bR n).c l-sF n fixed x l)∨∃ i,i<n.af.length∧s=rW i∧(bR n).has i=true∧jw fixed i=false∧rq n rates fixed s=(bR n).k i):=by
 unfold eC at hs
 obtain⟨h1,h2⟩:=List.mem_filter.1 hs
 rcases CM h1 with ⟨l,hl,rfl⟩|⟨i,hi,rfl⟩
 ·obtain⟨g1,g2⟩:=uF hv h hl
  rw[g1]at h2
  have hm:=of_decide_eq_true h2
  obtain⟨g3,g4,g5⟩:=g2 hm
  exact⟨g3,g4,.inl ⟨l,hl,rfl,hm,g5⟩⟩
 ·obtain⟨g1,g2,g3,g4⟩:=xM hv h hi
  rw[g1]at h2
  simp only[Bool.and_eq_true,Bool.not_eq_true']at h2
  exact⟨g2,g3,.inr ⟨i,hi,rfl,h2.1,h2.2,g4⟩⟩
theorem zX(hv:VN n)(h:mc n rates fixed x lo P){l:Nat}(hl:l<n.ay.length)(hm:mF n fixed l≠0):iH l∈eC n rates fixed:=by
 refine List.mem_filter.2 ⟨?_,by rw[(uF hv h hl).1]; exact decide_eq_true hm⟩
 unfold pS
 exact List.mem_append_left _ (List.mem_map.2 ⟨l,List.mem_range.2 hl,rfl⟩)
theorem Kn(hv:VN n)(h:mc n rates fixed x lo P){i:Nat}(hi:i<n.af.length)(h1:(bR n).has i=true)(h2:jw fixed i=false):rW i∈eC n rates fixed:=by
 refine List.mem_filter.2 ⟨?_,by rw[(xM hv h hi).1,h1,h2]; rfl⟩
 unfold pS
 exact List.mem_append_right _ (List.mem_map.2 ⟨i,List.mem_range.2 hi,rfl⟩)
def BD(m:Rat)(l:List Rat):Rat:=l.foldl (fun m q=>if q<m then q else m) m
theorem PO(l:List Rat):∀ m,BD m l≤m∧∀ q∈l,BD m l≤q:=by
 induction l with
 |nil=>intro m; exact⟨Rat.le_refl,fun q hq=>by cases hq⟩
 |cons a l ih=>
  intro m
  have h:=ih (if a<m then a else m)
  show BD (if a<m then a else m) l≤m∧∀ q∈a::l,BD (if a<m then a else m) l≤q
  have h1:(if a<m then a else m)≤m∧(if a<m then a else m)≤a:=by split<;>constructor<;>grind
  refine⟨Rat.le_trans h.1 h1.1,fun q hq=>?_⟩
  rcases List.mem_cons.1 hq with rfl|hq
  ·exact Rat.le_trans h.1 h1.2
  ·exact h.2 q hq
theorem Gr(l:List Rat):∀ m,BD m l=m∨BD m l∈l:=by
 induction l with
 |nil=>intro m; exact .inl rfl
 |cons a l ih=>
  intro m
  show BD (if a<m then a else m) l=m∨BD (if a<m then a else m) l∈a::l
  rcases ih (if a<m then a else m) with h|h
  ·rw[h]
   split
   ·exact .inr (by simp)
   ·exact .inl rfl
  ·exact .inr (List.mem_cons_of_mem _ h)
def dQ{γ:Type}(l:List γ)(is:List Nat)(v:γ):List γ:=is.foldl (fun l i=>l.set i v) l
theorem dH{γ:Type}(is:List Nat)(v:γ):∀ l:List γ,(dQ l is v).length=l.length:=by
 induction is with
 |nil=>intro l; rfl
 |cons i is ih=>intro l; show (dQ (l.set i v) is v).length=_; rw[ih,List.length_set]
theorem rX{γ:Type}(is:List Nat)(v:γ):∀ (l:List γ) (j:Nat),j<l.length→(dQ l is v)[j]?=if j∈is then some v else l[j]?:=by
 induction is with
 |nil=>intro l j hj; simp[dQ]
 |cons i is ih=>
  intro l j hj
  show (dQ (l.set i v) is v)[j]?=_
  rw[ih _ _ (by rw[List.length_set]; exact hj)]
  by_cases h1:j∈is
  ·rw[if_pos h1,if_pos (List.mem_cons_of_mem _ h1)]
  ·rw[if_neg h1]
   by_cases h2:j=i
   ·subst h2
    rw[if_pos (by simp),List.getElem?_set_self hj]
   ·rw[if_neg (by simp[h1,h2]),List.getElem?_set_ne (fun e=>h2 e.symm)]
theorem vO{γ:Type}(l:List γ)(is:List Nat)(v:γ){t:Nat}(ht:t<is.length):dQ l (is.take (t+1)) v=(dQ l (is.take t) v).set is[t] v:=by
 unfold dQ
 rw[List.take_succ_eq_append_getElem ht,List.foldl_append]; rfl
end
end Go.Proofs.Ytedjbjphpnkpoaa
end
section
/- Plain facts of this seat: a step of Share, and Share. -/
set_option maxRecDepth 100000
set_option maxHeartbeats 2000000
namespace Go.Proofs.Ytedjbjphpnkpoaa
open Go.PI Go.Pl Go.Mm
theorem mv{m k:Nat}(h:m≤100000)(hk:k≤64):(decide (m*k≤2^44)&&decide (m≤2^44))=true:=by
 have:m*k≤100000*64:=Nat.mul_le_mul h hk
 simp only[Bool.and_eq_true,decide_eq_true_eq]
 omega
theorem tz(q r:Rat):((hX q).du==r.num&&(hX q).Den==(r.den:Int))=decide (q=r):=by
 rw[Bool.eq_iff_iff]
 simp only[hX,Bool.and_eq_true,beq_iff_eq,decide_eq_true_eq]
 constructor
 ·rintro⟨h1,h2⟩; exact Rat.ext h1 (by omega)
 ·rintro rfl; exact⟨rfl,rfl⟩
def Ko(n:bP)(s:dP)(i:Nat):Bool:=bif s.A then jf n s.N.toNat i else s.N==(i:Int)
noncomputable def IB(n:bP)(fixed:List Bool)(low:Rat)(r:Rat)(s:dP)(i:Nat):Bool:=decide (r=low)&&(!jw fixed i&&Ko n s i)
noncomputable def A5(n:bP)(rates:List ai)(fixed:List Bool)(low:Rat)(s:dP)(m:Nat):List Nat:=(List.range m).filter (IB n fixed low (rq n rates fixed s) s)
noncomputable def ij(n:bP)(rates:List ai)(fixed:List Bool)(low:Rat):List Nat:=(eC n rates fixed).flatMap fun s=>A5 n rates fixed low s n.af.length
theorem rY{γ:Type}(p:γ→Bool)(l:List γ):(l.filter p).length≤l.length:=List.length_filter_le _ _
theorem xN{γ δ:Type}{f:γ→List δ}{b:Nat}:∀ {l:List γ},(∀ x∈l,(f x).length≤b)→(l.flatMap f).length≤l.length*b
 |[],_=>by simp
 |x::l,h=>by
  have h1:=xN (l:=l) fun y hy=>h y (List.mem_cons_of_mem _ hy)
  have h2:=h x (by simp)
  simp only[List.flatMap_cons,List.length_append,List.length_cons,Nat.succ_mul]
  omega
section
variable {n:bP}{rates:List ai}{fixed:List Bool}{x:Nat→Rat}{lo:Rat}{P:Nat}
theorem Kp(hv:VN n):(eC n rates fixed).length≤16:=by
 have h1:=rY (act n rates fixed) (pS n)
 have h2:=CN n
 have:=hv.nc; have:=hv.nf
 unfold eC; omega
theorem uH{γ:Type}{p:γ→Bool}{l:List γ}{i:Nat}(h:i<l.length):(l.take (i+1)).filter p=(l.take i).filter p++bif p l[i] then [l[i]] else []:=by
 rw[List.take_succ_eq_append_getElem h,List.filter_append]
 cases hp:p l[i]<;>simp[hp]
theorem tA{p:Nat→Bool}{i:Nat}:(List.range (i+1)).filter p=(List.range i).filter p++bif p i then [i] else []:=by
 rw[List.range_succ,List.filter_append]
 cases hp:p i<;>simp[hp]
abbrev E6(n:bP)(fixed:List Bool):Nat:=ct (fun i=>!jw fixed i) n.af.length
noncomputable def cA(n:bP)(rates:List ai)(fixed:List Bool):Rat:=match eC n rates fixed with
 |[]=>0
 |s::l=>BD (rq n rates fixed s) ((s::l).map (rq n rates fixed))
theorem Gs(hv:VN n)(h:mc n rates fixed x lo P)(hm:false∈fixed):∃ s l,eC n rates fixed=s::l:=by
 obtain⟨i,hi,he⟩:=List.getElem_of_mem hm
 have wk:i<n.af.length:=by rw[←h.nf]; exact hi
 have hf:jw fixed i=false:=by unfold jw; rw[List.getElem?_eq_getElem hi,he]; rfl
 obtain⟨l,hl,oJ⟩:=hv.ex wk
 have Ma:mF n fixed l≠0:=by
  have:=rV (p:=fun i=>jf n l i&&!jw fixed i) wk (by simp[oJ,hf])
  unfold mF; omega
 have:=zX hv h hl Ma
 cases ha:eC n rates fixed with
 |nil=>rw[ha]at this; cases this
 |cons s l=>exact⟨s,l,rfl⟩
theorem CP(hv:VN n)(h:mc n rates fixed x lo P)(hm:false∈fixed):(∃ s∈eC n rates fixed,rq n rates fixed s=cA n rates fixed)∧∀ s∈eC n rates fixed,cA n rates fixed≤rq n rates fixed s:=by
 obtain⟨s,l,ha⟩:=Gs hv h hm
 unfold cA
 rw[ha]
 simp only
 have h1:=PO ((s::l).map (rq n rates fixed)) (rq n rates fixed s)
 refine⟨?_,fun t ht=>h1.2 _ (List.mem_map.2 ⟨t,ht,rfl⟩)⟩
 rcases Gr ((s::l).map (rq n rates fixed)) (rq n rates fixed s) with h2|h2
 ·exact⟨s,by simp,h2.symm⟩
 ·obtain⟨t,ht,e⟩:=List.mem_map.1 h2
  exact⟨t,ht,e⟩
theorem Ni(hv:VN n)(h:mc n rates fixed x lo P)(hm:false∈fixed):dj (cA n rates fixed):=by
 obtain⟨⟨s,hs,e⟩,_⟩:=CP hv h hm
 rw[←e]; exact(gq hv h hs).2.1
theorem qz{i:Nat}{low:Rat}:i∈ij n rates fixed low↔∃ s∈eC n rates fixed,i<n.af.length∧rq n rates fixed s=low∧jw fixed i=false∧Ko n s i=true:=by
 unfold ij A5 IB
 simp only[List.mem_flatMap,List.mem_filter,List.mem_range,Bool.and_eq_true,decide_eq_true_eq,Bool.not_eq_true']
theorem Nj(hv:VN n)(h:mc n rates fixed x lo P)(hm:false∈fixed):XI (bR n) (jw fixed) x (cA n rates fixed) (fun i=>decide (i∈ij n rates fixed (cA n rates fixed))):=by
 obtain⟨⟨s0,DX,e0⟩,nt⟩:=CP hv h hm
 have lk:∀ l,l<n.ay.length→mF n fixed l≠0→cA n rates fixed≤rq n rates fixed (iH l)∧rq n rates fixed (iH l)*(mF n fixed l:Nat)=(bR n).c l-sF n fixed x l:=fun l hl Ma=>
  ⟨nt _ (zX hv h hl Ma),((uF hv h hl).2 Ma).2.2⟩
 refine⟨fun i hi hw=>?_,fun l hl=>?_,fun i hi hf hh=>?_,fun i hi hw=>?_,?_⟩
 ·obtain⟨s,_,_,_,h3,_⟩:=qz.1 (of_decide_eq_true hw)
  exact h3
 ·show cA n rates fixed*((mF n fixed l:Nat):Rat)≤(bR n).c l-sF n fixed x l
  by_cases Ma:mF n fixed l=0
  ·rw[Ma]
   have:sF n fixed x l≤(bR n).c l:=h.inv.cap l hl
   have e:cA n rates fixed*((0:Nat):Rat)=0:=by
    have:((0:Nat):Rat)=0:=rfl
    rw[this,Rat.mul_zero]
   rw[e]; grind
  ·obtain⟨g1,g2⟩:=lk l hl Ma
   rw[←g2]
   exact Rat.mul_le_mul_of_nonneg_right g1 (by exact_mod_cast Nat.zero_le _)
 ·have:=nt _ (Kn hv h hi hh hf)
  rw[(xM hv h hi).2.2.2]at this
  exact this
 ·obtain⟨s,hs,_,hq,hf,gJ⟩:=qz.1 (of_decide_eq_true hw)
  obtain⟨_,_,⟨l,hl,rfl,Ma,PQ⟩|⟨j,hj,rfl,hh,_,hk⟩⟩:=gq hv h hs
  ·have oJ:jf n l i=true:=by simpa[Ko,iH] using gJ
   rw[hq]at PQ
   refine .inr ⟨l,hl,oJ,PQ,fun j hj OA PR=>decide_eq_true (qz.2 ⟨_,hs,hj,hq,PR,by have Vs:jf n l j=true:=OA; simpa[Ko,iH] using Vs⟩)⟩
  ·have L1:j=i:=by simp only[Ko,rW,cond_false,beq_iff_eq]at gJ; omega
   subst L1
   exact .inl ⟨hh,by rw[←hq,hk]⟩
 ·obtain⟨_,_,⟨l,hl,rfl,Ma,PQ⟩|⟨j,hj,rfl,hh,hf,hk⟩⟩:=gq hv h DX
  ·obtain⟨i,hi,hp⟩:=Kc (p:=fun i=>jf n l i&&!jw fixed i) (n:=n.af.length) (by unfold mF at Ma; omega)
   simp only[Bool.and_eq_true,Bool.not_eq_true']at hp
   exact⟨i,hi,decide_eq_true (qz.2 ⟨_,DX,hi,e0,hp.2,by simpa[Ko,iH] using hp.1⟩)⟩
  ·exact⟨j,hj,decide_eq_true (qz.2 ⟨_,DX,hj,e0,hf,by simp[Ko,rW]⟩)⟩
theorem Kq{low:Rat}{i:Nat}(h:i∈ij n rates fixed low):i<n.af.length:=by
 obtain⟨_,_,h1,_⟩:=qz.1 h; exact h1
theorem Nk(hv:VN n)(h:mc n rates fixed x lo P)(hm:false∈fixed):∃ x' P',mc n (dQ rates (ij n rates fixed (cA n rates fixed)) (hX (cA n rates fixed))) (dQ fixed (ij n rates fixed (cA n rates fixed)) true) x' (cA n rates fixed) P' ∧
  E6 n (dQ fixed (ij n rates fixed (cA n rates fixed)) true)<E6 n fixed:=by
 have g:=Nj hv h hm
 have Vj:∀ l,l<(bR n).L→Dv 1 ((bR n).c l):=fun l hl=>by rw[(hv.cap hl).1]; exact Dv.int _
 have GZ:∀ i,i<(bR n).F→Dv 1 ((bR n).k i):=fun i hi=>by obtain⟨k,_,e,_⟩:=hv.lY hi; rw[e]; exact Dv.int _
 obtain⟨P',hI⟩:=HB (N:=bR n) hv.nf Vj GZ h.inv g
 have XN:(fun i=>jw (dQ fixed (ij n rates fixed (cA n rates fixed)) true) i)=fun i=>jw fixed i||decide (i∈ij n rates fixed (cA n rates fixed)):=by
  funext i
  by_cases hi:i<fixed.length
  ·unfold jw
   rw[rX _ _ _ _ hi]
   by_cases hw:i∈ij n rates fixed (cA n rates fixed)
   ·rw[if_pos hw,decide_eq_true hw,Bool.or_true]; rfl
   ·rw[if_neg hw,decide_eq_false hw,Bool.or_false]
  ·have h1:i∉ij n rates fixed (cA n rates fixed):=fun hw=>hi (by rw[h.nf]; exact Kq hw)
   rw[decide_eq_false h1,Bool.or_false]
   unfold jw
   have e1:(dQ fixed (ij n rates fixed (cA n rates fixed)) true)[i]?=none:=List.getElem?_eq_none (by rw[dH]; omega)
   have e2:fixed[i]?=none:=List.getElem?_eq_none (by omega)
   rw[e1,e2]
 refine⟨_,P',⟨by rw[dH]; exact h.nr,by rw[dH]; exact h.nf,fun i hi hf=>?_,by rw[XN]; exact hI⟩,?_⟩
 ·rw[rX _ _ _ _ (by rw[h.nr]; exact hi)]
  rw[rX _ _ _ _ (by rw[h.nf]; exact hi)]at hf
  by_cases hw:i∈ij n rates fixed (cA n rates fixed)
  ·simp[hw]
  ·simp only[hw,if_false]at hf ⊢
   simp only[decide_false,Bool.false_eq_true,if_false]
   exact h.r i hi hf
 ·show ct (fun i=>!jw (dQ fixed _ true) i) n.af.length<_
  have e:(fun i=>!jw (dQ fixed (ij n rates fixed (cA n rates fixed)) true) i)=fun i=>!(jw fixed i||decide (i∈ij n rates fixed (cA n rates fixed))):=by
   funext i; rw[show jw (dQ fixed _ true) i=_ from congrFun XN i]
  rw[e]
  obtain⟨i,hi,hw⟩:=g.some
  have Rk:=tu (p:=fun i=>!jw fixed i) (q:=fun i=>decide (i∈ij n rates fixed (cA n rates fixed))) (n:=n.af.length)
  have hp:=rV (p:=fun i=>!jw fixed i&&decide (i∈ij n rates fixed (cA n rates fixed))) (n:=n.af.length) hi (by rw[g.sub i hi hw,hw]; rfl)
  have e2:ct (fun i=>!(jw fixed i||decide (i∈ij n rates fixed (cA n rates fixed)))) n.af.length=ct (fun i=>!jw fixed i&&!decide (i∈ij n rates fixed (cA n rates fixed))) n.af.length:=nE fun j _=>by cases jw fixed j<;>rfl
  show _<ct (fun i=>!jw fixed i) n.af.length
  rw[e2]; omega
end
end Go.Proofs.Ytedjbjphpnkpoaa
end
section
/- Plain facts of this seat: Share returns the fair rates. -/
set_option maxRecDepth 100000
set_option maxHeartbeats 4000000
namespace Go.Proofs.Ytedjbjphpnkpoaa
open Go.PI Go.Pl Go.Mm
theorem HG{γ:Type}{l:List γ}{i:Nat}(h:i<l.length):l[0+(i:Int).toNat]?=some l[i]:=by
 rw[Nat.zero_add,Int.toNat_natCast]; exact List.getElem?_eq_getElem h
theorem Mb{i m:Nat}(h:i<m):decide ((i:Int).toNat<m)=true:=decide_eq_true (by rw[Int.toNat_natCast]; exact h)
theorem Kr(m:Rat)(l:List Rat)(q:Rat):BD m (l++[q])=if q<BD m l then q else BD m l:=by
 unfold BD; rw[List.foldl_append]; rfl
theorem Ks{n:bP}(hb:vN n=true):∃ r,aa.cw n=some r∧r.2=0∧∃ x lo P,mc n r.1 (List.replicate n.af.length true) x lo P:=by
 have hv:=Kl hb
 have R8:=hv.nf
 have hL8:=hv.nc
 have HD:∀ l∈n.af,l.length≤2^62:=fun l hl=>hv.PL hl
 have eN:((n.af.length:Int)).toNat=n.af.length:=Int.toNat_natCast _
 unfold aa.cw
 refine qU (Nc HD) (HE (by rw[hb]; rfl) (pR (by rw[eN]; simp only[Bool.and_eq_true,decide_eq_true_eq]; omega) (pR (by rw[eN]; simp only[Bool.and_eq_true,decide_eq_true_eq]; omega) ?_)))
 refine qU (v:=((n.ay.length:Int),(List.range n.ay.length).map iH)) (eA (fun i=>((i:Int),(List.range i).map iH)) n.ay.length _ (fun i hi=>?_) (bF (dZ _) rfl) rfl) ?_
 ·refine bT (dN hi) (bT (by rw[List.length_map,List.length_range]; exact mv (by omega) (by omega)) ?_)
  rw[eK (by omega),List.range_succ,List.map_append]; rfl
 refine qU (v:=((n.aD.length:Int),pS n)) (eA (fun i=>((i:Int),(List.range n.ay.length).map iH++(List.range i).map rW)) n.aD.length _ (fun i hi=>?_) (bF (dZ _) (by rw[hv.nl]; rfl)) (by simp)) ?_
 ·have:=hv.nl
  refine bT (dN hi) (bT (by simp only[List.length_append,List.length_map,List.length_range]; exact mv (by omega) (by omega)) ?_)
  rw[eK (by omega),List.range_succ,List.map_append,List.append_assoc]; rfl
 refine Nh (fun s=>∃ x lo P,mc n s.1 s.2 x lo P) (fun s=>E6 n s.2) (fun w=>(∃ x lo P,mc n w.1 w.2 x lo P)∧false∉w.2) ?_ ?_ ?_
 ·rintro⟨rates,fixed⟩ ⟨x,lo,P,h⟩
  have Sa:rates.length=n.af.length:=h.nr
  have Sb:fixed.length=n.af.length:=h.nf
  have h':mc n rates fixed x lo P:=h
  have hc:=Kk (l:=fixed) (by omega) false
  have er:decide (rates.length=(List.replicate ((n.af.length:Int)).toNat (ai.mk 0 0)).length)=true:=decide_eq_true (by rw[List.length_replicate,eN]; exact Sa)
  have ef:decide (fixed.length=(List.replicate ((n.af.length:Int)).toNat false).length)=true:=decide_eq_true (by rw[List.length_replicate,eN]; exact Sb)
  by_cases hm:false∈fixed
  ·obtain⟨x',P',hS,bS⟩:=Nk hv h' hm
   refine .inl ⟨(_,_),?_,⟨x',_,P',hS⟩,bS⟩
   obtain⟨s0,rest,ha⟩:=Gs hv h' hm
   have ZB:=Ni hv h' hm
   have Vt:=Kp (n:=n) (rates:=rates) (fixed:=fixed) hv
   have bg:=CN n
   refine bB hc (bT (decide_eq_true hm) ?_)
   refine bB (v:=(((pS n).length:Int),(eC n rates fixed).map (lv n rates fixed),eC n rates fixed)) (eA (fun i=>((i:Int),(((pS n).take i).filter (act n rates fixed)).map (lv n rates fixed),((pS n).take i).filter (act n rates fixed))) (pS n).length _ (fun i hi=>?_) (bF (dZ _) (by simp only[List.take_length]; rfl)) rfl) ?_
   ·have hl:=PN hv h' (List.getElem_mem hi)
    have TZ:=uH (p:=act n rates fixed) hi
    have ZC:=rY (act n rates fixed) ((pS n).take i)
    have rT:((pS n).take i).length≤16:=by rw[List.length_take]; omega
    refine bT (dN hi) (bT (ba i) (bT (Mb hi) (bB (HG hi) ?_)))
    rw[eK (by omega),TZ]
    generalize (pS n)[i]=s at hl
    obtain⟨A,N⟩:=s
    cases A with
    |true=>
     refine bT rfl (bB hl ?_)
     cases act n rates fixed ⟨true,N⟩ with
     |false=>exact bF rfl (by simp)
     |true=>exact bT rfl (bT (by rw[List.length_map]; exact mv (by omega) (by omega)) (bT (mv (by omega) (by omega)) (by simp)))
    |false=>
     refine bF rfl (bB hl ?_)
     cases act n rates fixed ⟨false,N⟩ with
     |false=>exact bF rfl (by simp)
     |true=>exact bT rfl (bT (by rw[List.length_map]; exact mv (by omega) (by omega)) (bT (mv (by omega) (by omega)) (by simp)))
   have nq:∀ {i:Nat} (hi:i<(eC n rates fixed).length),((eC n rates fixed).map (lv n rates fixed))[0+(i:Int).toNat]?=some (hX (rq n rates fixed (eC n rates fixed)[i])):=fun {i} hi=>by
    rw[Nat.zero_add,Int.toNat_natCast,List.getElem?_map,List.getElem?_eq_getElem hi,Option.map_some,(gq hv h' (List.getElem_mem hi)).1]
   have DX:s0∈eC n rates fixed:=by rw[ha]; simp
   have e9:0<(eC n rates fixed).length:=by rw[ha]; simp
   refine bT (decide_eq_true (by rw[List.length_map]; exact e9)) (bB (v:=hX (rq n rates fixed s0)) (by rw[ha,List.map_cons,List.getElem?_cons_zero,(gq hv h' DX).1]) ?_)
   have UO:∀ i,dj (BD (rq n rates fixed s0) (((eC n rates fixed).take i).map (rq n rates fixed))):=fun i=>by
    rcases Gr (((eC n rates fixed).take i).map (rq n rates fixed)) (rq n rates fixed s0) with e|e
    ·rw[e]; exact(gq hv h' DX).2.1
    ·obtain⟨t,ht,e⟩:=List.mem_map.1 e
     rw[←e]; exact(gq hv h' (List.mem_of_mem_take ht)).2.1
   refine bB (v:=(((eC n rates fixed).length:Int),(cA n rates fixed).num,((cA n rates fixed).den:Int))) (eA (fun i=>((i:Int),(BD (rq n rates fixed s0) (((eC n rates fixed).take i).map (rq n rates fixed))).num,((BD (rq n rates fixed s0) (((eC n rates fixed).take i).map (rq n rates fixed))).den:Int))) (eC n rates fixed).length _ (fun i hi=>?_) (bF (by rw[List.length_map]; exact dZ _) ?_) rfl) ?_
   ·have hf:=gq hv h' (List.getElem_mem hi)
    have Sc:=Na hf.2.1 (UO i)
    refine bT (by rw[List.length_map]; exact dN hi) (bT (ba i) (bT (by rw[List.length_map]; exact Mb hi) (bB (nq hi) (bB Sc ?_))))
    rw[eK (by omega),List.take_succ_eq_append_getElem hi,List.map_append,List.map_cons,List.map_nil,Kr]
    by_cases hq:rq n rates fixed (eC n rates fixed)[i]<BD (rq n rates fixed s0) (((eC n rates fixed).take i).map (rq n rates fixed))
    ·rw[if_pos hq]; exact bT (decide_eq_true hq) rfl
    ·rw[if_neg hq]; exact bF (decide_eq_false hq) rfl
   ·rw[List.take_length]
    have:cA n rates fixed=BD (rq n rates fixed s0) ((eC n rates fixed).map (rq n rates fixed)):=by unfold cA; rw[ha]
    rw[this]
   have T6:∀ s m,(A5 n rates fixed (cA n rates fixed) s m).length≤m:=fun s m=>by
    have:=rY (IB n fixed (cA n rates fixed) (rq n rates fixed s) s) (List.range m)
    rw[List.length_range]at this; exact this
   refine bB (v:=(((eC n rates fixed).length:Int),(ij n rates fixed (cA n rates fixed)).map fun i:Nat=>(i:Int))) (eA (fun k=>((k:Int),(((eC n rates fixed).take k).flatMap fun s=>A5 n rates fixed (cA n rates fixed) s n.af.length).map fun i:Nat=>(i:Int))) (eC n rates fixed).length _ (fun k hk=>?_) (bF (dZ _) (by rw[List.take_length]; rfl)) rfl) ?_
   ·refine bT (dN hk) (bT (ba k) (bT (Mb hk) (bB (HG hk) ?_)))
    have Vu:=nq hk
    have Sd:((eC n rates fixed).take (k+1)).flatMap (fun s=>A5 n rates fixed (cA n rates fixed) s n.af.length)=((eC n rates fixed).take k).flatMap (fun s=>A5 n rates fixed (cA n rates fixed) s n.af.length)++A5 n rates fixed (cA n rates fixed) (eC n rates fixed)[k] n.af.length:=by
     rw[List.take_succ_eq_append_getElem hk,List.flatMap_append]; simp
    have yH:(((eC n rates fixed).take k).flatMap fun s=>A5 n rates fixed (cA n rates fixed) s n.af.length).length≤128:=by
     have h1:=xN (l:=(eC n rates fixed).take k) (f:=fun s=>A5 n rates fixed (cA n rates fixed) s n.af.length) (b:=8) (fun s _=>Nat.le_trans (T6 s _) R8)
     have h2:((eC n rates fixed).take k).length≤16:=by rw[List.length_take]; omega
     omega
    rw[Sd,List.map_append]
    have hf:=gq hv h' (List.getElem_mem hk)
    have L3:∀ j (hj:j<n.af.length),fixed[0+(j:Int).toNat]?=some (jw fixed j):=fun j hj=>by
     rw[Nat.zero_add,Int.toNat_natCast,List.getElem?_eq_getElem (by omega)]
     unfold jw; rw[List.getElem?_eq_getElem (by omega)]; rfl
    generalize Se:(((eC n rates fixed).take k).flatMap fun s=>A5 n rates fixed (cA n rates fixed) s n.af.length).map (fun i:Nat=>(i:Int))=base
    have ZD:base.length≤128:=by rw[←Se,List.length_map]; exact yH
    generalize hs:(eC n rates fixed)[k]=s at Vu hf
    have dF:∀ j,A5 n rates fixed (cA n rates fixed) s (j+1)=A5 n rates fixed (cA n rates fixed) s j++bif IB n fixed (cA n rates fixed) (rq n rates fixed s) s j then [j] else []:=fun j=>tA
    obtain⟨A,N⟩:=s
    cases A with
    |true=>
     refine bT rfl (bB (v:=((n.af.length:Int),base++(A5 n rates fixed (cA n rates fixed) ⟨true,N⟩ n.af.length).map fun i:Nat=>(i:Int))) (eA (fun j=>((j:Int),base++(A5 n rates fixed (cA n rates fixed) ⟨true,N⟩ j).map fun i:Nat=>(i:Int))) n.af.length _ (fun j hj=>?_) (bF (dZ _) rfl) (by simp[A5])) ?_)
     ·obtain⟨l,hN⟩:∃ l:Nat,N=(l:Int):=by
       rcases hf.2.2 with ⟨l,_,e,_⟩|⟨i,_,e,_⟩
       ·exact⟨l,congrArg dP.N e⟩
       ·cases congrArg dP.A e
      subst hN
      have ZE:=T6 ⟨true,(l:Int)⟩ j
      refine bT (dN hj) (bT (ba k) (bT (by rw[List.length_map]; exact Mb hk) (bB Vu ?_)))
      rw[eK (by omega),dF j]
      by_cases hq:rq n rates fixed ⟨true,(l:Int)⟩=cA n rates fixed
      ·refine bT (by rw[tz]; exact decide_eq_true hq) (bT (ba j) (bT (Mb (by omega)) (bB (L3 j hj) ?_)))
       cases PR:jw fixed j with
       |true=>exact bF rfl (by simp[IB,PR])
       |false=>
        refine bT rfl (bB (E5 hv l hj) ?_)
        have gJ:Ko n ⟨true,(l:Int)⟩ j=jf n l j:=by simp[Ko]
        cases oJ:jf n l j with
        |false=>exact bF rfl (by simp[IB,gJ,oJ])
        |true=>exact bT rfl (bT (by rw[List.length_append,List.length_map]; exact mv (by omega) (by omega)) (by simp[IB,gJ,oJ,PR,hq]))
      ·exact bF (by rw[tz]; exact decide_eq_false hq) (by simp[IB,hq])
     ·rw[eK (by omega)]
    |false=>
     refine bF rfl (bB (v:=((n.af.length:Int),base++(A5 n rates fixed (cA n rates fixed) ⟨false,N⟩ n.af.length).map fun i:Nat=>(i:Int))) (eA (fun j=>((j:Int),base++(A5 n rates fixed (cA n rates fixed) ⟨false,N⟩ j).map fun i:Nat=>(i:Int))) n.af.length _ (fun j hj=>?_) (bF (dZ _) rfl) (by simp[A5])) ?_)
     ·have ZE:=T6 ⟨false,N⟩ j
      refine bT (dN hj) (bT (ba k) (bT (by rw[List.length_map]; exact Mb hk) (bB Vu ?_)))
      rw[eK (by omega),dF j]
      by_cases hq:rq n rates fixed ⟨false,N⟩=cA n rates fixed
      ·refine bT (by rw[tz]; exact decide_eq_true hq) (bT (ba j) (bT (Mb (by omega)) (bB (L3 j hj) ?_)))
       cases PR:jw fixed j with
       |true=>exact bF rfl (by simp[IB,PR])
       |false=>
        refine bT rfl (bB (v:=N==(j:Int)) rfl ?_)
        have gJ:Ko n ⟨false,N⟩ j=(N==(j:Int)):=by simp[Ko]
        cases oJ:(N==(j:Int)) with
        |false=>exact bF rfl (by simp[IB,gJ,oJ])
        |true=>exact bT rfl (bT (by rw[List.length_append,List.length_map]; exact mv (by omega) (by omega)) (by simp[IB,gJ,oJ,PR,hq]))
      ·exact bF (by rw[tz]; exact decide_eq_false hq) (by simp[IB,hq])
     ·rw[eK (by omega)]
   have TM:(ij n rates fixed (cA n rates fixed)).length≤128:=by
    have h1:=xN (l:=eC n rates fixed) (f:=fun s=>A5 n rates fixed (cA n rates fixed) s n.af.length) (b:=8) (fun s _=>Nat.le_trans (T6 s _) R8)
    unfold ij; omega
   refine bB (v:=(((ij n rates fixed (cA n rates fixed)).length:Int),dQ rates (ij n rates fixed (cA n rates fixed)) (hX (cA n rates fixed)),dQ fixed (ij n rates fixed (cA n rates fixed)) true))
    (eA (fun t=>((t:Int),dQ rates ((ij n rates fixed (cA n rates fixed)).take t) (hX (cA n rates fixed)),dQ fixed ((ij n rates fixed (cA n rates fixed)).take t) true)) (ij n rates fixed (cA n rates fixed)).length _ (fun t ht=>?_) (bF (by rw[List.length_map]; exact dZ _) (bT (decide_eq_true (dH _ _ _)) (bT (decide_eq_true (dH _ _ _)) (by rw[List.take_length])))) rfl) ?_
   ·have bS:=Kq (List.getElem_mem ht)
    have l1:(dQ rates ((ij n rates fixed (cA n rates fixed)).take t) (hX (cA n rates fixed))).length=n.af.length:=by rw[dH]; exact Sa
    have l2:(dQ fixed ((ij n rates fixed (cA n rates fixed)).take t) true).length=n.af.length:=by rw[dH]; exact Sb
    refine bT (by rw[List.length_map]; exact dN ht) (bT (ba t) (bT (by rw[List.length_map]; exact Mb ht) (bB (v:=((ij n rates fixed (cA n rates fixed))[t]:Int)) (by rw[Nat.zero_add,Int.toNat_natCast,List.getElem?_map,List.getElem?_eq_getElem ht]; rfl) ?_)))
    refine bT (ba _) (bT (Mb (by omega)) (bB (HG (by omega)) (bT (ba _) (bT (Mb (by omega)) (bB (HG (by omega)) ?_)))))
    refine bT (decide_eq_true (by rw[List.length_set]; exact dH _ _ _)) (bT (decide_eq_true (by rw[List.length_set]; exact dH _ _ _)) ?_)
    rw[eK (by omega),vO _ _ _ ht,vO _ _ _ ht,Nat.zero_add,Int.toNat_natCast]; rfl
   exact bT (decide_eq_true (by rw[dH,List.length_replicate,eN]; exact Sa)) (bT (decide_eq_true (by rw[dH,List.length_replicate,eN]; exact Sb)) rfl)
  ·exact .inr ⟨(rates,fixed),bB hc (bF (decide_eq_false hm) (bT er (bT ef rfl))),⟨x,lo,P,h⟩,hm⟩
 ·rw[eN]
  refine⟨fun _=>0,0,1,by simp,by simp,fun i hi hf=>?_,?_⟩
  ·rw[List.getElem?_replicate]at hf; split at hf<;>simp at hf
  ·have:(fun i:Nat=>(List.replicate n.af.length false)[i]?.getD false)=fun _=>false:=by
    funext i
    rw[List.getElem?_replicate]
    split<;>rfl
   show Mm.Inv (bR n) (fun i:Nat=>(List.replicate n.af.length false)[i]?.getD false) _ _ _
   rw[this]
   exact EX R8 (fun l hl=>by rw[(hv.cap hl).1]; exact_mod_cast (hv.cap hl).2.1) (fun i hi hh=>by obtain⟨k,_,e,_,k0,_⟩:=hv.lY hi; rw[e]; exact_mod_cast k0) _
 ·rintro⟨rates,fixed⟩ ⟨⟨x,lo,P,h⟩,hm⟩
  refine⟨_,rfl,rfl,x,lo,P,?_⟩
  have Sb:fixed.length=n.af.length:=h.nf
  have AA:false∉fixed:=hm
  have:fixed=List.replicate n.af.length true:=by
   rw[List.eq_replicate_iff]
   exact⟨Sb,fun b hb=>by cases b with|true=>rfl|false=>exact absurd hb AA⟩
  have h2:mc n rates fixed x lo P:=h
  rw[this]at h2
  exact h2
end Go.Proofs.Ytedjbjphpnkpoaa
end
section
/- Plain facts of this seat: the fair rates; the law MaxminScale. -/
set_option maxRecDepth 100000
set_option maxHeartbeats 1000000
namespace Go.Proofs.Ytedjbjphpnkpoaa
open Go.PI Go.Pl Go.Mm
structure Sh(n:bP)(xs:List ai)(x:Nat→Rat):Prop where
 e:aa.cw n=some (xs,0)
 len:xs.length=n.af.length
 fair:Mm.Fair (bR n) x
 get:∀ i,i<n.af.length→xs[i]?=some (hX (x i))
 nn:∀ i,i<n.af.length→0≤x i∧x i≤1000
 fit:∀ i,i<n.af.length→dj (x i)∧(x i).den≤18
 dv:∃ P:Nat,1≤P∧P≤18∧∀ i,i<n.af.length→Dv P (x i)
theorem xO{n:bP}(hb:vN n=true):∃ xs x,Sh n xs x:=by
 have hv:=Kl hb
 obtain⟨⟨xs,e⟩,h1,h2,x,lo,P,h⟩:=Ks hb
 obtain rfl:e=0:=h2
 have h':mc n xs (List.replicate n.af.length true) x lo P:=h
 have bg:∀ i,i<(bR n).F→(fun i:Nat=>(List.replicate n.af.length true)[i]?.getD false) i=true:=fun i hi=>by
  show (List.replicate n.af.length true)[i]?.getD false=true
  rw[List.getElem?_replicate,if_pos (show i<n.af.length from hi)]; rfl
 obtain⟨hf,hd⟩:=Ke h'.inv bg
 have hx:∀ i,i<n.af.length→0≤x i∧x i≤1000:=fun i hi=>by
  obtain⟨l,hl,oJ⟩:=hv.ex hi
  obtain⟨hc,_,IY⟩:=hv.cap hl
  have yL:sm (jf n l) x n.af.length≤(bR n).c l:=hf.A3.cap l hl
  have PM:∀ j,j<n.af.length→jf n l j=true→0≤x j:=fun j hj _=>hf.A3.nn j hj
  have h2:=(oa PM (i:=i+1) (by omega)).2
  have h3:=(oa PM (i:=i) (by omega)).1
  simp only[sm,oJ,cond_true]at h2
  have h4:(bR n).c l≤1000:=by rw[hc]; exact_mod_cast IY
  exact⟨hf.A3.nn i hi,by grind⟩
 refine⟨xs,x,h1,h'.nr,hf,fun i hi=>h'.r i hi (by rw[List.getElem?_replicate,if_pos hi]),hx,fun i hi=>?_,P,h'.inv.P1,h'.PF,fun i hi=>(hd i hi).1⟩
 obtain⟨d1,d2⟩:=hd i hi
 have PG:=h'.inv.P1
 have:=xK PG (by omega) d1 (hx i hi).1 (hx i hi).2
 exact⟨this.1,by omega⟩
end Go.Proofs.Ytedjbjphpnkpoaa
end
section
/- Plain facts of this seat: the reference's ratios; the law MaxminNoMore. -/
set_option maxRecDepth 100000
set_option maxHeartbeats 1000000
namespace Go.Proofs.Ytedjbjphpnkpoaa
open Go.PI Go.Pl Go.Mm
theorem Sf(a b:Nat):aa.fi (a:Int) (b:Int)=some ((Nat.gcd a b:Nat):Int):=by
 unfold aa.fi
 have key:∀ m (a b:Nat),b<m→aO (ω:=Int×Int) (fun ((i1,i2):Int×Int)=>
   bif !i2==0 then bif decide (i2=0) then none else some (Sum.inl (i2,i1.tmod i2)) else some (Sum.inr (i1,i2))) ((a:Int),(b:Int))=some (((Nat.gcd a b:Nat):Int),0):=by
  intro m
  induction m with
  |zero=>intro a b h; omega
  |succ m ih=>
   intro a b h
   by_cases h0:b=0
   ·subst h0
    rw[Nat.gcd_zero_right]; exact out rfl
   ·have Vo:((b:Int)==0)=false:=by simp; omega
    have hr:((a:Int).tmod (b:Int))=((a%b:Nat):Int):=by rw[Int.tmod_eq_emod_of_nonneg (by omega)]; simp
    have g1:Nat.gcd a b=Nat.gcd b (a%b):=by rw[Nat.gcd_comm a b,Nat.gcd_rec b a,Nat.gcd_comm]
    have bS:=Nat.mod_lt a (Nat.pos_of_ne_zero h0)
    rw[g1]
    exact(next (y:=((b:Int),((a%b:Nat):Int))) (bT (congrArg not Vo) (bF (decide_eq_false (by omega)) (congrArg (fun z=>some (Sum.inl ((b:Int),z))) hr)))).trans (ih b (a%b) (by omega))
 exact bB (key (b+1) a b (Nat.lt_succ_self _)) rfl
theorem tB{q:Rat}(h:dj q):aa.cN (hX q)=some true:=by
 unfold aa.cN aa.ik aa.ld
 have d:=lM h
 have h1:=h.1
 have h2:=h.2.1
 have g:Nat.gcd q.num.natAbs q.den=1:=q.reduced
 refine bB (v:=true) (bT (decide_eq_true h.1) (bT (decide_eq_true h.2.1) (bT (decide_eq_true d.2) (congrArg some (decide_eq_true d.1))))) (bT rfl (bB (v:=(q.num.natAbs:Int)) (congrArg some (abs_eq (n:=q.num) (by omega) (by omega))) (bB (Sf q.num.natAbs q.den) ?_)))
 rw[g]; rfl
theorem A6{p q:Rat}(hp:dj p)(hq:dj q):aa.fj (hX p) (hX q)=some (pP p q,0):=by
 unfold aa.fj
 have dp:=lM hp
 have dq:=lM hq
 have m1:=kD hp.1 hp.2.1 (b:=(q.den:Int)) (by omega) (by omega)
 have m2:=kD hq.1 hq.2.1 (b:=(p.den:Int)) (by omega) (by omega)
 refine bB (tB hp) (bF rfl (bB (tB hq) (bF rfl ?_)))
 have w1:IntKind.i64.wrap ((hX p).du*(hX q).Den)=p.num*(q.den:Int):=dg (n:=p.num*(q.den:Int)) (by omega) (by omega)
 have w2:IntKind.i64.wrap ((hX q).du*(hX p).Den)=q.num*(p.den:Int):=dg (n:=q.num*(p.den:Int)) (by omega) (by omega)
 rw[w1,w2]
 unfold pP
 by_cases h1:p<q
 ·rw[if_pos h1]
  exact bT (decide_eq_true ((Rat.lt_iff p q).1 h1)) rfl
 ·rw[if_neg h1]
  refine bF (decide_eq_false fun h=>h1 ((Rat.lt_iff p q).2 h)) ?_
  by_cases h2:q<p
  ·rw[if_pos h2]
   exact bT (decide_eq_true ((Rat.lt_iff q p).1 h2)) rfl
  ·rw[if_neg h2]
   exact bF (decide_eq_false fun h=>h2 ((Rat.lt_iff q p).2 h)) rfl
section
variable {γ:Type}{Q:γ→Prop}
theorem PS{τ ω:Type}{f:τ→Option (τ ⊕ ω)}{x0:τ}{K:ω→Option γ}(N:Nat)(I:Nat→τ→Prop)(P:ω→Prop)(h:∀ i s,i<N→I i s→∃ r,f s=some r∧∃ s',r=.inl s'∧I (i+1) s')
  (he:∀ s,I N s→∃ r,f s=some r∧∃ w,r=.inr w∧P w) (h0:I 0 x0) (hk:∀ w,P w→∃ r,K w=some r∧Q r):∃ r,(aO f x0).bind K=some r∧Q r:=by
 have key:∀ m i s,m=N-i→i≤N→I i s→∃ w,aO f s=some w∧P w:=by
  intro m
  induction m with
  |zero=>
   intro i s hm hi hI
   obtain rfl:i=N:=by omega
   obtain⟨_,h1,w,rfl,h2⟩:=he s hI
   exact⟨w,out h1,h2⟩
  |succ m ih=>
   intro i s hm hi hI
   obtain⟨_,h1,s',rfl,h2⟩:=h i s (by omega) hI
   obtain⟨w,h3,h4⟩:=ih (i+1) s' (by omega) (by omega) h2
   exact⟨w,by rw[next h1,h3],h4⟩
 obtain⟨w,h1,h2⟩:=key N 0 x0 rfl (Nat.zero_le _) h0
 exact qU h1 (hk w h2)
end
/-! ### A possible choice -/
theorem Nl{γ:Type}{l:List γ}{i j:Nat}{v:γ}(h:i<l.length):(l.set i v)[j]?=if j=i then some v else l[j]?:=by
 rw[List.getElem?_set]
 by_cases e:i=j
 ·subst e; simp[h]
 ·rw[if_neg e,if_neg fun q=>e q.symm]
end Go.Proofs.Ytedjbjphpnkpoaa
end
section
/- Plain facts of this seat: the law MaxminNoMore. -/
set_option maxRecDepth 100000
set_option maxHeartbeats 1000000
namespace Go.Proofs.Ytedjbjphpnkpoaa
open Go.PI Go.Pl Go.Mm
theorem Nm(q:Rat):q*(q.den:Rat)=(q.num:Rat):=by
 have hd:((q.den:Nat):Rat)≠0:=fun e=>absurd (show q.den=0 by exact_mod_cast e) (by have:=q.den_pos; omega)
 have e:q=(q.num:Rat)/(q.den:Rat):=by rw[←Rat.mkRat_eq_div,Rat.mkRat_self]
 have e2:q*(q.den:Rat)=(q.num:Rat)/(q.den:Rat)*(q.den:Rat):=congrArg (·*(q.den:Rat)) e
 rw[e2,Rat.div_def,Rat.mul_assoc,Rat.inv_mul_cancel _ hd,Rat.mul_one]
theorem PT{q:Rat}{v d:Int}:q.num*d<v*(q.den:Int)↔q*(d:Rat)<(v:Rat):=by
 have hd:(0:Rat)<(q.den:Rat):=by exact_mod_cast q.den_pos
 rw[←Rat.mul_lt_mul_right hd,show q*(d:Rat)*(q.den:Rat)=(q.num:Rat)*(d:Rat) by rw[←Nm q]; grind]
 exact_mod_cast Iff.rfl
end Go.Proofs.Ytedjbjphpnkpoaa
end
section
/- Plain facts of this seat: the reference's sums. -/
set_option maxRecDepth 100000
set_option maxHeartbeats 1000000
namespace Go.Proofs.Ytedjbjphpnkpoaa
open Go.PI Go.Pl Go.Mm
theorem Nn{n:Int}{d:Nat}(h1 : -9223372036854775807≤n)(h2:n≤9223372036854775807)(h3:1≤d)(h4:d≤9223372036854775807):aa.ed n d=some (if dj (mkRat n d) then (hX (mkRat n d),0) else (⟨0,0⟩,3)):=by
 unfold aa.ed aa.ld
 have hg:=Sf n.natAbs d
 have e9:0<Nat.gcd n.natAbs d:=Nat.gcd_pos_of_pos_right _ (by omega)
 have OB:((Nat.gcd n.natAbs d:Nat):Int)∣n:=Int.ofNat_dvd_left.2 (Nat.gcd_dvd_left _ _)
 have e1:(mkRat n d).num=n/((Nat.gcd n.natAbs d:Nat):Int):=by rw[Rat.num_mkRat,if_neg (by omega),Nat.gcd_comm]
 have e2:(mkRat n d).den=d/Nat.gcd n.natAbs d:=by rw[Rat.den_mkRat,if_neg (by omega),Nat.gcd_comm]
 have b1:n.tdiv ((Nat.gcd n.natAbs d:Nat):Int)=n/((Nat.gcd n.natAbs d:Nat):Int):=Int.tdiv_eq_ediv_of_dvd OB
 have b2:(d:Int).tdiv ((Nat.gcd n.natAbs d:Nat):Int)=((d/Nat.gcd n.natAbs d:Nat):Int):=by
  rw[Int.tdiv_eq_ediv_of_nonneg (by omega)]; simp
 have c1:=EZ (n:=n) h3
 have c2:d/Nat.gcd n.natAbs d≤d:=Nat.div_le_self _ _
 have hd0:=(mkRat n d).den_pos
 refine bF (decide_eq_false (by omega)) (bB (v:=((n.natAbs:Nat):Int)) (congrArg some (abs_eq h1 h2)) (bB hg (bF (decide_eq_false (by omega)) (bF (decide_eq_false (by omega)) ?_))))
 have w1:IntKind.i64.wrap (n.tdiv ((Nat.gcd n.natAbs d:Nat):Int))=(mkRat n d).num:=by rw[b1,←e1,dg (by omega) (by omega)]
 have w2:IntKind.i64.wrap ((d:Int).tdiv ((Nat.gcd n.natAbs d:Nat):Int))=((mkRat n d).den:Int):=by rw[b2,←e2,dg (by omega) (by omega)]
 rw[w1,w2]
 have gQ:aa.ik (mkRat n d).num ((mkRat n d).den:Int)=some (decide (dj (mkRat n d))):=by
  unfold aa.ik
  by_cases a1 : -1000000000≤(mkRat n d).num
  ·refine bT (decide_eq_true a1) ?_
   by_cases a2:(mkRat n d).num≤1000000000
   ·refine bT (decide_eq_true a2) (bT (decide_eq_true (by omega)) (congrArg some ?_))
    rw[decide_eq_decide]; unfold dj; omega
   ·exact bF (decide_eq_false a2) (congrArg some (decide_eq_false (by unfold dj; omega)).symm)
  ·exact bF (decide_eq_false a1) (congrArg some (decide_eq_false (by unfold dj; omega)).symm)
 refine bB gQ ?_
 by_cases hf:dj (mkRat n d)
 ·rw[if_pos hf,decide_eq_true hf]
  exact bF rfl (bF (decide_eq_false (by omega)) (bF (decide_eq_false (by omega)) rfl))
 ·rw[if_neg hf,decide_eq_false hf]; rfl
theorem No{p q:Rat}(hp:dj p)(hq:dj q):aa.qA (hX p) (hX q)=some (if dj (p+q) then (hX (p+q),0) else (⟨0,0⟩,3)):=by
 unfold aa.qA
 have dp:=lM hp
 have dq:=lM hq
 have m1:=kD hp.1 hp.2.1 (b:=(q.den:Int)) (by omega) (by omega)
 have m2:=kD hq.1 hq.2.1 (b:=(p.den:Int)) (by omega) (by omega)
 have m3:=kD (a:=(p.den:Int)) (b:=(q.den:Int)) (by omega) (by omega) (by omega) (by omega)
 have m4:1≤p.den*q.den:=Nat.mul_pos p.den_pos q.den_pos
 have e3:(p.den:Int)*(q.den:Int)=((p.den*q.den:Nat):Int):=by simp
 refine bB (tB hp) (bF rfl (bB (tB hq) (bF rfl ?_)))
 show (aa.ed (IntKind.i64.wrap (IntKind.i64.wrap (p.num*(q.den:Int))+IntKind.i64.wrap (q.num*(p.den:Int)))) (IntKind.i64.wrap ((p.den:Int)*(q.den:Int)))).bind (fun x=>some (x.1,x.2))=_
 rw[dg (n:=p.num*(q.den:Int)) (by omega) (by omega),dg (n:=q.num*(p.den:Int)) (by omega) (by omega),dg (n:=p.num*(q.den:Int)+q.num*(p.den:Int)) (by omega) (by omega),dg (n:=(p.den:Int)*(q.den:Int)) (by omega) (by omega),e3]
 refine bB (Nn (by omega) (by omega) m4 (by omega)) ?_
 rw[Rat.add_def']
theorem PU{l:List Int}(hl:l.length≤2^62)(v:Int):aa.kg l v=some (decide (v∈l)):=by
 unfold aa.kg
 have key:=pM (ω:=Bool ⊕ Bool×Int) (f:=fun ((b1,i2):Bool×Int)=>bif decide (i2<(↑l.length:Int)) then bif decide (0≤i2) then (l[i2.toNat]?).bind fun i3=>bif i3==v then some (Sum.inr (Sum.inl true)) else some (Sum.inl (b1,IntKind.i64.wrap (i2+1))) else none else some (Sum.inr (Sum.inr (b1,i2))))
  (fun i=>(false,(i:Int))) (fun i=>(l[i]?.map fun x=>!(x==v)).getD false) (fun i=>Sum.inl true) l.length (Sum.inr (false,(l.length:Int))) (fun i hi=>by
    refine bT (dN hi) (bT (ba i) (bB (get_at hi) ?_))
    rw[List.getElem?_eq_getElem hi,eK (by omega)]
    show (bif l[i]==v then _ else _)=some (bif !(l[i]==v) then _ else _)
    cases l[i]==v<;>rfl) (bF (dZ _) rfl)
 rcases key with ⟨h1,h2⟩|⟨h1,i,hi,hp,h2⟩
 ·refine bB h2 ?_
  rw[show decide (v∈l)=false from decide_eq_false fun hm=>?_]; ·rfl
  obtain⟨i,hi,rfl⟩:=List.getElem_of_mem hm
  have:=List.all_eq_true.1 h1 i (List.mem_range.2 hi)
  rw[List.getElem?_eq_getElem hi]at this
  simp at this
 ·refine bB h2 ?_
  rw[show decide (v∈l)=true from decide_eq_true ?_]; ·rfl
  rw[List.getElem?_eq_getElem hi]at hp
  simp only[Option.map_some,Option.getD_some,Bool.not_eq_false',beq_iff_eq]at hp
  rw[←hp]; exact List.getElem_mem _
theorem VN.ZF{n:bP}(h:VN n){l i:Nat}(hi:i<n.af.length):aa.kg n.af[i] (l:Int)=some (jf n l i):=by
 rw[PU (h.PL (List.getElem_mem _))]
 unfold jf
 rw[List.getElem?_eq_getElem hi]; rfl
theorem HH{a:List ai}(hl:a.length≤2^62):aa.il a a=some true:=by
 unfold aa.il
 refine bF (by simp) (bB (v:=Sum.inr (false,(a.length:Int))) (eA (fun i=>(false,(i:Int))) a.length _ (fun i hi=>?_) (bF (dZ _) rfl) rfl) rfl)
 exact bT (dN hi) (bT (ba i) (bB (get_at hi) (bT (ba i) (bB (get_at hi) (bF (by simp) (by rw[eK (by omega)]))))))
theorem Sh.Kt{n:bP}(hv:VN n){xs:List ai}{x:Nat→Rat}(h:Sh n xs x){l:Nat}(hl:l<n.ay.length){i:Nat}(hi:i≤n.af.length):dj (sm (jf n l) x i):=by
 obtain⟨hc,_,IY⟩:=hv.cap hl
 obtain⟨P,p1,p2,hd⟩:=h.dv
 have hm:=oa (p:=jf n l) (x:=x) (n:=n.af.length) (fun j hj _=>(h.nn j hj).1) hi
 have yL:sm (jf n l) x n.af.length≤(bR n).c l:=h.fair.A3.cap l hl
 have h4:(bR n).c l≤1000:=by rw[hc]; exact_mod_cast IY
 exact(xK p1 (by omega) (Dv.sm fun j hj _=>hd j (by omega)) hm.1 (by grind)).1
theorem Np{n:bP}(hv:VN n){xs:List ai}{x:Nat→Rat}(h:Sh n xs x){l:Nat}(hl:l<n.ay.length):aa.jJ n xs (l:Int)=some (hX (sm (jf n l) x n.af.length),true):=by
 unfold aa.jJ
 have hF:=hv.nf
 refine bB (v:=Sum.inr (false,(n.af.length:Int),(sm (jf n l) x n.af.length).num,((sm (jf n l) x n.af.length).den:Int))) (eA (fun i=>(false,(i:Int),(sm (jf n l) x i).num,((sm (jf n l) x i).den:Int))) n.af.length _ (fun i hi=>?_) (bF (dZ _) rfl) rfl) rfl
 refine bT (dN hi) (bT (ba i) (bB (get_at hi) (bB (hv.ZF hi) ?_)))
 rw[eK (by omega)]
 cases oJ:jf n l i with
 |false=>
  refine bF rfl ?_
  simp only[sm,oJ,cond_false,Rat.add_zero]
 |true=>
  have ha:=No (h.Kt hv hl (i:=i) (by omega)) (h.fit i hi).1
  have he:sm (jf n l) x (i+1)=sm (jf n l) x i+x i:=by simp only[sm,oJ,cond_true]
  rw[←he,if_pos (h.Kt hv hl (i:=i+1) (by omega))]at ha
  exact bT rfl (bT (ba i) (bB (v:=hX (x i)) (by rw[Int.toNat_natCast]; exact h.get i hi) (bB ha (bF rfl rfl))))
end Go.Proofs.Ytedjbjphpnkpoaa
end
section
/- Plain facts of this seat: the law MaxminRoom. -/
set_option maxRecDepth 100000
set_option maxHeartbeats 1000000
namespace Go.Proofs.Ytedjbjphpnkpoaa
open Go.PI Go.Pl Go.Mm
theorem PV{n:bP}(hb:vN n=true){w:Nat}{c:Int}(h0:0≤c)(h1:c≤1000):vN ⟨n.ay.set w c,n.af,n.aD⟩=true:=by
 unfold vN at hb ⊢
 simp only[List.length_set,Bool.and_eq_true,decide_eq_true_eq,List.all_eq_true]at hb ⊢
 refine⟨hb.1,hb.2.1,hb.2.2.1,⟨fun y hy=>?_,hb.2.2.2.1.2⟩,hb.2.2.2.2⟩
 rcases List.mem_or_eq_of_mem_set hy with h|h
 ·exact hb.2.2.2.1.1 y h
 ·subst h; unfold tv; simp[h0,h1]
theorem Sg{o:Option Bool}(h:∃ r,o=some r∧r=true):o=some true:=by
 obtain⟨r,h,rfl⟩:=h; exact h
theorem qB{p q:Rat}:decide (pP p q<0)=decide (p<q):=by
 rw[decide_eq_decide]
 unfold pP
 by_cases h1:p<q
 ·simp[h1]
 ·rw[if_neg h1]
  by_cases h2:q<p<;>simp[h1,h2]
theorem PW{p q:Rat}(h:p≤q):pP p q≤0:=by
 unfold pP
 split
 ·decide
 ·rw[if_neg (Rat.not_lt.2 h)]; decide
theorem E7(n:bP)(jg more:Int)(hw:n.af.length≤2^63-1):aa.gr n jg more=some true:=by
 unfold aa.gr
 obtain⟨b2,hf,hlen⟩:=R4 n hw
 refine bB (v:=true) rfl (bB hf ?_)
 cases b2 with
 |false=>rfl
 |true=>
 obtain⟨_,_,_,h4⟩:=hlen rfl
 refine bT rfl (bB (Kj fun l hl=>by have:=h4 l hl; omega) ?_)
 cases hb:vN n with
 |false=>rfl
 |true=>
 have hv:=Kl hb
 have hF:=hv.nf
 have hL:=hv.nc
 refine bF rfl ?_
 by_cases ZG:n.af.length=0
 ·exact bT (by rw[ZG]; rfl) rfl
 refine bF (by rw[beq_eq_false_iff_ne]; omega) ?_
 by_cases g1:jg<0
 ·exact bT (decide_eq_true g1) rfl
 refine bF (decide_eq_false g1) ?_
 by_cases g2:more<0
 ·exact bT (decide_eq_true g2) rfl
 refine bF (decide_eq_false g2) ?_
 by_cases g3:1000<more
 ·exact bT (decide_eq_true g3) rfl
 refine bF (decide_eq_false g3) ?_
 obtain⟨l0,wm,_⟩:=hv.ex (show 0<n.af.length by omega)
 have Si:n.ay++List.drop (0+n.ay.length) (List.replicate (↑n.ay.length:Int).toNat (0:Int))=n.ay:=by simp
 obtain⟨w,FN,Ku⟩:∃ w:Nat,jg.tmod (n.ay.length:Int)=(w:Int)∧w<n.ay.length:=by
  have t0:=Int.tmod_nonneg (a:=jg) (n.ay.length:Int) (by omega)
  have t1:=Int.tmod_lt_of_pos jg (show (0:Int)<(n.ay.length:Int) by omega)
  exact⟨(jg.tmod (n.ay.length:Int)).toNat,by omega,by omega⟩
 rw[Si,FN]
 have k1:=hv.c _ (List.getElem_mem Ku)
 have bS:decide ((w:Int).toNat<0+n.ay.length)=true:=decide_eq_true (by omega)
 refine bF (decide_eq_false (by omega)) (bT (by simp; omega) (bT (by simp) (bT (ba w) (bT bS (bB (v:=n.ay[w]) (HG Ku) (bT (ba w) (bT bS (bB (v:=n.ay[w]) (HG Ku) ?_))))))))
 obtain⟨c,ZH,c0,c1⟩:∃ c,(if IntKind.i64.wrap (n.ay[w]+more)<1000 then IntKind.i64.wrap (n.ay[w]+more) else 1000)=c∧n.ay[w]≤c∧c≤1000:=by
  rw[dg (n:=n.ay[w]+more) (by omega) (by omega)]
  refine⟨_,rfl,?_,?_⟩<;>split<;>omega
 rw[ZH]
 have dU:List.take (0+n.ay.length) (List.drop 0 (n.ay.set (0+(w:Int).toNat) c))=n.ay.set w c:=by
  rw[Nat.zero_add,Nat.zero_add,Int.toNat_natCast,List.drop_zero,List.take_of_length_le (by rw[List.length_set]; omega)]
 rw[dU]
 have oG:=PV (w:=w) hb (c:=c) (by omega) c1
 obtain⟨xs,x,hx⟩:=xO hb
 obtain⟨ys,y,hy⟩:=xO oG
 have Hl:xs.length=n.af.length:=hx.len
 have MP:ys.length=n.af.length:=hy.len
 have fy:∀ j,j<n.af.length→dj (y j):=fun j hj=>(hy.fit j hj).1
 have fx:∀ j,j<n.af.length→dj (x j):=fun j hj=>(hx.fit j hj).1
 have gy:∀ j,j<n.af.length→ys[j]?=some (hX (y j)):=hy.get
 have XO:∀ l,l<n.ay.length→(bR n).c l≤(bR ⟨n.ay.set w c,n.af,n.aD⟩).c l∧(l≠w→(bR ⟨n.ay.set w c,n.af,n.aD⟩).c l=(bR n).c l):=fun l hl=>by
  have e1:(bR n).c l=((n.ay[l]?.getD 0:Int):Rat):=rfl
  have e2:(bR ⟨n.ay.set w c,n.af,n.aD⟩).c l=(((n.ay.set w c)[l]?.getD 0:Int):Rat):=rfl
  rw[e1,e2,Nl Ku]
  by_cases e:l=w
  ·subst e
   rw[if_pos rfl,List.getElem?_eq_getElem hl]
   exact⟨by exact_mod_cast c0,fun h=>absurd rfl h⟩
  ·rw[if_neg e]; exact⟨Rat.le_refl,fun _=>rfl⟩
 have OC:M6 (bR ⟨n.ay.set w c,n.af,n.aD⟩) x:=by
  refine⟨hx.fair.A3.nn,hx.fair.A3.lY,fun l hl=>?_⟩
  have iQ:l<n.ay.length:=by
   have:l<(n.ay.set w c).length:=hl
   rwa [List.length_set]at this
  exact Rat.le_trans (hx.fair.A3.cap l iQ) (XO l iQ).1
 refine bB hx.e (bT (decide_eq_true (by rw[List.length_set]; omega)) (bB hy.e (bF rfl (bF rfl (bF (by rw[Hl]; simp) (bF (by rw[Hl,MP]; simp) (bB (hx.get 0 (by omega)) (bB (gy 0 (by omega)) (Sg ?_)))))))))
 refine PS n.af.length (fun k s=>s.1=(k:Int)∧∃ a b:Rat,s.2=(a.num,(a.den:Int),b.num,(b.den:Int))∧(∃ j,j<n.af.length∧y j=a)∧(∃ j,j<n.af.length∧x j=b)∧∀ j,j<k→a≤y j∧b≤x j)
  (fun s=>∃ a b:Rat,s.2=(a.num,(a.den:Int),b.num,(b.den:Int))∧(∃ j,j<n.af.length∧y j=a)∧(∃ j,j<n.af.length∧x j=b)∧∀ j,j<n.af.length→a≤y j∧b≤x j) ?_ ?_ ⟨rfl,y 0,x 0,rfl,⟨0,by omega,rfl⟩,⟨0,by omega,rfl⟩,fun j hj=>by omega⟩ ?_
 ·rintro k ⟨i,s⟩ hk ⟨e,a,b,e2,⟨ja,ha,ea⟩,⟨jb,B6,eb⟩,nt⟩
  obtain rfl:i=(k:Int):=e
  obtain rfl:s=(a.num,(a.den:Int),b.num,(b.den:Int)):=e2
  have fa:dj a:=by rw[←ea]; exact fy ja ha
  have fb:dj b:=by rw[←eb]; exact fx jb B6
  have XP:xs[(k:Int).toNat]?=some (hX (x k)):=by rw[Int.toNat_natCast]; exact hx.get k hk
  have Vv:ys[(k:Int).toNat]?=some (hX (y k)):=by rw[Int.toNat_natCast]; exact gy k hk
  have Vw:decide ((k:Int)<(xs.length:Int))=true:=decide_eq_true (by omega)
  refine pR Vw (pR (ba k) (qU XP (qU (A6 (fx k hk) fb) (pR (ba k) (qU Vv (qU (A6 (fy k hk) fa) ?_))))))
  have w1:IntKind.i64.wrap ((k:Int)+1)=((k+1:Nat):Int):=eK (by omega)
  by_cases XQ:x k<b
  ·refine pR (by show decide (pP (x k) b<0)=true; rw[qB]; exact decide_eq_true XQ) (pR (ba k) (qU XP ?_))
   by_cases Sj:y k<a
   ·refine pR (by show decide (pP (y k) a<0)=true; rw[qB]; exact decide_eq_true Sj) (pR (ba k) (qU Vv ⟨_,rfl,_,rfl,w1,y k,x k,rfl,⟨k,hk,rfl⟩,⟨k,hk,rfl⟩,fun j hj=>?_⟩))
    by_cases e:j=k
    ·subst e; exact⟨Rat.le_refl,Rat.le_refl⟩
    ·have:=nt j (by omega); grind
   ·refine HE (by show decide (pP (y k) a<0)=false; rw[qB]; exact decide_eq_false Sj) ⟨_,rfl,_,rfl,w1,a,x k,rfl,⟨ja,ha,ea⟩,⟨k,hk,rfl⟩,fun j hj=>?_⟩
    by_cases e:j=k
    ·subst e; exact⟨by grind,Rat.le_refl⟩
    ·have:=nt j (by omega); grind
  ·refine HE (by show decide (pP (x k) b<0)=false; rw[qB]; exact decide_eq_false XQ) ?_
   by_cases Sj:y k<a
   ·refine pR (by show decide (pP (y k) a<0)=true; rw[qB]; exact decide_eq_true Sj) (pR (ba k) (qU Vv ⟨_,rfl,_,rfl,w1,y k,b,rfl,⟨k,hk,rfl⟩,⟨jb,B6,eb⟩,fun j hj=>?_⟩))
    by_cases e:j=k
    ·subst e; exact⟨Rat.le_refl,by grind⟩
    ·have:=nt j (by omega); grind
   ·refine HE (by show decide (pP (y k) a<0)=false; rw[qB]; exact decide_eq_false Sj) ⟨_,rfl,_,rfl,w1,a,b,rfl,⟨ja,ha,ea⟩,⟨jb,B6,eb⟩,fun j hj=>?_⟩
    by_cases e:j=k
    ·subst e; exact⟨by grind,by grind⟩
    ·exact nt j (by omega)
 ·rintro⟨i,s⟩ ⟨e,h⟩
  obtain rfl:i=(n.af.length:Int):=e
  exact HE (decide_eq_false (by omega)) ⟨_,rfl,_,rfl,h⟩
 ·rintro⟨i,s⟩ ⟨a,b,e2,⟨ja,ha,ea⟩,⟨jb,B6,eb⟩,nt⟩
  obtain rfl:s=(a.num,(a.den:Int),b.num,(b.den:Int)):=e2
  have fa:dj a:=by rw[←ea]; exact fy ja ha
  have fb:dj b:=by rw[←eb]; exact fx jb B6
  have hle:b≤a:=EW (N:=bR n) (M:=bR ⟨n.ay.set w c,n.af,n.aD⟩) rfl hx.fair hy.fair OC (fun j hj=>(nt j hj).2) ⟨ja,ha,ea⟩
  have hS:=hx.Kt hv Ku (Nat.le_refl n.af.length)
  refine qU (A6 fb fa) (qU (Np hv hx Ku) (pR rfl (pR (ba w) (qU (get_at Ku) (pR rfl (pR rfl (pR (decide_eq_true (PW hle)) ?_)))))))
  have dS:=lM hS
  have mS:=kD (a:=n.ay[w]) (b:=((sm (jf n w) x n.af.length).den:Int)) (by omega) (by omega) (by omega) (by omega)
  have XR:IntKind.i64.wrap (n.ay[w]*(hX (sm (jf n w) x n.af.length)).Den)=n.ay[w]*((sm (jf n w) x n.af.length).den:Int):=dg (n:=n.ay[w]*((sm (jf n w) x n.af.length).den:Int)) (by omega) (by omega)
  by_cases rT:(sm (jf n w) x n.af.length).num<n.ay[w]*((sm (jf n w) x n.af.length).den:Int)
  ·refine HE (by rw[XR]; show (!decide ((sm (jf n w) x n.af.length).num<_))=false; rw[decide_eq_true rT]; rfl) ?_
   have mi:sm (jf n w) x n.af.length<(bR n).c w:=by
    have h1:=(PT (q:=sm (jf n w) x n.af.length) (v:=n.ay[w]) (d:=1)).1 (by rw[Int.mul_one]; exact rT)
    rw[(hv.cap Ku).1]
    grind
   have Sk:Mm.Fair (bR ⟨n.ay.set w c,n.af,n.aD⟩) x:=by
    refine⟨OC,fun j hj=>?_⟩
    rcases hx.fair.HA j hj with h|⟨l,hl,oJ,hs,AB⟩
    ·exact .inl h
    ·have ZI:l≠w:=by
      intro e
      subst e
      have eV:sm (jf n l) x n.af.length=(bR n).c l:=hs
      grind
     have iQ:l<n.ay.length:=hl
     exact .inr ⟨l,by show l<(n.ay.set w c).length; rw[List.length_set]; exact iQ,oJ,hs.trans ((XO l iQ).2 ZI).symm,AB⟩
   have HI:xs=ys:=by
    apply List.ext_getElem?
    intro j
    by_cases hj:j<n.af.length
    ·rw[hx.get j hj,gy j hj,CG Sk hy.fair j hj]
    ·rw[List.getElem?_eq_none (by omega),List.getElem?_eq_none (by omega)]
   rw[←HI]
   exact qU (HH (by omega)) ⟨_,rfl,rfl⟩
  ·exact pR (by rw[XR]; show (!decide ((sm (jf n w) x n.af.length).num<_))=true; rw[decide_eq_false rT]; rfl) ⟨_,rfl,rfl⟩
end Go.Proofs.Ytedjbjphpnkpoaa
end
section
/- The law MaxminRoom: its row. -/
namespace Go.Proofs.Ytedjbjphpnkpoaa.yB
open Go.PI Go.ChangeShapes Go.WideShapes Go.ChangeAt Go.RowKit
theorem own:ownKnob Try.prog.godebug=none:=by kernel_rfl
theorem laidOut:laidOutB Try.prog=true:=by kernel_rfl
theorem okWide_struct{P:Program}{w:World}{r:Reach}{base:Nat}{t:TypeId}{v:Value}{fs:Array Field}(ht:P.underlying t=some (.struct fs))(h:Value.okWide P w r base t v):∃ cs,v=.agg cs:=by
 unfold Value.okWide at h
 rw[ht]at h
 obtain⟨cs,h,_⟩:=h
 exact⟨cs,h⟩
theorem NS{E:Env}{l:List AV}{cs:Array Value}(h:aH E false l (Value.agg cs).cells.toList):aj E false (.agg l) (.agg cs):=by
 simp only[aj]
 exact⟨cs.toList,by simp,by simpa[Value.cells] using h⟩
theorem Q9{E:Env}{l:List AV}{a:Option Addr}{len cap:Nat}(h:aH E false l (Value.slice a len cap).cells.toList){x:AV}(hl:l=[x]):aj E false x (.slice a len cap):=by
 subst hl
 have h2:aj E false x (Value.slice a len cap)∧iu (Value.slice a len cap)=true:=by simpa[Value.cells,aH] using h
 exact h2.1
set_option maxRecDepth 100000 in
theorem walk(W:World)(S3:Array Value)(a1:Int)(a2:Int){l0:List AV}(e0:aH (Env.all W) false l0 (Value.agg S3:Value).cells.toList){n0:Nat}(s0:Shape Try.prog n0 25 l0)(FN:(Lit.int .i64 a1).wf=true)(Ku:(Lit.int .i64 a2).wf=true):Calls Try.prog 7 #[.agg S3,.int .i64 a1,.int .i64 a2] W fun e w'=>e=.returned (.bool true)∧Below W.heap.size W w':=by
 obtain⟨x0,w0,r0⟩:=WA (jR (show Try.prog.underlying 25=Try.prog.underlying 24 by kernel_rfl) s0)
 have hs:p8 C T 7 ⟨[25,3,3],[4],fun x=>Go.aa.gr x.1 x.2.1 x.2.2⟩:=NR s55 rfl
 refine Ll Cok hs rfl (x:=(x0,a1,a2)) (y:=true) (E7 x0 a1 a2 (Nat.le_trans w0.2.1.1 (by decide))) ?_ («as»:=[.agg l0,.lit (.int .i64 a1),.lit (.int .i64 a2)]) ⟨r0,rfl,rfl,trivial⟩ (show mJ (Env.all W) from fun b c h=>by cases h) (vs:=[.agg S3,.int .i64 a1,.int .i64 a2]) ?_
 ·intro l hl
  match l,hl with
  |[a],hl=>have:a=.lit (.bool true):=hl.1; rw[this]
  |[],hl=>exact False.elim hl
  |_::_::_,hl=>exact False.elim hl.2
 ·simp only[an]
  exact⟨NS e0,by simp[aj],by simp[aj],trivial⟩
set_option maxRecDepth 100000 in
theorem lifted(os:Os)(started:os.Started)(H:Type)(enc:TypeId×Value→H):
  ReturnsInHanded {} Try.checked os 7 .any (Rows.maxminRoomSpec.pre6 enc Try.prog Try.f7 Rows.maxminRoomRow.domain false) (Rows.maxminRoomSpec.post enc Try.prog Try.f7 false true false false):=by
 refine returnsInHanded_of_change_sized (C:=Try.checked) own started (by kernel_rfl) Try.func7
  (ChangeSpec.witness6 (enc:=enc) (C:=Try.checked) false ⟨#[],#[.agg #[.slice none 0 0,.slice none 0 0,.slice none 0 0],.int .i64 0,.int .i64 0],[]⟩ 8 (by kernel_rfl) (by kernel_rfl) (by kernel_rfl) (by kernel_rfl)) ?_
 intro W base args ds gs before OV hW I0 WB _
 have NT:∀ (j:Nat) t v,Try.f7.params[j]?=some t→args[j]?=some v→Value.okWide Try.prog W .any base t v:=OV
 have hW':=hW
 obtain⟨p,q,Yn,hV,rfl,Mp,zO⟩:=hW
 have hA:DataW.TrodAll enc Try.prog W 0 (fun _=>true) true Try.f7.params.toList args.toList ds p:=Yn
 rw[Try.params7]at hA NT
 obtain⟨v0,vs0,d0,ds0,p0,q0,jc,rfl,rfl,h0,r0⟩:=trodAll_cons hA
 obtain⟨v1,vs1,d1,ds1,p1,q1,rfl,rfl,rfl,h1,r1⟩:=trodAll_cons r0
 obtain⟨v2,vs2,d2,ds2,p2,q2,rfl,rfl,rfl,h2,r2⟩:=trodAll_cons r1
 obtain⟨rfl,rfl,rfl⟩:=trodAll_nil r2
 obtain rfl:args=#[v0,v1,v2]:=by cases args; simp_all
 obtain⟨rfl,rfl⟩:=trodVars_none hV
 obtain⟨S3,rfl⟩:=okWide_struct Try.underlying25 (NT 0 25 v0 rfl rfl)
 obtain⟨a1,rfl,rfl,rfl,w1⟩:=open_int Try.underlying3 (NT 1 3 v1 rfl rfl) h1
 obtain⟨a2,rfl,rfl,rfl,w2⟩:=open_int Try.underlying3 (NT 2 3 v2 rfl rfl) h2
 have k0:=h0
 have lt0:∀ x∈p0,x.block<W.heap.size:=by obtain⟨m,hm⟩:=k0; exact DataW.trod_lt m _ _ _ hm
 obtain⟨f0,hf0⟩:=h0
 obtain⟨l0,e0,s0⟩:=Mv f0 10 25 _ _ (by kernel_rfl) hf0
 clear Yn OV WB
 refine(walk W S3 a1 a2 e0 s0 w1 w2).mono fun e W' ⟨he,Yo⟩=>?_
 subst he
 exact⟨_,rfl,_,_,_,[],_,[],hW',trodAll_mk1 (shut_bool Try.underlying4 _),(trodAll_cons_mk (Below.trod laidOut (by kernel_rfl) (of_decide_eq_true (by kernel_rfl)) k0 Yo lt0) (trodAll_cons_mk (shut_int Try.underlying3 w1) (trodAll_cons_mk (shut_int Try.underlying3 w2) trodAll_mk0))),rfl,Yo.frame _,fun h=>by cases h⟩
theorem gM:Rows.maxminRoomRow.holds Try.pinned (OpenSpec.ofChange Rows.maxminRoomSpec):=
 OpenClaim.holds_of_wide 7 Try.f7 rfl rfl rfl rfl rfl rfl rfl ⟨rfl,rfl,rfl,rfl,rfl⟩ rfl rfl rfl rfl rfl (by kernel_rfl) Try.func7 (by kernel_rfl)
  (of_decide_eq_true (by kernel_rfl)) (by unfold Func.isWrapper; first|(rw[if_pos (by decide +kernel)]; kernel_rfl)|(rw[if_neg (by decide +kernel)]; exact⟨rfl,rfl⟩))
  (fun os started H enc _=>lifted os started H enc)
theorem proved:Rows.MaxminRoomSaid:=gM
end Go.Proofs.Ytedjbjphpnkpoaa.yB
namespace Go.Proofs.Ytedjbjphpnkpoaa
theorem maxminRoom_holds:Rows.MaxminRoomSaid:=yB.proved
end Go.Proofs.Ytedjbjphpnkpoaa
end
