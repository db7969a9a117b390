/- The law MaxminExactly returns true for every input, and each argument reads as it read before; no conditions. This file: the row, last of the parts. -/
import Derived.IntWalk
import Derived.KernelRfl
import Derived.Test.YtedjbjphpnkpoaaRows
import Derived.WalkKit
import Derived.ProofKit
import Derived.OpenShut
import Derived.ShutString
import Derived.ChangeOld
import Derived.Below
import Derived.SizedLaws
import Derived.Test.YtedjbjphpnkpoaaX9
set_option linter.unusedVariables false
set_option linter.unusedSimpArgs false
section
/- Max-min fair rates, without a program: what makes rates fair, and that there is one choice of them. -/
namespace Go.Mm
def sm(p:Nat→Bool)(x:Nat→Rat):Nat→Rat
 |0=>0
 |n+1=>sm p x n+bif p n then x n else 0
structure wC where
 F:Nat
 L:Nat
 on:Nat→Nat→Bool
 c:Nat→Rat
 has:Nat→Bool
 k:Nat→Rat
structure Sn(N:wC)(x:Nat→Rat):Prop where
 nn:∀ i,i<N.F→0≤x i
 kO:∀ i,i<N.F→N.has i=true→x i≤N.k i
 cap:∀ l,l<N.L→sm (N.on l) x N.F≤N.c l
def PX(N:wC)(x:Nat→Rat)(i:Nat):Prop:=
 (N.has i=true∧x i=N.k i)∨∃ l,l<N.L∧N.on l i=true∧sm (N.on l) x N.F=N.c l∧∀ j,j<N.F→N.on l j=true→x j≤x i
structure Fair(N:wC)(x:Nat→Rat):Prop where
 wD:Sn N x
 E8:∀ i,i<N.F→PX N x i
theorem OM{p:Nat→Bool}{x y:Nat→Rat}:∀ {n:Nat},(∀ j,j<n→p j=true→x j≤y j)→sm p x n≤sm p y n
 |0,_=>Rat.le_refl
 |n+1,h=>by
  have h1:=OM (n:=n) fun j hj=>h j (by omega)
  have h2:=h n (by omega)
  simp only[sm]
  cases hp:p n with
  |false=>simp only[cond_false]; grind
  |true=>simp only[cond_true]; have:=h2 hp; grind
theorem ON{p:Nat→Bool}{x y:Nat→Rat}:∀ {n i:Nat},i<n→p i=true→x i<y i→(∀ j,j<n→p j=true→x j≤y j)→sm p x n<sm p y n
 |0,i,h,_,_,_=>by omega
 |n+1,i,hi,hp,hx,h=>by
  simp only[sm]
  by_cases e:i=n
  ·subst e
   have h1:=OM (n:=i) fun j hj=>h j (by omega)
   rw[hp]; simp only[cond_true]; grind
  ·have h1:=ON (n:=n) (i:=i) (by omega) hp hx fun j hj=>h j (by omega)
   have h2:=h n (by omega)
   cases hp:p n with
   |false=>simp only[cond_false]; grind
   |true=>simp only[cond_true]; have:=h2 hp; grind
theorem lK{p q:Nat→Bool}{x y:Nat→Rat}:∀ {n:Nat},(∀ j,j<n→p j=q j)→(∀ j,j<n→p j=true→x j=y j)→sm p x n=sm q y n
 |0,_,_=>rfl
 |n+1,h,g=>by
  simp only[sm]
  rw[lK (n:=n) (fun j hj=>h j (by omega)) fun j hj=>g j (by omega),←h n (by omega)]
  cases hp:p n with
  |false=>rfl
  |true=>rw[g n (by omega) hp]
theorem CN{p q:Nat→Bool}{x:Nat→Rat}:∀ {n:Nat},sm p x n=sm (fun i=>p i&&q i) x n+sm (fun i=>p i&&!q i) x n
 |0=>by simp only[sm]; grind
 |n+1=>by
  simp only[sm]
  rw[CN (q:=q) (n:=n)]
  cases p n<;>cases q n<;>simp only[Bool.and_true,Bool.and_false,Bool.not_true,Bool.not_false,Bool.true_and,Bool.false_and,cond_true,cond_false]<;>grind
theorem Gv{N:wC}{x y:Nat→Rat}(h:Fair N x)(hy:Sn N y){i:Nat}(hi:i<N.F)(bQ:x i<y i):∃ j,j<N.F∧x j≤x i∧y j<x j:=by
 rcases h.E8 i hi with ⟨h1,h2⟩|⟨l,hl,ma,So,AM⟩
 ·have:=hy.kO i hi h1; exfalso; grind
 ·apply Classical.byContradiction
  intro hc
  have bc:∀ j,j<N.F→N.on l j=true→x j≤y j:=fun j hj ho=>by
   apply Classical.byContradiction
   intro hn
   exact hc ⟨j,hj,AM j hj ho,by grind⟩
  have h1:=ON hi ma bQ bc
  have h2:=hy.cap l hl
  grind
theorem Ko(P:Nat→Prop)(f:Nat→Rat):∀ n,(∃ i,i<n∧P i)→∃ i,i<n∧P i∧∀ j,j<n→P j→f i≤f j
 |0,⟨i,hi,_⟩=>by omega
 |n+1,⟨i,hi,hp⟩=>by
  by_cases hex:∃ i,i<n∧P i
  ·obtain⟨m,hm,ZO,ux⟩:=Ko P f n hex
   by_cases hn:P n∧f n<f m
   ·refine⟨n,by omega,hn.1,fun j hj IL=>?_⟩
    by_cases e:j=n
    ·subst e; exact Rat.le_refl
    ·have:=ux j (by omega) IL; have:=hn.2; grind
   ·refine⟨m,by omega,ZO,fun j hj IL=>?_⟩
    by_cases e:j=n
    ·subst e; have:¬f j<f m:=fun h=>hn ⟨IL,h⟩; grind
    ·exact ux j (by omega) IL
  ·have:i=n:=by
    apply Classical.byContradiction
    intro e
    exact hex ⟨i,by omega,hp⟩
   subst this
   refine⟨i,by omega,hp,fun j hj IL=>?_⟩
   by_cases e:j=i
   ·subst e; exact Rat.le_refl
   ·exact absurd ⟨j,by omega,IL⟩ hex
theorem vU{N:wC}{x y:Nat→Rat}(h:Fair N x)(h':Fair N y):∀ i,i<N.F→x i=y i:=by
 apply Classical.byContradiction
 intro dN
 have hex:∃ i,i<N.F∧x i≠y i:=by
  apply Classical.byContradiction
  intro hc
  exact dN fun i hi=>Classical.byContradiction fun e=>hc ⟨i,hi,e⟩
 obtain⟨i,hi,hd,ux⟩:=Ko (fun i=>x i≠y i) (fun i=>if x i≤y i then x i else y i) N.F hex
 by_cases hle:x i≤y i
 ·obtain⟨j,hj,h1,h2⟩:=Gv h h'.wD hi (by grind)
  have:=ux j hj (by grind)
  grind
 ·obtain⟨j,hj,h1,h2⟩:=Gv h' h.wD hi (by grind)
  have:=ux j hj (by grind)
  grind
/-! ### Filling -/
def ct(p:Nat→Bool):Nat→Nat
 |0=>0
 |n+1=>ct p n+bif p n then 1 else 0
theorem nD{p q:Nat→Bool}:∀ {n:Nat},(∀ j,j<n→p j=q j)→ct p n=ct q n
 |0,_=>rfl
 |n+1,h=>by simp only[ct]; rw[nD (n:=n) fun j hj=>h j (by omega),h n (by omega)]
theorem OO{p q:Nat→Bool}:∀ {n:Nat},(∀ j,j<n→p j=true→q j=true)→ct p n≤ct q n
 |0,_=>Nat.le_refl _
 |n+1,h=>by
  have h1:=OO (n:=n) fun j hj=>h j (by omega)
  have h2:=h n (by omega)
  simp only[ct]
  cases hp:p n with
  |false=>simp only[cond_false]; omega
  |true=>rw[h2 hp]; simp only[cond_true]; omega
theorem rY{p:Nat→Bool}:∀ {n i:Nat},i<n→p i=true→0<ct p n
 |0,i,h,_=>by omega
 |n+1,i,h,hp=>by
  simp only[ct]
  by_cases e:i=n
  ·subst e; rw[hp]; simp only[cond_true]; omega
  ·have:=rY (n:=n) (i:=i) (by omega) hp; omega
theorem Kp{p:Nat→Bool}:∀ {n:Nat},0<ct p n→∃ i,i<n∧p i=true
 |0,h=>by simp[ct]at h
 |n+1,h=>by
  simp only[ct]at h
  cases hp:p n with
  |true=>exact⟨n,by omega,hp⟩
  |false=>
   rw[hp]at h
   obtain⟨i,hi,h1⟩:=Kp (n:=n) (by simpa using h)
   exact⟨i,by omega,h1⟩
theorem tA{p q:Nat→Bool}:∀ {n:Nat},ct p n=ct (fun i=>p i&&q i) n+ct (fun i=>p i&&!q i) n
 |0=>rfl
 |n+1=>by
  simp only[ct]
  rw[tA (q:=q) (n:=n)]
  cases p n<;>cases q n<;>simp only[Bool.and_true,Bool.and_false,Bool.not_true,Bool.not_false,Bool.true_and,Bool.false_and,cond_true,cond_false]<;>omega
theorem pO{p:Nat→Bool}:∀ {n:Nat},ct p n≤n
 |0=>Nat.le_refl _
 |n+1=>by
  have:=pO (p:=p) (n:=n)
  simp only[ct]
  cases p n<;>simp only[cond_true,cond_false]<;>omega
theorem CO{p:Nat→Bool}{v:Rat}:∀ {n:Nat},sm p (fun _=>v) n=v*(ct p n:Nat)
 |0=>by simp[sm,ct]
 |n+1=>by
  simp only[sm,ct]
  rw[CO (n:=n)]
  cases p n
  ·simp only[cond_false,Nat.add_zero]; grind
  ·simp only[cond_true]
   rw[Rat.natCast_add]
   grind
end Go.Mm
namespace Go.Mm
def Dv(P:Nat)(q:Rat):Prop:=∃ n:Int,q*(P:Rat)=n
theorem Dv.mul{P m:Nat}{q:Rat}(h:Dv P q):Dv (P*m) q:=by
 obtain⟨n,hn⟩:=h
 refine⟨n*m,?_⟩
 rw[Rat.natCast_mul,Rat.intCast_mul,Rat.intCast_natCast,←hn]
 grind
theorem Dv.int{P:Nat}(n:Int):Dv P n:=⟨n*P,by rw[Rat.intCast_mul,Rat.intCast_natCast]⟩
theorem Dv.zero{P:Nat}:Dv P 0:=⟨0,by simp⟩
theorem Dv.add{P:Nat}{p q:Rat}(h:Dv P p)(h':Dv P q):Dv P (p+q):=by
 obtain⟨n,hn⟩:=h
 obtain⟨m,hm⟩:=h'
 exact⟨n+m,by rw[Rat.intCast_add,←hn,←hm]; grind⟩
theorem Dv.sub{P:Nat}{p q:Rat}(h:Dv P p)(h':Dv P q):Dv P (p-q):=by
 obtain⟨n,hn⟩:=h
 obtain⟨m,hm⟩:=h'
 exact⟨n-m,by rw[Rat.intCast_sub,←hn,←hm]; grind⟩
theorem Dv.sm{P:Nat}{p:Nat→Bool}{x:Nat→Rat}:∀ {n:Nat},(∀ j,j<n→p j=true→Dv P (x j))→Dv P (sm p x n)
 |0,_=>Dv.zero
 |n+1,h=>by
  have h1:=Dv.sm (n:=n) fun j hj=>h j (by omega)
  simp only[Go.Mm.sm]
  cases hp:p n with
  |false=>simp only[cond_false]; exact h1.add .zero
  |true=>exact h1.add (h n (by omega) hp)
theorem Dv.part{P m:Nat}{q r:Rat}(h:Dv P q)(hm:r*(m:Rat)=q):Dv (P*m) r:=by
 obtain⟨n,hn⟩:=h
 refine⟨n,?_⟩
 rw[Rat.natCast_mul,←hn,←hm]
 grind
def mp:Nat→Nat
 |0=>1|1=>1|2=>2|3=>3|4=>4|5=>6|6=>9|7=>12|_=>18
theorem Gw{m u u':Nat}(hm:1≤m)(hu:u≤8)(h:m+u'≤u):m*mp u'≤mp u:=by
 have:∀ u,u≤8→∀ m,m≤8→∀ u',u'≤8→1≤m→m+u'≤u→m*mp u'≤mp u:=by decide
 exact this u hu m (by omega) u' (by omega) hm h
theorem Kq(u:Nat):1≤mp u:=by unfold mp; split<;>omega
structure Inv(N:wC)(fx:Nat→Bool)(x:Nat→Rat)(lo:Rat)(P:Nat):Prop where
 l0:0≤lo
 nn:∀ i,i<N.F→fx i=true→0≤x i∧x i≤lo
 kO:∀ i,i<N.F→fx i=true→N.has i=true→x i≤N.k i
 cap:∀ l,l<N.L→sm (fun i=>N.on l i&&fx i) x N.F≤N.c l
 X7:∀ l,l<N.L→lo*(ct (fun i=>N.on l i&&!fx i) N.F:Nat)≤N.c l-sm (fun i=>N.on l i&&fx i) x N.F
 wait:∀ i,i<N.F→fx i=false→N.has i=true→lo≤N.k i
 E8:∀ i,i<N.F→fx i=true→(N.has i=true∧x i=N.k i) ∨
  ∃ l,l<N.L∧N.on l i=true∧sm (fun i=>N.on l i&&fx i) x N.F=N.c l∧ct (fun i=>N.on l i&&!fx i) N.F=0∧∀ j,j<N.F→N.on l j=true→x j≤x i
 P1:1≤P
 PY:P*mp (ct (fun i=>!fx i) N.F)≤18
 dv:∀ i,i<N.F→fx i=true→Dv P (x i)
structure X8(N:wC)(fx:Nat→Bool)(x:Nat→Rat)(low:Rat)(nw:Nat→Bool):Prop where
 sub:∀ i,i<N.F→nw i=true→fx i=false
 Sp:∀ l,l<N.L→low*(ct (fun i=>N.on l i&&!fx i) N.F:Nat)≤N.c l-sm (fun i=>N.on l i&&fx i) x N.F
 kO:∀ i,i<N.F→fx i=false→N.has i=true→low≤N.k i
 VA:∀ i,i<N.F→nw i=true→(N.has i=true∧low=N.k i) ∨
  ∃ l,l<N.L∧N.on l i=true∧low*(ct (fun i=>N.on l i&&!fx i) N.F:Nat)=N.c l-sm (fun i=>N.on l i&&fx i) x N.F∧∀ j,j<N.F→N.on l j=true→fx j=false→nw j=true
 some:∃ i,i<N.F∧nw i=true
theorem E9{N:wC}(hF:N.F≤8)(hc:∀ l,l<N.L→0≤N.c l)(hk:∀ i,i<N.F→N.has i=true→0≤N.k i)(x:Nat→Rat):Inv N (fun _=>false) x 0 1 where
 l0:=Rat.le_refl
 nn:=by simp
 kO:=by simp
 cap l hl:=by
  rw[lK (q:=fun _=>false) (y:=x) (by simp) (by simp)]
  have h0:∀ n,sm (fun _=>false) x n=0:=by
   intro n; induction n with
   |zero=>rfl
   |succ n ih=>simp only[sm,ih,cond_false]; grind
  rw[h0]; exact hc l hl
 X7 l hl:=by
  have h0:∀ n,sm (fun i=>N.on l i&&false) x n=0:=by
   intro n; induction n with
   |zero=>rfl
   |succ n ih=>simp only[sm,ih,Bool.and_false,cond_false]; grind
  rw[h0]
  have:=hc l hl
  grind
 wait i hi _ hh:=hk i hi hh
 E8:=by simp
 P1:=Nat.le_refl _
 PY:=by
  have:=pO (p:=fun _=>!false) (n:=N.F)
  have h8:∀ u,u≤8→1*mp u≤18:=by decide
  exact h8 _ (by omega)
 dv:=by simp
theorem HM{N:wC}(hF:N.F≤8)(VB:∀ l,l<N.L→Dv 1 (N.c l))(Hb:∀ i,i<N.F→Dv 1 (N.k i)){fx:Nat→Bool}{x:Nat→Rat}{lo:Rat}{P:Nat}(h:Inv N fx x lo P){low:Rat}{nw:Nat→Bool}(g:X8 N fx x low nw):
  ∃ P',Inv N (fun i=>fx i||nw i) (fun i=>if nw i=true then low else x i) low P':=by
 have hS:∀ l,sm (fun i=>N.on l i&&(fx i||nw i)) (fun i=>if nw i=true then low else x i) N.F=sm (fun i=>N.on l i&&fx i) x N.F+low*(ct (fun i=>N.on l i&&nw i) N.F:Nat):=by
  intro l
  rw[CN (q:=nw)]
  rw[lK (p:=fun i=>(N.on l i&&(fx i||nw i))&&nw i) (q:=fun i=>N.on l i&&nw i) (y:=fun _=>low) (fun j hj=>by cases N.on l j<;>cases fx j<;>cases nw j<;>rfl) (fun j hj hp=>by
   have:nw j=true:=by simp only[Bool.and_eq_true]at hp; exact hp.2
   simp[this]),CO]
  rw[lK (p:=fun i=>(N.on l i&&(fx i||nw i))&&!nw i) (q:=fun i=>N.on l i&&fx i) (y:=x) (fun j hj=>by
   have:=g.sub j hj
   cases h1:N.on l j<;>cases h2:fx j<;>cases h3:nw j<;>simp_all) (fun j hj hp=>by
   have:nw j=false:=by simp only[Bool.and_eq_true,Bool.not_eq_true']at hp; exact hp.2
   simp[this])]
  grind
 have hM:∀ l,ct (fun i=>N.on l i&&!fx i) N.F=ct (fun i=>N.on l i&&nw i) N.F+ct (fun i=>N.on l i&&!(fx i||nw i)) N.F:=by
  intro l
  rw[tA (q:=nw)]
  congr 1
  ·exact nD fun j hj=>by
    have:=g.sub j hj
    cases h1:N.on l j<;>cases h2:fx j<;>cases h3:nw j<;>simp_all
  ·exact nD fun j hj=>by cases N.on l j<;>cases fx j<;>cases nw j<;>rfl
 have hU:ct (fun i=>!fx i) N.F=ct nw N.F+ct (fun i=>!(fx i||nw i)) N.F:=by
  rw[tA (q:=nw)]
  congr 1
  ·exact nD fun j hj=>by
    have:=g.sub j hj
    cases h2:fx j<;>cases h3:nw j<;>simp_all
  ·exact nD fun j hj=>by cases fx j<;>cases nw j<;>rfl
 have VC:∀ l,((ct (fun i=>N.on l i&&!fx i) N.F:Nat):Rat)=(ct (fun i=>N.on l i&&nw i) N.F:Nat)+(ct (fun i=>N.on l i&&!(fx i||nw i)) N.F:Nat):=fun l=>by rw[hM l,Rat.natCast_add]
 have VD:lo≤low:=by
  obtain⟨i,hi,hn⟩:=g.some
  rcases g.VA i hi hn with ⟨h1,h2⟩|⟨l,hl,ma,he,_⟩
  ·rw[h2]; exact h.wait i hi (g.sub i hi hn) h1
  ·have h1:=h.X7 l hl
   have hp:0<ct (fun i=>N.on l i&&!fx i) N.F:=rY hi (by simp[ma,g.sub i hi hn])
   have ZQ:(0:Rat)<(ct (fun i=>N.on l i&&!fx i) N.F:Nat):=by exact_mod_cast hp
   rw[←he]at h1
   exact Rat.le_of_mul_le_mul_right h1 ZQ
 have wI:0≤low:=Rat.le_trans h.l0 VD
 have X9:∀ j,j<N.F→fx j=true→(if nw j=true then low else x j)=x j:=fun j hj hf=>by
  have:nw j=false:=by cases hn:nw j with|false=>rfl|true=>rw[g.sub j hj hn]at hf; cases hf
  simp[this]
 have hP:∃ P',1≤P'∧P'*mp (ct (fun i=>!(fx i||nw i)) N.F)≤18∧Dv P' low∧∃ m,P'=P*m:=by
  obtain⟨i,hi,hn⟩:=g.some
  have Ya:ct (fun i=>!fx i) N.F≤8:=by have:=pO (p:=fun i=>!fx i) (n:=N.F); omega
  have Vn:=rY hi hn
  have h18:=h.PY
  rcases g.VA i hi hn with ⟨h1,h2⟩|⟨l,hl,ma,he,bc⟩
  ·refine⟨P,h.P1,?_,?_,1,by simp⟩
   ·have:=Gw (m:=ct nw N.F) (u:=ct (fun i=>!fx i) N.F) (u':=ct (fun i=>!(fx i||nw i)) N.F) Vn Ya (by omega)
    have h3:mp (ct (fun i=>!(fx i||nw i)) N.F)≤mp (ct (fun i=>!fx i) N.F):=Nat.le_trans (Nat.le_mul_of_pos_left _ Vn) this
    exact Nat.le_trans (Nat.mul_le_mul_left _ h3) h18
   ·rw[h2]
    have:=(Hb i hi).mul (m:=P)
    rwa [Nat.one_mul]at this
  ·have Sq:0<ct (fun i=>N.on l i&&!fx i) N.F:=rY hi (by simp[ma,g.sub i hi hn])
   refine⟨P*ct (fun i=>N.on l i&&!fx i) N.F,Nat.mul_pos h.P1 Sq,?_,?_,_,rfl⟩
   ·have hle:ct (fun i=>N.on l i&&!fx i) N.F≤ct nw N.F:=OO fun j hj hp=>by
     simp only[Bool.and_eq_true,Bool.not_eq_true']at hp
     exact bc j hj hp.1 hp.2
    have:=Gw (m:=ct (fun i=>N.on l i&&!fx i) N.F) (u:=ct (fun i=>!fx i) N.F) (u':=ct (fun i=>!(fx i||nw i)) N.F) Sq Ya (by omega)
    rw[Nat.mul_assoc]
    exact Nat.le_trans (Nat.mul_le_mul_left _ this) h18
   ·refine Dv.part ?_ he
    have hc:=(VB l hl).mul (m:=P)
    rw[Nat.one_mul]at hc
    exact hc.sub (Dv.sm fun j hj hp=>h.dv j hj (by simp only[Bool.and_eq_true]at hp; exact hp.2))
 obtain⟨P',PZ,VE,ZR,m,rfl⟩:=hP
 refine⟨_,wI,?_,?_,?_,?_,?_,?_,PZ,VE,?_⟩
 ·intro i hi hf
  by_cases hn:nw i=true
  ·simp only[hn,if_true]; exact⟨wI,Rat.le_refl⟩
  ·simp only[hn,if_false,Bool.or_false,Bool.false_eq_true]at hf ⊢
   have:=h.nn i hi hf
   exact⟨this.1,Rat.le_trans this.2 VD⟩
 ·intro i hi hf hh
  by_cases hn:nw i=true
  ·simp only[hn,if_true]; exact g.kO i hi (g.sub i hi hn) hh
  ·simp only[hn,if_false,Bool.or_false,Bool.false_eq_true]at hf ⊢
   exact h.kO i hi hf hh
 ·intro l hl
  rw[hS l]
  have h1:=g.Sp l hl
  rw[VC l]at h1
  have h2:(0:Rat)≤low*(ct (fun i=>N.on l i&&!(fx i||nw i)) N.F:Nat):=Rat.mul_nonneg wI (by exact_mod_cast Nat.zero_le _)
  grind
 ·intro l hl
  rw[hS l]
  have h1:=g.Sp l hl
  rw[VC l]at h1
  grind
 ·intro i hi hf hh
  simp only[Bool.or_eq_false_iff]at hf
  exact g.kO i hi hf.1 hh
 ·intro i hi hf
  by_cases hn:nw i=true
  ·simp only[hn,if_true]
   rcases g.VA i hi hn with h1|⟨l,hl,ma,he,bc⟩
   ·exact .inl h1
   ·have hz:ct (fun i=>N.on l i&&!(fx i||nw i)) N.F=0:=by
     apply Nat.eq_zero_of_not_pos
     intro hp
     obtain⟨j,hj,IL⟩:=Kp hp
     simp only[Bool.and_eq_true,Bool.not_eq_true',Bool.or_eq_false_iff]at IL
     rw[bc j hj IL.1 IL.2.1]at IL
     exact absurd IL.2.2 (by decide)
    refine .inr ⟨l,hl,ma,?_,hz,fun j hj OP=>?_⟩
    ·rw[hS l]
     rw[VC l,hz]at he
     grind
    ·by_cases VF:nw j=true
     ·simp only[VF,if_true]; exact Rat.le_refl
     ·simp only[VF,if_false,Bool.false_eq_true]
      have:fx j=true:=by
       cases iH:fx j with
       |true=>rfl
       |false=>exact absurd (bc j hj OP iH) VF
      exact Rat.le_trans (h.nn j hj this).2 VD
  ·have iH:fx i=true:=by simpa[hn] using hf
   rw[X9 i hi iH]
   rcases h.E8 i hi iH with h1|⟨l,hl,ma,he,hz,AM⟩
   ·exact .inl h1
   ·have Sr:∀ j,j<N.F→N.on l j=true→fx j=true:=fun j hj OP=>by
     cases Mr:fx j with
     |true=>rfl
     |false=>
      have:=rY (p:=fun i=>N.on l i&&!fx i) hj (by simp[OP,Mr])
      omega
    have Nn:=hM l
    rw[hz]at Nn
    have P0:ct (fun i=>N.on l i&&nw i) N.F=0:=by omega
    refine .inr ⟨l,hl,ma,?_,by omega,fun j hj OP=>?_⟩
    ·rw[hS l,P0,he]; grind
    ·rw[X9 j hj (Sr j hj OP)]
     exact AM j hj OP
 ·intro i hi hf
  by_cases hn:nw i=true
  ·simp only[hn,if_true]; exact ZR
  ·simp only[hn,if_false,Bool.or_false,Bool.false_eq_true]at hf ⊢
   exact(h.dv i hi hf).mul
theorem Kr{N:wC}{fx:Nat→Bool}{x:Nat→Rat}{lo:Rat}{P:Nat}(h:Inv N fx x lo P)(bc:∀ i,i<N.F→fx i=true):Fair N x∧∀ i,i<N.F→Dv P (x i)∧P≤18:=by
 have hS:∀ l,sm (fun i=>N.on l i&&fx i) x N.F=sm (N.on l) x N.F:=fun l=>lK (fun j hj=>by rw[bc j hj,Bool.and_true]) fun _ _ _=>rfl
 refine⟨⟨⟨fun i hi=>(h.nn i hi (bc i hi)).1,fun i hi hh=>h.kO i hi (bc i hi) hh,fun l hl=>by rw[←hS l]; exact h.cap l hl⟩,fun i hi=>?_⟩,fun i hi=>⟨h.dv i hi (bc i hi),?_⟩⟩
 ·rcases h.E8 i hi (bc i hi) with h1|⟨l,hl,ma,he,_,AM⟩
  ·exact .inl h1
  ·exact .inr ⟨l,hl,ma,by rw[←hS l]; exact he,AM⟩
 ·have:=h.PY
  exact Nat.le_trans (Nat.le_mul_of_pos_right _ (Kq _)) this
end Go.Mm
end
section
/- Plain facts of this seat: ratios. -/
set_option maxRecDepth 100000
namespace Go.Proofs.Ytedjbjphpnkpoaa
open Go.PI Go.Pl Go.Mm
variable {α β:Type}
theorem bT{c:Bool}{x y r:Option α}(hc:c=true)(hx:x=r):(bif c then x else y)=r:=by subst hc; exact hx
theorem bF{c:Bool}{x y r:Option α}(hc:c=false)(hy:y=r):(bif c then x else y)=r:=by subst hc; exact hy
theorem bB{e:Option β}{v:β}{k:β→Option α}{r:Option α}(he:e=some v)(hk:k v=r):e.bind k=r:=by subst he; exact hk
theorem Gx{a b:Bool}:(bif a then some b else some false)=some (a&&b):=by cases a<;>rfl
theorem e9{n:Int}(h1 : -9223372036854775808≤n)(h2:n≤9223372036854775807):IntKind.i64.wrap n=n:=IntWalk.i64_in _ (by omega)
theorem cX{i n:Nat}(h:i<n):decide ((i:Int)<(n:Int))=true:=decide_eq_true (by omega)
theorem du(n:Nat):decide ((n:Int)<(n:Int))=false:=decide_eq_false (by omega)
theorem aL(i:Nat):decide (0≤(i:Int))=true:=decide_eq_true (by omega)
/-! ### The greatest common divisor -/
theorem Gy:∀ (k a b n:Nat),b<2^k→2*k+1≤n→aa.Fa n (a:Int) (b:Int)=some ((Nat.gcd a b:Nat):Int)
 |0,a,b,n,hb,hn=>by
  obtain rfl:b=0:=by simpa using hb
  obtain⟨m,rfl⟩:∃ m,n=m+1:=⟨n-1,by omega⟩
  exact bT rfl (by rw[Nat.gcd_zero_right])
 |k+1,a,b,n,hb,hn=>by
  obtain⟨m,rfl⟩:∃ m,n=m+1:=⟨n-1,by omega⟩
  by_cases h0:b=0
  ·subst h0
   exact bT rfl (by rw[Nat.gcd_zero_right])
  have hr:((a:Int).tmod (b:Int))=((a%b:Nat):Int):=by rw[Int.tmod_eq_emod_of_nonneg (by omega)]; simp
  have ZS:((b:Int)==0)=false:=by simp; omega
  have g1:Nat.gcd a b=Nat.gcd b (a%b):=by rw[Nat.gcd_comm a b,Nat.gcd_rec b a,Nat.gcd_comm]
  refine bF ZS (bF (decide_eq_false (by omega)) ?_)
  rw[hr]
  have bQ:=Nat.mod_lt a (Nat.pos_of_ne_zero h0)
  obtain⟨m',rfl⟩:∃ m',m=m'+1:=⟨m-1,by omega⟩
  refine bB (v:=((Nat.gcd b (a%b):Nat):Int)) ?_ (by rw[g1])
  by_cases h1:a%b=0
  ·rw[h1]
   exact bT rfl (by rw[Nat.gcd_zero_right])
  ·have Cy:((b:Int).tmod ((a%b:Nat):Int))=((b%(a%b):Nat):Int):=by rw[Int.tmod_eq_emod_of_nonneg (by omega)]; simp
   refine bF (by simp; omega) (bF (decide_eq_false (by omega)) ?_)
   rw[Cy]
   have xM:=Nat.mod_lt b (Nat.pos_of_ne_zero h1)
   have hd:=Nat.div_add_mod b (a%b)
   have hq:1≤b/(a%b):=Nat.div_pos (Nat.le_of_lt bQ) (Nat.pos_of_ne_zero h1)
   have dW:a%b≤(a%b)*(b/(a%b)):=Nat.le_mul_of_pos_right _ hq
   have hs:b%(a%b)<2^k:=by rw[Nat.pow_succ]at hb; omega
   refine bB (Gy k (a%b) (b%(a%b)) m' hs (by omega)) ?_
   have g2:Nat.gcd b (a%b)=Nat.gcd (a%b) (b%(a%b)):=by rw[Nat.gcd_comm b,Nat.gcd_rec (a%b) b,Nat.gcd_comm]
   rw[←g2]
theorem No(a b:Nat)(hb:b<2^63):aa.jV (a:Int) (b:Int)=some ((Nat.gcd a b:Nat):Int):=Gy 63 a b 200 hb (by omega)
/-! ### Ratios -/
def gN(q:Rat):ai:=⟨q.num,q.den⟩
def dK(q:Rat):Prop := -1000000000≤q.num∧q.num≤1000000000∧q.den≤1000000000
instance (q:Rat):Decidable (dK q):=inferInstanceAs (Decidable (_∧_∧_))
theorem Gz{p q:Rat}(h:gN p=gN q):p=q:=by
 simp only[gN,ai.mk.injEq]at h
 exact Rat.ext h.1 (by omega)
theorem abs_eq{n:Int}(h1 : -9223372036854775807≤n)(h2:n≤9223372036854775807):(if n<IntKind.i64.wrap (0-n) then IntKind.i64.wrap (0-n) else n)=(n.natAbs:Int):=by
 rw[e9 (by omega) (by omega)]
 split<;>omega
theorem Ks{n:Int}{d:Nat}(h1 : -9223372036854775807≤n)(h2:n≤9223372036854775807)(h3:1≤d)(h4:d≤9223372036854775807):aa.cR ⟨n,d⟩=some (gN (mkRat n d)):=by
 unfold aa.cR
 rw[abs_eq h1 h2,abs_eq (n:=(d:Int)) (by omega) (by omega)]
 have hg:=No n.natAbs d (by omega)
 have dG:0<Nat.gcd n.natAbs d:=Nat.gcd_pos_of_pos_right _ (by omega)
 have Re:((Nat.gcd n.natAbs d:Nat):Int)∣n:=Int.ofNat_dvd_left.2 (Nat.gcd_dvd_left _ _)
 have X5:(Nat.gcd n.natAbs d)∣d:=Nat.gcd_dvd_right _ _
 rw[show ((d:Int).natAbs:Int)=(d:Int) by omega]
 refine bB hg (bF (decide_eq_false (by show ¬(d:Int)<0; omega)) (bF (decide_eq_false (by omega)) (bF (decide_eq_false (by omega)) ?_)))
 have e1:(mkRat n d).num=n/((Nat.gcd n.natAbs d:Nat):Int):=by rw[Rat.num_mkRat,if_neg (by omega),Nat.gcd_comm]
 have e2:(mkRat n d).den=d/Nat.gcd n.natAbs d:=by rw[Rat.den_mkRat,if_neg (by omega),Nat.gcd_comm]
 have b1:n.tdiv ((Nat.gcd n.natAbs d:Nat):Int)=n/((Nat.gcd n.natAbs d:Nat):Int):=Int.tdiv_eq_ediv_of_dvd Re
 have b2:(d:Int).tdiv ((Nat.gcd n.natAbs d:Nat):Int)=((d/Nat.gcd n.natAbs d:Nat):Int):=by
  rw[Int.tdiv_eq_ediv_of_nonneg (by omega)]; simp
 have c1:(n/((Nat.gcd n.natAbs d:Nat):Int)).natAbs≤n.natAbs:=by
  generalize Nat.gcd n.natAbs d=g at Re dG
  obtain⟨k,rfl⟩:=Re
  rw[Int.mul_ediv_cancel_left _ (by omega),Int.natAbs_mul,Int.natAbs_natCast]
  exact Nat.le_mul_of_pos_left _ dG
 have c2:d/Nat.gcd n.natAbs d≤d:=Nat.div_le_self _ _
 show some (ai.mk (IntKind.i64.wrap (n.tdiv _)) (IntKind.i64.wrap ((d:Int).tdiv _)))=_
 rw[b1,b2,e9 (by omega) (by omega),e9 (by omega) (by omega)]
 simp only[gN,e1,e2]
theorem Np(q:Rat)(h1 : -9223372036854775807≤q.num)(h2:q.num≤9223372036854775807):aa.bO (gN q)=some (decide (dK q)):=by
 unfold aa.bO
 show (bif decide ((if q.num<IntKind.i64.wrap (0-q.num) then IntKind.i64.wrap (0-q.num) else q.num)≤(1000000000:Int)) then bif decide (1≤(q.den:Int)) then some (decide ((q.den:Int)≤1000000000)) else some false else some false)=_
 rw[abs_eq h1 h2]
 have hd:=q.den_pos
 by_cases ha:((q.num.natAbs:Nat):Int)≤1000000000
 ·refine bT (decide_eq_true ha) (bT (decide_eq_true (by omega)) ?_)
  congr 1
  rw[decide_eq_decide]
  unfold dK
  omega
 ·refine bF (decide_eq_false ha) ?_
  rw[decide_eq_false]
  unfold dK
  omega
theorem Kt{n:Int}{d:Nat}(h:1≤d):(mkRat n d).num.natAbs≤n.natAbs:=by
 rw[Rat.num_mkRat,if_neg (by omega)]
 have hg:0<Nat.gcd d n.natAbs:=Nat.gcd_pos_of_pos_left _ (by omega)
 have Re:((Nat.gcd d n.natAbs:Nat):Int)∣n:=Int.ofNat_dvd_left.2 (Nat.gcd_dvd_right _ _)
 generalize Nat.gcd d n.natAbs=g at Re hg
 obtain⟨k,rfl⟩:=Re
 rw[Int.mul_ediv_cancel_left _ (by omega),Int.natAbs_mul,Int.natAbs_natCast]
 exact Nat.le_mul_of_pos_left _ hg
theorem Fb{n:Int}{d:Nat}(h1 : -9223372036854775807≤n)(h2:n≤9223372036854775807)(h3:1≤d)(h4:d≤9223372036854775807):
  aa.bg ⟨n,d⟩=some (if dK (mkRat n d) then (gN (mkRat n d),0) else (⟨0,0⟩,3)):=by
 unfold aa.bg
 have:=Kt (n:=n) h3
 refine bB (Ks h1 h2 h3 h4) (bB (Np _ (by omega) (by omega)) ?_)
 by_cases hf:dK (mkRat n d)
 ·rw[if_pos hf,decide_eq_true hf]; rfl
 ·rw[if_neg hf,decide_eq_false hf]; rfl
instance:DecidableEq ai:=fun a b=>by
 cases a; cases b
 simp only[ai.mk.injEq]
 exact inferInstance
def vR(a:ai):Bool:=decide (-1000000000≤a.c7∧a.c7≤1000000000∧1≤a.Den∧a.Den≤1000000000∧gN (mkRat a.c7 a.Den.toNat)=a)
theorem lL(q:Rat):vR (gN q)=decide (dK q):=by
 unfold vR
 rw[decide_eq_decide]
 have hd:=q.den_pos
 have e:gN (mkRat (gN q).c7 (gN q).Den.toNat)=gN q:=by
  show gN (mkRat q.num ((q.den:Int)).toNat)=_
  rw[Int.toNat_natCast,Rat.mkRat_self]
 show (-1000000000≤q.num∧q.num≤1000000000∧1≤(q.den:Int)∧(q.den:Int)≤1000000000∧_)↔_
 unfold dK
 simp only[e,and_true]
 omega
theorem P3(a:ai):vR a=true↔∃ q,a=gN q∧dK q:=by
 constructor
 ·intro h
  have h':=of_decide_eq_true h
  refine⟨mkRat a.c7 a.Den.toNat,h'.2.2.2.2.symm,?_⟩
  rw[←h'.2.2.2.2,lL]at h
  exact of_decide_eq_true h
 ·rintro⟨q,rfl,h⟩
  rw[lL]
  exact decide_eq_true h
theorem jg(a:ai):aa.cM a=some (vR a):=by
 unfold aa.cM
 by_cases h1 : -1000000000≤a.c7
 ·refine bT (decide_eq_true h1) ?_
  by_cases h2:a.c7≤1000000000∧1≤a.Den∧a.Den≤1000000000
  ·have hf:aa.bO a=some true:=by
    unfold aa.bO
    rw[abs_eq (by omega) (by omega)]
    exact bT (decide_eq_true (by omega)) (bT (decide_eq_true h2.2.1) (by rw[decide_eq_true h2.2.2]))
   have he:a=⟨a.c7,(a.Den.toNat:Nat)⟩:=by
    cases a; simp only[ai.mk.injEq,true_and]; simp only at h2; omega
   refine bB hf (bT rfl ?_)
   have hr:=Ks (n:=a.c7) (d:=a.Den.toNat) (by omega) (by omega) (by omega) (by omega)
   rw[←he]at hr
   refine bB hr ?_
   congr 1
   unfold vR
   rw[Bool.eq_iff_iff]
   simp only[Bool.and_eq_true,beq_iff_eq,decide_eq_true_eq]
   constructor
   ·rintro⟨g1,g2⟩
    refine⟨h1,h2.1,h2.2.1,h2.2.2,?_⟩
    cases a
    simp only[gN,ai.mk.injEq]at g1 g2 ⊢
    exact⟨g1,g2⟩
   ·rintro⟨_,_,_,_,g⟩
    rw[g]; exact⟨rfl,rfl⟩
  ·have hv:vR a=false:=decide_eq_false (by omega)
   rw[hv]
   refine bB (v:=false) ?_ rfl
   unfold aa.bO
   by_cases h3:(if a.c7<IntKind.i64.wrap (0-a.c7) then IntKind.i64.wrap (0-a.c7) else a.c7)≤1000000000
   ·refine bT (decide_eq_true h3) ?_
    have h4:a.c7≤1000000000:=by split at h3<;>omega
    by_cases h5:1≤a.Den
    ·exact bT (decide_eq_true h5) (by rw[decide_eq_false]; omega)
    ·exact bF (decide_eq_false h5) rfl
   ·exact bF (decide_eq_false h3) rfl
 ·refine bF (decide_eq_false h1) ?_
  rw[show vR a=false from decide_eq_false (by omega)]
/-! ### Operations -/
theorem rZ{q:Rat}(h:dK q):(q.den:Int)≤1000000000∧1≤(q.den:Int):=⟨by have:=h.2.2; omega,by have:=q.den_pos; omega⟩
theorem n8{a b:Int}(h1 : -1000000000≤a)(h2:a≤1000000000)(h3:0≤b)(h4:b≤1000000000): -1000000000000000000≤a*b∧a*b≤1000000000000000000:=by
 have e1:a*b≤1000000000*b:=Int.mul_le_mul_of_nonneg_right h2 h3
 have e2 : -1000000000*b≤a*b:=Int.mul_le_mul_of_nonneg_right h1 h3
 omega
theorem sub_eq{p q:Rat}(hp:dK p)(hq:dK q):aa.nE (gN p) (gN q)=some (if dK (p-q) then (gN (p-q),0) else (⟨0,0⟩,3)):=by
 unfold aa.nE
 have dp:=rZ hp
 have dq:=rZ hq
 have m1:=n8 hp.1 hp.2.1 (b:=(q.den:Int)) (by omega) (by omega)
 have m2:=n8 hq.1 hq.2.1 (b:=(p.den:Int)) (by omega) (by omega)
 have m3:=n8 (a:=(p.den:Int)) (b:=(q.den:Int)) (by omega) (by omega) (by omega) (by omega)
 have m4:1≤p.den*q.den:=Nat.mul_pos p.den_pos q.den_pos
 have e3:(p.den:Int)*(q.den:Int)=((p.den*q.den:Nat):Int):=by simp
 have dN:((((p.den*q.den:Nat):Int))==0)=false:=by rw[beq_eq_false_iff_ne]; omega
 refine bB (jg _) (bF (by rw[lL,decide_eq_true hp]; rfl) (bB (jg _) (bF (by rw[lL,decide_eq_true hq]; rfl) ?_)))
 show (bif IntKind.i64.wrap ((p.den:Int)*(q.den:Int))==0 then _ else (aa.bg (ai.mk (IntKind.i64.wrap (IntKind.i64.wrap (p.num*(q.den:Int))-IntKind.i64.wrap (q.num*(p.den:Int)))) (IntKind.i64.wrap ((p.den:Int)*(q.den:Int))))).bind fun x=>some (x.1,x.2))=_
 rw[e9 (n:=p.num*(q.den:Int)) (by omega) (by omega),e9 (n:=q.num*(p.den:Int)) (by omega) (by omega),e9 (n:=p.num*(q.den:Int)-q.num*(p.den:Int)) (by omega) (by omega),e9 (n:=(p.den:Int)*(q.den:Int)) (by omega) (by omega),e3]
 refine bF dN (bB (Fb (by omega) (by omega) m4 (by omega)) ?_)
 rw[Rat.sub_def']
theorem add_eq{p q:Rat}(hp:dK p)(hq:dK q):aa.qw (gN p) (gN q)=some (if dK (p+q) then (gN (p+q),0) else (⟨0,0⟩,3)):=by
 unfold aa.qw
 have dp:=rZ hp
 have dq:=rZ hq
 have m1:=n8 hp.1 hp.2.1 (b:=(q.den:Int)) (by omega) (by omega)
 have m2:=n8 hq.1 hq.2.1 (b:=(p.den:Int)) (by omega) (by omega)
 have m3:=n8 (a:=(p.den:Int)) (b:=(q.den:Int)) (by omega) (by omega) (by omega) (by omega)
 have m4:1≤p.den*q.den:=Nat.mul_pos p.den_pos q.den_pos
 have e3:(p.den:Int)*(q.den:Int)=((p.den*q.den:Nat):Int):=by simp
 have dN:((((p.den*q.den:Nat):Int))==0)=false:=by rw[beq_eq_false_iff_ne]; omega
 refine bB (jg _) (bF (by rw[lL,decide_eq_true hp]; rfl) (bB (jg _) (bF (by rw[lL,decide_eq_true hq]; rfl) ?_)))
 show (bif IntKind.i64.wrap ((p.den:Int)*(q.den:Int))==0 then _ else (aa.bg (ai.mk (IntKind.i64.wrap (IntKind.i64.wrap (p.num*(q.den:Int))+IntKind.i64.wrap (q.num*(p.den:Int)))) (IntKind.i64.wrap ((p.den:Int)*(q.den:Int))))).bind fun x=>some (x.1,x.2))=_
 rw[e9 (n:=p.num*(q.den:Int)) (by omega) (by omega),e9 (n:=q.num*(p.den:Int)) (by omega) (by omega),e9 (n:=p.num*(q.den:Int)+q.num*(p.den:Int)) (by omega) (by omega),e9 (n:=(p.den:Int)*(q.den:Int)) (by omega) (by omega),e3]
 refine bF dN (bB (Fb (by omega) (by omega) m4 (by omega)) ?_)
 rw[Rat.add_def']
theorem qg(p:Rat){m:Nat}(hm:1≤m):mkRat p.num (p.den*m)=p/(m:Rat):=by
 have h:=Rat.mkRat_self p
 rw[Rat.div_def]
 have hi:((m:Rat))⁻¹=mkRat 1 m:=by
  rw[Rat.mkRat_eq_div,Rat.div_def]; simp
 rw[hi]
 conv=>rhs; rw[←h]
 rw[Rat.mkRat_mul_mkRat]; simp
theorem div_eq{p:Rat}(hp:dK p){m:Nat}(h1:1≤m)(h2:m≤1000):aa.qx (gN p) ⟨m,1⟩=some (if dK (p/(m:Rat)) then (gN (p/(m:Rat)),0) else (⟨0,0⟩,3)):=by
 unfold aa.qx
 have dp:=rZ hp
 have hm:(⟨m,1⟩:ai)=gN ((m:Int):Rat):=rfl
 have fm:dK ((m:Int):Rat):=⟨by show (_:Int)≤(m:Int); omega,by show (m:Int)≤_; omega,by show 1≤1000000000; omega⟩
 have m3:=n8 (a:=(p.den:Int)) (b:=(m:Int)) (by omega) (by omega) (by omega) (by omega)
 have m4:1≤p.den*m:=Nat.mul_pos p.den_pos h1
 have e3:(p.den:Int)*(m:Int)=((p.den*m:Nat):Int):=by simp
 have dN:((((p.den*m:Nat):Int))==0)=false:=by rw[beq_eq_false_iff_ne]; omega
 refine bB (jg _) (bF (by rw[lL,decide_eq_true hp]; rfl) (bB (jg _) (bF (by rw[hm,lL,decide_eq_true fm]; rfl) ?_)))
 show (bif IntKind.i64.wrap ((p.den:Int)*(m:Int))==0 then _ else (aa.bg (ai.mk (IntKind.i64.wrap (p.num*1)) (IntKind.i64.wrap ((p.den:Int)*(m:Int))))).bind fun x=>some (x.1,x.2))=_
 have Uo:=hp.1
 have Mn:=hp.2.1
 rw[Int.mul_one,e9 (n:=p.num) (by omega) (by omega),e9 (n:=(p.den:Int)*(m:Int)) (by omega) (by omega),e3]
 refine bF dN (bB (Fb (by omega) (by omega) m4 (by omega)) ?_)
 rw[qg p h1]
def Ku(p q:Rat):Int:=if p<q then -1 else if q<p then 1 else 0
theorem P4{p q:Rat}(hp:dK p)(hq:dK q):aa.qy (gN p) (gN q)=some (Ku p q,0):=by
 unfold aa.qy aa.pP aa.qz
 have dp:=rZ hp
 have dq:=rZ hq
 have m1:=n8 hp.1 hp.2.1 (b:=(q.den:Int)) (by omega) (by omega)
 have m2:=n8 hq.1 hq.2.1 (b:=(p.den:Int)) (by omega) (by omega)
 refine bB (jg _) (bF (by rw[lL,decide_eq_true hp]; rfl) (bB (jg _) (bF (by rw[lL,decide_eq_true hq]; rfl) ?_)))
 have w1:IntKind.i64.wrap ((gN p).c7*(gN q).Den)=p.num*(q.den:Int):=e9 (n:=p.num*(q.den:Int)) (by omega) (by omega)
 have w2:IntKind.i64.wrap ((gN q).c7*(gN p).Den)=q.num*(p.den:Int):=e9 (n:=q.num*(p.den:Int)) (by omega) (by omega)
 rw[w1,w2]
 refine bB (v:=Ku p q) ?_ rfl
 simp only[beq_self_eq_true,Bool.not_true,Option.bind_some,cond_false]
 unfold Ku
 by_cases h1:p<q
 ·rw[if_pos h1]
  exact bT (decide_eq_true ((Rat.lt_iff p q).1 h1)) rfl
 ·rw[if_neg h1]
  refine bF (decide_eq_false fun h=>h1 ((Rat.lt_iff p q).2 h)) ?_
  by_cases h2:q<p
  ·rw[if_pos h2]
   exact bT (decide_eq_true ((Rat.lt_iff q p).1 h2)) rfl
  ·rw[if_neg h2]
   exact bF (decide_eq_false fun h=>h2 ((Rat.lt_iff q p).2 h)) rfl
theorem wP{p q:Rat}(hp:dK p)(hq:dK q):aa.eQ (gN p) (gN q)=some (decide (p<q)):=by
 unfold aa.eQ
 refine bB (P4 hp hq) ?_
 show some (decide (Ku p q<0))=_
 congr 1
 rw[decide_eq_decide]
 unfold Ku
 by_cases h1:p<q
 ·simp[h1]
 ·rw[if_neg h1]
  by_cases h2:q<p<;>simp[h1,h2]
end Go.Proofs.Ytedjbjphpnkpoaa
end
section
/- Plain facts of this seat: valid networks. -/
set_option maxRecDepth 100000
namespace Go.Proofs.Ytedjbjphpnkpoaa
open Go.PI Go.Pl Go.Mm
theorem tB{τ ω:Type}{f:τ→Option (τ ⊕ ω)}(st:Nat→τ)(c:Nat→Bool)(n:Nat)(e bad:ω){x0:τ}
  (h:∀ i,i<n→f (st i)=bif c i then some (.inl (st (i+1))) else some (.inr bad)) (he:f (st n)=some (.inr e)) (hx:x0=st 0) :
  aM f x0=some (bif (List.range n).all c then e else bad):=by
 subst hx
 rcases tz st c (fun _=>bad) n e (fun i hi=>by rw[h i hi]; cases c i<;>rfl) he with ⟨h1,h2⟩|⟨h1,i,_,_,h2⟩
 ·rw[h1,h2]; rfl
 ·rw[h1,h2]; rfl
theorem eF{τ ω:Type}{f:τ→Option (τ ⊕ ω)}(st:Nat→τ)(n:Nat)(e:ω){x0:τ}(h:∀ i,i<n→f (st i)=some (.inl (st (i+1))))(he:f (st n)=some (.inr e))(hx:x0=st 0):aM f x0=some e:=by
 subst hx
 have key:∀ m i,m=n-i→i≤n→aM f (st i)=some e:=by
  intro m
  induction m with
  |zero=>intro i hm hi; obtain rfl:i=n:=by omega
         exact out he
  |succ m ih=>intro i hm hi; rw[next (h i (by omega))]; exact ih (i+1) (by omega) (by omega)
 exact key n 0 rfl (Nat.zero_le _)
theorem get_at{γ:Type}{l:List γ}{i:Nat}(h:i<l.length):l[(i:Int).toNat]?=some l[i]:=by simp[h]
theorem dQ{i:Nat}(h:i<2^62):IntKind.i64.wrap ((i:Int)+1)=((i+1:Nat):Int):=e9 (by omega) (by omega)
theorem P5(n lo hi:Int):aa.nF n lo hi=some (decide (lo≤n)&&decide (n≤hi)):=Gx
def pF(l:List Int)(L:Int)(i:Nat):Bool:=
 match l[i]? with
 |none=>false
 |some x=>(decide (0≤x)&&decide (x≤L-1))&&(if i=0 then true else match l[i-1]? with|none=>false|some y=>decide (y<x))
def D8(l:List Int)(L:Int):Bool:=(List.range l.length).all (pF l L)&&(decide (1≤(l.length:Int))&&decide ((l.length:Int)≤6))
theorem Nq{l:List Int}{L:Int}(hl:l.length≤2^62)(h0:0≤L)(h1:L≤1000000):aa.jW l L=some (D8 l L):=by
 unfold aa.jW
 refine bB (tB (fun i=>(false,(i:Int))) (pF l L) l.length (Sum.inr (false,(l.length:Int))) (Sum.inl false) (fun i hi=>?_) (bF (du _) rfl) rfl) ?_
 ·refine bT (cX hi) (bT (aL i) (bB (get_at hi) (bB (P5 _ _ _) ?_)))
  rw[e9 (n:=L-1) (by omega) (by omega)]
  unfold pF
  rw[List.getElem?_eq_getElem hi]
  cases hc:(decide (0≤l[i])&&decide (l[i]≤L-1)) with
  |false=>simp only[hc]; rfl
  |true=>
   simp only[hc]
   by_cases e:i=0
   ·subst e
    exact bF rfl (bF rfl (by rw[dQ (by omega)]; rfl))
   ·have hw:IntKind.i64.wrap ((i:Int)-1)=((i-1:Nat):Int):=by rw[e9 (by omega) (by omega)]; omega
    have D4:i-1<l.length:=by omega
    refine bF rfl (bT (decide_eq_true (by omega)) (bT (by rw[hw]; exact aL _) (bB (v:=l[i-1]) (by rw[hw]; exact get_at D4) ?_)))
    rw[if_neg e,List.getElem?_eq_getElem D4,dQ (by omega)]
    by_cases bQ:l[i]≤l[i-1]
    ·rw[decide_eq_true bQ]; simp only[decide_eq_false (by omega:¬l[i-1]<l[i])]; rfl
    ·rw[decide_eq_false bQ]; simp only[decide_eq_true (by omega:l[i-1]<l[i])]; rfl
 ·unfold D8
  cases (List.range l.length).all (pF l L) with
  |false=>rfl
  |true=>exact bB (P5 _ _ _) rfl
theorem Kv{l:List Int}{L:Int}(hl:l.length≤2^62):aa.n9 l L=some (D8 l L):=by
 unfold aa.n9
 refine bB (tB (fun i=>(false,(i:Int))) (pF l L) l.length (Sum.inr (false,(l.length:Int))) (Sum.inl false) (fun i hi=>?_) (bF (du _) rfl) rfl) ?_
 ·refine bT (cX hi) (bT (aL i) (bB (get_at hi) ?_))
  unfold pF
  rw[List.getElem?_eq_getElem hi]
  by_cases h1:l[i]<0
  ·refine bT (decide_eq_true h1) ?_
   simp only[decide_eq_false (by omega:¬0≤l[i])]; rfl
  refine bF (decide_eq_false h1) (bT (aL i) (bB (get_at hi) ?_))
  simp only[decide_eq_true (by omega:0≤l[i])]
  by_cases h2:L≤l[i]
  ·refine bT (decide_eq_true h2) ?_
   simp only[decide_eq_false (by omega:¬l[i]≤L-1)]; rfl
  refine bF (decide_eq_false h2) ?_
  simp only[decide_eq_true (by omega:l[i]≤L-1)]
  by_cases e:i=0
  ·subst e
   exact bF rfl (by rw[dQ (by omega)]; rfl)
  ·have hw:IntKind.i64.wrap ((i:Int)-1)=((i-1:Nat):Int):=by rw[e9 (by omega) (by omega)]; omega
   have D4:i-1<l.length:=by omega
   refine bT (decide_eq_true (by omega)) (bT (aL i) (bB (get_at hi) (bT (by rw[hw]; exact aL _) (bB (v:=l[i-1]) (by rw[hw]; exact get_at D4) ?_))))
   rw[if_neg e,List.getElem?_eq_getElem D4,dQ (by omega)]
   by_cases bQ:l[i]≤l[i-1]
   ·rw[decide_eq_true bQ]; simp only[decide_eq_false (by omega:¬l[i-1]<l[i])]; rfl
   ·rw[decide_eq_false bQ]; simp only[decide_eq_true (by omega:l[i-1]<l[i])]; rfl
 ·unfold D8
  cases (List.range l.length).all (pF l L) with
  |false=>rfl
  |true=>exact Gx
def ua(x:Int):Bool:=decide (0≤x)&&decide (x≤1000)
def vN(n:bD):Bool:=decide (n.aC.length≤8)&&(decide (n.ae.length≤8)&&(decide (n.aH.length=n.ae.length)&&((n.aC.all ua&&n.aH.all ua)&&n.ae.all fun l=>D8 l (n.aC.length:Int))))
theorem GA{n:bD}(hl:∀ l∈n.ae,l.length≤2^62):aa.gw n=some (vN n):=by
 unfold aa.gw vN
 by_cases h1:n.aC.length≤8
 case neg=>rw[decide_eq_false h1]; exact bT (decide_eq_true (by omega)) rfl
 rw[decide_eq_true h1]
 refine bF (decide_eq_false (by omega)) ?_
 by_cases h2:n.ae.length≤8
 case neg=>rw[decide_eq_false h2]; exact bT (decide_eq_true (by omega)) rfl
 rw[decide_eq_true h2]
 refine bF (decide_eq_false (by omega)) ?_
 by_cases h3:n.aH.length=n.ae.length
 case neg=>rw[decide_eq_false h3]; exact bT (by simp; omega) rfl
 rw[decide_eq_true h3]
 refine bF (by simp; omega) ?_
 have hc:aa.hG [n.aC,n.aH]=some (n.aC++n.aH):=by
  show tC 8 [n.aC,n.aH]=_
  unfold tC Kw
  have:[n.aC,n.aH].flatten=n.aC++n.aH:=by simp
  rw[this]
  have hlen:(n.aC++n.aH).length≤16:=by rw[List.length_append]; omega
  exact bT (by simp only[Bool.and_eq_true,decide_eq_true_eq]; exact⟨by simp,by omega,by omega⟩) rfl
 refine bB hc ?_
 have hlen:(n.aC++n.aH).length≤16:=by rw[List.length_append]; omega
 refine bB (uK (n.aC++n.aH) (fun i=>(false,(i:Int))) ua (Sum.inl false) (Sum.inr (false,((n.aC++n.aH).length:Int))) (fun i hi=>?_) (bF (du _) rfl) rfl) ?_
 ·refine bT (cX hi) (bT (aL i) (bB (get_at hi) (bB (P5 _ _ _) ?_)))
  rw[dQ (by omega)]
  show (bif !ua _ then _ else _)=_
  cases ua (n.aC++n.aH)[i]<;>rfl
 rw[List.all_append]
 cases ZT:(n.aC.all ua&&n.aH.all ua) with
 |false=>rfl
 |true=>
  simp only[cond_true,Sum.elim_inr,Bool.true_and]
  refine bB (uK n.ae (fun i=>(false,(i:Int))) (fun l=>D8 l (n.aC.length:Int)) (Sum.inl false) (Sum.inr (false,(n.ae.length:Int))) (fun i hi=>?_) (bF (du _) rfl) rfl) ?_
  ·refine bT (cX hi) (bT (aL i) (bB (get_at hi) (bB (Nq (hl _ (List.getElem_mem hi)) (by omega) (by omega)) ?_)))
   rw[dQ (by omega)]
   cases D8 n.ae[i] (n.aC.length:Int)<;>rfl
  ·cases n.ae.all fun l=>D8 l (n.aC.length:Int)<;>rfl
theorem Nr{γ δ:Type}{l:List γ}{m:List δ}{p:γ→Bool}{q:δ→Bool}(h:l.length=m.length):((List.range l.length).all fun i=>(l[i]?.map p).getD false&&(m[i]?.map q).getD false)=(l.all p&&m.all q):=by
 rw[Bool.eq_iff_iff,List.all_eq_true,Bool.and_eq_true,List.all_eq_true,List.all_eq_true]
 constructor
 ·intro hh
  refine⟨fun x hx=>?_,fun x hx=>?_⟩
  ·obtain⟨i,hi,rfl⟩:=List.getElem_of_mem hx
   have:=hh i (List.mem_range.2 hi)
   rw[List.getElem?_eq_getElem hi]at this
   simp only[Bool.and_eq_true]at this
   exact this.1
  ·obtain⟨i,hi,rfl⟩:=List.getElem_of_mem hx
   have:=hh i (List.mem_range.2 (by omega))
   rw[List.getElem?_eq_getElem hi]at this
   simp only[Bool.and_eq_true]at this
   exact this.2
 ·rintro⟨h1,h2⟩ i hi
  have hi:=List.mem_range.1 hi
  rw[List.getElem?_eq_getElem hi,List.getElem?_eq_getElem (show i<m.length by omega)]
  simp only[Bool.and_eq_true]
  exact⟨h1 _ (List.getElem_mem _),h2 _ (List.getElem_mem _)⟩
theorem Kx{n:bD}(hl:∀ l∈n.ae,l.length≤2^62):aa.cY n=some (vN n):=by
 unfold aa.cY vN
 by_cases h1:n.aC.length≤8
 case neg=>rw[decide_eq_false h1]; exact bT (decide_eq_true (by omega)) rfl
 rw[decide_eq_true h1]
 refine bF (decide_eq_false (by omega)) ?_
 by_cases h2:n.ae.length≤8
 case neg=>rw[decide_eq_false h2]; exact bT (decide_eq_true (by omega)) rfl
 rw[decide_eq_true h2]
 refine bF (decide_eq_false (by omega)) ?_
 by_cases h3:n.aH.length=n.ae.length
 case neg=>rw[decide_eq_false h3]; exact bT (by simp; omega) rfl
 rw[decide_eq_true h3]
 refine bF (by simp; omega) ?_
 refine bB (uK n.aC (fun i=>(false,(i:Int))) ua (Sum.inl false) (Sum.inr (false,(n.aC.length:Int))) (fun i hi=>?_) (bF (du _) rfl) rfl) ?_
 ·refine bT (cX hi) (bT (aL i) (bB (get_at hi) ?_))
  rw[dQ (by omega)]
  unfold ua
  by_cases g1:n.aC[i]<0
  ·rw[decide_eq_false (by omega:¬0≤n.aC[i])]; exact bT (decide_eq_true g1) rfl
  rw[decide_eq_true (by omega:0≤n.aC[i])]
  refine bF (decide_eq_false g1) (bT (aL i) (bB (get_at hi) ?_))
  by_cases g2:1000<n.aC[i]
  ·rw[decide_eq_false (by omega:¬n.aC[i]≤1000)]; exact bT (decide_eq_true g2) rfl
  ·rw[decide_eq_true (by omega:n.aC[i]≤1000)]; exact bF (decide_eq_false g2) rfl
 cases ZT:n.aC.all ua with
 |false=>rfl
 |true=>
  simp only[cond_true,Sum.elim_inr,Bool.true_and]
  refine bB (tB (fun i=>(false,(i:Int))) (fun i=>(n.ae[i]?.map fun l=>D8 l (n.aC.length:Int)).getD false&&(n.aH[i]?.map ua).getD false) n.ae.length (Sum.inr (false,(n.ae.length:Int))) (Sum.inl false) (fun i hi=>?_) (bF (du _) rfl) rfl) ?_
  ·have IG:i<n.aH.length:=by omega
   refine bT (cX hi) (bT (aL i) (bB (get_at hi) (bB (Kv (hl _ (List.getElem_mem hi))) ?_)))
   rw[dQ (by omega),List.getElem?_eq_getElem hi,List.getElem?_eq_getElem IG]
   show (bif !D8 n.ae[i] (n.aC.length:Int) then _ else _)=bif (D8 n.ae[i] (n.aC.length:Int)&&ua n.aH[i]) then _ else _
   cases D8 n.ae[i] (n.aC.length:Int) with
   |false=>rfl
   |true=>
    refine bF rfl (bT (aL i) (bB (get_at IG) ?_))
    unfold ua
    by_cases g1:n.aH[i]<0
    ·simp only[decide_eq_false (by omega:¬0≤n.aH[i])]; exact bT (decide_eq_true g1) rfl
    simp only[decide_eq_true (by omega:0≤n.aH[i])]
    refine bF (decide_eq_false g1) (bT (aL i) (bB (get_at IG) ?_))
    by_cases g2:1000<n.aH[i]
    ·simp only[decide_eq_false (by omega:¬n.aH[i]≤1000)]; exact bT (decide_eq_true g2) rfl
    ·simp only[decide_eq_true (by omega:n.aH[i]≤1000)]; exact bF (decide_eq_false g2) rfl
  ·rw[Nr (p:=fun l=>D8 l (n.aC.length:Int)) (q:=ua) h3.symm,Bool.and_comm]
   cases (n.aH.all ua&&n.ae.all fun l=>D8 l (n.aC.length:Int))<;>rfl
theorem Ss(n:bD)(hw:n.ae.length≤2^63-1):∃ b,aa.iJ n=some b∧(b=true→n.aC.length≤50∧n.ae.length≤50∧n.aH.length≤50∧∀ l∈n.ae,l.length≤50):=by
 unfold aa.iJ
 have xR:=tB (ω:=Bool ⊕ Bool×Int) (f:=fun ((b1,i2):Bool×Int)=>
   bif decide (i2<(↑n.ae.length:Int)) then bif decide (i2<50) then bif decide (0≤i2) then (n.ae[i2.toNat]?).bind fun l3=>bif decide (50<(↑l3.length:Int)) then some (Sum.inr (Sum.inl false)) else some (Sum.inl (b1,IntKind.i64.wrap (i2+1))) else none else some (Sum.inr (Sum.inr (b1,i2))) else some (Sum.inr (Sum.inr (b1,i2))))
  (fun i=>(false,(i:Int))) (fun i=>match n.ae[i]? with|some l=>decide (l.length≤50)|none=>false) (min n.ae.length 50) (Sum.inr (false,((min n.ae.length 50:Nat):Int))) (Sum.inl false) (x0:=(false,0)) (fun i hi=>?_) ?_ rfl
 ·cases bc:(List.range (min n.ae.length 50)).all (fun i=>match n.ae[i]? with|some l=>decide (l.length≤50)|none=>false) with
  |false=>
   rw[bc]at xR
   exact⟨false,bB xR rfl,fun h=>Bool.noConfusion h⟩
  |true=>
   rw[bc]at xR
   refine⟨_,bB xR (by show (bif _ then bif _ then _ else _ else _)=some (decide ((n.aC.length:Int)≤50)&&(decide ((n.ae.length:Int)≤50)&&decide ((n.aH.length:Int)≤50))); cases decide ((n.aC.length:Int)≤50)<;>cases decide ((n.ae.length:Int)≤50)<;>rfl),fun h=>?_⟩
   simp only[Bool.and_eq_true,decide_eq_true_eq]at h
   refine⟨by omega,by omega,by omega,fun l hl=>?_⟩
   obtain⟨i,hi,rfl⟩:=List.getElem_of_mem hl
   have:=List.all_eq_true.1 bc i (List.mem_range.2 (by omega))
   rw[List.getElem?_eq_getElem hi]at this
   simpa using this
 ·have h1:i<n.ae.length:=by omega
  refine bT (cX h1) (bT (decide_eq_true (by omega)) (bT (aL i) (bB (get_at h1) ?_)))
  rw[List.getElem?_eq_getElem h1,dQ (by omega)]
  by_cases g:n.ae[i].length≤50
  ·simp only[decide_eq_true g]; exact bF (decide_eq_false (by omega)) rfl
  ·simp only[decide_eq_false g]; exact bT (decide_eq_true (by omega)) rfl
 ·by_cases g:n.ae.length≤50
  ·have e:min n.ae.length 50=n.ae.length:=by omega
   rw[e]
   exact bF (du _) rfl
  ·have e:min n.ae.length 50=50:=by omega
   rw[e]
   exact bT (cX (by omega)) (bF (by decide) rfl)
end Go.Proofs.Ytedjbjphpnkpoaa
end
section
/- Plain facts of this seat: levels. -/
set_option maxRecDepth 100000
namespace Go.Proofs.Ytedjbjphpnkpoaa
open Go.PI Go.Pl Go.Mm
theorem Ns{l:List Int}(hl:l.length≤2^62)(v:Int):aa.bC l v=some (decide (v∈l)):=by
 unfold aa.bC aa.mM
 have key:=tz (ω:=Int ⊕ Int×Int) (f:=fun ((i1,i2):Int×Int)=>bif decide (i2<(↑l.length:Int)) then bif decide (0≤i2) then (l[i2.toNat]?).bind fun i3=>bif v==i3 then some (Sum.inr (Sum.inl i2)) else some (Sum.inl (i1,IntKind.i64.wrap (i2+1))) else none else some (Sum.inr (Sum.inr (i1,i2))))
  (fun i=>((0:Int),(i:Int))) (fun i=>(l[i]?.map fun x=>!(v==x)).getD false) (fun i=>Sum.inl (i:Int)) l.length (Sum.inr (0,(l.length:Int))) (fun i hi=>by
    refine bT (cX hi) (bT (aL i) (bB (get_at hi) ?_))
    rw[List.getElem?_eq_getElem hi,dQ (by omega)]
    show (bif v==l[i] then _ else _)=some (bif !(v==l[i]) then _ else _)
    cases v==l[i]<;>rfl) (bF (du _) rfl)
 rcases key with ⟨h1,h2⟩|⟨h1,i,hi,hp,h2⟩
 ·refine bB (v := -1) (bB h2 rfl) ?_
  rw[show decide (v∈l)=false from decide_eq_false fun hm=>?_]; ·rfl
  obtain⟨i,hi,rfl⟩:=List.getElem_of_mem hm
  have:=List.all_eq_true.1 h1 i (List.mem_range.2 hi)
  rw[List.getElem?_eq_getElem hi]at this
  simp at this
 ·refine bB (v:=(i:Int)) (bB h2 rfl) ?_
  rw[show decide (v∈l)=true from decide_eq_true ?_]; ·rw[aL]
  rw[List.getElem?_eq_getElem hi]at hp
  simp only[Option.map_some,Option.getD_some,Bool.not_eq_false',beq_iff_eq]at hp
  rw[hp]; exact List.getElem_mem _
theorem CP{l:List Bool}(hl:l.length≤2^62)(v:Bool):aa.fo l v=some (decide (v∈l)):=by
 unfold aa.fo aa.oa
 have key:=tz (ω:=Int ⊕ Int×Int) (f:=fun ((i1,i2):Int×Int)=>bif decide (i2<(↑l.length:Int)) then bif decide (0≤i2) then (l[i2.toNat]?).bind fun i3=>bif v==i3 then some (Sum.inr (Sum.inl i2)) else some (Sum.inl (i1,IntKind.i64.wrap (i2+1))) else none else some (Sum.inr (Sum.inr (i1,i2))))
  (fun i=>((0:Int),(i:Int))) (fun i=>(l[i]?.map fun x=>!(v==x)).getD false) (fun i=>Sum.inl (i:Int)) l.length (Sum.inr (0,(l.length:Int))) (fun i hi=>by
    refine bT (cX hi) (bT (aL i) (bB (get_at hi) ?_))
    rw[List.getElem?_eq_getElem hi,dQ (by omega)]
    show (bif v==l[i] then _ else _)=some (bif !(v==l[i]) then _ else _)
    cases v==l[i]<;>rfl) (bF (du _) rfl)
 rcases key with ⟨h1,h2⟩|⟨h1,i,hi,hp,h2⟩
 ·refine bB (v := -1) (bB h2 rfl) ?_
  rw[show decide (v∈l)=false from decide_eq_false fun hm=>?_]; ·rfl
  obtain⟨i,hi,rfl⟩:=List.getElem_of_mem hm
  have:=List.all_eq_true.1 h1 i (List.mem_range.2 hi)
  rw[List.getElem?_eq_getElem hi]at this
  simp at this
 ·refine bB (v:=(i:Int)) (bB h2 rfl) ?_
  rw[show decide (v∈l)=true from decide_eq_true ?_]; ·rw[aL]
  rw[List.getElem?_eq_getElem hi]at hp
  simp only[Option.map_some,Option.getD_some,Bool.not_eq_false',beq_iff_eq]at hp
  rw[hp]; exact List.getElem_mem _
/-! ### A valid network -/
def gO(n:bD)(l i:Nat):Bool:=(n.ae[i]?.map fun f=>decide ((l:Int)∈f)).getD false
def bx(n:bD):wC where
 F:=n.ae.length
 L:=n.aC.length
 on:=gO n
 c l:=((n.aC[l]?.getD 0:Int):Rat)
 has i:=decide (0<n.aH[i]?.getD 0)
 k i:=((n.aH[i]?.getD 0:Int):Rat)
structure VN(n:bD):Prop where
 nc:n.aC.length≤8
 nf:n.ae.length≤8
 nl:n.aH.length=n.ae.length
 c:∀ x∈n.aC,0≤x∧x≤1000
 k:∀ x∈n.aH,0≤x∧x≤1000
 f6:∀ l∈n.ae,1≤l.length∧l.length≤6
 fr:∀ l∈n.ae,∀ x∈l,0≤x∧x<n.aC.length
theorem z6{n:bD}(h:vN n=true):VN n:=by
 unfold vN at h
 simp only[Bool.and_eq_true,decide_eq_true_eq,List.all_eq_true]at h
 obtain⟨h1,h2,h3,⟨h4,h5⟩,h6⟩:=h
 have hk:∀ x,ua x=true→0≤x∧x≤1000:=fun x hx=>by simpa[ua] using hx
 refine⟨h1,h2,h3,fun x hx=>hk x (h4 x hx),fun x hx=>hk x (h5 x hx),fun l hl=>?_,fun l hl x hx=>?_⟩
 ·have:=h6 l hl
  unfold D8 at this
  simp only[Bool.and_eq_true,decide_eq_true_eq]at this
  omega
 ·have:=h6 l hl
  unfold D8 at this
  simp only[Bool.and_eq_true,List.all_eq_true]at this
  obtain⟨i,hi,rfl⟩:=List.getElem_of_mem hx
  have:=this.1 i (List.mem_range.2 hi)
  unfold pF at this
  rw[List.getElem?_eq_getElem hi]at this
  simp only[Bool.and_eq_true,decide_eq_true_eq]at this
  omega
theorem VN.P6{n:bD}(h:VN n){l:List Int}(hl:l∈n.ae):l.length≤2^62:=by have:=h.f6 l hl; omega
theorem VN.cap{n:bD}(h:VN n){l:Nat}(hl:l<n.aC.length):(bx n).c l=((n.aC[l]:Int):Rat)∧0≤n.aC[l]∧n.aC[l]≤1000:=by
 refine⟨?_,h.c _ (List.getElem_mem _)⟩
 show ((n.aC[l]?.getD 0:Int):Rat)=_
 rw[List.getElem?_eq_getElem hl]; rfl
theorem VN.kO{n:bD}(h:VN n){i:Nat}(hi:i<n.ae.length):∃ k,n.aH[i]?=some k∧(bx n).k i=(k:Rat)∧(bx n).has i=decide (0<k)∧0≤k∧k≤1000:=by
 have hl:i<n.aH.length:=by rw[h.nl]; exact hi
 refine⟨n.aH[i],List.getElem?_eq_getElem hl,?_,?_,h.k _ (List.getElem_mem _)⟩
 ·show ((n.aH[i]?.getD 0:Int):Rat)=_
  rw[List.getElem?_eq_getElem hl]; rfl
 ·show decide (0<n.aH[i]?.getD 0)=_
  rw[List.getElem?_eq_getElem hl]; rfl
theorem VN.on{n:bD}(h:VN n){l i:Nat}(hi:i<n.ae.length):aa.bC n.ae[i] (l:Int)=some (gO n l i):=by
 rw[Ns (h.P6 (List.getElem_mem _))]
 unfold gO
 rw[List.getElem?_eq_getElem hi]; rfl
theorem VN.ex{n:bD}(h:VN n){i:Nat}(hi:i<n.ae.length):∃ l,l<n.aC.length∧gO n l i=true:=by
 have h1:=h.f6 _ (List.getElem_mem hi)
 have h2:=h.fr _ (List.getElem_mem hi) _ (List.getElem_mem (show 0<n.ae[i].length by omega))
 refine⟨n.ae[i][0].toNat,by omega,?_⟩
 unfold gO
 rw[List.getElem?_eq_getElem hi]
 simp only[Option.map_some,Option.getD_some,decide_eq_true_eq]
 rw[Int.toNat_of_nonneg h2.1]
 exact List.getElem_mem _
theorem xS{P:Nat}{q:Rat}(h1:1≤P)(h2:P≤1000)(hd:Dv P q)(h0:0≤q)(hq:q≤1000):dK q∧q.den≤P:=by
 obtain⟨m,hm⟩:=hd
 have hP:(P:Rat)≠0:=by intro e; have:P=0:=by exact_mod_cast e
                       omega
 have Yb:(0:Rat)<(P:Rat):=by exact_mod_cast h1
 have e:q=mkRat m P:=by
  rw[Rat.mkRat_eq_div,←hm,Rat.div_def,Rat.mul_assoc,Rat.mul_inv_cancel _ hP,Rat.mul_one]
 have Pn:0≤m:=by
  have:(0:Rat)≤(m:Rat):=by rw[←hm]; exact Rat.mul_nonneg h0 (Rat.le_of_lt Yb)
  exact_mod_cast this
 have uu:m≤1000*P:=by
  have:(m:Rat)≤1000*(P:Rat):=by rw[←hm]; exact Rat.mul_le_mul_of_nonneg_right hq (Rat.le_of_lt Yb)
  exact_mod_cast this
 have hn:=Kt (n:=m) h1
 have Su:(mkRat m P).den≤P:=by rw[Rat.den_mkRat,if_neg (by omega)]; exact Nat.div_le_self _ _
 rw[←e]at hn Su
 exact⟨⟨by omega,by omega,by omega⟩,Su⟩
theorem wQ{k:Int}(h0:0≤k)(h1:k≤1000):dK (k:Rat):=⟨by show _≤k; omega,by show k≤_; omega,by show 1≤_; omega⟩
structure mb(n:bD)(rates:List ai)(fixed:List Bool)(x:Nat→Rat)(lo:Rat)(P:Nat):Prop where
 nr:rates.length=n.ae.length
 nf:fixed.length=n.ae.length
 r:∀ i,i<n.ae.length→fixed[i]?=some true→rates[i]?=some (gN (x i))
 inv:Inv (bx n) (fun i=>fixed[i]?.getD false) x lo P
abbrev jw(fixed:List Bool)(i:Nat):Bool:=fixed[i]?.getD false
theorem od{p:Nat→Bool}{x:Nat→Rat}{n:Nat}(h:∀ j,j<n→p j=true→0≤x j):∀ {i:Nat},i≤n→0≤sm p x i∧sm p x i≤sm p x n:=by
 have up:∀ m i,i+m=n→sm p x i≤sm p x n:=by
  intro m
  induction m with
  |zero=>intro i hi; rw[show i=n by omega]; exact Rat.le_refl
  |succ m ih=>
   intro i hi
   have h1:=ih (i+1) (by omega)
   simp only[sm]at h1
   cases hp:p i with
   |false=>rw[hp]at h1; simp only[cond_false]at h1; grind
   |true=>rw[hp]at h1; simp only[cond_true]at h1; have:=h i (by omega) hp; grind
 intro i hi
 refine⟨?_,up (n-i) i (by omega)⟩
 clear up
 induction i with
 |zero=>exact Rat.le_refl
 |succ i ih=>
  have h1:=ih (by omega)
  simp only[sm]
  cases hp:p i with
  |false=>simp only[cond_false]; grind
  |true=>simp only[cond_true]; have:=h i (by omega) hp; grind
section
variable {n:bD}{rates:List ai}{fixed:List Bool}{x:Nat→Rat}{lo:Rat}{P:Nat}
theorem mb.PY(h:mb n rates fixed x lo P):P≤18:=Nat.le_trans (Nat.le_mul_of_pos_right _ (Kq _)) h.inv.PY
abbrev sF(n:bD)(fixed:List Bool)(x:Nat→Rat)(l:Nat):Rat:=sm (fun i=>gO n l i&&jw fixed i) x n.ae.length
abbrev mF(n:bD)(fixed:List Bool)(l:Nat):Nat:=ct (fun i=>gO n l i&&!jw fixed i) n.ae.length
theorem xT(hv:VN n)(h:mb n rates fixed x lo P){l:Nat}(hl:l<n.aC.length):
  ∃ q,aa.cf (l:Int) (cb.mk n fixed rates)=some (gN q,decide (mF n fixed l≠0))∧(mF n fixed l≠0→q*(mF n fixed l:Nat)=(bx n).c l-sF n fixed x l∧dK q):=by
 obtain⟨hc,Mi,Jb⟩:=hv.cap hl
 have P7:∀ j,j<n.ae.length→(gO n l j&&jw fixed j)=true→0≤x j:=fun j hj hp=>by
  simp only[Bool.and_eq_true]at hp
  exact(h.inv.nn j hj hp.2).1
 have qT:=h.inv.cap l hl
 have hP:=h.PY
 have PZ:=h.inv.P1
 have Ky:∀ i,i≤n.ae.length→dK ((bx n).c l-sm (fun i=>gO n l i&&jw fixed i) x i):=fun i hi=>by
  have hm:=od P7 hi
  refine(xS PZ (by omega) ?_ ?_ ?_).1
  ·refine Dv.sub ?_ (Dv.sm fun j hj hp=>h.inv.dv j (by show j<n.ae.length; omega) (by simp only[Bool.and_eq_true]at hp; exact hp.2))
   rw[hc]; exact Dv.int _
  ·have:sm (fun i=>gO n l i&&jw fixed i) x n.ae.length≤(bx n).c l:=qT
   grind
  ·have h1:(bx n).c l≤1000:=by rw[hc]; exact_mod_cast Jb
   have:=hm.1
   grind
 have hx:∀ i,i<n.ae.length→jw fixed i=true→dK (x i):=fun i hi hf=>by
  have h1:=h.inv.nn i hi hf
  obtain⟨l',jy,ma⟩:=hv.ex hi
  obtain⟨HN,_,Sv⟩:=hv.cap jy
  have Yc:sm (fun i=>gO n l' i&&jw fixed i) x n.ae.length≤(bx n).c l':=h.inv.cap l' jy
  have Sw:∀ j,j<n.ae.length→(gO n l' j&&jw fixed j)=true→0≤x j:=fun j hj hp=>by
   simp only[Bool.and_eq_true]at hp
   exact(h.inv.nn j hj hp.2).1
  have h2:=(od Sw (i:=i+1) (by omega)).2
  have h3:=(od Sw (i:=i) (by omega)).1
  simp only[sm,ma,hf,Bool.and_self,cond_true]at h2
  have h4:(bx n).c l'≤1000:=by rw[HN]; exact_mod_cast Sv
  exact(xS PZ (by omega) (h.inv.dv i hi hf) h1.1 (by grind)).1
 have HO:∀ i,i<n.ae.length→fixed[i]?=some (jw fixed i):=fun i hi=>by
  have:i<fixed.length:=by rw[h.nf]; exact hi
  unfold jw
  rw[List.getElem?_eq_getElem this]; rfl
 have Sx:=hv.nf
 have T6:n.aC[(l:Int).toNat]?=some n.aC[l]:=get_at hl
 have ZU:0≤(bx n).c l-sF n fixed x l:=by
  have:sm (fun i=>gO n l i&&jw fixed i) x n.ae.length≤(bx n).c l:=qT
  grind
 have Sv:(bx n).c l≤1000:=by rw[hc]; exact_mod_cast Jb
 have hS1:(bx n).c l-sF n fixed x l≤1000:=by
  have:=(od P7 (i:=n.ae.length) (Nat.le_refl _)).1
  grind
 have ZV:Dv P ((bx n).c l-sF n fixed x l):=by
  refine Dv.sub ?_ (Dv.sm fun j hj hp=>h.inv.dv j hj (by simp only[Bool.and_eq_true]at hp; exact hp.2))
  rw[hc]; exact Dv.int _
 have ZW:mF n fixed l≤8:=Nat.le_trans pO Sx
 have xR:aM (ω:=Int×Int×Int×Int) (fun ((i3,i4,i5,i6):Int×Int×Int×Int)=>
    bif decide (i3<(↑(cb.mk n fixed rates).Net.ae.length:Int)) then
     bif decide (0≤i3) then
      ((cb.mk n fixed rates).Net.ae[i3.toNat]?).bind fun l7=>
      (aa.bC l7 l).bind fun b8=>
      bif b8 then
       bif decide (0≤i3) then
        ((cb.mk n fixed rates).CQ[i3.toNat]?).bind fun b9=>
        bif !b9 then
         some (Sum.inl (IntKind.i64.wrap (i3+1),IntKind.i64.wrap (i4+1),i5,i6))
        else
         bif decide (0≤i3) then
          ((cb.mk n fixed rates).CR[i3.toNat]?).bind fun CS=>
          (aa.nE (ai.mk i5 i6) CS).bind fun (Ms,i12)=>
          some (Sum.inl (IntKind.i64.wrap (i3+1),i4,Ms.c7,Ms.Den))
         else
          none
       else
        none
      else
       some (Sum.inl (IntKind.i64.wrap (i3+1),i4,i5,i6))
     else
      none
    else
     some (Sum.inr (i3,i4,i5,i6))) (0,0,n.aC[l],1)=some ((n.ae.length:Int),((mF n fixed l:Nat):Int),((bx n).c l-sF n fixed x l).num,(((bx n).c l-sF n fixed x l).den:Int)):=by
  refine eF (fun i=>((i:Int),((ct (fun i=>gO n l i&&!jw fixed i) i:Nat):Int),((bx n).c l-sm (fun i=>gO n l i&&jw fixed i) x i).num,((((bx n).c l-sm (fun i=>gO n l i&&jw fixed i) x i).den:Nat):Int))) n.ae.length _ (fun i hi=>?_) (bF (du _) rfl) ?_
  ·refine bT (cX hi) (bT (aL i) (bB (get_at hi) (bB (hv.on hi) ?_)))
   rw[dQ (by omega)]
   have U3:=pO (p:=fun i=>gO n l i&&!jw fixed i) (n:=i)
   cases ma:gO n l i with
   |false=>
    refine bF rfl ?_
    simp only[ct,sm,ma,Bool.false_and,cond_false,Nat.add_zero]
    have:(bx n).c l-(sm (fun i=>gO n l i&&jw fixed i) x i+0)=(bx n).c l-sm (fun i=>gO n l i&&jw fixed i) x i:=by grind
    rw[this]
   |true=>
    refine bT rfl (bT (aL i) (bB (v:=jw fixed i) (by rw[Int.toNat_natCast]; exact HO i hi) ?_))
    cases hf:jw fixed i with
    |false=>
     refine bT rfl ?_
     rw[dQ (by omega)]
     simp only[ct,sm,ma,hf,Bool.true_and,Bool.not_false,cond_true,cond_false]
     have:(bx n).c l-(sm (fun i=>gO n l i&&jw fixed i) x i+0)=(bx n).c l-sm (fun i=>gO n l i&&jw fixed i) x i:=by grind
     rw[this]
    |true=>
     have II:fixed[i]?=some true:=by rw[HO i hi,hf]
     have te:=sub_eq (Ky i (by omega)) (hx i hi hf)
     have GB:(bx n).c l-sm (fun i=>gO n l i&&jw fixed i) x i-x i=(bx n).c l-sm (fun i=>gO n l i&&jw fixed i) x (i+1):=by
      simp only[sm,ma,hf,Bool.and_self,cond_true]; grind
     rw[GB,if_pos (Ky (i+1) (by omega))]at te
     refine bF rfl (bT (aL i) (bB (v:=gN (x i)) (by rw[Int.toNat_natCast]; exact h.r i hi II) (bB te ?_)))
     simp only[ct,ma,hf,Bool.true_and,Bool.not_true,cond_false,Nat.add_zero]
     rfl
  ·have:(bx n).c l-sm (fun i=>gO n l i&&jw fixed i) x 0=(n.aC[l]:Rat):=by rw[←hc]; simp only[sm]; grind
   rw[this]; rfl
 by_cases hm:mF n fixed l=0
 ·refine⟨(bx n).c l-sF n fixed x l,?_,fun h=>absurd hm h⟩
  unfold aa.cf
  refine bT (aL l) (bB T6 (bB (v:=⟨n.aC[l],1⟩) rfl (bB xR (bT (by rw[hm]; rfl) ?_))))
  rw[hm]; rfl
 ·have uu:1≤mF n fixed l:=by omega
  have VG:((mF n fixed l:Nat):Rat)≠0:=fun e=>hm (by exact_mod_cast e)
  have Sq:(0:Rat)<((mF n fixed l:Nat):Rat):=by exact_mod_cast uu
  have hq:((bx n).c l-sF n fixed x l)/((mF n fixed l:Nat):Rat)*((mF n fixed l:Nat):Rat)=(bx n).c l-sF n fixed x l:=by
   rw[Rat.div_def,Rat.mul_assoc,Rat.inv_mul_cancel _ VG,Rat.mul_one]
  have Sy:0≤((bx n).c l-sF n fixed x l)/((mF n fixed l:Nat):Rat):=by
   apply Rat.le_of_mul_le_mul_right (c:=((mF n fixed l:Nat):Rat)) _ Sq
   rw[hq,Rat.zero_mul]; exact ZU
  have gQ:((bx n).c l-sF n fixed x l)/((mF n fixed l:Nat):Rat)≤1000:=by
   apply Rat.le_of_mul_le_mul_right (c:=((mF n fixed l:Nat):Rat)) _ Sq
   rw[hq]
   have:(1:Rat)≤((mF n fixed l:Nat):Rat):=by exact_mod_cast uu
   grind
  have ZX:P*mF n fixed l≤1000:=Nat.le_trans (Nat.mul_le_mul hP ZW) (by omega)
  have fj:=(xS (Nat.mul_pos PZ uu) ZX (Dv.part ZV hq) Sy gQ).1
  have VH:dK ((bx n).c l-sF n fixed x l):=Ky n.ae.length (Nat.le_refl _)
  have hdiv:=div_eq VH uu (by omega)
  rw[if_pos fj]at hdiv
  refine⟨_,?_,fun _=>⟨hq,fj⟩⟩
  unfold aa.cf
  refine bT (aL l) (bB T6 (bB (v:=⟨n.aC[l],1⟩) rfl (bB xR (bF (by show (((mF n fixed l:Nat):Int)==0)=false; rw[beq_eq_false_iff_ne]; omega) (bB (v:=⟨((mF n fixed l:Nat):Int),1⟩) rfl (bB hdiv ?_))))))
  rw[decide_eq_true hm]
theorem vV(hv:VN n)(h:mb n rates fixed x lo P){i:Nat}(hi:i<n.ae.length):
  aa.cz (i:Int) (cb.mk n fixed rates)=some (gN ((bx n).k i),(bx n).has i&&!jw fixed i):=by
 obtain⟨k,hk,e1,e2,k0,k1⟩:=hv.kO hi
 have Hb:n.aH[(i:Int).toNat]?=some k:=by rw[Int.toNat_natCast]; exact hk
 unfold aa.cz
 refine bT (aL i) (bB Hb (bB (v:=⟨k,1⟩) rfl (bT (aL i) (bB Hb ?_))))
 rw[e1,e2]
 by_cases hp:0<k
 ·have:i<fixed.length:=by rw[h.nf]; exact hi
  refine bT (decide_eq_true hp) (bT (aL i) (bB (v:=jw fixed i) (by rw[Int.toNat_natCast]; unfold jw; rw[List.getElem?_eq_getElem this]; rfl) ?_))
  rw[decide_eq_true hp]; rfl
 ·rw[decide_eq_false hp]
  exact bF rfl rfl
theorem Fc(hv:VN n)(l:Nat){i:Nat}(hi:i<n.ae.length):aa.fM (l:Int) (cb.mk n fixed rates) (i:Int)=some (gO n l i):=by
 unfold aa.fM
 exact bT (aL i) (bB (get_at hi) (bB (hv.on hi) rfl))
end
end Go.Proofs.Ytedjbjphpnkpoaa
end
section
/- Plain facts of this seat: what Share returns. -/
set_option maxRecDepth 100000
set_option maxHeartbeats 1000000
namespace Go.Proofs.Ytedjbjphpnkpoaa
open Go.PI Go.Pl Go.Mm
section
variable {γ:Type}{Q:γ→Prop}
theorem dj{c:Bool}{x y:Option γ}(hc:c=true)(hx:∃ r,x=some r∧Q r):∃ r,(bif c then x else y)=some r∧Q r:=by subst hc; exact hx
theorem oe{c:Bool}{x y:Option γ}(hc:c=false)(hy:∃ r,y=some r∧Q r):∃ r,(bif c then x else y)=some r∧Q r:=by subst hc; exact hy
theorem fE{β:Type}{e:Option β}{v:β}{K:β→Option γ}(he:e=some v)(hk:∃ r,K v=some r∧Q r):∃ r,e.bind K=some r∧Q r:=by subst he; exact hk
theorem HP{τ ω:Type}{f:τ→Option (τ ⊕ ω)}(I:τ→Prop)(μ:τ→Nat)(P:ω→Prop)(h:∀ s,I s→(∃ s',f s=some (.inl s')∧I s'∧μ s'<μ s)∨(∃ w,f s=some (.inr w)∧P w)):
  ∀ s,I s→∃ w,aM f s=some w∧P w:=by
 have key:∀ m s,μ s<m→I s→∃ w,aM f s=some w∧P w:=by
  intro m
  induction m with
  |zero=>intro s hs; omega
  |succ m ih=>
   intro s hs hI
   rcases h s hI with ⟨s',h1,h2,h3⟩|⟨w,h1,h2⟩
   ·obtain⟨w,h4,h5⟩:=ih s' (by omega) h2
    exact⟨w,by rw[next h1,h4],h5⟩
   ·exact⟨w,out h1,h2⟩
 exact fun s hs=>key (μ s+1) s (Nat.lt_succ_self _) hs
theorem Nt{τ ω:Type}{f:τ→Option (τ ⊕ ω)}{x0:τ}{K:ω→Option γ}(I:τ→Prop)(μ:τ→Nat)(P:ω→Prop)(h:∀ s,I s→(∃ s',f s=some (.inl s')∧I s'∧μ s'<μ s)∨(∃ w,f s=some (.inr w)∧P w))(h0:I x0)
  (hk:∀ w,P w→∃ r,K w=some r∧Q r):∃ r,(aM f x0).bind K=some r∧Q r:=by
 obtain⟨w,h1,h2⟩:=HP I μ P h x0 h0
 exact fE h1 (hk w h2)
end
/-! ### Stops -/
def iK(i:Nat):dU:=⟨true,(i:Int)⟩
def r8(i:Nat):dU:=⟨false,(i:Int)⟩
def pQ(n:bD):List dU:=(List.range n.aC.length).map iK++(List.range n.ae.length).map r8
theorem CT{n:bD}{s:dU}(h:s∈pQ n):(∃ l,l<n.aC.length∧s=iK l)∨∃ i,i<n.ae.length∧s=r8 i:=by
 unfold pQ at h
 simp only[List.mem_append,List.mem_map,List.mem_range]at h
 rcases h with ⟨l,h1,h2⟩|⟨l,h1,h2⟩
 ·exact .inl ⟨l,h1,h2.symm⟩
 ·exact .inr ⟨l,h1,h2.symm⟩
theorem CU(n:bD):(pQ n).length=n.aC.length+n.ae.length:=by simp[pQ]
section
variable {n:bD}{rates:List ai}{fixed:List Bool}{x:Nat→Rat}{lo:Rat}{P:Nat}
noncomputable def lvl(n:bD)(rates:List ai)(fixed:List Bool)(s:dU):Option (ai×Bool):=
 bif s.A then aa.cf s.N (cb.mk n fixed rates) else aa.cz s.N (cb.mk n fixed rates)
noncomputable def act(n:bD)(rates:List ai)(fixed:List Bool)(s:dU):Bool:=((lvl n rates fixed s).map (·.2)).getD false
noncomputable def lv(n:bD)(rates:List ai)(fixed:List Bool)(s:dU):ai:=((lvl n rates fixed s).map (·.1)).getD ⟨0,0⟩
noncomputable def rq(n:bD)(rates:List ai)(fixed:List Bool)(s:dU):Rat:=mkRat (lv n rates fixed s).c7 (lv n rates fixed s).Den.toNat
theorem xU(q:Rat):mkRat (gN q).c7 (gN q).Den.toNat=q:=by
 show mkRat q.num ((q.den:Int)).toNat=q
 rw[Int.toNat_natCast,Rat.mkRat_self]
theorem P8(hv:VN n)(h:mb n rates fixed x lo P){s:dU}(hs:s∈pQ n):lvl n rates fixed s=some (lv n rates fixed s,act n rates fixed s):=by
 have:∃ r,lvl n rates fixed s=some r:=by
  rcases CT hs with ⟨l,hl,rfl⟩|⟨i,hi,rfl⟩
  ·obtain⟨q,hq,_⟩:=xT hv h hl
   exact⟨_,hq⟩
  ·exact⟨_,vV hv h hi⟩
 obtain⟨r,hr⟩:=this
 unfold lv act
 rw[hr]; rfl
theorem uM(hv:VN n)(h:mb n rates fixed x lo P){l:Nat}(hl:l<n.aC.length):act n rates fixed (iK l)=decide (mF n fixed l≠0)∧(mF n fixed l≠0→lv n rates fixed (iK l)=gN (rq n rates fixed (iK l))∧dK (rq n rates fixed (iK l))∧rq n rates fixed (iK l)*(mF n fixed l:Nat)=(bx n).c l-sF n fixed x l):=by
 obtain⟨q,hq,hf⟩:=xT hv h hl
 have e1:act n rates fixed (iK l)=decide (mF n fixed l≠0):=by unfold act lvl; show ((aa.cf (l:Int) _).map _).getD false=_; rw[hq]; rfl
 have e2:lv n rates fixed (iK l)=gN q:=by unfold lv lvl; show ((aa.cf (l:Int) _).map _).getD _=_; rw[hq]; rfl
 have e3:rq n rates fixed (iK l)=q:=by unfold rq; rw[e2]; exact xU q
 refine⟨e1,fun hm=>?_⟩
 rw[e3]
 exact⟨e2,(hf hm).2,(hf hm).1⟩
theorem xV(hv:VN n)(h:mb n rates fixed x lo P){i:Nat}(hi:i<n.ae.length):act n rates fixed (r8 i)=((bx n).has i&&!jw fixed i)∧lv n rates fixed (r8 i)=gN (rq n rates fixed (r8 i))∧dK (rq n rates fixed (r8 i))∧rq n rates fixed (r8 i)=(bx n).k i:=by
 have hq:=vV hv h hi
 obtain⟨k,_,Pu,_,k0,k1⟩:=hv.kO hi
 have e1:act n rates fixed (r8 i)=((bx n).has i&&!jw fixed i):=by unfold act lvl; show ((aa.cz (i:Int) _).map _).getD false=_; rw[hq]; rfl
 have e2:lv n rates fixed (r8 i)=gN ((bx n).k i):=by unfold lv lvl; show ((aa.cz (i:Int) _).map _).getD _=_; rw[hq]; rfl
 have e3:rq n rates fixed (r8 i)=(bx n).k i:=by unfold rq; rw[e2]; exact xU _
 rw[e3]
 exact⟨e1,e2,by rw[Pu]; exact wQ k0 k1,rfl⟩
noncomputable def eH(n:bD)(rates:List ai)(fixed:List Bool):List dU:=(pQ n).filter (act n rates fixed)
theorem gx(hv:VN n)(h:mb n rates fixed x lo P){s:dU}(hs:s∈eH n rates fixed):lv n rates fixed s=gN (rq n rates fixed s)∧dK (rq n rates fixed s) ∧
  ((∃ l,l<n.aC.length∧s=iK l∧mF n fixed l≠0∧rq n rates fixed s*(mF n fixed l:Nat)=(bx n).c l-sF n fixed x l)∨∃ i,i<n.ae.length∧s=r8 i∧(bx n).has i=true∧jw fixed i=false∧rq n rates fixed s=(bx n).k i):=by
 unfold eH at hs
 obtain⟨h1,h2⟩:=List.mem_filter.1 hs
 rcases CT h1 with ⟨l,hl,rfl⟩|⟨i,hi,rfl⟩
 ·obtain⟨g1,g2⟩:=uM hv h hl
  rw[g1]at h2
  have hm:=of_decide_eq_true h2
  obtain⟨g3,g4,g5⟩:=g2 hm
  exact⟨g3,g4,.inl ⟨l,hl,rfl,hm,g5⟩⟩
 ·obtain⟨g1,g2,g3,g4⟩:=xV hv h hi
  rw[g1]at h2
  simp only[Bool.and_eq_true,Bool.not_eq_true']at h2
  exact⟨g2,g3,.inr ⟨i,hi,rfl,h2.1,h2.2,g4⟩⟩
theorem z7(hv:VN n)(h:mb n rates fixed x lo P){l:Nat}(hl:l<n.aC.length)(hm:mF n fixed l≠0):iK l∈eH n rates fixed:=by
 refine List.mem_filter.2 ⟨?_,by rw[(uM hv h hl).1]; exact decide_eq_true hm⟩
 unfold pQ
 exact List.mem_append_left _ (List.mem_map.2 ⟨l,List.mem_range.2 hl,rfl⟩)
theorem Kz(hv:VN n)(h:mb n rates fixed x lo P){i:Nat}(hi:i<n.ae.length)(h1:(bx n).has i=true)(h2:jw fixed i=false):r8 i∈eH n rates fixed:=by
 refine List.mem_filter.2 ⟨?_,by rw[(xV hv h hi).1,h1,h2]; rfl⟩
 unfold pQ
 exact List.mem_append_right _ (List.mem_map.2 ⟨i,List.mem_range.2 hi,rfl⟩)
def BL(m:Rat)(l:List Rat):Rat:=l.foldl (fun m q=>if q<m then q else m) m
theorem P9(l:List Rat):∀ m,BL m l≤m∧∀ q∈l,BL m l≤q:=by
 induction l with
 |nil=>intro m; exact⟨Rat.le_refl,fun q hq=>by cases hq⟩
 |cons a l ih=>
  intro m
  have h:=ih (if a<m then a else m)
  show BL (if a<m then a else m) l≤m∧∀ q∈a::l,BL (if a<m then a else m) l≤q
  have h1:(if a<m then a else m)≤m∧(if a<m then a else m)≤a:=by split<;>constructor<;>grind
  refine⟨Rat.le_trans h.1 h1.1,fun q hq=>?_⟩
  rcases List.mem_cons.1 hq with rfl|hq
  ·exact Rat.le_trans h.1 h1.2
  ·exact h.2 q hq
theorem GC(l:List Rat):∀ m,BL m l=m∨BL m l∈l:=by
 induction l with
 |nil=>intro m; exact .inl rfl
 |cons a l ih=>
  intro m
  show BL (if a<m then a else m) l=m∨BL (if a<m then a else m) l∈a::l
  rcases ih (if a<m then a else m) with h|h
  ·rw[h]
   split
   ·exact .inr (by simp)
   ·exact .inl rfl
  ·exact .inr (List.mem_cons_of_mem _ h)
def dV{γ:Type}(l:List γ)(is:List Nat)(v:γ):List γ:=is.foldl (fun l i=>l.set i v) l
theorem dL{γ:Type}(is:List Nat)(v:γ):∀ l:List γ,(dV l is v).length=l.length:=by
 induction is with
 |nil=>intro l; rfl
 |cons i is ih=>intro l; show (dV (l.set i v) is v).length=_; rw[ih,List.length_set]
theorem r9{γ:Type}(is:List Nat)(v:γ):∀ (l:List γ) (j:Nat),j<l.length→(dV l is v)[j]?=if j∈is then some v else l[j]?:=by
 induction is with
 |nil=>intro l j hj; simp[dV]
 |cons i is ih=>
  intro l j hj
  show (dV (l.set i v) is v)[j]?=_
  rw[ih _ _ (by rw[List.length_set]; exact hj)]
  by_cases h1:j∈is
  ·rw[if_pos h1,if_pos (List.mem_cons_of_mem _ h1)]
  ·rw[if_neg h1]
   by_cases h2:j=i
   ·subst h2
    rw[if_pos (by simp),List.getElem?_set_self hj]
   ·rw[if_neg (by simp[h1,h2]),List.getElem?_set_ne (fun e=>h2 e.symm)]
theorem vW{γ:Type}(l:List γ)(is:List Nat)(v:γ){t:Nat}(ht:t<is.length):dV l (is.take (t+1)) v=(dV l (is.take t) v).set is[t] v:=by
 unfold dV
 rw[List.take_succ_eq_append_getElem ht,List.foldl_append]; rfl
end
end Go.Proofs.Ytedjbjphpnkpoaa
end
section
/- Plain facts of this seat: a step of Share, and Share. -/
set_option maxRecDepth 100000
set_option maxHeartbeats 2000000
namespace Go.Proofs.Ytedjbjphpnkpoaa
open Go.PI Go.Pl Go.Mm
theorem mr{m k:Nat}(h:m≤100000)(hk:k≤64):(decide (m*k≤2^44)&&decide (m≤2^44))=true:=by
 have:m*k≤100000*64:=Nat.mul_le_mul h hk
 simp only[Bool.and_eq_true,decide_eq_true_eq]
 omega
theorem nG(q r:Rat):((gN q).c7==r.num&&(gN q).Den==(r.den:Int))=decide (q=r):=by
 rw[Bool.eq_iff_iff]
 simp only[gN,Bool.and_eq_true,beq_iff_eq,decide_eq_true_eq]
 constructor
 ·rintro⟨h1,h2⟩; exact Rat.ext h1 (by omega)
 ·rintro rfl; exact⟨rfl,rfl⟩
def KA(n:bD)(s:dU)(i:Nat):Bool:=bif s.A then gO n s.N.toNat i else s.N==(i:Int)
noncomputable def IM(n:bD)(fixed:List Bool)(low:Rat)(r:Rat)(s:dU)(i:Nat):Bool:=decide (r=low)&&(!jw fixed i&&KA n s i)
noncomputable def Bd(n:bD)(rates:List ai)(fixed:List Bool)(low:Rat)(s:dU)(m:Nat):List Nat:=(List.range m).filter (IM n fixed low (rq n rates fixed s) s)
noncomputable def im(n:bD)(rates:List ai)(fixed:List Bool)(low:Rat):List Nat:=(eH n rates fixed).flatMap fun s=>Bd n rates fixed low s n.ae.length
theorem sa{γ:Type}(p:γ→Bool)(l:List γ):(l.filter p).length≤l.length:=List.length_filter_le _ _
theorem xW{γ δ:Type}{f:γ→List δ}{b:Nat}:∀ {l:List γ},(∀ x∈l,(f x).length≤b)→(l.flatMap f).length≤l.length*b
 |[],_=>by simp
 |x::l,h=>by
  have h1:=xW (l:=l) fun y hy=>h y (List.mem_cons_of_mem _ hy)
  have h2:=h x (by simp)
  simp only[List.flatMap_cons,List.length_append,List.length_cons,Nat.succ_mul]
  omega
section
variable {n:bD}{rates:List ai}{fixed:List Bool}{x:Nat→Rat}{lo:Rat}{P:Nat}
theorem KB(hv:VN n):(eH n rates fixed).length≤16:=by
 have h1:=sa (act n rates fixed) (pQ n)
 have h2:=CU n
 have:=hv.nc; have:=hv.nf
 unfold eH; omega
theorem uN{γ:Type}{p:γ→Bool}{l:List γ}{i:Nat}(h:i<l.length):(l.take (i+1)).filter p=(l.take i).filter p++bif p l[i] then [l[i]] else []:=by
 rw[List.take_succ_eq_append_getElem h,List.filter_append]
 cases hp:p l[i]<;>simp[hp]
theorem tD{p:Nat→Bool}{i:Nat}:(List.range (i+1)).filter p=(List.range i).filter p++bif p i then [i] else []:=by
 rw[List.range_succ,List.filter_append]
 cases hp:p i<;>simp[hp]
abbrev Fe(n:bD)(fixed:List Bool):Nat:=ct (fun i=>!jw fixed i) n.ae.length
noncomputable def cA(n:bD)(rates:List ai)(fixed:List Bool):Rat:=match eH n rates fixed with
 |[]=>0
 |s::l=>BL (rq n rates fixed s) ((s::l).map (rq n rates fixed))
theorem GD(hv:VN n)(h:mb n rates fixed x lo P)(hm:false∈fixed):∃ s l,eH n rates fixed=s::l:=by
 obtain⟨i,hi,he⟩:=List.getElem_of_mem hm
 have tY:i<n.ae.length:=by rw[←h.nf]; exact hi
 have hf:jw fixed i=false:=by unfold jw; rw[List.getElem?_eq_getElem hi,he]; rfl
 obtain⟨l,hl,ma⟩:=hv.ex tY
 have Mt:mF n fixed l≠0:=by
  have:=rY (p:=fun i=>gO n l i&&!jw fixed i) tY (by simp[ma,hf])
  unfold mF; omega
 have:=z7 hv h hl Mt
 cases ha:eH n rates fixed with
 |nil=>rw[ha]at this; cases this
 |cons s l=>exact⟨s,l,rfl⟩
theorem CV(hv:VN n)(h:mb n rates fixed x lo P)(hm:false∈fixed):(∃ s∈eH n rates fixed,rq n rates fixed s=cA n rates fixed)∧∀ s∈eH n rates fixed,cA n rates fixed≤rq n rates fixed s:=by
 obtain⟨s,l,ha⟩:=GD hv h hm
 unfold cA
 rw[ha]
 simp only
 have h1:=P9 ((s::l).map (rq n rates fixed)) (rq n rates fixed s)
 refine⟨?_,fun t ht=>h1.2 _ (List.mem_map.2 ⟨t,ht,rfl⟩)⟩
 rcases GC ((s::l).map (rq n rates fixed)) (rq n rates fixed s) with h2|h2
 ·exact⟨s,by simp,h2.symm⟩
 ·obtain⟨t,ht,e⟩:=List.mem_map.1 h2
  exact⟨t,ht,e⟩
theorem Nu(hv:VN n)(h:mb n rates fixed x lo P)(hm:false∈fixed):dK (cA n rates fixed):=by
 obtain⟨⟨s,hs,e⟩,_⟩:=CV hv h hm
 rw[←e]; exact(gx hv h hs).2.1
theorem qA{i:Nat}{low:Rat}:i∈im n rates fixed low↔∃ s∈eH n rates fixed,i<n.ae.length∧rq n rates fixed s=low∧jw fixed i=false∧KA n s i=true:=by
 unfold im Bd IM
 simp only[List.mem_flatMap,List.mem_filter,List.mem_range,Bool.and_eq_true,decide_eq_true_eq,Bool.not_eq_true']
theorem Nv(hv:VN n)(h:mb n rates fixed x lo P)(hm:false∈fixed):X8 (bx n) (jw fixed) x (cA n rates fixed) (fun i=>decide (i∈im n rates fixed (cA n rates fixed))):=by
 obtain⟨⟨s0,D6,e0⟩,ux⟩:=CV hv h hm
 have lk:∀ l,l<n.aC.length→mF n fixed l≠0→cA n rates fixed≤rq n rates fixed (iK l)∧rq n rates fixed (iK l)*(mF n fixed l:Nat)=(bx n).c l-sF n fixed x l:=fun l hl Mt=>
  ⟨ux _ (z7 hv h hl Mt),((uM hv h hl).2 Mt).2.2⟩
 refine⟨fun i hi hw=>?_,fun l hl=>?_,fun i hi hf hh=>?_,fun i hi hw=>?_,?_⟩
 ·obtain⟨s,_,_,_,h3,_⟩:=qA.1 (of_decide_eq_true hw)
  exact h3
 ·show cA n rates fixed*((mF n fixed l:Nat):Rat)≤(bx n).c l-sF n fixed x l
  by_cases Mt:mF n fixed l=0
  ·rw[Mt]
   have:sF n fixed x l≤(bx n).c l:=h.inv.cap l hl
   have e:cA n rates fixed*((0:Nat):Rat)=0:=by
    have:((0:Nat):Rat)=0:=rfl
    rw[this,Rat.mul_zero]
   rw[e]; grind
  ·obtain⟨g1,g2⟩:=lk l hl Mt
   rw[←g2]
   exact Rat.mul_le_mul_of_nonneg_right g1 (by exact_mod_cast Nat.zero_le _)
 ·have:=ux _ (Kz hv h hi hh hf)
  rw[(xV hv h hi).2.2.2]at this
  exact this
 ·obtain⟨s,hs,_,hq,hf,gM⟩:=qA.1 (of_decide_eq_true hw)
  obtain⟨_,_,⟨l,hl,rfl,Mt,Qa⟩|⟨j,hj,rfl,hh,_,hk⟩⟩:=gx hv h hs
  ·have ma:gO n l i=true:=by simpa[KA,iK] using gM
   rw[hq]at Qa
   refine .inr ⟨l,hl,ma,Qa,fun j hj OP Qb=>decide_eq_true (qA.2 ⟨_,hs,hj,hq,Qb,by have VI:gO n l j=true:=OP; simpa[KA,iK] using VI⟩)⟩
  ·have Mj:j=i:=by simp only[KA,r8,cond_false,beq_iff_eq]at gM; omega
   subst Mj
   exact .inl ⟨hh,by rw[←hq,hk]⟩
 ·obtain⟨_,_,⟨l,hl,rfl,Mt,Qa⟩|⟨j,hj,rfl,hh,hf,hk⟩⟩:=gx hv h D6
  ·obtain⟨i,hi,hp⟩:=Kp (p:=fun i=>gO n l i&&!jw fixed i) (n:=n.ae.length) (by unfold mF at Mt; omega)
   simp only[Bool.and_eq_true,Bool.not_eq_true']at hp
   exact⟨i,hi,decide_eq_true (qA.2 ⟨_,D6,hi,e0,hp.2,by simpa[KA,iK] using hp.1⟩)⟩
  ·exact⟨j,hj,decide_eq_true (qA.2 ⟨_,D6,hj,e0,hf,by simp[KA,r8]⟩)⟩
theorem KC{low:Rat}{i:Nat}(h:i∈im n rates fixed low):i<n.ae.length:=by
 obtain⟨_,_,h1,_⟩:=qA.1 h; exact h1
theorem Nw(hv:VN n)(h:mb n rates fixed x lo P)(hm:false∈fixed):∃ x' P',mb n (dV rates (im n rates fixed (cA n rates fixed)) (gN (cA n rates fixed))) (dV fixed (im n rates fixed (cA n rates fixed)) true) x' (cA n rates fixed) P' ∧
  Fe n (dV fixed (im n rates fixed (cA n rates fixed)) true)<Fe n fixed:=by
 have g:=Nv hv h hm
 have VB:∀ l,l<(bx n).L→Dv 1 ((bx n).c l):=fun l hl=>by rw[(hv.cap hl).1]; exact Dv.int _
 have Hb:∀ i,i<(bx n).F→Dv 1 ((bx n).k i):=fun i hi=>by obtain⟨k,_,e,_⟩:=hv.kO hi; rw[e]; exact Dv.int _
 obtain⟨P',hI⟩:=HM (N:=bx n) hv.nf VB Hb h.inv g
 have Yd:(fun i=>jw (dV fixed (im n rates fixed (cA n rates fixed)) true) i)=fun i=>jw fixed i||decide (i∈im n rates fixed (cA n rates fixed)):=by
  funext i
  by_cases hi:i<fixed.length
  ·unfold jw
   rw[r9 _ _ _ _ hi]
   by_cases hw:i∈im n rates fixed (cA n rates fixed)
   ·rw[if_pos hw,decide_eq_true hw,Bool.or_true]; rfl
   ·rw[if_neg hw,decide_eq_false hw,Bool.or_false]
  ·have h1:i∉im n rates fixed (cA n rates fixed):=fun hw=>hi (by rw[h.nf]; exact KC hw)
   rw[decide_eq_false h1,Bool.or_false]
   unfold jw
   have e1:(dV fixed (im n rates fixed (cA n rates fixed)) true)[i]?=none:=List.getElem?_eq_none (by rw[dL]; omega)
   have e2:fixed[i]?=none:=List.getElem?_eq_none (by omega)
   rw[e1,e2]
 refine⟨_,P',⟨by rw[dL]; exact h.nr,by rw[dL]; exact h.nf,fun i hi hf=>?_,by rw[Yd]; exact hI⟩,?_⟩
 ·rw[r9 _ _ _ _ (by rw[h.nr]; exact hi)]
  rw[r9 _ _ _ _ (by rw[h.nf]; exact hi)]at hf
  by_cases hw:i∈im n rates fixed (cA n rates fixed)
  ·simp[hw]
  ·simp only[hw,if_false]at hf ⊢
   simp only[decide_false,Bool.false_eq_true,if_false]
   exact h.r i hi hf
 ·show ct (fun i=>!jw (dV fixed _ true) i) n.ae.length<_
  have e:(fun i=>!jw (dV fixed (im n rates fixed (cA n rates fixed)) true) i)=fun i=>!(jw fixed i||decide (i∈im n rates fixed (cA n rates fixed))):=by
   funext i; rw[show jw (dV fixed _ true) i=_ from congrFun Yd i]
  rw[e]
  obtain⟨i,hi,hw⟩:=g.some
  have RI:=tA (p:=fun i=>!jw fixed i) (q:=fun i=>decide (i∈im n rates fixed (cA n rates fixed))) (n:=n.ae.length)
  have hp:=rY (p:=fun i=>!jw fixed i&&decide (i∈im n rates fixed (cA n rates fixed))) (n:=n.ae.length) hi (by rw[g.sub i hi hw,hw]; rfl)
  have e2:ct (fun i=>!(jw fixed i||decide (i∈im n rates fixed (cA n rates fixed)))) n.ae.length=ct (fun i=>!jw fixed i&&!decide (i∈im n rates fixed (cA n rates fixed))) n.ae.length:=nD fun j _=>by cases jw fixed j<;>rfl
  show _<ct (fun i=>!jw fixed i) n.ae.length
  rw[e2]; omega
end
end Go.Proofs.Ytedjbjphpnkpoaa
end
section
/- Plain facts of this seat: Share returns the fair rates. -/
set_option maxRecDepth 100000
set_option maxHeartbeats 4000000
namespace Go.Proofs.Ytedjbjphpnkpoaa
open Go.PI Go.Pl Go.Mm
theorem Nx{γ:Type}{l:List γ}{i:Nat}(h:i<l.length):l[0+(i:Int).toNat]?=some l[i]:=by
 rw[Nat.zero_add,Int.toNat_natCast]; exact List.getElem?_eq_getElem h
theorem Mu{i m:Nat}(h:i<m):decide ((i:Int).toNat<m)=true:=decide_eq_true (by rw[Int.toNat_natCast]; exact h)
theorem KD(m:Rat)(l:List Rat)(q:Rat):BL m (l++[q])=if q<BL m l then q else BL m l:=by
 unfold BL; rw[List.foldl_append]; rfl
theorem KE{n:bD}(hb:vN n=true):∃ r,aa.cw n=some r∧r.2=0∧∃ x lo P,mb n r.1 (List.replicate n.ae.length true) x lo P:=by
 have hv:=z6 hb
 have Sx:=hv.nf
 have hL8:=hv.nc
 have HO:∀ l∈n.ae,l.length≤2^62:=fun l hl=>hv.P6 hl
 have eN:((n.ae.length:Int)).toNat=n.ae.length:=Int.toNat_natCast _
 unfold aa.cw
 refine fE (GA HO) (oe (by rw[hb]; rfl) (dj (by rw[eN]; simp only[Bool.and_eq_true,decide_eq_true_eq]; omega) (dj (by rw[eN]; simp only[Bool.and_eq_true,decide_eq_true_eq]; omega) ?_)))
 refine fE (v:=((n.aC.length:Int),(List.range n.aC.length).map iK)) (eF (fun i=>((i:Int),(List.range i).map iK)) n.aC.length _ (fun i hi=>?_) (bF (du _) rfl) rfl) ?_
 ·refine bT (cX hi) (bT (by rw[List.length_map,List.length_range]; exact mr (by omega) (by omega)) ?_)
  rw[dQ (by omega),List.range_succ,List.map_append]; rfl
 refine fE (v:=((n.aH.length:Int),pQ n)) (eF (fun i=>((i:Int),(List.range n.aC.length).map iK++(List.range i).map r8)) n.aH.length _ (fun i hi=>?_) (bF (du _) (by rw[hv.nl]; rfl)) (by simp)) ?_
 ·have:=hv.nl
  refine bT (cX hi) (bT (by simp only[List.length_append,List.length_map,List.length_range]; exact mr (by omega) (by omega)) ?_)
  rw[dQ (by omega),List.range_succ,List.map_append,List.append_assoc]; rfl
 refine Nt (fun s=>∃ x lo P,mb n s.1 s.2 x lo P) (fun s=>Fe n s.2) (fun w=>(∃ x lo P,mb n w.1 w.2 x lo P)∧false∉w.2) ?_ ?_ ?_
 ·rintro⟨rates,fixed⟩ ⟨x,lo,P,h⟩
  have Sz:rates.length=n.ae.length:=h.nr
  have SA:fixed.length=n.ae.length:=h.nf
  have h':mb n rates fixed x lo P:=h
  have hc:=CP (l:=fixed) (by omega) false
  have er:decide (rates.length=(List.replicate ((n.ae.length:Int)).toNat (ai.mk 0 0)).length)=true:=decide_eq_true (by rw[List.length_replicate,eN]; exact Sz)
  have ef:decide (fixed.length=(List.replicate ((n.ae.length:Int)).toNat false).length)=true:=decide_eq_true (by rw[List.length_replicate,eN]; exact SA)
  by_cases hm:false∈fixed
  ·obtain⟨x',P',hS,bQ⟩:=Nw hv h' hm
   refine .inl ⟨(_,_),?_,⟨x',_,P',hS⟩,bQ⟩
   obtain⟨s0,rest,ha⟩:=GD hv h' hm
   have ZY:=Nu hv h' hm
   have VJ:=KB (n:=n) (rates:=rates) (fixed:=fixed) hv
   have bc:=CU n
   refine bB hc (bT (decide_eq_true hm) ?_)
   refine bB (v:=(((pQ n).length:Int),(eH n rates fixed).map (lv n rates fixed),eH n rates fixed)) (eF (fun i=>((i:Int),(((pQ n).take i).filter (act n rates fixed)).map (lv n rates fixed),((pQ n).take i).filter (act n rates fixed))) (pQ n).length _ (fun i hi=>?_) (bF (du _) (by simp only[List.take_length]; rfl)) rfl) ?_
   ·have hl:=P8 hv h' (List.getElem_mem hi)
    have Uj:=uN (p:=act n rates fixed) hi
    have ZZ:=sa (act n rates fixed) ((pQ n).take i)
    have xM:((pQ n).take i).length≤16:=by rw[List.length_take]; omega
    refine bT (cX hi) (bT (aL i) (bT (Mu hi) (bB (Nx hi) ?_)))
    rw[dQ (by omega),Uj]
    generalize (pQ n)[i]=s at hl
    obtain⟨A,N⟩:=s
    cases A with
    |true=>
     refine bT rfl (bB hl ?_)
     cases act n rates fixed ⟨true,N⟩ with
     |false=>exact bF rfl (by simp)
     |true=>exact bT rfl (bT (by rw[List.length_map]; exact mr (by omega) (by omega)) (bT (mr (by omega) (by omega)) (by simp)))
    |false=>
     refine bF rfl (bB hl ?_)
     cases act n rates fixed ⟨false,N⟩ with
     |false=>exact bF rfl (by simp)
     |true=>exact bT rfl (bT (by rw[List.length_map]; exact mr (by omega) (by omega)) (bT (mr (by omega) (by omega)) (by simp)))
   have np:∀ {i:Nat} (hi:i<(eH n rates fixed).length),((eH n rates fixed).map (lv n rates fixed))[0+(i:Int).toNat]?=some (gN (rq n rates fixed (eH n rates fixed)[i])):=fun {i} hi=>by
    rw[Nat.zero_add,Int.toNat_natCast,List.getElem?_map,List.getElem?_eq_getElem hi,Option.map_some,(gx hv h' (List.getElem_mem hi)).1]
   have D6:s0∈eH n rates fixed:=by rw[ha]; simp
   have dG:0<(eH n rates fixed).length:=by rw[ha]; simp
   refine bT (decide_eq_true (by rw[List.length_map]; exact dG)) (bB (v:=gN (rq n rates fixed s0)) (by rw[ha,List.map_cons,List.getElem?_cons_zero,(gx hv h' D6).1]) ?_)
   have U9:∀ i,dK (BL (rq n rates fixed s0) (((eH n rates fixed).take i).map (rq n rates fixed))):=fun i=>by
    rcases GC (((eH n rates fixed).take i).map (rq n rates fixed)) (rq n rates fixed s0) with e|e
    ·rw[e]; exact(gx hv h' D6).2.1
    ·obtain⟨t,ht,e⟩:=List.mem_map.1 e
     rw[←e]; exact(gx hv h' (List.mem_of_mem_take ht)).2.1
   refine bB (v:=(((eH n rates fixed).length:Int),(cA n rates fixed).num,((cA n rates fixed).den:Int))) (eF (fun i=>((i:Int),(BL (rq n rates fixed s0) (((eH n rates fixed).take i).map (rq n rates fixed))).num,((BL (rq n rates fixed s0) (((eH n rates fixed).take i).map (rq n rates fixed))).den:Int))) (eH n rates fixed).length _ (fun i hi=>?_) (bF (by rw[List.length_map]; exact du _) ?_) rfl) ?_
   ·have hf:=gx hv h' (List.getElem_mem hi)
    have KF:=wP hf.2.1 (U9 i)
    refine bT (by rw[List.length_map]; exact cX hi) (bT (aL i) (bT (by rw[List.length_map]; exact Mu hi) (bB (np hi) (bB KF ?_))))
    rw[dQ (by omega),List.take_succ_eq_append_getElem hi,List.map_append,List.map_cons,List.map_nil,KD]
    by_cases hq:rq n rates fixed (eH n rates fixed)[i]<BL (rq n rates fixed s0) (((eH n rates fixed).take i).map (rq n rates fixed))
    ·rw[if_pos hq]; exact bT (decide_eq_true hq) rfl
    ·rw[if_neg hq]; exact bF (decide_eq_false hq) rfl
   ·rw[List.take_length]
    have:cA n rates fixed=BL (rq n rates fixed s0) ((eH n rates fixed).map (rq n rates fixed)):=by unfold cA; rw[ha]
    rw[this]
   have Up:∀ s m,(Bd n rates fixed (cA n rates fixed) s m).length≤m:=fun s m=>by
    have:=sa (IM n fixed (cA n rates fixed) (rq n rates fixed s) s) (List.range m)
    rw[List.length_range]at this; exact this
   refine bB (v:=(((eH n rates fixed).length:Int),(im n rates fixed (cA n rates fixed)).map fun i:Nat=>(i:Int))) (eF (fun k=>((k:Int),(((eH n rates fixed).take k).flatMap fun s=>Bd n rates fixed (cA n rates fixed) s n.ae.length).map fun i:Nat=>(i:Int))) (eH n rates fixed).length _ (fun k hk=>?_) (bF (du _) (by rw[List.take_length]; rfl)) rfl) ?_
   ·refine bT (cX hk) (bT (aL k) (bT (Mu hk) (bB (Nx hk) ?_)))
    have VK:=np hk
    have z8:((eH n rates fixed).take (k+1)).flatMap (fun s=>Bd n rates fixed (cA n rates fixed) s n.ae.length)=((eH n rates fixed).take k).flatMap (fun s=>Bd n rates fixed (cA n rates fixed) s n.ae.length)++Bd n rates fixed (cA n rates fixed) (eH n rates fixed)[k] n.ae.length:=by
     rw[List.take_succ_eq_append_getElem hk,List.flatMap_append]; simp
    have yP:(((eH n rates fixed).take k).flatMap fun s=>Bd n rates fixed (cA n rates fixed) s n.ae.length).length≤128:=by
     have h1:=xW (l:=(eH n rates fixed).take k) (f:=fun s=>Bd n rates fixed (cA n rates fixed) s n.ae.length) (b:=8) (fun s _=>Nat.le_trans (Up s _) Sx)
     have h2:((eH n rates fixed).take k).length≤16:=by rw[List.length_take]; omega
     omega
    rw[z8,List.map_append]
    have hf:=gx hv h' (List.getElem_mem hk)
    have Ml:∀ j (hj:j<n.ae.length),fixed[0+(j:Int).toNat]?=some (jw fixed j):=fun j hj=>by
     rw[Nat.zero_add,Int.toNat_natCast,List.getElem?_eq_getElem (by omega)]
     unfold jw; rw[List.getElem?_eq_getElem (by omega)]; rfl
    generalize SB:(((eH n rates fixed).take k).flatMap fun s=>Bd n rates fixed (cA n rates fixed) s n.ae.length).map (fun i:Nat=>(i:Int))=base
    have Z0:base.length≤128:=by rw[←SB,List.length_map]; exact yP
    generalize hs:(eH n rates fixed)[k]=s at VK hf
    have dH:∀ j,Bd n rates fixed (cA n rates fixed) s (j+1)=Bd n rates fixed (cA n rates fixed) s j++bif IM n fixed (cA n rates fixed) (rq n rates fixed s) s j then [j] else []:=fun j=>tD
    obtain⟨A,N⟩:=s
    cases A with
    |true=>
     refine bT rfl (bB (v:=((n.ae.length:Int),base++(Bd n rates fixed (cA n rates fixed) ⟨true,N⟩ n.ae.length).map fun i:Nat=>(i:Int))) (eF (fun j=>((j:Int),base++(Bd n rates fixed (cA n rates fixed) ⟨true,N⟩ j).map fun i:Nat=>(i:Int))) n.ae.length _ (fun j hj=>?_) (bF (du _) rfl) (by simp[Bd])) ?_)
     ·obtain⟨l,hN⟩:∃ l:Nat,N=(l:Int):=by
       rcases hf.2.2 with ⟨l,_,e,_⟩|⟨i,_,e,_⟩
       ·exact⟨l,congrArg dU.N e⟩
       ·cases congrArg dU.A e
      subst hN
      have Z1:=Up ⟨true,(l:Int)⟩ j
      refine bT (cX hj) (bT (aL k) (bT (by rw[List.length_map]; exact Mu hk) (bB VK ?_)))
      rw[dQ (by omega),dH j]
      by_cases hq:rq n rates fixed ⟨true,(l:Int)⟩=cA n rates fixed
      ·refine bT (by rw[nG]; exact decide_eq_true hq) (bT (aL j) (bT (Mu (by omega)) (bB (Ml j hj) ?_)))
       cases Qb:jw fixed j with
       |true=>exact bF rfl (by simp[IM,Qb])
       |false=>
        refine bT rfl (bB (Fc hv l hj) ?_)
        have gM:KA n ⟨true,(l:Int)⟩ j=gO n l j:=by simp[KA]
        cases ma:gO n l j with
        |false=>exact bF rfl (by simp[IM,gM,ma])
        |true=>exact bT rfl (bT (by rw[List.length_append,List.length_map]; exact mr (by omega) (by omega)) (by simp[IM,gM,ma,Qb,hq]))
      ·exact bF (by rw[nG]; exact decide_eq_false hq) (by simp[IM,hq])
     ·rw[dQ (by omega)]
    |false=>
     refine bF rfl (bB (v:=((n.ae.length:Int),base++(Bd n rates fixed (cA n rates fixed) ⟨false,N⟩ n.ae.length).map fun i:Nat=>(i:Int))) (eF (fun j=>((j:Int),base++(Bd n rates fixed (cA n rates fixed) ⟨false,N⟩ j).map fun i:Nat=>(i:Int))) n.ae.length _ (fun j hj=>?_) (bF (du _) rfl) (by simp[Bd])) ?_)
     ·have Z1:=Up ⟨false,N⟩ j
      refine bT (cX hj) (bT (aL k) (bT (by rw[List.length_map]; exact Mu hk) (bB VK ?_)))
      rw[dQ (by omega),dH j]
      by_cases hq:rq n rates fixed ⟨false,N⟩=cA n rates fixed
      ·refine bT (by rw[nG]; exact decide_eq_true hq) (bT (aL j) (bT (Mu (by omega)) (bB (Ml j hj) ?_)))
       cases Qb:jw fixed j with
       |true=>exact bF rfl (by simp[IM,Qb])
       |false=>
        refine bT rfl (bB (v:=N==(j:Int)) rfl ?_)
        have gM:KA n ⟨false,N⟩ j=(N==(j:Int)):=by simp[KA]
        cases ma:(N==(j:Int)) with
        |false=>exact bF rfl (by simp[IM,gM,ma])
        |true=>exact bT rfl (bT (by rw[List.length_append,List.length_map]; exact mr (by omega) (by omega)) (by simp[IM,gM,ma,Qb,hq]))
      ·exact bF (by rw[nG]; exact decide_eq_false hq) (by simp[IM,hq])
     ·rw[dQ (by omega)]
   have Q8:(im n rates fixed (cA n rates fixed)).length≤128:=by
    have h1:=xW (l:=eH n rates fixed) (f:=fun s=>Bd n rates fixed (cA n rates fixed) s n.ae.length) (b:=8) (fun s _=>Nat.le_trans (Up s _) Sx)
    unfold im; omega
   refine bB (v:=(((im n rates fixed (cA n rates fixed)).length:Int),dV rates (im n rates fixed (cA n rates fixed)) (gN (cA n rates fixed)),dV fixed (im n rates fixed (cA n rates fixed)) true))
    (eF (fun t=>((t:Int),dV rates ((im n rates fixed (cA n rates fixed)).take t) (gN (cA n rates fixed)),dV fixed ((im n rates fixed (cA n rates fixed)).take t) true)) (im n rates fixed (cA n rates fixed)).length _ (fun t ht=>?_) (bF (by rw[List.length_map]; exact du _) (bT (decide_eq_true (dL _ _ _)) (bT (decide_eq_true (dL _ _ _)) (by rw[List.take_length])))) rfl) ?_
   ·have bQ:=KC (List.getElem_mem ht)
    have l1:(dV rates ((im n rates fixed (cA n rates fixed)).take t) (gN (cA n rates fixed))).length=n.ae.length:=by rw[dL]; exact Sz
    have l2:(dV fixed ((im n rates fixed (cA n rates fixed)).take t) true).length=n.ae.length:=by rw[dL]; exact SA
    refine bT (by rw[List.length_map]; exact cX ht) (bT (aL t) (bT (by rw[List.length_map]; exact Mu ht) (bB (v:=((im n rates fixed (cA n rates fixed))[t]:Int)) (by rw[Nat.zero_add,Int.toNat_natCast,List.getElem?_map,List.getElem?_eq_getElem ht]; rfl) ?_)))
    refine bT (aL _) (bT (Mu (by omega)) (bB (Nx (by omega)) (bT (aL _) (bT (Mu (by omega)) (bB (Nx (by omega)) ?_)))))
    refine bT (decide_eq_true (by rw[List.length_set]; exact dL _ _ _)) (bT (decide_eq_true (by rw[List.length_set]; exact dL _ _ _)) ?_)
    rw[dQ (by omega),vW _ _ _ ht,vW _ _ _ ht,Nat.zero_add,Int.toNat_natCast]; rfl
   exact bT (decide_eq_true (by rw[dL,List.length_replicate,eN]; exact Sz)) (bT (decide_eq_true (by rw[dL,List.length_replicate,eN]; exact SA)) rfl)
  ·exact .inr ⟨(rates,fixed),bB hc (bF (decide_eq_false hm) (bT er (bT ef rfl))),⟨x,lo,P,h⟩,hm⟩
 ·rw[eN]
  refine⟨fun _=>0,0,1,by simp,by simp,fun i hi hf=>?_,?_⟩
  ·rw[List.getElem?_replicate]at hf; split at hf<;>simp at hf
  ·have:(fun i:Nat=>(List.replicate n.ae.length false)[i]?.getD false)=fun _=>false:=by
    funext i
    rw[List.getElem?_replicate]
    split<;>rfl
   show Mm.Inv (bx n) (fun i:Nat=>(List.replicate n.ae.length false)[i]?.getD false) _ _ _
   rw[this]
   exact E9 Sx (fun l hl=>by rw[(hv.cap hl).1]; exact_mod_cast (hv.cap hl).2.1) (fun i hi hh=>by obtain⟨k,_,e,_,k0,_⟩:=hv.kO hi; rw[e]; exact_mod_cast k0) _
 ·rintro⟨rates,fixed⟩ ⟨⟨x,lo,P,h⟩,hm⟩
  refine⟨_,rfl,rfl,x,lo,P,?_⟩
  have SA:fixed.length=n.ae.length:=h.nf
  have AL:false∉fixed:=hm
  have:fixed=List.replicate n.ae.length true:=by
   rw[List.eq_replicate_iff]
   exact⟨SA,fun b hb=>by cases b with|true=>rfl|false=>exact absurd hb AL⟩
  have h2:mb n rates fixed x lo P:=h
  rw[this]at h2
  exact h2
end Go.Proofs.Ytedjbjphpnkpoaa
end
section
/- Plain facts of this seat: the fair rates; the law MaxminScale. -/
set_option maxRecDepth 100000
set_option maxHeartbeats 1000000
namespace Go.Proofs.Ytedjbjphpnkpoaa
open Go.PI Go.Pl Go.Mm
structure Sh(n:bD)(xs:List ai)(x:Nat→Rat):Prop where
 e:aa.cw n=some (xs,0)
 len:xs.length=n.ae.length
 fair:Mm.Fair (bx n) x
 get:∀ i,i<n.ae.length→xs[i]?=some (gN (x i))
 nn:∀ i,i<n.ae.length→0≤x i∧x i≤1000
 fit:∀ i,i<n.ae.length→dK (x i)∧(x i).den≤18
 dv:∃ P:Nat,1≤P∧P≤18∧∀ i,i<n.ae.length→Dv P (x i)
theorem xX{n:bD}(hb:vN n=true):∃ xs x,Sh n xs x:=by
 have hv:=z6 hb
 obtain⟨⟨xs,e⟩,h1,h2,x,lo,P,h⟩:=KE hb
 obtain rfl:e=0:=h2
 have h':mb n xs (List.replicate n.ae.length true) x lo P:=h
 have bc:∀ i,i<(bx n).F→(fun i:Nat=>(List.replicate n.ae.length true)[i]?.getD false) i=true:=fun i hi=>by
  show (List.replicate n.ae.length true)[i]?.getD false=true
  rw[List.getElem?_replicate,if_pos (show i<n.ae.length from hi)]; rfl
 obtain⟨hf,hd⟩:=Kr h'.inv bc
 have hx:∀ i,i<n.ae.length→0≤x i∧x i≤1000:=fun i hi=>by
  obtain⟨l,hl,ma⟩:=hv.ex hi
  obtain⟨hc,_,Jb⟩:=hv.cap hl
  have qT:sm (gO n l) x n.ae.length≤(bx n).c l:=hf.wD.cap l hl
  have P7:∀ j,j<n.ae.length→gO n l j=true→0≤x j:=fun j hj _=>hf.wD.nn j hj
  have h2:=(od P7 (i:=i+1) (by omega)).2
  have h3:=(od P7 (i:=i) (by omega)).1
  simp only[sm,ma,cond_true]at h2
  have h4:(bx n).c l≤1000:=by rw[hc]; exact_mod_cast Jb
  exact⟨hf.wD.nn i hi,by grind⟩
 refine⟨xs,x,h1,h'.nr,hf,fun i hi=>h'.r i hi (by rw[List.getElem?_replicate,if_pos hi]),hx,fun i hi=>?_,P,h'.inv.P1,h'.PY,fun i hi=>(hd i hi).1⟩
 obtain⟨d1,d2⟩:=hd i hi
 have PZ:=h'.inv.P1
 have:=xS PZ (by omega) d1 (hx i hi).1 (hx i hi).2
 exact⟨this.1,by omega⟩
end Go.Proofs.Ytedjbjphpnkpoaa
end
section
/- Plain facts of this seat: the reference's ratios; the law MaxminNoMore. -/
set_option maxRecDepth 100000
set_option maxHeartbeats 1000000
namespace Go.Proofs.Ytedjbjphpnkpoaa
open Go.PI Go.Pl Go.Mm
section
variable {γ:Type}{Q:γ→Prop}
theorem KG{τ ω:Type}{f:τ→Option (τ ⊕ ω)}{x0:τ}{K:ω→Option γ}(N:Nat)(I:Nat→τ→Prop)(P:ω→Prop)(h:∀ i s,i<N→I i s→∃ r,f s=some r∧∃ s',r=.inl s'∧I (i+1) s')
  (he:∀ s,I N s→∃ r,f s=some r∧∃ w,r=.inr w∧P w) (h0:I 0 x0) (hk:∀ w,P w→∃ r,K w=some r∧Q r):∃ r,(aM f x0).bind K=some r∧Q r:=by
 have key:∀ m i s,m=N-i→i≤N→I i s→∃ w,aM f s=some w∧P w:=by
  intro m
  induction m with
  |zero=>
   intro i s hm hi hI
   obtain rfl:i=N:=by omega
   obtain⟨_,h1,w,rfl,h2⟩:=he s hI
   exact⟨w,out h1,h2⟩
  |succ m ih=>
   intro i s hm hi hI
   obtain⟨_,h1,s',rfl,h2⟩:=h i s (by omega) hI
   obtain⟨w,h3,h4⟩:=ih (i+1) s' (by omega) (by omega) h2
   exact⟨w,by rw[next h1,h3],h4⟩
 obtain⟨w,h1,h2⟩:=key N 0 x0 rfl (Nat.zero_le _) h0
 exact fE h1 (hk w h2)
end
/-! ### A possible choice -/
theorem GF{γ:Type}{l:List γ}{i j:Nat}{v:γ}(h:i<l.length):(l.set i v)[j]?=if j=i then some v else l[j]?:=by
 rw[List.getElem?_set]
 by_cases e:i=j
 ·subst e; simp[h]
 ·rw[if_neg e,if_neg fun q=>e q.symm]
end Go.Proofs.Ytedjbjphpnkpoaa
end
section
/- Plain facts of this seat: the law MaxminNoMore. -/
set_option maxRecDepth 100000
set_option maxHeartbeats 1000000
namespace Go.Proofs.Ytedjbjphpnkpoaa
open Go.PI Go.Pl Go.Mm
theorem SC{m k:Nat}(h:m≤64)(hk:k≤8):(decide (((m:Nat):Int).toNat*k≤2^47)&&decide (((m:Nat):Int).toNat<2^62))=true:=by
 have:=Nat.mul_le_mul h hk
 simp only[Int.toNat_natCast,Bool.and_eq_true,decide_eq_true_eq]; omega
end Go.Proofs.Ytedjbjphpnkpoaa
end
section
/- Plain facts of this seat: the reference's sums. -/
set_option maxRecDepth 100000
set_option maxHeartbeats 1000000
namespace Go.Proofs.Ytedjbjphpnkpoaa
open Go.PI Go.Pl Go.Mm
theorem Sh.Qc{n:bD}(hv:VN n){xs:List ai}{x:Nat→Rat}(h:Sh n xs x){l:Nat}(hl:l<n.aC.length){i:Nat}(hi:i≤n.ae.length):dK (sm (gO n l) x i):=by
 obtain⟨hc,_,Jb⟩:=hv.cap hl
 obtain⟨P,p1,p2,hd⟩:=h.dv
 have hm:=od (p:=gO n l) (x:=x) (n:=n.ae.length) (fun j hj _=>(h.nn j hj).1) hi
 have qT:sm (gO n l) x n.ae.length≤(bx n).c l:=h.fair.wD.cap l hl
 have h4:(bx n).c l≤1000:=by rw[hc]; exact_mod_cast Jb
 exact(xS p1 (by omega) (Dv.sm fun j hj _=>hd j (by omega)) hm.1 (by grind)).1
end Go.Proofs.Ytedjbjphpnkpoaa
end
section
/- Plain facts of this seat: the law MaxminRoom. -/
set_option maxRecDepth 100000
set_option maxHeartbeats 1000000
namespace Go.Proofs.Ytedjbjphpnkpoaa
open Go.PI Go.Pl Go.Mm
end Go.Proofs.Ytedjbjphpnkpoaa
end
section
/- Plain facts of this seat: what Check says. -/
set_option maxRecDepth 100000
set_option maxHeartbeats 1000000
namespace Go.Proofs.Ytedjbjphpnkpoaa
open Go.PI Go.Pl Go.Mm
section
variable {γ:Type}{Q:γ→Prop}
theorem Be{τ ω:Type}{f:τ→Option (τ ⊕ ω)}{x0:τ}{K:ω→Option γ}(N:Nat)(I:Nat→τ→Prop)(P:ω→Prop)(h:∀ i s,i<N→I i s→∃ r,f s=some r∧((∃ s',r=.inl s'∧I (i+1) s')∨∃ w,r=.inr w∧P w))
  (he:∀ s,I N s→∃ r,f s=some r∧∃ w,r=.inr w∧P w) (h0:I 0 x0) (hk:∀ w,P w→∃ r,K w=some r∧Q r):∃ r,(aM f x0).bind K=some r∧Q r:=by
 have key:∀ m i s,m=N-i→i≤N→I i s→∃ w,aM f s=some w∧P w:=by
  intro m
  induction m with
  |zero=>
   intro i s hm hi hI
   obtain rfl:i=N:=by omega
   obtain⟨_,h1,w,rfl,h2⟩:=he s hI
   exact⟨w,out h1,h2⟩
  |succ m ih=>
   intro i s hm hi hI
   obtain⟨_,h1,h2⟩:=h i s (by omega) hI
   rcases h2 with ⟨s',rfl,h2⟩|⟨w,rfl,h2⟩
   ·obtain⟨w,h3,h4⟩:=ih (i+1) s' (by omega) (by omega) h2
    exact⟨w,by rw[next h1,h3],h4⟩
   ·exact⟨w,out h1,h2⟩
 obtain⟨w,h1,h2⟩:=key N 0 x0 rfl (Nat.zero_le _) h0
 exact fE h1 (hk w h2)
end
theorem Ff{N:wC}{x y:Nat→Rat}(h:∀ i,i<N.F→x i=y i)(hx:Mm.Fair N x):Mm.Fair N y:=by
 have hs:∀ l,sm (N.on l) x N.F=sm (N.on l) y N.F:=fun l=>lK (fun _ _=>rfl) fun j hj _=>h j hj
 refine⟨⟨fun i hi=>by rw[←h i hi]; exact hx.wD.nn i hi,fun i hi hh=>by rw[←h i hi]; exact hx.wD.kO i hi hh,fun l hl=>by rw[←hs]; exact hx.wD.cap l hl⟩,fun i hi=>?_⟩
 rcases hx.E8 i hi with ⟨h1,h2⟩|⟨l,hl,ma,So,AM⟩
 ·exact .inl ⟨h1,by rw[←h i hi]; exact h2⟩
 ·exact .inr ⟨l,hl,ma,by rw[←hs]; exact So,fun j hj ho=>by rw[←h i hi,←h j hj]; exact AM j hj ho⟩
theorem HQ{n:bD}(hb:vN n=true){z:Nat→Rat}(h:Mm.Fair (bx n) z){l:Nat}(hl:l<n.aC.length){i:Nat}(hi:i≤n.ae.length):dK (sm (gO n l) z i):=by
 obtain⟨xs,x,hx⟩:=xX hb
 have he:=vU hx.fair h
 have:=hx.Qc (z6 hb) hl hi
 rwa [lK (q:=gO n l) (y:=z) (fun _ _=>rfl) fun j hj _=>he j (show j<n.ae.length by omega)]at this
section
variable {n:bD}{x:List ai}{z:Nat→Rat}
structure Rz(n:bD)(x:List ai)(z:Nat→Rat):Prop where
 len:x.length=n.ae.length
 get:∀ i,i<n.ae.length→x[i]?=some (gN (z i))
 fit:∀ i,i<n.ae.length→dK (z i)
theorem Ny(hb:vN n=true)(h:Rz n x z){l:Nat}(hl:l<n.aC.length):
  ∃ r,aa.fN (cb.mk n [] x) (l:Int)=some r∧((r=(gN (sm (gO n l) z n.ae.length),true)∧dK (sm (gO n l) z n.ae.length)∧sm (gO n l) z n.ae.length≤(bx n).c l)∨(r.2=false∧¬Mm.Fair (bx n) z)):=by
 have hv:=z6 hb
 have hF:=hv.nf
 unfold aa.fN
 refine fE (v:=⟨0,1⟩) rfl ?_
 refine Be n.ae.length (fun i s=>s=((i:Int),(sm (gO n l) z i).num,((sm (gO n l) z i).den:Int))∧dK (sm (gO n l) z i))
  (fun w=>(w=Sum.inr ((n.ae.length:Int),(sm (gO n l) z n.ae.length).num,((sm (gO n l) z n.ae.length).den:Int))∧dK (sm (gO n l) z n.ae.length))∨(∃ a b c d,w=Sum.inl (a,b,false,c,d))∧¬Mm.Fair (bx n) z) ?_ ?_ ⟨rfl,by show dK 0; exact wQ (k:=0) (by omega) (by omega)⟩ ?_
 ·rintro i s hi ⟨rfl,fj⟩
  refine dj (cX hi) (dj (aL i) (fE (get_at hi) (fE (hv.on hi) ?_)))
  have w1:IntKind.i64.wrap ((i:Int)+1)=((i+1:Nat):Int):=dQ (by omega)
  cases ma:gO n l i with
  |false=>
   have he:sm (gO n l) z (i+1)=sm (gO n l) z i:=by simp only[sm,ma,cond_false,Rat.add_zero]
   exact oe rfl ⟨_,rfl,.inl ⟨_,rfl,by rw[he,w1],by rw[he]; exact fj⟩⟩
  |true=>
   have he:sm (gO n l) z (i+1)=sm (gO n l) z i+z i:=by simp only[sm,ma,cond_true]
   have ha:=add_eq fj (h.fit i hi)
   rw[←he]at ha
   refine dj rfl (dj (aL i) (fE (v:=gN (z i)) (by rw[Int.toNat_natCast]; exact h.get i hi) (fE ha ?_)))
   by_cases hf:dK (sm (gO n l) z (i+1))
   ·rw[if_pos hf]
    exact oe rfl ⟨_,rfl,.inl ⟨_,rfl,by rw[w1]; rfl,hf⟩⟩
   ·rw[if_neg hf]
    exact dj rfl ⟨_,rfl,.inr ⟨_,rfl,.inr ⟨⟨_,_,_,_,rfl⟩,fun eu=>hf (HQ hb eu hl (by omega))⟩⟩⟩
 ·rintro s ⟨rfl,fj⟩
  exact oe (du _) ⟨_,rfl,_,rfl,.inl ⟨rfl,fj⟩⟩
 ·rintro w (⟨rfl,fj⟩|⟨⟨a,b,c,d,rfl⟩,hn⟩)
  ·obtain⟨hc,c0,c1⟩:=hv.cap hl
   have KF:=wP (wQ c0 c1) fj
   refine dj (y:=none) (aL l) (fE (get_at hl) (fE (v:=⟨n.aC[l],1⟩) rfl (fE KF ⟨_,rfl,?_⟩)))
   by_cases bQ:((n.aC[l]:Int):Rat)<sm (gO n l) z n.ae.length
   ·exact .inr ⟨by show (!decide _)=false; rw[decide_eq_true bQ]; rfl,fun eu=>by
     have:=eu.wD.cap l hl
     rw[hc]at this
     exact absurd bQ (Rat.not_lt.2 this)⟩
   ·exact .inl ⟨by show (_,!decide _)=_; rw[decide_eq_false bQ]; rfl,fj,by rw[hc]; exact Rat.not_lt.1 bQ⟩
  ·exact⟨_,rfl,.inr ⟨rfl,hn⟩⟩
def OQ(n:bD)(z:Nat→Rat)(j:Nat):Bool:=(bx n).has j&&decide (z j=(bx n).k j)
def Mv(n:bD)(z:Nat→Rat)(l i m:Nat):Bool:=(List.range m).all fun j=>!(gO n l j&&decide (z i<z j))
def Rf(n:bD)(z:Nat→Rat)(l i:Nat):Bool:=gO n l i&&(Mv n z l i n.ae.length&&decide (sm (gO n l) z n.ae.length=(bx n).c l))
def Bf(n:bD)(z:Nat→Rat)(l i:Nat):Bool:=OQ n z i||(List.range l).any fun l'=>Rf n z l' i
theorem KH(l i:Nat):Bf n z (l+1) i=(Bf n z l i||Rf n z l i):=by
 unfold Bf
 rw[List.range_succ,List.any_append]
 simp[Bool.or_assoc]
theorem CW(i:Nat):Bf n z n.aC.length i=true↔PX (bx n) z i:=by
 unfold Bf OQ Rf Mv PX
 simp only[Bool.or_eq_true,Bool.and_eq_true,decide_eq_true_eq,List.any_eq_true,List.all_eq_true,List.mem_range,Bool.not_eq_true',Bool.and_eq_false_iff,decide_eq_false_iff_not]
 constructor
 ·rintro (h|⟨l,hl,ma,hm,hs⟩)
  ·exact .inl h
  ·refine .inr ⟨l,hl,ma,hs,fun j hj ho=>?_⟩
   rcases hm j hj with h|h
   ·rw[show gO n l j=true from ho]at h; exact absurd h (by decide)
   ·exact Rat.not_lt.1 h
 ·rintro (h|⟨l,hl,ma,hs,hm⟩)
  ·exact .inl h
  ·refine .inr ⟨l,hl,ma,fun j hj=>?_,hs⟩
   cases ho:gO n l j with
   |false=>exact .inl rfl
   |true=>exact .inr (Rat.not_lt.2 (hm j hj ho))
end
end Go.Proofs.Ytedjbjphpnkpoaa
end
section
/- Plain facts of this seat: Check says which rates are fair; the law MaxminExactly. -/
set_option maxRecDepth 100000
set_option maxHeartbeats 1000000
namespace Go.Proofs.Ytedjbjphpnkpoaa
open Go.PI Go.Pl Go.Mm
def Rg(n:bD)(x:List ai):Prop:=∃ z,Rz n x z∧Mm.Fair (bx n) z
theorem Nz{n:bD}(hv:VN n){x:List ai}{z:Nat→Rat}(h:Rz n x z){l:Nat}(hl:l<n.aC.length){i:Nat}(hi:i<n.ae.length):
  aM (ω:=Int×Bool) (fun ((i32,NA):Int×Bool)=>
 bif decide (i32<(↑n.ae.length:Int)) then
 bif decide (0≤i32) then
 (n.ae[i32.toNat]?).bind fun o9=>
 (aa.bC o9 (l:Int)).bind fun SD=>
 bif SD then
 bif NA then
 bif decide (0≤(i:Int)) then
 (x[(i:Int).toNat]?).bind fun VL=>
 bif decide (0≤i32) then
 (x[i32.toNat]?).bind fun VM=>
 (aa.eQ VL VM).bind fun NB=>
 some (Sum.inl (IntKind.i64.wrap (i32+1),!NB))
 else
 none
 else
 none
 else
 some (Sum.inl (IntKind.i64.wrap (i32+1),false))
 else
 some (Sum.inl (IntKind.i64.wrap (i32+1),NA))
 else
 none
 else
 some (Sum.inr (i32,NA))) (0,true)=some ((n.ae.length:Int),Mv n z l i n.ae.length):=by
  have hF:=hv.nf
  refine eF (fun j=>((j:Int),Mv n z l i j)) n.ae.length _ (fun j hj=>?_) (bF (du _) rfl) rfl
  have hs:Mv n z l i (j+1)=(Mv n z l i j&&!(gO n l j&&decide (z i<z j))):=by
   unfold Mv
   rw[List.range_succ,List.all_append]; simp
  refine bT (cX hj) (bT (aL j) (bB (get_at hj) (bB (hv.on hj) ?_)))
  rw[hs,dQ (by omega)]
  cases gO n l j with
  |false=>exact bF rfl (by simp)
  |true=>
   refine bT rfl ?_
   cases Mv n z l i j with
   |false=>exact bF rfl (by simp)
   |true=>
    exact bT rfl (bT (aL i) (bB (v:=gN (z i)) (by rw[Int.toNat_natCast]; exact h.get i hi) (bT (aL j) (bB (v:=gN (z j)) (by rw[Int.toNat_natCast]; exact h.get j hj) (bB (wP (h.fit i hi) (h.fit j hj)) (by simp))))))
theorem CX{n:bD}(hb:vN n=true){x:List ai}(DY:x.length≤50):∃ b,aa.fb n x=some b∧(b=true↔Rg n x):=by
 have hv:=z6 hb
 have hF:=hv.nf
 have hL:=hv.nc
 have xi:¬Rg n x→(false=true↔Rg n x):=fun h=>⟨fun e=>absurd e (by decide),fun e=>absurd e h⟩
 unfold aa.fb
 refine fE (GA fun l hl=>hv.P6 hl) (oe (by rw[hb]; rfl) ?_)
 by_cases hlen:x.length≠n.ae.length
 ·exact dj (by rw[Bool.not_eq_true',beq_eq_false_iff_ne]; omega) ⟨_,rfl,xi fun⟨z,h,_⟩=>hlen h.len⟩
 have rj:x.length=n.ae.length:=Classical.not_not.1 hlen
 refine oe (by rw[rj]; simp) ?_
 refine Be n.ae.length (fun i s=>s=(false,(i:Int))∧∀ j,j<i→∃ q,x[j]?=some (gN q)∧dK q∧0≤q∧((bx n).has j=true→q≤(bx n).k j))
  (fun w=>(w=Sum.inr (false,(n.ae.length:Int))∧∀ j,j<n.ae.length→∃ q,x[j]?=some (gN q)∧dK q∧0≤q∧((bx n).has j=true→q≤(bx n).k j))∨(w=Sum.inl false∧¬Rg n x)) ?_ ?_ ⟨rfl,fun j hj=>by omega⟩ ?_
 ·rintro i s hi ⟨rfl,SE⟩
  have Q5:i<x.length:=by omega
  obtain⟨k,gk,ek,eh,k0,k1⟩:=hv.kO hi
  have Uq:n.aH[(i:Int).toNat]?=some k:=by rw[Int.toNat_natCast]; exact gk
  have w1:IntKind.i64.wrap ((i:Int)+1)=((i+1:Nat):Int):=dQ (by omega)
  refine dj (cX Q5) (dj (aL i) (fE (get_at Q5) (fE (jg _) ?_)))
  cases VO:vR x[i] with
  |false=>
   refine dj rfl ⟨_,rfl,.inr ⟨_,rfl,.inr ⟨rfl,fun⟨z,h,_⟩=>?_⟩⟩⟩
   have h1:=h.get i hi
   rw[List.getElem?_eq_getElem Q5]at h1
   rw[Option.some.inj h1,lL,decide_eq_true (h.fit i hi)]at VO
   exact absurd VO (by decide)
  |true=>
   obtain⟨q,hq,Ye⟩:=(P3 _).1 VO
   have Uk:x[i]?=some (gN q):=by rw[List.getElem?_eq_getElem Q5,hq]
   have hz:∀ z,Rz n x z→z i=q:=fun z h=>Gz (Option.some.inj ((h.get i hi).symm.trans Uk))
   rw[hq]
   refine oe rfl ?_
   by_cases HR:q.num<0
   ·refine dj (decide_eq_true HR) ⟨_,rfl,.inr ⟨_,rfl,.inr ⟨rfl,fun⟨z,h,hf⟩=>?_⟩⟩⟩
    have:=hf.wD.nn i hi
    rw[hz z h]at this
    have:=Rat.num_nonneg.2 this
    omega
   have Sy:0≤q:=Rat.num_nonneg.1 (by omega)
   refine oe (decide_eq_false HR) (dj (aL i) (fE Uq ?_))
   have GB:((bx n).has i=true→q≤(bx n).k i)→∀ j,j<i+1→∃ q,x[j]?=some (gN q)∧dK q∧0≤q∧((bx n).has j=true→q≤(bx n).k j):=fun hh j hj=>by
    by_cases e:j=i
    ·subst e; exact⟨q,Uk,Ye,Sy,hh⟩
    ·exact SE j (by omega)
   by_cases dG:0<k
   ·refine dj (decide_eq_true dG) (dj (aL i) (fE Uq (fE (v:=⟨k,1⟩) rfl (fE (wP (wQ k0 k1) Ye) ?_))))
    by_cases bQ:(k:Rat)<q
    ·refine dj (decide_eq_true bQ) ⟨_,rfl,.inr ⟨_,rfl,.inr ⟨rfl,fun⟨z,h,hf⟩=>?_⟩⟩⟩
     have:=hf.wD.kO i hi (by rw[eh]; exact decide_eq_true dG)
     rw[hz z h,ek]at this
     exact absurd bQ (Rat.not_lt.2 this)
    ·exact oe (decide_eq_false bQ) ⟨_,rfl,.inl ⟨_,rfl,by rw[w1],GB fun _=>by rw[ek]; exact Rat.not_lt.1 bQ⟩⟩
   ·exact oe (decide_eq_false dG) ⟨_,rfl,.inl ⟨_,rfl,by rw[w1],GB fun hh=>by rw[eh]at hh; exact absurd (of_decide_eq_true hh) dG⟩⟩
 ·rintro s ⟨rfl,bc⟩
  exact oe (decide_eq_false (by omega)) ⟨_,rfl,_,rfl,.inl ⟨rfl,bc⟩⟩
 rintro w (⟨rfl,bc⟩|⟨rfl,hn⟩)
 rotate_left
 ·exact⟨_,rfl,xi hn⟩
 obtain⟨z,hz⟩:∃ z:Nat→Rat,∀ j,j<n.ae.length→x[j]?=some (gN (z j))∧dK (z j)∧0≤z j∧((bx n).has j=true→z j≤(bx n).k j):=by
  refine⟨fun j=>mkRat (x[j]?.getD ⟨0,0⟩).c7 (x[j]?.getD ⟨0,0⟩).Den.toNat,fun j hj=>?_⟩
  obtain⟨q,h1,h2⟩:=bc j hj
  simp only[h1,Option.getD_some,xU]
  exact⟨trivial,h2⟩
 have rz:Rz n x z:=⟨rj,fun j hj=>(hz j hj).1,fun j hj=>(hz j hj).2.1⟩
 have bM:Rg n x↔Mm.Fair (bx n) z:=by
  refine⟨fun⟨z',r',f'⟩=>Ff (fun j hj=>Gz (Option.some.inj ((r'.get j hj).symm.trans (rz.get j hj)))) f',fun h=>⟨z,rz,h⟩⟩
 rw[bM]
 have VP:¬Mm.Fair (bx n) z→(false=true↔Mm.Fair (bx n) z):=fun h=>⟨fun e=>absurd e (by decide),fun e=>absurd e h⟩
 refine dj (y:=none) (SC (by omega) (by omega)) ?_
 have rP:(List.replicate ((x.length:Nat):Int).toNat false).length=n.ae.length:=by rw[List.length_replicate,Int.toNat_natCast,rj]
 refine KG n.ae.length (fun k s=>s.1=(k:Int)∧s.2.length=n.ae.length∧∀ j,j<n.ae.length→s.2[j]?=some (if j<k then OQ n z j else false))
  (fun w=>w.2.length=n.ae.length∧∀ j,j<n.ae.length→w.2[j]?=some (OQ n z j)) ?_ ?_ ⟨rfl,rP,fun j hj=>by
    show (List.replicate _ _)[j]?=_
    rw[List.getElem?_replicate,if_pos (by rw[Int.toNat_natCast,rj]; exact hj),if_neg (Nat.not_lt_zero _)]⟩ ?_
 ·rintro i ⟨a,s⟩ hi ⟨e,KI,hs⟩
  obtain rfl:a=(i:Int):=e
  have qV:s.length=n.ae.length:=KI
  have IK:i<s.length:=by omega
  have Q8:=hv.nl
  obtain⟨k,gk,ek,eh,k0,k1⟩:=hv.kO hi
  have Uq:n.aH[(i:Int).toNat]?=some k:=by rw[Int.toNat_natCast]; exact gk
  have w1:IntKind.i64.wrap ((i:Int)+1)=((i+1:Nat):Int):=dQ (by omega)
  have rK:∀ v,v=OQ n z i→∃ r,(bif decide ((s.set (0+(i:Int).toNat) v).length=(List.replicate ((x.length:Nat):Int).toNat false).length) then some (Sum.inl (IntKind.i64.wrap ((i:Int)+1),s.set (0+(i:Int).toNat) v)) else none:Option ((Int×List Bool) ⊕ (Int×List Bool)))=some r∧∃ s',r=.inl s'∧s'.1=((i+1:Nat):Int)∧s'.2.length=n.ae.length∧∀ j,j<n.ae.length→s'.2[j]?=some (if j<i+1 then OQ n z j else false):=fun v jr=>by
   refine dj (decide_eq_true (by rw[List.length_set,qV,rP])) ⟨_,rfl,_,rfl,w1,by show (s.set _ _).length=_; rw[List.length_set,qV],fun j hj=>?_⟩
   show (s.set (0+(i:Int).toNat) v)[j]?=_
   rw[Nat.zero_add,Int.toNat_natCast,GF IK]
   by_cases e:j=i
   ·subst e; rw[if_pos rfl,if_pos (Nat.lt_succ_self _),jr]
   ·rw[if_neg e,hs j hj]
    by_cases e2:j<i
    ·rw[if_pos e2,if_pos (by omega)]
    ·rw[if_neg e2,if_neg (by omega)]
  refine dj (decide_eq_true (by omega)) (dj (aL i) (fE Uq ?_))
  by_cases dG:0<k
  ·refine dj (decide_eq_true dG) (dj (aL i) (fE (v:=gN (z i)) (by rw[Int.toNat_natCast]; exact rz.get i hi) (fE (v:=⟨k,1⟩) rfl (dj (aL i) (dj (decide_eq_true (by rw[Int.toNat_natCast]; exact IK)) (fE (v:=s[i]) (by rw[Nat.zero_add]; exact get_at IK) (rK _ ?_)))))))
   have hs:=nG (z i) (k:Rat)
   unfold OQ
   rw[eh,ek,decide_eq_true dG,Bool.true_and]
   exact hs
  ·refine oe (decide_eq_false dG) (dj (aL i) (dj (decide_eq_true (by rw[Int.toNat_natCast]; exact IK)) (fE (v:=s[i]) (by rw[Nat.zero_add]; exact get_at IK) (rK _ ?_))))
   unfold OQ
   rw[eh,decide_eq_false dG,Bool.false_and]
 ·rintro⟨a,s⟩ ⟨e,KI,hs⟩
  obtain rfl:a=(n.ae.length:Int):=e
  have qV:s.length=n.ae.length:=KI
  have Q8:=hv.nl
  exact oe (decide_eq_false (by omega)) (dj (decide_eq_true (by rw[qV,rP])) ⟨_,rfl,_,rfl,qV,fun j hj=>by have:=hs j hj; rw[if_pos hj]at this; exact this⟩)
 rintro⟨a,m0⟩ ⟨Pn,hm⟩
 have NC:m0.length=n.ae.length:=Pn
 refine Be n.aC.length (fun l s=>s.1=false∧s.2.1=(l:Int)∧s.2.2.length=n.ae.length∧(∀ j,j<n.ae.length→s.2.2[j]?=some (Bf n z l j))∧∀ l',l'<l→sm (gO n l') z n.ae.length≤(bx n).c l')
  (fun w=>(∃ m:List Bool,w=Sum.inr (false,(n.aC.length:Int),m)∧m.length=n.ae.length∧(∀ j,j<n.ae.length→m[j]?=some (Bf n z n.aC.length j))∧∀ l',l'<n.aC.length→sm (gO n l') z n.ae.length≤(bx n).c l')∨((∃ m,w=Sum.inl (false,m))∧¬Mm.Fair (bx n) z)) ?_ ?_ ⟨rfl,rfl,NC,fun j hj=>?_,fun l' jy=>by omega⟩ ?_
 ·rintro l ⟨b,a,m⟩ hl ⟨e1,e2,B0,Rh,qT⟩
  obtain rfl:b=false:=e1
  obtain rfl:a=(l:Int):=e2
  have CY:m.length=n.ae.length:=B0
  have VQ:∀ j,j<n.ae.length→m[j]?=some (Bf n z l j):=Rh
  obtain⟨r,hr,nq⟩:=Ny hb rz hl
  refine dj (cX hl) (fE hr ?_)
  rcases nq with ⟨rfl,hfS,hle⟩|⟨Cy,hn⟩
  rotate_left
  ·obtain⟨q,b⟩:=r
   obtain rfl:b=false:=Cy
   exact dj rfl (dj (decide_eq_true (by rw[CY,NC])) ⟨_,rfl,.inr ⟨_,rfl,.inr ⟨⟨_,rfl⟩,hn⟩⟩⟩)
  refine oe rfl (KG n.ae.length (fun k s=>s.1=(k:Int)∧s.2.length=n.ae.length∧∀ j,j<n.ae.length→s.2[j]?=some (if j<k then Bf n z (l+1) j else Bf n z l j))
   (fun w=>w.2.length=n.ae.length∧∀ j,j<n.ae.length→w.2[j]?=some (Bf n z (l+1) j)) ?_ ?_ ⟨rfl,CY,fun j hj=>by rw[if_neg (Nat.not_lt_zero _)]; exact VQ j hj⟩ ?_)
  ·rintro i ⟨a,s⟩ hi ⟨e,KI,hs⟩
   obtain rfl:a=(i:Int):=e
   have qV:s.length=n.ae.length:=KI
   have IK:i<s.length:=by omega
   have w1:IntKind.i64.wrap ((i:Int)+1)=((i+1:Nat):Int):=dQ (by omega)
   have Z2:s[(i:Int).toNat]?=some (Bf n z l i):=by
    have:=hs i hi
    rw[if_neg (Nat.lt_irrefl _)]at this
    rw[Int.toNat_natCast]; exact this
   have rK:∀ v,v=Bf n z (l+1) i→∃ r,(bif decide ((s.set (0+(i:Int).toNat) v).length=m.length) then some (Sum.inl (IntKind.i64.wrap ((i:Int)+1),s.set (0+(i:Int).toNat) v)) else none:Option ((Int×List Bool) ⊕ (Int×List Bool)))=some r∧∃ s',r=.inl s'∧s'.1=((i+1:Nat):Int)∧s'.2.length=n.ae.length∧∀ j,j<n.ae.length→s'.2[j]?=some (if j<i+1 then Bf n z (l+1) j else Bf n z l j):=fun v jr=>by
    refine dj (decide_eq_true (by rw[List.length_set,qV,CY])) ⟨_,rfl,_,rfl,w1,by show (s.set _ _).length=_; rw[List.length_set,qV],fun j hj=>?_⟩
    show (s.set (0+(i:Int).toNat) v)[j]?=_
    rw[Nat.zero_add,Int.toNat_natCast,GF IK]
    by_cases e:j=i
    ·subst e; rw[if_pos rfl,if_pos (Nat.lt_succ_self _),jr]
    ·rw[if_neg e,hs j hj]
     by_cases e2:j<i
     ·rw[if_pos e2,if_pos (by omega)]
     ·rw[if_neg e2,if_neg (by omega)]
   have ND:decide ((i:Int).toNat<s.length)=true:=decide_eq_true (by rw[Int.toNat_natCast]; exact IK)
   have NF:s[0+(i:Int).toNat]?=some (Bf n z l i):=by rw[Nat.zero_add]; exact Z2
   refine dj (cX hi) (dj (aL i) (fE (get_at hi) (fE (hv.on hi) ?_)))
   have z8:=KH (n:=n) (z:=z) l i
   cases ma:gO n l i with
   |false=>
    refine oe rfl (dj (decide_eq_true (by rw[qV,CY])) ⟨_,rfl,_,rfl,w1,qV,fun j hj=>?_⟩)
    show s[j]?=_
    rw[hs j hj]
    by_cases e:j=i
    ·subst e
     rw[if_neg (Nat.lt_irrefl _),if_pos (Nat.lt_succ_self _),z8]
     unfold Rf
     rw[ma,Bool.false_and,Bool.or_false]
    ·by_cases e2:j<i
     ·rw[if_pos e2,if_pos (by omega)]
     ·rw[if_neg e2,if_neg (by omega)]
   |true=>
    refine dj rfl (fE (Nz hv rz hl hi) (dj (aL i) (dj ND (fE NF ?_))))
    have fe:Rf n z l i=(Mv n z l i n.ae.length&&decide (sm (gO n l) z n.ae.length=(bx n).c l)):=by
     unfold Rf; rw[ma,Bool.true_and]
    cases nH:Bf n z l i with
    |true=>
     refine dj rfl (dj (aL i) (dj ND (fE NF (rK _ ?_))))
     rw[z8,nH]; rfl
    |false=>
     refine oe rfl ?_
     cases Yf:Mv n z l i n.ae.length with
     |true=>
      refine dj rfl (dj (aL l) (fE (get_at hl) (fE (v:=⟨n.aC[l],1⟩) rfl (dj (aL i) (dj ND (fE NF (rK _ ?_)))))))
      rw[z8,nH,fe,Yf,Bool.false_or,Bool.true_and,(hv.cap hl).1]
      exact nG _ ((n.aC[l]:Int):Rat)
     |false=>
      refine oe rfl (dj (aL i) (dj ND (fE NF (rK _ ?_))))
      rw[z8,nH,fe,Yf]; rfl
  ·rintro⟨a,s⟩ ⟨e,KI,hs⟩
   obtain rfl:a=(n.ae.length:Int):=e
   have qV:s.length=n.ae.length:=KI
   exact oe (du _) (dj (decide_eq_true (by rw[qV,CY])) ⟨_,rfl,_,rfl,qV,fun j hj=>by have:=hs j hj; rw[if_pos hj]at this; exact this⟩)
  ·rintro⟨a,s⟩ ⟨KI,hs⟩
   have qV:s.length=n.ae.length:=KI
   refine dj (decide_eq_true (by rw[qV,NC])) ⟨_,rfl,.inl ⟨_,rfl,rfl,dQ (by omega),qV,hs,fun l' jy=>?_⟩⟩
   by_cases e:l'=l
   ·subst e; exact hle
   ·exact qT l' (by omega)
 ·rintro⟨b,a,m⟩ ⟨e1,e2,B0,Rh,qT⟩
  obtain rfl:b=false:=e1
  obtain rfl:a=(n.aC.length:Int):=e2
  have CY:m.length=n.ae.length:=B0
  exact oe (du _) (dj (decide_eq_true (by rw[CY,NC])) ⟨_,rfl,_,rfl,.inl ⟨m,rfl,CY,Rh,qT⟩⟩)
 ·have:=hm j hj
  show m0[j]?=_
  rw[this]
  unfold Bf
  simp
 ·rintro w (⟨m,rfl,B0,Rh,qT⟩|⟨⟨m,rfl⟩,hn⟩)
  ·refine fE (CP (by omega) false) ⟨_,rfl,?_⟩
   rw[Bool.not_eq_true',decide_eq_false_iff_not]
   constructor
   ·intro mH
    refine⟨⟨fun j hj=>(hz j hj).2.2.1,fun j hj=>(hz j hj).2.2.2,fun l hl=>qT l hl⟩,fun j hj=>(CW j).1 ?_⟩
    cases hc:Bf n z n.aC.length j with
    |true=>rfl
    |false=>
     have h1:=Rh j hj
     rw[hc]at h1
     exact absurd (List.mem_of_getElem? h1) mH
   ·intro hf mH
    obtain⟨j,hj,e⟩:=List.getElem_of_mem mH
    have h1:=Rh j (by omega)
    rw[List.getElem?_eq_getElem hj,e,(CW j).2 (hf.E8 j (show j<n.ae.length by omega))]at h1
    exact absurd (Option.some.inj h1) (by decide)
  ·exact⟨_,rfl,VP hn⟩
end Go.Proofs.Ytedjbjphpnkpoaa
end
section
/- Plain facts of this seat: the law MaxminExactly. -/
set_option maxRecDepth 100000
set_option maxHeartbeats 1000000
namespace Go.Proofs.Ytedjbjphpnkpoaa
open Go.PI Go.Pl Go.Mm
theorem NG{a b:List ai}(hl:a.length≤2^62):aa.iq a b=some (decide (a=b)):=by
 unfold aa.iq
 by_cases hlen:a.length=b.length
 rotate_left
 ·exact bT (by rw[Bool.not_eq_true',beq_eq_false_iff_ne]; omega) (congrArg some (decide_eq_false fun e=>hlen (by rw[e])).symm)
 refine bF (by rw[hlen]; simp) ?_
 refine bB (tB (fun i=>(false,(i:Int))) (fun i=>decide (a[i]?=b[i]?)) a.length (Sum.inr (false,(a.length:Int))) (Sum.inl false) (fun i hi=>?_) (bF (du _) rfl) rfl) ?_
 ·have Yg:i<b.length:=by omega
  refine bT (cX hi) (bT (aL i) (bB (get_at hi) (bT (aL i) (bB (get_at Yg) ?_))))
  rw[dQ (by omega),List.getElem?_eq_getElem hi,List.getElem?_eq_getElem Yg]
  have he:(a[i].c7==b[i].c7&&a[i].Den==b[i].Den)=decide (some a[i]=some b[i]):=by
   rw[Bool.eq_iff_iff]
   simp only[Bool.and_eq_true,beq_iff_eq,decide_eq_true_eq,Option.some.injEq]
   constructor
   ·rintro⟨h1,h2⟩
    generalize a[i]=p at h1 h2
    generalize b[i]=q at h1 h2
    cases p; cases q; simp_all
   ·intro h; rw[h]; exact⟨rfl,rfl⟩
  show (bif !(a[i].c7==b[i].c7&&a[i].Den==b[i].Den) then _ else _)=_
  rw[he]
  cases decide (some a[i]=some b[i])<;>rfl
 ·have bc:(List.range a.length).all (fun i=>decide (a[i]?=b[i]?))=decide (a=b):=by
   rw[Bool.eq_iff_iff]
   simp only[List.all_eq_true,List.mem_range,decide_eq_true_eq]
   constructor
   ·intro h
    apply List.ext_getElem?
    intro i
    by_cases hi:i<a.length
    ·exact h i hi
    ·rw[List.getElem?_eq_none (by omega),List.getElem?_eq_none (by omega)]
   ·rintro rfl i _; rfl
  rw[bc]
  cases decide (a=b)<;>rfl
theorem ok_eq{n:bD}{xs:List ai}{x:Nat→Rat}(hx:Sh n xs x)(y:List ai):Rg n y↔y=xs:=by
 constructor
 ·rintro⟨z,hr,hf⟩
  have he:=vU hf hx.fair
  have h1:=hr.len
  have h2:=hx.len
  apply List.ext_getElem?
  intro i
  by_cases hi:i<n.ae.length
  ·rw[hr.get i hi,hx.get i hi,he i hi]
  ·rw[List.getElem?_eq_none (by omega),List.getElem?_eq_none (by omega)]
 ·rintro rfl
  exact⟨x,⟨hx.len,hx.get,fun i hi=>(hx.fit i hi).1⟩,hx.fair⟩
theorem y7(n:bD)(x:List ai)(hw:n.ae.length≤2^63-1):aa.ej n x=some true:=by
 unfold aa.ej
 obtain⟨b2,hf,hlen⟩:=Ss n hw
 refine bB (v:=true) rfl (bB hf ?_)
 cases b2 with
 |false=>rfl
 |true=>
 obtain⟨_,_,_,h4⟩:=hlen rfl
 refine bT rfl (bB (Kx fun l hl=>by have:=h4 l hl; omega) ?_)
 cases hb:vN n with
 |false=>rfl
 |true=>
 have hv:=z6 hb
 have hF:=hv.nf
 refine bF rfl ?_
 by_cases h50:50<x.length
 ·exact bT (decide_eq_true (by omega)) rfl
 obtain⟨xs,q,hx⟩:=xX hb
 have JY:=hx.len
 obtain⟨b6,Z3,Z4⟩:=CX hb (x:=xs) (by omega)
 obtain⟨b7,Z5,Z6⟩:=CX hb (x:=x) (by omega)
 obtain rfl:b6=true:=Z4.2 ((ok_eq hx xs).2 rfl)
 refine bF (decide_eq_false (by omega)) (bB hx.e (bB Z3 (bB Z5 (bB (v:=(true,(xs.length:Int))) (eF (fun i=>(true,(i:Int))) xs.length _ (fun i hi=>?_) (bF (du _) rfl) rfl) ?_))))
 ·have tY:i<n.ae.length:=by omega
  have g:=hx.get i tY
  have g':xs[(i:Int).toNat]?=some (gN (q i)):=by rw[Int.toNat_natCast]; exact g
  have hd:=(q i).den_pos
  have Z7:=(hx.fit i tY).2
  refine bT (cX hi) (bT rfl (bT (aL i) (bB g' (bT (decide_eq_true (by show 1≤((q i).den:Int); omega)) (bT (aL i) (bB g' ?_))))))
  rw[dQ (by omega),show decide ((gN (q i)).Den≤18)=true from decide_eq_true (by show ((q i).den:Int)≤18; omega)]
 ·refine bT rfl (bT rfl (bT rfl (bB (NG (by omega)) ?_)))
  congr 1
  rw[beq_iff_eq,Bool.eq_iff_iff,Z6,ok_eq hx,decide_eq_true_eq]
end Go.Proofs.Ytedjbjphpnkpoaa
end
section
/- The law MaxminExactly: its row. -/
namespace Go.Proofs.Ytedjbjphpnkpoaa.rF
open Go.PI Go.ChangeShapes Go.WideShapes Go.ChangeAt Go.RowKit
theorem own:ownKnob Try.prog.godebug=none:=by kernel_rfl
theorem laidOut:laidOutB Try.prog=true:=by kernel_rfl
theorem okWide_struct{P:Program}{w:World}{r:Reach}{base:Nat}{t:TypeId}{v:Value}{fs:Array Field}(ht:P.underlying t=some (.struct fs))(h:Value.okWide P w r base t v):∃ cs,v=.agg cs:=by
 unfold Value.okWide at h
 rw[ht]at h
 obtain⟨cs,h,_⟩:=h
 exact⟨cs,h⟩
theorem N8{E:Env}{l:List AV}{cs:Array Value}(h:aF E false l (Value.agg cs).cells.toList):aj E false (.agg l) (.agg cs):=by
 simp only[aj]
 exact⟨cs.toList,by simp,by simpa[Value.cells] using h⟩
theorem Ip{E:Env}{l:List AV}{a:Option Addr}{len cap:Nat}(h:aF E false l (Value.slice a len cap).cells.toList){x:AV}(hl:l=[x]):aj E false x (.slice a len cap):=by
 subst hl
 have h2:aj E false x (Value.slice a len cap)∧iy (Value.slice a len cap)=true:=by simpa[Value.cells,aF] using h
 exact h2.1
set_option maxRecDepth 100000 in
theorem walk(W:World)(Tl:Array Value)(Tm:Option Addr)(LC LD:Nat){l0:List AV}{l1:List AV}(e0:aF (Env.all W) false l0 (Value.agg Tl:Value).cells.toList)(e1:aF (Env.all W) false l1 (Value.slice Tm LC LD:Value).cells.toList){n0:Nat}(s0:Shape Try.prog n0 25 l0){n1:Nat}(s1:Shape Try.prog n1 26 l1):Calls Try.prog 4 #[.agg Tl,.slice Tm LC LD] W fun e w'=>e=.returned (.bool true)∧Below W.heap.size W w':=by
 obtain⟨x0,w0,r0⟩:=WU (fc (show Try.prog.underlying 25=Try.prog.underlying 24 by kernel_rfl) s0)
 obtain⟨x1,w1,b1,rh,r1⟩:=WV s1
 have hs:p7 C T 4 ⟨[25,26],[4],fun x=>Go.aa.ej x.1 x.2⟩:=N7 s57 rfl
 refine LB Cok hs rfl (x:=(x0,x1)) (y:=true) (y7 x0 x1 (Nat.le_trans w0.2.1.1 (by decide))) ?_ («as»:=[.agg l0,b1]) ⟨r0,r1,trivial⟩ (show mE (Env.all W) from fun b c h=>by cases h) (vs:=[.agg Tl,.slice Tm LC LD]) ?_
 ·intro l hl
  match l,hl with
  |[a],hl=>have:a=.lit (.bool true):=hl.1; rw[this]
  |[],hl=>exact False.elim hl
  |_::_::_,hl=>exact False.elim hl.2
 ·simp only[an]
  exact⟨N8 e0,Ip e1 rh,trivial⟩
set_option maxRecDepth 100000 in
theorem lifted(os:Os)(started:os.Started)(H:Type)(enc:TypeId×Value→H):
  ReturnsInHanded {} Try.checked os 4 .any (Rows.maxminExactlySpec.pre6 enc Try.prog Try.f4 Rows.maxminExactlyRow.domain false) (Rows.maxminExactlySpec.post enc Try.prog Try.f4 false true false false):=by
 refine returnsInHanded_of_change_sized (C:=Try.checked) own started (by kernel_rfl) Try.func4
  (ChangeSpec.witness6 (enc:=enc) (C:=Try.checked) false ⟨#[],#[.agg #[.slice none 0 0,.slice none 0 0,.slice none 0 0],.slice none 0 0],[]⟩ 8 (by kernel_rfl) (by kernel_rfl) (by kernel_rfl) (by kernel_rfl)) ?_
 intro W base args ds gs before O9 hW Jd WW _
 have QN:∀ (j:Nat) t v,Try.f4.params[j]?=some t→args[j]?=some v→Value.okWide Try.prog W .any base t v:=O9
 have hW':=hW
 obtain⟨p,q,YM,hV,rfl,MH,zX⟩:=hW
 have hA:DataW.TrodAll enc Try.prog W 0 (fun _=>true) true Try.f4.params.toList args.toList ds p:=YM
 rw[Try.params4]at hA QN
 obtain⟨v0,vs0,d0,ds0,p0,q0,jd,rfl,rfl,h0,r0⟩:=trodAll_cons hA
 obtain⟨v1,vs1,d1,ds1,p1,q1,rfl,rfl,rfl,h1,r1⟩:=trodAll_cons r0
 obtain⟨rfl,rfl,rfl⟩:=trodAll_nil r1
 obtain rfl:args=#[v0,v1]:=by cases args; simp_all
 obtain⟨rfl,rfl⟩:=trodVars_none hV
 obtain⟨Tl,rfl⟩:=okWide_struct Try.underlying25 (QN 0 25 v0 rfl rfl)
 obtain⟨Tm,LC,LD,rfl⟩:=Go.WideShapes.okWide_slice Try.underlying26 (QN 1 26 v1 rfl rfl)
 have k0:=h0
 have lt0:∀ x∈p0,x.block<W.heap.size:=by obtain⟨m,hm⟩:=k0; exact DataW.trod_lt m _ _ _ hm
 have k1:=h1
 have lt1:∀ x∈p1,x.block<W.heap.size:=by obtain⟨m,hm⟩:=k1; exact DataW.trod_lt m _ _ _ hm
 obtain⟨f0,hf0⟩:=h0
 obtain⟨l0,e0,s0⟩:=F2 f0 10 25 _ _ (by kernel_rfl) hf0
 obtain⟨f1,qU⟩:=h1
 obtain⟨l1,e1,s1⟩:=F2 f1 10 26 _ _ (by kernel_rfl) qU
 clear YM O9 WW
 refine(walk W Tl Tm LC LD e0 e1 s0 s1 ).mono fun e W' ⟨he,WX⟩=>?_
 subst he
 exact⟨_,rfl,_,_,_,[],_,[],hW',trodAll_mk1 (shut_bool Try.underlying4 _),(trodAll_cons_mk (Below.trod laidOut (by kernel_rfl) (of_decide_eq_true (by kernel_rfl)) k0 WX lt0) (trodAll_cons_mk (Below.trod laidOut (by kernel_rfl) (of_decide_eq_true (by kernel_rfl)) k1 WX lt1) trodAll_mk0)),rfl,WX.frame _,fun h=>by cases h⟩
theorem gR:Rows.maxminExactlyRow.holds Try.pinned (OpenSpec.ofChange Rows.maxminExactlySpec):=
 OpenClaim.holds_of_wide 4 Try.f4 rfl rfl rfl rfl rfl rfl rfl ⟨rfl,rfl,rfl,rfl,rfl⟩ rfl rfl rfl rfl rfl (by kernel_rfl) Try.func4 (by kernel_rfl)
  (of_decide_eq_true (by kernel_rfl)) (by unfold Func.isWrapper; first|(rw[if_pos (by decide +kernel)]; kernel_rfl)|(rw[if_neg (by decide +kernel)]; exact⟨rfl,rfl⟩))
  (fun os started H enc _=>lifted os started H enc)
theorem proved:Rows.MaxminExactlySaid:=gR
end Go.Proofs.Ytedjbjphpnkpoaa.rF
namespace Go.Proofs.Ytedjbjphpnkpoaa
theorem maxminExactly_holds:Rows.MaxminExactlySaid:=rF.proved
end Go.Proofs.Ytedjbjphpnkpoaa
end
