/- The law MaxminNoMore returns true for every input, and each argument reads as it read before; no conditions. This file: the row, last of the parts. -/
import Derived.IntWalk
import Derived.KernelRfl
import Derived.Test.YtedjbjphpnkpoaaRows
import Derived.WalkKit
import Derived.ProofKit
import Derived.OpenShut
import Derived.ShutString
import Derived.ChangeOld
import Derived.Below
import Derived.SizedLaws
import Derived.Test.YtedjbjphpnkpoaaX9
set_option linter.unusedVariables false
set_option linter.unusedSimpArgs false
section
/- Max-min fair rates, without a program: what makes rates fair, and that there is one choice of them. -/
namespace Go.Mm
def sm(p:Nat→Bool)(x:Nat→Rat):Nat→Rat
 |0=>0
 |n+1=>sm p x n+bif p n then x n else 0
structure yU where
 F:Nat
 L:Nat
 on:Nat→Nat→Bool
 c:Nat→Rat
 has:Nat→Bool
 k:Nat→Rat
structure PR(N:yU)(x:Nat→Rat):Prop where
 nn:∀ i,i<N.F→0≤x i
 lu:∀ i,i<N.F→N.has i=true→x i≤N.k i
 cap:∀ l,l<N.L→sm (N.on l) x N.F≤N.c l
def VB(N:yU)(x:Nat→Rat)(i:Nat):Prop:=
 (N.has i=true∧x i=N.k i)∨∃ l,l<N.L∧N.on l i=true∧sm (N.on l) x N.F=N.c l∧∀ j,j<N.F→N.on l j=true→x j≤x i
structure Fair(N:yU)(x:Nat→Rat):Prop where
 PS:PR N x
 Kh:∀ i,i<N.F→VB N x i
theorem OI{p:Nat→Bool}{x y:Nat→Rat}:∀ {n:Nat},(∀ j,j<n→p j=true→x j≤y j)→sm p x n≤sm p y n
 |0,_=>Rat.le_refl
 |n+1,h=>by
  have h1:=OI (n:=n) fun j hj=>h j (by omega)
  have h2:=h n (by omega)
  simp only[sm]
  cases hp:p n with
  |false=>simp only[cond_false]; grind
  |true=>simp only[cond_true]; have:=h2 hp; grind
theorem OJ{p:Nat→Bool}{x y:Nat→Rat}:∀ {n i:Nat},i<n→p i=true→x i<y i→(∀ j,j<n→p j=true→x j≤y j)→sm p x n<sm p y n
 |0,i,h,_,_,_=>by omega
 |n+1,i,hi,hp,hx,h=>by
  simp only[sm]
  by_cases e:i=n
  ·subst e
   have h1:=OI (n:=i) fun j hj=>h j (by omega)
   rw[hp]; simp only[cond_true]; grind
  ·have h1:=OJ (n:=n) (i:=i) (by omega) hp hx fun j hj=>h j (by omega)
   have h2:=h n (by omega)
   cases hp:p n with
   |false=>simp only[cond_false]; grind
   |true=>simp only[cond_true]; have:=h2 hp; grind
theorem nB{p q:Nat→Bool}{x y:Nat→Rat}:∀ {n:Nat},(∀ j,j<n→p j=q j)→(∀ j,j<n→p j=true→x j=y j)→sm p x n=sm q y n
 |0,_,_=>rfl
 |n+1,h,g=>by
  simp only[sm]
  rw[nB (n:=n) (fun j hj=>h j (by omega)) fun j hj=>g j (by omega),←h n (by omega)]
  cases hp:p n with
  |false=>rfl
  |true=>rw[g n (by omega) hp]
theorem CM{p:Nat→Bool}{x:Nat→Rat}(t:Rat):∀ {n:Nat},sm p (fun i=>t*x i) n=t*sm p x n
 |0=>by simp[sm]
 |n+1=>by
  simp only[sm]
  rw[CM t (n:=n)]
  cases p n<;>simp only[cond_true,cond_false]<;>grind
theorem CN{p q:Nat→Bool}{x:Nat→Rat}:∀ {n:Nat},sm p x n=sm (fun i=>p i&&q i) x n+sm (fun i=>p i&&!q i) x n
 |0=>by simp only[sm]; grind
 |n+1=>by
  simp only[sm]
  rw[CN (q:=q) (n:=n)]
  cases p n<;>cases q n<;>simp only[Bool.and_true,Bool.and_false,Bool.not_true,Bool.not_false,Bool.true_and,Bool.false_and,cond_true,cond_false]<;>grind
theorem Nj{N:yU}{x y:Nat→Rat}(h:Fair N x)(hy:PR N y){i:Nat}(hi:i<N.F)(bQ:x i<y i):∃ j,j<N.F∧x j≤x i∧y j<x j:=by
 rcases h.Kh i hi with ⟨h1,h2⟩|⟨l,hl,o6,PT,Et⟩
 ·have:=hy.lu i hi h1; exfalso; grind
 ·apply Classical.byContradiction
  intro hc
  have bg:∀ j,j<N.F→N.on l j=true→x j≤y j:=fun j hj ho=>by
   apply Classical.byContradiction
   intro hn
   exact hc ⟨j,hj,Et j hj ho,by grind⟩
  have h1:=OJ hi o6 bQ bg
  have h2:=hy.cap l hl
  grind
/-! ### Filling -/
def ct(p:Nat→Bool):Nat→Nat
 |0=>0
 |n+1=>ct p n+bif p n then 1 else 0
theorem nC{p q:Nat→Bool}:∀ {n:Nat},(∀ j,j<n→p j=q j)→ct p n=ct q n
 |0,_=>rfl
 |n+1,h=>by simp only[ct]; rw[nC (n:=n) fun j hj=>h j (by omega),h n (by omega)]
theorem OK{p q:Nat→Bool}:∀ {n:Nat},(∀ j,j<n→p j=true→q j=true)→ct p n≤ct q n
 |0,_=>Nat.le_refl _
 |n+1,h=>by
  have h1:=OK (n:=n) fun j hj=>h j (by omega)
  have h2:=h n (by omega)
  simp only[ct]
  cases hp:p n with
  |false=>simp only[cond_false]; omega
  |true=>rw[h2 hp]; simp only[cond_true]; omega
theorem rU{p:Nat→Bool}:∀ {n i:Nat},i<n→p i=true→0<ct p n
 |0,i,h,_=>by omega
 |n+1,i,h,hp=>by
  simp only[ct]
  by_cases e:i=n
  ·subst e; rw[hp]; simp only[cond_true]; omega
  ·have:=rU (n:=n) (i:=i) (by omega) hp; omega
theorem Ki{p:Nat→Bool}:∀ {n:Nat},0<ct p n→∃ i,i<n∧p i=true
 |0,h=>by simp[ct]at h
 |n+1,h=>by
  simp only[ct]at h
  cases hp:p n with
  |true=>exact⟨n,by omega,hp⟩
  |false=>
   rw[hp]at h
   obtain⟨i,hi,h1⟩:=Ki (n:=n) (by simpa using h)
   exact⟨i,by omega,h1⟩
theorem tp{p q:Nat→Bool}:∀ {n:Nat},ct p n=ct (fun i=>p i&&q i) n+ct (fun i=>p i&&!q i) n
 |0=>rfl
 |n+1=>by
  simp only[ct]
  rw[tp (q:=q) (n:=n)]
  cases p n<;>cases q n<;>simp only[Bool.and_true,Bool.and_false,Bool.not_true,Bool.not_false,Bool.true_and,Bool.false_and,cond_true,cond_false]<;>omega
theorem pM{p:Nat→Bool}:∀ {n:Nat},ct p n≤n
 |0=>Nat.le_refl _
 |n+1=>by
  have:=pM (p:=p) (n:=n)
  simp only[ct]
  cases p n<;>simp only[cond_true,cond_false]<;>omega
theorem xI{p:Nat→Bool}{v:Rat}:∀ {n:Nat},sm p (fun _=>v) n=v*(ct p n:Nat)
 |0=>by simp[sm,ct]
 |n+1=>by
  simp only[sm,ct]
  rw[xI (n:=n)]
  cases p n
  ·simp only[cond_false,Nat.add_zero]; grind
  ·simp only[cond_true]
   rw[Rat.natCast_add]
   grind
end Go.Mm
namespace Go.Mm
def Dv(P:Nat)(q:Rat):Prop:=∃ n:Int,q*(P:Rat)=n
theorem Dv.mul{P m:Nat}{q:Rat}(h:Dv P q):Dv (P*m) q:=by
 obtain⟨n,hn⟩:=h
 refine⟨n*m,?_⟩
 rw[Rat.natCast_mul,Rat.intCast_mul,Rat.intCast_natCast,←hn]
 grind
theorem Dv.int{P:Nat}(n:Int):Dv P n:=⟨n*P,by rw[Rat.intCast_mul,Rat.intCast_natCast]⟩
theorem Dv.zero{P:Nat}:Dv P 0:=⟨0,by simp⟩
theorem Dv.add{P:Nat}{p q:Rat}(h:Dv P p)(h':Dv P q):Dv P (p+q):=by
 obtain⟨n,hn⟩:=h
 obtain⟨m,hm⟩:=h'
 exact⟨n+m,by rw[Rat.intCast_add,←hn,←hm]; grind⟩
theorem Dv.sub{P:Nat}{p q:Rat}(h:Dv P p)(h':Dv P q):Dv P (p-q):=by
 obtain⟨n,hn⟩:=h
 obtain⟨m,hm⟩:=h'
 exact⟨n-m,by rw[Rat.intCast_sub,←hn,←hm]; grind⟩
theorem Dv.sm{P:Nat}{p:Nat→Bool}{x:Nat→Rat}:∀ {n:Nat},(∀ j,j<n→p j=true→Dv P (x j))→Dv P (sm p x n)
 |0,_=>Dv.zero
 |n+1,h=>by
  have h1:=Dv.sm (n:=n) fun j hj=>h j (by omega)
  simp only[Go.Mm.sm]
  cases hp:p n with
  |false=>simp only[cond_false]; exact h1.add .zero
  |true=>exact h1.add (h n (by omega) hp)
theorem Dv.part{P m:Nat}{q r:Rat}(h:Dv P q)(hm:r*(m:Rat)=q):Dv (P*m) r:=by
 obtain⟨n,hn⟩:=h
 refine⟨n,?_⟩
 rw[Rat.natCast_mul,←hn,←hm]
 grind
def mp:Nat→Nat
 |0=>1|1=>1|2=>2|3=>3|4=>4|5=>6|6=>9|7=>12|_=>18
theorem Gy{m u u':Nat}(hm:1≤m)(hu:u≤8)(h:m+u'≤u):m*mp u'≤mp u:=by
 have:∀ u,u≤8→∀ m,m≤8→∀ u',u'≤8→1≤m→m+u'≤u→m*mp u'≤mp u:=by decide
 exact this u hu m (by omega) u' (by omega) hm h
theorem Kj(u:Nat):1≤mp u:=by unfold mp; split<;>omega
structure Inv(N:yU)(fx:Nat→Bool)(x:Nat→Rat)(lo:Rat)(P:Nat):Prop where
 l0:0≤lo
 nn:∀ i,i<N.F→fx i=true→0≤x i∧x i≤lo
 lu:∀ i,i<N.F→fx i=true→N.has i=true→x i≤N.k i
 cap:∀ l,l<N.L→sm (fun i=>N.on l i&&fx i) x N.F≤N.c l
 Yd:∀ l,l<N.L→lo*(ct (fun i=>N.on l i&&!fx i) N.F:Nat)≤N.c l-sm (fun i=>N.on l i&&fx i) x N.F
 wait:∀ i,i<N.F→fx i=false→N.has i=true→lo≤N.k i
 Kh:∀ i,i<N.F→fx i=true→(N.has i=true∧x i=N.k i) ∨
  ∃ l,l<N.L∧N.on l i=true∧sm (fun i=>N.on l i&&fx i) x N.F=N.c l∧ct (fun i=>N.on l i&&!fx i) N.F=0∧∀ j,j<N.F→N.on l j=true→x j≤x i
 P1:1≤P
 Q4:P*mp (ct (fun i=>!fx i) N.F)≤18
 dv:∀ i,i<N.F→fx i=true→Dv P (x i)
structure Ye(N:yU)(fx:Nat→Bool)(x:Nat→Rat)(low:Rat)(nw:Nat→Bool):Prop where
 sub:∀ i,i<N.F→nw i=true→fx i=false
 Sb:∀ l,l<N.L→low*(ct (fun i=>N.on l i&&!fx i) N.F:Nat)≤N.c l-sm (fun i=>N.on l i&&fx i) x N.F
 lu:∀ i,i<N.F→fx i=false→N.has i=true→low≤N.k i
 VC:∀ i,i<N.F→nw i=true→(N.has i=true∧low=N.k i) ∨
  ∃ l,l<N.L∧N.on l i=true∧low*(ct (fun i=>N.on l i&&!fx i) N.F:Nat)=N.c l-sm (fun i=>N.on l i&&fx i) x N.F∧∀ j,j<N.F→N.on l j=true→fx j=false→nw j=true
 some:∃ i,i<N.F∧nw i=true
theorem Fe{N:yU}(hF:N.F≤8)(hc:∀ l,l<N.L→0≤N.c l)(hk:∀ i,i<N.F→N.has i=true→0≤N.k i)(x:Nat→Rat):Inv N (fun _=>false) x 0 1 where
 l0:=Rat.le_refl
 nn:=by simp
 lu:=by simp
 cap l hl:=by
  rw[nB (q:=fun _=>false) (y:=x) (by simp) (by simp)]
  have h0:∀ n,sm (fun _=>false) x n=0:=by
   intro n; induction n with
   |zero=>rfl
   |succ n ih=>simp only[sm,ih,cond_false]; grind
  rw[h0]; exact hc l hl
 Yd l hl:=by
  have h0:∀ n,sm (fun i=>N.on l i&&false) x n=0:=by
   intro n; induction n with
   |zero=>rfl
   |succ n ih=>simp only[sm,ih,Bool.and_false,cond_false]; grind
  rw[h0]
  have:=hc l hl
  grind
 wait i hi _ hh:=hk i hi hh
 Kh:=by simp
 P1:=Nat.le_refl _
 Q4:=by
  have:=pM (p:=fun _=>!false) (n:=N.F)
  have h8:∀ u,u≤8→1*mp u≤18:=by decide
  exact h8 _ (by omega)
 dv:=by simp
theorem HK{N:yU}(hF:N.F≤8)(VD:∀ l,l<N.L→Dv 1 (N.c l))(G9:∀ i,i<N.F→Dv 1 (N.k i)){fx:Nat→Bool}{x:Nat→Rat}{lo:Rat}{P:Nat}(h:Inv N fx x lo P){low:Rat}{nw:Nat→Bool}(g:Ye N fx x low nw):
  ∃ P',Inv N (fun i=>fx i||nw i) (fun i=>if nw i=true then low else x i) low P':=by
 have hS:∀ l,sm (fun i=>N.on l i&&(fx i||nw i)) (fun i=>if nw i=true then low else x i) N.F=sm (fun i=>N.on l i&&fx i) x N.F+low*(ct (fun i=>N.on l i&&nw i) N.F:Nat):=by
  intro l
  rw[CN (q:=nw)]
  rw[nB (p:=fun i=>(N.on l i&&(fx i||nw i))&&nw i) (q:=fun i=>N.on l i&&nw i) (y:=fun _=>low) (fun j hj=>by cases N.on l j<;>cases fx j<;>cases nw j<;>rfl) (fun j hj hp=>by
   have:nw j=true:=by simp only[Bool.and_eq_true]at hp; exact hp.2
   simp[this]),xI]
  rw[nB (p:=fun i=>(N.on l i&&(fx i||nw i))&&!nw i) (q:=fun i=>N.on l i&&fx i) (y:=x) (fun j hj=>by
   have:=g.sub j hj
   cases h1:N.on l j<;>cases h2:fx j<;>cases h3:nw j<;>simp_all) (fun j hj hp=>by
   have:nw j=false:=by simp only[Bool.and_eq_true,Bool.not_eq_true']at hp; exact hp.2
   simp[this])]
  grind
 have hM:∀ l,ct (fun i=>N.on l i&&!fx i) N.F=ct (fun i=>N.on l i&&nw i) N.F+ct (fun i=>N.on l i&&!(fx i||nw i)) N.F:=by
  intro l
  rw[tp (q:=nw)]
  congr 1
  ·exact nC fun j hj=>by
    have:=g.sub j hj
    cases h1:N.on l j<;>cases h2:fx j<;>cases h3:nw j<;>simp_all
  ·exact nC fun j hj=>by cases N.on l j<;>cases fx j<;>cases nw j<;>rfl
 have hU:ct (fun i=>!fx i) N.F=ct nw N.F+ct (fun i=>!(fx i||nw i)) N.F:=by
  rw[tp (q:=nw)]
  congr 1
  ·exact nC fun j hj=>by
    have:=g.sub j hj
    cases h2:fx j<;>cases h3:nw j<;>simp_all
  ·exact nC fun j hj=>by cases fx j<;>cases nw j<;>rfl
 have VE:∀ l,((ct (fun i=>N.on l i&&!fx i) N.F:Nat):Rat)=(ct (fun i=>N.on l i&&nw i) N.F:Nat)+(ct (fun i=>N.on l i&&!(fx i||nw i)) N.F:Nat):=fun l=>by rw[hM l,Rat.natCast_add]
 have VF:lo≤low:=by
  obtain⟨i,hi,hn⟩:=g.some
  rcases g.VC i hi hn with ⟨h1,h2⟩|⟨l,hl,o6,he,_⟩
  ·rw[h2]; exact h.wait i hi (g.sub i hi hn) h1
  ·have h1:=h.Yd l hl
   have hp:0<ct (fun i=>N.on l i&&!fx i) N.F:=rU hi (by simp[o6,g.sub i hi hn])
   have ZU:(0:Rat)<(ct (fun i=>N.on l i&&!fx i) N.F:Nat):=by exact_mod_cast hp
   rw[←he]at h1
   exact Rat.le_of_mul_le_mul_right h1 ZU
 have wA:0≤low:=Rat.le_trans h.l0 VF
 have Yf:∀ j,j<N.F→fx j=true→(if nw j=true then low else x j)=x j:=fun j hj hf=>by
  have:nw j=false:=by cases hn:nw j with|false=>rfl|true=>rw[g.sub j hj hn]at hf; cases hf
  simp[this]
 have hP:∃ P',1≤P'∧P'*mp (ct (fun i=>!(fx i||nw i)) N.F)≤18∧Dv P' low∧∃ m,P'=P*m:=by
  obtain⟨i,hi,hn⟩:=g.some
  have Yg:ct (fun i=>!fx i) N.F≤8:=by have:=pM (p:=fun i=>!fx i) (n:=N.F); omega
  have Vn:=rU hi hn
  have h18:=h.Q4
  rcases g.VC i hi hn with ⟨h1,h2⟩|⟨l,hl,o6,he,bg⟩
  ·refine⟨P,h.P1,?_,?_,1,by simp⟩
   ·have:=Gy (m:=ct nw N.F) (u:=ct (fun i=>!fx i) N.F) (u':=ct (fun i=>!(fx i||nw i)) N.F) Vn Yg (by omega)
    have h3:mp (ct (fun i=>!(fx i||nw i)) N.F)≤mp (ct (fun i=>!fx i) N.F):=Nat.le_trans (Nat.le_mul_of_pos_left _ Vn) this
    exact Nat.le_trans (Nat.mul_le_mul_left _ h3) h18
   ·rw[h2]
    have:=(G9 i hi).mul (m:=P)
    rwa [Nat.one_mul]at this
  ·have Sc:0<ct (fun i=>N.on l i&&!fx i) N.F:=rU hi (by simp[o6,g.sub i hi hn])
   refine⟨P*ct (fun i=>N.on l i&&!fx i) N.F,Nat.mul_pos h.P1 Sc,?_,?_,_,rfl⟩
   ·have hle:ct (fun i=>N.on l i&&!fx i) N.F≤ct nw N.F:=OK fun j hj hp=>by
     simp only[Bool.and_eq_true,Bool.not_eq_true']at hp
     exact bg j hj hp.1 hp.2
    have:=Gy (m:=ct (fun i=>N.on l i&&!fx i) N.F) (u:=ct (fun i=>!fx i) N.F) (u':=ct (fun i=>!(fx i||nw i)) N.F) Sc Yg (by omega)
    rw[Nat.mul_assoc]
    exact Nat.le_trans (Nat.mul_le_mul_left _ this) h18
   ·refine Dv.part ?_ he
    have hc:=(VD l hl).mul (m:=P)
    rw[Nat.one_mul]at hc
    exact hc.sub (Dv.sm fun j hj hp=>h.dv j hj (by simp only[Bool.and_eq_true]at hp; exact hp.2))
 obtain⟨P',PU,VG,ZV,m,rfl⟩:=hP
 refine⟨_,wA,?_,?_,?_,?_,?_,?_,PU,VG,?_⟩
 ·intro i hi hf
  by_cases hn:nw i=true
  ·simp only[hn,if_true]; exact⟨wA,Rat.le_refl⟩
  ·simp only[hn,if_false,Bool.or_false,Bool.false_eq_true]at hf ⊢
   have:=h.nn i hi hf
   exact⟨this.1,Rat.le_trans this.2 VF⟩
 ·intro i hi hf hh
  by_cases hn:nw i=true
  ·simp only[hn,if_true]; exact g.lu i hi (g.sub i hi hn) hh
  ·simp only[hn,if_false,Bool.or_false,Bool.false_eq_true]at hf ⊢
   exact h.lu i hi hf hh
 ·intro l hl
  rw[hS l]
  have h1:=g.Sb l hl
  rw[VE l]at h1
  have h2:(0:Rat)≤low*(ct (fun i=>N.on l i&&!(fx i||nw i)) N.F:Nat):=Rat.mul_nonneg wA (by exact_mod_cast Nat.zero_le _)
  grind
 ·intro l hl
  rw[hS l]
  have h1:=g.Sb l hl
  rw[VE l]at h1
  grind
 ·intro i hi hf hh
  simp only[Bool.or_eq_false_iff]at hf
  exact g.lu i hi hf.1 hh
 ·intro i hi hf
  by_cases hn:nw i=true
  ·simp only[hn,if_true]
   rcases g.VC i hi hn with h1|⟨l,hl,o6,he,bg⟩
   ·exact .inl h1
   ·have hz:ct (fun i=>N.on l i&&!(fx i||nw i)) N.F=0:=by
     apply Nat.eq_zero_of_not_pos
     intro hp
     obtain⟨j,hj,Sd⟩:=Ki hp
     simp only[Bool.and_eq_true,Bool.not_eq_true',Bool.or_eq_false_iff]at Sd
     rw[bg j hj Sd.1 Sd.2.1]at Sd
     exact absurd Sd.2.2 (by decide)
    refine .inr ⟨l,hl,o6,?_,hz,fun j hj OL=>?_⟩
    ·rw[hS l]
     rw[VE l,hz]at he
     grind
    ·by_cases VH:nw j=true
     ·simp only[VH,if_true]; exact Rat.le_refl
     ·simp only[VH,if_false,Bool.false_eq_true]
      have:fx j=true:=by
       cases iC:fx j with
       |true=>rfl
       |false=>exact absurd (bg j hj OL iC) VH
      exact Rat.le_trans (h.nn j hj this).2 VF
  ·have iC:fx i=true:=by simpa[hn] using hf
   rw[Yf i hi iC]
   rcases h.Kh i hi iC with h1|⟨l,hl,o6,he,hz,Et⟩
   ·exact .inl h1
   ·have Se:∀ j,j<N.F→N.on l j=true→fx j=true:=fun j hj OL=>by
     cases Mk:fx j with
     |true=>rfl
     |false=>
      have:=rU (p:=fun i=>N.on l i&&!fx i) hj (by simp[OL,Mk])
      omega
    have Nk:=hM l
    rw[hz]at Nk
    have PV:ct (fun i=>N.on l i&&nw i) N.F=0:=by omega
    refine .inr ⟨l,hl,o6,?_,by omega,fun j hj OL=>?_⟩
    ·rw[hS l,PV,he]; grind
    ·rw[Yf j hj (Se j hj OL)]
     exact Et j hj OL
 ·intro i hi hf
  by_cases hn:nw i=true
  ·simp only[hn,if_true]; exact ZV
  ·simp only[hn,if_false,Bool.or_false,Bool.false_eq_true]at hf ⊢
   exact(h.dv i hi hf).mul
theorem Kk{N:yU}{fx:Nat→Bool}{x:Nat→Rat}{lo:Rat}{P:Nat}(h:Inv N fx x lo P)(bg:∀ i,i<N.F→fx i=true):Fair N x∧∀ i,i<N.F→Dv P (x i)∧P≤18:=by
 have hS:∀ l,sm (fun i=>N.on l i&&fx i) x N.F=sm (N.on l) x N.F:=fun l=>nB (fun j hj=>by rw[bg j hj,Bool.and_true]) fun _ _ _=>rfl
 refine⟨⟨⟨fun i hi=>(h.nn i hi (bg i hi)).1,fun i hi hh=>h.lu i hi (bg i hi) hh,fun l hl=>by rw[←hS l]; exact h.cap l hl⟩,fun i hi=>?_⟩,fun i hi=>⟨h.dv i hi (bg i hi),?_⟩⟩
 ·rcases h.Kh i hi (bg i hi) with h1|⟨l,hl,o6,he,_,Et⟩
  ·exact .inl h1
  ·exact .inr ⟨l,hl,o6,by rw[←hS l]; exact he,Et⟩
 ·have:=h.Q4
  exact Nat.le_trans (Nat.le_mul_of_pos_right _ (Kj _)) this
end Go.Mm
end
section
/- Plain facts of this seat: ratios. -/
set_option maxRecDepth 100000
namespace Go.Proofs.Ytedjbjphpnkpoaa
open Go.PI Go.Pl Go.Mm
variable {α β:Type}
theorem bT{c:Bool}{x y r:Option α}(hc:c=true)(hx:x=r):(bif c then x else y)=r:=by subst hc; exact hx
theorem bF{c:Bool}{x y r:Option α}(hc:c=false)(hy:y=r):(bif c then x else y)=r:=by subst hc; exact hy
theorem bB{e:Option β}{v:β}{k:β→Option α}{r:Option α}(he:e=some v)(hk:k v=r):e.bind k=r:=by subst he; exact hk
theorem Gz{a b:Bool}:(bif a then some b else some false)=some (a&&b):=by cases a<;>rfl
theorem cP{n:Int}(h1 : -9223372036854775808≤n)(h2:n≤9223372036854775807):IntKind.i64.wrap n=n:=IntWalk.i64_in _ (by omega)
theorem cZ{i n:Nat}(h:i<n):decide ((i:Int)<(n:Int))=true:=decide_eq_true (by omega)
theorem dJ(n:Nat):decide ((n:Int)<(n:Int))=false:=decide_eq_false (by omega)
theorem aP(i:Nat):decide (0≤(i:Int))=true:=decide_eq_true (by omega)
/-! ### The greatest common divisor -/
theorem GA:∀ (k a b n:Nat),b<2^k→2*k+1≤n→aa.Ff n (a:Int) (b:Int)=some ((Nat.gcd a b:Nat):Int)
 |0,a,b,n,hb,hn=>by
  obtain rfl:b=0:=by simpa using hb
  obtain⟨m,rfl⟩:∃ m,n=m+1:=⟨n-1,by omega⟩
  exact bT rfl (by rw[Nat.gcd_zero_right])
 |k+1,a,b,n,hb,hn=>by
  obtain⟨m,rfl⟩:∃ m,n=m+1:=⟨n-1,by omega⟩
  by_cases h0:b=0
  ·subst h0
   exact bT rfl (by rw[Nat.gcd_zero_right])
  have hr:((a:Int).tmod (b:Int))=((a%b:Nat):Int):=by rw[Int.tmod_eq_emod_of_nonneg (by omega)]; simp
  have VI:((b:Int)==0)=false:=by simp; omega
  have g1:Nat.gcd a b=Nat.gcd b (a%b):=by rw[Nat.gcd_comm a b,Nat.gcd_rec b a,Nat.gcd_comm]
  refine bF VI (bF (decide_eq_false (by omega)) ?_)
  rw[hr]
  have bQ:=Nat.mod_lt a (Nat.pos_of_ne_zero h0)
  obtain⟨m',rfl⟩:∃ m',m=m'+1:=⟨m-1,by omega⟩
  refine bB (v:=((Nat.gcd b (a%b):Nat):Int)) ?_ (by rw[g1])
  by_cases h1:a%b=0
  ·rw[h1]
   exact bT rfl (by rw[Nat.gcd_zero_right])
  ·have EX:((b:Int).tmod ((a%b:Nat):Int))=((b%(a%b):Nat):Int):=by rw[Int.tmod_eq_emod_of_nonneg (by omega)]; simp
   refine bF (by simp; omega) (bF (decide_eq_false (by omega)) ?_)
   rw[EX]
   have xD:=Nat.mod_lt b (Nat.pos_of_ne_zero h1)
   have hd:=Nat.div_add_mod b (a%b)
   have hq:1≤b/(a%b):=Nat.div_pos (Nat.le_of_lt bQ) (Nat.pos_of_ne_zero h1)
   have dX:a%b≤(a%b)*(b/(a%b)):=Nat.le_mul_of_pos_right _ hq
   have hs:b%(a%b)<2^k:=by rw[Nat.pow_succ]at hb; omega
   refine bB (GA k (a%b) (b%(a%b)) m' hs (by omega)) ?_
   have g2:Nat.gcd b (a%b)=Nat.gcd (a%b) (b%(a%b)):=by rw[Nat.gcd_comm b,Nat.gcd_rec (a%b) b,Nat.gcd_comm]
   rw[←g2]
theorem Nl(a b:Nat)(hb:b<2^63):aa.jU (a:Int) (b:Int)=some ((Nat.gcd a b:Nat):Int):=GA 63 a b 200 hb (by omega)
/-! ### Ratios -/
def iR(q:Rat):aj:=⟨q.num,q.den⟩
def fS(q:Rat):Prop := -1000000000≤q.num∧q.num≤1000000000∧q.den≤1000000000
instance (q:Rat):Decidable (fS q):=inferInstanceAs (Decidable (_∧_∧_))
theorem abs_eq{n:Int}(h1 : -9223372036854775807≤n)(h2:n≤9223372036854775807):(if n<IntKind.i64.wrap (0-n) then IntKind.i64.wrap (0-n) else n)=(n.natAbs:Int):=by
 rw[cP (by omega) (by omega)]
 split<;>omega
theorem Kl{n:Int}{d:Nat}(h1 : -9223372036854775807≤n)(h2:n≤9223372036854775807)(h3:1≤d)(h4:d≤9223372036854775807):aa.cT ⟨n,d⟩=some (iR (mkRat n d)):=by
 unfold aa.cT
 rw[abs_eq h1 h2,abs_eq (n:=(d:Int)) (by omega) (by omega)]
 have hg:=Nl n.natAbs d (by omega)
 have dT:0<Nat.gcd n.natAbs d:=Nat.gcd_pos_of_pos_right _ (by omega)
 have Q5:((Nat.gcd n.natAbs d:Nat):Int)∣n:=Int.ofNat_dvd_left.2 (Nat.gcd_dvd_left _ _)
 have Yb:(Nat.gcd n.natAbs d)∣d:=Nat.gcd_dvd_right _ _
 rw[show ((d:Int).natAbs:Int)=(d:Int) by omega]
 refine bB hg (bF (decide_eq_false (by show ¬(d:Int)<0; omega)) (bF (decide_eq_false (by omega)) (bF (decide_eq_false (by omega)) ?_)))
 have e1:(mkRat n d).num=n/((Nat.gcd n.natAbs d:Nat):Int):=by rw[Rat.num_mkRat,if_neg (by omega),Nat.gcd_comm]
 have e2:(mkRat n d).den=d/Nat.gcd n.natAbs d:=by rw[Rat.den_mkRat,if_neg (by omega),Nat.gcd_comm]
 have b1:n.tdiv ((Nat.gcd n.natAbs d:Nat):Int)=n/((Nat.gcd n.natAbs d:Nat):Int):=Int.tdiv_eq_ediv_of_dvd Q5
 have b2:(d:Int).tdiv ((Nat.gcd n.natAbs d:Nat):Int)=((d/Nat.gcd n.natAbs d:Nat):Int):=by
  rw[Int.tdiv_eq_ediv_of_nonneg (by omega)]; simp
 have c1:(n/((Nat.gcd n.natAbs d:Nat):Int)).natAbs≤n.natAbs:=by
  generalize Nat.gcd n.natAbs d=g at Q5 dT
  obtain⟨k,rfl⟩:=Q5
  rw[Int.mul_ediv_cancel_left _ (by omega),Int.natAbs_mul,Int.natAbs_natCast]
  exact Nat.le_mul_of_pos_left _ dT
 have c2:d/Nat.gcd n.natAbs d≤d:=Nat.div_le_self _ _
 show some (aj.mk (IntKind.i64.wrap (n.tdiv _)) (IntKind.i64.wrap ((d:Int).tdiv _)))=_
 rw[b1,b2,cP (by omega) (by omega),cP (by omega) (by omega)]
 simp only[iR,e1,e2]
theorem Nm(q:Rat)(h1 : -9223372036854775807≤q.num)(h2:q.num≤9223372036854775807):aa.bM (iR q)=some (decide (fS q)):=by
 unfold aa.bM
 show (bif decide ((if q.num<IntKind.i64.wrap (0-q.num) then IntKind.i64.wrap (0-q.num) else q.num)≤(1000000000:Int)) then bif decide (1≤(q.den:Int)) then some (decide ((q.den:Int)≤1000000000)) else some false else some false)=_
 rw[abs_eq h1 h2]
 have hd:=q.den_pos
 by_cases ha:((q.num.natAbs:Nat):Int)≤1000000000
 ·refine bT (decide_eq_true ha) (bT (decide_eq_true (by omega)) ?_)
  congr 1
  rw[decide_eq_decide]
  unfold fS
  omega
 ·refine bF (decide_eq_false ha) ?_
  rw[decide_eq_false]
  unfold fS
  omega
theorem Km{n:Int}{d:Nat}(h:1≤d):(mkRat n d).num.natAbs≤n.natAbs:=by
 rw[Rat.num_mkRat,if_neg (by omega)]
 have hg:0<Nat.gcd d n.natAbs:=Nat.gcd_pos_of_pos_left _ (by omega)
 have Q5:((Nat.gcd d n.natAbs:Nat):Int)∣n:=Int.ofNat_dvd_left.2 (Nat.gcd_dvd_right _ _)
 generalize Nat.gcd d n.natAbs=g at Q5 hg
 obtain⟨k,rfl⟩:=Q5
 rw[Int.mul_ediv_cancel_left _ (by omega),Int.natAbs_mul,Int.natAbs_natCast]
 exact Nat.le_mul_of_pos_left _ hg
theorem Kn{n:Int}{d:Nat}(h1 : -9223372036854775807≤n)(h2:n≤9223372036854775807)(h3:1≤d)(h4:d≤9223372036854775807):
  aa.bp ⟨n,d⟩=some (if fS (mkRat n d) then (iR (mkRat n d),0) else (⟨0,0⟩,3)):=by
 unfold aa.bp
 have:=Km (n:=n) h3
 refine bB (Kl h1 h2 h3 h4) (bB (Nm _ (by omega) (by omega)) ?_)
 by_cases hf:fS (mkRat n d)
 ·rw[if_pos hf,decide_eq_true hf]; rfl
 ·rw[if_neg hf,decide_eq_false hf]; rfl
instance:DecidableEq aj:=fun a b=>by
 cases a; cases b
 simp only[aj.mk.injEq]
 exact inferInstance
def vR(a:aj):Bool:=decide (-1000000000≤a.du∧a.du≤1000000000∧1≤a.Den∧a.Den≤1000000000∧iR (mkRat a.du a.Den.toNat)=a)
theorem uC(q:Rat):vR (iR q)=decide (fS q):=by
 unfold vR
 rw[decide_eq_decide]
 have hd:=q.den_pos
 have e:iR (mkRat (iR q).du (iR q).Den.toNat)=iR q:=by
  show iR (mkRat q.num ((q.den:Int)).toNat)=_
  rw[Int.toNat_natCast,Rat.mkRat_self]
 show (-1000000000≤q.num∧q.num≤1000000000∧1≤(q.den:Int)∧(q.den:Int)≤1000000000∧_)↔_
 unfold fS
 simp only[e,and_true]
 omega
theorem nD(a:aj):aa.cM a=some (vR a):=by
 unfold aa.cM
 by_cases h1 : -1000000000≤a.du
 ·refine bT (decide_eq_true h1) ?_
  by_cases h2:a.du≤1000000000∧1≤a.Den∧a.Den≤1000000000
  ·have hf:aa.bM a=some true:=by
    unfold aa.bM
    rw[abs_eq (by omega) (by omega)]
    exact bT (decide_eq_true (by omega)) (bT (decide_eq_true h2.2.1) (by rw[decide_eq_true h2.2.2]))
   have he:a=⟨a.du,(a.Den.toNat:Nat)⟩:=by
    cases a; simp only[aj.mk.injEq,true_and]; simp only at h2; omega
   refine bB hf (bT rfl ?_)
   have hr:=Kl (n:=a.du) (d:=a.Den.toNat) (by omega) (by omega) (by omega) (by omega)
   rw[←he]at hr
   refine bB hr ?_
   congr 1
   unfold vR
   rw[Bool.eq_iff_iff]
   simp only[Bool.and_eq_true,beq_iff_eq,decide_eq_true_eq]
   constructor
   ·rintro⟨g1,g2⟩
    refine⟨h1,h2.1,h2.2.1,h2.2.2,?_⟩
    cases a
    simp only[iR,aj.mk.injEq]at g1 g2 ⊢
    exact⟨g1,g2⟩
   ·rintro⟨_,_,_,_,g⟩
    rw[g]; exact⟨rfl,rfl⟩
  ·have hv:vR a=false:=decide_eq_false (by omega)
   rw[hv]
   refine bB (v:=false) ?_ rfl
   unfold aa.bM
   by_cases h3:(if a.du<IntKind.i64.wrap (0-a.du) then IntKind.i64.wrap (0-a.du) else a.du)≤1000000000
   ·refine bT (decide_eq_true h3) ?_
    have h4:a.du≤1000000000:=by split at h3<;>omega
    by_cases h5:1≤a.Den
    ·exact bT (decide_eq_true h5) (by rw[decide_eq_false]; omega)
    ·exact bF (decide_eq_false h5) rfl
   ·exact bF (decide_eq_false h3) rfl
 ·refine bF (decide_eq_false h1) ?_
  rw[show vR a=false from decide_eq_false (by omega)]
/-! ### Operations -/
theorem n7{q:Rat}(h:fS q):(q.den:Int)≤1000000000∧1≤(q.den:Int):=⟨by have:=h.2.2; omega,by have:=q.den_pos; omega⟩
theorem lI{a b:Int}(h1 : -1000000000≤a)(h2:a≤1000000000)(h3:0≤b)(h4:b≤1000000000): -1000000000000000000≤a*b∧a*b≤1000000000000000000:=by
 have e1:a*b≤1000000000*b:=Int.mul_le_mul_of_nonneg_right h2 h3
 have e2 : -1000000000*b≤a*b:=Int.mul_le_mul_of_nonneg_right h1 h3
 omega
theorem sub_eq{p q:Rat}(hp:fS p)(hq:fS q):aa.nE (iR p) (iR q)=some (if fS (p-q) then (iR (p-q),0) else (⟨0,0⟩,3)):=by
 unfold aa.nE
 have dp:=n7 hp
 have dq:=n7 hq
 have m1:=lI hp.1 hp.2.1 (b:=(q.den:Int)) (by omega) (by omega)
 have m2:=lI hq.1 hq.2.1 (b:=(p.den:Int)) (by omega) (by omega)
 have m3:=lI (a:=(p.den:Int)) (b:=(q.den:Int)) (by omega) (by omega) (by omega) (by omega)
 have m4:1≤p.den*q.den:=Nat.mul_pos p.den_pos q.den_pos
 have e3:(p.den:Int)*(q.den:Int)=((p.den*q.den:Nat):Int):=by simp
 have dN:((((p.den*q.den:Nat):Int))==0)=false:=by rw[beq_eq_false_iff_ne]; omega
 refine bB (nD _) (bF (by rw[uC,decide_eq_true hp]; rfl) (bB (nD _) (bF (by rw[uC,decide_eq_true hq]; rfl) ?_)))
 show (bif IntKind.i64.wrap ((p.den:Int)*(q.den:Int))==0 then _ else (aa.bp (aj.mk (IntKind.i64.wrap (IntKind.i64.wrap (p.num*(q.den:Int))-IntKind.i64.wrap (q.num*(p.den:Int)))) (IntKind.i64.wrap ((p.den:Int)*(q.den:Int))))).bind fun x=>some (x.1,x.2))=_
 rw[cP (n:=p.num*(q.den:Int)) (by omega) (by omega),cP (n:=q.num*(p.den:Int)) (by omega) (by omega),cP (n:=p.num*(q.den:Int)-q.num*(p.den:Int)) (by omega) (by omega),cP (n:=(p.den:Int)*(q.den:Int)) (by omega) (by omega),e3]
 refine bF dN (bB (Kn (by omega) (by omega) m4 (by omega)) ?_)
 rw[Rat.sub_def']
theorem qd(p:Rat){m:Nat}(hm:1≤m):mkRat p.num (p.den*m)=p/(m:Rat):=by
 have h:=Rat.mkRat_self p
 rw[Rat.div_def]
 have hi:((m:Rat))⁻¹=mkRat 1 m:=by
  rw[Rat.mkRat_eq_div,Rat.div_def]; simp
 rw[hi]
 conv=>rhs; rw[←h]
 rw[Rat.mkRat_mul_mkRat]; simp
theorem div_eq{p:Rat}(hp:fS p){m:Nat}(h1:1≤m)(h2:m≤1000):aa.qt (iR p) ⟨m,1⟩=some (if fS (p/(m:Rat)) then (iR (p/(m:Rat)),0) else (⟨0,0⟩,3)):=by
 unfold aa.qt
 have dp:=n7 hp
 have hm:(⟨m,1⟩:aj)=iR ((m:Int):Rat):=rfl
 have fm:fS ((m:Int):Rat):=⟨by show (_:Int)≤(m:Int); omega,by show (m:Int)≤_; omega,by show 1≤1000000000; omega⟩
 have m3:=lI (a:=(p.den:Int)) (b:=(m:Int)) (by omega) (by omega) (by omega) (by omega)
 have m4:1≤p.den*m:=Nat.mul_pos p.den_pos h1
 have e3:(p.den:Int)*(m:Int)=((p.den*m:Nat):Int):=by simp
 have dN:((((p.den*m:Nat):Int))==0)=false:=by rw[beq_eq_false_iff_ne]; omega
 refine bB (nD _) (bF (by rw[uC,decide_eq_true hp]; rfl) (bB (nD _) (bF (by rw[hm,uC,decide_eq_true fm]; rfl) ?_)))
 show (bif IntKind.i64.wrap ((p.den:Int)*(m:Int))==0 then _ else (aa.bp (aj.mk (IntKind.i64.wrap (p.num*1)) (IntKind.i64.wrap ((p.den:Int)*(m:Int))))).bind fun x=>some (x.1,x.2))=_
 have Ul:=hp.1
 have Mg:=hp.2.1
 rw[Int.mul_one,cP (n:=p.num) (by omega) (by omega),cP (n:=(p.den:Int)*(m:Int)) (by omega) (by omega),e3]
 refine bF dN (bB (Kn (by omega) (by omega) m4 (by omega)) ?_)
 rw[qd p h1]
def tq(p q:Rat):Int:=if p<q then -1 else if q<p then 1 else 0
theorem PW{p q:Rat}(hp:fS p)(hq:fS q):aa.qu (iR p) (iR q)=some (tq p q,0):=by
 unfold aa.qu aa.pN aa.qv
 have dp:=n7 hp
 have dq:=n7 hq
 have m1:=lI hp.1 hp.2.1 (b:=(q.den:Int)) (by omega) (by omega)
 have m2:=lI hq.1 hq.2.1 (b:=(p.den:Int)) (by omega) (by omega)
 refine bB (nD _) (bF (by rw[uC,decide_eq_true hp]; rfl) (bB (nD _) (bF (by rw[uC,decide_eq_true hq]; rfl) ?_)))
 have w1:IntKind.i64.wrap ((iR p).du*(iR q).Den)=p.num*(q.den:Int):=cP (n:=p.num*(q.den:Int)) (by omega) (by omega)
 have w2:IntKind.i64.wrap ((iR q).du*(iR p).Den)=q.num*(p.den:Int):=cP (n:=q.num*(p.den:Int)) (by omega) (by omega)
 rw[w1,w2]
 refine bB (v:=tq p q) ?_ rfl
 simp only[beq_self_eq_true,Bool.not_true,Option.bind_some,cond_false]
 unfold tq
 by_cases h1:p<q
 ·rw[if_pos h1]
  exact bT (decide_eq_true ((Rat.lt_iff p q).1 h1)) rfl
 ·rw[if_neg h1]
  refine bF (decide_eq_false fun h=>h1 ((Rat.lt_iff p q).2 h)) ?_
  by_cases h2:q<p
  ·rw[if_pos h2]
   exact bT (decide_eq_true ((Rat.lt_iff q p).1 h2)) rfl
  ·rw[if_neg h2]
   exact bF (decide_eq_false fun h=>h2 ((Rat.lt_iff q p).2 h)) rfl
theorem Nn{p q:Rat}(hp:fS p)(hq:fS q):aa.fT (iR p) (iR q)=some (decide (p<q)):=by
 unfold aa.fT
 refine bB (PW hp hq) ?_
 show some (decide (tq p q<0))=_
 congr 1
 rw[decide_eq_decide]
 unfold tq
 by_cases h1:p<q
 ·simp[h1]
 ·rw[if_neg h1]
  by_cases h2:q<p<;>simp[h1,h2]
end Go.Proofs.Ytedjbjphpnkpoaa
end
section
/- Plain facts of this seat: valid networks. -/
set_option maxRecDepth 100000
namespace Go.Proofs.Ytedjbjphpnkpoaa
open Go.PI Go.Pl Go.Mm
theorem wH{τ ω:Type}{f:τ→Option (τ ⊕ ω)}(st:Nat→τ)(c:Nat→Bool)(n:Nat)(e bad:ω){x0:τ}
  (h:∀ i,i<n→f (st i)=bif c i then some (.inl (st (i+1))) else some (.inr bad)) (he:f (st n)=some (.inr e)) (hx:x0=st 0) :
  aL f x0=some (bif (List.range n).all c then e else bad):=by
 subst hx
 rcases tn st c (fun _=>bad) n e (fun i hi=>by rw[h i hi]; cases c i<;>rfl) he with ⟨h1,h2⟩|⟨h1,i,_,_,h2⟩
 ·rw[h1,h2]; rfl
 ·rw[h1,h2]; rfl
theorem eD{τ ω:Type}{f:τ→Option (τ ⊕ ω)}(st:Nat→τ)(n:Nat)(e:ω){x0:τ}(h:∀ i,i<n→f (st i)=some (.inl (st (i+1))))(he:f (st n)=some (.inr e))(hx:x0=st 0):aL f x0=some e:=by
 subst hx
 have key:∀ m i,m=n-i→i≤n→aL f (st i)=some e:=by
  intro m
  induction m with
  |zero=>intro i hm hi; obtain rfl:i=n:=by omega
         exact out he
  |succ m ih=>intro i hm hi; rw[next (h i (by omega))]; exact ih (i+1) (by omega) (by omega)
 exact key n 0 rfl (Nat.zero_le _)
theorem get_at{γ:Type}{l:List γ}{i:Nat}(h:i<l.length):l[(i:Int).toNat]?=some l[i]:=by simp[h]
theorem dK{i:Nat}(h:i<2^62):IntKind.i64.wrap ((i:Int)+1)=((i+1:Nat):Int):=cP (by omega) (by omega)
theorem PX(n lo hi:Int):aa.nF n lo hi=some (decide (lo≤n)&&decide (n≤hi)):=Gz
def pF(l:List Int)(L:Int)(i:Nat):Bool:=
 match l[i]? with
 |none=>false
 |some x=>(decide (0≤x)&&decide (x≤L-1))&&(if i=0 then true else match l[i-1]? with|none=>false|some y=>decide (y<x))
def CO(l:List Int)(L:Int):Bool:=(List.range l.length).all (pF l L)&&(decide (1≤(l.length:Int))&&decide ((l.length:Int)≤6))
theorem No{l:List Int}{L:Int}(hl:l.length≤2^62)(h0:0≤L)(h1:L≤1000000):aa.jV l L=some (CO l L):=by
 unfold aa.jV
 refine bB (wH (fun i=>(false,(i:Int))) (pF l L) l.length (Sum.inr (false,(l.length:Int))) (Sum.inl false) (fun i hi=>?_) (bF (dJ _) rfl) rfl) ?_
 ·refine bT (cZ hi) (bT (aP i) (bB (get_at hi) (bB (PX _ _ _) ?_)))
  rw[cP (n:=L-1) (by omega) (by omega)]
  unfold pF
  rw[List.getElem?_eq_getElem hi]
  cases hc:(decide (0≤l[i])&&decide (l[i]≤L-1)) with
  |false=>simp only[hc]; rfl
  |true=>
   simp only[hc]
   by_cases e:i=0
   ·subst e
    exact bF rfl (bF rfl (by rw[dK (by omega)]; rfl))
   ·have hw:IntKind.i64.wrap ((i:Int)-1)=((i-1:Nat):Int):=by rw[cP (by omega) (by omega)]; omega
    have D5:i-1<l.length:=by omega
    refine bF rfl (bT (decide_eq_true (by omega)) (bT (by rw[hw]; exact aP _) (bB (v:=l[i-1]) (by rw[hw]; exact get_at D5) ?_)))
    rw[if_neg e,List.getElem?_eq_getElem D5,dK (by omega)]
    by_cases bQ:l[i]≤l[i-1]
    ·rw[decide_eq_true bQ]; simp only[decide_eq_false (by omega:¬l[i-1]<l[i])]; rfl
    ·rw[decide_eq_false bQ]; simp only[decide_eq_true (by omega:l[i-1]<l[i])]; rfl
 ·unfold CO
  cases (List.range l.length).all (pF l L) with
  |false=>rfl
  |true=>exact bB (PX _ _ _) rfl
theorem Ko{l:List Int}{L:Int}(hl:l.length≤2^62):aa.n8 l L=some (CO l L):=by
 unfold aa.n8
 refine bB (wH (fun i=>(false,(i:Int))) (pF l L) l.length (Sum.inr (false,(l.length:Int))) (Sum.inl false) (fun i hi=>?_) (bF (dJ _) rfl) rfl) ?_
 ·refine bT (cZ hi) (bT (aP i) (bB (get_at hi) ?_))
  unfold pF
  rw[List.getElem?_eq_getElem hi]
  by_cases h1:l[i]<0
  ·refine bT (decide_eq_true h1) ?_
   simp only[decide_eq_false (by omega:¬0≤l[i])]; rfl
  refine bF (decide_eq_false h1) (bT (aP i) (bB (get_at hi) ?_))
  simp only[decide_eq_true (by omega:0≤l[i])]
  by_cases h2:L≤l[i]
  ·refine bT (decide_eq_true h2) ?_
   simp only[decide_eq_false (by omega:¬l[i]≤L-1)]; rfl
  refine bF (decide_eq_false h2) ?_
  simp only[decide_eq_true (by omega:l[i]≤L-1)]
  by_cases e:i=0
  ·subst e
   exact bF rfl (by rw[dK (by omega)]; rfl)
  ·have hw:IntKind.i64.wrap ((i:Int)-1)=((i-1:Nat):Int):=by rw[cP (by omega) (by omega)]; omega
   have D5:i-1<l.length:=by omega
   refine bT (decide_eq_true (by omega)) (bT (aP i) (bB (get_at hi) (bT (by rw[hw]; exact aP _) (bB (v:=l[i-1]) (by rw[hw]; exact get_at D5) ?_))))
   rw[if_neg e,List.getElem?_eq_getElem D5,dK (by omega)]
   by_cases bQ:l[i]≤l[i-1]
   ·rw[decide_eq_true bQ]; simp only[decide_eq_false (by omega:¬l[i-1]<l[i])]; rfl
   ·rw[decide_eq_false bQ]; simp only[decide_eq_true (by omega:l[i-1]<l[i])]; rfl
 ·unfold CO
  cases (List.range l.length).all (pF l L) with
  |false=>rfl
  |true=>exact Gz
def tU(x:Int):Bool:=decide (0≤x)&&decide (x≤1000)
def vN(n:bN):Bool:=decide (n.aA.length≤8)&&(decide (n.af.length≤8)&&(decide (n.aH.length=n.af.length)&&((n.aA.all tU&&n.aH.all tU)&&n.af.all fun l=>CO l (n.aA.length:Int))))
theorem Np{n:bN}(hl:∀ l∈n.af,l.length≤2^62):aa.gu n=some (vN n):=by
 unfold aa.gu vN
 by_cases h1:n.aA.length≤8
 case neg=>rw[decide_eq_false h1]; exact bT (decide_eq_true (by omega)) rfl
 rw[decide_eq_true h1]
 refine bF (decide_eq_false (by omega)) ?_
 by_cases h2:n.af.length≤8
 case neg=>rw[decide_eq_false h2]; exact bT (decide_eq_true (by omega)) rfl
 rw[decide_eq_true h2]
 refine bF (decide_eq_false (by omega)) ?_
 by_cases h3:n.aH.length=n.af.length
 case neg=>rw[decide_eq_false h3]; exact bT (by simp; omega) rfl
 rw[decide_eq_true h3]
 refine bF (by simp; omega) ?_
 have hc:aa.gX [n.aA,n.aH]=some (n.aA++n.aH):=by
  show tu 8 [n.aA,n.aH]=_
  unfold tu Kp
  have:[n.aA,n.aH].flatten=n.aA++n.aH:=by simp
  rw[this]
  have hlen:(n.aA++n.aH).length≤16:=by rw[List.length_append]; omega
  exact bT (by simp only[Bool.and_eq_true,decide_eq_true_eq]; exact⟨by simp,by omega,by omega⟩) rfl
 refine bB hc ?_
 have hlen:(n.aA++n.aH).length≤16:=by rw[List.length_append]; omega
 refine bB (uB (n.aA++n.aH) (fun i=>(false,(i:Int))) tU (Sum.inl false) (Sum.inr (false,((n.aA++n.aH).length:Int))) (fun i hi=>?_) (bF (dJ _) rfl) rfl) ?_
 ·refine bT (cZ hi) (bT (aP i) (bB (get_at hi) (bB (PX _ _ _) ?_)))
  rw[dK (by omega)]
  show (bif !tU _ then _ else _)=_
  cases tU (n.aA++n.aH)[i]<;>rfl
 rw[List.all_append]
 cases ZW:(n.aA.all tU&&n.aH.all tU) with
 |false=>rfl
 |true=>
  simp only[cond_true,Sum.elim_inr,Bool.true_and]
  refine bB (uB n.af (fun i=>(false,(i:Int))) (fun l=>CO l (n.aA.length:Int)) (Sum.inl false) (Sum.inr (false,(n.af.length:Int))) (fun i hi=>?_) (bF (dJ _) rfl) rfl) ?_
  ·refine bT (cZ hi) (bT (aP i) (bB (get_at hi) (bB (No (hl _ (List.getElem_mem hi)) (by omega) (by omega)) ?_)))
   rw[dK (by omega)]
   cases CO n.af[i] (n.aA.length:Int)<;>rfl
  ·cases n.af.all fun l=>CO l (n.aA.length:Int)<;>rfl
theorem Nq{γ δ:Type}{l:List γ}{m:List δ}{p:γ→Bool}{q:δ→Bool}(h:l.length=m.length):((List.range l.length).all fun i=>(l[i]?.map p).getD false&&(m[i]?.map q).getD false)=(l.all p&&m.all q):=by
 rw[Bool.eq_iff_iff,List.all_eq_true,Bool.and_eq_true,List.all_eq_true,List.all_eq_true]
 constructor
 ·intro hh
  refine⟨fun x hx=>?_,fun x hx=>?_⟩
  ·obtain⟨i,hi,rfl⟩:=List.getElem_of_mem hx
   have:=hh i (List.mem_range.2 hi)
   rw[List.getElem?_eq_getElem hi]at this
   simp only[Bool.and_eq_true]at this
   exact this.1
  ·obtain⟨i,hi,rfl⟩:=List.getElem_of_mem hx
   have:=hh i (List.mem_range.2 (by omega))
   rw[List.getElem?_eq_getElem hi]at this
   simp only[Bool.and_eq_true]at this
   exact this.2
 ·rintro⟨h1,h2⟩ i hi
  have hi:=List.mem_range.1 hi
  rw[List.getElem?_eq_getElem hi,List.getElem?_eq_getElem (show i<m.length by omega)]
  simp only[Bool.and_eq_true]
  exact⟨h1 _ (List.getElem_mem _),h2 _ (List.getElem_mem _)⟩
theorem Kq{n:bN}(hl:∀ l∈n.af,l.length≤2^62):aa.c6 n=some (vN n):=by
 unfold aa.c6 vN
 by_cases h1:n.aA.length≤8
 case neg=>rw[decide_eq_false h1]; exact bT (decide_eq_true (by omega)) rfl
 rw[decide_eq_true h1]
 refine bF (decide_eq_false (by omega)) ?_
 by_cases h2:n.af.length≤8
 case neg=>rw[decide_eq_false h2]; exact bT (decide_eq_true (by omega)) rfl
 rw[decide_eq_true h2]
 refine bF (decide_eq_false (by omega)) ?_
 by_cases h3:n.aH.length=n.af.length
 case neg=>rw[decide_eq_false h3]; exact bT (by simp; omega) rfl
 rw[decide_eq_true h3]
 refine bF (by simp; omega) ?_
 refine bB (uB n.aA (fun i=>(false,(i:Int))) tU (Sum.inl false) (Sum.inr (false,(n.aA.length:Int))) (fun i hi=>?_) (bF (dJ _) rfl) rfl) ?_
 ·refine bT (cZ hi) (bT (aP i) (bB (get_at hi) ?_))
  rw[dK (by omega)]
  unfold tU
  by_cases g1:n.aA[i]<0
  ·rw[decide_eq_false (by omega:¬0≤n.aA[i])]; exact bT (decide_eq_true g1) rfl
  rw[decide_eq_true (by omega:0≤n.aA[i])]
  refine bF (decide_eq_false g1) (bT (aP i) (bB (get_at hi) ?_))
  by_cases g2:1000<n.aA[i]
  ·rw[decide_eq_false (by omega:¬n.aA[i]≤1000)]; exact bT (decide_eq_true g2) rfl
  ·rw[decide_eq_true (by omega:n.aA[i]≤1000)]; exact bF (decide_eq_false g2) rfl
 cases ZW:n.aA.all tU with
 |false=>rfl
 |true=>
  simp only[cond_true,Sum.elim_inr,Bool.true_and]
  refine bB (wH (fun i=>(false,(i:Int))) (fun i=>(n.af[i]?.map fun l=>CO l (n.aA.length:Int)).getD false&&(n.aH[i]?.map tU).getD false) n.af.length (Sum.inr (false,(n.af.length:Int))) (Sum.inl false) (fun i hi=>?_) (bF (dJ _) rfl) rfl) ?_
  ·have IC:i<n.aH.length:=by omega
   refine bT (cZ hi) (bT (aP i) (bB (get_at hi) (bB (Ko (hl _ (List.getElem_mem hi))) ?_)))
   rw[dK (by omega),List.getElem?_eq_getElem hi,List.getElem?_eq_getElem IC]
   show (bif !CO n.af[i] (n.aA.length:Int) then _ else _)=bif (CO n.af[i] (n.aA.length:Int)&&tU n.aH[i]) then _ else _
   cases CO n.af[i] (n.aA.length:Int) with
   |false=>rfl
   |true=>
    refine bF rfl (bT (aP i) (bB (get_at IC) ?_))
    unfold tU
    by_cases g1:n.aH[i]<0
    ·simp only[decide_eq_false (by omega:¬0≤n.aH[i])]; exact bT (decide_eq_true g1) rfl
    simp only[decide_eq_true (by omega:0≤n.aH[i])]
    refine bF (decide_eq_false g1) (bT (aP i) (bB (get_at IC) ?_))
    by_cases g2:1000<n.aH[i]
    ·simp only[decide_eq_false (by omega:¬n.aH[i]≤1000)]; exact bT (decide_eq_true g2) rfl
    ·simp only[decide_eq_true (by omega:n.aH[i]≤1000)]; exact bF (decide_eq_false g2) rfl
  ·rw[Nq (p:=fun l=>CO l (n.aA.length:Int)) (q:=tU) h3.symm,Bool.and_comm]
   cases (n.aH.all tU&&n.af.all fun l=>CO l (n.aA.length:Int))<;>rfl
theorem Sf(n:bN)(hw:n.af.length≤2^63-1):∃ b,aa.iE n=some b∧(b=true→n.aA.length≤50∧n.af.length≤50∧n.aH.length≤50∧∀ l∈n.af,l.length≤50):=by
 unfold aa.iE
 have xJ:=wH (ω:=Bool ⊕ Bool×Int) (f:=fun ((b1,i2):Bool×Int)=>
   bif decide (i2<(↑n.af.length:Int)) then bif decide (i2<50) then bif decide (0≤i2) then (n.af[i2.toNat]?).bind fun l3=>bif decide (50<(↑l3.length:Int)) then some (Sum.inr (Sum.inl false)) else some (Sum.inl (b1,IntKind.i64.wrap (i2+1))) else none else some (Sum.inr (Sum.inr (b1,i2))) else some (Sum.inr (Sum.inr (b1,i2))))
  (fun i=>(false,(i:Int))) (fun i=>match n.af[i]? with|some l=>decide (l.length≤50)|none=>false) (min n.af.length 50) (Sum.inr (false,((min n.af.length 50:Nat):Int))) (Sum.inl false) (x0:=(false,0)) (fun i hi=>?_) ?_ rfl
 ·cases bg:(List.range (min n.af.length 50)).all (fun i=>match n.af[i]? with|some l=>decide (l.length≤50)|none=>false) with
  |false=>
   rw[bg]at xJ
   exact⟨false,bB xJ rfl,fun h=>Bool.noConfusion h⟩
  |true=>
   rw[bg]at xJ
   refine⟨_,bB xJ (by show (bif _ then bif _ then _ else _ else _)=some (decide ((n.aA.length:Int)≤50)&&(decide ((n.af.length:Int)≤50)&&decide ((n.aH.length:Int)≤50))); cases decide ((n.aA.length:Int)≤50)<;>cases decide ((n.af.length:Int)≤50)<;>rfl),fun h=>?_⟩
   simp only[Bool.and_eq_true,decide_eq_true_eq]at h
   refine⟨by omega,by omega,by omega,fun l hl=>?_⟩
   obtain⟨i,hi,rfl⟩:=List.getElem_of_mem hl
   have:=List.all_eq_true.1 bg i (List.mem_range.2 (by omega))
   rw[List.getElem?_eq_getElem hi]at this
   simpa using this
 ·have h1:i<n.af.length:=by omega
  refine bT (cZ h1) (bT (decide_eq_true (by omega)) (bT (aP i) (bB (get_at h1) ?_)))
  rw[List.getElem?_eq_getElem h1,dK (by omega)]
  by_cases g:n.af[i].length≤50
  ·simp only[decide_eq_true g]; exact bF (decide_eq_false (by omega)) rfl
  ·simp only[decide_eq_false g]; exact bT (decide_eq_true (by omega)) rfl
 ·by_cases g:n.af.length≤50
  ·have e:min n.af.length 50=n.af.length:=by omega
   rw[e]
   exact bF (dJ _) rfl
  ·have e:min n.af.length 50=50:=by omega
   rw[e]
   exact bT (cZ (by omega)) (bF (by decide) rfl)
end Go.Proofs.Ytedjbjphpnkpoaa
end
section
/- Plain facts of this seat: levels. -/
set_option maxRecDepth 100000
namespace Go.Proofs.Ytedjbjphpnkpoaa
open Go.PI Go.Pl Go.Mm
theorem Nr{l:List Int}(hl:l.length≤2^62)(v:Int):aa.bK l v=some (decide (v∈l)):=by
 unfold aa.bK aa.mK
 have key:=tn (ω:=Int ⊕ Int×Int) (f:=fun ((i1,i2):Int×Int)=>bif decide (i2<(↑l.length:Int)) then bif decide (0≤i2) then (l[i2.toNat]?).bind fun i3=>bif v==i3 then some (Sum.inr (Sum.inl i2)) else some (Sum.inl (i1,IntKind.i64.wrap (i2+1))) else none else some (Sum.inr (Sum.inr (i1,i2))))
  (fun i=>((0:Int),(i:Int))) (fun i=>(l[i]?.map fun x=>!(v==x)).getD false) (fun i=>Sum.inl (i:Int)) l.length (Sum.inr (0,(l.length:Int))) (fun i hi=>by
    refine bT (cZ hi) (bT (aP i) (bB (get_at hi) ?_))
    rw[List.getElem?_eq_getElem hi,dK (by omega)]
    show (bif v==l[i] then _ else _)=some (bif !(v==l[i]) then _ else _)
    cases v==l[i]<;>rfl) (bF (dJ _) rfl)
 rcases key with ⟨h1,h2⟩|⟨h1,i,hi,hp,h2⟩
 ·refine bB (v := -1) (bB h2 rfl) ?_
  rw[show decide (v∈l)=false from decide_eq_false fun hm=>?_]; ·rfl
  obtain⟨i,hi,rfl⟩:=List.getElem_of_mem hm
  have:=List.all_eq_true.1 h1 i (List.mem_range.2 hi)
  rw[List.getElem?_eq_getElem hi]at this
  simp at this
 ·refine bB (v:=(i:Int)) (bB h2 rfl) ?_
  rw[show decide (v∈l)=true from decide_eq_true ?_]; ·rw[aP]
  rw[List.getElem?_eq_getElem hi]at hp
  simp only[Option.map_some,Option.getD_some,Bool.not_eq_false',beq_iff_eq]at hp
  rw[hp]; exact List.getElem_mem _
theorem Kr{l:List Bool}(hl:l.length≤2^62)(v:Bool):aa.ff l v=some (decide (v∈l)):=by
 unfold aa.ff aa.n9
 have key:=tn (ω:=Int ⊕ Int×Int) (f:=fun ((i1,i2):Int×Int)=>bif decide (i2<(↑l.length:Int)) then bif decide (0≤i2) then (l[i2.toNat]?).bind fun i3=>bif v==i3 then some (Sum.inr (Sum.inl i2)) else some (Sum.inl (i1,IntKind.i64.wrap (i2+1))) else none else some (Sum.inr (Sum.inr (i1,i2))))
  (fun i=>((0:Int),(i:Int))) (fun i=>(l[i]?.map fun x=>!(v==x)).getD false) (fun i=>Sum.inl (i:Int)) l.length (Sum.inr (0,(l.length:Int))) (fun i hi=>by
    refine bT (cZ hi) (bT (aP i) (bB (get_at hi) ?_))
    rw[List.getElem?_eq_getElem hi,dK (by omega)]
    show (bif v==l[i] then _ else _)=some (bif !(v==l[i]) then _ else _)
    cases v==l[i]<;>rfl) (bF (dJ _) rfl)
 rcases key with ⟨h1,h2⟩|⟨h1,i,hi,hp,h2⟩
 ·refine bB (v := -1) (bB h2 rfl) ?_
  rw[show decide (v∈l)=false from decide_eq_false fun hm=>?_]; ·rfl
  obtain⟨i,hi,rfl⟩:=List.getElem_of_mem hm
  have:=List.all_eq_true.1 h1 i (List.mem_range.2 hi)
  rw[List.getElem?_eq_getElem hi]at this
  simp at this
 ·refine bB (v:=(i:Int)) (bB h2 rfl) ?_
  rw[show decide (v∈l)=true from decide_eq_true ?_]; ·rw[aP]
  rw[List.getElem?_eq_getElem hi]at hp
  simp only[Option.map_some,Option.getD_some,Bool.not_eq_false',beq_iff_eq]at hp
  rw[hp]; exact List.getElem_mem _
/-! ### A valid network -/
def mX(n:bN)(l i:Nat):Bool:=(n.af[i]?.map fun f=>decide ((l:Int)∈f)).getD false
def ca(n:bN):yU where
 F:=n.af.length
 L:=n.aA.length
 on:=mX n
 c l:=((n.aA[l]?.getD 0:Int):Rat)
 has i:=decide (0<n.aH[i]?.getD 0)
 k i:=((n.aH[i]?.getD 0:Int):Rat)
structure VN(n:bN):Prop where
 nc:n.aA.length≤8
 nf:n.af.length≤8
 nl:n.aH.length=n.af.length
 c:∀ x∈n.aA,0≤x∧x≤1000
 k:∀ x∈n.aH,0≤x∧x≤1000
 f6:∀ l∈n.af,1≤l.length∧l.length≤6
 fr:∀ l∈n.af,∀ x∈l,0≤x∧x<n.aA.length
theorem CP{n:bN}(h:vN n=true):VN n:=by
 unfold vN at h
 simp only[Bool.and_eq_true,decide_eq_true_eq,List.all_eq_true]at h
 obtain⟨h1,h2,h3,⟨h4,h5⟩,h6⟩:=h
 have hk:∀ x,tU x=true→0≤x∧x≤1000:=fun x hx=>by simpa[tU] using hx
 refine⟨h1,h2,h3,fun x hx=>hk x (h4 x hx),fun x hx=>hk x (h5 x hx),fun l hl=>?_,fun l hl x hx=>?_⟩
 ·have:=h6 l hl
  unfold CO at this
  simp only[Bool.and_eq_true,decide_eq_true_eq]at this
  omega
 ·have:=h6 l hl
  unfold CO at this
  simp only[Bool.and_eq_true,List.all_eq_true]at this
  obtain⟨i,hi,rfl⟩:=List.getElem_of_mem hx
  have:=this.1 i (List.mem_range.2 hi)
  unfold pF at this
  rw[List.getElem?_eq_getElem hi]at this
  simp only[Bool.and_eq_true,decide_eq_true_eq]at this
  omega
theorem VN.Sg{n:bN}(h:VN n){l:List Int}(hl:l∈n.af):l.length≤2^62:=by have:=h.f6 l hl; omega
theorem VN.cap{n:bN}(h:VN n){l:Nat}(hl:l<n.aA.length):(ca n).c l=((n.aA[l]:Int):Rat)∧0≤n.aA[l]∧n.aA[l]≤1000:=by
 refine⟨?_,h.c _ (List.getElem_mem _)⟩
 show ((n.aA[l]?.getD 0:Int):Rat)=_
 rw[List.getElem?_eq_getElem hl]; rfl
theorem VN.lu{n:bN}(h:VN n){i:Nat}(hi:i<n.af.length):∃ k,n.aH[i]?=some k∧(ca n).k i=(k:Rat)∧(ca n).has i=decide (0<k)∧0≤k∧k≤1000:=by
 have hl:i<n.aH.length:=by rw[h.nl]; exact hi
 refine⟨n.aH[i],List.getElem?_eq_getElem hl,?_,?_,h.k _ (List.getElem_mem _)⟩
 ·show ((n.aH[i]?.getD 0:Int):Rat)=_
  rw[List.getElem?_eq_getElem hl]; rfl
 ·show decide (0<n.aH[i]?.getD 0)=_
  rw[List.getElem?_eq_getElem hl]; rfl
theorem VN.on{n:bN}(h:VN n){l i:Nat}(hi:i<n.af.length):aa.bK n.af[i] (l:Int)=some (mX n l i):=by
 rw[Nr (h.Sg (List.getElem_mem _))]
 unfold mX
 rw[List.getElem?_eq_getElem hi]; rfl
theorem VN.ex{n:bN}(h:VN n){i:Nat}(hi:i<n.af.length):∃ l,l<n.aA.length∧mX n l i=true:=by
 have h1:=h.f6 _ (List.getElem_mem hi)
 have h2:=h.fr _ (List.getElem_mem hi) _ (List.getElem_mem (show 0<n.af[i].length by omega))
 refine⟨n.af[i][0].toNat,by omega,?_⟩
 unfold mX
 rw[List.getElem?_eq_getElem hi]
 simp only[Option.map_some,Option.getD_some,decide_eq_true_eq]
 rw[Int.toNat_of_nonneg h2.1]
 exact List.getElem_mem _
theorem A5{P:Nat}{q:Rat}(h1:1≤P)(h2:P≤1000)(hd:Dv P q)(h0:0≤q)(hq:q≤1000):fS q∧q.den≤P:=by
 obtain⟨m,hm⟩:=hd
 have hP:(P:Rat)≠0:=by intro e; have:P=0:=by exact_mod_cast e
                       omega
 have Yh:(0:Rat)<(P:Rat):=by exact_mod_cast h1
 have e:q=mkRat m P:=by
  rw[Rat.mkRat_eq_div,←hm,Rat.div_def,Rat.mul_assoc,Rat.mul_inv_cancel _ hP,Rat.mul_one]
 have Mc:0≤m:=by
  have:(0:Rat)≤(m:Rat):=by rw[←hm]; exact Rat.mul_nonneg h0 (Rat.le_of_lt Yh)
  exact_mod_cast this
 have rf:m≤1000*P:=by
  have:(m:Rat)≤1000*(P:Rat):=by rw[←hm]; exact Rat.mul_le_mul_of_nonneg_right hq (Rat.le_of_lt Yh)
  exact_mod_cast this
 have hn:=Km (n:=m) h1
 have Si:(mkRat m P).den≤P:=by rw[Rat.den_mkRat,if_neg (by omega)]; exact Nat.div_le_self _ _
 rw[←e]at hn Si
 exact⟨⟨by omega,by omega,by omega⟩,Si⟩
theorem Ns{k:Int}(h0:0≤k)(h1:k≤1000):fS (k:Rat):=⟨by show _≤k; omega,by show k≤_; omega,by show 1≤_; omega⟩
structure ma(n:bN)(rates:List aj)(fixed:List Bool)(x:Nat→Rat)(lo:Rat)(P:Nat):Prop where
 nr:rates.length=n.af.length
 nf:fixed.length=n.af.length
 r:∀ i,i<n.af.length→fixed[i]?=some true→rates[i]?=some (iR (x i))
 inv:Inv (ca n) (fun i=>fixed[i]?.getD false) x lo P
abbrev jv(fixed:List Bool)(i:Nat):Bool:=fixed[i]?.getD false
theorem qw{p:Nat→Bool}{x:Nat→Rat}{n:Nat}(h:∀ j,j<n→p j=true→0≤x j):∀ {i:Nat},i≤n→0≤sm p x i∧sm p x i≤sm p x n:=by
 have up:∀ m i,i+m=n→sm p x i≤sm p x n:=by
  intro m
  induction m with
  |zero=>intro i hi; rw[show i=n by omega]; exact Rat.le_refl
  |succ m ih=>
   intro i hi
   have h1:=ih (i+1) (by omega)
   simp only[sm]at h1
   cases hp:p i with
   |false=>rw[hp]at h1; simp only[cond_false]at h1; grind
   |true=>rw[hp]at h1; simp only[cond_true]at h1; have:=h i (by omega) hp; grind
 intro i hi
 refine⟨?_,up (n-i) i (by omega)⟩
 clear up
 induction i with
 |zero=>exact Rat.le_refl
 |succ i ih=>
  have h1:=ih (by omega)
  simp only[sm]
  cases hp:p i with
  |false=>simp only[cond_false]; grind
  |true=>simp only[cond_true]; have:=h i (by omega) hp; grind
section
variable {n:bN}{rates:List aj}{fixed:List Bool}{x:Nat→Rat}{lo:Rat}{P:Nat}
theorem ma.Q4(h:ma n rates fixed x lo P):P≤18:=Nat.le_trans (Nat.le_mul_of_pos_right _ (Kj _)) h.inv.Q4
abbrev sF(n:bN)(fixed:List Bool)(x:Nat→Rat)(l:Nat):Rat:=sm (fun i=>mX n l i&&jv fixed i) x n.af.length
abbrev mF(n:bN)(fixed:List Bool)(l:Nat):Nat:=ct (fun i=>mX n l i&&!jv fixed i) n.af.length
theorem xK(hv:VN n)(h:ma n rates fixed x lo P){l:Nat}(hl:l<n.aA.length):
  ∃ q,aa.cf (l:Int) (cb.mk n fixed rates)=some (iR q,decide (mF n fixed l≠0))∧(mF n fixed l≠0→q*(mF n fixed l:Nat)=(ca n).c l-sF n fixed x l∧fS q):=by
 obtain⟨hc,Md,MC⟩:=hv.cap hl
 have PY:∀ j,j<n.af.length→(mX n l j&&jv fixed j)=true→0≤x j:=fun j hj hp=>by
  simp only[Bool.and_eq_true]at hp
  exact(h.inv.nn j hj hp.2).1
 have AB:=h.inv.cap l hl
 have hP:=h.Q4
 have PU:=h.inv.P1
 have Ks:∀ i,i≤n.af.length→fS ((ca n).c l-sm (fun i=>mX n l i&&jv fixed i) x i):=fun i hi=>by
  have hm:=qw PY hi
  refine(A5 PU (by omega) ?_ ?_ ?_).1
  ·refine Dv.sub ?_ (Dv.sm fun j hj hp=>h.inv.dv j (by show j<n.af.length; omega) (by simp only[Bool.and_eq_true]at hp; exact hp.2))
   rw[hc]; exact Dv.int _
  ·have:sm (fun i=>mX n l i&&jv fixed i) x n.af.length≤(ca n).c l:=AB
   grind
  ·have h1:(ca n).c l≤1000:=by rw[hc]; exact_mod_cast MC
   have:=hm.1
   grind
 have hx:∀ i,i<n.af.length→jv fixed i=true→fS (x i):=fun i hi hf=>by
  have h1:=h.inv.nn i hi hf
  obtain⟨l',iQ,o6⟩:=hv.ex hi
  obtain⟨HM,_,Sj⟩:=hv.cap iQ
  have Yi:sm (fun i=>mX n l' i&&jv fixed i) x n.af.length≤(ca n).c l':=h.inv.cap l' iQ
  have Sk:∀ j,j<n.af.length→(mX n l' j&&jv fixed j)=true→0≤x j:=fun j hj hp=>by
   simp only[Bool.and_eq_true]at hp
   exact(h.inv.nn j hj hp.2).1
  have h2:=(qw Sk (i:=i+1) (by omega)).2
  have h3:=(qw Sk (i:=i) (by omega)).1
  simp only[sm,o6,hf,Bool.and_self,cond_true]at h2
  have h4:(ca n).c l'≤1000:=by rw[HM]; exact_mod_cast Sj
  exact(A5 PU (by omega) (h.inv.dv i hi hf) h1.1 (by grind)).1
 have HN:∀ i,i<n.af.length→fixed[i]?=some (jv fixed i):=fun i hi=>by
  have:i<fixed.length:=by rw[h.nf]; exact hi
  unfold jv
  rw[List.getElem?_eq_getElem this]; rfl
 have Sl:=hv.nf
 have T2:n.aA[(l:Int).toNat]?=some n.aA[l]:=get_at hl
 have ZX:0≤(ca n).c l-sF n fixed x l:=by
  have:sm (fun i=>mX n l i&&jv fixed i) x n.af.length≤(ca n).c l:=AB
  grind
 have Sj:(ca n).c l≤1000:=by rw[hc]; exact_mod_cast MC
 have hS1:(ca n).c l-sF n fixed x l≤1000:=by
  have:=(qw PY (i:=n.af.length) (Nat.le_refl _)).1
  grind
 have ZY:Dv P ((ca n).c l-sF n fixed x l):=by
  refine Dv.sub ?_ (Dv.sm fun j hj hp=>h.inv.dv j hj (by simp only[Bool.and_eq_true]at hp; exact hp.2))
  rw[hc]; exact Dv.int _
 have ZZ:mF n fixed l≤8:=Nat.le_trans pM Sl
 have xJ:aL (ω:=Int×Int×Int×Int) (fun ((i3,i4,i5,i6):Int×Int×Int×Int)=>
    bif decide (i3<(↑(cb.mk n fixed rates).Net.af.length:Int)) then
     bif decide (0≤i3) then
      ((cb.mk n fixed rates).Net.af[i3.toNat]?).bind fun l7=>
      (aa.bK l7 l).bind fun b8=>
      bif b8 then
       bif decide (0≤i3) then
        ((cb.mk n fixed rates).CQ[i3.toNat]?).bind fun b9=>
        bif !b9 then
         some (Sum.inl (IntKind.i64.wrap (i3+1),IntKind.i64.wrap (i4+1),i5,i6))
        else
         bif decide (0≤i3) then
          ((cb.mk n fixed rates).CR[i3.toNat]?).bind fun CS=>
          (aa.nE (aj.mk i5 i6) CS).bind fun (Ml,i12)=>
          some (Sum.inl (IntKind.i64.wrap (i3+1),i4,Ml.du,Ml.Den))
         else
          none
       else
        none
      else
       some (Sum.inl (IntKind.i64.wrap (i3+1),i4,i5,i6))
     else
      none
    else
     some (Sum.inr (i3,i4,i5,i6))) (0,0,n.aA[l],1)=some ((n.af.length:Int),((mF n fixed l:Nat):Int),((ca n).c l-sF n fixed x l).num,(((ca n).c l-sF n fixed x l).den:Int)):=by
  refine eD (fun i=>((i:Int),((ct (fun i=>mX n l i&&!jv fixed i) i:Nat):Int),((ca n).c l-sm (fun i=>mX n l i&&jv fixed i) x i).num,((((ca n).c l-sm (fun i=>mX n l i&&jv fixed i) x i).den:Nat):Int))) n.af.length _ (fun i hi=>?_) (bF (dJ _) rfl) ?_
  ·refine bT (cZ hi) (bT (aP i) (bB (get_at hi) (bB (hv.on hi) ?_)))
   rw[dK (by omega)]
   have U3:=pM (p:=fun i=>mX n l i&&!jv fixed i) (n:=i)
   cases o6:mX n l i with
   |false=>
    refine bF rfl ?_
    simp only[ct,sm,o6,Bool.false_and,cond_false,Nat.add_zero]
    have:(ca n).c l-(sm (fun i=>mX n l i&&jv fixed i) x i+0)=(ca n).c l-sm (fun i=>mX n l i&&jv fixed i) x i:=by grind
    rw[this]
   |true=>
    refine bT rfl (bT (aP i) (bB (v:=jv fixed i) (by rw[Int.toNat_natCast]; exact HN i hi) ?_))
    cases hf:jv fixed i with
    |false=>
     refine bT rfl ?_
     rw[dK (by omega)]
     simp only[ct,sm,o6,hf,Bool.true_and,Bool.not_false,cond_true,cond_false]
     have:(ca n).c l-(sm (fun i=>mX n l i&&jv fixed i) x i+0)=(ca n).c l-sm (fun i=>mX n l i&&jv fixed i) x i:=by grind
     rw[this]
    |true=>
     have ID:fixed[i]?=some true:=by rw[HN i hi,hf]
     have sY:=sub_eq (Ks i (by omega)) (hx i hi hf)
     have Sm:(ca n).c l-sm (fun i=>mX n l i&&jv fixed i) x i-x i=(ca n).c l-sm (fun i=>mX n l i&&jv fixed i) x (i+1):=by
      simp only[sm,o6,hf,Bool.and_self,cond_true]; grind
     rw[Sm,if_pos (Ks (i+1) (by omega))]at sY
     refine bF rfl (bT (aP i) (bB (v:=iR (x i)) (by rw[Int.toNat_natCast]; exact h.r i hi ID) (bB sY ?_)))
     simp only[ct,o6,hf,Bool.true_and,Bool.not_true,cond_false,Nat.add_zero]
     rfl
  ·have:(ca n).c l-sm (fun i=>mX n l i&&jv fixed i) x 0=(n.aA[l]:Rat):=by rw[←hc]; simp only[sm]; grind
   rw[this]; rfl
 by_cases hm:mF n fixed l=0
 ·refine⟨(ca n).c l-sF n fixed x l,?_,fun h=>absurd hm h⟩
  unfold aa.cf
  refine bT (aP l) (bB T2 (bB (v:=⟨n.aA[l],1⟩) rfl (bB xJ (bT (by rw[hm]; rfl) ?_))))
  rw[hm]; rfl
 ·have rf:1≤mF n fixed l:=by omega
  have VJ:((mF n fixed l:Nat):Rat)≠0:=fun e=>hm (by exact_mod_cast e)
  have Sc:(0:Rat)<((mF n fixed l:Nat):Rat):=by exact_mod_cast rf
  have hq:((ca n).c l-sF n fixed x l)/((mF n fixed l:Nat):Rat)*((mF n fixed l:Nat):Rat)=(ca n).c l-sF n fixed x l:=by
   rw[Rat.div_def,Rat.mul_assoc,Rat.inv_mul_cancel _ VJ,Rat.mul_one]
  have VK:0≤((ca n).c l-sF n fixed x l)/((mF n fixed l:Nat):Rat):=by
   apply Rat.le_of_mul_le_mul_right (c:=((mF n fixed l:Nat):Rat)) _ Sc
   rw[hq,Rat.zero_mul]; exact ZX
  have gN:((ca n).c l-sF n fixed x l)/((mF n fixed l:Nat):Rat)≤1000:=by
   apply Rat.le_of_mul_le_mul_right (c:=((mF n fixed l:Nat):Rat)) _ Sc
   rw[hq]
   have:(1:Rat)≤((mF n fixed l:Nat):Rat):=by exact_mod_cast rf
   grind
  have Z0:P*mF n fixed l≤1000:=Nat.le_trans (Nat.mul_le_mul hP ZZ) (by omega)
  have iP:=(A5 (Nat.mul_pos PU rf) Z0 (Dv.part ZY hq) VK gN).1
  have VL:fS ((ca n).c l-sF n fixed x l):=Ks n.af.length (Nat.le_refl _)
  have hdiv:=div_eq VL rf (by omega)
  rw[if_pos iP]at hdiv
  refine⟨_,?_,fun _=>⟨hq,iP⟩⟩
  unfold aa.cf
  refine bT (aP l) (bB T2 (bB (v:=⟨n.aA[l],1⟩) rfl (bB xJ (bF (by show (((mF n fixed l:Nat):Int)==0)=false; rw[beq_eq_false_iff_ne]; omega) (bB (v:=⟨((mF n fixed l:Nat):Int),1⟩) rfl (bB hdiv ?_))))))
  rw[decide_eq_true hm]
theorem vO(hv:VN n)(h:ma n rates fixed x lo P){i:Nat}(hi:i<n.af.length):
  aa.cz (i:Int) (cb.mk n fixed rates)=some (iR ((ca n).k i),(ca n).has i&&!jv fixed i):=by
 obtain⟨k,hk,e1,e2,k0,k1⟩:=hv.lu hi
 have G9:n.aH[(i:Int).toNat]?=some k:=by rw[Int.toNat_natCast]; exact hk
 unfold aa.cz
 refine bT (aP i) (bB G9 (bB (v:=⟨k,1⟩) rfl (bT (aP i) (bB G9 ?_))))
 rw[e1,e2]
 by_cases hp:0<k
 ·have:i<fixed.length:=by rw[h.nf]; exact hi
  refine bT (decide_eq_true hp) (bT (aP i) (bB (v:=jv fixed i) (by rw[Int.toNat_natCast]; unfold jv; rw[List.getElem?_eq_getElem this]; rfl) ?_))
  rw[decide_eq_true hp]; rfl
 ·rw[decide_eq_false hp]
  exact bF rfl rfl
theorem Fg(hv:VN n)(l:Nat){i:Nat}(hi:i<n.af.length):aa.fJ (l:Int) (cb.mk n fixed rates) (i:Int)=some (mX n l i):=by
 unfold aa.fJ
 exact bT (aP i) (bB (get_at hi) (bB (hv.on hi) rfl))
end
end Go.Proofs.Ytedjbjphpnkpoaa
end
section
/- Plain facts of this seat: what Share returns. -/
set_option maxRecDepth 100000
set_option maxHeartbeats 1000000
namespace Go.Proofs.Ytedjbjphpnkpoaa
open Go.PI Go.Pl Go.Mm
section
variable {γ:Type}{Q:γ→Prop}
theorem dU{c:Bool}{x y:Option γ}(hc:c=true)(hx:∃ r,x=some r∧Q r):∃ r,(bif c then x else y)=some r∧Q r:=by subst hc; exact hx
theorem CT{c:Bool}{x y:Option γ}(hc:c=false)(hy:∃ r,y=some r∧Q r):∃ r,(bif c then x else y)=some r∧Q r:=by subst hc; exact hy
theorem lJ{β:Type}{e:Option β}{v:β}{K:β→Option γ}(he:e=some v)(hk:∃ r,K v=some r∧Q r):∃ r,e.bind K=some r∧Q r:=by subst he; exact hk
theorem HO{τ ω:Type}{f:τ→Option (τ ⊕ ω)}(I:τ→Prop)(μ:τ→Nat)(P:ω→Prop)(h:∀ s,I s→(∃ s',f s=some (.inl s')∧I s'∧μ s'<μ s)∨(∃ w,f s=some (.inr w)∧P w)):
  ∀ s,I s→∃ w,aL f s=some w∧P w:=by
 have key:∀ m s,μ s<m→I s→∃ w,aL f s=some w∧P w:=by
  intro m
  induction m with
  |zero=>intro s hs; omega
  |succ m ih=>
   intro s hs hI
   rcases h s hI with ⟨s',h1,h2,h3⟩|⟨w,h1,h2⟩
   ·obtain⟨w,h4,h5⟩:=ih s' (by omega) h2
    exact⟨w,by rw[next h1,h4],h5⟩
   ·exact⟨w,out h1,h2⟩
 exact fun s hs=>key (μ s+1) s (Nat.lt_succ_self _) hs
theorem Nt{τ ω:Type}{f:τ→Option (τ ⊕ ω)}{x0:τ}{K:ω→Option γ}(I:τ→Prop)(μ:τ→Nat)(P:ω→Prop)(h:∀ s,I s→(∃ s',f s=some (.inl s')∧I s'∧μ s'<μ s)∨(∃ w,f s=some (.inr w)∧P w))(h0:I x0)
  (hk:∀ w,P w→∃ r,K w=some r∧Q r):∃ r,(aL f x0).bind K=some r∧Q r:=by
 obtain⟨w,h1,h2⟩:=HO I μ P h x0 h0
 exact lJ h1 (hk w h2)
end
/-! ### Stops -/
def iG(i:Nat):dV:=⟨true,(i:Int)⟩
def rV(i:Nat):dV:=⟨false,(i:Int)⟩
def pO(n:bN):List dV:=(List.range n.aA.length).map iG++(List.range n.af.length).map rV
theorem CU{n:bN}{s:dV}(h:s∈pO n):(∃ l,l<n.aA.length∧s=iG l)∨∃ i,i<n.af.length∧s=rV i:=by
 unfold pO at h
 simp only[List.mem_append,List.mem_map,List.mem_range]at h
 rcases h with ⟨l,h1,h2⟩|⟨l,h1,h2⟩
 ·exact .inl ⟨l,h1,h2.symm⟩
 ·exact .inr ⟨l,h1,h2.symm⟩
theorem CV(n:bN):(pO n).length=n.aA.length+n.af.length:=by simp[pO]
section
variable {n:bN}{rates:List aj}{fixed:List Bool}{x:Nat→Rat}{lo:Rat}{P:Nat}
noncomputable def lvl(n:bN)(rates:List aj)(fixed:List Bool)(s:dV):Option (aj×Bool):=
 bif s.A then aa.cf s.N (cb.mk n fixed rates) else aa.cz s.N (cb.mk n fixed rates)
noncomputable def act(n:bN)(rates:List aj)(fixed:List Bool)(s:dV):Bool:=((lvl n rates fixed s).map (·.2)).getD false
noncomputable def lv(n:bN)(rates:List aj)(fixed:List Bool)(s:dV):aj:=((lvl n rates fixed s).map (·.1)).getD ⟨0,0⟩
noncomputable def rq(n:bN)(rates:List aj)(fixed:List Bool)(s:dV):Rat:=mkRat (lv n rates fixed s).du (lv n rates fixed s).Den.toNat
theorem CW(q:Rat):mkRat (iR q).du (iR q).Den.toNat=q:=by
 show mkRat q.num ((q.den:Int)).toNat=q
 rw[Int.toNat_natCast,Rat.mkRat_self]
theorem PZ(hv:VN n)(h:ma n rates fixed x lo P){s:dV}(hs:s∈pO n):lvl n rates fixed s=some (lv n rates fixed s,act n rates fixed s):=by
 have:∃ r,lvl n rates fixed s=some r:=by
  rcases CU hs with ⟨l,hl,rfl⟩|⟨i,hi,rfl⟩
  ·obtain⟨q,hq,_⟩:=xK hv h hl
   exact⟨_,hq⟩
  ·exact⟨_,vO hv h hi⟩
 obtain⟨r,hr⟩:=this
 unfold lv act
 rw[hr]; rfl
theorem uD(hv:VN n)(h:ma n rates fixed x lo P){l:Nat}(hl:l<n.aA.length):act n rates fixed (iG l)=decide (mF n fixed l≠0)∧(mF n fixed l≠0→lv n rates fixed (iG l)=iR (rq n rates fixed (iG l))∧fS (rq n rates fixed (iG l))∧rq n rates fixed (iG l)*(mF n fixed l:Nat)=(ca n).c l-sF n fixed x l):=by
 obtain⟨q,hq,hf⟩:=xK hv h hl
 have e1:act n rates fixed (iG l)=decide (mF n fixed l≠0):=by unfold act lvl; show ((aa.cf (l:Int) _).map _).getD false=_; rw[hq]; rfl
 have e2:lv n rates fixed (iG l)=iR q:=by unfold lv lvl; show ((aa.cf (l:Int) _).map _).getD _=_; rw[hq]; rfl
 have e3:rq n rates fixed (iG l)=q:=by unfold rq; rw[e2]; exact CW q
 refine⟨e1,fun hm=>?_⟩
 rw[e3]
 exact⟨e2,(hf hm).2,(hf hm).1⟩
theorem xL(hv:VN n)(h:ma n rates fixed x lo P){i:Nat}(hi:i<n.af.length):act n rates fixed (rV i)=((ca n).has i&&!jv fixed i)∧lv n rates fixed (rV i)=iR (rq n rates fixed (rV i))∧fS (rq n rates fixed (rV i))∧rq n rates fixed (rV i)=(ca n).k i:=by
 have hq:=vO hv h hi
 obtain⟨k,_,Pp,_,k0,k1⟩:=hv.lu hi
 have e1:act n rates fixed (rV i)=((ca n).has i&&!jv fixed i):=by unfold act lvl; show ((aa.cz (i:Int) _).map _).getD false=_; rw[hq]; rfl
 have e2:lv n rates fixed (rV i)=iR ((ca n).k i):=by unfold lv lvl; show ((aa.cz (i:Int) _).map _).getD _=_; rw[hq]; rfl
 have e3:rq n rates fixed (rV i)=(ca n).k i:=by unfold rq; rw[e2]; exact CW _
 rw[e3]
 exact⟨e1,e2,by rw[Pp]; exact Ns k0 k1,rfl⟩
noncomputable def eE(n:bN)(rates:List aj)(fixed:List Bool):List dV:=(pO n).filter (act n rates fixed)
theorem gv(hv:VN n)(h:ma n rates fixed x lo P){s:dV}(hs:s∈eE n rates fixed):lv n rates fixed s=iR (rq n rates fixed s)∧fS (rq n rates fixed s) ∧
  ((∃ l,l<n.aA.length∧s=iG l∧mF n fixed l≠0∧rq n rates fixed s*(mF n fixed l:Nat)=(ca n).c l-sF n fixed x l)∨∃ i,i<n.af.length∧s=rV i∧(ca n).has i=true∧jv fixed i=false∧rq n rates fixed s=(ca n).k i):=by
 unfold eE at hs
 obtain⟨h1,h2⟩:=List.mem_filter.1 hs
 rcases CU h1 with ⟨l,hl,rfl⟩|⟨i,hi,rfl⟩
 ·obtain⟨g1,g2⟩:=uD hv h hl
  rw[g1]at h2
  have hm:=of_decide_eq_true h2
  obtain⟨g3,g4,g5⟩:=g2 hm
  exact⟨g3,g4,.inl ⟨l,hl,rfl,hm,g5⟩⟩
 ·obtain⟨g1,g2,g3,g4⟩:=xL hv h hi
  rw[g1]at h2
  simp only[Bool.and_eq_true,Bool.not_eq_true']at h2
  exact⟨g2,g3,.inr ⟨i,hi,rfl,h2.1,h2.2,g4⟩⟩
theorem zX(hv:VN n)(h:ma n rates fixed x lo P){l:Nat}(hl:l<n.aA.length)(hm:mF n fixed l≠0):iG l∈eE n rates fixed:=by
 refine List.mem_filter.2 ⟨?_,by rw[(uD hv h hl).1]; exact decide_eq_true hm⟩
 unfold pO
 exact List.mem_append_left _ (List.mem_map.2 ⟨l,List.mem_range.2 hl,rfl⟩)
theorem Kt(hv:VN n)(h:ma n rates fixed x lo P){i:Nat}(hi:i<n.af.length)(h1:(ca n).has i=true)(h2:jv fixed i=false):rV i∈eE n rates fixed:=by
 refine List.mem_filter.2 ⟨?_,by rw[(xL hv h hi).1,h1,h2]; rfl⟩
 unfold pO
 exact List.mem_append_right _ (List.mem_map.2 ⟨i,List.mem_range.2 hi,rfl⟩)
def BI(m:Rat)(l:List Rat):Rat:=l.foldl (fun m q=>if q<m then q else m) m
theorem P0(l:List Rat):∀ m,BI m l≤m∧∀ q∈l,BI m l≤q:=by
 induction l with
 |nil=>intro m; exact⟨Rat.le_refl,fun q hq=>by cases hq⟩
 |cons a l ih=>
  intro m
  have h:=ih (if a<m then a else m)
  show BI (if a<m then a else m) l≤m∧∀ q∈a::l,BI (if a<m then a else m) l≤q
  have h1:(if a<m then a else m)≤m∧(if a<m then a else m)≤a:=by split<;>constructor<;>grind
  refine⟨Rat.le_trans h.1 h1.1,fun q hq=>?_⟩
  rcases List.mem_cons.1 hq with rfl|hq
  ·exact Rat.le_trans h.1 h1.2
  ·exact h.2 q hq
theorem GB(l:List Rat):∀ m,BI m l=m∨BI m l∈l:=by
 induction l with
 |nil=>intro m; exact .inl rfl
 |cons a l ih=>
  intro m
  show BI (if a<m then a else m) l=m∨BI (if a<m then a else m) l∈a::l
  rcases ih (if a<m then a else m) with h|h
  ·rw[h]
   split
   ·exact .inr (by simp)
   ·exact .inl rfl
  ·exact .inr (List.mem_cons_of_mem _ h)
def dW{γ:Type}(l:List γ)(is:List Nat)(v:γ):List γ:=is.foldl (fun l i=>l.set i v) l
theorem dL{γ:Type}(is:List Nat)(v:γ):∀ l:List γ,(dW l is v).length=l.length:=by
 induction is with
 |nil=>intro l; rfl
 |cons i is ih=>intro l; show (dW (l.set i v) is v).length=_; rw[ih,List.length_set]
theorem rW{γ:Type}(is:List Nat)(v:γ):∀ (l:List γ) (j:Nat),j<l.length→(dW l is v)[j]?=if j∈is then some v else l[j]?:=by
 induction is with
 |nil=>intro l j hj; simp[dW]
 |cons i is ih=>
  intro l j hj
  show (dW (l.set i v) is v)[j]?=_
  rw[ih _ _ (by rw[List.length_set]; exact hj)]
  by_cases h1:j∈is
  ·rw[if_pos h1,if_pos (List.mem_cons_of_mem _ h1)]
  ·rw[if_neg h1]
   by_cases h2:j=i
   ·subst h2
    rw[if_pos (by simp),List.getElem?_set_self hj]
   ·rw[if_neg (by simp[h1,h2]),List.getElem?_set_ne (fun e=>h2 e.symm)]
theorem vP{γ:Type}(l:List γ)(is:List Nat)(v:γ){t:Nat}(ht:t<is.length):dW l (is.take (t+1)) v=(dW l (is.take t) v).set is[t] v:=by
 unfold dW
 rw[List.take_succ_eq_append_getElem ht,List.foldl_append]; rfl
end
end Go.Proofs.Ytedjbjphpnkpoaa
end
section
/- Plain facts of this seat: a step of Share, and Share. -/
set_option maxRecDepth 100000
set_option maxHeartbeats 2000000
namespace Go.Proofs.Ytedjbjphpnkpoaa
open Go.PI Go.Pl Go.Mm
theorem mo{m k:Nat}(h:m≤100000)(hk:k≤64):(decide (m*k≤2^44)&&decide (m≤2^44))=true:=by
 have:m*k≤100000*64:=Nat.mul_le_mul h hk
 simp only[Bool.and_eq_true,decide_eq_true_eq]
 omega
theorem tv(q r:Rat):((iR q).du==r.num&&(iR q).Den==(r.den:Int))=decide (q=r):=by
 rw[Bool.eq_iff_iff]
 simp only[iR,Bool.and_eq_true,beq_iff_eq,decide_eq_true_eq]
 constructor
 ·rintro⟨h1,h2⟩; exact Rat.ext h1 (by omega)
 ·rintro rfl; exact⟨rfl,rfl⟩
def Ku(n:bN)(s:dV)(i:Nat):Bool:=bif s.A then mX n s.N.toNat i else s.N==(i:Int)
noncomputable def IG(n:bN)(fixed:List Bool)(low:Rat)(r:Rat)(s:dV)(i:Nat):Bool:=decide (r=low)&&(!jv fixed i&&Ku n s i)
noncomputable def A6(n:bN)(rates:List aj)(fixed:List Bool)(low:Rat)(s:dV)(m:Nat):List Nat:=(List.range m).filter (IG n fixed low (rq n rates fixed s) s)
noncomputable def ij(n:bN)(rates:List aj)(fixed:List Bool)(low:Rat):List Nat:=(eE n rates fixed).flatMap fun s=>A6 n rates fixed low s n.af.length
theorem rX{γ:Type}(p:γ→Bool)(l:List γ):(l.filter p).length≤l.length:=List.length_filter_le _ _
theorem xM{γ δ:Type}{f:γ→List δ}{b:Nat}:∀ {l:List γ},(∀ x∈l,(f x).length≤b)→(l.flatMap f).length≤l.length*b
 |[],_=>by simp
 |x::l,h=>by
  have h1:=xM (l:=l) fun y hy=>h y (List.mem_cons_of_mem _ hy)
  have h2:=h x (by simp)
  simp only[List.flatMap_cons,List.length_append,List.length_cons,Nat.succ_mul]
  omega
section
variable {n:bN}{rates:List aj}{fixed:List Bool}{x:Nat→Rat}{lo:Rat}{P:Nat}
theorem Kv(hv:VN n):(eE n rates fixed).length≤16:=by
 have h1:=rX (act n rates fixed) (pO n)
 have h2:=CV n
 have:=hv.nc; have:=hv.nf
 unfold eE; omega
theorem uE{γ:Type}{p:γ→Bool}{l:List γ}{i:Nat}(h:i<l.length):(l.take (i+1)).filter p=(l.take i).filter p++bif p l[i] then [l[i]] else []:=by
 rw[List.take_succ_eq_append_getElem h,List.filter_append]
 cases hp:p l[i]<;>simp[hp]
theorem tx{p:Nat→Bool}{i:Nat}:(List.range (i+1)).filter p=(List.range i).filter p++bif p i then [i] else []:=by
 rw[List.range_succ,List.filter_append]
 cases hp:p i<;>simp[hp]
abbrev Fh(n:bN)(fixed:List Bool):Nat:=ct (fun i=>!jv fixed i) n.af.length
noncomputable def cA(n:bN)(rates:List aj)(fixed:List Bool):Rat:=match eE n rates fixed with
 |[]=>0
 |s::l=>BI (rq n rates fixed s) ((s::l).map (rq n rates fixed))
theorem GC(hv:VN n)(h:ma n rates fixed x lo P)(hm:false∈fixed):∃ s l,eE n rates fixed=s::l:=by
 obtain⟨i,hi,he⟩:=List.getElem_of_mem hm
 have qZ:i<n.af.length:=by rw[←h.nf]; exact hi
 have hf:jv fixed i=false:=by unfold jv; rw[List.getElem?_eq_getElem hi,he]; rfl
 obtain⟨l,hl,o6⟩:=hv.ex qZ
 have Mn:mF n fixed l≠0:=by
  have:=rU (p:=fun i=>mX n l i&&!jv fixed i) qZ (by simp[o6,hf])
  unfold mF; omega
 have:=zX hv h hl Mn
 cases ha:eE n rates fixed with
 |nil=>rw[ha]at this; cases this
 |cons s l=>exact⟨s,l,rfl⟩
theorem CX(hv:VN n)(h:ma n rates fixed x lo P)(hm:false∈fixed):(∃ s∈eE n rates fixed,rq n rates fixed s=cA n rates fixed)∧∀ s∈eE n rates fixed,cA n rates fixed≤rq n rates fixed s:=by
 obtain⟨s,l,ha⟩:=GC hv h hm
 unfold cA
 rw[ha]
 simp only
 have h1:=P0 ((s::l).map (rq n rates fixed)) (rq n rates fixed s)
 refine⟨?_,fun t ht=>h1.2 _ (List.mem_map.2 ⟨t,ht,rfl⟩)⟩
 rcases GB ((s::l).map (rq n rates fixed)) (rq n rates fixed s) with h2|h2
 ·exact⟨s,by simp,h2.symm⟩
 ·obtain⟨t,ht,e⟩:=List.mem_map.1 h2
  exact⟨t,ht,e⟩
theorem Nu(hv:VN n)(h:ma n rates fixed x lo P)(hm:false∈fixed):fS (cA n rates fixed):=by
 obtain⟨⟨s,hs,e⟩,_⟩:=CX hv h hm
 rw[←e]; exact(gv hv h hs).2.1
theorem qx{i:Nat}{low:Rat}:i∈ij n rates fixed low↔∃ s∈eE n rates fixed,i<n.af.length∧rq n rates fixed s=low∧jv fixed i=false∧Ku n s i=true:=by
 unfold ij A6 IG
 simp only[List.mem_flatMap,List.mem_filter,List.mem_range,Bool.and_eq_true,decide_eq_true_eq,Bool.not_eq_true']
theorem Nv(hv:VN n)(h:ma n rates fixed x lo P)(hm:false∈fixed):Ye (ca n) (jv fixed) x (cA n rates fixed) (fun i=>decide (i∈ij n rates fixed (cA n rates fixed))):=by
 obtain⟨⟨s0,D8,e0⟩,EE⟩:=CX hv h hm
 have lk:∀ l,l<n.aA.length→mF n fixed l≠0→cA n rates fixed≤rq n rates fixed (iG l)∧rq n rates fixed (iG l)*(mF n fixed l:Nat)=(ca n).c l-sF n fixed x l:=fun l hl Mn=>
  ⟨EE _ (zX hv h hl Mn),((uD hv h hl).2 Mn).2.2⟩
 refine⟨fun i hi hw=>?_,fun l hl=>?_,fun i hi hf hh=>?_,fun i hi hw=>?_,?_⟩
 ·obtain⟨s,_,_,_,h3,_⟩:=qx.1 (of_decide_eq_true hw)
  exact h3
 ·show cA n rates fixed*((mF n fixed l:Nat):Rat)≤(ca n).c l-sF n fixed x l
  by_cases Mn:mF n fixed l=0
  ·rw[Mn]
   have:sF n fixed x l≤(ca n).c l:=h.inv.cap l hl
   have e:cA n rates fixed*((0:Nat):Rat)=0:=by
    have:((0:Nat):Rat)=0:=rfl
    rw[this,Rat.mul_zero]
   rw[e]; grind
  ·obtain⟨g1,g2⟩:=lk l hl Mn
   rw[←g2]
   exact Rat.mul_le_mul_of_nonneg_right g1 (by exact_mod_cast Nat.zero_le _)
 ·have:=EE _ (Kt hv h hi hh hf)
  rw[(xL hv h hi).2.2.2]at this
  exact this
 ·obtain⟨s,hs,_,hq,hf,gL⟩:=qx.1 (of_decide_eq_true hw)
  obtain⟨_,_,⟨l,hl,rfl,Mn,P3⟩|⟨j,hj,rfl,hh,_,hk⟩⟩:=gv hv h hs
  ·have o6:mX n l i=true:=by simpa[Ku,iG] using gL
   rw[hq]at P3
   refine .inr ⟨l,hl,o6,P3,fun j hj OL P4=>decide_eq_true (qx.2 ⟨_,hs,hj,hq,P4,by have VM:mX n l j=true:=OL; simpa[Ku,iG] using VM⟩)⟩
  ·have Me:j=i:=by simp only[Ku,rV,cond_false,beq_iff_eq]at gL; omega
   subst Me
   exact .inl ⟨hh,by rw[←hq,hk]⟩
 ·obtain⟨_,_,⟨l,hl,rfl,Mn,P3⟩|⟨j,hj,rfl,hh,hf,hk⟩⟩:=gv hv h D8
  ·obtain⟨i,hi,hp⟩:=Ki (p:=fun i=>mX n l i&&!jv fixed i) (n:=n.af.length) (by unfold mF at Mn; omega)
   simp only[Bool.and_eq_true,Bool.not_eq_true']at hp
   exact⟨i,hi,decide_eq_true (qx.2 ⟨_,D8,hi,e0,hp.2,by simpa[Ku,iG] using hp.1⟩)⟩
  ·exact⟨j,hj,decide_eq_true (qx.2 ⟨_,D8,hj,e0,hf,by simp[Ku,rV]⟩)⟩
theorem Kw{low:Rat}{i:Nat}(h:i∈ij n rates fixed low):i<n.af.length:=by
 obtain⟨_,_,h1,_⟩:=qx.1 h; exact h1
theorem Nw(hv:VN n)(h:ma n rates fixed x lo P)(hm:false∈fixed):∃ x' P',ma n (dW rates (ij n rates fixed (cA n rates fixed)) (iR (cA n rates fixed))) (dW fixed (ij n rates fixed (cA n rates fixed)) true) x' (cA n rates fixed) P' ∧
  Fh n (dW fixed (ij n rates fixed (cA n rates fixed)) true)<Fh n fixed:=by
 have g:=Nv hv h hm
 have VD:∀ l,l<(ca n).L→Dv 1 ((ca n).c l):=fun l hl=>by rw[(hv.cap hl).1]; exact Dv.int _
 have G9:∀ i,i<(ca n).F→Dv 1 ((ca n).k i):=fun i hi=>by obtain⟨k,_,e,_⟩:=hv.lu hi; rw[e]; exact Dv.int _
 obtain⟨P',hI⟩:=HK (N:=ca n) hv.nf VD G9 h.inv g
 have Yj:(fun i=>jv (dW fixed (ij n rates fixed (cA n rates fixed)) true) i)=fun i=>jv fixed i||decide (i∈ij n rates fixed (cA n rates fixed)):=by
  funext i
  by_cases hi:i<fixed.length
  ·unfold jv
   rw[rW _ _ _ _ hi]
   by_cases hw:i∈ij n rates fixed (cA n rates fixed)
   ·rw[if_pos hw,decide_eq_true hw,Bool.or_true]; rfl
   ·rw[if_neg hw,decide_eq_false hw,Bool.or_false]
  ·have h1:i∉ij n rates fixed (cA n rates fixed):=fun hw=>hi (by rw[h.nf]; exact Kw hw)
   rw[decide_eq_false h1,Bool.or_false]
   unfold jv
   have e1:(dW fixed (ij n rates fixed (cA n rates fixed)) true)[i]?=none:=List.getElem?_eq_none (by rw[dL]; omega)
   have e2:fixed[i]?=none:=List.getElem?_eq_none (by omega)
   rw[e1,e2]
 refine⟨_,P',⟨by rw[dL]; exact h.nr,by rw[dL]; exact h.nf,fun i hi hf=>?_,by rw[Yj]; exact hI⟩,?_⟩
 ·rw[rW _ _ _ _ (by rw[h.nr]; exact hi)]
  rw[rW _ _ _ _ (by rw[h.nf]; exact hi)]at hf
  by_cases hw:i∈ij n rates fixed (cA n rates fixed)
  ·simp[hw]
  ·simp only[hw,if_false]at hf ⊢
   simp only[decide_false,Bool.false_eq_true,if_false]
   exact h.r i hi hf
 ·show ct (fun i=>!jv (dW fixed _ true) i) n.af.length<_
  have e:(fun i=>!jv (dW fixed (ij n rates fixed (cA n rates fixed)) true) i)=fun i=>!(jv fixed i||decide (i∈ij n rates fixed (cA n rates fixed))):=by
   funext i; rw[show jv (dW fixed _ true) i=_ from congrFun Yj i]
  rw[e]
  obtain⟨i,hi,hw⟩:=g.some
  have Ru:=tp (p:=fun i=>!jv fixed i) (q:=fun i=>decide (i∈ij n rates fixed (cA n rates fixed))) (n:=n.af.length)
  have hp:=rU (p:=fun i=>!jv fixed i&&decide (i∈ij n rates fixed (cA n rates fixed))) (n:=n.af.length) hi (by rw[g.sub i hi hw,hw]; rfl)
  have e2:ct (fun i=>!(jv fixed i||decide (i∈ij n rates fixed (cA n rates fixed)))) n.af.length=ct (fun i=>!jv fixed i&&!decide (i∈ij n rates fixed (cA n rates fixed))) n.af.length:=nC fun j _=>by cases jv fixed j<;>rfl
  show _<ct (fun i=>!jv fixed i) n.af.length
  rw[e2]; omega
end
end Go.Proofs.Ytedjbjphpnkpoaa
end
section
/- Plain facts of this seat: Share returns the fair rates. -/
set_option maxRecDepth 100000
set_option maxHeartbeats 4000000
namespace Go.Proofs.Ytedjbjphpnkpoaa
open Go.PI Go.Pl Go.Mm
theorem Nx{γ:Type}{l:List γ}{i:Nat}(h:i<l.length):l[0+(i:Int).toNat]?=some l[i]:=by
 rw[Nat.zero_add,Int.toNat_natCast]; exact List.getElem?_eq_getElem h
theorem Mo{i m:Nat}(h:i<m):decide ((i:Int).toNat<m)=true:=decide_eq_true (by rw[Int.toNat_natCast]; exact h)
theorem Kx(m:Rat)(l:List Rat)(q:Rat):BI m (l++[q])=if q<BI m l then q else BI m l:=by
 unfold BI; rw[List.foldl_append]; rfl
theorem Ky{n:bN}(hb:vN n=true):∃ r,aa.cw n=some r∧r.2=0∧∃ x lo P,ma n r.1 (List.replicate n.af.length true) x lo P:=by
 have hv:=CP hb
 have Sl:=hv.nf
 have hL8:=hv.nc
 have HN:∀ l∈n.af,l.length≤2^62:=fun l hl=>hv.Sg hl
 have eN:((n.af.length:Int)).toNat=n.af.length:=Int.toNat_natCast _
 unfold aa.cw
 refine lJ (Np HN) (CT (by rw[hb]; rfl) (dU (by rw[eN]; simp only[Bool.and_eq_true,decide_eq_true_eq]; omega) (dU (by rw[eN]; simp only[Bool.and_eq_true,decide_eq_true_eq]; omega) ?_)))
 refine lJ (v:=((n.aA.length:Int),(List.range n.aA.length).map iG)) (eD (fun i=>((i:Int),(List.range i).map iG)) n.aA.length _ (fun i hi=>?_) (bF (dJ _) rfl) rfl) ?_
 ·refine bT (cZ hi) (bT (by rw[List.length_map,List.length_range]; exact mo (by omega) (by omega)) ?_)
  rw[dK (by omega),List.range_succ,List.map_append]; rfl
 refine lJ (v:=((n.aH.length:Int),pO n)) (eD (fun i=>((i:Int),(List.range n.aA.length).map iG++(List.range i).map rV)) n.aH.length _ (fun i hi=>?_) (bF (dJ _) (by rw[hv.nl]; rfl)) (by simp)) ?_
 ·have:=hv.nl
  refine bT (cZ hi) (bT (by simp only[List.length_append,List.length_map,List.length_range]; exact mo (by omega) (by omega)) ?_)
  rw[dK (by omega),List.range_succ,List.map_append,List.append_assoc]; rfl
 refine Nt (fun s=>∃ x lo P,ma n s.1 s.2 x lo P) (fun s=>Fh n s.2) (fun w=>(∃ x lo P,ma n w.1 w.2 x lo P)∧false∉w.2) ?_ ?_ ?_
 ·rintro⟨rates,fixed⟩ ⟨x,lo,P,h⟩
  have Sn:rates.length=n.af.length:=h.nr
  have So:fixed.length=n.af.length:=h.nf
  have h':ma n rates fixed x lo P:=h
  have hc:=Kr (l:=fixed) (by omega) false
  have er:decide (rates.length=(List.replicate ((n.af.length:Int)).toNat (aj.mk 0 0)).length)=true:=decide_eq_true (by rw[List.length_replicate,eN]; exact Sn)
  have ef:decide (fixed.length=(List.replicate ((n.af.length:Int)).toNat false).length)=true:=decide_eq_true (by rw[List.length_replicate,eN]; exact So)
  by_cases hm:false∈fixed
  ·obtain⟨x',P',hS,bQ⟩:=Nw hv h' hm
   refine .inl ⟨(_,_),?_,⟨x',_,P',hS⟩,bQ⟩
   obtain⟨s0,rest,ha⟩:=GC hv h' hm
   have Z1:=Nu hv h' hm
   have VO:=Kv (n:=n) (rates:=rates) (fixed:=fixed) hv
   have bg:=CV n
   refine bB hc (bT (decide_eq_true hm) ?_)
   refine bB (v:=(((pO n).length:Int),(eE n rates fixed).map (lv n rates fixed),eE n rates fixed)) (eD (fun i=>((i:Int),(((pO n).take i).filter (act n rates fixed)).map (lv n rates fixed),((pO n).take i).filter (act n rates fixed))) (pO n).length _ (fun i hi=>?_) (bF (dJ _) (by simp only[List.take_length]; rfl)) rfl) ?_
   ·have hl:=PZ hv h' (List.getElem_mem hi)
    have Uh:=uE (p:=act n rates fixed) hi
    have Z2:=rX (act n rates fixed) ((pO n).take i)
    have xD:((pO n).take i).length≤16:=by rw[List.length_take]; omega
    refine bT (cZ hi) (bT (aP i) (bT (Mo hi) (bB (Nx hi) ?_)))
    rw[dK (by omega),Uh]
    generalize (pO n)[i]=s at hl
    obtain⟨A,N⟩:=s
    cases A with
    |true=>
     refine bT rfl (bB hl ?_)
     cases act n rates fixed ⟨true,N⟩ with
     |false=>exact bF rfl (by simp)
     |true=>exact bT rfl (bT (by rw[List.length_map]; exact mo (by omega) (by omega)) (bT (mo (by omega) (by omega)) (by simp)))
    |false=>
     refine bF rfl (bB hl ?_)
     cases act n rates fixed ⟨false,N⟩ with
     |false=>exact bF rfl (by simp)
     |true=>exact bT rfl (bT (by rw[List.length_map]; exact mo (by omega) (by omega)) (bT (mo (by omega) (by omega)) (by simp)))
   have nk:∀ {i:Nat} (hi:i<(eE n rates fixed).length),((eE n rates fixed).map (lv n rates fixed))[0+(i:Int).toNat]?=some (iR (rq n rates fixed (eE n rates fixed)[i])):=fun {i} hi=>by
    rw[Nat.zero_add,Int.toNat_natCast,List.getElem?_map,List.getElem?_eq_getElem hi,Option.map_some,(gv hv h' (List.getElem_mem hi)).1]
   have D8:s0∈eE n rates fixed:=by rw[ha]; simp
   have dT:0<(eE n rates fixed).length:=by rw[ha]; simp
   refine bT (decide_eq_true (by rw[List.length_map]; exact dT)) (bB (v:=iR (rq n rates fixed s0)) (by rw[ha,List.map_cons,List.getElem?_cons_zero,(gv hv h' D8).1]) ?_)
   have U9:∀ i,fS (BI (rq n rates fixed s0) (((eE n rates fixed).take i).map (rq n rates fixed))):=fun i=>by
    rcases GB (((eE n rates fixed).take i).map (rq n rates fixed)) (rq n rates fixed s0) with e|e
    ·rw[e]; exact(gv hv h' D8).2.1
    ·obtain⟨t,ht,e⟩:=List.mem_map.1 e
     rw[←e]; exact(gv hv h' (List.mem_of_mem_take ht)).2.1
   refine bB (v:=(((eE n rates fixed).length:Int),(cA n rates fixed).num,((cA n rates fixed).den:Int))) (eD (fun i=>((i:Int),(BI (rq n rates fixed s0) (((eE n rates fixed).take i).map (rq n rates fixed))).num,((BI (rq n rates fixed s0) (((eE n rates fixed).take i).map (rq n rates fixed))).den:Int))) (eE n rates fixed).length _ (fun i hi=>?_) (bF (by rw[List.length_map]; exact dJ _) ?_) rfl) ?_
   ·have hf:=gv hv h' (List.getElem_mem hi)
    have Sp:=Nn hf.2.1 (U9 i)
    refine bT (by rw[List.length_map]; exact cZ hi) (bT (aP i) (bT (by rw[List.length_map]; exact Mo hi) (bB (nk hi) (bB Sp ?_))))
    rw[dK (by omega),List.take_succ_eq_append_getElem hi,List.map_append,List.map_cons,List.map_nil,Kx]
    by_cases hq:rq n rates fixed (eE n rates fixed)[i]<BI (rq n rates fixed s0) (((eE n rates fixed).take i).map (rq n rates fixed))
    ·rw[if_pos hq]; exact bT (decide_eq_true hq) rfl
    ·rw[if_neg hq]; exact bF (decide_eq_false hq) rfl
   ·rw[List.take_length]
    have:cA n rates fixed=BI (rq n rates fixed s0) ((eE n rates fixed).map (rq n rates fixed)):=by unfold cA; rw[ha]
    rw[this]
   have Um:∀ s m,(A6 n rates fixed (cA n rates fixed) s m).length≤m:=fun s m=>by
    have:=rX (IG n fixed (cA n rates fixed) (rq n rates fixed s) s) (List.range m)
    rw[List.length_range]at this; exact this
   refine bB (v:=(((eE n rates fixed).length:Int),(ij n rates fixed (cA n rates fixed)).map fun i:Nat=>(i:Int))) (eD (fun k=>((k:Int),(((eE n rates fixed).take k).flatMap fun s=>A6 n rates fixed (cA n rates fixed) s n.af.length).map fun i:Nat=>(i:Int))) (eE n rates fixed).length _ (fun k hk=>?_) (bF (dJ _) (by rw[List.take_length]; rfl)) rfl) ?_
   ·refine bT (cZ hk) (bT (aP k) (bT (Mo hk) (bB (Nx hk) ?_)))
    have VP:=nk hk
    have Sq:((eE n rates fixed).take (k+1)).flatMap (fun s=>A6 n rates fixed (cA n rates fixed) s n.af.length)=((eE n rates fixed).take k).flatMap (fun s=>A6 n rates fixed (cA n rates fixed) s n.af.length)++A6 n rates fixed (cA n rates fixed) (eE n rates fixed)[k] n.af.length:=by
     rw[List.take_succ_eq_append_getElem hk,List.flatMap_append]; simp
    have yG:(((eE n rates fixed).take k).flatMap fun s=>A6 n rates fixed (cA n rates fixed) s n.af.length).length≤128:=by
     have h1:=xM (l:=(eE n rates fixed).take k) (f:=fun s=>A6 n rates fixed (cA n rates fixed) s n.af.length) (b:=8) (fun s _=>Nat.le_trans (Um s _) Sl)
     have h2:((eE n rates fixed).take k).length≤16:=by rw[List.length_take]; omega
     omega
    rw[Sq,List.map_append]
    have hf:=gv hv h' (List.getElem_mem hk)
    have D7:∀ j (hj:j<n.af.length),fixed[0+(j:Int).toNat]?=some (jv fixed j):=fun j hj=>by
     rw[Nat.zero_add,Int.toNat_natCast,List.getElem?_eq_getElem (by omega)]
     unfold jv; rw[List.getElem?_eq_getElem (by omega)]; rfl
    generalize Sr:(((eE n rates fixed).take k).flatMap fun s=>A6 n rates fixed (cA n rates fixed) s n.af.length).map (fun i:Nat=>(i:Int))=base
    have Z3:base.length≤128:=by rw[←Sr,List.length_map]; exact yG
    generalize hs:(eE n rates fixed)[k]=s at VP hf
    have dG:∀ j,A6 n rates fixed (cA n rates fixed) s (j+1)=A6 n rates fixed (cA n rates fixed) s j++bif IG n fixed (cA n rates fixed) (rq n rates fixed s) s j then [j] else []:=fun j=>tx
    obtain⟨A,N⟩:=s
    cases A with
    |true=>
     refine bT rfl (bB (v:=((n.af.length:Int),base++(A6 n rates fixed (cA n rates fixed) ⟨true,N⟩ n.af.length).map fun i:Nat=>(i:Int))) (eD (fun j=>((j:Int),base++(A6 n rates fixed (cA n rates fixed) ⟨true,N⟩ j).map fun i:Nat=>(i:Int))) n.af.length _ (fun j hj=>?_) (bF (dJ _) rfl) (by simp[A6])) ?_)
     ·obtain⟨l,hN⟩:∃ l:Nat,N=(l:Int):=by
       rcases hf.2.2 with ⟨l,_,e,_⟩|⟨i,_,e,_⟩
       ·exact⟨l,congrArg dV.N e⟩
       ·cases congrArg dV.A e
      subst hN
      have Z4:=Um ⟨true,(l:Int)⟩ j
      refine bT (cZ hj) (bT (aP k) (bT (by rw[List.length_map]; exact Mo hk) (bB VP ?_)))
      rw[dK (by omega),dG j]
      by_cases hq:rq n rates fixed ⟨true,(l:Int)⟩=cA n rates fixed
      ·refine bT (by rw[tv]; exact decide_eq_true hq) (bT (aP j) (bT (Mo (by omega)) (bB (D7 j hj) ?_)))
       cases P4:jv fixed j with
       |true=>exact bF rfl (by simp[IG,P4])
       |false=>
        refine bT rfl (bB (Fg hv l hj) ?_)
        have gL:Ku n ⟨true,(l:Int)⟩ j=mX n l j:=by simp[Ku]
        cases o6:mX n l j with
        |false=>exact bF rfl (by simp[IG,gL,o6])
        |true=>exact bT rfl (bT (by rw[List.length_append,List.length_map]; exact mo (by omega) (by omega)) (by simp[IG,gL,o6,P4,hq]))
      ·exact bF (by rw[tv]; exact decide_eq_false hq) (by simp[IG,hq])
     ·rw[dK (by omega)]
    |false=>
     refine bF rfl (bB (v:=((n.af.length:Int),base++(A6 n rates fixed (cA n rates fixed) ⟨false,N⟩ n.af.length).map fun i:Nat=>(i:Int))) (eD (fun j=>((j:Int),base++(A6 n rates fixed (cA n rates fixed) ⟨false,N⟩ j).map fun i:Nat=>(i:Int))) n.af.length _ (fun j hj=>?_) (bF (dJ _) rfl) (by simp[A6])) ?_)
     ·have Z4:=Um ⟨false,N⟩ j
      refine bT (cZ hj) (bT (aP k) (bT (by rw[List.length_map]; exact Mo hk) (bB VP ?_)))
      rw[dK (by omega),dG j]
      by_cases hq:rq n rates fixed ⟨false,N⟩=cA n rates fixed
      ·refine bT (by rw[tv]; exact decide_eq_true hq) (bT (aP j) (bT (Mo (by omega)) (bB (D7 j hj) ?_)))
       cases P4:jv fixed j with
       |true=>exact bF rfl (by simp[IG,P4])
       |false=>
        refine bT rfl (bB (v:=N==(j:Int)) rfl ?_)
        have gL:Ku n ⟨false,N⟩ j=(N==(j:Int)):=by simp[Ku]
        cases o6:(N==(j:Int)) with
        |false=>exact bF rfl (by simp[IG,gL,o6])
        |true=>exact bT rfl (bT (by rw[List.length_append,List.length_map]; exact mo (by omega) (by omega)) (by simp[IG,gL,o6,P4,hq]))
      ·exact bF (by rw[tv]; exact decide_eq_false hq) (by simp[IG,hq])
     ·rw[dK (by omega)]
   have T4:(ij n rates fixed (cA n rates fixed)).length≤128:=by
    have h1:=xM (l:=eE n rates fixed) (f:=fun s=>A6 n rates fixed (cA n rates fixed) s n.af.length) (b:=8) (fun s _=>Nat.le_trans (Um s _) Sl)
    unfold ij; omega
   refine bB (v:=(((ij n rates fixed (cA n rates fixed)).length:Int),dW rates (ij n rates fixed (cA n rates fixed)) (iR (cA n rates fixed)),dW fixed (ij n rates fixed (cA n rates fixed)) true))
    (eD (fun t=>((t:Int),dW rates ((ij n rates fixed (cA n rates fixed)).take t) (iR (cA n rates fixed)),dW fixed ((ij n rates fixed (cA n rates fixed)).take t) true)) (ij n rates fixed (cA n rates fixed)).length _ (fun t ht=>?_) (bF (by rw[List.length_map]; exact dJ _) (bT (decide_eq_true (dL _ _ _)) (bT (decide_eq_true (dL _ _ _)) (by rw[List.take_length])))) rfl) ?_
   ·have bQ:=Kw (List.getElem_mem ht)
    have l1:(dW rates ((ij n rates fixed (cA n rates fixed)).take t) (iR (cA n rates fixed))).length=n.af.length:=by rw[dL]; exact Sn
    have l2:(dW fixed ((ij n rates fixed (cA n rates fixed)).take t) true).length=n.af.length:=by rw[dL]; exact So
    refine bT (by rw[List.length_map]; exact cZ ht) (bT (aP t) (bT (by rw[List.length_map]; exact Mo ht) (bB (v:=((ij n rates fixed (cA n rates fixed))[t]:Int)) (by rw[Nat.zero_add,Int.toNat_natCast,List.getElem?_map,List.getElem?_eq_getElem ht]; rfl) ?_)))
    refine bT (aP _) (bT (Mo (by omega)) (bB (Nx (by omega)) (bT (aP _) (bT (Mo (by omega)) (bB (Nx (by omega)) ?_)))))
    refine bT (decide_eq_true (by rw[List.length_set]; exact dL _ _ _)) (bT (decide_eq_true (by rw[List.length_set]; exact dL _ _ _)) ?_)
    rw[dK (by omega),vP _ _ _ ht,vP _ _ _ ht,Nat.zero_add,Int.toNat_natCast]; rfl
   exact bT (decide_eq_true (by rw[dL,List.length_replicate,eN]; exact Sn)) (bT (decide_eq_true (by rw[dL,List.length_replicate,eN]; exact So)) rfl)
  ·exact .inr ⟨(rates,fixed),bB hc (bF (decide_eq_false hm) (bT er (bT ef rfl))),⟨x,lo,P,h⟩,hm⟩
 ·rw[eN]
  refine⟨fun _=>0,0,1,by simp,by simp,fun i hi hf=>?_,?_⟩
  ·rw[List.getElem?_replicate]at hf; split at hf<;>simp at hf
  ·have:(fun i:Nat=>(List.replicate n.af.length false)[i]?.getD false)=fun _=>false:=by
    funext i
    rw[List.getElem?_replicate]
    split<;>rfl
   show Mm.Inv (ca n) (fun i:Nat=>(List.replicate n.af.length false)[i]?.getD false) _ _ _
   rw[this]
   exact Fe Sl (fun l hl=>by rw[(hv.cap hl).1]; exact_mod_cast (hv.cap hl).2.1) (fun i hi hh=>by obtain⟨k,_,e,_,k0,_⟩:=hv.lu hi; rw[e]; exact_mod_cast k0) _
 ·rintro⟨rates,fixed⟩ ⟨⟨x,lo,P,h⟩,hm⟩
  refine⟨_,rfl,rfl,x,lo,P,?_⟩
  have So:fixed.length=n.af.length:=h.nf
  have AE:false∉fixed:=hm
  have:fixed=List.replicate n.af.length true:=by
   rw[List.eq_replicate_iff]
   exact⟨So,fun b hb=>by cases b with|true=>rfl|false=>exact absurd hb AE⟩
  have h2:ma n rates fixed x lo P:=h
  rw[this]at h2
  exact h2
end Go.Proofs.Ytedjbjphpnkpoaa
end
section
/- Plain facts of this seat: the fair rates; the law MaxminScale. -/
set_option maxRecDepth 100000
set_option maxHeartbeats 1000000
namespace Go.Proofs.Ytedjbjphpnkpoaa
open Go.PI Go.Pl Go.Mm
structure Sh(n:bN)(xs:List aj)(x:Nat→Rat):Prop where
 e:aa.cw n=some (xs,0)
 len:xs.length=n.af.length
 fair:Mm.Fair (ca n) x
 get:∀ i,i<n.af.length→xs[i]?=some (iR (x i))
 nn:∀ i,i<n.af.length→0≤x i∧x i≤1000
 fit:∀ i,i<n.af.length→fS (x i)∧(x i).den≤18
theorem Fi{n:bN}(hb:vN n=true):∃ xs x,Sh n xs x:=by
 have hv:=CP hb
 obtain⟨⟨xs,e⟩,h1,h2,x,lo,P,h⟩:=Ky hb
 obtain rfl:e=0:=h2
 have h':ma n xs (List.replicate n.af.length true) x lo P:=h
 have bg:∀ i,i<(ca n).F→(fun i:Nat=>(List.replicate n.af.length true)[i]?.getD false) i=true:=fun i hi=>by
  show (List.replicate n.af.length true)[i]?.getD false=true
  rw[List.getElem?_replicate,if_pos (show i<n.af.length from hi)]; rfl
 obtain⟨hf,hd⟩:=Kk h'.inv bg
 have hx:∀ i,i<n.af.length→0≤x i∧x i≤1000:=fun i hi=>by
  obtain⟨l,hl,o6⟩:=hv.ex hi
  obtain⟨hc,_,MC⟩:=hv.cap hl
  have AB:sm (mX n l) x n.af.length≤(ca n).c l:=hf.PS.cap l hl
  have PY:∀ j,j<n.af.length→mX n l j=true→0≤x j:=fun j hj _=>hf.PS.nn j hj
  have h2:=(qw PY (i:=i+1) (by omega)).2
  have h3:=(qw PY (i:=i) (by omega)).1
  simp only[sm,o6,cond_true]at h2
  have h4:(ca n).c l≤1000:=by rw[hc]; exact_mod_cast MC
  exact⟨hf.PS.nn i hi,by grind⟩
 refine⟨xs,x,h1,h'.nr,hf,fun i hi=>h'.r i hi (by rw[List.getElem?_replicate,if_pos hi]),hx,fun i hi=>?_⟩
 obtain⟨d1,d2⟩:=hd i hi
 have PU:=h'.inv.P1
 have:=A5 PU (by omega) d1 (hx i hi).1 (hx i hi).2
 exact⟨this.1,by omega⟩
end Go.Proofs.Ytedjbjphpnkpoaa
end
section
/- Plain facts of this seat: the reference's ratios; the law MaxminNoMore. -/
set_option maxRecDepth 100000
set_option maxHeartbeats 1000000
namespace Go.Proofs.Ytedjbjphpnkpoaa
open Go.PI Go.Pl Go.Mm
theorem VQ(a b:Nat):aa.fj (a:Int) (b:Int)=some ((Nat.gcd a b:Nat):Int):=by
 unfold aa.fj
 have key:∀ m (a b:Nat),b<m→aL (ω:=Int×Int) (fun ((i1,i2):Int×Int)=>
   bif !i2==0 then bif decide (i2=0) then none else some (Sum.inl (i2,i1.tmod i2)) else some (Sum.inr (i1,i2))) ((a:Int),(b:Int))=some (((Nat.gcd a b:Nat):Int),0):=by
  intro m
  induction m with
  |zero=>intro a b h; omega
  |succ m ih=>
   intro a b h
   by_cases h0:b=0
   ·subst h0
    rw[Nat.gcd_zero_right]; exact out rfl
   ·have VI:((b:Int)==0)=false:=by simp; omega
    have hr:((a:Int).tmod (b:Int))=((a%b:Nat):Int):=by rw[Int.tmod_eq_emod_of_nonneg (by omega)]; simp
    have g1:Nat.gcd a b=Nat.gcd b (a%b):=by rw[Nat.gcd_comm a b,Nat.gcd_rec b a,Nat.gcd_comm]
    have bQ:=Nat.mod_lt a (Nat.pos_of_ne_zero h0)
    rw[g1]
    exact(next (y:=((b:Int),((a%b:Nat):Int))) (bT (congrArg not VI) (bF (decide_eq_false (by omega)) (congrArg (fun z=>some (Sum.inl ((b:Int),z))) hr)))).trans (ih b (a%b) (by omega))
 exact bB (key (b+1) a b (Nat.lt_succ_self _)) rfl
theorem CY{q:Rat}(h:fS q):aa.cN (iR q)=some true:=by
 unfold aa.cN aa.lK aa.nG
 have d:=n7 h
 have h1:=h.1
 have h2:=h.2.1
 have g:Nat.gcd q.num.natAbs q.den=1:=q.reduced
 refine bB (v:=true) (bT (decide_eq_true h.1) (bT (decide_eq_true h.2.1) (bT (decide_eq_true d.2) (congrArg some (decide_eq_true d.1))))) (bT rfl (bB (v:=(q.num.natAbs:Int)) (congrArg some (abs_eq (n:=q.num) (by omega) (by omega))) (bB (VQ q.num.natAbs q.den) ?_)))
 rw[g]; rfl
theorem Ny{p q:Rat}(hp:fS p)(hq:fS q):aa.fk (iR p) (iR q)=some (tq p q,0):=by
 unfold aa.fk
 have dp:=n7 hp
 have dq:=n7 hq
 have m1:=lI hp.1 hp.2.1 (b:=(q.den:Int)) (by omega) (by omega)
 have m2:=lI hq.1 hq.2.1 (b:=(p.den:Int)) (by omega) (by omega)
 refine bB (CY hp) (bF rfl (bB (CY hq) (bF rfl ?_)))
 have w1:IntKind.i64.wrap ((iR p).du*(iR q).Den)=p.num*(q.den:Int):=cP (n:=p.num*(q.den:Int)) (by omega) (by omega)
 have w2:IntKind.i64.wrap ((iR q).du*(iR p).Den)=q.num*(p.den:Int):=cP (n:=q.num*(p.den:Int)) (by omega) (by omega)
 rw[w1,w2]
 unfold tq
 by_cases h1:p<q
 ·rw[if_pos h1]
  exact bT (decide_eq_true ((Rat.lt_iff p q).1 h1)) rfl
 ·rw[if_neg h1]
  refine bF (decide_eq_false fun h=>h1 ((Rat.lt_iff p q).2 h)) ?_
  by_cases h2:q<p
  ·rw[if_pos h2]
   exact bT (decide_eq_true ((Rat.lt_iff q p).1 h2)) rfl
  ·rw[if_neg h2]
   exact bF (decide_eq_false fun h=>h2 ((Rat.lt_iff q p).2 h)) rfl
section
variable {γ:Type}{Q:γ→Prop}
theorem A7{τ ω:Type}{f:τ→Option (τ ⊕ ω)}{x0:τ}{K:ω→Option γ}(N:Nat)(I:Nat→τ→Prop)(P:ω→Prop)(h:∀ i s,i<N→I i s→∃ r,f s=some r∧∃ s',r=.inl s'∧I (i+1) s')
  (he:∀ s,I N s→∃ r,f s=some r∧∃ w,r=.inr w∧P w) (h0:I 0 x0) (hk:∀ w,P w→∃ r,K w=some r∧Q r):∃ r,(aL f x0).bind K=some r∧Q r:=by
 have key:∀ m i s,m=N-i→i≤N→I i s→∃ w,aL f s=some w∧P w:=by
  intro m
  induction m with
  |zero=>
   intro i s hm hi hI
   obtain rfl:i=N:=by omega
   obtain⟨_,h1,w,rfl,h2⟩:=he s hI
   exact⟨w,out h1,h2⟩
  |succ m ih=>
   intro i s hm hi hI
   obtain⟨_,h1,s',rfl,h2⟩:=h i s (by omega) hI
   obtain⟨w,h3,h4⟩:=ih (i+1) s' (by omega) (by omega) h2
   exact⟨w,by rw[next h1,h3],h4⟩
 obtain⟨w,h1,h2⟩:=key N 0 x0 rfl (Nat.zero_le _) h0
 exact lJ h1 (hk w h2)
end
/-! ### A possible choice -/
theorem Kz{n:bN}(h:vN n=true){l:List Int}(hl:l∈n.af):∀ b a (hb:b<l.length) (Z5:a<b),l[a]<l[b]:=by
 unfold vN at h
 simp only[Bool.and_eq_true,decide_eq_true_eq,List.all_eq_true]at h
 have h6:=h.2.2.2.2 l hl
 unfold CO at h6
 simp only[Bool.and_eq_true,List.all_eq_true,List.mem_range]at h6
 have st:∀ b (hb:b+1<l.length),l[b]<l[b+1]:=fun b hb=>by
  have:=h6.1 (b+1) hb
  unfold pF at this
  rw[List.getElem?_eq_getElem hb]at this
  simp only[Nat.add_sub_cancel,Bool.and_eq_true,if_neg (Nat.succ_ne_zero b)]at this
  rw[List.getElem?_eq_getElem (by omega)]at this
  simpa using this.2
 intro b
 induction b with
 |zero=>intro a _ h; omega
 |succ b ih=>
  intro a hb Z5
  by_cases e:a=b
  ·subst e; exact st a hb
  ·have h1:=ih a (by omega) (by omega)
   have h2:=st b hb
   omega
theorem KA{n:bN}(h:vN n=true){l:List Int}(hl:l∈n.af){k:Nat}(hk:k<l.length):l[k]∉l.take k:=fun hm=>by
 obtain⟨a,ha,e⟩:=List.mem_take_iff_getElem.1 hm
 have:=Kz h hl k a hk (by omega)
 omega
theorem KB{p:Nat→Bool}{x y:Nat→Rat}{i:Nat}{v:Rat}(hx:y i=x i+v)(h:∀ j,j≠i→y j=x j):∀ {n:Nat},i<n→sm p y n=sm p x n+bif p i then v else 0
 |n+1,hi=>by
  simp only[sm]
  by_cases e:i=n
  ·subst e
   rw[nB (p:=p) (q:=p) (x:=y) (y:=x) (n:=i) (fun _ _=>rfl) fun j hj _=>h j (by omega),hx]
   cases p i<;>simp only[cond_true,cond_false]<;>grind
  ·rw[KB hx h (n:=n) (by omega),h n (fun q=>e q.symm)]
   cases p i<;>cases p n<;>simp only[cond_true,cond_false]<;>grind
structure Pos(n:bN)(d:Int)(i:Nat)(room y:List Int):Prop where
 rl:room.length=n.aA.length
 yl:y.length=n.af.length
 yv:∀ j,j<n.af.length→∃ v,y[j]?=some v∧0≤v∧v≤60000∧((ca n).has j=true→(v:Rat)≤(ca n).k j*(d:Rat))
 y0:∀ j,i≤j→j<n.af.length→y[j]?=some 0
 rm:∀ l,l<n.aA.length→∃ r,room[l]?=some r∧0≤r∧r≤60000∧(r:Rat)+sm (mX n l) (fun j=>((y[j]?.getD 0:Int):Rat)) n.af.length=(ca n).c l*(d:Rat)
noncomputable def GD(n:bN)(parts:List Int)(l6:List Int)(i7:Int)(l8 l9:List Int)(init:Int):Option ((Int×List Int×List Int) ⊕ (Int×List Int×List Int)):=
 (aL (ω:=Int×Int) (fun ((i12,i13):Int×Int)=>
 bif decide (0≤i7) then
 (n.af[i7.toNat]?).bind fun Ea=>
 bif decide (i13<(↑Ea.length:Int)) then
 bif decide (0≤i7) then
 (n.af[i7.toNat]?).bind fun uF=>
 bif decide (0≤i13) then
 (uF[i13.toNat]?).bind fun i16=>
 bif decide (0≤i16) then
 bif decide (i16.toNat<l8.length) then
 (l8[0+i16.toNat]?).bind fun i17=>
 some (Sum.inl (if i17<i12 then i17 else i12,IntKind.i64.wrap (i13+1)))
 else
 none
 else
 none
 else
 none
 else
 none
 else
 some (Sum.inr (i12,i13))
 else
 none) (init,0)).bind fun (i18,i19)=>
 bif decide (0≤i7) then
 (parts[i7.toNat]?).bind fun i20=>
 bif decide (IntKind.i64.wrap (i18+1)=0) then
 none
 else
 bif decide (0≤i7) then
 bif decide (i7.toNat<l9.length) then
 (l9[0+i7.toNat]?).bind fun i21=>
 (aL (ω:=Int×List Int) (fun ((i22,vQ):Int×List Int)=>
 bif decide (0≤i7) then
 (n.af[i7.toNat]?).bind fun VR=>
 bif decide (i22<(↑VR.length:Int)) then
 bif decide (0≤i7) then
 (n.af[i7.toNat]?).bind fun BJ=>
 bif decide (0≤i22) then
 (BJ[i22.toNat]?).bind fun i26=>
 bif decide (0≤i26) then
 bif decide (i26.toNat<vQ.length) then
 (vQ[0+i26.toNat]?).bind fun i27=>
 bif decide (0≤i7) then
 bif decide (i7.toNat<(l9.set (0+i7.toNat) ((IntKind.i64.wrap i20).tmod (IntKind.i64.wrap (i18+1)))).length) then
 ((l9.set (0+i7.toNat) ((IntKind.i64.wrap i20).tmod (IntKind.i64.wrap (i18+1))))[0+i7.toNat]?).bind fun i28=>
 bif decide (0≤i26) then
 bif decide (i26.toNat<vQ.length) then
 (vQ[0+i26.toNat]?).bind fun i29=>
 bif decide ((vQ.set (0+i26.toNat) (IntKind.i64.wrap (i27-i28))).length=l8.length) then
 some (Sum.inl (IntKind.i64.wrap (i22+1),vQ.set (0+i26.toNat) (IntKind.i64.wrap (i27-i28))))
 else
 none
 else
 none
 else
 none
 else
 none
 else
 none
 else
 none
 else
 none
 else
 none
 else
 none
 else
 bif decide (vQ.length=l8.length) then
 some (Sum.inr (i22,vQ))
 else
 none
 else
 none) (0,l8)).bind fun (i30,Ss)=>
 bif decide (Ss.length=l6.length) then
 bif decide ((l9.set (0+i7.toNat) ((IntKind.i64.wrap i20).tmod (IntKind.i64.wrap (i18+1)))).length=(List.replicate (↑n.af.length:Int).toNat (0:Int)).length) then
 some (Sum.inl (IntKind.i64.wrap (i7+1),Ss,l9.set (0+i7.toNat) ((IntKind.i64.wrap i20).tmod (IntKind.i64.wrap (i18+1)))))
 else
 none
 else
 none
 else
 none
 else
 none
 else
 none
theorem A8{γ:Type}{l:List γ}{i j:Nat}{v:γ}(h:i<l.length):(l.set i v)[j]?=if j=i then some v else l[j]?:=by
 rw[List.getElem?_set]
 by_cases e:i=j
 ·subst e; simp[h]
 ·rw[if_neg e,if_neg fun q=>e q.symm]
theorem CZ{n:bN}(hb:vN n=true){parts:List Int}(hp:∀ y∈parts,0≤y∧y≤65535){d:Int}{l6:List Int}(VS:l6.length=n.aA.length){i:Nat}{room y:List Int}(hi:i<n.af.length)(Yk:i<parts.length)(h:Pos n d i room y)
  {init:Int} (h0:0≤init) (h1:init≤60000) (hk:(ca n).has i=true→(init:Rat)≤(ca n).k i*(d:Rat)) :
  ∃ r,GD n parts l6 (i:Int) room y init=some r∧∃ s',r=.inl s'∧s'.1=((i+1:Nat):Int)∧Pos n d (i+1) s'.2.1 s'.2.2:=by
 have hv:=CP hb
 have hF:=hv.nf
 have mG:n.af[i]∈n.af:=List.getElem_mem _
 have gF:n.af[(i:Int).toNat]?=some n.af[i]:=get_at hi
 have h6:=hv.f6 _ mG
 have eK:=hv.fr _ mG
 have Un:i<y.length:=by rw[h.yl]; exact hi
 unfold GD
 refine A7 n.af[i].length (fun k s=>s.2=(k:Int)∧0≤s.1∧s.1≤init∧∀ t (ht:t<n.af[i].length),t<k→∃ r,room[(n.af[i][t]).toNat]?=some r∧s.1≤r)
  (fun w=>0≤w.1∧w.1≤init∧∀ t (ht:t<n.af[i].length),∃ r,room[(n.af[i][t]).toNat]?=some r∧w.1≤r) ?_ ?_ ⟨rfl,h0,Int.le_refl _,fun t _ ht=>by omega⟩ ?_
 ·rintro k ⟨m,a⟩ hk ⟨e,Mc,rf,hm⟩
  obtain rfl:a=(k:Int):=e
  have hx:=eK _ (List.getElem_mem hk)
  obtain⟨r,hr,r0,r1,_⟩:=h.rm (n.af[i][k]).toNat (by omega)
  have bQ:(n.af[i][k]).toNat<room.length:=by rw[h.rl]; omega
  refine dU (aP i) (lJ gF (dU (cZ hk) (dU (aP i) (lJ gF (dU (aP k) (lJ (get_at hk) (dU (decide_eq_true hx.1) (dU (decide_eq_true bQ) (lJ (v:=r) (by rw[Nat.zero_add]; exact hr) ⟨_,rfl,_,rfl,dK (by omega),?_,?_,?_⟩)))))))))
  ·show 0≤if r<m then r else m
   split<;>omega
  ·show (if r<m then r else m)≤init
   split<;>omega
  ·intro t ht VU
   show ∃ r',_∧(if r<m then r else m)≤r'
   by_cases e:t=k
   ·subst e; exact⟨r,hr,by split<;>omega⟩
   ·obtain⟨r',g1,g2⟩:=hm t ht (by omega)
    refine⟨r',g1,?_⟩
    have g2':m≤r':=g2
    split<;>omega
 ·rintro⟨m,a⟩ ⟨e,Mc,rf,hm⟩
  obtain rfl:a=(n.af[i].length:Int):=e
  exact dU (aP i) (lJ gF (CT (dJ _) ⟨_,rfl,_,rfl,Mc,rf,fun t ht=>hm t ht ht⟩))
 ·rintro⟨m,a⟩ ⟨Mc,rf,hm⟩
  have Z6:0≤m:=Mc
  have Z7:m≤init:=rf
  have Z8:=hp _ (List.getElem_mem Yk)
  have w1:IntKind.i64.wrap (m+1)=m+1:=cP (by omega) (by omega)
  have w2:IntKind.i64.wrap parts[i]=parts[i]:=cP (by omega) (by omega)
  refine dU (aP i) (lJ (get_at Yk) (CT (by show decide (IntKind.i64.wrap (m+1)=0)=false; rw[w1]; exact decide_eq_false (by omega)) (dU (aP i) (dU (decide_eq_true (by rw[Int.toNat_natCast]; exact Un)) (lJ (v:=y[i]) (by rw[Nat.zero_add]; exact get_at Un) ?_)))))
  show ∃ r,_=some r∧_
  rw[w1,w2]
  obtain⟨v,Ej⟩:∃ v,v=parts[i].tmod (m+1):=⟨_,rfl⟩
  rw[←Ej]
  have Ja:0≤v:=by rw[Ej]; exact Int.tmod_nonneg _ Z8.1
  have hv1:v≤m:=by
   have:=Int.tmod_lt_of_pos parts[i] (show 0<m+1 by omega)
   omega
  have dD:∀ j,(y.set (0+(i:Int).toNat) v)[j]?=if j=i then some v else y[j]?:=fun j=>by
   rw[Nat.zero_add,Int.toNat_natCast]; exact A8 Un
  have Su:(y.set (0+(i:Int).toNat) v).length=y.length:=List.length_set
  refine A7 n.af[i].length (fun k s=>s.1=(k:Int)∧s.2.length=room.length∧∀ l,l<n.aA.length→s.2[l]?=(room[l]?).map fun r=>r-if (l:Int)∈n.af[i].take k then v else 0)
   (fun w=>w.2.length=room.length∧∀ l,l<n.aA.length→w.2[l]?=(room[l]?).map fun r=>r-if (l:Int)∈n.af[i] then v else 0) ?_ ?_ ⟨rfl,rfl,fun l _=>by simp⟩ ?_
  ·rintro k ⟨a,rm⟩ hk ⟨e,yV,Q6⟩
   obtain rfl:a=(k:Int):=e
   have HP:rm.length=room.length:=yV
   have hx:=eK _ (List.getElem_mem hk)
   have BE:(n.af[i][k]).toNat<n.aA.length:=by omega
   have Uo:(((n.af[i][k]).toNat:Nat):Int)=n.af[i][k]:=Int.toNat_of_nonneg hx.1
   have bQ:(n.af[i][k]).toNat<rm.length:=by rw[HP,h.rl]; omega
   obtain⟨r,hr,r0,r1,_⟩:=h.rm _ BE
   have Yl:rm[(n.af[i][k]).toNat]?=some r:=by
    have:=Q6 _ BE
    rw[hr,Uo,if_neg (KA hb mG hk)]at this
    simpa using this
   have w3:IntKind.i64.wrap (r-v)=r-v:=cP (by omega) (by omega)
   refine dU (aP i) (lJ gF (dU (cZ hk) (dU (aP i) (lJ gF (dU (aP k) (lJ (get_at hk) (dU (decide_eq_true hx.1) (dU (decide_eq_true bQ) (lJ (v:=r) (by rw[Nat.zero_add]; exact Yl) ?_)))))))))
   refine dU (aP i) (dU (decide_eq_true (by rw[Su,Int.toNat_natCast]; exact Un)) (lJ (v:=v) (by rw[dD,Nat.zero_add,Int.toNat_natCast,if_pos rfl]) (dU (decide_eq_true hx.1) (dU (decide_eq_true bQ) (lJ (v:=r) (by rw[Nat.zero_add]; exact Yl) ?_)))))
   rw[w3]
   refine dU (decide_eq_true (by rw[List.length_set]; exact HP)) ⟨_,rfl,_,rfl,dK (by omega),by show (rm.set _ _).length=_; rw[List.length_set]; exact HP,fun l hl=>?_⟩
   show (rm.set (0+(n.af[i][k]).toNat) (r-v))[l]?=_
   rw[Nat.zero_add,A8 bQ,List.take_succ_eq_append_getElem hk]
   by_cases e:l=(n.af[i][k]).toNat
   ·subst e
    rw[if_pos rfl,hr,Uo,if_pos (List.mem_append_right _ (List.mem_singleton.2 rfl))]
    rfl
   ·have dN:(l:Int)≠n.af[i][k]:=fun q=>e (by omega)
    rw[if_neg e,Q6 l hl]
    congr 1
    funext r'
    simp only[List.mem_append,List.mem_singleton,dN,or_false]
  ·rintro⟨a,rm⟩ ⟨e,yV,Q6⟩
   obtain rfl:a=(n.af[i].length:Int):=e
   exact dU (aP i) (lJ gF (CT (dJ _) (dU (decide_eq_true yV) ⟨_,rfl,_,rfl,yV,fun l hl=>by have:=Q6 l hl; rw[List.take_length]at this; exact this⟩)))
  ·rintro⟨a,rm⟩ ⟨yV,Q6⟩
   have HP:rm.length=room.length:=yV
   refine dU (decide_eq_true (by show rm.length=_; rw[HP,h.rl,VS])) (dU (decide_eq_true (by rw[Su,h.yl]; simp)) ⟨_,rfl,_,rfl,dK (by omega),?_⟩)
   show Pos n d (i+1) rm (y.set (0+(i:Int).toNat) v)
   refine⟨by rw[HP,h.rl],by rw[Su,h.yl],fun j hj=>?_,fun j MD Mb=>?_,fun l hl=>?_⟩
   ·rw[dD]
    by_cases e:j=i
    ·subst e
     refine⟨v,if_pos rfl,Ja,by omega,fun hh=>?_⟩
     have g1:=hk hh
     have g2:(v:Rat)≤(init:Rat):=by exact_mod_cast (show v≤init by omega)
     exact Rat.le_trans g2 g1
    ·rw[if_neg e]; exact h.yv j hj
   ·rw[dD,if_neg (by omega)]; exact h.y0 j (by omega) Mb
   ·obtain⟨r,hr,r0,r1,hs⟩:=h.rm l hl
    have o6:mX n l i=decide ((l:Int)∈n.af[i]):=by
     unfold mX
     rw[List.getElem?_eq_getElem hi]; rfl
    have Up:=h.y0 i (Nat.le_refl _) hi
    have PT:=KB (p:=mX n l) (x:=fun j=>((y[j]?.getD 0:Int):Rat)) (y:=fun j=>(((y.set (0+(i:Int).toNat) v)[j]?.getD 0:Int):Rat)) (i:=i) (v:=(v:Rat))
     (by simp only[dD,if_pos rfl,Up,Option.getD_some]; grind) (fun j hj=>by simp only[dD,if_neg hj]) hi
    have KC:=Q6 l hl
    rw[hr]at KC
    by_cases D7:(l:Int)∈n.af[i]
    ·rw[if_pos D7]at KC
     rw[PT,o6,decide_eq_true D7]
     obtain⟨t,ht,lW⟩:=List.getElem_of_mem D7
     obtain⟨r',kq,hle⟩:=hm t ht
     rw[lW,Int.toNat_natCast,hr]at kq
     obtain rfl:r=r':=Option.some.inj kq
     have Z9:m≤r:=hle
     refine⟨r-v,KC,by omega,by omega,?_⟩
     rw[←hs,Rat.intCast_sub]
     simp only[cond_true]
     grind
    ·rw[if_neg D7]at KC
     rw[PT,o6,decide_eq_false D7]
     refine⟨r-0,KC,by omega,by omega,?_⟩
     rw[←hs,Int.sub_zero]
     simp only[cond_false]
     grind
end Go.Proofs.Ytedjbjphpnkpoaa
end
section
/- Plain facts of this seat: the law MaxminNoMore. -/
set_option maxRecDepth 100000
set_option maxHeartbeats 1000000
namespace Go.Proofs.Ytedjbjphpnkpoaa
open Go.PI Go.Pl Go.Mm
theorem OM{m k:Nat}(h:m≤64)(hk:k≤8):(decide (((m:Nat):Int).toNat*k≤2^47)&&decide (((m:Nat):Int).toNat<2^62))=true:=by
 have:=Nat.mul_le_mul h hk
 simp only[Int.toNat_natCast,Bool.and_eq_true,decide_eq_true_eq]; omega
theorem C1{n:bN}(hb:vN n=true){parts:List Int}(hp:∀ y∈parts,0≤y∧y≤65535){d:Int}(h1:1≤d)(h2:d≤60):
  ∃ r,aa.je n parts d=some r∧∃ i room,Pos n d i room r:=by
 have hv:=CP hb
 have hF:=hv.nf
 have hL:=hv.nc
 unfold aa.je
 refine dU (OM (by omega) (Nat.le_refl _)) (A7 n.aA.length (fun k s=>s.1=(k:Int)∧s.2.length=n.aA.length∧∀ l,l<n.aA.length→s.2[l]?=some (if l<k then n.aA[l]?.getD 0*d else 0)) (fun w=>w.2.length=n.aA.length∧∀ l,l<n.aA.length→w.2[l]?=some (n.aA[l]?.getD 0*d)) ?_ ?_ ?_ ?_)
 ·rintro k ⟨a,s⟩ hk ⟨e,hl,hs⟩
  obtain rfl:a=(k:Int):=e
  have iQ:s.length=n.aA.length:=hl
  have hc:=hv.c _ (List.getElem_mem hk)
  have m1:=lI (a:=n.aA[k]) (b:=d) (by omega) (by omega) (by omega) (by omega)
  have w1:IntKind.i64.wrap (n.aA[k]*d)=n.aA[k]*d:=cP (by omega) (by omega)
  have Sv:k<s.length:=by omega
  refine dU (cZ hk) (dU (aP k) (lJ (get_at hk) (dU (aP k) (dU (decide_eq_true (by rw[Int.toNat_natCast]; exact Sv)) (lJ (v:=s[k]) (by rw[Nat.zero_add]; exact get_at Sv) ?_)))))
  rw[w1]
  refine dU (decide_eq_true (by rw[List.length_set,iQ,List.length_replicate,Int.toNat_natCast])) ⟨_,rfl,_,rfl,dK (by omega),by show (s.set _ _).length=_; rw[List.length_set]; exact iQ,fun l hl=>?_⟩
  show (s.set (0+(k:Int).toNat) (n.aA[k]*d))[l]?=_
  rw[Nat.zero_add,Int.toNat_natCast,A8 Sv]
  by_cases e:l=k
  ·subst e
   rw[if_pos rfl,if_pos (Nat.lt_succ_self _),List.getElem?_eq_getElem hk]; rfl
  ·rw[if_neg e,hs l hl]
   by_cases e2:l<k
   ·rw[if_pos e2,if_pos (by omega)]
   ·rw[if_neg e2,if_neg (by omega)]
 ·rintro⟨a,s⟩ ⟨e,hl,hs⟩
  obtain rfl:a=(n.aA.length:Int):=e
  have iQ:s.length=n.aA.length:=hl
  exact CT (dJ _) (dU (decide_eq_true (by rw[iQ,List.length_replicate,Int.toNat_natCast])) ⟨_,rfl,_,rfl,iQ,fun l hl=>by have:=hs l hl; rw[if_pos hl]at this; exact this⟩)
 ·refine⟨rfl,by show (List.replicate _ _).length=_; rw[List.length_replicate,Int.toNat_natCast],fun l hl=>?_⟩
  show (List.replicate _ _)[l]?=_
  rw[List.getElem?_replicate,Int.toNat_natCast,if_pos hl,if_neg (Nat.not_lt_zero _)]
 rintro⟨a,l6⟩ ⟨VS,hs6⟩
 have Nz:l6.length=n.aA.length:=VS
 have hz:∀ j:Nat,(List.replicate ((n.af.length:Nat):Int).toNat (0:Int))[j]?.getD 0=0:=fun j=>by
  rw[List.getElem?_replicate]; split<;>rfl
 refine dU (OM (by omega) (Nat.le_refl _)) (A7 (min n.af.length parts.length) (fun i s=>s.1=(i:Int)∧Pos n d i s.2.1 s.2.2) (fun w=>∃ i,Pos n d i w.2.1 w.2.2) ?_ ?_ ?_ ?_)
 ·rintro i ⟨a,room,y⟩ hi ⟨e,h⟩
  obtain rfl:a=(i:Int):=e
  have Uq:i<n.af.length:=by omega
  have VV:i<parts.length:=by omega
  obtain⟨k,gk,ek,eh,k0,k1⟩:=hv.lu Uq
  have Ym:n.aH[(i:Int).toNat]?=some k:=by rw[Int.toNat_natCast]; exact gk
  refine dU (cZ Uq) (dU (cZ VV) (dU (aP i) (lJ Ym ?_)))
  by_cases dT:0<k
  ·have m1:k*d≤1000*d:=Int.mul_le_mul_of_nonneg_right k1 (by omega)
   have m0:0≤k*d:=Int.mul_nonneg k0 (by omega)
   have w1:IntKind.i64.wrap (k*d)=k*d:=cP (by omega) (by omega)
   refine dU (decide_eq_true dT) (dU (aP i) (lJ Ym ?_))
   show ∃ r,GD n parts l6 (i:Int) room y (IntKind.i64.wrap (k*d))=some r∧_
   rw[w1]
   exact CZ hb hp Nz Uq VV h m0 (by omega) (fun _=>by rw[ek,Rat.intCast_mul]; exact Rat.le_refl)
  ·refine CT (decide_eq_false dT) ?_
   show ∃ r,GD n parts l6 (i:Int) room y (IntKind.i64.wrap (1000*d))=some r∧_
   rw[cP (n:=1000*d) (by omega) (by omega)]
   exact CZ hb hp Nz Uq VV h (by omega) (by omega) (fun hh=>by rw[eh]at hh; exact absurd (of_decide_eq_true hh) dT)
 ·rintro⟨a,room,y⟩ ⟨e,h⟩
  obtain rfl:a=((min n.af.length parts.length:Nat):Int):=e
  have hr:(decide (room.length=l6.length))=true:=decide_eq_true (by rw[h.rl,Nz])
  have hy:(decide (y.length=(List.replicate ((n.af.length:Nat):Int).toNat (0:Int)).length))=true:=decide_eq_true (by rw[h.yl,List.length_replicate,Int.toNat_natCast])
  by_cases hm:n.af.length≤parts.length
  ·exact CT (decide_eq_false (by omega)) (dU hr (dU hy ⟨_,rfl,_,rfl,_,h⟩))
  ·exact dU (decide_eq_true (by omega)) (CT (decide_eq_false (by omega)) (dU hr (dU hy ⟨_,rfl,_,rfl,_,h⟩)))
 ·refine⟨rfl,Nz,by show (List.replicate _ _).length=_; rw[List.length_replicate,Int.toNat_natCast],fun j hj=>?_,fun j _ hj=>?_,fun l hl=>?_⟩
  ·obtain⟨k,gk,ek,eh,k0,k1⟩:=hv.lu hj
   refine⟨0,?_,Int.le_refl _,by omega,fun _=>?_⟩
   ·show (List.replicate _ _)[j]?=_
    rw[List.getElem?_replicate,Int.toNat_natCast,if_pos hj]
   ·rw[ek,←Rat.intCast_mul]
    exact_mod_cast Int.mul_nonneg k0 (by omega)
  ·show (List.replicate _ _)[j]?=_
   rw[List.getElem?_replicate,Int.toNat_natCast,if_pos hj]
  ·obtain⟨hc,c0,c1⟩:=hv.cap hl
   have h6:=hs6 l hl
   have m1:n.aA[l]*d≤1000*d:=Int.mul_le_mul_of_nonneg_right c1 (by omega)
   have m0:0≤n.aA[l]*d:=Int.mul_nonneg c0 (by omega)
   rw[List.getElem?_eq_getElem hl]at h6
   refine⟨n.aA[l]*d,h6,m0,by omega,?_⟩
   show _+sm (mX n l) (fun j=>(((List.replicate ((n.af.length:Nat):Int).toNat (0:Int))[j]?.getD 0:Int):Rat)) _=_
   simp only[hz]
   rw[xI,hc,Rat.intCast_mul]
   simp[Rat.add_zero]
 ·rintro⟨a,room,y⟩ ⟨i,h⟩
  exact⟨_,rfl,i,room,h⟩
theorem GF(q:Rat):q*(q.den:Rat)=(q.num:Rat):=by
 have hd:((q.den:Nat):Rat)≠0:=fun e=>absurd (show q.den=0 by exact_mod_cast e) (by have:=q.den_pos; omega)
 have e:q=(q.num:Rat)/(q.den:Rat):=by rw[←Rat.mkRat_eq_div,Rat.mkRat_self]
 have e2:q*(q.den:Rat)=(q.num:Rat)/(q.den:Rat)*(q.den:Rat):=congrArg (·*(q.den:Rat)) e
 rw[e2,Rat.div_def,Rat.mul_assoc,Rat.inv_mul_cancel _ hd,Rat.mul_one]
theorem C2{q:Rat}(hf:fS q){v d:Int}(v0:0≤v)(v1:v≤60000)(h1:1≤d)(h2:d≤60):aa.eF (iR q) v d=some (q.num*d-v*(q.den:Int)):=by
 unfold aa.eF
 have dq:=n7 hf
 have m1:=lI hf.1 hf.2.1 (b:=d) (by omega) (by omega)
 have m2:=lI (a:=v) (b:=(q.den:Int)) (by omega) (by omega) (by omega) (by omega)
 show some (IntKind.i64.wrap (IntKind.i64.wrap (q.num*d)-IntKind.i64.wrap (v*(q.den:Int))))=_
 rw[cP (n:=q.num*d) (by omega) (by omega),cP (n:=v*(q.den:Int)) (by omega) (by omega),cP (by omega) (by omega)]
theorem P5{q:Rat}{v d:Int}:q.num*d<v*(q.den:Int)↔q*(d:Rat)<(v:Rat):=by
 have hd:(0:Rat)<(q.den:Rat):=by exact_mod_cast q.den_pos
 rw[←Rat.mul_lt_mul_right hd,show q*(d:Rat)*(q.den:Rat)=(q.num:Rat)*(d:Rat) by rw[←GF q]; grind]
 exact_mod_cast Iff.rfl
theorem P6{q:Rat}{v d:Int}:v*(q.den:Int)<q.num*d↔(v:Rat)<q*(d:Rat):=by
 have hd:(0:Rat)<(q.den:Rat):=by exact_mod_cast q.den_pos
 rw[←Rat.mul_lt_mul_right hd (a:=(v:Rat)),show q*(d:Rat)*(q.den:Rat)=(q.num:Rat)*(d:Rat) by rw[←GF q]; grind]
 exact_mod_cast Iff.rfl
theorem A9(n:bN)(parts:List Int)(jf:Int)(hw:n.af.length≤2^63-1)(hp:∀ y∈parts,0≤y∧y≤65535)(hd:0≤jf∧jf≤255):aa.eZ n parts jf=some true:=by
 unfold aa.eZ
 obtain⟨b2,hf,hlen⟩:=Sf n hw
 refine bB (v:=true) rfl (bB hf ?_)
 cases b2 with
 |false=>rfl
 |true=>
 obtain⟨_,_,_,h4⟩:=hlen rfl
 refine bT rfl (bB (Kq fun l hl=>by have:=h4 l hl; omega) ?_)
 cases hb:vN n with
 |false=>rfl
 |true=>
 have hv:=CP hb
 have hF:=hv.nf
 obtain⟨d,hde,d1,d2⟩:∃ d,IntKind.i64.wrap (1+(IntKind.i64.wrap jf).tmod 60)=d∧1≤d∧d≤60:=by
  have t0:=Int.tmod_nonneg (a:=jf) 60 hd.1
  have t1:=Int.tmod_lt_of_pos jf (show (0:Int)<60 by omega)
  refine⟨_,rfl,?_,?_⟩<;>rw[cP (n:=jf) (by omega) (by omega),cP (by omega) (by omega)]<;>omega
 obtain⟨ys,hpe,i0,room,dT⟩:=C1 hb hp d1 d2
 obtain⟨xs,x,hx⟩:=Fi hb
 rw[hde]
 have Hw:=hx.len
 have M1:=dT.yl
 have Sw:(0:Rat)<(d:Rat):=by exact_mod_cast d1
 obtain⟨e,he⟩:∃ e:Rat,e*(d:Rat)=1:=⟨(d:Rat)⁻¹,Rat.inv_mul_cancel _ fun h=>by rw[h]at Sw; exact absurd Sw (Rat.lt_irrefl)⟩
 have QW:0≤e:=by
  apply Classical.byContradiction
  intro hc
  have:=Rat.mul_lt_mul_of_pos_right (a:=e) (b:=0) (by grind) Sw
  rw[he,Rat.zero_mul]at this
  exact absurd this (by decide)
 have Sx:∀ a b:Rat,a<e*b↔a*(d:Rat)<b:=fun a b=>by
  rw[←Rat.mul_lt_mul_right Sw (b:=e*b),show e*b*(d:Rat)=b by grind]
 have Sy:∀ a b:Rat,e*b<a↔b<a*(d:Rat):=fun a b=>by
  rw[←Rat.mul_lt_mul_right Sw (a:=e*b),show e*b*(d:Rat)=b by grind]
 have Sz:∀ a b:Rat,b≤a*(d:Rat)→e*b≤a:=fun a b h=>by
  apply Rat.not_lt.1
  intro hc
  have:=(Sx a b).1 hc
  grind
 let vv:Nat→Int:=fun j=>ys[j]?.getD 0
 have Q7:∀ j,j<n.af.length→ys[j]?=some (vv j)∧0≤vv j∧vv j≤60000∧((ca n).has j=true→((vv j:Int):Rat)≤(ca n).k j*(d:Rat)):=fun j hj=>by
  obtain⟨v,h1,h2⟩:=dT.yv j hj
  have h3:vv j=v:=by show ys[j]?.getD 0=v; rw[h1]; rfl
  rw[h3]; exact⟨h1,h2⟩
 have Uc:PR (ca n) (fun j=>e*((vv j:Int):Rat)):=by
  refine⟨fun j hj=>Rat.mul_nonneg QW (by exact_mod_cast (Q7 j hj).2.1),fun j hj hh=>Sz _ _ ((Q7 j hj).2.2.2 hh),fun l hl=>?_⟩
  obtain⟨r,_,r0,_,hr⟩:=dT.rm l hl
  show sm (mX n l) (fun j=>e*((vv j:Int):Rat)) n.af.length≤_
  rw[CM]
  apply Sz
  have BZ:(0:Rat)≤(r:Rat):=by exact_mod_cast r0
  have kq:(r:Rat)+sm (mX n l) (fun j=>((vv j:Int):Rat)) n.af.length=(ca n).c l*(d:Rat):=hr
  grind
 have cmp:∀ j,j<n.af.length→aa.eF (iR (x j)) (vv j) d=some ((x j).num*d-vv j*((x j).den:Int)):=fun j hj=>C2 (hx.fit j hj).1 (Q7 j hj).2.1 (Q7 j hj).2.2.1 d1 d2
 refine bF rfl (bB hpe (bB hx.e (bF rfl (bF (by rw[Hw,M1]; simp) ?_))))
 refine bB (v:=(true,(xs.length:Int))) (eD (fun i=>(true,(i:Int))) xs.length _ (fun i hi=>?_) (bF (dJ _) rfl) rfl) rfl
 have qZ:i<n.af.length:=by omega
 refine bT (cZ hi) (bT (aP i) (bB (v:=iR (x i)) (by rw[Int.toNat_natCast]; exact hx.get i qZ) (bT (aP i) (bB (v:=vv i) (by rw[Int.toNat_natCast]; exact(Q7 i qZ).1) (bB (cmp i qZ) ?_)))))
 by_cases hc:0≤(x i).num*d-vv i*((x i).den:Int)
 ·exact bT (decide_eq_true hc) (by rw[dK (by omega)])
 ·refine bF (decide_eq_false hc) ?_
  have bQ:x i<e*((vv i:Int):Rat):=(Sx _ _).2 (P5.1 (by omega))
  obtain⟨j,hj,MD,Mb⟩:=Nj hx.fair Uc qZ bQ
  let HQ:Nat→Bool:=fun k=>bif decide (tq (x k) (x i)≤0) then decide (0<(x k).num*d-vv k*((x k).den:Int)) else false
  have SA:HQ j=true:=by
   show (bif decide (tq (x j) (x i)≤0) then _ else _)=true
   have hle:tq (x j) (x i)≤0:=by
    unfold tq
    split
    ·decide
    ·rw[if_neg (Rat.not_lt.2 MD)]; decide
   rw[decide_eq_true hle]
   have:=P6.2 ((Sy _ _).1 Mb)
   exact decide_eq_true (by omega)
  refine bB (v:=(true,(xs.length:Int))) (eD (fun k=>((List.range k).any HQ,(k:Int))) xs.length _ (fun k hk=>?_) (bF (dJ _) ?_) rfl) (bT rfl (by rw[dK (by omega)]))
  ·have BG:k<n.af.length:=by omega
   have hs:(List.range (k+1)).any HQ=((List.range k).any HQ||HQ k):=by rw[List.range_succ,List.any_append]; simp
   refine bT (cZ hk) (bT (aP k) (bB (v:=iR (x k)) (by rw[Int.toNat_natCast]; exact hx.get k BG) (bT (aP i) (bB (v:=iR (x i)) (by rw[Int.toNat_natCast]; exact hx.get i qZ) (bB (Ny (hx.fit k BG).1 (hx.fit i qZ).1) ?_)))))
   rw[hs]
   cases (List.range k).any HQ with
   |true=>exact bT rfl (by rw[dK (by omega)]; rfl)
   |false=>
    refine bF rfl ?_
    by_cases h5:tq (x k) (x i)≤0
    ·refine bT (decide_eq_true h5) (bT (aP k) (bB (v:=iR (x k)) (by rw[Int.toNat_natCast]; exact hx.get k BG) (bT (aP k) (bB (v:=vv k) (by rw[Int.toNat_natCast]; exact(Q7 k BG).1) (bB (cmp k BG) ?_)))))
     show some (Sum.inl (decide _,_))=some (Sum.inl (bif decide (tq (x k) (x i)≤0) then _ else _,_))
     rw[decide_eq_true h5,dK (by omega)]; rfl
    ·refine bF (decide_eq_false h5) ?_
     show some (Sum.inl (false,_))=some (Sum.inl (bif decide (tq (x k) (x i)≤0) then _ else _,_))
     rw[decide_eq_false h5,dK (by omega)]; rfl
  ·rw[List.any_eq_true.2 ⟨j,List.mem_range.2 (by rw[Hw]; exact hj),SA⟩]
end Go.Proofs.Ytedjbjphpnkpoaa
end
section
/- The law MaxminNoMore: its row. -/
namespace Go.Proofs.Ytedjbjphpnkpoaa.tP
open Go.PI Go.ChangeShapes Go.WideShapes Go.ChangeAt Go.RowKit
theorem own:ownKnob Try.prog.godebug=none:=by kernel_rfl
theorem laidOut:laidOutB Try.prog=true:=by kernel_rfl
theorem okWide_struct{P:Program}{w:World}{r:Reach}{base:Nat}{t:TypeId}{v:Value}{fs:Array Field}(ht:P.underlying t=some (.struct fs))(h:Value.okWide P w r base t v):∃ cs,v=.agg cs:=by
 unfold Value.okWide at h
 rw[ht]at h
 obtain⟨cs,h,_⟩:=h
 exact⟨cs,h⟩
theorem N2{E:Env}{l:List AV}{cs:Array Value}(h:aF E false l (Value.agg cs).cells.toList):ai E false (.agg l) (.agg cs):=by
 simp only[ai]
 exact⟨cs.toList,by simp,by simpa[Value.cells] using h⟩
theorem Im{E:Env}{l:List AV}{a:Option Addr}{len cap:Nat}(h:aF E false l (Value.slice a len cap).cells.toList){x:AV}(hl:l=[x]):ai E false x (.slice a len cap):=by
 subst hl
 have h2:ai E false x (Value.slice a len cap)∧ir (Value.slice a len cap)=true:=by simpa[Value.cells,aF] using h
 exact h2.1
set_option maxRecDepth 100000 in
theorem walk(W:World)(Ti:Array Value)(Tj:Option Addr)(Lv Lw:Nat)(a2:Int){l0:List AV}{l1:List AV}(e0:aF (Env.all W) false l0 (Value.agg Ti:Value).cells.toList)(e1:aF (Env.all W) false l1 (Value.slice Tj Lv Lw:Value).cells.toList){n0:Nat}(s0:Shape Try.prog n0 25 l0){n1:Nat}(s1:Shape Try.prog n1 36 l1)(WU:(Lit.int .u8 a2).wf=true):Calls Try.prog 5 #[.agg Ti,.slice Tj Lv Lw,.int .u8 a2] W fun e w'=>e=.returned (.bool true)∧Below W.heap.size W w':=by
 obtain⟨x0,w0,r0⟩:=W1 (il (show Try.prog.underlying 25=Try.prog.underlying 24 by kernel_rfl) s0)
 obtain⟨x1,w1,b1,rb,r1⟩:=W2 s1
 have hs:pZ C T 5 ⟨[25,36,5],[4],fun x=>Go.aa.eZ x.1 x.2.1 x.2.2⟩:=N1 s53 rfl
 refine Lu Cok hs rfl (x:=(x0,x1,a2)) (y:=true) (A9 x0 x1 a2 (Nat.le_trans w0.2.1.1 (by decide)) (fun y hy=>w1.2 y hy) (by simpa[Lit.wf,IntKind.min,IntKind.max,IntKind.signed,IntKind.bits] using WU)) ?_ («as»:=[.agg l0,b1,.lit (.int .u8 a2)]) ⟨r0,r1,rfl,trivial⟩ (show mD (Env.all W) from fun b c h=>by cases h) (vs:=[.agg Ti,.slice Tj Lv Lw,.int .u8 a2]) ?_
 ·intro l hl
  match l,hl with
  |[a],hl=>have:a=.lit (.bool true):=hl.1; rw[this]
  |[],hl=>exact False.elim hl
  |_::_::_,hl=>exact False.elim hl.2
 ·simp only[an]
  exact⟨N2 e0,Im e1 rb,by simp[ai],trivial⟩
set_option maxRecDepth 100000 in
theorem lifted(os:Os)(started:os.Started)(H:Type)(enc:TypeId×Value→H):
  ReturnsInHanded {} Try.checked os 5 .any (Rows.maxminNoMoreSpec.pre6 enc Try.prog Try.f5 Rows.maxminNoMoreRow.domain false) (Rows.maxminNoMoreSpec.post enc Try.prog Try.f5 false true false false):=by
 refine returnsInHanded_of_change_sized (C:=Try.checked) own started (by kernel_rfl) Try.func5
  (ChangeSpec.witness6 (enc:=enc) (C:=Try.checked) false ⟨#[],#[.agg #[.slice none 0 0,.slice none 0 0,.slice none 0 0],.slice none 0 0,.int .u8 0],[]⟩ 8 (by kernel_rfl) (by kernel_rfl) (by kernel_rfl) (by kernel_rfl)) ?_
 intro W base args ds gs before O5 hW I6 W3 _
 have N3:∀ (j:Nat) t v,Try.f5.params[j]?=some t→args[j]?=some v→Value.okWide Try.prog W .any base t v:=O5
 have hW':=hW
 obtain⟨p,q,YP,hV,rfl,MB,zO⟩:=hW
 have hA:DataW.TrodAll enc Try.prog W 0 (fun _=>true) true Try.f5.params.toList args.toList ds p:=YP
 rw[Try.params5]at hA N3
 obtain⟨v0,vs0,d0,ds0,p0,q0,jb,rfl,rfl,h0,r0⟩:=trodAll_cons hA
 obtain⟨v1,vs1,d1,ds1,p1,q1,rfl,rfl,rfl,h1,r1⟩:=trodAll_cons r0
 obtain⟨v2,vs2,d2,ds2,p2,q2,rfl,rfl,rfl,h2,r2⟩:=trodAll_cons r1
 obtain⟨rfl,rfl,rfl⟩:=trodAll_nil r2
 obtain rfl:args=#[v0,v1,v2]:=by cases args; simp_all
 obtain⟨rfl,rfl⟩:=trodVars_none hV
 obtain⟨Ti,rfl⟩:=okWide_struct Try.underlying25 (N3 0 25 v0 rfl rfl)
 obtain⟨Tj,Lv,Lw,rfl⟩:=Go.WideShapes.okWide_slice Try.underlying36 (N3 1 36 v1 rfl rfl)
 obtain⟨a2,rfl,rfl,rfl,w2⟩:=open_int Try.underlying5 (N3 2 5 v2 rfl rfl) h2
 have k0:=h0
 have lt0:∀ x∈p0,x.block<W.heap.size:=by obtain⟨m,hm⟩:=k0; exact DataW.trod_lt m _ _ _ hm
 have k1:=h1
 have lt1:∀ x∈p1,x.block<W.heap.size:=by obtain⟨m,hm⟩:=k1; exact DataW.trod_lt m _ _ _ hm
 obtain⟨f0,hf0⟩:=h0
 obtain⟨l0,e0,s0⟩:=F5 f0 10 25 _ _ (by kernel_rfl) hf0
 obtain⟨f1,qQ⟩:=h1
 obtain⟨l1,e1,s1⟩:=F5 f1 10 36 _ _ (by kernel_rfl) qQ
 clear YP O5 W3
 refine(walk W Ti Tj Lv Lw a2 e0 e1 s0 s1 w2).mono fun e W' ⟨he,W4⟩=>?_
 subst he
 exact⟨_,rfl,_,_,_,[],_,[],hW',trodAll_mk1 (shut_bool Try.underlying4 _),(trodAll_cons_mk (Below.trod laidOut (by kernel_rfl) (of_decide_eq_true (by kernel_rfl)) k0 W4 lt0) (trodAll_cons_mk (Below.trod laidOut (by kernel_rfl) (of_decide_eq_true (by kernel_rfl)) k1 W4 lt1) (trodAll_cons_mk (shut_int Try.underlying5 w2) trodAll_mk0))),rfl,W4.frame _,fun h=>by cases h⟩
theorem gO:Rows.maxminNoMoreRow.holds Try.pinned (OpenSpec.ofChange Rows.maxminNoMoreSpec):=
 OpenClaim.holds_of_wide 5 Try.f5 rfl rfl rfl rfl rfl rfl rfl ⟨rfl,rfl,rfl,rfl,rfl⟩ rfl rfl rfl rfl rfl (by kernel_rfl) Try.func5 (by kernel_rfl)
  (of_decide_eq_true (by kernel_rfl)) (by unfold Func.isWrapper; first|(rw[if_pos (by decide +kernel)]; kernel_rfl)|(rw[if_neg (by decide +kernel)]; exact⟨rfl,rfl⟩))
  (fun os started H enc _=>lifted os started H enc)
theorem proved:Rows.MaxminNoMoreSaid:=gO
end Go.Proofs.Ytedjbjphpnkpoaa.tP
namespace Go.Proofs.Ytedjbjphpnkpoaa
theorem maxminNoMore_holds:Rows.MaxminNoMoreSaid:=tP.proved
end Go.Proofs.Ytedjbjphpnkpoaa
end
