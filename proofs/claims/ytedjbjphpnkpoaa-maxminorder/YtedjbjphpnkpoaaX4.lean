/- Part 4 of the proof: texts of this session laid one behind the other. -/
import Derived.KernelRfl
import Derived.IntWalk
import Derived.Test.YtedjbjphpnkpoaaX3
set_option linter.unusedVariables false
set_option linter.unusedSimpArgs false
section
/- PS, part N: states with variables. -/
namespace Go.PI
variable {T:dk}{ρ:Type}
def jm{den:Nat→Type}(H:ah den)(n:Nat):Option Nat:=
 match H[n]? with
 |some (some o)=>some o.cur
 |_=>none
theorem oA{den:Nat→Type}{H:ah den}{n:Nat}{o:aD den}(h:H[n]?=some (some o)):jm H n=some o.cur:=by simp[jm,h]
theorem qK{den:Nat→Type}{H:ah den}{n c:Nat}(h:jm H n=some c):∃ o,H[n]?=some (some o)∧o.cur=c:=by
 grind[jm]
def DE{den:Nat→Type}(ok:Nat→Prop)(Hs Hf:ah den):Prop:=∀ (n:Nat) (o:aD den),ok n→Hs[n]?=some (some o)→∃ of:aD den,Hf[n]?=some (some of)∧of.len=o.len
section
variable {Hs Hf Hc:ah T.den}{ok:Nat→Prop}
theorem SX{H:ah T.den}{v:SV T.den}{k:IntKind}{m:Int}(h:R T H v (.lit (.int k m))):v=.lit (.int k m):=by
 cases v with
 |lit w=>simp_all[R,AV.lit.injEq]
 |bp esz n c rg cap=>
  grind[R]
 |rW v st ln i=>
  simp only[R]at h
  obtain⟨_,_,_,h⟩:=h
  rcases h with ⟨_,_,_,_,_,h⟩|⟨_,_,_,h⟩<;>cases h
 |_=>simp[R]at h
theorem FI[ab](hT:T.Ok){H:ah T.den}{t m:Nat}{x:T.den t}(h:T.dn t (.lit (.int .i64 m))=some x):H3 T ⟨.v t,x⟩=m:=by
 have h1:=hT.dn _ _ _ (.lit (.int .i64 m)) H h (by simp[R])
 have h2:=SX (hT.up _ _ _ H h1)
 show (match T.up t x with|.lit (.int _ m)=>m.toNat|_=>0)=m
 rw[h2]
 simp
theorem sy[ab](hT:T.Ok)(qV:∀ n,jm Hc n=jm Hf n)(hlen:DE ok Hs Hf){p:oW}(bN:∀ n,n∈p.kc→ok n){v:SV T.den}{a:AV}(hv:RV T Hs v a){ln:List (TV T.den)}(h:fw Hs p v=some ln)(rest:List (TV T.den)):
  ∃ v',fI Hc p (ln++rest)=(v',rest)∧R T Hf v' a∧(aF v=true→aF v'=true):=by
 cases p with
 |hole=>
  simp only[fw]at h
  split at h
  case h_2=>simp at h
  rename_i hh
  simp only[Option.some.injEq]at h
  subst h
  unfold isHole at hh
  split at hh
  case h_2=>simp at hh
  have hv:=hv.live rfl
  simp only[R]at hv
  subst hv
  exact⟨.hole,rfl,by simp[R],fun h=>h⟩
 |val t=>
  simp only[fw]at h
  split at h
  ·simp at h
  rename_i hd
  split at h
  case h_2=>simp at h
  rename_i x hx
  simp only[Option.some.injEq]at h
  subst h
  have Ei:=hT.dn _ _ _ _ Hs hx (hv.live hd)
  exact⟨T.up t x,rfl,hT.up _ _ _ Hf Ei,fun _=>uZ hT Ei⟩
 |HY esz n rg cap=>
  simp only[fw]at h
  split at h
  case h_2=>simp at h
  rename_i x8 n' c VM Fy
  have hv:=hv.live rfl
  split at h
  case h_2=>simp at h
  rename_i o ho
  split at h
  case isFalse=>simp at h
  rename_i hc
  obtain⟨rfl,rfl,rfl,rfl,rfl⟩:=hc
  simp only[Option.some.injEq]at h
  subst h
  obtain⟨of,Lj,FJ⟩:=hlen _ _ (bN _ (by simp[oW.kc])) ho
  have mY:=qV n'
  rw[oA Lj]at mY
  obtain⟨oc,BP,Qy⟩:=qK mY
  refine⟨.bp x8 n' oc.cur VM Fy,?_,?_,fun h=>by simp[aF]at h⟩
  ·simp only[fI,BP,List.nil_append]
  ·simp only[R]at hv ⊢
   obtain⟨aq,⟨o',h1,_,h3⟩,ha⟩:=hv
   rw[ho]at h1
   simp only[Option.some.injEq]at h1
   subst h1
   exact⟨aq,⟨of,Lj,by omega,fun _=>by rw[h3 rfl,FJ]⟩,ha⟩
 |im n i j len cap=>
  simp only[fw]at h
  split at h
  case h_2=>simp at h
  rename_i n' c i' j' NL Fy
  have hv:=hv.live rfl
  split at h
  case h_2=>simp at h
  rename_i o ho
  split at h
  case isFalse=>simp at h
  rename_i hc
  obtain⟨rfl,rfl,rfl,rfl,rfl,rfl⟩:=hc
  simp only[Option.some.injEq]at h
  subst h
  obtain⟨of,Lj,FJ⟩:=hlen _ _ (bN _ (by simp[oW.kc])) ho
  have mY:=qV n'
  rw[oA Lj]at mY
  obtain⟨oc,BP,Qy⟩:=qK mY
  refine⟨.im n' oc.cur i' j' NL Fy,?_,?_,fun h=>by simp[aF]at h⟩
  ·simp only[fI,BP,List.nil_append]
  ·simp only[R]at hv ⊢
   obtain⟨aq,ha,⟨o',h1,_,h3⟩⟩:=hv
   rw[ho]at h1
   simp only[Option.some.injEq]at h1
   subst h1
   exact⟨aq,ha,⟨of,Lj,by omega,fun _=>by rw[h3 rfl,FJ]⟩⟩
 |own esz n=>
  simp only[fw]at h
  split at h
  case h_2=>simp at h
  rename_i x8 n' c
  have hv:=hv.live rfl
  split at h
  case h_2=>simp at h
  rename_i o ho
  split at h
  case isFalse=>simp at h
  rename_i hc
  obtain⟨rfl,rfl,rfl⟩:=hc
  simp only[Option.some.injEq]at h
  subst h
  obtain⟨of,Lj,FJ⟩:=hlen _ _ (bN _ (by simp[oW.kc])) ho
  have mY:=qV n'
  rw[oA Lj]at mY
  obtain⟨oc,BP,Qy⟩:=qK mY
  refine⟨.bp x8 n' oc.cur none none,?_,?_,fun h=>by simp[aF]at h⟩
  ·simp only[fI,BP,List.nil_append]
  ·simp only[R]at hv ⊢
   obtain⟨aq,⟨o',h1,_,h3⟩,rfl⟩:=hv
   rw[ho]at h1
   simp only[Option.some.injEq]at h1
   subst h1
   exact⟨aq,⟨of,Lj,by omega,fun _=>by rw[h3 rfl,FJ]⟩,rfl⟩
 |Q9 esz n t k=>
  simp only[fw]at h
  split at h
  case h_2=>simp at h
  rename_i x8 n' c rg cap
  have hv:=hv.live rfl
  split at h
  case h_2=>simp at h
  rename_i o off len ho hr
  split at h
  case isFalse=>simp at h
  rename_i hc
  obtain⟨rfl,rfl,rfl⟩:=hc
  obtain⟨of,Lj,FJ⟩:=hlen _ _ (bN _ (by simp[oW.kc])) ho
  have mY:=qV n'
  rw[oA Lj]at mY
  obtain⟨oc,BP,Qy⟩:=qK mY
  have hR:R T Hf (.bp x8 n' oc.cur (some (off,len)) cap) a:=by
   simp only[R]at hv ⊢
   obtain⟨aq,⟨o',h1,_,h3⟩,ha⟩:=hv
   rw[ho]at h1
   simp only[Option.some.injEq]at h1
   subst h1
   refine⟨aq,⟨of,Lj,by omega,fun _=>by rw[h3 rfl,FJ]⟩,?_⟩
   cases rg with
   |some q=>
    simp_all[mR]
   |none=>
    have hb:Nat.beq o.cur o.cur=true:=by simp
    simp only[mR,ho,hb,if_true,Option.some.injEq,Prod.mk.injEq]at hr
    obtain⟨rfl,rfl⟩:=hr
    rw[←h3 rfl]
    exact ha
  rw[Option.bind_eq_some_iff]at h
  obtain⟨x,hx,h⟩:=h
  rw[Option.bind_eq_some_iff]at h
  obtain⟨y,hy,h⟩:=h
  have ex:=FI hT (H:=Hs) hx
  have ey:=FI hT (H:=Hs) hy
  split at h
  ·simp only[Option.some.injEq]at h
   subst h
   exact⟨_,by simp only[fI,List.cons_append,List.nil_append,BP,ex,ey],hR,fun h=>by simp[aF]at h⟩
  ·obtain⟨z,hz,hl⟩:∃ z,T.dn t (.lit (.int .i64 _))=some z∧_=ln:=Option.map_eq_some_iff.1 h
   subst hl
   have ez:=FI hT (H:=Hs) hz
   exact⟨_,by simp only[fI,List.cons_append,List.nil_append,BP,ex,ey,ez],hR,fun h=>by simp[aF]at h⟩
  ·simp at h
theorem we[ab](hT:T.Ok)(qV:∀ n,jm Hc n=jm Hf n)(hlen:DE ok Hs Hf):∀ {ps:List oW} {vs:List (SV T.den)} {as:List AV} {ln:List (TV T.den)},(∀ n,n∈ps.flatMap oW.kc→ok n)→RL T Hs vs as→hX Hs ps vs=some ln→∀ rest:List (TV T.den),
  ∃ vs',jg Hc ps (ln++rest)=(vs',rest)∧RL T Hf vs' as∧(av vs=true→av vs'=true)
 |[],[],[],ln,_,_,h,rest=>by
  simp only[hX,Option.some.injEq]at h
  subst h
  exact⟨[],rfl,by simp[RL],fun _=>rfl⟩
 |p::ps,v::vs,a::as,ln,bN,hr,h,rest=>by
  simp only[RL]at hr
  simp only[hX,Option.bind_eq_some_iff,Option.map_eq_some_iff]at h
  obtain⟨l1,h1,l2,h2,rfl⟩:=h
  obtain⟨v',e1,e2,e3⟩:=sy hT qV hlen (fun n hn=>bN n (by simp[hn])) (.inr hr.1) h1 (l2++rest)
  obtain⟨vs',g1,g2,g3⟩:=we hT qV hlen (fun n hn=>bN n (by simp only[List.flatMap_cons,List.mem_append]; exact .inr hn)) hr.2 h2 rest
  refine⟨v'::vs',?_,by simp only[RL]; exact⟨e2,g2⟩,fun hc=>?_⟩
  ·simp_all[jg]
  ·simp_all[av]
 |[],_::_,_,_,_,_,h,_=>by simp[hX]at h
 |_::_,[],_,_,_,_,h,_=>by simp[hX]at h
 |_,[],_::_,_,_,h,_,_=>by simp[RL]at h
 |_,_::_,[],_,_,h,_,_=>by simp[RL]at h
end
def Compat{T:dk}(o:aD T.den):cP→Prop
 |.list t=>∃ g f c l,o=.bX g f c t l
 |.fix t=>∃ g f c l,o=.bX g f c t l
 |.one _=>∃ g cl f c es,o=.arr g cl f c es
 |.agg _=>∃ g cl f c es,o=.arr g cl f c es
 |.map kk t=>∃ m,o=.kb kk t m
section
variable {Hs Hf Hc:ah T.den}{ok:Nat→Prop}
theorem tN[ab](hT:T.Ok){os:aD T.den}{t:Nat}{ln:List (TV T.den)}(h:dY Hs os (.list t)=some ln∨dY Hs os (.fix t)=some ln):
  ∃ l:List (T.den t),ln=[⟨.l t,l⟩]∧l.length=os.len∧os.flags.2.1=true∧∀ a,RO T Hs os a→∃ es,a=.arr os.flags.1 true os.flags.2.2 es∧aw (T.rp t) l es:=by
 have h2:dY Hs os (.list t)=some ln:=h.elim id id
 clear h
 have h:=h2
 clear h2
 unfold dY at h
 simp only at h
 split at h
 ·rename_i g f c t' l
  split at h
  case isFalse=>simp at h
  rename_i ht
  subst ht
  refine⟨l,(Option.some.inj h).symm,rfl,rfl,fun a ha=>?_⟩
  obtain⟨es,rfl,cC⟩:=ha
  exact⟨es,rfl,cC⟩
 ·rename_i g f c es
  cases hd:oM T t es with
  |none=>rw[hd]at h; cases h
  |some l=>
   rw[hd]at h
   refine⟨l,(Option.some.inj h).symm,?_,rfl,fun a ha=>?_⟩
   ·have:∀ {l:List (T.den t)} {es:List (SV T.den)},oM T t es=some l→l.length=es.length:=by
     intro l es
     induction es generalizing l with
     |nil=>simp_all[oM]
     |cons x xs ih=>
      intro h
      simp only[oM,Option.bind_eq_some_iff,Option.map_eq_some_iff]at h
      obtain⟨_,_,y,hy,rfl⟩:=h
      simp[ih hy]
    exact this hd
   ·obtain⟨es',rfl,cC,_⟩:=ha
    exact⟨es',rfl,pZ hT cC hd⟩
 ·simp at h
theorem tO{os:aD T.den}{kk:KK}{t:Nat}{ln:List (TV T.den)}(h:dY Hs os (.map kk t)=some ln):∃ m,os=.kb kk t m∧ln=[⟨.m kk t,m⟩]:=by
 unfold dY at h
 simp only at h
 split at h
 case h_2=>simp at h
 rename_i qO t' m
 split at h
 case isFalse=>simp at h
 rename_i hc
 obtain⟨rfl,rfl⟩:=hc
 exact⟨m,rfl,(Option.some.inj h).symm⟩
theorem zk[ab](hT:T.Ok){o os:aD T.den}{p:cP}(hc:Compat o p){ln:List (TV T.den)}(h:dY Hs os p=some ln)(rest:List (TV T.den))
  (hp:∀ q (v:SV T.den) l,fw Hs q v=some l→∀ rest,(fI Hc q (l++rest)).2=rest) :
  ∃ o',jh Hc o p (ln++rest)=(o',rest)∧o'.cur=o.cur∧o'.len=os.len:=by
 have NX:∀ (ps:List oW) (vs:List (SV T.den)) l,hX Hs ps vs=some l→∀ rest,(jg Hc ps (l++rest)).2=rest:=by
  intro ps
  induction ps with
  |nil=>
   intro vs l hl rest
   cases vs with
   |nil=>simp[hX]at hl; subst hl; rfl
   |cons=>simp[hX]at hl
  |cons q ps ih=>
   intro vs l hl rest
   cases vs with
   |nil=>simp[hX]at hl
   |cons v vs=>
    simp only[hX,Option.bind_eq_some_iff,Option.map_eq_some_iff]at hl
    obtain⟨l1,h1,l2,h2,rfl⟩:=hl
    have e1:=hp q v l1 h1 (l2++rest)
    have e2:=ih vs l2 h2 rest
    simp only[jg,List.append_assoc]
    rw[e1]
    exact e2
 cases p with
 |list t=>
  obtain⟨g,f,c,l0,rfl⟩:=hc
  obtain⟨l,rfl,hl,_⟩:=tN hT (.inl h)
  exact⟨.bX g f c t l,rfl,rfl,hl⟩
 |fix t=>
  obtain⟨g,f,c,l0,rfl⟩:=hc
  obtain⟨l,rfl,hl,_⟩:=tN hT (.inr h)
  exact⟨.bX g f c t l,rfl,rfl,hl⟩
 |one q=>
  obtain⟨g,cl,f,c,es,rfl⟩:=hc
  simp only[dY]at h
  split at h
  case h_2=>simp at h
  rename_i v
  have e:=hp q v ln h rest
  refine⟨.arr g cl f c [(fI Hc q (ln++rest)).1],?_,rfl,rfl⟩
  have e2:fI Hc q (ln++rest)=((fI Hc q (ln++rest)).1,rest):=Prod.ext rfl e
  simp only[jh]
  rw[e2]
 |agg ps=>
  obtain⟨g,cl,f,c,es,rfl⟩:=hc
  simp only[dY]at h
  split at h
  case h_2=>simp at h
  rename_i vs
  have e:=NX ps vs ln h rest
  refine⟨.arr g cl f c [.agg (jg Hc ps (ln++rest)).1],?_,rfl,rfl⟩
  have e2:jg Hc ps (ln++rest)=((jg Hc ps (ln++rest)).1,rest):=Prod.ext rfl e
  simp only[jh]
  rw[e2]
 |map kk t=>
  obtain⟨m0,rfl⟩:=hc
  obtain⟨m,rfl,rfl⟩:=tO h
  exact⟨.kb kk t m,rfl,rfl,rfl⟩
theorem yA[ab](hT:T.Ok)(qV:∀ n,jm Hc n=jm Hf n)(hlen:DE ok Hs Hf){o os o':aD T.den}{p:cP}(bN:∀ n,n∈p.kc→ok n)(hc:Compat o p){ln:List (TV T.den)}(h:dY Hs os p=some ln){rest:List (TV T.den)}
  (ho:jh Hc o p (ln++rest)=(o',rest)) (rN:o.flags.1=os.flags.1) (hG:o.flags.2.1=os.flags.2.1) (Mr:o.flags.2.2=os.flags.2.2) {a:aI} (ha:RO T Hs os a):RO T Hf o' a:=by
 cases p with
 |list t=>
  obtain⟨g,f,c,l0,rfl⟩:=hc
  obtain⟨l,rfl,hl,_,hr⟩:=tN hT (.inl h)
  obtain⟨es,rfl,cC⟩:=hr a ha
  simp only[jh,List.cons_append,List.nil_append,Prod.mk.injEq]at ho
  obtain⟨rfl,_⟩:=ho
  have hg:g=os.flags.1:=rN
  have hf:f=os.flags.2.2:=Mr
  exact⟨es,by rw[hg,hf],cC⟩
 |fix t=>
  obtain⟨g,f,c,l0,rfl⟩:=hc
  obtain⟨l,rfl,hl,_,hr⟩:=tN hT (.inr h)
  obtain⟨es,rfl,cC⟩:=hr a ha
  simp only[jh,List.cons_append,List.nil_append,Prod.mk.injEq]at ho
  obtain⟨rfl,_⟩:=ho
  have hg:g=os.flags.1:=rN
  have hf:f=os.flags.2.2:=Mr
  exact⟨es,by rw[hg,hf],cC⟩
 |one q=>
  obtain⟨g,cl,f,c,es,rfl⟩:=hc
  simp only[dY]at h
  split at h
  case h_2=>simp at h
  rename_i g' cl' f' c' v
  simp only[aD.flags]at rN hG Mr
  subst rN; subst hG; subst Mr
  obtain⟨es',rfl,cC,kG⟩:=ha
  match es',cC with
  |[b],cC=>
   simp only[RL]at cC
   obtain⟨v',e1,e2,e3⟩:=sy hT qV hlen bN (.inr cC.1) h rest
   simp only[jh,e1,Prod.mk.injEq,and_true]at ho
   subst ho
   refine⟨[b],rfl,by simp only[RL]; exact⟨e2,trivial⟩,fun mY=>?_⟩
   have:=kG mY
   simp only[av,Bool.and_true]at this ⊢
   exact e3 this
  |[],cC=>simp[RL]at cC
  |_::_::_,cC=>simp[RL]at cC
 |agg ps=>
  obtain⟨g,cl,f,c,es,rfl⟩:=hc
  simp only[dY]at h
  split at h
  case h_2=>simp at h
  rename_i g' cl' f' c' vs
  simp only[aD.flags]at rN hG Mr
  subst rN; subst hG; subst Mr
  obtain⟨es',rfl,cC,kG⟩:=ha
  match es',cC with
  |[b],cC=>
   simp only[RL,R]at cC
   obtain⟨⟨as,rfl,cC⟩,_⟩:=cC
   obtain⟨vs',e1,e2,e3⟩:=we hT qV hlen bN cC h rest
   simp only[jh,e1,Prod.mk.injEq,and_true]at ho
   subst ho
   refine⟨[.agg as],rfl,by simp only[RL,R]; exact⟨⟨as,rfl,e2⟩,trivial⟩,fun mY=>?_⟩
   have:=kG mY
   simp only[av,aF,Bool.and_true]at this ⊢
   exact e3 this
  |[],cC=>simp[RL]at cC
  |_::_::_,cC=>simp[RL]at cC
 |map kk t=>
  obtain⟨m0,rfl⟩:=hc
  obtain⟨m,rfl,rfl⟩:=tO h
  simp only[jh,List.cons_append,List.nil_append,Prod.mk.injEq]at ho
  obtain⟨rfl,_⟩:=ho
  exact ha
theorem DF{q:oW}{v:SV T.den}{l:List (TV T.den)}(h:fw Hs q v=some l)(rest:List (TV T.den)):(fI Hc q (l++rest)).2=rest:=by
 cases q with
 |HY esz n rg cap=>
  simp only[fw]at h
  split at h
  case h_2=>simp at h
  split at h
  case h_2=>simp at h
  split at h
  case isFalse=>simp at h
  simp only[Option.some.injEq]at h
  subst h
  rfl
 |im n i j len cap=>
  simp only[fw]at h
  split at h
  case h_2=>simp at h
  split at h
  case h_2=>simp at h
  split at h
  case isFalse=>simp at h
  simp only[Option.some.injEq]at h
  subst h
  rfl
 |hole=>
  simp only[fw]at h
  split at h
  case h_2=>simp at h
  simp only[Option.some.injEq]at h
  subst h
  rfl
 |val t=>
  simp only[fw]at h
  split at h
  ·simp at h
  split at h
  case h_2=>simp at h
  simp only[Option.some.injEq]at h
  subst h
  rfl
 |own esz n=>
  simp only[fw]at h
  split at h
  case h_2=>simp at h
  split at h
  case h_2=>simp at h
  split at h
  case isFalse=>simp at h
  simp only[Option.some.injEq]at h
  subst h
  rfl
 |Q9 esz n t k=>
  simp only[fw]at h
  split at h
  case h_2=>simp at h
  split at h
  case h_2=>simp at h
  split at h
  case isFalse=>simp at h
  rw[Option.bind_eq_some_iff]at h
  obtain⟨x,hx,h⟩:=h
  rw[Option.bind_eq_some_iff]at h
  obtain⟨y,hy,h⟩:=h
  split at h
  ·simp only[Option.some.injEq]at h
   subst h
   rfl
  ·obtain⟨z,_,hl⟩:∃ z,T.dn t (.lit (.int .i64 _))=some z∧_=l:=Option.map_eq_some_iff.1 h
   subst hl
   rfl
  ·simp at h
theorem nodup_cons{x:Nat}{l:List Nat}(h:cZ (x::l)=true):x∉l∧cZ l=true:=by
 simp_all[cZ,decide_eq_false_iff_not]
theorem Ij{H:ah T.den}{n:Nat}{o o':aD T.den}(ho:H[n]?=some (some o))(hc:o'.cur=o.cur)(m:Nat):jm (H.set n (some o')) m=jm H m:=by
 unfold jm
 by_cases e:m=n
 ·grind
 ·rw[List.getElem?_set_ne (Ne.symm e)]
theorem rA[ab](hT:T.Ok):∀ {objs:List (Nat×cP)} {H:ah T.den} {l:List (TV T.den)} (rest:List (TV T.den)),cZ (objs.map (·.1))=true→jV Hs objs=some l →
  (∀ q,q∈objs→∃ o,H[q.1]?=some (some o)∧Compat o q.2) →
  (fY H objs (l++rest)).length=H.length∧(∀ n:Nat,n∉objs.map (·.1)→(fY H objs (l++rest))[n]?=H[n]?)∧(∀ n,jm (fY H objs (l++rest)) n=jm H n) ∧
  (∀ q,q∈objs→∃ o os o' ln Hc DG,H[q.1]?=some (some o)∧Hs[q.1]?=some (some os)∧dY Hs os q.2=some ln∧(∀ n,jm Hc n=jm H n)∧jh Hc o q.2 (ln++DG)=(o',DG) ∧
    (fY H objs (l++rest))[q.1]?=some (some o')∧o'.cur=o.cur∧o'.len=os.len)
 |[],H,l,rest,_,_,_=>⟨rfl,fun _ _=>rfl,fun _=>rfl,fun q hq=>by simp at hq⟩
 |(n,p)::objs,H,l,rest,z1,oZ,Q2=>by
  simp only[List.map_cons]at z1
  obtain⟨Lk,z1⟩:=nodup_cons z1
  simp only[jV]at oZ
  split at oZ
  case h_2=>simp at oZ
  rename_i os TZ
  rw[Option.bind_eq_some_iff]at oZ
  obtain⟨ln,h1,oZ⟩:=oZ
  rw[Option.map_eq_some_iff]at oZ
  obtain⟨l2,h2,rfl⟩:=oZ
  obtain⟨o,ho,Yn⟩:=Q2 (n,p) (by simp)
  simp only at ho Yn
  obtain⟨o',e1,e2,e3⟩:=zk (Hc:=H) hT Yn h1 (l2++rest) fun q v l hl rest=>DF hl rest
  have SY:fY H ((n,p)::objs) (ln++l2++rest)=fY (H.set n (some o')) objs (l2++rest):=by
   simp_all[fY,ho]
  rw[SY]
  have cd:=(List.getElem?_eq_some_iff.1 ho).1
  have Wj:∀ q,q∈objs→∃ o,(H.set n (some o'))[q.1]?=some (some o)∧Compat o q.2:=by
   grind
  obtain⟨i1,i2,i3,i4⟩:=rA hT rest z1 h2 Wj
  have uc:=Ij ho e2
  refine⟨by rw[i1]; simp,fun m hm=>?_,fun m=>by rw[i3,uc],fun q hq=>?_⟩
  ·grind
  ·grind
theorem sz[ab]:∀ {objs:List (Nat×cP)} {H:ah T.den},cZ (objs.map (·.1))=true →
  (rk H objs).length=H.length∧(∀ n:Nat,n∉objs.map (·.1)→(rk H objs)[n]?=H[n]?)∧(∀ q,q∈objs→∀ o,H[q.1]?=some (some o)→(rk H objs)[q.1]?=some (some (mz o q.2)))
 |[],H,_=>⟨rfl,fun _ _=>rfl,fun q hq=>by simp at hq⟩
 |(n,p)::objs,H,z1=>by
  simp only[List.map_cons]at z1
  obtain⟨Lk,z1⟩:=nodup_cons z1
  simp only[rk]
  split
  ·rename_i o ho
   have cd:=(List.getElem?_eq_some_iff.1 ho).1
   obtain⟨i1,i2,i3⟩:=sz (objs:=objs) (H:=H.set n (some (mz o p))) z1
   refine⟨by rw[i1]; simp,fun m hm=>?_,fun q hq o2 uv=>?_⟩
   ·grind
   ·grind
  ·rename_i zC
   obtain⟨i1,i2,i3⟩:=sz (objs:=objs) (H:=H) z1
   refine⟨i1,fun m hm=>?_,fun q hq o2 uv=>?_⟩
   ·simp_all
   ·grind
theorem qa[ab](hT:T.Ok)(qV:∀ n,jm Hc n=jm Hf n)(hlen:DE ok Hs Hf){N:Nat}{frs:sG T.den}{ast:Nat→AV}(eX:∀ t,RV T Hs (cH frs t) (ast t)):
  ∀ {aA:List (Nat×oW)} {fr:sG T.den} {l:List (TV T.den)} (rest:List (TV T.den)),cZ (aA.map (·.1))=true→(∀ q,q∈aA→q.1<N∧∀ n,n∈q.2.kc→ok n)→pR Hs frs aA=some l →
    ∃ yY,qA N Hc fr aA (l++rest)=(yY,rest)∧(∀ t,t∉aA.map (·.1)→cH yY t=cH fr t)∧(∀ q,q∈aA→R T Hf (cH yY q.1) (ast q.1))
 |[],fr,l,rest,_,_,h=>by
  simp only[pR,Option.some.injEq]at h
  subst h
  exact⟨fr,rfl,fun _ _=>rfl,fun q hq=>by simp at hq⟩
 |(d,p)::aA,fr,l,rest,z1,hN,h=>by
  simp only[List.map_cons]at z1
  obtain⟨Lk,z1⟩:=nodup_cons z1
  simp only[pR,Option.bind_eq_some_iff,Option.map_eq_some_iff]at h
  obtain⟨l1,h1,l2,h2,rfl⟩:=h
  obtain⟨v',e1,e2,_⟩:=sy hT qV hlen (hN (d,p) (by simp)).2 (eX d) h1 (l2++rest)
  obtain⟨yY,i1,i2,i3⟩:=qa hT qV hlen eX (fr:=tA N fr d v') rest z1 (fun q hq=>hN q (List.mem_cons_of_mem _ hq)) h2
  refine⟨yY,?_,fun t ht=>?_,fun q hq=>?_⟩
  ·simp_all[qA]
  ·simp only[List.map_cons,List.mem_cons,not_or]at ht
   rw[i2 t ht.2,ki,if_neg (by omega)]
  ·rcases List.mem_cons.1 hq with rfl|hq
   ·rw[i2 d Lk,ki,if_pos ⟨rfl,(hN (d,p) (by simp)).1⟩]
    exact e2
   ·exact i3 q hq
theorem vb[ab]{N:Nat}:∀ {dead:List Nat} {fr:sG T.den} {t:Nat},cH (Ac N fr dead) t=(if t∈dead∧t<N then .dead else cH fr t)
 |[],fr,t=>by simp[Ac]
 |d::r,fr,t=>by
  simp only[Ac]
  rw[vb,ki]
  by_cases h1:t∈r∧t<N
  ·simp_all
  ·grind
end
end Go.PI
end
section
/- PS, part O: a state goes over into one with variables. -/
namespace Go.PI
variable {T:dk}{ρ:Type}
section
variable {H0 Hs Hf:ah T.den}
mutual
theorem R.dW(ht:∀ n c v0 aq,fJ H0 n c v0→fJ Hs n c aq→fJ Hf n c aq)(hx:∀ (n:Nat) (o:aD T.den),H0[n]?=some (some o)→∃ o,Hf[n]?=some (some o)):∀ {v:SV T.den} {a0 a:AV},R T H0 v a0→R T Hs v a→R T Hf v a
 |.dead,_,_,h,_=>by simp[R]at h
 |.hole,a0,a,_,h=>by simpa[R] using h
 |.lit v,a0,a,_,h=>by simpa[R] using h
 |.agg l,a0,a,h0,h=>by
  simp only[R]at h0 h ⊢
  obtain⟨l0,_,h2⟩:=h0
  obtain⟨l',h1,h3⟩:=h
  exact⟨l',h1,RL.dW ht hx h2 h3⟩
 |.jn l,a0,a,h0,h=>by
  simp only[R]at h0 h ⊢
  obtain⟨l0,_,h2⟩:=h0
  obtain⟨l',h1,h3⟩:=h
  exact⟨l',h1,RL.dW ht hx h2 h3⟩
 |.sl l,a0,a,h0,h=>by
  simp only[R]at h0 h ⊢
  obtain⟨l0,_,h2,_⟩:=h0
  obtain⟨l',h1,h3,h4⟩:=h
  exact⟨l',h1,RL.dW ht hx h2 h3,h4⟩
 |.jd t l,a0,a,_,h=>by simpa[R] using h
 |.wC t l c b,a0,a,_,h=>by simp only[R]at h ⊢; exact h
 |.nz,a0,a,_,h=>by simp only[R]at h ⊢; exact h
 |.bc e j,a0,a,h0,h=>by
  simp only[R]at h0 h ⊢
  obtain⟨l0,_,h2,_⟩:=h0
  obtain⟨l',h1,h3,h4⟩:=h
  exact⟨l',h1,R.dW ht hx h2 h3,h4⟩
 |.ref m c i j,a0,a,h0,h=>by
  grind[R]
 |.im m c i j ln cp,a0,a,h0,h=>by
  grind[R]
 |.bp esz m c rg cap,a0,a,h0,h=>by
  grind[R]
 |.iQ fn f c,a0,a,h0,h=>by
  simp only[R]at h0 h ⊢
  obtain⟨_,_,_,g1,g2⟩:=h0
  obtain⟨f',c',h1,h2,h3⟩:=h
  exact⟨f',c',h1,RL.dW ht hx g1 h2,RL.dW ht hx g2 h3⟩
 |.fL t v,a0,a,h0,h=>by
  simp only[R]at h0 h ⊢
  obtain⟨l0,_,h2⟩:=h0
  obtain⟨l',h1,h3⟩:=h
  exact⟨l',h1,R.dW ht hx h2 h3⟩
 |.mp y n,a0,a,h0,h=>by
  grind[R]
 |.rW v s l i,a0,a,h0,h=>by
  simp only[R]at h0 h ⊢
  obtain⟨b0,h2,_⟩:=h0
  obtain⟨b,h3,h4⟩:=h
  exact⟨b,R.dW ht hx h2 h3,h4⟩
theorem RL.dW(ht:∀ n c v0 aq,fJ H0 n c v0→fJ Hs n c aq→fJ Hf n c aq)(hx:∀ (n:Nat) (o:aD T.den),H0[n]?=some (some o)→∃ o,Hf[n]?=some (some o)):∀ {l:List (SV T.den)} {m0 m:List AV},RL T H0 l m0→RL T Hs l m→RL T Hf l m
 |[],[],[],_,_=>by simp[RL]
 |x::xs,y0::UA,y::ys,h0,h=>by
  simp only[RL]at h0 h ⊢
  exact⟨R.dW ht hx h0.1 h.1,RL.dW ht hx h0.2 h.2⟩
 |[],_::_,_,h,_=>by simp[RL]at h
 |[],[],_::_,_,h=>by simp[RL]at h
 |_::_,[],_,h,_=>by simp[RL]at h
 |_::_,_::_,[],_,h=>by simp[RL]at h
end
end
theorem kj{Hs:ah T.den}:∀ {objs:List (Nat×cP)} {l:List (TV T.den)},jV Hs objs=some l→∀ q,q∈objs→∃ o ln,Hs[q.1]?=some (some o)∧dY Hs o q.2=some ln
 |[],_,_,q,hq=>by simp at hq
 |(n,p)::r,l,h,q,hq=>by
  simp only[jV]at h
  split at h
  case h_2=>simp at h
  rename_i o ho
  rw[Option.bind_eq_some_iff]at h
  obtain⟨ln,h1,h⟩:=h
  rw[Option.map_eq_some_iff]at h
  obtain⟨l2,h2,rfl⟩:=h
  rcases List.mem_cons.1 hq with rfl|hq
  ·exact⟨o,ln,ho,h1⟩
  ·exact kj h2 q hq
def BF(p:cP)(c:Nat):Nat:=
 match p with
 |.list _=>c+1
 |_=>c
theorem G6(p:cP)(c:Nat):c≤BF p c:=by cases p<;>simp[BF]
theorem N2{p:cP}(h:∀ t,p≠.list t)(c:Nat):BF p c=c:=by
 cases p with
 |list t=>exact absurd rfl (h t)
 |_=>rfl
def Start(H:ah T.den)(o:aD T.den)(p:cP):Prop:=(∃ ln,dY H o p=some ln)∨(((∃ q,p=.one q)∨∃ ps,p=.agg ps)∧∃ g cl f c e,o=.arr g cl f c [e])
theorem DH{Hs:ah T.den}{o:aD T.den}{p:cP}{ln:List (TV T.den)}(h:dY Hs o p=some ln):Compat (mz o p) p∧(mz o p).flags.1=o.flags.1∧(mz o p).flags.2.1=o.flags.2.1∧(mz o p).flags.2.2=o.flags.2.2 ∧
  (mz o p).cur=BF p o.cur:=by
 cases p with
 |list t=>
  cases o with
  |arr g cl f c es=>
   cases cl with
   |true=>exact⟨⟨g,f,c+1,[],rfl⟩,rfl,rfl,rfl,rfl⟩
   |false=>cases h
  |bX g f c t' l=>exact⟨⟨g,f,c+1,[],rfl⟩,rfl,rfl,rfl,rfl⟩
  |_=>cases h
 |fix t=>
  cases o with
  |arr g cl f c es=>
   cases cl with
   |true=>exact⟨⟨g,f,c,[],rfl⟩,rfl,rfl,rfl,rfl⟩
   |false=>cases h
  |bX g f c t' l=>exact⟨⟨g,f,c,[],rfl⟩,rfl,rfl,rfl,rfl⟩
  |_=>cases h
 |one q=>
  cases o with
  |arr g cl f c es=>exact⟨⟨g,cl,f,c,es,rfl⟩,rfl,rfl,rfl,rfl⟩
  |_=>cases h
 |agg ps=>
  cases o with
  |arr g cl f c es=>exact⟨⟨g,cl,f,c,es,rfl⟩,rfl,rfl,rfl,rfl⟩
  |_=>cases h
 |map kk t=>
  obtain⟨m,rfl,rfl⟩:=tO h
  exact⟨⟨[],rfl⟩,rfl,rfl,rfl,rfl⟩
theorem yB{Hs:ah T.den}{o:aD T.den}{p:cP}(h:Start Hs o p):Compat (mz o p) p∧(mz o p).flags.1=o.flags.1∧(mz o p).flags.2.1=o.flags.2.1∧(mz o p).flags.2.2=o.flags.2.2 ∧
  (mz o p).cur=BF p o.cur:=by
 rcases h with ⟨ln,h⟩|⟨⟨q,rfl⟩|⟨ps,rfl⟩,g,cl,f,c,e,rfl⟩
 ·exact DH h
 ·exact⟨⟨g,cl,f,c,[e],rfl⟩,rfl,rfl,rfl,rfl⟩
 ·exact⟨⟨g,cl,f,c,[e],rfl⟩,rfl,rfl,rfl,rfl⟩
theorem iM:∀ {ext:List oX} {n:Nat} {q:Nat×cP},q∈a9 n ext→∃ i g f t,q=(n+i,.list t)∧ext[i]?=some (.list g f t)
 |[],_,q,h=>by simp[a9]at h
 |.gV::r,n,q,h=>by
  simp only[a9]at h
  obtain⟨i,g,f,t,rfl,h2⟩:=iM h
  exact⟨i+1,g,f,t,by rw[show n+1+i=n+(i+1) by omega],by simpa using h2⟩
 |.list g f t::r,n,q,h=>by
  simp only[a9]at h
  rcases List.mem_cons.1 h with rfl|h
  ·exact⟨0,g,f,t,rfl,rfl⟩
  ·obtain⟨i,g',f',t',rfl,h2⟩:=iM h
   exact⟨i+1,g',f',t',by rw[show n+1+i=n+(i+1) by omega],by simpa using h2⟩
theorem mX[ab]:∀ {ext:List oX} {n:Nat},cZ ((a9 n ext).map (·.1))=true
 |[],_=>rfl
 |.gV::r,n=>by simp only[a9]; exact mX
 |.list g f t::r,n=>by
  simp only[a9,List.map_cons,cZ,Bool.and_eq_true,Bool.not_eq_true',List.contains_eq_mem,decide_eq_false_iff_not]
  refine⟨fun h=>?_,mX⟩
  obtain⟨q,hq,e⟩:=List.mem_map.1 h
  obtain⟨i,_,_,_,rfl,_⟩:=iM hq
  simp only at e
  omega
theorem Av[ab]:∀ {l m:List Nat},cZ l=true→cZ m=true→(∀ x,x∈l→x∉m)→cZ (l++m)=true
 |[],m,_,h,_=>h
 |x::l,m,h,h',hd=>by
  obtain⟨h1,h2⟩:=nodup_cons h
  simp only[List.cons_append,cZ,Bool.and_eq_true,Bool.not_eq_true',List.contains_eq_mem,decide_eq_false_iff_not,List.mem_append,not_or]
  exact⟨⟨h1,hd x (by simp)⟩,Av h2 h' fun y hy=>hd y (List.mem_cons_of_mem _ hy)⟩
theorem tP{H:ah T.den}:∀ {ext:List oX} {n i:Nat} {e:oX},C5 H n ext=true→ext[i]?=some e→∃ o,H[n+i]?=some (some o)∧(match e with|.gV=>o.flags.2.1=true|.list g f _=>o.flags=(g,true,f))
 |[],_,i,e,_,h=>by simp at h
 |x::r,n,i,e,hx,h=>by
  simp only[C5,Bool.and_eq_true]at hx
  cases i with
  |zero=>
   grind
  |succ i=>
   simp only[List.getElem?_cons_succ]at h
   obtain⟨o,h1,h2⟩:=tP hx.2 h
   exact⟨o,by rw[show n+(i+1)=n+1+i by omega]; exact h1,h2⟩
theorem oB[ab]:∀ {ext:List oX} {n i:Nat},i<ext.length→(ext[i]?=some .gV∧n+i∉(a9 n ext).map (·.1))∨∃ g f t,ext[i]?=some (.list g f t)∧(n+i,cP.list t)∈a9 n ext
 |[],_,i,h=>by simp at h
 |.gV::r,n,i,h=>by
  cases i with
  |zero=>
   left
   refine⟨rfl,fun hc=>?_⟩
   obtain⟨q,hq,e⟩:=List.mem_map.1 hc
   simp only[a9]at hq
   obtain⟨j,_,_,_,rfl,_⟩:=iM hq
   simp only at e; omega
  |succ i=>
   rcases oB (n:=n+1) (i:=i) (by simpa using h) with ⟨h1,h2⟩|⟨g,f,t,h1,h2⟩
   ·grind[a9]
   ·grind[a9]
 |.list g f t::r,n,i,h=>by
  cases i with
  |zero=>grind[a9]
  |succ i=>
   rcases oB (n:=n+1) (i:=i) (by simpa using h) with ⟨h1,h2⟩|⟨g',f',t',h1,h2⟩
   ·left
    refine⟨by simpa using h1,?_⟩
    simp only[a9,List.map_cons,List.mem_cons,not_or]
    exact⟨by omega,by rw[show n+(i+1)=n+1+i by omega]; exact h2⟩
   ·grind[a9]
theorem Ik(hT:T.Ok){o:aD T.den}{H:ah T.den}{a:aI}(h:RO T H o a)(hc:o.flags.2.1=true):(∃ g f es,a=.arr g true f es)∨∃ k vs,a=.gd k vs∧∀ n,cO n vs=true:=by
 cases o with
 |arr g cl f c es=>
  obtain⟨es',rfl,_⟩:=h
  simp only[aD.flags]at hc
  subst hc
  exact .inl ⟨_,_,_,rfl⟩
 |bX g f c t l=>obtain⟨es',rfl,_⟩:=h; exact .inl ⟨_,_,_,rfl⟩
 |gV=>exact h
 |kb kk t m=>obtain⟨vs,rfl,h⟩:=h; exact .inr ⟨_,_,rfl,fun n=>yy hT h⟩
 |oU fn ps as bd fr=>simp[aD.flags]at hc
structure Il(T:dk)(aA:List (Nat×oW))(dead:List Nat)(objs:List (Nat×cP))(ext:List oX)(s0 s:bw T.den)(l:List (TV T.den)):Prop where
 Ri:cZ (aA.map (·.1))=true
 UB:cZ (objs.map (·.1))=true
 Ll:∀ d,d∈aA.map (·.1)++dead→d<s0.n
 kc:sf s0.hp.length aA (objs++a9 s0.hp.length ext)=true
 fn:s.fn=s0.fn
 n:s.n=s0.n
 fr:∀ t,t∉aA.map (·.1)++dead→cH s.fr t=cH s0.fr t
 hp:∀ n:Nat,n<s0.hp.length→n∉objs.map (·.1)→s.hp[n]?=s0.hp[n]?
 len:s.hp.length=s0.hp.length+ext.length
 flags:qB s0.hp s.hp objs=true
 cur:wQ s0.hp s.hp objs=true
 Qz:C5 s.hp s0.hp.length ext=true
 QA:∀ q,q∈objs→∃ o,s0.hp[q.1]?=some (some o)∧Start s0.hp o q.2
 abs:uT aA (objs++a9 s0.hp.length ext) s=some l
theorem BG{H H':ah T.den}{objs:List (Nat×cP)}(h:qB H H' objs=true){q:Nat×cP}(hq:q∈objs){o o':aD T.den}(h1:H[q.1]?=some (some o))(h2:H'[q.1]?=some (some o')):o.flags=o'.flags:=by
 have:=List.all_eq_true.1 h q hq
 simp only[h1,h2,decide_eq_true_eq]at this
 exact this
theorem FK{H H':ah T.den}{objs:List (Nat×cP)}(h:wQ H H' objs=true){q:Nat×cP}(hq:q∈objs)(hl:∀ t,q.2≠.list t){o o':aD T.den}(h1:H[q.1]?=some (some o))(h2:H'[q.1]?=some (some o')):o.cur=o'.cur:=by
 have:=List.all_eq_true.1 h q hq
 split at this
 ·rename_i t e; exact absurd e (hl t)
 ·simp_all
theorem G7[ab](hT:T.Ok){aA:List (Nat×oW)}{dead:List Nat}{objs:List (Nat×cP)}{ext:List oX}{s0 s:bw T.den}{l:List (TV T.den)}(ho:Il T aA dead objs ext s0 s l){Yo st:St}(h0:RS T s0 Yo)(h:RS T s st):
  RS T { c7 aA dead objs ext s0 l with js:=s.js } st∧(c7 aA dead objs ext s0 l).hp.length=s.hp.length ∧
  (∀ n:Nat,n<s0.hp.length→n∉objs.map (·.1)→(c7 aA dead objs ext s0 l).hp[n]?=s0.hp[n]?) ∧
  (∀ t,t∉aA.map (·.1)++dead→cH (c7 aA dead objs ext s0 l).fr t=cH s0.fr t) ∧
  (c7 aA dead objs ext s0 l).fn=s0.fn∧(c7 aA dead objs ext s0 l).n=s0.n ∧
  (∀ q,q∈objs→∃ o0 os of,s0.hp[q.1]?=some (some o0)∧s.hp[q.1]?=some (some os)∧(c7 aA dead objs ext s0 l).hp[q.1]?=some (some of)∧of.len=os.len∧of.cur=BF q.2 o0.cur):=by
 have O6:=ho.QA
 have cd:∀ n,n∈objs.map (·.1)→n<s0.hp.length:=by
  grind
 have MV:∀ n,n∈(a9 s0.hp.length ext).map (·.1)→s0.hp.length≤n:=by
  intro n hn
  obtain⟨q,hq,rfl⟩:=List.mem_map.1 hn
  obtain⟨i,_,_,_,rfl,_⟩:=iM hq
  simp
 have z1:cZ ((objs++a9 s0.hp.length ext).map (·.1))=true:=by
  rw[List.map_append]
  exact Av ho.UB mX fun x hx hc=>by have:=cd x hx; have:=MV x hc; omega
 obtain⟨b1,b2,b3⟩:=sz (objs:=objs) (H:=s0.hp) ho.UB
 generalize IT:rk s0.hp objs++ext.map H4=H1
 have Lm:H1.length=s.hp.length:=by rw[←IT,ho.len]; simp[b1]
 have yC:∀ n:Nat,n<s0.hp.length→H1[n]?=(rk s0.hp objs)[n]?:=fun n hn=>by
  grind
 have Ln:∀ i:Nat,H1[s0.hp.length+i]?=(ext.map H4)[i]?:=fun i=>by
  grind
 have oZ:=ho.abs
 unfold uT at oZ
 rw[Option.bind_eq_some_iff]at oZ
 obtain⟨la,hla,oZ⟩:=oZ
 rw[Option.map_eq_some_iff]at oZ
 obtain⟨lb,OL,rfl⟩:=oZ
 have Q2:∀ q,q∈objs++a9 s0.hp.length ext→∃ o,H1[q.1]?=some (some o)∧Compat o q.2:=by
  intro q hq
  rcases List.mem_append.1 hq with hq|hq
  ·obtain⟨o,h1,h2⟩:=O6 q hq
   exact⟨mz o q.2,by rw[yC _ (cd _ (List.mem_map_of_mem hq))]; exact b3 q hq o h1,(yB h2).1⟩
  ·obtain⟨i,g,f,t,rfl,h2⟩:=iM hq
   refine⟨.bX g f 0 t [],?_,⟨g,f,0,[],rfl⟩⟩
   simp only
   rw[Ln,List.getElem?_map,h2]
   rfl
 obtain⟨c1,c2,c3,c4⟩:=rA hT (Hs:=s.hp) (H:=H1) [] z1 OL Q2
 simp only[List.append_nil]at c1 c2 c3 c4
 generalize hHf:fY H1 (objs++a9 s0.hp.length ext) lb=Hf at c1 c2 c3 c4
 have hlen:DE (fun n=>n<s0.hp.length∨n∈(objs++a9 s0.hp.length ext).map (·.1)) s.hp Hf:=by
  intro n o hn Pj
  by_cases hm:n∈(objs++a9 s0.hp.length ext).map (·.1)
  ·grind
  ·have hn:n<s0.hp.length:=hn.resolve_right hm
   have AP:n∉objs.map (·.1):=fun hc=>hm (by rw[List.map_append]; exact List.mem_append_left _ hc)
   refine⟨o,?_,rfl⟩
   rw[c2 n hm,yC n hn,b2 n AP,←ho.hp n hn AP]
   exact Pj
 have O7:=List.all_eq_true.1 ho.kc
 have Wk:∀ q,q∈objs++a9 s0.hp.length ext→∀ n,n∈q.2.kc→(n<s0.hp.length∨n∈(objs++a9 s0.hp.length ext).map (·.1)):=by
  intro q hq n hn
  have:=O7 n (List.mem_append_right _ (List.mem_flatMap.2 ⟨q,hq,hn⟩))
  simp only[Bool.or_eq_true,List.contains_eq_mem,decide_eq_true_eq]at this
  refine this.imp (fun h=>?_) id
  have:=Nat.le_of_ble_eq_true h
  omega
 have Wl:∀ q,q∈aA→∀ n,n∈q.2.kc→(n<s0.hp.length∨n∈(objs++a9 s0.hp.length ext).map (·.1)):=by
  intro q hq n hn
  have:=O7 n (List.mem_append_left _ (List.mem_flatMap.2 ⟨q,hq,hn⟩))
  simp only[Bool.or_eq_true,List.contains_eq_mem,decide_eq_true_eq]at this
  refine this.imp (fun h=>?_) id
  have:=Nat.le_of_ble_eq_true h
  omega
 have N3:∀ q,q∈objs→∃ o0 os of,s0.hp[q.1]?=some (some o0)∧s.hp[q.1]?=some (some os)∧Hf[q.1]?=some (some of)∧of.len=os.len∧of.cur=BF q.2 o0.cur ∧
   (∀ a,RO T s.hp os a→RO T Hf of a):=by
  intro q hq
  obtain⟨o0,h1,h2⟩:=O6 q hq
  obtain⟨o1,os,o',ln,Hc,DG,d1,d2,d3,d4,d5,d6,d7,d8⟩:=c4 q (List.mem_append_left _ hq)
  have hb:=b3 q hq o0 h1
  rw[yC _ (cd _ (List.mem_map_of_mem hq)),hb]at d1
  simp only[Option.some.injEq]at d1
  subst d1
  obtain⟨e1,e2,e3,e4,e5⟩:=yB h2
  have HV:=BG ho.flags hq h1 d2
  refine⟨o0,os,o',h1,d2,d6,d8,by rw[d7,e5],fun a ha=>?_⟩
  exact yA hT (fun n=>by rw[d4,c3]) hlen (Wk q (List.mem_append_left _ hq)) e1 d3 d5 (by rw[e2,HV]) (by rw[e3,HV]) (by rw[e4,HV]) ha
 have QZ:∀ n c v0 aq,fJ s0.hp n c v0→fJ s.hp n c aq→fJ Hf n c aq:=by
  intro n c v0 aq MJ hv
  have hn:=MJ.lt
  by_cases hm:n∈objs.map (·.1)
  ·obtain⟨q,hq,rfl⟩:=List.mem_map.1 hm
   obtain⟨o0,os,of,g1,g2,g3,g4,g5,_⟩:=N3 q hq
   obtain⟨o0',k1,k2,_⟩:=MJ
   rw[g1]at k1
   simp only[Option.some.injEq]at k1
   subst k1
   obtain⟨os',k3,k4,k5⟩:=hv
   rw[g2]at k3
   simp only[Option.some.injEq]at k3
   subst k3
   refine⟨of,g3,?_,fun e=>?_⟩
   ·have:=G6 q.2 o0.cur; omega
   ·by_cases hl:∃ t,q.2=.list t
    ·obtain⟨t,hl⟩:=hl
     rw[g5,hl]at e
     simp only[BF]at e
     omega
    ·have hc:=FK ho.cur hq (fun t e=>hl ⟨t,e⟩) g1 g2
     have:of.cur=o0.cur:=by rw[g5,N2 (fun t e=>hl ⟨t,e⟩)]
     rw[g4]
     exact k5 (by omega)
  ·have AP:n∉(objs++a9 s0.hp.length ext).map (·.1):=by
    rw[List.map_append]
    intro hc
    rcases List.mem_append.1 hc with hc|hc
    ·exact hm hc
    ·have:=MV n hc; omega
   obtain⟨os,k1,k2,k3⟩:=hv
   exact⟨os,by rw[c2 n AP,yC n hn,b2 n hm,←ho.hp n hn hm]; exact k1,k2,k3⟩
 have SZ:∀ n:Nat,n<s0.hp.length→n∉objs.map (·.1)→Hf[n]?=s0.hp[n]?:=by
  intro n hn hm
  have AP:n∉(objs++a9 s0.hp.length ext).map (·.1):=by
   rw[List.map_append]
   intro hc
   rcases List.mem_append.1 hc with hc|hc
   ·exact hm hc
   ·have:=MV n hc; omega
  rw[c2 n AP,yC n hn,b2 n hm]
 have hex:∀ (n:Nat) (o:aD T.den),s0.hp[n]?=some (some o)→∃ o,Hf[n]?=some (some o):=by
  intro n o zC
  have hn:=(List.getElem?_eq_some_iff.1 zC).1
  by_cases hm:n∈objs.map (·.1)
  ·obtain⟨q,hq,rfl⟩:=List.mem_map.1 hm
   obtain⟨_,_,of,_,_,g3,_⟩:=N3 q hq
   exact⟨of,g3⟩
  ·exact⟨o,by rw[SZ n hn hm]; exact zC⟩
 have QB:kz s.js Hf st.hp:=by
  intro n x hx
  obtain⟨h1,h2⟩:=h.js n x hx
  refine⟨?_,h2⟩
  obtain⟨o,HI,uv⟩:∃ o,s.hp[n]?=some (some o)∧o.isRec=true:=by
   unfold recAt at h1
   split at h1
   ·rename_i o HI; exact⟨o,HI,h1⟩
   ·simp at h1
  by_cases hn:n<s0.hp.length
  ·by_cases hm:n∈objs.map (·.1)
   ·exfalso
    obtain⟨q,hq,rfl⟩:=List.mem_map.1 hm
    obtain⟨o1,os,o',ln,Hc,DG,_,d2,d3,_⟩:=c4 q (List.mem_append_left _ hq)
    rw[HI]at d2
    simp only[Option.some.injEq]at d2
    subst d2
    cases o<;>simp[aD.isRec]at uv
    cases hp2:q.2<;>rw[hp2]at d3<;>cases d3
   ·rw[p7 (show Hf[n]?=s.hp[n]? by rw[SZ n hn hm,ho.hp n hn hm])]
    exact h1
  ·exfalso
   have V9:=(List.getElem?_eq_some_iff.1 HI).1
   have hi:n-s0.hp.length<ext.length:=by have:=ho.len; omega
   have Lk:s0.hp.length+(n-s0.hp.length)=n:=by omega
   obtain⟨e,he⟩:∃ e,ext[n-s0.hp.length]?=some e:=⟨_,List.getElem?_eq_getElem hi⟩
   obtain⟨o2,m1,m2⟩:=tP ho.Qz he
   rw[Lk,HI]at m1
   simp only[Option.some.injEq]at m1
   subst m1
   cases o<;>simp[aD.isRec]at uv
   cases e<;>simp[aD.flags]at m2
 have NZ:RH T Hf st.hp:=by
  have sE:Hf.length=st.hp.length:=by rw[c1,Lm]; exact h.hp.length
  refine aw.dX sE fun n x y hx hy=>?_
  obtain⟨xs,zE,hr⟩:=aw.get' h.hp hy
  have V9:n<s.hp.length:=(List.getElem?_eq_some_iff.1 zE).1
  by_cases hn:n<s0.hp.length
  ·by_cases hm:n∈objs.map (·.1)
   ·obtain⟨q,hq,rfl⟩:=List.mem_map.1 hm
    obtain⟨o0,os,of,g1,g2,g3,g4,g5,g6⟩:=N3 q hq
    rw[g3]at hx
    rw[g2]at zE
    simp only[Option.some.injEq]at hx zE
    subst hx; subst zE
    cases y with
    |none=>exact hr.elim
    |some a=>exact g6 a hr
   ·have AP:n∉(objs++a9 s0.hp.length ext).map (·.1):=by
     rw[List.map_append]
     intro hc
     rcases List.mem_append.1 hc with hc|hc
     ·exact hm hc
     ·have:=MV n hc; omega
    rw[c2 n AP,yC n hn,b2 n hm,←ho.hp n hn hm,zE]at hx
    simp only[Option.some.injEq]at hx
    subst hx
    have Ed:s0.hp[n]?=some xs:=by rw[←ho.hp n hn hm]; exact zE
    obtain⟨y0,_,D9⟩:=aw.get h0.hp Ed
    cases xs with
    |none=>cases y with
     |none=>trivial
     |some a=>exact hr.elim
    |some o=>cases y with
     |none=>exact hr.elim
     |some a=>
      cases y0 with
      |none=>exact D9.elim
      |some a0=>
       cases o with
       |arr g cl f c es=>
        obtain⟨es',e1,e2,e3⟩:=hr
        obtain⟨Wh,_,e5,_⟩:=D9
        exact⟨es',e1,RL.dW QZ hex e5 e2,e3⟩
       |bX g f c t l=>exact hr
       |gV=>exact hr
       |kb kk t m=>exact hr
       |oU fn ps as bd fr=>
        obtain⟨st,vs,e1,e2⟩:=hr
        obtain⟨Yo,vs0,_,e5⟩:=D9
        refine⟨st,vs,e1,aw.dX e2.length fun i x y hx hy=>?_⟩
        obtain⟨y',AZ,lr⟩:=aw.get e2 hx
        rw[hy]at AZ
        simp only[Option.some.injEq]at AZ
        subst AZ
        obtain⟨y0,Yk,QC⟩:=aw.get e5 hx
        rcases lr with lr|lr
        ·exact .inl lr
        ·rcases QC with ⟨rfl,_⟩|QC
         ·simp[R]at lr
         ·exact .inr (R.dW QZ hex QC lr)
  ·have hi:n-s0.hp.length<ext.length:=by have:=ho.len; omega
   have Lk:n=s0.hp.length+(n-s0.hp.length):=by omega
   rcases oB (n:=s0.hp.length) hi with ⟨k1,k2⟩|⟨g,f,t,k1,k2⟩
   ·rw[←Lk]at k2
    have AP:n∉(objs++a9 s0.hp.length ext).map (·.1):=by
     rw[List.map_append]
     intro hc
     rcases List.mem_append.1 hc with hc|hc
     ·exact hn (cd n hc)
     ·exact k2 hc
    rw[c2 n AP,Lk,Ln,List.getElem?_map,k1]at hx
    simp only[Option.map_some,H4,Option.some.injEq]at hx
    subst hx
    obtain⟨o,m1,m2⟩:=tP ho.Qz k1
    rw[←Lk,zE]at m1
    simp only[Option.some.injEq]at m1
    subst m1
    cases y with
    |none=>exact hr.elim
    |some a=>exact Ik hT hr m2
   ·obtain⟨o1,os,o',ln,Hc,DG,d1,d2,d3,d4,d5,d6,d7,d8⟩:=c4 _ (List.mem_append_right _ k2)
    simp only at d1 d2 d3 d5 d6
    rw[←Lk]at d2 d6
    rw[d6]at hx
    rw[d2]at zE
    simp only[Option.some.injEq]at hx zE
    subst hx; subst zE
    rw[Ln,List.getElem?_map,k1]at d1
    simp only[Option.map_some,H4,Option.some.injEq]at d1
    subst d1
    obtain⟨o,m1,m2⟩:=tP ho.Qz k1
    rw[←Lk,d2]at m1
    simp only[Option.some.injEq]at m1
    subst m1
    simp only at m2
    cases y with
    |none=>exact hr.elim
    |some a=>
     exact yA hT (fun n=>by rw[d4,c3]) hlen (by intro n hn; simp[cP.kc]at hn) (show Compat (.bX g f 0 t []) (.list t) from ⟨g,f,0,[],rfl⟩) d3 d5 (by rw[m2]; rfl) (by rw[m2]; rfl) (by rw[m2]; rfl) hr
 obtain⟨yY,f1,f2,f3⟩:=qa hT (Hc:=H1) (Hf:=Hf) (fun n=>by rw[c3]) hlen (N:=s0.n) (frs:=s.fr) (ast:=fun t=>st.fr.getD t .undef) h.fr (fr:=Ac s0.n s0.fr dead) lb ho.Ri
  (fun q hq=>⟨ho.Ll _ (List.mem_append_left _ (List.mem_map_of_mem hq)),Wl q hq⟩) hla
 have S0:c7 aA dead objs ext s0 (la++lb)={ s0 with fr:=yY,hp:=Hf }:=by
  unfold c7
  rw[IT,f1]
  simp only[hHf]
 have BH:∀ t,t∉aA.map (·.1)++dead→cH yY t=cH s0.fr t:=by
  intro t ht
  simp only[List.mem_append,not_or]at ht
  rw[f2 t ht.1,vb,if_neg (fun hc=>ht.2 hc.1)]
 rw[S0]
 refine⟨⟨?_,?_,fun t=>?_,NZ,QB⟩,by rw[c1,Lm],fun n hn hm=>?_,BH,rfl,rfl,fun q hq=>?_⟩
 ·show s0.fn=st.fn
  rw[←ho.fn]; exact h.fn
 ·show st.fr.length=s0.n
  rw[←ho.n]; exact h.n
 ·simp only
  by_cases ht:t∈aA.map (·.1)
  ·obtain⟨q,hq,rfl⟩:=List.mem_map.1 ht
   exact .inr (f3 q hq)
  ·by_cases hd:t∈dead
   ·left
    rw[f2 t ht,vb,if_pos ⟨hd,ho.Ll _ (List.mem_append_right _ hd)⟩]
   ·have Yp:t∉aA.map (·.1)++dead:=by simp only[List.mem_append,not_or]; exact⟨ht,hd⟩
    rw[BH t Yp]
    have e1:=h.fr t
    rw[ho.fr t Yp]at e1
    rcases e1 with e1|e1
    ·exact .inl e1
    ·rcases h0.fr t with e0|e0
     ·exact .inl e0
     ·exact .inr (R.dW QZ hex e0 e1)
 ·simp only
  have AP:n∉(objs++a9 s0.hp.length ext).map (·.1):=by
   rw[List.map_append]
   intro hc
   rcases List.mem_append.1 hc with hc|hc
   ·exact hm hc
   ·have:=MV n hc; omega
  rw[c2 n AP,yC n hn,b2 n hm]
 ·obtain⟨o0,os,of,g1,g2,g3,g4,g5,_⟩:=N3 q hq
  exact⟨o0,os,of,g1,g2,g3,g4,g5⟩
end Go.PI
end
section
/- PS, part P: the trees tell the truth. -/
namespace Go.PI
structure od.Ok[ab](S:od):Prop where
 T:S.T.Ok
 Q:S.Q.Ok
 Z:S.T.tK S.Q
 sum:∀ g σ,S.sum g=some σ→p6 S.C S.T g σ
 own:∀ g σ,S.own g=some σ→G3 S.C S.T g σ
def DI(T:dk):oV T.den→Out→Prop
 |.norm s,o=>∃ st,o=.norm st∧RS T s st
 |.exit id s,o=>∃ st,o=.exit id st∧RS T s st
 |.ret s,o=>∃ st,o=.ret st∧RS T s st
def oV.st{den:Nat→Type}:oV den→bw den
 |.norm s=>s
 |.exit _ s=>s
 |.ret s=>s
structure oC[ab](S:od)(k:Nat):Prop where
 f:∀ (ρ:Type) (f:FuncId) (args:List (SV S.T.den)) (hp:ah S.T.den) (wh:List Nat) (js:List (Nat×kW)) (K:SV S.T.den→ah S.T.den→List Nat→List (Nat×kW)→Tr ρ) (r:ρ) (as:List AV) (N4:ag),RL S.T hp args as→RH S.T hp N4→kz js hp N4 →
  (OT S k ρ f args hp wh js K).run=some r→∃ v cm oS qL a eC,kp S.C f as N4=some (.val a,eC)∧R S.T cm v a∧RH S.T cm eC∧kz qL cm eC∧dm hp cm∧hp.length≤cm.length ∧
    (∀ n:Nat,n<hp.length→n∉oS→cm[n]?=hp[n]?)∧(∀ n,n∈wh→n∈oS)∧(K v cm oS qL).run=some r
 c:∀ (ρ:Type) (c:Code) (s:bw S.T.den) (K:oV S.T.den→Tr ρ) (r:ρ) (st:St),RS S.T s st→(wE S k ρ c s K).run=some r →
  ∃ so o,cQ S.C c st=some o∧DI S.T so o∧bj s so.st∧(K so).run=some r
 o:∀ (ρ:Type) (o:Oper) (s:bw S.T.den) (K:bw S.T.den→Tr ρ) (r:ρ) (st:St),RS S.T s st→(NM S k ρ o s K).run=some r →
  ∃ s' st',ic S.C o st=some (.norm st')∧RS S.T s' st'∧bj s s'∧(K s').run=some r
section
variable {T:dk}{ρ:Type}
theorem qb[ab](hT:T.Ok){s:bw T.den}{st:St}(h:RS T s st){v:SV T.den}{a:AV}{cm:ah T.den}{eC:ag}{oS:List Nat}{qL:List (Nat×kW)}(g2:R T cm v a)(g3:RH T cm eC)(g4:dm s.hp cm)(g5:s.hp.length≤cm.length)
  (g6:∀ n:Nat,n<s.hp.length→n∉oS→cm[n]?=s.hp[n]?) (g7:∀ n,n∈s.wh→n∈oS) (hj:kz qL cm eC) (hb:si qL s.hp.length=true) :
  RS T ⟨s.fn,s.n,s.fr,fX s.hp.length v cm,s.wf,oS,qL⟩ ⟨st.fn,st.fr,gH s.hp.length a eC⟩∧bj s ⟨s.fn,s.n,s.fr,fX s.hp.length v cm,s.wf,oS,qL⟩∧R T (fX s.hp.length v cm) v a:=by
 obtain⟨t1,t2⟩:=Ii (n:=s.hp.length) hT g3 g2
 have zN:dm s.hp (fX s.hp.length v cm):=by
  unfold fX
  split
  ·intro n o ho
   obtain⟨o',h1,h2⟩:=g4 n o ho
   exact⟨o',by rw[mW (List.getElem?_eq_some_iff.1 ho).1]; exact h1,h2⟩
  ·exact g4
 have S1:∀ n:Nat,n<s.hp.length→n∉oS→(fX s.hp.length v cm)[n]?=s.hp[n]?:=by
  grind[fX]
 have hlen:s.hp.length≤(fX s.hp.length v cm).length:=by
  grind[fX]
 have QB:kz qL (fX s.hp.length v cm) (gH s.hp.length a eC):=by
  unfold fX gH
  rw[R.below g2,ld hT (aw.take g3 _)]
  split
  ·exact hj.take (Au hb)
  ·exact hj
 exact⟨⟨h.fn,h.n,fun t=>(h.fr t).mono zN,t1,QB⟩,⟨rfl,rfl,fun _ _=>rfl,fun _ h=>h,S1,g7,hlen,zN⟩,t2⟩
theorem yD[ab]{H H':ah T.den}{esz j nm:Nat}{e e':SV T.den}{a:AV}(hr:R T H e a)(hx:∀ {v:SV T.den} {b:AV},R T H v b→R T H' v b)(hn:R T H' (.bp esz nm 0 none none) (.bp esz nm 0 0 0 none))(h:pS esz j nm e=some e'):
  ∃ a',kD esz j nm a=some a'∧R T H' e' a':=by
 unfold pS at h
 split at h
 ·rename_i l
  split at h
  case h_2=>simp at h
  rename_i hl
  simp only[Option.some.injEq]at h
  subst h
  simp only[R]at hr
  obtain⟨l',rfl,jO⟩:=hr
  obtain⟨b,hb,Rf⟩:=aw.get (aQ.1 jO) hl
  simp only[R]at Rf
  subst Rf
  refine⟨.agg (l'.set j (.bp esz nm 0 0 0 none)),by simp only[kD,hb],?_⟩
  simp only[R]
  exact⟨_,rfl,aQ.2 (((aQ.1 jO).mono fun _ _ h=>hx h).set j hn)⟩
 ·split at h
  case isFalse=>simp at h
  rename_i hj
  simp only[Option.some.injEq]at h
  subst h
  simp only[R]at hr
  subst hr
  exact⟨_,by simp only[kD]; rw[if_pos hj],hn⟩
 ·simp at h
theorem S2[ab]{H:ah T.den}:RO T H (.arr true true false 0 []) (.arr true true false []):=⟨[],rfl,by simp[RL],fun _=>rfl⟩
theorem Lo{H:ah T.den}{esz nm:Nat}{g cl f:Bool}(h:H[nm]?=some (some (.arr g cl f 0 []))):R T H (.bp esz nm 0 none none) (.bp esz nm 0 0 0 none):=by
 simp only[R]
 exact⟨0,⟨_,h,Nat.le_refl _,fun _=>rfl⟩,rfl⟩
theorem G8[ab](hT:T.Ok){d:Tmp}{r:ρ}{K:bw T.den→Tr ρ}:∀ {l:List (Nat×Nat)} {s:bw T.den} {st:St},RS T s st→(H6 d l s K).run=some r→∃ s',RS T s' (I3 d l st)∧bj s s'∧(K s').run=some r
 |[],s,st,h,hk=>⟨s,h,bj.refl _,hk⟩
 |(j,esz)::l,s,st,h,hk=>by
  have hlen:=h.hp.length
  unfold H6 at hk
  have hd:=h.fr d
  have FC:∀ {s':bw T.den},RS T s' (pb d st j esz)→bj s s'→(H6 d l s' K).run=some r→∃ s',RS T s' (I3 d ((j,esz)::l) st)∧bj s s'∧(K s').run=some r:=by
   intro s' h1 h2 h3
   obtain⟨s2,i1,i2,i3⟩:=G8 hT h1 h3
   exact⟨s2,i1,h2.trans i2,i3⟩
  split at hk
  ·rename_i n c i k he
   rw[he]at hd
   have hd:=hd.live rfl
   simp only[R]at hd
   obtain⟨aq,hd,cb⟩:=hd
   have eX:st.fr[d]?=some (.ref n aq i k):=by
    grind
   split at hk
   case h_2=>simp[Tr.run]at hk
   rename_i g cl f cur es ho
   obtain⟨ao,c6,dD⟩:=h.hp.obj ho
   obtain⟨es',rfl,cC,kG⟩:=dD
   split at hk
   case h_2=>simp[Tr.run]at hk
   rename_i e' Gl
   obtain⟨e,Mg,xK⟩:=Option.bind_eq_some_iff.1 Gl
   obtain⟨ea,S3,Eh⟩:=aw.get (aQ.1 cC) Mg
   have hn:=(List.getElem?_eq_some_iff.1 ho).1
   have pg:=h.hp.new (nm:=s.hp.length) (o':=.arr true true false 0 []) (a':=.arr true true false []) (.inl rfl) S2
   have e1:bL s.hp s.hp.length (.arr true true false 0 [])=s.hp++[some (.arr true true false 0 [])]:=by simp[bL]
   have e2:setObj st.hp s.hp.length (.arr true true false [])=st.hp++[some (.arr true true false [])]:=by simp[setObj,hlen]
   rw[e1,e2]at pg
   obtain⟨O3,wv⟩:=pg
   have jZ:R T (s.hp++[some (.arr true true false 0 [])]) (.bp esz s.hp.length 0 none none) (.bp esz s.hp.length 0 0 0 none):=Lo (g:=true) (cl:=true) (f:=false) (by simp)
   obtain⟨O8,h5,h6⟩:=yD Eh (fun h=>h.mono O3) jZ xK
   have uv:(s.hp++[some (aD.arr true true false 0 [])])[n]?=some (some (.arr g cl f cur es)):=by rw[List.getElem?_append_left hn]; exact ho
   have eb:RL T (s.hp++[some (.arr true true false 0 [])]) (es.set i e') (es'.set i O8):=aQ.2 (((aQ.1 cC).mono fun _ _ h=>h.mono O3).set i h6)
   obtain⟨hg2,E6⟩:=wv.Ra uv (o':=.arr g false f cur (es.set i e')) (a':=.arr g false f (es'.set i O8)) (Nat.le_refl _) (fun _=>by simp[aD.len]) ⟨_,rfl,eb,fun hc=>by simp at hc⟩
   have w1:aN s.hp [(n,.arr g false f cur (es.set i e')),(s.hp.length,.arr true true false 0 [])]=(s.hp++[some (aD.arr true true false 0 [])]).set n (some (aD.arr g false f cur (es.set i e'))):=by
    have q1:bL s.hp n (.arr g false f cur (es.set i e'))=s.hp.set n (some (.arr g false f cur (es.set i e'))):=by unfold bL; rw[if_neg (by omega)]
    have q2:∀ (L:ah T.den) (o:aD T.den),L.length=s.hp.length→bL L s.hp.length o=L++[some o]:=fun L o hL=>by unfold bL; rw[if_pos hL.symm]
    simp only[aN]
    rw[q1,q2 _ _ (by simp),List.set_append_left _ _ hn]
   have w2:ai st.hp [(n,.arr g false f (es'.set i O8)),(s.hp.length,.arr true true false [])]=(st.hp++[some (aI.arr true true false [])]).set n (some (aI.arr g false f (es'.set i O8))):=by
    have q1:setObj st.hp n (.arr g false f (es'.set i O8))=st.hp.set n (some (.arr g false f (es'.set i O8))):=by unfold setObj; rw[if_neg (by omega)]
    have q2:∀ (L:ag) (o:aI),L.length=s.hp.length→setObj L s.hp.length o=L++[some o]:=fun L o hL=>by unfold setObj; rw[if_pos hL.symm]
    simp only[ai]
    rw[q1,q2 _ _ (by simp[hlen]),List.set_append_left _ _ (by omega)]
   rw[cD]at hk
   have Wm:RE T s.hp st.hp (.lit undef) [(n,.arr g false f cur (es.set i e')),(s.hp.length,.arr true true false 0 [])] ⟨.undef,[(n,.arr g false f (es'.set i O8)),(s.hp.length,.arr true true false [])]⟩:=by
    refine⟨bh undef,by rw[w1,w2]; exact E6,by rw[w1]; exact O3.trans hg2,fun q hq=>?_,fun m hm hl=>?_,by rw[w1]; simp,fun m hm hc=>?_⟩
    ·grind
    ·grind
    ·simp at hc
     rcases hc with rfl|rfl
     ·simp[recAt,ho,aD.isRec]at hm
     ·have:=jl hm; omega
   obtain⟨g8,g9⟩:=h.step Wm none
   refine FC (s':=s.step none (.lit undef) _) ?_ g9 hk
   have:pb d st j esz={ st with fr:=bC st.fr none AV.undef,hp:=ai st.hp [(n,.arr g false f (es'.set i O8)),(s.hp.length,.arr true true false [])] }:=by
    unfold pb
    rw[hlen]at h5
    simp only[eX,c6,S3,Option.bind_some,h5,bC]
    rw[w2,List.set_append_left _ _ (by omega)]
   rw[this]
   exact g8
  ·rename_i dM
   split at hk
   case h_2=>simp[Tr.run]at hk
   rename_i v' jP
   have S4:bP (cH s.fr d)=false:=by
    cases hq:cH s.fr d<;>first|rfl|(rw[hq]at jP; simp[pS]at jP)
   have hd:=hd.live S4
   have pg:=h.hp.new (nm:=s.hp.length) (o':=.arr true true false 0 []) (a':=.arr true true false []) (.inl rfl) S2
   have e1:bL s.hp s.hp.length (.arr true true false 0 [])=s.hp++[some (.arr true true false 0 [])]:=by simp[bL]
   have e2:setObj st.hp s.hp.length (.arr true true false [])=st.hp++[some (.arr true true false [])]:=by simp[setObj,hlen]
   have Yq:=pg
   rw[e1,e2]at pg
   obtain⟨O3,wv⟩:=pg
   have jZ:R T (s.hp++[some (.arr true true false 0 [])]) (.bp esz s.hp.length 0 none none) (.bp esz s.hp.length 0 0 0 none):=Lo (g:=true) (cl:=true) (f:=false) (by simp)
   obtain⟨a',h5,h6⟩:=yD hd (fun h=>h.mono O3) jZ jP
   have eX:st.fr[d]?=some (st.fr.getD d .undef):=by
    rw[List.getD_eq_getElem?_getD]at h5 ⊢
    cases hq:st.fr[d]? with
    |none=>simp_all[kD,AV.undef,Go.undef]
    |some x=>rfl
   have S5:∀ n aq i k,st.fr.getD d .undef≠.ref n aq i k:=by
    intro n aq i k e
    rw[e]at h5
    simp[kD]at h5
   rw[cD]at hk
   have Wm:RE T s.hp st.hp v' [(s.hp.length,.arr true true false 0 [])] ⟨a',[(st.hp.length,.arr true true false [])]⟩:=by
    have w1:aN s.hp [(s.hp.length,.arr true true false 0 [])]=s.hp++[some (.arr true true false 0 [])]:=e1
    have w2:ai st.hp [(st.hp.length,.arr true true false [])]=st.hp++[some (.arr true true false [])]:=by simp[ai,setObj]
    refine⟨.inr (by rw[w1]; exact h6),by rw[w1,w2]; exact wv,by rw[w1]; exact O3,fun q hq=>by simp at hq; subst hq; simp[hlen],fun m hm hl=>?_,by rw[w1]; simp,fun m hm hc=>?_⟩
    ·rw[w1,List.getElem?_append_left hl]
    ·simp at hc
     have:=jl hm; omega
   obtain⟨g8,g9⟩:=h.step Wm (some d)
   refine FC (s':=s.step (some d) v' _) ?_ g9 hk
   have:pb d st j esz={ st with fr:=bC st.fr (some d) a',hp:=ai st.hp [(st.hp.length,.arr true true false [])] }:=by
    unfold pb
    rw[eX]
    rw[hlen]at h5
    split
    ·rename_i n aq i k he
     exact absurd (Option.some.inj he) (S5 n aq i k)
    ·rename_i e _ he
     have he:=Option.some.inj he
     rw[←he,h5]
     simp only[bC,ai,setObj,if_true]
    ·rename_i he; cases he
   rw[this]
   exact g8
theorem Lp[ab](hT:T.Ok){l:Tmp→List (Nat×Nat)}{dst:Option Tmp}{r:ρ}{K:bw T.den→Tr ρ}{s:bw T.den}{st:St}(h:RS T s st)(hk:(C6 l dst s K).run=some r):∃ s',RS T s' (BT l dst st)∧bj s s'∧(K s').run=some r:=by
 cases dst with
 |none=>exact⟨s,h,bj.refl _,hk⟩
 |some d=>exact G8 hT h hk
theorem FL{js:List (Nat×kW)}{n m:Nat}{y:kW}:cr (Bv js n y) m=if m=n then (cr js n).map (fun _=>y) else cr js m:=by
 induction js with
 |nil=>simp[Bv,cr]
 |cons q r ih=>
  obtain⟨k,x⟩:=q
  simp only[Bv,List.map_cons]at ih ⊢
  cases hk:Nat.beq k n with
  |true=>
   have:=Nat.eq_of_beq_eq_true hk
   subst this
   simp only[cr]
   by_cases hm:m=k
   ·subst hm; simp
   ·have:Nat.beq k m=false:=by cases hb:Nat.beq k m; rfl; exact absurd (Nat.eq_of_beq_eq_true hb).symm hm
    rw[this,if_neg hm]
    simp only
    rw[ih,if_neg hm]
  |false=>
   simp only[cr,hk]
   by_cases hm:m=n
   ·simp_all
   ·simp_all
theorem DJ{js:List (Nat×kW)}{n m:Nat}:cr (C8 js n) m=if m=n then none else cr js m:=by
 induction js with
 |nil=>simp[C8,cr]
 |cons q r ih=>
  obtain⟨k,x⟩:=q
  simp only[C8,List.filter_cons]at ih ⊢
  cases hk:Nat.beq k n with
  |true=>
   have:=Nat.eq_of_beq_eq_true hk
   subst this
   simp only[Bool.not_true,Bool.false_eq_true,if_false,ih,cr]
   by_cases hm:m=k
   ·simp[hm]
   ·have:Nat.beq k m=false:=by cases hb:Nat.beq k m; rfl; exact absurd (Nat.eq_of_beq_eq_true hb).symm hm
    rw[this,if_neg hm]
  |false=>
   grind[cr]
theorem G9[ab]{H:ah T.den}{hp:ag}{js:List (Nat×kW)}(hh:RH T H hp)(hj:kz js H hp){n:Nat}{x:kW}(hn:cr js n=some x)(y:kW):RH T H (oG hp n y)∧kz (Bv js n y) H (oG hp n y):=by
 obtain⟨h1,h2⟩:=hj n x hn
 obtain⟨fn,ps,as,bd,fr,hr⟩:=iD h2
 have cd:=(List.getElem?_eq_some_iff.1 hr).1
 have e:oG hp n y=hp.set n (some (.gd (.loop fn ps as bd y) fr)):=by unfold oG; rw[hr]
 rw[e]
 obtain⟨o,ho,Wn⟩:∃ o,H[n]?=some (some o)∧o.isRec=true:=by
  grind[recAt]
 obtain⟨a,ha,dD⟩:=hh.obj ho
 rw[hr]at ha
 simp only[Option.some.injEq]at ha
 subst ha
 cases o<;>simp[aD.isRec]at Wn
 rename_i Ng Wo nW Wp yY
 obtain⟨st,vs,he,mc⟩:=dD
 cases he
 have eb:RH T H (hp.set n (some (.gd (.loop fn ps as bd y) fr))):=by
  have:=aw.set hh n (x:=some (.oU fn ps as bd yY)) (y:=some (aI.gd (.loop fn ps as bd y) fr)) ⟨y,fr,rfl,mc⟩
  rwa [gT ho]at this
 refine⟨eb,fun m z hm=>?_⟩
 rw[FL]at hm
 split at hm
 ·simp_all[ia]
 ·rename_i dM
  obtain⟨h3,h4⟩:=hj m z hm
  exact⟨h3,by rw[nL (List.getElem?_set_ne (Ne.symm dM))]; exact h4⟩
theorem DK{den:Nat→Type}{u:List Nat}{fr:sG den}:∀ {l:List Nat} {i:Nat},(wD u fr l)[i]?=(l[i]?).map fun d=>if u.contains d then cH fr d else .dead
 |[],i=>by simp[wD]
 |d::r,0=>by simp only[wD,List.getElem?_cons_zero,Option.map_some]; cases u.contains d<;>rfl
 |d::r,i+1=>by simp only[wD,List.getElem?_cons_succ]; exact DK
theorem DL{den:Nat→Type}{u:List Nat}{fr:sG den}:∀ {l:List Nat},(wD u fr l).length=l.length
 |[]=>rfl
 |d::r=>by simp only[wD,List.length_cons,DL]
theorem Aw{u:List Nat}:∀ {fr:List AV} {i j:Nat},(m9 u i fr)[j]?=(fr[j]?).map fun x=>if u.contains (i+j) then x else .any
 |[],i,j=>by simp[m9]
 |x::xs,i,0=>by simp[m9]
 |x::xs,i,j+1=>by
  simp only[m9,List.getElem?_cons_succ]
  rw[Aw,show i+1+j=i+(j+1) by omega]
theorem Ax{u:List Nat}:∀ {fr:List AV} {i:Nat},(m9 u i fr).length=fr.length
 |[],_=>rfl
 |x::xs,i=>by simp only[m9,List.length_cons,Ax]
theorem Im[ab]{s:bw T.den}{st:St}(h:RS T s st){as bd:Code}(hd:(cX as++cX bd).all (fun d=>!bP (cH s.fr d)||!Nat.blt d s.n)=true):
  aw (RD T s.hp) (wD (cX as++cX bd) s.fr (List.range s.n)) (tW as bd st.fr):=by
 unfold tW
 refine aw.dX (by rw[DL,Ax,List.length_range,h.n]) fun i x y hx hy=>?_
 rw[DK,Option.map_eq_some_iff]at hx
 rw[Aw,Option.map_eq_some_iff]at hy
 obtain⟨d,OG,rfl⟩:=hx
 obtain⟨a,ha,rfl⟩:=hy
 obtain⟨hi,rfl⟩:i<s.n∧i=d:=by
  grind
 rw[Nat.zero_add]
 cases hc:(cX as++cX bd).contains i with
 |false=>exact .inl ⟨rfl,rfl⟩
 |true=>
  right
  simp only[if_true]
  have hm:i∈cX as++cX bd:=by simpa using hc
  have:=List.all_eq_true.1 hd i hm
  have hb:Nat.blt i s.n=true:=Nat.ble_eq_true_of_le hi
  rw[hb]at this
  simp only[Bool.not_true,Bool.or_false,Bool.not_eq_true']at this
  have hv:=(h.fr i).live this
  rw[List.getD_eq_getElem?_getD,ha]at hv
  exact hv
theorem Ay[ab]{H:ah T.den}:∀ {ps:List Tmp} {xs:List (SV T.den)} {as:List AV} {n:Nat} {fr:sG T.den} {fa:List AV},fa.length=n→(∀ t,RV T H (cH fr t) (fa.getD t .undef))→RL T H xs as →
  (fD fa ps as).length=n∧∀ t,RV T H (cH (lR n fr ps xs) t) ((fD fa ps as).getD t .undef)
 |[],xs,as,n,fr,fa,hl,h,_=>by simpa[fD,lR] using ⟨hl,h⟩
 |p::ps,[],[],n,fr,fa,hl,h,_=>by simpa[fD,lR] using ⟨hl,h⟩
 |p::ps,x::xs,a::as,n,fr,fa,hl,h,hx=>by
  simp only[RL]at hx
  simp only[fD,lR]
  refine Ay (by simp[hl]) (fun t=>?_) hx.2
  rw[ki,Dx,hl]
  split
  ·exact .inr hx.1
  ·exact h t
 |p::ps,[],_::_,_,_,_,_,_,h=>by simp[RL]at h
 |p::ps,_::_,[],_,_,_,_,_,h=>by simp[RL]at h
noncomputable def Lq(n:Nat)(dst:Option Tmp)(st:St):Out→Option Out
 |.norm s2=>wZ n dst st true .ready s2.hp
 |.exit id s2=>wZ n dst st false (.jump (some id)) s2.hp
 |.ret s2=>wZ n dst st false (.jump none) s2.hp
 |_=>none
theorem BI[ab](hT:T.Ok){s s2:bw T.den}{st N1:St}(h:RS T s st)(h2:RS T s2 N1)(hg:dm s.hp s2.hp)(hl:s.hp.length≤s2.hp.length)(hk:∀ n:Nat,n<s.hp.length→n∉s2.wh→s2.hp[n]?=s.hp[n]?)(hw:∀ n,n∈s.wh→n∈s2.wh)
  {n:Nat} {dst:Option Tmp} {b:Bool} {x:kW} {K:bw T.den→Tr ρ} {r:ρ} (hr:(KX s n dst b x s2 K).run=some r) :
  ∃ s' st',wZ n dst st b x N1.hp=some (.norm st')∧RS T s' st'∧bj s s'∧(K s').run=some r:=by
 unfold KX at hr
 split at hr
 case h_2=>simp[Tr.run]at hr
 rename_i hb
 split at hr
 case h_2=>simp[Tr.run]at hr
 rename_i BJ
 rw[jJ,cD]at hr
 obtain⟨_,S6⟩:=h2.js n _ hb
 obtain⟨r1,r2⟩:=G9 h2.hp h2.js hb x
 have S7:si (Bv s2.js n x) s.hp.length=true:=by
  refine List.all_eq_true.2 fun q hq=>?_
  obtain⟨q0,VD,e⟩:=List.mem_map.1 hq
  have:=List.all_eq_true.1 BJ q0 VD
  split at e<;>(subst e; exact this)
 obtain⟨g1,g2,g3⟩:=qb hT h (v:=.lit (.bool b)) (a:=.lit (.bool b)) (by simp[R]) r1 hg hl hk hw r2 S7
 obtain⟨g8,g9⟩:=g1.step (v:=.lit (.bool b)) (wr:=[]) (e:=⟨.lit (.bool b),[]⟩) ⟨bh _,g1.hp,dm.refl _,fun q hq=>by simp at hq,fun _ _ _=>rfl,Nat.le_refl _,fun _ _ h=>by simp at h⟩ dst
 refine⟨_,_,?_,g8,g2.trans g9,hr⟩
 unfold wZ
 rw[S6,h.hp.length]
 rfl
end
def FM{den:Nat→Type}(H H':ah den):Prop:=∀ n:Nat,n<H.length→∀ o':aD den,H'[n]?=some (some o')→∃ o:aD den,H[n]?=some (some o)∧o.cur=o'.cur∧o.len=o'.len
theorem R.back[ab]{T:dk}{H H':ah T.den}(hb:FM H H'){v:SV T.den}{a:AV}(h:R T H' v a)(hv:bt H.length v=true):R T H v a:=by
 refine(h.take hv).mono fun n o ho=>?_
 have hn:n<H.length:=by
  grind
 rw[List.getElem?_take_of_lt hn]at ho
 obtain⟨o',h1,h2,h3⟩:=hb n hn o ho
 exact⟨o',h1,by omega,fun _=>h3⟩
theorem RM.Lr{α:Type}{hp:ag}:∀ {x:RM α} {a:α},x.run hp=some a→∀ n,n∈x.log hp→n<hp.length
 |.ret _,_,_,n,hn=>by simp[RM.log]at hn
 |.fail,_,h,_,_=>by simp[RM.run]at h
 |.get m k,a,h,n,hn=>by
  simp only[RM.run]at h
  split at h
  case h_2=>simp at h
  rename_i o ho
  simp only[RM.log,ho,List.mem_cons]at hn
  rcases hn with rfl|hn
  ·grind
  ·exact RM.Lr h n hn
theorem aE.gL{hp:ag}{ov:Option (Nat×aI)}{nw:List aI}{α:Type}{x:RM α}{a:α}{rd:List Nat}(h:aE (aR hp ov nw) x a rd):aE hp (x.gL hp.length ov nw) a rd:=by
 refine⟨by rw[(nC x).1]; exact h.1,fun n hn=>?_⟩
 rw[(nC x).2]at hn
 exact h.2 n (List.mem_filter.1 hn).1
theorem aE.S8{hp:ag}{ov:Option (Nat×aI)}{nw:List aI}{α:Type}{x:RM α}{a:α}{rd:List Nat}(h:aE (aR hp ov nw) x a rd):aE hp (x.gL hp.length ov nw) a (rd.filter fun n=>Nat.blt n hp.length):=by
 refine⟨by rw[(nC x).1]; exact h.1,fun n hn=>?_⟩
 rw[(nC x).2]at hn
 obtain⟨h1,h2⟩:=List.mem_filter.1 hn
 exact List.mem_filter.2 ⟨h.2 n h1,h2⟩
theorem aE.Wq{hp:ag}{α:Type}{x:RM α}{a:α}{rd:List Nat}(h:aE hp x a rd):aE hp x a (rd.filter fun n=>Nat.blt n hp.length):=by
 refine⟨h.1,fun n hn=>List.mem_filter.2 ⟨h.2 n hn,?_⟩⟩
 have:=RM.Lr h.1 n hn
 simpa using this
theorem Ls[ab]{P:Program}{hp:ag}{ev:Operand→AV}{nm n aq i j:Nat}{dst:Option Tmp}{t:TypeId}{a x:Operand}{type:TypeId}{pos:String}{after:Array Edge}{guard:Option (Nat×Bool)}{e:dg}
  (he:(aM P nm ev ⟨dst,.store t a x,type,pos,after,guard⟩).run hp=some e) (ha:ev a=.ref n aq i j):∃ o',e.wr=[(n,o')]:=by
 simp only[aM,o8,ha]at he
 split at he
 ·simp[RM.ae]at he
 ·simp only[RM.run_bind]at he
  cases hq:(RM.arr n aq).run hp with
  |none=>rw[hq]at he; simp at he
  |some q=>
   rw[hq]at he
   simp only[Option.bind_some]at he
   split at he
   case h_2=>simp[RM.ae]at he
   split at he
   case h_2=>simp[RM.ae]at he
   split at he
   case isFalse=>simp[RM.ae]at he
   simp only[RM.run_pure,Option.some.injEq]at he
   subst he
   exact⟨_,rfl⟩
theorem Ip[ab]{P:Program}{t:TypeId}{a:AV}{hp:ag}{n:Nat}(h:n∈(kA P t a).log hp):n∈names a:=by
 unfold kA at h
 split at h
 ·simp[RM.log]at h
 ·split at h
  ·rw[RM.eh]at h
   simp only[names]
   rcases List.mem_append.1 h with h|h
   ·grind[RM.log,RM.arr]
   ·exfalso
    split at h
    ·unfold RM.eD at h
     repeat' (split at h)
     all_goals first|(simp[RM.log]at h; done)|skip
    ·simp at h
  ·unfold RM.eD at h
   split at h<;>simp[RM.log]at h
  ·simp[RM.log]at h
theorem Ha[ab]{T:dk}{P:Program}{s:bw T.den}{st:St}(h:RS T s st):∀ {rs:List ResultVar},wR s.fr rs=true→∀ n,n∈(aU P st.fr rs).log st.hp→n∈GS s.fr rs
 |[],_,n,hn=>by simp[aU,pure,RM.log]at hn
 |r::rs,hl,n,hn=>by
  unfold wR at hl
  simp only[List.all_cons,Bool.and_eq_true]at hl
  have ih:=Ha (P:=P) h (rs:=rs) (by unfold wR; exact hl.2) n
  simp only[aU,RM.eh]at hn
  unfold GS
  rw[List.flatMap_cons]
  rcases List.mem_append.1 hn with hn|hn
  ·refine List.mem_append.2 (.inl ?_)
   cases r with
   |tmp t=>simp[jM,pure,RM.log]at hn
   |cell a t=>
    simp only[jM]at hn
    have hd:bP (cH s.fr a)=false:=by simpa using hl.1
    have:=Ip hn
    rw[←R.names ((h.fr a).live hd)]at this
    exact this
  ·split at hn
   ·rcases List.mem_append.1 hn with hn|hn
    ·exact List.mem_append.2 (.inr (ih hn))
    ·split at hn
     ·simp[pure,RM.log]at hn
     ·simp at hn
   ·simp at hn
theorem DM[ab]{T:dk}{H:ah T.den}:∀ {l:List (SV T.den)} {m:List AV},aw (R T H) l m→l.all isHole=true→m.all isAny=true
 |[],[],_,_=>rfl
 |x::xs,y::ys,h,hl=>by
  simp only[List.all_cons,Bool.and_eq_true]at hl ⊢
  refine⟨?_,DM h.2 hl.2⟩
  have h1:=h.1
  have h2:=hl.1
  unfold isHole at h2
  split at h2
  ·simp only[R]at h1
   rw[h1]; rfl
  ·simp at h2
theorem qM[ab]{T:dk}(hT:T.Ok){Q:gw}(hQ:Q.Ok)(hZ:T.tK Q){ops:Array Oper}{hp:ag}{H:ah T.den}(hH:H.length=hp.length){ρ:Type}{r:ρ}{f:FuncId}:
  ∀ (l:List Oper) (s:bw T.den) (q:wq) (ov:Option Nat) (rd:List Nat) (K:bw T.den→Option Nat→List Nat→Tr ρ),RS T s ⟨f,q.fr,aR hp q.ov q.nw⟩→ov=q.ov.map (·.1)→(∀ n o,q.ov=some (n,o)→∃ o0,hp[n]?=some (some o0))→FM H s.hp →
  (uU Q hp.length l s ov rd K).run=some r →
  ∃ s' Iq rd2 q',aE hp (iW Q.P hp.length ops l q) q' rd2∧RS T s' ⟨f,q'.fr,aR hp q'.ov q'.nw⟩∧Iq=q'.ov.map (·.1)∧(∀ n o,q'.ov=some (n,o)→∃ o0,hp[n]?=some (some o0))∧FM H s'.hp∧(K s' Iq (rd++rd2)).run=some r
 |[],s,q,ov,rd,K,h,wF,hex,hb,hk=>⟨s,ov,[],q,aE.pure _,h,wF,hex,hb,by rw[List.append_nil]; exact hk⟩
 |o::l,s,q,ov,rd,K,h,wF,hex,hb,hk=>by
  simp only[uU]at hk
  split at hk
  ·simp[Tr.run]at hk
  rename_i hg
  have hw:cF ops q.fr o=some true:=by simp[cF,hg]
  split at hk
  ·simp[Tr.run]at hk
  ·rename_i D4
   rw[cD]at hk
   have he:RE T s.hp (aR hp q.ov q.nw) (.lit cK) [] ⟨.lit cK,[]⟩:=⟨bh _,h.hp,dm.refl _,fun q h=>by simp at h,fun _ _ _=>rfl,Nat.le_refl _,fun _ _ h=>by simp at h⟩
   obtain⟨g1,_⟩:=h.step he o.dst
   obtain⟨s',Iq,rd2,q',i1,i2,i3,i4,i5,hk⟩:=qM hT hQ hZ (ops:=ops) hH l _ { q with fr:=bC q.fr o.dst (.lit cK) } ov rd K g1 wF hex (by simpa[bw.step,aN] using hb) hk
   refine⟨s',Iq,rd2,q',?_,i2,i3,i4,i5,hk⟩
   simp only[iW,hw,D4]
   cases hd:o.dst with
   |none=>rw[hd]at i1; exact i1
   |some d=>rw[hd]at i1; exact i1
  ·rename_i Uh Ml
   have hlen:s.hp.length=hp.length+q.nw.length:=h.hp.length.trans n8
   obtain⟨v,wr,rd',e,g1,g2,hk⟩:=FG hT hQ hZ h.hp (.inl rfl) (fun x=>h.ev x) hk
   simp only at hk
   rw[hlen]at g1
   have e1:iW Q.P hp.length ops (o::l) q=((aM Q.P (hp.length+q.nw.length) (az q.fr) o).gL hp.length q.ov q.nw >>= fun e=>match e.wr.all fun q=>Nat.ble hp.length q.1 with
     |true=>iW Q.P hp.length ops l { q with fr:=bC q.fr o.dst e.val,nw:=pe hp.length q.nw e.wr }
     |false=>(match q.ov,e.wr with
      |none,[(n,o')]=>.get n fun o0=>(match rE Q.P (az q.fr) o.op n o0 with
        |true=>iW Q.P hp.length ops l { q with fr:=bC q.fr o.dst e.val,ov:=some (n,o') }
        |false=>.fail)
      |_,_=>.fail)):=by
    simp only[iW,hw]
    rfl
   rw[e1]
   split at hk
   ·rename_i bf
    rw[cD]at hk
    obtain⟨g3,_⟩:=h.step g2 o.dst
    have DN:e.wr.all (fun q=>Nat.ble hp.length q.1)=true:=by
     refine List.all_eq_true.2 fun x hx=>?_
     obtain⟨y,hy,VK⟩:=List.mem_map.1 (g2.names x hx)
     have:=List.all_eq_true.1 bf y hy
     rw[←VK]; exact this
    rw[pM e.wr fun x hx=>Nat.le_of_ble_eq_true (List.all_eq_true.1 DN x hx)]at g3
    have o5:FM H (s.step o.dst v wr).hp:=by
     intro n hn o' c6
     refine hb n hn o' ?_
     have:n∉wr.map (·.1):=by
      intro hm
      obtain⟨y,hy,rfl⟩:=List.mem_map.1 hm
      have:=Nat.le_of_ble_eq_true (List.all_eq_true.1 bf y hy)
      omega
     rw[←g2.zd n this (by omega)]
     exact c6
    obtain⟨s',Iq,rd2,q',i1,i2,i3,i4,i5,hk⟩:=qM hT hQ hZ (ops:=ops) hH l _ { q with fr:=bC q.fr o.dst e.val,nw:=pe hp.length q.nw e.wr } ov (rd++rd') K g3 wF hex o5 hk
    refine⟨s',Iq,rd'++rd2,q',?_,i2,i3,i4,i5,by rw[←List.append_assoc]; exact hk⟩
    refine aE.bind g1.gL ?_
    simp only[DN]
    exact i1
   ·split at hk
    case h_2=>simp[Tr.run]at hk
    rename_i n o' bf abm
    split at hk
    case h_2=>simp[Tr.run]at hk
    rename_i hh
    rw[Bool.and_eq_true]at hh
    obtain⟨cd,gJ⟩:=hh
    have cd:n<hp.length:=by simpa using cd
    have QD:q.ov=none:=by
     cases hq:q.ov with
     |none=>rfl
     |some x=>rw[hq]at wF; simp at wF
    unfold GR at gJ
    split at gJ
    case h_2=>simp at gJ
    rename_i t a x D4
    split at gJ
    case h_2=>simp at gJ
    rename_i r0 n' c i j g f cur es PC S3 yR
    split at gJ
    case h_2=>simp at gJ
    rename_i l0 wG
    simp only[Bool.and_eq_true]at gJ
    obtain⟨⟨⟨⟨c1,c2⟩,c3⟩,c4⟩,c5⟩:=gJ
    obtain rfl:=Nat.eq_of_beq_eq_true c1
    have Mx:=h.ev a
    rw[S3]at Mx
    have Mx:=Mx.live rfl
    simp only[R]at Mx
    obtain⟨aq,Mx,_⟩:=Mx
    obtain⟨dst,op,type,pos,after,guard⟩:=o
    simp only at D4
    subst D4
    obtain⟨VQ,Eb⟩:=Ls g1.1 Mx
    obtain⟨ao,HI,dD⟩:=h.hp.obj yR
    obtain⟨es',rfl,cC,_⟩:=dD
    obtain⟨l1,sE,GY⟩:=aw.get (aQ.1 cC) wG
    simp only[R]at GY
    obtain⟨l',rfl,GY⟩:=GY
    rw[QD]at HI
    have uv:hp[n']?=some (some (.arr g false f es')):=by
     grind[aR,pL]
    obtain⟨r1,wv,_,kF,_⟩:=hQ.row _ _ PC
    have S9:rE Q.P (az q.fr) (.store t a x) n' (.arr g false f es')=true:=by
     simp only[rE,wv,Mx,sE,Bool.and_eq_true]
     refine⟨⟨c1,?_⟩,?_⟩
     ·rw[←aw.length (aQ.1 GY),kF]; exact c2
     ·rw[kF]
      exact DM (((aQ.1 GY).drop j).take r0.size) c3
    have DN:e.wr.all (fun q=>Nat.ble hp.length q.1)=false:=by
     simp_all
    rw[cD]at hk
    obtain⟨g3,_⟩:=h.step g2 dst
    simp only at g3
    rw[Eb,QD,xO uv]at g3
    have o5:FM H (s.step dst v [(n',o')]).hp:=by
     intro m hm om Yr
     by_cases e:m=n'
     ·subst e
      have N5:(aN s.hp [(m,o')])[m]?=some (some om):=Yr
      simp only[aN,bL]at N5
      rw[if_neg (by omega),List.getElem?_set_self (by omega)]at N5
      simp only[Option.some.injEq]at N5
      subst N5
      obtain⟨o1,b1,b2,b3⟩:=hb m hm _ yR
      refine⟨o1,b1,b2.trans (Nat.eq_of_beq_eq_true c4),b3.trans (Nat.eq_of_beq_eq_true c5)⟩
     ·refine hb m hm om ?_
      rw[←g2.zd m (by simpa using e) (by omega)]
      exact Yr
    obtain⟨s',Iq,rd2,q',i1,i2,i3,i4,i5,hk⟩:=qM hT hQ hZ (ops:=ops) hH l _ { q with fr:=bC q.fr dst e.val,ov:=some (n',VQ) } (some n') (rd++(rd'++[n'])) K g3 rfl
     (fun m om hm=>by simp only[Option.some.injEq,Prod.mk.injEq]at hm; obtain⟨rfl,rfl⟩:=hm; exact⟨_,uv⟩) o5 hk
    refine⟨s',Iq,rd'++(n'::rd2),q',?_,i2,i3,i4,i5,by simpa using hk⟩
    refine aE.bind g1.gL ?_
    rw[Eb]at DN
    simp only[Eb,DN,QD]
    refine aE.get uv ?_
    simp only[S9]
    exact i1
theorem Ir[ab]{T:dk}(hT:T.Ok){Q:gw}(hQ:Q.Ok)(hZ:T.tK Q){hp:ag}{H:ah T.den}(hH:H.length=hp.length){ρ:Type}{r:ρ}{f:FuncId}:
  ∀ (c:Code) (s:bw T.den) (q:wq) (ov:Option Nat) (rd:List Nat) (K:Bool→bw T.den→Option Nat→List Nat→Tr ρ),RS T s ⟨f,q.fr,aR hp q.ov q.nw⟩→ov=q.ov.map (·.1)→(∀ n o,q.ov=some (n,o)→∃ o0,hp[n]?=some (some o0))→FM H s.hp →
  (lT Q hp.length c s ov rd K).run=some r →
  ∃ b s' Iq rd2 q',aE hp (gC Q.P hp.length c q) (q',b) rd2∧RS T s' ⟨f,q'.fr,aR hp q'.ov q'.nw⟩∧Iq=q'.ov.map (·.1)∧(∀ n o,q'.ov=some (n,o)→∃ o0,hp[n]?=some (some o0))∧FM H s'.hp∧(K b s' Iq (rd++rd2)).run=some r:=by
 intro c
 induction c with
 |skip=>intro s q ov rd K h wF hex hb hk; exact⟨false,s,ov,[],q,aE.pure _,h,wF,hex,hb,by rw[List.append_nil]; exact hk⟩
 |ret=>intro s q ov rd K h wF hex hb hk; exact⟨true,s,ov,[],q,aE.pure _,h,wF,hex,hb,by rw[List.append_nil]; exact hk⟩
 |seq a b GC Ee=>
  intro s q ov rd K h wF hex hb hk
  simp only[lT]at hk
  obtain⟨z,s1,Rj,Rk,q1,g1,g2,g3,g4,g5,hk⟩:=GC s q ov rd _ h wF hex hb hk
  cases z with
  |true=>exact⟨true,s1,Rj,Rk++[],q1,by simp only[gC]; exact aE.bind g1 (aE.pure _),g2,g3,g4,g5,by rw[List.append_nil]; exact hk⟩
  |false=>
   obtain⟨z,s2,ov2,rd2,q2,i1,i2,i3,i4,i5,hk⟩:=Ee s1 q1 Rj _ K g2 g3 g4 g5 hk
   exact⟨z,s2,ov2,Rk++rd2,q2,by simp only[gC]; exact aE.bind g1 i1,i2,i3,i4,i5,by rw[←List.append_assoc]; exact hk⟩
 |cond o a b GC Ee=>
  intro s q ov rd K h wF hex hb hk
  simp only[lT]at hk
  split at hk
  ·rename_i t hs
   have ha:=(h.ev o).live (by rw[hs]; rfl)
   rw[hs]at ha
   have ha:az q.fr o=.lit (.bool t):=ha
   rcases fi hk with ⟨rfl,hk⟩|⟨rfl,hk⟩
   ·obtain⟨z,s1,Rj,Rk,q1,g1,g⟩:=GC s q ov rd K h wF hex hb hk
    exact⟨z,s1,Rj,Rk,q1,by simp only[gC,ha]; exact g1,g⟩
   ·obtain⟨z,s1,Rj,Rk,q1,g1,g⟩:=Ee s q ov rd K h wF hex hb hk
    exact⟨z,s1,Rj,Rk,q1,by simp only[gC,ha]; exact g1,g⟩
  ·simp[Tr.run]at hk
 |region id ops draw=>
  intro s q ov rd K h wF hex hb hk
  cases draw with
  |true=>simp[lT,Tr.run]at hk
  |false=>
   simp only[lT]at hk
   obtain⟨s',Iq,rd2,q',g1,g2,g3,g4,g5,hk⟩:=qM hT hQ hZ (ops:=ops) hH ops.toList s q ov rd _ h wF hex hb hk
   exact⟨false,s',Iq,rd2++[],q',by simp only[gC]; exact aE.bind g1 (aE.pure _),g2,g3,g4,g5,by rw[List.append_nil]; exact hk⟩
 |_=>intro s q ov rd K h wF hex hb hk; simp[lT,Tr.run]at hk
section
variable {T:dk}
theorem aw.qc{α β:Type}{P:α→β→Prop}:∀ {l:List α} {m:List β},aw P l m→∀ {i:Nat} {x:α} {y:β},m[i]?=some y→P x y→aw P (l.set i x) m
 |_::_,_::_,h,0,x,y,hy,hp=>by simp at hy; subst hy; exact⟨hp,h.2⟩
 |_::_,_::_,h,i+1,x,y,hy,hp=>⟨h.1,aw.qc h.2 (by simpa using hy) hp⟩
 |[],[],_,_,_,_,hy,_=>by simp at hy
theorem vf[ab]{s:bw T.den}{st:St}(h:RS T s st){n:Nat}{o o':aD T.den}(ho:s.hp[n]?=some (some o))(hc:o'.cur=o.cur)(hl:o'.len=o.len)(na:o.isRec=false)
  (hr:∀ a,RO T s.hp o a→RO T s.hp o' a):RS T { s with hp:=s.hp.set n (some o'),wh:=n::s.wh } st∧bj s { s with hp:=s.hp.set n (some o'),wh:=n::s.wh }:=by
 have hn:=(List.getElem?_eq_some_iff.1 ho).1
 obtain⟨a,ha,hra⟩:=h.hp.obj ho
 have hg:dm s.hp (s.hp.set n (some o')):=by
  intro m x hm
  by_cases e:m=n
  ·simp_all
  ·grind
 refine⟨⟨h.fn,h.n,fun t=>(h.fr t).mono hg,?_,h.js.zd fun m hm=>⟨?_,rfl⟩⟩,⟨rfl,rfl,fun _ _=>rfl,fun _ h=>h,fun m hm hw=>?_,fun m hm=>List.mem_cons_of_mem _ hm,by simp,hg⟩⟩
 ·exact aw.qc (aw.mono (fun _ _ h=>Bw.mono hg h) h.hp) (y:=some a) ha (Bw.mono hg (show Bw T s.hp (some o') (some a) from hr a hra))
 ·have dM:m≠n:=by
   grind[recAt]
  rw[List.getElem?_set_ne (Ne.symm dM)]
 ·simp only at hw ⊢
  rw[List.getElem?_set_ne (fun e=>hw (by rw[e]; simp))]
theorem sA[ab]{s:bw T.den}{st:St}(h:RS T s st){d:Nat}{v:SV T.den}(hr:∀ a,R T s.hp (cH s.fr d) a→R T s.hp v a)(hd:bP (cH s.fr d)=false):
  RS T { s with fr:=tA s.n s.fr d v,wf:=d::s.wf } st∧bj s { s with fr:=tA s.n s.fr d v,wf:=d::s.wf }:=by
 refine⟨⟨h.fn,h.n,fun t=>?_,h.hp,h.js⟩,⟨rfl,rfl,fun t ht=>?_,fun t ht=>List.mem_cons_of_mem _ ht,fun _ _ _=>rfl,fun _ h=>h,Nat.le_refl _,dm.refl _⟩⟩
 ·simp only
  rw[ki]
  split
  ·rename_i e
   rw[e.1]
   exact .inr (hr _ ((h.fr d).live hd))
  ·exact h.fr t
 ·simp only at ht ⊢
  rw[ki,if_neg]
  exact fun e=>ht (by rw[e.1]; simp)
theorem sB[ab]{s:bw T.den}{st:St}(h:RS T s st){d j:Nat}{v v':SV T.den}(hc:cellOf s d j=some v)(hd:bP v=false)(hr:∀ a,R T s.hp v a→R T s.hp v' a)(kG:aF v'=true):
  RS T (setCell s d j v') st∧bj s (setCell s d j v'):=by
 unfold cellOf at hc
 unfold setCell
 split at hc
 ·rename_i n c i k he
  split at hc
  case h_2=>simp at hc
  rename_i g cl f cur es ho
  split at hc
  case h_2=>simp at hc
  rename_i l hl
  refine vf h ho rfl (by simp[aD.len]) rfl fun a ha=>?_
  obtain⟨es',rfl,h1,h2⟩:=ha
  obtain⟨ea,h3,h4⟩:=aw.get (aQ.1 h1) hl
  simp only[R]at h4
  obtain⟨l',rfl,h5⟩:=h4
  obtain⟨b,h6,h7⟩:=aw.get (aQ.1 h5) hc
  refine⟨es',rfl,aQ.2 (aw.qc (aQ.1 h1) h3 ?_),fun Wr=>?_⟩
  ·simp only[R]
   exact⟨l',rfl,aQ.2 (aw.qc (aQ.1 h5) h6 (hr _ h7))⟩
  ·have h8:=h2 Wr
   rw[ji,List.all_eq_true]at h8 ⊢
   intro x hx
   rcases List.mem_or_eq_of_mem_set hx with hx|rfl
   ·exact h8 x hx
   ·have h9:=h8 _ (List.mem_of_getElem? hl)
    simp only[aF]at h9 ⊢
    rw[ji,List.all_eq_true]at h9 ⊢
    intro y hy
    rcases List.mem_or_eq_of_mem_set hy with hy|rfl
    ·exact h9 y hy
    ·exact kG
 ·rename_i l he
  refine sA h (fun a ha=>?_) (by rw[he]; rfl)
  rw[he]at ha
  simp only[R]at ha ⊢
  obtain⟨l',rfl,h5⟩:=ha
  obtain⟨b,h6,h7⟩:=aw.get (aQ.1 h5) hc
  exact⟨l',rfl,aQ.2 (aw.qc (aQ.1 h5) h6 (hr _ h7))⟩
 ·rename_i h1 h2
  split at hc
  case h_2=>simp at hc
  simp only[Option.some.injEq]at hc
  subst hc
  exact sA h hr hd
theorem DP{ρ:Type}{r:ρ}{n:Int}{K:Int→Tr ρ}:∀ {b m:Nat},(KW b m n K).run=some r→∃ m':Nat,n=Int.ofNat m'∧(K (Int.ofNat m')).run=some r
 |0,m,h=>by simp[KW,Tr.run]at h
 |b+1,m,h=>by
  simp only[KW,Tr.run]at h
  cases hb:n==Int.ofNat m with
  |true=>
   rw[hb]at h
   exact⟨m,eq_of_beq hb,h⟩
  |false=>
   rw[hb]at h
   exact DP h
theorem yE{α:Type}:∀ {l:List α} {i:Nat} {x:α},l[i]?=some x→l.drop i=x::l.drop (i+1)
 |y::ys,0,x,h=>by simp at h; subst h; simp
 |y::ys,i+1,x,h=>by simp at h ⊢; exact yE h
 |[],i,x,h=>by simp at h
theorem vg[ab]{ρ:Type}{r:ρ}{t:Nat}{l:List (T.den t)}:∀ {n i:Nat} {K:List (SV T.den)→Tr ρ},(C7 t l n i K).run=some r→∃ xs:List (T.den t),xs.length=n∧(l.drop i).take n=xs∧(K (xs.map (T.up t))).run=some r
 |0,i,K,h=>⟨[],rfl,by simp,h⟩
 |n+1,i,K,h=>by
  simp only[C7,Tr.run,Option.bind_eq_some_iff]at h
  obtain⟨x,hx,h⟩:=h
  obtain⟨xs,h1,h2,h3⟩:=vg h
  refine⟨x::xs,by simp[h1],?_,h3⟩
  rw[yE hx,List.take_succ_cons,h2]
theorem Lt[ab](hT:T.Ok){H:ah T.den}{t:Nat}:∀ {l:List (T.den t)} {m:List AV},aw (T.rp t) l m→RL T H (l.map (T.up t)) m∧av (l.map (T.up t))=true
 |[],[],_=>by simp[RL,av]
 |x::xs,y::ys,h=>by
  obtain⟨h1,h2⟩:=Lt hT (H:=H) h.2
  simp only[List.map_cons,RL,av,Bool.and_eq_true]
  exact⟨⟨hT.up _ _ _ H h.1,h1⟩,uZ hT h.1,h2⟩
theorem Lu[ab](hT:T.Ok){ρ:Type}{r:ρ}{w:Tw}{K:bw T.den→Tr ρ}{s:bw T.den}{st:St}(h:RS T s st)(hk:(yb s w K).run=some r):∃ s',RS T s' st∧bj s s'∧(K s').run=some r:=by
 cases w with
 |num d j b=>
  simp only[yb]at hk
  split at hk
  case h_2=>simp[Tr.run]at hk
  rename_i k n hc
  obtain⟨m,rfl,EA⟩:=DP hk
  clear hk
  have hk:=EA
  rw[force_eq]at hk
  obtain⟨h1,h2⟩:=sB h hc rfl (v':=.lit (.int k (Int.ofNat m))) (fun a ha=>ha) rfl
  exact⟨_,h1,h2,hk⟩
 |X2 d j n=>
  simp only[yb]at hk
  split at hk
  case h_2=>simp[Tr.run]at hk
  rename_i t l hc
  obtain⟨g1,hk⟩:=aZ hk
  simp only[Bool.and_eq_true,decide_eq_true_eq]at g1
  obtain⟨g0,g1⟩:=g1
  have g0:0<n:=by simpa using g0
  obtain⟨xs,e1,e2,hk⟩:=vg hk
  rw[List.drop_zero,←g1,List.take_length]at e2
  subst e2
  rw[force_eq]at hk
  have kG:aF (.sl (l.map (T.up t)):SV T.den)=true:=rfl
  obtain⟨h1,h2⟩:=sB h hc rfl (v':=.sl (l.map (T.up t))) (fun a ha=>by
   simp only[R]at ha ⊢
   rcases ha with ⟨l',rfl,ha⟩|⟨rfl,_⟩
   ·obtain⟨b1,b2⟩:=Lt hT (H:=s.hp) ha
    exact⟨l',rfl,b1,b2⟩
   ·simp at g1; omega) kG
  exact⟨_,h1,h2,hk⟩
 |arr d n=>
  simp only[yb]at hk
  split at hk
  case h_2=>simp[Tr.run]at hk
  split at hk
  case h_2=>simp[Tr.run]at hk
  rename_i g f cur t l ho
  obtain⟨g1,hk⟩:=aZ hk
  simp only[decide_eq_true_eq]at g1
  obtain⟨xs,e1,e2,hk⟩:=vg hk
  rw[List.drop_zero,←g1,List.take_length]at e2
  subst e2
  rw[force_eq]at hk
  obtain⟨h1,h2⟩:=vf h ho (o':=.arr g true f cur (l.map (T.up t))) rfl (by simp[aD.len]) rfl (fun a ha=>by
   obtain⟨es',rfl,ha⟩:=ha
   obtain⟨b1,b2⟩:=Lt hT (H:=s.hp) ha
   exact⟨es',rfl,b1,fun _=>b2⟩)
  exact⟨_,h1,h2,hk⟩
 |int d j=>
  simp only[yb]at hk
  split at hk
  case h_2=>simp[Tr.run]at hk
  rename_i k n hc
  simp only[Tr.run,Option.bind_some]at hk
  rw[force_eq]at hk
  obtain⟨h1,h2⟩:=sB h hc rfl (v':=.lit (.int k n)) (fun a ha=>ha) rfl
  exact⟨_,h1,h2,hk⟩
 |name d=>
  simp only[yb]at hk
  split at hk
  case h_2=>simp[Tr.run]at hk
  rename_i esz nm c rg cap hd
  split at hk
  case h_2=>simp[Tr.run]at hk
  rename_i g f cur t l ho
  simp only[Tr.run,Option.bind_some]at hk
  obtain⟨h1,h2⟩:=vf h ho (o':=.bX g f cur t l) rfl rfl rfl (fun a ha=>ha)
  split at hk
  ·rw[force_eq]at hk
   exact⟨_,h1,h2,hk⟩
  ·rename_i off len
   simp only[Tr.run,Option.bind_some]at hk
   rw[force_eq]at hk
   obtain⟨h3,h4⟩:=sA h1 (d:=d) (v:=.bp esz nm c (some (off,len)) cap) (fun a ha=>by simp only[hd]at ha; exact ha) (by simp only[hd]; rfl)
   exact⟨_,h3,h2.trans h4,hk⟩
theorem BK[ab](hT:T.Ok){ρ:Type}{r:ρ}{K:bw T.den→Tr ρ}{st:St}:∀ {l:List Tw} {s:bw T.den},RS T s st→(SB l s K).run=some r→∃ s',RS T s' st∧bj s s'∧(K s').run=some r
 |[],s,h,hk=>⟨s,h,bj.refl _,hk⟩
 |w::l,s,h,hk=>by
  obtain⟨s1,h1,h2,hk⟩:=Lu hT h hk
  obtain⟨s2,h3,h4,hk⟩:=BK hT h1 hk
  exact⟨s2,h3,h2.trans h4,hk⟩
theorem QE[ab](hT:T.Ok){ρ:Type}{r:ρ}{l:Tmp→List Tw}{dst:Option Tmp}{K:bw T.den→Tr ρ}{s:bw T.den}{st:St}(h:RS T s st)(hk:(SC l dst s K).run=some r):∃ s',RS T s' st∧bj s s'∧(K s').run=some r:=by
 cases dst with
 |none=>exact⟨s,h,bj.refl _,hk⟩
 |some d=>exact BK hT h hk
end
theorem vh[ab]{T:dk}{ρ:Type}{r:ρ}{K:bw T.den→Tr ρ}:∀ {l:List (Nat×Nat)} {s:bw T.den} {st:St},RS T s st→(ya l s K).run=some r→∃ s',RS T s' (gF l st)∧bj s s'∧(K s').run=some r
 |[],s,st,h,hk=>⟨s,h,bj.refl _,hk⟩
 |(d,j)::l,s,st,h,hk=>by
  unfold ya at hk
  have hd:=h.fr d
  split at hk
  case h_2=>simp[Tr.run]at hk
  rename_i n c i k he
  rw[he]at hd
  have hd:=hd.live rfl
  simp only[R]at hd
  obtain⟨aq,hd,cb⟩:=hd
  split at hk
  case h_2=>simp[Tr.run]at hk
  rename_i g cl f cur es ho
  obtain⟨ao,c6,dD⟩:=h.hp.obj ho
  obtain⟨es',rfl,cC,kG⟩:=dD
  split at hk
  case h_2=>simp[Tr.run]at hk
  rename_i e' Gl
  obtain⟨e,Mg,xK⟩:=Option.bind_eq_some_iff.1 Gl
  obtain⟨ea,S3,Eh⟩:=aw.get (aQ.1 cC) Mg
  unfold Ad at xK
  split at xK
  case h_2=>simp at xK
  rename_i l0
  split at xK
  case h_2=>simp at xK
  rename_i Ve
  simp only[Option.some.injEq]at xK
  subst xK
  simp only[R]at Eh
  obtain⟨l',rfl,GY⟩:=Eh
  have hn:=(List.getElem?_eq_some_iff.1 ho).1
  have Ws:Nat.blt (k+j) l'.length=true:=by rw[←aw.length (aQ.1 GY)]; exact Ve
  have FC:mi st d j={ st with hp:=st.hp.set n (some (.arr g false f (es'.set i (.agg (l'.set (k+j) .any))))) }:=by
   unfold mi
   rw[hd]
   simp only[c6,S3,Option.bind_some,sL,Ws]
  rw[cD]at hk
  have hg:dm s.hp (s.hp.set n (some (.arr g false f cur (es.set i (.agg (l0.set (k+j) .hole)))))):=by
   intro m o hm
   by_cases e:m=n
   ·subst e
    rw[ho]at hm
    simp only[Option.some.injEq]at hm
    subst hm
    exact⟨_,List.getElem?_set_self hn,Nat.le_refl _,fun _=>by simp[aD.len]⟩
   ·grind
  have dD:RO T (s.hp.set n (some (.arr g false f cur (es.set i (.agg (l0.set (k+j) .hole)))))) (.arr g false f cur (es.set i (.agg (l0.set (k+j) .hole)))) (.arr g false f (es'.set i (.agg (l'.set (k+j) .any)))):=by
   refine⟨_,rfl,aQ.2 (((aQ.1 cC).mono fun _ _ h=>h.mono hg).set i ?_),fun h=>by cases h⟩
   simp only[R]
   exact⟨_,rfl,aQ.2 (((aQ.1 GY).mono fun _ _ h=>h.mono hg).set (k+j) (by simp[R]))⟩
  have eb:aN s.hp [(n,.arr g false f cur (es.set i (.agg (l0.set (k+j) .hole))))]=s.hp.set n (some (.arr g false f cur (es.set i (.agg (l0.set (k+j) .hole))))):=by
   grind[aN,bL]
  have O9:ai st.hp [(n,.arr g false f (es'.set i (.agg (l'.set (k+j) .any))))]=st.hp.set n (some (.arr g false f (es'.set i (.agg (l'.set (k+j) .any))))):=by
   simp only[ai]
   exact iA (List.getElem?_eq_some_iff.1 c6).1
  have hE:RE T s.hp st.hp (.lit undef) [(n,.arr g false f cur (es.set i (.agg (l0.set (k+j) .hole))))] ⟨.undef,[(n,.arr g false f (es'.set i (.agg (l'.set (k+j) .any))))]⟩:=by
   refine⟨bh _,?_,by rw[eb]; exact hg,fun q hq=>by simp only[List.mem_singleton]at hq; subst hq; simp,fun m hm hl=>?_,by rw[eb]; simp,fun m hm hc=>?_⟩
   ·rw[eb,O9]
    exact(aw.mono (fun _ _ h=>Bw.mono hg h) h.hp).set n dD
   ·grind
   ·simp_all[aD.isRec,recAt]
  obtain⟨g1,g2⟩:=h.step hE none
  rw[O9]at g1
  have Nn:RS T (s.step none (.lit undef) [(n,.arr g false f cur (es.set i (.agg (l0.set (k+j) .hole))))]) (mi st d j):=by
   rw[FC]; exact g1
  obtain⟨s',i1,i2,i3⟩:=vh Nn hk
  exact⟨s',i1,g2.trans i2,i3⟩
section
variable [ab]{S:od}(hS:S.Ok)
include hS
theorem QF(f:FuncId):(S.Qf f).Ok:=⟨hS.Q.row,hS.Q.kind,hS.Q.OS,hS.Q.map⟩
theorem Lv{ρ:Type}{r:ρ}{g:FuncId}{args:List (SV S.T.den)}{as:List AV}{H:ah S.T.den}{hp:ag}{K:EK S.T ρ}(hh:RH S.T H hp)(ha:RL S.T H args as)(hk:(KY S g args H K).run=some r):
  S.C.kind g=.imp∧S.C.qY g=none∧∃ v rd e,aE hp (yN S.C.P hp.length g as) e rd∧RE S.T H hp v [] e∧(K v [] rd).run=some r:=by
 unfold KY at hk
 split at hk
 case h_2=>simp[Tr.run]at hk
 rename_i fn Wt QG qR
 split at hk
 case h_2=>simp[Tr.run]at hk
 rename_i c hc
 split at hk
 case h_1=>simp[Tr.run]at hk
 rename_i hD
 have gJ:=yz (f:=g) ha hh fn.ntmps [] (js:=[]) (fun n st h=>by cases h)
 have hlen:H.length=hp.length:=hh.length
 have el:aR hp none []=hp:=by simp[aR,pL]
 rw[hlen]at hk
 obtain⟨b,s',ov,rd2,q,g1,g2,g3,g4,g5,hk⟩:=Ir hS.T (QF hS g) hS.Z hlen (f:=g) c _ ⟨as++List.replicate (fn.ntmps-as.length) .undef,none,[]⟩ none _ _ (by simp only[el]; exact gJ) rfl (fun n o h=>by cases h) (fun n hn o ho=>⟨o,ho,rfl,rfl⟩) hk
 obtain⟨l,m,i1,i2,hk⟩:=oz hS.T hS.Q g2 hk
 have Wi:(aU S.C.P q.fr fn.results.toList).run (aR hp q.ov q.nw)=some m:=i1
 split at hk
 case h_2=>simp[Tr.run]at hk
 rename_i HH
 simp only[Bool.and_eq_true]at HH
 obtain⟨⟨c1,c2⟩,c3⟩:=HH
 have Ys:=G1 i2
 have hR:R S.T H (qS l) (cB m):=R.back g5 Ys (by rw[hlen]; exact c1)
 refine⟨Wt,QG,qS l,_,⟨cB m,[]⟩,?_,⟨.inr hR,hh,dm.refl _,fun q h=>by simp at h,fun _ _ _=>rfl,Nat.le_refl _,fun _ _ h=>by simp at h⟩,hk⟩
 unfold yN
 rw[qR]
 simp only
 rw[hc]
 simp only
 rw[hD]
 simp only
 have BJ:(below hp.length (cB m)&&(match q.ov with
    |some (_,o)=>o.below hp.length
    |none=>true))=true:=by
  rw[Bool.and_eq_true]
  refine⟨by rw[←R.below Ys]; exact c1,?_⟩
  cases hq:q.ov with
  |none=>rfl
  |some x=>
   obtain⟨n,o⟩:=x
   simp only
   rw[hq]at g3
   simp only[Option.map_some]at g3
   rw[g3]at c3
   simp only at c3
   split at c3
   case h_2=>simp at c3
   rename_i so Pj
   obtain⟨o0,Yt⟩:=g4 n o hq
   obtain⟨ao,Wu,Wv⟩:=aw.get g2.hp Pj
   have cd:=(List.getElem?_eq_some_iff.1 Yt).1
   have:(aR hp q.ov q.nw)[n]?=some (some o):=by
    rw[hq]
    simp only[aR,pL,Yt]
    rw[List.getElem?_append_left (by simpa using cd),List.getElem?_set_self cd]
   rw[this]at Wu
   simp only[Option.some.injEq]at Wu
   subst Wu
   have:=Ar hS.T Wv (n:=hp.length)
   rw[c3]at this
   exact this.symm
 have y1:aE hp (gC S.C.P hp.length c ⟨as++List.replicate (fn.ntmps-as.length) .undef,none,[]⟩) (q,b) rd2:=g1
 have y2:aE hp ((aU S.C.P q.fr fn.results.toList).gL hp.length q.ov q.nw) m ((GS s'.fr fn.results.toList).filter fun n=>Nat.blt n hp.length):=
  aE.S8 ⟨Wi,fun n hn=>Ha g2 c2 n hn⟩
 have y3:=aE.bind (y1.Wq) (f:=fun q=>(aU S.C.P q.1.fr fn.results.toList).gL hp.length q.1.ov q.1.nw >>= fun l=>match below hp.length (cB l)&&(match q.1.ov with
    |some (_,o)=>o.below hp.length
    |none=>true) with
   |true=>(pure ⟨cB l,[]⟩:RM dg)
   |false=>.fail) (aE.bind y2 (f:=fun l=>match below hp.length (cB l)&&(match q.ov with
    |some (_,o)=>o.below hp.length
    |none=>true) with
   |true=>(pure ⟨cB l,[]⟩:RM dg)
   |false=>.fail) (b:=⟨cB m,[]⟩) (rd':=[]) (by simp only[BJ]; exact aE.pure _))
 rw[List.append_nil,←List.filter_append]at y3
 exact y3
theorem QH{ρ:Type}{r:ρ}{nm:Nat}{o:Oper}{s:bw S.T.den}{st:St}{K:EK S.T ρ}(h:RS S.T s st)(hn:nm=s.hp.length∨s.hp[nm]?=some none)(mZ:au o.op=false→nm=s.hp.length)(hk:(Un S nm o s K).run=some r):
  ∃ v wr rd e lg,Cd S.C nm o st.fr st.hp=some (e,lg)∧(∀ n,n∈lg→n∈rd)∧RE S.T s.hp st.hp v wr e∧(K v wr rd).run=some r:=by
 have plain:(∀ c f,o.op=.call c→c.callee=.value f→False)→(∀ c m i,o.op=.call c→c.callee=.invoke m i→False)→(NI (S.Qf s.fn) nm s.hp (cV s.fr) o K).run=some r →
   ∃ v wr rd e lg,Cd S.C nm o st.fr st.hp=some (e,lg)∧(∀ n,n∈lg→n∈rd)∧RE S.T s.hp st.hp v wr e∧(K v wr rd).run=some r:=by
  intro h1 h2 hk
  obtain⟨v,wr,rd,e,g1,g2,g3⟩:=FG hS.T (QF hS s.fn) (Q:=S.Qf s.fn) hS.Z h.hp hn (fun x=>h.ev x) hk
  refine⟨v,wr,rd,e,_,?_,g1.2,g2,g3⟩
  rw[EE h1 h2]
  have:=g1.1
  rw[show (S.Qf s.fn).P=S.C.P from rfl]at this
  rw[this]
  rfl
 unfold Un at hk
 split at hk
 ·rename_i c hc
  split at hk
  ·rename_i b hb
   exact plain (fun c' f h1 h2=>by rw[hc]at h1; simp only[Op.call.injEq]at h1; subst h1; rw[hb]at h2; cases h2) (fun c' m i h1 h2=>by rw[hc]at h1; simp only[Op.call.injEq]at h1; subst h1; rw[hb]at h2; cases h2) hk
  ·rename_i f hf
   split at hk
   ·simp[Tr.run]at hk
   rename_i g args hg
   split at hk
   ·rename_i pk
    split at hk
    case h_2=>simp[Tr.run]at hk
    rename_i σ hd hσ
    obtain⟨m,uj,yL⟩:=ga (h.ev f) (jk (fun x=>h.ev x) c.args.toList) hg
    obtain⟨v,wr,rd,e,lg,g2,g3,g4,g5⟩:=G4 hS.T (hS.own g σ hσ) h.hp hn (yL hd) hk
    refine⟨v,wr,rd,_,lg,?_,g3,g4,g5⟩
    obtain⟨dst,op,type,pos,after,guard⟩:=o
    simp only at hc pk
    subst hc
    obtain⟨callee,cR,mj⟩:=c
    simp only at hf
    subst hf
    rw[uk,uj,pk]
    exact g2
   rename_i pk
   split at hk
   case h_3=>simp[Tr.run]at hk
   case h_2=>
    rename_i hd _
    obtain⟨m,uj,yL⟩:=ga (h.ev f) (jk (fun x=>h.ev x) c.args.toList) hg
    obtain⟨Wt,QG,v,rd,e,g1,g2,hk⟩:=Lv hS h.hp (yL hd) hk
    rw[show st.hp.length=nm from by rw[mZ (by assumption),h.hp.length]]at g1
    refine⟨v,[],rd,e,_,?_,g1.2,g2,hk⟩
    obtain⟨dst,op,type,pos,after,guard⟩:=o
    simp only at hc pk
    subst hc
    obtain⟨callee,cR,mj⟩:=c
    simp only at hf
    subst hf
    rw[uk,uj,pk]
    simp only[Option.bind_some,pt,Wt,QG,g1.1,Option.map_some]
   rename_i σ hd hσ
   obtain⟨m,uj,yL⟩:=ga (h.ev f) (jk (fun x=>h.ev x) c.args.toList) hg
   obtain⟨v,wr,rd,a,w,lg,_,g2,g3,g4,g5⟩:=wS hS.T (hS.sum g σ hσ) h.hp (yL hd) hk
   refine⟨v,wr,rd,_,lg,?_,g3,g4,g5⟩
   obtain⟨dst,op,type,pos,after,guard⟩:=o
   simp only at hc pk
   subst hc
   obtain⟨callee,cR,mj⟩:=c
   simp only at hf
   subst hf
   rw[uk,uj,pk]
   exact g2 nm
  ·rename_i rv name hf
   split at hk
   ·simp[Tr.run]at hk
   rename_i g x hg
   obtain⟨ax,uj,Rl⟩:=DD (h.ev rv) hg
   split at hk
   case h_2=>simp[Tr.run]at hk
   rename_i σ hd hσ
   have yL:RL S.T s.hp (x::c.args.toList.map (cV s.fr)) (ax::c.args.toList.map (az st.fr)):=by
    simp only[List.any_cons,Bool.or_eq_false_iff]at hd
    simp only[RL]
    exact⟨Rl,iK (jk (fun x=>h.ev x) c.args.toList) hd.2⟩
   obtain⟨v,wr,rd,a,w,lg,_,g2,g3,g4,g5⟩:=wS hS.T (hS.sum g σ hσ) h.hp yL hk
   refine⟨v,wr,rd,_,lg,?_,g3,g4,g5⟩
   obtain⟨dst,op,type,pos,after,guard⟩:=o
   simp only at hc
   subst hc
   obtain⟨callee,cR,mj⟩:=c
   simp only at hf
   subst hf
   rw[Ht uj (hS.sum g σ hσ).kind]
   exact g2 nm
 ·rename_i MW
  exact plain (fun c' f h1 _=>MW c' h1) (fun c' m i h1 _=>MW c' h1) hk
theorem QI{k:Nat}(ih:oC S k){ρ:Type}{o:Oper}{s:bw S.T.den}{K:bw S.T.den→Tr ρ}{r:ρ}{st:St}(h:RS S.T s st)(hk:(NM S (k+1) ρ o s K).run=some r):
  ∃ s' st',ic S.C o st=some (.norm st')∧RS S.T s' st'∧bj s s'∧(K s').run=some r:=by
 have plain:qg o.op=true→(NI (S.Qf s.fn) s.hp.length s.hp (cV s.fr) o fun v wr _=>s.fe o.dst v wr fun s=>C6 (match o.op with|.call _=>fun _=>[]|_=>S.C.qP s.fn) o.dst s
    fun s=>SC (match o.op with|.call _=>fun _=>[]|_=>S.tw s.fn) o.dst s K).run=some r →
   ∃ s' st',ic S.C o st=some (.norm st')∧RS S.T s' st'∧bj s s'∧(K s').run=some r:=by
  intro h1 hk
  obtain⟨v,wr,rd,e,g1,g2,g3⟩:=FG hS.T (QF hS s.fn) (Q:=S.Qf s.fn) hS.Z h.hp (.inl rfl) (fun x=>h.ev x) hk
  replace g3:(s.fe o.dst v wr fun s=>C6 (match o.op with|.call _=>fun _=>[]|_=>S.C.qP s.fn) o.dst s
    fun s=>SC (match o.op with|.call _=>fun _=>[]|_=>S.tw s.fn) o.dst s K).run=some r:=g3
  rw[cD]at g3
  obtain⟨g4,g5⟩:=h.step g2 o.dst
  have qR:(s.step o.dst v wr).fn=st.fn:=h.fn
  rw[qR]at g3
  obtain⟨s1,i1,i2,i3⟩:=Lp hS.T g4 g3
  obtain⟨s',j1,j2,j3⟩:=QE hS.T i1 i3
  refine⟨s',_,?_,j1,g5.trans (i2.trans j2),j3⟩
  rw[xk h1]
  have:=g1.1
  rw[h.hp.length]at this
  rw[show (S.Qf s.fn).P=S.C.P from rfl]at this
  rw[this]
  rfl
 unfold NM at hk
 obtain⟨dst,op,type,pos,after,guard⟩:=o
 simp only at hk
 split at hk
 ·rename_i c
  obtain⟨callee,cR,mj⟩:=c
  split at hk
  ·rename_i b hb
   simp only at hb
   subst hb
   refine plain rfl ?_
   have e:(fun (s:bw S.T.den)=>C6 (fun _=>[]) dst s fun s=>SC (fun _=>[]) dst s K)=K:=by
    funext s
    cases dst<;>rfl
   simp only[e]
   exact hk
  ·rename_i f hf
   simp only at hf
   subst hf
   split at hk
   ·-- a round of a range over a function
    split at hk
    case h_2=>simp[Tr.run]at hk
    rename_i n hn
    have CA:=(h.ev f).live (by rw[hn]; rfl)
    rw[hn]at CA
    simp only[R]at CA
    split at hk
    case h_2=>simp[Tr.run]at hk
    rename_i fn ps as bd fr ho hj Lw
    split at hk
    case h_2=>simp[Tr.run]at hk
    rename_i hc
    rw[force_eq]at hk
    have ja:=iK (jk (fun x=>h.ev x) cR.toList) Lw
    obtain⟨ao,c6,dD⟩:=h.hp.obj ho
    obtain⟨x,vs,rfl,mc⟩:=dD
    obtain⟨Q0,Mh⟩:=h.js n _ hj
    have hx:x=.ready:=by
     simp_all[ia]
    subst hx
    have hlen:vs.length=fr.length:=mc.length.symm
    obtain⟨p1,p2⟩:=Ay (ps:=ps.toList) (xs:=cR.toList.map (cV s.fr)) (as:=cR.toList.map (az st.fr)) (n:=fr.length) (fr:=mv 0 fr) (fa:=vs) (H:=s.hp) hlen (fun t=>by
     rw[u9]
     simp only[Nat.zero_le,if_true,Nat.sub_zero,List.getD_eq_getElem?_getD]
     cases hq:vs[t]? with
     |none=>
      have:fr[t]?=none:=by rw[List.getElem?_eq_none_iff]at hq ⊢; omega
      rw[this]
      exact bh undef
     |some a=>
      obtain⟨v,hv,hr⟩:=aw.get' mc hq
      rw[hv]
      rcases hr with ⟨rfl,_⟩|hr
      ·exact .inl rfl
      ·exact .inr hr) ja
    have Ed:RS S.T ⟨fn,fr.length,lR fr.length (mv 0 fr) ps.toList (cR.toList.map (cV s.fr)),s.hp,[],s.wh,s.js⟩ ⟨fn,fD vs ps.toList (cR.toList.map (az st.fr)),st.hp⟩:=⟨rfl,p1,p2,h.hp,h.js⟩
    obtain⟨so1,o1,a1,a2,a3,hk⟩:=ih.c _ _ _ _ _ _ Ed hk
    cases so1 with
    |exit id s1=>simp[Tr.run]at hk
    |ret s1=>simp[Tr.run]at hk
    |norm s1=>
    obtain⟨UC,rfl,ny⟩:=a2
    simp only at hk
    split at hk
    case h_2=>simp[Tr.run]at hk
    rename_i wv
    obtain⟨_,sE⟩:=ny.js n _ wv
    obtain⟨b1,b2⟩:=G9 ny.hp ny.js wv .busy
    have Ww:RS S.T { s1 with js:=Bv s1.js n .busy } { UC with hp:=oG UC.hp n .busy }:=⟨ny.fn,ny.n,ny.fr,b1,b2⟩
    obtain⟨QJ,o2,c1,c2,c3,hk⟩:=ih.c _ _ _ _ _ _ Ww hk
    have key:∀ (s2:bw S.T.den),bj { s1 with js:=Bv s1.js n .busy } s2→dm s.hp s2.hp∧s.hp.length≤s2.hp.length∧(∀ m:Nat,m<s.hp.length→m∉s2.wh→s2.hp[m]?=s.hp[m]?)∧∀ m,m∈s.wh→m∈s2.wh:=by
     intro s2 o6
     refine⟨a3.grow.trans o6.grow,Nat.le_trans a3.len o6.len,fun m hm hw=>?_,fun m hm=>o6.wh m (a3.wh m hm)⟩
     rw[o6.hp m (Nat.lt_of_lt_of_le hm a3.len) hw]
     exact a3.hp m hm (fun hc=>hw (o6.wh m hc))
    have Lx:ic S.C ⟨dst,.call ⟨.value f,cR,mj⟩,type,pos,after,guard⟩ st=gI (fun c s=>cQ S.C c s) n (cR.toList.map (az st.fr)) dst st:=by
     rw[nt,CA.1]
     rfl
    have hy:gI (fun c s=>cQ S.C c s) n (cR.toList.map (az st.fr)) dst st=Lq n dst st o2:=by
     clear c2
     unfold gI
     have e1:decide ((cR.toList.map (az st.fr)).length=ps.size)=true:=by
      simpa using Nat.eq_of_beq_eq_true hc
     simp only[c6,e1,a1,sE,c1]
     cases o2<;>rfl
    cases QJ with
    |norm s2=>
     obtain⟨N1,rfl,yT⟩:=c2
     obtain⟨k1,k2,k3,k4⟩:=key s2 c3
     obtain⟨s',st',d1,d2,d3,hk⟩:=BI hS.T h yT k1 k2 k3 k4 hk
     exact⟨s',st',by rw[Lx,hy]; exact d1,d2,d3,hk⟩
    |exit id s2=>
     obtain⟨N1,rfl,yT⟩:=c2
     obtain⟨k1,k2,k3,k4⟩:=key s2 c3
     obtain⟨s',st',d1,d2,d3,hk⟩:=BI hS.T h yT k1 k2 k3 k4 hk
     exact⟨s',st',by rw[Lx,hy]; exact d1,d2,d3,hk⟩
    |ret s2=>
     obtain⟨N1,rfl,yT⟩:=c2
     obtain⟨k1,k2,k3,k4⟩:=key s2 c3
     obtain⟨s',st',d1,d2,d3,hk⟩:=BI hS.T h yT k1 k2 k3 k4 hk
     exact⟨s',st',by rw[Lx,hy]; exact d1,d2,d3,hk⟩
   rename_i g args hg
   obtain⟨m,uj,yL⟩:=ga (h.ev f) (jk (fun x=>h.ev x) cR.toList) hg
   split at hk
   ·rename_i pk
    split at hk
    case h_2=>simp[Tr.run]at hk
    rename_i σ hd hσ
    obtain⟨v,wr,rd,e,lg,g2,_,g4,g5⟩:=G4 hS.T (hS.own g σ hσ) h.hp (.inl rfl) (yL hd) hk
    rw[cD]at g5
    obtain⟨g6,g7⟩:=h.step g4 dst
    refine⟨_,_,?_,g6,g7,g5⟩
    rw[nt,uj]
    rw[h.hp.length]at g2
    simp only[nV,rf,pk,g2,Option.bind_some,gD]
   rename_i pk
   split at hk
   ·rename_i σ hd hσ
    obtain⟨v,wr,rd,a,w,lg,g1,_,_,g4,g5⟩:=wS hS.T (hS.sum g σ hσ) h.hp (yL hd) hk
    rw[cD]at g5
    obtain⟨g6,g7⟩:=h.step g4 dst
    refine⟨_,_,?_,g6,g7,g5⟩
    rw[nt,uj]
    simp only[nV,rf,pk,(hS.sum g σ hσ).kind,g1,Option.bind_some,Jx]
   ·rename_i hd hσ
    split at hk
    ·simp[Tr.run]at hk
    rename_i tn
    obtain⟨v,cm,oS,qL,a,eC,g1,g2,g3,gj,g4,g5,g6,g7,hk⟩:=ih.f _ _ _ _ _ _ _ _ _ _ (yL hd) h.hp h.js hk
    split at hk
    case h_2=>simp[Tr.run]at hk
    rename_i BJ
    rw[jJ,cD]at hk
    obtain⟨ny,o6,t2⟩:=qb hS.T h g2 g3 g4 g5 g6 g7 gj BJ
    obtain⟨g8,g9⟩:=ny.step (v:=v) (wr:=[]) (e:=⟨a,[]⟩) ⟨.inr t2,ny.hp,dm.refl _,fun q hq=>by simp at hq,fun _ _ _=>rfl,Nat.le_refl _,fun _ _ h=>by simp at h⟩ dst
    refine⟨_,_,?_,g8,o6.trans g9,hk⟩
    rw[nt,uj]
    simp only[nV,rf,pk,tn,g1,Option.bind_some,Ge]
    rw[h.hp.length]
    rfl
   ·simp[Tr.run]at hk
  ·rename_i rv name y6
   simp only at y6
   subst y6
   split at hk
   ·simp[Tr.run]at hk
   rename_i g x hg
   obtain⟨ax,uj,Rl⟩:=DD (h.ev rv) hg
   have yL:((x::cR.toList.map (cV s.fr)).any bP)=false→RL S.T s.hp (x::cR.toList.map (cV s.fr)) (ax::cR.toList.map (az st.fr)):=fun hd=>by
    simp only[List.any_cons,Bool.or_eq_false_iff]at hd
    simp only[RL]
    exact⟨Rl,iK (jk (fun x=>h.ev x) cR.toList) hd.2⟩
   have pk:au (Op.call ⟨.invoke rv name,cR,mj⟩)=false:=rfl
   split at hk
   ·rename_i σ hd hσ
    obtain⟨v,wr,rd,a,w,lg,g1,_,_,g4,g5⟩:=wS hS.T (hS.sum g σ hσ) h.hp (yL hd) hk
    rw[cD]at g5
    obtain⟨g6,g7⟩:=h.step g4 dst
    refine⟨_,_,?_,g6,g7,g5⟩
    rw[zM,uj]
    simp only[Option.bind_some,rf,pk,(hS.sum g σ hσ).kind,g1,Jx]
   ·rename_i hd hσ
    split at hk
    ·simp[Tr.run]at hk
    rename_i tn
    obtain⟨v,cm,oS,qL,a,eC,g1,g2,g3,gj,g4,g5,g6,g7,hk⟩:=ih.f _ _ _ _ _ _ _ _ _ _ (yL hd) h.hp h.js hk
    split at hk
    case h_2=>simp[Tr.run]at hk
    rename_i BJ
    rw[jJ,cD]at hk
    obtain⟨ny,o6,t2⟩:=qb hS.T h g2 g3 g4 g5 g6 g7 gj BJ
    obtain⟨g8,g9⟩:=ny.step (v:=v) (wr:=[]) (e:=⟨a,[]⟩) ⟨.inr t2,ny.hp,dm.refl _,fun q hq=>by simp at hq,fun _ _ _=>rfl,Nat.le_refl _,fun _ _ h=>by simp at h⟩ dst
    refine⟨_,_,?_,g8,o6.trans g9,hk⟩
    rw[zM,uj]
    simp only[Option.bind_some,rf,pk,tn,g1,Ge]
    rw[h.hp.length]
    rfl
   ·simp[Tr.run]at hk
 ·split at hk
  ·rename_i d
   rw[Jz]
   have qR:=h.fn
   split at hk
   ·rename_i zl
    rw[qR]at zl
    rw[zl]
    simp only[cond_true]
    split at hk
    case h_2=>simp[Tr.run]at hk
    rename_i m hm
    obtain⟨q,gK,_,gE,_⟩:=hS.Q.elem hm
    split at hk
    case isFalse=>simp[Tr.run]at hk
    rename_i kF
    rw[cD]at hk
    have pg:=h.hp.new (nm:=s.hp.length) (o':=.arr true true false 0 []) (a':=.arr true true false []) (.inl rfl) ⟨[],rfl,by simp[RL],fun _=>rfl⟩
    have e1:aN s.hp [(s.hp.length,.arr true true false 0 [])]=bL s.hp s.hp.length (.arr true true false 0 []):=rfl
    have hl:=h.hp.length
    obtain⟨g8,g9⟩:=h.step (v:=.bp m.size s.hp.length 0 none none) (wr:=[(s.hp.length,.arr true true false 0 [])]) (e:=⟨.bp q.size st.hp.length 0 0 0 none,[(st.hp.length,.arr true true false [])]⟩)
     ⟨.inr (by
       rw[e1]
       simp only[R]
       exact⟨0,eA h.hp (.inl rfl) (o:=.arr true true false 0 []),by rw[gE,hl]⟩),
       by
        rw[←hl]
        exact pg.2,by rw[e1]; exact pg.1,fun q hq=>by simp at hq; subst hq; simp[hl],fun n hn hl=>by
        rw[e1]; simp at hn; exact yg hl hn,by rw[e1]; exact v5 (.inl rfl),fun m hm hc=>by simp at hc; have:=jl hm; omega⟩ (some d)
    refine⟨_,_,?_,g8,g9,hk⟩
    have Wx:aP S.C.P type=some q:=gK
    rw[Wx]
    simp only[Option.bind_some]
    rw[if_pos (by rw[gE]; exact kF)]
    simp only[bC,ai,setObj,if_true]
   ·rename_i zl
    simp only[Bool.not_eq_true]at zl
    rw[qR]at zl
    rw[zl]
    simp only[cond_false]
    rw[cD]at hk
    obtain⟨g8,g9⟩:=h.step (v:=.lit cK) (wr:=[]) (e:=⟨.lit cK,[]⟩) ⟨bh _,h.hp,dm.refl _,fun q hq=>by simp at hq,fun _ _ _=>rfl,Nat.le_refl _,fun _ _ h=>by simp at h⟩ (some d)
    exact⟨_,_,rfl,g8,g9,hk⟩
  ·-- no variable: nothing happens
   refine⟨s,st,?_,h,bj.refl _,hk⟩
   refine bU (jt S.C _ _) (by simp[fE]) fun k=>?_
   simp only[fE]
 ·rename_i MW hna
  have hl:(match op with|.call _=>fun _=>[]|_=>S.C.qP s.fn)=S.C.qP s.fn:=by
   cases op<;>first|rfl|exact absurd rfl (MW _)
  refine plain ?_ ?_
  ·unfold qg
   simp only
  ·simp only
   exact hk
end
end Go.PI
end
section
/- PS, part Q: loops, code, functions: the soundness of the trees. -/
namespace Go.PI
theorem yF{τ ω:Type}{f:τ→Option (τ ⊕ ω)}:∀ {n:Nat} {x:τ} {w:ω},kC f n x=some w→kC f (n+1) x=some w
 |0,x,w,h=>by simp[kC]at h
 |n+1,x,w,h=>by
  rw[kC]at h ⊢
  cases hf:f x with
  |none=>rw[hf]at h; simp at h
  |some q=>
   rw[hf]at h
   cases q with
   |inl y=>exact yF h
   |inr z=>exact h
theorem sC[ab]{τ ω:Type}(f:τ→Option (τ ⊕ ω))(x:τ):fF fun n=>kC f n x:=fun _ _ h=>yF h
theorem oD[ab]{τ ω:Type}{f:τ→Option (τ ⊕ ω)}{x:τ}{w:ω}:aO f x=some w↔∃ n,kC f n x=some w:=by
 unfold aO
 split
 ·rename_i w' h
  constructor
  ·intro e; exact⟨4096,h.trans e⟩
  ·rintro⟨n,hn⟩
   rw[←(bg (sC f x)).2 ⟨4096,h⟩,(bg (sC f x)).2 ⟨n,hn⟩]
 ·exact bg (sC f x)
theorem CQ[ab]{τ ω:Type}(f:τ→Option (τ ⊕ ω))(x:τ):aO f x=(f x).bind fun q=>Sum.elim (aO f) some q:=by
 apply Option.ext
 intro w
 rw[oD]
 constructor
 ·rintro⟨n,h⟩
  cases n with
  |zero=>simp[kC]at h
  |succ n=>
   rw[kC]at h
   cases hf:f x with
   |none=>rw[hf]at h; simp at h
   |some q=>
    rw[hf]at h
    cases q with
    |inl y=>simp only[Option.bind_some,Sum.elim_inl]; exact oD.2 ⟨n,h⟩
    |inr z=>simp_all
 ·intro h
  cases hf:f x with
  |none=>rw[hf]at h; simp at h
  |some q=>
   rw[hf]at h
   cases q with
   |inl y=>
    simp only[Option.bind_some,Sum.elim_inl]at h
    obtain⟨n,hn⟩:=oD.1 h
    exact⟨n+1,by rw[kC,hf]; exact hn⟩
   |inr z=>
    simp only[Option.bind_some,Sum.elim_inr]at h
    exact⟨1,by rw[kC,hf]; exact h⟩
section
variable {T:dk}{ρ:Type}
theorem dC[ab]{H0 H:ah T.den}{K:Tr ρ}{r:ρ}:∀ {objs:List (Nat×cP)},(gW H0 H objs K).run=some r→K.run=some r∧∀ q,q∈objs→∀ t,q.2=.fix t→∀ o o',H0[q.1]?=some (some o)→H[q.1]?=some (some o')→o'.len=o.len
 |[],h=>⟨h,fun q hq=>by simp at hq⟩
 |(n,p)::objs,h=>by
  cases p with
  |fix t=>
   simp only[gW]at h
   split at h
   ·rename_i o o' h1 h2
    obtain⟨g1,g2⟩:=aZ h
    simp only[decide_eq_true_eq]at g1
    obtain⟨i1,i2⟩:=dC g2
    refine⟨i1,fun q hq t' e o3 o4 h3 h4=>?_⟩
    rcases List.mem_cons.1 hq with rfl|hq
    ·simp_all
    ·exact i2 q hq t' e o3 o4 h3 h4
   ·simp[Tr.run]at h
  |list t=>
   obtain⟨i1,i2⟩:=dC (objs:=objs) h
   refine⟨i1,fun q hq t' e o3 o4 h3 h4=>?_⟩
   rcases List.mem_cons.1 hq with rfl|hq
   ·simp at e
   ·exact i2 q hq t' e o3 o4 h3 h4
  |one p=>
   obtain⟨i1,i2⟩:=dC (objs:=objs) h
   refine⟨i1,fun q hq t' e o3 o4 h3 h4=>?_⟩
   rcases List.mem_cons.1 hq with rfl|hq
   ·simp at e
   ·exact i2 q hq t' e o3 o4 h3 h4
  |agg ps=>
   obtain⟨i1,i2⟩:=dC (objs:=objs) h
   refine⟨i1,fun q hq t' e o3 o4 h3 h4=>?_⟩
   rcases List.mem_cons.1 hq with rfl|hq
   ·simp at e
   ·exact i2 q hq t' e o3 o4 h3 h4
  |map kk t=>
   obtain⟨i1,i2⟩:=dC (objs:=objs) h
   refine⟨i1,fun q hq t' e o3 o4 h3 h4=>?_⟩
   rcases List.mem_cons.1 hq with rfl|hq
   ·simp at e
   ·exact i2 q hq t' e o3 o4 h3 h4
theorem Az[ab]{key:Nat}{h:Hint}{s0 s:bw T.den}{kind:Option Nat}{r:ρ}:∀ {l:List Bo} {K:y8 T.den h.objs l→Tr ρ},(tE key h s0 s kind l K).run=some r →
  ∃ o x w,o∈l∧o.kind=kind∧H5 h s0 s kind o=some x∧(K w).run=some r ∧
    (∀ q,q∈h.objs→∀ t,q.2=.fix t→∀ o o',s0.hp[q.1]?=some (some o)→s.hp[q.1]?=some (some o')→o'.len=o.len) ∧
    ∀ {σ:Type} (K':oV T.den→Tr σ),(tU h s0 l w K').run=(K' (Bu (jG h s0 o x) o.kind)).run
 |[],K,hk=>by simp[tE,Tr.run]at hk
 |[o],K,hk=>by
  simp only[tE]at hk
  split at hk
  ·rename_i x hx
   obtain⟨hk,hl⟩:=dC hk
   refine⟨o,x,x,by simp,?_,hx,hk,hl,fun K'=>?_⟩
   ·grind[H5]
   ·simp only[tU]
    rw[force_eq]
  ·simp[Tr.run]at hk
 |o::p::l,K,hk=>by
  simp only[tE]at hk
  split at hk
  ·rename_i x hx
   obtain⟨hk,hl⟩:=dC hk
   refine⟨o,x,.inl x,by simp,?_,hx,hk,hl,fun K'=>?_⟩
   ·grind[H5]
   ·simp only[tU,Tr.run,Sum.elim_inl]
    rw[force_eq]
  ·obtain⟨o',x,w,h1,h2,h3,h4,h5,h6⟩:=Az (l:=p::l) hk
   refine⟨o',x,.inr w,List.mem_cons_of_mem _ h1,h2,h3,h4,h5,fun K'=>?_⟩
   simp only[tU,Tr.run,Sum.elim_inr]
   exact h6 K'
theorem yG{a b:List Nat}(h:subset a b=true){x:Nat}(hx:x∈a):x∈b:=by
 have:=List.all_eq_true.1 h x hx
 simpa using this
theorem Hb[ab]{AA:List (Nat×cP)}{slots0:List (Nat×oW)}{dead0:List Nat}{aA:List (Nat×oW)}{dead:List Nat}{ext:List oX}{s0 sx s:bw T.den}{l:List (TV T.den)}
  (Ri:cZ (aA.map (·.1))=true) (UB:cZ (AA.map (·.1))=true)
  (Wy:sx.fn=s0.fn) (Wz:sx.n=s0.n) (WA:∀ t,t∉slots0.map (·.1)++dead0→cH sx.fr t=cH s0.fr t) (WB:∀ n:Nat,n<s0.hp.length→n∉AA.map (·.1)→sx.hp[n]?=s0.hp[n]?) (WC:sx.hp.length=s0.hp.length)
  (ta:∀ t,t∈slots0.map (·.1)++dead0→t∈aA.map (·.1)++dead) (ha:bj sx s) (hl:sg aA dead AA ext s0 s=true)
  (QA:∀ q,q∈AA→∃ o,s0.hp[q.1]?=some (some o)∧Start s0.hp o q.2) (abs:uT aA (AA++a9 s0.hp.length ext) s=some l):Il T aA dead AA ext s0 s l:=by
 unfold sg at hl
 simp only[Bool.and_eq_true,decide_eq_true_eq]at hl
 obtain⟨⟨⟨⟨⟨⟨⟨l1,l2⟩,l3⟩,l4⟩,l5⟩,l6⟩,l7⟩,l8⟩:=hl
 refine⟨Ri,UB,fun d hd=>?_,l2,ha.fn.trans Wy,ha.n.trans Wz,fun t ht=>?_,fun n hn hm=>?_,l5,l6,l7,l8,QA,abs⟩
 ·have:=List.all_eq_true.1 l1 d hd
  have:=Nat.le_of_ble_eq_true this
  omega
 ·have hw:t∉s.wf:=fun hc=>ht (yG l3 hc)
  rw[ha.fr t hw,WA t (fun hc=>ht (ta t hc))]
 ·have hw:n∉s.wh:=fun hc=>hm (yG l4 (List.mem_filter.2 ⟨hc,by simpa using hn⟩))
  rw[ha.hp n (by rw[WC]; exact hn) hw,WB n hn hm]
end
theorem AB{T:dk}{aA:List (Nat×oW)}{objs:List (Nat×cP)}{s:bw T.den}{l:List (TV T.den)}(h:uT aA objs s=some l):∃ l0,jV s.hp objs=some l0:=by
 unfold uT at h
 rw[Option.bind_eq_some_iff]at h
 obtain⟨_,_,h⟩:=h
 rw[Option.map_eq_some_iff]at h
 obtain⟨lb,h,_⟩:=h
 exact⟨lb,h⟩
theorem LB[ab]{T:dk}{aA:List (Nat×oW)}{dead:List Nat}{objs:List (Nat×cP)}{ext:List oX}{s:bw T.den}{l:List (TV T.den)}{js:List (Nat×kW)}{st:St}
  (h:RS T { c7 aA dead objs ext s l with js:=js } st) (hj:js=s.js):RS T (c7 aA dead objs ext s l) st:=by
 subst hj; exact⟨h.fn,h.n,h.fr,h.hp,h.js⟩
theorem Iu{T:dk}{n:Nat}{s:bw T.den}:(jF n s).js=s.js:=by unfold jF; split<;>rfl
theorem yH[ab]{T:dk}{H:ah T.den}{objs:List (Nat×cP)}{l:List (TV T.den)}(h:jV H objs=some l):qB H H objs=true:=by
 refine List.all_eq_true.2 fun q hq=>?_
 obtain⟨o,_,h1,_⟩:=kj h q hq
 simp[h1]
theorem BL[ab]{T:dk}{H:ah T.den}{objs:List (Nat×cP)}{l:List (TV T.den)}(h:jV H objs=some l):wQ H H objs=true:=by
 refine List.all_eq_true.2 fun q hq=>?_
 obtain⟨o,_,h1,_⟩:=kj h q hq
 split
 ·rfl
 ·simp[h1]
theorem vj[ab]{T:dk}{H:ah T.den}{objs:List (Nat×cP)}{l:List (TV T.den)}(h:jV H objs=some l)(q:Nat×cP)(hq:q∈objs):∃ o,H[q.1]?=some (some o)∧Start H o q.2:=by
 obtain⟨o,ln,h1,h2⟩:=kj h q hq
 exact⟨o,h1,.inl ⟨ln,h2⟩⟩
theorem DT{objs more:List (Nat×cP)}{n:Nat}(h:n∈objs.map (·.1)):n∈(je objs more).map (·.1):=by
 unfold je
 rw[List.map_append]
 by_cases hm:n∈more.map (·.1)
 ·exact List.mem_append_right _ hm
 ·simp_all
theorem yI[ab]{T:dk}{H:ah T.den}{l:List (Nat×cP)}(h:GQ H l=true)(q:Nat×cP)(hq:q∈l):∃ o,H[q.1]?=some (some o)∧Start H o q.2:=by
 have:=List.all_eq_true.1 h q hq
 split at this
 ·rename_i g cl f c e p h1 h2
  exact⟨_,h1,.inr ⟨.inl ⟨p,h2⟩,g,cl,f,c,e,rfl⟩⟩
 ·rename_i g cl f c e p h1 h2
  exact⟨_,h1,.inr ⟨.inr ⟨p,h2⟩,g,cl,f,c,e,rfl⟩⟩
 ·simp at this
section
variable [ab]{S:od}(hS:S.Ok)
include hS
theorem N7{k:Nat}(ih:oC S k){b:Code}{s:bw S.T.den}{h:Hint}{l0:List (TV S.T.den)}{x0:HL S.T.den h.jD}(bN:h.ok=true)(hsl:Bt s.n h.aA h.dead=true)(how:sf s.hp.length h.aA h.objs=true)
  (oZ:uT h.aA h.objs s=some l0) (UE:uK h.jD l0=some x0) {st:St} (gJ:RS S.T s st) {w:y8 S.T.den h.objs h.outs}
  (hw:aO (fun x=>(bw.force { c7 h.aA h.dead h.objs [] s (fU h.jD x) with wf:=[],wh:=[] } fun s1=>wE S k (HL S.T.den h.jD ⊕ y8 S.T.den h.objs h.outs) b s1 fun
       |.norm s'=>
        (match jF s.hp.length s' with
        |tT=>(match decide (tT.js=s.js)&&sg h.aA h.dead h.objs [] s tT,(uT h.aA h.objs tT).bind (uK h.jD) with
         |true,some y=>gW s.hp tT.hp h.objs (.ret (.inl y))
         |_,_=>.bad (se b s) none s tT))
       |.exit id s'=>tE (se b s) h s s' (some id) h.outs fun w=>.ret (.inr w)
       |.ret s'=>tE (se b s) h s s' none h.outs fun w=>.ret (.inr w)).run) x0=some w) :
  ∃ o x so oo,cQ S.C (.loop b) st=some oo∧so=Bu (jG h s o x) o.kind∧DI S.T so oo∧bj s so.st∧∀ {σ:Type} (K':oV S.T.den→Tr σ),(tU h s h.outs w K').run=(K' so).run:=by
 simp only[Hint.ok,Bool.and_eq_true]at bN
 obtain⟨⟨WD,Tb⟩,WE⟩:=bN
 obtain⟨abx,DU⟩:=AB oZ
 have Ri:cZ (h.aA.map (·.1))=true:=by
  have:∀ {l m:List Nat},cZ (l++m)=true→cZ l=true:=by
   intro l m
   induction l with
   |nil=>intro _; rfl
   |cons x xs ih=>
    simp_all[cZ,decide_eq_false_iff_not]
  exact this WD
 have WG:∀ d,d∈h.aA.map (·.1)++h.dead→d<s.n:=by
  intro d hd
  have:=List.all_eq_true.1 hsl d hd
  have:=Nat.le_of_ble_eq_true this
  omega
 have sxf:∀ x:HL S.T.den h.jD,∀ l,uT h.aA h.objs s=some l→True:=fun _ _ _=>trivial
 clear sxf
 have nX:∀ (x:HL S.T.den h.jD) (sc:bw S.T.den) (lc:List (TV S.T.den)),Il S.T h.aA h.dead h.objs [] s sc lc→sc.js=s.js→fU h.jD x=lc→∀ (WH:St),RS S.T sc WH →
   RS S.T (c7 h.aA h.dead h.objs [] s (fU h.jD x)) WH∧(c7 h.aA h.dead h.objs [] s (fU h.jD x)).hp.length=s.hp.length ∧
   (∀ n:Nat,n<s.hp.length→n∉h.objs.map (·.1)→(c7 h.aA h.dead h.objs [] s (fU h.jD x)).hp[n]?=s.hp[n]?) ∧
   (∀ t,t∉h.aA.map (·.1)++h.dead→cH (c7 h.aA h.dead h.objs [] s (fU h.jD x)).fr t=cH s.fr t) ∧
   (c7 h.aA h.dead h.objs [] s (fU h.jD x)).fn=s.fn∧(c7 h.aA h.dead h.objs [] s (fU h.jD x)).n=s.n:=by
  intro x sc lc ho hj hx WH WI
  obtain⟨r1,r2,r3,r4,r5,r6,_⟩:=G7 hS.T ho gJ WI
  rw[hx]
  refine⟨LB r1 hj,?_,r3,r4,r5,r6⟩
  rw[r2,ho.len]; rfl
 have main:∀ (n:Nat) (x:HL S.T.den h.jD) (stx:St),RS S.T (c7 h.aA h.dead h.objs [] s (fU h.jD x)) stx→(c7 h.aA h.dead h.objs [] s (fU h.jD x)).hp.length=s.hp.length →
   (∀ n:Nat,n<s.hp.length→n∉h.objs.map (·.1)→(c7 h.aA h.dead h.objs [] s (fU h.jD x)).hp[n]?=s.hp[n]?) →
   (∀ t,t∉h.aA.map (·.1)++h.dead→cH (c7 h.aA h.dead h.objs [] s (fU h.jD x)).fr t=cH s.fr t) →
   (c7 h.aA h.dead h.objs [] s (fU h.jD x)).fn=s.fn→(c7 h.aA h.dead h.objs [] s (fU h.jD x)).n=s.n →
   kC (fun x=>(bw.force { c7 h.aA h.dead h.objs [] s (fU h.jD x) with wf:=[],wh:=[] } fun s1=>wE S k (HL S.T.den h.jD ⊕ y8 S.T.den h.objs h.outs) b s1 fun
           |.norm s'=>
            (match jF s.hp.length s' with
            |tT=>(match decide (tT.js=s.js)&&sg h.aA h.dead h.objs [] s tT,(uT h.aA h.objs tT).bind (uK h.jD) with
             |true,some y=>gW s.hp tT.hp h.objs (.ret (.inl y))
             |_,_=>.bad (se b s) none s tT))
           |.exit id s'=>tE (se b s) h s s' (some id) h.outs fun w=>.ret (.inr w)
           |.ret s'=>tE (se b s) h s s' none h.outs fun w=>.ret (.inr w)).run) n x=some w →
   ∃ o x so oo,cQ S.C (.loop b) stx=some oo∧so=Bu (jG h s o x) o.kind∧DI S.T so oo∧bj s so.st∧∀ {σ:Type} (K':oV S.T.den→Tr σ),(tU h s h.outs w K').run=(K' so).run:=by
  intro n
  induction n with
  |zero=>intro x stx _ _ _ _ _ _ hn; simp[kC]at hn
  |succ n ihn=>
   intro x stx D7 hlen QK BH qR Ml hn
   rw[kC]at hn
   generalize Iv:({ c7 h.aA h.dead h.objs [] s (fU h.jD x) with wf:=[],wh:=[] }:bw S.T.den)=sx at hn
   have QL:RS S.T sx stx:=by rw[←Iv]; exact⟨D7.fn,D7.n,D7.fr,D7.hp,D7.js⟩
   have e1:sx.fn=s.fn:=by rw[←Iv]; exact qR
   have e2:sx.n=s.n:=by rw[←Iv]; exact Ml
   have e3:∀ t,t∉h.aA.map (·.1)++h.dead→cH sx.fr t=cH s.fr t:=by rw[←Iv]; exact BH
   have e4:∀ n:Nat,n<s.hp.length→n∉h.objs.map (·.1)→sx.hp[n]?=s.hp[n]?:=by rw[←Iv]; exact QK
   have e5:sx.hp.length=s.hp.length:=by rw[←Iv]; exact hlen
   rw[force_eq]at hn
   have pz:∀ q,(wE S k (HL S.T.den h.jD ⊕ y8 S.T.den h.objs h.outs) b sx fun
       |.norm s'=>
        (match jF s.hp.length s' with
        |tT=>(match decide (tT.js=s.js)&&sg h.aA h.dead h.objs [] s tT,(uT h.aA h.objs tT).bind (uK h.jD) with
         |true,some y=>gW s.hp tT.hp h.objs (.ret (.inl y))
         |_,_=>.bad (se b s) none s tT))
       |.exit id s'=>tE (se b s) h s s' (some id) h.outs fun w=>.ret (.inr w)
       |.ret s'=>tE (se b s) h s s' none h.outs fun w=>.ret (.inr w)).run=some q →
     (∃ y,q=.inl y∧∃ FQ,cQ S.C b stx=some (.norm FQ)∧RS S.T (c7 h.aA h.dead h.objs [] s (fU h.jD y)) (gG stx.hp.length FQ)∧(c7 h.aA h.dead h.objs [] s (fU h.jD y)).hp.length=s.hp.length ∧
       (∀ n:Nat,n<s.hp.length→n∉h.objs.map (·.1)→(c7 h.aA h.dead h.objs [] s (fU h.jD y)).hp[n]?=s.hp[n]?) ∧
       (∀ t,t∉h.aA.map (·.1)++h.dead→cH (c7 h.aA h.dead h.objs [] s (fU h.jD y)).fr t=cH s.fr t) ∧
       (c7 h.aA h.dead h.objs [] s (fU h.jD y)).fn=s.fn∧(c7 h.aA h.dead h.objs [] s (fU h.jD y)).n=s.n) ∨
     (∃ w',q=.inr w'∧∃ o x so oo,cQ S.C b stx=some oo∧(∀ s',oo≠.norm s')∧so=Bu (jG h s o x) o.kind∧DI S.T so oo∧bj s so.st∧∀ {σ:Type} (K':oV S.T.den→Tr σ),(tU h s h.outs w' K').run=(K' so).run):=by
    intro q hq
    obtain⟨so,o,c1,c2,c3,c4⟩:=ih.c _ _ _ _ _ _ QL hq
    have leave:∀ (kind:Option Nat) (s':bw S.T.den) (FQ:St),RS S.T s' FQ→bj sx s'→(tE (se b s) h s s' kind h.outs fun w=>(.ret (.inr w):Tr (HL S.T.den h.jD ⊕ y8 S.T.den h.objs h.outs))).run=some q →
      ∃ w',q=.inr w'∧∃ o x,o.kind=kind∧RS S.T (jG h s o x) FQ∧bj s (jG h s o x)∧∀ {σ:Type} (K':oV S.T.den→Tr σ),(tU h s h.outs w' K').run=(K' (Bu (jG h s o x) o.kind)).run:=by
     intro kind s' FQ eY ha hq
     obtain⟨o,x,w',d1,d2,d3,d4,d5,d6⟩:=Az hq
     simp only[Tr.run,Option.some.injEq]at d4
     refine⟨w',d4.symm,o,x,d2,?_⟩
     unfold H5 at d3
     split at d3
     case h_2=>simp at d3
     rename_i hc
     simp only[Bool.and_eq_true,decide_eq_true_eq]at hc
     obtain⟨hc,Oy,V8,WJ⟩:=hc
     rw[Option.bind_eq_some_iff]at d3
     obtain⟨lx,d7,d8⟩:=d3
     have Tc:∀ q,q∈je h.objs o.more→∃ o,s.hp[q.1]?=some (some o)∧Start s.hp o q.2:=fun q hq=>by
      rcases List.mem_append.1 hq with hq|hq
      ·exact vj DU q (List.mem_filter.1 hq).1
      ·exact yI WJ q hq
     have wF:Il S.T o.aA (h.aA.map (·.1)++h.dead) (je h.objs o.more) o.ext s s' lx:=
      Hb (slots0:=h.aA) (dead0:=h.dead) (List.all_eq_true.1 WE o d1) V8 e1 e2 e3 (fun n hn hm=>e4 n hn (fun hc=>hm (DT hc))) e5 (fun t ht=>List.mem_append_right _ ht) ha Oy Tc d7
     obtain⟨r1,r2,r3,r4,r5,r6,r7⟩:=G7 hS.T wF gJ eY
     have ex:=oy _ _ _ d8
     refine⟨?_,?_,d6⟩
     ·unfold jG
      rw[ex]
      exact⟨r1.fn,r1.n,r1.fr,r1.hp,by rw[←hc.2]; exact r1.js⟩
     ·unfold jG
      rw[ex]
      refine⟨r5,r6,fun t ht=>r4 t ?_,fun t ht=>?_,fun n hn hw=>r3 n hn ?_,fun n hn=>?_,?_,?_⟩
      ·simp only[List.mem_append,not_or]at ht ⊢
       exact⟨ht.1,ht.2.1,ht.2.2.1⟩
      ·simp only[List.mem_append]
       exact .inr (.inr (.inr ht))
      ·exact fun hc=>hw (List.mem_append_left _ hc)
      ·exact List.mem_append_right _ hn
      ·simp only
       rw[r2,wF.len]
       omega
      ·intro n o' c6
       have hn:=(List.getElem?_eq_some_iff.1 c6).1
       by_cases hm:n∈(je h.objs o.more).map (·.1)
       ·obtain⟨qq,UF,rfl⟩:=List.mem_map.1 hm
        obtain⟨o0,os,of,g1,g2,g3,g4,g5⟩:=r7 qq UF
        rw[g1]at c6
        simp only[Option.some.injEq]at c6
        subst c6
        refine⟨of,g3,by rw[g5]; exact G6 _ _,fun ec=>?_⟩
        rw[g4]
        rw[g5]at ec
        obtain⟨oo,m1,m2⟩:=Tc qq UF
        rw[g1]at m1
        simp only[Option.some.injEq]at m1
        subst m1
        have Td:=AB d7
        obtain⟨lS,hlS⟩:=Td
        obtain⟨oo2,ln2,m3,m4⟩:=kj hlS qq (List.mem_append_left _ UF)
        rw[g2]at m3
        simp only[Option.some.injEq]at m3
        subst m3
        cases hp:qq.2 with
        |list t=>rw[hp]at ec; simp[BF]at ec
        |fix t=>
         rcases List.mem_append.1 UF with gK|gK
         ·exact d5 qq (List.mem_filter.1 gK).1 t hp o0 os g1 g2
         ·obtain⟨_,_,m5⟩:=yI WJ qq gK
          rw[hp]at m2
          have:=List.all_eq_true.1 WJ qq gK
          rw[hp]at this
          simp at this
        |map kk t=>
         rw[hp]at m2 m4
         rcases m2 with ⟨ln,m2⟩|⟨⟨_,m2⟩|⟨_,m2⟩,_⟩
         ·obtain⟨_,rfl,_⟩:=tO m2
          obtain⟨_,rfl,_⟩:=tO m4
          rfl
         ·cases m2
         ·cases m2
        |one p=>
         rw[hp]at m2 m4
         simp only[dY]at m4
         split at m4
         case h_2=>simp at m4
         rcases m2 with ⟨ln,m2⟩|⟨_,_,_,_,_,_,rfl⟩
         ·simp only[dY]at m2
          split at m2
          case h_2=>simp at m2
          rfl
         ·rfl
        |agg p=>
         rw[hp]at m2 m4
         simp only[dY]at m4
         split at m4
         case h_2=>simp at m4
         rcases m2 with ⟨ln,m2⟩|⟨_,_,_,_,_,_,rfl⟩
         ·simp only[dY]at m2
          split at m2
          case h_2=>simp at m2
          rfl
         ·rfl
       ·exact⟨o',by simp only; rw[r3 n hn hm]; exact c6,Nat.le_refl _,fun _=>rfl⟩
    cases so with
    |norm s'=>
     left
     obtain⟨FQ,rfl,eY⟩:=c2
     simp only at c4
     split at c4
     ·rename_i y hl hy
      simp only[Bool.and_eq_true,decide_eq_true_eq]at hl
      obtain⟨QB,hl⟩:=hl
      obtain⟨c5,_⟩:=dC c4
      simp only[Tr.run,Option.some.injEq]at c5
      rw[Option.bind_eq_some_iff]at hy
      obtain⟨ly,ym,wb⟩:=hy
      have hr:=DC (n:=s.hp.length) hS.T eY (fun m x hm=>by
       rw[Iu]at QB
       rw[QB]at hm
       exact jl (gJ.js m x hm).1)
      have o6:bj sx (jF s.hp.length s'):=by
       have:=wc QL c3
       rw[e5]at this
       exact this
      have wF:Il S.T h.aA h.dead h.objs [] s (jF s.hp.length s') ly:=
       Hb (slots0:=h.aA) (dead0:=h.dead) Ri Tb e1 e2 e3 e4 e5 (fun t ht=>ht) o6 hl (vj DU) (by simpa[a9] using ym)
      have hle:stx.hp.length=s.hp.length:=by rw[←e5]; exact QL.hp.length.symm
      refine⟨y,c5.symm,FQ,c1,?_⟩
      rw[hle]
      exact nX y _ ly wF QB (oy _ _ _ wb) _ hr
     ·simp[Tr.run]at c4
    |exit id s'=>
     right
     obtain⟨FQ,rfl,eY⟩:=c2
     obtain⟨w',f1,o',x',f2,f3,f4,f5⟩:=leave (some id) s' FQ eY c3 c4
     refine⟨w',f1,o',x',Bu (jG h s o' x') o'.kind,_,c1,by simp,rfl,?_,?_,f5⟩
     ·rw[f2]; exact⟨FQ,rfl,f3⟩
     ·rw[f2]; exact f4
    |ret s'=>
     right
     obtain⟨FQ,rfl,eY⟩:=c2
     obtain⟨w',f1,o',x',f2,f3,f4,f5⟩:=leave none s' FQ eY c3 c4
     refine⟨w',f1,o',x',Bu (jG h s o' x') o'.kind,_,c1,by simp,rfl,?_,?_,f5⟩
     ·rw[f2]; exact⟨FQ,rfl,f3⟩
     ·rw[f2]; exact f4
   split at hn
   ·rename_i y hy
    rcases pz _ hy with ⟨y',e,FQ,g1,g2,g3,g4,g5,g6,g7⟩|⟨w',e,_⟩
    ·simp only[Sum.inl.injEq]at e
     subst e
     obtain⟨o,x',so,oo,i1,i2⟩:=ihn _ _ g2 g3 g4 g5 g6 g7 hn
     refine⟨o,x',so,oo,?_,i2⟩
     rw[nk,g1]
     exact i1
    ·simp at e
   ·rename_i w2 hw2
    simp only[Option.some.injEq]at hn
    subst hn
    rcases pz _ hw2 with ⟨y',e,_⟩|⟨w',e,o,x',so,oo,g1,g2,g3⟩
    ·simp at e
    ·simp only[Sum.inr.injEq]at e
     subst e
     refine⟨o,x',so,oo,?_,g3⟩
     rw[nk,g1]
     cases oo with
     |norm s'=>exact absurd rfl (g2 s')
     |_=>rfl
   ·simp at hn
 obtain⟨n,hn⟩:=oD.1 hw
 have wF:Il S.T h.aA h.dead h.objs [] s s l0:=⟨Ri,Tb,WG,by simpa[a9] using how,rfl,rfl,fun _ _=>rfl,fun _ _ _=>rfl,rfl,yH DU,BL DU,rfl,vj DU,by simpa[a9] using oZ⟩
 obtain⟨r1,r2,r3,r4,r5,r6⟩:=nX x0 s l0 wF rfl (oy _ _ _ UE) st gJ
 exact main n x0 st r1 r2 r3 r4 r5 r6 hn
def DR(T:dk)(H:ah T.den):Option (SV T.den)→Option AV→Prop
 |none,none=>True
 |some v,some a=>RV T H v a
 |_,_=>False
omit hS in
theorem N8{k:Nat}(ih:oC S k){ρ:Type}:∀ (c:Code) {s:bw S.T.den} {K:oV S.T.den→Option (SV S.T.den)→Tr ρ} {r:ρ} {st:St},RS S.T s st→(KZ (fun c s K=>wE S k ρ c s K) (fun o s K=>NM S k ρ o s K) c s K).run=some r →
  ∃ so d o da,zp (cQ S.C) (ic S.C) c st=some (o,da)∧DI S.T so o∧bj s so.st∧DR S.T so.st.hp d da∧(K so d).run=some r:=by
 have leaf:∀ (c:Code) {s:bw S.T.den} {K:oV S.T.den→Option (SV S.T.den)→Tr ρ} {r:ρ} {st:St},RS S.T s st→(wE S k ρ c s fun o=>K o none).run=some r →
   ∃ so d o da,((cQ S.C c st).map fun o=>(o,(none:Option AV)))=some (o,da)∧DI S.T so o∧bj s so.st∧DR S.T so.st.hp d da∧(K so d).run=some r:=by
  intro c s K r st h hk
  obtain⟨so,o,c1,c2,c3,hk⟩:=ih.c _ _ _ _ _ _ h hk
  exact⟨so,none,o,none,by rw[c1]; rfl,c2,c3,trivial,hk⟩
 intro c
 induction c with
 |seq x y _ Js=>
  intro s K r st h hk
  simp only[KZ]at hk
  cases hd:sO x with
  |some q=>
   obtain⟨ops,v⟩:=q
   rw[hd]at hk
   simp only at hk
   rw[qJ]at hk
   obtain⟨s1,UC,g1,g2,g3,hk⟩:=p8 (C:=S.C) (fun o s st K h hk=>ih.o _ _ _ _ _ _ h hk) _ _ _ _ h hk
   split at hk
   case h_2=>simp[Tr.run]at hk
   rename_i q cy
   obtain⟨g,l⟩:=q
   obtain⟨m,hm,_⟩:=ga (g2.ev v) (args:=[]) (as:=[]) trivial cy
   obtain⟨so,o,c1,c2,c3,hk⟩:=ih.c _ _ _ _ _ _ g2 hk
   refine⟨so,some (cV s1.fr v),o,some (az UC.fr v),?_,c2,g3.trans c3,(g2.ev v).mono c3.grow,hk⟩
   simp only[zp,hd,pC,g1,hm,c1]
   rfl
  |none=>
   rw[hd]at hk
   simp only at hk
   obtain⟨so,o,c1,c2,c3,hk⟩:=ih.c _ _ _ _ _ _ h hk
   cases so with
   |norm s'=>
    obtain⟨st',rfl,eY⟩:=c2
    obtain⟨QJ,d2,o2,da2,e1,e2,e3,e4,hk⟩:=Js eY hk
    exact⟨QJ,d2,o2,da2,by simp only[zp,hd,c1]; exact e1,e2,c3.trans e3,e4,hk⟩
   |ret s'=>
    obtain⟨st',rfl,eY⟩:=c2
    exact⟨.ret s',none,_,none,by simp only[zp,hd,c1],⟨st',rfl,eY⟩,c3,trivial,hk⟩
   |exit id s'=>
    obtain⟨st',rfl,eY⟩:=c2
    exact⟨.exit id s',none,_,none,by simp only[zp,hd,c1],⟨st',rfl,eY⟩,c3,trivial,hk⟩
 |_=>intro s K r st h hk; simp only[KZ,zp]at hk ⊢; exact leaf _ h hk
theorem LC{k:Nat}(ih:oC S k){ρ:Type}{s:bw S.T.den}{st:St}{d:Option (SV S.T.den)}{da:Option AV}{rs:List ResultVar}{K:List (SV S.T.den)→ah S.T.den→List Nat→List (Nat×kW)→Tr ρ}{r:ρ}(h:RS S.T s st)(hd:DR S.T s.hp d da)
  (hk:(C9 (fun c s K=>wE S k ρ c s K) S.Q S.C.P rs s d K).run=some r):∃ l cm oS qL m eC,tX (cQ S.C) S.C.P rs st.fr st.hp da=some (.val (cB m),eC)∧RL S.T cm l m∧RH S.T cm eC∧kz qL cm eC∧dm s.hp cm∧s.hp.length≤cm.length ∧
    (∀ n:Nat,n<s.hp.length→n∉oS→cm[n]?=s.hp[n]?)∧(∀ n,n∈s.wh→n∈oS)∧(K l cm oS qL).run=some r:=by
 cases d with
 |none=>
  cases da with
  |some a=>exact hd.elim
  |none=>
   simp only[C9]at hk
   obtain⟨l,m,g1,g2,hk⟩:=oz hS.T hS.Q h hk
   have Nn:(aU S.C.P st.fr rs).run st.hp=some m:=g1
   exact⟨l,s.hp,s.wh,s.js,m,st.hp,by simp only[tX,El,Nn],g2,h.hp,h.js,dm.refl _,Nat.le_refl _,fun _ _ _=>rfl,fun _ h=>h,hk⟩
 |some v=>
  cases da with
  |none=>exact hd.elim
  |some a=>
   have hd:RV S.T s.hp v a:=hd
   simp only[C9]at hk
   split at hk
   ·simp[Tr.run]at hk
   rename_i g as cy
   split at hk
   ·simp[Tr.run]at hk
   rename_i fg MR
   split at hk
   ·simp[Tr.run]at hk
   rename_i cg MS
   split at hk
   ·simp[Tr.run]at hk
   rename_i WK
   simp only[Bool.and_eq_true,Bool.not_eq_true']at WK
   obtain⟨m,hm,VC⟩:=ga hd (args:=[]) (as:=[]) trivial cy
   rw[force_eq]at hk
   have gJ:=yz (f:=g) (VC WK.2) h.hp fg.ntmps s.wh h.js
   obtain⟨so,o,c1,c2,c3,hk⟩:=ih.c _ _ _ _ _ _ gJ hk
   have fin:∀ (t:bw S.T.den) (tt:St),RS S.T t tt→bj ⟨g,max fg.ntmps as.length,mv 0 as,s.hp,[],s.wh,s.js⟩ t→(o=.norm tt∨o=.ret tt) →
     (sd S.T S.Q t fg.results.toList fun _=>sd S.T S.Q ⟨s.fn,s.n,s.fr,t.hp,s.wf,t.wh,t.js⟩ rs fun l=>K l t.hp t.wh t.js).run=some r →
     ∃ l cm oS qL m eC,tX (cQ S.C) S.C.P rs st.fr st.hp (some a)=some (.val (cB m),eC)∧RL S.T cm l m∧RH S.T cm eC∧kz qL cm eC∧dm s.hp cm∧s.hp.length≤cm.length ∧
       (∀ n:Nat,n<s.hp.length→n∉oS→cm[n]?=s.hp[n]?)∧(∀ n,n∈s.wh→n∈oS)∧(K l cm oS qL).run=some r:=by
    intro t tt ht o6 ho hk
    obtain⟨l1,m1,f1,_,hk⟩:=oz hS.T hS.Q ht hk
    have f1':(aU S.C.P tt.fr fg.results.toList).run tt.hp=some m1:=f1
    have yT:RS S.T ⟨s.fn,s.n,s.fr,t.hp,s.wf,t.wh,t.js⟩ ⟨st.fn,st.fr,tt.hp⟩:=⟨h.fn,h.n,fun x=>(h.fr x).mono o6.grow,ht.hp,ht.js⟩
    obtain⟨l,m2,g1,g2,hk⟩:=oz hS.T hS.Q yT hk
    have Nn:(aU S.C.P st.fr rs).run tt.hp=some m2:=g1
    refine⟨l,t.hp,t.wh,t.js,m2,tt.hp,?_,g2,ht.hp,ht.js,o6.grow,o6.len,o6.hp,o6.wh,hk⟩
    simp only[tX,hm,MR,MS,WK.1,c1]
    rcases ho with rfl|rfl<;>simp only[f1',El,Nn]
   cases so with
   |norm t=>
    obtain⟨tt,rfl,ht⟩:=c2
    exact fin t tt ht c3 (.inl rfl) hk
   |ret t=>
    obtain⟨tt,rfl,ht⟩:=c2
    exact fin t tt ht c3 (.inr rfl) hk
   |exit id t=>simp[Tr.run]at hk
theorem QM{k:Nat}(ih:oC S k){ρ:Type}{f:FuncId}{args:List (SV S.T.den)}{hp:ah S.T.den}{wh:List Nat}{js:List (Nat×kW)}{K:SV S.T.den→ah S.T.den→List Nat→List (Nat×kW)→Tr ρ}{r:ρ}{as:List AV}{N4:ag}
  (ha:RL S.T hp args as) (hh:RH S.T hp N4) (hj:kz js hp N4) (hk:(OT S (k+1) ρ f args hp wh js K).run=some r):∃ v cm oS qL a eC,kp S.C f as N4=some (.val a,eC)∧R S.T cm v a∧RH S.T cm eC∧kz qL cm eC∧dm hp cm∧hp.length≤cm.length ∧
    (∀ n:Nat,n<hp.length→n∉oS→cm[n]?=hp[n]?)∧(∀ n,n∈wh→n∈oS)∧(K v cm oS qL).run=some r:=by
 unfold OT at hk
 split at hk
 ·simp[Tr.run]at hk
 rename_i fn qR
 split at hk
 ·simp[Tr.run]at hk
 rename_i c hc
 rw[nK,force_eq]at hk
 have gJ:=yz (f:=f) ha hh fn.ntmps wh hj
 split at hk
 ·rename_i hD
  split at hk
  case h_2=>simp[Tr.run]at hk
  rename_i hn
  obtain⟨so,d,o,da,c1,c2,c3,c4,hk⟩:=N8 ih c gJ hk
  have fin:∀ (s:bw S.T.den) (st:St),RS S.T s st→bj ⟨f,max fn.ntmps args.length,mv 0 args,hp,[],wh,js⟩ s→DR S.T s.hp d da→(o=.norm st∨o=.ret st) →
    (C9 (fun c s K=>wE S k ρ c s K) S.Q S.C.P fn.results.toList s d fun l hp wh js=>K (qS l) hp wh js).run=some r →
    ∃ v cm oS qL a eC,kp S.C f as N4=some (.val a,eC)∧R S.T cm v a∧RH S.T cm eC∧kz qL cm eC∧dm hp cm∧hp.length≤cm.length ∧
    (∀ n:Nat,n<hp.length→n∉oS→cm[n]?=hp[n]?)∧(∀ n,n∈wh→n∈oS)∧(K v cm oS qL).run=some r:=by
   intro s st hs o6 Nh ho hk
   obtain⟨l,cm,oS,qL,m,eC,e1,e2,e3,e4,e5,e6,e7,e8,hk⟩:=LC hS ih hs Nh hk
   refine⟨qS l,cm,oS,qL,cB m,eC,?_,G1 e2,e3,e4,o6.grow.trans e5,Nat.le_trans o6.len e6,fun n hn hw=>?_,fun n hn=>e8 n (o6.wh n hn),hk⟩
   ·refine Jw qR hc hD ?_
    unfold tY
    rw[hn,c1]
    rcases ho with rfl|rfl<;>exact e1
   ·rw[e7 n (Nat.lt_of_lt_of_le hn o6.len) hw]
    exact o6.hp n hn fun h=>hw (e8 n h)
  cases so with
  |norm s=>
   obtain⟨st,rfl,hs⟩:=c2
   exact fin s st hs c3 c4 (.inl rfl) hk
  |ret s=>
   obtain⟨st,rfl,hs⟩:=c2
   exact fin s st hs c3 c4 (.inr rfl) hk
  |exit id s=>simp[Tr.run]at hk
 rename_i hD
 obtain⟨so,o,c1,c2,c3,hk⟩:=ih.c _ _ _ _ _ _ gJ hk
 have fin:∀ (s:bw S.T.den) (st:St),RS S.T s st→bj ⟨f,max fn.ntmps args.length,mv 0 args,hp,[],wh,js⟩ s→(Jv S.C fn.results o=((aU S.C.P st.fr fn.results.toList).run st.hp).map fun l=>(.val (cB l),st.hp)) →
   (sd S.T S.Q s fn.results.toList fun l=>K (qS l) s.hp s.wh s.js).run=some r →
   ∃ v cm oS qL a eC,kp S.C f as N4=some (.val a,eC)∧R S.T cm v a∧RH S.T cm eC∧kz qL cm eC∧dm hp cm∧hp.length≤cm.length ∧
   (∀ n:Nat,n<hp.length→n∉oS→cm[n]?=hp[n]?)∧(∀ n,n∈wh→n∈oS)∧(K v cm oS qL).run=some r:=by
  intro s st hs o6 he hk
  obtain⟨l,m,g1,g2,hk⟩:=oz hS.T hS.Q hs hk
  refine⟨qS l,s.hp,s.wh,s.js,cB m,st.hp,?_,G1 g2,hs.hp,hs.js,o6.grow,o6.len,o6.hp,o6.wh,hk⟩
  rw[AR qR hc _ _ hD,c1]
  simp only[Option.bind_some]
  rw[he]
  have Nn:(aU S.C.P st.fr fn.results.toList).run st.hp=some m:=g1
  rw[Nn]
  rfl
 cases so with
 |norm s=>
  obtain⟨st,rfl,hs⟩:=c2
  exact fin s st hs c3 rfl hk
 |ret s=>
  obtain⟨st,rfl,hs⟩:=c2
  exact fin s st hs c3 rfl hk
 |exit id s=>simp[Tr.run]at hk
theorem QN{k:Nat}(ih:oC S k){ρ:Type}{c:Code}{s:bw S.T.den}{K:oV S.T.den→Tr ρ}{r:ρ}{st:St}(h:RS S.T s st)(hk:(wE S (k+1) ρ c s K).run=some r):
  ∃ so o,cQ S.C c st=some o∧DI S.T so o∧bj s so.st∧(K so).run=some r:=by
 unfold wE at hk
 split at hk
 ·exact⟨.norm s,_,qf st,⟨st,rfl,h⟩,bj.refl _,hk⟩
 ·exact⟨.norm s,_,Ey _ st,⟨st,rfl,h⟩,bj.refl _,hk⟩
 ·exact⟨.ret s,_,xh st,⟨st,rfl,h⟩,bj.refl _,hk⟩
 ·rename_i id
  exact⟨.exit id s,_,uh id st,⟨st,rfl,h⟩,bj.refl _,hk⟩
 ·rename_i a b
  obtain⟨so,o,c1,c2,c3,hk⟩:=ih.c _ _ _ _ _ _ h hk
  rw[gP,c1]
  cases so with
  |norm s'=>
   obtain⟨st',rfl,eY⟩:=c2
   obtain⟨QJ,o2,d1,d2,d3,hk⟩:=ih.c _ _ _ _ _ _ eY hk
   exact⟨QJ,o2,d1,d2,c3.trans d3,hk⟩
  |exit id s'=>
   obtain⟨st',rfl,eY⟩:=c2
   exact⟨.exit id s',_,rfl,⟨st',rfl,eY⟩,c3,hk⟩
  |ret s'=>
   obtain⟨st',rfl,eY⟩:=c2
   exact⟨.ret s',_,rfl,⟨st',rfl,eY⟩,c3,hk⟩
 ·rename_i o a b
  split at hk
  ·rename_i t ht
   have ha:=(h.ev o).lit ht
   rw[kY,ha]
   rcases fi hk with ⟨rfl,hk⟩|⟨rfl,hk⟩
   ·exact ih.c _ _ _ _ _ _ h hk
   ·exact ih.c _ _ _ _ _ _ h hk
  ·simp[Tr.run]at hk
 ·rename_i id b
  obtain⟨so,o,c1,c2,c3,hk⟩:=ih.c _ _ _ _ _ _ h hk
  rw[lB,c1]
  cases so with
  |norm s'=>
   obtain⟨st',rfl,eY⟩:=c2
   exact⟨.norm s',_,rfl,⟨st',rfl,eY⟩,c3,hk⟩
  |exit I5 s'=>
   obtain⟨st',rfl,eY⟩:=c2
   simp only at hk
   by_cases e:I5=id
   ·rw[if_pos e]at hk
    exact⟨.norm s',.norm st',by simp[ui,e],⟨st',rfl,eY⟩,c3,hk⟩
   ·rw[if_neg e]at hk
    exact⟨.exit I5 s',.exit I5 st',by simp[ui,e],⟨st',rfl,eY⟩,c3,hk⟩
  |ret s'=>
   obtain⟨st',rfl,eY⟩:=c2
   exact⟨.ret s',_,rfl,⟨st',rfl,eY⟩,c3,hk⟩
 ·rename_i b
  split at hk
  case h_2=>simp[Tr.run]at hk
  rename_i c hc
  obtain⟨so,o,c1,c2,c3,hk⟩:=ih.c _ _ _ _ _ _ h hk
  exact⟨so,o,Ez hc c1,c2,c3,hk⟩
 ·rename_i b
  split at hk
  ·split at hk
   ·obtain⟨so,o,c1,c2,c3,hk⟩:=ih.c _ _ _ _ _ _ h hk
    rw[nk,c1]
    cases so with
    |norm s'=>
     obtain⟨st',rfl,eY⟩:=c2
     simp only at hk
     split at hk
     case h_2=>simp[Tr.run]at hk
     rename_i BJ
     rw[force_eq]at hk
     have hr:=DC (n:=s.hp.length) hS.T eY (Au BJ)
     have o6:=wc h c3
     obtain⟨QJ,o2,d1,d2,d3,hk⟩:=ih.c _ _ _ _ _ _ hr hk
     refine⟨QJ,o2,?_,d2,o6.trans d3,hk⟩
     simp only[Option.bind_some,Ju]
     rw[←h.hp.length]
     exact d1
    |exit id s'=>
     obtain⟨st',rfl,eY⟩:=c2
     exact⟨.exit id s',_,rfl,⟨st',rfl,eY⟩,c3,hk⟩
    |ret s'=>
     obtain⟨st',rfl,eY⟩:=c2
     exact⟨.ret s',_,rfl,⟨st',rfl,eY⟩,c3,hk⟩
   ·simp[Tr.run]at hk
  ·rename_i hi _
   split at hk
   ·rename_i x0 bN UE
    simp only[Bool.and_eq_true]at bN
    rw[Option.bind_eq_some_iff]at UE
    obtain⟨l0,h1,h2⟩:=UE
    simp only[Tr.run,Option.bind_eq_some_iff]at hk
    obtain⟨w,hw,hk⟩:=hk
    obtain⟨o,x,so,oo,g1,g2,g3,g4,g5⟩:=N7 hS ih bN.1.1 bN.1.2 bN.2 h1 h2 h hw
    exact⟨so,oo,g1,g3,g4,by rw[←g5]; exact hk⟩
   ·simp[Tr.run]at hk
 ·rename_i id ops draw
  split at hk
  ·obtain⟨s00,WL,WM,hk⟩:=vh h hk
   obtain⟨s0,e1,e2,hk⟩:=BK hS.T WL hk
   replace e2:=WM.trans e2
   rw[qJ]at hk
   obtain⟨s',st',g1,g2,g3,hk⟩:=p8 (C:=S.C) (fun o s st K h hk=>ih.o _ _ _ _ _ _ h hk) _ _ _ _ e1 hk
   exact⟨.norm s',.norm st',by rw[zR,←h.fn]; exact g1,⟨st',rfl,g2⟩,e2.trans g3,hk⟩
  ·split at hk
   case isFalse=>simp[Tr.run]at hk
   rename_i Nl
   generalize hm:S.C.head s.fn id ops=m at hk
   have key:∀ (s:bw S.T.den) (st:St),RS S.T s st→(oh ops ops.toList fun l=>x9 (lQ (bD 0 s.hp.length (ops.toList.take m)) l) fun li=>sh (fun nm o s K=>Un S nm o s K) li
       { s with hp:=s.hp++List.replicate ((ops.toList.take m).filter fun o=>au o.op).length none } [] fun s' fs=>
      if (qC (ca ops.toList) fs && mE (ca ops.toList) ops.size m) = true then vW (fun o s K => NM S k ρ o s K) (l.drop m) s' fun s' => K (.norm s') else .no "an order").run = some r →
     ∃ so o,(sW S.C ops (bD 0 st.hp.length (ops.toList.take m)) { st with hp:=st.hp++List.replicate ((ops.toList.take m).filter fun o=>au o.op).length none }).bind (Gi S.C ops m)=some o ∧
       DI S.T so o∧bj s so.st∧(K so).run=some r:=by
    clear hk h
    intro s st h hk
    rw[qJ,Ap,ru]at hk
    have WN:∀ n:Nat,dm s.hp (s.hp++List.replicate n none)∧RH S.T (s.hp++List.replicate n none) (st.hp++List.replicate n none):=by
     intro n
     have hg:dm s.hp (s.hp++List.replicate n none):=fun m o ho=>⟨o,by rw[List.getElem?_append_left (List.getElem?_eq_some_iff.1 ho).1]; exact ho,Nat.le_refl _,fun _=>rfl⟩
     exact⟨hg,aw.append (aw.mono (fun _ _=>Bw.mono hg) h.hp) (aw.replicate (show Bw S.T _ none none from trivial) n)⟩
    generalize WO:((ops.toList.take m).filter fun o=>au o.op).length=Rm at hk
    have ny:RS S.T { s with hp:=s.hp++List.replicate Rm none } { st with hp:=st.hp++List.replicate Rm none }:=
     ⟨h.fn,h.n,fun t=>(h.fr t).mono (WN Rm).1,(WN Rm).2,h.js.zd fun n hn=>⟨by simp only; rw[List.getElem?_append_left (jl hn)],by simp only; rw[List.getElem?_append_left (by rw[←h.hp.length]; exact jl hn)]⟩⟩
    have WQ:bj s { s with hp:=s.hp++List.replicate Rm none }:=
     ⟨rfl,rfl,fun _ _=>rfl,fun _ h=>h,fun n hn _=>by simp only; rw[List.getElem?_append_left hn],fun _ h=>h,by simp,(WN Rm).1⟩
    obtain⟨s',st',Qx,M9,g1,g2,g3,g4,hk⟩:=u7 (C:=S.C) (ops:=ops) (fun nm o s st K h hn hk=>QH hS h hn hk) (bD 0 s.hp.length (ops.toList.take m)) s.hp.length _ _ [] _ (Aq _ _ _)
     (by rw[yw,WO]; simp) (fun m hm IL=>by
       simp only at IL ⊢
       rw[List.getElem?_append_right hm,List.getElem?_replicate,if_pos]
       simp at IL; omega) ny hk
    split at hk
    case isFalse=>simp[Tr.run]at hk
    rename_i DV
    rw[Bool.and_eq_true]at DV
    obtain⟨DV,vI⟩:=DV
    obtain⟨s2,N1,j1,j2,j3,hk⟩:=p8 (C:=S.C) (fun o s st K h hk=>ih.o _ _ _ _ _ _ h hk) _ _ _ _ g3 hk
    refine⟨.norm s2,.norm N1,?_,⟨N1,rfl,j2⟩,WQ.trans (g4.trans j3),hk⟩
    have hl:=h.hp.length
    rw[←hl]
    rw[g1]
    simp only[Option.bind_some,Gi]
    rw[if_pos]
    ·rw[pC,←j1,List.map_drop]
    ·rw[Bool.and_eq_true]
     simp only[List.nil_append]at DV
     exact⟨yv g2 (BE DV),vI⟩
   obtain⟨s00,WL,WM,hk⟩:=vh h hk
   obtain⟨s0,e1,e2,hk⟩:=BK hS.T WL hk
   replace e2:=WM.trans e2
   obtain⟨so,o,i1,i2,i3,hk⟩:=key s0 _ e1 hk
   refine⟨so,o,?_,i2,e2.trans i3,hk⟩
   rw[Hr id ops Nl,←h.fn,←rP (S.C.iq s.fn id) st,hm]
   exact i1
 ·-- a range over a function
  rename_i f ps as bd
  split at hk
  case h_2=>simp[Tr.run]at hk
  rename_i g args hg
  split at hk
  case h_2=>simp[Tr.run]at hk
  rename_i lA
  rw[Bool.and_eq_true]at lA
  have hl:=h.hp.length
  have eX:=Im h lA.2
  obtain⟨H1,IT⟩:∃ H1,H1=s.hp++[some (aD.oU s.fn ps as bd (wD (cX as++cX bd) s.fr (List.range s.n)))]:=⟨_,rfl⟩
  rw[←IT]at hk
  have O2:dm s.hp H1:=fun m o ho=>⟨o,by rw[IT,List.getElem?_append_left (List.getElem?_eq_some_iff.1 ho).1]; exact ho,Nat.le_refl _,fun _=>rfl⟩
  have fo:H1[s.hp.length]?=some (some (aD.oU s.fn ps as bd (wD (cX as++cX bd) s.fr (List.range s.n)))):=by rw[IT]; simp
  have hh1:RH S.T H1 (st.hp++[some (.gd (.loop st.fn ps as bd .ready) (tW as bd st.fr))]):=by
   have:aw (Bw S.T H1) (s.hp++[some (aD.oU s.fn ps as bd (wD (cX as++cX bd) s.fr (List.range s.n)))]) (st.hp++[some (.gd (.loop st.fn ps as bd .ready) (tW as bd st.fr))]):=
    aw.append (aw.mono (fun _ _=>Bw.mono O2) h.hp) ⟨⟨.ready,_,by rw[h.fn],aw.mono (fun _ _ h=>h.imp id (R.mono O2)) eX⟩,trivial⟩
   rw[←IT]at this
   exact this
  have Q0:kz ((s.hp.length,.ready)::s.js) H1 (st.hp++[some (.gd (.loop st.fn ps as bd .ready) (tW as bd st.fr))]):=by
   intro m x hm
   simp only[cr]at hm
   split at hm
   ·simp_all[recAt,fo,aD.isRec,ia]
   ·obtain⟨h1,h2⟩:=h.js m x hm
    have cd:=jl h1
    exact⟨by rw[p7 (show H1[m]?=s.hp[m]? by rw[IT,List.getElem?_append_left cd])]; exact h1,by rw[nL (List.getElem?_append_left (by omega))]; exact h2⟩
  have hyR:RV S.T H1 (.mp true s.hp.length) (.mp true st.hp.length):=.inr (by simp only[R]; exact⟨by rw[hl],_,fo⟩)
  obtain⟨m,uj,yL⟩:=ga ((h.ev f).mono O2) (show aw (RV S.T H1) [.mp true s.hp.length] [.mp true st.hp.length] from ⟨hyR,trivial⟩) hg
  have Lw:args.any bP=false:=by simpa using lA.1
  obtain⟨v,cm,oS,qL,a,eC,g1,g2,g3,gj,g4,g5,g6,g7,hk⟩:=ih.f _ _ _ _ _ _ _ _ _ _ (yL Lw) hh1 Q0 hk
  have Gb:H1.length=s.hp.length+1:=by rw[IT]; simp
  have fin:∀ x,cr qL s.hp.length=some x→RS S.T (s.gL s.hp.length cm oS qL) { st with hp:=qZ eC st.hp.length }∧bj s (s.gL s.hp.length cm oS qL)∧ia eC st.hp.length=some x:=by
   intro x hx
   obtain⟨q1,q2⟩:=gj _ _ hx
   rw[hl]at q2
   obtain⟨Ng,Wo,nW,Wp,yY,hr⟩:=iD q2
   obtain⟨o,ho,Wn⟩:∃ o,cm[s.hp.length]?=some (some o)∧o.isRec=true:=by
    grind[recAt]
   have qV:o.cur=0∧o.len=0:=by cases o<;>simp[aD.isRec]at Wn; exact⟨rfl,rfl⟩
   have CB:qZ eC st.hp.length=eC.set st.hp.length (some (.gd (.loop Ng Wo nW Wp .gL) (yY.map fun _=>.any))):=by unfold qZ; rw[hr]
   obtain⟨u1,u2⟩:=g3.Ra ho (o':=.gV) (a':=.gd (.loop Ng Wo nW Wp .gL) (yY.map fun _=>.any)) (by rw[qV.1]; exact Nat.zero_le _) (fun _=>by rw[qV.2]; rfl) (.inr ⟨_,_,rfl,fun n=>by
    rw[yx]
    simp[Go.PI.below]⟩)
   rw[hl]at u2
   have zN:dm s.hp (cm.set s.hp.length (some .gV)):=O2.trans (g4.trans u1)
   refine⟨⟨h.fn,h.n,fun t=>(h.fr t).mono zN,?_,?_⟩,⟨rfl,rfl,fun _ _=>rfl,fun _ h=>h,fun n hn hw=>?_,g7,?_,zN⟩,q2⟩
   ·rw[CB]
    show RH S.T (cm.set s.hp.length (some .gV)) _
    rw[hl]; exact u2
   ·intro n y hy
    have AZ:cr (C8 qL s.hp.length) n=some y:=hy
    rw[DJ]at AZ
    split at AZ
    ·simp at AZ
    rename_i dM
    obtain⟨w1,w2⟩:=gj _ _ AZ
    refine⟨?_,?_⟩
    ·rw[p7 (show (s.gL s.hp.length cm oS qL).hp[n]?=cm[n]? from List.getElem?_set_ne (Ne.symm dM))]; exact w1
    ·rw[CB,nL (List.getElem?_set_ne (by rw[←hl]; exact Ne.symm dM))]; exact w2
   ·show (cm.set s.hp.length (some .gV))[n]?=_
    rw[List.getElem?_set_ne (by omega),g6 n (by omega) hw,IT,List.getElem?_append_left hn]
   ·show s.hp.length≤(cm.set s.hp.length (some .gV)).length
    rw[List.length_set]; omega
  have aV:cQ S.C (.rangeFunc f ps as bd) st=vn st st.hp.length eC:=by
   rw[ED,uj]
   simp only[Option.bind_some,g1]
   rfl
  rw[aV]
  split at hk
  ·rename_i hx
   obtain⟨f1,f2,f3⟩:=fin _ hx
   exact⟨.norm _,_,by unfold vn; rw[f3],⟨_,rfl,f1⟩,f2,hk⟩
  ·rename_i hx
   obtain⟨f1,f2,f3⟩:=fin _ hx
   exact⟨.ret _,_,by unfold vn; rw[f3],⟨_,rfl,f1⟩,f2,hk⟩
  ·rename_i id hx
   obtain⟨f1,f2,f3⟩:=fin _ hx
   exact⟨.exit id _,_,by unfold vn; rw[f3],⟨_,rfl,f1⟩,f2,hk⟩
  ·simp[Tr.run]at hk
 ·simp[Tr.run]at hk
theorem DW:∀ k,oC S k
 |0=>⟨fun _ _ _ _ _ _ _ _ _ _ _ _ _ h=>by simp[OT,Tr.run]at h,fun _ _ _ _ _ _ _ h=>by simp[wE,Tr.run]at h,fun _ _ _ _ _ _ _ h=>by simp[NM,Tr.run]at h⟩
 |k+1=>
  have ih:=DW k
  ⟨fun _ _ _ _ _ _ _ _ _ _ ha hh hj hk=>QM hS ih ha hh hj hk,fun _ _ _ _ _ _ h hk=>QN hS ih h hk,fun _ _ _ _ _ _ h hk=>QI hS ih h hk⟩
end
end Go.PI
end
section
/- PS, part R: from an equation of trees to what is known of a function; laws; arguments read. -/
namespace Go.PI
theorem DS[ab]{S:od}(hS:S.Ok){k:Nat}{f:FuncId}{σ:uM S.T}(hk:S.C.kind f=.pure)(hi:S.C.kn f=none)(h:∀ x,(Qh S k f σ.args σ.res x).run=σ.fn x):p6 S.C S.T f σ where
 kind:=hk
 Rh:=by
  intro x as y hx hy
  rw[←h x]at hy
  unfold Qh at hy
  obtain⟨v,cm,oS,qL,a,eC,g1,g2,g3,_,_,_,_,_,hy⟩:=(DW hS k).f _ f _ [] [] [] _ _ as [] (Lg hS.T [] hx) (show RH S.T [] [] from trivial) (fun _ _ h=>by simp[cr]at h) hy
  obtain⟨v',rd,a',h1,h2,h3,hy⟩:=La g3 g2 hy
  split at hy
  case h_2=>simp[Tr.run]at hy
  rename_i r hr
  simp only[Tr.run,Option.some.injEq]at hy
  subst hy
  rw[Option.bind_eq_some_iff]at hr
  obtain⟨l,hl,hr⟩:=hr
  have Vb:∀ (ts:List Nat) (l:List (SV S.T.den)) r,HX S.T ts l=some r→ts.length=l.length:=by
   intro ts
   induction ts with
   |nil=>
    grind[HX]
   |cons t ts ih=>
    intro l r h
    cases l with
    |nil=>simp[HX]at h
    |cons v l=>
     simp only[HX,Option.bind_eq_some_iff,Option.map_eq_some_iff]at h
     obtain⟨_,_,_,h,_⟩:=h
     simp[ih _ _ h]
  have hlen:=Vb _ _ _ hl
  have key:∃ m,RL S.T cm (K0 σ.res v') m∧cB m=a':=by
   unfold K0 at hlen ⊢
   split at hlen
   ·exact⟨[a'],by simp only[RL]; exact⟨h2,trivial⟩,rfl⟩
   ·rename_i dM
    have sE:σ.res.length≠1:=by
     intro hc
     match cy:σ.res,hc with
     |[t],_=>exact dM t cy
    split at hlen
    ·simp only[R]at h2
     obtain⟨m,rfl,h2⟩:=h2
     have hm:=h2.length
     refine⟨m,h2,?_⟩
     match m,hm with
     |[],_=>rfl
     |[x],hm=>simp at hm; omega
     |x::y::r,_=>rfl
    ·simp at hlen; omega
  obtain⟨m,uj,Rl⟩:=key
  have Ei:=FH hS.T uj hl
  rw[oy _ _ _ hr]
  refine⟨a,eC,m,?_,?_,?_,Ei⟩
  ·simp only[Lh,hi,g1]
  ·rw[Rl]; exact h1.1
  ·rw[Rl]; exact h3.1
def GX(C:Ctx)(T:dk)(M:List (Nat×jU))(hint:FuncId→Nat→Option Hint)(uN:FuncId→Nat→Bool)(L:List (Nat×uM T))(n:Nat)(O:List (Nat×vV T):=[])(tB:FuncId→Nat→Bool:=fun _ _=>false)(tw:FuncId→Tmp→List Tw:=fun _ _=>[]):od:=
 ⟨C,T,cr (L.take n),hint,uN,M,cr O,tB,tw⟩
theorem AD{α:Type}:∀ {l m:List (Nat×α)} {n:Nat} {a:α},cr (l++m) n=some a→cr l n=some a∨cr m n=some a
 |[],m,n,a,h=>.inr h
 |(k,b)::l,m,n,a,h=>by
  simp only[List.cons_append,cr]at h ⊢
  split at h
  ·exact .inl h
  ·exact AD h
section
variable {C:Ctx}{T:dk}{M:List (Nat×jU)}{hint:FuncId→Nat→Option Hint}{uN:FuncId→Nat→Bool}{L:List (Nat×uM T)}{O:List (Nat×vV T)}{tB:FuncId→Nat→Bool}{tw:FuncId→Tmp→List Tw}
theorem Dg[ab](hT:T.Ok)(hQ:gw.Ok ⟨C.P,M,fun _=>false⟩)(hZ:T.tK ⟨C.P,M,fun _=>false⟩)(hO:∀ g σ,cr O g=some σ→G3 C T g σ):(GX C T M hint uN L 0 O tB tw).Ok:=
 ⟨hT,hQ,hZ,fun g σ h=>by simp[GX,cr]at h,hO⟩
theorem tH[ab]{n:Nat}(hS:(GX C T M hint uN L n O tB tw).Ok){f:FuncId}{σ:uM T}(hL:L[n]?=some (f,σ))(h:p6 C T f σ):(GX C T M hint uN L (n+1) O tB tw).Ok:=by
 refine⟨hS.T,hS.Q,hS.Z,fun g τ hg=>?_,hS.own⟩
 simp only[GX]at hg
 rw[List.take_add_one,hL]at hg
 rcases AD hg with hg|hg
 ·exact hS.sum g τ hg
 ·have:=gA hg
  simp only[Option.toList_some,List.mem_singleton]at this
  obtain⟨rfl,rfl⟩:=this
  exact h
theorem aB[ab]{n:Nat}(hS:(GX C T M hint uN L n O tB tw).Ok){f:FuncId}{σ:uM T}(hL:L[n]?=some (f,σ))(hk:C.kind f=.pure)(hi:C.kn f=none)(k:Nat)
  (h:∀ x,(Qh (GX C T M hint uN L n O tB tw) k f σ.args σ.res x).run=σ.fn x):(GX C T M hint uN L (n+1) O tB tw).Ok:=
 tH hS hL (DS hS hk hi h)
theorem N9[ab]{n:Nat}(hS:(GX C T M hint uN L n O tB tw).Ok){f:FuncId}{σ:uM T}(h:cr (L.take n) f=some σ):p6 C T f σ:=hS.sum f σ h
end
theorem FR[ab]{hp:ag}{v:AV}{b:Bool}(h:(aX 1000 v).run hp=some (.lit (.bool b))):v=.lit (.bool b):=by
 cases v with
 |lit x=>
  simp only[aX]at h
  split at h
  ·simp[RM.run_pure]at h
  ·simpa[RM.run_pure] using h
 |agg l=>simp only[aX,RM.run_bind]at h; cases hq:(aK 999 l).run hp<;>rw[hq]at h<;>simp[RM.run_pure]at h
 |jn l=>simp only[aX,RM.run_bind]at h; cases hq:(aK 999 l).run hp<;>rw[hq]at h<;>simp[RM.run_pure]at h
 |sl l=>simp[aX,RM.run_pure]at h
 |o7 l c=>simp[aX,RM.run_pure]at h
 |nz=>simp[aX,RM.run_pure]at h
 |bc e j=>simp[aX,RM.run_pure]at h
 |ref n aq i j=>
  simp only[aX,RM.run_bind]at h
  cases hq:(RM.arr n aq).run hp with
  |none=>rw[hq]at h; simp at h
  |some q=>
   obtain⟨g,c,f,es⟩:=q
   rw[hq]at h
   simp only[Option.bind_some]at h
   split at h
   ·split at h
    ·simp[RM.run_pure]at h
    ·rename_i e _ _
     rw[RM.run_bind]at h
     cases dR:(aX 999 e).run hp<;>rw[dR]at h<;>simp[RM.run_pure]at h
   ·simp[RM.ae]at h
 |im n aq i j len cap=>
  simp only[aX,RM.run_bind]at h
  cases hq:(RM.arr n aq).run hp with
  |none=>rw[hq]at h; simp at h
  |some q=>
   obtain⟨g,c,f,es⟩:=q
   rw[hq]at h
   simp only[Option.bind_some]at h
   split at h
   ·split at h
    ·split at h
     ·simp[RM.run_pure]at h
     ·rename_i cs _ _ _
      rw[RM.run_bind]at h
      cases dR:(aK 999 ((cs.drop j).take len)).run hp<;>rw[dR]at h<;>simp[RM.run_pure]at h
    ·simp[RM.ae]at h
   ·simp[RM.ae]at h
 |mp n=>simp[aX,RM.ae]at h
 |any=>simp[aX,RM.ae]at h
 |fL t x=>simp only[aX,RM.run_bind]at h; cases hq:(aX 999 x).run hp<;>rw[hq]at h<;>simp[RM.run_pure]at h
 |iQ fn f c=>
  simp only[aX,RM.run_bind]at h
  cases hq:(aK 999 f).run hp with
  |none=>rw[hq]at h; simp at h
  |some f'=>
   cases dR:(aK 999 c).run hp with
   |none=>rw[hq,dR]at h; simp at h
   |some c'=>simp_all[RM.run_pure]
 |bp esz n aq off len cap=>
  simp only[aX,RM.run_bind]at h
  cases hq:(RM.arr n aq).run hp with
  |none=>rw[hq]at h; simp at h
  |some q=>
   obtain⟨g,c,f,es⟩:=q
   rw[hq]at h
   simp only[Option.bind_some]at h
   split at h
   ·split at h
    ·simp[RM.run_pure]at h
    ·rw[RM.run_bind]at h
     cases dR:(aK 999 ((es.drop off).take len)).run hp<;>rw[dR]at h<;>simp[RM.run_pure]at h
   ·simp[RM.ae]at h
open Go.RowKit in
theorem LD[ab]{C:Ctx}{T:dk}(hC:C.Ok){f:FuncId}{σ:uM T}(h:p6 C T f σ)(hi:C.kn f=none){x:HL T.den (σ.args.map .v)}{y:HL T.den (σ.res.map .v)}(hy:σ.fn x=some y)
  (cy:∀ l,aw (O4 T) (fU _ y) l→l=[.lit (.bool true)]) {as:List AV} (ha:aw (O4 T) (fU _ x) as) {W:World} (hg:mG (Env.all W)) {vs:List Value} (hr:an (Env.all W) false as vs) :
  Calls C.P f vs.toArray W fun e w'=>e=.returned (.bool true)∧Below W.heap.size W w':=by
 obtain⟨v,gZ,l,h1,h2,_,h4⟩:=h.Rh x as y ha hy
 have:=cy l h4
 subst this
 have hv:=FR h2
 subst hv
 unfold Lh at h1
 rw[hi]at h1
 simp only at h1
 split at h1
 case h_2=>simp at h1
 rename_i v0 SU aV
 simp only[Option.some.injEq,Prod.mk.injEq]at h1
 obtain⟨rfl,rfl⟩:=h1
 exact Hm hC aV hg hr
end Go.PI
end
section
/- PS, part S: arguments that came in, as typed values. -/
namespace Go.PI
section
variable {P:Program}{n t:Nat}{l:List AV}
theorem oE(h:Shape P n t l):∃ k,n=k+1:=by
 cases n with
 |zero=>simp[Shape]at h
 |succ k=>exact⟨k,rfl⟩
theorem Iw[ab]{i:IntKind}(hu:P.underlying t=some (.int i))(h:Shape P n t l):∃ m:Int,l=[.lit (.int i m)]∧i.min≤m∧m≤i.max:=by
 obtain⟨k,rfl⟩:=oE h
 simp only[Shape,hu]at h
 obtain⟨m,h1,h2⟩:=h
 simp only[Lit.wf,Bool.and_eq_true,decide_eq_true_eq]at h2
 exact⟨m,h1,h2⟩
theorem wi[ab]{e:Nat}{α:Type}{Q:α→AV→Prop}{d:TypeDesc}(hu:P.underlying t=some (.slice e))(he:P.underlying e=some d)(h:Shape P n t l)
  (Jq:∀ k x,(∃ cl,(if ed d then x=AV.agg cl else cl=[x])∧Shape P k e cl)→∃ y,Q y x) :
  ∃ ys xs,l=[.sl xs]∧aw Q ys xs∧ys.length≤maxLen:=by
 obtain⟨k,rfl⟩:=oE h
 simp only[Shape,hu]at h
 obtain⟨xs,h1,h2,h3⟩:=h
 have:∃ ys,aw Q ys xs:=by
  clear h1 h2
  induction xs with
  |nil=>exact⟨[],trivial⟩
  |cons x xs ih=>
   obtain⟨ys,h4⟩:=ih fun y hy=>h3 y (List.mem_cons_of_mem _ hy)
   obtain⟨cl,h5,h6⟩:=h3 x (by simp)
   rw[he]at h5
   obtain⟨y,h7⟩:=Jq k x ⟨cl,h5,h6⟩
   exact⟨y::ys,h7,h4⟩
 obtain⟨ys,h4⟩:=this
 exact⟨ys,xs,h1,h4,by rw[h4.length]; exact h2⟩
theorem BM[ab]{fs:Array Field}(hu:P.underlying t=some (.struct fs))(h:Shape P n t l):l.length=P.cellsOf t∧∃ k,∀ f,f∈fs.toList→Shape P k f.type ((l.drop f.offset).take (P.cellsOf f.type)):=by
 obtain⟨k,rfl⟩:=oE h
 simp only[Shape,hu]at h
 exact⟨h.1,k,h.2⟩
theorem BN[ab]{Q:gw}(hQ:Q.Ok){t:Nat}{m:jU}(hm:Q.ty t=some m){fs:List (Nat×Nat)}(hk:m.kind=.struct fs)(h:Shape Q.P n t l):
  l.length=Q.P.cellsOf t∧∃ k,∀ q,q∈fs→Shape Q.P k q.2 ((l.drop q.1).take (Q.P.cellsOf q.2)):=by
 obtain⟨d,hd,EA⟩:=hQ.kind t m hm
 rw[hk]at EA
 cases d<;>simp[ot]at EA
 rename_i D5
 subst EA
 obtain⟨h1,k,h2⟩:=BM hd h
 refine⟨h1,k,fun q hq=>?_⟩
 obtain⟨f,hf,rfl⟩:=List.mem_map.1 hq
 exact h2 f hf
end
theorem oF{Q:gw}(hQ:Q.Ok){t:Nat}{m:jU}(h:Q.ty t=some m):Q.P.cellsOf t=m.size:=by
 obtain⟨r,h1,_,h2,_⟩:=hQ.row t m h
 unfold eZ at h1
 unfold Program.cellsOf
 cases hi:Q.P.info? t with
 |none=>rw[hi]at h1; simp at h1
 |some i=>
  grind
theorem jK[ab]{P:Program}{n t t':Nat}{l:List AV}(hu:P.underlying t=P.underlying t')(h:Shape P n t l)(hc:P.cellsOf t=P.cellsOf t':=by kernel_rfl):Shape P n t' l:=by
 obtain⟨k,rfl⟩:=oE h
 simp only[Shape]at h ⊢
 rw[←hu,←hc]
 exact h
theorem tQ{k:IntKind}{n:Int}:ba (.lit (.int k n))=true:=rfl
theorem qN{b:Bool}:ba (.lit (.bool b))=true:=rfl
theorem tR{s:ByteArray}:ba (.lit (.string s))=true:=rfl
theorem DX{T:dk}{H:ah T.den}{v:SV T.den}{vs:List (SV T.den)}{l:List AV}:RL T H (v::vs) l↔∃ c cs,l=c::cs∧R T H v c∧RL T H vs cs:=by
 cases l with
 |nil=>simp[RL]
 |cons c cs=>
  grind[RL]
theorem FT{T:dk}{H:ah T.den}{l:List AV}:RL T H [] l↔l=[]:=by
 cases l<;>simp[RL]
end Go.PI
end
section
/- PS: what must hold of a seat's types, for all the plain kinds at once. -/
namespace Go.PI
section
variable {T:dk}{H:ah T.den}{v:SV T.den}{a:AV}
theorem eJ{k:IntKind}{x:Int}(h:dI k v=some x)(hr:R T H v a):a=.lit (.int k x):=by
 unfold dI at h
 split at h
 ·simp_all[R]
 ·simp at h
theorem LF{x:Bool}(h:dB v=some x)(hr:R T H v a):a=.lit (.bool x):=by
 unfold dB at h
 split at h
 ·simp_all[R]
 ·simp at h
theorem Tg{x:ByteArray}(h:dS v=some x)(hr:R T H v a):a=.lit (.string x):=by
 unfold dS at h
 split at h
 ·simp_all[R]
 ·simp at h
theorem LG{α:Type}{q:α→AV→Prop}{d:SV T.den→Option α}(hd:∀ v x a,d v=some x→R T H v a→q x a):∀ (vs:List (SV T.den)) (l:List α) (m:List AV),SD d vs=some l→RL T H vs m→aw q l m
 |[],l,[],h,_=>by simp[SD]at h; subst h; trivial
 |v::vs,l,a::m,h,hr=>by
  simp only[RL]at hr
  simp only[SD,Option.bind_eq_some_iff,Option.map_eq_some_iff]at h
  obtain⟨x,h1,ys,h2,rfl⟩:=h
  exact⟨hd _ _ _ h1 hr.1,LG hd vs ys m h2 hr.2⟩
 |[],_,_::_,_,h=>by simp[RL]at h
 |_::_,_,[],_,h=>by simp[RL]at h
theorem gb{e:Nat}{x:List (T.den e)}{d:SV T.den→Option (T.den e)}(hd:∀ v x a,d v=some x→R T H v a→T.rp e x a)(h:OU e d v=some x)(hr:R T H v a):NN (T.rp e) x a:=by
 unfold OU at h
 split at h
 ·rename_i t l
  split at h
  ·rename_i e
   subst e
   have e2:l=x:=Option.some.inj h
   subst e2
   simp only[R]at hr
   exact hr
  ·simp at h
 ·simp only[R]at hr
  obtain⟨m,rfl,hm,_⟩:=hr
  exact .inl ⟨m,rfl,LG hd _ _ _ h hm⟩
 ·grind[R]
 ·simp at h
theorem QO{α:Type}{q:α→AV→Prop}{d:SV T.den→Option α}{x:α}(hd:∀ v a,d v=some x→R T H v a→q x a)(h:VO d v=some x)(hr:R T H v a):Uo q x a:=by
 unfold VO at h
 split at h
 ·grind[R]
 ·simp at h
theorem uL{l:Value}(h:a=.lit l):R T H (.lit l) a:=by simp only[R]; exact h
theorem uG{e:Nat}{x:List (T.den e)}(h:NN (T.rp e) x a):R T H (.jd e x) a:=by simp only[R]; exact h
theorem uP{α:Type}{q:α→AV→Prop}{u:α→SV T.den}{x:α}(hu:∀ b,q x b→R T H (u x) b)(hc:aF (u x)=true)(h:Uo q x a):R T H (.bc (u x) 0) a:=by
 grind[R]
theorem eI{k:IntKind}{x:Int}(h:a=.lit (.int k x)):aG false 1 a=true∧closed a=true∧ba a=true:=by subst h; exact⟨rfl,rfl,rfl⟩
theorem eB{x:Bool}(h:a=.lit (.bool x)):aG false 1 a=true∧closed a=true∧ba a=true:=by subst h; exact⟨rfl,rfl,rfl⟩
theorem eS{x:ByteArray}(h:a=.lit (.string x)):aG false 1 a=true∧closed a=true∧ba a=true:=by subst h; exact⟨rfl,rfl,rfl⟩
theorem eG{α:Type}{q:α→AV→Prop}{x:List α}(h:NN q x a):aG false 1 a=true∧closed a=true∧ba a=true:=by
 rcases h with ⟨l,rfl,_⟩|⟨_,rfl⟩<;>exact⟨rfl,rfl,rfl⟩
theorem eP{α:Type}{q:α→AV→Prop}{x:α}(h:Uo q x a):aG false 1 a=true∧closed a=true∧ba a=true:=by
 obtain⟨b,rfl,_⟩:=h
 exact⟨rfl,rfl,rfl⟩
theorem yM{p q r:Prop}(h:p∧q∧r):p∧q:=⟨h.1,h.2.1⟩
theorem zz{α β:Type}{P:α→β→Prop}{x z:α}{y za:β}(h1:some x=some z)(h2:some y=some za)(h:P x y):P z za:=by
 simp_all
theorem zn{α:Type}{z:α}{p:Prop}(h:(none:Option α)=some z):p:=by cases h
end
end Go.PI
end
section
/- PS, part U: what is lacking of laws to compute by: appends and literal slices. -/
namespace Go.PI
variable {C:Ctx}{P:Program}{dst:Option Tmp}{type:TypeId}{pos:String}{after:Array Edge}{guard:Option (Nat×Bool)}{s:St}{hp:ag}{nm:Nat}{ev:Operand→AV}
theorem D1[ab]{d:Tmp}(h:C.acc s.fn d=false):ic C ⟨some d,.assign (.const (.slice none 0 0)),type,pos,after,guard⟩ s=some (.norm { s with fr:=s.fr.set d (.lit cK) }):=by
 refine bU (jt C _ _) (by simp[fE]) fun k=>?_
 simp only[fE,h]
 rfl
theorem LM{x y:Operand}{t u:TypeId}:(aM P nm ev ⟨dst,.call ⟨.builtin .append,#[x,y],#[t,u]⟩,type,pos,after,guard⟩).run hp=(fC P nm t u (ev x) (ev y)).run hp:=rfl
def LN(d:Option dg):AV→Option dg
 |.lit (.slice none 0 0)=>some ⟨int 0,[]⟩
 |_=>d
theorem LO{d:Option dg}:LN d (.lit (.slice none 0 0))=some ⟨int 0,[]⟩:=rfl
theorem Oj{t:TypeId}{x:Operand}(h:bZ P t=true):(aM P nm ev ⟨dst,.call ⟨.builtin .cap,#[x],#[t]⟩,type,pos,after,guard⟩).run hp =
  LN (J1 P nm ev ⟨dst,.call ⟨.builtin .cap,#[x],#[t]⟩,type,pos,after,guard⟩ hp) (ev x):=by
 unfold LN
 split
 ·rename_i hx; simp[aM,dh,hx,h]; rfl
 ·rfl
theorem Ol{t:TypeId}{x:Operand}(h:bZ P t=true):(aM P nm ev ⟨dst,.call ⟨.builtin .len,#[x],#[t]⟩,type,pos,after,guard⟩).run hp =
  LN (J1 P nm ev ⟨dst,.call ⟨.builtin .len,#[x],#[t]⟩,type,pos,after,guard⟩ hp) (ev x):=by
 unfold LN
 split
 ·rename_i hx; simp[aM,dh,hx,h,nP]; rfl
 ·rfl
theorem Om[ab]{t:TypeId}{x:Operand}{lo hi mx:Option Operand}:(aM P nm ev ⟨dst,.slice t x lo hi mx,type,pos,after,guard⟩).run hp=(m6 P t (ev x) (lo.map ev) (hi.map ev) (mx.map ev)).map fun x=>⟨x,[]⟩:=A4 _ _
theorem On{t:TypeId}{r:bH}(yX:aP P t=some r):m6 P t (.lit cK) none (some (int 0)) none=some (.lit cK):=by
 simp[m6,yX,br,asNat]
theorem Oo{t:TypeId}{r:bH}(yX:aP P t=some r){n aq len:Nat}(hv:0<aq):m6 P t (.bp r.size n aq 0 len none) none (some (int 0)) none=some (.bp r.size n aq 0 0 none):=by
 simp[m6,yX,br,asNat,hv]
theorem LP[ab]{t u:TypeId}{r:bH}{k:IntKind}{z:AV}{n:Nat}(yX:aP P t=some r)(gJ:bZ P u=false)(hu:P.underlying u=some (.int k))(hz:cq r=some z)(hr:0<r.size)
  (ho:aG r.isAgg r.size z=true) (hn:0<n) (h1:n*r.bytes≤2^44) (h2:n≤2^44) :
  (fC P nm t u (.lit cK) (int n)).run hp=some ⟨.bp r.size nm n 0 n none,[(nm,.arr true true false (List.replicate n z))]⟩:=by
 have dM:(List.replicate n z).isEmpty=false:=by cases n with
  |zero=>omega
  |succ n=>rfl
 have bf:(List.replicate n z).all (aG r.isAgg r.size)=true:=by simp[ho]
 simp only[fC,yX,wo,gJ,hu,hz,rJ,RM.run_bind,h1,h2,and_self,if_true,RM.run_pure,Option.bind_some,Option.isSome_some,hr,bf,decide_true,Bool.and_self,dM,List.length_replicate]
theorem FV[ab]{k n:Nat}{xs:List AV}{esz:Nat}{cap:Option Nat}{g f:Bool}(h:(RM.arr n xs.length).run hp=some (g,true,f,xs)):(aX (k+1) (.bp esz n xs.length 0 xs.length cap)).run hp=some (.sl xs):=by
 simp[aX,RM.run_bind,h,RM.run_pure]
def wj:AV→AV
 |.lit (.slice none 0 0)=>.sl []
 |x=>x
theorem AE{E:Env}{o:Bool}{x:AV}{v:Value}(h:aj E o x v):aj E o (wj x) v:=by
 unfold wj
 split
 ·grind[aj]
 ·exact h
theorem yJ[ab]{E:Env}{c:Array Value}{esz:Nat}:∀ {xs:List AV} {pos:Nat},dN E xs c pos esz→dN E (xs.map wj) c pos esz
 |[],_,_=>by simp[dN]
 |x::xs,pos,h=>by
  simp only[dN,List.map_cons]at h ⊢
  obtain⟨⟨v,h1,h2⟩,h3⟩:=h
  exact⟨⟨v,AE h1,h2⟩,yJ h3⟩
theorem IA[ab]{E:Env}{o:Bool}{xs:List AV}{v:Value}(h:aj E o (.sl xs) v):aj E o (.sl (xs.map wj)) v:=by
 simp only[aj,List.length_map]at h ⊢
 obtain⟨a,cap,h1,h2,h3,h4⟩:=h
 refine⟨a,cap,h1,h2,h3,?_⟩
 rcases h4 with h4|⟨b,of,esz,c,h5,h6,h7⟩
 ·left; rw[h4]; rfl
 ·exact .inr ⟨b,of,esz,c,h5,h6,yJ h7⟩
def wk:List AV→Option (List (List AV))
 |[]=>some []
 |.sl l::xs=>(wk xs).map fun r=>l::r
 |_::_=>none
theorem D2:∀ {xs:List AV} {ls:List (List AV)},wk xs=some ls→xs=ls.map .sl
 |[],ls,h=>by simp[wk]at h; subst h; rfl
 |x::xs,ls,h=>by
  unfold wk at h
  split at h
  ·rename_i hh; simp at hh
  ·rename_i l xs' hh
   simp only[List.cons.injEq]at hh
   obtain⟨rfl,rfl⟩:=hh
   simp only[Option.map_eq_some_iff]at h
   obtain⟨r,h1,rfl⟩:=h
   rw[D2 h1]; rfl
  ·simp at h
def Xq(r:bH):List AV→Option AV
 |[.sl xs]=>if xs.all (aG r.isAgg r.size)=true∧xs.length*r.bytes≤2^44∧xs.length≤2^44 then some (.sl xs) else none
 |[.lit (.slice none 0 0)]=>some (.sl [])
 |_=>none
def mD(r:bH):List AV→Option AV
 |[.sl es]=>(match wk (es.map wj) with
  |some ls=>if ls.length≤2^44∧ls.flatten.all (aG r.isAgg r.size)=true∧ls.flatten.length*r.bytes≤2^44∧ls.flatten.length≤2^44 then some (.sl ls.flatten) else none
  |none=>none)
 |[.lit (.slice none 0 0)]=>some (.sl [])
 |_=>none
theorem D3[ab]{C0:Ctx}(bN:C0.Ok){g:FuncId}{xs:List AV}{r:AV}
  (h0:∃ res gZ,kp C0 g [.sl xs] []=some (.val res,gZ)∧(aX 1000 res).run gZ=some r)
  (Ec:Env) (w:World) (vs:List Value) (hI:Inv Ec [] w) (ha:an Ec false [.sl xs] vs):Calls C0.P g vs.toArray w (bQ Ec w [] (.val r)):=by
 obtain⟨res,gZ,he,h⟩:=h0
 have out:(gg [.sl xs] gZ (.val res)).run []=some (.val r,[]):=by
  simp only[gg,h]
  split
  ·rfl
  ·simp[bR,names,cW,RM.run_bind,RM.run_pure]
 have ha2:an Ec true [.sl xs] vs:=by
  match vs,ha with
  |[],ha=>simp[an]at ha
  |_::_::_,ha=>simp[an]at ha
  |[v],ha=>
   simp only[an]at ha ⊢
   exact⟨aj.gO ha.1,trivial⟩
 obtain⟨k,hk⟩:=(bg (mo C0 g [.sl xs] [])).1 he
 have lE:(aK 1000 [.sl xs]).run []=some [.sl xs]:=rfl
 refine uu hI ha2 lE out fun Ec' ie Ov=>?_
 refine(sound bN k).1 g [.sl xs] [] _ _ hk Ec' w vs ie ?_
 match vs,Ov with
 |[],ha=>simp[an]at ha
 |_::_::_,ha=>simp[an]at ha
 |[v],ha=>
  simp only[an]at ha ⊢
  exact⟨aj.gO ha.1,trivial⟩
theorem It[ab]{C0:Ctx}(bN:C0.Ok){g:FuncId}{r:bH}
  (h1:∀ ls:List (List AV),ls.length≤2^44→(∀ l∈ls,l.all (aG r.isAgg r.size)=true)→ls.flatten.length*r.bytes≤2^44→ls.flatten.length≤2^44 →
    ∃ res gZ,kp C0 g [.sl (ls.map .sl)] []=some (.val res,gZ)∧(aX 1000 res).run gZ=some (.sl ls.flatten))
  {as:List AV} {a:AV} (h:mD r as=some a) (Ec:Env) (w:World) (vs:List Value) (hI:Inv Ec [] w) (ha:an Ec false as vs):Calls C0.P g vs.toArray w (bQ Ec w [] (.val a)):=by
 unfold mD at h
 split at h
 ·rename_i es
  split at h
  case h_2=>simp at h
  rename_i ls hls
  split at h
  case isFalse=>simp at h
  rename_i hc
  simp only[Option.some.injEq]at h
  subst h
  have he:=D2 hls
  refine D3 bN (xs:=ls.map .sl) (h1 ls hc.1 (fun l hl=>?_) hc.2.2.1 hc.2.2.2) Ec w vs hI ?_
  ·have:=hc.2.1
   rw[List.all_eq_true]at this ⊢
   exact fun x hx=>this x (List.mem_flatten.2 ⟨l,hl,hx⟩)
  ·rw[←he]
   match vs,ha with
   |[],ha=>simp[an]at ha
   |_::_::_,ha=>simp[an]at ha
   |[v],ha=>
    simp only[an]at ha ⊢
    exact⟨IA ha.1,trivial⟩
 ·simp only[Option.some.injEq]at h
  subst h
  refine D3 bN (xs:=[]) (h1 [] (by simp) (by simp) (by simp) (by simp)) Ec w vs hI ?_
  match vs,ha with
  |[],ha=>simp[an]at ha
  |_::_::_,ha=>simp[an]at ha
  |[v],ha=>
   simp only[an]at ha ⊢
   exact⟨AE ha.1,trivial⟩
 ·simp at h
end Go.PI
end
section
/- PS, part V: copies of lists and lists laid together, as models. -/
namespace Go.PI
def KB(b n:Nat):Bool:=decide (n*b≤2^44)&&decide (n≤2^44)
def tv{α:Type}(b:Nat)(x:List (List α)):Option (List α):=bif decide (x.length≤2^44)&&KB b x.flatten.length then some x.flatten else none
def Xr{α:Type}(rpe:α→AV→Prop)(x:List α)(a:AV):Prop:=(∃ l,a=.sl l∧aw rpe x l)∨(x=[]∧a=.lit cK)
theorem yK[ab]{α:Type}{rpe:α→AV→Prop}:∀ {x:List (List α)} {es:List AV},aw (Xr rpe) x es→∃ ls,wk (es.map wj)=some ls∧aw (aw rpe) x ls
 |[],es,h=>by
  have:=h.Da
  subst this
  exact⟨[],rfl,trivial⟩
 |x::xs,[],h=>by simp[aw]at h
 |x::xs,e::es,h=>by
  simp only[aw]at h
  obtain⟨h1,h2⟩:=h
  obtain⟨ls,h3,h4⟩:=yK h2
  rcases h1 with ⟨l,rfl,h⟩|⟨rfl,rfl⟩
  ·refine⟨l::ls,?_,h,h4⟩
   simp only[List.map_cons,wj,wk,h3,Option.map_some]
  ·refine⟨[]::ls,?_,trivial,h4⟩
   simp only[List.map_cons,wj,wk,h3,Option.map_some]
theorem tS[ab]{α:Type}{rpe:α→AV→Prop}:∀ {x:List (List α)} {ls:List (List AV)},aw (aw rpe) x ls→aw rpe x.flatten ls.flatten
 |[],ls,h=>by
  have:=h.Da
  subst this
  exact trivial
 |x::xs,[],h=>by simp[aw]at h
 |x::xs,e::es,h=>by
  simp only[aw]at h
  simp only[List.flatten_cons]
  exact h.1.append (tS h.2)
theorem FP[ab]{α:Type}{rpe:α→AV→Prop}{r:bH}(bN:∀ x a,rpe x a→aG r.isAgg r.size a=true){x:List (List α)}{y:List α}{a:AV}(ha:Xr (Xr rpe) x a)(hy:tv r.bytes x=some y):
  ∃ l,mD r [a]=some (.sl l)∧aw rpe y l:=by
 unfold tv KB at hy
 cases hq:decide (x.length≤2^44)&&(decide (x.flatten.length*r.bytes≤2^44)&&decide (x.flatten.length≤2^44))
 ·rw[hq]at hy; simp at hy
 rw[hq]at hy
 simp only[cond_true,Option.some.injEq]at hy
 subst hy
 simp only[Bool.and_eq_true,decide_eq_true_eq]at hq
 rcases ha with ⟨es,rfl,h⟩|⟨rfl,rfl⟩
 ·obtain⟨ls,h1,h2⟩:=yK h
  have h3:=tS h2
  rw[h3.length,h2.length]at hq
  refine⟨ls.flatten,?_,h3⟩
  unfold mD
  simp only
  rw[h1]
  simp only
  have bf:ls.flatten.all (aG r.isAgg r.size)=true:=by
   refine List.all_eq_true.2 fun z hz=>?_
   obtain⟨i,hi⟩:=List.getElem?_of_mem hz
   obtain⟨u,_,hu⟩:=h3.get' hi
   exact bN _ _ hu
  rw[if_pos ⟨hq.1,bf,hq.2.1,hq.2.2⟩]
 ·exact⟨[],rfl,trivial⟩
theorem FO[ab]{C:Ctx}{T:dk}{g:FuncId}{t u:Nat}{I:List AV→Option AV}{F:T.den t→Option (T.den u)}(hk:C.kind g=.pure)(hi:C.kn g=some I)
  (h:∀ x a y,T.rp t x a→F x=some y→∃ l,I [a]=some (.sl l)∧T.rp u y (.sl l)):p6 C T g ⟨[t],[u],F⟩ where
 kind:=hk
 Rh:=by
  intro x as y hx hy
  match as,hx with
  |[],hx=>exact False.elim hx
  |_::_::_,hx=>exact False.elim hx.2
  |[a],hx=>
   obtain⟨l,h1,h2⟩:=h x a y hx.1 hy
   refine⟨.sl l,[],[.sl l],?_,rfl,rfl,?_⟩
   ·simp only[Lh,hi,h1]; rfl
   ·exact⟨h2,trivial⟩
end Go.PI
end
section
/- PS, part W: a copy of a slice is the caller's own. -/
namespace Go.PI
end Go.PI
end
section
/- Plain laws: loops of models. -/
namespace Go.Pl
open Go.PI
theorem next[ab]{τ ω:Type}{f:τ→Option (τ ⊕ ω)}{x y:τ}(h:f x=some (.inl y)):aO f x=aO f y:=by
 rw[CQ,h]; rfl
theorem out[ab]{τ ω:Type}{f:τ→Option (τ ⊕ ω)}{x:τ}{w:ω}(h:f x=some (.inr w)):aO f x=some w:=by
 rw[CQ,h]; rfl
theorem xP(p:Nat→Bool)(n i:Nat)(hi:i<n):(List.range' i (n-i)).all p=(p i&&(List.range' (i+1) (n-(i+1))).all p):=by
 grind
theorem tq[ab]{τ ω:Type}{f:τ→Option (τ ⊕ ω)}(st:Nat→τ)(p:Nat→Bool)(bad:Nat→ω)(n:Nat)(e:ω)
  (h:∀ i,i<n→f (st i)=some (bif p i then .inl (st (i+1)) else .inr (bad i))) (he:f (st n)=some (.inr e)) :
  (List.range n).all p=true∧aO f (st 0)=some e∨(List.range n).all p=false∧∃ i,i<n∧p i=false∧aO f (st 0)=some (bad i):=by
 have key:∀ m i,m=n-i→i≤n→(List.range' i (n-i)).all p=true∧aO f (st i)=some e∨(List.range' i (n-i)).all p=false∧∃ j,j<n∧p j=false∧aO f (st i)=some (bad j):=by
  intro m
  induction m with
  |zero=>
   intro i hm hi
   have:i=n:=by omega
   subst this
   left
   rw[Nat.sub_self]
   exact⟨rfl,out he⟩
  |succ m ih=>
   intro i hm hi
   have cd:i<n:=by omega
   have hs:=h i cd
   rw[xP p n i cd]
   cases hp:p i with
   |false=>
    rw[hp]at hs
    right
    exact⟨by simp,i,cd,hp,out hs⟩
   |true=>
    rw[hp]at hs
    rw[next hs]
    simpa using ih (i+1) (by omega) (by omega)
 have:=key n 0 rfl (Nat.zero_le _)
 rwa [Nat.sub_zero,←List.range_eq_range']at this
theorem z8{α:Type}{l:List α}{q:α→Bool}{p:Nat→Bool}(h:∀ i (hi:i<l.length),p i=q l[i]):(List.range l.length).all p=l.all q:=by
 rw[Bool.eq_iff_iff,List.all_eq_true,List.all_eq_true]
 constructor
 ·intro hp x hx
  obtain⟨i,hi,rfl⟩:=List.getElem_of_mem hx
  rw[←h i hi]; exact hp i (List.mem_range.2 hi)
 ·simp_all
theorem uD[ab]{α τ ω:Type}{f:τ→Option (τ ⊕ ω)}(l:List α)(st:Nat→τ)(q:α→Bool)(bad e:ω){x0:τ}
  (h:∀ i (hi:i<l.length),f (st i)=some (bif q l[i] then .inl (st (i+1)) else .inr bad)) (he:f (st l.length)=some (.inr e)) (hx:x0=st 0) :
  aO f x0=some (bif l.all q then e else bad):=by
 subst hx
 have hp:∀ i (hi:i<l.length),(fun i=>(l[i]?.map q).getD false) i=q l[i]:=by
  simp_all
 rcases tq st (fun i=>(l[i]?.map q).getD false) (fun _=>bad) l.length e (fun i hi=>by have:=hp i hi; simp only at this; rw[this]; exact h i hi) he with ⟨h1,h2⟩|⟨h1,i,_,_,h2⟩
 ·rw[z8 hp]at h1; rw[h2,h1]; rfl
 ·rw[z8 hp]at h1; rw[h2,h1]; rfl
end Go.Pl
end
section
/- The types of this seat, as Lean's (printed by gen_tys.py out of the dump). -/
namespace Go.Proofs.Ytedjbjphpnkpoaa
open Go.PI
instance:ab:=⟨fun _=>none,fun _=>false⟩
structure dP where
 A:Bool
 N:Int
structure bJ where
 ay:List Int
 af:List (List Int)
 aC:List Int
structure ak where
 du:Int
 Den:Int
structure cf where
 Net:bJ
 CV:List Bool
 CW:List ak
def den:Nat→Type
 |2=>Int
 |3=>Int
 |4=>Bool
 |5=>Int
 |9=>ByteArray
 |22=>List Int
 |23=>List (List Int)
 |24=>bJ
 |25=>bJ
 |26=>List ak
 |29=>Int
 |34=>ak
 |35=>ak
 |36=>List Int
 |53=>List Bool
 |54=>cf
 |55=>cf
 |56=>List dP
 |57=>Int
 |58=>Int
 |73=>Int
 |78=>Int
 |81=>dP
 |82=>dP
 |86=>ak
 |87=>ak
 |96=>Int
 |104=>Int
 |106=>Int
 |115=>Int
 |52=>cf
 |_=>Unit
abbrev V:=SV den
def up2(x:Int):V:=.lit (.int .i64 x)
def dn2(v:V):Option Int:=dI .i64 v
def rp2(x:Int)(a:AV):Prop:=a=.lit (.int .i64 x)
def Th(x:Int):V:=.lit (.int .i64 x)
def Mz(v:V):Option Int:=dI .i64 v
def My(x:Int)(a:AV):Prop:=a=.lit (.int .i64 x)
def up4(x:Bool):V:=.lit (.bool x)
def Yw(v:V):Option Bool:=dB v
def Yx(x:Bool)(a:AV):Prop:=a=.lit (.bool x)
def up5(x:Int):V:=.lit (.int .u8 x)
def dn5(v:V):Option Int:=dI .u8 v
def rp5(x:Int)(a:AV):Prop:=a=.lit (.int .u8 x)
def up9(x:ByteArray):V:=.lit (.string x)
def dn9(v:V):Option ByteArray:=dS v
def rp9(x:ByteArray)(a:AV):Prop:=a=.lit (.string x)
def WT(x:List Int):V:=.jd 3 x
def Ix(v:V):Option (List Int):=OU (den:=den) 3 Mz v
def DY(x:List Int)(a:AV):Prop:=NN My x a
def WU(x:List (List Int)):V:=.jd 22 x
def QP(v:V):Option (List (List Int)):=OU (den:=den) 22 Ix v
def Ob(x:List (List Int))(a:AV):Prop:=NN DY x a
def Oc(x:bJ):V:=.agg [.jd 3 x.ay,.jd 22 x.af,.jd 3 x.aC]
def Od:V→Option bJ
 |.agg [a0,a1,a2]=>(Ix a0).bind fun b0=>(QP a1).bind fun b1=>(Ix a2).bind fun b2=>some ⟨b0,b1,b2⟩
 |_=>none
def Iy(x:bJ)(a:AV):Prop:=∃ a0 a1 a2,DY x.ay a0∧Ob x.af a1∧DY x.aC a2∧a=.agg [a0,a1,a2]
def Oe(x:ak):V:=.agg [.lit (.int .i64 x.du),.lit (.int .i64 x.Den)]
def LH:V→Option ak
 |.agg [a0,a1]=>(Mz a0).bind fun b0=>(Mz a1).bind fun b1=>some ⟨b0,b1⟩
 |_=>none
def DZ(x:ak)(a:AV):Prop:=a=.agg [.lit (.int .i64 x.du),.lit (.int .i64 x.Den)]
def WV(x:List ak):V:=.jd 35 x
def Ti(v:V):Option (List ak):=OU (den:=den) 35 LH v
def Tj(x:List ak)(a:AV):Prop:=NN DZ x a
def WW(x:Int):V:=.lit (.int .u16 x)
def Tk(v:V):Option Int:=dI .u16 v
def Tl(x:Int)(a:AV):Prop:=a=.lit (.int .u16 x)
def WX(x:List Int):V:=.jd 73 x
def WY(v:V):Option (List Int):=OU (den:=den) 73 Tk v
def WZ(x:List Int)(a:AV):Prop:=NN Tl x a
def W0(x:List Bool):V:=.jd 4 x
def Tm(v:V):Option (List Bool):=OU (den:=den) 4 Yw v
def Tn(x:List Bool)(a:AV):Prop:=NN Yx x a
def LI(x:cf):V:=.agg [.jd 3 x.Net.ay,.jd 22 x.Net.af,.jd 3 x.Net.aC,.jd 4 x.CV,.jd 35 x.CW]
def LJ:V→Option cf
 |.agg [a0,a1,a2,a3,a4]=>(Ix a0).bind fun b0=>(QP a1).bind fun b1=>(Ix a2).bind fun b2=>(Tm a3).bind fun b3=>(Ti a4).bind fun b4=>some ⟨⟨b0,b1,b2⟩,b3,b4⟩
 |_=>none
def Iz(x:cf)(a:AV):Prop:=∃ a0 a1 a2 a3 a4,DY x.Net.ay a0∧Ob x.Net.af a1∧DY x.Net.aC a2∧Tn x.CV a3∧Tj x.CW a4∧a=.agg [a0,a1,a2,a3,a4]
def Of(x:dP):V:=bif x.A then .fL 57 (.lit (.int .i64 x.N)) else .fL 58 (.lit (.int .i64 x.N))
def LK(v:V):Option dP:=match v with
 |.fL t w=>(dI .i64 w).bind fun n=>bif Nat.beq t 57 then some ⟨true,n⟩ else bif Nat.beq t 58 then some ⟨false,n⟩ else none
 |_=>none
def D0(x:dP)(a:AV):Prop:=a=.fL (bif x.A then 57 else 58) (.lit (.int .i64 x.N))
def W1(x:List dP):V:=.jd 82 x
def W2(v:V):Option (List dP):=OU (den:=den) 82 LK v
def W3(x:List dP)(a:AV):Prop:=NN D0 x a
def W4(x:Int):V:=.lit (.int .u64 x)
def W5(v:V):Option Int:=dI .u64 v
def W6(x:Int)(a:AV):Prop:=a=.lit (.int .u64 x)
def Og(x:ak):V:=.agg [.lit (.int .i64 x.du),.lit (.int .i64 x.Den)]
def Oh:V→Option ak
 |.agg [a0,a1]=>(Mz a0).bind fun b0=>(Mz a1).bind fun b1=>some ⟨b0,b1⟩
 |_=>none
def FU(x:ak)(a:AV):Prop:=a=.agg [.lit (.int .i64 x.du),.lit (.int .i64 x.Den)]
def To(x:Int):V:=.lit (.int .u32 x)
def Tp(v:V):Option Int:=dI .u32 v
def Tq(x:Int)(a:AV):Prop:=a=.lit (.int .u32 x)
def Pb(x:Int):V:=.lit (.int .u64 x)
def Pc(v:V):Option Int:=dI .u64 v
def Pd(x:Int)(a:AV):Prop:=a=.lit (.int .u64 x)
def W7(x:cf):V:=.bc (LI x) 0
def W8(v:V):Option cf:=VO LJ v
def W9(x:cf)(a:AV):Prop:=Uo Iz x a
def up:(t:Nat)→den t→V
 |2,x=>up2 x
 |3,x=>Th x
 |4,x=>up4 x
 |5,x=>up5 x
 |9,x=>up9 x
 |22,x=>WT x
 |23,x=>WU x
 |24,x=>Oc x
 |25,x=>Oc x
 |26,x=>WV x
 |29,x=>Th x
 |34,x=>Oe x
 |35,x=>Oe x
 |36,x=>WX x
 |53,x=>W0 x
 |54,x=>LI x
 |55,x=>LI x
 |56,x=>W1 x
 |57,x=>Th x
 |58,x=>Th x
 |73,x=>WW x
 |78,x=>W4 x
 |81,x=>Of x
 |82,x=>Of x
 |86,x=>Og x
 |87,x=>Og x
 |96,x=>Th x
 |104,x=>To x
 |106,x=>Pb x
 |115,x=>Pb x
 |52,x=>W7 x
 |_,_=>.dead
def dn:(t:Nat)→V→Option (den t)
 |2,v=>dn2 v
 |3,v=>Mz v
 |4,v=>Yw v
 |5,v=>dn5 v
 |9,v=>dn9 v
 |22,v=>Ix v
 |23,v=>QP v
 |24,v=>Od v
 |25,v=>Od v
 |26,v=>Ti v
 |29,v=>Mz v
 |34,v=>LH v
 |35,v=>LH v
 |36,v=>WY v
 |53,v=>Tm v
 |54,v=>LJ v
 |55,v=>LJ v
 |56,v=>W2 v
 |57,v=>Mz v
 |58,v=>Mz v
 |73,v=>Tk v
 |78,v=>W5 v
 |81,v=>LK v
 |82,v=>LK v
 |86,v=>Oh v
 |87,v=>Oh v
 |96,v=>Mz v
 |104,v=>Tp v
 |106,v=>Pc v
 |115,v=>Pc v
 |52,v=>W8 v
 |_,_=>none
def rp:(t:Nat)→den t→AV→Prop
 |2,x,a=>rp2 x a
 |3,x,a=>My x a
 |4,x,a=>Yx x a
 |5,x,a=>rp5 x a
 |9,x,a=>rp9 x a
 |22,x,a=>DY x a
 |23,x,a=>Ob x a
 |24,x,a=>Iy x a
 |25,x,a=>Iy x a
 |26,x,a=>Tj x a
 |29,x,a=>My x a
 |34,x,a=>DZ x a
 |35,x,a=>DZ x a
 |36,x,a=>WZ x a
 |53,x,a=>Tn x a
 |54,x,a=>Iz x a
 |55,x,a=>Iz x a
 |56,x,a=>W3 x a
 |57,x,a=>My x a
 |58,x,a=>My x a
 |73,x,a=>Tl x a
 |78,x,a=>W6 x a
 |81,x,a=>D0 x a
 |82,x,a=>D0 x a
 |86,x,a=>FU x a
 |87,x,a=>FU x a
 |96,x,a=>My x a
 |104,x,a=>Tq x a
 |106,x,a=>Pd x a
 |115,x,a=>Pd x a
 |52,x,a=>W9 x a
 |_,_,_=>False
def Ts:Nat→Bool
 |24=>true
 |25=>true
 |34=>true
 |35=>true
 |54=>true
 |55=>true
 |86=>true
 |87=>true
 |_=>false
def Pe:Nat→Nat
 |24=>3
 |25=>3
 |34=>2
 |35=>2
 |54=>5
 |55=>5
 |86=>2
 |87=>2
 |_=>1
def Pf:(t:Nat)→Option (den t)
 |2=>some (0:Int)
 |3=>some (0:Int)
 |4=>some (false:Bool)
 |5=>some (0:Int)
 |9=>some (ByteArray.empty:ByteArray)
 |22=>some ([]:List Int)
 |23=>some ([]:List (List Int))
 |24=>some (⟨[],[],[]⟩:bJ)
 |25=>some (⟨[],[],[]⟩:bJ)
 |26=>some ([]:List ak)
 |29=>some (0:Int)
 |34=>some (⟨0,0⟩:ak)
 |35=>some (⟨0,0⟩:ak)
 |36=>some ([]:List Int)
 |53=>some ([]:List Bool)
 |54=>some (⟨⟨[],[],[]⟩,[],[]⟩:cf)
 |55=>some (⟨⟨[],[],[]⟩,[],[]⟩:cf)
 |56=>some ([]:List dP)
 |57=>some (0:Int)
 |58=>some (0:Int)
 |73=>some (0:Int)
 |78=>some (0:Int)
 |86=>some (⟨0,0⟩:ak)
 |87=>some (⟨0,0⟩:ak)
 |96=>some (0:Int)
 |104=>some (0:Int)
 |106=>some (0:Int)
 |115=>some (0:Int)
 |_=>none
def m5:jU:=⟨false,1,1,some (.lit (.int .u8 0)),.other,none,none⟩
def m7:jU:=⟨true,4,24,some (.agg [zI,zI,zB,.lit (.int .u8 0)]),.struct [(0,2),(1,3),(2,4),(3,6)],none,none⟩
def UG:jU:=⟨false,1,8,some (.lit (.int .u64 0)),.other,none,none⟩
def Yy:jU:=⟨true,2,24,some (.agg [zS,.lit (.int .u64 0)]),.struct [(0,9),(1,12)],none,none⟩
def Yz:jU:=⟨true,1,8,some (.agg [.lit (.pointer none)]),.struct [(0,17)],none,none⟩
def Xa:jU:=⟨false,1,16,some (.lit .nilIface),.iface,none,none⟩
def Xb:jU:=⟨false,1,4,some (.lit (.int .i32 0)),.other,none,none⟩
def YA:jU:=⟨true,3,72,some (.agg [zL,zL,zL]),.struct [(0,22),(1,23),(2,22)],none,none⟩
def YB:jU:=⟨true,2,16,some (.agg [zI,zI]),.struct [(0,3),(1,3)],some [kI,kI],none⟩
def YC:jU:=⟨true,5,120,some (.agg [zL,zL,zL,zL,zL]),.struct [(0,25),(3,53),(4,26)],none,none⟩
def YD:jU:=⟨true,2,16,some (.agg [zI,zI]),.struct [(0,35)],some [kI,kI],none⟩
def Tt:jU:=⟨true,4,40,some (.agg [.lit (.pointer none),.lit (.pointer none),.lit (.pointer none),zS]),.struct [(0,17),(1,17),(2,17),(3,9)],none,none⟩
def Tu:jU:=⟨true,11,48,some (.agg [.lit (.int .u64 0),.lit (.int .u64 0),.lit (.int .u32 0),.lit (.int .u8 0),.lit (.int .u8 0),.lit (.int .u8 0),.lit (.int .u8 0),zF,.lit (.pointer none),.lit (.int .i32 0),.lit (.int .i32 0)]),.struct [(0,12),(1,12),(2,104),(3,135),(4,5),(5,5),(6,136),(7,137),(8,138),(9,139),(10,140)],none,none⟩
def Bz:List (Nat×jU):=[
 (1,mF),
 (2,mI),
 (3,mI),
 (4,⟨false,1,1,some zB,.other,none,none⟩),
 (5,m5),
 (6,m5),
 (7,m7),
 (8,m7),
 (9,mS),
 (10,mS),
 (11,mS),
 (12,UG),
 (13,Yy),
 (14,Yy),
 (15,mP),
 (16,mP),
 (17,mP),
 (18,Yz),
 (19,Yz),
 (20,Xa),
 (21,Xb),
 (22,mL 3),
 (23,mL 22),
 (24,YA),
 (25,YA),
 (26,mL 35),
 (27,mF),
 (28,mF),
 (29,mI),
 (31,mF),
 (32,mF),
 (33,mF),
 (34,YB),
 (35,YB),
 (36,mL 73),
 (37,mF),
 (38,mF),
 (40,mF),
 (41,mF),
 (42,mF),
 (44,mF),
 (45,mF),
 (46,mF),
 (47,mF),
 (48,mF),
 (49,mF),
 (50,mF),
 (51,mF),
 (52,mP),
 (53,mL 4),
 (54,YC),
 (55,YC),
 (56,mL 82),
 (57,mI),
 (58,mI),
 (59,mF),
 (60,mF),
 (62,mF),
 (63,mF),
 (64,mF),
 (65,mF),
 (66,mF),
 (67,mF),
 (68,mF),
 (69,mF),
 (70,mF),
 (71,mF),
 (72,mF),
 (73,⟨false,1,2,some (.lit (.int .u16 0)),.other,none,none⟩),
 (75,mF),
 (76,mF),
 (77,mF),
 (78,UG),
 (79,mF),
 (80,mF),
 (81,Xa),
 (82,Xa),
 (83,mF),
 (84,mF),
 (85,mF),
 (86,YD),
 (87,YD),
 (88,mF),
 (89,mF),
 (90,mF),
 (91,mF),
 (92,mF),
 (93,mF),
 (94,mF),
 (95,mF),
 (96,mI),
 (98,mF),
 (99,mF),
 (100,mF),
 (102,mF),
 (103,mF),
 (104,⟨false,1,4,some (.lit (.int .u32 0)),.other,none,none⟩),
 (105,mF),
 (106,UG),
 (107,mF),
 (108,mF),
 (109,mF),
 (110,mF),
 (111,mF),
 (112,mF),
 (113,mF),
 (114,mF),
 (115,UG),
 (116,mF),
 (117,mF),
 (118,mF),
 (119,mP),
 (120,mF),
 (121,mF),
 (122,mF),
 (124,mF),
 (125,mP),
 (126,mF),
 (127,mF),
 (128,mF),
 (129,Tt),
 (130,Tt),
 (134,mF),
 (135,m5),
 (136,m5),
 (137,mF),
 (138,mP),
 (139,Xb),
 (140,Xb),
 (141,Tu),
 (142,Tu)]
def QQ:(t:Nat)→Option ((den t→Bool)×(den t→V)×(den t→V))
 |81=>some (fun (x:dP)=>x.A,fun (x:dP)=>.fL 57 (.lit (.int .i64 x.N)),fun (x:dP)=>.fL 58 (.lit (.int .i64 x.N)))
 |82=>some (fun (x:dP)=>x.A,fun (x:dP)=>.fL 57 (.lit (.int .i64 x.N)),fun (x:dP)=>.fL 58 (.lit (.int .i64 x.N)))
 |_=>none
abbrev T:dk:=⟨den,up,dn,rp,Ts,Pe,Pf,QQ⟩
end Go.Proofs.Ytedjbjphpnkpoaa
end
