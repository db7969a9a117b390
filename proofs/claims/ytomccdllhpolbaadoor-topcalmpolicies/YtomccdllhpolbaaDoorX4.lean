/- Part 4 of the proof: texts of this session laid one behind the other. -/
import Derived.KernelRfl
import Derived.IntWalk
import Derived.Test.YtomccdllhpolbaaDoorX3
set_option linter.unusedVariables false
set_option linter.unusedSimpArgs false
section
/- PS, part N: states with variables. -/
namespace Go.PI
variable {T:Tys}{ρ:Type}
def curAt{den:Nat→Type}(H:SHeap den)(n:Nat):Option Nat:=
 match H[n]? with
 |some (some o)=>some o.cur
 |_=>none
theorem curAt_some{den:Nat→Type}{H:SHeap den}{n:Nat}{o:SObj den}(h:H[n]?=some (some o)):curAt H n=some o.cur:=by simp[curAt,h]
theorem curAt_obj{den:Nat→Type}{H:SHeap den}{n c:Nat}(h:curAt H n=some c):∃ o,H[n]?=some (some o)∧o.cur=c:=by
 grind[curAt]
def LenTo{den:Nat→Type}(ok:Nat→Prop)(Hs Hf:SHeap den):Prop:=∀ (n:Nat) (o:SObj den),ok n→Hs[n]?=some (some o)→∃ of:SObj den,Hf[n]?=some (some of)∧of.len=o.len
section
variable {Hs Hf Hc:SHeap T.den}{ok:Nat→Prop}
theorem R_int{H:SHeap T.den}{v:SV T.den}{k:IntKind}{m:Int}(h:R T H v (.lit (.int k m))):v=.lit (.int k m):=by
 cases v with
 |lit w=>simp_all[R,AV.lit.injEq]
 |osl esz n c rg cap=>
  grind[R]
 |xat v st ln i=>
  simp only[R]at h
  obtain⟨_,_,_,h⟩:=h
  rcases h with ⟨_,_,_,_,_,h⟩|⟨_,_,_,h⟩<;>cases h
 |_=>simp[R]at h
theorem num_ok[Glob](hT:T.Ok){H:SHeap T.den}{t m:Nat}{x:T.den t}(h:T.dn t (.lit (.int .i64 m))=some x):numV T ⟨.v t,x⟩=m:=by
 have h1:=hT.dn _ _ _ (.lit (.int .i64 m)) H h (by simp[R])
 have h2:=R_int (hT.up _ _ _ H h1)
 show (match T.up t x with|.lit (.int _ m)=>m.toNat|_=>0)=m
 rw[h2]
 simp
theorem concPat_ok[Glob](hT:T.Ok)(hcur:∀ n,curAt Hc n=curAt Hf n)(hlen:LenTo ok Hs Hf){p:Pat}(hok:∀ n,n∈p.owns→ok n){v:SV T.den}{a:AV}(hv:RV T Hs v a){ln:List (TV T.den)}(h:absPat Hs p v=some ln)(rest:List (TV T.den)):
  ∃ v',concPat Hc p (ln++rest)=(v',rest)∧R T Hf v' a∧(closedS v=true→closedS v'=true):=by
 cases p with
 |hole=>
  simp only[absPat]at h
  split at h
  case h_2=>simp at h
  rename_i hh
  simp only[Option.some.injEq]at h
  subst h
  unfold isHole at hh
  split at hh
  case h_2=>simp at hh
  have hv:=hv.live rfl
  simp only[R]at hv
  subst hv
  exact⟨.hole,rfl,by simp[R],fun h=>h⟩
 |val t=>
  simp only[absPat]at h
  split at h
  ·simp at h
  rename_i hd
  split at h
  case h_2=>simp at h
  rename_i x hx
  simp only[Option.some.injEq]at h
  subst h
  have hrp:=hT.dn _ _ _ _ Hs hx (hv.live hd)
  exact⟨T.up t x,rfl,hT.up _ _ _ Hf hrp,fun _=>up_closed hT hrp⟩
 |ofix esz n rg cap=>
  simp only[absPat]at h
  split at h
  case h_2=>simp at h
  rename_i esz' n' c rg' cap'
  have hv:=hv.live rfl
  split at h
  case h_2=>simp at h
  rename_i o ho
  split at h
  case isFalse=>simp at h
  rename_i hc
  obtain⟨rfl,rfl,rfl,rfl,rfl⟩:=hc
  simp only[Option.some.injEq]at h
  subst h
  obtain⟨of,hof,hofl⟩:=hlen _ _ (hok _ (by simp[Pat.owns])) ho
  have hcc:=hcur n'
  rw[curAt_some hof]at hcc
  obtain⟨oc,hoc,hocc⟩:=curAt_obj hcc
  refine⟨.osl esz' n' oc.cur rg' cap',?_,?_,fun h=>by simp[closedS]at h⟩
  ·simp only[concPat,hoc,List.nil_append]
  ·simp only[R]at hv ⊢
   obtain⟨ver,⟨o',h1,_,h3⟩,ha⟩:=hv
   rw[ho]at h1
   simp only[Option.some.injEq]at h1
   subst h1
   exact⟨ver,⟨of,hof,by omega,fun _=>by rw[h3 rfl,hofl]⟩,ha⟩
 |asl n i j len cap=>
  simp only[absPat]at h
  split at h
  case h_2=>simp at h
  rename_i n' c i' j' len' cap'
  have hv:=hv.live rfl
  split at h
  case h_2=>simp at h
  rename_i o ho
  split at h
  case isFalse=>simp at h
  rename_i hc
  obtain⟨rfl,rfl,rfl,rfl,rfl,rfl⟩:=hc
  simp only[Option.some.injEq]at h
  subst h
  obtain⟨of,hof,hofl⟩:=hlen _ _ (hok _ (by simp[Pat.owns])) ho
  have hcc:=hcur n'
  rw[curAt_some hof]at hcc
  obtain⟨oc,hoc,hocc⟩:=curAt_obj hcc
  refine⟨.asl n' oc.cur i' j' len' cap',?_,?_,fun h=>by simp[closedS]at h⟩
  ·simp only[concPat,hoc,List.nil_append]
  ·simp only[R]at hv ⊢
   obtain⟨ver,ha,⟨o',h1,_,h3⟩⟩:=hv
   rw[ho]at h1
   simp only[Option.some.injEq]at h1
   subst h1
   exact⟨ver,ha,⟨of,hof,by omega,fun _=>by rw[h3 rfl,hofl]⟩⟩
 |own esz n=>
  simp only[absPat]at h
  split at h
  case h_2=>simp at h
  rename_i esz' n' c
  have hv:=hv.live rfl
  split at h
  case h_2=>simp at h
  rename_i o ho
  split at h
  case isFalse=>simp at h
  rename_i hc
  obtain⟨rfl,rfl,rfl⟩:=hc
  simp only[Option.some.injEq]at h
  subst h
  obtain⟨of,hof,hofl⟩:=hlen _ _ (hok _ (by simp[Pat.owns])) ho
  have hcc:=hcur n'
  rw[curAt_some hof]at hcc
  obtain⟨oc,hoc,hocc⟩:=curAt_obj hcc
  refine⟨.osl esz' n' oc.cur none none,?_,?_,fun h=>by simp[closedS]at h⟩
  ·simp only[concPat,hoc,List.nil_append]
  ·simp only[R]at hv ⊢
   obtain⟨ver,⟨o',h1,_,h3⟩,rfl⟩:=hv
   rw[ho]at h1
   simp only[Option.some.injEq]at h1
   subst h1
   exact⟨ver,⟨of,hof,by omega,fun _=>by rw[h3 rfl,hofl]⟩,rfl⟩
 |rng esz n t k=>
  simp only[absPat]at h
  split at h
  case h_2=>simp at h
  rename_i esz' n' c rg cap
  have hv:=hv.live rfl
  split at h
  case h_2=>simp at h
  rename_i o off len ho hr
  split at h
  case isFalse=>simp at h
  rename_i hc
  obtain⟨rfl,rfl,rfl⟩:=hc
  obtain⟨of,hof,hofl⟩:=hlen _ _ (hok _ (by simp[Pat.owns])) ho
  have hcc:=hcur n'
  rw[curAt_some hof]at hcc
  obtain⟨oc,hoc,hocc⟩:=curAt_obj hcc
  have hR:R T Hf (.osl esz' n' oc.cur (some (off,len)) cap) a:=by
   simp only[R]at hv ⊢
   obtain⟨ver,⟨o',h1,_,h3⟩,ha⟩:=hv
   rw[ho]at h1
   simp only[Option.some.injEq]at h1
   subst h1
   refine⟨ver,⟨of,hof,by omega,fun _=>by rw[h3 rfl,hofl]⟩,?_⟩
   cases rg with
   |some q=>
    simp_all[rangeS]
   |none=>
    have hb:Nat.beq o.cur o.cur=true:=by simp
    simp only[rangeS,ho,hb,if_true,Option.some.injEq,Prod.mk.injEq]at hr
    obtain⟨rfl,rfl⟩:=hr
    rw[←h3 rfl]
    exact ha
  rw[Option.bind_eq_some_iff]at h
  obtain⟨x,hx,h⟩:=h
  rw[Option.bind_eq_some_iff]at h
  obtain⟨y,hy,h⟩:=h
  have ex:=num_ok hT (H:=Hs) hx
  have ey:=num_ok hT (H:=Hs) hy
  split at h
  ·simp only[Option.some.injEq]at h
   subst h
   exact⟨_,by simp only[concPat,List.cons_append,List.nil_append,hoc,ex,ey],hR,fun h=>by simp[closedS]at h⟩
  ·obtain⟨z,hz,hl⟩:∃ z,T.dn t (.lit (.int .i64 _))=some z∧_=ln:=Option.map_eq_some_iff.1 h
   subst hl
   have ez:=num_ok hT (H:=Hs) hz
   exact⟨_,by simp only[concPat,List.cons_append,List.nil_append,hoc,ex,ey,ez],hR,fun h=>by simp[closedS]at h⟩
  ·simp at h
theorem concPats_ok[Glob](hT:T.Ok)(hcur:∀ n,curAt Hc n=curAt Hf n)(hlen:LenTo ok Hs Hf):∀ {ps:List Pat} {vs:List (SV T.den)} {as:List AV} {ln:List (TV T.den)},(∀ n,n∈ps.flatMap Pat.owns→ok n)→RL T Hs vs as→absPats Hs ps vs=some ln→∀ rest:List (TV T.den),
  ∃ vs',concPats Hc ps (ln++rest)=(vs',rest)∧RL T Hf vs' as∧(closedLS vs=true→closedLS vs'=true)
 |[],[],[],ln,_,_,h,rest=>by
  simp only[absPats,Option.some.injEq]at h
  subst h
  exact⟨[],rfl,by simp[RL],fun _=>rfl⟩
 |p::ps,v::vs,a::as,ln,hok,hr,h,rest=>by
  simp only[RL]at hr
  simp only[absPats,Option.bind_eq_some_iff,Option.map_eq_some_iff]at h
  obtain⟨l1,h1,l2,h2,rfl⟩:=h
  obtain⟨v',e1,e2,e3⟩:=concPat_ok hT hcur hlen (fun n hn=>hok n (by simp[hn])) (.inr hr.1) h1 (l2++rest)
  obtain⟨vs',g1,g2,g3⟩:=concPats_ok hT hcur hlen (fun n hn=>hok n (by simp only[List.flatMap_cons,List.mem_append]; exact .inr hn)) hr.2 h2 rest
  refine⟨v'::vs',?_,by simp only[RL]; exact⟨e2,g2⟩,fun hc=>?_⟩
  ·simp_all[concPats]
  ·simp_all[closedLS]
 |[],_::_,_,_,_,_,h,_=>by simp[absPats]at h
 |_::_,[],_,_,_,_,h,_=>by simp[absPats]at h
 |_,[],_::_,_,_,h,_,_=>by simp[RL]at h
 |_,_::_,[],_,_,h,_,_=>by simp[RL]at h
end
def Compat{T:Tys}(o:SObj T.den):OPat→Prop
 |.list t=>∃ g f c l,o=.tarr g f c t l
 |.fix t=>∃ g f c l,o=.tarr g f c t l
 |.one _=>∃ g cl f c es,o=.arr g cl f c es
 |.agg _=>∃ g cl f c es,o=.arr g cl f c es
 |.map kk t=>∃ m,o=.tmap kk t m
section
variable {Hs Hf Hc:SHeap T.den}{ok:Nat→Prop}
theorem list_abs[Glob](hT:T.Ok){os:SObj T.den}{t:Nat}{ln:List (TV T.den)}(h:absObj Hs os (.list t)=some ln∨absObj Hs os (.fix t)=some ln):
  ∃ l:List (T.den t),ln=[⟨.l t,l⟩]∧l.length=os.len∧os.flags.2.1=true∧∀ a,RO T Hs os a→∃ es,a=.arr os.flags.1 true os.flags.2.2 es∧All2 (T.rp t) l es:=by
 have h2:absObj Hs os (.list t)=some ln:=h.elim id id
 clear h
 have h:=h2
 clear h2
 unfold absObj at h
 simp only at h
 split at h
 ·rename_i g f c t' l
  split at h
  case isFalse=>simp at h
  rename_i ht
  subst ht
  refine⟨l,(Option.some.inj h).symm,rfl,rfl,fun a ha=>?_⟩
  obtain⟨es,rfl,hes⟩:=ha
  exact⟨es,rfl,hes⟩
 ·rename_i g f c es
  cases hd:dnAll T t es with
  |none=>rw[hd]at h; cases h
  |some l=>
   rw[hd]at h
   refine⟨l,(Option.some.inj h).symm,?_,rfl,fun a ha=>?_⟩
   ·have:∀ {l:List (T.den t)} {es:List (SV T.den)},dnAll T t es=some l→l.length=es.length:=by
     intro l es
     induction es generalizing l with
     |nil=>simp_all[dnAll]
     |cons x xs ih=>
      intro h
      simp only[dnAll,Option.bind_eq_some_iff,Option.map_eq_some_iff]at h
      obtain⟨_,_,y,hy,rfl⟩:=h
      simp[ih hy]
    exact this hd
   ·obtain⟨es',rfl,hes,_⟩:=ha
    exact⟨es',rfl,dnAll_ok hT hes hd⟩
 ·simp at h
theorem map_abs{os:SObj T.den}{kk:KK}{t:Nat}{ln:List (TV T.den)}(h:absObj Hs os (.map kk t)=some ln):∃ m,os=.tmap kk t m∧ln=[⟨.m kk t,m⟩]:=by
 unfold absObj at h
 simp only at h
 split at h
 case h_2=>simp at h
 rename_i kk' t' m
 split at h
 case isFalse=>simp at h
 rename_i hc
 obtain⟨rfl,rfl⟩:=hc
 exact⟨m,rfl,(Option.some.inj h).symm⟩
theorem concObj_shape[Glob](hT:T.Ok){o os:SObj T.den}{p:OPat}(hc:Compat o p){ln:List (TV T.den)}(h:absObj Hs os p=some ln)(rest:List (TV T.den))
  (hp:∀ q (v:SV T.den) l,absPat Hs q v=some l→∀ rest,(concPat Hc q (l++rest)).2=rest) :
  ∃ o',concObj Hc o p (ln++rest)=(o',rest)∧o'.cur=o.cur∧o'.len=os.len:=by
 have hps:∀ (ps:List Pat) (vs:List (SV T.den)) l,absPats Hs ps vs=some l→∀ rest,(concPats Hc ps (l++rest)).2=rest:=by
  intro ps
  induction ps with
  |nil=>
   intro vs l hl rest
   cases vs with
   |nil=>simp[absPats]at hl; subst hl; rfl
   |cons=>simp[absPats]at hl
  |cons q ps ih=>
   intro vs l hl rest
   cases vs with
   |nil=>simp[absPats]at hl
   |cons v vs=>
    simp only[absPats,Option.bind_eq_some_iff,Option.map_eq_some_iff]at hl
    obtain⟨l1,h1,l2,h2,rfl⟩:=hl
    have e1:=hp q v l1 h1 (l2++rest)
    have e2:=ih vs l2 h2 rest
    simp only[concPats,List.append_assoc]
    rw[e1]
    exact e2
 cases p with
 |list t=>
  obtain⟨g,f,c,l0,rfl⟩:=hc
  obtain⟨l,rfl,hl,_⟩:=list_abs hT (.inl h)
  exact⟨.tarr g f c t l,rfl,rfl,hl⟩
 |fix t=>
  obtain⟨g,f,c,l0,rfl⟩:=hc
  obtain⟨l,rfl,hl,_⟩:=list_abs hT (.inr h)
  exact⟨.tarr g f c t l,rfl,rfl,hl⟩
 |one q=>
  obtain⟨g,cl,f,c,es,rfl⟩:=hc
  simp only[absObj]at h
  split at h
  case h_2=>simp at h
  rename_i v
  have e:=hp q v ln h rest
  refine⟨.arr g cl f c [(concPat Hc q (ln++rest)).1],?_,rfl,rfl⟩
  have e2:concPat Hc q (ln++rest)=((concPat Hc q (ln++rest)).1,rest):=Prod.ext rfl e
  simp only[concObj]
  rw[e2]
 |agg ps=>
  obtain⟨g,cl,f,c,es,rfl⟩:=hc
  simp only[absObj]at h
  split at h
  case h_2=>simp at h
  rename_i vs
  have e:=hps ps vs ln h rest
  refine⟨.arr g cl f c [.agg (concPats Hc ps (ln++rest)).1],?_,rfl,rfl⟩
  have e2:concPats Hc ps (ln++rest)=((concPats Hc ps (ln++rest)).1,rest):=Prod.ext rfl e
  simp only[concObj]
  rw[e2]
 |map kk t=>
  obtain⟨m0,rfl⟩:=hc
  obtain⟨m,rfl,rfl⟩:=map_abs h
  exact⟨.tmap kk t m,rfl,rfl,rfl⟩
theorem concObj_ok[Glob](hT:T.Ok)(hcur:∀ n,curAt Hc n=curAt Hf n)(hlen:LenTo ok Hs Hf){o os o':SObj T.den}{p:OPat}(hok:∀ n,n∈p.owns→ok n)(hc:Compat o p){ln:List (TV T.den)}(h:absObj Hs os p=some ln){rest:List (TV T.den)}
  (ho:concObj Hc o p (ln++rest)=(o',rest)) (hf1:o.flags.1=os.flags.1) (hf2:o.flags.2.1=os.flags.2.1) (hf3:o.flags.2.2=os.flags.2.2) {a:AObj} (ha:RO T Hs os a):RO T Hf o' a:=by
 cases p with
 |list t=>
  obtain⟨g,f,c,l0,rfl⟩:=hc
  obtain⟨l,rfl,hl,_,hr⟩:=list_abs hT (.inl h)
  obtain⟨es,rfl,hes⟩:=hr a ha
  simp only[concObj,List.cons_append,List.nil_append,Prod.mk.injEq]at ho
  obtain⟨rfl,_⟩:=ho
  have hg:g=os.flags.1:=hf1
  have hf:f=os.flags.2.2:=hf3
  exact⟨es,by rw[hg,hf],hes⟩
 |fix t=>
  obtain⟨g,f,c,l0,rfl⟩:=hc
  obtain⟨l,rfl,hl,_,hr⟩:=list_abs hT (.inr h)
  obtain⟨es,rfl,hes⟩:=hr a ha
  simp only[concObj,List.cons_append,List.nil_append,Prod.mk.injEq]at ho
  obtain⟨rfl,_⟩:=ho
  have hg:g=os.flags.1:=hf1
  have hf:f=os.flags.2.2:=hf3
  exact⟨es,by rw[hg,hf],hes⟩
 |one q=>
  obtain⟨g,cl,f,c,es,rfl⟩:=hc
  simp only[absObj]at h
  split at h
  case h_2=>simp at h
  rename_i g' cl' f' c' v
  simp only[SObj.flags]at hf1 hf2 hf3
  subst hf1; subst hf2; subst hf3
  obtain⟨es',rfl,hes,hcl⟩:=ha
  match es',hes with
  |[b],hes=>
   simp only[RL]at hes
   obtain⟨v',e1,e2,e3⟩:=concPat_ok hT hcur hlen hok (.inr hes.1) h rest
   simp only[concObj,e1,Prod.mk.injEq,and_true]at ho
   subst ho
   refine⟨[b],rfl,by simp only[RL]; exact⟨e2,trivial⟩,fun hcc=>?_⟩
   have:=hcl hcc
   simp only[closedLS,Bool.and_true]at this ⊢
   exact e3 this
  |[],hes=>simp[RL]at hes
  |_::_::_,hes=>simp[RL]at hes
 |agg ps=>
  obtain⟨g,cl,f,c,es,rfl⟩:=hc
  simp only[absObj]at h
  split at h
  case h_2=>simp at h
  rename_i g' cl' f' c' vs
  simp only[SObj.flags]at hf1 hf2 hf3
  subst hf1; subst hf2; subst hf3
  obtain⟨es',rfl,hes,hcl⟩:=ha
  match es',hes with
  |[b],hes=>
   simp only[RL,R]at hes
   obtain⟨⟨as,rfl,hes⟩,_⟩:=hes
   obtain⟨vs',e1,e2,e3⟩:=concPats_ok hT hcur hlen hok hes h rest
   simp only[concObj,e1,Prod.mk.injEq,and_true]at ho
   subst ho
   refine⟨[.agg as],rfl,by simp only[RL,R]; exact⟨⟨as,rfl,e2⟩,trivial⟩,fun hcc=>?_⟩
   have:=hcl hcc
   simp only[closedLS,closedS,Bool.and_true]at this ⊢
   exact e3 this
  |[],hes=>simp[RL]at hes
  |_::_::_,hes=>simp[RL]at hes
 |map kk t=>
  obtain⟨m0,rfl⟩:=hc
  obtain⟨m,rfl,rfl⟩:=map_abs h
  simp only[concObj,List.cons_append,List.nil_append,Prod.mk.injEq]at ho
  obtain⟨rfl,_⟩:=ho
  exact ha
theorem concPat_snd{q:Pat}{v:SV T.den}{l:List (TV T.den)}(h:absPat Hs q v=some l)(rest:List (TV T.den)):(concPat Hc q (l++rest)).2=rest:=by
 cases q with
 |ofix esz n rg cap=>
  simp only[absPat]at h
  split at h
  case h_2=>simp at h
  split at h
  case h_2=>simp at h
  split at h
  case isFalse=>simp at h
  simp only[Option.some.injEq]at h
  subst h
  rfl
 |asl n i j len cap=>
  simp only[absPat]at h
  split at h
  case h_2=>simp at h
  split at h
  case h_2=>simp at h
  split at h
  case isFalse=>simp at h
  simp only[Option.some.injEq]at h
  subst h
  rfl
 |hole=>
  simp only[absPat]at h
  split at h
  case h_2=>simp at h
  simp only[Option.some.injEq]at h
  subst h
  rfl
 |val t=>
  simp only[absPat]at h
  split at h
  ·simp at h
  split at h
  case h_2=>simp at h
  simp only[Option.some.injEq]at h
  subst h
  rfl
 |own esz n=>
  simp only[absPat]at h
  split at h
  case h_2=>simp at h
  split at h
  case h_2=>simp at h
  split at h
  case isFalse=>simp at h
  simp only[Option.some.injEq]at h
  subst h
  rfl
 |rng esz n t k=>
  simp only[absPat]at h
  split at h
  case h_2=>simp at h
  split at h
  case h_2=>simp at h
  split at h
  case isFalse=>simp at h
  rw[Option.bind_eq_some_iff]at h
  obtain⟨x,hx,h⟩:=h
  rw[Option.bind_eq_some_iff]at h
  obtain⟨y,hy,h⟩:=h
  split at h
  ·simp only[Option.some.injEq]at h
   subst h
   rfl
  ·obtain⟨z,_,hl⟩:∃ z,T.dn t (.lit (.int .i64 _))=some z∧_=l:=Option.map_eq_some_iff.1 h
   subst hl
   rfl
  ·simp at h
theorem nodup_cons{x:Nat}{l:List Nat}(h:nodupB (x::l)=true):x∉l∧nodupB l=true:=by
 simp_all[nodupB,decide_eq_false_iff_not]
theorem curAt_set{H:SHeap T.den}{n:Nat}{o o':SObj T.den}(ho:H[n]?=some (some o))(hc:o'.cur=o.cur)(m:Nat):curAt (H.set n (some o')) m=curAt H m:=by
 unfold curAt
 by_cases e:m=n
 ·grind
 ·rw[List.getElem?_set_ne (Ne.symm e)]
theorem concObjs_spec[Glob](hT:T.Ok):∀ {objs:List (Nat×OPat)} {H:SHeap T.den} {l:List (TV T.den)} (rest:List (TV T.den)),nodupB (objs.map (·.1))=true→absObjs Hs objs=some l →
  (∀ q,q∈objs→∃ o,H[q.1]?=some (some o)∧Compat o q.2) →
  (concObjs H objs (l++rest)).length=H.length∧(∀ n:Nat,n∉objs.map (·.1)→(concObjs H objs (l++rest))[n]?=H[n]?)∧(∀ n,curAt (concObjs H objs (l++rest)) n=curAt H n) ∧
  (∀ q,q∈objs→∃ o os o' ln Hc rest',H[q.1]?=some (some o)∧Hs[q.1]?=some (some os)∧absObj Hs os q.2=some ln∧(∀ n,curAt Hc n=curAt H n)∧concObj Hc o q.2 (ln++rest')=(o',rest') ∧
    (concObjs H objs (l++rest))[q.1]?=some (some o')∧o'.cur=o.cur∧o'.len=os.len)
 |[],H,l,rest,_,_,_=>⟨rfl,fun _ _=>rfl,fun _=>rfl,fun q hq=>by simp at hq⟩
 |(n,p)::objs,H,l,rest,hnd,habs,hcm=>by
  simp only[List.map_cons]at hnd
  obtain⟨hni,hnd⟩:=nodup_cons hnd
  simp only[absObjs]at habs
  split at habs
  case h_2=>simp at habs
  rename_i os hos
  rw[Option.bind_eq_some_iff]at habs
  obtain⟨ln,h1,habs⟩:=habs
  rw[Option.map_eq_some_iff]at habs
  obtain⟨l2,h2,rfl⟩:=habs
  obtain⟨o,ho,hco⟩:=hcm (n,p) (by simp)
  simp only at ho hco
  obtain⟨o',e1,e2,e3⟩:=concObj_shape (Hc:=H) hT hco h1 (l2++rest) fun q v l hl rest=>concPat_snd hl rest
  have estep:concObjs H ((n,p)::objs) (ln++l2++rest)=concObjs (H.set n (some o')) objs (l2++rest):=by
   simp_all[concObjs,ho]
  rw[estep]
  have hlt:=(List.getElem?_eq_some_iff.1 ho).1
  have hcm':∀ q,q∈objs→∃ o,(H.set n (some o'))[q.1]?=some (some o)∧Compat o q.2:=by
   grind
  obtain⟨i1,i2,i3,i4⟩:=concObjs_spec hT rest hnd h2 hcm'
  have hcs:=curAt_set ho e2
  refine⟨by rw[i1]; simp,fun m hm=>?_,fun m=>by rw[i3,hcs],fun q hq=>?_⟩
  ·grind
  ·grind
theorem bumpH_spec[Glob]:∀ {objs:List (Nat×OPat)} {H:SHeap T.den},nodupB (objs.map (·.1))=true →
  (bumpH H objs).length=H.length∧(∀ n:Nat,n∉objs.map (·.1)→(bumpH H objs)[n]?=H[n]?)∧(∀ q,q∈objs→∀ o,H[q.1]?=some (some o)→(bumpH H objs)[q.1]?=some (some (bumpO o q.2)))
 |[],H,_=>⟨rfl,fun _ _=>rfl,fun q hq=>by simp at hq⟩
 |(n,p)::objs,H,hnd=>by
  simp only[List.map_cons]at hnd
  obtain⟨hni,hnd⟩:=nodup_cons hnd
  simp only[bumpH]
  split
  ·rename_i o ho
   have hlt:=(List.getElem?_eq_some_iff.1 ho).1
   obtain⟨i1,i2,i3⟩:=bumpH_spec (objs:=objs) (H:=H.set n (some (bumpO o p))) hnd
   refine⟨by rw[i1]; simp,fun m hm=>?_,fun q hq o2 ho2=>?_⟩
   ·grind
   ·grind
  ·rename_i hno
   obtain⟨i1,i2,i3⟩:=bumpH_spec (objs:=objs) (H:=H) hnd
   refine⟨i1,fun m hm=>?_,fun q hq o2 ho2=>?_⟩
   ·simp_all
   ·grind
theorem concSlots_spec[Glob](hT:T.Ok)(hcur:∀ n,curAt Hc n=curAt Hf n)(hlen:LenTo ok Hs Hf){N:Nat}{frs:SFr T.den}{ast:Nat→AV}(hfr:∀ t,RV T Hs (getF frs t) (ast t)):
  ∀ {slots:List (Nat×Pat)} {fr:SFr T.den} {l:List (TV T.den)} (rest:List (TV T.den)),nodupB (slots.map (·.1))=true→(∀ q,q∈slots→q.1<N∧∀ n,n∈q.2.owns→ok n)→absSlots Hs frs slots=some l →
    ∃ fr',concSlots N Hc fr slots (l++rest)=(fr',rest)∧(∀ t,t∉slots.map (·.1)→getF fr' t=getF fr t)∧(∀ q,q∈slots→R T Hf (getF fr' q.1) (ast q.1))
 |[],fr,l,rest,_,_,h=>by
  simp only[absSlots,Option.some.injEq]at h
  subst h
  exact⟨fr,rfl,fun _ _=>rfl,fun q hq=>by simp at hq⟩
 |(d,p)::slots,fr,l,rest,hnd,hN,h=>by
  simp only[List.map_cons]at hnd
  obtain⟨hni,hnd⟩:=nodup_cons hnd
  simp only[absSlots,Option.bind_eq_some_iff,Option.map_eq_some_iff]at h
  obtain⟨l1,h1,l2,h2,rfl⟩:=h
  obtain⟨v',e1,e2,_⟩:=concPat_ok hT hcur hlen (hN (d,p) (by simp)).2 (hfr d) h1 (l2++rest)
  obtain⟨fr',i1,i2,i3⟩:=concSlots_spec hT hcur hlen hfr (fr:=setF N fr d v') rest hnd (fun q hq=>hN q (List.mem_cons_of_mem _ hq)) h2
  refine⟨fr',?_,fun t ht=>?_,fun q hq=>?_⟩
  ·simp_all[concSlots]
  ·simp only[List.map_cons,List.mem_cons,not_or]at ht
   rw[i2 t ht.2,getF_set,if_neg (by omega)]
  ·rcases List.mem_cons.1 hq with rfl|hq
   ·rw[i2 d hni,getF_set,if_pos ⟨rfl,(hN (d,p) (by simp)).1⟩]
    exact e2
   ·exact i3 q hq
theorem killS_get[Glob]{N:Nat}:∀ {dead:List Nat} {fr:SFr T.den} {t:Nat},getF (killS N fr dead) t=(if t∈dead∧t<N then .dead else getF fr t)
 |[],fr,t=>by simp[killS]
 |d::r,fr,t=>by
  simp only[killS]
  rw[killS_get,getF_set]
  by_cases h1:t∈r∧t<N
  ·simp_all
  ·grind
end
end Go.PI
end
section
/- PS, part O: a state goes over into one with variables. -/
namespace Go.PI
variable {T:Tys}{ρ:Type}
section
variable {H0 Hs Hf:SHeap T.den}
mutual
theorem R.transfer(ht:∀ n c v0 ver,verOk H0 n c v0→verOk Hs n c ver→verOk Hf n c ver)(hx:∀ (n:Nat) (o:SObj T.den),H0[n]?=some (some o)→∃ o,Hf[n]?=some (some o)):∀ {v:SV T.den} {a0 a:AV},R T H0 v a0→R T Hs v a→R T Hf v a
 |.dead,_,_,h,_=>by simp[R]at h
 |.hole,a0,a,_,h=>by simpa[R] using h
 |.lit v,a0,a,_,h=>by simpa[R] using h
 |.agg l,a0,a,h0,h=>by
  simp only[R]at h0 h ⊢
  obtain⟨l0,_,h2⟩:=h0
  obtain⟨l',h1,h3⟩:=h
  exact⟨l',h1,RL.transfer ht hx h2 h3⟩
 |.tup l,a0,a,h0,h=>by
  simp only[R]at h0 h ⊢
  obtain⟨l0,_,h2⟩:=h0
  obtain⟨l',h1,h3⟩:=h
  exact⟨l',h1,RL.transfer ht hx h2 h3⟩
 |.sl l,a0,a,h0,h=>by
  simp only[R]at h0 h ⊢
  obtain⟨l0,_,h2,_⟩:=h0
  obtain⟨l',h1,h3,h4⟩:=h
  exact⟨l',h1,RL.transfer ht hx h2 h3,h4⟩
 |.tsl t l,a0,a,_,h=>by simpa[R] using h
 |.tsx t l c b,a0,a,_,h=>by simp only[R]at h ⊢; exact h
 |.nz,a0,a,_,h=>by simp only[R]at h ⊢; exact h
 |.eref e j,a0,a,h0,h=>by
  simp only[R]at h0 h ⊢
  obtain⟨l0,_,h2,_⟩:=h0
  obtain⟨l',h1,h3,h4⟩:=h
  exact⟨l',h1,R.transfer ht hx h2 h3,h4⟩
 |.ref m c i j,a0,a,h0,h=>by
  grind[R]
 |.asl m c i j ln cp,a0,a,h0,h=>by
  grind[R]
 |.osl esz m c rg cap,a0,a,h0,h=>by
  grind[R]
 |.clo fn f c,a0,a,h0,h=>by
  simp only[R]at h0 h ⊢
  obtain⟨_,_,_,g1,g2⟩:=h0
  obtain⟨f',c',h1,h2,h3⟩:=h
  exact⟨f',c',h1,RL.transfer ht hx g1 h2,RL.transfer ht hx g2 h3⟩
 |.ifc t v,a0,a,h0,h=>by
  simp only[R]at h0 h ⊢
  obtain⟨l0,_,h2⟩:=h0
  obtain⟨l',h1,h3⟩:=h
  exact⟨l',h1,R.transfer ht hx h2 h3⟩
 |.mp y n,a0,a,h0,h=>by
  grind[R]
 |.xat v s l i,a0,a,h0,h=>by
  simp only[R]at h0 h ⊢
  obtain⟨b0,h2,_⟩:=h0
  obtain⟨b,h3,h4⟩:=h
  exact⟨b,R.transfer ht hx h2 h3,h4⟩
theorem RL.transfer(ht:∀ n c v0 ver,verOk H0 n c v0→verOk Hs n c ver→verOk Hf n c ver)(hx:∀ (n:Nat) (o:SObj T.den),H0[n]?=some (some o)→∃ o,Hf[n]?=some (some o)):∀ {l:List (SV T.den)} {m0 m:List AV},RL T H0 l m0→RL T Hs l m→RL T Hf l m
 |[],[],[],_,_=>by simp[RL]
 |x::xs,y0::ys0,y::ys,h0,h=>by
  simp only[RL]at h0 h ⊢
  exact⟨R.transfer ht hx h0.1 h.1,RL.transfer ht hx h0.2 h.2⟩
 |[],_::_,_,h,_=>by simp[RL]at h
 |[],[],_::_,_,h=>by simp[RL]at h
 |_::_,[],_,h,_=>by simp[RL]at h
 |_::_,_::_,[],_,h=>by simp[RL]at h
end
end
theorem absObjs_obj{Hs:SHeap T.den}:∀ {objs:List (Nat×OPat)} {l:List (TV T.den)},absObjs Hs objs=some l→∀ q,q∈objs→∃ o ln,Hs[q.1]?=some (some o)∧absObj Hs o q.2=some ln
 |[],_,_,q,hq=>by simp at hq
 |(n,p)::r,l,h,q,hq=>by
  simp only[absObjs]at h
  split at h
  case h_2=>simp at h
  rename_i o ho
  rw[Option.bind_eq_some_iff]at h
  obtain⟨ln,h1,h⟩:=h
  rw[Option.map_eq_some_iff]at h
  obtain⟨l2,h2,rfl⟩:=h
  rcases List.mem_cons.1 hq with rfl|hq
  ·exact⟨o,ln,ho,h1⟩
  ·exact absObjs_obj h2 q hq
def curP(p:OPat)(c:Nat):Nat:=
 match p with
 |.list _=>c+1
 |_=>c
theorem curP_le(p:OPat)(c:Nat):c≤curP p c:=by cases p<;>simp[curP]
theorem curP_ne{p:OPat}(h:∀ t,p≠.list t)(c:Nat):curP p c=c:=by
 cases p with
 |list t=>exact absurd rfl (h t)
 |_=>rfl
def Start(H:SHeap T.den)(o:SObj T.den)(p:OPat):Prop:=(∃ ln,absObj H o p=some ln)∨(((∃ q,p=.one q)∨∃ ps,p=.agg ps)∧∃ g cl f c e,o=.arr g cl f c [e])
theorem compat_bump{Hs:SHeap T.den}{o:SObj T.den}{p:OPat}{ln:List (TV T.den)}(h:absObj Hs o p=some ln):Compat (bumpO o p) p∧(bumpO o p).flags.1=o.flags.1∧(bumpO o p).flags.2.1=o.flags.2.1∧(bumpO o p).flags.2.2=o.flags.2.2 ∧
  (bumpO o p).cur=curP p o.cur:=by
 cases p with
 |list t=>
  cases o with
  |arr g cl f c es=>
   cases cl with
   |true=>exact⟨⟨g,f,c+1,[],rfl⟩,rfl,rfl,rfl,rfl⟩
   |false=>cases h
  |tarr g f c t' l=>exact⟨⟨g,f,c+1,[],rfl⟩,rfl,rfl,rfl,rfl⟩
  |_=>cases h
 |fix t=>
  cases o with
  |arr g cl f c es=>
   cases cl with
   |true=>exact⟨⟨g,f,c,[],rfl⟩,rfl,rfl,rfl,rfl⟩
   |false=>cases h
  |tarr g f c t' l=>exact⟨⟨g,f,c,[],rfl⟩,rfl,rfl,rfl,rfl⟩
  |_=>cases h
 |one q=>
  cases o with
  |arr g cl f c es=>exact⟨⟨g,cl,f,c,es,rfl⟩,rfl,rfl,rfl,rfl⟩
  |_=>cases h
 |agg ps=>
  cases o with
  |arr g cl f c es=>exact⟨⟨g,cl,f,c,es,rfl⟩,rfl,rfl,rfl,rfl⟩
  |_=>cases h
 |map kk t=>
  obtain⟨m,rfl,rfl⟩:=map_abs h
  exact⟨⟨[],rfl⟩,rfl,rfl,rfl,rfl⟩
theorem start_bump{Hs:SHeap T.den}{o:SObj T.den}{p:OPat}(h:Start Hs o p):Compat (bumpO o p) p∧(bumpO o p).flags.1=o.flags.1∧(bumpO o p).flags.2.1=o.flags.2.1∧(bumpO o p).flags.2.2=o.flags.2.2 ∧
  (bumpO o p).cur=curP p o.cur:=by
 rcases h with ⟨ln,h⟩|⟨⟨q,rfl⟩|⟨ps,rfl⟩,g,cl,f,c,e,rfl⟩
 ·exact compat_bump h
 ·exact⟨⟨g,cl,f,c,[e],rfl⟩,rfl,rfl,rfl,rfl⟩
 ·exact⟨⟨g,cl,f,c,[e],rfl⟩,rfl,rfl,rfl,rfl⟩
theorem extObjs_mem:∀ {ext:List SExt} {n:Nat} {q:Nat×OPat},q∈extObjs n ext→∃ i g f t,q=(n+i,.list t)∧ext[i]?=some (.list g f t)
 |[],_,q,h=>by simp[extObjs]at h
 |.junk::r,n,q,h=>by
  simp only[extObjs]at h
  obtain⟨i,g,f,t,rfl,h2⟩:=extObjs_mem h
  exact⟨i+1,g,f,t,by rw[show n+1+i=n+(i+1) by omega],by simpa using h2⟩
 |.list g f t::r,n,q,h=>by
  simp only[extObjs]at h
  rcases List.mem_cons.1 h with rfl|h
  ·exact⟨0,g,f,t,rfl,rfl⟩
  ·obtain⟨i,g',f',t',rfl,h2⟩:=extObjs_mem h
   exact⟨i+1,g',f',t',by rw[show n+1+i=n+(i+1) by omega],by simpa using h2⟩
theorem extObjs_nodup[Glob]:∀ {ext:List SExt} {n:Nat},nodupB ((extObjs n ext).map (·.1))=true
 |[],_=>rfl
 |.junk::r,n=>by simp only[extObjs]; exact extObjs_nodup
 |.list g f t::r,n=>by
  simp only[extObjs,List.map_cons,nodupB,Bool.and_eq_true,Bool.not_eq_true',List.contains_eq_mem,decide_eq_false_iff_not]
  refine⟨fun h=>?_,extObjs_nodup⟩
  obtain⟨q,hq,e⟩:=List.mem_map.1 h
  obtain⟨i,_,_,_,rfl,_⟩:=extObjs_mem hq
  simp only at e
  omega
theorem nodup_app[Glob]:∀ {l m:List Nat},nodupB l=true→nodupB m=true→(∀ x,x∈l→x∉m)→nodupB (l++m)=true
 |[],m,_,h,_=>h
 |x::l,m,h,h',hd=>by
  obtain⟨h1,h2⟩:=nodup_cons h
  simp only[List.cons_append,nodupB,Bool.and_eq_true,Bool.not_eq_true',List.contains_eq_mem,decide_eq_false_iff_not,List.mem_append,not_or]
  exact⟨⟨h1,hd x (by simp)⟩,nodup_app h2 h' fun y hy=>hd y (List.mem_cons_of_mem _ hy)⟩
theorem extOk_at{H:SHeap T.den}:∀ {ext:List SExt} {n i:Nat} {e:SExt},extOk H n ext=true→ext[i]?=some e→∃ o,H[n+i]?=some (some o)∧(match e with|.junk=>o.flags.2.1=true|.list g f _=>o.flags=(g,true,f))
 |[],_,i,e,_,h=>by simp at h
 |x::r,n,i,e,hx,h=>by
  simp only[extOk,Bool.and_eq_true]at hx
  cases i with
  |zero=>
   grind
  |succ i=>
   simp only[List.getElem?_cons_succ]at h
   obtain⟨o,h1,h2⟩:=extOk_at hx.2 h
   exact⟨o,by rw[show n+(i+1)=n+1+i by omega]; exact h1,h2⟩
theorem junk_or_list[Glob]:∀ {ext:List SExt} {n i:Nat},i<ext.length→(ext[i]?=some .junk∧n+i∉(extObjs n ext).map (·.1))∨∃ g f t,ext[i]?=some (.list g f t)∧(n+i,OPat.list t)∈extObjs n ext
 |[],_,i,h=>by simp at h
 |.junk::r,n,i,h=>by
  cases i with
  |zero=>
   left
   refine⟨rfl,fun hc=>?_⟩
   obtain⟨q,hq,e⟩:=List.mem_map.1 hc
   simp only[extObjs]at hq
   obtain⟨j,_,_,_,rfl,_⟩:=extObjs_mem hq
   simp only at e; omega
  |succ i=>
   rcases junk_or_list (n:=n+1) (i:=i) (by simpa using h) with ⟨h1,h2⟩|⟨g,f,t,h1,h2⟩
   ·grind[extObjs]
   ·grind[extObjs]
 |.list g f t::r,n,i,h=>by
  cases i with
  |zero=>grind[extObjs]
  |succ i=>
   rcases junk_or_list (n:=n+1) (i:=i) (by simpa using h) with ⟨h1,h2⟩|⟨g',f',t',h1,h2⟩
   ·left
    refine⟨by simpa using h1,?_⟩
    simp only[extObjs,List.map_cons,List.mem_cons,not_or]
    exact⟨by omega,by rw[show n+(i+1)=n+1+i by omega]; exact h2⟩
   ·grind[extObjs]
theorem flags_arr(hT:T.Ok){o:SObj T.den}{H:SHeap T.den}{a:AObj}(h:RO T H o a)(hc:o.flags.2.1=true):(∃ g f es,a=.arr g true f es)∨∃ k vs,a=.oth k vs∧∀ n,belowL n vs=true:=by
 cases o with
 |arr g cl f c es=>
  obtain⟨es',rfl,_⟩:=h
  simp only[SObj.flags]at hc
  subst hc
  exact .inl ⟨_,_,_,rfl⟩
 |tarr g f c t l=>obtain⟨es',rfl,_⟩:=h; exact .inl ⟨_,_,_,rfl⟩
 |junk=>exact h
 |tmap kk t m=>obtain⟨vs,rfl,h⟩:=h; exact .inr ⟨_,_,rfl,fun n=>rp_below hT h⟩
 |recd fn ps as bd fr=>simp[SObj.flags]at hc
structure Over(T:Tys)(slots:List (Nat×Pat))(dead:List Nat)(objs:List (Nat×OPat))(ext:List SExt)(s0 s:SSt T.den)(l:List (TV T.den)):Prop where
 nd1:nodupB (slots.map (·.1))=true
 nd2:nodupB (objs.map (·.1))=true
 slotsN:∀ d,d∈slots.map (·.1)++dead→d<s0.n
 owns:ownsOk s0.hp.length slots (objs++extObjs s0.hp.length ext)=true
 fn:s.fn=s0.fn
 n:s.n=s0.n
 fr:∀ t,t∉slots.map (·.1)++dead→getF s.fr t=getF s0.fr t
 hp:∀ n:Nat,n<s0.hp.length→n∉objs.map (·.1)→s.hp[n]?=s0.hp[n]?
 len:s.hp.length=s0.hp.length+ext.length
 flags:sameFlags s0.hp s.hp objs=true
 cur:sameCur s0.hp s.hp objs=true
 extk:extOk s.hp s0.hp.length ext=true
 abs0:∀ q,q∈objs→∃ o,s0.hp[q.1]?=some (some o)∧Start s0.hp o q.2
 abs:absS slots (objs++extObjs s0.hp.length ext) s=some l
theorem sameFlags_at{H H':SHeap T.den}{objs:List (Nat×OPat)}(h:sameFlags H H' objs=true){q:Nat×OPat}(hq:q∈objs){o o':SObj T.den}(h1:H[q.1]?=some (some o))(h2:H'[q.1]?=some (some o')):o.flags=o'.flags:=by
 have:=List.all_eq_true.1 h q hq
 simp only[h1,h2,decide_eq_true_eq]at this
 exact this
theorem sameCur_at{H H':SHeap T.den}{objs:List (Nat×OPat)}(h:sameCur H H' objs=true){q:Nat×OPat}(hq:q∈objs)(hl:∀ t,q.2≠.list t){o o':SObj T.den}(h1:H[q.1]?=some (some o))(h2:H'[q.1]?=some (some o')):o.cur=o'.cur:=by
 have:=List.all_eq_true.1 h q hq
 split at this
 ·rename_i t e; exact absurd e (hl t)
 ·simp_all
theorem over_ok[Glob](hT:T.Ok){slots:List (Nat×Pat)}{dead:List Nat}{objs:List (Nat×OPat)}{ext:List SExt}{s0 s:SSt T.den}{l:List (TV T.den)}(ho:Over T slots dead objs ext s0 s l){st0 st:St}(h0:RS T s0 st0)(h:RS T s st):
  RS T { concS slots dead objs ext s0 l with js:=s.js } st∧(concS slots dead objs ext s0 l).hp.length=s.hp.length ∧
  (∀ n:Nat,n<s0.hp.length→n∉objs.map (·.1)→(concS slots dead objs ext s0 l).hp[n]?=s0.hp[n]?) ∧
  (∀ t,t∉slots.map (·.1)++dead→getF (concS slots dead objs ext s0 l).fr t=getF s0.fr t) ∧
  (concS slots dead objs ext s0 l).fn=s0.fn∧(concS slots dead objs ext s0 l).n=s0.n ∧
  (∀ q,q∈objs→∃ o0 os of,s0.hp[q.1]?=some (some o0)∧s.hp[q.1]?=some (some os)∧(concS slots dead objs ext s0 l).hp[q.1]?=some (some of)∧of.len=os.len∧of.cur=curP q.2 o0.cur):=by
 have hobj0:=ho.abs0
 have hlt:∀ n,n∈objs.map (·.1)→n<s0.hp.length:=by
  grind
 have hge:∀ n,n∈(extObjs s0.hp.length ext).map (·.1)→s0.hp.length≤n:=by
  intro n hn
  obtain⟨q,hq,rfl⟩:=List.mem_map.1 hn
  obtain⟨i,_,_,_,rfl,_⟩:=extObjs_mem hq
  simp
 have hnd:nodupB ((objs++extObjs s0.hp.length ext).map (·.1))=true:=by
  rw[List.map_append]
  exact nodup_app ho.nd2 extObjs_nodup fun x hx hc=>by have:=hlt x hx; have:=hge x hc; omega
 obtain⟨b1,b2,b3⟩:=bumpH_spec (objs:=objs) (H:=s0.hp) ho.nd2
 generalize hH1:bumpH s0.hp objs++ext.map extO=H1
 have hH1len:H1.length=s.hp.length:=by rw[←hH1,ho.len]; simp[b1]
 have hH1lt:∀ n:Nat,n<s0.hp.length→H1[n]?=(bumpH s0.hp objs)[n]?:=fun n hn=>by
  grind
 have hH1ge:∀ i:Nat,H1[s0.hp.length+i]?=(ext.map extO)[i]?:=fun i=>by
  grind
 have habs:=ho.abs
 unfold absS at habs
 rw[Option.bind_eq_some_iff]at habs
 obtain⟨la,hla,habs⟩:=habs
 rw[Option.map_eq_some_iff]at habs
 obtain⟨lb,hlb,rfl⟩:=habs
 have hcm:∀ q,q∈objs++extObjs s0.hp.length ext→∃ o,H1[q.1]?=some (some o)∧Compat o q.2:=by
  intro q hq
  rcases List.mem_append.1 hq with hq|hq
  ·obtain⟨o,h1,h2⟩:=hobj0 q hq
   exact⟨bumpO o q.2,by rw[hH1lt _ (hlt _ (List.mem_map_of_mem hq))]; exact b3 q hq o h1,(start_bump h2).1⟩
  ·obtain⟨i,g,f,t,rfl,h2⟩:=extObjs_mem hq
   refine⟨.tarr g f 0 t [],?_,⟨g,f,0,[],rfl⟩⟩
   simp only
   rw[hH1ge,List.getElem?_map,h2]
   rfl
 obtain⟨c1,c2,c3,c4⟩:=concObjs_spec hT (Hs:=s.hp) (H:=H1) [] hnd hlb hcm
 simp only[List.append_nil]at c1 c2 c3 c4
 generalize hHf:concObjs H1 (objs++extObjs s0.hp.length ext) lb=Hf at c1 c2 c3 c4
 have hlen:LenTo (fun n=>n<s0.hp.length∨n∈(objs++extObjs s0.hp.length ext).map (·.1)) s.hp Hf:=by
  intro n o hn hso
  by_cases hm:n∈(objs++extObjs s0.hp.length ext).map (·.1)
  ·grind
  ·have hn:n<s0.hp.length:=hn.resolve_right hm
   have hm':n∉objs.map (·.1):=fun hc=>hm (by rw[List.map_append]; exact List.mem_append_left _ hc)
   refine⟨o,?_,rfl⟩
   rw[c2 n hm,hH1lt n hn,b2 n hm',←ho.hp n hn hm']
   exact hso
 have howns:=List.all_eq_true.1 ho.owns
 have hokO:∀ q,q∈objs++extObjs s0.hp.length ext→∀ n,n∈q.2.owns→(n<s0.hp.length∨n∈(objs++extObjs s0.hp.length ext).map (·.1)):=by
  intro q hq n hn
  have:=howns n (List.mem_append_right _ (List.mem_flatMap.2 ⟨q,hq,hn⟩))
  simp only[Bool.or_eq_true,List.contains_eq_mem,decide_eq_true_eq]at this
  refine this.imp (fun h=>?_) id
  have:=Nat.le_of_ble_eq_true h
  omega
 have hokS:∀ q,q∈slots→∀ n,n∈q.2.owns→(n<s0.hp.length∨n∈(objs++extObjs s0.hp.length ext).map (·.1)):=by
  intro q hq n hn
  have:=howns n (List.mem_append_left _ (List.mem_flatMap.2 ⟨q,hq,hn⟩))
  simp only[Bool.or_eq_true,List.contains_eq_mem,decide_eq_true_eq]at this
  refine this.imp (fun h=>?_) id
  have:=Nat.le_of_ble_eq_true h
  omega
 have hper:∀ q,q∈objs→∃ o0 os of,s0.hp[q.1]?=some (some o0)∧s.hp[q.1]?=some (some os)∧Hf[q.1]?=some (some of)∧of.len=os.len∧of.cur=curP q.2 o0.cur ∧
   (∀ a,RO T s.hp os a→RO T Hf of a):=by
  intro q hq
  obtain⟨o0,h1,h2⟩:=hobj0 q hq
  obtain⟨o1,os,o',ln,Hc,rest',d1,d2,d3,d4,d5,d6,d7,d8⟩:=c4 q (List.mem_append_left _ hq)
  have hb:=b3 q hq o0 h1
  rw[hH1lt _ (hlt _ (List.mem_map_of_mem hq)),hb]at d1
  simp only[Option.some.injEq]at d1
  subst d1
  obtain⟨e1,e2,e3,e4,e5⟩:=start_bump h2
  have hfl:=sameFlags_at ho.flags hq h1 d2
  refine⟨o0,os,o',h1,d2,d6,d8,by rw[d7,e5],fun a ha=>?_⟩
  exact concObj_ok hT (fun n=>by rw[d4,c3]) hlen (hokO q (List.mem_append_left _ hq)) e1 d3 d5 (by rw[e2,hfl]) (by rw[e3,hfl]) (by rw[e4,hfl]) ha
 have htr:∀ n c v0 ver,verOk s0.hp n c v0→verOk s.hp n c ver→verOk Hf n c ver:=by
  intro n c v0 ver hv0 hv
  have hn:=hv0.lt
  by_cases hm:n∈objs.map (·.1)
  ·obtain⟨q,hq,rfl⟩:=List.mem_map.1 hm
   obtain⟨o0,os,of,g1,g2,g3,g4,g5,_⟩:=hper q hq
   obtain⟨o0',k1,k2,_⟩:=hv0
   rw[g1]at k1
   simp only[Option.some.injEq]at k1
   subst k1
   obtain⟨os',k3,k4,k5⟩:=hv
   rw[g2]at k3
   simp only[Option.some.injEq]at k3
   subst k3
   refine⟨of,g3,?_,fun e=>?_⟩
   ·have:=curP_le q.2 o0.cur; omega
   ·by_cases hl:∃ t,q.2=.list t
    ·obtain⟨t,hl⟩:=hl
     rw[g5,hl]at e
     simp only[curP]at e
     omega
    ·have hc:=sameCur_at ho.cur hq (fun t e=>hl ⟨t,e⟩) g1 g2
     have:of.cur=o0.cur:=by rw[g5,curP_ne (fun t e=>hl ⟨t,e⟩)]
     rw[g4]
     exact k5 (by omega)
  ·have hm':n∉(objs++extObjs s0.hp.length ext).map (·.1):=by
    rw[List.map_append]
    intro hc
    rcases List.mem_append.1 hc with hc|hc
    ·exact hm hc
    ·have:=hge n hc; omega
   obtain⟨os,k1,k2,k3⟩:=hv
   exact⟨os,by rw[c2 n hm',hH1lt n hn,b2 n hm,←ho.hp n hn hm]; exact k1,k2,k3⟩
 have hext:∀ n:Nat,n<s0.hp.length→n∉objs.map (·.1)→Hf[n]?=s0.hp[n]?:=by
  intro n hn hm
  have hm':n∉(objs++extObjs s0.hp.length ext).map (·.1):=by
   rw[List.map_append]
   intro hc
   rcases List.mem_append.1 hc with hc|hc
   ·exact hm hc
   ·have:=hge n hc; omega
  rw[c2 n hm',hH1lt n hn,b2 n hm]
 have hex:∀ (n:Nat) (o:SObj T.den),s0.hp[n]?=some (some o)→∃ o,Hf[n]?=some (some o):=by
  intro n o hno
  have hn:=(List.getElem?_eq_some_iff.1 hno).1
  by_cases hm:n∈objs.map (·.1)
  ·obtain⟨q,hq,rfl⟩:=List.mem_map.1 hm
   obtain⟨_,_,of,_,_,g3,_⟩:=hper q hq
   exact⟨of,g3⟩
  ·exact⟨o,by rw[hext n hn hm]; exact hno⟩
 have hjs:JsOk s.js Hf st.hp:=by
  intro n x hx
  obtain⟨h1,h2⟩:=h.js n x hx
  refine⟨?_,h2⟩
  obtain⟨o,ho1,ho2⟩:∃ o,s.hp[n]?=some (some o)∧o.isRec=true:=by
   unfold recAt at h1
   split at h1
   ·rename_i o ho1; exact⟨o,ho1,h1⟩
   ·simp at h1
  by_cases hn:n<s0.hp.length
  ·by_cases hm:n∈objs.map (·.1)
   ·exfalso
    obtain⟨q,hq,rfl⟩:=List.mem_map.1 hm
    obtain⟨o1,os,o',ln,Hc,rest',_,d2,d3,_⟩:=c4 q (List.mem_append_left _ hq)
    rw[ho1]at d2
    simp only[Option.some.injEq]at d2
    subst d2
    cases o<;>simp[SObj.isRec]at ho2
    cases hp2:q.2<;>rw[hp2]at d3<;>cases d3
   ·rw[recAt_eq (show Hf[n]?=s.hp[n]? by rw[hext n hn hm,ho.hp n hn hm])]
    exact h1
  ·exfalso
   have hns:=(List.getElem?_eq_some_iff.1 ho1).1
   have hi:n-s0.hp.length<ext.length:=by have:=ho.len; omega
   have hni:s0.hp.length+(n-s0.hp.length)=n:=by omega
   obtain⟨e,he⟩:∃ e,ext[n-s0.hp.length]?=some e:=⟨_,List.getElem?_eq_getElem hi⟩
   obtain⟨o2,m1,m2⟩:=extOk_at ho.extk he
   rw[hni,ho1]at m1
   simp only[Option.some.injEq]at m1
   subst m1
   cases o<;>simp[SObj.isRec]at ho2
   cases e<;>simp[SObj.flags]at m2
 have hrh:RH T Hf st.hp:=by
  have hl1:Hf.length=st.hp.length:=by rw[c1,hH1len]; exact h.hp.length
  refine All2.of_get hl1 fun n x y hx hy=>?_
  obtain⟨xs,hxs,hr⟩:=All2.get' h.hp hy
  have hns:n<s.hp.length:=(List.getElem?_eq_some_iff.1 hxs).1
  by_cases hn:n<s0.hp.length
  ·by_cases hm:n∈objs.map (·.1)
   ·obtain⟨q,hq,rfl⟩:=List.mem_map.1 hm
    obtain⟨o0,os,of,g1,g2,g3,g4,g5,g6⟩:=hper q hq
    rw[g3]at hx
    rw[g2]at hxs
    simp only[Option.some.injEq]at hx hxs
    subst hx; subst hxs
    cases y with
    |none=>exact hr.elim
    |some a=>exact g6 a hr
   ·have hm':n∉(objs++extObjs s0.hp.length ext).map (·.1):=by
     rw[List.map_append]
     intro hc
     rcases List.mem_append.1 hc with hc|hc
     ·exact hm hc
     ·have:=hge n hc; omega
    rw[c2 n hm',hH1lt n hn,b2 n hm,←ho.hp n hn hm,hxs]at hx
    simp only[Option.some.injEq]at hx
    subst hx
    have hs0:s0.hp[n]?=some xs:=by rw[←ho.hp n hn hm]; exact hxs
    obtain⟨y0,_,hr0⟩:=All2.get h0.hp hs0
    cases xs with
    |none=>cases y with
     |none=>trivial
     |some a=>exact hr.elim
    |some o=>cases y with
     |none=>exact hr.elim
     |some a=>
      cases y0 with
      |none=>exact hr0.elim
      |some a0=>
       cases o with
       |arr g cl f c es=>
        obtain⟨es',e1,e2,e3⟩:=hr
        obtain⟨es0,_,e5,_⟩:=hr0
        exact⟨es',e1,RL.transfer htr hex e5 e2,e3⟩
       |tarr g f c t l=>exact hr
       |junk=>exact hr
       |tmap kk t m=>exact hr
       |recd fn ps as bd fr=>
        obtain⟨st,vs,e1,e2⟩:=hr
        obtain⟨st0,vs0,_,e5⟩:=hr0
        refine⟨st,vs,e1,All2.of_get e2.length fun i x y hx hy=>?_⟩
        obtain⟨y',hy',hr'⟩:=All2.get e2 hx
        rw[hy]at hy'
        simp only[Option.some.injEq]at hy'
        subst hy'
        obtain⟨y0,hy0,hr0'⟩:=All2.get e5 hx
        rcases hr' with hr'|hr'
        ·exact .inl hr'
        ·rcases hr0' with ⟨rfl,_⟩|hr0'
         ·simp[R]at hr'
         ·exact .inr (R.transfer htr hex hr0' hr')
  ·have hi:n-s0.hp.length<ext.length:=by have:=ho.len; omega
   have hni:n=s0.hp.length+(n-s0.hp.length):=by omega
   rcases junk_or_list (n:=s0.hp.length) hi with ⟨k1,k2⟩|⟨g,f,t,k1,k2⟩
   ·rw[←hni]at k2
    have hm':n∉(objs++extObjs s0.hp.length ext).map (·.1):=by
     rw[List.map_append]
     intro hc
     rcases List.mem_append.1 hc with hc|hc
     ·exact hn (hlt n hc)
     ·exact k2 hc
    rw[c2 n hm',hni,hH1ge,List.getElem?_map,k1]at hx
    simp only[Option.map_some,extO,Option.some.injEq]at hx
    subst hx
    obtain⟨o,m1,m2⟩:=extOk_at ho.extk k1
    rw[←hni,hxs]at m1
    simp only[Option.some.injEq]at m1
    subst m1
    cases y with
    |none=>exact hr.elim
    |some a=>exact flags_arr hT hr m2
   ·obtain⟨o1,os,o',ln,Hc,rest',d1,d2,d3,d4,d5,d6,d7,d8⟩:=c4 _ (List.mem_append_right _ k2)
    simp only at d1 d2 d3 d5 d6
    rw[←hni]at d2 d6
    rw[d6]at hx
    rw[d2]at hxs
    simp only[Option.some.injEq]at hx hxs
    subst hx; subst hxs
    rw[hH1ge,List.getElem?_map,k1]at d1
    simp only[Option.map_some,extO,Option.some.injEq]at d1
    subst d1
    obtain⟨o,m1,m2⟩:=extOk_at ho.extk k1
    rw[←hni,d2]at m1
    simp only[Option.some.injEq]at m1
    subst m1
    simp only at m2
    cases y with
    |none=>exact hr.elim
    |some a=>
     exact concObj_ok hT (fun n=>by rw[d4,c3]) hlen (by intro n hn; simp[OPat.owns]at hn) (show Compat (.tarr g f 0 t []) (.list t) from ⟨g,f,0,[],rfl⟩) d3 d5 (by rw[m2]; rfl) (by rw[m2]; rfl) (by rw[m2]; rfl) hr
 obtain⟨fr',f1,f2,f3⟩:=concSlots_spec hT (Hc:=H1) (Hf:=Hf) (fun n=>by rw[c3]) hlen (N:=s0.n) (frs:=s.fr) (ast:=fun t=>st.fr.getD t .undef) h.fr (fr:=killS s0.n s0.fr dead) lb ho.nd1
  (fun q hq=>⟨ho.slotsN _ (List.mem_append_left _ (List.mem_map_of_mem hq)),hokS q hq⟩) hla
 have hconc:concS slots dead objs ext s0 (la++lb)={ s0 with fr:=fr',hp:=Hf }:=by
  unfold concS
  rw[hH1,f1]
  simp only[hHf]
 have hkeepF:∀ t,t∉slots.map (·.1)++dead→getF fr' t=getF s0.fr t:=by
  intro t ht
  simp only[List.mem_append,not_or]at ht
  rw[f2 t ht.1,killS_get,if_neg (fun hc=>ht.2 hc.1)]
 rw[hconc]
 refine⟨⟨?_,?_,fun t=>?_,hrh,hjs⟩,by rw[c1,hH1len],fun n hn hm=>?_,hkeepF,rfl,rfl,fun q hq=>?_⟩
 ·show s0.fn=st.fn
  rw[←ho.fn]; exact h.fn
 ·show st.fr.length=s0.n
  rw[←ho.n]; exact h.n
 ·simp only
  by_cases ht:t∈slots.map (·.1)
  ·obtain⟨q,hq,rfl⟩:=List.mem_map.1 ht
   exact .inr (f3 q hq)
  ·by_cases hd:t∈dead
   ·left
    rw[f2 t ht,killS_get,if_pos ⟨hd,ho.slotsN _ (List.mem_append_right _ hd)⟩]
   ·have hnt:t∉slots.map (·.1)++dead:=by simp only[List.mem_append,not_or]; exact⟨ht,hd⟩
    rw[hkeepF t hnt]
    have e1:=h.fr t
    rw[ho.fr t hnt]at e1
    rcases e1 with e1|e1
    ·exact .inl e1
    ·rcases h0.fr t with e0|e0
     ·exact .inl e0
     ·exact .inr (R.transfer htr hex e0 e1)
 ·simp only
  have hm':n∉(objs++extObjs s0.hp.length ext).map (·.1):=by
   rw[List.map_append]
   intro hc
   rcases List.mem_append.1 hc with hc|hc
   ·exact hm hc
   ·have:=hge n hc; omega
  rw[c2 n hm',hH1lt n hn,b2 n hm]
 ·obtain⟨o0,os,of,g1,g2,g3,g4,g5,_⟩:=hper q hq
  exact⟨o0,os,of,g1,g2,g3,g4,g5⟩
end Go.PI
end
section
/- PS, part P: the trees tell the truth. -/
namespace Go.PI
structure SCtx.Ok[Glob](S:SCtx):Prop where
 T:S.T.Ok
 Q:S.Q.Ok
 Z:S.T.Zeros S.Q
 sum:∀ g σ,S.sum g=some σ→SumOk S.C S.T g σ
 own:∀ g σ,S.own g=some σ→OwnOk S.C S.T g σ
def ROut(T:Tys):SOut T.den→Out→Prop
 |.norm s,o=>∃ st,o=.norm st∧RS T s st
 |.exit id s,o=>∃ st,o=.exit id st∧RS T s st
 |.ret s,o=>∃ st,o=.ret st∧RS T s st
def SOut.st{den:Nat→Type}:SOut den→SSt den
 |.norm s=>s
 |.exit _ s=>s
 |.ret s=>s
structure SoundAt[Glob](S:SCtx)(k:Nat):Prop where
 f:∀ (ρ:Type) (f:FuncId) (args:List (SV S.T.den)) (hp:SHeap S.T.den) (wh:List Nat) (js:List (Nat×LSt)) (K:SV S.T.den→SHeap S.T.den→List Nat→List (Nat×LSt)→Tr ρ) (r:ρ) (as:List AV) (ahp:AHeap),RL S.T hp args as→RH S.T hp ahp→JsOk js hp ahp →
  (exF S k ρ f args hp wh js K).run=some r→∃ v hp' wh' js' a ahp',runF S.C f as ahp=some (.val a,ahp')∧R S.T hp' v a∧RH S.T hp' ahp'∧JsOk js' hp' ahp'∧Grow hp hp'∧hp.length≤hp'.length ∧
    (∀ n:Nat,n<hp.length→n∉wh'→hp'[n]?=hp[n]?)∧(∀ n,n∈wh→n∈wh')∧(K v hp' wh' js').run=some r
 c:∀ (ρ:Type) (c:Code) (s:SSt S.T.den) (K:SOut S.T.den→Tr ρ) (r:ρ) (st:St),RS S.T s st→(exC S k ρ c s K).run=some r →
  ∃ so o,runC S.C c st=some o∧ROut S.T so o∧Agree s so.st∧(K so).run=some r
 o:∀ (ρ:Type) (o:Oper) (s:SSt S.T.den) (K:SSt S.T.den→Tr ρ) (r:ρ) (st:St),RS S.T s st→(exO S k ρ o s K).run=some r →
  ∃ s' st',runO S.C o st=some (.norm st')∧RS S.T s' st'∧Agree s s'∧(K s').run=some r
section
variable {T:Tys}{ρ:Type}
theorem trunc_state[Glob](hT:T.Ok){s:SSt T.den}{st:St}(h:RS T s st){v:SV T.den}{a:AV}{hp':SHeap T.den}{ahp':AHeap}{wh':List Nat}{js':List (Nat×LSt)}(g2:R T hp' v a)(g3:RH T hp' ahp')(g4:Grow s.hp hp')(g5:s.hp.length≤hp'.length)
  (g6:∀ n:Nat,n<s.hp.length→n∉wh'→hp'[n]?=s.hp[n]?) (g7:∀ n,n∈s.wh→n∈wh') (hj:JsOk js' hp' ahp') (hb:belowJ js' s.hp.length=true) :
  RS T ⟨s.fn,s.n,s.fr,truncS s.hp.length v hp',s.wf,wh',js'⟩ ⟨st.fn,st.fr,truncA s.hp.length a ahp'⟩∧Agree s ⟨s.fn,s.n,s.fr,truncS s.hp.length v hp',s.wf,wh',js'⟩∧R T (truncS s.hp.length v hp') v a:=by
 obtain⟨t1,t2⟩:=truncS_ok (n:=s.hp.length) hT g3 g2
 have hgrow:Grow s.hp (truncS s.hp.length v hp'):=by
  unfold truncS
  split
  ·intro n o ho
   obtain⟨o',h1,h2⟩:=g4 n o ho
   exact⟨o',by rw[take_getElem? (List.getElem?_eq_some_iff.1 ho).1]; exact h1,h2⟩
  ·exact g4
 have hkeep:∀ n:Nat,n<s.hp.length→n∉wh'→(truncS s.hp.length v hp')[n]?=s.hp[n]?:=by
  grind[truncS]
 have hlen:s.hp.length≤(truncS s.hp.length v hp').length:=by
  grind[truncS]
 have hjs:JsOk js' (truncS s.hp.length v hp') (truncA s.hp.length a ahp'):=by
  unfold truncS truncA
  rw[R.below g2,all_below hT (All2.take g3 _)]
  split
  ·exact hj.take (belowJ_lt hb)
  ·exact hj
 exact⟨⟨h.fn,h.n,fun t=>(h.fr t).mono hgrow,t1,hjs⟩,⟨rfl,rfl,fun _ _=>rfl,fun _ h=>h,hkeep,g7,hlen,hgrow⟩,t2⟩
theorem nilCellS_R[Glob]{H H':SHeap T.den}{esz j nm:Nat}{e e':SV T.den}{a:AV}(hr:R T H e a)(hx:∀ {v:SV T.den} {b:AV},R T H v b→R T H' v b)(hn:R T H' (.osl esz nm 0 none none) (.osl esz nm 0 0 0 none))(h:nilCellS esz j nm e=some e'):
  ∃ a',nilCell esz j nm a=some a'∧R T H' e' a':=by
 unfold nilCellS at h
 split at h
 ·rename_i l
  split at h
  case h_2=>simp at h
  rename_i hl
  simp only[Option.some.injEq]at h
  subst h
  simp only[R]at hr
  obtain⟨l',rfl,hl'⟩:=hr
  obtain⟨b,hb,hrb⟩:=All2.get (RL_iff.1 hl') hl
  simp only[R]at hrb
  subst hrb
  refine⟨.agg (l'.set j (.osl esz nm 0 0 0 none)),by simp only[nilCell,hb],?_⟩
  simp only[R]
  exact⟨_,rfl,RL_iff.2 (((RL_iff.1 hl').mono fun _ _ h=>hx h).set j hn)⟩
 ·split at h
  case isFalse=>simp at h
  rename_i hj
  simp only[Option.some.injEq]at h
  subst h
  simp only[R]at hr
  subst hr
  exact⟨_,by simp only[nilCell]; rw[if_pos hj],hn⟩
 ·simp at h
theorem hRO0[Glob]{H:SHeap T.den}:RO T H (.arr true true false 0 []) (.arr true true false []):=⟨[],rfl,by simp[RL],fun _=>rfl⟩
theorem own0_R{H:SHeap T.den}{esz nm:Nat}{g cl f:Bool}(h:H[nm]?=some (some (.arr g cl f 0 []))):R T H (.osl esz nm 0 none none) (.osl esz nm 0 0 0 none):=by
 simp only[R]
 exact⟨0,⟨_,h,Nat.le_refl _,fun _=>rfl⟩,rfl⟩
theorem nilK_ok[Glob](hT:T.Ok){d:Tmp}{r:ρ}{K:SSt T.den→Tr ρ}:∀ {l:List (Nat×Nat)} {s:SSt T.den} {st:St},RS T s st→(nilK d l s K).run=some r→∃ s',RS T s' (nilL d l st)∧Agree s s'∧(K s').run=some r
 |[],s,st,h,hk=>⟨s,h,Agree.refl _,hk⟩
 |(j,esz)::l,s,st,h,hk=>by
  have hlen:=h.hp.length
  unfold nilK at hk
  have hd:=h.fr d
  have hone:∀ {s':SSt T.den},RS T s' (nilOne d st j esz)→Agree s s'→(nilK d l s' K).run=some r→∃ s',RS T s' (nilL d ((j,esz)::l) st)∧Agree s s'∧(K s').run=some r:=by
   intro s' h1 h2 h3
   obtain⟨s2,i1,i2,i3⟩:=nilK_ok hT h1 h3
   exact⟨s2,i1,h2.trans i2,i3⟩
  split at hk
  ·rename_i n c i k he
   rw[he]at hd
   have hd:=hd.live rfl
   simp only[R]at hd
   obtain⟨ver,hd,hver⟩:=hd
   have hfr:st.fr[d]?=some (.ref n ver i k):=by
    grind
   split at hk
   case h_2=>simp[Tr.run]at hk
   rename_i g cl f cur es ho
   obtain⟨ao,ho',hro⟩:=h.hp.obj ho
   obtain⟨es',rfl,hes,hcl⟩:=hro
   split at hk
   case h_2=>simp[Tr.run]at hk
   rename_i e' he'
   obtain⟨e,he1,he2⟩:=Option.bind_eq_some_iff.1 he'
   obtain⟨ea,hea,hre⟩:=All2.get (RL_iff.1 hes) he1
   have hn:=(List.getElem?_eq_some_iff.1 ho).1
   have hnew:=h.hp.new (nm:=s.hp.length) (o':=.arr true true false 0 []) (a':=.arr true true false []) (.inl rfl) hRO0
   have e1:setObjS s.hp s.hp.length (.arr true true false 0 [])=s.hp++[some (.arr true true false 0 [])]:=by simp[setObjS]
   have e2:setObj st.hp s.hp.length (.arr true true false [])=st.hp++[some (.arr true true false [])]:=by simp[setObj,hlen]
   rw[e1,e2]at hnew
   obtain⟨hg1,hr1⟩:=hnew
   have hown:R T (s.hp++[some (.arr true true false 0 [])]) (.osl esz s.hp.length 0 none none) (.osl esz s.hp.length 0 0 0 none):=own0_R (g:=true) (cl:=true) (f:=false) (by simp)
   obtain⟨ea',h5,h6⟩:=nilCellS_R hre (fun h=>h.mono hg1) hown he2
   have ho2:(s.hp++[some (SObj.arr true true false 0 [])])[n]?=some (some (.arr g cl f cur es)):=by rw[List.getElem?_append_left hn]; exact ho
   have hset:RL T (s.hp++[some (.arr true true false 0 [])]) (es.set i e') (es'.set i ea'):=RL_iff.2 (((RL_iff.1 hes).mono fun _ _ h=>h.mono hg1).set i h6)
   obtain⟨hg2,hr2⟩:=hr1.upd ho2 (o':=.arr g false f cur (es.set i e')) (a':=.arr g false f (es'.set i ea')) (Nat.le_refl _) (fun _=>by simp[SObj.len]) ⟨_,rfl,hset,fun hc=>by simp at hc⟩
   have w1:applyWrS s.hp [(n,.arr g false f cur (es.set i e')),(s.hp.length,.arr true true false 0 [])]=(s.hp++[some (SObj.arr true true false 0 [])]).set n (some (SObj.arr g false f cur (es.set i e'))):=by
    have q1:setObjS s.hp n (.arr g false f cur (es.set i e'))=s.hp.set n (some (.arr g false f cur (es.set i e'))):=by unfold setObjS; rw[if_neg (by omega)]
    have q2:∀ (L:SHeap T.den) (o:SObj T.den),L.length=s.hp.length→setObjS L s.hp.length o=L++[some o]:=fun L o hL=>by unfold setObjS; rw[if_pos hL.symm]
    simp only[applyWrS]
    rw[q1,q2 _ _ (by simp),List.set_append_left _ _ hn]
   have w2:applyWr st.hp [(n,.arr g false f (es'.set i ea')),(s.hp.length,.arr true true false [])]=(st.hp++[some (AObj.arr true true false [])]).set n (some (AObj.arr g false f (es'.set i ea'))):=by
    have q1:setObj st.hp n (.arr g false f (es'.set i ea'))=st.hp.set n (some (.arr g false f (es'.set i ea'))):=by unfold setObj; rw[if_neg (by omega)]
    have q2:∀ (L:AHeap) (o:AObj),L.length=s.hp.length→setObj L s.hp.length o=L++[some o]:=fun L o hL=>by unfold setObj; rw[if_pos hL.symm]
    simp only[applyWr]
    rw[q1,q2 _ _ (by simp[hlen]),List.set_append_left _ _ (by omega)]
   rw[stepK_eq]at hk
   have hRE:RE T s.hp st.hp (.lit undef) [(n,.arr g false f cur (es.set i e')),(s.hp.length,.arr true true false 0 [])] ⟨.undef,[(n,.arr g false f (es'.set i ea')),(s.hp.length,.arr true true false [])]⟩:=by
    refine⟨RV_lit undef,by rw[w1,w2]; exact hr2,by rw[w1]; exact hg1.trans hg2,fun q hq=>?_,fun m hm hl=>?_,by rw[w1]; simp,fun m hm hc=>?_⟩
    ·grind
    ·grind
    ·simp at hc
     rcases hc with rfl|rfl
     ·simp[recAt,ho,SObj.isRec]at hm
     ·have:=recAt_lt hm; omega
   obtain⟨g8,g9⟩:=h.step hRE none
   refine hone (s':=s.step none (.lit undef) _) ?_ g9 hk
   have:nilOne d st j esz={ st with fr:=putA st.fr none AV.undef,hp:=applyWr st.hp [(n,.arr g false f (es'.set i ea')),(s.hp.length,.arr true true false [])] }:=by
    unfold nilOne
    rw[hlen]at h5
    simp only[hfr,ho',hea,Option.bind_some,h5,putA]
    rw[w2,List.set_append_left _ _ (by omega)]
   rw[this]
   exact g8
  ·rename_i hne
   split at hk
   case h_2=>simp[Tr.run]at hk
   rename_i v' hv'
   have hlive:isDead (getF s.fr d)=false:=by
    cases hq:getF s.fr d<;>first|rfl|(rw[hq]at hv'; simp[nilCellS]at hv')
   have hd:=hd.live hlive
   have hnew:=h.hp.new (nm:=s.hp.length) (o':=.arr true true false 0 []) (a':=.arr true true false []) (.inl rfl) hRO0
   have e1:setObjS s.hp s.hp.length (.arr true true false 0 [])=s.hp++[some (.arr true true false 0 [])]:=by simp[setObjS]
   have e2:setObj st.hp s.hp.length (.arr true true false [])=st.hp++[some (.arr true true false [])]:=by simp[setObj,hlen]
   have hnew':=hnew
   rw[e1,e2]at hnew
   obtain⟨hg1,hr1⟩:=hnew
   have hown:R T (s.hp++[some (.arr true true false 0 [])]) (.osl esz s.hp.length 0 none none) (.osl esz s.hp.length 0 0 0 none):=own0_R (g:=true) (cl:=true) (f:=false) (by simp)
   obtain⟨a',h5,h6⟩:=nilCellS_R hd (fun h=>h.mono hg1) hown hv'
   have hfr:st.fr[d]?=some (st.fr.getD d .undef):=by
    rw[List.getD_eq_getElem?_getD]at h5 ⊢
    cases hq:st.fr[d]? with
    |none=>simp_all[nilCell,AV.undef,Go.undef]
    |some x=>rfl
   have hnref:∀ n ver i k,st.fr.getD d .undef≠.ref n ver i k:=by
    intro n ver i k e
    rw[e]at h5
    simp[nilCell]at h5
   rw[stepK_eq]at hk
   have hRE:RE T s.hp st.hp v' [(s.hp.length,.arr true true false 0 [])] ⟨a',[(st.hp.length,.arr true true false [])]⟩:=by
    have w1:applyWrS s.hp [(s.hp.length,.arr true true false 0 [])]=s.hp++[some (.arr true true false 0 [])]:=e1
    have w2:applyWr st.hp [(st.hp.length,.arr true true false [])]=st.hp++[some (.arr true true false [])]:=by simp[applyWr,setObj]
    refine⟨.inr (by rw[w1]; exact h6),by rw[w1,w2]; exact hr1,by rw[w1]; exact hg1,fun q hq=>by simp at hq; subst hq; simp[hlen],fun m hm hl=>?_,by rw[w1]; simp,fun m hm hc=>?_⟩
    ·rw[w1,List.getElem?_append_left hl]
    ·simp at hc
     have:=recAt_lt hm; omega
   obtain⟨g8,g9⟩:=h.step hRE (some d)
   refine hone (s':=s.step (some d) v' _) ?_ g9 hk
   have:nilOne d st j esz={ st with fr:=putA st.fr (some d) a',hp:=applyWr st.hp [(st.hp.length,.arr true true false [])] }:=by
    unfold nilOne
    rw[hfr]
    rw[hlen]at h5
    split
    ·rename_i n ver i k he
     exact absurd (Option.some.inj he) (hnref n ver i k)
    ·rename_i e _ he
     have he:=Option.some.inj he
     rw[←he,h5]
     simp only[putA,applyWr,setObj,if_true]
    ·rename_i he; cases he
   rw[this]
   exact g8
theorem nilsK_ok[Glob](hT:T.Ok){l:Tmp→List (Nat×Nat)}{dst:Option Tmp}{r:ρ}{K:SSt T.den→Tr ρ}{s:SSt T.den}{st:St}(h:RS T s st)(hk:(nilsK l dst s K).run=some r):∃ s',RS T s' (nilsA l dst st)∧Agree s s'∧(K s').run=some r:=by
 cases dst with
 |none=>exact⟨s,h,Agree.refl _,hk⟩
 |some d=>exact nilK_ok hT h hk
theorem lookS_setJ{js:List (Nat×LSt)}{n m:Nat}{y:LSt}:lookS (setJ js n y) m=if m=n then (lookS js n).map (fun _=>y) else lookS js m:=by
 induction js with
 |nil=>simp[setJ,lookS]
 |cons q r ih=>
  obtain⟨k,x⟩:=q
  simp only[setJ,List.map_cons]at ih ⊢
  cases hk:Nat.beq k n with
  |true=>
   have:=Nat.eq_of_beq_eq_true hk
   subst this
   simp only[lookS]
   by_cases hm:m=k
   ·subst hm; simp
   ·have:Nat.beq k m=false:=by cases hb:Nat.beq k m; rfl; exact absurd (Nat.eq_of_beq_eq_true hb).symm hm
    rw[this,if_neg hm]
    simp only
    rw[ih,if_neg hm]
  |false=>
   simp only[lookS,hk]
   by_cases hm:m=n
   ·simp_all
   ·simp_all
theorem lookS_dropJ{js:List (Nat×LSt)}{n m:Nat}:lookS (dropJ js n) m=if m=n then none else lookS js m:=by
 induction js with
 |nil=>simp[dropJ,lookS]
 |cons q r ih=>
  obtain⟨k,x⟩:=q
  simp only[dropJ,List.filter_cons]at ih ⊢
  cases hk:Nat.beq k n with
  |true=>
   have:=Nat.eq_of_beq_eq_true hk
   subst this
   simp only[Bool.not_true,Bool.false_eq_true,if_false,ih,lookS]
   by_cases hm:m=k
   ·simp[hm]
   ·have:Nat.beq k m=false:=by cases hb:Nat.beq k m; rfl; exact absurd (Nat.eq_of_beq_eq_true hb).symm hm
    rw[this,if_neg hm]
  |false=>
   grind[lookS]
theorem rec_set[Glob]{H:SHeap T.den}{hp:AHeap}{js:List (Nat×LSt)}(hh:RH T H hp)(hj:JsOk js H hp){n:Nat}{x:LSt}(hn:lookS js n=some x)(y:LSt):RH T H (setSt hp n y)∧JsOk (setJ js n y) H (setSt hp n y):=by
 obtain⟨h1,h2⟩:=hj n x hn
 obtain⟨fn,ps,as,bd,fr,hr⟩:=loopSt_some h2
 have hlt:=(List.getElem?_eq_some_iff.1 hr).1
 have e:setSt hp n y=hp.set n (some (.oth (.loop fn ps as bd y) fr)):=by unfold setSt; rw[hr]
 rw[e]
 obtain⟨o,ho,hor⟩:∃ o,H[n]?=some (some o)∧o.isRec=true:=by
  grind[recAt]
 obtain⟨a,ha,hro⟩:=hh.obj ho
 rw[hr]at ha
 simp only[Option.some.injEq]at ha
 subst ha
 cases o<;>simp[SObj.isRec]at hor
 rename_i fn' ps' as' bd' fr'
 obtain⟨st,vs,he,hvs⟩:=hro
 cases he
 have hset:RH T H (hp.set n (some (.oth (.loop fn ps as bd y) fr))):=by
  have:=All2.set hh n (x:=some (.recd fn ps as bd fr')) (y:=some (AObj.oth (.loop fn ps as bd y) fr)) ⟨y,fr,rfl,hvs⟩
  rwa [set_same ho]at this
 refine⟨hset,fun m z hm=>?_⟩
 rw[lookS_setJ]at hm
 split at hm
 ·simp_all[loopSt]
 ·rename_i hne
  obtain⟨h3,h4⟩:=hj m z hm
  exact⟨h3,by rw[loopSt_eq (List.getElem?_set_ne (Ne.symm hne))]; exact h4⟩
theorem recS_get{den:Nat→Type}{u:List Nat}{fr:SFr den}:∀ {l:List Nat} {i:Nat},(recS u fr l)[i]?=(l[i]?).map fun d=>if u.contains d then getF fr d else .dead
 |[],i=>by simp[recS]
 |d::r,0=>by simp only[recS,List.getElem?_cons_zero,Option.map_some]; cases u.contains d<;>rfl
 |d::r,i+1=>by simp only[recS,List.getElem?_cons_succ]; exact recS_get
theorem recS_len{den:Nat→Type}{u:List Nat}{fr:SFr den}:∀ {l:List Nat},(recS u fr l).length=l.length
 |[]=>rfl
 |d::r=>by simp only[recS,List.length_cons,recS_len]
theorem keepF_get{u:List Nat}:∀ {fr:List AV} {i j:Nat},(keepF u i fr)[j]?=(fr[j]?).map fun x=>if u.contains (i+j) then x else .any
 |[],i,j=>by simp[keepF]
 |x::xs,i,0=>by simp[keepF]
 |x::xs,i,j+1=>by
  simp only[keepF,List.getElem?_cons_succ]
  rw[keepF_get,show i+1+j=i+(j+1) by omega]
theorem keepF_len{u:List Nat}:∀ {fr:List AV} {i:Nat},(keepF u i fr).length=fr.length
 |[],_=>rfl
 |x::xs,i=>by simp only[keepF,List.length_cons,keepF_len]
theorem rec_frame[Glob]{s:SSt T.den}{st:St}(h:RS T s st){as bd:Code}(hd:(usesC as++usesC bd).all (fun d=>!isDead (getF s.fr d)||!Nat.blt d s.n)=true):
  All2 (RD T s.hp) (recS (usesC as++usesC bd) s.fr (List.range s.n)) (recF as bd st.fr):=by
 unfold recF
 refine All2.of_get (by rw[recS_len,keepF_len,List.length_range,h.n]) fun i x y hx hy=>?_
 rw[recS_get,Option.map_eq_some_iff]at hx
 rw[keepF_get,Option.map_eq_some_iff]at hy
 obtain⟨d,hd1,rfl⟩:=hx
 obtain⟨a,ha,rfl⟩:=hy
 obtain⟨hi,rfl⟩:i<s.n∧i=d:=by
  grind
 rw[Nat.zero_add]
 cases hc:(usesC as++usesC bd).contains i with
 |false=>exact .inl ⟨rfl,rfl⟩
 |true=>
  right
  simp only[if_true]
  have hm:i∈usesC as++usesC bd:=by simpa using hc
  have:=List.all_eq_true.1 hd i hm
  have hb:Nat.blt i s.n=true:=Nat.ble_eq_true_of_le hi
  rw[hb]at this
  simp only[Bool.not_true,Bool.or_false,Bool.not_eq_true']at this
  have hv:=(h.fr i).live this
  rw[List.getD_eq_getElem?_getD,ha]at hv
  exact hv
theorem putArgs_R[Glob]{H:SHeap T.den}:∀ {ps:List Tmp} {xs:List (SV T.den)} {as:List AV} {n:Nat} {fr:SFr T.den} {fa:List AV},fa.length=n→(∀ t,RV T H (getF fr t) (fa.getD t .undef))→RL T H xs as →
  (putArgs fa ps as).length=n∧∀ t,RV T H (getF (putArgsS n fr ps xs) t) ((putArgs fa ps as).getD t .undef)
 |[],xs,as,n,fr,fa,hl,h,_=>by simpa[putArgs,putArgsS] using ⟨hl,h⟩
 |p::ps,[],[],n,fr,fa,hl,h,_=>by simpa[putArgs,putArgsS] using ⟨hl,h⟩
 |p::ps,x::xs,a::as,n,fr,fa,hl,h,hx=>by
  simp only[RL]at hx
  simp only[putArgs,putArgsS]
  refine putArgs_R (by simp[hl]) (fun t=>?_) hx.2
  rw[getF_set,getD_set,hl]
  split
  ·exact .inr hx.1
  ·exact h t
 |p::ps,[],_::_,_,_,_,_,_,h=>by simp[RL]at h
 |p::ps,_::_,[],_,_,_,_,_,h=>by simp[RL]at h
noncomputable def roundEnd(n:Nat)(dst:Option Tmp)(st:St):Out→Option Out
 |.norm s2=>endY n dst st true .ready s2.hp
 |.exit id s2=>endY n dst st false (.jump (some id)) s2.hp
 |.ret s2=>endY n dst st false (.jump none) s2.hp
 |_=>none
theorem endK_ok[Glob](hT:T.Ok){s s2:SSt T.den}{st st2:St}(h:RS T s st)(h2:RS T s2 st2)(hg:Grow s.hp s2.hp)(hl:s.hp.length≤s2.hp.length)(hk:∀ n:Nat,n<s.hp.length→n∉s2.wh→s2.hp[n]?=s.hp[n]?)(hw:∀ n,n∈s.wh→n∈s2.wh)
  {n:Nat} {dst:Option Tmp} {b:Bool} {x:LSt} {K:SSt T.den→Tr ρ} {r:ρ} (hr:(endK s n dst b x s2 K).run=some r) :
  ∃ s' st',endY n dst st b x st2.hp=some (.norm st')∧RS T s' st'∧Agree s s'∧(K s').run=some r:=by
 unfold endK at hr
 split at hr
 case h_2=>simp[Tr.run]at hr
 rename_i hb
 split at hr
 case h_2=>simp[Tr.run]at hr
 rename_i hbel
 rw[forceH_eq,stepK_eq]at hr
 obtain⟨_,hbusy⟩:=h2.js n _ hb
 obtain⟨r1,r2⟩:=rec_set h2.hp h2.js hb x
 have hbel':belowJ (setJ s2.js n x) s.hp.length=true:=by
  refine List.all_eq_true.2 fun q hq=>?_
  obtain⟨q0,hq0,e⟩:=List.mem_map.1 hq
  have:=List.all_eq_true.1 hbel q0 hq0
  split at e<;>(subst e; exact this)
 obtain⟨g1,g2,g3⟩:=trunc_state hT h (v:=.lit (.bool b)) (a:=.lit (.bool b)) (by simp[R]) r1 hg hl hk hw r2 hbel'
 obtain⟨g8,g9⟩:=g1.step (v:=.lit (.bool b)) (wr:=[]) (e:=⟨.lit (.bool b),[]⟩) ⟨RV_lit _,g1.hp,Grow.refl _,fun q hq=>by simp at hq,fun _ _ _=>rfl,Nat.le_refl _,fun _ _ h=>by simp at h⟩ dst
 refine⟨_,_,?_,g8,g2.trans g9,hr⟩
 unfold endY
 rw[hbusy,h.hp.length]
 rfl
end
def Back{den:Nat→Type}(H H':SHeap den):Prop:=∀ n:Nat,n<H.length→∀ o':SObj den,H'[n]?=some (some o')→∃ o:SObj den,H[n]?=some (some o)∧o.cur=o'.cur∧o.len=o'.len
theorem R.back[Glob]{T:Tys}{H H':SHeap T.den}(hb:Back H H'){v:SV T.den}{a:AV}(h:R T H' v a)(hv:belowS H.length v=true):R T H v a:=by
 refine(h.take hv).mono fun n o ho=>?_
 have hn:n<H.length:=by
  grind
 rw[List.getElem?_take_of_lt hn]at ho
 obtain⟨o',h1,h2,h3⟩:=hb n hn o ho
 exact⟨o',h1,by omega,fun _=>h3⟩
theorem RM.log_lt{α:Type}{hp:AHeap}:∀ {x:RM α} {a:α},x.run hp=some a→∀ n,n∈x.log hp→n<hp.length
 |.ret _,_,_,n,hn=>by simp[RM.log]at hn
 |.fail,_,h,_,_=>by simp[RM.run]at h
 |.get m k,a,h,n,hn=>by
  simp only[RM.run]at h
  split at h
  case h_2=>simp at h
  rename_i o ho
  simp only[RM.log,ho,List.mem_cons]at hn
  rcases hn with rfl|hn
  ·grind
  ·exact RM.log_lt h n hn
theorem Yld.over{hp:AHeap}{ov:Option (Nat×AObj)}{nw:List AObj}{α:Type}{x:RM α}{a:α}{rd:List Nat}(h:Yld (lookHp hp ov nw) x a rd):Yld hp (x.over hp.length ov nw) a rd:=by
 refine⟨by rw[(over_run x).1]; exact h.1,fun n hn=>?_⟩
 rw[(over_run x).2]at hn
 exact h.2 n (List.mem_filter.1 hn).1
theorem Yld.over'{hp:AHeap}{ov:Option (Nat×AObj)}{nw:List AObj}{α:Type}{x:RM α}{a:α}{rd:List Nat}(h:Yld (lookHp hp ov nw) x a rd):Yld hp (x.over hp.length ov nw) a (rd.filter fun n=>Nat.blt n hp.length):=by
 refine⟨by rw[(over_run x).1]; exact h.1,fun n hn=>?_⟩
 rw[(over_run x).2]at hn
 obtain⟨h1,h2⟩:=List.mem_filter.1 hn
 exact List.mem_filter.2 ⟨h.2 n h1,h2⟩
theorem Yld.filt{hp:AHeap}{α:Type}{x:RM α}{a:α}{rd:List Nat}(h:Yld hp x a rd):Yld hp x a (rd.filter fun n=>Nat.blt n hp.length):=by
 refine⟨h.1,fun n hn=>List.mem_filter.2 ⟨h.2 n hn,?_⟩⟩
 have:=RM.log_lt h.1 n hn
 simpa using this
theorem store_wr[Glob]{P:Program}{hp:AHeap}{ev:Operand→AV}{nm n ver i j:Nat}{dst:Option Tmp}{t:TypeId}{a x:Operand}{type:TypeId}{pos:String}{after:Array Edge}{guard:Option (Nat×Bool)}{e:Eff}
  (he:(opEff P nm ev ⟨dst,.store t a x,type,pos,after,guard⟩).run hp=some e) (ha:ev a=.ref n ver i j):∃ o',e.wr=[(n,o')]:=by
 simp only[opEff,storeA,ha]at he
 split at he
 ·simp[RM.run_fail]at he
 ·simp only[RM.run_bind]at he
  cases hq:(RM.arr n ver).run hp with
  |none=>rw[hq]at he; simp at he
  |some q=>
   rw[hq]at he
   simp only[Option.bind_some]at he
   split at he
   case h_2=>simp[RM.run_fail]at he
   split at he
   case h_2=>simp[RM.run_fail]at he
   split at he
   case isFalse=>simp[RM.run_fail]at he
   simp only[RM.run_pure,Option.some.injEq]at he
   subst he
   exact⟨_,rfl⟩
theorem loadA_log[Glob]{P:Program}{t:TypeId}{a:AV}{hp:AHeap}{n:Nat}(h:n∈(loadA P t a).log hp):n∈names a:=by
 unfold loadA at h
 split at h
 ·simp[RM.log]at h
 ·split at h
  ·rw[RM.log_bind]at h
   simp only[names]
   rcases List.mem_append.1 h with h|h
   ·grind[RM.log,RM.arr]
   ·exfalso
    split at h
    ·unfold RM.ofOpt at h
     repeat' (split at h)
     all_goals first|(simp[RM.log]at h; done)|skip
    ·simp at h
  ·unfold RM.ofOpt at h
   split at h<;>simp[RM.log]at h
  ·simp[RM.log]at h
theorem res_log[Glob]{T:Tys}{P:Program}{s:SSt T.den}{st:St}(h:RS T s st):∀ {rs:List ResultVar},resLive s.fr rs=true→∀ n,n∈(resultsL P st.fr rs).log st.hp→n∈resRd s.fr rs
 |[],_,n,hn=>by simp[resultsL,pure,RM.log]at hn
 |r::rs,hl,n,hn=>by
  unfold resLive at hl
  simp only[List.all_cons,Bool.and_eq_true]at hl
  have ih:=res_log (P:=P) h (rs:=rs) (by unfold resLive; exact hl.2) n
  simp only[resultsL,RM.log_bind]at hn
  unfold resRd
  rw[List.flatMap_cons]
  rcases List.mem_append.1 hn with hn|hn
  ·refine List.mem_append.2 (.inl ?_)
   cases r with
   |tmp t=>simp[resultA,pure,RM.log]at hn
   |cell a t=>
    simp only[resultA]at hn
    have hd:isDead (getF s.fr a)=false:=by simpa using hl.1
    have:=loadA_log hn
    rw[←R.names ((h.fr a).live hd)]at this
    exact this
  ·split at hn
   ·rcases List.mem_append.1 hn with hn|hn
    ·exact List.mem_append.2 (.inr (ih hn))
    ·split at hn
     ·simp[pure,RM.log]at hn
     ·simp at hn
   ·simp at hn
theorem hole_any[Glob]{T:Tys}{H:SHeap T.den}:∀ {l:List (SV T.den)} {m:List AV},All2 (R T H) l m→l.all isHole=true→m.all isAny=true
 |[],[],_,_=>rfl
 |x::xs,y::ys,h,hl=>by
  simp only[List.all_cons,Bool.and_eq_true]at hl ⊢
  refine⟨?_,hole_any h.2 hl.2⟩
  have h1:=h.1
  have h2:=hl.1
  unfold isHole at h2
  split at h2
  ·simp only[R]at h1
   rw[h1]; rfl
  ·simp at h2
theorem peekOS_ok[Glob]{T:Tys}(hT:T.Ok){Q:Prg}(hQ:Q.Ok)(hZ:T.Zeros Q){ops:Array Oper}{hp:AHeap}{H:SHeap T.den}(hH:H.length=hp.length){ρ:Type}{r:ρ}{f:FuncId}:
  ∀ (l:List Oper) (s:SSt T.den) (q:Look) (ov:Option Nat) (rd:List Nat) (K:SSt T.den→Option Nat→List Nat→Tr ρ),RS T s ⟨f,q.fr,lookHp hp q.ov q.nw⟩→ov=q.ov.map (·.1)→(∀ n o,q.ov=some (n,o)→∃ o0,hp[n]?=some (some o0))→Back H s.hp →
  (peekOS Q hp.length l s ov rd K).run=some r →
  ∃ s' ov' rd2 q',Yld hp (peekO Q.P hp.length ops l q) q' rd2∧RS T s' ⟨f,q'.fr,lookHp hp q'.ov q'.nw⟩∧ov'=q'.ov.map (·.1)∧(∀ n o,q'.ov=some (n,o)→∃ o0,hp[n]?=some (some o0))∧Back H s'.hp∧(K s' ov' (rd++rd2)).run=some r
 |[],s,q,ov,rd,K,h,hov,hex,hb,hk=>⟨s,ov,[],q,Yld.pure _,h,hov,hex,hb,by rw[List.append_nil]; exact hk⟩
 |o::l,s,q,ov,rd,K,h,hov,hex,hb,hk=>by
  simp only[peekOS]at hk
  split at hk
  ·simp[Tr.run]at hk
  rename_i hg
  have hw:wantedA ops q.fr o=some true:=by simp[wantedA,hg]
  split at hk
  ·simp[Tr.run]at hk
  ·rename_i hop
   rw[stepK_eq]at hk
   have he:RE T s.hp (lookHp hp q.ov q.nw) (.lit nilSl) [] ⟨.lit nilSl,[]⟩:=⟨RV_lit _,h.hp,Grow.refl _,fun q h=>by simp at h,fun _ _ _=>rfl,Nat.le_refl _,fun _ _ h=>by simp at h⟩
   obtain⟨g1,_⟩:=h.step he o.dst
   obtain⟨s',ov',rd2,q',i1,i2,i3,i4,i5,hk⟩:=peekOS_ok hT hQ hZ (ops:=ops) hH l _ { q with fr:=putA q.fr o.dst (.lit nilSl) } ov rd K g1 hov hex (by simpa[SSt.step,applyWrS] using hb) hk
   refine⟨s',ov',rd2,q',?_,i2,i3,i4,i5,hk⟩
   simp only[peekO,hw,hop]
   cases hd:o.dst with
   |none=>rw[hd]at i1; exact i1
   |some d=>rw[hd]at i1; exact i1
  ·rename_i hn1 hn2
   have hlen:s.hp.length=hp.length+q.nw.length:=h.hp.length.trans lookHp_len
   obtain⟨v,wr,rd',e,g1,g2,hk⟩:=opS_ok hT hQ hZ h.hp (.inl rfl) (fun x=>h.ev x) hk
   simp only at hk
   rw[hlen]at g1
   have e1:peekO Q.P hp.length ops (o::l) q=((opEff Q.P (hp.length+q.nw.length) (evalA q.fr) o).over hp.length q.ov q.nw >>= fun e=>match e.wr.all fun q=>Nat.ble hp.length q.1 with
     |true=>peekO Q.P hp.length ops l { q with fr:=putA q.fr o.dst e.val,nw:=setNws hp.length q.nw e.wr }
     |false=>(match q.ov,e.wr with
      |none,[(n,o')]=>.get n fun o0=>(match holeSt Q.P (evalA q.fr) o.op n o0 with
        |true=>peekO Q.P hp.length ops l { q with fr:=putA q.fr o.dst e.val,ov:=some (n,o') }
        |false=>.fail)
      |_,_=>.fail)):=by
    simp only[peekO,hw]
    rfl
   rw[e1]
   split at hk
   ·rename_i hall
    rw[stepK_eq]at hk
    obtain⟨g3,_⟩:=h.step g2 o.dst
    have hall':e.wr.all (fun q=>Nat.ble hp.length q.1)=true:=by
     refine List.all_eq_true.2 fun x hx=>?_
     obtain⟨y,hy,hyx⟩:=List.mem_map.1 (g2.names x hx)
     have:=List.all_eq_true.1 hall y hy
     rw[←hyx]; exact this
    rw[lookHp_news e.wr fun x hx=>Nat.le_of_ble_eq_true (List.all_eq_true.1 hall' x hx)]at g3
    have hb':Back H (s.step o.dst v wr).hp:=by
     intro n hn o' ho'
     refine hb n hn o' ?_
     have:n∉wr.map (·.1):=by
      intro hm
      obtain⟨y,hy,rfl⟩:=List.mem_map.1 hm
      have:=Nat.le_of_ble_eq_true (List.all_eq_true.1 hall y hy)
      omega
     rw[←g2.keep n this (by omega)]
     exact ho'
    obtain⟨s',ov',rd2,q',i1,i2,i3,i4,i5,hk⟩:=peekOS_ok hT hQ hZ (ops:=ops) hH l _ { q with fr:=putA q.fr o.dst e.val,nw:=setNws hp.length q.nw e.wr } ov (rd++rd') K g3 hov hex hb' hk
    refine⟨s',ov',rd'++rd2,q',?_,i2,i3,i4,i5,by rw[←List.append_assoc]; exact hk⟩
    refine Yld.bind g1.over ?_
    simp only[hall']
    exact i1
   ·split at hk
    case h_2=>simp[Tr.run]at hk
    rename_i n o' hall hov0
    split at hk
    case h_2=>simp[Tr.run]at hk
    rename_i hh
    rw[Bool.and_eq_true]at hh
    obtain⟨hlt,hst⟩:=hh
    have hlt:n<hp.length:=by simpa using hlt
    have hqov:q.ov=none:=by
     cases hq:q.ov with
     |none=>rfl
     |some x=>rw[hq]at hov; simp at hov
    unfold holeStS at hst
    split at hst
    case h_2=>simp at hst
    rename_i t a x hop
    split at hst
    case h_2=>simp at hst
    rename_i r0 n' c i j g f cur es hty hea hob
    split at hst
    case h_2=>simp at hst
    rename_i l0 hl0
    simp only[Bool.and_eq_true]at hst
    obtain⟨⟨⟨⟨c1,c2⟩,c3⟩,c4⟩,c5⟩:=hst
    obtain rfl:=Nat.eq_of_beq_eq_true c1
    have hva:=h.ev a
    rw[hea]at hva
    have hva:=hva.live rfl
    simp only[R]at hva
    obtain⟨ver,hva,_⟩:=hva
    obtain⟨dst,op,type,pos,after,guard⟩:=o
    simp only at hop
    subst hop
    obtain⟨o'',hwr⟩:=store_wr g1.1 hva
    obtain⟨ao,ho1,hro⟩:=h.hp.obj hob
    obtain⟨es',rfl,hes,_⟩:=hro
    obtain⟨l1,hl1,hrl⟩:=All2.get (RL_iff.1 hes) hl0
    simp only[R]at hrl
    obtain⟨l',rfl,hrl⟩:=hrl
    rw[hqov]at ho1
    have ho2:hp[n']?=some (some (.arr g false f es')):=by
     grind[lookHp,ovHp]
    obtain⟨r1,hr1,_,hsz,_⟩:=hQ.row _ _ hty
    have hhole:holeSt Q.P (evalA q.fr) (.store t a x) n' (.arr g false f es')=true:=by
     simp only[holeSt,hr1,hva,hl1,Bool.and_eq_true]
     refine⟨⟨c1,?_⟩,?_⟩
     ·rw[←All2.length (RL_iff.1 hrl),hsz]; exact c2
     ·rw[hsz]
      exact hole_any (((RL_iff.1 hrl).drop j).take r0.size) c3
    have hall':e.wr.all (fun q=>Nat.ble hp.length q.1)=false:=by
     simp_all
    rw[stepK_eq]at hk
    obtain⟨g3,_⟩:=h.step g2 dst
    simp only at g3
    rw[hwr,hqov,lookHp_set ho2]at g3
    have hb':Back H (s.step dst v [(n',o')]).hp:=by
     intro m hm om hom
     by_cases e:m=n'
     ·subst e
      have hom':(applyWrS s.hp [(m,o')])[m]?=some (some om):=hom
      simp only[applyWrS,setObjS]at hom'
      rw[if_neg (by omega),List.getElem?_set_self (by omega)]at hom'
      simp only[Option.some.injEq]at hom'
      subst hom'
      obtain⟨o1,b1,b2,b3⟩:=hb m hm _ hob
      refine⟨o1,b1,b2.trans (Nat.eq_of_beq_eq_true c4),b3.trans (Nat.eq_of_beq_eq_true c5)⟩
     ·refine hb m hm om ?_
      rw[←g2.keep m (by simpa using e) (by omega)]
      exact hom
    obtain⟨s',ov',rd2,q',i1,i2,i3,i4,i5,hk⟩:=peekOS_ok hT hQ hZ (ops:=ops) hH l _ { q with fr:=putA q.fr dst e.val,ov:=some (n',o'') } (some n') (rd++(rd'++[n'])) K g3 rfl
     (fun m om hm=>by simp only[Option.some.injEq,Prod.mk.injEq]at hm; obtain⟨rfl,rfl⟩:=hm; exact⟨_,ho2⟩) hb' hk
    refine⟨s',ov',rd'++(n'::rd2),q',?_,i2,i3,i4,i5,by simpa using hk⟩
    refine Yld.bind g1.over ?_
    rw[hwr]at hall'
    simp only[hwr,hall',hqov]
    refine Yld.get ho2 ?_
    simp only[hhole]
    exact i1
theorem peekCS_ok[Glob]{T:Tys}(hT:T.Ok){Q:Prg}(hQ:Q.Ok)(hZ:T.Zeros Q){hp:AHeap}{H:SHeap T.den}(hH:H.length=hp.length){ρ:Type}{r:ρ}{f:FuncId}:
  ∀ (c:Code) (s:SSt T.den) (q:Look) (ov:Option Nat) (rd:List Nat) (K:Bool→SSt T.den→Option Nat→List Nat→Tr ρ),RS T s ⟨f,q.fr,lookHp hp q.ov q.nw⟩→ov=q.ov.map (·.1)→(∀ n o,q.ov=some (n,o)→∃ o0,hp[n]?=some (some o0))→Back H s.hp →
  (peekCS Q hp.length c s ov rd K).run=some r →
  ∃ b s' ov' rd2 q',Yld hp (peekC Q.P hp.length c q) (q',b) rd2∧RS T s' ⟨f,q'.fr,lookHp hp q'.ov q'.nw⟩∧ov'=q'.ov.map (·.1)∧(∀ n o,q'.ov=some (n,o)→∃ o0,hp[n]?=some (some o0))∧Back H s'.hp∧(K b s' ov' (rd++rd2)).run=some r:=by
 intro c
 induction c with
 |skip=>intro s q ov rd K h hov hex hb hk; exact⟨false,s,ov,[],q,Yld.pure _,h,hov,hex,hb,by rw[List.append_nil]; exact hk⟩
 |ret=>intro s q ov rd K h hov hex hb hk; exact⟨true,s,ov,[],q,Yld.pure _,h,hov,hex,hb,by rw[List.append_nil]; exact hk⟩
 |seq a b iha ihb=>
  intro s q ov rd K h hov hex hb hk
  simp only[peekCS]at hk
  obtain⟨z,s1,ov1,rd1,q1,g1,g2,g3,g4,g5,hk⟩:=iha s q ov rd _ h hov hex hb hk
  cases z with
  |true=>exact⟨true,s1,ov1,rd1++[],q1,by simp only[peekC]; exact Yld.bind g1 (Yld.pure _),g2,g3,g4,g5,by rw[List.append_nil]; exact hk⟩
  |false=>
   obtain⟨z,s2,ov2,rd2,q2,i1,i2,i3,i4,i5,hk⟩:=ihb s1 q1 ov1 _ K g2 g3 g4 g5 hk
   exact⟨z,s2,ov2,rd1++rd2,q2,by simp only[peekC]; exact Yld.bind g1 i1,i2,i3,i4,i5,by rw[←List.append_assoc]; exact hk⟩
 |region id ops draw=>
  intro s q ov rd K h hov hex hb hk
  cases draw with
  |true=>simp[peekCS,Tr.run]at hk
  |false=>
   simp only[peekCS]at hk
   obtain⟨s',ov',rd2,q',g1,g2,g3,g4,g5,hk⟩:=peekOS_ok hT hQ hZ (ops:=ops) hH ops.toList s q ov rd _ h hov hex hb hk
   exact⟨false,s',ov',rd2++[],q',by simp only[peekC]; exact Yld.bind g1 (Yld.pure _),g2,g3,g4,g5,by rw[List.append_nil]; exact hk⟩
 |_=>intro s q ov rd K h hov hex hb hk; simp[peekCS,Tr.run]at hk
section
variable {T:Tys}
theorem All2.set_left{α β:Type}{P:α→β→Prop}:∀ {l:List α} {m:List β},All2 P l m→∀ {i:Nat} {x:α} {y:β},m[i]?=some y→P x y→All2 P (l.set i x) m
 |_::_,_::_,h,0,x,y,hy,hp=>by simp at hy; subst hy; exact⟨hp,h.2⟩
 |_::_,_::_,h,i+1,x,y,hy,hp=>⟨h.1,All2.set_left h.2 (by simpa using hy) hp⟩
 |[],[],_,_,_,_,hy,_=>by simp at hy
theorem obj_again[Glob]{s:SSt T.den}{st:St}(h:RS T s st){n:Nat}{o o':SObj T.den}(ho:s.hp[n]?=some (some o))(hc:o'.cur=o.cur)(hl:o'.len=o.len)(hrec:o.isRec=false)
  (hr:∀ a,RO T s.hp o a→RO T s.hp o' a):RS T { s with hp:=s.hp.set n (some o'),wh:=n::s.wh } st∧Agree s { s with hp:=s.hp.set n (some o'),wh:=n::s.wh }:=by
 have hn:=(List.getElem?_eq_some_iff.1 ho).1
 obtain⟨a,ha,hra⟩:=h.hp.obj ho
 have hg:Grow s.hp (s.hp.set n (some o')):=by
  intro m x hm
  by_cases e:m=n
  ·simp_all
  ·grind
 refine⟨⟨h.fn,h.n,fun t=>(h.fr t).mono hg,?_,h.js.keep fun m hm=>⟨?_,rfl⟩⟩,⟨rfl,rfl,fun _ _=>rfl,fun _ h=>h,fun m hm hw=>?_,fun m hm=>List.mem_cons_of_mem _ hm,by simp,hg⟩⟩
 ·exact All2.set_left (All2.mono (fun _ _ h=>ROo.mono hg h) h.hp) (y:=some a) ha (ROo.mono hg (show ROo T s.hp (some o') (some a) from hr a hra))
 ·have hne:m≠n:=by
   grind[recAt]
  rw[List.getElem?_set_ne (Ne.symm hne)]
 ·simp only at hw ⊢
  rw[List.getElem?_set_ne (fun e=>hw (by rw[e]; simp))]
theorem slot_again[Glob]{s:SSt T.den}{st:St}(h:RS T s st){d:Nat}{v:SV T.den}(hr:∀ a,R T s.hp (getF s.fr d) a→R T s.hp v a)(hd:isDead (getF s.fr d)=false):
  RS T { s with fr:=setF s.n s.fr d v,wf:=d::s.wf } st∧Agree s { s with fr:=setF s.n s.fr d v,wf:=d::s.wf }:=by
 refine⟨⟨h.fn,h.n,fun t=>?_,h.hp,h.js⟩,⟨rfl,rfl,fun t ht=>?_,fun t ht=>List.mem_cons_of_mem _ ht,fun _ _ _=>rfl,fun _ h=>h,Nat.le_refl _,Grow.refl _⟩⟩
 ·simp only
  rw[getF_set]
  split
  ·rename_i e
   rw[e.1]
   exact .inr (hr _ ((h.fr d).live hd))
  ·exact h.fr t
 ·simp only at ht ⊢
  rw[getF_set,if_neg]
  exact fun e=>ht (by rw[e.1]; simp)
theorem setCell_ok[Glob]{s:SSt T.den}{st:St}(h:RS T s st){d j:Nat}{v v':SV T.den}(hc:cellOf s d j=some v)(hd:isDead v=false)(hr:∀ a,R T s.hp v a→R T s.hp v' a)(hcl:closedS v'=true):
  RS T (setCell s d j v') st∧Agree s (setCell s d j v'):=by
 unfold cellOf at hc
 unfold setCell
 split at hc
 ·rename_i n c i k he
  split at hc
  case h_2=>simp at hc
  rename_i g cl f cur es ho
  split at hc
  case h_2=>simp at hc
  rename_i l hl
  refine obj_again h ho rfl (by simp[SObj.len]) rfl fun a ha=>?_
  obtain⟨es',rfl,h1,h2⟩:=ha
  obtain⟨ea,h3,h4⟩:=All2.get (RL_iff.1 h1) hl
  simp only[R]at h4
  obtain⟨l',rfl,h5⟩:=h4
  obtain⟨b,h6,h7⟩:=All2.get (RL_iff.1 h5) hc
  refine⟨es',rfl,RL_iff.2 (All2.set_left (RL_iff.1 h1) h3 ?_),fun hclt=>?_⟩
  ·simp only[R]
   exact⟨l',rfl,RL_iff.2 (All2.set_left (RL_iff.1 h5) h6 (hr _ h7))⟩
  ·have h8:=h2 hclt
   rw[closedLS_all,List.all_eq_true]at h8 ⊢
   intro x hx
   rcases List.mem_or_eq_of_mem_set hx with hx|rfl
   ·exact h8 x hx
   ·have h9:=h8 _ (List.mem_of_getElem? hl)
    simp only[closedS]at h9 ⊢
    rw[closedLS_all,List.all_eq_true]at h9 ⊢
    intro y hy
    rcases List.mem_or_eq_of_mem_set hy with hy|rfl
    ·exact h9 y hy
    ·exact hcl
 ·rename_i l he
  refine slot_again h (fun a ha=>?_) (by rw[he]; rfl)
  rw[he]at ha
  simp only[R]at ha ⊢
  obtain⟨l',rfl,h5⟩:=ha
  obtain⟨b,h6,h7⟩:=All2.get (RL_iff.1 h5) hc
  exact⟨l',rfl,RL_iff.2 (All2.set_left (RL_iff.1 h5) h6 (hr _ h7))⟩
 ·rename_i h1 h2
  split at hc
  case h_2=>simp at hc
  simp only[Option.some.injEq]at hc
  subst hc
  exact slot_again h hr hd
theorem numK_run{ρ:Type}{r:ρ}{n:Int}{K:Int→Tr ρ}:∀ {b m:Nat},(numK b m n K).run=some r→∃ m':Nat,n=Int.ofNat m'∧(K (Int.ofNat m')).run=some r
 |0,m,h=>by simp[numK,Tr.run]at h
 |b+1,m,h=>by
  simp only[numK,Tr.run]at h
  cases hb:n==Int.ofNat m with
  |true=>
   rw[hb]at h
   exact⟨m,eq_of_beq hb,h⟩
  |false=>
   rw[hb]at h
   exact numK_run h
theorem drop_split{α:Type}:∀ {l:List α} {i:Nat} {x:α},l[i]?=some x→l.drop i=x::l.drop (i+1)
 |y::ys,0,x,h=>by simp at h; subst h; simp
 |y::ys,i+1,x,h=>by simp at h ⊢; exact drop_split h
 |[],i,x,h=>by simp at h
theorem listK_run[Glob]{ρ:Type}{r:ρ}{t:Nat}{l:List (T.den t)}:∀ {n i:Nat} {K:List (SV T.den)→Tr ρ},(listK t l n i K).run=some r→∃ xs:List (T.den t),xs.length=n∧(l.drop i).take n=xs∧(K (xs.map (T.up t))).run=some r
 |0,i,K,h=>⟨[],rfl,by simp,h⟩
 |n+1,i,K,h=>by
  simp only[listK,Tr.run,Option.bind_eq_some_iff]at h
  obtain⟨x,hx,h⟩:=h
  obtain⟨xs,h1,h2,h3⟩:=listK_run h
  refine⟨x::xs,by simp[h1],?_,h3⟩
  rw[drop_split hx,List.take_succ_cons,h2]
theorem upAll[Glob](hT:T.Ok){H:SHeap T.den}{t:Nat}:∀ {l:List (T.den t)} {m:List AV},All2 (T.rp t) l m→RL T H (l.map (T.up t)) m∧closedLS (l.map (T.up t))=true
 |[],[],_=>by simp[RL,closedLS]
 |x::xs,y::ys,h=>by
  obtain⟨h1,h2⟩:=upAll hT (H:=H) h.2
  simp only[List.map_cons,RL,closedLS,Bool.and_eq_true]
  exact⟨⟨hT.up _ _ _ H h.1,h1⟩,up_closed hT h.1,h2⟩
theorem twOne_ok[Glob](hT:T.Ok){ρ:Type}{r:ρ}{w:Tw}{K:SSt T.den→Tr ρ}{s:SSt T.den}{st:St}(h:RS T s st)(hk:(twOne s w K).run=some r):∃ s',RS T s' st∧Agree s s'∧(K s').run=some r:=by
 cases w with
 |num d j b=>
  simp only[twOne]at hk
  split at hk
  case h_2=>simp[Tr.run]at hk
  rename_i k n hc
  obtain⟨m,rfl,hk2⟩:=numK_run hk
  clear hk
  have hk:=hk2
  rw[force_eq]at hk
  obtain⟨h1,h2⟩:=setCell_ok h hc rfl (v':=.lit (.int k (Int.ofNat m))) (fun a ha=>ha) rfl
  exact⟨_,h1,h2,hk⟩
 |lst d j n=>
  simp only[twOne]at hk
  split at hk
  case h_2=>simp[Tr.run]at hk
  rename_i t l hc
  obtain⟨g1,hk⟩:=guard_some hk
  simp only[Bool.and_eq_true,decide_eq_true_eq]at g1
  obtain⟨g0,g1⟩:=g1
  have g0:0<n:=by simpa using g0
  obtain⟨xs,e1,e2,hk⟩:=listK_run hk
  rw[List.drop_zero,←g1,List.take_length]at e2
  subst e2
  rw[force_eq]at hk
  have hcl:closedS (.sl (l.map (T.up t)):SV T.den)=true:=rfl
  obtain⟨h1,h2⟩:=setCell_ok h hc rfl (v':=.sl (l.map (T.up t))) (fun a ha=>by
   simp only[R]at ha ⊢
   rcases ha with ⟨l',rfl,ha⟩|⟨rfl,_⟩
   ·obtain⟨b1,b2⟩:=upAll hT (H:=s.hp) ha
    exact⟨l',rfl,b1,b2⟩
   ·simp at g1; omega) hcl
  exact⟨_,h1,h2,hk⟩
 |arr d n=>
  simp only[twOne]at hk
  split at hk
  case h_2=>simp[Tr.run]at hk
  split at hk
  case h_2=>simp[Tr.run]at hk
  rename_i g f cur t l ho
  obtain⟨g1,hk⟩:=guard_some hk
  simp only[decide_eq_true_eq]at g1
  obtain⟨xs,e1,e2,hk⟩:=listK_run hk
  rw[List.drop_zero,←g1,List.take_length]at e2
  subst e2
  rw[force_eq]at hk
  obtain⟨h1,h2⟩:=obj_again h ho (o':=.arr g true f cur (l.map (T.up t))) rfl (by simp[SObj.len]) rfl (fun a ha=>by
   obtain⟨es',rfl,ha⟩:=ha
   obtain⟨b1,b2⟩:=upAll hT (H:=s.hp) ha
   exact⟨es',rfl,b1,fun _=>b2⟩)
  exact⟨_,h1,h2,hk⟩
 |int d j=>
  simp only[twOne]at hk
  split at hk
  case h_2=>simp[Tr.run]at hk
  rename_i k n hc
  simp only[Tr.run,Option.bind_some]at hk
  rw[force_eq]at hk
  obtain⟨h1,h2⟩:=setCell_ok h hc rfl (v':=.lit (.int k n)) (fun a ha=>ha) rfl
  exact⟨_,h1,h2,hk⟩
 |name d=>
  simp only[twOne]at hk
  split at hk
  case h_2=>simp[Tr.run]at hk
  rename_i esz nm c rg cap hd
  split at hk
  case h_2=>simp[Tr.run]at hk
  rename_i g f cur t l ho
  simp only[Tr.run,Option.bind_some]at hk
  obtain⟨h1,h2⟩:=obj_again h ho (o':=.tarr g f cur t l) rfl rfl rfl (fun a ha=>ha)
  split at hk
  ·rw[force_eq]at hk
   exact⟨_,h1,h2,hk⟩
  ·rename_i off len
   simp only[Tr.run,Option.bind_some]at hk
   rw[force_eq]at hk
   obtain⟨h3,h4⟩:=slot_again h1 (d:=d) (v:=.osl esz nm c (some (off,len)) cap) (fun a ha=>by simp only[hd]at ha; exact ha) (by simp only[hd]; rfl)
   exact⟨_,h3,h2.trans h4,hk⟩
theorem twL_ok[Glob](hT:T.Ok){ρ:Type}{r:ρ}{K:SSt T.den→Tr ρ}{st:St}:∀ {l:List Tw} {s:SSt T.den},RS T s st→(twL l s K).run=some r→∃ s',RS T s' st∧Agree s s'∧(K s').run=some r
 |[],s,h,hk=>⟨s,h,Agree.refl _,hk⟩
 |w::l,s,h,hk=>by
  obtain⟨s1,h1,h2,hk⟩:=twOne_ok hT h hk
  obtain⟨s2,h3,h4,hk⟩:=twL_ok hT h1 hk
  exact⟨s2,h3,h2.trans h4,hk⟩
theorem twK_ok[Glob](hT:T.Ok){ρ:Type}{r:ρ}{l:Tmp→List Tw}{dst:Option Tmp}{K:SSt T.den→Tr ρ}{s:SSt T.den}{st:St}(h:RS T s st)(hk:(twK l dst s K).run=some r):∃ s',RS T s' st∧Agree s s'∧(K s').run=some r:=by
 cases dst with
 |none=>exact⟨s,h,Agree.refl _,hk⟩
 |some d=>exact twL_ok hT h hk
end
theorem holesK_ok[Glob]{T:Tys}{ρ:Type}{r:ρ}{K:SSt T.den→Tr ρ}:∀ {l:List (Nat×Nat)} {s:SSt T.den} {st:St},RS T s st→(holesK l s K).run=some r→∃ s',RS T s' (holesA l st)∧Agree s s'∧(K s').run=some r
 |[],s,st,h,hk=>⟨s,h,Agree.refl _,hk⟩
 |(d,j)::l,s,st,h,hk=>by
  unfold holesK at hk
  have hd:=h.fr d
  split at hk
  case h_2=>simp[Tr.run]at hk
  rename_i n c i k he
  rw[he]at hd
  have hd:=hd.live rfl
  simp only[R]at hd
  obtain⟨ver,hd,hver⟩:=hd
  split at hk
  case h_2=>simp[Tr.run]at hk
  rename_i g cl f cur es ho
  obtain⟨ao,ho',hro⟩:=h.hp.obj ho
  obtain⟨es',rfl,hes,hcl⟩:=hro
  split at hk
  case h_2=>simp[Tr.run]at hk
  rename_i e' he'
  obtain⟨e,he1,he2⟩:=Option.bind_eq_some_iff.1 he'
  obtain⟨ea,hea,hre⟩:=All2.get (RL_iff.1 hes) he1
  unfold holeCellS at he2
  split at he2
  case h_2=>simp at he2
  rename_i l0
  split at he2
  case h_2=>simp at he2
  rename_i hjl
  simp only[Option.some.injEq]at he2
  subst he2
  simp only[R]at hre
  obtain⟨l',rfl,hrl⟩:=hre
  have hn:=(List.getElem?_eq_some_iff.1 ho).1
  have hjl':Nat.blt (k+j) l'.length=true:=by rw[←All2.length (RL_iff.1 hrl)]; exact hjl
  have hone:holeOne st d j={ st with hp:=st.hp.set n (some (.arr g false f (es'.set i (.agg (l'.set (k+j) .any))))) }:=by
   unfold holeOne
   rw[hd]
   simp only[ho',hea,Option.bind_some,holeCell,hjl']
  rw[stepK_eq]at hk
  have hg:Grow s.hp (s.hp.set n (some (.arr g false f cur (es.set i (.agg (l0.set (k+j) .hole)))))):=by
   intro m o hm
   by_cases e:m=n
   ·subst e
    rw[ho]at hm
    simp only[Option.some.injEq]at hm
    subst hm
    exact⟨_,List.getElem?_set_self hn,Nat.le_refl _,fun _=>by simp[SObj.len]⟩
   ·grind
  have hro:RO T (s.hp.set n (some (.arr g false f cur (es.set i (.agg (l0.set (k+j) .hole)))))) (.arr g false f cur (es.set i (.agg (l0.set (k+j) .hole)))) (.arr g false f (es'.set i (.agg (l'.set (k+j) .any)))):=by
   refine⟨_,rfl,RL_iff.2 (((RL_iff.1 hes).mono fun _ _ h=>h.mono hg).set i ?_),fun h=>by cases h⟩
   simp only[R]
   exact⟨_,rfl,RL_iff.2 (((RL_iff.1 hrl).mono fun _ _ h=>h.mono hg).set (k+j) (by simp[R]))⟩
  have hset:applyWrS s.hp [(n,.arr g false f cur (es.set i (.agg (l0.set (k+j) .hole))))]=s.hp.set n (some (.arr g false f cur (es.set i (.agg (l0.set (k+j) .hole))))):=by
   grind[applyWrS,setObjS]
  have hseta:applyWr st.hp [(n,.arr g false f (es'.set i (.agg (l'.set (k+j) .any))))]=st.hp.set n (some (.arr g false f (es'.set i (.agg (l'.set (k+j) .any))))):=by
   simp only[applyWr]
   exact setObj_lt (List.getElem?_eq_some_iff.1 ho').1
  have hE:RE T s.hp st.hp (.lit undef) [(n,.arr g false f cur (es.set i (.agg (l0.set (k+j) .hole))))] ⟨.undef,[(n,.arr g false f (es'.set i (.agg (l'.set (k+j) .any))))]⟩:=by
   refine⟨RV_lit _,?_,by rw[hset]; exact hg,fun q hq=>by simp only[List.mem_singleton]at hq; subst hq; simp,fun m hm hl=>?_,by rw[hset]; simp,fun m hm hc=>?_⟩
   ·rw[hset,hseta]
    exact(All2.mono (fun _ _ h=>ROo.mono hg h) h.hp).set n hro
   ·grind
   ·simp_all[SObj.isRec,recAt]
  obtain⟨g1,g2⟩:=h.step hE none
  rw[hseta]at g1
  have g1':RS T (s.step none (.lit undef) [(n,.arr g false f cur (es.set i (.agg (l0.set (k+j) .hole))))]) (holeOne st d j):=by
   rw[hone]; exact g1
  obtain⟨s',i1,i2,i3⟩:=holesK_ok g1' hk
  exact⟨s',i1,g2.trans i2,i3⟩
section
variable [Glob]{S:SCtx}(hS:S.Ok)
include hS
theorem okQf(f:FuncId):(S.Qf f).Ok:=⟨hS.Q.row,hS.Q.kind,hS.Q.eqk,hS.Q.map⟩
theorem peekS_ok{ρ:Type}{r:ρ}{g:FuncId}{args:List (SV S.T.den)}{as:List AV}{H:SHeap S.T.den}{hp:AHeap}{K:EK S.T ρ}(hh:RH S.T H hp)(ha:RL S.T H args as)(hk:(peekS S g args H K).run=some r):
  S.C.kind g=.imp∧S.C.intrE g=none∧∃ v rd e,Yld hp (peek S.C.P hp.length g as) e rd∧RE S.T H hp v [] e∧(K v [] rd).run=some r:=by
 unfold peekS at hk
 split at hk
 case h_2=>simp[Tr.run]at hk
 rename_i fn hkd hie hfn
 split at hk
 case h_2=>simp[Tr.run]at hk
 rename_i c hc
 have hst:=start_ok (f:=g) ha hh fn.ntmps [] (js:=[]) (fun n st h=>by cases h)
 have hlen:H.length=hp.length:=hh.length
 have el:lookHp hp none []=hp:=by simp[lookHp,ovHp]
 rw[hlen]at hk
 obtain⟨b,s',ov,rd2,q,g1,g2,g3,g4,g5,hk⟩:=peekCS_ok hS.T (okQf hS g) hS.Z hlen (f:=g) c _ ⟨as++List.replicate (fn.ntmps-as.length) .undef,none,[]⟩ none _ _ (by simp only[el]; exact hst) rfl (fun n o h=>by cases h) (fun n hn o ho=>⟨o,ho,rfl,rfl⟩) hk
 obtain⟨l,m,i1,i2,hk⟩:=resS_ok hS.T hS.Q g2 hk
 have i1':(resultsL S.C.P q.fr fn.results.toList).run (lookHp hp q.ov q.nw)=some m:=i1
 split at hk
 case h_2=>simp[Tr.run]at hk
 rename_i hchk
 simp only[Bool.and_eq_true]at hchk
 obtain⟨⟨c1,c2⟩,c3⟩:=hchk
 have hR0:=tup_R i2
 have hR:R S.T H (tupS l) (tupOf m):=R.back g5 hR0 (by rw[hlen]; exact c1)
 refine⟨hkd,hie,tupS l,_,⟨tupOf m,[]⟩,?_,⟨.inr hR,hh,Grow.refl _,fun q h=>by simp at h,fun _ _ _=>rfl,Nat.le_refl _,fun _ _ h=>by simp at h⟩,hk⟩
 unfold peek
 rw[hfn]
 simp only
 rw[hc]
 simp only
 have hbel:(below hp.length (tupOf m)&&(match q.ov with
    |some (_,o)=>o.below hp.length
    |none=>true))=true:=by
  rw[Bool.and_eq_true]
  refine⟨by rw[←R.below hR0]; exact c1,?_⟩
  cases hq:q.ov with
  |none=>rfl
  |some x=>
   obtain⟨n,o⟩:=x
   simp only
   rw[hq]at g3
   simp only[Option.map_some]at g3
   rw[g3]at c3
   simp only at c3
   split at c3
   case h_2=>simp at c3
   rename_i so hso
   obtain⟨o0,ho0⟩:=g4 n o hq
   obtain⟨ao,hao,hroo⟩:=All2.get g2.hp hso
   have hlt:=(List.getElem?_eq_some_iff.1 ho0).1
   have:(lookHp hp q.ov q.nw)[n]?=some (some o):=by
    rw[hq]
    simp only[lookHp,ovHp,ho0]
    rw[List.getElem?_append_left (by simpa using hlt),List.getElem?_set_self hlt]
   rw[this]at hao
   simp only[Option.some.injEq]at hao
   subst hao
   have:=oBelow_eq hS.T hroo (n:=hp.length)
   rw[c3]at this
   exact this.symm
 have y1:Yld hp (peekC S.C.P hp.length c ⟨as++List.replicate (fn.ntmps-as.length) .undef,none,[]⟩) (q,b) rd2:=g1
 have y2:Yld hp ((resultsL S.C.P q.fr fn.results.toList).over hp.length q.ov q.nw) m ((resRd s'.fr fn.results.toList).filter fun n=>Nat.blt n hp.length):=
  Yld.over' ⟨i1',fun n hn=>res_log g2 c2 n hn⟩
 have y3:=Yld.bind (y1.filt) (f:=fun q=>(resultsL S.C.P q.1.fr fn.results.toList).over hp.length q.1.ov q.1.nw >>= fun l=>match below hp.length (tupOf l)&&(match q.1.ov with
    |some (_,o)=>o.below hp.length
    |none=>true) with
   |true=>(pure ⟨tupOf l,[]⟩:RM Eff)
   |false=>.fail) (Yld.bind y2 (f:=fun l=>match below hp.length (tupOf l)&&(match q.ov with
    |some (_,o)=>o.below hp.length
    |none=>true) with
   |true=>(pure ⟨tupOf l,[]⟩:RM Eff)
   |false=>.fail) (b:=⟨tupOf m,[]⟩) (rd':=[]) (by simp only[hbel]; exact Yld.pure _))
 rw[List.append_nil,←List.filter_append]at y3
 exact y3
theorem exE_ok{ρ:Type}{r:ρ}{nm:Nat}{o:Oper}{s:SSt S.T.den}{st:St}{K:EK S.T ρ}(h:RS S.T s st)(hn:nm=s.hp.length∨s.hp[nm]?=some none)(hnm:isAllocOp o.op=false→nm=s.hp.length)(hk:(exE S nm o s K).run=some r):
  ∃ v wr rd e lg,runE S.C nm o st.fr st.hp=some (e,lg)∧(∀ n,n∈lg→n∈rd)∧RE S.T s.hp st.hp v wr e∧(K v wr rd).run=some r:=by
 have plain:(∀ c f,o.op=.call c→c.callee=.value f→False)→(∀ c m i,o.op=.call c→c.callee=.invoke m i→False)→(opS (S.Qf s.fn) nm s.hp (evalS s.fr) o K).run=some r →
   ∃ v wr rd e lg,runE S.C nm o st.fr st.hp=some (e,lg)∧(∀ n,n∈lg→n∈rd)∧RE S.T s.hp st.hp v wr e∧(K v wr rd).run=some r:=by
  intro h1 h2 hk
  obtain⟨v,wr,rd,e,g1,g2,g3⟩:=opS_ok hS.T (okQf hS s.fn) (Q:=S.Qf s.fn) hS.Z h.hp hn (fun x=>h.ev x) hk
  refine⟨v,wr,rd,e,_,?_,g1.2,g2,g3⟩
  rw[runE_plain h1 h2]
  have:=g1.1
  rw[show (S.Qf s.fn).P=S.C.P from rfl]at this
  rw[this]
  rfl
 unfold exE at hk
 split at hk
 ·rename_i c hc
  split at hk
  ·rename_i b hb
   exact plain (fun c' f h1 h2=>by rw[hc]at h1; simp only[Op.call.injEq]at h1; subst h1; rw[hb]at h2; cases h2) (fun c' m i h1 h2=>by rw[hc]at h1; simp only[Op.call.injEq]at h1; subst h1; rw[hb]at h2; cases h2) hk
  ·rename_i f hf
   split at hk
   ·simp[Tr.run]at hk
   rename_i g args hg
   split at hk
   ·rename_i hal
    split at hk
    case h_2=>simp[Tr.run]at hk
    rename_i σ hd hσ
    obtain⟨m,hm1,hm2⟩:=resolveS_ok (h.ev f) (ev_list (fun x=>h.ev x) c.args.toList) hg
    obtain⟨v,wr,rd,e,lg,g2,g3,g4,g5⟩:=ownS_ok hS.T (hS.own g σ hσ) h.hp hn (hm2 hd) hk
    refine⟨v,wr,rd,_,lg,?_,g3,g4,g5⟩
    obtain⟨dst,op,type,pos,after,guard⟩:=o
    simp only at hc hal
    subst hc
    obtain⟨callee,cargs,ats⟩:=c
    simp only at hf
    subst hf
    rw[runE_call,hm1,hal]
    exact g2
   rename_i hal
   split at hk
   case h_3=>simp[Tr.run]at hk
   case h_2=>
    rename_i hd _
    obtain⟨m,hm1,hm2⟩:=resolveS_ok (h.ev f) (ev_list (fun x=>h.ev x) c.args.toList) hg
    obtain⟨hkd,hie,v,rd,e,g1,g2,hk⟩:=peekS_ok hS h.hp (hm2 hd) hk
    rw[show st.hp.length=nm from by rw[hnm (by assumption),h.hp.length]]at g1
    refine⟨v,[],rd,e,_,?_,g1.2,g2,hk⟩
    obtain⟨dst,op,type,pos,after,guard⟩:=o
    simp only at hc hal
    subst hc
    obtain⟨callee,cargs,ats⟩:=c
    simp only at hf
    subst hf
    rw[runE_call,hm1,hal]
    simp only[Option.bind_some,callE,hkd,hie,g1.1,Option.map_some]
   rename_i σ hd hσ
   obtain⟨m,hm1,hm2⟩:=resolveS_ok (h.ev f) (ev_list (fun x=>h.ev x) c.args.toList) hg
   obtain⟨v,wr,rd,a,w,lg,_,g2,g3,g4,g5⟩:=sumS_ok hS.T (hS.sum g σ hσ) h.hp (hm2 hd) hk
   refine⟨v,wr,rd,_,lg,?_,g3,g4,g5⟩
   obtain⟨dst,op,type,pos,after,guard⟩:=o
   simp only at hc hal
   subst hc
   obtain⟨callee,cargs,ats⟩:=c
   simp only at hf
   subst hf
   rw[runE_call,hm1,hal]
   exact g2 nm
  ·simp[Tr.run]at hk
 ·rename_i hnc
  exact plain (fun c' f h1 _=>hnc c' h1) (fun c' m i h1 _=>hnc c' h1) hk
theorem exO_ok{k:Nat}(ih:SoundAt S k){ρ:Type}{o:Oper}{s:SSt S.T.den}{K:SSt S.T.den→Tr ρ}{r:ρ}{st:St}(h:RS S.T s st)(hk:(exO S (k+1) ρ o s K).run=some r):
  ∃ s' st',runO S.C o st=some (.norm st')∧RS S.T s' st'∧Agree s s'∧(K s').run=some r:=by
 have plain:plainOp o.op=true→(opS (S.Qf s.fn) s.hp.length s.hp (evalS s.fr) o fun v wr _=>s.stepK o.dst v wr fun s=>nilsK (match o.op with|.call _=>fun _=>[]|_=>S.C.nils s.fn) o.dst s
    fun s=>twK (match o.op with|.call _=>fun _=>[]|_=>S.tw s.fn) o.dst s K).run=some r →
   ∃ s' st',runO S.C o st=some (.norm st')∧RS S.T s' st'∧Agree s s'∧(K s').run=some r:=by
  intro h1 hk
  obtain⟨v,wr,rd,e,g1,g2,g3⟩:=opS_ok hS.T (okQf hS s.fn) (Q:=S.Qf s.fn) hS.Z h.hp (.inl rfl) (fun x=>h.ev x) hk
  replace g3:(s.stepK o.dst v wr fun s=>nilsK (match o.op with|.call _=>fun _=>[]|_=>S.C.nils s.fn) o.dst s
    fun s=>twK (match o.op with|.call _=>fun _=>[]|_=>S.tw s.fn) o.dst s K).run=some r:=g3
  rw[stepK_eq]at g3
  obtain⟨g4,g5⟩:=h.step g2 o.dst
  have hfn:(s.step o.dst v wr).fn=st.fn:=h.fn
  rw[hfn]at g3
  obtain⟨s1,i1,i2,i3⟩:=nilsK_ok hS.T g4 g3
  obtain⟨s',j1,j2,j3⟩:=twK_ok hS.T i1 i3
  refine⟨s',_,?_,j1,g5.trans (i2.trans j2),j3⟩
  rw[runO_plain h1]
  have:=g1.1
  rw[h.hp.length]at this
  rw[show (S.Qf s.fn).P=S.C.P from rfl]at this
  rw[this]
  rfl
 unfold exO at hk
 obtain⟨dst,op,type,pos,after,guard⟩:=o
 simp only at hk
 split at hk
 ·rename_i c
  obtain⟨callee,cargs,ats⟩:=c
  split at hk
  ·rename_i b hb
   simp only at hb
   subst hb
   refine plain rfl ?_
   have e:(fun (s:SSt S.T.den)=>nilsK (fun _=>[]) dst s fun s=>twK (fun _=>[]) dst s K)=K:=by
    funext s
    cases dst<;>rfl
   simp only[e]
   exact hk
  ·rename_i f hf
   simp only at hf
   subst hf
   split at hk
   ·-- a round of a range over a function
    split at hk
    case h_2=>simp[Tr.run]at hk
    rename_i n hn
    have hfv:=(h.ev f).live (by rw[hn]; rfl)
    rw[hn]at hfv
    simp only[R]at hfv
    split at hk
    case h_2=>simp[Tr.run]at hk
    rename_i fn ps as bd fr ho hj hdead
    split at hk
    case h_2=>simp[Tr.run]at hk
    rename_i hc
    simp only[Bool.and_eq_true]at hc
    obtain⟨⟨hc1,hc2⟩,hc3⟩:=hc
    rw[force_eq]at hk
    have hargs:=live_list (ev_list (fun x=>h.ev x) cargs.toList) hdead
    obtain⟨ao,ho',hro⟩:=h.hp.obj ho
    obtain⟨x,vs,rfl,hvs⟩:=hro
    obtain⟨hj1,hj2⟩:=h.js n _ hj
    have hx:x=.ready:=by
     simp_all[loopSt]
    subst hx
    have hlen:vs.length=fr.length:=hvs.length.symm
    obtain⟨p1,p2⟩:=putArgs_R (ps:=ps.toList) (xs:=cargs.toList.map (evalS s.fr)) (as:=cargs.toList.map (evalA st.fr)) (n:=fr.length) (fr:=argsF 0 fr) (fa:=vs) (H:=s.hp) hlen (fun t=>by
     rw[argsF_get]
     simp only[Nat.zero_le,if_true,Nat.sub_zero,List.getD_eq_getElem?_getD]
     cases hq:vs[t]? with
     |none=>
      have:fr[t]?=none:=by rw[List.getElem?_eq_none_iff]at hq ⊢; omega
      rw[this]
      exact RV_lit undef
     |some a=>
      obtain⟨v,hv,hr⟩:=All2.get' hvs hq
      rw[hv]
      rcases hr with ⟨rfl,_⟩|hr
      ·exact .inl rfl
      ·exact .inr hr) hargs
    have hs0:RS S.T ⟨fn,fr.length,putArgsS fr.length (argsF 0 fr) ps.toList (cargs.toList.map (evalS s.fr)),s.hp,[],s.wh,s.js⟩ ⟨fn,putArgs vs ps.toList (cargs.toList.map (evalA st.fr)),st.hp⟩:=⟨rfl,p1,p2,h.hp,h.js⟩
    obtain⟨so1,o1,a1,a2,a3,hk⟩:=ih.c _ _ _ _ _ _ hs0 hk
    cases so1 with
    |exit id s1=>simp[Tr.run]at hk
    |ret s1=>simp[Tr.run]at hk
    |norm s1=>
    obtain⟨st1,rfl,hs1⟩:=a2
    simp only at hk
    split at hk
    case h_2=>simp[Tr.run]at hk
    rename_i hr1
    obtain⟨_,hl1⟩:=hs1.js n _ hr1
    obtain⟨b1,b2⟩:=rec_set hs1.hp hs1.js hr1 .busy
    have hs1':RS S.T { s1 with js:=setJ s1.js n .busy } { st1 with hp:=setSt st1.hp n .busy }:=⟨hs1.fn,hs1.n,hs1.fr,b1,b2⟩
    obtain⟨so2,o2,c1,c2,c3,hk⟩:=ih.c _ _ _ _ _ _ hs1' hk
    have key:∀ (s2:SSt S.T.den),Agree { s1 with js:=setJ s1.js n .busy } s2→Grow s.hp s2.hp∧s.hp.length≤s2.hp.length∧(∀ m:Nat,m<s.hp.length→m∉s2.wh→s2.hp[m]?=s.hp[m]?)∧∀ m,m∈s.wh→m∈s2.wh:=by
     intro s2 hag
     refine⟨a3.grow.trans hag.grow,Nat.le_trans a3.len hag.len,fun m hm hw=>?_,fun m hm=>hag.wh m (a3.wh m hm)⟩
     rw[hag.hp m (Nat.lt_of_lt_of_le hm a3.len) hw]
     exact a3.hp m hm (fun hc=>hw (hag.wh m hc))
    have hrunO:runO S.C ⟨dst,.call ⟨.value f,cargs,ats⟩,type,pos,after,guard⟩ st=yieldA (fun c s=>runC S.C c s) n (cargs.toList.map (evalA st.fr)) dst st:=by
     rw[runO_call,hfv.1]
     rfl
    have hy:yieldA (fun c s=>runC S.C c s) n (cargs.toList.map (evalA st.fr)) dst st=roundEnd n dst st o2:=by
     clear c2
     unfold yieldA
     have e1:(decide ((cargs.toList.map (evalA st.fr)).length=ps.size)&&noRng as&&noRng bd)=true:=by
      rw[hc2,hc3]
      simpa using Nat.eq_of_beq_eq_true hc1
     simp only[ho',e1,a1,hl1,c1]
     cases o2<;>rfl
    cases so2 with
    |norm s2=>
     obtain⟨st2,rfl,hs2⟩:=c2
     obtain⟨k1,k2,k3,k4⟩:=key s2 c3
     obtain⟨s',st',d1,d2,d3,hk⟩:=endK_ok hS.T h hs2 k1 k2 k3 k4 hk
     exact⟨s',st',by rw[hrunO,hy]; exact d1,d2,d3,hk⟩
    |exit id s2=>
     obtain⟨st2,rfl,hs2⟩:=c2
     obtain⟨k1,k2,k3,k4⟩:=key s2 c3
     obtain⟨s',st',d1,d2,d3,hk⟩:=endK_ok hS.T h hs2 k1 k2 k3 k4 hk
     exact⟨s',st',by rw[hrunO,hy]; exact d1,d2,d3,hk⟩
    |ret s2=>
     obtain⟨st2,rfl,hs2⟩:=c2
     obtain⟨k1,k2,k3,k4⟩:=key s2 c3
     obtain⟨s',st',d1,d2,d3,hk⟩:=endK_ok hS.T h hs2 k1 k2 k3 k4 hk
     exact⟨s',st',by rw[hrunO,hy]; exact d1,d2,d3,hk⟩
   rename_i g args hg
   obtain⟨m,hm1,hm2⟩:=resolveS_ok (h.ev f) (ev_list (fun x=>h.ev x) cargs.toList) hg
   split at hk
   ·rename_i hal
    split at hk
    case h_2=>simp[Tr.run]at hk
    rename_i σ hd hσ
    obtain⟨v,wr,rd,e,lg,g2,_,g4,g5⟩:=ownS_ok hS.T (hS.own g σ hσ) h.hp (.inl rfl) (hm2 hd) hk
    rw[stepK_eq]at g5
    obtain⟨g6,g7⟩:=h.step g4 dst
    refine⟨_,_,?_,g6,g7,g5⟩
    rw[runO_call,hm1]
    rw[h.hp.length]at g2
    simp only[calleeA,callA,hal,g2,Option.bind_some,doneE]
   rename_i hal
   split at hk
   ·rename_i σ hd hσ
    obtain⟨v,wr,rd,a,w,lg,g1,_,_,g4,g5⟩:=sumS_ok hS.T (hS.sum g σ hσ) h.hp (hm2 hd) hk
    rw[stepK_eq]at g5
    obtain⟨g6,g7⟩:=h.step g4 dst
    refine⟨_,_,?_,g6,g7,g5⟩
    rw[runO_call,hm1]
    simp only[calleeA,callA,hal,(hS.sum g σ hσ).kind,g1,Option.bind_some,doneP]
   ·rename_i hd hσ
    split at hk
    ·simp[Tr.run]at hk
    rename_i hkind
    obtain⟨v,hp',wh',js',a,ahp',g1,g2,g3,gj,g4,g5,g6,g7,hk⟩:=ih.f _ _ _ _ _ _ _ _ _ _ (hm2 hd) h.hp h.js hk
    split at hk
    case h_2=>simp[Tr.run]at hk
    rename_i hbel
    rw[forceH_eq,stepK_eq]at hk
    obtain⟨hs1,hag,t2⟩:=trunc_state hS.T h g2 g3 g4 g5 g6 g7 gj hbel
    obtain⟨g8,g9⟩:=hs1.step (v:=v) (wr:=[]) (e:=⟨a,[]⟩) ⟨.inr t2,hs1.hp,Grow.refl _,fun q hq=>by simp at hq,fun _ _ _=>rfl,Nat.le_refl _,fun _ _ h=>by simp at h⟩ dst
    refine⟨_,_,?_,g8,hag.trans g9,hk⟩
    rw[runO_call,hm1]
    simp only[calleeA,callA,hal,hkind,g1,Option.bind_some,doneI]
    rw[h.hp.length]
    rfl
   ·simp[Tr.run]at hk
  ·simp[Tr.run]at hk
 ·split at hk
  ·rename_i d
   rw[runO_nil]
   have hfn:=h.fn
   split at hk
   ·rename_i hacc
    rw[hfn]at hacc
    rw[hacc]
    simp only[cond_true]
    split at hk
    case h_2=>simp[Tr.run]at hk
    rename_i m hm
    obtain⟨q,hq1,_,hq3,_⟩:=hS.Q.elem hm
    split at hk
    case isFalse=>simp[Tr.run]at hk
    rename_i hsz
    rw[stepK_eq]at hk
    have hnew:=h.hp.new (nm:=s.hp.length) (o':=.arr true true false 0 []) (a':=.arr true true false []) (.inl rfl) ⟨[],rfl,by simp[RL],fun _=>rfl⟩
    have e1:applyWrS s.hp [(s.hp.length,.arr true true false 0 [])]=setObjS s.hp s.hp.length (.arr true true false 0 []):=rfl
    have hl:=h.hp.length
    obtain⟨g8,g9⟩:=h.step (v:=.osl m.size s.hp.length 0 none none) (wr:=[(s.hp.length,.arr true true false 0 [])]) (e:=⟨.osl q.size st.hp.length 0 0 0 none,[(st.hp.length,.arr true true false [])]⟩)
     ⟨.inr (by
       rw[e1]
       simp only[R]
       exact⟨0,verOk_new h.hp (.inl rfl) (o:=.arr true true false 0 []),by rw[hq3,hl]⟩),
       by
        rw[←hl]
        exact hnew.2,by rw[e1]; exact hnew.1,fun q hq=>by simp at hq; subst hq; simp[hl],fun n hn hl=>by
        rw[e1]; simp at hn; exact setObjS_ne hl hn,by rw[e1]; exact setObjS_len (.inl rfl),fun m hm hc=>by simp at hc; have:=recAt_lt hm; omega⟩ (some d)
    refine⟨_,_,?_,g8,g9,hk⟩
    have hq1':sliceElem S.C.P type=some q:=hq1
    rw[hq1']
    simp only[Option.bind_some]
    rw[if_pos (by rw[hq3]; exact hsz)]
    simp only[putA,applyWr,setObj,if_true]
   ·rename_i hacc
    simp only[Bool.not_eq_true]at hacc
    rw[hfn]at hacc
    rw[hacc]
    simp only[cond_false]
    rw[stepK_eq]at hk
    obtain⟨g8,g9⟩:=h.step (v:=.lit nilSl) (wr:=[]) (e:=⟨.lit nilSl,[]⟩) ⟨RV_lit _,h.hp,Grow.refl _,fun q hq=>by simp at hq,fun _ _ _=>rfl,Nat.le_refl _,fun _ _ h=>by simp at h⟩ (some d)
    exact⟨_,_,rfl,g8,g9,hk⟩
  ·-- no variable: nothing happens
   refine⟨s,st,?_,h,Agree.refl _,hk⟩
   refine lim_step (growO S.C _ _) (by simp[evO]) fun k=>?_
   simp only[evO]
 ·rename_i hnc hna
  have hl:(match op with|.call _=>fun _=>[]|_=>S.C.nils s.fn)=S.C.nils s.fn:=by
   cases op<;>first|rfl|exact absurd rfl (hnc _)
  refine plain ?_ ?_
  ·unfold plainOp
   simp only
  ·simp only
   exact hk
end
end Go.PI
end
section
/- PS, part Q: loops, code, functions: the soundness of the trees. -/
namespace Go.PI
theorem loopN_mono{τ ω:Type}{f:τ→Option (τ ⊕ ω)}:∀ {n:Nat} {x:τ} {w:ω},loopN f n x=some w→loopN f (n+1) x=some w
 |0,x,w,h=>by simp[loopN]at h
 |n+1,x,w,h=>by
  rw[loopN]at h ⊢
  cases hf:f x with
  |none=>rw[hf]at h; simp at h
  |some q=>
   rw[hf]at h
   cases q with
   |inl y=>exact loopN_mono h
   |inr z=>exact h
theorem grow_loopN[Glob]{τ ω:Type}(f:τ→Option (τ ⊕ ω))(x:τ):Grows fun n=>loopN f n x:=fun _ _ h=>loopN_mono h
theorem loopM_some[Glob]{τ ω:Type}{f:τ→Option (τ ⊕ ω)}{x:τ}{w:ω}:loopM f x=some w↔∃ n,loopN f n x=some w:=by
 unfold loopM
 split
 ·rename_i w' h
  constructor
  ·intro e; exact⟨4096,h.trans e⟩
  ·rintro⟨n,hn⟩
   rw[←(lim_some (grow_loopN f x)).2 ⟨4096,h⟩,(lim_some (grow_loopN f x)).2 ⟨n,hn⟩]
 ·exact lim_some (grow_loopN f x)
theorem loopM_eq[Glob]{τ ω:Type}(f:τ→Option (τ ⊕ ω))(x:τ):loopM f x=(f x).bind fun q=>Sum.elim (loopM f) some q:=by
 apply Option.ext
 intro w
 rw[loopM_some]
 constructor
 ·rintro⟨n,h⟩
  cases n with
  |zero=>simp[loopN]at h
  |succ n=>
   rw[loopN]at h
   cases hf:f x with
   |none=>rw[hf]at h; simp at h
   |some q=>
    rw[hf]at h
    cases q with
    |inl y=>simp only[Option.bind_some,Sum.elim_inl]; exact loopM_some.2 ⟨n,h⟩
    |inr z=>simp_all
 ·intro h
  cases hf:f x with
  |none=>rw[hf]at h; simp at h
  |some q=>
   rw[hf]at h
   cases q with
   |inl y=>
    simp only[Option.bind_some,Sum.elim_inl]at h
    obtain⟨n,hn⟩:=loopM_some.1 h
    exact⟨n+1,by rw[loopN,hf]; exact hn⟩
   |inr z=>
    simp only[Option.bind_some,Sum.elim_inr]at h
    exact⟨1,by rw[loopN,hf]; exact h⟩
section
variable {T:Tys}{ρ:Type}
theorem lenGuard_some[Glob]{H0 H:SHeap T.den}{K:Tr ρ}{r:ρ}:∀ {objs:List (Nat×OPat)},(lenGuard H0 H objs K).run=some r→K.run=some r∧∀ q,q∈objs→∀ t,q.2=.fix t→∀ o o',H0[q.1]?=some (some o)→H[q.1]?=some (some o')→o'.len=o.len
 |[],h=>⟨h,fun q hq=>by simp at hq⟩
 |(n,p)::objs,h=>by
  cases p with
  |fix t=>
   simp only[lenGuard]at h
   split at h
   ·rename_i o o' h1 h2
    obtain⟨g1,g2⟩:=guard_some h
    simp only[decide_eq_true_eq]at g1
    obtain⟨i1,i2⟩:=lenGuard_some g2
    refine⟨i1,fun q hq t' e o3 o4 h3 h4=>?_⟩
    rcases List.mem_cons.1 hq with rfl|hq
    ·simp_all
    ·exact i2 q hq t' e o3 o4 h3 h4
   ·simp[Tr.run]at h
  |list t=>
   obtain⟨i1,i2⟩:=lenGuard_some (objs:=objs) h
   refine⟨i1,fun q hq t' e o3 o4 h3 h4=>?_⟩
   rcases List.mem_cons.1 hq with rfl|hq
   ·simp at e
   ·exact i2 q hq t' e o3 o4 h3 h4
  |one p=>
   obtain⟨i1,i2⟩:=lenGuard_some (objs:=objs) h
   refine⟨i1,fun q hq t' e o3 o4 h3 h4=>?_⟩
   rcases List.mem_cons.1 hq with rfl|hq
   ·simp at e
   ·exact i2 q hq t' e o3 o4 h3 h4
  |agg ps=>
   obtain⟨i1,i2⟩:=lenGuard_some (objs:=objs) h
   refine⟨i1,fun q hq t' e o3 o4 h3 h4=>?_⟩
   rcases List.mem_cons.1 hq with rfl|hq
   ·simp at e
   ·exact i2 q hq t' e o3 o4 h3 h4
  |map kk t=>
   obtain⟨i1,i2⟩:=lenGuard_some (objs:=objs) h
   refine⟨i1,fun q hq t' e o3 o4 h3 h4=>?_⟩
   rcases List.mem_cons.1 hq with rfl|hq
   ·simp at e
   ·exact i2 q hq t' e o3 o4 h3 h4
theorem outK_some[Glob]{key:Nat}{h:Hint}{s0 s:SSt T.den}{kind:Option Nat}{r:ρ}:∀ {l:List HOut} {K:SumD T.den h.objs l→Tr ρ},(outK key h s0 s kind l K).run=some r →
  ∃ o x w,o∈l∧o.kind=kind∧outX h s0 s kind o=some x∧(K w).run=some r ∧
    (∀ q,q∈h.objs→∀ t,q.2=.fix t→∀ o o',s0.hp[q.1]?=some (some o)→s.hp[q.1]?=some (some o')→o'.len=o.len) ∧
    ∀ {σ:Type} (K':SOut T.den→Tr σ),(inK h s0 l w K').run=(K' (outS (afterS h s0 o x) o.kind)).run
 |[],K,hk=>by simp[outK,Tr.run]at hk
 |[o],K,hk=>by
  simp only[outK]at hk
  split at hk
  ·rename_i x hx
   obtain⟨hk,hl⟩:=lenGuard_some hk
   refine⟨o,x,x,by simp,?_,hx,hk,hl,fun K'=>?_⟩
   ·grind[outX]
   ·simp only[inK]
    rw[force_eq]
  ·simp[Tr.run]at hk
 |o::p::l,K,hk=>by
  simp only[outK]at hk
  split at hk
  ·rename_i x hx
   obtain⟨hk,hl⟩:=lenGuard_some hk
   refine⟨o,x,.inl x,by simp,?_,hx,hk,hl,fun K'=>?_⟩
   ·grind[outX]
   ·simp only[inK,Tr.run,Sum.elim_inl]
    rw[force_eq]
  ·obtain⟨o',x,w,h1,h2,h3,h4,h5,h6⟩:=outK_some (l:=p::l) hk
   refine⟨o',x,.inr w,List.mem_cons_of_mem _ h1,h2,h3,h4,h5,fun K'=>?_⟩
   simp only[inK,Tr.run,Sum.elim_inr]
   exact h6 K'
theorem subset_mem{a b:List Nat}(h:subset a b=true){x:Nat}(hx:x∈a):x∈b:=by
 have:=List.all_eq_true.1 h x hx
 simpa using this
theorem over_of[Glob]{hobjs:List (Nat×OPat)}{slots0:List (Nat×Pat)}{dead0:List Nat}{slots:List (Nat×Pat)}{dead:List Nat}{ext:List SExt}{s0 sx s:SSt T.den}{l:List (TV T.den)}
  (nd1:nodupB (slots.map (·.1))=true) (nd2:nodupB (hobjs.map (·.1))=true)
  (hsx1:sx.fn=s0.fn) (hsx2:sx.n=s0.n) (hsx3:∀ t,t∉slots0.map (·.1)++dead0→getF sx.fr t=getF s0.fr t) (hsx4:∀ n:Nat,n<s0.hp.length→n∉hobjs.map (·.1)→sx.hp[n]?=s0.hp[n]?) (hsx5:sx.hp.length=s0.hp.length)
  (hsub:∀ t,t∈slots0.map (·.1)++dead0→t∈slots.map (·.1)++dead) (ha:Agree sx s) (hl:leaveS slots dead hobjs ext s0 s=true)
  (abs0:∀ q,q∈hobjs→∃ o,s0.hp[q.1]?=some (some o)∧Start s0.hp o q.2) (abs:absS slots (hobjs++extObjs s0.hp.length ext) s=some l):Over T slots dead hobjs ext s0 s l:=by
 unfold leaveS at hl
 simp only[Bool.and_eq_true,decide_eq_true_eq]at hl
 obtain⟨⟨⟨⟨⟨⟨⟨l1,l2⟩,l3⟩,l4⟩,l5⟩,l6⟩,l7⟩,l8⟩:=hl
 refine⟨nd1,nd2,fun d hd=>?_,l2,ha.fn.trans hsx1,ha.n.trans hsx2,fun t ht=>?_,fun n hn hm=>?_,l5,l6,l7,l8,abs0,abs⟩
 ·have:=List.all_eq_true.1 l1 d hd
  have:=Nat.le_of_ble_eq_true this
  omega
 ·have hw:t∉s.wf:=fun hc=>ht (subset_mem l3 hc)
  rw[ha.fr t hw,hsx3 t (fun hc=>ht (hsub t hc))]
 ·have hw:n∉s.wh:=fun hc=>hm (subset_mem l4 (List.mem_filter.2 ⟨hc,by simpa using hn⟩))
  rw[ha.hp n (by rw[hsx5]; exact hn) hw,hsx4 n hn hm]
end
theorem absS_objs{T:Tys}{slots:List (Nat×Pat)}{objs:List (Nat×OPat)}{s:SSt T.den}{l:List (TV T.den)}(h:absS slots objs s=some l):∃ l0,absObjs s.hp objs=some l0:=by
 unfold absS at h
 rw[Option.bind_eq_some_iff]at h
 obtain⟨_,_,h⟩:=h
 rw[Option.map_eq_some_iff]at h
 obtain⟨lb,h,_⟩:=h
 exact⟨lb,h⟩
theorem concS_RS[Glob]{T:Tys}{slots:List (Nat×Pat)}{dead:List Nat}{objs:List (Nat×OPat)}{ext:List SExt}{s:SSt T.den}{l:List (TV T.den)}{js:List (Nat×LSt)}{st:St}
  (h:RS T { concS slots dead objs ext s l with js:=js } st) (hj:js=s.js):RS T (concS slots dead objs ext s l) st:=by
 subst hj; exact⟨h.fn,h.n,h.fr,h.hp,h.js⟩
theorem resetS_js{T:Tys}{n:Nat}{s:SSt T.den}:(resetS n s).js=s.js:=by unfold resetS; split<;>rfl
theorem sameFlags_refl[Glob]{T:Tys}{H:SHeap T.den}{objs:List (Nat×OPat)}{l:List (TV T.den)}(h:absObjs H objs=some l):sameFlags H H objs=true:=by
 refine List.all_eq_true.2 fun q hq=>?_
 obtain⟨o,_,h1,_⟩:=absObjs_obj h q hq
 simp[h1]
theorem sameCur_refl[Glob]{T:Tys}{H:SHeap T.den}{objs:List (Nat×OPat)}{l:List (TV T.den)}(h:absObjs H objs=some l):sameCur H H objs=true:=by
 refine List.all_eq_true.2 fun q hq=>?_
 obtain⟨o,_,h1,_⟩:=absObjs_obj h q hq
 split
 ·rfl
 ·simp[h1]
theorem start_abs[Glob]{T:Tys}{H:SHeap T.den}{objs:List (Nat×OPat)}{l:List (TV T.den)}(h:absObjs H objs=some l)(q:Nat×OPat)(hq:q∈objs):∃ o,H[q.1]?=some (some o)∧Start H o q.2:=by
 obtain⟨o,ln,h1,h2⟩:=absObjs_obj h q hq
 exact⟨o,h1,.inl ⟨ln,h2⟩⟩
theorem outObjs_mem{objs more:List (Nat×OPat)}{n:Nat}(h:n∈objs.map (·.1)):n∈(outObjs objs more).map (·.1):=by
 unfold outObjs
 rw[List.map_append]
 by_cases hm:n∈more.map (·.1)
 ·exact List.mem_append_right _ hm
 ·simp_all
theorem start_more[Glob]{T:Tys}{H:SHeap T.den}{l:List (Nat×OPat)}(h:startOk H l=true)(q:Nat×OPat)(hq:q∈l):∃ o,H[q.1]?=some (some o)∧Start H o q.2:=by
 have:=List.all_eq_true.1 h q hq
 split at this
 ·rename_i g cl f c e p h1 h2
  exact⟨_,h1,.inr ⟨.inl ⟨p,h2⟩,g,cl,f,c,e,rfl⟩⟩
 ·rename_i g cl f c e p h1 h2
  exact⟨_,h1,.inr ⟨.inr ⟨p,h2⟩,g,cl,f,c,e,rfl⟩⟩
 ·simp at this
section
variable [Glob]{S:SCtx}(hS:S.Ok)
include hS
theorem loop_ok{k:Nat}(ih:SoundAt S k){b:Code}{s:SSt S.T.den}{h:Hint}{l0:List (TV S.T.den)}{x0:HL S.T.den h.tys}(hok:h.ok=true)(hsl:slotsOk s.n h.slots h.dead=true)(how:ownsOk s.hp.length h.slots h.objs=true)
  (habs:absS h.slots h.objs s=some l0) (hx0:toHL h.tys l0=some x0) {st:St} (hst:RS S.T s st) {w:SumD S.T.den h.objs h.outs}
  (hw:loopM (fun x=>(SSt.force { concS h.slots h.dead h.objs [] s (ofHL h.tys x) with wf:=[],wh:=[] } fun s1=>exC S k (HL S.T.den h.tys ⊕ SumD S.T.den h.objs h.outs) b s1 fun
       |.norm s'=>
        (match resetS s.hp.length s' with
        |s''=>(match decide (s''.js=s.js)&&leaveS h.slots h.dead h.objs [] s s'',(absS h.slots h.objs s'').bind (toHL h.tys) with
         |true,some y=>lenGuard s.hp s''.hp h.objs (.ret (.inl y))
         |_,_=>.bad (hkey b s) none s s''))
       |.exit id s'=>outK (hkey b s) h s s' (some id) h.outs fun w=>.ret (.inr w)
       |.ret s'=>outK (hkey b s) h s s' none h.outs fun w=>.ret (.inr w)).run) x0=some w) :
  ∃ o x so oo,runC S.C (.loop b) st=some oo∧so=outS (afterS h s o x) o.kind∧ROut S.T so oo∧Agree s so.st∧∀ {σ:Type} (K':SOut S.T.den→Tr σ),(inK h s h.outs w K').run=(K' so).run:=by
 simp only[Hint.ok,Bool.and_eq_true]at hok
 obtain⟨⟨hok1,hok2⟩,hok3⟩:=hok
 obtain⟨lobj,hlobj⟩:=absS_objs habs
 have nd1:nodupB (h.slots.map (·.1))=true:=by
  have:∀ {l m:List Nat},nodupB (l++m)=true→nodupB l=true:=by
   intro l m
   induction l with
   |nil=>intro _; rfl
   |cons x xs ih=>
    simp_all[nodupB,decide_eq_false_iff_not]
  exact this hok1
 have hslN:∀ d,d∈h.slots.map (·.1)++h.dead→d<s.n:=by
  intro d hd
  have:=List.all_eq_true.1 hsl d hd
  have:=Nat.le_of_ble_eq_true this
  omega
 have sxf:∀ x:HL S.T.den h.tys,∀ l,absS h.slots h.objs s=some l→True:=fun _ _ _=>trivial
 clear sxf
 have hshape:∀ (x:HL S.T.den h.tys) (sc:SSt S.T.den) (lc:List (TV S.T.den)),Over S.T h.slots h.dead h.objs [] s sc lc→sc.js=s.js→ofHL h.tys x=lc→∀ (stc:St),RS S.T sc stc →
   RS S.T (concS h.slots h.dead h.objs [] s (ofHL h.tys x)) stc∧(concS h.slots h.dead h.objs [] s (ofHL h.tys x)).hp.length=s.hp.length ∧
   (∀ n:Nat,n<s.hp.length→n∉h.objs.map (·.1)→(concS h.slots h.dead h.objs [] s (ofHL h.tys x)).hp[n]?=s.hp[n]?) ∧
   (∀ t,t∉h.slots.map (·.1)++h.dead→getF (concS h.slots h.dead h.objs [] s (ofHL h.tys x)).fr t=getF s.fr t) ∧
   (concS h.slots h.dead h.objs [] s (ofHL h.tys x)).fn=s.fn∧(concS h.slots h.dead h.objs [] s (ofHL h.tys x)).n=s.n:=by
  intro x sc lc ho hj hx stc hstc
  obtain⟨r1,r2,r3,r4,r5,r6,_⟩:=over_ok hS.T ho hst hstc
  rw[hx]
  refine⟨concS_RS r1 hj,?_,r3,r4,r5,r6⟩
  rw[r2,ho.len]; rfl
 have main:∀ (n:Nat) (x:HL S.T.den h.tys) (stx:St),RS S.T (concS h.slots h.dead h.objs [] s (ofHL h.tys x)) stx→(concS h.slots h.dead h.objs [] s (ofHL h.tys x)).hp.length=s.hp.length →
   (∀ n:Nat,n<s.hp.length→n∉h.objs.map (·.1)→(concS h.slots h.dead h.objs [] s (ofHL h.tys x)).hp[n]?=s.hp[n]?) →
   (∀ t,t∉h.slots.map (·.1)++h.dead→getF (concS h.slots h.dead h.objs [] s (ofHL h.tys x)).fr t=getF s.fr t) →
   (concS h.slots h.dead h.objs [] s (ofHL h.tys x)).fn=s.fn→(concS h.slots h.dead h.objs [] s (ofHL h.tys x)).n=s.n →
   loopN (fun x=>(SSt.force { concS h.slots h.dead h.objs [] s (ofHL h.tys x) with wf:=[],wh:=[] } fun s1=>exC S k (HL S.T.den h.tys ⊕ SumD S.T.den h.objs h.outs) b s1 fun
           |.norm s'=>
            (match resetS s.hp.length s' with
            |s''=>(match decide (s''.js=s.js)&&leaveS h.slots h.dead h.objs [] s s'',(absS h.slots h.objs s'').bind (toHL h.tys) with
             |true,some y=>lenGuard s.hp s''.hp h.objs (.ret (.inl y))
             |_,_=>.bad (hkey b s) none s s''))
           |.exit id s'=>outK (hkey b s) h s s' (some id) h.outs fun w=>.ret (.inr w)
           |.ret s'=>outK (hkey b s) h s s' none h.outs fun w=>.ret (.inr w)).run) n x=some w →
   ∃ o x so oo,runC S.C (.loop b) stx=some oo∧so=outS (afterS h s o x) o.kind∧ROut S.T so oo∧Agree s so.st∧∀ {σ:Type} (K':SOut S.T.den→Tr σ),(inK h s h.outs w K').run=(K' so).run:=by
  intro n
  induction n with
  |zero=>intro x stx _ _ _ _ _ _ hn; simp[loopN]at hn
  |succ n ihn=>
   intro x stx hsx hlen hkeepH hkeepF hfn hn2 hn
   rw[loopN]at hn
   generalize hsxe:({ concS h.slots h.dead h.objs [] s (ofHL h.tys x) with wf:=[],wh:=[] }:SSt S.T.den)=sx at hn
   have hsx':RS S.T sx stx:=by rw[←hsxe]; exact⟨hsx.fn,hsx.n,hsx.fr,hsx.hp,hsx.js⟩
   have e1:sx.fn=s.fn:=by rw[←hsxe]; exact hfn
   have e2:sx.n=s.n:=by rw[←hsxe]; exact hn2
   have e3:∀ t,t∉h.slots.map (·.1)++h.dead→getF sx.fr t=getF s.fr t:=by rw[←hsxe]; exact hkeepF
   have e4:∀ n:Nat,n<s.hp.length→n∉h.objs.map (·.1)→sx.hp[n]?=s.hp[n]?:=by rw[←hsxe]; exact hkeepH
   have e5:sx.hp.length=s.hp.length:=by rw[←hsxe]; exact hlen
   rw[force_eq]at hn
   have hcase:∀ q,(exC S k (HL S.T.den h.tys ⊕ SumD S.T.den h.objs h.outs) b sx fun
       |.norm s'=>
        (match resetS s.hp.length s' with
        |s''=>(match decide (s''.js=s.js)&&leaveS h.slots h.dead h.objs [] s s'',(absS h.slots h.objs s'').bind (toHL h.tys) with
         |true,some y=>lenGuard s.hp s''.hp h.objs (.ret (.inl y))
         |_,_=>.bad (hkey b s) none s s''))
       |.exit id s'=>outK (hkey b s) h s s' (some id) h.outs fun w=>.ret (.inr w)
       |.ret s'=>outK (hkey b s) h s s' none h.outs fun w=>.ret (.inr w)).run=some q →
     (∃ y,q=.inl y∧∃ stb,runC S.C b stx=some (.norm stb)∧RS S.T (concS h.slots h.dead h.objs [] s (ofHL h.tys y)) (resetA stx.hp.length stb)∧(concS h.slots h.dead h.objs [] s (ofHL h.tys y)).hp.length=s.hp.length ∧
       (∀ n:Nat,n<s.hp.length→n∉h.objs.map (·.1)→(concS h.slots h.dead h.objs [] s (ofHL h.tys y)).hp[n]?=s.hp[n]?) ∧
       (∀ t,t∉h.slots.map (·.1)++h.dead→getF (concS h.slots h.dead h.objs [] s (ofHL h.tys y)).fr t=getF s.fr t) ∧
       (concS h.slots h.dead h.objs [] s (ofHL h.tys y)).fn=s.fn∧(concS h.slots h.dead h.objs [] s (ofHL h.tys y)).n=s.n) ∨
     (∃ w',q=.inr w'∧∃ o x so oo,runC S.C b stx=some oo∧(∀ s',oo≠.norm s')∧so=outS (afterS h s o x) o.kind∧ROut S.T so oo∧Agree s so.st∧∀ {σ:Type} (K':SOut S.T.den→Tr σ),(inK h s h.outs w' K').run=(K' so).run):=by
    intro q hq
    obtain⟨so,o,c1,c2,c3,c4⟩:=ih.c _ _ _ _ _ _ hsx' hq
    have leave:∀ (kind:Option Nat) (s':SSt S.T.den) (stb:St),RS S.T s' stb→Agree sx s'→(outK (hkey b s) h s s' kind h.outs fun w=>(.ret (.inr w):Tr (HL S.T.den h.tys ⊕ SumD S.T.den h.objs h.outs))).run=some q →
      ∃ w',q=.inr w'∧∃ o x,o.kind=kind∧RS S.T (afterS h s o x) stb∧Agree s (afterS h s o x)∧∀ {σ:Type} (K':SOut S.T.den→Tr σ),(inK h s h.outs w' K').run=(K' (outS (afterS h s o x) o.kind)).run:=by
     intro kind s' stb hs' ha hq
     obtain⟨o,x,w',d1,d2,d3,d4,d5,d6⟩:=outK_some hq
     simp only[Tr.run,Option.some.injEq]at d4
     refine⟨w',d4.symm,o,x,d2,?_⟩
     unfold outX at d3
     split at d3
     case h_2=>simp at d3
     rename_i hc
     simp only[Bool.and_eq_true,decide_eq_true_eq]at hc
     obtain⟨hc,hc2,hc3,hc4⟩:=hc
     rw[Option.bind_eq_some_iff]at d3
     obtain⟨lx,d7,d8⟩:=d3
     have hst0:∀ q,q∈outObjs h.objs o.more→∃ o,s.hp[q.1]?=some (some o)∧Start s.hp o q.2:=fun q hq=>by
      rcases List.mem_append.1 hq with hq|hq
      ·exact start_abs hlobj q (List.mem_filter.1 hq).1
      ·exact start_more hc4 q hq
     have hov:Over S.T o.slots (h.slots.map (·.1)++h.dead) (outObjs h.objs o.more) o.ext s s' lx:=
      over_of (slots0:=h.slots) (dead0:=h.dead) (List.all_eq_true.1 hok3 o d1) hc3 e1 e2 e3 (fun n hn hm=>e4 n hn (fun hc=>hm (outObjs_mem hc))) e5 (fun t ht=>List.mem_append_right _ ht) ha hc2 hst0 d7
     obtain⟨r1,r2,r3,r4,r5,r6,r7⟩:=over_ok hS.T hov hst hs'
     have ex:=toHL_ok _ _ _ d8
     refine⟨?_,?_,d6⟩
     ·unfold afterS
      rw[ex]
      exact⟨r1.fn,r1.n,r1.fr,r1.hp,by rw[←hc.2]; exact r1.js⟩
     ·unfold afterS
      rw[ex]
      refine⟨r5,r6,fun t ht=>r4 t ?_,fun t ht=>?_,fun n hn hw=>r3 n hn ?_,fun n hn=>?_,?_,?_⟩
      ·simp only[List.mem_append,not_or]at ht ⊢
       exact⟨ht.1,ht.2.1,ht.2.2.1⟩
      ·simp only[List.mem_append]
       exact .inr (.inr (.inr ht))
      ·exact fun hc=>hw (List.mem_append_left _ hc)
      ·exact List.mem_append_right _ hn
      ·simp only
       rw[r2,hov.len]
       omega
      ·intro n o' ho'
       have hn:=(List.getElem?_eq_some_iff.1 ho').1
       by_cases hm:n∈(outObjs h.objs o.more).map (·.1)
       ·obtain⟨qq,hqq,rfl⟩:=List.mem_map.1 hm
        obtain⟨o0,os,of,g1,g2,g3,g4,g5⟩:=r7 qq hqq
        rw[g1]at ho'
        simp only[Option.some.injEq]at ho'
        subst ho'
        refine⟨of,g3,by rw[g5]; exact curP_le _ _,fun ec=>?_⟩
        rw[g4]
        rw[g5]at ec
        obtain⟨oo,m1,m2⟩:=hst0 qq hqq
        rw[g1]at m1
        simp only[Option.some.injEq]at m1
        subst m1
        have habsS:=absS_objs d7
        obtain⟨lS,hlS⟩:=habsS
        obtain⟨oo2,ln2,m3,m4⟩:=absObjs_obj hlS qq (List.mem_append_left _ hqq)
        rw[g2]at m3
        simp only[Option.some.injEq]at m3
        subst m3
        cases hp:qq.2 with
        |list t=>rw[hp]at ec; simp[curP]at ec
        |fix t=>
         rcases List.mem_append.1 hqq with hq1|hq1
         ·exact d5 qq (List.mem_filter.1 hq1).1 t hp o0 os g1 g2
         ·obtain⟨_,_,m5⟩:=start_more hc4 qq hq1
          rw[hp]at m2
          have:=List.all_eq_true.1 hc4 qq hq1
          rw[hp]at this
          simp at this
        |map kk t=>
         rw[hp]at m2 m4
         rcases m2 with ⟨ln,m2⟩|⟨⟨_,m2⟩|⟨_,m2⟩,_⟩
         ·obtain⟨_,rfl,_⟩:=map_abs m2
          obtain⟨_,rfl,_⟩:=map_abs m4
          rfl
         ·cases m2
         ·cases m2
        |one p=>
         rw[hp]at m2 m4
         simp only[absObj]at m4
         split at m4
         case h_2=>simp at m4
         rcases m2 with ⟨ln,m2⟩|⟨_,_,_,_,_,_,rfl⟩
         ·simp only[absObj]at m2
          split at m2
          case h_2=>simp at m2
          rfl
         ·rfl
        |agg p=>
         rw[hp]at m2 m4
         simp only[absObj]at m4
         split at m4
         case h_2=>simp at m4
         rcases m2 with ⟨ln,m2⟩|⟨_,_,_,_,_,_,rfl⟩
         ·simp only[absObj]at m2
          split at m2
          case h_2=>simp at m2
          rfl
         ·rfl
       ·exact⟨o',by simp only; rw[r3 n hn hm]; exact ho',Nat.le_refl _,fun _=>rfl⟩
    cases so with
    |norm s'=>
     left
     obtain⟨stb,rfl,hs'⟩:=c2
     simp only at c4
     split at c4
     ·rename_i y hl hy
      simp only[Bool.and_eq_true,decide_eq_true_eq]at hl
      obtain⟨hjs,hl⟩:=hl
      obtain⟨c5,_⟩:=lenGuard_some c4
      simp only[Tr.run,Option.some.injEq]at c5
      rw[Option.bind_eq_some_iff]at hy
      obtain⟨ly,hy1,hy2⟩:=hy
      have hr:=reset_ok (n:=s.hp.length) hS.T hs' (fun m x hm=>by
       rw[resetS_js]at hjs
       rw[hjs]at hm
       exact recAt_lt (hst.js m x hm).1)
      have hag:Agree sx (resetS s.hp.length s'):=by
       have:=reset_agree hsx' c3
       rw[e5]at this
       exact this
      have hov:Over S.T h.slots h.dead h.objs [] s (resetS s.hp.length s') ly:=
       over_of (slots0:=h.slots) (dead0:=h.dead) nd1 hok2 e1 e2 e3 e4 e5 (fun t ht=>ht) hag hl (start_abs hlobj) (by simpa[extObjs] using hy1)
      have hle:stx.hp.length=s.hp.length:=by rw[←e5]; exact hsx'.hp.length.symm
      refine⟨y,c5.symm,stb,c1,?_⟩
      rw[hle]
      exact hshape y _ ly hov hjs (toHL_ok _ _ _ hy2) _ hr
     ·simp[Tr.run]at c4
    |exit id s'=>
     right
     obtain⟨stb,rfl,hs'⟩:=c2
     obtain⟨w',f1,o',x',f2,f3,f4,f5⟩:=leave (some id) s' stb hs' c3 c4
     refine⟨w',f1,o',x',outS (afterS h s o' x') o'.kind,_,c1,by simp,rfl,?_,?_,f5⟩
     ·rw[f2]; exact⟨stb,rfl,f3⟩
     ·rw[f2]; exact f4
    |ret s'=>
     right
     obtain⟨stb,rfl,hs'⟩:=c2
     obtain⟨w',f1,o',x',f2,f3,f4,f5⟩:=leave none s' stb hs' c3 c4
     refine⟨w',f1,o',x',outS (afterS h s o' x') o'.kind,_,c1,by simp,rfl,?_,?_,f5⟩
     ·rw[f2]; exact⟨stb,rfl,f3⟩
     ·rw[f2]; exact f4
   split at hn
   ·rename_i y hy
    rcases hcase _ hy with ⟨y',e,stb,g1,g2,g3,g4,g5,g6,g7⟩|⟨w',e,_⟩
    ·simp only[Sum.inl.injEq]at e
     subst e
     obtain⟨o,x',so,oo,i1,i2⟩:=ihn _ _ g2 g3 g4 g5 g6 g7 hn
     refine⟨o,x',so,oo,?_,i2⟩
     rw[runC_loop,g1]
     exact i1
    ·simp at e
   ·rename_i w2 hw2
    simp only[Option.some.injEq]at hn
    subst hn
    rcases hcase _ hw2 with ⟨y',e,_⟩|⟨w',e,o,x',so,oo,g1,g2,g3⟩
    ·simp at e
    ·simp only[Sum.inr.injEq]at e
     subst e
     refine⟨o,x',so,oo,?_,g3⟩
     rw[runC_loop,g1]
     cases oo with
     |norm s'=>exact absurd rfl (g2 s')
     |_=>rfl
   ·simp at hn
 obtain⟨n,hn⟩:=loopM_some.1 hw
 have hov:Over S.T h.slots h.dead h.objs [] s s l0:=⟨nd1,hok2,hslN,by simpa[extObjs] using how,rfl,rfl,fun _ _=>rfl,fun _ _ _=>rfl,rfl,sameFlags_refl hlobj,sameCur_refl hlobj,rfl,start_abs hlobj,by simpa[extObjs] using habs⟩
 obtain⟨r1,r2,r3,r4,r5,r6⟩:=hshape x0 s l0 hov rfl (toHL_ok _ _ _ hx0) st hst
 exact main n x0 st r1 r2 r3 r4 r5 r6 hn
theorem exF_ok{k:Nat}(ih:SoundAt S k){ρ:Type}{f:FuncId}{args:List (SV S.T.den)}{hp:SHeap S.T.den}{wh:List Nat}{js:List (Nat×LSt)}{K:SV S.T.den→SHeap S.T.den→List Nat→List (Nat×LSt)→Tr ρ}{r:ρ}{as:List AV}{ahp:AHeap}
  (ha:RL S.T hp args as) (hh:RH S.T hp ahp) (hj:JsOk js hp ahp) (hk:(exF S (k+1) ρ f args hp wh js K).run=some r):∃ v hp' wh' js' a ahp',runF S.C f as ahp=some (.val a,ahp')∧R S.T hp' v a∧RH S.T hp' ahp'∧JsOk js' hp' ahp'∧Grow hp hp'∧hp.length≤hp'.length ∧
    (∀ n:Nat,n<hp.length→n∉wh'→hp'[n]?=hp[n]?)∧(∀ n,n∈wh→n∈wh')∧(K v hp' wh' js').run=some r:=by
 unfold exF at hk
 split at hk
 ·simp[Tr.run]at hk
 rename_i fn hfn
 split at hk
 ·simp[Tr.run]at hk
 rename_i c hc
 rw[forceN_eq,force_eq]at hk
 have hst:=start_ok (f:=f) ha hh fn.ntmps wh hj
 obtain⟨so,o,c1,c2,c3,hk⟩:=ih.c _ _ _ _ _ _ hst hk
 have fin:∀ (s:SSt S.T.den) (st:St),RS S.T s st→Agree ⟨f,max fn.ntmps args.length,argsF 0 args,hp,[],wh,js⟩ s→(endF S.C fn.results o=((resultsL S.C.P st.fr fn.results.toList).run st.hp).map fun l=>(.val (tupOf l),st.hp)) →
   (resS S.T S.Q s fn.results.toList fun l=>K (tupS l) s.hp s.wh s.js).run=some r →
   ∃ v hp' wh' js' a ahp',runF S.C f as ahp=some (.val a,ahp')∧R S.T hp' v a∧RH S.T hp' ahp'∧JsOk js' hp' ahp'∧Grow hp hp'∧hp.length≤hp'.length ∧
   (∀ n:Nat,n<hp.length→n∉wh'→hp'[n]?=hp[n]?)∧(∀ n,n∈wh→n∈wh')∧(K v hp' wh' js').run=some r:=by
  intro s st hs hag he hk
  obtain⟨l,m,g1,g2,hk⟩:=resS_ok hS.T hS.Q hs hk
  refine⟨tupS l,s.hp,s.wh,s.js,tupOf m,st.hp,?_,tup_R g2,hs.hp,hs.js,hag.grow,hag.len,hag.hp,hag.wh,hk⟩
  rw[runF_eq hfn hc,c1]
  simp only[Option.bind_some]
  rw[he]
  have g1':(resultsL S.C.P st.fr fn.results.toList).run st.hp=some m:=g1
  rw[g1']
  rfl
 cases so with
 |norm s=>
  obtain⟨st,rfl,hs⟩:=c2
  exact fin s st hs c3 rfl hk
 |ret s=>
  obtain⟨st,rfl,hs⟩:=c2
  exact fin s st hs c3 rfl hk
 |exit id s=>simp[Tr.run]at hk
theorem exC_ok{k:Nat}(ih:SoundAt S k){ρ:Type}{c:Code}{s:SSt S.T.den}{K:SOut S.T.den→Tr ρ}{r:ρ}{st:St}(h:RS S.T s st)(hk:(exC S (k+1) ρ c s K).run=some r):
  ∃ so o,runC S.C c st=some o∧ROut S.T so o∧Agree s so.st∧(K so).run=some r:=by
 unfold exC at hk
 split at hk
 ·exact⟨.norm s,_,runC_skip st,⟨st,rfl,h⟩,Agree.refl _,hk⟩
 ·exact⟨.norm s,_,runC_label _ st,⟨st,rfl,h⟩,Agree.refl _,hk⟩
 ·exact⟨.ret s,_,runC_ret st,⟨st,rfl,h⟩,Agree.refl _,hk⟩
 ·rename_i id
  exact⟨.exit id s,_,runC_exit id st,⟨st,rfl,h⟩,Agree.refl _,hk⟩
 ·rename_i a b
  obtain⟨so,o,c1,c2,c3,hk⟩:=ih.c _ _ _ _ _ _ h hk
  rw[runC_seq,c1]
  cases so with
  |norm s'=>
   obtain⟨st',rfl,hs'⟩:=c2
   obtain⟨so2,o2,d1,d2,d3,hk⟩:=ih.c _ _ _ _ _ _ hs' hk
   exact⟨so2,o2,d1,d2,c3.trans d3,hk⟩
  |exit id s'=>
   obtain⟨st',rfl,hs'⟩:=c2
   exact⟨.exit id s',_,rfl,⟨st',rfl,hs'⟩,c3,hk⟩
  |ret s'=>
   obtain⟨st',rfl,hs'⟩:=c2
   exact⟨.ret s',_,rfl,⟨st',rfl,hs'⟩,c3,hk⟩
 ·rename_i o a b
  split at hk
  ·rename_i t ht
   have ha:=(h.ev o).lit ht
   rw[runC_cond,ha]
   rcases cond_some hk with ⟨rfl,hk⟩|⟨rfl,hk⟩
   ·exact ih.c _ _ _ _ _ _ h hk
   ·exact ih.c _ _ _ _ _ _ h hk
  ·simp[Tr.run]at hk
 ·rename_i id b
  obtain⟨so,o,c1,c2,c3,hk⟩:=ih.c _ _ _ _ _ _ h hk
  rw[runC_block,c1]
  cases so with
  |norm s'=>
   obtain⟨st',rfl,hs'⟩:=c2
   exact⟨.norm s',_,rfl,⟨st',rfl,hs'⟩,c3,hk⟩
  |exit id' s'=>
   obtain⟨st',rfl,hs'⟩:=c2
   simp only at hk
   by_cases e:id'=id
   ·rw[if_pos e]at hk
    exact⟨.norm s',.norm st',by simp[blockA,e],⟨st',rfl,hs'⟩,c3,hk⟩
   ·rw[if_neg e]at hk
    exact⟨.exit id' s',.exit id' st',by simp[blockA,e],⟨st',rfl,hs'⟩,c3,hk⟩
  |ret s'=>
   obtain⟨st',rfl,hs'⟩:=c2
   exact⟨.ret s',_,rfl,⟨st',rfl,hs'⟩,c3,hk⟩
 ·rename_i b
  split at hk
  case h_2=>simp[Tr.run]at hk
  rename_i c hc
  obtain⟨so,o,c1,c2,c3,hk⟩:=ih.c _ _ _ _ _ _ h hk
  exact⟨so,o,runC_scope hc c1,c2,c3,hk⟩
 ·rename_i b
  split at hk
  ·split at hk
   ·obtain⟨so,o,c1,c2,c3,hk⟩:=ih.c _ _ _ _ _ _ h hk
    rw[runC_loop,c1]
    cases so with
    |norm s'=>
     obtain⟨st',rfl,hs'⟩:=c2
     simp only at hk
     split at hk
     case h_2=>simp[Tr.run]at hk
     rename_i hbel
     rw[force_eq]at hk
     have hr:=reset_ok (n:=s.hp.length) hS.T hs' (belowJ_lt hbel)
     have hag:=reset_agree h c3
     obtain⟨so2,o2,d1,d2,d3,hk⟩:=ih.c _ _ _ _ _ _ hr hk
     refine⟨so2,o2,?_,d2,hag.trans d3,hk⟩
     simp only[Option.bind_some,againA]
     rw[←h.hp.length]
     exact d1
    |exit id s'=>
     obtain⟨st',rfl,hs'⟩:=c2
     exact⟨.exit id s',_,rfl,⟨st',rfl,hs'⟩,c3,hk⟩
    |ret s'=>
     obtain⟨st',rfl,hs'⟩:=c2
     exact⟨.ret s',_,rfl,⟨st',rfl,hs'⟩,c3,hk⟩
   ·simp[Tr.run]at hk
  ·rename_i hi _
   split at hk
   ·rename_i x0 hok hx0
    simp only[Bool.and_eq_true]at hok
    rw[Option.bind_eq_some_iff]at hx0
    obtain⟨l0,h1,h2⟩:=hx0
    simp only[Tr.run,Option.bind_eq_some_iff]at hk
    obtain⟨w,hw,hk⟩:=hk
    obtain⟨o,x,so,oo,g1,g2,g3,g4,g5⟩:=loop_ok hS ih hok.1.1 hok.1.2 hok.2 h1 h2 h hw
    exact⟨so,oo,g1,g3,g4,by rw[←g5]; exact hk⟩
   ·simp[Tr.run]at hk
 ·rename_i id ops draw
  split at hk
  ·obtain⟨s00,e10,e20,hk⟩:=holesK_ok h hk
   obtain⟨s0,e1,e2,hk⟩:=twL_ok hS.T e10 hk
   replace e2:=e20.trans e2
   rw[forceG_eq]at hk
   obtain⟨s',st',g1,g2,g3,hk⟩:=exOps_ok (C:=S.C) (fun o s st K h hk=>ih.o _ _ _ _ _ _ h hk) _ _ _ _ e1 hk
   exact⟨.norm s',.norm st',by rw[runC_opsH,←h.fn]; exact g1,⟨st',rfl,g2⟩,e2.trans g3,hk⟩
  ·split at hk
   case isFalse=>simp[Tr.run]at hk
   rename_i hreg
   generalize hm:S.C.head s.fn id ops=m at hk
   have key:∀ (s:SSt S.T.den) (st:St),RS S.T s st→(forceG ops ops.toList fun l=>forceI (mapItems (nameOps 0 s.hp.length (ops.toList.take m)) l) fun li=>exDraw (fun nm o s K=>exE S nm o s K) li
       { s with hp:=s.hp++List.replicate ((ops.toList.take m).filter fun o=>isAllocOp o.op).length none } [] fun s' fs=>
      if (footsFast (predsA ops.toList) fs && tailOk (predsA ops.toList) ops.size m) = true then exOps (fun o s K => exO S k ρ o s K) (l.drop m) s' fun s' => K (.norm s') else .no "an order").run = some r →
     ∃ so o,(runDE S.C ops (nameOps 0 st.hp.length (ops.toList.take m)) { st with hp:=st.hp++List.replicate ((ops.toList.take m).filter fun o=>isAllocOp o.op).length none }).bind (doneD S.C ops m)=some o ∧
       ROut S.T so o∧Agree s so.st∧(K so).run=some r:=by
    clear hk h
    intro s st h hk
    rw[forceG_eq,forceI_eq,mapItems_take]at hk
    have hRH:∀ n:Nat,Grow s.hp (s.hp++List.replicate n none)∧RH S.T (s.hp++List.replicate n none) (st.hp++List.replicate n none):=by
     intro n
     have hg:Grow s.hp (s.hp++List.replicate n none):=fun m o ho=>⟨o,by rw[List.getElem?_append_left (List.getElem?_eq_some_iff.1 ho).1]; exact ho,Nat.le_refl _,fun _=>rfl⟩
     exact⟨hg,All2.append (All2.mono (fun _ _=>ROo.mono hg) h.hp) (All2.replicate (show ROo S.T _ none none from trivial) n)⟩
    generalize hcnt:((ops.toList.take m).filter fun o=>isAllocOp o.op).length=cnt at hk
    have hs1:RS S.T { s with hp:=s.hp++List.replicate cnt none } { st with hp:=st.hp++List.replicate cnt none }:=
     ⟨h.fn,h.n,fun t=>(h.fr t).mono (hRH cnt).1,(hRH cnt).2,h.js.keep fun n hn=>⟨by simp only; rw[List.getElem?_append_left (recAt_lt hn)],by simp only; rw[List.getElem?_append_left (by rw[←h.hp.length]; exact recAt_lt hn)]⟩⟩
    have hag1:Agree s { s with hp:=s.hp++List.replicate cnt none }:=
     ⟨rfl,rfl,fun _ _=>rfl,fun _ h=>h,fun n hn _=>by simp only; rw[List.getElem?_append_left hn],fun _ h=>h,by simp,(hRH cnt).1⟩
    obtain⟨s',st',fs1,fs2,g1,g2,g3,g4,hk⟩:=exDraw_ok (C:=S.C) (ops:=ops) (fun nm o s st K h hn hk=>exE_ok hS h hn hk) (nameOps 0 s.hp.length (ops.toList.take m)) s.hp.length _ _ [] _ (named_ops _ _ _)
     (by rw[countA_ops,hcnt]; simp) (fun m hm hml=>by
       simp only at hml ⊢
       rw[List.getElem?_append_right hm,List.getElem?_replicate,if_pos]
       simp at hml; omega) hs1 hk
    split at hk
    case isFalse=>simp[Tr.run]at hk
    rename_i hfoot
    rw[Bool.and_eq_true]at hfoot
    obtain⟨hfoot,htail⟩:=hfoot
    obtain⟨s2,st2,j1,j2,j3,hk⟩:=exOps_ok (C:=S.C) (fun o s st K h hk=>ih.o _ _ _ _ _ _ h hk) _ _ _ _ g3 hk
    refine⟨.norm s2,.norm st2,?_,⟨st2,rfl,j2⟩,hag1.trans (g4.trans j3),hk⟩
    have hl:=h.hp.length
    rw[←hl]
    rw[g1]
    simp only[Option.bind_some,doneD]
    rw[if_pos]
    ·rw[runG_ops,←j1,List.map_drop]
    ·rw[Bool.and_eq_true]
     simp only[List.nil_append]at hfoot
     exact⟨footsOk_le g2 (footsFast_ok hfoot),htail⟩
   obtain⟨s00,e10,e20,hk⟩:=holesK_ok h hk
   obtain⟨s0,e1,e2,hk⟩:=twL_ok hS.T e10 hk
   replace e2:=e20.trans e2
   obtain⟨so,o,i1,i2,i3,hk⟩:=key s0 _ e1 hk
   refine⟨so,o,?_,i2,e2.trans i3,hk⟩
   rw[runC_draw id ops hreg,←h.fn,←holesA_len (S.C.holes s.fn id) st,hm]
   exact i1
 ·-- a range over a function
  rename_i f ps as bd
  split at hk
  case h_2=>simp[Tr.run]at hk
  rename_i g args hg
  split at hk
  case h_2=>simp[Tr.run]at hk
  rename_i hcond
  rw[Bool.and_eq_true]at hcond
  have hl:=h.hp.length
  have hfr:=rec_frame h hcond.2
  obtain⟨H1,hH1⟩:∃ H1,H1=s.hp++[some (SObj.recd s.fn ps as bd (recS (usesC as++usesC bd) s.fr (List.range s.n)))]:=⟨_,rfl⟩
  rw[←hH1]at hk
  have hgr:Grow s.hp H1:=fun m o ho=>⟨o,by rw[hH1,List.getElem?_append_left (List.getElem?_eq_some_iff.1 ho).1]; exact ho,Nat.le_refl _,fun _=>rfl⟩
  have hat:H1[s.hp.length]?=some (some (SObj.recd s.fn ps as bd (recS (usesC as++usesC bd) s.fr (List.range s.n)))):=by rw[hH1]; simp
  have hh1:RH S.T H1 (st.hp++[some (.oth (.loop st.fn ps as bd .ready) (recF as bd st.fr))]):=by
   have:All2 (ROo S.T H1) (s.hp++[some (SObj.recd s.fn ps as bd (recS (usesC as++usesC bd) s.fr (List.range s.n)))]) (st.hp++[some (.oth (.loop st.fn ps as bd .ready) (recF as bd st.fr))]):=
    All2.append (All2.mono (fun _ _=>ROo.mono hgr) h.hp) ⟨⟨.ready,_,by rw[h.fn],All2.mono (fun _ _ h=>h.imp id (R.mono hgr)) hfr⟩,trivial⟩
   rw[←hH1]at this
   exact this
  have hj1:JsOk ((s.hp.length,.ready)::s.js) H1 (st.hp++[some (.oth (.loop st.fn ps as bd .ready) (recF as bd st.fr))]):=by
   intro m x hm
   simp only[lookS]at hm
   split at hm
   ·simp_all[recAt,hat,SObj.isRec,loopSt]
   ·obtain⟨h1,h2⟩:=h.js m x hm
    have hlt:=recAt_lt h1
    exact⟨by rw[recAt_eq (show H1[m]?=s.hp[m]? by rw[hH1,List.getElem?_append_left hlt])]; exact h1,by rw[loopSt_eq (List.getElem?_append_left (by omega))]; exact h2⟩
  have hyR:RV S.T H1 (.mp true s.hp.length) (.mp true st.hp.length):=.inr (by simp only[R]; exact⟨by rw[hl],_,hat⟩)
  obtain⟨m,hm1,hm2⟩:=resolveS_ok ((h.ev f).mono hgr) (show All2 (RV S.T H1) [.mp true s.hp.length] [.mp true st.hp.length] from ⟨hyR,trivial⟩) hg
  have hdead:args.any isDead=false:=by simpa using hcond.1
  obtain⟨v,hp',wh',js',a,ahp',g1,g2,g3,gj,g4,g5,g6,g7,hk⟩:=ih.f _ _ _ _ _ _ _ _ _ _ (hm2 hdead) hh1 hj1 hk
  have hlen1:H1.length=s.hp.length+1:=by rw[hH1]; simp
  have fin:∀ x,lookS js' s.hp.length=some x→RS S.T (s.over s.hp.length hp' wh' js') { st with hp:=endSt ahp' st.hp.length }∧Agree s (s.over s.hp.length hp' wh' js')∧loopSt ahp' st.hp.length=some x:=by
   intro x hx
   obtain⟨q1,q2⟩:=gj _ _ hx
   rw[hl]at q2
   obtain⟨fn',ps',as',bd',fr',hr⟩:=loopSt_some q2
   obtain⟨o,ho,hor⟩:∃ o,hp'[s.hp.length]?=some (some o)∧o.isRec=true:=by
    grind[recAt]
   have hcur:o.cur=0∧o.len=0:=by cases o<;>simp[SObj.isRec]at hor; exact⟨rfl,rfl⟩
   have hend:endSt ahp' st.hp.length=ahp'.set st.hp.length (some (.oth (.loop fn' ps' as' bd' .over) (fr'.map fun _=>.any))):=by unfold endSt; rw[hr]
   obtain⟨u1,u2⟩:=g3.upd ho (o':=.junk) (a':=.oth (.loop fn' ps' as' bd' .over) (fr'.map fun _=>.any)) (by rw[hcur.1]; exact Nat.zero_le _) (fun _=>by rw[hcur.2]; rfl) (.inr ⟨_,_,rfl,fun n=>by
    rw[belowL_all]
    simp[Go.PI.below]⟩)
   rw[hl]at u2
   have hgrow:Grow s.hp (hp'.set s.hp.length (some .junk)):=hgr.trans (g4.trans u1)
   refine⟨⟨h.fn,h.n,fun t=>(h.fr t).mono hgrow,?_,?_⟩,⟨rfl,rfl,fun _ _=>rfl,fun _ h=>h,fun n hn hw=>?_,g7,?_,hgrow⟩,q2⟩
   ·rw[hend]
    show RH S.T (hp'.set s.hp.length (some .junk)) _
    rw[hl]; exact u2
   ·intro n y hy
    have hy':lookS (dropJ js' s.hp.length) n=some y:=hy
    rw[lookS_dropJ]at hy'
    split at hy'
    ·simp at hy'
    rename_i hne
    obtain⟨w1,w2⟩:=gj _ _ hy'
    refine⟨?_,?_⟩
    ·rw[recAt_eq (show (s.over s.hp.length hp' wh' js').hp[n]?=hp'[n]? from List.getElem?_set_ne (Ne.symm hne))]; exact w1
    ·rw[hend,loopSt_eq (List.getElem?_set_ne (by rw[←hl]; exact Ne.symm hne))]; exact w2
   ·show (hp'.set s.hp.length (some .junk))[n]?=_
    rw[List.getElem?_set_ne (by omega),g6 n (by omega) hw,hH1,List.getElem?_append_left hn]
   ·show s.hp.length≤(hp'.set s.hp.length (some .junk)).length
    rw[List.length_set]; omega
  have hrun:runC S.C (.rangeFunc f ps as bd) st=overA st st.hp.length ahp':=by
   rw[runC_range,hm1]
   simp only[Option.bind_some,g1]
   rfl
  rw[hrun]
  split at hk
  ·rename_i hx
   obtain⟨f1,f2,f3⟩:=fin _ hx
   exact⟨.norm _,_,by unfold overA; rw[f3],⟨_,rfl,f1⟩,f2,hk⟩
  ·rename_i hx
   obtain⟨f1,f2,f3⟩:=fin _ hx
   exact⟨.ret _,_,by unfold overA; rw[f3],⟨_,rfl,f1⟩,f2,hk⟩
  ·rename_i id hx
   obtain⟨f1,f2,f3⟩:=fin _ hx
   exact⟨.exit id _,_,by unfold overA; rw[f3],⟨_,rfl,f1⟩,f2,hk⟩
  ·simp[Tr.run]at hk
 ·simp[Tr.run]at hk
theorem ex_sound:∀ k,SoundAt S k
 |0=>⟨fun _ _ _ _ _ _ _ _ _ _ _ _ _ h=>by simp[exF,Tr.run]at h,fun _ _ _ _ _ _ _ h=>by simp[exC,Tr.run]at h,fun _ _ _ _ _ _ _ h=>by simp[exO,Tr.run]at h⟩
 |k+1=>
  have ih:=ex_sound k
  ⟨fun _ _ _ _ _ _ _ _ _ _ ha hh hj hk=>exF_ok hS ih ha hh hj hk,fun _ _ _ _ _ _ h hk=>exC_ok hS ih h hk,fun _ _ _ _ _ _ h hk=>exO_ok hS ih h hk⟩
end
end Go.PI
end
section
/- PS, part R: from an equation of trees to what is known of a function; laws; arguments read. -/
namespace Go.PI
theorem sumOk_of[Glob]{S:SCtx}(hS:S.Ok){k:Nat}{f:FuncId}{σ:Summ S.T}(hk:S.C.kind f=.pure)(hi:S.C.intr f=none)(h:∀ x,(fnTr S k f σ.args σ.res x).run=σ.fn x):SumOk S.C S.T f σ where
 kind:=hk
 ans:=by
  intro x as y hx hy
  rw[←h x]at hy
  unfold fnTr at hy
  obtain⟨v,hp',wh',js',a,ahp',g1,g2,g3,_,_,_,_,_,hy⟩:=(ex_sound hS k).f _ f _ [] [] [] _ _ as [] (upL_R hS.T [] hx) (show RH S.T [] [] from trivial) (fun _ _ h=>by simp[lookS]at h) hy
  obtain⟨v',rd,a',h1,h2,h3,hy⟩:=sealS_ok g3 g2 hy
  split at hy
  case h_2=>simp[Tr.run]at hy
  rename_i r hr
  simp only[Tr.run,Option.some.injEq]at hy
  subst hy
  rw[Option.bind_eq_some_iff]at hr
  obtain⟨l,hl,hr⟩:=hr
  have h1':∀ (ts:List Nat) (l:List (SV S.T.den)) r,dnL S.T ts l=some r→ts.length=l.length:=by
   intro ts
   induction ts with
   |nil=>
    grind[dnL]
   |cons t ts ih=>
    intro l r h
    cases l with
    |nil=>simp[dnL]at h
    |cons v l=>
     simp only[dnL,Option.bind_eq_some_iff,Option.map_eq_some_iff]at h
     obtain⟨_,_,_,h,_⟩:=h
     simp[ih _ _ h]
  have hlen:=h1' _ _ _ hl
  have key:∃ m,RL S.T hp' (compS σ.res v') m∧tupOf m=a':=by
   unfold compS at hlen ⊢
   split at hlen
   ·exact⟨[a'],by simp only[RL]; exact⟨h2,trivial⟩,rfl⟩
   ·rename_i hne
    have hl1:σ.res.length≠1:=by
     intro hc
     match hres:σ.res,hc with
     |[t],_=>exact hne t hres
    split at hlen
    ·simp only[R]at h2
     obtain⟨m,rfl,h2⟩:=h2
     have hm:=h2.length
     refine⟨m,h2,?_⟩
     match m,hm with
     |[],_=>rfl
     |[x],hm=>simp at hm; omega
     |x::y::r,_=>rfl
    ·simp at hlen; omega
  obtain⟨m,hm1,hm3⟩:=key
  have hrp:=dnL_ok hS.T hm1 hl
  rw[toHL_ok _ _ _ hr]
  refine⟨a,ahp',m,?_,?_,?_,hrp⟩
  ·simp only[ansC,hi,g1]
  ·rw[hm3]; exact h1.1
  ·rw[hm3]; exact h3.1
def mkS(C:Ctx)(T:Tys)(M:List (Nat×MTy))(hint:FuncId→Nat→Option Hint)(roll:FuncId→Nat→Bool)(L:List (Nat×Summ T))(n:Nat)(O:List (Nat×OSumm T):=[])(sel:FuncId→Nat→Bool:=fun _ _=>false)(tw:FuncId→Tmp→List Tw:=fun _ _=>[]):SCtx:=
 ⟨C,T,lookS (L.take n),hint,roll,M,lookS O,sel,tw⟩
theorem lookS_app{α:Type}:∀ {l m:List (Nat×α)} {n:Nat} {a:α},lookS (l++m) n=some a→lookS l n=some a∨lookS m n=some a
 |[],m,n,a,h=>.inr h
 |(k,b)::l,m,n,a,h=>by
  simp only[List.cons_append,lookS]at h ⊢
  split at h
  ·exact .inl h
  ·exact lookS_app h
section
variable {C:Ctx}{T:Tys}{M:List (Nat×MTy)}{hint:FuncId→Nat→Option Hint}{roll:FuncId→Nat→Bool}{L:List (Nat×Summ T)}{O:List (Nat×OSumm T)}{sel:FuncId→Nat→Bool}{tw:FuncId→Tmp→List Tw}
theorem mkS_zero[Glob](hT:T.Ok)(hQ:Prg.Ok ⟨C.P,M,fun _=>false⟩)(hZ:T.Zeros ⟨C.P,M,fun _=>false⟩)(hO:∀ g σ,lookS O g=some σ→OwnOk C T g σ):(mkS C T M hint roll L 0 O sel tw).Ok:=
 ⟨hT,hQ,hZ,fun g σ h=>by simp[mkS,lookS]at h,hO⟩
theorem mkS_step[Glob]{n:Nat}(hS:(mkS C T M hint roll L n O sel tw).Ok){f:FuncId}{σ:Summ T}(hL:L[n]?=some (f,σ))(h:SumOk C T f σ):(mkS C T M hint roll L (n+1) O sel tw).Ok:=by
 refine⟨hS.T,hS.Q,hS.Z,fun g τ hg=>?_,hS.own⟩
 simp only[mkS]at hg
 rw[List.take_add_one,hL]at hg
 rcases lookS_app hg with hg|hg
 ·exact hS.sum g τ hg
 ·have:=lookS_mem hg
  simp only[Option.toList_some,List.mem_singleton]at this
  obtain⟨rfl,rfl⟩:=this
  exact h
theorem mkS_next[Glob]{n:Nat}(hS:(mkS C T M hint roll L n O sel tw).Ok){f:FuncId}{σ:Summ T}(hL:L[n]?=some (f,σ))(hk:C.kind f=.pure)(hi:C.intr f=none)(k:Nat)
  (h:∀ x,(fnTr (mkS C T M hint roll L n O sel tw) k f σ.args σ.res x).run=σ.fn x):(mkS C T M hint roll L (n+1) O sel tw).Ok:=
 mkS_step hS hL (sumOk_of hS hk hi h)
theorem mkS_sum[Glob]{n:Nat}(hS:(mkS C T M hint roll L n O sel tw).Ok){f:FuncId}{σ:Summ T}(h:lookS (L.take n) f=some σ):SumOk C T f σ:=hS.sum f σ h
end
theorem sealV_bool[Glob]{hp:AHeap}{v:AV}{b:Bool}(h:(sealV 1000 v).run hp=some (.lit (.bool b))):v=.lit (.bool b):=by
 cases v with
 |lit x=>
  simp only[sealV]at h
  split at h
  ·simp[RM.run_pure]at h
  ·simpa[RM.run_pure] using h
 |agg l=>simp only[sealV,RM.run_bind]at h; cases hq:(sealL 999 l).run hp<;>rw[hq]at h<;>simp[RM.run_pure]at h
 |tup l=>simp only[sealV,RM.run_bind]at h; cases hq:(sealL 999 l).run hp<;>rw[hq]at h<;>simp[RM.run_pure]at h
 |sl l=>simp[sealV,RM.run_pure]at h
 |slx l c=>simp[sealV,RM.run_pure]at h
 |nz=>simp[sealV,RM.run_pure]at h
 |eref e j=>simp[sealV,RM.run_pure]at h
 |ref n ver i j=>
  simp only[sealV,RM.run_bind]at h
  cases hq:(RM.arr n ver).run hp with
  |none=>rw[hq]at h; simp at h
  |some q=>
   obtain⟨g,c,f,es⟩:=q
   rw[hq]at h
   simp only[Option.bind_some]at h
   split at h
   ·split at h
    ·simp[RM.run_pure]at h
    ·rename_i e _ _
     rw[RM.run_bind]at h
     cases hq2:(sealV 999 e).run hp<;>rw[hq2]at h<;>simp[RM.run_pure]at h
   ·simp[RM.run_fail]at h
 |asl n ver i j len cap=>
  simp only[sealV,RM.run_bind]at h
  cases hq:(RM.arr n ver).run hp with
  |none=>rw[hq]at h; simp at h
  |some q=>
   obtain⟨g,c,f,es⟩:=q
   rw[hq]at h
   simp only[Option.bind_some]at h
   split at h
   ·split at h
    ·split at h
     ·simp[RM.run_pure]at h
     ·rename_i cs _ _ _
      rw[RM.run_bind]at h
      cases hq2:(sealL 999 ((cs.drop j).take len)).run hp<;>rw[hq2]at h<;>simp[RM.run_pure]at h
    ·simp[RM.run_fail]at h
   ·simp[RM.run_fail]at h
 |mp n=>simp[sealV,RM.run_fail]at h
 |any=>simp[sealV,RM.run_fail]at h
 |ifc t x=>simp only[sealV,RM.run_bind]at h; cases hq:(sealV 999 x).run hp<;>rw[hq]at h<;>simp[RM.run_pure]at h
 |clo fn f c=>
  simp only[sealV,RM.run_bind]at h
  cases hq:(sealL 999 f).run hp with
  |none=>rw[hq]at h; simp at h
  |some f'=>
   cases hq2:(sealL 999 c).run hp with
   |none=>rw[hq,hq2]at h; simp at h
   |some c'=>simp_all[RM.run_pure]
 |osl esz n ver off len cap=>
  simp only[sealV,RM.run_bind]at h
  cases hq:(RM.arr n ver).run hp with
  |none=>rw[hq]at h; simp at h
  |some q=>
   obtain⟨g,c,f,es⟩:=q
   rw[hq]at h
   simp only[Option.bind_some]at h
   split at h
   ·split at h
    ·simp[RM.run_pure]at h
    ·rw[RM.run_bind]at h
     cases hq2:(sealL 999 ((es.drop off).take len)).run hp<;>rw[hq2]at h<;>simp[RM.run_pure]at h
   ·simp[RM.run_fail]at h
open Go.RowKit in
theorem law_true[Glob]{C:Ctx}{T:Tys}(hC:C.Ok){f:FuncId}{σ:Summ T}(h:SumOk C T f σ)(hi:C.intr f=none){x:HL T.den (σ.args.map .v)}{y:HL T.den (σ.res.map .v)}(hy:σ.fn x=some y)
  (hres:∀ l,All2 (rpV T) (ofHL _ y) l→l=[.lit (.bool true)]) {as:List AV} (ha:All2 (rpV T) (ofHL _ x) as) {W:World} (hg:GlobOk (Env.all W)) {vs:List Value} (hr:RepT (Env.all W) false as vs) :
  Calls C.P f vs.toArray W fun e w'=>e=.returned (.bool true)∧Below W.heap.size W w':=by
 obtain⟨v,hpf,l,h1,h2,_,h4⟩:=h.ans x as y ha hy
 have:=hres l h4
 subst this
 have hv:=sealV_bool h2
 subst hv
 unfold ansC at h1
 rw[hi]at h1
 simp only at h1
 split at h1
 case h_2=>simp at h1
 rename_i v0 hpf0 hrun
 simp only[Option.some.injEq,Prod.mk.injEq]at h1
 obtain⟨rfl,rfl⟩:=h1
 exact law_calls hC hrun hg hr
end Go.PI
end
section
/- PS, part S: arguments that came in, as typed values. -/
namespace Go.PI
section
variable {P:Program}{n t:Nat}{l:List AV}
theorem shape_succ(h:Shape P n t l):∃ k,n=k+1:=by
 cases n with
 |zero=>simp[Shape]at h
 |succ k=>exact⟨k,rfl⟩
theorem shape_bool[Glob](hu:P.underlying t=some .bool)(h:Shape P n t l):∃ b,l=[.lit (.bool b)]:=by
 obtain⟨k,rfl⟩:=shape_succ h
 simpa only[Shape,hu] using h
theorem shape_int[Glob]{i:IntKind}(hu:P.underlying t=some (.int i))(h:Shape P n t l):∃ m:Int,l=[.lit (.int i m)]∧i.min≤m∧m≤i.max:=by
 obtain⟨k,rfl⟩:=shape_succ h
 simp only[Shape,hu]at h
 obtain⟨m,h1,h2⟩:=h
 simp only[Lit.wf,Bool.and_eq_true,decide_eq_true_eq]at h2
 exact⟨m,h1,h2⟩
theorem shape_slice[Glob]{e:Nat}{α:Type}{Q:α→AV→Prop}{d:TypeDesc}(hu:P.underlying t=some (.slice e))(he:P.underlying e=some d)(h:Shape P n t l)
  (helem:∀ k x,(∃ cl,(if isAggD d then x=AV.agg cl else cl=[x])∧Shape P k e cl)→∃ y,Q y x) :
  ∃ ys xs,l=[.sl xs]∧All2 Q ys xs∧ys.length≤maxLen:=by
 obtain⟨k,rfl⟩:=shape_succ h
 simp only[Shape,hu]at h
 obtain⟨xs,h1,h2,h3⟩:=h
 have:∃ ys,All2 Q ys xs:=by
  clear h1 h2
  induction xs with
  |nil=>exact⟨[],trivial⟩
  |cons x xs ih=>
   obtain⟨ys,h4⟩:=ih fun y hy=>h3 y (List.mem_cons_of_mem _ hy)
   obtain⟨cl,h5,h6⟩:=h3 x (by simp)
   rw[he]at h5
   obtain⟨y,h7⟩:=helem k x ⟨cl,h5,h6⟩
   exact⟨y::ys,h7,h4⟩
 obtain⟨ys,h4⟩:=this
 exact⟨ys,xs,h1,h4,by rw[h4.length]; exact h2⟩
theorem shape_struct[Glob]{fs:Array Field}(hu:P.underlying t=some (.struct fs))(h:Shape P n t l):l.length=P.cellsOf t∧∃ k,∀ f,f∈fs.toList→Shape P k f.type ((l.drop f.offset).take (P.cellsOf f.type)):=by
 obtain⟨k,rfl⟩:=shape_succ h
 simp only[Shape,hu]at h
 exact⟨h.1,k,h.2⟩
theorem shape_fields[Glob]{Q:Prg}(hQ:Q.Ok){t:Nat}{m:MTy}(hm:Q.ty t=some m){fs:List (Nat×Nat)}(hk:m.kind=.struct fs)(h:Shape Q.P n t l):
  l.length=Q.P.cellsOf t∧∃ k,∀ q,q∈fs→Shape Q.P k q.2 ((l.drop q.1).take (Q.P.cellsOf q.2)):=by
 obtain⟨d,hd,hk2⟩:=hQ.kind t m hm
 rw[hk]at hk2
 cases d<;>simp[kindOf]at hk2
 rename_i fs'
 subst hk2
 obtain⟨h1,k,h2⟩:=shape_struct hd h
 refine⟨h1,k,fun q hq=>?_⟩
 obtain⟨f,hf,rfl⟩:=List.mem_map.1 hq
 exact h2 f hf
end
theorem cellsOf_ty{Q:Prg}(hQ:Q.Ok){t:Nat}{m:MTy}(h:Q.ty t=some m):Q.P.cellsOf t=m.size:=by
 obtain⟨r,h1,_,h2,_⟩:=hQ.row t m h
 unfold tyOf at h1
 unfold Program.cellsOf
 cases hi:Q.P.info? t with
 |none=>rw[hi]at h1; simp at h1
 |some i=>
  grind
theorem shape_same[Glob]{P:Program}{n t t':Nat}{l:List AV}(hu:P.underlying t=P.underlying t')(h:Shape P n t l)(hc:P.cellsOf t=P.cellsOf t':=by kernel_rfl):Shape P n t' l:=by
 obtain⟨k,rfl⟩:=shape_succ h
 simp only[Shape]at h ⊢
 rw[←hu,←hc]
 exact h
theorem leaf_int{k:IntKind}{n:Int}:isLeaf (.lit (.int k n))=true:=rfl
theorem leaf_bool{b:Bool}:isLeaf (.lit (.bool b))=true:=rfl
theorem leaf_str{s:ByteArray}:isLeaf (.lit (.string s))=true:=rfl
theorem RL_cons_iff{T:Tys}{H:SHeap T.den}{v:SV T.den}{vs:List (SV T.den)}{l:List AV}:RL T H (v::vs) l↔∃ c cs,l=c::cs∧R T H v c∧RL T H vs cs:=by
 cases l with
 |nil=>simp[RL]
 |cons c cs=>
  grind[RL]
theorem RL_nil_iff{T:Tys}{H:SHeap T.den}{l:List AV}:RL T H [] l↔l=[]:=by
 cases l<;>simp[RL]
end Go.PI
end
section
/- PS: what must hold of a seat's types, for all the plain kinds at once. -/
namespace Go.PI
section
variable {T:Tys}{H:SHeap T.den}{v:SV T.den}{a:AV}
theorem dI_ok{k:IntKind}{x:Int}(h:dI k v=some x)(hr:R T H v a):a=.lit (.int k x):=by
 unfold dI at h
 split at h
 ·simp_all[R]
 ·simp at h
theorem dB_ok{x:Bool}(h:dB v=some x)(hr:R T H v a):a=.lit (.bool x):=by
 unfold dB at h
 split at h
 ·simp_all[R]
 ·simp at h
theorem dS_ok{x:ByteArray}(h:dS v=some x)(hr:R T H v a):a=.lit (.string x):=by
 unfold dS at h
 split at h
 ·simp_all[R]
 ·simp at h
theorem dlG_ok{α:Type}{q:α→AV→Prop}{d:SV T.den→Option α}(hd:∀ v x a,d v=some x→R T H v a→q x a):∀ (vs:List (SV T.den)) (l:List α) (m:List AV),dlG d vs=some l→RL T H vs m→All2 q l m
 |[],l,[],h,_=>by simp[dlG]at h; subst h; trivial
 |v::vs,l,a::m,h,hr=>by
  simp only[RL]at hr
  simp only[dlG,Option.bind_eq_some_iff,Option.map_eq_some_iff]at h
  obtain⟨x,h1,ys,h2,rfl⟩:=h
  exact⟨hd _ _ _ h1 hr.1,dlG_ok hd vs ys m h2 hr.2⟩
 |[],_,_::_,_,h=>by simp[RL]at h
 |_::_,_,[],_,h=>by simp[RL]at h
theorem dnG_ok{e:Nat}{x:List (T.den e)}{d:SV T.den→Option (T.den e)}(hd:∀ v x a,d v=some x→R T H v a→T.rp e x a)(h:dnG e d v=some x)(hr:R T H v a):rpG (T.rp e) x a:=by
 unfold dnG at h
 split at h
 ·rename_i t l
  split at h
  ·rename_i e
   subst e
   have e2:l=x:=Option.some.inj h
   subst e2
   simp only[R]at hr
   exact hr
  ·simp at h
 ·simp only[R]at hr
  obtain⟨m,rfl,hm,_⟩:=hr
  exact .inl ⟨m,rfl,dlG_ok hd _ _ _ h hm⟩
 ·grind[R]
 ·simp at h
theorem dnP_ok{α:Type}{q:α→AV→Prop}{d:SV T.den→Option α}{x:α}(hd:∀ v a,d v=some x→R T H v a→q x a)(h:dnP d v=some x)(hr:R T H v a):rpP q x a:=by
 unfold dnP at h
 split at h
 ·grind[R]
 ·simp at h
theorem uL{l:Value}(h:a=.lit l):R T H (.lit l) a:=by simp only[R]; exact h
theorem uG{e:Nat}{x:List (T.den e)}(h:rpG (T.rp e) x a):R T H (.tsl e x) a:=by simp only[R]; exact h
theorem uP{α:Type}{q:α→AV→Prop}{u:α→SV T.den}{x:α}(hu:∀ b,q x b→R T H (u x) b)(hc:closedS (u x)=true)(h:rpP q x a):R T H (.eref (u x) 0) a:=by
 grind[R]
theorem eI{k:IntKind}{x:Int}(h:a=.lit (.int k x)):okElem false 1 a=true∧closed a=true∧isLeaf a=true:=by subst h; exact⟨rfl,rfl,rfl⟩
theorem eB{x:Bool}(h:a=.lit (.bool x)):okElem false 1 a=true∧closed a=true∧isLeaf a=true:=by subst h; exact⟨rfl,rfl,rfl⟩
theorem eS{x:ByteArray}(h:a=.lit (.string x)):okElem false 1 a=true∧closed a=true∧isLeaf a=true:=by subst h; exact⟨rfl,rfl,rfl⟩
theorem eG{α:Type}{q:α→AV→Prop}{x:List α}(h:rpG q x a):okElem false 1 a=true∧closed a=true∧isLeaf a=true:=by
 rcases h with ⟨l,rfl,_⟩|⟨_,rfl⟩<;>exact⟨rfl,rfl,rfl⟩
theorem eP{α:Type}{q:α→AV→Prop}{x:α}(h:rpP q x a):okElem false 1 a=true∧closed a=true∧isLeaf a=true:=by
 obtain⟨b,rfl,_⟩:=h
 exact⟨rfl,rfl,rfl⟩
theorem e12{p q r:Prop}(h:p∧q∧r):p∧q:=⟨h.1,h.2.1⟩
theorem zz{α β:Type}{P:α→β→Prop}{x z:α}{y za:β}(h1:some x=some z)(h2:some y=some za)(h:P x y):P z za:=by
 simp_all
theorem zn{α:Type}{z:α}{p:Prop}(h:(none:Option α)=some z):p:=by cases h
end
end Go.PI
end
section
/- PS, part U: what is lacking of laws to compute by: appends and literal slices. -/
namespace Go.PI
variable {C:Ctx}{P:Program}{dst:Option Tmp}{type:TypeId}{pos:String}{after:Array Edge}{guard:Option (Nat×Bool)}{s:St}{hp:AHeap}{nm:Nat}{ev:Operand→AV}
theorem ro_asNil[Glob]{d:Tmp}(h:C.acc s.fn d=false):runO C ⟨some d,.assign (.const (.slice none 0 0)),type,pos,after,guard⟩ s=some (.norm { s with fr:=s.fr.set d (.lit nilSl) }):=by
 refine lim_step (growO C _ _) (by simp[evO]) fun k=>?_
 simp only[evO,h]
 rfl
theorem op_app{x y:Operand}{t u:TypeId}:(opEff P nm ev ⟨dst,.call ⟨.builtin .append,#[x,y],#[t,u]⟩,type,pos,after,guard⟩).run hp=(appendA P nm t u (ev x) (ev y)).run hp:=rfl
theorem op_build0{t:TypeId}{r:TyRow}(hse:sliceElem P t=some r)(hz:(elemZero r).isSome=true)(hr:0<r.size):
  (opEff P nm ev ⟨dst,.buildSlice t 0 #[],type,pos,after,guard⟩).run hp=some ⟨.osl r.size nm 0 0 0 (some 0),[(nm,.arr false true false [])]⟩:=by
 obtain⟨z,hz⟩:=Option.isSome_iff_exists.1 hz
 simp only[opEff,buildSliceA,hse,hz]
 simp[hr,closedL,setParts]
 rfl
theorem app_first[Glob]{t u:TypeId}{r:TyRow}(hse:sliceElem P t=some r)(hst:isSliceTy P u=true)(hz:(elemZero r).isSome=true)(hr:0<r.size){xs:List AV}{c n:Nat}(hall:xs.all (okElem r.isAgg r.size)=true)
  (hne:xs≠[]) (hobj:(RM.arr n 0).run hp=some (false,true,false,[])) (h1:xs.length*r.bytes≤2^44) (h2:xs.length≤2^44) :
  (appendA P nm t u (.osl r.size n 0 0 0 (some 0)) (.slx xs c)).run hp=some ⟨.osl r.size nm xs.length 0 xs.length none,[(nm,.arr true true false xs)]⟩:=by
 have hn:xs.isEmpty=false:=by cases xs<;>simp_all
 have hl:0<xs.length:=List.length_pos_iff.2 hne
 simp only[appendA,hse,srcA,hst,elemsA,RM.run_bind,RM.run_pure,Option.bind_some,hz,hr,hall,decide_true,Bool.and_self,hn,hobj]
 simp[RM.run_pure,h1,h2,hne]
def nilE(d:Option Eff):AV→Option Eff
 |.lit (.slice none 0 0)=>some ⟨int 0,[]⟩
 |_=>d
theorem nilE_nil{d:Option Eff}:nilE d (.lit (.slice none 0 0))=some ⟨int 0,[]⟩:=rfl
theorem op_cap0{t:TypeId}{x:Operand}(h:isSliceTy P t=true):(opEff P nm ev ⟨dst,.call ⟨.builtin .cap,#[x],#[t]⟩,type,pos,after,guard⟩).run hp =
  nilE (restE P nm ev ⟨dst,.call ⟨.builtin .cap,#[x],#[t]⟩,type,pos,after,guard⟩ hp) (ev x):=by
 unfold nilE
 split
 ·rename_i hx; simp[opEff,builtinA,hx,h]; rfl
 ·rfl
theorem op_len0{t:TypeId}{x:Operand}(h:isSliceTy P t=true):(opEff P nm ev ⟨dst,.call ⟨.builtin .len,#[x],#[t]⟩,type,pos,after,guard⟩).run hp =
  nilE (restE P nm ev ⟨dst,.call ⟨.builtin .len,#[x],#[t]⟩,type,pos,after,guard⟩ hp) (ev x):=by
 unfold nilE
 split
 ·rename_i hx; simp[opEff,builtinA,hx,h,lenA]; rfl
 ·rfl
theorem op_cutA[Glob]{t:TypeId}{x:Operand}{lo hi mx:Option Operand}:(opEff P nm ev ⟨dst,.slice t x lo hi mx,type,pos,after,guard⟩).run hp=(cutA P t (ev x) (lo.map ev) (hi.map ev) (mx.map ev)).map fun x=>⟨x,[]⟩:=run_opt _ _
theorem cut_nil{t:TypeId}{r:TyRow}(hse:sliceElem P t=some r):cutA P t (.lit nilSl) none (some (int 0)) none=some (.lit nilSl):=by
 simp[cutA,hse,optNat,asNat]
theorem cut_own{t:TypeId}{r:TyRow}(hse:sliceElem P t=some r){n ver len:Nat}(hv:0<ver):cutA P t (.osl r.size n ver 0 len none) none (some (int 0)) none=some (.osl r.size n ver 0 0 none):=by
 simp[cutA,hse,optNat,asNat,hv]
theorem app_make[Glob]{t u:TypeId}{r:TyRow}{k:IntKind}{z:AV}{n:Nat}(hse:sliceElem P t=some r)(hst:isSliceTy P u=false)(hu:P.underlying u=some (.int k))(hz:elemZero r=some z)(hr:0<r.size)
  (ho:okElem r.isAgg r.size z=true) (hn:0<n) (h1:n*r.bytes≤2^44) (h2:n≤2^44) :
  (appendA P nm t u (.lit nilSl) (int n)).run hp=some ⟨.osl r.size nm n 0 n none,[(nm,.arr true true false (List.replicate n z))]⟩:=by
 have hne:(List.replicate n z).isEmpty=false:=by cases n with
  |zero=>omega
  |succ n=>rfl
 have hall:(List.replicate n z).all (okElem r.isAgg r.size)=true:=by simp[ho]
 simp only[appendA,hse,srcA,hst,hu,hz,asNat_cast,RM.run_bind,h1,h2,and_self,if_true,RM.run_pure,Option.bind_some,Option.isSome_some,hr,hall,decide_true,Bool.and_self,hne,List.length_replicate]
theorem seal_whole[Glob]{k n:Nat}{xs:List AV}{esz:Nat}{cap:Option Nat}{g f:Bool}(h:(RM.arr n xs.length).run hp=some (g,true,f,xs)):(sealV (k+1) (.osl esz n xs.length 0 xs.length cap)).run hp=some (.sl xs):=by
 simp[sealV,RM.run_bind,h,RM.run_pure]
def unNil:AV→AV
 |.lit (.slice none 0 0)=>.sl []
 |x=>x
theorem rep_unNil{E:Env}{o:Bool}{x:AV}{v:Value}(h:Rep E o x v):Rep E o (unNil x) v:=by
 unfold unNil
 split
 ·grind[Rep]
 ·exact h
theorem repS_unNil[Glob]{E:Env}{c:Array Value}{esz:Nat}:∀ {xs:List AV} {pos:Nat},RepS E xs c pos esz→RepS E (xs.map unNil) c pos esz
 |[],_,_=>by simp[RepS]
 |x::xs,pos,h=>by
  simp only[RepS,List.map_cons]at h ⊢
  obtain⟨⟨v,h1,h2⟩,h3⟩:=h
  exact⟨⟨v,rep_unNil h1,h2⟩,repS_unNil h3⟩
theorem rep_slNil[Glob]{E:Env}{o:Bool}{xs:List AV}{v:Value}(h:Rep E o (.sl xs) v):Rep E o (.sl (xs.map unNil)) v:=by
 simp only[Rep,List.length_map]at h ⊢
 obtain⟨a,cap,h1,h2,h3,h4⟩:=h
 refine⟨a,cap,h1,h2,h3,?_⟩
 rcases h4 with h4|⟨b,of,esz,c,h5,h6,h7⟩
 ·left; rw[h4]; rfl
 ·exact .inr ⟨b,of,esz,c,h5,h6,repS_unNil h7⟩
def unSls:List AV→Option (List (List AV))
 |[]=>some []
 |.sl l::xs=>(unSls xs).map fun r=>l::r
 |_::_=>none
theorem unSls_eq:∀ {xs:List AV} {ls:List (List AV)},unSls xs=some ls→xs=ls.map .sl
 |[],ls,h=>by simp[unSls]at h; subst h; rfl
 |x::xs,ls,h=>by
  unfold unSls at h
  split at h
  ·rename_i hh; simp at hh
  ·rename_i l xs' hh
   simp only[List.cons.injEq]at hh
   obtain⟨rfl,rfl⟩:=hh
   simp only[Option.map_eq_some_iff]at h
   obtain⟨r,h1,rfl⟩:=h
   rw[unSls_eq h1]; rfl
  ·simp at h
def cloneI(r:TyRow):List AV→Option AV
 |[.sl xs]=>if xs.all (okElem r.isAgg r.size)=true∧xs.length*r.bytes≤2^44∧xs.length≤2^44 then some (.sl xs) else none
 |[.lit (.slice none 0 0)]=>some (.sl [])
 |_=>none
def concatI(r:TyRow):List AV→Option AV
 |[.sl es]=>(match unSls (es.map unNil) with
  |some ls=>if ls.length≤2^44∧ls.flatten.all (okElem r.isAgg r.size)=true∧ls.flatten.length*r.bytes≤2^44∧ls.flatten.length≤2^44 then some (.sl ls.flatten) else none
  |none=>none)
 |[.lit (.slice none 0 0)]=>some (.sl [])
 |_=>none
theorem intr_one[Glob]{C0:Ctx}(hok:C0.Ok){g:FuncId}{xs:List AV}{r:AV}
  (h0:∃ res hpf,runF C0 g [.sl xs] []=some (.val res,hpf)∧(sealV 1000 res).run hpf=some r)
  (Ec:Env) (w:World) (vs:List Value) (hI:Inv Ec [] w) (ha:RepT Ec false [.sl xs] vs):Calls C0.P g vs.toArray w (CallPost Ec w [] (.val r)):=by
 obtain⟨res,hpf,he,h⟩:=h0
 have out:(pureOut [.sl xs] hpf (.val res)).run []=some (.val r,[]):=by
  simp only[pureOut,h]
  split
  ·rfl
  ·simp[namesL,names,freezeR,RM.run_bind,RM.run_pure]
 have ha2:RepT Ec true [.sl xs] vs:=by
  match vs,ha with
  |[],ha=>simp[RepT]at ha
  |_::_::_,ha=>simp[RepT]at ha
  |[v],ha=>
   simp only[RepT]at ha ⊢
   exact⟨Rep.widen ha.1,trivial⟩
 obtain⟨k,hk⟩:=(lim_some (growF C0 g [.sl xs] [])).1 he
 have hseal:(sealL 1000 [.sl xs]).run []=some [.sl xs]:=rfl
 refine pure_call hI ha2 hseal out fun Ec' hI' ha'=>?_
 refine(sound hok k).1 g [.sl xs] [] _ _ hk Ec' w vs hI' ?_
 match vs,ha' with
 |[],ha=>simp[RepT]at ha
 |_::_::_,ha=>simp[RepT]at ha
 |[v],ha=>
  simp only[RepT]at ha ⊢
  exact⟨Rep.widen ha.1,trivial⟩
theorem concat_ok[Glob]{C0:Ctx}(hok:C0.Ok){g:FuncId}{r:TyRow}
  (h1:∀ ls:List (List AV),ls.length≤2^44→(∀ l∈ls,l.all (okElem r.isAgg r.size)=true)→ls.flatten.length*r.bytes≤2^44→ls.flatten.length≤2^44 →
    ∃ res hpf,runF C0 g [.sl (ls.map .sl)] []=some (.val res,hpf)∧(sealV 1000 res).run hpf=some (.sl ls.flatten))
  {as:List AV} {a:AV} (h:concatI r as=some a) (Ec:Env) (w:World) (vs:List Value) (hI:Inv Ec [] w) (ha:RepT Ec false as vs):Calls C0.P g vs.toArray w (CallPost Ec w [] (.val a)):=by
 unfold concatI at h
 split at h
 ·rename_i es
  split at h
  case h_2=>simp at h
  rename_i ls hls
  split at h
  case isFalse=>simp at h
  rename_i hc
  simp only[Option.some.injEq]at h
  subst h
  have he:=unSls_eq hls
  refine intr_one hok (xs:=ls.map .sl) (h1 ls hc.1 (fun l hl=>?_) hc.2.2.1 hc.2.2.2) Ec w vs hI ?_
  ·have:=hc.2.1
   rw[List.all_eq_true]at this ⊢
   exact fun x hx=>this x (List.mem_flatten.2 ⟨l,hl,hx⟩)
  ·rw[←he]
   match vs,ha with
   |[],ha=>simp[RepT]at ha
   |_::_::_,ha=>simp[RepT]at ha
   |[v],ha=>
    simp only[RepT]at ha ⊢
    exact⟨rep_slNil ha.1,trivial⟩
 ·simp only[Option.some.injEq]at h
  subst h
  refine intr_one hok (xs:=[]) (h1 [] (by simp) (by simp) (by simp) (by simp)) Ec w vs hI ?_
  match vs,ha with
  |[],ha=>simp[RepT]at ha
  |_::_::_,ha=>simp[RepT]at ha
  |[v],ha=>
   simp only[RepT]at ha ⊢
   exact⟨rep_unNil ha.1,trivial⟩
 ·simp at h
end Go.PI
end
section
/- PS, part V: copies of lists and lists laid together, as models. -/
namespace Go.PI
def roomM(b n:Nat):Bool:=decide (n*b≤2^44)&&decide (n≤2^44)
def cloneM{α:Type}(b:Nat)(x:List α):Option (List α):=bif roomM b x.length then some x else none
def concatM{α:Type}(b:Nat)(x:List (List α)):Option (List α):=bif decide (x.length≤2^44)&&roomM b x.flatten.length then some x.flatten else none
def rps{α:Type}(rpe:α→AV→Prop)(x:List α)(a:AV):Prop:=(∃ l,a=.sl l∧All2 rpe x l)∨(x=[]∧a=.lit nilSl)
theorem unSls_all2[Glob]{α:Type}{rpe:α→AV→Prop}:∀ {x:List (List α)} {es:List AV},All2 (rps rpe) x es→∃ ls,unSls (es.map unNil)=some ls∧All2 (All2 rpe) x ls
 |[],es,h=>by
  have:=h.nil_left
  subst this
  exact⟨[],rfl,trivial⟩
 |x::xs,[],h=>by simp[All2]at h
 |x::xs,e::es,h=>by
  simp only[All2]at h
  obtain⟨h1,h2⟩:=h
  obtain⟨ls,h3,h4⟩:=unSls_all2 h2
  rcases h1 with ⟨l,rfl,h⟩|⟨rfl,rfl⟩
  ·refine⟨l::ls,?_,h,h4⟩
   simp only[List.map_cons,unNil,unSls,h3,Option.map_some]
  ·refine⟨[]::ls,?_,trivial,h4⟩
   simp only[List.map_cons,unNil,unSls,h3,Option.map_some]
theorem all2_flatten[Glob]{α:Type}{rpe:α→AV→Prop}:∀ {x:List (List α)} {ls:List (List AV)},All2 (All2 rpe) x ls→All2 rpe x.flatten ls.flatten
 |[],ls,h=>by
  have:=h.nil_left
  subst this
  exact trivial
 |x::xs,[],h=>by simp[All2]at h
 |x::xs,e::es,h=>by
  simp only[All2]at h
  simp only[List.flatten_cons]
  exact h.1.append (all2_flatten h.2)
theorem concat_ans[Glob]{α:Type}{rpe:α→AV→Prop}{r:TyRow}(hok:∀ x a,rpe x a→okElem r.isAgg r.size a=true){x:List (List α)}{y:List α}{a:AV}(ha:rps (rps rpe) x a)(hy:concatM r.bytes x=some y):
  ∃ l,concatI r [a]=some (.sl l)∧All2 rpe y l:=by
 unfold concatM roomM at hy
 cases hq:decide (x.length≤2^44)&&(decide (x.flatten.length*r.bytes≤2^44)&&decide (x.flatten.length≤2^44))
 ·rw[hq]at hy; simp at hy
 rw[hq]at hy
 simp only[cond_true,Option.some.injEq]at hy
 subst hy
 simp only[Bool.and_eq_true,decide_eq_true_eq]at hq
 rcases ha with ⟨es,rfl,h⟩|⟨rfl,rfl⟩
 ·obtain⟨ls,h1,h2⟩:=unSls_all2 h
  have h3:=all2_flatten h2
  rw[h3.length,h2.length]at hq
  refine⟨ls.flatten,?_,h3⟩
  unfold concatI
  simp only
  rw[h1]
  simp only
  have hall:ls.flatten.all (okElem r.isAgg r.size)=true:=by
   refine List.all_eq_true.2 fun z hz=>?_
   obtain⟨i,hi⟩:=List.getElem?_of_mem hz
   obtain⟨u,_,hu⟩:=h3.get' hi
   exact hok _ _ hu
  rw[if_pos ⟨hq.1,hall,hq.2.1,hq.2.2⟩]
 ·exact⟨[],rfl,trivial⟩
theorem sumOk_hand[Glob]{C:Ctx}{T:Tys}{g:FuncId}{t u:Nat}{I:List AV→Option AV}{F:T.den t→Option (T.den u)}(hk:C.kind g=.pure)(hi:C.intr g=some I)
  (h:∀ x a y,T.rp t x a→F x=some y→∃ l,I [a]=some (.sl l)∧T.rp u y (.sl l)):SumOk C T g ⟨[t],[u],F⟩ where
 kind:=hk
 ans:=by
  intro x as y hx hy
  match as,hx with
  |[],hx=>exact False.elim hx
  |_::_::_,hx=>exact False.elim hx.2
  |[a],hx=>
   obtain⟨l,h1,h2⟩:=h x a y hx.1 hy
   refine⟨.sl l,[],[.sl l],?_,rfl,rfl,?_⟩
   ·simp only[ansC,hi,h1]; rfl
   ·exact⟨h2,trivial⟩
end Go.PI
end
section
/- PS, part W: a copy of a slice is the caller's own. -/
namespace Go.PI
theorem own_nil[Glob]{Ec:Env}{w w':World}{en:Ending}(esz:Nat)(h:CallPost Ec w [] (.val (.lit nilSl)) en w'):
  CallPost Ec w [some (.arr true true false [])] (.val (.osl esz 0 0 0 0 none)) en w':=by
 obtain⟨E',hx,hI,hf,hr⟩:=h
 cases en with
 |panicked ch=>exact hr.elim
 |outgrown=>exact hr.elim
 |returned v=>
  simp only[ResOk,Rep]at hr
  obtain⟨E2,hx2,hI2,hf2,hr2⟩:=virt_ok hI (esz:=esz)
  refine⟨E2,hx.trans hx2,hI2,hf.trans hf2,?_⟩
  simp only[ResOk]
  rw[hr]
  exact hr2
theorem own_empty[Glob]{Ec:Env}{w w':World}{en:Ending}{hpf:AHeap}{n esz:Nat}{cl:Bool}(hn:hpf[n]?=some (some (.arr false cl false [])))
  (h:CallPost Ec w hpf (.val (.osl esz n 0 0 0 (some 0))) en w'):CallPost Ec w (hpf.set n (some (.arr true true false []))) (.val (.osl esz n 0 0 0 none)) en w':=by
 obtain⟨E',hx,hI,hf,hr⟩:=h
 cases en with
 |panicked ch=>exact hr.elim
 |outgrown=>exact hr.elim
 |returned v=>
  have hget:∀ i o,(hpf.set n (some (AObj.arr true true false [])))[i]?=some (some o)→(i=n∧o=.arr true true false [])∨(i≠n∧hpf[i]?=some (some o)):=by
   grind
  have hblk:∀ i b,BlkOf E' (hpf.set n (some (AObj.arr true true false []))) i b→BlkOf E' hpf i b:=by
   rintro i b ⟨o,l,ho,hl,hb⟩
   rcases hget i o ho with ⟨rfl,rfl⟩|⟨_,ho⟩
   ·exact⟨_,l,hn,hl,hb⟩
   ·exact⟨o,l,ho,hl,hb⟩
  have hobj:=hI.objs n _ hn
  refine⟨E',hx,⟨by simpa using hI.len,?_,?_,fun n1 n2 b h1 h2=>hI.inj n1 n2 b (hblk _ _ h1) (hblk _ _ h2),hI.mem,hI.ownb,hI.glob⟩,hf,?_⟩
  ·intro i o ho
   rcases hget i o ho with ⟨rfl,rfl⟩|⟨_,ho⟩
   ·obtain⟨l,hl,hv,hm⟩:=hobj
    refine⟨l,hl,hv,?_⟩
    cases hb:l.blk with
    |none=>rw[hb]at hm; exact⟨rfl,rfl⟩
    |some b=>
     rw[hb]at hm
     obtain⟨c,T,a1,a2,a3,a4,a5,_,_⟩:=hm
     exact⟨c,T,a1,a2,a3,a4,a5,(fun h=>by cases h),fun i e he=>by simp at he⟩
   ·exact hI.objs i o ho
  ·intro i ver h
   by_cases e:i=n
   ·subst e; rw[getElem?_set_eq hn]at h; simp at h
   ·rw[List.getElem?_set_ne (fun h=>e h.symm)]at h
    exact hI.free i ver h
  ·simp only[ResOk,Rep]at hr ⊢
   obtain⟨h1,h2,l,hl,hez,hv,hm⟩:=hr
   refine⟨h1,h2,l,hl,hez,hv,?_⟩
   obtain⟨l2,hl2,_,hm2⟩:=hobj
   rw[show ([]:List AV).length=0 from rfl,hl]at hl2
   cases hl2
   cases hb:l.blk with
   |none=>rw[hb]at hm; simp at hm
   |some b=>
    rw[hb]at hm hm2
    obtain⟨c,T,_,_,_,_,_,hg,_⟩:=hm2
    obtain⟨a,ccap,rfl,hk,_,h3,h4,h5,h6⟩:=hm
    have:=hk 0 rfl
    subst this
    have htot:=hg rfl
    exact⟨a,0,rfl,fun k hk'=>by simp at hk',fun _=>by simp at htot; omega,h3,h4,h5,h6⟩
def cloneO(r:TyRow):List AV→Option (AV×AHeap)
 |[.sl xs]=>if xs.all (okElem r.isAgg r.size)=true∧xs.length*r.bytes≤2^44∧xs.length≤2^44 then some (.osl r.size 0 xs.length 0 xs.length none,[some (.arr true true false xs)]) else none
 |[.lit (.slice none 0 0)]=>some (.osl r.size 0 0 0 0 none,[some (.arr true true false [])])
 |_=>none
theorem own_same{nm n m esz:Nat}{cl cl':Bool}{es:List AV}{hpf hpf':AHeap}(h:hpf[n]?=some (some (.arr true cl false es)))(h':hpf'[m]?=some (some (.arr true cl' false es))):
  ownOut nm (.osl esz n es.length 0 es.length none) hpf=ownOut nm (.osl esz m es.length 0 es.length none) hpf':=by
 simp only[ownOut,h,h']
theorem cloneO_ok[Glob]{C0:Ctx}(hok:C0.Ok){g:FuncId}{r:TyRow}
  (h0:runF C0 g [.lit nilSl] []=some (.val (.lit nilSl),[]))
  (he:∀ cap,∃ n cl hpf,runF C0 g [.slx [] cap] []=some (.val (.osl r.size n 0 0 0 (some 0)),hpf)∧hpf[n]?=some (some (.arr false cl false [])))
  (h1:∀ xs cap,xs≠[]→xs.all (okElem r.isAgg r.size)=true→xs.length*r.bytes≤2^44→xs.length≤2^44 →
    ∃ n cl hpf,runF C0 g [.slx xs cap] []=some (.val (.osl r.size n xs.length 0 xs.length none),hpf)∧hpf[n]?=some (some (.arr true cl false xs)))
  {as:List AV} {a:AV} {hpf:AHeap} (h:cloneO r as=some (a,hpf)) (Ec:Env) (w:World) (vs:List Value) (hI:Inv Ec [] w) (ha:RepT Ec false as vs) :
  Calls C0.P g vs.toArray w (fun en w'=>∃ r' hpf',CallPost Ec w hpf' (.val r') en w'∧∀ nm,ownOut nm r' hpf'=ownOut nm a hpf):=by
 have nilCase:∀ v,v=nilSl→Calls C0.P g #[v] w (fun en w'=>∃ r' hpf',CallPost Ec w hpf' (.val r') en w'∧∀ nm,ownOut nm r' hpf'=ownOut nm (.osl r.size 0 0 0 0 none) [some (.arr true true false [])]):=by
  intro v hv
  obtain⟨k,hk⟩:=(lim_some (growF C0 g [.lit nilSl] [])).1 h0
  refine((sound hok k).1 g [.lit nilSl] [] _ _ hk Ec w [v] hI (by simp only[RepT,Rep]; exact⟨hv,trivial⟩)).mono fun en w' hp=>?_
  exact⟨_,_,own_nil r.size hp,fun _=>rfl⟩
 unfold cloneO at h
 split at h
 ·rename_i xs
  split at h
  case isFalse=>simp at h
  rename_i hc
  simp only[Option.some.injEq,Prod.mk.injEq]at h
  obtain⟨rfl,rfl⟩:=h
  match vs,ha with
  |[],ha=>simp[RepT]at ha
  |_::_::_,ha=>simp[RepT]at ha
  |[v],ha=>
   have hrep:=ha
   simp only[RepT,Rep]at hrep
   obtain⟨⟨ad,cap,hv,hle,hn,hor⟩,_⟩:=hrep
   cases ad with
   |none=>
    have hx:xs=[]:=by
     simp_all
    subst hx
    exact nilCase v (by rw[hv,hn rfl]; rfl)
   |some ad=>
    have hrep2:RepT Ec true [.slx xs cap] [v]:=by
     simp_all[RepT,Rep]
    by_cases hx:xs=[]
    ·subst hx
     obtain⟨n,cl,hpf,hr,hob⟩:=he cap
     obtain⟨k,hk⟩:=(lim_some (growF C0 g [.slx [] cap] [])).1 hr
     refine((sound hok k).1 g [.slx [] cap] [] _ _ hk Ec w [v] hI hrep2).mono fun en w' hp=>?_
     exact⟨_,_,own_empty hob hp,fun nm=>own_same (es:=[]) (getElem?_set_eq hob) rfl⟩
    ·obtain⟨n,cl,hpf,hr,hob⟩:=h1 xs cap hx hc.1 hc.2.1 hc.2.2
     obtain⟨k,hk⟩:=(lim_some (growF C0 g [.slx xs cap] [])).1 hr
     refine((sound hok k).1 g [.slx xs cap] [] _ _ hk Ec w [v] hI hrep2).mono fun en w' hp=>?_
     exact⟨_,_,hp,fun nm=>own_same hob rfl⟩
 ·simp only[Option.some.injEq,Prod.mk.injEq]at h
  obtain⟨rfl,rfl⟩:=h
  match vs,ha with
  |[],ha=>simp[RepT]at ha
  |_::_::_,ha=>simp[RepT]at ha
  |[v],ha=>
   simp only[RepT,Rep]at ha
   exact nilCase v ha.1
 ·simp at h
theorem cloneO_ans{α:Type}{rpe:α→AV→Prop}{r:TyRow}(hok:∀ x a,rpe x a→okElem r.isAgg r.size a=true){x y:List α}{a:AV}(ha:rps rpe x a)(hy:cloneM r.bytes x=some y):
  ∃ l,cloneO r [a]=some (.osl r.size 0 l.length 0 l.length none,[some (.arr true true false l)])∧All2 rpe y l:=by
 unfold cloneM roomM at hy
 rcases ha with ⟨l,rfl,h⟩|⟨rfl,rfl⟩
 ·cases hq:decide (x.length*r.bytes≤2^44)&&decide (x.length≤2^44)
  ·rw[hq]at hy; simp at hy
  rw[hq]at hy
  simp only[cond_true,Option.some.injEq]at hy
  subst hy
  simp only[Bool.and_eq_true,decide_eq_true_eq]at hq
  rw[h.length]at hq
  refine⟨l,?_,h⟩
  unfold cloneO
  simp only
  have hall:l.all (okElem r.isAgg r.size)=true:=by
   refine List.all_eq_true.2 fun z hz=>?_
   obtain⟨i,hi⟩:=List.getElem?_of_mem hz
   obtain⟨u,_,hu⟩:=h.get' hi
   exact hok u z hu
  rw[if_pos ⟨hall,hq.1,hq.2⟩]
 ·have:y=[]:=by
   simp_all
  subst this
  exact⟨[],rfl,trivial⟩
theorem ownOk_hand[Glob]{C:Ctx}{T:Tys}{g:FuncId}{t el esz:Nat}{I:List AV→Option (AV×AHeap)}{F:T.den t→Option (List (T.den el))}(hi:C.intrO g=some I)
  (hflat:∀ x a,T.rp el x a→flat a=true)
  (h:∀ x a y,T.rp t x a→F x=some y→∃ l,I [a]=some (.osl esz 0 l.length 0 l.length none,[some (.arr true true false l)])∧All2 (T.rp el) y l):OwnOk C T g ⟨[t],el,esz,F⟩ where
 ans:=by
  intro x as y hx hy
  match as,hx with
  |[],hx=>exact False.elim hx
  |_::_::_,hx=>exact False.elim hx.2
  |[a],hx=>
   obtain⟨l,h1,h2⟩:=h x a y hx.1 hy
   refine⟨0,true,l,[some (.arr true true false l)],?_,rfl,?_,h2⟩
   ·simp only[ownC,hi,h1]
   ·rw[List.all_eq_true]
    intro z hz
    obtain⟨i,hi⟩:=List.getElem?_of_mem hz
    obtain⟨u,_,hu⟩:=h2.get' hi
    exact hflat u z hu
end Go.PI
end
section
/- Plain laws: loops of models. -/
namespace Go.Pl
open Go.PI
theorem next[Glob]{τ ω:Type}{f:τ→Option (τ ⊕ ω)}{x y:τ}(h:f x=some (.inl y)):loopM f x=loopM f y:=by
 rw[loopM_eq,h]; rfl
theorem out[Glob]{τ ω:Type}{f:τ→Option (τ ⊕ ω)}{x:τ}{w:ω}(h:f x=some (.inr w)):loopM f x=some w:=by
 rw[loopM_eq,h]; rfl
theorem range_from_all(p:Nat→Bool)(n i:Nat)(hi:i<n):(List.range' i (n-i)).all p=(p i&&(List.range' (i+1) (n-(i+1))).all p):=by
 grind
theorem loop_all[Glob]{τ ω:Type}{f:τ→Option (τ ⊕ ω)}(st:Nat→τ)(p:Nat→Bool)(bad:Nat→ω)(n:Nat)(e:ω)
  (h:∀ i,i<n→f (st i)=some (bif p i then .inl (st (i+1)) else .inr (bad i))) (he:f (st n)=some (.inr e)) :
  (List.range n).all p=true∧loopM f (st 0)=some e∨(List.range n).all p=false∧∃ i,i<n∧p i=false∧loopM f (st 0)=some (bad i):=by
 have key:∀ m i,m=n-i→i≤n→(List.range' i (n-i)).all p=true∧loopM f (st i)=some e∨(List.range' i (n-i)).all p=false∧∃ j,j<n∧p j=false∧loopM f (st i)=some (bad j):=by
  intro m
  induction m with
  |zero=>
   intro i hm hi
   have:i=n:=by omega
   subst this
   left
   rw[Nat.sub_self]
   exact⟨rfl,out he⟩
  |succ m ih=>
   intro i hm hi
   have hlt:i<n:=by omega
   have hs:=h i hlt
   rw[range_from_all p n i hlt]
   cases hp:p i with
   |false=>
    rw[hp]at hs
    right
    exact⟨by simp,i,hlt,hp,out hs⟩
   |true=>
    rw[hp]at hs
    rw[next hs]
    simpa using ih (i+1) (by omega) (by omega)
 have:=key n 0 rfl (Nat.zero_le _)
 rwa [Nat.sub_zero,←List.range_eq_range']at this
theorem wrap_succ{i n:Nat}(h:i<n)(hn:n≤2^63-1):IntKind.i64.wrap ((i:Int)+1)=((i+1:Nat):Int):=by
 rw[IntWalk.i64_in _ (by omega)]; omega
end Go.Pl
end
section
/- The types of this seat, as Lean's (printed by gen_tys.py out of the dump). -/
namespace Go.Proofs.YtomccdllhpolbaaDoor
open Go.PI
instance:Glob:=⟨fun g=>match Nat.beq g 0 with|true=>some #[.int .u64 30,.int .u64 13787848793156543929,.int .u64 27,.int .u64 10723151780598845931,.int .u64 31,.int .u64 1]|false=>none,fun f=>Nat.beq f 80⟩
structure A2(α:Type)where
 e0:α
 e1:α
structure A8(α:Type)where
 e0:α
 e1:α
 e2:α
 e3:α
 e4:α
 e5:α
 e6:α
 e7:α
structure Packet where
 Flow:Int
 Sub:Int
 Number:Int
 Data:Int
 Size:Int
 Sent:Int
 Able:Bool
 Marked:Bool
structure Stepx where
 Wait:Int
 Take:Bool
 P:Packet
structure Policy where
 Kind:Int
 A:Int
 B:Int
 C:Int
structure Queued where
 P:Packet
 At:Int
structure Queue where
 Policy:Policy
 Room:Int
 Lists:List (List Queued)
 Vars:A8 Int
 Seed:Int
structure Run where
 Q:Queue
 Came:List Packet
 Taken:List Packet
 Dropped:List Packet
structure Line where
 Queue:Queue
 Now:Int
structure Pair where
 Q:Queue
 Lists:A2 (List Queued)
 Now:Int
 Drops:List Packet
def den:Nat→Type
 |2=>Int
 |3=>Int
 |4=>Bool
 |5=>Int
 |9=>ByteArray
 |22=>Int
 |23=>List Stepx
 |26=>Policy
 |27=>Policy
 |28=>List (List Queued)
 |29=>A8 Int
 |30=>Int
 |31=>Queue
 |32=>Queue
 |33=>List Packet
 |34=>Run
 |35=>Run
 |36=>List Policy
 |38=>Int
 |45=>Packet
 |46=>Packet
 |47=>Stepx
 |48=>Stepx
 |62=>List Queued
 |65=>Queue
 |66=>Queue
 |71=>Queued
 |72=>Queued
 |75=>Queue
 |80=>List Int
 |84=>Line
 |85=>Line
 |88=>Queue
 |101=>A2 (List Queued)
 |102=>Pair
 |103=>Pair
 |74=>Queue
 |81=>Line
 |87=>Queue
 |98=>Pair
 |1087=>Queue
 |1003=>Int
 |_=>Unit
abbrev V:=SV den
def up2(x:Int):V:=.lit (.int .i64 x)
def dn2(v:V):Option Int:=dI .i64 v
def rp2(x:Int)(a:AV):Prop:=a=.lit (.int .i64 x)
def up3(x:Int):V:=.lit (.int .i64 x)
def dn3(v:V):Option Int:=dI .i64 v
def rp3(x:Int)(a:AV):Prop:=a=.lit (.int .i64 x)
def up4(x:Bool):V:=.lit (.bool x)
def dn4(v:V):Option Bool:=dB v
def rp4(x:Bool)(a:AV):Prop:=a=.lit (.bool x)
def up5(x:Int):V:=.lit (.int .u8 x)
def dn5(v:V):Option Int:=dI .u8 v
def rp5(x:Int)(a:AV):Prop:=a=.lit (.int .u8 x)
def up9(x:ByteArray):V:=.lit (.string x)
def dn9(v:V):Option ByteArray:=dS v
def rp9(x:ByteArray)(a:AV):Prop:=a=.lit (.string x)
def up22(x:Int):V:=.lit (.int .u16 x)
def dn22(v:V):Option Int:=dI .u16 v
def rp22(x:Int)(a:AV):Prop:=a=.lit (.int .u16 x)
def up45(x:Packet):V:=.agg [.lit (.int .i64 x.Flow),.lit (.int .i64 x.Sub),.lit (.int .i64 x.Number),.lit (.int .i64 x.Data),.lit (.int .i64 x.Size),.lit (.int .i64 x.Sent),.lit (.bool x.Able),.lit (.bool x.Marked)]
def dn45:V→Option Packet
 |.agg [a0,a1,a2,a3,a4,a5,a6,a7]=>(dn3 a0).bind fun b0=>(dn3 a1).bind fun b1=>(dn3 a2).bind fun b2=>(dn3 a3).bind fun b3=>(dn3 a4).bind fun b4=>(dn3 a5).bind fun b5=>(dn4 a6).bind fun b6=>(dn4 a7).bind fun b7=>some ⟨b0,b1,b2,b3,b4,b5,b6,b7⟩
 |_=>none
def rp45(x:Packet)(a:AV):Prop:=a=.agg [.lit (.int .i64 x.Flow),.lit (.int .i64 x.Sub),.lit (.int .i64 x.Number),.lit (.int .i64 x.Data),.lit (.int .i64 x.Size),.lit (.int .i64 x.Sent),.lit (.bool x.Able),.lit (.bool x.Marked)]
def up47(x:Stepx):V:=.agg [.lit (.int .u16 x.Wait),.lit (.bool x.Take),.lit (.int .i64 x.P.Flow),.lit (.int .i64 x.P.Sub),.lit (.int .i64 x.P.Number),.lit (.int .i64 x.P.Data),.lit (.int .i64 x.P.Size),.lit (.int .i64 x.P.Sent),.lit (.bool x.P.Able),.lit (.bool x.P.Marked)]
def dn47:V→Option Stepx
 |.agg [a0,a1,a2,a3,a4,a5,a6,a7,a8,a9]=>(dn22 a0).bind fun b0=>(dn4 a1).bind fun b1=>(dn3 a2).bind fun b2=>(dn3 a3).bind fun b3=>(dn3 a4).bind fun b4=>(dn3 a5).bind fun b5=>(dn3 a6).bind fun b6=>(dn3 a7).bind fun b7=>(dn4 a8).bind fun b8=>(dn4 a9).bind fun b9=>some ⟨b0,b1,⟨b2,b3,b4,b5,b6,b7,b8,b9⟩⟩
 |_=>none
def rp47(x:Stepx)(a:AV):Prop:=a=.agg [.lit (.int .u16 x.Wait),.lit (.bool x.Take),.lit (.int .i64 x.P.Flow),.lit (.int .i64 x.P.Sub),.lit (.int .i64 x.P.Number),.lit (.int .i64 x.P.Data),.lit (.int .i64 x.P.Size),.lit (.int .i64 x.P.Sent),.lit (.bool x.P.Able),.lit (.bool x.P.Marked)]
def up23(x:List Stepx):V:=.tsl 48 x
def dn23(v:V):Option (List Stepx):=dnG (den:=den) 48 dn47 v
def rp23(x:List Stepx)(a:AV):Prop:=rpG rp47 x a
def up26(x:Policy):V:=.agg [.lit (.int .i64 x.Kind),.lit (.int .i64 x.A),.lit (.int .i64 x.B),.lit (.int .i64 x.C)]
def dn26:V→Option Policy
 |.agg [a0,a1,a2,a3]=>(dn3 a0).bind fun b0=>(dn3 a1).bind fun b1=>(dn3 a2).bind fun b2=>(dn3 a3).bind fun b3=>some ⟨b0,b1,b2,b3⟩
 |_=>none
def rp26(x:Policy)(a:AV):Prop:=a=.agg [.lit (.int .i64 x.Kind),.lit (.int .i64 x.A),.lit (.int .i64 x.B),.lit (.int .i64 x.C)]
def up71(x:Queued):V:=.agg [.lit (.int .i64 x.P.Flow),.lit (.int .i64 x.P.Sub),.lit (.int .i64 x.P.Number),.lit (.int .i64 x.P.Data),.lit (.int .i64 x.P.Size),.lit (.int .i64 x.P.Sent),.lit (.bool x.P.Able),.lit (.bool x.P.Marked),.lit (.int .i64 x.At)]
def dn71:V→Option Queued
 |.agg [a0,a1,a2,a3,a4,a5,a6,a7,a8]=>(dn3 a0).bind fun b0=>(dn3 a1).bind fun b1=>(dn3 a2).bind fun b2=>(dn3 a3).bind fun b3=>(dn3 a4).bind fun b4=>(dn3 a5).bind fun b5=>(dn4 a6).bind fun b6=>(dn4 a7).bind fun b7=>(dn3 a8).bind fun b8=>some ⟨⟨b0,b1,b2,b3,b4,b5,b6,b7⟩,b8⟩
 |_=>none
def rp71(x:Queued)(a:AV):Prop:=a=.agg [.lit (.int .i64 x.P.Flow),.lit (.int .i64 x.P.Sub),.lit (.int .i64 x.P.Number),.lit (.int .i64 x.P.Data),.lit (.int .i64 x.P.Size),.lit (.int .i64 x.P.Sent),.lit (.bool x.P.Able),.lit (.bool x.P.Marked),.lit (.int .i64 x.At)]
def up62(x:List Queued):V:=.tsl 72 x
def dn62(v:V):Option (List Queued):=dnG (den:=den) 72 dn71 v
def rp62(x:List Queued)(a:AV):Prop:=rpG rp71 x a
def up28(x:List (List Queued)):V:=.tsl 62 x
def dn28(v:V):Option (List (List Queued)):=dnG (den:=den) 62 dn62 v
def rp28(x:List (List Queued))(a:AV):Prop:=rpG rp62 x a
def up29(x:A8 Int):V:=.agg [.lit (.int .i64 x.e0),.lit (.int .i64 x.e1),.lit (.int .i64 x.e2),.lit (.int .i64 x.e3),.lit (.int .i64 x.e4),.lit (.int .i64 x.e5),.lit (.int .i64 x.e6),.lit (.int .i64 x.e7)]
def dn29:V→Option (A8 Int)
 |.agg [a0,a1,a2,a3,a4,a5,a6,a7]=>(dn3 a0).bind fun b0=>(dn3 a1).bind fun b1=>(dn3 a2).bind fun b2=>(dn3 a3).bind fun b3=>(dn3 a4).bind fun b4=>(dn3 a5).bind fun b5=>(dn3 a6).bind fun b6=>(dn3 a7).bind fun b7=>some ⟨b0,b1,b2,b3,b4,b5,b6,b7⟩
 |_=>none
def rp29(x:A8 Int)(a:AV):Prop:=a=.agg [.lit (.int .i64 x.e0),.lit (.int .i64 x.e1),.lit (.int .i64 x.e2),.lit (.int .i64 x.e3),.lit (.int .i64 x.e4),.lit (.int .i64 x.e5),.lit (.int .i64 x.e6),.lit (.int .i64 x.e7)]
def up30(x:Int):V:=.lit (.int .u64 x)
def dn30(v:V):Option Int:=dI .u64 v
def rp30(x:Int)(a:AV):Prop:=a=.lit (.int .u64 x)
def up31(x:Queue):V:=.agg [.lit (.int .i64 x.Policy.Kind),.lit (.int .i64 x.Policy.A),.lit (.int .i64 x.Policy.B),.lit (.int .i64 x.Policy.C),.lit (.int .i64 x.Room),.tsl 62 x.Lists,.lit (.int .i64 x.Vars.e0),.lit (.int .i64 x.Vars.e1),.lit (.int .i64 x.Vars.e2),.lit (.int .i64 x.Vars.e3),.lit (.int .i64 x.Vars.e4),.lit (.int .i64 x.Vars.e5),.lit (.int .i64 x.Vars.e6),.lit (.int .i64 x.Vars.e7),.lit (.int .u64 x.Seed)]
def dn31:V→Option Queue
 |.agg [a0,a1,a2,a3,a4,a5,a6,a7,a8,a9,a10,a11,a12,a13,a14]=>(dn3 a0).bind fun b0=>(dn3 a1).bind fun b1=>(dn3 a2).bind fun b2=>(dn3 a3).bind fun b3=>(dn3 a4).bind fun b4=>(dn28 a5).bind fun b5=>(dn3 a6).bind fun b6=>(dn3 a7).bind fun b7=>(dn3 a8).bind fun b8=>(dn3 a9).bind fun b9=>(dn3 a10).bind fun b10=>(dn3 a11).bind fun b11=>(dn3 a12).bind fun b12=>(dn3 a13).bind fun b13=>(dn30 a14).bind fun b14=>some ⟨⟨b0,b1,b2,b3⟩,b4,b5,⟨b6,b7,b8,b9,b10,b11,b12,b13⟩,b14⟩
 |_=>none
def rp31(x:Queue)(a:AV):Prop:=∃ a5,rp28 x.Lists a5∧a=.agg [.lit (.int .i64 x.Policy.Kind),.lit (.int .i64 x.Policy.A),.lit (.int .i64 x.Policy.B),.lit (.int .i64 x.Policy.C),.lit (.int .i64 x.Room),a5,.lit (.int .i64 x.Vars.e0),.lit (.int .i64 x.Vars.e1),.lit (.int .i64 x.Vars.e2),.lit (.int .i64 x.Vars.e3),.lit (.int .i64 x.Vars.e4),.lit (.int .i64 x.Vars.e5),.lit (.int .i64 x.Vars.e6),.lit (.int .i64 x.Vars.e7),.lit (.int .u64 x.Seed)]
def up33(x:List Packet):V:=.tsl 46 x
def dn33(v:V):Option (List Packet):=dnG (den:=den) 46 dn45 v
def rp33(x:List Packet)(a:AV):Prop:=rpG rp45 x a
def up34(x:Run):V:=.agg [.lit (.int .i64 x.Q.Policy.Kind),.lit (.int .i64 x.Q.Policy.A),.lit (.int .i64 x.Q.Policy.B),.lit (.int .i64 x.Q.Policy.C),.lit (.int .i64 x.Q.Room),.tsl 62 x.Q.Lists,.lit (.int .i64 x.Q.Vars.e0),.lit (.int .i64 x.Q.Vars.e1),.lit (.int .i64 x.Q.Vars.e2),.lit (.int .i64 x.Q.Vars.e3),.lit (.int .i64 x.Q.Vars.e4),.lit (.int .i64 x.Q.Vars.e5),.lit (.int .i64 x.Q.Vars.e6),.lit (.int .i64 x.Q.Vars.e7),.lit (.int .u64 x.Q.Seed),.tsl 46 x.Came,.tsl 46 x.Taken,.tsl 46 x.Dropped]
def dn34:V→Option Run
 |.agg [a0,a1,a2,a3,a4,a5,a6,a7,a8,a9,a10,a11,a12,a13,a14,a15,a16,a17]=>(dn3 a0).bind fun b0=>(dn3 a1).bind fun b1=>(dn3 a2).bind fun b2=>(dn3 a3).bind fun b3=>(dn3 a4).bind fun b4=>(dn28 a5).bind fun b5=>(dn3 a6).bind fun b6=>(dn3 a7).bind fun b7=>(dn3 a8).bind fun b8=>(dn3 a9).bind fun b9=>(dn3 a10).bind fun b10=>(dn3 a11).bind fun b11=>(dn3 a12).bind fun b12=>(dn3 a13).bind fun b13=>(dn30 a14).bind fun b14=>(dn33 a15).bind fun b15=>(dn33 a16).bind fun b16=>(dn33 a17).bind fun b17=>some ⟨⟨⟨b0,b1,b2,b3⟩,b4,b5,⟨b6,b7,b8,b9,b10,b11,b12,b13⟩,b14⟩,b15,b16,b17⟩
 |_=>none
def rp34(x:Run)(a:AV):Prop:=∃ a5 a15 a16 a17,rp28 x.Q.Lists a5∧rp33 x.Came a15∧rp33 x.Taken a16∧rp33 x.Dropped a17∧a=.agg [.lit (.int .i64 x.Q.Policy.Kind),.lit (.int .i64 x.Q.Policy.A),.lit (.int .i64 x.Q.Policy.B),.lit (.int .i64 x.Q.Policy.C),.lit (.int .i64 x.Q.Room),a5,.lit (.int .i64 x.Q.Vars.e0),.lit (.int .i64 x.Q.Vars.e1),.lit (.int .i64 x.Q.Vars.e2),.lit (.int .i64 x.Q.Vars.e3),.lit (.int .i64 x.Q.Vars.e4),.lit (.int .i64 x.Q.Vars.e5),.lit (.int .i64 x.Q.Vars.e6),.lit (.int .i64 x.Q.Vars.e7),.lit (.int .u64 x.Q.Seed),a15,a16,a17]
def up36(x:List Policy):V:=.tsl 27 x
def dn36(v:V):Option (List Policy):=dnG (den:=den) 27 dn26 v
def rp36(x:List Policy)(a:AV):Prop:=rpG rp26 x a
def up65(x:Queue):V:=.agg [.lit (.int .i64 x.Policy.Kind),.lit (.int .i64 x.Policy.A),.lit (.int .i64 x.Policy.B),.lit (.int .i64 x.Policy.C),.lit (.int .i64 x.Room),.tsl 62 x.Lists,.lit (.int .i64 x.Vars.e0),.lit (.int .i64 x.Vars.e1),.lit (.int .i64 x.Vars.e2),.lit (.int .i64 x.Vars.e3),.lit (.int .i64 x.Vars.e4),.lit (.int .i64 x.Vars.e5),.lit (.int .i64 x.Vars.e6),.lit (.int .i64 x.Vars.e7),.lit (.int .u64 x.Seed)]
def dn65:V→Option Queue
 |.agg [a0,a1,a2,a3,a4,a5,a6,a7,a8,a9,a10,a11,a12,a13,a14]=>(dn3 a0).bind fun b0=>(dn3 a1).bind fun b1=>(dn3 a2).bind fun b2=>(dn3 a3).bind fun b3=>(dn3 a4).bind fun b4=>(dn28 a5).bind fun b5=>(dn3 a6).bind fun b6=>(dn3 a7).bind fun b7=>(dn3 a8).bind fun b8=>(dn3 a9).bind fun b9=>(dn3 a10).bind fun b10=>(dn3 a11).bind fun b11=>(dn3 a12).bind fun b12=>(dn3 a13).bind fun b13=>(dn30 a14).bind fun b14=>some ⟨⟨b0,b1,b2,b3⟩,b4,b5,⟨b6,b7,b8,b9,b10,b11,b12,b13⟩,b14⟩
 |_=>none
def rp65(x:Queue)(a:AV):Prop:=∃ a5,rp28 x.Lists a5∧a=.agg [.lit (.int .i64 x.Policy.Kind),.lit (.int .i64 x.Policy.A),.lit (.int .i64 x.Policy.B),.lit (.int .i64 x.Policy.C),.lit (.int .i64 x.Room),a5,.lit (.int .i64 x.Vars.e0),.lit (.int .i64 x.Vars.e1),.lit (.int .i64 x.Vars.e2),.lit (.int .i64 x.Vars.e3),.lit (.int .i64 x.Vars.e4),.lit (.int .i64 x.Vars.e5),.lit (.int .i64 x.Vars.e6),.lit (.int .i64 x.Vars.e7),.lit (.int .u64 x.Seed)]
def up80(x:List Int):V:=.tsl 3 x
def dn80(v:V):Option (List Int):=dnG (den:=den) 3 dn3 v
def rp80(x:List Int)(a:AV):Prop:=rpG rp3 x a
def up84(x:Line):V:=.agg [.lit (.int .i64 x.Queue.Policy.Kind),.lit (.int .i64 x.Queue.Policy.A),.lit (.int .i64 x.Queue.Policy.B),.lit (.int .i64 x.Queue.Policy.C),.lit (.int .i64 x.Queue.Room),.tsl 62 x.Queue.Lists,.lit (.int .i64 x.Queue.Vars.e0),.lit (.int .i64 x.Queue.Vars.e1),.lit (.int .i64 x.Queue.Vars.e2),.lit (.int .i64 x.Queue.Vars.e3),.lit (.int .i64 x.Queue.Vars.e4),.lit (.int .i64 x.Queue.Vars.e5),.lit (.int .i64 x.Queue.Vars.e6),.lit (.int .i64 x.Queue.Vars.e7),.lit (.int .u64 x.Queue.Seed),.lit (.int .i64 x.Now)]
def dn84:V→Option Line
 |.agg [a0,a1,a2,a3,a4,a5,a6,a7,a8,a9,a10,a11,a12,a13,a14,a15]=>(dn3 a0).bind fun b0=>(dn3 a1).bind fun b1=>(dn3 a2).bind fun b2=>(dn3 a3).bind fun b3=>(dn3 a4).bind fun b4=>(dn28 a5).bind fun b5=>(dn3 a6).bind fun b6=>(dn3 a7).bind fun b7=>(dn3 a8).bind fun b8=>(dn3 a9).bind fun b9=>(dn3 a10).bind fun b10=>(dn3 a11).bind fun b11=>(dn3 a12).bind fun b12=>(dn3 a13).bind fun b13=>(dn30 a14).bind fun b14=>(dn3 a15).bind fun b15=>some ⟨⟨⟨b0,b1,b2,b3⟩,b4,b5,⟨b6,b7,b8,b9,b10,b11,b12,b13⟩,b14⟩,b15⟩
 |_=>none
def rp84(x:Line)(a:AV):Prop:=∃ a5,rp28 x.Queue.Lists a5∧a=.agg [.lit (.int .i64 x.Queue.Policy.Kind),.lit (.int .i64 x.Queue.Policy.A),.lit (.int .i64 x.Queue.Policy.B),.lit (.int .i64 x.Queue.Policy.C),.lit (.int .i64 x.Queue.Room),a5,.lit (.int .i64 x.Queue.Vars.e0),.lit (.int .i64 x.Queue.Vars.e1),.lit (.int .i64 x.Queue.Vars.e2),.lit (.int .i64 x.Queue.Vars.e3),.lit (.int .i64 x.Queue.Vars.e4),.lit (.int .i64 x.Queue.Vars.e5),.lit (.int .i64 x.Queue.Vars.e6),.lit (.int .i64 x.Queue.Vars.e7),.lit (.int .u64 x.Queue.Seed),.lit (.int .i64 x.Now)]
def up101(x:A2 (List Queued)):V:=.agg [.tsl 72 x.e0,.tsl 72 x.e1]
def dn101:V→Option (A2 (List Queued))
 |.agg [a0,a1]=>(dn62 a0).bind fun b0=>(dn62 a1).bind fun b1=>some ⟨b0,b1⟩
 |_=>none
def rp101(x:A2 (List Queued))(a:AV):Prop:=∃ a0 a1,rp62 x.e0 a0∧rp62 x.e1 a1∧a=.agg [a0,a1]
def up102(x:Pair):V:=.agg [.lit (.int .i64 x.Q.Policy.Kind),.lit (.int .i64 x.Q.Policy.A),.lit (.int .i64 x.Q.Policy.B),.lit (.int .i64 x.Q.Policy.C),.lit (.int .i64 x.Q.Room),.tsl 62 x.Q.Lists,.lit (.int .i64 x.Q.Vars.e0),.lit (.int .i64 x.Q.Vars.e1),.lit (.int .i64 x.Q.Vars.e2),.lit (.int .i64 x.Q.Vars.e3),.lit (.int .i64 x.Q.Vars.e4),.lit (.int .i64 x.Q.Vars.e5),.lit (.int .i64 x.Q.Vars.e6),.lit (.int .i64 x.Q.Vars.e7),.lit (.int .u64 x.Q.Seed),.tsl 72 x.Lists.e0,.tsl 72 x.Lists.e1,.lit (.int .i64 x.Now),.tsl 46 x.Drops]
def dn102:V→Option Pair
 |.agg [a0,a1,a2,a3,a4,a5,a6,a7,a8,a9,a10,a11,a12,a13,a14,a15,a16,a17,a18]=>(dn3 a0).bind fun b0=>(dn3 a1).bind fun b1=>(dn3 a2).bind fun b2=>(dn3 a3).bind fun b3=>(dn3 a4).bind fun b4=>(dn28 a5).bind fun b5=>(dn3 a6).bind fun b6=>(dn3 a7).bind fun b7=>(dn3 a8).bind fun b8=>(dn3 a9).bind fun b9=>(dn3 a10).bind fun b10=>(dn3 a11).bind fun b11=>(dn3 a12).bind fun b12=>(dn3 a13).bind fun b13=>(dn30 a14).bind fun b14=>(dn62 a15).bind fun b15=>(dn62 a16).bind fun b16=>(dn3 a17).bind fun b17=>(dn33 a18).bind fun b18=>some ⟨⟨⟨b0,b1,b2,b3⟩,b4,b5,⟨b6,b7,b8,b9,b10,b11,b12,b13⟩,b14⟩,⟨b15,b16⟩,b17,b18⟩
 |_=>none
def rp102(x:Pair)(a:AV):Prop:=∃ a5 a15 a16 a18,rp28 x.Q.Lists a5∧rp62 x.Lists.e0 a15∧rp62 x.Lists.e1 a16∧rp33 x.Drops a18∧a=.agg [.lit (.int .i64 x.Q.Policy.Kind),.lit (.int .i64 x.Q.Policy.A),.lit (.int .i64 x.Q.Policy.B),.lit (.int .i64 x.Q.Policy.C),.lit (.int .i64 x.Q.Room),a5,.lit (.int .i64 x.Q.Vars.e0),.lit (.int .i64 x.Q.Vars.e1),.lit (.int .i64 x.Q.Vars.e2),.lit (.int .i64 x.Q.Vars.e3),.lit (.int .i64 x.Q.Vars.e4),.lit (.int .i64 x.Q.Vars.e5),.lit (.int .i64 x.Q.Vars.e6),.lit (.int .i64 x.Q.Vars.e7),.lit (.int .u64 x.Q.Seed),a15,a16,.lit (.int .i64 x.Now),a18]
def up74(x:Queue):V:=.eref (up65 x) 0
def dn74(v:V):Option Queue:=dnP dn65 v
def rp74(x:Queue)(a:AV):Prop:=rpP rp65 x a
def up81(x:Line):V:=.eref (up84 x) 0
def dn81(v:V):Option Line:=dnP dn84 v
def rp81(x:Line)(a:AV):Prop:=rpP rp84 x a
def up87(x:Queue):V:=.eref (up65 x) 0
def dn87(v:V):Option Queue:=dnP dn65 v
def rp87(x:Queue)(a:AV):Prop:=rpP rp65 x a
def up98(x:Pair):V:=.eref (up102 x) 0
def dn98(v:V):Option Pair:=dnP dn102 v
def rp98(x:Pair)(a:AV):Prop:=rpP rp102 x a
def up1087(x:Queue):V:=.eref (up87 x) 0
def dn1087(v:V):Option Queue:=dnP dn87 v
def rp1087(x:Queue)(a:AV):Prop:=rpP rp87 x a
def up1003(x:Int):V:=.eref (up3 x) 0
def dn1003(v:V):Option Int:=dnP dn3 v
def rp1003(x:Int)(a:AV):Prop:=rpP rp3 x a
def up:(t:Nat)→den t→V
 |2,x=>up2 x
 |3,x=>up3 x
 |4,x=>up4 x
 |5,x=>up5 x
 |9,x=>up9 x
 |22,x=>up22 x
 |23,x=>up23 x
 |26,x=>up26 x
 |27,x=>up26 x
 |28,x=>up28 x
 |29,x=>up29 x
 |30,x=>up30 x
 |31,x=>up31 x
 |32,x=>up31 x
 |33,x=>up33 x
 |34,x=>up34 x
 |35,x=>up34 x
 |36,x=>up36 x
 |38,x=>up3 x
 |45,x=>up45 x
 |46,x=>up45 x
 |47,x=>up47 x
 |48,x=>up47 x
 |62,x=>up62 x
 |65,x=>up65 x
 |66,x=>up65 x
 |71,x=>up71 x
 |72,x=>up71 x
 |75,x=>up65 x
 |80,x=>up80 x
 |84,x=>up84 x
 |85,x=>up84 x
 |88,x=>up65 x
 |101,x=>up101 x
 |102,x=>up102 x
 |103,x=>up102 x
 |74,x=>up74 x
 |81,x=>up81 x
 |87,x=>up87 x
 |98,x=>up98 x
 |1087,x=>up1087 x
 |1003,x=>up1003 x
 |_,_=>.dead
def dn:(t:Nat)→V→Option (den t)
 |2,v=>dn2 v
 |3,v=>dn3 v
 |4,v=>dn4 v
 |5,v=>dn5 v
 |9,v=>dn9 v
 |22,v=>dn22 v
 |23,v=>dn23 v
 |26,v=>dn26 v
 |27,v=>dn26 v
 |28,v=>dn28 v
 |29,v=>dn29 v
 |30,v=>dn30 v
 |31,v=>dn31 v
 |32,v=>dn31 v
 |33,v=>dn33 v
 |34,v=>dn34 v
 |35,v=>dn34 v
 |36,v=>dn36 v
 |38,v=>dn3 v
 |45,v=>dn45 v
 |46,v=>dn45 v
 |47,v=>dn47 v
 |48,v=>dn47 v
 |62,v=>dn62 v
 |65,v=>dn65 v
 |66,v=>dn65 v
 |71,v=>dn71 v
 |72,v=>dn71 v
 |75,v=>dn65 v
 |80,v=>dn80 v
 |84,v=>dn84 v
 |85,v=>dn84 v
 |88,v=>dn65 v
 |101,v=>dn101 v
 |102,v=>dn102 v
 |103,v=>dn102 v
 |74,v=>dn74 v
 |81,v=>dn81 v
 |87,v=>dn87 v
 |98,v=>dn98 v
 |1087,v=>dn1087 v
 |1003,v=>dn1003 v
 |_,_=>none
def rp:(t:Nat)→den t→AV→Prop
 |2,x,a=>rp2 x a
 |3,x,a=>rp3 x a
 |4,x,a=>rp4 x a
 |5,x,a=>rp5 x a
 |9,x,a=>rp9 x a
 |22,x,a=>rp22 x a
 |23,x,a=>rp23 x a
 |26,x,a=>rp26 x a
 |27,x,a=>rp26 x a
 |28,x,a=>rp28 x a
 |29,x,a=>rp29 x a
 |30,x,a=>rp30 x a
 |31,x,a=>rp31 x a
 |32,x,a=>rp31 x a
 |33,x,a=>rp33 x a
 |34,x,a=>rp34 x a
 |35,x,a=>rp34 x a
 |36,x,a=>rp36 x a
 |38,x,a=>rp3 x a
 |45,x,a=>rp45 x a
 |46,x,a=>rp45 x a
 |47,x,a=>rp47 x a
 |48,x,a=>rp47 x a
 |62,x,a=>rp62 x a
 |65,x,a=>rp65 x a
 |66,x,a=>rp65 x a
 |71,x,a=>rp71 x a
 |72,x,a=>rp71 x a
 |75,x,a=>rp65 x a
 |80,x,a=>rp80 x a
 |84,x,a=>rp84 x a
 |85,x,a=>rp84 x a
 |88,x,a=>rp65 x a
 |101,x,a=>rp101 x a
 |102,x,a=>rp102 x a
 |103,x,a=>rp102 x a
 |74,x,a=>rp74 x a
 |81,x,a=>rp81 x a
 |87,x,a=>rp87 x a
 |98,x,a=>rp98 x a
 |1087,x,a=>rp1087 x a
 |1003,x,a=>rp1003 x a
 |_,_,_=>False
def aggT:Nat→Bool
 |26=>true
 |27=>true
 |29=>true
 |31=>true
 |32=>true
 |34=>true
 |35=>true
 |45=>true
 |46=>true
 |47=>true
 |48=>true
 |65=>true
 |66=>true
 |71=>true
 |72=>true
 |75=>true
 |84=>true
 |85=>true
 |88=>true
 |101=>true
 |102=>true
 |103=>true
 |_=>false
def sizeT:Nat→Nat
 |26=>4
 |27=>4
 |29=>8
 |31=>15
 |32=>15
 |34=>18
 |35=>18
 |45=>8
 |46=>8
 |47=>10
 |48=>10
 |65=>15
 |66=>15
 |71=>9
 |72=>9
 |75=>15
 |84=>16
 |85=>16
 |88=>15
 |101=>2
 |102=>19
 |103=>19
 |_=>1
def zeroT:(t:Nat)→Option (den t)
 |2=>some (0:Int)
 |3=>some (0:Int)
 |4=>some (false:Bool)
 |5=>some (0:Int)
 |9=>some (ByteArray.empty:ByteArray)
 |22=>some (0:Int)
 |23=>some ([]:List Stepx)
 |26=>some (⟨0,0,0,0⟩:Policy)
 |27=>some (⟨0,0,0,0⟩:Policy)
 |28=>some ([]:List (List Queued))
 |29=>some (⟨0,0,0,0,0,0,0,0⟩:A8 Int)
 |30=>some (0:Int)
 |31=>some (⟨⟨0,0,0,0⟩,0,[],⟨0,0,0,0,0,0,0,0⟩,0⟩:Queue)
 |32=>some (⟨⟨0,0,0,0⟩,0,[],⟨0,0,0,0,0,0,0,0⟩,0⟩:Queue)
 |33=>some ([]:List Packet)
 |34=>some (⟨⟨⟨0,0,0,0⟩,0,[],⟨0,0,0,0,0,0,0,0⟩,0⟩,[],[],[]⟩:Run)
 |35=>some (⟨⟨⟨0,0,0,0⟩,0,[],⟨0,0,0,0,0,0,0,0⟩,0⟩,[],[],[]⟩:Run)
 |36=>some ([]:List Policy)
 |38=>some (0:Int)
 |45=>some (⟨0,0,0,0,0,0,false,false⟩:Packet)
 |46=>some (⟨0,0,0,0,0,0,false,false⟩:Packet)
 |47=>some (⟨0,false,⟨0,0,0,0,0,0,false,false⟩⟩:Stepx)
 |48=>some (⟨0,false,⟨0,0,0,0,0,0,false,false⟩⟩:Stepx)
 |62=>some ([]:List Queued)
 |65=>some (⟨⟨0,0,0,0⟩,0,[],⟨0,0,0,0,0,0,0,0⟩,0⟩:Queue)
 |66=>some (⟨⟨0,0,0,0⟩,0,[],⟨0,0,0,0,0,0,0,0⟩,0⟩:Queue)
 |71=>some (⟨⟨0,0,0,0,0,0,false,false⟩,0⟩:Queued)
 |72=>some (⟨⟨0,0,0,0,0,0,false,false⟩,0⟩:Queued)
 |75=>some (⟨⟨0,0,0,0⟩,0,[],⟨0,0,0,0,0,0,0,0⟩,0⟩:Queue)
 |80=>some ([]:List Int)
 |84=>some (⟨⟨⟨0,0,0,0⟩,0,[],⟨0,0,0,0,0,0,0,0⟩,0⟩,0⟩:Line)
 |85=>some (⟨⟨⟨0,0,0,0⟩,0,[],⟨0,0,0,0,0,0,0,0⟩,0⟩,0⟩:Line)
 |88=>some (⟨⟨0,0,0,0⟩,0,[],⟨0,0,0,0,0,0,0,0⟩,0⟩:Queue)
 |101=>some (⟨[],[]⟩:A2 (List Queued))
 |102=>some (⟨⟨⟨0,0,0,0⟩,0,[],⟨0,0,0,0,0,0,0,0⟩,0⟩,⟨[],[]⟩,0,[]⟩:Pair)
 |103=>some (⟨⟨⟨0,0,0,0⟩,0,[],⟨0,0,0,0,0,0,0,0⟩,0⟩,⟨[],[]⟩,0,[]⟩:Pair)
 |_=>none
def m5:MTy:=⟨false,1,1,some (.lit (.int .u8 0)),.other,none,none⟩
def m7:MTy:=⟨true,4,24,some (.agg [zI,zI,zB,.lit (.int .u8 0)]),.struct [(0,2),(1,3),(2,4),(3,6)],none,none⟩
def m12:MTy:=⟨false,1,8,some (.lit (.int .u64 0)),.other,none,none⟩
def m13:MTy:=⟨true,2,24,some (.agg [zS,.lit (.int .u64 0)]),.struct [(0,9),(1,12)],none,none⟩
def m18:MTy:=⟨true,1,8,some (.agg [.lit (.pointer none)]),.struct [(0,17)],none,none⟩
def m21:MTy:=⟨false,1,4,some (.lit (.int .i32 0)),.other,none,none⟩
def m26:MTy:=⟨true,4,32,some (.agg [zI,zI,zI,zI]),.struct [(0,3),(1,3),(2,3),(3,3)],some [kI,kI,kI,kI],none⟩
def m31:MTy:=⟨true,15,136,some (.agg [zI,zI,zI,zI,zI,zL,zI,zI,zI,zI,zI,zI,zI,zI,.lit (.int .u64 0)]),.struct [(0,27),(4,3),(5,28),(6,29),(14,30)],none,none⟩
def m34:MTy:=⟨true,18,208,some (.agg [zI,zI,zI,zI,zI,zL,zI,zI,zI,zI,zI,zI,zI,zI,.lit (.int .u64 0),zL,zL,zL]),.struct [(0,32),(15,33),(16,33),(17,33)],none,none⟩
def m45:MTy:=⟨true,8,56,some (.agg [zI,zI,zI,zI,zI,zI,zB,zB]),.struct [(0,3),(1,3),(2,3),(3,3),(4,3),(5,3),(6,4),(7,4)],some [kI,kI,kI,kI,kI,kI,kB,kB],none⟩
def m47:MTy:=⟨true,10,64,some (.agg [.lit (.int .u16 0),zB,zI,zI,zI,zI,zI,zI,zB,zB]),.struct [(0,22),(1,4),(2,46)],some [.int .u16,kB,kI,kI,kI,kI,kI,kI,kB,kB],none⟩
def m52:MTy:=⟨true,4,32,some (.agg [zI,zF,zF,zF]),.struct [(0,3),(1,49),(2,50),(3,51)],none,none⟩
def m65:MTy:=⟨true,15,136,some (.agg [zI,zI,zI,zI,zI,zL,zI,zI,zI,zI,zI,zI,zI,zI,.lit (.int .u64 0)]),.struct [(0,32)],none,none⟩
def m71:MTy:=⟨true,9,64,some (.agg [zI,zI,zI,zI,zI,zI,zB,zB,zI]),.struct [(0,46),(8,3)],some [kI,kI,kI,kI,kI,kI,kB,kB,kI],none⟩
def m84:MTy:=⟨true,16,144,some (.agg [zI,zI,zI,zI,zI,zL,zI,zI,zI,zI,zI,zI,zI,zI,.lit (.int .u64 0),zI]),.struct [(0,32),(15,3)],none,none⟩
def m102:MTy:=⟨true,19,216,some (.agg [zI,zI,zI,zI,zI,zL,zI,zI,zI,zI,zI,zI,zI,zI,.lit (.int .u64 0),zL,zL,zI,zL]),.struct [(0,32),(15,101),(17,3),(18,33)],none,none⟩
def m126:MTy:=⟨true,4,40,some (.agg [.lit (.pointer none),.lit (.pointer none),.lit (.pointer none),zS]),.struct [(0,17),(1,17),(2,17),(3,9)],none,none⟩
def m138:MTy:=⟨true,11,48,some (.agg [.lit (.int .u64 0),.lit (.int .u64 0),.lit (.int .u32 0),.lit (.int .u8 0),.lit (.int .u8 0),.lit (.int .u8 0),.lit (.int .u8 0),zF,.lit (.pointer none),.lit (.int .i32 0),.lit (.int .i32 0)]),.struct [(0,12),(1,12),(2,131),(3,132),(4,5),(5,5),(6,133),(7,134),(8,135),(9,136),(10,137)],none,none⟩
def memo:List (Nat×MTy):=[
 (1,mF),
 (2,mI),
 (3,mI),
 (4,⟨false,1,1,some zB,.other,none,none⟩),
 (5,m5),
 (6,m5),
 (7,m7),
 (8,m7),
 (9,mS),
 (10,mS),
 (11,mS),
 (12,m12),
 (13,m13),
 (14,m13),
 (15,mP),
 (16,mP),
 (17,mP),
 (18,m18),
 (19,m18),
 (20,⟨false,1,16,some (.lit .nilIface),.iface,none,none⟩),
 (21,m21),
 (22,⟨false,1,2,some (.lit (.int .u16 0)),.other,none,none⟩),
 (23,mL 48),
 (24,mF),
 (25,mF),
 (26,m26),
 (27,m26),
 (28,mL 62),
 (29,⟨true,8,64,some (.agg [zI,zI,zI,zI,zI,zI,zI,zI]),.array 8 3,some [kI,kI,kI,kI,kI,kI,kI,kI],none⟩),
 (30,m12),
 (31,m31),
 (32,m31),
 (33,mL 46),
 (34,m34),
 (35,m34),
 (36,mL 27),
 (37,mF),
 (38,mI),
 (40,mF),
 (42,mF),
 (43,mF),
 (44,mF),
 (45,m45),
 (46,m45),
 (47,m47),
 (48,m47),
 (49,mF),
 (50,mF),
 (51,mF),
 (52,m52),
 (53,m52),
 (55,mF),
 (56,mF),
 (58,mF),
 (60,⟨true,28,224,some (.agg [zI,zF,zF,zF,zI,zF,zF,zF,zI,zF,zF,zF,zI,zF,zF,zF,zI,zF,zF,zF,zI,zF,zF,zF,zI,zF,zF,zF]),.array 7 53,none,none⟩),
 (61,mF),
 (62,mL 72),
 (63,mF),
 (64,mF),
 (65,m65),
 (66,m65),
 (67,mF),
 (68,mF),
 (69,mF),
 (70,mF),
 (71,m71),
 (72,m71),
 (73,mF),
 (74,mP),
 (75,m65),
 (77,mF),
 (78,mF),
 (79,mF),
 (80,mL 3),
 (81,mP),
 (83,mF),
 (84,m84),
 (85,m84),
 (86,mF),
 (87,mP),
 (88,m65),
 (90,mF),
 (92,mF),
 (93,mF),
 (94,mF),
 (95,mF),
 (96,mF),
 (97,mF),
 (98,mP),
 (100,mF),
 (101,⟨true,2,48,some (.agg [zL,zL]),.array 2 62,none,none⟩),
 (102,m102),
 (103,m102),
 (104,mF),
 (105,mF),
 (107,mF),
 (108,mF),
 (109,mF),
 (110,mP),
 (111,⟨true,4,32,some (.agg [zI,zI,zI,zI]),.array 4 3,some [kI,kI,kI,kI],none⟩),
 (112,mF),
 (113,mF),
 (114,mF),
 (116,mF),
 (117,m12),
 (118,mF),
 (119,mF),
 (120,mF),
 (121,mF),
 (122,mF),
 (123,⟨true,2,16,some (.agg [.lit (.int .u64 0),.lit (.int .u64 0)]),.struct [(0,117),(1,30)],none,none⟩),
 (124,⟨true,6,48,some (.agg [.lit (.int .u64 0),.lit (.int .u64 0),.lit (.int .u64 0),.lit (.int .u64 0),.lit (.int .u64 0),.lit (.int .u64 0)]),.array 3 123,some [.int .u64,.int .u64,.int .u64,.int .u64,.int .u64,.int .u64],none⟩),
 (125,mF),
 (126,m126),
 (127,m126),
 (131,⟨false,1,4,some (.lit (.int .u32 0)),.other,none,none⟩),
 (132,m5),
 (133,m5),
 (134,mF),
 (135,mP),
 (136,m21),
 (137,m21),
 (138,m138),
 (139,m138)]
abbrev T:Tys:=⟨den,up,dn,rp,aggT,sizeT,zeroT⟩
end Go.Proofs.YtomccdllhpolbaaDoor
end
