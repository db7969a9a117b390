/- Part 4 of the proof: texts of this session laid one behind the other. -/
import Derived.KernelRfl
import Derived.IntWalk
import Derived.Test.YtedjbjphpnkpoaaX3
set_option linter.unusedVariables false
set_option linter.unusedSimpArgs false
section
/- PS, part N: states with variables. -/
namespace Go.PI
variable {T:dm}{ρ:Type}
def jE{den:Nat→Type}(H:ah den)(n:Nat):Option Nat:=
 match H[n]? with
 |some (some o)=>some o.cur
 |_=>none
theorem oS{den:Nat→Type}{H:ah den}{n:Nat}{o:aB den}(h:H[n]?=some (some o)):jE H n=some o.cur:=by simp[jE,h]
theorem rb{den:Nat→Type}{H:ah den}{n c:Nat}(h:jE H n=some c):∃ o,H[n]?=some (some o)∧o.cur=c:=by
 grind[jE]
def Ew{den:Nat→Type}(ok:Nat→Prop)(Hs Hf:ah den):Prop:=∀ (n:Nat) (o:aB den),ok n→Hs[n]?=some (some o)→∃ of:aB den,Hf[n]?=some (some of)∧of.len=o.len
section
variable {Hs Hf Hc:ah T.den}{ok:Nat→Prop}
theorem Un{H:ah T.den}{v:SV T.den}{k:IntKind}{m:Int}(h:R T H v (.lit (.int k m))):v=.lit (.int k m):=by
 cases v with
 |lit w=>simp_all[R,AV.lit.injEq]
 |bh esz n c rg cap=>
  grind[R]
 |ss v st ln i=>
  simp only[R]at h
  obtain⟨_,_,_,h⟩:=h
  rcases h with ⟨_,_,_,_,_,h⟩|⟨_,_,_,h⟩<;>cases h
 |_=>simp[R]at h
theorem Gy[ab](hT:T.Ok){H:ah T.den}{t m:Nat}{x:T.den t}(h:T.dn t (.lit (.int .i64 m))=some x):I6 T ⟨.v t,x⟩=m:=by
 have h1:=hT.dn _ _ _ (.lit (.int .i64 m)) H h (by simp[R])
 have h2:=Un (hT.up _ _ _ H h1)
 show (match T.up t x with|.lit (.int _ m)=>m.toNat|_=>0)=m
 rw[h2]
 simp
theorem sV[ab](hT:T.Ok)(rC:∀ n,jE Hc n=jE Hf n)(hlen:Ew ok Hs Hf){p:pj}(bI:∀ n,n∈p.kA→ok n){v:SV T.den}{a:AV}(hv:RV T Hs v a){ln:List (TV T.den)}(h:fN Hs p v=some ln)(rest:List (TV T.den)):
  ∃ v',fT Hc p (ln++rest)=(v',rest)∧R T Hf v' a∧(aE v=true→aE v'=true):=by
 cases p with
 |hole=>
  simp only[fN]at h
  split at h
  case h_2=>simp at h
  rename_i hh
  simp only[Option.some.injEq]at h
  subst h
  unfold isHole at hh
  split at hh
  case h_2=>simp at hh
  have hv:=hv.live rfl
  simp only[R]at hv
  subst hv
  exact⟨.hole,rfl,by simp[R],fun h=>h⟩
 |val t=>
  simp only[fN]at h
  split at h
  ·simp at h
  rename_i hd
  split at h
  case h_2=>simp at h
  rename_i x hx
  simp only[Option.some.injEq]at h
  subst h
  have Fb:=hT.dn _ _ _ _ Hs hx (hv.live hd)
  exact⟨T.up t x,rfl,hT.up _ _ _ Hf Fb,fun _=>vu hT Fb⟩
 |I3 esz n rg cap=>
  simp only[fN]at h
  split at h
  case h_2=>simp at h
  rename_i yI n' c Xm Gm
  have hv:=hv.live rfl
  split at h
  case h_2=>simp at h
  rename_i o ho
  split at h
  case isFalse=>simp at h
  rename_i hc
  obtain⟨rfl,rfl,rfl,rfl,rfl⟩:=hc
  simp only[Option.some.injEq]at h
  subst h
  obtain⟨of,Ms,Gz⟩:=hlen _ _ (bI _ (by simp[pj.kA])) ho
  have nu:=rC n'
  rw[oS Ms]at nu
  obtain⟨oc,Cw,RU⟩:=rb nu
  refine⟨.bh yI n' oc.cur Xm Gm,?_,?_,fun h=>by simp[aE]at h⟩
  ·simp only[fT,Cw,List.nil_append]
  ·simp only[R]at hv ⊢
   obtain⟨aq,⟨o',h1,_,h3⟩,ha⟩:=hv
   rw[ho]at h1
   simp only[Option.some.injEq]at h1
   subst h1
   exact⟨aq,⟨of,Ms,by omega,fun _=>by rw[h3 rfl,Gz]⟩,ha⟩
 |iD n i j len cap=>
  simp only[fN]at h
  split at h
  case h_2=>simp at h
  rename_i n' c i' j' OW Gm
  have hv:=hv.live rfl
  split at h
  case h_2=>simp at h
  rename_i o ho
  split at h
  case isFalse=>simp at h
  rename_i hc
  obtain⟨rfl,rfl,rfl,rfl,rfl,rfl⟩:=hc
  simp only[Option.some.injEq]at h
  subst h
  obtain⟨of,Ms,Gz⟩:=hlen _ _ (bI _ (by simp[pj.kA])) ho
  have nu:=rC n'
  rw[oS Ms]at nu
  obtain⟨oc,Cw,RU⟩:=rb nu
  refine⟨.iD n' oc.cur i' j' OW Gm,?_,?_,fun h=>by simp[aE]at h⟩
  ·simp only[fT,Cw,List.nil_append]
  ·simp only[R]at hv ⊢
   obtain⟨aq,ha,⟨o',h1,_,h3⟩⟩:=hv
   rw[ho]at h1
   simp only[Option.some.injEq]at h1
   subst h1
   exact⟨aq,ha,⟨of,Ms,by omega,fun _=>by rw[h3 rfl,Gz]⟩⟩
 |own esz n=>
  simp only[fN]at h
  split at h
  case h_2=>simp at h
  rename_i yI n' c
  have hv:=hv.live rfl
  split at h
  case h_2=>simp at h
  rename_i o ho
  split at h
  case isFalse=>simp at h
  rename_i hc
  obtain⟨rfl,rfl,rfl⟩:=hc
  simp only[Option.some.injEq]at h
  subst h
  obtain⟨of,Ms,Gz⟩:=hlen _ _ (bI _ (by simp[pj.kA])) ho
  have nu:=rC n'
  rw[oS Ms]at nu
  obtain⟨oc,Cw,RU⟩:=rb nu
  refine⟨.bh yI n' oc.cur none none,?_,?_,fun h=>by simp[aE]at h⟩
  ·simp only[fT,Cw,List.nil_append]
  ·simp only[R]at hv ⊢
   obtain⟨aq,⟨o',h1,_,h3⟩,rfl⟩:=hv
   rw[ho]at h1
   simp only[Option.some.injEq]at h1
   subst h1
   exact⟨aq,⟨of,Ms,by omega,fun _=>by rw[h3 rfl,Gz]⟩,rfl⟩
 |SB esz n t k=>
  simp only[fN]at h
  split at h
  case h_2=>simp at h
  rename_i yI n' c rg cap
  have hv:=hv.live rfl
  split at h
  case h_2=>simp at h
  rename_i o off len ho hr
  split at h
  case isFalse=>simp at h
  rename_i hc
  obtain⟨rfl,rfl,rfl⟩:=hc
  obtain⟨of,Ms,Gz⟩:=hlen _ _ (bI _ (by simp[pj.kA])) ho
  have nu:=rC n'
  rw[oS Ms]at nu
  obtain⟨oc,Cw,RU⟩:=rb nu
  have hR:R T Hf (.bh yI n' oc.cur (some (off,len)) cap) a:=by
   simp only[R]at hv ⊢
   obtain⟨aq,⟨o',h1,_,h3⟩,ha⟩:=hv
   rw[ho]at h1
   simp only[Option.some.injEq]at h1
   subst h1
   refine⟨aq,⟨of,Ms,by omega,fun _=>by rw[h3 rfl,Gz]⟩,?_⟩
   cases rg with
   |some q=>
    simp_all[nj]
   |none=>
    have hb:Nat.beq o.cur o.cur=true:=by simp
    simp only[nj,ho,hb,if_true,Option.some.injEq,Prod.mk.injEq]at hr
    obtain⟨rfl,rfl⟩:=hr
    rw[←h3 rfl]
    exact ha
  rw[Option.bind_eq_some_iff]at h
  obtain⟨x,hx,h⟩:=h
  rw[Option.bind_eq_some_iff]at h
  obtain⟨y,hy,h⟩:=h
  have ex:=Gy hT (H:=Hs) hx
  have ey:=Gy hT (H:=Hs) hy
  split at h
  ·simp only[Option.some.injEq]at h
   subst h
   exact⟨_,by simp only[fT,List.cons_append,List.nil_append,Cw,ex,ey],hR,fun h=>by simp[aE]at h⟩
  ·obtain⟨z,hz,hl⟩:∃ z,T.dn t (.lit (.int .i64 _))=some z∧_=ln:=Option.map_eq_some_iff.1 h
   subst hl
   have ez:=Gy hT (H:=Hs) hz
   exact⟨_,by simp only[fT,List.cons_append,List.nil_append,Cw,ex,ey,ez],hR,fun h=>by simp[aE]at h⟩
  ·simp at h
theorem wK[ab](hT:T.Ok)(rC:∀ n,jE Hc n=jE Hf n)(hlen:Ew ok Hs Hf):∀ {ps:List pj} {vs:List (SV T.den)} {as:List AV} {ln:List (TV T.den)},(∀ n,n∈ps.flatMap pj.kA→ok n)→RL T Hs vs as→iq Hs ps vs=some ln→∀ rest:List (TV T.den),
  ∃ vs',jz Hc ps (ln++rest)=(vs',rest)∧RL T Hf vs' as∧(av vs=true→av vs'=true)
 |[],[],[],ln,_,_,h,rest=>by
  simp only[iq,Option.some.injEq]at h
  subst h
  exact⟨[],rfl,by simp[RL],fun _=>rfl⟩
 |p::ps,v::vs,a::as,ln,bI,hr,h,rest=>by
  simp only[RL]at hr
  simp only[iq,Option.bind_eq_some_iff,Option.map_eq_some_iff]at h
  obtain⟨l1,h1,l2,h2,rfl⟩:=h
  obtain⟨v',e1,e2,e3⟩:=sV hT rC hlen (fun n hn=>bI n (by simp[hn])) (.inr hr.1) h1 (l2++rest)
  obtain⟨vs',g1,g2,g3⟩:=wK hT rC hlen (fun n hn=>bI n (by simp only[List.flatMap_cons,List.mem_append]; exact .inr hn)) hr.2 h2 rest
  refine⟨v'::vs',?_,by simp only[RL]; exact⟨e2,g2⟩,fun hc=>?_⟩
  ·simp_all[jz]
  ·simp_all[av]
 |[],_::_,_,_,_,_,h,_=>by simp[iq]at h
 |_::_,[],_,_,_,_,h,_=>by simp[iq]at h
 |_,[],_::_,_,_,h,_,_=>by simp[RL]at h
 |_,_::_,[],_,_,h,_,_=>by simp[RL]at h
end
def Compat{T:dm}(o:aB T.den):cR→Prop
 |.list t=>∃ g f c l,o=.ca g f c t l
 |.fix t=>∃ g f c l,o=.ca g f c t l
 |.one _=>∃ g cl f c es,o=.arr g cl f c es
 |.agg _=>∃ g cl f c es,o=.arr g cl f c es
 |.map kk t=>∃ m,o=.kz kk t m
section
variable {Hs Hf Hc:ah T.den}{ok:Nat→Prop}
theorem uk[ab](hT:T.Ok){os:aB T.den}{t:Nat}{ln:List (TV T.den)}(h:eD Hs os (.list t)=some ln∨eD Hs os (.fix t)=some ln):
  ∃ l:List (T.den t),ln=[⟨.l t,l⟩]∧l.length=os.len∧os.flags.2.1=true∧∀ a,RO T Hs os a→∃ es,a=.arr os.flags.1 true os.flags.2.2 es∧aw (T.rp t) l es:=by
 have h2:eD Hs os (.list t)=some ln:=h.elim id id
 clear h
 have h:=h2
 clear h2
 unfold eD at h
 simp only at h
 split at h
 ·rename_i g f c t' l
  split at h
  case isFalse=>simp at h
  rename_i ht
  subst ht
  refine⟨l,(Option.some.inj h).symm,rfl,rfl,fun a ha=>?_⟩
  obtain⟨es,rfl,cF⟩:=ha
  exact⟨es,rfl,cF⟩
 ·rename_i g f c es
  cases hd:pa T t es with
  |none=>rw[hd]at h; cases h
  |some l=>
   rw[hd]at h
   refine⟨l,(Option.some.inj h).symm,?_,rfl,fun a ha=>?_⟩
   ·have:∀ {l:List (T.den t)} {es:List (SV T.den)},pa T t es=some l→l.length=es.length:=by
     intro l es
     induction es generalizing l with
     |nil=>simp_all[pa]
     |cons x xs ih=>
      intro h
      simp only[pa,Option.bind_eq_some_iff,Option.map_eq_some_iff]at h
      obtain⟨_,_,y,hy,rfl⟩:=h
      simp[ih hy]
    exact this hd
   ·obtain⟨es',rfl,cF,_⟩:=ha
    exact⟨es',rfl,ql hT cF hd⟩
 ·simp at h
theorem um{os:aB T.den}{kk:KK}{t:Nat}{ln:List (TV T.den)}(h:eD Hs os (.map kk t)=some ln):∃ m,os=.kz kk t m∧ln=[⟨.m kk t,m⟩]:=by
 unfold eD at h
 simp only at h
 split at h
 case h_2=>simp at h
 rename_i rj t' m
 split at h
 case isFalse=>simp at h
 rename_i hc
 obtain⟨rfl,rfl⟩:=hc
 exact⟨m,rfl,(Option.some.inj h).symm⟩
theorem z5[ab](hT:T.Ok){o os:aB T.den}{p:cR}(hc:Compat o p){ln:List (TV T.den)}(h:eD Hs os p=some ln)(rest:List (TV T.den))
  (hp:∀ q (v:SV T.den) l,fN Hs q v=some l→∀ rest,(fT Hc q (l++rest)).2=rest) :
  ∃ o',jA Hc o p (ln++rest)=(o',rest)∧o'.cur=o.cur∧o'.len=os.len:=by
 have O8:∀ (ps:List pj) (vs:List (SV T.den)) l,iq Hs ps vs=some l→∀ rest,(jz Hc ps (l++rest)).2=rest:=by
  intro ps
  induction ps with
  |nil=>
   intro vs l hl rest
   cases vs with
   |nil=>simp[iq]at hl; subst hl; rfl
   |cons=>simp[iq]at hl
  |cons q ps ih=>
   intro vs l hl rest
   cases vs with
   |nil=>simp[iq]at hl
   |cons v vs=>
    simp only[iq,Option.bind_eq_some_iff,Option.map_eq_some_iff]at hl
    obtain⟨l1,h1,l2,h2,rfl⟩:=hl
    have e1:=hp q v l1 h1 (l2++rest)
    have e2:=ih vs l2 h2 rest
    simp only[jz,List.append_assoc]
    rw[e1]
    exact e2
 cases p with
 |list t=>
  obtain⟨g,f,c,l0,rfl⟩:=hc
  obtain⟨l,rfl,hl,_⟩:=uk hT (.inl h)
  exact⟨.ca g f c t l,rfl,rfl,hl⟩
 |fix t=>
  obtain⟨g,f,c,l0,rfl⟩:=hc
  obtain⟨l,rfl,hl,_⟩:=uk hT (.inr h)
  exact⟨.ca g f c t l,rfl,rfl,hl⟩
 |one q=>
  obtain⟨g,cl,f,c,es,rfl⟩:=hc
  simp only[eD]at h
  split at h
  case h_2=>simp at h
  rename_i v
  have e:=hp q v ln h rest
  refine⟨.arr g cl f c [(fT Hc q (ln++rest)).1],?_,rfl,rfl⟩
  have e2:fT Hc q (ln++rest)=((fT Hc q (ln++rest)).1,rest):=Prod.ext rfl e
  simp only[jA]
  rw[e2]
 |agg ps=>
  obtain⟨g,cl,f,c,es,rfl⟩:=hc
  simp only[eD]at h
  split at h
  case h_2=>simp at h
  rename_i vs
  have e:=O8 ps vs ln h rest
  refine⟨.arr g cl f c [.agg (jz Hc ps (ln++rest)).1],?_,rfl,rfl⟩
  have e2:jz Hc ps (ln++rest)=((jz Hc ps (ln++rest)).1,rest):=Prod.ext rfl e
  simp only[jA]
  rw[e2]
 |map kk t=>
  obtain⟨m0,rfl⟩:=hc
  obtain⟨m,rfl,rfl⟩:=um h
  exact⟨.kz kk t m,rfl,rfl,rfl⟩
theorem zf[ab](hT:T.Ok)(rC:∀ n,jE Hc n=jE Hf n)(hlen:Ew ok Hs Hf){o os o':aB T.den}{p:cR}(bI:∀ n,n∈p.kA→ok n)(hc:Compat o p){ln:List (TV T.den)}(h:eD Hs os p=some ln){rest:List (TV T.den)}
  (ho:jA Hc o p (ln++rest)=(o',rest)) (rz:o.flags.1=os.flags.1) (gZ:o.flags.2.1=os.flags.2.1) (NH:o.flags.2.2=os.flags.2.2) {a:aJ} (ha:RO T Hs os a):RO T Hf o' a:=by
 cases p with
 |list t=>
  obtain⟨g,f,c,l0,rfl⟩:=hc
  obtain⟨l,rfl,hl,_,hr⟩:=uk hT (.inl h)
  obtain⟨es,rfl,cF⟩:=hr a ha
  simp only[jA,List.cons_append,List.nil_append,Prod.mk.injEq]at ho
  obtain⟨rfl,_⟩:=ho
  have hg:g=os.flags.1:=rz
  have hf:f=os.flags.2.2:=NH
  exact⟨es,by rw[hg,hf],cF⟩
 |fix t=>
  obtain⟨g,f,c,l0,rfl⟩:=hc
  obtain⟨l,rfl,hl,_,hr⟩:=uk hT (.inr h)
  obtain⟨es,rfl,cF⟩:=hr a ha
  simp only[jA,List.cons_append,List.nil_append,Prod.mk.injEq]at ho
  obtain⟨rfl,_⟩:=ho
  have hg:g=os.flags.1:=rz
  have hf:f=os.flags.2.2:=NH
  exact⟨es,by rw[hg,hf],cF⟩
 |one q=>
  obtain⟨g,cl,f,c,es,rfl⟩:=hc
  simp only[eD]at h
  split at h
  case h_2=>simp at h
  rename_i g' cl' f' c' v
  simp only[aB.flags]at rz gZ NH
  subst rz; subst gZ; subst NH
  obtain⟨es',rfl,cF,kM⟩:=ha
  match es',cF with
  |[b],cF=>
   simp only[RL]at cF
   obtain⟨v',e1,e2,e3⟩:=sV hT rC hlen bI (.inr cF.1) h rest
   simp only[jA,e1,Prod.mk.injEq,and_true]at ho
   subst ho
   refine⟨[b],rfl,by simp only[RL]; exact⟨e2,trivial⟩,fun nu=>?_⟩
   have:=kM nu
   simp only[av,Bool.and_true]at this ⊢
   exact e3 this
  |[],cF=>simp[RL]at cF
  |_::_::_,cF=>simp[RL]at cF
 |agg ps=>
  obtain⟨g,cl,f,c,es,rfl⟩:=hc
  simp only[eD]at h
  split at h
  case h_2=>simp at h
  rename_i g' cl' f' c' vs
  simp only[aB.flags]at rz gZ NH
  subst rz; subst gZ; subst NH
  obtain⟨es',rfl,cF,kM⟩:=ha
  match es',cF with
  |[b],cF=>
   simp only[RL,R]at cF
   obtain⟨⟨as,rfl,cF⟩,_⟩:=cF
   obtain⟨vs',e1,e2,e3⟩:=wK hT rC hlen bI cF h rest
   simp only[jA,e1,Prod.mk.injEq,and_true]at ho
   subst ho
   refine⟨[.agg as],rfl,by simp only[RL,R]; exact⟨⟨as,rfl,e2⟩,trivial⟩,fun nu=>?_⟩
   have:=kM nu
   simp only[av,aE,Bool.and_true]at this ⊢
   exact e3 this
  |[],cF=>simp[RL]at cF
  |_::_::_,cF=>simp[RL]at cF
 |map kk t=>
  obtain⟨m0,rfl⟩:=hc
  obtain⟨m,rfl,rfl⟩:=um h
  simp only[jA,List.cons_append,List.nil_append,Prod.mk.injEq]at ho
  obtain⟨rfl,_⟩:=ho
  exact ha
theorem Ex{q:pj}{v:SV T.den}{l:List (TV T.den)}(h:fN Hs q v=some l)(rest:List (TV T.den)):(fT Hc q (l++rest)).2=rest:=by
 cases q with
 |I3 esz n rg cap=>
  simp only[fN]at h
  split at h
  case h_2=>simp at h
  split at h
  case h_2=>simp at h
  split at h
  case isFalse=>simp at h
  simp only[Option.some.injEq]at h
  subst h
  rfl
 |iD n i j len cap=>
  simp only[fN]at h
  split at h
  case h_2=>simp at h
  split at h
  case h_2=>simp at h
  split at h
  case isFalse=>simp at h
  simp only[Option.some.injEq]at h
  subst h
  rfl
 |hole=>
  simp only[fN]at h
  split at h
  case h_2=>simp at h
  simp only[Option.some.injEq]at h
  subst h
  rfl
 |val t=>
  simp only[fN]at h
  split at h
  ·simp at h
  split at h
  case h_2=>simp at h
  simp only[Option.some.injEq]at h
  subst h
  rfl
 |own esz n=>
  simp only[fN]at h
  split at h
  case h_2=>simp at h
  split at h
  case h_2=>simp at h
  split at h
  case isFalse=>simp at h
  simp only[Option.some.injEq]at h
  subst h
  rfl
 |SB esz n t k=>
  simp only[fN]at h
  split at h
  case h_2=>simp at h
  split at h
  case h_2=>simp at h
  split at h
  case isFalse=>simp at h
  rw[Option.bind_eq_some_iff]at h
  obtain⟨x,hx,h⟩:=h
  rw[Option.bind_eq_some_iff]at h
  obtain⟨y,hy,h⟩:=h
  split at h
  ·simp only[Option.some.injEq]at h
   subst h
   rfl
  ·obtain⟨z,_,hl⟩:∃ z,T.dn t (.lit (.int .i64 _))=some z∧_=l:=Option.map_eq_some_iff.1 h
   subst hl
   rfl
  ·simp at h
theorem nodup_cons{x:Nat}{l:List Nat}(h:c9 (x::l)=true):x∉l∧c9 l=true:=by
 simp_all[c9,decide_eq_false_iff_not]
theorem Ji{H:ah T.den}{n:Nat}{o o':aB T.den}(ho:H[n]?=some (some o))(hc:o'.cur=o.cur)(m:Nat):jE (H.set n (some o')) m=jE H m:=by
 unfold jE
 by_cases e:m=n
 ·grind
 ·rw[List.getElem?_set_ne (Ne.symm e)]
theorem rQ[ab](hT:T.Ok):∀ {objs:List (Nat×cR)} {H:ah T.den} {l:List (TV T.den)} (rest:List (TV T.den)),c9 (objs.map (·.1))=true→kq Hs objs=some l →
  (∀ q,q∈objs→∃ o,H[q.1]?=some (some o)∧Compat o q.2) →
  (gq H objs (l++rest)).length=H.length∧(∀ n:Nat,n∉objs.map (·.1)→(gq H objs (l++rest))[n]?=H[n]?)∧(∀ n,jE (gq H objs (l++rest)) n=jE H n) ∧
  (∀ q,q∈objs→∃ o os o' ln Hc Ey,H[q.1]?=some (some o)∧Hs[q.1]?=some (some os)∧eD Hs os q.2=some ln∧(∀ n,jE Hc n=jE H n)∧jA Hc o q.2 (ln++Ey)=(o',Ey) ∧
    (gq H objs (l++rest))[q.1]?=some (some o')∧o'.cur=o.cur∧o'.len=os.len)
 |[],H,l,rest,_,_,_=>⟨rfl,fun _ _=>rfl,fun _=>rfl,fun q hq=>by simp at hq⟩
 |(n,p)::objs,H,l,rest,AE,po,Sr=>by
  simp only[List.map_cons]at AE
  obtain⟨Mt,AE⟩:=nodup_cons AE
  simp only[kq]at po
  split at po
  case h_2=>simp at po
  rename_i os Vq
  rw[Option.bind_eq_some_iff]at po
  obtain⟨ln,h1,po⟩:=po
  rw[Option.map_eq_some_iff]at po
  obtain⟨l2,h2,rfl⟩:=po
  obtain⟨o,ho,hco⟩:=Sr (n,p) (by simp)
  simp only at ho hco
  obtain⟨o',e1,e2,e3⟩:=z5 (Hc:=H) hT hco h1 (l2++rest) fun q v l hl rest=>Ex hl rest
  have Uo:gq H ((n,p)::objs) (ln++l2++rest)=gq (H.set n (some o')) objs (l2++rest):=by
   simp_all[gq,ho]
  rw[Uo]
  have bL:=(List.getElem?_eq_some_iff.1 ho).1
  have XV:∀ q,q∈objs→∃ o,(H.set n (some o'))[q.1]?=some (some o)∧Compat o q.2:=by
   grind
  obtain⟨i1,i2,i3,i4⟩:=rQ hT rest AE h2 XV
  have uE:=Ji ho e2
  refine⟨by rw[i1]; simp,fun m hm=>?_,fun m=>by rw[i3,uE],fun q hq=>?_⟩
  ·grind
  ·grind
theorem sW[ab]:∀ {objs:List (Nat×cR)} {H:ah T.den},c9 (objs.map (·.1))=true →
  (rL H objs).length=H.length∧(∀ n:Nat,n∉objs.map (·.1)→(rL H objs)[n]?=H[n]?)∧(∀ q,q∈objs→∀ o,H[q.1]?=some (some o)→(rL H objs)[q.1]?=some (some (mR o q.2)))
 |[],H,_=>⟨rfl,fun _ _=>rfl,fun q hq=>by simp at hq⟩
 |(n,p)::objs,H,AE=>by
  simp only[List.map_cons]at AE
  obtain⟨Mt,AE⟩:=nodup_cons AE
  simp only[rL]
  split
  ·rename_i o ho
   have bL:=(List.getElem?_eq_some_iff.1 ho).1
   obtain⟨i1,i2,i3⟩:=sW (objs:=objs) (H:=H.set n (some (mR o p))) AE
   refine⟨by rw[i1]; simp,fun m hm=>?_,fun q hq o2 uT=>?_⟩
   ·grind
   ·grind
  ·rename_i Ah
   obtain⟨i1,i2,i3⟩:=sW (objs:=objs) (H:=H) AE
   refine⟨i1,fun m hm=>?_,fun q hq o2 uT=>?_⟩
   ·simp_all
   ·grind
theorem qu[ab](hT:T.Ok)(rC:∀ n,jE Hc n=jE Hf n)(hlen:Ew ok Hs Hf){N:Nat}{frs:tb T.den}{ast:Nat→AV}(eX:∀ t,RV T Hs (cL frs t) (ast t)):
  ∀ {az:List (Nat×pj)} {fr:tb T.den} {l:List (TV T.den)} (rest:List (TV T.den)),c9 (az.map (·.1))=true→(∀ q,q∈az→q.1<N∧∀ n,n∈q.2.kA→ok n)→qd Hs frs az=some l →
    ∃ zJ,qT N Hc fr az (l++rest)=(zJ,rest)∧(∀ t,t∉az.map (·.1)→cL zJ t=cL fr t)∧(∀ q,q∈az→R T Hf (cL zJ q.1) (ast q.1))
 |[],fr,l,rest,_,_,h=>by
  simp only[qd,Option.some.injEq]at h
  subst h
  exact⟨fr,rfl,fun _ _=>rfl,fun q hq=>by simp at hq⟩
 |(d,p)::az,fr,l,rest,AE,hN,h=>by
  simp only[List.map_cons]at AE
  obtain⟨Mt,AE⟩:=nodup_cons AE
  simp only[qd,Option.bind_eq_some_iff,Option.map_eq_some_iff]at h
  obtain⟨l1,h1,l2,h2,rfl⟩:=h
  obtain⟨v',e1,e2,_⟩:=sV hT rC hlen (hN (d,p) (by simp)).2 (eX d) h1 (l2++rest)
  obtain⟨zJ,i1,i2,i3⟩:=qu hT rC hlen eX (fr:=tX N fr d v') rest AE (fun q hq=>hN q (List.mem_cons_of_mem _ hq)) h2
  refine⟨zJ,?_,fun t ht=>?_,fun q hq=>?_⟩
  ·simp_all[qT]
  ·simp only[List.map_cons,List.mem_cons,not_or]at ht
   rw[i2 t ht.2,kF,if_neg (by omega)]
  ·rcases List.mem_cons.1 hq with rfl|hq
   ·rw[i2 d Mt,kF,if_pos ⟨rfl,(hN (d,p) (by simp)).1⟩]
    exact e2
   ·exact i3 q hq
theorem vE[ab]{N:Nat}:∀ {dead:List Nat} {fr:tb T.den} {t:Nat},cL (AQ N fr dead) t=(if t∈dead∧t<N then .dead else cL fr t)
 |[],fr,t=>by simp[AQ]
 |d::r,fr,t=>by
  simp only[AQ]
  rw[vE,kF]
  by_cases h1:t∈r∧t<N
  ·simp_all
  ·grind
end
end Go.PI
end
section
/- PS, part O: a state goes over into one with variables. -/
namespace Go.PI
variable {T:dm}{ρ:Type}
section
variable {H0 Hs Hf:ah T.den}
mutual
theorem R.ej(ht:∀ n c v0 aq,fU H0 n c v0→fU Hs n c aq→fU Hf n c aq)(hx:∀ (n:Nat) (o:aB T.den),H0[n]?=some (some o)→∃ o,Hf[n]?=some (some o)):∀ {v:SV T.den} {a0 a:AV},R T H0 v a0→R T Hs v a→R T Hf v a
 |.dead,_,_,h,_=>by simp[R]at h
 |.hole,a0,a,_,h=>by simpa[R] using h
 |.lit v,a0,a,_,h=>by simpa[R] using h
 |.agg l,a0,a,h0,h=>by
  simp only[R]at h0 h ⊢
  obtain⟨l0,_,h2⟩:=h0
  obtain⟨l',h1,h3⟩:=h
  exact⟨l',h1,RL.ej ht hx h2 h3⟩
 |.jF l,a0,a,h0,h=>by
  simp only[R]at h0 h ⊢
  obtain⟨l0,_,h2⟩:=h0
  obtain⟨l',h1,h3⟩:=h
  exact⟨l',h1,RL.ej ht hx h2 h3⟩
 |.sl l,a0,a,h0,h=>by
  simp only[R]at h0 h ⊢
  obtain⟨l0,_,h2,_⟩:=h0
  obtain⟨l',h1,h3,h4⟩:=h
  exact⟨l',h1,RL.ej ht hx h2 h3,h4⟩
 |.jw t l,a0,a,_,h=>by simpa[R] using h
 |.w8 t l c b,a0,a,_,h=>by simp only[R]at h ⊢; exact h
 |.nz,a0,a,_,h=>by simp only[R]at h ⊢; exact h
 |.bj e j,a0,a,h0,h=>by
  simp only[R]at h0 h ⊢
  obtain⟨l0,_,h2,_⟩:=h0
  obtain⟨l',h1,h3,h4⟩:=h
  exact⟨l',h1,R.ej ht hx h2 h3,h4⟩
 |.ref m c i j,a0,a,h0,h=>by
  grind[R]
 |.iD m c i j ln cp,a0,a,h0,h=>by
  grind[R]
 |.bh esz m c rg cap,a0,a,h0,h=>by
  grind[R]
 |.jd fn f c,a0,a,h0,h=>by
  simp only[R]at h0 h ⊢
  obtain⟨_,_,_,g1,g2⟩:=h0
  obtain⟨f',c',h1,h2,h3⟩:=h
  exact⟨f',c',h1,RL.ej ht hx g1 h2,RL.ej ht hx g2 h3⟩
 |.fW t v,a0,a,h0,h=>by
  simp only[R]at h0 h ⊢
  obtain⟨l0,_,h2⟩:=h0
  obtain⟨l',h1,h3⟩:=h
  exact⟨l',h1,R.ej ht hx h2 h3⟩
 |.mp y n,a0,a,h0,h=>by
  grind[R]
 |.ss v s l i,a0,a,h0,h=>by
  simp only[R]at h0 h ⊢
  obtain⟨b0,h2,_⟩:=h0
  obtain⟨b,h3,h4⟩:=h
  exact⟨b,R.ej ht hx h2 h3,h4⟩
theorem RL.ej(ht:∀ n c v0 aq,fU H0 n c v0→fU Hs n c aq→fU Hf n c aq)(hx:∀ (n:Nat) (o:aB T.den),H0[n]?=some (some o)→∃ o,Hf[n]?=some (some o)):∀ {l:List (SV T.den)} {m0 m:List AV},RL T H0 l m0→RL T Hs l m→RL T Hf l m
 |[],[],[],_,_=>by simp[RL]
 |x::xs,y0::V5,y::ys,h0,h=>by
  simp only[RL]at h0 h ⊢
  exact⟨R.ej ht hx h0.1 h.1,RL.ej ht hx h0.2 h.2⟩
 |[],_::_,_,h,_=>by simp[RL]at h
 |[],[],_::_,_,h=>by simp[RL]at h
 |_::_,[],_,h,_=>by simp[RL]at h
 |_::_,_::_,[],_,h=>by simp[RL]at h
end
end
theorem kG{Hs:ah T.den}:∀ {objs:List (Nat×cR)} {l:List (TV T.den)},kq Hs objs=some l→∀ q,q∈objs→∃ o ln,Hs[q.1]?=some (some o)∧eD Hs o q.2=some ln
 |[],_,_,q,hq=>by simp at hq
 |(n,p)::r,l,h,q,hq=>by
  simp only[kq]at h
  split at h
  case h_2=>simp at h
  rename_i o ho
  rw[Option.bind_eq_some_iff]at h
  obtain⟨ln,h1,h⟩:=h
  rw[Option.map_eq_some_iff]at h
  obtain⟨l2,h2,rfl⟩:=h
  rcases List.mem_cons.1 hq with rfl|hq
  ·exact⟨o,ln,ho,h1⟩
  ·exact kG h2 q hq
def Cl(p:cR)(c:Nat):Nat:=
 match p with
 |.list _=>c+1
 |_=>c
theorem H3(p:cR)(c:Nat):c≤Cl p c:=by cases p<;>simp[Cl]
theorem Pd{p:cR}(h:∀ t,p≠.list t)(c:Nat):Cl p c=c:=by
 cases p with
 |list t=>exact absurd rfl (h t)
 |_=>rfl
def Start(H:ah T.den)(o:aB T.den)(p:cR):Prop:=(∃ ln,eD H o p=some ln)∨(((∃ q,p=.one q)∨∃ ps,p=.agg ps)∧∃ g cl f c e,o=.arr g cl f c [e])
theorem Ez{Hs:ah T.den}{o:aB T.den}{p:cR}{ln:List (TV T.den)}(h:eD Hs o p=some ln):Compat (mR o p) p∧(mR o p).flags.1=o.flags.1∧(mR o p).flags.2.1=o.flags.2.1∧(mR o p).flags.2.2=o.flags.2.2 ∧
  (mR o p).cur=Cl p o.cur:=by
 cases p with
 |list t=>
  cases o with
  |arr g cl f c es=>
   cases cl with
   |true=>exact⟨⟨g,f,c+1,[],rfl⟩,rfl,rfl,rfl,rfl⟩
   |false=>cases h
  |ca g f c t' l=>exact⟨⟨g,f,c+1,[],rfl⟩,rfl,rfl,rfl,rfl⟩
  |_=>cases h
 |fix t=>
  cases o with
  |arr g cl f c es=>
   cases cl with
   |true=>exact⟨⟨g,f,c,[],rfl⟩,rfl,rfl,rfl,rfl⟩
   |false=>cases h
  |ca g f c t' l=>exact⟨⟨g,f,c,[],rfl⟩,rfl,rfl,rfl,rfl⟩
  |_=>cases h
 |one q=>
  cases o with
  |arr g cl f c es=>exact⟨⟨g,cl,f,c,es,rfl⟩,rfl,rfl,rfl,rfl⟩
  |_=>cases h
 |agg ps=>
  cases o with
  |arr g cl f c es=>exact⟨⟨g,cl,f,c,es,rfl⟩,rfl,rfl,rfl,rfl⟩
  |_=>cases h
 |map kk t=>
  obtain⟨m,rfl,rfl⟩:=um h
  exact⟨⟨[],rfl⟩,rfl,rfl,rfl,rfl⟩
theorem zg{Hs:ah T.den}{o:aB T.den}{p:cR}(h:Start Hs o p):Compat (mR o p) p∧(mR o p).flags.1=o.flags.1∧(mR o p).flags.2.1=o.flags.2.1∧(mR o p).flags.2.2=o.flags.2.2 ∧
  (mR o p).cur=Cl p o.cur:=by
 rcases h with ⟨ln,h⟩|⟨⟨q,rfl⟩|⟨ps,rfl⟩,g,cl,f,c,e,rfl⟩
 ·exact Ez h
 ·exact⟨⟨g,cl,f,c,[e],rfl⟩,rfl,rfl,rfl,rfl⟩
 ·exact⟨⟨g,cl,f,c,[e],rfl⟩,rfl,rfl,rfl,rfl⟩
theorem jb:∀ {ext:List pk} {n:Nat} {q:Nat×cR},q∈bc n ext→∃ i g f t,q=(n+i,.list t)∧ext[i]?=some (.list g f t)
 |[],_,q,h=>by simp[bc]at h
 |.ij::r,n,q,h=>by
  simp only[bc]at h
  obtain⟨i,g,f,t,rfl,h2⟩:=jb h
  exact⟨i+1,g,f,t,by rw[show n+1+i=n+(i+1) by omega],by simpa using h2⟩
 |.list g f t::r,n,q,h=>by
  simp only[bc]at h
  rcases List.mem_cons.1 h with rfl|h
  ·exact⟨0,g,f,t,rfl,rfl⟩
  ·obtain⟨i,g',f',t',rfl,h2⟩:=jb h
   exact⟨i+1,g',f',t',by rw[show n+1+i=n+(i+1) by omega],by simpa using h2⟩
theorem nt[ab]:∀ {ext:List pk} {n:Nat},c9 ((bc n ext).map (·.1))=true
 |[],_=>rfl
 |.ij::r,n=>by simp only[bc]; exact nt
 |.list g f t::r,n=>by
  simp only[bc,List.map_cons,c9,Bool.and_eq_true,Bool.not_eq_true',List.contains_eq_mem,decide_eq_false_iff_not]
  refine⟨fun h=>?_,nt⟩
  obtain⟨q,hq,e⟩:=List.mem_map.1 h
  obtain⟨i,_,_,_,rfl,_⟩:=jb hq
  simp only at e
  omega
theorem Ba[ab]:∀ {l m:List Nat},c9 l=true→c9 m=true→(∀ x,x∈l→x∉m)→c9 (l++m)=true
 |[],m,_,h,_=>h
 |x::l,m,h,h',hd=>by
  obtain⟨h1,h2⟩:=nodup_cons h
  simp only[List.cons_append,c9,Bool.and_eq_true,Bool.not_eq_true',List.contains_eq_mem,decide_eq_false_iff_not,List.mem_append,not_or]
  exact⟨⟨h1,hd x (by simp)⟩,Ba h2 h' fun y hy=>hd y (List.mem_cons_of_mem _ hy)⟩
theorem uo{H:ah T.den}:∀ {ext:List pk} {n i:Nat} {e:pk},DV H n ext=true→ext[i]?=some e→∃ o,H[n+i]?=some (some o)∧(match e with|.ij=>o.flags.2.1=true|.list g f _=>o.flags=(g,true,f))
 |[],_,i,e,_,h=>by simp at h
 |x::r,n,i,e,hx,h=>by
  simp only[DV,Bool.and_eq_true]at hx
  cases i with
  |zero=>
   grind
  |succ i=>
   simp only[List.getElem?_cons_succ]at h
   obtain⟨o,h1,h2⟩:=uo hx.2 h
   exact⟨o,by rw[show n+(i+1)=n+1+i by omega]; exact h1,h2⟩
theorem oT[ab]:∀ {ext:List pk} {n i:Nat},i<ext.length→(ext[i]?=some .ij∧n+i∉(bc n ext).map (·.1))∨∃ g f t,ext[i]?=some (.list g f t)∧(n+i,cR.list t)∈bc n ext
 |[],_,i,h=>by simp at h
 |.ij::r,n,i,h=>by
  cases i with
  |zero=>
   left
   refine⟨rfl,fun hc=>?_⟩
   obtain⟨q,hq,e⟩:=List.mem_map.1 hc
   simp only[bc]at hq
   obtain⟨j,_,_,_,rfl,_⟩:=jb hq
   simp only at e; omega
  |succ i=>
   rcases oT (n:=n+1) (i:=i) (by simpa using h) with ⟨h1,h2⟩|⟨g,f,t,h1,h2⟩
   ·grind[bc]
   ·grind[bc]
 |.list g f t::r,n,i,h=>by
  cases i with
  |zero=>grind[bc]
  |succ i=>
   rcases oT (n:=n+1) (i:=i) (by simpa using h) with ⟨h1,h2⟩|⟨g',f',t',h1,h2⟩
   ·left
    refine⟨by simpa using h1,?_⟩
    simp only[bc,List.map_cons,List.mem_cons,not_or]
    exact⟨by omega,by rw[show n+(i+1)=n+1+i by omega]; exact h2⟩
   ·grind[bc]
theorem Jj(hT:T.Ok){o:aB T.den}{H:ah T.den}{a:aJ}(h:RO T H o a)(hc:o.flags.2.1=true):(∃ g f es,a=.arr g true f es)∨∃ k vs,a=.gw k vs∧∀ n,cQ n vs=true:=by
 cases o with
 |arr g cl f c es=>
  obtain⟨es',rfl,_⟩:=h
  simp only[aB.flags]at hc
  subst hc
  exact .inl ⟨_,_,_,rfl⟩
 |ca g f c t l=>obtain⟨es',rfl,_⟩:=h; exact .inl ⟨_,_,_,rfl⟩
 |ij=>exact h
 |kz kk t m=>obtain⟨vs,rfl,h⟩:=h; exact .inr ⟨_,_,rfl,fun n=>zd hT h⟩
 |pg fn ps as bd fr=>simp[aB.flags]at hc
structure Jk(T:dm)(az:List (Nat×pj))(dead:List Nat)(objs:List (Nat×cR))(ext:List pk)(s0 s:bA T.den)(l:List (TV T.den)):Prop where
 SM:c9 (az.map (·.1))=true
 V6:c9 (objs.map (·.1))=true
 Mu:∀ d,d∈az.map (·.1)++dead→d<s0.n
 kA:sH s0.hp.length az (objs++bc s0.hp.length ext)=true
 fn:s.fn=s0.fn
 n:s.n=s0.n
 fr:∀ t,t∉az.map (·.1)++dead→cL s.fr t=cL s0.fr t
 hp:∀ n:Nat,n<s0.hp.length→n∉objs.map (·.1)→s.hp[n]?=s0.hp[n]?
 len:s.hp.length=s0.hp.length+ext.length
 flags:qU s0.hp s.hp objs=true
 cur:xu s0.hp s.hp objs=true
 RW:DV s.hp s0.hp.length ext=true
 RX:∀ q,q∈objs→∃ o,s0.hp[q.1]?=some (some o)∧Start s0.hp o q.2
 abs:vn az (objs++bc s0.hp.length ext) s=some l
theorem Cm{H H':ah T.den}{objs:List (Nat×cR)}(h:qU H H' objs=true){q:Nat×cR}(hq:q∈objs){o o':aB T.den}(h1:H[q.1]?=some (some o))(h2:H'[q.1]?=some (some o')):o.flags=o'.flags:=by
 have:=List.all_eq_true.1 h q hq
 simp only[h1,h2,decide_eq_true_eq]at this
 exact this
theorem GA{H H':ah T.den}{objs:List (Nat×cR)}(h:xu H H' objs=true){q:Nat×cR}(hq:q∈objs)(hl:∀ t,q.2≠.list t){o o':aB T.den}(h1:H[q.1]?=some (some o))(h2:H'[q.1]?=some (some o')):o.cur=o'.cur:=by
 have:=List.all_eq_true.1 h q hq
 split at this
 ·rename_i t e; exact absurd e (hl t)
 ·simp_all
theorem H4[ab](hT:T.Ok){az:List (Nat×pj)}{dead:List Nat}{objs:List (Nat×cR)}{ext:List pk}{s0 s:bA T.den}{l:List (TV T.den)}(ho:Jk T az dead objs ext s0 s l){st0 st:St}(h0:RS T s0 st0)(h:RS T s st):
  RS T { dc az dead objs ext s0 l with js:=s.js } st∧(dc az dead objs ext s0 l).hp.length=s.hp.length ∧
  (∀ n:Nat,n<s0.hp.length→n∉objs.map (·.1)→(dc az dead objs ext s0 l).hp[n]?=s0.hp[n]?) ∧
  (∀ t,t∉az.map (·.1)++dead→cL (dc az dead objs ext s0 l).fr t=cL s0.fr t) ∧
  (dc az dead objs ext s0 l).fn=s0.fn∧(dc az dead objs ext s0 l).n=s0.n ∧
  (∀ q,q∈objs→∃ o0 os of,s0.hp[q.1]?=some (some o0)∧s.hp[q.1]?=some (some os)∧(dc az dead objs ext s0 l).hp[q.1]?=some (some of)∧of.len=os.len∧of.cur=Cl q.2 o0.cur):=by
 have Qo:=ho.RX
 have bL:∀ n,n∈objs.map (·.1)→n<s0.hp.length:=by
  grind
 have N0:∀ n,n∈(bc s0.hp.length ext).map (·.1)→s0.hp.length≤n:=by
  intro n hn
  obtain⟨q,hq,rfl⟩:=List.mem_map.1 hn
  obtain⟨i,_,_,_,rfl,_⟩:=jb hq
  simp
 have AE:c9 ((objs++bc s0.hp.length ext).map (·.1))=true:=by
  rw[List.map_append]
  exact Ba ho.V6 nt fun x hx hc=>by have:=bL x hx; have:=N0 x hc; omega
 obtain⟨b1,b2,b3⟩:=sW (objs:=objs) (H:=s0.hp) ho.V6
 generalize JN:rL s0.hp objs++ext.map I7=H1
 have Mv:H1.length=s.hp.length:=by rw[←JN,ho.len]; simp[b1]
 have zh:∀ n:Nat,n<s0.hp.length→H1[n]?=(rL s0.hp objs)[n]?:=fun n hn=>by
  grind
 have Mw:∀ i:Nat,H1[s0.hp.length+i]?=(ext.map I7)[i]?:=fun i=>by
  grind
 have po:=ho.abs
 unfold vn at po
 rw[Option.bind_eq_some_iff]at po
 obtain⟨la,hla,po⟩:=po
 rw[Option.map_eq_some_iff]at po
 obtain⟨lb,P0,rfl⟩:=po
 have Sr:∀ q,q∈objs++bc s0.hp.length ext→∃ o,H1[q.1]?=some (some o)∧Compat o q.2:=by
  intro q hq
  rcases List.mem_append.1 hq with hq|hq
  ·obtain⟨o,h1,h2⟩:=Qo q hq
   exact⟨mR o q.2,by rw[zh _ (bL _ (List.mem_map_of_mem hq))]; exact b3 q hq o h1,(zg h2).1⟩
  ·obtain⟨i,g,f,t,rfl,h2⟩:=jb hq
   refine⟨.ca g f 0 t [],?_,⟨g,f,0,[],rfl⟩⟩
   simp only
   rw[Mw,List.getElem?_map,h2]
   rfl
 obtain⟨c1,c2,c3,c4⟩:=rQ hT (Hs:=s.hp) (H:=H1) [] AE P0 Sr
 simp only[List.append_nil]at c1 c2 c3 c4
 generalize hHf:gq H1 (objs++bc s0.hp.length ext) lb=Hf at c1 c2 c3 c4
 have hlen:Ew (fun n=>n<s0.hp.length∨n∈(objs++bc s0.hp.length ext).map (·.1)) s.hp Hf:=by
  intro n o hn QB
  by_cases hm:n∈(objs++bc s0.hp.length ext).map (·.1)
  ·grind
  ·have hn:n<s0.hp.length:=hn.resolve_right hm
   have Bu:n∉objs.map (·.1):=fun hc=>hm (by rw[List.map_append]; exact List.mem_append_left _ hc)
   refine⟨o,?_,rfl⟩
   rw[c2 n hm,zh n hn,b2 n Bu,←ho.hp n hn Bu]
   exact QB
 have Qp:=List.all_eq_true.1 ho.kA
 have XW:∀ q,q∈objs++bc s0.hp.length ext→∀ n,n∈q.2.kA→(n<s0.hp.length∨n∈(objs++bc s0.hp.length ext).map (·.1)):=by
  intro q hq n hn
  have:=Qp n (List.mem_append_right _ (List.mem_flatMap.2 ⟨q,hq,hn⟩))
  simp only[Bool.or_eq_true,List.contains_eq_mem,decide_eq_true_eq]at this
  refine this.imp (fun h=>?_) id
  have:=Nat.le_of_ble_eq_true h
  omega
 have XX:∀ q,q∈az→∀ n,n∈q.2.kA→(n<s0.hp.length∨n∈(objs++bc s0.hp.length ext).map (·.1)):=by
  intro q hq n hn
  have:=Qp n (List.mem_append_left _ (List.mem_flatMap.2 ⟨q,hq,hn⟩))
  simp only[Bool.or_eq_true,List.contains_eq_mem,decide_eq_true_eq]at this
  refine this.imp (fun h=>?_) id
  have:=Nat.le_of_ble_eq_true h
  omega
 have Pe:∀ q,q∈objs→∃ o0 os of,s0.hp[q.1]?=some (some o0)∧s.hp[q.1]?=some (some os)∧Hf[q.1]?=some (some of)∧of.len=os.len∧of.cur=Cl q.2 o0.cur ∧
   (∀ a,RO T s.hp os a→RO T Hf of a):=by
  intro q hq
  obtain⟨o0,h1,h2⟩:=Qo q hq
  obtain⟨o1,os,o',ln,Hc,Ey,d1,d2,d3,d4,d5,d6,d7,d8⟩:=c4 q (List.mem_append_left _ hq)
  have hb:=b3 q hq o0 h1
  rw[zh _ (bL _ (List.mem_map_of_mem hq)),hb]at d1
  simp only[Option.some.injEq]at d1
  subst d1
  obtain⟨e1,e2,e3,e4,e5⟩:=zg h2
  have IX:=Cm ho.flags hq h1 d2
  refine⟨o0,os,o',h1,d2,d6,d8,by rw[d7,e5],fun a ha=>?_⟩
  exact zf hT (fun n=>by rw[d4,c3]) hlen (XW q (List.mem_append_left _ hq)) e1 d3 d5 (by rw[e2,IX]) (by rw[e3,IX]) (by rw[e4,IX]) ha
 have Sp:∀ n c v0 aq,fU s0.hp n c v0→fU s.hp n c aq→fU Hf n c aq:=by
  intro n c v0 aq Kh hv
  have hn:=Kh.lt
  by_cases hm:n∈objs.map (·.1)
  ·obtain⟨q,hq,rfl⟩:=List.mem_map.1 hm
   obtain⟨o0,os,of,g1,g2,g3,g4,g5,_⟩:=Pe q hq
   obtain⟨o0',k1,k2,_⟩:=Kh
   rw[g1]at k1
   simp only[Option.some.injEq]at k1
   subst k1
   obtain⟨os',k3,k4,k5⟩:=hv
   rw[g2]at k3
   simp only[Option.some.injEq]at k3
   subst k3
   refine⟨of,g3,?_,fun e=>?_⟩
   ·have:=H3 q.2 o0.cur; omega
   ·by_cases hl:∃ t,q.2=.list t
    ·obtain⟨t,hl⟩:=hl
     rw[g5,hl]at e
     simp only[Cl]at e
     omega
    ·have hc:=GA ho.cur hq (fun t e=>hl ⟨t,e⟩) g1 g2
     have:of.cur=o0.cur:=by rw[g5,Pd (fun t e=>hl ⟨t,e⟩)]
     rw[g4]
     exact k5 (by omega)
  ·have Bu:n∉(objs++bc s0.hp.length ext).map (·.1):=by
    rw[List.map_append]
    intro hc
    rcases List.mem_append.1 hc with hc|hc
    ·exact hm hc
    ·have:=N0 n hc; omega
   obtain⟨os,k1,k2,k3⟩:=hv
   exact⟨os,by rw[c2 n Bu,zh n hn,b2 n hm,←ho.hp n hn hm]; exact k1,k2,k3⟩
 have Up:∀ n:Nat,n<s0.hp.length→n∉objs.map (·.1)→Hf[n]?=s0.hp[n]?:=by
  intro n hn hm
  have Bu:n∉(objs++bc s0.hp.length ext).map (·.1):=by
   rw[List.map_append]
   intro hc
   rcases List.mem_append.1 hc with hc|hc
   ·exact hm hc
   ·have:=N0 n hc; omega
  rw[c2 n Bu,zh n hn,b2 n hm]
 have hex:∀ (n:Nat) (o:aB T.den),s0.hp[n]?=some (some o)→∃ o,Hf[n]?=some (some o):=by
  intro n o Ah
  have hn:=(List.getElem?_eq_some_iff.1 Ah).1
  by_cases hm:n∈objs.map (·.1)
  ·obtain⟨q,hq,rfl⟩:=List.mem_map.1 hm
   obtain⟨_,_,of,_,_,g3,_⟩:=Pe q hq
   exact⟨of,g3⟩
  ·exact⟨o,by rw[Up n hn hm]; exact Ah⟩
 have OO:kT s.js Hf st.hp:=by
  intro n x hx
  obtain⟨h1,h2⟩:=h.js n x hx
  refine⟨?_,h2⟩
  obtain⟨o,IJ,uT⟩:∃ o,s.hp[n]?=some (some o)∧o.isRec=true:=by
   unfold recAt at h1
   split at h1
   ·rename_i o IJ; exact⟨o,IJ,h1⟩
   ·simp at h1
  by_cases hn:n<s0.hp.length
  ·by_cases hm:n∈objs.map (·.1)
   ·exfalso
    obtain⟨q,hq,rfl⟩:=List.mem_map.1 hm
    obtain⟨o1,os,o',ln,Hc,Ey,_,d2,d3,_⟩:=c4 q (List.mem_append_left _ hq)
    rw[IJ]at d2
    simp only[Option.some.injEq]at d2
    subst d2
    cases o<;>simp[aB.isRec]at uT
    cases VO:q.2<;>rw[VO]at d3<;>cases d3
   ·rw[qo (show Hf[n]?=s.hp[n]? by rw[Up n hn hm,ho.hp n hn hm])]
    exact h1
  ·exfalso
   have XL:=(List.getElem?_eq_some_iff.1 IJ).1
   have hi:n-s0.hp.length<ext.length:=by have:=ho.len; omega
   have Mt:s0.hp.length+(n-s0.hp.length)=n:=by omega
   obtain⟨e,he⟩:∃ e,ext[n-s0.hp.length]?=some e:=⟨_,List.getElem?_eq_getElem hi⟩
   obtain⟨o2,m1,m2⟩:=uo ho.RW he
   rw[Mt,IJ]at m1
   simp only[Option.some.injEq]at m1
   subst m1
   cases o<;>simp[aB.isRec]at uT
   cases e<;>simp[aB.flags]at m2
 have Pa:RH T Hf st.hp:=by
  have qB:Hf.length=st.hp.length:=by rw[c1,Mv]; exact h.hp.length
  refine aw.eu qB fun n x y hx hy=>?_
  obtain⟨xs,Aj,hr⟩:=aw.get' h.hp hy
  have XL:n<s.hp.length:=(List.getElem?_eq_some_iff.1 Aj).1
  by_cases hn:n<s0.hp.length
  ·by_cases hm:n∈objs.map (·.1)
   ·obtain⟨q,hq,rfl⟩:=List.mem_map.1 hm
    obtain⟨o0,os,of,g1,g2,g3,g4,g5,g6⟩:=Pe q hq
    rw[g3]at hx
    rw[g2]at Aj
    simp only[Option.some.injEq]at hx Aj
    subst hx; subst Aj
    cases y with
    |none=>exact hr.elim
    |some a=>exact g6 a hr
   ·have Bu:n∉(objs++bc s0.hp.length ext).map (·.1):=by
     rw[List.map_append]
     intro hc
     rcases List.mem_append.1 hc with hc|hc
     ·exact hm hc
     ·have:=N0 n hc; omega
    rw[c2 n Bu,zh n hn,b2 n hm,←ho.hp n hn hm,Aj]at hx
    simp only[Option.some.injEq]at hx
    subst hx
    have E8:s0.hp[n]?=some xs:=by rw[←ho.hp n hn hm]; exact Aj
    obtain⟨y0,_,CQ⟩:=aw.get h0.hp E8
    cases xs with
    |none=>cases y with
     |none=>trivial
     |some a=>exact hr.elim
    |some o=>cases y with
     |none=>exact hr.elim
     |some a=>
      cases y0 with
      |none=>exact CQ.elim
      |some a0=>
       cases o with
       |arr g cl f c es=>
        obtain⟨es',e1,e2,e3⟩:=hr
        obtain⟨XT,_,e5,_⟩:=CQ
        exact⟨es',e1,RL.ej Sp hex e5 e2,e3⟩
       |ca g f c t l=>exact hr
       |ij=>exact hr
       |kz kk t m=>exact hr
       |pg fn ps as bd fr=>
        obtain⟨st,vs,e1,e2⟩:=hr
        obtain⟨st0,vs0,_,e5⟩:=CQ
        refine⟨st,vs,e1,aw.eu e2.length fun i x y hx hy=>?_⟩
        obtain⟨y',BA,kL⟩:=aw.get e2 hx
        rw[hy]at BA
        simp only[Option.some.injEq]at BA
        subst BA
        obtain⟨y0,VL,RY⟩:=aw.get e5 hx
        rcases kL with kL|kL
        ·exact .inl kL
        ·rcases RY with ⟨rfl,_⟩|RY
         ·simp[R]at kL
         ·exact .inr (R.ej Sp hex RY kL)
  ·have hi:n-s0.hp.length<ext.length:=by have:=ho.len; omega
   have Mt:n=s0.hp.length+(n-s0.hp.length):=by omega
   rcases oT (n:=s0.hp.length) hi with ⟨k1,k2⟩|⟨g,f,t,k1,k2⟩
   ·rw[←Mt]at k2
    have Bu:n∉(objs++bc s0.hp.length ext).map (·.1):=by
     rw[List.map_append]
     intro hc
     rcases List.mem_append.1 hc with hc|hc
     ·exact hn (bL n hc)
     ·exact k2 hc
    rw[c2 n Bu,Mt,Mw,List.getElem?_map,k1]at hx
    simp only[Option.map_some,I7,Option.some.injEq]at hx
    subst hx
    obtain⟨o,m1,m2⟩:=uo ho.RW k1
    rw[←Mt,Aj]at m1
    simp only[Option.some.injEq]at m1
    subst m1
    cases y with
    |none=>exact hr.elim
    |some a=>exact Jj hT hr m2
   ·obtain⟨o1,os,o',ln,Hc,Ey,d1,d2,d3,d4,d5,d6,d7,d8⟩:=c4 _ (List.mem_append_right _ k2)
    simp only at d1 d2 d3 d5 d6
    rw[←Mt]at d2 d6
    rw[d6]at hx
    rw[d2]at Aj
    simp only[Option.some.injEq]at hx Aj
    subst hx; subst Aj
    rw[Mw,List.getElem?_map,k1]at d1
    simp only[Option.map_some,I7,Option.some.injEq]at d1
    subst d1
    obtain⟨o,m1,m2⟩:=uo ho.RW k1
    rw[←Mt,d2]at m1
    simp only[Option.some.injEq]at m1
    subst m1
    simp only at m2
    cases y with
    |none=>exact hr.elim
    |some a=>
     exact zf hT (fun n=>by rw[d4,c3]) hlen (by intro n hn; simp[cR.kA]at hn) (show Compat (.ca g f 0 t []) (.list t) from ⟨g,f,0,[],rfl⟩) d3 d5 (by rw[m2]; rfl) (by rw[m2]; rfl) (by rw[m2]; rfl) hr
 obtain⟨zJ,f1,f2,f3⟩:=qu hT (Hc:=H1) (Hf:=Hf) (fun n=>by rw[c3]) hlen (N:=s0.n) (frs:=s.fr) (ast:=fun t=>st.fr.getD t .undef) h.fr (fr:=AQ s0.n s0.fr dead) lb ho.SM
  (fun q hq=>⟨ho.Mu _ (List.mem_append_left _ (List.mem_map_of_mem hq)),XX q hq⟩) hla
 have Uq:dc az dead objs ext s0 (la++lb)={ s0 with fr:=zJ,hp:=Hf }:=by
  unfold dc
  rw[JN,f1]
  simp only[hHf]
 have Cn:∀ t,t∉az.map (·.1)++dead→cL zJ t=cL s0.fr t:=by
  intro t ht
  simp only[List.mem_append,not_or]at ht
  rw[f2 t ht.1,vE,if_neg (fun hc=>ht.2 hc.1)]
 rw[Uq]
 refine⟨⟨?_,?_,fun t=>?_,Pa,OO⟩,by rw[c1,Mv],fun n hn hm=>?_,Cn,rfl,rfl,fun q hq=>?_⟩
 ·show s0.fn=st.fn
  rw[←ho.fn]; exact h.fn
 ·show st.fr.length=s0.n
  rw[←ho.n]; exact h.n
 ·simp only
  by_cases ht:t∈az.map (·.1)
  ·obtain⟨q,hq,rfl⟩:=List.mem_map.1 ht
   exact .inr (f3 q hq)
  ·by_cases hd:t∈dead
   ·left
    rw[f2 t ht,vE,if_pos ⟨hd,ho.Mu _ (List.mem_append_right _ hd)⟩]
   ·have hnt:t∉az.map (·.1)++dead:=by simp only[List.mem_append,not_or]; exact⟨ht,hd⟩
    rw[Cn t hnt]
    have e1:=h.fr t
    rw[ho.fr t hnt]at e1
    rcases e1 with e1|e1
    ·exact .inl e1
    ·rcases h0.fr t with e0|e0
     ·exact .inl e0
     ·exact .inr (R.ej Sp hex e0 e1)
 ·simp only
  have Bu:n∉(objs++bc s0.hp.length ext).map (·.1):=by
   rw[List.map_append]
   intro hc
   rcases List.mem_append.1 hc with hc|hc
   ·exact hm hc
   ·have:=N0 n hc; omega
  rw[c2 n Bu,zh n hn,b2 n hm]
 ·obtain⟨o0,os,of,g1,g2,g3,g4,g5,_⟩:=Pe q hq
  exact⟨o0,os,of,g1,g2,g3,g4,g5⟩
end Go.PI
end
section
/- PS, part P: the trees tell the truth. -/
namespace Go.PI
structure oF.Ok[ab](S:oF):Prop where
 T:S.T.Ok
 Q:S.Q.Ok
 Z:S.T.uh S.Q
 sum:∀ g σ,S.sum g=some σ→qn S.C S.T g σ
 own:∀ g σ,S.own g=some σ→A4 S.C S.T g σ
def EA(T:dm):ph T.den→Out→Prop
 |.norm s,o=>∃ st,o=.norm st∧RS T s st
 |.exit id s,o=>∃ st,o=.exit id st∧RS T s st
 |.ret s,o=>∃ st,o=.ret st∧RS T s st
def ph.st{den:Nat→Type}:ph den→bA den
 |.norm s=>s
 |.exit _ s=>s
 |.ret s=>s
structure oU[ab](S:oF)(k:Nat):Prop where
 f:∀ (ρ:Type) (f:FuncId) (args:List (SV S.T.den)) (hp:ah S.T.den) (wh:List Nat) (js:List (Nat×lz)) (K:SV S.T.den→ah S.T.den→List Nat→List (Nat×lz)→Tr ρ) (r:ρ) (as:List AV) (Pf:ag),RL S.T hp args as→RH S.T hp Pf→kT js hp Pf →
  (Qb S k ρ f args hp wh js K).run=some r→∃ v cr pe rf a eY,iv S.C f as Pf=some (.val a,eY)∧R S.T cr v a∧RH S.T cr eY∧kT rf cr eY∧dy hp cr∧hp.length≤cr.length ∧
    (∀ n:Nat,n<hp.length→n∉pe→cr[n]?=hp[n]?)∧(∀ n,n∈wh→n∈pe)∧(K v cr pe rf).run=some r
 c:∀ (ρ:Type) (c:Code) (s:bA S.T.den) (K:ph S.T.den→Tr ρ) (r:ρ) (st:St),RS S.T s st→(xa S k ρ c s K).run=some r →
  ∃ so o,cS S.C c st=some o∧EA S.T so o∧bm s so.st∧(K so).run=some r
 o:∀ (ρ:Type) (o:Oper) (s:bA S.T.den) (K:bA S.T.den→Tr ρ) (r:ρ) (st:St),RS S.T s st→(OX S k ρ o s K).run=some r →
  ∃ s' st',hY S.C o st=some (.norm st')∧RS S.T s' st'∧bm s s'∧(K s').run=some r
section
variable {T:dm}{ρ:Type}
theorem qv[ab](hT:T.Ok){s:bA T.den}{st:St}(h:RS T s st){v:SV T.den}{a:AV}{cr:ah T.den}{eY:ag}{pe:List Nat}{rf:List (Nat×lz)}(g2:R T cr v a)(g3:RH T cr eY)(g4:dy s.hp cr)(g5:s.hp.length≤cr.length)
  (g6:∀ n:Nat,n<s.hp.length→n∉pe→cr[n]?=s.hp[n]?) (g7:∀ n,n∈s.wh→n∈pe) (hj:kT rf cr eY) (hb:sK rf s.hp.length=true) :
  RS T ⟨s.fn,s.n,s.fr,gp s.hp.length v cr,s.wf,pe,rf⟩ ⟨st.fn,st.fr,gX s.hp.length a eY⟩∧bm s ⟨s.fn,s.n,s.fr,gp s.hp.length v cr,s.wf,pe,rf⟩∧R T (gp s.hp.length v cr) v a:=by
 obtain⟨t1,t2⟩:=Jh (n:=s.hp.length) hT g3 g2
 have Ap:dy s.hp (gp s.hp.length v cr):=by
  unfold gp
  split
  ·intro n o ho
   obtain⟨o',h1,h2⟩:=g4 n o ho
   exact⟨o',by rw[nq (List.getElem?_eq_some_iff.1 ho).1]; exact h1,h2⟩
  ·exact g4
 have Ur:∀ n:Nat,n<s.hp.length→n∉pe→(gp s.hp.length v cr)[n]?=s.hp[n]?:=by
  grind[gp]
 have hlen:s.hp.length≤(gp s.hp.length v cr).length:=by
  grind[gp]
 have OO:kT rf (gp s.hp.length v cr) (gX s.hp.length a eY):=by
  unfold gp gX
  rw[R.below g2,lF hT (aw.take g3 _)]
  split
  ·exact hj.take (A9 hb)
  ·exact hj
 exact⟨⟨h.fn,h.n,fun t=>(h.fr t).mono Ap,t1,OO⟩,⟨rfl,rfl,fun _ _=>rfl,fun _ h=>h,Ur,g7,hlen,Ap⟩,t2⟩
theorem zi[ab]{H H':ah T.den}{esz j nm:Nat}{e e':SV T.den}{a:AV}(hr:R T H e a)(hx:∀ {v:SV T.den} {b:AV},R T H v b→R T H' v b)(hn:R T H' (.bh esz nm 0 none none) (.bh esz nm 0 0 0 none))(h:qe esz j nm e=some e'):
  ∃ a',kX esz j nm a=some a'∧R T H' e' a':=by
 unfold qe at h
 split at h
 ·rename_i l
  split at h
  case h_2=>simp at h
  rename_i hl
  simp only[Option.some.injEq]at h
  subst h
  simp only[R]at hr
  obtain⟨l',rfl,je⟩:=hr
  obtain⟨b,hb,SK⟩:=aw.get (aR.1 je) hl
  simp only[R]at SK
  subst SK
  refine⟨.agg (l'.set j (.bh esz nm 0 0 0 none)),by simp only[kX,hb],?_⟩
  simp only[R]
  exact⟨_,rfl,aR.2 (((aR.1 je).mono fun _ _ h=>hx h).set j hn)⟩
 ·split at h
  case isFalse=>simp at h
  rename_i hj
  simp only[Option.some.injEq]at h
  subst h
  simp only[R]at hr
  subst hr
  exact⟨_,by simp only[kX]; rw[if_pos hj],hn⟩
 ·simp at h
theorem Us[ab]{H:ah T.den}:RO T H (.arr true true false 0 []) (.arr true true false []):=⟨[],rfl,by simp[RL],fun _=>rfl⟩
theorem Mx{H:ah T.den}{esz nm:Nat}{g cl f:Bool}(h:H[nm]?=some (some (.arr g cl f 0 []))):R T H (.bh esz nm 0 none none) (.bh esz nm 0 0 0 none):=by
 simp only[R]
 exact⟨0,⟨_,h,Nat.le_refl _,fun _=>rfl⟩,rfl⟩
theorem H5[ab](hT:T.Ok){d:Tmp}{r:ρ}{K:bA T.den→Tr ρ}:∀ {l:List (Nat×Nat)} {s:bA T.den} {st:St},RS T s st→(I9 d l s K).run=some r→∃ s',RS T s' (JY d l st)∧bm s s'∧(K s').run=some r
 |[],s,st,h,hk=>⟨s,h,bm.refl _,hk⟩
 |(j,esz)::l,s,st,h,hk=>by
  have hlen:=h.hp.length
  unfold I9 at hk
  have hd:=h.fr d
  have Gs:∀ {s':bA T.den},RS T s' (pC d st j esz)→bm s s'→(I9 d l s' K).run=some r→∃ s',RS T s' (JY d ((j,esz)::l) st)∧bm s s'∧(K s').run=some r:=by
   intro s' h1 h2 h3
   obtain⟨s2,i1,i2,i3⟩:=H5 hT h1 h3
   exact⟨s2,i1,h2.trans i2,i3⟩
  split at hk
  ·rename_i n c i k he
   rw[he]at hd
   have hd:=hd.live rfl
   simp only[R]at hd
   obtain⟨aq,hd,cf⟩:=hd
   have eX:st.fr[d]?=some (.ref n aq i k):=by
    grind
   split at hk
   case h_2=>simp[Tr.run]at hk
   rename_i g cl f cur es ho
   obtain⟨ao,db,dJ⟩:=h.hp.obj ho
   obtain⟨es',rfl,cF,kM⟩:=dJ
   split at hk
   case h_2=>simp[Tr.run]at hk
   rename_i e' Hh
   obtain⟨e,Nv,yj⟩:=Option.bind_eq_some_iff.1 Hh
   obtain⟨ea,Ut,Fa⟩:=aw.get (aR.1 cF) Nv
   have hn:=(List.getElem?_eq_some_iff.1 ho).1
   have pI:=h.hp.new (nm:=s.hp.length) (o':=.arr true true false 0 []) (a':=.arr true true false []) (.inl rfl) Us
   have e1:bM s.hp s.hp.length (.arr true true false 0 [])=s.hp++[some (.arr true true false 0 [])]:=by simp[bM]
   have e2:setObj st.hp s.hp.length (.arr true true false [])=st.hp++[some (.arr true true false [])]:=by simp[setObj,hlen]
   rw[e1,e2]at pI
   obtain⟨Ql,wR⟩:=pI
   have kx:R T (s.hp++[some (.arr true true false 0 [])]) (.bh esz s.hp.length 0 none none) (.bh esz s.hp.length 0 0 0 none):=Mx (g:=true) (cl:=true) (f:=false) (by simp)
   obtain⟨Qq,h5,h6⟩:=zi Fa (fun h=>h.mono Ql) kx yj
   have uT:(s.hp++[some (aB.arr true true false 0 [])])[n]?=some (some (.arr g cl f cur es)):=by rw[List.getElem?_append_left hn]; exact ho
   have du:RL T (s.hp++[some (.arr true true false 0 [])]) (es.set i e') (es'.set i Qq):=aR.2 (((aR.1 cF).mono fun _ _ h=>h.mono Ql).set i h6)
   obtain⟨hg2,BU⟩:=wR.SC uT (o':=.arr g false f cur (es.set i e')) (a':=.arr g false f (es'.set i Qq)) (Nat.le_refl _) (fun _=>by simp[aB.len]) ⟨_,rfl,du,fun hc=>by simp at hc⟩
   have w1:aP s.hp [(n,.arr g false f cur (es.set i e')),(s.hp.length,.arr true true false 0 [])]=(s.hp++[some (aB.arr true true false 0 [])]).set n (some (aB.arr g false f cur (es.set i e'))):=by
    have q1:bM s.hp n (.arr g false f cur (es.set i e'))=s.hp.set n (some (.arr g false f cur (es.set i e'))):=by unfold bM; rw[if_neg (by omega)]
    have q2:∀ (L:ah T.den) (o:aB T.den),L.length=s.hp.length→bM L s.hp.length o=L++[some o]:=fun L o hL=>by unfold bM; rw[if_pos hL.symm]
    simp only[aP]
    rw[q1,q2 _ _ (by simp),List.set_append_left _ _ hn]
   have w2:ai st.hp [(n,.arr g false f (es'.set i Qq)),(s.hp.length,.arr true true false [])]=(st.hp++[some (aJ.arr true true false [])]).set n (some (aJ.arr g false f (es'.set i Qq))):=by
    have q1:setObj st.hp n (.arr g false f (es'.set i Qq))=st.hp.set n (some (.arr g false f (es'.set i Qq))):=by unfold setObj; rw[if_neg (by omega)]
    have q2:∀ (L:ag) (o:aJ),L.length=s.hp.length→setObj L s.hp.length o=L++[some o]:=fun L o hL=>by unfold setObj; rw[if_pos hL.symm]
    simp only[ai]
    rw[q1,q2 _ _ (by simp[hlen]),List.set_append_left _ _ (by omega)]
   rw[cG]at hk
   have XY:RE T s.hp st.hp (.lit undef) [(n,.arr g false f cur (es.set i e')),(s.hp.length,.arr true true false 0 [])] ⟨.undef,[(n,.arr g false f (es'.set i Qq)),(s.hp.length,.arr true true false [])]⟩:=by
    refine⟨bk undef,by rw[w1,w2]; exact BU,by rw[w1]; exact Ql.trans hg2,fun q hq=>?_,fun m hm hl=>?_,by rw[w1]; simp,fun m hm hc=>?_⟩
    ·grind
    ·grind
    ·simp at hc
     rcases hc with rfl|rfl
     ·simp[recAt,ho,aB.isRec]at hm
     ·have:=jD hm; omega
   obtain⟨g8,g9⟩:=h.step XY none
   refine Gs (s':=s.step none (.lit undef) _) ?_ g9 hk
   have:pC d st j esz={ st with fr:=bD st.fr none AV.undef,hp:=ai st.hp [(n,.arr g false f (es'.set i Qq)),(s.hp.length,.arr true true false [])] }:=by
    unfold pC
    rw[hlen]at h5
    simp only[eX,db,Ut,Option.bind_some,h5,bD]
    rw[w2,List.set_append_left _ _ (by omega)]
   rw[this]
   exact g8
  ·rename_i dA
   split at hk
   case h_2=>simp[Tr.run]at hk
   rename_i v' kj
   have Uu:bQ (cL s.fr d)=false:=by
    cases hq:cL s.fr d<;>first|rfl|(rw[hq]at kj; simp[qe]at kj)
   have hd:=hd.live Uu
   have pI:=h.hp.new (nm:=s.hp.length) (o':=.arr true true false 0 []) (a':=.arr true true false []) (.inl rfl) Us
   have e1:bM s.hp s.hp.length (.arr true true false 0 [])=s.hp++[some (.arr true true false 0 [])]:=by simp[bM]
   have e2:setObj st.hp s.hp.length (.arr true true false [])=st.hp++[some (.arr true true false [])]:=by simp[setObj,hlen]
   have aag:=pI
   rw[e1,e2]at pI
   obtain⟨Ql,wR⟩:=pI
   have kx:R T (s.hp++[some (.arr true true false 0 [])]) (.bh esz s.hp.length 0 none none) (.bh esz s.hp.length 0 0 0 none):=Mx (g:=true) (cl:=true) (f:=false) (by simp)
   obtain⟨a',h5,h6⟩:=zi hd (fun h=>h.mono Ql) kx kj
   have eX:st.fr[d]?=some (st.fr.getD d .undef):=by
    rw[List.getD_eq_getElem?_getD]at h5 ⊢
    cases hq:st.fr[d]? with
    |none=>simp_all[kX,AV.undef,Go.undef]
    |some x=>rfl
   have Uv:∀ n aq i k,st.fr.getD d .undef≠.ref n aq i k:=by
    intro n aq i k e
    rw[e]at h5
    simp[kX]at h5
   rw[cG]at hk
   have XY:RE T s.hp st.hp v' [(s.hp.length,.arr true true false 0 [])] ⟨a',[(st.hp.length,.arr true true false [])]⟩:=by
    have w1:aP s.hp [(s.hp.length,.arr true true false 0 [])]=s.hp++[some (.arr true true false 0 [])]:=e1
    have w2:ai st.hp [(st.hp.length,.arr true true false [])]=st.hp++[some (.arr true true false [])]:=by simp[ai,setObj]
    refine⟨.inr (by rw[w1]; exact h6),by rw[w1,w2]; exact wR,by rw[w1]; exact Ql,fun q hq=>by simp at hq; subst hq; simp[hlen],fun m hm hl=>?_,by rw[w1]; simp,fun m hm hc=>?_⟩
    ·rw[w1,List.getElem?_append_left hl]
    ·simp at hc
     have:=jD hm; omega
   obtain⟨g8,g9⟩:=h.step XY (some d)
   refine Gs (s':=s.step (some d) v' _) ?_ g9 hk
   have:pC d st j esz={ st with fr:=bD st.fr (some d) a',hp:=ai st.hp [(st.hp.length,.arr true true false [])] }:=by
    unfold pC
    rw[eX]
    rw[hlen]at h5
    split
    ·rename_i n aq i k he
     exact absurd (Option.some.inj he) (Uv n aq i k)
    ·rename_i e _ he
     have he:=Option.some.inj he
     rw[←he,h5]
     simp only[bD,ai,setObj,if_true]
    ·rename_i he; cases he
   rw[this]
   exact g8
theorem My[ab](hT:T.Ok){l:Tmp→List (Nat×Nat)}{dst:Option Tmp}{r:ρ}{K:bA T.den→Tr ρ}{s:bA T.den}{st:St}(h:RS T s st)(hk:(DW l dst s K).run=some r):∃ s',RS T s' (CE l dst st)∧bm s s'∧(K s').run=some r:=by
 cases dst with
 |none=>exact⟨s,h,bm.refl _,hk⟩
 |some d=>exact H5 hT h hk
theorem GB{js:List (Nat×lz)}{n m:Nat}{y:lz}:cq (Cd js n y) m=if m=n then (cq js n).map (fun _=>y) else cq js m:=by
 induction js with
 |nil=>simp[Cd,cq]
 |cons q r ih=>
  obtain⟨k,x⟩:=q
  simp only[Cd,List.map_cons]at ih ⊢
  cases hk:Nat.beq k n with
  |true=>
   have:=Nat.eq_of_beq_eq_true hk
   subst this
   simp only[cq]
   by_cases hm:m=k
   ·subst hm; simp
   ·have:Nat.beq k m=false:=by cases hb:Nat.beq k m; rfl; exact absurd (Nat.eq_of_beq_eq_true hb).symm hm
    rw[this,if_neg hm]
    simp only
    rw[ih,if_neg hm]
  |false=>
   simp only[cq,hk]
   by_cases hm:m=n
   ·simp_all
   ·simp_all
theorem EB{js:List (Nat×lz)}{n m:Nat}:cq (DY js n) m=if m=n then none else cq js m:=by
 induction js with
 |nil=>simp[DY,cq]
 |cons q r ih=>
  obtain⟨k,x⟩:=q
  simp only[DY,List.filter_cons]at ih ⊢
  cases hk:Nat.beq k n with
  |true=>
   have:=Nat.eq_of_beq_eq_true hk
   subst this
   simp only[Bool.not_true,Bool.false_eq_true,if_false,ih,cq]
   by_cases hm:m=k
   ·simp[hm]
   ·have:Nat.beq k m=false:=by cases hb:Nat.beq k m; rfl; exact absurd (Nat.eq_of_beq_eq_true hb).symm hm
    rw[this,if_neg hm]
  |false=>
   grind[cq]
theorem H6[ab]{H:ah T.den}{hp:ag}{js:List (Nat×lz)}(hh:RH T H hp)(hj:kT js H hp){n:Nat}{x:lz}(hn:cq js n=some x)(y:lz):RH T H (oY hp n y)∧kT (Cd js n y) H (oY hp n y):=by
 obtain⟨h1,h2⟩:=hj n x hn
 obtain⟨fn,ps,as,bd,fr,hr⟩:=iR h2
 have bL:=(List.getElem?_eq_some_iff.1 hr).1
 have e:oY hp n y=hp.set n (some (.gw (.loop fn ps as bd y) fr)):=by unfold oY; rw[hr]
 rw[e]
 obtain⟨o,ho,V7⟩:∃ o,H[n]?=some (some o)∧o.isRec=true:=by
  grind[recAt]
 obtain⟨a,ha,dJ⟩:=hh.obj ho
 rw[hr]at ha
 simp only[Option.some.injEq]at ha
 subst ha
 cases o<;>simp[aB.isRec]at V7
 rename_i Oj XZ ou X0 zJ
 obtain⟨st,vs,he,mv⟩:=dJ
 cases he
 have du:RH T H (hp.set n (some (.gw (.loop fn ps as bd y) fr))):=by
  have:=aw.set hh n (x:=some (.pg fn ps as bd zJ)) (y:=some (aJ.gw (.loop fn ps as bd y) fr)) ⟨y,fr,rfl,mv⟩
  rwa [ie ho]at this
 refine⟨du,fun m z hm=>?_⟩
 rw[GB]at hm
 split at hm
 ·simp_all[iu]
 ·rename_i dA
  obtain⟨h3,h4⟩:=hj m z hm
  exact⟨h3,by rw[oa (List.getElem?_set_ne (Ne.symm dA))]; exact h4⟩
theorem EC{den:Nat→Type}{u:List Nat}{fr:tb den}:∀ {l:List Nat} {i:Nat},(w9 u fr l)[i]?=(l[i]?).map fun d=>if u.contains d then cL fr d else .dead
 |[],i=>by simp[w9]
 |d::r,0=>by simp only[w9,List.getElem?_cons_zero,Option.map_some]; cases u.contains d<;>rfl
 |d::r,i+1=>by simp only[w9,List.getElem?_cons_succ]; exact EC
theorem ED{den:Nat→Type}{u:List Nat}{fr:tb den}:∀ {l:List Nat},(w9 u fr l).length=l.length
 |[]=>rfl
 |d::r=>by simp only[w9,List.length_cons,ED]
theorem Bb{u:List Nat}:∀ {fr:List AV} {i j:Nat},(nB u i fr)[j]?=(fr[j]?).map fun x=>if u.contains (i+j) then x else .any
 |[],i,j=>by simp[nB]
 |x::xs,i,0=>by simp[nB]
 |x::xs,i,j+1=>by
  simp only[nB,List.getElem?_cons_succ]
  rw[Bb,show i+1+j=i+(j+1) by omega]
theorem Bc{u:List Nat}:∀ {fr:List AV} {i:Nat},(nB u i fr).length=fr.length
 |[],_=>rfl
 |x::xs,i=>by simp only[nB,List.length_cons,Bc]
theorem Jl[ab]{s:bA T.den}{st:St}(h:RS T s st){as bd:Code}(hd:(c7 as++c7 bd).all (fun d=>!bQ (cL s.fr d)||!Nat.blt d s.n)=true):
  aw (RD T s.hp) (w9 (c7 as++c7 bd) s.fr (List.range s.n)) (uz as bd st.fr):=by
 unfold uz
 refine aw.eu (by rw[ED,Bc,List.length_range,h.n]) fun i x y hx hy=>?_
 rw[EC,Option.map_eq_some_iff]at hx
 rw[Bb,Option.map_eq_some_iff]at hy
 obtain⟨d,PV,rfl⟩:=hx
 obtain⟨a,ha,rfl⟩:=hy
 obtain⟨hi,rfl⟩:i<s.n∧i=d:=by
  grind
 rw[Nat.zero_add]
 cases hc:(c7 as++c7 bd).contains i with
 |false=>exact .inl ⟨rfl,rfl⟩
 |true=>
  right
  simp only[if_true]
  have hm:i∈c7 as++c7 bd:=by simpa using hc
  have:=List.all_eq_true.1 hd i hm
  have hb:Nat.blt i s.n=true:=Nat.ble_eq_true_of_le hi
  rw[hb]at this
  simp only[Bool.not_true,Bool.or_false,Bool.not_eq_true']at this
  have hv:=(h.fr i).live this
  rw[List.getD_eq_getElem?_getD,ha]at hv
  exact hv
theorem Bd[ab]{H:ah T.den}:∀ {ps:List Tmp} {xs:List (SV T.den)} {as:List AV} {n:Nat} {fr:tb T.den} {fa:List AV},fa.length=n→(∀ t,RV T H (cL fr t) (fa.getD t .undef))→RL T H xs as →
  (fO fa ps as).length=n∧∀ t,RV T H (cL (mi n fr ps xs) t) ((fO fa ps as).getD t .undef)
 |[],xs,as,n,fr,fa,hl,h,_=>by simpa[fO,mi] using ⟨hl,h⟩
 |p::ps,[],[],n,fr,fa,hl,h,_=>by simpa[fO,mi] using ⟨hl,h⟩
 |p::ps,x::xs,a::as,n,fr,fa,hl,h,hx=>by
  simp only[RL]at hx
  simp only[fO,mi]
  refine Bd (by simp[hl]) (fun t=>?_) hx.2
  rw[kF,En,hl]
  split
  ·exact .inr hx.1
  ·exact h t
 |p::ps,[],_::_,_,_,_,_,_,h=>by simp[RL]at h
 |p::ps,_::_,[],_,_,_,_,_,h=>by simp[RL]at h
noncomputable def Mz(n:Nat)(dst:Option Tmp)(st:St):Out→Option Out
 |.norm s2=>xD n dst st true .ready s2.hp
 |.exit id s2=>xD n dst st false (.jump (some id)) s2.hp
 |.ret s2=>xD n dst st false (.jump none) s2.hp
 |_=>none
theorem Co[ab](hT:T.Ok){s s2:bA T.den}{st Pc:St}(h:RS T s st)(h2:RS T s2 Pc)(hg:dy s.hp s2.hp)(hl:s.hp.length≤s2.hp.length)(hk:∀ n:Nat,n<s.hp.length→n∉s2.wh→s2.hp[n]?=s.hp[n]?)(hw:∀ n,n∈s.wh→n∈s2.wh)
  {n:Nat} {dst:Option Tmp} {b:Bool} {x:lz} {K:bA T.den→Tr ρ} {r:ρ} (hr:(L3 s n dst b x s2 K).run=some r) :
  ∃ s' st',xD n dst st b x Pc.hp=some (.norm st')∧RS T s' st'∧bm s s'∧(K s').run=some r:=by
 unfold L3 at hr
 split at hr
 case h_2=>simp[Tr.run]at hr
 rename_i hb
 split at hr
 case h_2=>simp[Tr.run]at hr
 rename_i Cp
 rw[kf,cG]at hr
 obtain⟨_,Uw⟩:=h2.js n _ hb
 obtain⟨r1,r2⟩:=H6 h2.hp h2.js hb x
 have Ux:sK (Cd s2.js n x) s.hp.length=true:=by
  refine List.all_eq_true.2 fun q hq=>?_
  obtain⟨q0,Xc,e⟩:=List.mem_map.1 hq
  have:=List.all_eq_true.1 Cp q0 Xc
  split at e<;>(subst e; exact this)
 obtain⟨g1,g2,g3⟩:=qv hT h (v:=.lit (.bool b)) (a:=.lit (.bool b)) (by simp[R]) r1 hg hl hk hw r2 Ux
 obtain⟨g8,g9⟩:=g1.step (v:=.lit (.bool b)) (wr:=[]) (e:=⟨.lit (.bool b),[]⟩) ⟨bk _,g1.hp,dy.refl _,fun q hq=>by simp at hq,fun _ _ _=>rfl,Nat.le_refl _,fun _ _ h=>by simp at h⟩ dst
 refine⟨_,_,?_,g8,g2.trans g9,hr⟩
 unfold xD
 rw[Uw,h.hp.length]
 rfl
end
def GC{den:Nat→Type}(H H':ah den):Prop:=∀ n:Nat,n<H.length→∀ o':aB den,H'[n]?=some (some o')→∃ o:aB den,H[n]?=some (some o)∧o.cur=o'.cur∧o.len=o'.len
theorem R.back[ab]{T:dm}{H H':ah T.den}(hb:GC H H'){v:SV T.den}{a:AV}(h:R T H' v a)(hv:bx H.length v=true):R T H v a:=by
 refine(h.take hv).mono fun n o ho=>?_
 have hn:n<H.length:=by
  grind
 rw[List.getElem?_take_of_lt hn]at ho
 obtain⟨o',h1,h2,h3⟩:=hb n hn o ho
 exact⟨o',h1,by omega,fun _=>h3⟩
theorem RM.MA{α:Type}{hp:ag}:∀ {x:RM α} {a:α},x.run hp=some a→∀ n,n∈x.log hp→n<hp.length
 |.ret _,_,_,n,hn=>by simp[RM.log]at hn
 |.fail,_,h,_,_=>by simp[RM.run]at h
 |.get m k,a,h,n,hn=>by
  simp only[RM.run]at h
  split at h
  case h_2=>simp at h
  rename_i o ho
  simp only[RM.log,ho,List.mem_cons]at hn
  rcases hn with rfl|hn
  ·grind
  ·exact RM.MA h n hn
theorem aD.hJ{hp:ag}{ov:Option (Nat×aJ)}{nw:List aJ}{α:Type}{x:RM α}{a:α}{rd:List Nat}(h:aD (aV hp ov nw) x a rd):aD hp (x.hJ hp.length ov nw) a rd:=by
 refine⟨by rw[(nV x).1]; exact h.1,fun n hn=>?_⟩
 rw[(nV x).2]at hn
 exact h.2 n (List.mem_filter.1 hn).1
theorem aD.Uy{hp:ag}{ov:Option (Nat×aJ)}{nw:List aJ}{α:Type}{x:RM α}{a:α}{rd:List Nat}(h:aD (aV hp ov nw) x a rd):aD hp (x.hJ hp.length ov nw) a (rd.filter fun n=>Nat.blt n hp.length):=by
 refine⟨by rw[(nV x).1]; exact h.1,fun n hn=>?_⟩
 rw[(nV x).2]at hn
 obtain⟨h1,h2⟩:=List.mem_filter.1 hn
 exact List.mem_filter.2 ⟨h.2 n h1,h2⟩
theorem aD.X1{hp:ag}{α:Type}{x:RM α}{a:α}{rd:List Nat}(h:aD hp x a rd):aD hp x a (rd.filter fun n=>Nat.blt n hp.length):=by
 refine⟨h.1,fun n hn=>List.mem_filter.2 ⟨h.2 n hn,?_⟩⟩
 have:=RM.MA h.1 n hn
 simpa using this
theorem MB[ab]{P:Program}{hp:ag}{ev:Operand→AV}{nm n aq i j:Nat}{dst:Option Tmp}{t:TypeId}{a x:Operand}{type:TypeId}{pos:String}{after:Array Edge}{guard:Option (Nat×Bool)}{e:dk}
  (he:(aK P nm ev ⟨dst,.store t a x,type,pos,after,guard⟩).run hp=some e) (ha:ev a=.ref n aq i j):∃ o',e.wr=[(n,o')]:=by
 simp only[aK,pw,ha]at he
 split at he
 ·simp[RM.ae]at he
 ·simp only[RM.run_bind]at he
  cases hq:(RM.arr n aq).run hp with
  |none=>rw[hq]at he; simp at he
  |some q=>
   rw[hq]at he
   simp only[Option.bind_some]at he
   split at he
   case h_2=>simp[RM.ae]at he
   split at he
   case h_2=>simp[RM.ae]at he
   split at he
   case isFalse=>simp[RM.ae]at he
   simp only[RM.run_pure,Option.some.injEq]at he
   subst he
   exact⟨_,rfl⟩
theorem Jm[ab]{P:Program}{t:TypeId}{a:AV}{hp:ag}{n:Nat}(h:n∈(kU P t a).log hp):n∈names a:=by
 unfold kU at h
 split at h
 ·simp[RM.log]at h
 ·split at h
  ·rw[RM.eO]at h
   simp only[names]
   rcases List.mem_append.1 h with h|h
   ·grind[RM.log,RM.arr]
   ·exfalso
    split at h
    ·unfold RM.eZ at h
     repeat' (split at h)
     all_goals first|(simp[RM.log]at h; done)|skip
    ·simp at h
  ·unfold RM.eZ at h
   split at h<;>simp[RM.log]at h
  ·simp[RM.log]at h
theorem H7[ab]{T:dm}{P:Program}{s:bA T.den}{st:St}(h:RS T s st):∀ {rs:List ResultVar},xv s.fr rs=true→∀ n,n∈(aW P st.fr rs).log st.hp→n∈HQ s.fr rs
 |[],_,n,hn=>by simp[aW,pure,RM.log]at hn
 |r::rs,hl,n,hn=>by
  unfold xv at hl
  simp only[List.all_cons,Bool.and_eq_true]at hl
  have ih:=H7 (P:=P) h (rs:=rs) (by unfold xv; exact hl.2) n
  simp only[aW,RM.eO]at hn
  unfold HQ
  rw[List.flatMap_cons]
  rcases List.mem_append.1 hn with hn|hn
  ·refine List.mem_append.2 (.inl ?_)
   cases r with
   |tmp t=>simp[kh,pure,RM.log]at hn
   |cell a t=>
    simp only[kh]at hn
    have hd:bQ (cL s.fr a)=false:=by simpa using hl.1
    have:=Jm hn
    rw[←R.names ((h.fr a).live hd)]at this
    exact this
  ·split at hn
   ·rcases List.mem_append.1 hn with hn|hn
    ·exact List.mem_append.2 (.inr (ih hn))
    ·split at hn
     ·simp[pure,RM.log]at hn
     ·simp at hn
   ·simp at hn
theorem EE[ab]{T:dm}{H:ah T.den}:∀ {l:List (SV T.den)} {m:List AV},aw (R T H) l m→l.all isHole=true→m.all isAny=true
 |[],[],_,_=>rfl
 |x::xs,y::ys,h,hl=>by
  simp only[List.all_cons,Bool.and_eq_true]at hl ⊢
  refine⟨?_,EE h.2 hl.2⟩
  have h1:=h.1
  have h2:=hl.1
  unfold isHole at h2
  split at h2
  ·simp only[R]at h1
   rw[h1]; rfl
  ·simp at h2
theorem rh[ab]{T:dm}(hT:T.Ok){Q:gO}(hQ:Q.Ok)(hZ:T.uh Q){ops:Array Oper}{hp:ag}{H:ah T.den}(hH:H.length=hp.length){ρ:Type}{r:ρ}{f:FuncId}:
  ∀ (l:List Oper) (s:bA T.den) (q:wP) (ov:Option Nat) (rd:List Nat) (K:bA T.den→Option Nat→List Nat→Tr ρ),RS T s ⟨f,q.fr,aV hp q.ov q.nw⟩→ov=q.ov.map (·.1)→(∀ n o,q.ov=some (n,o)→∃ o0,hp[n]?=some (some o0))→GC H s.hp →
  (vo Q hp.length l s ov rd K).run=some r →
  ∃ s' Jn rd2 q',aD hp (ji Q.P hp.length ops l q) q' rd2∧RS T s' ⟨f,q'.fr,aV hp q'.ov q'.nw⟩∧Jn=q'.ov.map (·.1)∧(∀ n o,q'.ov=some (n,o)→∃ o0,hp[n]?=some (some o0))∧GC H s'.hp∧(K s' Jn (rd++rd2)).run=some r
 |[],s,q,ov,rd,K,h,xb,hex,hb,hk=>⟨s,ov,[],q,aD.pure _,h,xb,hex,hb,by rw[List.append_nil]; exact hk⟩
 |o::l,s,q,ov,rd,K,h,xb,hex,hb,hk=>by
  simp only[vo]at hk
  split at hk
  ·simp[Tr.run]at hk
  rename_i hg
  have hw:cJ ops q.fr o=some true:=by simp[cJ,hg]
  split at hk
  ·simp[Tr.run]at hk
  ·rename_i EW
   rw[cG]at hk
   have he:RE T s.hp (aV hp q.ov q.nw) (.lit bV) [] ⟨.lit bV,[]⟩:=⟨bk _,h.hp,dy.refl _,fun q h=>by simp at h,fun _ _ _=>rfl,Nat.le_refl _,fun _ _ h=>by simp at h⟩
   obtain⟨g1,_⟩:=h.step he o.dst
   obtain⟨s',Jn,rd2,q',i1,i2,i3,i4,i5,hk⟩:=rh hT hQ hZ (ops:=ops) hH l _ { q with fr:=bD q.fr o.dst (.lit bV) } ov rd K g1 xb hex (by simpa[bA.step,aP] using hb) hk
   refine⟨s',Jn,rd2,q',?_,i2,i3,i4,i5,hk⟩
   simp only[ji,hw,EW]
   cases hd:o.dst with
   |none=>rw[hd]at i1; exact i1
   |some d=>rw[hd]at i1; exact i1
  ·rename_i VI NC
   have hlen:s.hp.length=hp.length+q.nw.length:=h.hp.length.trans oB
   obtain⟨v,wr,rd',e,g1,g2,hk⟩:=Gw hT hQ hZ h.hp (.inl rfl) (fun x=>h.ev x) hk
   simp only at hk
   rw[hlen]at g1
   have e1:ji Q.P hp.length ops (o::l) q=((aK Q.P (hp.length+q.nw.length) (ay q.fr) o).hJ hp.length q.ov q.nw >>= fun e=>match e.wr.all fun q=>Nat.ble hp.length q.1 with
     |true=>ji Q.P hp.length ops l { q with fr:=bD q.fr o.dst e.val,nw:=pG hp.length q.nw e.wr }
     |false=>(match q.ov,e.wr with
      |none,[(n,o')]=>.get n fun o0=>(match rV Q.P (ay q.fr) o.op n o0 with
        |true=>ji Q.P hp.length ops l { q with fr:=bD q.fr o.dst e.val,ov:=some (n,o') }
        |false=>.fail)
      |_,_=>.fail)):=by
    simp only[ji,hw]
    rfl
   rw[e1]
   split at hk
   ·rename_i bg
    rw[cG]at hk
    obtain⟨g3,_⟩:=h.step g2 o.dst
    have EF:e.wr.all (fun q=>Nat.ble hp.length q.1)=true:=by
     refine List.all_eq_true.2 fun x hx=>?_
     obtain⟨y,hy,hyx⟩:=List.mem_map.1 (g2.names x hx)
     have:=List.all_eq_true.1 bg y hy
     rw[←hyx]; exact this
    rw[p5 e.wr fun x hx=>Nat.le_of_ble_eq_true (List.all_eq_true.1 EF x hx)]at g3
    have pq:GC H (s.step o.dst v wr).hp:=by
     intro n hn o' db
     refine hb n hn o' ?_
     have:n∉wr.map (·.1):=by
      intro hm
      obtain⟨y,hy,rfl⟩:=List.mem_map.1 hm
      have:=Nat.le_of_ble_eq_true (List.all_eq_true.1 bg y hy)
      omega
     rw[←g2.zX n this (by omega)]
     exact db
    obtain⟨s',Jn,rd2,q',i1,i2,i3,i4,i5,hk⟩:=rh hT hQ hZ (ops:=ops) hH l _ { q with fr:=bD q.fr o.dst e.val,nw:=pG hp.length q.nw e.wr } ov (rd++rd') K g3 xb hex pq hk
    refine⟨s',Jn,rd'++rd2,q',?_,i2,i3,i4,i5,by rw[←List.append_assoc]; exact hk⟩
    refine aD.bind g1.hJ ?_
    simp only[EF]
    exact i1
   ·split at hk
    case h_2=>simp[Tr.run]at hk
    rename_i n o' bg adu
    split at hk
    case h_2=>simp[Tr.run]at hk
    rename_i hh
    rw[Bool.and_eq_true]at hh
    obtain⟨bL,gC⟩:=hh
    have bL:n<hp.length:=by simpa using bL
    have RZ:q.ov=none:=by
     cases hq:q.ov with
     |none=>rfl
     |some x=>rw[hq]at xb; simp at xb
    unfold HP at gC
    split at gC
    case h_2=>simp at gC
    rename_i t a x EW
    split at gC
    case h_2=>simp at gC
    rename_i r0 n' c i j g f cur es QV Ut vQ
    split at gC
    case h_2=>simp at gC
    rename_i l0 xf
    simp only[Bool.and_eq_true]at gC
    obtain⟨⟨⟨⟨c1,c2⟩,c3⟩,c4⟩,c5⟩:=gC
    obtain rfl:=Nat.eq_of_beq_eq_true c1
    have NL:=h.ev a
    rw[Ut]at NL
    have NL:=NL.live rfl
    simp only[R]at NL
    obtain⟨aq,NL,_⟩:=NL
    obtain⟨dst,op,type,pos,after,guard⟩:=o
    simp only at EW
    subst EW
    obtain⟨Xp,E7⟩:=MB g1.1 NL
    obtain⟨ao,IJ,dJ⟩:=h.hp.obj vQ
    obtain⟨es',rfl,cF,_⟩:=dJ
    obtain⟨l1,qB,zQ⟩:=aw.get (aR.1 cF) xf
    simp only[R]at zQ
    obtain⟨l',rfl,zQ⟩:=zQ
    rw[RZ]at IJ
    have uT:hp[n']?=some (some (.arr g false f es')):=by
     grind[aV,pZ]
    obtain⟨r1,wR,_,kZ,_⟩:=hQ.row _ _ QV
    have Uz:rV Q.P (ay q.fr) (.store t a x) n' (.arr g false f es')=true:=by
     simp only[rV,wR,NL,qB,Bool.and_eq_true]
     refine⟨⟨c1,?_⟩,?_⟩
     ·rw[←aw.length (aR.1 zQ),kZ]; exact c2
     ·rw[kZ]
      exact EE (((aR.1 zQ).drop j).take r0.size) c3
    have EF:e.wr.all (fun q=>Nat.ble hp.length q.1)=false:=by
     simp_all
    rw[cG]at hk
    obtain⟨g3,_⟩:=h.step g2 dst
    simp only at g3
    rw[E7,RZ,yp uT]at g3
    have pq:GC H (s.step dst v [(n',o')]).hp:=by
     intro m hm om hom
     by_cases e:m=n'
     ·subst e
      have Pg:(aP s.hp [(m,o')])[m]?=some (some om):=hom
      simp only[aP,bM]at Pg
      rw[if_neg (by omega),List.getElem?_set_self (by omega)]at Pg
      simp only[Option.some.injEq]at Pg
      subst Pg
      obtain⟨o1,b1,b2,b3⟩:=hb m hm _ vQ
      refine⟨o1,b1,b2.trans (Nat.eq_of_beq_eq_true c4),b3.trans (Nat.eq_of_beq_eq_true c5)⟩
     ·refine hb m hm om ?_
      rw[←g2.zX m (by simpa using e) (by omega)]
      exact hom
    obtain⟨s',Jn,rd2,q',i1,i2,i3,i4,i5,hk⟩:=rh hT hQ hZ (ops:=ops) hH l _ { q with fr:=bD q.fr dst e.val,ov:=some (n',Xp) } (some n') (rd++(rd'++[n'])) K g3 rfl
     (fun m om hm=>by simp only[Option.some.injEq,Prod.mk.injEq]at hm; obtain⟨rfl,rfl⟩:=hm; exact⟨_,uT⟩) pq hk
    refine⟨s',Jn,rd'++(n'::rd2),q',?_,i2,i3,i4,i5,by simpa using hk⟩
    refine aD.bind g1.hJ ?_
    rw[E7]at EF
    simp only[E7,EF,RZ]
    refine aD.get uT ?_
    simp only[Uz]
    exact i1
theorem Jo[ab]{T:dm}(hT:T.Ok){Q:gO}(hQ:Q.Ok)(hZ:T.uh Q){hp:ag}{H:ah T.den}(hH:H.length=hp.length){ρ:Type}{r:ρ}{f:FuncId}:
  ∀ (c:Code) (s:bA T.den) (q:wP) (ov:Option Nat) (rd:List Nat) (K:Bool→bA T.den→Option Nat→List Nat→Tr ρ),RS T s ⟨f,q.fr,aV hp q.ov q.nw⟩→ov=q.ov.map (·.1)→(∀ n o,q.ov=some (n,o)→∃ o0,hp[n]?=some (some o0))→GC H s.hp →
  (mj Q hp.length c s ov rd K).run=some r →
  ∃ b s' Jn rd2 q',aD hp (gT Q.P hp.length c q) (q',b) rd2∧RS T s' ⟨f,q'.fr,aV hp q'.ov q'.nw⟩∧Jn=q'.ov.map (·.1)∧(∀ n o,q'.ov=some (n,o)→∃ o0,hp[n]?=some (some o0))∧GC H s'.hp∧(K b s' Jn (rd++rd2)).run=some r:=by
 intro c
 induction c with
 |skip=>intro s q ov rd K h xb hex hb hk; exact⟨false,s,ov,[],q,aD.pure _,h,xb,hex,hb,by rw[List.append_nil]; exact hk⟩
 |ret=>intro s q ov rd K h xb hex hb hk; exact⟨true,s,ov,[],q,aD.pure _,h,xb,hex,hb,by rw[List.append_nil]; exact hk⟩
 |seq a b Hu E9=>
  intro s q ov rd K h xb hex hb hk
  simp only[mj]at hk
  obtain⟨z,s1,SN,SO,q1,g1,g2,g3,g4,g5,hk⟩:=Hu s q ov rd _ h xb hex hb hk
  cases z with
  |true=>exact⟨true,s1,SN,SO++[],q1,by simp only[gT]; exact aD.bind g1 (aD.pure _),g2,g3,g4,g5,by rw[List.append_nil]; exact hk⟩
  |false=>
   obtain⟨z,s2,ov2,rd2,q2,i1,i2,i3,i4,i5,hk⟩:=E9 s1 q1 SN _ K g2 g3 g4 g5 hk
   exact⟨z,s2,ov2,SO++rd2,q2,by simp only[gT]; exact aD.bind g1 i1,i2,i3,i4,i5,by rw[←List.append_assoc]; exact hk⟩
 |cond o a b Hu E9=>
  intro s q ov rd K h xb hex hb hk
  simp only[mj]at hk
  split at hk
  ·rename_i t hs
   have ha:=(h.ev o).live (by rw[hs]; rfl)
   rw[hs]at ha
   have ha:ay q.fr o=.lit (.bool t):=ha
   rcases fF hk with ⟨rfl,hk⟩|⟨rfl,hk⟩
   ·obtain⟨z,s1,SN,SO,q1,g1,g⟩:=Hu s q ov rd K h xb hex hb hk
    exact⟨z,s1,SN,SO,q1,by simp only[gT,ha]; exact g1,g⟩
   ·obtain⟨z,s1,SN,SO,q1,g1,g⟩:=E9 s q ov rd K h xb hex hb hk
    exact⟨z,s1,SN,SO,q1,by simp only[gT,ha]; exact g1,g⟩
  ·simp[Tr.run]at hk
 |region id ops draw=>
  intro s q ov rd K h xb hex hb hk
  cases draw with
  |true=>simp[mj,Tr.run]at hk
  |false=>
   simp only[mj]at hk
   obtain⟨s',Jn,rd2,q',g1,g2,g3,g4,g5,hk⟩:=rh hT hQ hZ (ops:=ops) hH ops.toList s q ov rd _ h xb hex hb hk
   exact⟨false,s',Jn,rd2++[],q',by simp only[gT]; exact aD.bind g1 (aD.pure _),g2,g3,g4,g5,by rw[List.append_nil]; exact hk⟩
 |_=>intro s q ov rd K h xb hex hb hk; simp[mj,Tr.run]at hk
section
variable {T:dm}
theorem aw.qw{α β:Type}{P:α→β→Prop}:∀ {l:List α} {m:List β},aw P l m→∀ {i:Nat} {x:α} {y:β},m[i]?=some y→P x y→aw P (l.set i x) m
 |_::_,_::_,h,0,x,y,hy,hp=>by simp at hy; subst hy; exact⟨hp,h.2⟩
 |_::_,_::_,h,i+1,x,y,hy,hp=>⟨h.1,aw.qw h.2 (by simpa using hy) hp⟩
 |[],[],_,_,_,_,hy,_=>by simp at hy
theorem vF[ab]{s:bA T.den}{st:St}(h:RS T s st){n:Nat}{o o':aB T.den}(ho:s.hp[n]?=some (some o))(hc:o'.cur=o.cur)(hl:o'.len=o.len)(nC:o.isRec=false)
  (hr:∀ a,RO T s.hp o a→RO T s.hp o' a):RS T { s with hp:=s.hp.set n (some o'),wh:=n::s.wh } st∧bm s { s with hp:=s.hp.set n (some o'),wh:=n::s.wh }:=by
 have hn:=(List.getElem?_eq_some_iff.1 ho).1
 obtain⟨a,ha,hra⟩:=h.hp.obj ho
 have hg:dy s.hp (s.hp.set n (some o')):=by
  intro m x hm
  by_cases e:m=n
  ·simp_all
  ·grind
 refine⟨⟨h.fn,h.n,fun t=>(h.fr t).mono hg,?_,h.js.zX fun m hm=>⟨?_,rfl⟩⟩,⟨rfl,rfl,fun _ _=>rfl,fun _ h=>h,fun m hm hw=>?_,fun m hm=>List.mem_cons_of_mem _ hm,by simp,hg⟩⟩
 ·exact aw.qw (aw.mono (fun _ _ h=>Ce.mono hg h) h.hp) (y:=some a) ha (Ce.mono hg (show Ce T s.hp (some o') (some a) from hr a hra))
 ·have dA:m≠n:=by
   grind[recAt]
  rw[List.getElem?_set_ne (Ne.symm dA)]
 ·simp only at hw ⊢
  rw[List.getElem?_set_ne (fun e=>hw (by rw[e]; simp))]
theorem sX[ab]{s:bA T.den}{st:St}(h:RS T s st){d:Nat}{v:SV T.den}(hr:∀ a,R T s.hp (cL s.fr d) a→R T s.hp v a)(hd:bQ (cL s.fr d)=false):
  RS T { s with fr:=tX s.n s.fr d v,wf:=d::s.wf } st∧bm s { s with fr:=tX s.n s.fr d v,wf:=d::s.wf }:=by
 refine⟨⟨h.fn,h.n,fun t=>?_,h.hp,h.js⟩,⟨rfl,rfl,fun t ht=>?_,fun t ht=>List.mem_cons_of_mem _ ht,fun _ _ _=>rfl,fun _ h=>h,Nat.le_refl _,dy.refl _⟩⟩
 ·simp only
  rw[kF]
  split
  ·rename_i e
   rw[e.1]
   exact .inr (hr _ ((h.fr d).live hd))
  ·exact h.fr t
 ·simp only at ht ⊢
  rw[kF,if_neg]
  exact fun e=>ht (by rw[e.1]; simp)
theorem sY[ab]{s:bA T.den}{st:St}(h:RS T s st){d j:Nat}{v v':SV T.den}(hc:cellOf s d j=some v)(hd:bQ v=false)(hr:∀ a,R T s.hp v a→R T s.hp v' a)(kM:aE v'=true):
  RS T (setCell s d j v') st∧bm s (setCell s d j v'):=by
 unfold cellOf at hc
 unfold setCell
 split at hc
 ·rename_i n c i k he
  split at hc
  case h_2=>simp at hc
  rename_i g cl f cur es ho
  split at hc
  case h_2=>simp at hc
  rename_i l hl
  refine vF h ho rfl (by simp[aB.len]) rfl fun a ha=>?_
  obtain⟨es',rfl,h1,h2⟩:=ha
  obtain⟨ea,h3,h4⟩:=aw.get (aR.1 h1) hl
  simp only[R]at h4
  obtain⟨l',rfl,h5⟩:=h4
  obtain⟨b,h6,h7⟩:=aw.get (aR.1 h5) hc
  refine⟨es',rfl,aR.2 (aw.qw (aR.1 h1) h3 ?_),fun X2=>?_⟩
  ·simp only[R]
   exact⟨l',rfl,aR.2 (aw.qw (aR.1 h5) h6 (hr _ h7))⟩
  ·have h8:=h2 X2
   rw[jB,List.all_eq_true]at h8 ⊢
   intro x hx
   rcases List.mem_or_eq_of_mem_set hx with hx|rfl
   ·exact h8 x hx
   ·have h9:=h8 _ (List.mem_of_getElem? hl)
    simp only[aE]at h9 ⊢
    rw[jB,List.all_eq_true]at h9 ⊢
    intro y hy
    rcases List.mem_or_eq_of_mem_set hy with hy|rfl
    ·exact h9 y hy
    ·exact kM
 ·rename_i l he
  refine sX h (fun a ha=>?_) (by rw[he]; rfl)
  rw[he]at ha
  simp only[R]at ha ⊢
  obtain⟨l',rfl,h5⟩:=ha
  obtain⟨b,h6,h7⟩:=aw.get (aR.1 h5) hc
  exact⟨l',rfl,aR.2 (aw.qw (aR.1 h5) h6 (hr _ h7))⟩
 ·rename_i h1 h2
  split at hc
  case h_2=>simp at hc
  simp only[Option.some.injEq]at hc
  subst hc
  exact sX h hr hd
theorem EG{ρ:Type}{r:ρ}{n:Int}{K:Int→Tr ρ}:∀ {b m:Nat},(L2 b m n K).run=some r→∃ m':Nat,n=Int.ofNat m'∧(K (Int.ofNat m')).run=some r
 |0,m,h=>by simp[L2,Tr.run]at h
 |b+1,m,h=>by
  simp only[L2,Tr.run]at h
  cases hb:n==Int.ofNat m with
  |true=>
   rw[hb]at h
   exact⟨m,eq_of_beq hb,h⟩
  |false=>
   rw[hb]at h
   exact EG h
theorem zj{α:Type}:∀ {l:List α} {i:Nat} {x:α},l[i]?=some x→l.drop i=x::l.drop (i+1)
 |y::ys,0,x,h=>by simp at h; subst h; simp
 |y::ys,i+1,x,h=>by simp at h ⊢; exact zj h
 |[],i,x,h=>by simp at h
theorem vG[ab]{ρ:Type}{r:ρ}{t:Nat}{l:List (T.den t)}:∀ {n i:Nat} {K:List (SV T.den)→Tr ρ},(DX t l n i K).run=some r→∃ xs:List (T.den t),xs.length=n∧(l.drop i).take n=xs∧(K (xs.map (T.up t))).run=some r
 |0,i,K,h=>⟨[],rfl,by simp,h⟩
 |n+1,i,K,h=>by
  simp only[DX,Tr.run,Option.bind_eq_some_iff]at h
  obtain⟨x,hx,h⟩:=h
  obtain⟨xs,h1,h2,h3⟩:=vG h
  refine⟨x::xs,by simp[h1],?_,h3⟩
  rw[zj hx,List.take_succ_cons,h2]
theorem MC[ab](hT:T.Ok){H:ah T.den}{t:Nat}:∀ {l:List (T.den t)} {m:List AV},aw (T.rp t) l m→RL T H (l.map (T.up t)) m∧av (l.map (T.up t))=true
 |[],[],_=>by simp[RL,av]
 |x::xs,y::ys,h=>by
  obtain⟨h1,h2⟩:=MC hT (H:=H) h.2
  simp only[List.map_cons,RL,av,Bool.and_eq_true]
  exact⟨⟨hT.up _ _ _ H h.1,h1⟩,vu hT h.1,h2⟩
theorem MD[ab](hT:T.Ok){ρ:Type}{r:ρ}{w:Tw}{K:bA T.den→Tr ρ}{s:bA T.den}{st:St}(h:RS T s st)(hk:(yL s w K).run=some r):∃ s',RS T s' st∧bm s s'∧(K s').run=some r:=by
 cases w with
 |num d j b=>
  simp only[yL]at hk
  split at hk
  case h_2=>simp[Tr.run]at hk
  rename_i k n hc
  obtain⟨m,rfl,Fw⟩:=EG hk
  clear hk
  have hk:=Fw
  rw[force_eq]at hk
  obtain⟨h1,h2⟩:=sY h hc rfl (v':=.lit (.int k (Int.ofNat m))) (fun a ha=>ha) rfl
  exact⟨_,h1,h2,hk⟩
 |ZS d j n=>
  simp only[yL]at hk
  split at hk
  case h_2=>simp[Tr.run]at hk
  rename_i t l hc
  obtain⟨g1,hk⟩:=ba hk
  simp only[Bool.and_eq_true,decide_eq_true_eq]at g1
  obtain⟨g0,g1⟩:=g1
  have g0:0<n:=by simpa using g0
  obtain⟨xs,e1,e2,hk⟩:=vG hk
  rw[List.drop_zero,←g1,List.take_length]at e2
  subst e2
  rw[force_eq]at hk
  have kM:aE (.sl (l.map (T.up t)):SV T.den)=true:=rfl
  obtain⟨h1,h2⟩:=sY h hc rfl (v':=.sl (l.map (T.up t))) (fun a ha=>by
   simp only[R]at ha ⊢
   rcases ha with ⟨l',rfl,ha⟩|⟨rfl,_⟩
   ·obtain⟨b1,b2⟩:=MC hT (H:=s.hp) ha
    exact⟨l',rfl,b1,b2⟩
   ·simp at g1; omega) kM
  exact⟨_,h1,h2,hk⟩
 |arr d n=>
  simp only[yL]at hk
  split at hk
  case h_2=>simp[Tr.run]at hk
  split at hk
  case h_2=>simp[Tr.run]at hk
  rename_i g f cur t l ho
  obtain⟨g1,hk⟩:=ba hk
  simp only[decide_eq_true_eq]at g1
  obtain⟨xs,e1,e2,hk⟩:=vG hk
  rw[List.drop_zero,←g1,List.take_length]at e2
  subst e2
  rw[force_eq]at hk
  obtain⟨h1,h2⟩:=vF h ho (o':=.arr g true f cur (l.map (T.up t))) rfl (by simp[aB.len]) rfl (fun a ha=>by
   obtain⟨es',rfl,ha⟩:=ha
   obtain⟨b1,b2⟩:=MC hT (H:=s.hp) ha
   exact⟨es',rfl,b1,fun _=>b2⟩)
  exact⟨_,h1,h2,hk⟩
 |int d j=>
  simp only[yL]at hk
  split at hk
  case h_2=>simp[Tr.run]at hk
  rename_i k n hc
  simp only[Tr.run,Option.bind_some]at hk
  rw[force_eq]at hk
  obtain⟨h1,h2⟩:=sY h hc rfl (v':=.lit (.int k n)) (fun a ha=>ha) rfl
  exact⟨_,h1,h2,hk⟩
 |name d=>
  simp only[yL]at hk
  split at hk
  case h_2=>simp[Tr.run]at hk
  rename_i esz nm c rg cap hd
  split at hk
  case h_2=>simp[Tr.run]at hk
  rename_i g f cur t l ho
  simp only[Tr.run,Option.bind_some]at hk
  obtain⟨h1,h2⟩:=vF h ho (o':=.ca g f cur t l) rfl rfl rfl (fun a ha=>ha)
  split at hk
  ·rw[force_eq]at hk
   exact⟨_,h1,h2,hk⟩
  ·rename_i off len
   simp only[Tr.run,Option.bind_some]at hk
   rw[force_eq]at hk
   obtain⟨h3,h4⟩:=sX h1 (d:=d) (v:=.bh esz nm c (some (off,len)) cap) (fun a ha=>by simp only[hd]at ha; exact ha) (by simp only[hd]; rfl)
   exact⟨_,h3,h2.trans h4,hk⟩
theorem Cq[ab](hT:T.Ok){ρ:Type}{r:ρ}{K:bA T.den→Tr ρ}{st:St}:∀ {l:List Tw} {s:bA T.den},RS T s st→(T3 l s K).run=some r→∃ s',RS T s' st∧bm s s'∧(K s').run=some r
 |[],s,h,hk=>⟨s,h,bm.refl _,hk⟩
 |w::l,s,h,hk=>by
  obtain⟨s1,h1,h2,hk⟩:=MD hT h hk
  obtain⟨s2,h3,h4,hk⟩:=Cq hT h1 hk
  exact⟨s2,h3,h2.trans h4,hk⟩
theorem R0[ab](hT:T.Ok){ρ:Type}{r:ρ}{l:Tmp→List Tw}{dst:Option Tmp}{K:bA T.den→Tr ρ}{s:bA T.den}{st:St}(h:RS T s st)(hk:(T4 l dst s K).run=some r):∃ s',RS T s' st∧bm s s'∧(K s').run=some r:=by
 cases dst with
 |none=>exact⟨s,h,bm.refl _,hk⟩
 |some d=>exact Cq hT h hk
end
theorem vH[ab]{T:dm}{ρ:Type}{r:ρ}{K:bA T.den→Tr ρ}:∀ {l:List (Nat×Nat)} {s:bA T.den} {st:St},RS T s st→(yK l s K).run=some r→∃ s',RS T s' (gV l st)∧bm s s'∧(K s').run=some r
 |[],s,st,h,hk=>⟨s,h,bm.refl _,hk⟩
 |(d,j)::l,s,st,h,hk=>by
  unfold yK at hk
  have hd:=h.fr d
  split at hk
  case h_2=>simp[Tr.run]at hk
  rename_i n c i k he
  rw[he]at hd
  have hd:=hd.live rfl
  simp only[R]at hd
  obtain⟨aq,hd,cf⟩:=hd
  split at hk
  case h_2=>simp[Tr.run]at hk
  rename_i g cl f cur es ho
  obtain⟨ao,db,dJ⟩:=h.hp.obj ho
  obtain⟨es',rfl,cF,kM⟩:=dJ
  split at hk
  case h_2=>simp[Tr.run]at hk
  rename_i e' Hh
  obtain⟨e,Nv,yj⟩:=Option.bind_eq_some_iff.1 Hh
  obtain⟨ea,Ut,Fa⟩:=aw.get (aR.1 cF) Nv
  unfold AR at yj
  split at yj
  case h_2=>simp at yj
  rename_i l0
  split at yj
  case h_2=>simp at yj
  rename_i WL
  simp only[Option.some.injEq]at yj
  subst yj
  simp only[R]at Fa
  obtain⟨l',rfl,zQ⟩:=Fa
  have hn:=(List.getElem?_eq_some_iff.1 ho).1
  have X3:Nat.blt (k+j) l'.length=true:=by rw[←aw.length (aR.1 zQ)]; exact WL
  have Gs:mB st d j={ st with hp:=st.hp.set n (some (.arr g false f (es'.set i (.agg (l'.set (k+j) .any))))) }:=by
   unfold mB
   rw[hd]
   simp only[db,Ut,Option.bind_some,tg,X3]
  rw[cG]at hk
  have hg:dy s.hp (s.hp.set n (some (.arr g false f cur (es.set i (.agg (l0.set (k+j) .hole)))))):=by
   intro m o hm
   by_cases e:m=n
   ·subst e
    rw[ho]at hm
    simp only[Option.some.injEq]at hm
    subst hm
    exact⟨_,List.getElem?_set_self hn,Nat.le_refl _,fun _=>by simp[aB.len]⟩
   ·grind
  have dJ:RO T (s.hp.set n (some (.arr g false f cur (es.set i (.agg (l0.set (k+j) .hole)))))) (.arr g false f cur (es.set i (.agg (l0.set (k+j) .hole)))) (.arr g false f (es'.set i (.agg (l'.set (k+j) .any)))):=by
   refine⟨_,rfl,aR.2 (((aR.1 cF).mono fun _ _ h=>h.mono hg).set i ?_),fun h=>by cases h⟩
   simp only[R]
   exact⟨_,rfl,aR.2 (((aR.1 zQ).mono fun _ _ h=>h.mono hg).set (k+j) (by simp[R]))⟩
  have du:aP s.hp [(n,.arr g false f cur (es.set i (.agg (l0.set (k+j) .hole))))]=s.hp.set n (some (.arr g false f cur (es.set i (.agg (l0.set (k+j) .hole))))):=by
   grind[aP,bM]
  have Qr:ai st.hp [(n,.arr g false f (es'.set i (.agg (l'.set (k+j) .any))))]=st.hp.set n (some (.arr g false f (es'.set i (.agg (l'.set (k+j) .any))))):=by
   simp only[ai]
   exact iM (List.getElem?_eq_some_iff.1 db).1
  have hE:RE T s.hp st.hp (.lit undef) [(n,.arr g false f cur (es.set i (.agg (l0.set (k+j) .hole))))] ⟨.undef,[(n,.arr g false f (es'.set i (.agg (l'.set (k+j) .any))))]⟩:=by
   refine⟨bk _,?_,by rw[du]; exact hg,fun q hq=>by simp only[List.mem_singleton]at hq; subst hq; simp,fun m hm hl=>?_,by rw[du]; simp,fun m hm hc=>?_⟩
   ·rw[du,Qr]
    exact(aw.mono (fun _ _ h=>Ce.mono hg h) h.hp).set n dJ
   ·grind
   ·simp_all[aB.isRec,recAt]
  obtain⟨g1,g2⟩:=h.step hE none
  rw[Qr]at g1
  have Ou:RS T (s.step none (.lit undef) [(n,.arr g false f cur (es.set i (.agg (l0.set (k+j) .hole))))]) (mB st d j):=by
   rw[Gs]; exact g1
  obtain⟨s',i1,i2,i3⟩:=vH Ou hk
  exact⟨s',i1,g2.trans i2,i3⟩
section
variable [ab]{S:oF}(hS:S.Ok)
include hS
theorem R1(f:FuncId):(S.Qf f).Ok:=⟨hS.Q.row,hS.Q.kind,hS.Q.Qa,hS.Q.map⟩
theorem ME{ρ:Type}{r:ρ}{g:FuncId}{args:List (SV S.T.den)}{as:List AV}{H:ah S.T.den}{hp:ag}{K:EK S.T ρ}(hh:RH S.T H hp)(ha:RL S.T H args as)(hk:(L4 S g args H K).run=some r):
  S.C.kind g=.imp∧S.C.pB g=none∧∃ v rd e,aD hp (zw S.C.P hp.length g as) e rd∧RE S.T H hp v [] e∧(K v [] rd).run=some r:=by
 unfold L4 at hk
 split at hk
 case h_2=>simp[Tr.run]at hk
 rename_i fn X4 R2 ru
 split at hk
 case h_2=>simp[Tr.run]at hk
 rename_i c hc
 split at hk
 case h_1=>simp[Tr.run]at hk
 rename_i hD
 have gC:=ze (f:=g) ha hh fn.ntmps [] (js:=[]) (fun n st h=>by cases h)
 have hlen:H.length=hp.length:=hh.length
 have el:aV hp none []=hp:=by simp[aV,pZ]
 rw[hlen]at hk
 obtain⟨b,s',ov,rd2,q,g1,g2,g3,g4,g5,hk⟩:=Jo hS.T (R1 hS g) hS.Z hlen (f:=g) c _ ⟨as++List.replicate (fn.ntmps-as.length) .undef,none,[]⟩ none _ _ (by simp only[el]; exact gC) rfl (fun n o h=>by cases h) (fun n hn o ho=>⟨o,ho,rfl,rfl⟩) hk
 obtain⟨l,m,i1,i2,hk⟩:=oQ hS.T hS.Q g2 hk
 have XU:(aW S.C.P q.fr fn.results.toList).run (aV hp q.ov q.nw)=some m:=i1
 split at hk
 case h_2=>simp[Tr.run]at hk
 rename_i II
 simp only[Bool.and_eq_true]at II
 obtain⟨⟨c1,c2⟩,c3⟩:=II
 have hR0:=HX i2
 have hR:R S.T H (rA l) (cE m):=R.back g5 hR0 (by rw[hlen]; exact c1)
 refine⟨X4,R2,rA l,_,⟨cE m,[]⟩,?_,⟨.inr hR,hh,dy.refl _,fun q h=>by simp at h,fun _ _ _=>rfl,Nat.le_refl _,fun _ _ h=>by simp at h⟩,hk⟩
 unfold zw
 rw[ru]
 simp only
 rw[hc]
 simp only
 rw[hD]
 simp only
 have Cp:(below hp.length (cE m)&&(match q.ov with
    |some (_,o)=>o.below hp.length
    |none=>true))=true:=by
  rw[Bool.and_eq_true]
  refine⟨by rw[←R.below hR0]; exact c1,?_⟩
  cases hq:q.ov with
  |none=>rfl
  |some x=>
   obtain⟨n,o⟩:=x
   simp only
   rw[hq]at g3
   simp only[Option.map_some]at g3
   rw[g3]at c3
   simp only at c3
   split at c3
   case h_2=>simp at c3
   rename_i so QB
   obtain⟨o0,ho0⟩:=g4 n o hq
   obtain⟨ao,X5,X6⟩:=aw.get g2.hp QB
   have bL:=(List.getElem?_eq_some_iff.1 ho0).1
   have:(aV hp q.ov q.nw)[n]?=some (some o):=by
    rw[hq]
    simp only[aV,pZ,ho0]
    rw[List.getElem?_append_left (by simpa using bL),List.getElem?_set_self bL]
   rw[this]at X5
   simp only[Option.some.injEq]at X5
   subst X5
   have:=A8 hS.T X6 (n:=hp.length)
   rw[c3]at this
   exact this.symm
 have y1:aD hp (gT S.C.P hp.length c ⟨as++List.replicate (fn.ntmps-as.length) .undef,none,[]⟩) (q,b) rd2:=g1
 have y2:aD hp ((aW S.C.P q.fr fn.results.toList).hJ hp.length q.ov q.nw) m ((HQ s'.fr fn.results.toList).filter fun n=>Nat.blt n hp.length):=
  aD.Uy ⟨XU,fun n hn=>H7 g2 c2 n hn⟩
 have y3:=aD.bind (y1.X1) (f:=fun q=>(aW S.C.P q.1.fr fn.results.toList).hJ hp.length q.1.ov q.1.nw >>= fun l=>match below hp.length (cE l)&&(match q.1.ov with
    |some (_,o)=>o.below hp.length
    |none=>true) with
   |true=>(pure ⟨cE l,[]⟩:RM dk)
   |false=>.fail) (aD.bind y2 (f:=fun l=>match below hp.length (cE l)&&(match q.ov with
    |some (_,o)=>o.below hp.length
    |none=>true) with
   |true=>(pure ⟨cE l,[]⟩:RM dk)
   |false=>.fail) (b:=⟨cE m,[]⟩) (rd':=[]) (by simp only[Cp]; exact aD.pure _))
 rw[List.append_nil,←List.filter_append]at y3
 exact y3
theorem R3{ρ:Type}{r:ρ}{nm:Nat}{o:Oper}{s:bA S.T.den}{st:St}{K:EK S.T ρ}(h:RS S.T s st)(hn:nm=s.hp.length∨s.hp[nm]?=some none)(nv:au o.op=false→nm=s.hp.length)(hk:(VV S nm o s K).run=some r):
  ∃ v wr rd e lg,C1 S.C nm o st.fr st.hp=some (e,lg)∧(∀ n,n∈lg→n∈rd)∧RE S.T s.hp st.hp v wr e∧(K v wr rd).run=some r:=by
 have plain:(∀ c f,o.op=.call c→c.callee=.value f→False)→(∀ c m i,o.op=.call c→c.callee=.invoke m i→False)→(OT (S.Qf s.fn) nm s.hp (cX s.fr) o K).run=some r →
   ∃ v wr rd e lg,C1 S.C nm o st.fr st.hp=some (e,lg)∧(∀ n,n∈lg→n∈rd)∧RE S.T s.hp st.hp v wr e∧(K v wr rd).run=some r:=by
  intro h1 h2 hk
  obtain⟨v,wr,rd,e,g1,g2,g3⟩:=Gw hS.T (R1 hS s.fn) (Q:=S.Qf s.fn) hS.Z h.hp hn (fun x=>h.ev x) hk
  refine⟨v,wr,rd,e,_,?_,g1.2,g2,g3⟩
  rw[FA h1 h2]
  have:=g1.1
  rw[show (S.Qf s.fn).P=S.C.P from rfl]at this
  rw[this]
  rfl
 unfold VV at hk
 split at hk
 ·rename_i c hc
  split at hk
  ·rename_i b hb
   exact plain (fun c' f h1 h2=>by rw[hc]at h1; simp only[Op.call.injEq]at h1; subst h1; rw[hb]at h2; cases h2) (fun c' m i h1 h2=>by rw[hc]at h1; simp only[Op.call.injEq]at h1; subst h1; rw[hb]at h2; cases h2) hk
  ·rename_i f hf
   split at hk
   ·simp[Tr.run]at hk
   rename_i g args hg
   split at hk
   ·rename_i pL
    split at hk
    case h_2=>simp[Tr.run]at hk
    rename_i σ hd hσ
    obtain⟨m,qC,vY⟩:=gu (h.ev f) (jC (fun x=>h.ev x) c.args.toList) hg
    obtain⟨v,wr,rd,e,lg,g2,g3,g4,g5⟩:=HZ hS.T (hS.own g σ hσ) h.hp hn (vY hd) hk
    refine⟨v,wr,rd,_,lg,?_,g3,g4,g5⟩
    obtain⟨dst,op,type,pos,after,guard⟩:=o
    simp only at hc pL
    subst hc
    obtain⟨callee,cT,mC⟩:=c
    simp only at hf
    subst hf
    rw[uM,qC,pL]
    exact g2
   rename_i pL
   split at hk
   case h_3=>simp[Tr.run]at hk
   case h_2=>
    rename_i hd _
    obtain⟨m,qC,vY⟩:=gu (h.ev f) (jC (fun x=>h.ev x) c.args.toList) hg
    obtain⟨X4,R2,v,rd,e,g1,g2,hk⟩:=ME hS h.hp (vY hd) hk
    rw[show st.hp.length=nm from by rw[nv (by assumption),h.hp.length]]at g1
    refine⟨v,[],rd,e,_,?_,g1.2,g2,hk⟩
    obtain⟨dst,op,type,pos,after,guard⟩:=o
    simp only at hc pL
    subst hc
    obtain⟨callee,cT,mC⟩:=c
    simp only at hf
    subst hf
    rw[uM,qC,pL]
    simp only[Option.bind_some,pP,X4,R2,g1.1,Option.map_some]
   rename_i σ hd hσ
   obtain⟨m,qC,vY⟩:=gu (h.ev f) (jC (fun x=>h.ev x) c.args.toList) hg
   obtain⟨v,wr,rd,a,w,lg,_,g2,g3,g4,g5⟩:=xw hS.T (hS.sum g σ hσ) h.hp (vY hd) hk
   refine⟨v,wr,rd,_,lg,?_,g3,g4,g5⟩
   obtain⟨dst,op,type,pos,after,guard⟩:=o
   simp only at hc pL
   subst hc
   obtain⟨callee,cT,mC⟩:=c
   simp only at hf
   subst hf
   rw[uM,qC,pL]
   exact g2 nm
  ·rename_i rv name hf
   split at hk
   ·simp[Tr.run]at hk
   rename_i g x hg
   obtain⟨ax,qC,P9⟩:=Ev (h.ev rv) hg
   split at hk
   case h_2=>simp[Tr.run]at hk
   rename_i σ hd hσ
   have vY:RL S.T s.hp (x::c.args.toList.map (cX s.fr)) (ax::c.args.toList.map (ay st.fr)):=by
    simp only[List.any_cons,Bool.or_eq_false_iff]at hd
    simp only[RL]
    exact⟨P9,iZ (jC (fun x=>h.ev x) c.args.toList) hd.2⟩
   obtain⟨v,wr,rd,a,w,lg,_,g2,g3,g4,g5⟩:=xw hS.T (hS.sum g σ hσ) h.hp vY hk
   refine⟨v,wr,rd,_,lg,?_,g3,g4,g5⟩
   obtain⟨dst,op,type,pos,after,guard⟩:=o
   simp only at hc
   subst hc
   obtain⟨callee,cT,mC⟩:=c
   simp only at hf
   subst hf
   rw[It qC (hS.sum g σ hσ).kind]
   exact g2 nm
 ·rename_i N1
  exact plain (fun c' f h1 _=>N1 c' h1) (fun c' m i h1 _=>N1 c' h1) hk
theorem R4{k:Nat}(ih:oU S k){ρ:Type}{o:Oper}{s:bA S.T.den}{K:bA S.T.den→Tr ρ}{r:ρ}{st:St}(h:RS S.T s st)(hk:(OX S (k+1) ρ o s K).run=some r):
  ∃ s' st',hY S.C o st=some (.norm st')∧RS S.T s' st'∧bm s s'∧(K s').run=some r:=by
 have plain:qD o.op=true→(OT (S.Qf s.fn) s.hp.length s.hp (cX s.fr) o fun v wr _=>s.fw o.dst v wr fun s=>DW (match o.op with|.call _=>fun _=>[]|_=>S.C.rk s.fn) o.dst s
    fun s=>T4 (match o.op with|.call _=>fun _=>[]|_=>S.tw s.fn) o.dst s K).run=some r →
   ∃ s' st',hY S.C o st=some (.norm st')∧RS S.T s' st'∧bm s s'∧(K s').run=some r:=by
  intro h1 hk
  obtain⟨v,wr,rd,e,g1,g2,g3⟩:=Gw hS.T (R1 hS s.fn) (Q:=S.Qf s.fn) hS.Z h.hp (.inl rfl) (fun x=>h.ev x) hk
  replace g3:(s.fw o.dst v wr fun s=>DW (match o.op with|.call _=>fun _=>[]|_=>S.C.rk s.fn) o.dst s
    fun s=>T4 (match o.op with|.call _=>fun _=>[]|_=>S.tw s.fn) o.dst s K).run=some r:=g3
  rw[cG]at g3
  obtain⟨g4,g5⟩:=h.step g2 o.dst
  have ru:(s.step o.dst v wr).fn=st.fn:=h.fn
  rw[ru]at g3
  obtain⟨s1,i1,i2,i3⟩:=My hS.T g4 g3
  obtain⟨s',j1,j2,j3⟩:=R0 hS.T i1 i3
  refine⟨s',_,?_,j1,g5.trans (i2.trans j2),j3⟩
  rw[xP h1]
  have:=g1.1
  rw[h.hp.length]at this
  rw[show (S.Qf s.fn).P=S.C.P from rfl]at this
  rw[this]
  rfl
 unfold OX at hk
 obtain⟨dst,op,type,pos,after,guard⟩:=o
 simp only at hk
 split at hk
 ·rename_i c
  obtain⟨callee,cT,mC⟩:=c
  split at hk
  ·rename_i b hb
   simp only at hb
   subst hb
   refine plain rfl ?_
   have e:(fun (s:bA S.T.den)=>DW (fun _=>[]) dst s fun s=>T4 (fun _=>[]) dst s K)=K:=by
    funext s
    cases dst<;>rfl
   simp only[e]
   exact hk
  ·rename_i f hf
   simp only at hf
   subst hf
   split at hk
   ·-- a round of a range over a function
    split at hk
    case h_2=>simp[Tr.run]at hk
    rename_i n hn
    have Dm:=(h.ev f).live (by rw[hn]; rfl)
    rw[hn]at Dm
    simp only[R]at Dm
    split at hk
    case h_2=>simp[Tr.run]at hk
    rename_i fn ps as bd fr ho hj MF
    split at hk
    case h_2=>simp[Tr.run]at hk
    rename_i hc
    rw[force_eq]at hk
    have jo:=iZ (jC (fun x=>h.ev x) cT.toList) MF
    obtain⟨ao,db,dJ⟩:=h.hp.obj ho
    obtain⟨x,vs,rfl,mv⟩:=dJ
    obtain⟨QE,Nw⟩:=h.js n _ hj
    have hx:x=.ready:=by
     simp_all[iu]
    subst hx
    have hlen:vs.length=fr.length:=mv.length.symm
    obtain⟨p1,p2⟩:=Bd (ps:=ps.toList) (xs:=cT.toList.map (cX s.fr)) (as:=cT.toList.map (ay st.fr)) (n:=fr.length) (fr:=mN 0 fr) (fa:=vs) (H:=s.hp) hlen (fun t=>by
     rw[vD]
     simp only[Nat.zero_le,if_true,Nat.sub_zero,List.getD_eq_getElem?_getD]
     cases hq:vs[t]? with
     |none=>
      have:fr[t]?=none:=by rw[List.getElem?_eq_none_iff]at hq ⊢; omega
      rw[this]
      exact bk undef
     |some a=>
      obtain⟨v,hv,hr⟩:=aw.get' mv hq
      rw[hv]
      rcases hr with ⟨rfl,_⟩|hr
      ·exact .inl rfl
      ·exact .inr hr) jo
    have E8:RS S.T ⟨fn,fr.length,mi fr.length (mN 0 fr) ps.toList (cT.toList.map (cX s.fr)),s.hp,[],s.wh,s.js⟩ ⟨fn,fO vs ps.toList (cT.toList.map (ay st.fr)),st.hp⟩:=⟨rfl,p1,p2,h.hp,h.js⟩
    obtain⟨so1,o1,a1,a2,a3,hk⟩:=ih.c _ _ _ _ _ _ E8 hk
    cases so1 with
    |exit id s1=>simp[Tr.run]at hk
    |ret s1=>simp[Tr.run]at hk
    |norm s1=>
    obtain⟨V8,rfl,m9⟩:=a2
    simp only at hk
    split at hk
    case h_2=>simp[Tr.run]at hk
    rename_i wR
    obtain⟨_,qB⟩:=m9.js n _ wR
    obtain⟨b1,b2⟩:=H6 m9.hp m9.js wR .busy
    have X7:RS S.T { s1 with js:=Cd s1.js n .busy } { V8 with hp:=oY V8.hp n .busy }:=⟨m9.fn,m9.n,m9.fr,b1,b2⟩
    obtain⟨R5,o2,c1,c2,c3,hk⟩:=ih.c _ _ _ _ _ _ X7 hk
    have key:∀ (s2:bA S.T.den),bm { s1 with js:=Cd s1.js n .busy } s2→dy s.hp s2.hp∧s.hp.length≤s2.hp.length∧(∀ m:Nat,m<s.hp.length→m∉s2.wh→s2.hp[m]?=s.hp[m]?)∧∀ m,m∈s.wh→m∈s2.wh:=by
     intro s2 o6
     refine⟨a3.grow.trans o6.grow,Nat.le_trans a3.len o6.len,fun m hm hw=>?_,fun m hm=>o6.wh m (a3.wh m hm)⟩
     rw[o6.hp m (Nat.lt_of_lt_of_le hm a3.len) hw]
     exact a3.hp m hm (fun hc=>hw (o6.wh m hc))
    have MG:hY S.C ⟨dst,.call ⟨.value f,cT,mC⟩,type,pos,after,guard⟩ st=gY (fun c s=>cS S.C c s) n (cT.toList.map (ay st.fr)) dst st:=by
     rw[nN,Dm.1]
     rfl
    have hy:gY (fun c s=>cS S.C c s) n (cT.toList.map (ay st.fr)) dst st=Mz n dst st o2:=by
     clear c2
     unfold gY
     have e1:decide ((cT.toList.map (ay st.fr)).length=ps.size)=true:=by
      simpa using Nat.eq_of_beq_eq_true hc
     simp only[db,e1,a1,qB,c1]
     cases o2<;>rfl
    cases R5 with
    |norm s2=>
     obtain⟨Pc,rfl,BB⟩:=c2
     obtain⟨k1,k2,k3,k4⟩:=key s2 c3
     obtain⟨s',st',d1,d2,d3,hk⟩:=Co hS.T h BB k1 k2 k3 k4 hk
     exact⟨s',st',by rw[MG,hy]; exact d1,d2,d3,hk⟩
    |exit id s2=>
     obtain⟨Pc,rfl,BB⟩:=c2
     obtain⟨k1,k2,k3,k4⟩:=key s2 c3
     obtain⟨s',st',d1,d2,d3,hk⟩:=Co hS.T h BB k1 k2 k3 k4 hk
     exact⟨s',st',by rw[MG,hy]; exact d1,d2,d3,hk⟩
    |ret s2=>
     obtain⟨Pc,rfl,BB⟩:=c2
     obtain⟨k1,k2,k3,k4⟩:=key s2 c3
     obtain⟨s',st',d1,d2,d3,hk⟩:=Co hS.T h BB k1 k2 k3 k4 hk
     exact⟨s',st',by rw[MG,hy]; exact d1,d2,d3,hk⟩
   rename_i g args hg
   obtain⟨m,qC,vY⟩:=gu (h.ev f) (jC (fun x=>h.ev x) cT.toList) hg
   split at hk
   ·rename_i pL
    split at hk
    case h_2=>simp[Tr.run]at hk
    rename_i σ hd hσ
    obtain⟨v,wr,rd,e,lg,g2,_,g4,g5⟩:=HZ hS.T (hS.own g σ hσ) h.hp (.inl rfl) (vY hd) hk
    rw[cG]at g5
    obtain⟨g6,g7⟩:=h.step g4 dst
    refine⟨_,_,?_,g6,g7,g5⟩
    rw[nN,qC]
    rw[h.hp.length]at g2
    simp only[ot,rH,pL,g2,Option.bind_some,fR]
   rename_i pL
   split at hk
   ·rename_i σ hd hσ
    obtain⟨v,wr,rd,a,w,lg,g1,_,_,g4,g5⟩:=xw hS.T (hS.sum g σ hσ) h.hp (vY hd) hk
    rw[cG]at g5
    obtain⟨g6,g7⟩:=h.step g4 dst
    refine⟨_,_,?_,g6,g7,g5⟩
    rw[nN,qC]
    simp only[ot,rH,pL,(hS.sum g σ hσ).kind,g1,Option.bind_some,Kt]
   ·rename_i hd hσ
    split at hk
    ·simp[Tr.run]at hk
    rename_i tQ
    obtain⟨v,cr,pe,rf,a,eY,g1,g2,g3,gj,g4,g5,g6,g7,hk⟩:=ih.f _ _ _ _ _ _ _ _ _ _ (vY hd) h.hp h.js hk
    split at hk
    case h_2=>simp[Tr.run]at hk
    rename_i Cp
    rw[kf,cG]at hk
    obtain⟨m9,o6,t2⟩:=qv hS.T h g2 g3 g4 g5 g6 g7 gj Cp
    obtain⟨g8,g9⟩:=m9.step (v:=v) (wr:=[]) (e:=⟨a,[]⟩) ⟨.inr t2,m9.hp,dy.refl _,fun q hq=>by simp at hq,fun _ _ _=>rfl,Nat.le_refl _,fun _ _ h=>by simp at h⟩ dst
    refine⟨_,_,?_,g8,o6.trans g9,hk⟩
    rw[nN,qC]
    simp only[ot,rH,pL,tQ,g1,Option.bind_some,G8]
    rw[h.hp.length]
    rfl
   ·simp[Tr.run]at hk
  ·rename_i rv name zM
   simp only at zM
   subst zM
   split at hk
   ·simp[Tr.run]at hk
   rename_i g x hg
   obtain⟨ax,qC,P9⟩:=Ev (h.ev rv) hg
   have vY:((x::cT.toList.map (cX s.fr)).any bQ)=false→RL S.T s.hp (x::cT.toList.map (cX s.fr)) (ax::cT.toList.map (ay st.fr)):=fun hd=>by
    simp only[List.any_cons,Bool.or_eq_false_iff]at hd
    simp only[RL]
    exact⟨P9,iZ (jC (fun x=>h.ev x) cT.toList) hd.2⟩
   have pL:au (Op.call ⟨.invoke rv name,cT,mC⟩)=false:=rfl
   split at hk
   ·rename_i σ hd hσ
    obtain⟨v,wr,rd,a,w,lg,g1,_,_,g4,g5⟩:=xw hS.T (hS.sum g σ hσ) h.hp (vY hd) hk
    rw[cG]at g5
    obtain⟨g6,g7⟩:=h.step g4 dst
    refine⟨_,_,?_,g6,g7,g5⟩
    rw[Ao,qC]
    simp only[Option.bind_some,rH,pL,(hS.sum g σ hσ).kind,g1,Kt]
   ·rename_i hd hσ
    split at hk
    ·simp[Tr.run]at hk
    rename_i tQ
    obtain⟨v,cr,pe,rf,a,eY,g1,g2,g3,gj,g4,g5,g6,g7,hk⟩:=ih.f _ _ _ _ _ _ _ _ _ _ (vY hd) h.hp h.js hk
    split at hk
    case h_2=>simp[Tr.run]at hk
    rename_i Cp
    rw[kf,cG]at hk
    obtain⟨m9,o6,t2⟩:=qv hS.T h g2 g3 g4 g5 g6 g7 gj Cp
    obtain⟨g8,g9⟩:=m9.step (v:=v) (wr:=[]) (e:=⟨a,[]⟩) ⟨.inr t2,m9.hp,dy.refl _,fun q hq=>by simp at hq,fun _ _ _=>rfl,Nat.le_refl _,fun _ _ h=>by simp at h⟩ dst
    refine⟨_,_,?_,g8,o6.trans g9,hk⟩
    rw[Ao,qC]
    simp only[Option.bind_some,rH,pL,tQ,g1,G8]
    rw[h.hp.length]
    rfl
   ·simp[Tr.run]at hk
 ·split at hk
  ·rename_i d
   rw[Kv]
   have ru:=h.fn
   split at hk
   ·rename_i xd
    rw[ru]at xd
    rw[xd]
    simp only[cond_true]
    split at hk
    case h_2=>simp[Tr.run]at hk
    rename_i m hm
    obtain⟨q,hG,_,gU,_⟩:=hS.Q.elem hm
    split at hk
    case isFalse=>simp[Tr.run]at hk
    rename_i kZ
    rw[cG]at hk
    have pI:=h.hp.new (nm:=s.hp.length) (o':=.arr true true false 0 []) (a':=.arr true true false []) (.inl rfl) ⟨[],rfl,by simp[RL],fun _=>rfl⟩
    have e1:aP s.hp [(s.hp.length,.arr true true false 0 [])]=bM s.hp s.hp.length (.arr true true false 0 []):=rfl
    have hl:=h.hp.length
    obtain⟨g8,g9⟩:=h.step (v:=.bh m.size s.hp.length 0 none none) (wr:=[(s.hp.length,.arr true true false 0 [])]) (e:=⟨.bh q.size st.hp.length 0 0 0 none,[(st.hp.length,.arr true true false [])]⟩)
     ⟨.inr (by
       rw[e1]
       simp only[R]
       exact⟨0,eW h.hp (.inl rfl) (o:=.arr true true false 0 []),by rw[gU,hl]⟩),
       by
        rw[←hl]
        exact pI.2,by rw[e1]; exact pI.1,fun q hq=>by simp at hq; subst hq; simp[hl],fun n hn hl=>by
        rw[e1]; simp at hn; exact yR hl hn,by rw[e1]; exact wD (.inl rfl),fun m hm hc=>by simp at hc; have:=jD hm; omega⟩ (some d)
    refine⟨_,_,?_,g8,g9,hk⟩
    have X8:aH S.C.P type=some q:=hG
    rw[X8]
    simp only[Option.bind_some]
    rw[if_pos (by rw[gU]; exact kZ)]
    simp only[bD,ai,setObj,if_true]
   ·rename_i xd
    simp only[Bool.not_eq_true]at xd
    rw[ru]at xd
    rw[xd]
    simp only[cond_false]
    rw[cG]at hk
    obtain⟨g8,g9⟩:=h.step (v:=.lit bV) (wr:=[]) (e:=⟨.lit bV,[]⟩) ⟨bk _,h.hp,dy.refl _,fun q hq=>by simp at hq,fun _ _ _=>rfl,Nat.le_refl _,fun _ _ h=>by simp at h⟩ (some d)
    exact⟨_,_,rfl,g8,g9,hk⟩
  ·-- no variable: nothing happens
   refine⟨s,st,?_,h,bm.refl _,hk⟩
   refine bW (jI S.C _ _) (by simp[fP]) fun k=>?_
   simp only[fP]
 ·rename_i N1 hna
  have hl:(match op with|.call _=>fun _=>[]|_=>S.C.rk s.fn)=S.C.rk s.fn:=by
   cases op<;>first|rfl|exact absurd rfl (N1 _)
  refine plain ?_ ?_
  ·unfold qD
   simp only
  ·simp only
   exact hk
end
end Go.PI
end
section
/- PS, part Q: loops, code, functions: the soundness of the trees. -/
namespace Go.PI
theorem zk{τ ω:Type}{f:τ→Option (τ ⊕ ω)}:∀ {n:Nat} {x:τ} {w:ω},kV f n x=some w→kV f (n+1) x=some w
 |0,x,w,h=>by simp[kV]at h
 |n+1,x,w,h=>by
  rw[kV]at h ⊢
  cases hf:f x with
  |none=>rw[hf]at h; simp at h
  |some q=>
   rw[hf]at h
   cases q with
   |inl y=>exact zk h
   |inr z=>exact h
theorem sZ[ab]{τ ω:Type}(f:τ→Option (τ ⊕ ω))(x:τ):fQ fun n=>kV f n x:=fun _ _ h=>zk h
theorem oV[ab]{τ ω:Type}{f:τ→Option (τ ⊕ ω)}{x:τ}{w:ω}:aI f x=some w↔∃ n,kV f n x=some w:=by
 unfold aI
 split
 ·rename_i w' h
  constructor
  ·intro e; exact⟨4096,h.trans e⟩
  ·rintro⟨n,hn⟩
   rw[←(aX (sZ f x)).2 ⟨4096,h⟩,(aX (sZ f x)).2 ⟨n,hn⟩]
 ·exact aX (sZ f x)
theorem DD[ab]{τ ω:Type}(f:τ→Option (τ ⊕ ω))(x:τ):aI f x=(f x).bind fun q=>Sum.elim (aI f) some q:=by
 apply Option.ext
 intro w
 rw[oV]
 constructor
 ·rintro⟨n,h⟩
  cases n with
  |zero=>simp[kV]at h
  |succ n=>
   rw[kV]at h
   cases hf:f x with
   |none=>rw[hf]at h; simp at h
   |some q=>
    rw[hf]at h
    cases q with
    |inl y=>simp only[Option.bind_some,Sum.elim_inl]; exact oV.2 ⟨n,h⟩
    |inr z=>simp_all
 ·intro h
  cases hf:f x with
  |none=>rw[hf]at h; simp at h
  |some q=>
   rw[hf]at h
   cases q with
   |inl y=>
    simp only[Option.bind_some,Sum.elim_inl]at h
    obtain⟨n,hn⟩:=oV.1 h
    exact⟨n+1,by rw[kV,hf]; exact hn⟩
   |inr z=>
    simp only[Option.bind_some,Sum.elim_inr]at h
    exact⟨1,by rw[kV,hf]; exact h⟩
section
variable {T:dm}{ρ:Type}
theorem dH[ab]{H0 H:ah T.den}{K:Tr ρ}{r:ρ}:∀ {objs:List (Nat×cR)},(ik H0 H objs K).run=some r→K.run=some r∧∀ q,q∈objs→∀ t,q.2=.fix t→∀ o o',H0[q.1]?=some (some o)→H[q.1]?=some (some o')→o'.len=o.len
 |[],h=>⟨h,fun q hq=>by simp at hq⟩
 |(n,p)::objs,h=>by
  cases p with
  |fix t=>
   simp only[ik]at h
   split at h
   ·rename_i o o' h1 h2
    obtain⟨g1,g2⟩:=ba h
    simp only[decide_eq_true_eq]at g1
    obtain⟨i1,i2⟩:=dH g2
    refine⟨i1,fun q hq t' e o3 o4 h3 h4=>?_⟩
    rcases List.mem_cons.1 hq with rfl|hq
    ·simp_all
    ·exact i2 q hq t' e o3 o4 h3 h4
   ·simp[Tr.run]at h
  |list t=>
   obtain⟨i1,i2⟩:=dH (objs:=objs) h
   refine⟨i1,fun q hq t' e o3 o4 h3 h4=>?_⟩
   rcases List.mem_cons.1 hq with rfl|hq
   ·simp at e
   ·exact i2 q hq t' e o3 o4 h3 h4
  |one p=>
   obtain⟨i1,i2⟩:=dH (objs:=objs) h
   refine⟨i1,fun q hq t' e o3 o4 h3 h4=>?_⟩
   rcases List.mem_cons.1 hq with rfl|hq
   ·simp at e
   ·exact i2 q hq t' e o3 o4 h3 h4
  |agg ps=>
   obtain⟨i1,i2⟩:=dH (objs:=objs) h
   refine⟨i1,fun q hq t' e o3 o4 h3 h4=>?_⟩
   rcases List.mem_cons.1 hq with rfl|hq
   ·simp at e
   ·exact i2 q hq t' e o3 o4 h3 h4
  |map kk t=>
   obtain⟨i1,i2⟩:=dH (objs:=objs) h
   refine⟨i1,fun q hq t' e o3 o4 h3 h4=>?_⟩
   rcases List.mem_cons.1 hq with rfl|hq
   ·simp at e
   ·exact i2 q hq t' e o3 o4 h3 h4
theorem Be[ab]{key:Nat}{h:Hint}{s0 s:bA T.den}{kind:Option Nat}{r:ρ}:∀ {l:List B6} {K:zT T.den h.objs l→Tr ρ},(ub key h s0 s kind l K).run=some r →
  ∃ o x w,o∈l∧o.kind=kind∧I8 h s0 s kind o=some x∧(K w).run=some r ∧
    (∀ q,q∈h.objs→∀ t,q.2=.fix t→∀ o o',s0.hp[q.1]?=some (some o)→s.hp[q.1]?=some (some o')→o'.len=o.len) ∧
    ∀ {σ:Type} (K':ph T.den→Tr σ),(uw h s0 l w K').run=(K' (Cc (kb h s0 o x) o.kind)).run
 |[],K,hk=>by simp[ub,Tr.run]at hk
 |[o],K,hk=>by
  simp only[ub]at hk
  split at hk
  ·rename_i x hx
   obtain⟨hk,hl⟩:=dH hk
   refine⟨o,x,x,by simp,?_,hx,hk,hl,fun K'=>?_⟩
   ·grind[I8]
   ·simp only[uw]
    rw[force_eq]
  ·simp[Tr.run]at hk
 |o::p::l,K,hk=>by
  simp only[ub]at hk
  split at hk
  ·rename_i x hx
   obtain⟨hk,hl⟩:=dH hk
   refine⟨o,x,.inl x,by simp,?_,hx,hk,hl,fun K'=>?_⟩
   ·grind[I8]
   ·simp only[uw,Tr.run,Sum.elim_inl]
    rw[force_eq]
  ·obtain⟨o',x,w,h1,h2,h3,h4,h5,h6⟩:=Be (l:=p::l) hk
   refine⟨o',x,.inr w,List.mem_cons_of_mem _ h1,h2,h3,h4,h5,fun K'=>?_⟩
   simp only[uw,Tr.run,Sum.elim_inr]
   exact h6 K'
theorem zl{a b:List Nat}(h:subset a b=true){x:Nat}(hx:x∈a):x∈b:=by
 have:=List.all_eq_true.1 h x hx
 simpa using this
theorem H8[ab]{Bf:List (Nat×cR)}{slots0:List (Nat×pj)}{dead0:List Nat}{az:List (Nat×pj)}{dead:List Nat}{ext:List pk}{s0 sx s:bA T.den}{l:List (TV T.den)}
  (SM:c9 (az.map (·.1))=true) (V6:c9 (Bf.map (·.1))=true)
  (Yc:sx.fn=s0.fn) (Yd:sx.n=s0.n) (Ye:∀ t,t∉slots0.map (·.1)++dead0→cL sx.fr t=cL s0.fr t) (Yf:∀ n:Nat,n<s0.hp.length→n∉Bf.map (·.1)→sx.hp[n]?=s0.hp[n]?) (Yg:sx.hp.length=s0.hp.length)
  (tE:∀ t,t∈slots0.map (·.1)++dead0→t∈az.map (·.1)++dead) (ha:bm sx s) (hl:sI az dead Bf ext s0 s=true)
  (RX:∀ q,q∈Bf→∃ o,s0.hp[q.1]?=some (some o)∧Start s0.hp o q.2) (abs:vn az (Bf++bc s0.hp.length ext) s=some l):Jk T az dead Bf ext s0 s l:=by
 unfold sI at hl
 simp only[Bool.and_eq_true,decide_eq_true_eq]at hl
 obtain⟨⟨⟨⟨⟨⟨⟨l1,l2⟩,l3⟩,l4⟩,l5⟩,l6⟩,l7⟩,l8⟩:=hl
 refine⟨SM,V6,fun d hd=>?_,l2,ha.fn.trans Yc,ha.n.trans Yd,fun t ht=>?_,fun n hn hm=>?_,l5,l6,l7,l8,RX,abs⟩
 ·have:=List.all_eq_true.1 l1 d hd
  have:=Nat.le_of_ble_eq_true this
  omega
 ·have hw:t∉s.wf:=fun hc=>ht (zl l3 hc)
  rw[ha.fr t hw,Ye t (fun hc=>ht (tE t hc))]
 ·have hw:n∉s.wh:=fun hc=>hm (zl l4 (List.mem_filter.2 ⟨hc,by simpa using hn⟩))
  rw[ha.hp n (by rw[Yg]; exact hn) hw,Yf n hn hm]
end
theorem Bg{T:dm}{az:List (Nat×pj)}{objs:List (Nat×cR)}{s:bA T.den}{l:List (TV T.den)}(h:vn az objs s=some l):∃ l0,kq s.hp objs=some l0:=by
 unfold vn at h
 rw[Option.bind_eq_some_iff]at h
 obtain⟨_,_,h⟩:=h
 rw[Option.map_eq_some_iff]at h
 obtain⟨lb,h,_⟩:=h
 exact⟨lb,h⟩
theorem ML[ab]{T:dm}{az:List (Nat×pj)}{dead:List Nat}{objs:List (Nat×cR)}{ext:List pk}{s:bA T.den}{l:List (TV T.den)}{js:List (Nat×lz)}{st:St}
  (h:RS T { dc az dead objs ext s l with js:=js } st) (hj:js=s.js):RS T (dc az dead objs ext s l) st:=by
 subst hj; exact⟨h.fn,h.n,h.fr,h.hp,h.js⟩
theorem Jt{T:dm}{n:Nat}{s:bA T.den}:(ka n s).js=s.js:=by unfold ka; split<;>rfl
theorem zm[ab]{T:dm}{H:ah T.den}{objs:List (Nat×cR)}{l:List (TV T.den)}(h:kq H objs=some l):qU H H objs=true:=by
 refine List.all_eq_true.2 fun q hq=>?_
 obtain⟨o,_,h1,_⟩:=kG h q hq
 simp[h1]
theorem Cr[ab]{T:dm}{H:ah T.den}{objs:List (Nat×cR)}{l:List (TV T.den)}(h:kq H objs=some l):xu H H objs=true:=by
 refine List.all_eq_true.2 fun q hq=>?_
 obtain⟨o,_,h1,_⟩:=kG h q hq
 split
 ·rfl
 ·simp[h1]
theorem vI[ab]{T:dm}{H:ah T.den}{objs:List (Nat×cR)}{l:List (TV T.den)}(h:kq H objs=some l)(q:Nat×cR)(hq:q∈objs):∃ o,H[q.1]?=some (some o)∧Start H o q.2:=by
 obtain⟨o,ln,h1,h2⟩:=kG h q hq
 exact⟨o,h1,.inl ⟨ln,h2⟩⟩
theorem EL{objs more:List (Nat×cR)}{n:Nat}(h:n∈objs.map (·.1)):n∈(jx objs more).map (·.1):=by
 unfold jx
 rw[List.map_append]
 by_cases hm:n∈more.map (·.1)
 ·exact List.mem_append_right _ hm
 ·simp_all
theorem zo[ab]{T:dm}{H:ah T.den}{l:List (Nat×cR)}(h:HO H l=true)(q:Nat×cR)(hq:q∈l):∃ o,H[q.1]?=some (some o)∧Start H o q.2:=by
 have:=List.all_eq_true.1 h q hq
 split at this
 ·rename_i g cl f c e p h1 h2
  exact⟨_,h1,.inr ⟨.inl ⟨p,h2⟩,g,cl,f,c,e,rfl⟩⟩
 ·rename_i g cl f c e p h1 h2
  exact⟨_,h1,.inr ⟨.inr ⟨p,h2⟩,g,cl,f,c,e,rfl⟩⟩
 ·simp at this
section
variable [ab]{S:oF}(hS:S.Ok)
include hS
theorem Pk{k:Nat}(ih:oU S k){b:Code}{s:bA S.T.den}{h:Hint}{l0:List (TV S.T.den)}{x0:HL S.T.den h.jY}(bI:h.ok=true)(TQ:Cb s.n h.az h.dead=true)(how:sH s.hp.length h.az h.objs=true)
  (po:vn h.az h.objs s=some l0) (Wa:vb h.jY l0=some x0) {st:St} (gC:RS S.T s st) {w:zT S.T.den h.objs h.outs}
  (hw:aI (fun x=>(bA.force { dc h.az h.dead h.objs [] s (gl h.jY x) with wf:=[],wh:=[] } fun s1=>xa S k (HL S.T.den h.jY ⊕ zT S.T.den h.objs h.outs) b s1 fun
       |.norm s'=>
        (match ka s.hp.length s' with
        |uv=>(match decide (uv.js=s.js)&&sI h.az h.dead h.objs [] s uv,(vn h.az h.objs uv).bind (vb h.jY) with
         |true,some y=>ik s.hp uv.hp h.objs (.ret (.inl y))
         |_,_=>.bad (sG b s) none s uv))
       |.exit id s'=>ub (sG b s) h s s' (some id) h.outs fun w=>.ret (.inr w)
       |.ret s'=>ub (sG b s) h s s' none h.outs fun w=>.ret (.inr w)).run) x0=some w) :
  ∃ o x so oo,cS S.C (.loop b) st=some oo∧so=Cc (kb h s o x) o.kind∧EA S.T so oo∧bm s so.st∧∀ {σ:Type} (K':ph S.T.den→Tr σ),(uw h s h.outs w K').run=(K' so).run:=by
 simp only[Hint.ok,Bool.and_eq_true]at bI
 obtain⟨⟨Yh,UE⟩,Yi⟩:=bI
 obtain⟨adD,EM⟩:=Bg po
 have SM:c9 (h.az.map (·.1))=true:=by
  have:∀ {l m:List Nat},c9 (l++m)=true→c9 l=true:=by
   intro l m
   induction l with
   |nil=>intro _; rfl
   |cons x xs ih=>
    simp_all[c9,decide_eq_false_iff_not]
  exact this Yh
 have Yj:∀ d,d∈h.az.map (·.1)++h.dead→d<s.n:=by
  intro d hd
  have:=List.all_eq_true.1 TQ d hd
  have:=Nat.le_of_ble_eq_true this
  omega
 have sxf:∀ x:HL S.T.den h.jY,∀ l,vn h.az h.objs s=some l→True:=fun _ _ _=>trivial
 clear sxf
 have ow:∀ (x:HL S.T.den h.jY) (sc:bA S.T.den) (lc:List (TV S.T.den)),Jk S.T h.az h.dead h.objs [] s sc lc→sc.js=s.js→gl h.jY x=lc→∀ (Yk:St),RS S.T sc Yk →
   RS S.T (dc h.az h.dead h.objs [] s (gl h.jY x)) Yk∧(dc h.az h.dead h.objs [] s (gl h.jY x)).hp.length=s.hp.length ∧
   (∀ n:Nat,n<s.hp.length→n∉h.objs.map (·.1)→(dc h.az h.dead h.objs [] s (gl h.jY x)).hp[n]?=s.hp[n]?) ∧
   (∀ t,t∉h.az.map (·.1)++h.dead→cL (dc h.az h.dead h.objs [] s (gl h.jY x)).fr t=cL s.fr t) ∧
   (dc h.az h.dead h.objs [] s (gl h.jY x)).fn=s.fn∧(dc h.az h.dead h.objs [] s (gl h.jY x)).n=s.n:=by
  intro x sc lc ho hj hx Yk Yl
  obtain⟨r1,r2,r3,r4,r5,r6,_⟩:=H4 hS.T ho gC Yl
  rw[hx]
  refine⟨ML r1 hj,?_,r3,r4,r5,r6⟩
  rw[r2,ho.len]; rfl
 have main:∀ (n:Nat) (x:HL S.T.den h.jY) (stx:St),RS S.T (dc h.az h.dead h.objs [] s (gl h.jY x)) stx→(dc h.az h.dead h.objs [] s (gl h.jY x)).hp.length=s.hp.length →
   (∀ n:Nat,n<s.hp.length→n∉h.objs.map (·.1)→(dc h.az h.dead h.objs [] s (gl h.jY x)).hp[n]?=s.hp[n]?) →
   (∀ t,t∉h.az.map (·.1)++h.dead→cL (dc h.az h.dead h.objs [] s (gl h.jY x)).fr t=cL s.fr t) →
   (dc h.az h.dead h.objs [] s (gl h.jY x)).fn=s.fn→(dc h.az h.dead h.objs [] s (gl h.jY x)).n=s.n →
   kV (fun x=>(bA.force { dc h.az h.dead h.objs [] s (gl h.jY x) with wf:=[],wh:=[] } fun s1=>xa S k (HL S.T.den h.jY ⊕ zT S.T.den h.objs h.outs) b s1 fun
           |.norm s'=>
            (match ka s.hp.length s' with
            |uv=>(match decide (uv.js=s.js)&&sI h.az h.dead h.objs [] s uv,(vn h.az h.objs uv).bind (vb h.jY) with
             |true,some y=>ik s.hp uv.hp h.objs (.ret (.inl y))
             |_,_=>.bad (sG b s) none s uv))
           |.exit id s'=>ub (sG b s) h s s' (some id) h.outs fun w=>.ret (.inr w)
           |.ret s'=>ub (sG b s) h s s' none h.outs fun w=>.ret (.inr w)).run) n x=some w →
   ∃ o x so oo,cS S.C (.loop b) stx=some oo∧so=Cc (kb h s o x) o.kind∧EA S.T so oo∧bm s so.st∧∀ {σ:Type} (K':ph S.T.den→Tr σ),(uw h s h.outs w K').run=(K' so).run:=by
  intro n
  induction n with
  |zero=>intro x stx _ _ _ _ _ _ hn; simp[kV]at hn
  |succ n ihn=>
   intro x stx EZ hlen R8 Cn ru NC hn
   rw[kV]at hn
   generalize Ju:({ dc h.az h.dead h.objs [] s (gl h.jY x) with wf:=[],wh:=[] }:bA S.T.den)=sx at hn
   have R9:RS S.T sx stx:=by rw[←Ju]; exact⟨EZ.fn,EZ.n,EZ.fr,EZ.hp,EZ.js⟩
   have e1:sx.fn=s.fn:=by rw[←Ju]; exact ru
   have e2:sx.n=s.n:=by rw[←Ju]; exact NC
   have e3:∀ t,t∉h.az.map (·.1)++h.dead→cL sx.fr t=cL s.fr t:=by rw[←Ju]; exact Cn
   have e4:∀ n:Nat,n<s.hp.length→n∉h.objs.map (·.1)→sx.hp[n]?=s.hp[n]?:=by rw[←Ju]; exact R8
   have e5:sx.hp.length=s.hp.length:=by rw[←Ju]; exact hlen
   rw[force_eq]at hn
   have pR:∀ q,(xa S k (HL S.T.den h.jY ⊕ zT S.T.den h.objs h.outs) b sx fun
       |.norm s'=>
        (match ka s.hp.length s' with
        |uv=>(match decide (uv.js=s.js)&&sI h.az h.dead h.objs [] s uv,(vn h.az h.objs uv).bind (vb h.jY) with
         |true,some y=>ik s.hp uv.hp h.objs (.ret (.inl y))
         |_,_=>.bad (sG b s) none s uv))
       |.exit id s'=>ub (sG b s) h s s' (some id) h.outs fun w=>.ret (.inr w)
       |.ret s'=>ub (sG b s) h s s' none h.outs fun w=>.ret (.inr w)).run=some q →
     (∃ y,q=.inl y∧∃ GL,cS S.C b stx=some (.norm GL)∧RS S.T (dc h.az h.dead h.objs [] s (gl h.jY y)) (gW stx.hp.length GL)∧(dc h.az h.dead h.objs [] s (gl h.jY y)).hp.length=s.hp.length ∧
       (∀ n:Nat,n<s.hp.length→n∉h.objs.map (·.1)→(dc h.az h.dead h.objs [] s (gl h.jY y)).hp[n]?=s.hp[n]?) ∧
       (∀ t,t∉h.az.map (·.1)++h.dead→cL (dc h.az h.dead h.objs [] s (gl h.jY y)).fr t=cL s.fr t) ∧
       (dc h.az h.dead h.objs [] s (gl h.jY y)).fn=s.fn∧(dc h.az h.dead h.objs [] s (gl h.jY y)).n=s.n) ∨
     (∃ w',q=.inr w'∧∃ o x so oo,cS S.C b stx=some oo∧(∀ s',oo≠.norm s')∧so=Cc (kb h s o x) o.kind∧EA S.T so oo∧bm s so.st∧∀ {σ:Type} (K':ph S.T.den→Tr σ),(uw h s h.outs w' K').run=(K' so).run):=by
    intro q hq
    obtain⟨so,o,c1,c2,c3,c4⟩:=ih.c _ _ _ _ _ _ R9 hq
    have leave:∀ (kind:Option Nat) (s':bA S.T.den) (GL:St),RS S.T s' GL→bm sx s'→(ub (sG b s) h s s' kind h.outs fun w=>(.ret (.inr w):Tr (HL S.T.den h.jY ⊕ zT S.T.den h.objs h.outs))).run=some q →
      ∃ w',q=.inr w'∧∃ o x,o.kind=kind∧RS S.T (kb h s o x) GL∧bm s (kb h s o x)∧∀ {σ:Type} (K':ph S.T.den→Tr σ),(uw h s h.outs w' K').run=(K' (Cc (kb h s o x) o.kind)).run:=by
     intro kind s' GL fp ha hq
     obtain⟨o,x,w',d1,d2,d3,d4,d5,d6⟩:=Be hq
     simp only[Tr.run,Option.some.injEq]at d4
     refine⟨w',d4.symm,o,x,d2,?_⟩
     unfold I8 at d3
     split at d3
     case h_2=>simp at d3
     rename_i hc
     simp only[Bool.and_eq_true,decide_eq_true_eq]at hc
     obtain⟨hc,NB,XK,Ym⟩:=hc
     rw[Option.bind_eq_some_iff]at d3
     obtain⟨lx,d7,d8⟩:=d3
     have UF:∀ q,q∈jx h.objs o.more→∃ o,s.hp[q.1]?=some (some o)∧Start s.hp o q.2:=fun q hq=>by
      rcases List.mem_append.1 hq with hq|hq
      ·exact vI EM q (List.mem_filter.1 hq).1
      ·exact zo Ym q hq
     have xb:Jk S.T o.az (h.az.map (·.1)++h.dead) (jx h.objs o.more) o.ext s s' lx:=
      H8 (slots0:=h.az) (dead0:=h.dead) (List.all_eq_true.1 Yi o d1) XK e1 e2 e3 (fun n hn hm=>e4 n hn (fun hc=>hm (EL hc))) e5 (fun t ht=>List.mem_append_right _ ht) ha NB UF d7
     obtain⟨r1,r2,r3,r4,r5,r6,r7⟩:=H4 hS.T xb gC fp
     have ex:=oP _ _ _ d8
     refine⟨?_,?_,d6⟩
     ·unfold kb
      rw[ex]
      exact⟨r1.fn,r1.n,r1.fr,r1.hp,by rw[←hc.2]; exact r1.js⟩
     ·unfold kb
      rw[ex]
      refine⟨r5,r6,fun t ht=>r4 t ?_,fun t ht=>?_,fun n hn hw=>r3 n hn ?_,fun n hn=>?_,?_,?_⟩
      ·simp only[List.mem_append,not_or]at ht ⊢
       exact⟨ht.1,ht.2.1,ht.2.2.1⟩
      ·simp only[List.mem_append]
       exact .inr (.inr (.inr ht))
      ·exact fun hc=>hw (List.mem_append_left _ hc)
      ·exact List.mem_append_right _ hn
      ·simp only
       rw[r2,xb.len]
       omega
      ·intro n o' db
       have hn:=(List.getElem?_eq_some_iff.1 db).1
       by_cases hm:n∈(jx h.objs o.more).map (·.1)
       ·obtain⟨qq,Wb,rfl⟩:=List.mem_map.1 hm
        obtain⟨o0,os,of,g1,g2,g3,g4,g5⟩:=r7 qq Wb
        rw[g1]at db
        simp only[Option.some.injEq]at db
        subst db
        refine⟨of,g3,by rw[g5]; exact H3 _ _,fun ec=>?_⟩
        rw[g4]
        rw[g5]at ec
        obtain⟨oo,m1,m2⟩:=UF qq Wb
        rw[g1]at m1
        simp only[Option.some.injEq]at m1
        subst m1
        have UG:=Bg d7
        obtain⟨lS,hlS⟩:=UG
        obtain⟨oo2,ln2,m3,m4⟩:=kG hlS qq (List.mem_append_left _ Wb)
        rw[g2]at m3
        simp only[Option.some.injEq]at m3
        subst m3
        cases hp:qq.2 with
        |list t=>rw[hp]at ec; simp[Cl]at ec
        |fix t=>
         rcases List.mem_append.1 Wb with hG|hG
         ·exact d5 qq (List.mem_filter.1 hG).1 t hp o0 os g1 g2
         ·obtain⟨_,_,m5⟩:=zo Ym qq hG
          rw[hp]at m2
          have:=List.all_eq_true.1 Ym qq hG
          rw[hp]at this
          simp at this
        |map kk t=>
         rw[hp]at m2 m4
         rcases m2 with ⟨ln,m2⟩|⟨⟨_,m2⟩|⟨_,m2⟩,_⟩
         ·obtain⟨_,rfl,_⟩:=um m2
          obtain⟨_,rfl,_⟩:=um m4
          rfl
         ·cases m2
         ·cases m2
        |one p=>
         rw[hp]at m2 m4
         simp only[eD]at m4
         split at m4
         case h_2=>simp at m4
         rcases m2 with ⟨ln,m2⟩|⟨_,_,_,_,_,_,rfl⟩
         ·simp only[eD]at m2
          split at m2
          case h_2=>simp at m2
          rfl
         ·rfl
        |agg p=>
         rw[hp]at m2 m4
         simp only[eD]at m4
         split at m4
         case h_2=>simp at m4
         rcases m2 with ⟨ln,m2⟩|⟨_,_,_,_,_,_,rfl⟩
         ·simp only[eD]at m2
          split at m2
          case h_2=>simp at m2
          rfl
         ·rfl
       ·exact⟨o',by simp only; rw[r3 n hn hm]; exact db,Nat.le_refl _,fun _=>rfl⟩
    cases so with
    |norm s'=>
     left
     obtain⟨GL,rfl,fp⟩:=c2
     simp only at c4
     split at c4
     ·rename_i y hl hy
      simp only[Bool.and_eq_true,decide_eq_true_eq]at hl
      obtain⟨OO,hl⟩:=hl
      obtain⟨c5,_⟩:=dH c4
      simp only[Tr.run,Option.some.injEq]at c5
      rw[Option.bind_eq_some_iff]at hy
      obtain⟨ly,yX,wI⟩:=hy
      have hr:=Eu (n:=s.hp.length) hS.T fp (fun m x hm=>by
       rw[Jt]at OO
       rw[OO]at hm
       exact jD (gC.js m x hm).1)
      have o6:bm sx (ka s.hp.length s'):=by
       have:=wJ R9 c3
       rw[e5]at this
       exact this
      have xb:Jk S.T h.az h.dead h.objs [] s (ka s.hp.length s') ly:=
       H8 (slots0:=h.az) (dead0:=h.dead) SM UE e1 e2 e3 e4 e5 (fun t ht=>ht) o6 hl (vI EM) (by simpa[bc] using yX)
      have hle:stx.hp.length=s.hp.length:=by rw[←e5]; exact R9.hp.length.symm
      refine⟨y,c5.symm,GL,c1,?_⟩
      rw[hle]
      exact ow y _ ly xb OO (oP _ _ _ wI) _ hr
     ·simp[Tr.run]at c4
    |exit id s'=>
     right
     obtain⟨GL,rfl,fp⟩:=c2
     obtain⟨w',f1,o',x',f2,f3,f4,f5⟩:=leave (some id) s' GL fp c3 c4
     refine⟨w',f1,o',x',Cc (kb h s o' x') o'.kind,_,c1,by simp,rfl,?_,?_,f5⟩
     ·rw[f2]; exact⟨GL,rfl,f3⟩
     ·rw[f2]; exact f4
    |ret s'=>
     right
     obtain⟨GL,rfl,fp⟩:=c2
     obtain⟨w',f1,o',x',f2,f3,f4,f5⟩:=leave none s' GL fp c3 c4
     refine⟨w',f1,o',x',Cc (kb h s o' x') o'.kind,_,c1,by simp,rfl,?_,?_,f5⟩
     ·rw[f2]; exact⟨GL,rfl,f3⟩
     ·rw[f2]; exact f4
   split at hn
   ·rename_i y hy
    rcases pR _ hy with ⟨y',e,GL,g1,g2,g3,g4,g5,g6,g7⟩|⟨w',e,_⟩
    ·simp only[Sum.inl.injEq]at e
     subst e
     obtain⟨o,x',so,oo,i1,i2⟩:=ihn _ _ g2 g3 g4 g5 g6 g7 hn
     refine⟨o,x',so,oo,?_,i2⟩
     rw[nK,g1]
     exact i1
    ·simp at e
   ·rename_i w2 Rp
    simp only[Option.some.injEq]at hn
    subst hn
    rcases pR _ Rp with ⟨y',e,_⟩|⟨w',e,o,x',so,oo,g1,g2,g3⟩
    ·simp at e
    ·simp only[Sum.inr.injEq]at e
     subst e
     refine⟨o,x',so,oo,?_,g3⟩
     rw[nK,g1]
     cases oo with
     |norm s'=>exact absurd rfl (g2 s')
     |_=>rfl
   ·simp at hn
 obtain⟨n,hn⟩:=oV.1 hw
 have xb:Jk S.T h.az h.dead h.objs [] s s l0:=⟨SM,UE,Yj,by simpa[bc] using how,rfl,rfl,fun _ _=>rfl,fun _ _ _=>rfl,rfl,zm EM,Cr EM,rfl,vI EM,by simpa[bc] using po⟩
 obtain⟨r1,r2,r3,r4,r5,r6⟩:=ow x0 s l0 xb rfl (oP _ _ _ Wa) st gC
 exact main n x0 st r1 r2 r3 r4 r5 r6 hn
def DR(T:dm)(H:ah T.den):Option (SV T.den)→Option AV→Prop
 |none,none=>True
 |some v,some a=>RV T H v a
 |_,_=>False
omit hS in
theorem Pm{k:Nat}(ih:oU S k){ρ:Type}:∀ (c:Code) {s:bA S.T.den} {K:ph S.T.den→Option (SV S.T.den)→Tr ρ} {r:ρ} {st:St},RS S.T s st→(L5 (fun c s K=>xa S k ρ c s K) (fun o s K=>OX S k ρ o s K) c s K).run=some r →
  ∃ so d o da,z8 (cS S.C) (hY S.C) c st=some (o,da)∧EA S.T so o∧bm s so.st∧DR S.T so.st.hp d da∧(K so d).run=some r:=by
 have leaf:∀ (c:Code) {s:bA S.T.den} {K:ph S.T.den→Option (SV S.T.den)→Tr ρ} {r:ρ} {st:St},RS S.T s st→(xa S k ρ c s fun o=>K o none).run=some r →
   ∃ so d o da,((cS S.C c st).map fun o=>(o,(none:Option AV)))=some (o,da)∧EA S.T so o∧bm s so.st∧DR S.T so.st.hp d da∧(K so d).run=some r:=by
  intro c s K r st h hk
  obtain⟨so,o,c1,c2,c3,hk⟩:=ih.c _ _ _ _ _ _ h hk
  exact⟨so,none,o,none,by rw[c1]; rfl,c2,c3,trivial,hk⟩
 intro c
 induction c with
 |seq x y _ Ko=>
  intro s K r st h hk
  simp only[L5]at hk
  cases hd:tj x with
  |some q=>
   obtain⟨ops,v⟩:=q
   rw[hd]at hk
   simp only at hk
   rw[ra]at hk
   obtain⟨s1,V8,g1,g2,g3,hk⟩:=qp (C:=S.C) (fun o s st K h hk=>ih.o _ _ _ _ _ _ h hk) _ _ _ _ h hk
   split at hk
   case h_2=>simp[Tr.run]at hk
   rename_i q cB
   obtain⟨g,l⟩:=q
   obtain⟨m,hm,_⟩:=gu (g2.ev v) (args:=[]) (as:=[]) trivial cB
   obtain⟨so,o,c1,c2,c3,hk⟩:=ih.c _ _ _ _ _ _ g2 hk
   refine⟨so,some (cX s1.fr v),o,some (ay V8.fr v),?_,c2,g3.trans c3,(g2.ev v).mono c3.grow,hk⟩
   simp only[z8,hd,pT,g1,hm,c1]
   rfl
  |none=>
   rw[hd]at hk
   simp only at hk
   obtain⟨so,o,c1,c2,c3,hk⟩:=ih.c _ _ _ _ _ _ h hk
   cases so with
   |norm s'=>
    obtain⟨st',rfl,fp⟩:=c2
    obtain⟨R5,d2,o2,da2,e1,e2,e3,e4,hk⟩:=Ko fp hk
    exact⟨R5,d2,o2,da2,by simp only[z8,hd,c1]; exact e1,e2,c3.trans e3,e4,hk⟩
   |ret s'=>
    obtain⟨st',rfl,fp⟩:=c2
    exact⟨.ret s',none,_,none,by simp only[z8,hd,c1],⟨st',rfl,fp⟩,c3,trivial,hk⟩
   |exit id s'=>
    obtain⟨st',rfl,fp⟩:=c2
    exact⟨.exit id s',none,_,none,by simp only[z8,hd,c1],⟨st',rfl,fp⟩,c3,trivial,hk⟩
 |_=>intro s K r st h hk; simp only[L5,z8]at hk ⊢; exact leaf _ h hk
theorem MM{k:Nat}(ih:oU S k){ρ:Type}{s:bA S.T.den}{st:St}{d:Option (SV S.T.den)}{da:Option AV}{rs:List ResultVar}{K:List (SV S.T.den)→ah S.T.den→List Nat→List (Nat×lz)→Tr ρ}{r:ρ}(h:RS S.T s st)(hd:DR S.T s.hp d da)
  (hk:(DZ (fun c s K=>xa S k ρ c s K) S.Q S.C.P rs s d K).run=some r):∃ l cr pe rf m eY,uA (cS S.C) S.C.P rs st.fr st.hp da=some (.val (cE m),eY)∧RL S.T cr l m∧RH S.T cr eY∧kT rf cr eY∧dy s.hp cr∧s.hp.length≤cr.length ∧
    (∀ n:Nat,n<s.hp.length→n∉pe→cr[n]?=s.hp[n]?)∧(∀ n,n∈s.wh→n∈pe)∧(K l cr pe rf).run=some r:=by
 cases d with
 |none=>
  cases da with
  |some a=>exact hd.elim
  |none=>
   simp only[DZ]at hk
   obtain⟨l,m,g1,g2,hk⟩:=oQ hS.T hS.Q h hk
   have Ou:(aW S.C.P st.fr rs).run st.hp=some m:=g1
   exact⟨l,s.hp,s.wh,s.js,m,st.hp,by simp only[uA,Ff,Ou],g2,h.hp,h.js,dy.refl _,Nat.le_refl _,fun _ _ _=>rfl,fun _ h=>h,hk⟩
 |some v=>
  cases da with
  |none=>exact hd.elim
  |some a=>
   have hd:RV S.T s.hp v a:=hd
   simp only[DZ]at hk
   split at hk
   ·simp[Tr.run]at hk
   rename_i g as cB
   split at hk
   ·simp[Tr.run]at hk
   rename_i fg NX
   split at hk
   ·simp[Tr.run]at hk
   rename_i cg NY
   split at hk
   ·simp[Tr.run]at hk
   rename_i Yn
   simp only[Bool.and_eq_true,Bool.not_eq_true']at Yn
   obtain⟨m,hm,Xb⟩:=gu hd (args:=[]) (as:=[]) trivial cB
   rw[force_eq]at hk
   have gC:=ze (f:=g) (Xb Yn.2) h.hp fg.ntmps s.wh h.js
   obtain⟨so,o,c1,c2,c3,hk⟩:=ih.c _ _ _ _ _ _ gC hk
   have fin:∀ (t:bA S.T.den) (tt:St),RS S.T t tt→bm ⟨g,max fg.ntmps as.length,mN 0 as,s.hp,[],s.wh,s.js⟩ t→(o=.norm tt∨o=.ret tt) →
     (sE S.T S.Q t fg.results.toList fun _=>sE S.T S.Q ⟨s.fn,s.n,s.fr,t.hp,s.wf,t.wh,t.js⟩ rs fun l=>K l t.hp t.wh t.js).run=some r →
     ∃ l cr pe rf m eY,uA (cS S.C) S.C.P rs st.fr st.hp (some a)=some (.val (cE m),eY)∧RL S.T cr l m∧RH S.T cr eY∧kT rf cr eY∧dy s.hp cr∧s.hp.length≤cr.length ∧
       (∀ n:Nat,n<s.hp.length→n∉pe→cr[n]?=s.hp[n]?)∧(∀ n,n∈s.wh→n∈pe)∧(K l cr pe rf).run=some r:=by
    intro t tt ht o6 ho hk
    obtain⟨l1,m1,f1,_,hk⟩:=oQ hS.T hS.Q ht hk
    have f1':(aW S.C.P tt.fr fg.results.toList).run tt.hp=some m1:=f1
    have BB:RS S.T ⟨s.fn,s.n,s.fr,t.hp,s.wf,t.wh,t.js⟩ ⟨st.fn,st.fr,tt.hp⟩:=⟨h.fn,h.n,fun x=>(h.fr x).mono o6.grow,ht.hp,ht.js⟩
    obtain⟨l,m2,g1,g2,hk⟩:=oQ hS.T hS.Q BB hk
    have Ou:(aW S.C.P st.fr rs).run tt.hp=some m2:=g1
    refine⟨l,t.hp,t.wh,t.js,m2,tt.hp,?_,g2,ht.hp,ht.js,o6.grow,o6.len,o6.hp,o6.wh,hk⟩
    simp only[uA,hm,NX,NY,Yn.1,c1]
    rcases ho with rfl|rfl<;>simp only[f1',Ff,Ou]
   cases so with
   |norm t=>
    obtain⟨tt,rfl,ht⟩:=c2
    exact fin t tt ht c3 (.inl rfl) hk
   |ret t=>
    obtain⟨tt,rfl,ht⟩:=c2
    exact fin t tt ht c3 (.inr rfl) hk
   |exit id t=>simp[Tr.run]at hk
theorem Sa{k:Nat}(ih:oU S k){ρ:Type}{f:FuncId}{args:List (SV S.T.den)}{hp:ah S.T.den}{wh:List Nat}{js:List (Nat×lz)}{K:SV S.T.den→ah S.T.den→List Nat→List (Nat×lz)→Tr ρ}{r:ρ}{as:List AV}{Pf:ag}
  (ha:RL S.T hp args as) (hh:RH S.T hp Pf) (hj:kT js hp Pf) (hk:(Qb S (k+1) ρ f args hp wh js K).run=some r):∃ v cr pe rf a eY,iv S.C f as Pf=some (.val a,eY)∧R S.T cr v a∧RH S.T cr eY∧kT rf cr eY∧dy hp cr∧hp.length≤cr.length ∧
    (∀ n:Nat,n<hp.length→n∉pe→cr[n]?=hp[n]?)∧(∀ n,n∈wh→n∈pe)∧(K v cr pe rf).run=some r:=by
 unfold Qb at hk
 split at hk
 ·simp[Tr.run]at hk
 rename_i fn ru
 split at hk
 ·simp[Tr.run]at hk
 rename_i c hc
 rw[n9,force_eq]at hk
 have gC:=ze (f:=f) ha hh fn.ntmps wh hj
 split at hk
 ·rename_i hD
  split at hk
  case h_2=>simp[Tr.run]at hk
  rename_i hn
  obtain⟨so,d,o,da,c1,c2,c3,c4,hk⟩:=Pm ih c gC hk
  have fin:∀ (s:bA S.T.den) (st:St),RS S.T s st→bm ⟨f,max fn.ntmps args.length,mN 0 args,hp,[],wh,js⟩ s→DR S.T s.hp d da→(o=.norm st∨o=.ret st) →
    (DZ (fun c s K=>xa S k ρ c s K) S.Q S.C.P fn.results.toList s d fun l hp wh js=>K (rA l) hp wh js).run=some r →
    ∃ v cr pe rf a eY,iv S.C f as Pf=some (.val a,eY)∧R S.T cr v a∧RH S.T cr eY∧kT rf cr eY∧dy hp cr∧hp.length≤cr.length ∧
    (∀ n:Nat,n<hp.length→n∉pe→cr[n]?=hp[n]?)∧(∀ n,n∈wh→n∈pe)∧(K v cr pe rf).run=some r:=by
   intro s st hs o6 Ol ho hk
   obtain⟨l,cr,pe,rf,m,eY,e1,e2,e3,e4,e5,e6,e7,e8,hk⟩:=MM hS ih hs Ol hk
   refine⟨rA l,cr,pe,rf,cE m,eY,?_,HX e2,e3,e4,o6.grow.trans e5,Nat.le_trans o6.len e6,fun n hn hw=>?_,fun n hn=>e8 n (o6.wh n hn),hk⟩
   ·refine Ks ru hc hD ?_
    unfold uB
    rw[hn,c1]
    rcases ho with rfl|rfl<;>exact e1
   ·rw[e7 n (Nat.lt_of_lt_of_le hn o6.len) hw]
    exact o6.hp n hn fun h=>hw (e8 n h)
  cases so with
  |norm s=>
   obtain⟨st,rfl,hs⟩:=c2
   exact fin s st hs c3 c4 (.inl rfl) hk
  |ret s=>
   obtain⟨st,rfl,hs⟩:=c2
   exact fin s st hs c3 c4 (.inr rfl) hk
  |exit id s=>simp[Tr.run]at hk
 rename_i hD
 obtain⟨so,o,c1,c2,c3,hk⟩:=ih.c _ _ _ _ _ _ gC hk
 have fin:∀ (s:bA S.T.den) (st:St),RS S.T s st→bm ⟨f,max fn.ntmps args.length,mN 0 args,hp,[],wh,js⟩ s→(Kr S.C fn.results o=((aW S.C.P st.fr fn.results.toList).run st.hp).map fun l=>(.val (cE l),st.hp)) →
   (sE S.T S.Q s fn.results.toList fun l=>K (rA l) s.hp s.wh s.js).run=some r →
   ∃ v cr pe rf a eY,iv S.C f as Pf=some (.val a,eY)∧R S.T cr v a∧RH S.T cr eY∧kT rf cr eY∧dy hp cr∧hp.length≤cr.length ∧
   (∀ n:Nat,n<hp.length→n∉pe→cr[n]?=hp[n]?)∧(∀ n,n∈wh→n∈pe)∧(K v cr pe rf).run=some r:=by
  intro s st hs o6 he hk
  obtain⟨l,m,g1,g2,hk⟩:=oQ hS.T hS.Q hs hk
  refine⟨rA l,s.hp,s.wh,s.js,cE m,st.hp,?_,HX g2,hs.hp,hs.js,o6.grow,o6.len,o6.hp,o6.wh,hk⟩
  rw[xh ru hc _ _ hD,c1]
  simp only[Option.bind_some]
  rw[he]
  have Ou:(aW S.C.P st.fr fn.results.toList).run st.hp=some m:=g1
  rw[Ou]
  rfl
 cases so with
 |norm s=>
  obtain⟨st,rfl,hs⟩:=c2
  exact fin s st hs c3 rfl hk
 |ret s=>
  obtain⟨st,rfl,hs⟩:=c2
  exact fin s st hs c3 rfl hk
 |exit id s=>simp[Tr.run]at hk
theorem Sb{k:Nat}(ih:oU S k){ρ:Type}{c:Code}{s:bA S.T.den}{K:ph S.T.den→Tr ρ}{r:ρ}{st:St}(h:RS S.T s st)(hk:(xa S (k+1) ρ c s K).run=some r):
  ∃ so o,cS S.C c st=some o∧EA S.T so o∧bm s so.st∧(K so).run=some r:=by
 unfold xa at hk
 split at hk
 ·exact⟨.norm s,_,nJ st,⟨st,rfl,h⟩,bm.refl _,hk⟩
 ·exact⟨.norm s,_,Fu _ st,⟨st,rfl,h⟩,bm.refl _,hk⟩
 ·exact⟨.ret s,_,tx st,⟨st,rfl,h⟩,bm.refl _,hk⟩
 ·rename_i id
  exact⟨.exit id s,_,uJ id st,⟨st,rfl,h⟩,bm.refl _,hk⟩
 ·rename_i a b
  obtain⟨so,o,c1,c2,c3,hk⟩:=ih.c _ _ _ _ _ _ h hk
  rw[gd,c1]
  cases so with
  |norm s'=>
   obtain⟨st',rfl,fp⟩:=c2
   obtain⟨R5,o2,d1,d2,d3,hk⟩:=ih.c _ _ _ _ _ _ fp hk
   exact⟨R5,o2,d1,d2,c3.trans d3,hk⟩
  |exit id s'=>
   obtain⟨st',rfl,fp⟩:=c2
   exact⟨.exit id s',_,rfl,⟨st',rfl,fp⟩,c3,hk⟩
  |ret s'=>
   obtain⟨st',rfl,fp⟩:=c2
   exact⟨.ret s',_,rfl,⟨st',rfl,fp⟩,c3,hk⟩
 ·rename_i o a b
  split at hk
  ·rename_i t ht
   have ha:=(h.ev o).lit ht
   rw[jQ,ha]
   rcases fF hk with ⟨rfl,hk⟩|⟨rfl,hk⟩
   ·exact ih.c _ _ _ _ _ _ h hk
   ·exact ih.c _ _ _ _ _ _ h hk
  ·simp[Tr.run]at hk
 ·rename_i id b
  obtain⟨so,o,c1,c2,c3,hk⟩:=ih.c _ _ _ _ _ _ h hk
  rw[lP,c1]
  cases so with
  |norm s'=>
   obtain⟨st',rfl,fp⟩:=c2
   exact⟨.norm s',_,rfl,⟨st',rfl,fp⟩,c3,hk⟩
  |exit J0 s'=>
   obtain⟨st',rfl,fp⟩:=c2
   simp only at hk
   by_cases e:J0=id
   ·rw[if_pos e]at hk
    exact⟨.norm s',.norm st',by simp[uK,e],⟨st',rfl,fp⟩,c3,hk⟩
   ·rw[if_neg e]at hk
    exact⟨.exit J0 s',.exit J0 st',by simp[uK,e],⟨st',rfl,fp⟩,c3,hk⟩
  |ret s'=>
   obtain⟨st',rfl,fp⟩:=c2
   exact⟨.ret s',_,rfl,⟨st',rfl,fp⟩,c3,hk⟩
 ·rename_i b
  split at hk
  case h_2=>simp[Tr.run]at hk
  rename_i c hc
  obtain⟨so,o,c1,c2,c3,hk⟩:=ih.c _ _ _ _ _ _ h hk
  exact⟨so,o,Fv hc c1,c2,c3,hk⟩
 ·rename_i b
  split at hk
  ·split at hk
   ·obtain⟨so,o,c1,c2,c3,hk⟩:=ih.c _ _ _ _ _ _ h hk
    rw[nK,c1]
    cases so with
    |norm s'=>
     obtain⟨st',rfl,fp⟩:=c2
     simp only at hk
     split at hk
     case h_2=>simp[Tr.run]at hk
     rename_i Cp
     rw[force_eq]at hk
     have hr:=Eu (n:=s.hp.length) hS.T fp (A9 Cp)
     have o6:=wJ h c3
     obtain⟨R5,o2,d1,d2,d3,hk⟩:=ih.c _ _ _ _ _ _ hr hk
     refine⟨R5,o2,?_,d2,o6.trans d3,hk⟩
     simp only[Option.bind_some,Kq]
     rw[←h.hp.length]
     exact d1
    |exit id s'=>
     obtain⟨st',rfl,fp⟩:=c2
     exact⟨.exit id s',_,rfl,⟨st',rfl,fp⟩,c3,hk⟩
    |ret s'=>
     obtain⟨st',rfl,fp⟩:=c2
     exact⟨.ret s',_,rfl,⟨st',rfl,fp⟩,c3,hk⟩
   ·simp[Tr.run]at hk
  ·rename_i hi _
   split at hk
   ·rename_i x0 bI Wa
    simp only[Bool.and_eq_true]at bI
    rw[Option.bind_eq_some_iff]at Wa
    obtain⟨l0,h1,h2⟩:=Wa
    simp only[Tr.run,Option.bind_eq_some_iff]at hk
    obtain⟨w,hw,hk⟩:=hk
    obtain⟨o,x,so,oo,g1,g2,g3,g4,g5⟩:=Pk hS ih bI.1.1 bI.1.2 bI.2 h1 h2 h hw
    exact⟨so,oo,g1,g3,g4,by rw[←g5]; exact hk⟩
   ·simp[Tr.run]at hk
 ·rename_i id ops draw
  split at hk
  ·obtain⟨s00,Yo,Yp,hk⟩:=vH h hk
   obtain⟨s0,e1,e2,hk⟩:=Cq hS.T Yo hk
   replace e2:=Yp.trans e2
   rw[ra]at hk
   obtain⟨s',st',g1,g2,g3,hk⟩:=qp (C:=S.C) (fun o s st K h hk=>ih.o _ _ _ _ _ _ h hk) _ _ _ _ e1 hk
   exact⟨.norm s',.norm st',by rw[Av,←h.fn]; exact g1,⟨st',rfl,g2⟩,e2.trans g3,hk⟩
  ·split at hk
   case isFalse=>simp[Tr.run]at hk
   rename_i Oq
   generalize hm:S.C.head s.fn id ops=m at hk
   have key:∀ (s:bA S.T.den) (st:St),RS S.T s st→(oI ops ops.toList fun l=>yJ (mh (bH 0 s.hp.length (ops.toList.take m)) l) fun li=>sJ (fun nm o s K=>VV S nm o s K) li
       { s with hp:=s.hp++List.replicate ((ops.toList.take m).filter fun o=>au o.op).length none } [] fun s' fs=>
      if (qV (cd ops.toList) fs && mZ (cd ops.toList) ops.size m) = true then wB (fun o s K => OX S k ρ o s K) (l.drop m) s' fun s' => K (.norm s') else .no "an order").run = some r →
     ∃ so o,(tz S.C ops (bH 0 st.hp.length (ops.toList.take m)) { st with hp:=st.hp++List.replicate ((ops.toList.take m).filter fun o=>au o.op).length none }).bind (Hd S.C ops m)=some o ∧
       EA S.T so o∧bm s so.st∧(K so).run=some r:=by
    clear hk h
    intro s st h hk
    rw[ra,A6,rO]at hk
    have Yq:∀ n:Nat,dy s.hp (s.hp++List.replicate n none)∧RH S.T (s.hp++List.replicate n none) (st.hp++List.replicate n none):=by
     intro n
     have hg:dy s.hp (s.hp++List.replicate n none):=fun m o ho=>⟨o,by rw[List.getElem?_append_left (List.getElem?_eq_some_iff.1 ho).1]; exact ho,Nat.le_refl _,fun _=>rfl⟩
     exact⟨hg,aw.append (aw.mono (fun _ _=>Ce.mono hg) h.hp) (aw.replicate (show Ce S.T _ none none from trivial) n)⟩
    generalize Yr:((ops.toList.take m).filter fun o=>au o.op).length=SP at hk
    have m9:RS S.T { s with hp:=s.hp++List.replicate SP none } { st with hp:=st.hp++List.replicate SP none }:=
     ⟨h.fn,h.n,fun t=>(h.fr t).mono (Yq SP).1,(Yq SP).2,h.js.zX fun n hn=>⟨by simp only; rw[List.getElem?_append_left (jD hn)],by simp only; rw[List.getElem?_append_left (by rw[←h.hp.length]; exact jD hn)]⟩⟩
    have Ys:bm s { s with hp:=s.hp++List.replicate SP none }:=
     ⟨rfl,rfl,fun _ _=>rfl,fun _ h=>h,fun n hn _=>by simp only; rw[List.getElem?_append_left hn],fun _ h=>h,by simp,(Yq SP).1⟩
    obtain⟨s',st',RT,Od,g1,g2,g3,g4,hk⟩:=vC (C:=S.C) (ops:=ops) (fun nm o s st K h hn hk=>R3 hS h hn hk) (bH 0 s.hp.length (ops.toList.take m)) s.hp.length _ _ [] _ (A7 _ _ _)
     (by rw[zb,Yr]; simp) (fun m hm JK=>by
       simp only at JK ⊢
       rw[List.getElem?_append_right hm,List.getElem?_replicate,if_pos]
       simp at JK; omega) m9 hk
    split at hk
    case isFalse=>simp[Tr.run]at hk
    rename_i EN
    rw[Bool.and_eq_true]at EN
    obtain⟨EN,we⟩:=EN
    obtain⟨s2,Pc,j1,j2,j3,hk⟩:=qp (C:=S.C) (fun o s st K h hk=>ih.o _ _ _ _ _ _ h hk) _ _ _ _ g3 hk
    refine⟨.norm s2,.norm Pc,?_,⟨Pc,rfl,j2⟩,Ys.trans (g4.trans j3),hk⟩
    have hl:=h.hp.length
    rw[←hl]
    rw[g1]
    simp only[Option.bind_some,Hd]
    rw[if_pos]
    ·rw[pT,←j1,List.map_drop]
    ·rw[Bool.and_eq_true]
     simp only[List.nil_append]at EN
     exact⟨y9 g2 (Ck EN),we⟩
   obtain⟨s00,Yo,Yp,hk⟩:=vH h hk
   obtain⟨s0,e1,e2,hk⟩:=Cq hS.T Yo hk
   replace e2:=Yp.trans e2
   obtain⟨so,o,i1,i2,i3,hk⟩:=key s0 _ e1 hk
   refine⟨so,o,?_,i2,e2.trans i3,hk⟩
   rw[Ir id ops Oq,←h.fn,←si (S.C.iE s.fn id) st,hm]
   exact i1
 ·-- a range over a function
  rename_i f ps as bd
  split at hk
  case h_2=>simp[Tr.run]at hk
  rename_i g args hg
  split at hk
  case h_2=>simp[Tr.run]at hk
  rename_i lN
  rw[Bool.and_eq_true]at lN
  have hl:=h.hp.length
  have eX:=Jl h lN.2
  obtain⟨H1,JN⟩:∃ H1,H1=s.hp++[some (aB.pg s.fn ps as bd (w9 (c7 as++c7 bd) s.fr (List.range s.n)))]:=⟨_,rfl⟩
  rw[←JN]at hk
  have Qk:dy s.hp H1:=fun m o ho=>⟨o,by rw[JN,List.getElem?_append_left (List.getElem?_eq_some_iff.1 ho).1]; exact ho,Nat.le_refl _,fun _=>rfl⟩
  have fI:H1[s.hp.length]?=some (some (aB.pg s.fn ps as bd (w9 (c7 as++c7 bd) s.fr (List.range s.n)))):=by rw[JN]; simp
  have hh1:RH S.T H1 (st.hp++[some (.gw (.loop st.fn ps as bd .ready) (uz as bd st.fr))]):=by
   have:aw (Ce S.T H1) (s.hp++[some (aB.pg s.fn ps as bd (w9 (c7 as++c7 bd) s.fr (List.range s.n)))]) (st.hp++[some (.gw (.loop st.fn ps as bd .ready) (uz as bd st.fr))]):=
    aw.append (aw.mono (fun _ _=>Ce.mono Qk) h.hp) ⟨⟨.ready,_,by rw[h.fn],aw.mono (fun _ _ h=>h.imp id (R.mono Qk)) eX⟩,trivial⟩
   rw[←JN]at this
   exact this
  have QE:kT ((s.hp.length,.ready)::s.js) H1 (st.hp++[some (.gw (.loop st.fn ps as bd .ready) (uz as bd st.fr))]):=by
   intro m x hm
   simp only[cq]at hm
   split at hm
   ·simp_all[recAt,fI,aB.isRec,iu]
   ·obtain⟨h1,h2⟩:=h.js m x hm
    have bL:=jD h1
    exact⟨by rw[qo (show H1[m]?=s.hp[m]? by rw[JN,List.getElem?_append_left bL])]; exact h1,by rw[oa (List.getElem?_append_left (by omega))]; exact h2⟩
  have hyR:RV S.T H1 (.mp true s.hp.length) (.mp true st.hp.length):=.inr (by simp only[R]; exact⟨by rw[hl],_,fI⟩)
  obtain⟨m,qC,vY⟩:=gu ((h.ev f).mono Qk) (show aw (RV S.T H1) [.mp true s.hp.length] [.mp true st.hp.length] from ⟨hyR,trivial⟩) hg
  have MF:args.any bQ=false:=by simpa using lN.1
  obtain⟨v,cr,pe,rf,a,eY,g1,g2,g3,gj,g4,g5,g6,g7,hk⟩:=ih.f _ _ _ _ _ _ _ _ _ _ (vY MF) hh1 QE hk
  have G5:H1.length=s.hp.length+1:=by rw[JN]; simp
  have fin:∀ x,cq rf s.hp.length=some x→RS S.T (s.hJ s.hp.length cr pe rf) { st with hp:=rF eY st.hp.length }∧bm s (s.hJ s.hp.length cr pe rf)∧iu eY st.hp.length=some x:=by
   intro x hx
   obtain⟨q1,q2⟩:=gj _ _ hx
   rw[hl]at q2
   obtain⟨Oj,XZ,ou,X0,zJ,hr⟩:=iR q2
   obtain⟨o,ho,V7⟩:∃ o,cr[s.hp.length]?=some (some o)∧o.isRec=true:=by
    grind[recAt]
   have rC:o.cur=0∧o.len=0:=by cases o<;>simp[aB.isRec]at V7; exact⟨rfl,rfl⟩
   have Dn:rF eY st.hp.length=eY.set st.hp.length (some (.gw (.loop Oj XZ ou X0 .hJ) (zJ.map fun _=>.any))):=by unfold rF; rw[hr]
   obtain⟨u1,u2⟩:=g3.SC ho (o':=.ij) (a':=.gw (.loop Oj XZ ou X0 .hJ) (zJ.map fun _=>.any)) (by rw[rC.1]; exact Nat.zero_le _) (fun _=>by rw[rC.2]; rfl) (.inr ⟨_,_,rfl,fun n=>by
    rw[zc]
    simp[Go.PI.below]⟩)
   rw[hl]at u2
   have Ap:dy s.hp (cr.set s.hp.length (some .ij)):=Qk.trans (g4.trans u1)
   refine⟨⟨h.fn,h.n,fun t=>(h.fr t).mono Ap,?_,?_⟩,⟨rfl,rfl,fun _ _=>rfl,fun _ h=>h,fun n hn hw=>?_,g7,?_,Ap⟩,q2⟩
   ·rw[Dn]
    show RH S.T (cr.set s.hp.length (some .ij)) _
    rw[hl]; exact u2
   ·intro n y hy
    have BA:cq (DY rf s.hp.length) n=some y:=hy
    rw[EB]at BA
    split at BA
    ·simp at BA
    rename_i dA
    obtain⟨w1,w2⟩:=gj _ _ BA
    refine⟨?_,?_⟩
    ·rw[qo (show (s.hJ s.hp.length cr pe rf).hp[n]?=cr[n]? from List.getElem?_set_ne (Ne.symm dA))]; exact w1
    ·rw[Dn,oa (List.getElem?_set_ne (by rw[←hl]; exact Ne.symm dA))]; exact w2
   ·show (cr.set s.hp.length (some .ij))[n]?=_
    rw[List.getElem?_set_ne (by omega),g6 n (by omega) hw,JN,List.getElem?_append_left hn]
   ·show s.hp.length≤(cr.set s.hp.length (some .ij)).length
    rw[List.length_set]; omega
  have aU:cS S.C (.rangeFunc f ps as bd) st=vL st st.hp.length eY:=by
   rw[Fz,qC]
   simp only[Option.bind_some,g1]
   rfl
  rw[aU]
  split at hk
  ·rename_i hx
   obtain⟨f1,f2,f3⟩:=fin _ hx
   exact⟨.norm _,_,by unfold vL; rw[f3],⟨_,rfl,f1⟩,f2,hk⟩
  ·rename_i hx
   obtain⟨f1,f2,f3⟩:=fin _ hx
   exact⟨.ret _,_,by unfold vL; rw[f3],⟨_,rfl,f1⟩,f2,hk⟩
  ·rename_i id hx
   obtain⟨f1,f2,f3⟩:=fin _ hx
   exact⟨.exit id _,_,by unfold vL; rw[f3],⟨_,rfl,f1⟩,f2,hk⟩
  ·simp[Tr.run]at hk
 ·simp[Tr.run]at hk
theorem EO:∀ k,oU S k
 |0=>⟨fun _ _ _ _ _ _ _ _ _ _ _ _ _ h=>by simp[Qb,Tr.run]at h,fun _ _ _ _ _ _ _ h=>by simp[xa,Tr.run]at h,fun _ _ _ _ _ _ _ h=>by simp[OX,Tr.run]at h⟩
 |k+1=>
  have ih:=EO k
  ⟨fun _ _ _ _ _ _ _ _ _ _ ha hh hj hk=>Sa hS ih ha hh hj hk,fun _ _ _ _ _ _ h hk=>Sb hS ih h hk,fun _ _ _ _ _ _ h hk=>R4 hS ih h hk⟩
end
end Go.PI
end
section
/- PS, part R: from an equation of trees to what is known of a function; laws; arguments read. -/
namespace Go.PI
theorem EJ[ab]{S:oF}(hS:S.Ok){k:Nat}{f:FuncId}{σ:vf S.T}(hk:S.C.kind f=.pure)(hi:S.C.jL f=none)(h:∀ x,(Rw S k f σ.args σ.res x).run=σ.fn x):qn S.C S.T f σ where
 kind:=hk
 RR:=by
  intro x as y hx hy
  rw[←h x]at hy
  unfold Rw at hy
  obtain⟨v,cr,pe,rf,a,eY,g1,g2,g3,_,_,_,_,_,hy⟩:=(EO hS k).f _ f _ [] [] [] _ _ as [] (Mp hS.T [] hx) (show RH S.T [] [] from trivial) (fun _ _ h=>by simp[cq]at h) hy
  obtain⟨v',rd,a',h1,h2,h3,hy⟩:=Mj g3 g2 hy
  split at hy
  case h_2=>simp[Tr.run]at hy
  rename_i r hr
  simp only[Tr.run,Option.some.injEq]at hy
  subst hy
  rw[Option.bind_eq_some_iff]at hr
  obtain⟨l,hl,hr⟩:=hr
  have WI:∀ (ts:List Nat) (l:List (SV S.T.den)) r,I0 S.T ts l=some r→ts.length=l.length:=by
   intro ts
   induction ts with
   |nil=>
    grind[I0]
   |cons t ts ih=>
    intro l r h
    cases l with
    |nil=>simp[I0]at h
    |cons v l=>
     simp only[I0,Option.bind_eq_some_iff,Option.map_eq_some_iff]at h
     obtain⟨_,_,_,h,_⟩:=h
     simp[ih _ _ h]
  have hlen:=WI _ _ _ hl
  have key:∃ m,RL S.T cr (L6 σ.res v') m∧cE m=a':=by
   unfold L6 at hlen ⊢
   split at hlen
   ·exact⟨[a'],by simp only[RL]; exact⟨h2,trivial⟩,rfl⟩
   ·rename_i dA
    have qB:σ.res.length≠1:=by
     intro hc
     match cB:σ.res,hc with
     |[t],_=>exact dA t cB
    split at hlen
    ·simp only[R]at h2
     obtain⟨m,rfl,h2⟩:=h2
     have hm:=h2.length
     refine⟨m,h2,?_⟩
     match m,hm with
     |[],_=>rfl
     |[x],hm=>simp at hm; omega
     |x::y::r,_=>rfl
    ·simp at hlen; omega
  obtain⟨m,qC,P9⟩:=key
  have Fb:=Gx hS.T qC hl
  rw[oP _ _ _ hr]
  refine⟨a,eY,m,?_,?_,?_,Fb⟩
  ·simp only[Mq,hi,g1]
  ·rw[P9]; exact h1.1
  ·rw[P9]; exact h3.1
def HU(C:Ctx)(T:dm)(M:List (Nat×kp))(hint:FuncId→Nat→Option Hint)(vg:FuncId→Nat→Bool)(L:List (Nat×vf T))(n:Nat)(O:List (Nat×wA T):=[])(tY:FuncId→Nat→Bool:=fun _ _=>false)(tw:FuncId→Tmp→List Tw:=fun _ _=>[]):oF:=
 ⟨C,T,cq (L.take n),hint,vg,M,cq O,tY,tw⟩
theorem Bh{α:Type}:∀ {l m:List (Nat×α)} {n:Nat} {a:α},cq (l++m) n=some a→cq l n=some a∨cq m n=some a
 |[],m,n,a,h=>.inr h
 |(k,b)::l,m,n,a,h=>by
  simp only[List.cons_append,cq]at h ⊢
  split at h
  ·exact .inl h
  ·exact Bh h
section
variable {C:Ctx}{T:dm}{M:List (Nat×kp)}{hint:FuncId→Nat→Option Hint}{vg:FuncId→Nat→Bool}{L:List (Nat×vf T)}{O:List (Nat×wA T)}{tY:FuncId→Nat→Bool}{tw:FuncId→Tmp→List Tw}
theorem D7[ab](hT:T.Ok)(hQ:gO.Ok ⟨C.P,M,fun _=>false⟩)(hZ:T.uh ⟨C.P,M,fun _=>false⟩)(hO:∀ g σ,cq O g=some σ→A4 C T g σ):(HU C T M hint vg L 0 O tY tw).Ok:=
 ⟨hT,hQ,hZ,fun g σ h=>by simp[HU,cq]at h,hO⟩
theorem ue[ab]{n:Nat}(hS:(HU C T M hint vg L n O tY tw).Ok){f:FuncId}{σ:vf T}(hL:L[n]?=some (f,σ))(h:qn C T f σ):(HU C T M hint vg L (n+1) O tY tw).Ok:=by
 refine⟨hS.T,hS.Q,hS.Z,fun g τ hg=>?_,hS.own⟩
 simp only[HU]at hg
 rw[List.take_add_one,hL]at hg
 rcases Bh hg with hg|hg
 ·exact hS.sum g τ hg
 ·have:=eU hg
  simp only[Option.toList_some,List.mem_singleton]at this
  obtain⟨rfl,rfl⟩:=this
  exact h
theorem aA[ab]{n:Nat}(hS:(HU C T M hint vg L n O tY tw).Ok){f:FuncId}{σ:vf T}(hL:L[n]?=some (f,σ))(hk:C.kind f=.pure)(hi:C.jL f=none)(k:Nat)
  (h:∀ x,(Rw (HU C T M hint vg L n O tY tw) k f σ.args σ.res x).run=σ.fn x):(HU C T M hint vg L (n+1) O tY tw).Ok:=
 ue hS hL (EJ hS hk hi h)
theorem Pn[ab]{n:Nat}(hS:(HU C T M hint vg L n O tY tw).Ok){f:FuncId}{σ:vf T}(h:cq (L.take n) f=some σ):qn C T f σ:=hS.sum f σ h
end
theorem GM[ab]{hp:ag}{v:AV}{b:Bool}(h:(a9 1000 v).run hp=some (.lit (.bool b))):v=.lit (.bool b):=by
 cases v with
 |lit x=>
  simp only[a9]at h
  split at h
  ·simp[RM.run_pure]at h
  ·simpa[RM.run_pure] using h
 |agg l=>simp only[a9,RM.run_bind]at h; cases hq:(aM 999 l).run hp<;>rw[hq]at h<;>simp[RM.run_pure]at h
 |jF l=>simp only[a9,RM.run_bind]at h; cases hq:(aM 999 l).run hp<;>rw[hq]at h<;>simp[RM.run_pure]at h
 |sl l=>simp[a9,RM.run_pure]at h
 |kW l c=>simp[a9,RM.run_pure]at h
 |nz=>simp[a9,RM.run_pure]at h
 |bj e j=>simp[a9,RM.run_pure]at h
 |ref n aq i j=>
  simp only[a9,RM.run_bind]at h
  cases hq:(RM.arr n aq).run hp with
  |none=>rw[hq]at h; simp at h
  |some q=>
   obtain⟨g,c,f,es⟩:=q
   rw[hq]at h
   simp only[Option.bind_some]at h
   split at h
   ·split at h
    ·simp[RM.run_pure]at h
    ·rename_i e _ _
     rw[RM.run_bind]at h
     cases ed:(a9 999 e).run hp<;>rw[ed]at h<;>simp[RM.run_pure]at h
   ·simp[RM.ae]at h
 |iD n aq i j len cap=>
  simp only[a9,RM.run_bind]at h
  cases hq:(RM.arr n aq).run hp with
  |none=>rw[hq]at h; simp at h
  |some q=>
   obtain⟨g,c,f,es⟩:=q
   rw[hq]at h
   simp only[Option.bind_some]at h
   split at h
   ·split at h
    ·split at h
     ·simp[RM.run_pure]at h
     ·rename_i cs _ _ _
      rw[RM.run_bind]at h
      cases ed:(aM 999 ((cs.drop j).take len)).run hp<;>rw[ed]at h<;>simp[RM.run_pure]at h
    ·simp[RM.ae]at h
   ·simp[RM.ae]at h
 |mp n=>simp[a9,RM.ae]at h
 |any=>simp[a9,RM.ae]at h
 |fW t x=>simp only[a9,RM.run_bind]at h; cases hq:(a9 999 x).run hp<;>rw[hq]at h<;>simp[RM.run_pure]at h
 |jd fn f c=>
  simp only[a9,RM.run_bind]at h
  cases hq:(aM 999 f).run hp with
  |none=>rw[hq]at h; simp at h
  |some f'=>
   cases ed:(aM 999 c).run hp with
   |none=>rw[hq,ed]at h; simp at h
   |some c'=>simp_all[RM.run_pure]
 |bh esz n aq off len cap=>
  simp only[a9,RM.run_bind]at h
  cases hq:(RM.arr n aq).run hp with
  |none=>rw[hq]at h; simp at h
  |some q=>
   obtain⟨g,c,f,es⟩:=q
   rw[hq]at h
   simp only[Option.bind_some]at h
   split at h
   ·split at h
    ·simp[RM.run_pure]at h
    ·rw[RM.run_bind]at h
     cases ed:(aM 999 ((es.drop off).take len)).run hp<;>rw[ed]at h<;>simp[RM.run_pure]at h
   ·simp[RM.ae]at h
open Go.RowKit in
theorem MN[ab]{C:Ctx}{T:dm}(hC:C.Ok){f:FuncId}{σ:vf T}(h:qn C T f σ)(hi:C.jL f=none){x:HL T.den (σ.args.map .v)}{y:HL T.den (σ.res.map .v)}(hy:σ.fn x=some y)
  (cB:∀ l,aw (Qm T) (gl _ y) l→l=[.lit (.bool true)]) {as:List AV} (ha:aw (Qm T) (gl _ x) as) {W:World} (hg:m6 (Env.all W)) {vs:List Value} (hr:an (Env.all W) false as vs) :
  Calls C.P f vs.toArray W fun e w'=>e=.returned (.bool true)∧Below W.heap.size W w':=by
 obtain⟨v,dQ,l,h1,h2,_,h4⟩:=h.RR x as y ha hy
 have:=cB l h4
 subst this
 have hv:=GM h2
 subst hv
 unfold Mq at h1
 rw[hi]at h1
 simp only at h1
 split at h1
 case h_2=>simp at h1
 rename_i v0 Ul aU
 simp only[Option.some.injEq,Prod.mk.injEq]at h1
 obtain⟨rfl,rfl⟩:=h1
 exact Ik hC aU hg hr
end Go.PI
end
section
/- PS, part S: arguments that came in, as typed values. -/
namespace Go.PI
section
variable {P:Program}{n t:Nat}{l:List AV}
theorem oW(h:Shape P n t l):∃ k,n=k+1:=by
 cases n with
 |zero=>simp[Shape]at h
 |succ k=>exact⟨k,rfl⟩
theorem Bi[ab]{i:IntKind}(hu:P.underlying t=some (.int i))(h:Shape P n t l):∃ m:Int,l=[.lit (.int i m)]∧i.min≤m∧m≤i.max:=by
 obtain⟨k,rfl⟩:=oW h
 simp only[Shape,hu]at h
 obtain⟨m,h1,h2⟩:=h
 simp only[Lit.wf,Bool.and_eq_true,decide_eq_true_eq]at h2
 exact⟨m,h1,h2⟩
theorem qz[ab]{e:Nat}{α:Type}{Q:α→AV→Prop}{d:TypeDesc}(hu:P.underlying t=some (.slice e))(he:P.underlying e=some d)(h:Shape P n t l)
  (Km:∀ k x,(∃ cl,(if dT d then x=AV.agg cl else cl=[x])∧Shape P k e cl)→∃ y,Q y x) :
  ∃ ys xs,l=[.sl xs]∧aw Q ys xs∧ys.length≤maxLen:=by
 obtain⟨k,rfl⟩:=oW h
 simp only[Shape,hu]at h
 obtain⟨xs,h1,h2,h3⟩:=h
 have:∃ ys,aw Q ys xs:=by
  clear h1 h2
  induction xs with
  |nil=>exact⟨[],trivial⟩
  |cons x xs ih=>
   obtain⟨ys,h4⟩:=ih fun y hy=>h3 y (List.mem_cons_of_mem _ hy)
   obtain⟨cl,h5,h6⟩:=h3 x (by simp)
   rw[he]at h5
   obtain⟨y,h7⟩:=Km k x ⟨cl,h5,h6⟩
   exact⟨y::ys,h7,h4⟩
 obtain⟨ys,h4⟩:=this
 exact⟨ys,xs,h1,h4,by rw[h4.length]; exact h2⟩
theorem Cs[ab]{fs:Array Field}(hu:P.underlying t=some (.struct fs))(h:Shape P n t l):l.length=P.cellsOf t∧∃ k,∀ f,f∈fs.toList→Shape P k f.type ((l.drop f.offset).take (P.cellsOf f.type)):=by
 obtain⟨k,rfl⟩:=oW h
 simp only[Shape,hu]at h
 exact⟨h.1,k,h.2⟩
theorem Ct[ab]{Q:gO}(hQ:Q.Ok){t:Nat}{m:kp}(hm:Q.ty t=some m){fs:List (Nat×Nat)}(hk:m.kind=.struct fs)(h:Shape Q.P n t l):
  l.length=Q.P.cellsOf t∧∃ k,∀ q,q∈fs→Shape Q.P k q.2 ((l.drop q.1).take (Q.P.cellsOf q.2)):=by
 obtain⟨d,hd,Fw⟩:=hQ.kind t m hm
 rw[hk]at Fw
 cases d<;>simp[oK]at Fw
 rename_i EX
 subst Fw
 obtain⟨h1,k,h2⟩:=Cs hd h
 refine⟨h1,k,fun q hq=>?_⟩
 obtain⟨f,hf,rfl⟩:=List.mem_map.1 hq
 exact h2 f hf
end
theorem oX{Q:gO}(hQ:Q.Ok){t:Nat}{m:kp}(h:Q.ty t=some m):Q.P.cellsOf t=m.size:=by
 obtain⟨r,h1,_,h2,_⟩:=hQ.row t m h
 unfold ff at h1
 unfold Program.cellsOf
 cases hi:Q.P.info? t with
 |none=>rw[hi]at h1; simp at h1
 |some i=>
  grind
theorem iC[ab]{P:Program}{n t t':Nat}{l:List AV}(hu:P.underlying t=P.underlying t')(h:Shape P n t l)(hc:P.cellsOf t=P.cellsOf t':=by kernel_rfl):Shape P n t' l:=by
 obtain⟨k,rfl⟩:=oW h
 simp only[Shape]at h ⊢
 rw[←hu,←hc]
 exact h
theorem uq{k:IntKind}{n:Int}:bf (.lit (.int k n))=true:=rfl
theorem ri{b:Bool}:bf (.lit (.bool b))=true:=rfl
theorem ur{s:ByteArray}:bf (.lit (.string s))=true:=rfl
theorem EP{T:dm}{H:ah T.den}{v:SV T.den}{vs:List (SV T.den)}{l:List AV}:RL T H (v::vs) l↔∃ c cs,l=c::cs∧R T H v c∧RL T H vs cs:=by
 cases l with
 |nil=>simp[RL]
 |cons c cs=>
  grind[RL]
theorem GN{T:dm}{H:ah T.den}{l:List AV}:RL T H [] l↔l=[]:=by
 cases l<;>simp[RL]
end Go.PI
end
section
/- PS: what must hold of a seat's types, for all the plain kinds at once. -/
namespace Go.PI
section
variable {T:dm}{H:ah T.den}{v:SV T.den}{a:AV}
theorem fc{k:IntKind}{x:Int}(h:dI k v=some x)(hr:R T H v a):a=.lit (.int k x):=by
 unfold dI at h
 split at h
 ·simp_all[R]
 ·simp at h
theorem MQ{x:Bool}(h:dB v=some x)(hr:R T H v a):a=.lit (.bool x):=by
 unfold dB at h
 split at h
 ·simp_all[R]
 ·simp at h
theorem UJ{x:ByteArray}(h:dS v=some x)(hr:R T H v a):a=.lit (.string x):=by
 unfold dS at h
 split at h
 ·simp_all[R]
 ·simp at h
theorem MR{α:Type}{q:α→AV→Prop}{d:SV T.den→Option α}(hd:∀ v x a,d v=some x→R T H v a→q x a):∀ (vs:List (SV T.den)) (l:List α) (m:List AV),T5 d vs=some l→RL T H vs m→aw q l m
 |[],l,[],h,_=>by simp[T5]at h; subst h; trivial
 |v::vs,l,a::m,h,hr=>by
  simp only[RL]at hr
  simp only[T5,Option.bind_eq_some_iff,Option.map_eq_some_iff]at h
  obtain⟨x,h1,ys,h2,rfl⟩:=h
  exact⟨hd _ _ _ h1 hr.1,MR hd vs ys m h2 hr.2⟩
 |[],_,_::_,_,h=>by simp[RL]at h
 |_::_,_,[],_,h=>by simp[RL]at h
theorem gv{e:Nat}{x:List (T.den e)}{d:SV T.den→Option (T.den e)}(hd:∀ v x a,d v=some x→R T H v a→T.rp e x a)(h:Qc e d v=some x)(hr:R T H v a):OY (T.rp e) x a:=by
 unfold Qc at h
 split at h
 ·rename_i t l
  split at h
  ·rename_i e
   subst e
   have e2:l=x:=Option.some.inj h
   subst e2
   simp only[R]at hr
   exact hr
  ·simp at h
 ·simp only[R]at hr
  obtain⟨m,rfl,hm,_⟩:=hr
  exact .inl ⟨m,rfl,MR hd _ _ _ h hm⟩
 ·grind[R]
 ·simp at h
theorem Sc{α:Type}{q:α→AV→Prop}{d:SV T.den→Option α}{x:α}(hd:∀ v a,d v=some x→R T H v a→q x a)(h:Xn d v=some x)(hr:R T H v a):VW q x a:=by
 unfold Xn at h
 split at h
 ·grind[R]
 ·simp at h
theorem uL{l:Value}(h:a=.lit l):R T H (.lit l) a:=by simp only[R]; exact h
theorem uG{e:Nat}{x:List (T.den e)}(h:OY (T.rp e) x a):R T H (.jw e x) a:=by simp only[R]; exact h
theorem uP{α:Type}{q:α→AV→Prop}{u:α→SV T.den}{x:α}(hu:∀ b,q x b→R T H (u x) b)(hc:aE (u x)=true)(h:VW q x a):R T H (.bj (u x) 0) a:=by
 grind[R]
theorem eI{k:IntKind}{x:Int}(h:a=.lit (.int k x)):aC false 1 a=true∧closed a=true∧bf a=true:=by subst h; exact⟨rfl,rfl,rfl⟩
theorem eB{x:Bool}(h:a=.lit (.bool x)):aC false 1 a=true∧closed a=true∧bf a=true:=by subst h; exact⟨rfl,rfl,rfl⟩
theorem eS{x:ByteArray}(h:a=.lit (.string x)):aC false 1 a=true∧closed a=true∧bf a=true:=by subst h; exact⟨rfl,rfl,rfl⟩
theorem eG{α:Type}{q:α→AV→Prop}{x:List α}(h:OY q x a):aC false 1 a=true∧closed a=true∧bf a=true:=by
 rcases h with ⟨l,rfl,_⟩|⟨_,rfl⟩<;>exact⟨rfl,rfl,rfl⟩
theorem eP{α:Type}{q:α→AV→Prop}{x:α}(h:VW q x a):aC false 1 a=true∧closed a=true∧bf a=true:=by
 obtain⟨b,rfl,_⟩:=h
 exact⟨rfl,rfl,rfl⟩
theorem zu{p q r:Prop}(h:p∧q∧r):p∧q:=⟨h.1,h.2.1⟩
theorem zz{α β:Type}{P:α→β→Prop}{x z:α}{y za:β}(h1:some x=some z)(h2:some y=some za)(h:P x y):P z za:=by
 simp_all
theorem zn{α:Type}{z:α}{p:Prop}(h:(none:Option α)=some z):p:=by cases h
end
end Go.PI
end
section
/- PS, part U: what is lacking of laws to compute by: appends and literal slices. -/
namespace Go.PI
variable {C:Ctx}{P:Program}{dst:Option Tmp}{type:TypeId}{pos:String}{after:Array Edge}{guard:Option (Nat×Bool)}{s:St}{hp:ag}{nm:Nat}{ev:Operand→AV}
theorem zp[ab]{d:Tmp}(h:C.acc s.fn d=false):hY C ⟨some d,.assign (.const (.slice none 0 0)),type,pos,after,guard⟩ s=some (.norm { s with fr:=s.fr.set d (.lit bV) }):=by
 refine bW (jI C _ _) (by simp[fP]) fun k=>?_
 simp only[fP,h]
 rfl
theorem GP{x y:Operand}{t u:TypeId}:(aK P nm ev ⟨dst,.call ⟨.builtin .append,#[x,y],#[t,u]⟩,type,pos,after,guard⟩).run hp=(eJ P nm t u (ev x) (ev y)).run hp:=rfl
theorem Jz{t:TypeId}{r:bu}(wW:aH P t=some r)(hz:(bR r).isSome=true)(hr:0<r.size):
  (aK P nm ev ⟨dst,.buildSlice t 0 #[],type,pos,after,guard⟩).run hp=some ⟨.bh r.size nm 0 0 0 (some 0),[(nm,.arr false true false [])]⟩:=by
 obtain⟨z,hz⟩:=Option.isSome_iff_exists.1 hz
 simp only[aK,c6,wW,hz]
 simp[hr,aZ,fX]
 rfl
theorem JA[ab]{t u:TypeId}{r:bu}(wW:aH P t=some r)(gC:bN P u=true)(hz:(bR r).isSome=true)(hr:0<r.size){xs:List AV}{c n:Nat}(bg:xs.all (aC r.isAgg r.size)=true)
  (dA:xs≠[]) (wY:(RM.arr n 0).run hp=some (false,true,false,[])) (h1:xs.length*r.bytes≤2^44) (h2:xs.length≤2^44) :
  (eJ P nm t u (.bh r.size n 0 0 0 (some 0)) (.kW xs c)).run hp=some ⟨.bh r.size nm xs.length 0 xs.length none,[(nm,.arr true true false xs)]⟩:=by
 have hn:xs.isEmpty=false:=by cases xs<;>simp_all
 have hl:0<xs.length:=List.length_pos_iff.2 dA
 simp only[eJ,wW,uy,gC,fG,RM.run_bind,RM.run_pure,Option.bind_some,hz,hr,bg,decide_true,Bool.and_self,hn,wY]
 simp[RM.run_pure,h1,h2,dA]
def MX(d:Option dk):AV→Option dk
 |.lit (.slice none 0 0)=>some ⟨int 0,[]⟩
 |_=>d
theorem MY{d:Option dk}:MX d (.lit (.slice none 0 0))=some ⟨int 0,[]⟩:=rfl
theorem Pz{t:TypeId}{x:Operand}(h:bN P t=true):(aK P nm ev ⟨dst,.call ⟨.builtin .cap,#[x],#[t]⟩,type,pos,after,guard⟩).run hp =
  MX (KX P nm ev ⟨dst,.call ⟨.builtin .cap,#[x],#[t]⟩,type,pos,after,guard⟩ hp) (ev x):=by
 unfold MX
 split
 ·rename_i hx; simp[aK,dr,hx,h]; rfl
 ·rfl
theorem PA{t:TypeId}{x:Operand}(h:bN P t=true):(aK P nm ev ⟨dst,.call ⟨.builtin .len,#[x],#[t]⟩,type,pos,after,guard⟩).run hp =
  MX (KX P nm ev ⟨dst,.call ⟨.builtin .len,#[x],#[t]⟩,type,pos,after,guard⟩ hp) (ev x):=by
 unfold MX
 split
 ·rename_i hx; simp[aK,dr,hx,h,og]; rfl
 ·rfl
theorem PB[ab]{t:TypeId}{x:Operand}{lo hi mx:Option Operand}:(aK P nm ev ⟨dst,.slice t x lo hi mx,type,pos,after,guard⟩).run hp=(ny P t (ev x) (lo.map ev) (hi.map ev) (mx.map ev)).map fun x=>⟨x,[]⟩:=BG _ _
theorem PC{t:TypeId}{r:bu}(wW:aH P t=some r):ny P t (.lit bV) none (some (int 0)) none=some (.lit bV):=by
 simp[ny,wW,bw,asNat]
theorem PD{t:TypeId}{r:bu}(wW:aH P t=some r){n aq len:Nat}(hv:0<aq):ny P t (.bh r.size n aq 0 len none) none (some (int 0)) none=some (.bh r.size n aq 0 0 none):=by
 simp[ny,wW,bw,asNat,hv]
theorem MZ[ab]{t u:TypeId}{r:bu}{k:IntKind}{z:AV}{n:Nat}(wW:aH P t=some r)(gC:bN P u=false)(hu:P.underlying u=some (.int k))(hz:bR r=some z)(hr:0<r.size)
  (ho:aC r.isAgg r.size z=true) (hn:0<n) (h1:n*r.bytes≤2^44) (h2:n≤2^44) :
  (eJ P nm t u (.lit bV) (int n)).run hp=some ⟨.bh r.size nm n 0 n none,[(nm,.arr true true false (List.replicate n z))]⟩:=by
 have dA:(List.replicate n z).isEmpty=false:=by cases n with
  |zero=>omega
  |succ n=>rfl
 have bg:(List.replicate n z).all (aC r.isAgg r.size)=true:=by simp[ho]
 simp only[eJ,wW,uy,gC,hu,hz,sd,RM.run_bind,h1,h2,and_self,if_true,RM.run_pure,Option.bind_some,Option.isSome_some,hr,bg,decide_true,Bool.and_self,dA,List.length_replicate]
theorem GQ[ab]{k n:Nat}{xs:List AV}{esz:Nat}{cap:Option Nat}{g f:Bool}(h:(RM.arr n xs.length).run hp=some (g,true,f,xs)):(a9 (k+1) (.bh esz n xs.length 0 xs.length cap)).run hp=some (.sl xs):=by
 simp[a9,RM.run_bind,h,RM.run_pure]
def wM:AV→AV
 |.lit (.slice none 0 0)=>.sl []
 |x=>x
theorem Bj{E:Env}{o:Bool}{x:AV}{v:Value}(h:ak E o x v):ak E o (wM x) v:=by
 unfold wM
 split
 ·grind[ak]
 ·exact h
theorem zq[ab]{E:Env}{c:Array Value}{esz:Nat}:∀ {xs:List AV} {pos:Nat},dU E xs c pos esz→dU E (xs.map wM) c pos esz
 |[],_,_=>by simp[dU]
 |x::xs,pos,h=>by
  simp only[dU,List.map_cons]at h ⊢
  obtain⟨⟨v,h1,h2⟩,h3⟩:=h
  exact⟨⟨v,Bj h1,h2⟩,zq h3⟩
theorem JB[ab]{E:Env}{o:Bool}{xs:List AV}{v:Value}(h:ak E o (.sl xs) v):ak E o (.sl (xs.map wM)) v:=by
 simp only[ak,List.length_map]at h ⊢
 obtain⟨a,cap,h1,h2,h3,h4⟩:=h
 refine⟨a,cap,h1,h2,h3,?_⟩
 rcases h4 with h4|⟨b,of,esz,c,h5,h6,h7⟩
 ·left; rw[h4]; rfl
 ·exact .inr ⟨b,of,esz,c,h5,h6,zq h7⟩
def wN:List AV→Option (List (List AV))
 |[]=>some []
 |.sl l::xs=>(wN xs).map fun r=>l::r
 |_::_=>none
theorem ET:∀ {xs:List AV} {ls:List (List AV)},wN xs=some ls→xs=ls.map .sl
 |[],ls,h=>by simp[wN]at h; subst h; rfl
 |x::xs,ls,h=>by
  unfold wN at h
  split at h
  ·rename_i hh; simp at hh
  ·rename_i l xs' hh
   simp only[List.cons.injEq]at hh
   obtain⟨rfl,rfl⟩:=hh
   simp only[Option.map_eq_some_iff]at h
   obtain⟨r,h1,rfl⟩:=h
   rw[ET h1]; rfl
  ·simp at h
def Za(r:bu):List AV→Option AV
 |[.sl xs]=>if xs.all (aC r.isAgg r.size)=true∧xs.length*r.bytes≤2^44∧xs.length≤2^44 then some (.sl xs) else none
 |[.lit (.slice none 0 0)]=>some (.sl [])
 |_=>none
def mW(r:bu):List AV→Option AV
 |[.sl es]=>(match wN (es.map wM) with
  |some ls=>if ls.length≤2^44∧ls.flatten.all (aC r.isAgg r.size)=true∧ls.flatten.length*r.bytes≤2^44∧ls.flatten.length≤2^44 then some (.sl ls.flatten) else none
  |none=>none)
 |[.lit (.slice none 0 0)]=>some (.sl [])
 |_=>none
theorem EU[ab]{C0:Ctx}(bI:C0.Ok){g:FuncId}{xs:List AV}{r:AV}
  (h0:∃ res dQ,iv C0 g [.sl xs] []=some (.val res,dQ)∧(a9 1000 res).run dQ=some r)
  (Ec:Env) (w:World) (vs:List Value) (hI:Inv Ec [] w) (ha:an Ec false [.sl xs] vs):Calls C0.P g vs.toArray w (bp Ec w [] (.val r)):=by
 obtain⟨res,dQ,he,h⟩:=h0
 have out:(gA [.sl xs] dQ (.val res)).run []=some (.val r,[]):=by
  simp only[gA,h]
  split
  ·rfl
  ·simp[bS,names,cY,RM.run_bind,RM.run_pure]
 have ha2:an Ec true [.sl xs] vs:=by
  match vs,ha with
  |[],ha=>simp[an]at ha
  |_::_::_,ha=>simp[an]at ha
  |[v],ha=>
   simp only[an]at ha ⊢
   exact⟨ak.hX ha.1,trivial⟩
 obtain⟨k,hk⟩:=(aX (jm C0 g [.sl xs] [])).1 he
 have lT:(aM 1000 [.sl xs]).run []=some [.sl xs]:=rfl
 refine uS hI ha2 lT out fun Ec' iz PJ=>?_
 refine(sound bI k).1 g [.sl xs] [] _ _ hk Ec' w vs iz ?_
 match vs,PJ with
 |[],ha=>simp[an]at ha
 |_::_::_,ha=>simp[an]at ha
 |[v],ha=>
  simp only[an]at ha ⊢
  exact⟨ak.hX ha.1,trivial⟩
theorem Jp[ab]{C0:Ctx}(bI:C0.Ok){g:FuncId}{r:bu}
  (h1:∀ ls:List (List AV),ls.length≤2^44→(∀ l∈ls,l.all (aC r.isAgg r.size)=true)→ls.flatten.length*r.bytes≤2^44→ls.flatten.length≤2^44 →
    ∃ res dQ,iv C0 g [.sl (ls.map .sl)] []=some (.val res,dQ)∧(a9 1000 res).run dQ=some (.sl ls.flatten))
  {as:List AV} {a:AV} (h:mW r as=some a) (Ec:Env) (w:World) (vs:List Value) (hI:Inv Ec [] w) (ha:an Ec false as vs):Calls C0.P g vs.toArray w (bp Ec w [] (.val a)):=by
 unfold mW at h
 split at h
 ·rename_i es
  split at h
  case h_2=>simp at h
  rename_i ls hls
  split at h
  case isFalse=>simp at h
  rename_i hc
  simp only[Option.some.injEq]at h
  subst h
  have he:=ET hls
  refine EU bI (xs:=ls.map .sl) (h1 ls hc.1 (fun l hl=>?_) hc.2.2.1 hc.2.2.2) Ec w vs hI ?_
  ·have:=hc.2.1
   rw[List.all_eq_true]at this ⊢
   exact fun x hx=>this x (List.mem_flatten.2 ⟨l,hl,hx⟩)
  ·rw[←he]
   match vs,ha with
   |[],ha=>simp[an]at ha
   |_::_::_,ha=>simp[an]at ha
   |[v],ha=>
    simp only[an]at ha ⊢
    exact⟨JB ha.1,trivial⟩
 ·simp only[Option.some.injEq]at h
  subst h
  refine EU bI (xs:=[]) (h1 [] (by simp) (by simp) (by simp) (by simp)) Ec w vs hI ?_
  match vs,ha with
  |[],ha=>simp[an]at ha
  |_::_::_,ha=>simp[an]at ha
  |[v],ha=>
   simp only[an]at ha ⊢
   exact⟨Bj ha.1,trivial⟩
 ·simp at h
end Go.PI
end
section
/- PS, part V: copies of lists and lists laid together, as models. -/
namespace Go.PI
def AM(b n:Nat):Bool:=decide (n*b≤2^44)&&decide (n≤2^44)
def GI{α:Type}(b:Nat)(x:List α):Option (List α):=bif AM b x.length then some x else none
def tT{α:Type}(b:Nat)(x:List (List α)):Option (List α):=bif decide (x.length≤2^44)&&AM b x.flatten.length then some x.flatten else none
def We{α:Type}(rpe:α→AV→Prop)(x:List α)(a:AV):Prop:=(∃ l,a=.sl l∧aw rpe x l)∨(x=[]∧a=.lit bV)
theorem zr[ab]{α:Type}{rpe:α→AV→Prop}:∀ {x:List (List α)} {es:List AV},aw (We rpe) x es→∃ ls,wN (es.map wM)=some ls∧aw (aw rpe) x ls
 |[],es,h=>by
  have:=h.D0
  subst this
  exact⟨[],rfl,trivial⟩
 |x::xs,[],h=>by simp[aw]at h
 |x::xs,e::es,h=>by
  simp only[aw]at h
  obtain⟨h1,h2⟩:=h
  obtain⟨ls,h3,h4⟩:=zr h2
  rcases h1 with ⟨l,rfl,h⟩|⟨rfl,rfl⟩
  ·refine⟨l::ls,?_,h,h4⟩
   simp only[List.map_cons,wM,wN,h3,Option.map_some]
  ·refine⟨[]::ls,?_,trivial,h4⟩
   simp only[List.map_cons,wM,wN,h3,Option.map_some]
theorem uu[ab]{α:Type}{rpe:α→AV→Prop}:∀ {x:List (List α)} {ls:List (List AV)},aw (aw rpe) x ls→aw rpe x.flatten ls.flatten
 |[],ls,h=>by
  have:=h.D0
  subst this
  exact trivial
 |x::xs,[],h=>by simp[aw]at h
 |x::xs,e::es,h=>by
  simp only[aw]at h
  simp only[List.flatten_cons]
  exact h.1.append (uu h.2)
theorem GH[ab]{α:Type}{rpe:α→AV→Prop}{r:bu}(bI:∀ x a,rpe x a→aC r.isAgg r.size a=true){x:List (List α)}{y:List α}{a:AV}(ha:We (We rpe) x a)(hy:tT r.bytes x=some y):
  ∃ l,mW r [a]=some (.sl l)∧aw rpe y l:=by
 unfold tT AM at hy
 cases hq:decide (x.length≤2^44)&&(decide (x.flatten.length*r.bytes≤2^44)&&decide (x.flatten.length≤2^44))
 ·rw[hq]at hy; simp at hy
 rw[hq]at hy
 simp only[cond_true,Option.some.injEq]at hy
 subst hy
 simp only[Bool.and_eq_true,decide_eq_true_eq]at hq
 rcases ha with ⟨es,rfl,h⟩|⟨rfl,rfl⟩
 ·obtain⟨ls,h1,h2⟩:=zr h
  have h3:=uu h2
  rw[h3.length,h2.length]at hq
  refine⟨ls.flatten,?_,h3⟩
  unfold mW
  simp only
  rw[h1]
  simp only
  have bg:ls.flatten.all (aC r.isAgg r.size)=true:=by
   refine List.all_eq_true.2 fun z hz=>?_
   obtain⟨i,hi⟩:=List.getElem?_of_mem hz
   obtain⟨u,_,hu⟩:=h3.get' hi
   exact bI _ _ hu
  rw[if_pos ⟨hq.1,bg,hq.2.1,hq.2.2⟩]
 ·exact⟨[],rfl,trivial⟩
theorem GG[ab]{C:Ctx}{T:dm}{g:FuncId}{t u:Nat}{I:List AV→Option AV}{F:T.den t→Option (T.den u)}(hk:C.kind g=.pure)(hi:C.jL g=some I)
  (h:∀ x a y,T.rp t x a→F x=some y→∃ l,I [a]=some (.sl l)∧T.rp u y (.sl l)):qn C T g ⟨[t],[u],F⟩ where
 kind:=hk
 RR:=by
  intro x as y hx hy
  match as,hx with
  |[],hx=>exact False.elim hx
  |_::_::_,hx=>exact False.elim hx.2
  |[a],hx=>
   obtain⟨l,h1,h2⟩:=h x a y hx.1 hy
   refine⟨.sl l,[],[.sl l],?_,rfl,rfl,?_⟩
   ·simp only[Mq,hi,h1]; rfl
   ·exact⟨h2,trivial⟩
end Go.PI
end
section
/- PS, part W: a copy of a slice is the caller's own. -/
namespace Go.PI
theorem PE[ab]{Ec:Env}{w w':World}{en:Ending}(esz:Nat)(h:bp Ec w [] (.val (.lit bV)) en w'):
  bp Ec w [some (.arr true true false [])] (.val (.bh esz 0 0 0 0 none)) en w':=by
 obtain⟨E',hx,hI,hf,hr⟩:=h
 cases en with
 |panicked ch=>exact hr.elim
 |outgrown=>exact hr.elim
 |returned v=>
  simp only[xL,ak]at hr
  obtain⟨E2,jS,pv,gZ,BU⟩:=BS hI (esz:=esz)
  refine⟨E2,hx.trans jS,pv,hf.trans gZ,?_⟩
  simp only[xL]
  rw[hr]
  exact BU
theorem JC[ab]{Ec:Env}{w w':World}{en:Ending}{dQ:ag}{n esz:Nat}{cl:Bool}(hn:dQ[n]?=some (some (.arr false cl false [])))
  (h:bp Ec w dQ (.val (.bh esz n 0 0 0 (some 0))) en w'):bp Ec w (dQ.set n (some (.arr true true false []))) (.val (.bh esz n 0 0 0 none)) en w':=by
 obtain⟨E',hx,hI,hf,hr⟩:=h
 cases en with
 |panicked ch=>exact hr.elim
 |outgrown=>exact hr.elim
 |returned v=>
  have lQ:∀ i o,(dQ.set n (some (aJ.arr true true false [])))[i]?=some (some o)→(i=n∧o=.arr true true false [])∨(i≠n∧dQ[i]?=some (some o)):=by
   grind
  have eH:∀ i b,cb E' (dQ.set n (some (aJ.arr true true false []))) i b→cb E' dQ i b:=by
   rintro i b ⟨o,l,ho,hl,hb⟩
   rcases lQ i o ho with ⟨rfl,rfl⟩|⟨_,ho⟩
   ·exact⟨_,l,hn,hl,hb⟩
   ·exact⟨o,l,ho,hl,hb⟩
  have wY:=hI.objs n _ hn
  refine⟨E',hx,⟨by simpa using hI.len,?_,?_,fun n1 n2 b h1 h2=>hI.inj n1 n2 b (eH _ _ h1) (eH _ _ h2),hI.mem,hI.oi,hI.jj⟩,hf,?_⟩
  ·intro i o ho
   rcases lQ i o ho with ⟨rfl,rfl⟩|⟨_,ho⟩
   ·obtain⟨l,hl,hv,hm⟩:=wY
    refine⟨l,hl,hv,?_⟩
    cases hb:l.kH with
    |none=>rw[hb]at hm; exact⟨rfl,rfl⟩
    |some b=>
     rw[hb]at hm
     obtain⟨c,T,a1,a2,a3,a4,a5,_,_⟩:=hm
     exact⟨c,T,a1,a2,a3,a4,a5,(fun h=>by cases h),fun i e he=>by simp at he⟩
   ·exact hI.objs i o ho
  ·intro i aq h
   by_cases e:i=n
   ·subst e; rw[bZ hn]at h; simp at h
   ·rw[List.getElem?_set_ne (fun h=>e h.symm)]at h
    exact hI.free i aq h
  ·simp only[xL,ak]at hr ⊢
   obtain⟨h1,h2,l,hl,nE,hv,hm⟩:=hr
   refine⟨h1,h2,l,hl,nE,hv,?_⟩
   obtain⟨l2,pf,_,vY⟩:=wY
   rw[show ([]:List AV).length=0 from rfl,hl]at pf
   cases pf
   cases hb:l.kH with
   |none=>rw[hb]at hm; simp at hm
   |some b=>
    rw[hb]at hm vY
    obtain⟨c,T,_,_,_,_,_,hg,_⟩:=vY
    obtain⟨a,dt,rfl,hk,_,h3,h4,h5,h6⟩:=hm
    have:=hk 0 rfl
    subst this
    have rZ:=hg rfl
    exact⟨a,0,rfl,fun k CP=>by simp at CP,fun _=>by simp at rZ; omega,h3,h4,h5,h6⟩
def qx(r:bu):List AV→Option (AV×ag)
 |[.sl xs]=>if xs.all (aC r.isAgg r.size)=true∧xs.length*r.bytes≤2^44∧xs.length≤2^44 then some (.bh r.size 0 xs.length 0 xs.length none,[some (.arr true true false xs)]) else none
 |[.lit (.slice none 0 0)]=>some (.bh r.size 0 0 0 0 none,[some (.arr true true false [])])
 |_=>none
theorem EV{nm n m esz:Nat}{cl cl':Bool}{es:List AV}{dQ wX:ag}(h:dQ[n]?=some (some (.arr true cl false es)))(h':wX[m]?=some (some (.arr true cl' false es))):
  dz nm (.bh esz n es.length 0 es.length none) dQ=dz nm (.bh esz m es.length 0 es.length none) wX:=by
 simp only[dz,h,h']
theorem Jq[ab]{C0:Ctx}(bI:C0.Ok){g:FuncId}{r:bu}
  (h0:iv C0 g [.lit bV] []=some (.val (.lit bV),[]))
  (he:∀ cap,∃ n cl dQ,iv C0 g [.kW [] cap] []=some (.val (.bh r.size n 0 0 0 (some 0)),dQ)∧dQ[n]?=some (some (.arr false cl false [])))
  (h1:∀ xs cap,xs≠[]→xs.all (aC r.isAgg r.size)=true→xs.length*r.bytes≤2^44→xs.length≤2^44 →
    ∃ n cl dQ,iv C0 g [.kW xs cap] []=some (.val (.bh r.size n xs.length 0 xs.length none),dQ)∧dQ[n]?=some (some (.arr true cl false xs)))
  {as:List AV} {a:AV} {dQ:ag} (h:qx r as=some (a,dQ)) (Ec:Env) (w:World) (vs:List Value) (hI:Inv Ec [] w) (ha:an Ec false as vs) :
  Calls C0.P g vs.toArray w (fun en w'=>∃ r' wX,bp Ec w wX (.val r') en w'∧∀ nm,dz nm r' wX=dz nm a dQ):=by
 have H9:∀ v,v=bV→Calls C0.P g #[v] w (fun en w'=>∃ r' wX,bp Ec w wX (.val r') en w'∧∀ nm,dz nm r' wX=dz nm (.bh r.size 0 0 0 0 none) [some (.arr true true false [])]):=by
  intro v hv
  obtain⟨k,hk⟩:=(aX (jm C0 g [.lit bV] [])).1 h0
  refine((sound bI k).1 g [.lit bV] [] _ _ hk Ec w [v] hI (by simp only[an,ak]; exact⟨hv,trivial⟩)).mono fun en w' hp=>?_
  exact⟨_,_,PE r.size hp,fun _=>rfl⟩
 unfold qx at h
 split at h
 ·rename_i xs
  split at h
  case isFalse=>simp at h
  rename_i hc
  simp only[Option.some.injEq,Prod.mk.injEq]at h
  obtain⟨rfl,rfl⟩:=h
  match vs,ha with
  |[],ha=>simp[an]at ha
  |_::_::_,ha=>simp[an]at ha
  |[v],ha=>
   have tA:=ha
   simp only[an,ak]at tA
   obtain⟨⟨ad,cap,hv,hle,hn,V7⟩,_⟩:=tA
   cases ad with
   |none=>
    have hx:xs=[]:=by
     simp_all
    subst hx
    exact H9 v (by rw[hv,hn rfl]; rfl)
   |some ad=>
    have Qy:an Ec true [.kW xs cap] [v]:=by
     simp_all[an,ak]
    by_cases hx:xs=[]
    ·subst hx
     obtain⟨n,cl,dQ,hr,vQ⟩:=he cap
     obtain⟨k,hk⟩:=(aX (jm C0 g [.kW [] cap] [])).1 hr
     refine((sound bI k).1 g [.kW [] cap] [] _ _ hk Ec w [v] hI Qy).mono fun en w' hp=>?_
     exact⟨_,_,JC vQ hp,fun nm=>EV (es:=[]) (bZ vQ) rfl⟩
    ·obtain⟨n,cl,dQ,hr,vQ⟩:=h1 xs cap hx hc.1 hc.2.1 hc.2.2
     obtain⟨k,hk⟩:=(aX (jm C0 g [.kW xs cap] [])).1 hr
     refine((sound bI k).1 g [.kW xs cap] [] _ _ hk Ec w [v] hI Qy).mono fun en w' hp=>?_
     exact⟨_,_,hp,fun nm=>EV vQ rfl⟩
 ·simp only[Option.some.injEq,Prod.mk.injEq]at h
  obtain⟨rfl,rfl⟩:=h
  match vs,ha with
  |[],ha=>simp[an]at ha
  |_::_::_,ha=>simp[an]at ha
  |[v],ha=>
   simp only[an,ak]at ha
   exact H9 v ha.1
 ·simp at h
theorem GK{α:Type}{rpe:α→AV→Prop}{r:bu}(bI:∀ x a,rpe x a→aC r.isAgg r.size a=true){x y:List α}{a:AV}(ha:We rpe x a)(hy:GI r.bytes x=some y):
  ∃ l,qx r [a]=some (.bh r.size 0 l.length 0 l.length none,[some (.arr true true false l)])∧aw rpe y l:=by
 unfold GI AM at hy
 rcases ha with ⟨l,rfl,h⟩|⟨rfl,rfl⟩
 ·cases hq:decide (x.length*r.bytes≤2^44)&&decide (x.length≤2^44)
  ·rw[hq]at hy; simp at hy
  rw[hq]at hy
  simp only[cond_true,Option.some.injEq]at hy
  subst hy
  simp only[Bool.and_eq_true,decide_eq_true_eq]at hq
  rw[h.length]at hq
  refine⟨l,?_,h⟩
  unfold qx
  simp only
  have bg:l.all (aC r.isAgg r.size)=true:=by
   refine List.all_eq_true.2 fun z hz=>?_
   obtain⟨i,hi⟩:=List.getElem?_of_mem hz
   obtain⟨u,_,hu⟩:=h.get' hi
   exact bI u z hu
  rw[if_pos ⟨bg,hq.1,hq.2⟩]
 ·have:y=[]:=by
   simp_all
  subst this
  exact⟨[],rfl,trivial⟩
theorem GJ[ab]{C:Ctx}{T:dm}{g:FuncId}{t el esz:Nat}{I:List AV→Option (AV×ag)}{F:T.den t→Option (List (T.den el))}(hi:C.fY g=some I)
  (KZ:∀ x a,T.rp el x a→flat a=true)
  (h:∀ x a y,T.rp t x a→F x=some y→∃ l,I [a]=some (.bh esz 0 l.length 0 l.length none,[some (.arr true true false l)])∧aw (T.rp el) y l):A4 C T g ⟨[t],el,esz,F⟩ where
 RR:=by
  intro x as y hx hy
  match as,hx with
  |[],hx=>exact False.elim hx
  |_::_::_,hx=>exact False.elim hx.2
  |[a],hx=>
   obtain⟨l,h1,h2⟩:=h x a y hx.1 hy
   refine⟨0,true,l,[some (.arr true true false l)],?_,rfl,?_,h2⟩
   ·simp only[RQ,hi,h1]
   ·rw[List.all_eq_true]
    intro z hz
    obtain⟨i,hi⟩:=List.getElem?_of_mem hz
    obtain⟨u,_,hu⟩:=h2.get' hi
    exact KZ u z hu
end Go.PI
end
section
/- Plain laws: loops of models. -/
namespace Go.Pl
open Go.PI
theorem next[ab]{τ ω:Type}{f:τ→Option (τ ⊕ ω)}{x y:τ}(h:f x=some (.inl y)):aI f x=aI f y:=by
 rw[DD,h]; rfl
theorem out[ab]{τ ω:Type}{f:τ→Option (τ ⊕ ω)}{x:τ}{w:ω}(h:f x=some (.inr w)):aI f x=some w:=by
 rw[DD,h]; rfl
theorem yq(p:Nat→Bool)(n i:Nat)(hi:i<n):(List.range' i (n-i)).all p=(p i&&(List.range' (i+1) (n-(i+1))).all p):=by
 grind
theorem tS[ab]{τ ω:Type}{f:τ→Option (τ ⊕ ω)}(st:Nat→τ)(p:Nat→Bool)(bad:Nat→ω)(n:Nat)(e:ω)
  (h:∀ i,i<n→f (st i)=some (bif p i then .inl (st (i+1)) else .inr (bad i))) (he:f (st n)=some (.inr e)) :
  (List.range n).all p=true∧aI f (st 0)=some e∨(List.range n).all p=false∧∃ i,i<n∧p i=false∧aI f (st 0)=some (bad i):=by
 have key:∀ m i,m=n-i→i≤n→(List.range' i (n-i)).all p=true∧aI f (st i)=some e∨(List.range' i (n-i)).all p=false∧∃ j,j<n∧p j=false∧aI f (st i)=some (bad j):=by
  intro m
  induction m with
  |zero=>
   intro i hm hi
   have:i=n:=by omega
   subst this
   left
   rw[Nat.sub_self]
   exact⟨rfl,out he⟩
  |succ m ih=>
   intro i hm hi
   have bL:i<n:=by omega
   have hs:=h i bL
   rw[yq p n i bL]
   cases hp:p i with
   |false=>
    rw[hp]at hs
    right
    exact⟨by simp,i,bL,hp,out hs⟩
   |true=>
    rw[hp]at hs
    rw[next hs]
    simpa using ih (i+1) (by omega) (by omega)
 have:=key n 0 rfl (Nat.zero_le _)
 rwa [Nat.sub_zero,←List.range_eq_range']at this
theorem AL{α:Type}{l:List α}{q:α→Bool}{p:Nat→Bool}(h:∀ i (hi:i<l.length),p i=q l[i]):(List.range l.length).all p=l.all q:=by
 rw[Bool.eq_iff_iff,List.all_eq_true,List.all_eq_true]
 constructor
 ·intro hp x hx
  obtain⟨i,hi,rfl⟩:=List.getElem_of_mem hx
  rw[←h i hi]; exact hp i (List.mem_range.2 hi)
 ·simp_all
theorem u3[ab]{α τ ω:Type}{f:τ→Option (τ ⊕ ω)}(l:List α)(st:Nat→τ)(q:α→Bool)(bad e:ω){x0:τ}
  (h:∀ i (hi:i<l.length),f (st i)=some (bif q l[i] then .inl (st (i+1)) else .inr bad)) (he:f (st l.length)=some (.inr e)) (hx:x0=st 0) :
  aI f x0=some (bif l.all q then e else bad):=by
 subst hx
 have hp:∀ i (hi:i<l.length),(fun i=>(l[i]?.map q).getD false) i=q l[i]:=by
  simp_all
 rcases tS st (fun i=>(l[i]?.map q).getD false) (fun _=>bad) l.length e (fun i hi=>by have:=hp i hi; simp only at this; rw[this]; exact h i hi) he with ⟨h1,h2⟩|⟨h1,i,_,_,h2⟩
 ·rw[AL hp]at h1; rw[h2,h1]; rfl
 ·rw[AL hp]at h1; rw[h2,h1]; rfl
end Go.Pl
end
section
/- The types of this seat, as Lean's (printed by gen_tys.py out of the dump). -/
namespace Go.Proofs.Ytedjbjphpnkpoaa
open Go.PI
instance:ab:=⟨fun _=>none,fun f=>Nat.beq f 23⟩
structure dY where
 A:Bool
 N:Int
structure cw where
 aQ:List Int
 af:List (List Int)
 aG:List Int
structure aj where
 dW:Int
 Den:Int
structure ck where
 Net:cw
 DH:List Bool
 DI:List aj
def den:Nat→Type
 |2=>Int
 |3=>Int
 |4=>Bool
 |5=>Int
 |9=>ByteArray
 |22=>List Int
 |23=>List (List Int)
 |24=>cw
 |25=>cw
 |26=>List aj
 |29=>Int
 |34=>aj
 |35=>aj
 |36=>List Int
 |53=>List Bool
 |54=>ck
 |55=>ck
 |56=>List dY
 |57=>Int
 |58=>Int
 |73=>Int
 |78=>Int
 |81=>dY
 |82=>dY
 |86=>aj
 |87=>aj
 |96=>Int
 |104=>Int
 |106=>Int
 |115=>Int
 |52=>ck
 |_=>Unit
abbrev V:=SV den
def up2(x:Int):V:=.lit (.int .i64 x)
def dn2(v:V):Option Int:=dI .i64 v
def rp2(x:Int)(a:AV):Prop:=a=.lit (.int .i64 x)
def UK(x:Int):V:=.lit (.int .i64 x)
def NN(v:V):Option Int:=dI .i64 v
def NM(x:Int)(a:AV):Prop:=a=.lit (.int .i64 x)
def up4(x:Bool):V:=.lit (.bool x)
def dn4(v:V):Option Bool:=dB v
def rp4(x:Bool)(a:AV):Prop:=a=.lit (.bool x)
def up5(x:Int):V:=.lit (.int .u8 x)
def dn5(v:V):Option Int:=dI .u8 v
def rp5(x:Int)(a:AV):Prop:=a=.lit (.int .u8 x)
def up9(x:ByteArray):V:=.lit (.string x)
def dn9(v:V):Option ByteArray:=dS v
def rp9(x:ByteArray)(a:AV):Prop:=a=.lit (.string x)
def Yx(x:List Int):V:=.jw 3 x
def Jw(v:V):Option (List Int):=Qc (den:=den) 3 NN v
def ER(x:List Int)(a:AV):Prop:=OY NM x a
def Yy(x:List (List Int)):V:=.jw 22 x
def Sd(v:V):Option (List (List Int)):=Qc (den:=den) 22 Jw v
def Pq(x:List (List Int))(a:AV):Prop:=OY ER x a
def Pr(x:cw):V:=.agg [.jw 3 x.aQ,.jw 22 x.af,.jw 3 x.aG]
def Ps:V→Option cw
 |.agg [a0,a1,a2]=>(Jw a0).bind fun b0=>(Sd a1).bind fun b1=>(Jw a2).bind fun b2=>some ⟨b0,b1,b2⟩
 |_=>none
def Jx(x:cw)(a:AV):Prop:=∃ a0 a1 a2,ER x.aQ a0∧Pq x.af a1∧ER x.aG a2∧a=.agg [a0,a1,a2]
def Pt(x:aj):V:=.agg [.lit (.int .i64 x.dW),.lit (.int .i64 x.Den)]
def MS:V→Option aj
 |.agg [a0,a1]=>(NN a0).bind fun b0=>(NN a1).bind fun b1=>some ⟨b0,b1⟩
 |_=>none
def xe(x:aj)(a:AV):Prop:=a=.agg [.lit (.int .i64 x.dW),.lit (.int .i64 x.Den)]
def Yz(x:List aj):V:=.jw 35 x
def UL(v:V):Option (List aj):=Qc (den:=den) 35 MS v
def UM(x:List aj)(a:AV):Prop:=OY xe x a
def YA(x:Int):V:=.lit (.int .u16 x)
def UN(v:V):Option Int:=dI .u16 v
def Pu(x:Int)(a:AV):Prop:=a=.lit (.int .u16 x)
def YB(x:List Int):V:=.jw 73 x
def YC(v:V):Option (List Int):=Qc (den:=den) 73 UN v
def UO(x:List Int)(a:AV):Prop:=OY Pu x a
def YD(x:List Bool):V:=.jw 4 x
def UP(v:V):Option (List Bool):=Qc (den:=den) 4 dn4 v
def UQ(x:List Bool)(a:AV):Prop:=OY rp4 x a
def MT(x:ck):V:=.agg [.jw 3 x.Net.aQ,.jw 22 x.Net.af,.jw 3 x.Net.aG,.jw 4 x.DH,.jw 35 x.DI]
def MU:V→Option ck
 |.agg [a0,a1,a2,a3,a4]=>(Jw a0).bind fun b0=>(Sd a1).bind fun b1=>(Jw a2).bind fun b2=>(UP a3).bind fun b3=>(UL a4).bind fun b4=>some ⟨⟨b0,b1,b2⟩,b3,b4⟩
 |_=>none
def Jy(x:ck)(a:AV):Prop:=∃ a0 a1 a2 a3 a4,ER x.Net.aQ a0∧Pq x.Net.af a1∧ER x.Net.aG a2∧UQ x.DH a3∧UM x.DI a4∧a=.agg [a0,a1,a2,a3,a4]
def Pv(x:dY):V:=bif x.A then .fW 57 (.lit (.int .i64 x.N)) else .fW 58 (.lit (.int .i64 x.N))
def MV(v:V):Option dY:=match v with
 |.fW t w=>(dI .i64 w).bind fun n=>bif Nat.beq t 57 then some ⟨true,n⟩ else bif Nat.beq t 58 then some ⟨false,n⟩ else none
 |_=>none
def ES(x:dY)(a:AV):Prop:=a=.fW (bif x.A then 57 else 58) (.lit (.int .i64 x.N))
def YE(x:List dY):V:=.jw 82 x
def YF(v:V):Option (List dY):=Qc (den:=den) 82 MV v
def YG(x:List dY)(a:AV):Prop:=OY ES x a
def YH(x:Int):V:=.lit (.int .u64 x)
def YI(v:V):Option Int:=dI .u64 v
def YJ(x:Int)(a:AV):Prop:=a=.lit (.int .u64 x)
def Pw(x:aj):V:=.agg [.lit (.int .i64 x.dW),.lit (.int .i64 x.Den)]
def Px:V→Option aj
 |.agg [a0,a1]=>(NN a0).bind fun b0=>(NN a1).bind fun b1=>some ⟨b0,b1⟩
 |_=>none
def GO(x:aj)(a:AV):Prop:=a=.agg [.lit (.int .i64 x.dW),.lit (.int .i64 x.Den)]
def UR(x:Int):V:=.lit (.int .u32 x)
def US(v:V):Option Int:=dI .u32 v
def UT(x:Int)(a:AV):Prop:=a=.lit (.int .u32 x)
def Qt(x:Int):V:=.lit (.int .u64 x)
def Qu(v:V):Option Int:=dI .u64 v
def Qv(x:Int)(a:AV):Prop:=a=.lit (.int .u64 x)
def YK(x:ck):V:=.bj (MT x) 0
def YL(v:V):Option ck:=Xn MU v
def YM(x:ck)(a:AV):Prop:=VW Jy x a
def up:(t:Nat)→den t→V
 |2,x=>up2 x
 |3,x=>UK x
 |4,x=>up4 x
 |5,x=>up5 x
 |9,x=>up9 x
 |22,x=>Yx x
 |23,x=>Yy x
 |24,x=>Pr x
 |25,x=>Pr x
 |26,x=>Yz x
 |29,x=>UK x
 |34,x=>Pt x
 |35,x=>Pt x
 |36,x=>YB x
 |53,x=>YD x
 |54,x=>MT x
 |55,x=>MT x
 |56,x=>YE x
 |57,x=>UK x
 |58,x=>UK x
 |73,x=>YA x
 |78,x=>YH x
 |81,x=>Pv x
 |82,x=>Pv x
 |86,x=>Pw x
 |87,x=>Pw x
 |96,x=>UK x
 |104,x=>UR x
 |106,x=>Qt x
 |115,x=>Qt x
 |52,x=>YK x
 |_,_=>.dead
def dn:(t:Nat)→V→Option (den t)
 |2,v=>dn2 v
 |3,v=>NN v
 |4,v=>dn4 v
 |5,v=>dn5 v
 |9,v=>dn9 v
 |22,v=>Jw v
 |23,v=>Sd v
 |24,v=>Ps v
 |25,v=>Ps v
 |26,v=>UL v
 |29,v=>NN v
 |34,v=>MS v
 |35,v=>MS v
 |36,v=>YC v
 |53,v=>UP v
 |54,v=>MU v
 |55,v=>MU v
 |56,v=>YF v
 |57,v=>NN v
 |58,v=>NN v
 |73,v=>UN v
 |78,v=>YI v
 |81,v=>MV v
 |82,v=>MV v
 |86,v=>Px v
 |87,v=>Px v
 |96,v=>NN v
 |104,v=>US v
 |106,v=>Qu v
 |115,v=>Qu v
 |52,v=>YL v
 |_,_=>none
def rp:(t:Nat)→den t→AV→Prop
 |2,x,a=>rp2 x a
 |3,x,a=>NM x a
 |4,x,a=>rp4 x a
 |5,x,a=>rp5 x a
 |9,x,a=>rp9 x a
 |22,x,a=>ER x a
 |23,x,a=>Pq x a
 |24,x,a=>Jx x a
 |25,x,a=>Jx x a
 |26,x,a=>UM x a
 |29,x,a=>NM x a
 |34,x,a=>xe x a
 |35,x,a=>xe x a
 |36,x,a=>UO x a
 |53,x,a=>UQ x a
 |54,x,a=>Jy x a
 |55,x,a=>Jy x a
 |56,x,a=>YG x a
 |57,x,a=>NM x a
 |58,x,a=>NM x a
 |73,x,a=>Pu x a
 |78,x,a=>YJ x a
 |81,x,a=>ES x a
 |82,x,a=>ES x a
 |86,x,a=>GO x a
 |87,x,a=>GO x a
 |96,x,a=>NM x a
 |104,x,a=>UT x a
 |106,x,a=>Qv x a
 |115,x,a=>Qv x a
 |52,x,a=>YM x a
 |_,_,_=>False
def UU:Nat→Bool
 |24=>true
 |25=>true
 |34=>true
 |35=>true
 |54=>true
 |55=>true
 |86=>true
 |87=>true
 |_=>false
def Qw:Nat→Nat
 |24=>3
 |25=>3
 |34=>2
 |35=>2
 |54=>5
 |55=>5
 |86=>2
 |87=>2
 |_=>1
def Qx:(t:Nat)→Option (den t)
 |2=>some (0:Int)
 |3=>some (0:Int)
 |4=>some (false:Bool)
 |5=>some (0:Int)
 |9=>some (ByteArray.empty:ByteArray)
 |22=>some ([]:List Int)
 |23=>some ([]:List (List Int))
 |24=>some (⟨[],[],[]⟩:cw)
 |25=>some (⟨[],[],[]⟩:cw)
 |26=>some ([]:List aj)
 |29=>some (0:Int)
 |34=>some (⟨0,0⟩:aj)
 |35=>some (⟨0,0⟩:aj)
 |36=>some ([]:List Int)
 |53=>some ([]:List Bool)
 |54=>some (⟨⟨[],[],[]⟩,[],[]⟩:ck)
 |55=>some (⟨⟨[],[],[]⟩,[],[]⟩:ck)
 |56=>some ([]:List dY)
 |57=>some (0:Int)
 |58=>some (0:Int)
 |73=>some (0:Int)
 |78=>some (0:Int)
 |86=>some (⟨0,0⟩:aj)
 |87=>some (⟨0,0⟩:aj)
 |96=>some (0:Int)
 |104=>some (0:Int)
 |106=>some (0:Int)
 |115=>some (0:Int)
 |_=>none
def m5:kp:=⟨false,1,1,some (.lit (.int .u8 0)),.other,none,none⟩
def m7:kp:=⟨true,4,24,some (.agg [zI,zI,zB,.lit (.int .u8 0)]),.struct [(0,2),(1,3),(2,4),(3,6)],none,none⟩
def Wc:kp:=⟨false,1,8,some (.lit (.int .u64 0)),.other,none,none⟩
def m13:kp:=⟨true,2,24,some (.agg [zS,.lit (.int .u64 0)]),.struct [(0,9),(1,12)],none,none⟩
def m18:kp:=⟨true,1,8,some (.agg [.lit (.pointer none)]),.struct [(0,17)],none,none⟩
def YN:kp:=⟨false,1,16,some (.lit .nilIface),.iface,none,none⟩
def YO:kp:=⟨false,1,4,some (.lit (.int .i32 0)),.other,none,none⟩
def m24:kp:=⟨true,3,72,some (.agg [zL,zL,zL]),.struct [(0,22),(1,23),(2,22)],none,none⟩
def m34:kp:=⟨true,2,16,some (.agg [zI,zI]),.struct [(0,3),(1,3)],some [kI,kI],none⟩
def m54:kp:=⟨true,5,120,some (.agg [zL,zL,zL,zL,zL]),.struct [(0,25),(3,53),(4,26)],none,none⟩
def m86:kp:=⟨true,2,16,some (.agg [zI,zI]),.struct [(0,35)],some [kI,kI],none⟩
def UW:kp:=⟨true,4,40,some (.agg [.lit (.pointer none),.lit (.pointer none),.lit (.pointer none),zS]),.struct [(0,17),(1,17),(2,17),(3,9)],none,none⟩
def UX:kp:=⟨true,11,48,some (.agg [.lit (.int .u64 0),.lit (.int .u64 0),.lit (.int .u32 0),.lit (.int .u8 0),.lit (.int .u8 0),.lit (.int .u8 0),.lit (.int .u8 0),zF,.lit (.pointer none),.lit (.int .i32 0),.lit (.int .i32 0)]),.struct [(0,12),(1,12),(2,104),(3,135),(4,5),(5,5),(6,136),(7,137),(8,138),(9,139),(10,140)],none,none⟩
def Cf:List (Nat×kp):=[
 (1,mF),
 (2,mI),
 (3,mI),
 (4,⟨false,1,1,some zB,.other,none,none⟩),
 (5,m5),
 (6,m5),
 (7,m7),
 (8,m7),
 (9,mS),
 (10,mS),
 (11,mS),
 (12,Wc),
 (13,m13),
 (14,m13),
 (15,mP),
 (16,mP),
 (17,mP),
 (18,m18),
 (19,m18),
 (20,YN),
 (21,YO),
 (22,mL 3),
 (23,mL 22),
 (24,m24),
 (25,m24),
 (26,mL 35),
 (27,mF),
 (28,mF),
 (29,mI),
 (31,mF),
 (32,mF),
 (33,mF),
 (34,m34),
 (35,m34),
 (36,mL 73),
 (37,mF),
 (38,mF),
 (40,mF),
 (41,mF),
 (42,mF),
 (44,mF),
 (45,mF),
 (46,mF),
 (47,mF),
 (48,mF),
 (49,mF),
 (50,mF),
 (51,mF),
 (52,mP),
 (53,mL 4),
 (54,m54),
 (55,m54),
 (56,mL 82),
 (57,mI),
 (58,mI),
 (59,mF),
 (60,mF),
 (62,mF),
 (63,mF),
 (64,mF),
 (65,mF),
 (66,mF),
 (67,mF),
 (68,mF),
 (69,mF),
 (70,mF),
 (71,mF),
 (72,mF),
 (73,⟨false,1,2,some (.lit (.int .u16 0)),.other,none,none⟩),
 (75,mF),
 (76,mF),
 (77,mF),
 (78,Wc),
 (79,mF),
 (80,mF),
 (81,YN),
 (82,YN),
 (83,mF),
 (84,mF),
 (85,mF),
 (86,m86),
 (87,m86),
 (88,mF),
 (89,mF),
 (90,mF),
 (91,mF),
 (92,mF),
 (93,mF),
 (94,mF),
 (95,mF),
 (96,mI),
 (98,mF),
 (99,mF),
 (100,mF),
 (102,mF),
 (103,mF),
 (104,⟨false,1,4,some (.lit (.int .u32 0)),.other,none,none⟩),
 (105,mF),
 (106,Wc),
 (107,mF),
 (108,mF),
 (109,mF),
 (110,mF),
 (111,mF),
 (112,mF),
 (113,mF),
 (114,mF),
 (115,Wc),
 (116,mF),
 (117,mF),
 (118,mF),
 (119,mP),
 (120,mF),
 (121,mF),
 (122,mF),
 (124,mF),
 (125,mP),
 (126,mF),
 (127,mF),
 (128,mF),
 (129,UW),
 (130,UW),
 (134,mF),
 (135,m5),
 (136,m5),
 (137,mF),
 (138,mP),
 (139,YO),
 (140,YO),
 (141,UX),
 (142,UX)]
def Se:(t:Nat)→Option ((den t→Bool)×(den t→V)×(den t→V))
 |81=>some (fun (x:dY)=>x.A,fun (x:dY)=>.fW 57 (.lit (.int .i64 x.N)),fun (x:dY)=>.fW 58 (.lit (.int .i64 x.N)))
 |82=>some (fun (x:dY)=>x.A,fun (x:dY)=>.fW 57 (.lit (.int .i64 x.N)),fun (x:dY)=>.fW 58 (.lit (.int .i64 x.N)))
 |_=>none
abbrev T:dm:=⟨den,up,dn,rp,UU,Qw,Qx,Se⟩
end Go.Proofs.Ytedjbjphpnkpoaa
end
