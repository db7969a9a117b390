/- Part 4 of the proof: texts of this session laid one behind the other. -/
import Derived.KernelRfl
import Derived.IntWalk
import Derived.Test.YtedjbjphpnkpoaaX3
set_option linter.unusedVariables false
set_option linter.unusedSimpArgs false
section
/- PS, part O: a state goes over into one with variables. -/
namespace Go.PI
variable {T:dw}{ρ:Type}
section
variable {H0 Hs Hf:ah T.den}
mutual
theorem R.eb(ht:∀ n c v0 aq,fP H0 n c v0→fP Hs n c aq→fP Hf n c aq)(hx:∀ (n:Nat) (o:aB T.den),H0[n]?=some (some o)→∃ o,Hf[n]?=some (some o)):∀ {v:SV T.den} {a0 a:AV},R T H0 v a0→R T Hs v a→R T Hf v a
 |.dead,_,_,h,_=>by simp[R]at h
 |.hole,a0,a,_,h=>by simpa[R] using h
 |.lit v,a0,a,_,h=>by simpa[R] using h
 |.agg l,a0,a,h0,h=>by
  simp only[R]at h0 h ⊢
  obtain⟨l0,_,h2⟩:=h0
  obtain⟨l',h1,h3⟩:=h
  exact⟨l',h1,RL.eb ht hx h2 h3⟩
 |.ju l,a0,a,h0,h=>by
  simp only[R]at h0 h ⊢
  obtain⟨l0,_,h2⟩:=h0
  obtain⟨l',h1,h3⟩:=h
  exact⟨l',h1,RL.eb ht hx h2 h3⟩
 |.sl l,a0,a,h0,h=>by
  simp only[R]at h0 h ⊢
  obtain⟨l0,_,h2,_⟩:=h0
  obtain⟨l',h1,h3,h4⟩:=h
  exact⟨l',h1,RL.eb ht hx h2 h3,h4⟩
 |.jt t l,a0,a,_,h=>by simpa[R] using h
 |.wR t l c b,a0,a,_,h=>by simp only[R]at h ⊢; exact h
 |.nz,a0,a,_,h=>by simp only[R]at h ⊢; exact h
 |.bh e j,a0,a,h0,h=>by
  simp only[R]at h0 h ⊢
  obtain⟨l0,_,h2,_⟩:=h0
  obtain⟨l',h1,h3,h4⟩:=h
  exact⟨l',h1,R.eb ht hx h2 h3,h4⟩
 |.ref m c i j,a0,a,h0,h=>by
  grind[R]
 |.iU m c i j ln cp,a0,a,h0,h=>by
  grind[R]
 |.bq esz m c rg cap,a0,a,h0,h=>by
  grind[R]
 |.iV fn f c,a0,a,h0,h=>by
  simp only[R]at h0 h ⊢
  obtain⟨_,_,_,g1,g2⟩:=h0
  obtain⟨f',c',h1,h2,h3⟩:=h
  exact⟨f',c',h1,RL.eb ht hx g1 h2,RL.eb ht hx g2 h3⟩
 |.gi t v,a0,a,h0,h=>by
  simp only[R]at h0 h ⊢
  obtain⟨l0,_,h2⟩:=h0
  obtain⟨l',h1,h3⟩:=h
  exact⟨l',h1,R.eb ht hx h2 h3⟩
 |.mp y n,a0,a,h0,h=>by
  grind[R]
 |.sK v s l i,a0,a,h0,h=>by
  simp only[R]at h0 h ⊢
  obtain⟨b0,h2,_⟩:=h0
  obtain⟨b,h3,h4⟩:=h
  exact⟨b,R.eb ht hx h2 h3,h4⟩
theorem RL.eb(ht:∀ n c v0 aq,fP H0 n c v0→fP Hs n c aq→fP Hf n c aq)(hx:∀ (n:Nat) (o:aB T.den),H0[n]?=some (some o)→∃ o,Hf[n]?=some (some o)):∀ {l:List (SV T.den)} {m0 m:List AV},RL T H0 l m0→RL T Hs l m→RL T Hf l m
 |[],[],[],_,_=>by simp[RL]
 |x::xs,y0::UG,y::ys,h0,h=>by
  simp only[RL]at h0 h ⊢
  exact⟨R.eb ht hx h0.1 h.1,RL.eb ht hx h0.2 h.2⟩
 |[],_::_,_,h,_=>by simp[RL]at h
 |[],[],_::_,_,h=>by simp[RL]at h
 |_::_,[],_,h,_=>by simp[RL]at h
 |_::_,_::_,[],_,h=>by simp[RL]at h
end
end
theorem ko{Hs:ah T.den}:∀ {objs:List (Nat×cO)} {l:List (TV T.den)},jZ Hs objs=some l→∀ q,q∈objs→∃ o ln,Hs[q.1]?=some (some o)∧ee Hs o q.2=some ln
 |[],_,_,q,hq=>by simp at hq
 |(n,p)::r,l,h,q,hq=>by
  simp only[jZ]at h
  split at h
  case h_2=>simp at h
  rename_i o ho
  rw[Option.bind_eq_some_iff]at h
  obtain⟨ln,h1,h⟩:=h
  rw[Option.map_eq_some_iff]at h
  obtain⟨l2,h2,rfl⟩:=h
  rcases List.mem_cons.1 hq with rfl|hq
  ·exact⟨o,ln,ho,h1⟩
  ·exact ko h2 q hq
def Bz(p:cO)(c:Nat):Nat:=
 match p with
 |.list _=>c+1
 |_=>c
theorem G1(p:cO)(c:Nat):c≤Bz p c:=by cases p<;>simp[Bz]
theorem N0{p:cO}(h:∀ t,p≠.list t)(c:Nat):Bz p c=c:=by
 cases p with
 |list t=>exact absurd rfl (h t)
 |_=>rfl
def Start(H:ah T.den)(o:aB T.den)(p:cO):Prop:=(∃ ln,ee H o p=some ln)∨(((∃ q,p=.one q)∨∃ ps,p=.agg ps)∧∃ g cl f c e,o=.arr g cl f c [e])
theorem DB{Hs:ah T.den}{o:aB T.den}{p:cO}{ln:List (TV T.den)}(h:ee Hs o p=some ln):Compat (mz o p) p∧(mz o p).flags.1=o.flags.1∧(mz o p).flags.2.1=o.flags.2.1∧(mz o p).flags.2.2=o.flags.2.2 ∧
  (mz o p).cur=Bz p o.cur:=by
 cases p with
 |list t=>
  cases o with
  |arr g cl f c es=>
   cases cl with
   |true=>exact⟨⟨g,f,c+1,[],rfl⟩,rfl,rfl,rfl,rfl⟩
   |false=>cases h
  |bW g f c t' l=>exact⟨⟨g,f,c+1,[],rfl⟩,rfl,rfl,rfl,rfl⟩
  |_=>cases h
 |fix t=>
  cases o with
  |arr g cl f c es=>
   cases cl with
   |true=>exact⟨⟨g,f,c,[],rfl⟩,rfl,rfl,rfl,rfl⟩
   |false=>cases h
  |bW g f c t' l=>exact⟨⟨g,f,c,[],rfl⟩,rfl,rfl,rfl,rfl⟩
  |_=>cases h
 |one q=>
  cases o with
  |arr g cl f c es=>exact⟨⟨g,cl,f,c,es,rfl⟩,rfl,rfl,rfl,rfl⟩
  |_=>cases h
 |agg ps=>
  cases o with
  |arr g cl f c es=>exact⟨⟨g,cl,f,c,es,rfl⟩,rfl,rfl,rfl,rfl⟩
  |_=>cases h
 |map kk t=>
  obtain⟨m,rfl,rfl⟩:=tS h
  exact⟨⟨[],rfl⟩,rfl,rfl,rfl,rfl⟩
theorem yC{Hs:ah T.den}{o:aB T.den}{p:cO}(h:Start Hs o p):Compat (mz o p) p∧(mz o p).flags.1=o.flags.1∧(mz o p).flags.2.1=o.flags.2.1∧(mz o p).flags.2.2=o.flags.2.2 ∧
  (mz o p).cur=Bz p o.cur:=by
 rcases h with ⟨ln,h⟩|⟨⟨q,rfl⟩|⟨ps,rfl⟩,g,cl,f,c,e,rfl⟩
 ·exact DB h
 ·exact⟨⟨g,cl,f,c,[e],rfl⟩,rfl,rfl,rfl,rfl⟩
 ·exact⟨⟨g,cl,f,c,[e],rfl⟩,rfl,rfl,rfl,rfl⟩
theorem iT:∀ {ext:List o5} {n:Nat} {q:Nat×cO},q∈a9 n ext→∃ i g f t,q=(n+i,.list t)∧ext[i]?=some (.list g f t)
 |[],_,q,h=>by simp[a9]at h
 |.hJ::r,n,q,h=>by
  simp only[a9]at h
  obtain⟨i,g,f,t,rfl,h2⟩:=iT h
  exact⟨i+1,g,f,t,by rw[show n+1+i=n+(i+1) by omega],by simpa using h2⟩
 |.list g f t::r,n,q,h=>by
  simp only[a9]at h
  rcases List.mem_cons.1 h with rfl|h
  ·exact⟨0,g,f,t,rfl,rfl⟩
  ·obtain⟨i,g',f',t',rfl,h2⟩:=iT h
   exact⟨i+1,g',f',t',by rw[show n+1+i=n+(i+1) by omega],by simpa using h2⟩
theorem mX[ab]:∀ {ext:List o5} {n:Nat},cZ ((a9 n ext).map (·.1))=true
 |[],_=>rfl
 |.hJ::r,n=>by simp only[a9]; exact mX
 |.list g f t::r,n=>by
  simp only[a9,List.map_cons,cZ,Bool.and_eq_true,Bool.not_eq_true',List.contains_eq_mem,decide_eq_false_iff_not]
  refine⟨fun h=>?_,mX⟩
  obtain⟨q,hq,e⟩:=List.mem_map.1 h
  obtain⟨i,_,_,_,rfl,_⟩:=iT hq
  simp only at e
  omega
theorem Aq[ab]:∀ {l m:List Nat},cZ l=true→cZ m=true→(∀ x,x∈l→x∉m)→cZ (l++m)=true
 |[],m,_,h,_=>h
 |x::l,m,h,h',hd=>by
  obtain⟨h1,h2⟩:=nodup_cons h
  simp only[List.cons_append,cZ,Bool.and_eq_true,Bool.not_eq_true',List.contains_eq_mem,decide_eq_false_iff_not,List.mem_append,not_or]
  exact⟨⟨h1,hd x (by simp)⟩,Aq h2 h' fun y hy=>hd y (List.mem_cons_of_mem _ hy)⟩
theorem tT{H:ah T.den}:∀ {ext:List o5} {n i:Nat} {e:o5},CZ H n ext=true→ext[i]?=some e→∃ o,H[n+i]?=some (some o)∧(match e with|.hJ=>o.flags.2.1=true|.list g f _=>o.flags=(g,true,f))
 |[],_,i,e,_,h=>by simp at h
 |x::r,n,i,e,hx,h=>by
  simp only[CZ,Bool.and_eq_true]at hx
  cases i with
  |zero=>
   grind
  |succ i=>
   simp only[List.getElem?_cons_succ]at h
   obtain⟨o,h1,h2⟩:=tT hx.2 h
   exact⟨o,by rw[show n+(i+1)=n+1+i by omega]; exact h1,h2⟩
theorem oE[ab]:∀ {ext:List o5} {n i:Nat},i<ext.length→(ext[i]?=some .hJ∧n+i∉(a9 n ext).map (·.1))∨∃ g f t,ext[i]?=some (.list g f t)∧(n+i,cO.list t)∈a9 n ext
 |[],_,i,h=>by simp at h
 |.hJ::r,n,i,h=>by
  cases i with
  |zero=>
   left
   refine⟨rfl,fun hc=>?_⟩
   obtain⟨q,hq,e⟩:=List.mem_map.1 hc
   simp only[a9]at hq
   obtain⟨j,_,_,_,rfl,_⟩:=iT hq
   simp only at e; omega
  |succ i=>
   rcases oE (n:=n+1) (i:=i) (by simpa using h) with ⟨h1,h2⟩|⟨g,f,t,h1,h2⟩
   ·grind[a9]
   ·grind[a9]
 |.list g f t::r,n,i,h=>by
  cases i with
  |zero=>grind[a9]
  |succ i=>
   rcases oE (n:=n+1) (i:=i) (by simpa using h) with ⟨h1,h2⟩|⟨g',f',t',h1,h2⟩
   ·left
    refine⟨by simpa using h1,?_⟩
    simp only[a9,List.map_cons,List.mem_cons,not_or]
    exact⟨by omega,by rw[show n+(i+1)=n+1+i by omega]; exact h2⟩
   ·grind[a9]
theorem Ic(hT:T.Ok){o:aB T.den}{H:ah T.den}{a:aN}(h:RO T H o a)(hc:o.flags.2.1=true):(∃ g f es,a=.arr g true f es)∨∃ k vs,a=.gl k vs∧∀ n,cN n vs=true:=by
 cases o with
 |arr g cl f c es=>
  obtain⟨es',rfl,_⟩:=h
  simp only[aB.flags]at hc
  subst hc
  exact .inl ⟨_,_,_,rfl⟩
 |bW g f c t l=>obtain⟨es',rfl,_⟩:=h; exact .inl ⟨_,_,_,rfl⟩
 |hJ=>exact h
 |kg kk t m=>obtain⟨vs,rfl,h⟩:=h; exact .inr ⟨_,_,rfl,fun n=>yz hT h⟩
 |oX fn ps as bd fr=>simp[aB.flags]at hc
structure Ie(T:dw)(az:List (Nat×oZ))(dead:List Nat)(objs:List (Nat×cO))(ext:List o5)(s0 s:bz T.den)(l:List (TV T.den)):Prop where
 Rq:cZ (az.map (·.1))=true
 UH:cZ (objs.map (·.1))=true
 Lj:∀ d,d∈az.map (·.1)++dead→d<s0.n
 kh:sk s0.hp.length az (objs++a9 s0.hp.length ext)=true
 fn:s.fn=s0.fn
 n:s.n=s0.n
 fr:∀ t,t∉az.map (·.1)++dead→cH s.fr t=cH s0.fr t
 hp:∀ n:Nat,n<s0.hp.length→n∉objs.map (·.1)→s.hp[n]?=s0.hp[n]?
 len:s.hp.length=s0.hp.length+ext.length
 flags:qE s0.hp s.hp objs=true
 cur:wU s0.hp s.hp objs=true
 Qy:CZ s.hp s0.hp.length ext=true
 Qz:∀ q,q∈objs→∃ o,s0.hp[q.1]?=some (some o)∧Start s0.hp o q.2
 abs:uW az (objs++a9 s0.hp.length ext) s=some l
theorem BA{H H':ah T.den}{objs:List (Nat×cO)}(h:qE H H' objs=true){q:Nat×cO}(hq:q∈objs){o o':aB T.den}(h1:H[q.1]?=some (some o))(h2:H'[q.1]?=some (some o')):o.flags=o'.flags:=by
 have:=List.all_eq_true.1 h q hq
 simp only[h1,h2,decide_eq_true_eq]at this
 exact this
theorem FC{H H':ah T.den}{objs:List (Nat×cO)}(h:wU H H' objs=true){q:Nat×cO}(hq:q∈objs)(hl:∀ t,q.2≠.list t){o o':aB T.den}(h1:H[q.1]?=some (some o))(h2:H'[q.1]?=some (some o')):o.cur=o'.cur:=by
 have:=List.all_eq_true.1 h q hq
 split at this
 ·rename_i t e; exact absurd e (hl t)
 ·simp_all
theorem G2[ab](hT:T.Ok){az:List (Nat×oZ)}{dead:List Nat}{objs:List (Nat×cO)}{ext:List o5}{s0 s:bz T.den}{l:List (TV T.den)}(ho:Ie T az dead objs ext s0 s l){YG st:St}(h0:RS T s0 YG)(h:RS T s st):
  RS T { c8 az dead objs ext s0 l with js:=s.js } st∧(c8 az dead objs ext s0 l).hp.length=s.hp.length ∧
  (∀ n:Nat,n<s0.hp.length→n∉objs.map (·.1)→(c8 az dead objs ext s0 l).hp[n]?=s0.hp[n]?) ∧
  (∀ t,t∉az.map (·.1)++dead→cH (c8 az dead objs ext s0 l).fr t=cH s0.fr t) ∧
  (c8 az dead objs ext s0 l).fn=s0.fn∧(c8 az dead objs ext s0 l).n=s0.n ∧
  (∀ q,q∈objs→∃ o0 os of,s0.hp[q.1]?=some (some o0)∧s.hp[q.1]?=some (some os)∧(c8 az dead objs ext s0 l).hp[q.1]?=some (some of)∧of.len=os.len∧of.cur=Bz q.2 o0.cur):=by
 have O5:=ho.Qz
 have bQ:∀ n,n∈objs.map (·.1)→n<s0.hp.length:=by
  grind
 have MT:∀ n,n∈(a9 s0.hp.length ext).map (·.1)→s0.hp.length≤n:=by
  intro n hn
  obtain⟨q,hq,rfl⟩:=List.mem_map.1 hn
  obtain⟨i,_,_,_,rfl,_⟩:=iT hq
  simp
 have zX:cZ ((objs++a9 s0.hp.length ext).map (·.1))=true:=by
  rw[List.map_append]
  exact Aq ho.UH mX fun x hx hc=>by have:=bQ x hx; have:=MT x hc; omega
 obtain⟨b1,b2,b3⟩:=sE (objs:=objs) (H:=s0.hp) ho.UH
 generalize IJ:rn s0.hp objs++ext.map HX=H1
 have Lk:H1.length=s.hp.length:=by rw[←IJ,ho.len]; simp[b1]
 have yD:∀ n:Nat,n<s0.hp.length→H1[n]?=(rn s0.hp objs)[n]?:=fun n hn=>by
  grind
 have Ll:∀ i:Nat,H1[s0.hp.length+i]?=(ext.map HX)[i]?:=fun i=>by
  grind
 have o7:=ho.abs
 unfold uW at o7
 rw[Option.bind_eq_some_iff]at o7
 obtain⟨la,hla,o7⟩:=o7
 rw[Option.map_eq_some_iff]at o7
 obtain⟨lb,OJ,rfl⟩:=o7
 have Q7:∀ q,q∈objs++a9 s0.hp.length ext→∃ o,H1[q.1]?=some (some o)∧Compat o q.2:=by
  intro q hq
  rcases List.mem_append.1 hq with hq|hq
  ·obtain⟨o,h1,h2⟩:=O5 q hq
   exact⟨mz o q.2,by rw[yD _ (bQ _ (List.mem_map_of_mem hq))]; exact b3 q hq o h1,(yC h2).1⟩
  ·obtain⟨i,g,f,t,rfl,h2⟩:=iT hq
   refine⟨.bW g f 0 t [],?_,⟨g,f,0,[],rfl⟩⟩
   simp only
   rw[Ll,List.getElem?_map,h2]
   rfl
 obtain⟨c1,c2,c3,c4⟩:=rE hT (Hs:=s.hp) (H:=H1) [] zX OJ Q7
 simp only[List.append_nil]at c1 c2 c3 c4
 generalize hHf:gd H1 (objs++a9 s0.hp.length ext) lb=Hf at c1 c2 c3 c4
 have hlen:Dy (fun n=>n<s0.hp.length∨n∈(objs++a9 s0.hp.length ext).map (·.1)) s.hp Hf:=by
  intro n o hn Ph
  by_cases hm:n∈(objs++a9 s0.hp.length ext).map (·.1)
  ·grind
  ·have hn:n<s0.hp.length:=hn.resolve_right hm
   have AL:n∉objs.map (·.1):=fun hc=>hm (by rw[List.map_append]; exact List.mem_append_left _ hc)
   refine⟨o,?_,rfl⟩
   rw[c2 n hm,yD n hn,b2 n AL,←ho.hp n hn AL]
   exact Ph
 have O6:=List.all_eq_true.1 ho.kh
 have Wn:∀ q,q∈objs++a9 s0.hp.length ext→∀ n,n∈q.2.kh→(n<s0.hp.length∨n∈(objs++a9 s0.hp.length ext).map (·.1)):=by
  intro q hq n hn
  have:=O6 n (List.mem_append_right _ (List.mem_flatMap.2 ⟨q,hq,hn⟩))
  simp only[Bool.or_eq_true,List.contains_eq_mem,decide_eq_true_eq]at this
  refine this.imp (fun h=>?_) id
  have:=Nat.le_of_ble_eq_true h
  omega
 have Wo:∀ q,q∈az→∀ n,n∈q.2.kh→(n<s0.hp.length∨n∈(objs++a9 s0.hp.length ext).map (·.1)):=by
  intro q hq n hn
  have:=O6 n (List.mem_append_left _ (List.mem_flatMap.2 ⟨q,hq,hn⟩))
  simp only[Bool.or_eq_true,List.contains_eq_mem,decide_eq_true_eq]at this
  refine this.imp (fun h=>?_) id
  have:=Nat.le_of_ble_eq_true h
  omega
 have N1:∀ q,q∈objs→∃ o0 os of,s0.hp[q.1]?=some (some o0)∧s.hp[q.1]?=some (some os)∧Hf[q.1]?=some (some of)∧of.len=os.len∧of.cur=Bz q.2 o0.cur ∧
   (∀ a,RO T s.hp os a→RO T Hf of a):=by
  intro q hq
  obtain⟨o0,h1,h2⟩:=O5 q hq
  obtain⟨o1,os,o',ln,Hc,DA,d1,d2,d3,d4,d5,d6,d7,d8⟩:=c4 q (List.mem_append_left _ hq)
  have hb:=b3 q hq o0 h1
  rw[yD _ (bQ _ (List.mem_map_of_mem hq)),hb]at d1
  simp only[Option.some.injEq]at d1
  subst d1
  obtain⟨e1,e2,e3,e4,e5⟩:=yC h2
  have HO:=BA ho.flags hq h1 d2
  refine⟨o0,os,o',h1,d2,d6,d8,by rw[d7,e5],fun a ha=>?_⟩
  exact yB hT (fun n=>by rw[d4,c3]) hlen (Wn q (List.mem_append_left _ hq)) e1 d3 d5 (by rw[e2,HO]) (by rw[e3,HO]) (by rw[e4,HO]) ha
 have Q2:∀ n c v0 aq,fP s0.hp n c v0→fP s.hp n c aq→fP Hf n c aq:=by
  intro n c v0 aq MJ hv
  have hn:=MJ.lt
  by_cases hm:n∈objs.map (·.1)
  ·obtain⟨q,hq,rfl⟩:=List.mem_map.1 hm
   obtain⟨o0,os,of,g1,g2,g3,g4,g5,_⟩:=N1 q hq
   obtain⟨o0',k1,k2,_⟩:=MJ
   rw[g1]at k1
   simp only[Option.some.injEq]at k1
   subst k1
   obtain⟨os',k3,k4,k5⟩:=hv
   rw[g2]at k3
   simp only[Option.some.injEq]at k3
   subst k3
   refine⟨of,g3,?_,fun e=>?_⟩
   ·have:=G1 q.2 o0.cur; omega
   ·by_cases hl:∃ t,q.2=.list t
    ·obtain⟨t,hl⟩:=hl
     rw[g5,hl]at e
     simp only[Bz]at e
     omega
    ·have hc:=FC ho.cur hq (fun t e=>hl ⟨t,e⟩) g1 g2
     have:of.cur=o0.cur:=by rw[g5,N0 (fun t e=>hl ⟨t,e⟩)]
     rw[g4]
     exact k5 (by omega)
  ·have AL:n∉(objs++a9 s0.hp.length ext).map (·.1):=by
    rw[List.map_append]
    intro hc
    rcases List.mem_append.1 hc with hc|hc
    ·exact hm hc
    ·have:=MT n hc; omega
   obtain⟨os,k1,k2,k3⟩:=hv
   exact⟨os,by rw[c2 n AL,yD n hn,b2 n hm,←ho.hp n hn hm]; exact k1,k2,k3⟩
 have S6:∀ n:Nat,n<s0.hp.length→n∉objs.map (·.1)→Hf[n]?=s0.hp[n]?:=by
  intro n hn hm
  have AL:n∉(objs++a9 s0.hp.length ext).map (·.1):=by
   rw[List.map_append]
   intro hc
   rcases List.mem_append.1 hc with hc|hc
   ·exact hm hc
   ·have:=MT n hc; omega
  rw[c2 n AL,yD n hn,b2 n hm]
 have hex:∀ (n:Nat) (o:aB T.den),s0.hp[n]?=some (some o)→∃ o,Hf[n]?=some (some o):=by
  intro n o xi
  have hn:=(List.getElem?_eq_some_iff.1 xi).1
  by_cases hm:n∈objs.map (·.1)
  ·obtain⟨q,hq,rfl⟩:=List.mem_map.1 hm
   obtain⟨_,_,of,_,_,g3,_⟩:=N1 q hq
   exact⟨of,g3⟩
  ·exact⟨o,by rw[S6 n hn hm]; exact xi⟩
 have QA:kE s.js Hf st.hp:=by
  intro n x hx
  obtain⟨h1,h2⟩:=h.js n x hx
  refine⟨?_,h2⟩
  obtain⟨o,HD,uB⟩:∃ o,s.hp[n]?=some (some o)∧o.isRec=true:=by
   unfold recAt at h1
   split at h1
   ·rename_i o HD; exact⟨o,HD,h1⟩
   ·simp at h1
  by_cases hn:n<s0.hp.length
  ·by_cases hm:n∈objs.map (·.1)
   ·exfalso
    obtain⟨q,hq,rfl⟩:=List.mem_map.1 hm
    obtain⟨o1,os,o',ln,Hc,DA,_,d2,d3,_⟩:=c4 q (List.mem_append_left _ hq)
    rw[HD]at d2
    simp only[Option.some.injEq]at d2
    subst d2
    cases o<;>simp[aB.isRec]at uB
    cases hp2:q.2<;>rw[hp2]at d3<;>cases d3
   ·rw[p8 (show Hf[n]?=s.hp[n]? by rw[S6 n hn hm,ho.hp n hn hm])]
    exact h1
  ·exfalso
   have Wd:=(List.getElem?_eq_some_iff.1 HD).1
   have hi:n-s0.hp.length<ext.length:=by have:=ho.len; omega
   have Li:s0.hp.length+(n-s0.hp.length)=n:=by omega
   obtain⟨e,he⟩:∃ e,ext[n-s0.hp.length]?=some e:=⟨_,List.getElem?_eq_getElem hi⟩
   obtain⟨o2,m1,m2⟩:=tT ho.Qy he
   rw[Li,HD]at m1
   simp only[Option.some.injEq]at m1
   subst m1
   cases o<;>simp[aB.isRec]at uB
   cases e<;>simp[aB.flags]at m2
 have NX:RH T Hf st.hp:=by
  have rh:Hf.length=st.hp.length:=by rw[c1,Lk]; exact h.hp.length
  refine aw.ed rh fun n x y hx hy=>?_
  obtain⟨xs,zA,hr⟩:=aw.get' h.hp hy
  have Wd:n<s.hp.length:=(List.getElem?_eq_some_iff.1 zA).1
  by_cases hn:n<s0.hp.length
  ·by_cases hm:n∈objs.map (·.1)
   ·obtain⟨q,hq,rfl⟩:=List.mem_map.1 hm
    obtain⟨o0,os,of,g1,g2,g3,g4,g5,g6⟩:=N1 q hq
    rw[g3]at hx
    rw[g2]at zA
    simp only[Option.some.injEq]at hx zA
    subst hx; subst zA
    cases y with
    |none=>exact hr.elim
    |some a=>exact g6 a hr
   ·have AL:n∉(objs++a9 s0.hp.length ext).map (·.1):=by
     rw[List.map_append]
     intro hc
     rcases List.mem_append.1 hc with hc|hc
     ·exact hm hc
     ·have:=MT n hc; omega
    rw[c2 n AL,yD n hn,b2 n hm,←ho.hp n hn hm,zA]at hx
    simp only[Option.some.injEq]at hx
    subst hx
    have D6:s0.hp[n]?=some xs:=by rw[←ho.hp n hn hm]; exact zA
    obtain⟨y0,_,D3⟩:=aw.get h0.hp D6
    cases xs with
    |none=>cases y with
     |none=>trivial
     |some a=>exact hr.elim
    |some o=>cases y with
     |none=>exact hr.elim
     |some a=>
      cases y0 with
      |none=>exact D3.elim
      |some a0=>
       cases o with
       |arr g cl f c es=>
        obtain⟨es',e1,e2,e3⟩:=hr
        obtain⟨Wj,_,e5,_⟩:=D3
        exact⟨es',e1,RL.eb Q2 hex e5 e2,e3⟩
       |bW g f c t l=>exact hr
       |hJ=>exact hr
       |kg kk t m=>exact hr
       |oX fn ps as bd fr=>
        obtain⟨st,vs,e1,e2⟩:=hr
        obtain⟨YG,vs0,_,e5⟩:=D3
        refine⟨st,vs,e1,aw.ed e2.length fun i x y hx hy=>?_⟩
        obtain⟨y',AU,lr⟩:=aw.get e2 hx
        rw[hy]at AU
        simp only[Option.some.injEq]at AU
        subst AU
        obtain⟨y0,YC,QB⟩:=aw.get e5 hx
        rcases lr with lr|lr
        ·exact .inl lr
        ·rcases QB with ⟨rfl,_⟩|QB
         ·simp[R]at lr
         ·exact .inr (R.eb Q2 hex QB lr)
  ·have hi:n-s0.hp.length<ext.length:=by have:=ho.len; omega
   have Li:n=s0.hp.length+(n-s0.hp.length):=by omega
   rcases oE (n:=s0.hp.length) hi with ⟨k1,k2⟩|⟨g,f,t,k1,k2⟩
   ·rw[←Li]at k2
    have AL:n∉(objs++a9 s0.hp.length ext).map (·.1):=by
     rw[List.map_append]
     intro hc
     rcases List.mem_append.1 hc with hc|hc
     ·exact hn (bQ n hc)
     ·exact k2 hc
    rw[c2 n AL,Li,Ll,List.getElem?_map,k1]at hx
    simp only[Option.map_some,HX,Option.some.injEq]at hx
    subst hx
    obtain⟨o,m1,m2⟩:=tT ho.Qy k1
    rw[←Li,zA]at m1
    simp only[Option.some.injEq]at m1
    subst m1
    cases y with
    |none=>exact hr.elim
    |some a=>exact Ic hT hr m2
   ·obtain⟨o1,os,o',ln,Hc,DA,d1,d2,d3,d4,d5,d6,d7,d8⟩:=c4 _ (List.mem_append_right _ k2)
    simp only at d1 d2 d3 d5 d6
    rw[←Li]at d2 d6
    rw[d6]at hx
    rw[d2]at zA
    simp only[Option.some.injEq]at hx zA
    subst hx; subst zA
    rw[Ll,List.getElem?_map,k1]at d1
    simp only[Option.map_some,HX,Option.some.injEq]at d1
    subst d1
    obtain⟨o,m1,m2⟩:=tT ho.Qy k1
    rw[←Li,d2]at m1
    simp only[Option.some.injEq]at m1
    subst m1
    simp only at m2
    cases y with
    |none=>exact hr.elim
    |some a=>
     exact yB hT (fun n=>by rw[d4,c3]) hlen (by intro n hn; simp[cO.kh]at hn) (show Compat (.bW g f 0 t []) (.list t) from ⟨g,f,0,[],rfl⟩) d3 d5 (by rw[m2]; rfl) (by rw[m2]; rfl) (by rw[m2]; rfl) hr
 obtain⟨yZ,f1,f2,f3⟩:=qb hT (Hc:=H1) (Hf:=Hf) (fun n=>by rw[c3]) hlen (N:=s0.n) (frs:=s.fr) (ast:=fun t=>st.fr.getD t .undef) h.fr (fr:=Ab s0.n s0.fr dead) lb ho.Rq
  (fun q hq=>⟨ho.Lj _ (List.mem_append_left _ (List.mem_map_of_mem hq)),Wo q hq⟩) hla
 have S7:c8 az dead objs ext s0 (la++lb)={ s0 with fr:=yZ,hp:=Hf }:=by
  unfold c8
  rw[IJ,f1]
  simp only[hHf]
 have BB:∀ t,t∉az.map (·.1)++dead→cH yZ t=cH s0.fr t:=by
  intro t ht
  simp only[List.mem_append,not_or]at ht
  rw[f2 t ht.1,vj,if_neg (fun hc=>ht.2 hc.1)]
 rw[S7]
 refine⟨⟨?_,?_,fun t=>?_,NX,QA⟩,by rw[c1,Lk],fun n hn hm=>?_,BB,rfl,rfl,fun q hq=>?_⟩
 ·show s0.fn=st.fn
  rw[←ho.fn]; exact h.fn
 ·show st.fr.length=s0.n
  rw[←ho.n]; exact h.n
 ·simp only
  by_cases ht:t∈az.map (·.1)
  ·obtain⟨q,hq,rfl⟩:=List.mem_map.1 ht
   exact .inr (f3 q hq)
  ·by_cases hd:t∈dead
   ·left
    rw[f2 t ht,vj,if_pos ⟨hd,ho.Lj _ (List.mem_append_right _ hd)⟩]
   ·have YH:t∉az.map (·.1)++dead:=by simp only[List.mem_append,not_or]; exact⟨ht,hd⟩
    rw[BB t YH]
    have e1:=h.fr t
    rw[ho.fr t YH]at e1
    rcases e1 with e1|e1
    ·exact .inl e1
    ·rcases h0.fr t with e0|e0
     ·exact .inl e0
     ·exact .inr (R.eb Q2 hex e0 e1)
 ·simp only
  have AL:n∉(objs++a9 s0.hp.length ext).map (·.1):=by
   rw[List.map_append]
   intro hc
   rcases List.mem_append.1 hc with hc|hc
   ·exact hm hc
   ·have:=MT n hc; omega
  rw[c2 n AL,yD n hn,b2 n hm]
 ·obtain⟨o0,os,of,g1,g2,g3,g4,g5,_⟩:=N1 q hq
  exact⟨o0,os,of,g1,g2,g3,g4,g5⟩
end Go.PI
end
section
/- PS, part P: the trees tell the truth. -/
namespace Go.PI
structure og.Ok[ab](S:og):Prop where
 T:S.T.Ok
 Q:S.Q.Ok
 Z:S.T.tO S.Q
 sum:∀ g σ,S.sum g=some σ→p7 S.C S.T g σ
 own:∀ g σ,S.own g=some σ→GY S.C S.T g σ
def DC(T:dw):oY T.den→Out→Prop
 |.norm s,o=>∃ st,o=.norm st∧RS T s st
 |.exit id s,o=>∃ st,o=.exit id st∧RS T s st
 |.ret s,o=>∃ st,o=.ret st∧RS T s st
def oY.st{den:Nat→Type}:oY den→bz den
 |.norm s=>s
 |.exit _ s=>s
 |.ret s=>s
structure oF[ab](S:og)(k:Nat):Prop where
 f:∀ (ρ:Type) (f:FuncId) (args:List (SV S.T.den)) (hp:ah S.T.den) (wh:List Nat) (js:List (Nat×kY)) (K:SV S.T.den→ah S.T.den→List Nat→List (Nat×kY)→Tr ρ) (r:ρ) (as:List AV) (N2:ag),RL S.T hp args as→RH S.T hp N2→kE js hp N2 →
  (OT S k ρ f args hp wh js K).run=some r→∃ v cq oV qM a eL,kx S.C f as N2=some (.val a,eL)∧R S.T cq v a∧RH S.T cq eL∧kE qM cq eL∧dk hp cq∧hp.length≤cq.length ∧
    (∀ n:Nat,n<hp.length→n∉oV→cq[n]?=hp[n]?)∧(∀ n,n∈wh→n∈oV)∧(K v cq oV qM).run=some r
 c:∀ (ρ:Type) (c:Code) (s:bz S.T.den) (K:oY S.T.den→Tr ρ) (r:ρ) (st:St),RS S.T s st→(wF S k ρ c s K).run=some r →
  ∃ so o,cP S.C c st=some o∧DC S.T so o∧bk s so.st∧(K so).run=some r
 o:∀ (ρ:Type) (o:Oper) (s:bz S.T.den) (K:bz S.T.den→Tr ρ) (r:ρ) (st:St),RS S.T s st→(NM S k ρ o s K).run=some r →
  ∃ s' st',ik S.C o st=some (.norm st')∧RS S.T s' st'∧bk s s'∧(K s').run=some r
section
variable {T:dw}{ρ:Type}
theorem qc[ab](hT:T.Ok){s:bz T.den}{st:St}(h:RS T s st){v:SV T.den}{a:AV}{cq:ah T.den}{eL:ag}{oV:List Nat}{qM:List (Nat×kY)}(g2:R T cq v a)(g3:RH T cq eL)(g4:dk s.hp cq)(g5:s.hp.length≤cq.length)
  (g6:∀ n:Nat,n<s.hp.length→n∉oV→cq[n]?=s.hp[n]?) (g7:∀ n,n∈s.wh→n∈oV) (hj:kE qM cq eL) (hb:sr qM s.hp.length=true) :
  RS T ⟨s.fn,s.n,s.fr,gb s.hp.length v cq,s.wf,oV,qM⟩ ⟨st.fn,st.fr,gK s.hp.length a eL⟩∧bk s ⟨s.fn,s.n,s.fr,gb s.hp.length v cq,s.wf,oV,qM⟩∧R T (gb s.hp.length v cq) v a:=by
 obtain⟨t1,t2⟩:=Ia (n:=s.hp.length) hT g3 g2
 have zJ:dk s.hp (gb s.hp.length v cq):=by
  unfold gb
  split
  ·intro n o ho
   obtain⟨o',h1,h2⟩:=g4 n o ho
   exact⟨o',by rw[mW (List.getElem?_eq_some_iff.1 ho).1]; exact h1,h2⟩
  ·exact g4
 have S8:∀ n:Nat,n<s.hp.length→n∉oV→(gb s.hp.length v cq)[n]?=s.hp[n]?:=by
  grind[gb]
 have hlen:s.hp.length≤(gb s.hp.length v cq).length:=by
  grind[gb]
 have QA:kE qM (gb s.hp.length v cq) (gK s.hp.length a eL):=by
  unfold gb gK
  rw[R.below g2,lf hT (aw.take g3 _)]
  split
  ·exact hj.take (Ap hb)
  ·exact hj
 exact⟨⟨h.fn,h.n,fun t=>(h.fr t).mono zJ,t1,QA⟩,⟨rfl,rfl,fun _ _=>rfl,fun _ h=>h,S8,g7,hlen,zJ⟩,t2⟩
theorem yE[ab]{H H':ah T.den}{esz j nm:Nat}{e e':SV T.den}{a:AV}(hr:R T H e a)(hx:∀ {v:SV T.den} {b:AV},R T H v b→R T H' v b)(hn:R T H' (.bq esz nm 0 none none) (.bq esz nm 0 0 0 none))(h:pU esz j nm e=some e'):
  ∃ a',kJ esz j nm a=some a'∧R T H' e' a':=by
 unfold pU at h
 split at h
 ·rename_i l
  split at h
  case h_2=>simp at h
  rename_i hl
  simp only[Option.some.injEq]at h
  subst h
  simp only[R]at hr
  obtain⟨l',rfl,jy⟩:=hr
  obtain⟨b,hb,Rn⟩:=aw.get (aQ.1 jy) hl
  simp only[R]at Rn
  subst Rn
  refine⟨.agg (l'.set j (.bq esz nm 0 0 0 none)),by simp only[kJ,hb],?_⟩
  simp only[R]
  exact⟨_,rfl,aQ.2 (((aQ.1 jy).mono fun _ _ h=>hx h).set j hn)⟩
 ·split at h
  case isFalse=>simp at h
  rename_i hj
  simp only[Option.some.injEq]at h
  subst h
  simp only[R]at hr
  subst hr
  exact⟨_,by simp only[kJ]; rw[if_pos hj],hn⟩
 ·simp at h
theorem S9[ab]{H:ah T.den}:RO T H (.arr true true false 0 []) (.arr true true false []):=⟨[],rfl,by simp[RL],fun _=>rfl⟩
theorem Lm{H:ah T.den}{esz nm:Nat}{g cl f:Bool}(h:H[nm]?=some (some (.arr g cl f 0 []))):R T H (.bq esz nm 0 none none) (.bq esz nm 0 0 0 none):=by
 simp only[R]
 exact⟨0,⟨_,h,Nat.le_refl _,fun _=>rfl⟩,rfl⟩
theorem G3[ab](hT:T.Ok){d:Tmp}{r:ρ}{K:bz T.den→Tr ρ}:∀ {l:List (Nat×Nat)} {s:bz T.den} {st:St},RS T s st→(HZ d l s K).run=some r→∃ s',RS T s' (IW d l st)∧bk s s'∧(K s').run=some r
 |[],s,st,h,hk=>⟨s,h,bk.refl _,hk⟩
 |(j,esz)::l,s,st,h,hk=>by
  have hlen:=h.hp.length
  unfold HZ at hk
  have hd:=h.fr d
  have Fu:∀ {s':bz T.den},RS T s' (pd d st j esz)→bk s s'→(HZ d l s' K).run=some r→∃ s',RS T s' (IW d ((j,esz)::l) st)∧bk s s'∧(K s').run=some r:=by
   intro s' h1 h2 h3
   obtain⟨s2,i1,i2,i3⟩:=G3 hT h1 h3
   exact⟨s2,i1,h2.trans i2,i3⟩
  split at hk
  ·rename_i n c i k he
   rw[he]at hd
   have hd:=hd.live rfl
   simp only[R]at hd
   obtain⟨aq,hd,ca⟩:=hd
   have eu:st.fr[d]?=some (.ref n aq i k):=by
    grind
   split at hk
   case h_2=>simp[Tr.run]at hk
   rename_i g cl f cur es ho
   obtain⟨ao,c6,dD⟩:=h.hp.obj ho
   obtain⟨es',rfl,cC,mh⟩:=dD
   split at hk
   case h_2=>simp[Tr.run]at hk
   rename_i e' Gc
   obtain⟨e,Mh,xL⟩:=Option.bind_eq_some_iff.1 Gc
   obtain⟨ea,Ta,Eb⟩:=aw.get (aQ.1 cC) Mh
   have hn:=(List.getElem?_eq_some_iff.1 ho).1
   have pj:=h.hp.new (nm:=s.hp.length) (o':=.arr true true false 0 []) (a':=.arr true true false []) (.inl rfl) S9
   have e1:bN s.hp s.hp.length (.arr true true false 0 [])=s.hp++[some (.arr true true false 0 [])]:=by simp[bN]
   have e2:setObj st.hp s.hp.length (.arr true true false [])=st.hp++[some (.arr true true false [])]:=by simp[setObj,hlen]
   rw[e1,e2]at pj
   obtain⟨O1,wz⟩:=pj
   have ke:R T (s.hp++[some (.arr true true false 0 [])]) (.bq esz s.hp.length 0 none none) (.bq esz s.hp.length 0 0 0 none):=Lm (g:=true) (cl:=true) (f:=false) (by simp)
   obtain⟨O7,h5,h6⟩:=yE Eb (fun h=>h.mono O1) ke xL
   have uB:(s.hp++[some (aB.arr true true false 0 [])])[n]?=some (some (.arr g cl f cur es)):=by rw[List.getElem?_append_left hn]; exact ho
   have ei:RL T (s.hp++[some (.arr true true false 0 [])]) (es.set i e') (es'.set i O7):=aQ.2 (((aQ.1 cC).mono fun _ _ h=>h.mono O1).set i h6)
   obtain⟨hg2,Cy⟩:=wz.Rj uB (o':=.arr g false f cur (es.set i e')) (a':=.arr g false f (es'.set i O7)) (Nat.le_refl _) (fun _=>by simp[aB.len]) ⟨_,rfl,ei,fun hc=>by simp at hc⟩
   have w1:bf s.hp [(n,.arr g false f cur (es.set i e')),(s.hp.length,.arr true true false 0 [])]=(s.hp++[some (aB.arr true true false 0 [])]).set n (some (aB.arr g false f cur (es.set i e'))):=by
    have q1:bN s.hp n (.arr g false f cur (es.set i e'))=s.hp.set n (some (.arr g false f cur (es.set i e'))):=by unfold bN; rw[if_neg (by omega)]
    have q2:∀ (L:ah T.den) (o:aB T.den),L.length=s.hp.length→bN L s.hp.length o=L++[some o]:=fun L o hL=>by unfold bN; rw[if_pos hL.symm]
    simp only[bf]
    rw[q1,q2 _ _ (by simp),List.set_append_left _ _ hn]
   have w2:ak st.hp [(n,.arr g false f (es'.set i O7)),(s.hp.length,.arr true true false [])]=(st.hp++[some (aN.arr true true false [])]).set n (some (aN.arr g false f (es'.set i O7))):=by
    have q1:setObj st.hp n (.arr g false f (es'.set i O7))=st.hp.set n (some (.arr g false f (es'.set i O7))):=by unfold setObj; rw[if_neg (by omega)]
    have q2:∀ (L:ag) (o:aN),L.length=s.hp.length→setObj L s.hp.length o=L++[some o]:=fun L o hL=>by unfold setObj; rw[if_pos hL.symm]
    simp only[ak]
    rw[q1,q2 _ _ (by simp[hlen]),List.set_append_left _ _ (by omega)]
   rw[cD]at hk
   have Wp:RE T s.hp st.hp (.lit undef) [(n,.arr g false f cur (es.set i e')),(s.hp.length,.arr true true false 0 [])] ⟨.undef,[(n,.arr g false f (es'.set i O7)),(s.hp.length,.arr true true false [])]⟩:=by
    refine⟨bn undef,by rw[w1,w2]; exact Cy,by rw[w1]; exact O1.trans hg2,fun q hq=>?_,fun m hm hl=>?_,by rw[w1]; simp,fun m hm hc=>?_⟩
    ·grind
    ·grind
    ·simp at hc
     rcases hc with rfl|rfl
     ·simp[recAt,ho,aB.isRec]at hm
     ·have:=jo hm; omega
   obtain⟨g8,g9⟩:=h.step Wp none
   refine Fu (s':=s.step none (.lit undef) _) ?_ g9 hk
   have:pd d st j esz={ st with fr:=bG st.fr none AV.undef,hp:=ak st.hp [(n,.arr g false f (es'.set i O7)),(s.hp.length,.arr true true false [])] }:=by
    unfold pd
    rw[hlen]at h5
    simp only[eu,c6,Ta,Option.bind_some,h5,bG]
    rw[w2,List.set_append_left _ _ (by omega)]
   rw[this]
   exact g8
  ·rename_i dN
   split at hk
   case h_2=>simp[Tr.run]at hk
   rename_i v' jr
   have Tb:bP (cH s.fr d)=false:=by
    cases hq:cH s.fr d<;>first|rfl|(rw[hq]at jr; simp[pU]at jr)
   have hd:=hd.live Tb
   have pj:=h.hp.new (nm:=s.hp.length) (o':=.arr true true false 0 []) (a':=.arr true true false []) (.inl rfl) S9
   have e1:bN s.hp s.hp.length (.arr true true false 0 [])=s.hp++[some (.arr true true false 0 [])]:=by simp[bN]
   have e2:setObj st.hp s.hp.length (.arr true true false [])=st.hp++[some (.arr true true false [])]:=by simp[setObj,hlen]
   have YI:=pj
   rw[e1,e2]at pj
   obtain⟨O1,wz⟩:=pj
   have ke:R T (s.hp++[some (.arr true true false 0 [])]) (.bq esz s.hp.length 0 none none) (.bq esz s.hp.length 0 0 0 none):=Lm (g:=true) (cl:=true) (f:=false) (by simp)
   obtain⟨a',h5,h6⟩:=yE hd (fun h=>h.mono O1) ke jr
   have eu:st.fr[d]?=some (st.fr.getD d .undef):=by
    rw[List.getD_eq_getElem?_getD]at h5 ⊢
    cases hq:st.fr[d]? with
    |none=>simp_all[kJ,AV.undef,Go.undef]
    |some x=>rfl
   have Tc:∀ n aq i k,st.fr.getD d .undef≠.ref n aq i k:=by
    intro n aq i k e
    rw[e]at h5
    simp[kJ]at h5
   rw[cD]at hk
   have Wp:RE T s.hp st.hp v' [(s.hp.length,.arr true true false 0 [])] ⟨a',[(st.hp.length,.arr true true false [])]⟩:=by
    have w1:bf s.hp [(s.hp.length,.arr true true false 0 [])]=s.hp++[some (.arr true true false 0 [])]:=e1
    have w2:ak st.hp [(st.hp.length,.arr true true false [])]=st.hp++[some (.arr true true false [])]:=by simp[ak,setObj]
    refine⟨.inr (by rw[w1]; exact h6),by rw[w1,w2]; exact wz,by rw[w1]; exact O1,fun q hq=>by simp at hq; subst hq; simp[hlen],fun m hm hl=>?_,by rw[w1]; simp,fun m hm hc=>?_⟩
    ·rw[w1,List.getElem?_append_left hl]
    ·simp at hc
     have:=jo hm; omega
   obtain⟨g8,g9⟩:=h.step Wp (some d)
   refine Fu (s':=s.step (some d) v' _) ?_ g9 hk
   have:pd d st j esz={ st with fr:=bG st.fr (some d) a',hp:=ak st.hp [(st.hp.length,.arr true true false [])] }:=by
    unfold pd
    rw[eu]
    rw[hlen]at h5
    split
    ·rename_i n aq i k he
     exact absurd (Option.some.inj he) (Tc n aq i k)
    ·rename_i e _ he
     have he:=Option.some.inj he
     rw[←he,h5]
     simp only[bG,ak,setObj,if_true]
    ·rename_i he; cases he
   rw[this]
   exact g8
theorem Ln[ab](hT:T.Ok){l:Tmp→List (Nat×Nat)}{dst:Option Tmp}{r:ρ}{K:bz T.den→Tr ρ}{s:bz T.den}{st:St}(h:RS T s st)(hk:(C1 l dst s K).run=some r):∃ s',RS T s' (BP l dst st)∧bk s s'∧(K s').run=some r:=by
 cases dst with
 |none=>exact⟨s,h,bk.refl _,hk⟩
 |some d=>exact G3 hT h hk
theorem FD{js:List (Nat×kY)}{n m:Nat}{y:kY}:cm (Bp js n y) m=if m=n then (cm js n).map (fun _=>y) else cm js m:=by
 induction js with
 |nil=>simp[Bp,cm]
 |cons q r ih=>
  obtain⟨k,x⟩:=q
  simp only[Bp,List.map_cons]at ih ⊢
  cases hk:Nat.beq k n with
  |true=>
   have:=Nat.eq_of_beq_eq_true hk
   subst this
   simp only[cm]
   by_cases hm:m=k
   ·subst hm; simp
   ·have:Nat.beq k m=false:=by cases hb:Nat.beq k m; rfl; exact absurd (Nat.eq_of_beq_eq_true hb).symm hm
    rw[this,if_neg hm]
    simp only
    rw[ih,if_neg hm]
  |false=>
   simp only[cm,hk]
   by_cases hm:m=n
   ·simp_all
   ·simp_all
theorem DD{js:List (Nat×kY)}{n m:Nat}:cm (C3 js n) m=if m=n then none else cm js m:=by
 induction js with
 |nil=>simp[C3,cm]
 |cons q r ih=>
  obtain⟨k,x⟩:=q
  simp only[C3,List.filter_cons]at ih ⊢
  cases hk:Nat.beq k n with
  |true=>
   have:=Nat.eq_of_beq_eq_true hk
   subst this
   simp only[Bool.not_true,Bool.false_eq_true,if_false,ih,cm]
   by_cases hm:m=k
   ·simp[hm]
   ·have:Nat.beq k m=false:=by cases hb:Nat.beq k m; rfl; exact absurd (Nat.eq_of_beq_eq_true hb).symm hm
    rw[this,if_neg hm]
  |false=>
   grind[cm]
theorem G4[ab]{H:ah T.den}{hp:ag}{js:List (Nat×kY)}(hh:RH T H hp)(hj:kE js H hp){n:Nat}{x:kY}(hn:cm js n=some x)(y:kY):RH T H (oI hp n y)∧kE (Bp js n y) H (oI hp n y):=by
 obtain⟨h1,h2⟩:=hj n x hn
 obtain⟨fn,ps,as,bd,fr,hr⟩:=iI h2
 have bQ:=(List.getElem?_eq_some_iff.1 hr).1
 have e:oI hp n y=hp.set n (some (.gl (.loop fn ps as bd y) fr)):=by unfold oI; rw[hr]
 rw[e]
 obtain⟨o,ho,Wq⟩:∃ o,H[n]?=some (some o)∧o.isRec=true:=by
  grind[recAt]
 obtain⟨a,ha,dD⟩:=hh.obj ho
 rw[hr]at ha
 simp only[Option.some.injEq]at ha
 subst ha
 cases o<;>simp[aB.isRec]at Wq
 rename_i Nf Wr nW Ws yZ
 obtain⟨st,vs,he,lY⟩:=dD
 cases he
 have ei:RH T H (hp.set n (some (.gl (.loop fn ps as bd y) fr))):=by
  have:=aw.set hh n (x:=some (.oX fn ps as bd yZ)) (y:=some (aN.gl (.loop fn ps as bd y) fr)) ⟨y,fr,rfl,lY⟩
  rwa [gZ ho]at this
 refine⟨ei,fun m z hm=>?_⟩
 rw[FD]at hm
 split at hm
 ·simp_all[ig]
 ·rename_i dN
  obtain⟨h3,h4⟩:=hj m z hm
  exact⟨h3,by rw[nL (List.getElem?_set_ne (Ne.symm dN))]; exact h4⟩
theorem DE{den:Nat→Type}{u:List Nat}{fr:sL den}:∀ {l:List Nat} {i:Nat},(wE u fr l)[i]?=(l[i]?).map fun d=>if u.contains d then cH fr d else .dead
 |[],i=>by simp[wE]
 |d::r,0=>by simp only[wE,List.getElem?_cons_zero,Option.map_some]; cases u.contains d<;>rfl
 |d::r,i+1=>by simp only[wE,List.getElem?_cons_succ]; exact DE
theorem DF{den:Nat→Type}{u:List Nat}{fr:sL den}:∀ {l:List Nat},(wE u fr l).length=l.length
 |[]=>rfl
 |d::r=>by simp only[wE,List.length_cons,DF]
theorem Ar{u:List Nat}:∀ {fr:List AV} {i j:Nat},(m6 u i fr)[j]?=(fr[j]?).map fun x=>if u.contains (i+j) then x else .any
 |[],i,j=>by simp[m6]
 |x::xs,i,0=>by simp[m6]
 |x::xs,i,j+1=>by
  simp only[m6,List.getElem?_cons_succ]
  rw[Ar,show i+1+j=i+(j+1) by omega]
theorem Au{u:List Nat}:∀ {fr:List AV} {i:Nat},(m6 u i fr).length=fr.length
 |[],_=>rfl
 |x::xs,i=>by simp only[m6,List.length_cons,Au]
theorem Ig[ab]{s:bz T.den}{st:St}(h:RS T s st){as bd:Code}(hd:(cV as++cV bd).all (fun d=>!bP (cH s.fr d)||!Nat.blt d s.n)=true):
  aw (RD T s.hp) (wE (cV as++cV bd) s.fr (List.range s.n)) (ud as bd st.fr):=by
 unfold ud
 refine aw.ed (by rw[DF,Au,List.length_range,h.n]) fun i x y hx hy=>?_
 rw[DE,Option.map_eq_some_iff]at hx
 rw[Ar,Option.map_eq_some_iff]at hy
 obtain⟨d,OE,rfl⟩:=hx
 obtain⟨a,ha,rfl⟩:=hy
 obtain⟨hi,rfl⟩:i<s.n∧i=d:=by
  grind
 rw[Nat.zero_add]
 cases hc:(cV as++cV bd).contains i with
 |false=>exact .inl ⟨rfl,rfl⟩
 |true=>
  right
  simp only[if_true]
  have hm:i∈cV as++cV bd:=by simpa using hc
  have:=List.all_eq_true.1 hd i hm
  have hb:Nat.blt i s.n=true:=Nat.ble_eq_true_of_le hi
  rw[hb]at this
  simp only[Bool.not_true,Bool.or_false,Bool.not_eq_true']at this
  have hv:=(h.fr i).live this
  rw[List.getD_eq_getElem?_getD,ha]at hv
  exact hv
theorem Av[ab]{H:ah T.den}:∀ {ps:List Tmp} {xs:List (SV T.den)} {as:List AV} {n:Nat} {fr:sL T.den} {fa:List AV},fa.length=n→(∀ t,RV T H (cH fr t) (fa.getD t .undef))→RL T H xs as →
  (fI fa ps as).length=n∧∀ t,RV T H (cH (lQ n fr ps xs) t) ((fI fa ps as).getD t .undef)
 |[],xs,as,n,fr,fa,hl,h,_=>by simpa[fI,lQ] using ⟨hl,h⟩
 |p::ps,[],[],n,fr,fa,hl,h,_=>by simpa[fI,lQ] using ⟨hl,h⟩
 |p::ps,x::xs,a::as,n,fr,fa,hl,h,hx=>by
  simp only[RL]at hx
  simp only[fI,lQ]
  refine Av (by simp[hl]) (fun t=>?_) hx.2
  rw[kn,Dq,hl]
  split
  ·exact .inr hx.1
  ·exact h t
 |p::ps,[],_::_,_,_,_,_,_,h=>by simp[RL]at h
 |p::ps,_::_,[],_,_,_,_,_,h=>by simp[RL]at h
noncomputable def Lo(n:Nat)(dst:Option Tmp)(st:St):Out→Option Out
 |.norm s2=>xb n dst st true .ready s2.hp
 |.exit id s2=>xb n dst st false (.jump (some id)) s2.hp
 |.ret s2=>xb n dst st false (.jump none) s2.hp
 |_=>none
theorem BC[ab](hT:T.Ok){s s2:bz T.den}{st NZ:St}(h:RS T s st)(h2:RS T s2 NZ)(hg:dk s.hp s2.hp)(hl:s.hp.length≤s2.hp.length)(hk:∀ n:Nat,n<s.hp.length→n∉s2.wh→s2.hp[n]?=s.hp[n]?)(hw:∀ n,n∈s.wh→n∈s2.wh)
  {n:Nat} {dst:Option Tmp} {b:Bool} {x:kY} {K:bz T.den→Tr ρ} {r:ρ} (hr:(KT s n dst b x s2 K).run=some r) :
  ∃ s' st',xb n dst st b x NZ.hp=some (.norm st')∧RS T s' st'∧bk s s'∧(K s').run=some r:=by
 unfold KT at hr
 split at hr
 case h_2=>simp[Tr.run]at hr
 rename_i hb
 split at hr
 case h_2=>simp[Tr.run]at hr
 rename_i BD
 rw[jQ,cD]at hr
 obtain⟨_,Td⟩:=h2.js n _ hb
 obtain⟨r1,r2⟩:=G4 h2.hp h2.js hb x
 have Te:sr (Bp s2.js n x) s.hp.length=true:=by
  refine List.all_eq_true.2 fun q hq=>?_
  obtain⟨q0,Sy,e⟩:=List.mem_map.1 hq
  have:=List.all_eq_true.1 BD q0 Sy
  split at e<;>(subst e; exact this)
 obtain⟨g1,g2,g3⟩:=qc hT h (v:=.lit (.bool b)) (a:=.lit (.bool b)) (by simp[R]) r1 hg hl hk hw r2 Te
 obtain⟨g8,g9⟩:=g1.step (v:=.lit (.bool b)) (wr:=[]) (e:=⟨.lit (.bool b),[]⟩) ⟨bn _,g1.hp,dk.refl _,fun q hq=>by simp at hq,fun _ _ _=>rfl,Nat.le_refl _,fun _ _ h=>by simp at h⟩ dst
 refine⟨_,_,?_,g8,g2.trans g9,hr⟩
 unfold xb
 rw[Td,h.hp.length]
 rfl
end
def FE{den:Nat→Type}(H H':ah den):Prop:=∀ n:Nat,n<H.length→∀ o':aB den,H'[n]?=some (some o')→∃ o:aB den,H[n]?=some (some o)∧o.cur=o'.cur∧o.len=o'.len
theorem R.back[ab]{T:dw}{H H':ah T.den}(hb:FE H H'){v:SV T.den}{a:AV}(h:R T H' v a)(hv:bt H.length v=true):R T H v a:=by
 refine(h.take hv).mono fun n o ho=>?_
 have hn:n<H.length:=by
  grind
 rw[List.getElem?_take_of_lt hn]at ho
 obtain⟨o',h1,h2,h3⟩:=hb n hn o ho
 exact⟨o',h1,by omega,fun _=>h3⟩
theorem RM.Lp{α:Type}{hp:ag}:∀ {x:RM α} {a:α},x.run hp=some a→∀ n,n∈x.log hp→n<hp.length
 |.ret _,_,_,n,hn=>by simp[RM.log]at hn
 |.fail,_,h,_,_=>by simp[RM.run]at h
 |.get m k,a,h,n,hn=>by
  simp only[RM.run]at h
  split at h
  case h_2=>simp at h
  rename_i o ho
  simp only[RM.log,ho,List.mem_cons]at hn
  rcases hn with rfl|hn
  ·grind
  ·exact RM.Lp h n hn
theorem aE.gR{hp:ag}{ov:Option (Nat×aN)}{nw:List aN}{α:Type}{x:RM α}{a:α}{rd:List Nat}(h:aE (aR hp ov nw) x a rd):aE hp (x.gR hp.length ov nw) a rd:=by
 refine⟨by rw[(nB x).1]; exact h.1,fun n hn=>?_⟩
 rw[(nB x).2]at hn
 exact h.2 n (List.mem_filter.1 hn).1
theorem aE.Tf{hp:ag}{ov:Option (Nat×aN)}{nw:List aN}{α:Type}{x:RM α}{a:α}{rd:List Nat}(h:aE (aR hp ov nw) x a rd):aE hp (x.gR hp.length ov nw) a (rd.filter fun n=>Nat.blt n hp.length):=by
 refine⟨by rw[(nB x).1]; exact h.1,fun n hn=>?_⟩
 rw[(nB x).2]at hn
 obtain⟨h1,h2⟩:=List.mem_filter.1 hn
 exact List.mem_filter.2 ⟨h.2 n h1,h2⟩
theorem aE.Wt{hp:ag}{α:Type}{x:RM α}{a:α}{rd:List Nat}(h:aE hp x a rd):aE hp x a (rd.filter fun n=>Nat.blt n hp.length):=by
 refine⟨h.1,fun n hn=>List.mem_filter.2 ⟨h.2 n hn,?_⟩⟩
 have:=RM.Lp h.1 n hn
 simpa using this
theorem Lq[ab]{P:Program}{hp:ag}{ev:Operand→AV}{nm n aq i j:Nat}{dst:Option Tmp}{t:TypeId}{a x:Operand}{type:TypeId}{pos:String}{after:Array Edge}{guard:Option (Nat×Bool)}{e:dm}
  (he:(aK P nm ev ⟨dst,.store t a x,type,pos,after,guard⟩).run hp=some e) (ha:ev a=.ref n aq i j):∃ o',e.wr=[(n,o')]:=by
 simp only[aK,pb,ha]at he
 split at he
 ·simp[RM.af]at he
 ·simp only[RM.run_bind]at he
  cases hq:(RM.arr n aq).run hp with
  |none=>rw[hq]at he; simp at he
  |some q=>
   rw[hq]at he
   simp only[Option.bind_some]at he
   split at he
   case h_2=>simp[RM.af]at he
   split at he
   case h_2=>simp[RM.af]at he
   split at he
   case isFalse=>simp[RM.af]at he
   simp only[RM.run_pure,Option.some.injEq]at he
   subst he
   exact⟨_,rfl⟩
theorem Ih[ab]{P:Program}{t:TypeId}{a:AV}{hp:ag}{n:Nat}(h:n∈(kF P t a).log hp):n∈names a:=by
 unfold kF at h
 split at h
 ·simp[RM.log]at h
 ·split at h
  ·rw[RM.eC]at h
   simp only[names]
   rcases List.mem_append.1 h with h|h
   ·grind[RM.log,RM.arr]
   ·exfalso
    split at h
    ·unfold RM.gU at h
     repeat' (split at h)
     all_goals first|(simp[RM.log]at h; done)|skip
    ·simp at h
  ·unfold RM.gU at h
   split at h<;>simp[RM.log]at h
  ·simp[RM.log]at h
theorem G5[ab]{T:dw}{P:Program}{s:bz T.den}{st:St}(h:RS T s st):∀ {rs:List ResultVar},wV s.fr rs=true→∀ n,n∈(aU P st.fr rs).log st.hp→n∈GM s.fr rs
 |[],_,n,hn=>by simp[aU,pure,RM.log]at hn
 |r::rs,hl,n,hn=>by
  unfold wV at hl
  simp only[List.all_cons,Bool.and_eq_true]at hl
  have ih:=G5 (P:=P) h (rs:=rs) (by unfold wV; exact hl.2) n
  simp only[aU,RM.eC]at hn
  unfold GM
  rw[List.flatMap_cons]
  rcases List.mem_append.1 hn with hn|hn
  ·refine List.mem_append.2 (.inl ?_)
   cases r with
   |tmp t=>simp[jS,pure,RM.log]at hn
   |cell a t=>
    simp only[jS]at hn
    have hd:bP (cH s.fr a)=false:=by simpa using hl.1
    have:=Ih hn
    rw[←R.names ((h.fr a).live hd)]at this
    exact this
  ·split at hn
   ·rcases List.mem_append.1 hn with hn|hn
    ·exact List.mem_append.2 (.inr (ih hn))
    ·split at hn
     ·simp[pure,RM.log]at hn
     ·simp at hn
   ·simp at hn
theorem DG[ab]{T:dw}{H:ah T.den}:∀ {l:List (SV T.den)} {m:List AV},aw (R T H) l m→l.all isHole=true→m.all isAny=true
 |[],[],_,_=>rfl
 |x::xs,y::ys,h,hl=>by
  simp only[List.all_cons,Bool.and_eq_true]at hl ⊢
  refine⟨?_,DG h.2 hl.2⟩
  have h1:=h.1
  have h2:=hl.1
  unfold isHole at h2
  split at h2
  ·simp only[R]at h1
   rw[h1]; rfl
  ·simp at h2
theorem qN[ab]{T:dw}(hT:T.Ok){Q:gP}(hQ:Q.Ok)(hZ:T.tO Q){ops:Array Oper}{hp:ag}{H:ah T.den}(hH:H.length=hp.length){ρ:Type}{r:ρ}{f:FuncId}:
  ∀ (l:List Oper) (s:bz T.den) (q:wu) (ov:Option Nat) (rd:List Nat) (K:bz T.den→Option Nat→List Nat→Tr ρ),RS T s ⟨f,q.fr,aR hp q.ov q.nw⟩→ov=q.ov.map (·.1)→(∀ n o,q.ov=some (n,o)→∃ o0,hp[n]?=some (some o0))→FE H s.hp →
  (uX Q hp.length l s ov rd K).run=some r →
  ∃ s' Ii rd2 q',aE hp (iZ Q.P hp.length ops l q) q' rd2∧RS T s' ⟨f,q'.fr,aR hp q'.ov q'.nw⟩∧Ii=q'.ov.map (·.1)∧(∀ n o,q'.ov=some (n,o)→∃ o0,hp[n]?=some (some o0))∧FE H s'.hp∧(K s' Ii (rd++rd2)).run=some r
 |[],s,q,ov,rd,K,h,wH,hex,hb,hk=>⟨s,ov,[],q,aE.pure _,h,wH,hex,hb,by rw[List.append_nil]; exact hk⟩
 |o::l,s,q,ov,rd,K,h,wH,hex,hb,hk=>by
  simp only[uX]at hk
  split at hk
  ·simp[Tr.run]at hk
  rename_i hg
  have hw:cF ops q.fr o=some true:=by simp[cF,hg]
  split at hk
  ·simp[Tr.run]at hk
  ·rename_i DX
   rw[cD]at hk
   have he:RE T s.hp (aR hp q.ov q.nw) (.lit cK) [] ⟨.lit cK,[]⟩:=⟨bn _,h.hp,dk.refl _,fun q h=>by simp at h,fun _ _ _=>rfl,Nat.le_refl _,fun _ _ h=>by simp at h⟩
   obtain⟨g1,_⟩:=h.step he o.dst
   obtain⟨s',Ii,rd2,q',i1,i2,i3,i4,i5,hk⟩:=qN hT hQ hZ (ops:=ops) hH l _ { q with fr:=bG q.fr o.dst (.lit cK) } ov rd K g1 wH hex (by simpa[bz.step,bf] using hb) hk
   refine⟨s',Ii,rd2,q',?_,i2,i3,i4,i5,hk⟩
   simp only[iZ,hw,DX]
   cases hd:o.dst with
   |none=>rw[hd]at i1; exact i1
   |some d=>rw[hd]at i1; exact i1
  ·rename_i Uo Mn
   have hlen:s.hp.length=hp.length+q.nw.length:=h.hp.length.trans n7
   obtain⟨v,wr,rd',e,g1,g2,hk⟩:=Fy hT hQ hZ h.hp (.inl rfl) (fun x=>h.ev x) hk
   simp only at hk
   rw[hlen]at g1
   have e1:iZ Q.P hp.length ops (o::l) q=((aK Q.P (hp.length+q.nw.length) (ay q.fr) o).gR hp.length q.ov q.nw >>= fun e=>match e.wr.all fun q=>Nat.ble hp.length q.1 with
     |true=>iZ Q.P hp.length ops l { q with fr:=bG q.fr o.dst e.val,nw:=pg hp.length q.nw e.wr }
     |false=>(match q.ov,e.wr with
      |none,[(n,o')]=>.get n fun o0=>(match rJ Q.P (ay q.fr) o.op n o0 with
        |true=>iZ Q.P hp.length ops l { q with fr:=bG q.fr o.dst e.val,ov:=some (n,o') }
        |false=>.fail)
      |_,_=>.fail)):=by
    simp only[iZ,hw]
    rfl
   rw[e1]
   split at hk
   ·rename_i bc
    rw[cD]at hk
    obtain⟨g3,_⟩:=h.step g2 o.dst
    have DH:e.wr.all (fun q=>Nat.ble hp.length q.1)=true:=by
     refine List.all_eq_true.2 fun x hx=>?_
     obtain⟨y,hy,hyx⟩:=List.mem_map.1 (g2.names x hx)
     have:=List.all_eq_true.1 bc y hy
     rw[←hyx]; exact this
    rw[pN e.wr fun x hx=>Nat.le_of_ble_eq_true (List.all_eq_true.1 DH x hx)]at g3
    have o8:FE H (s.step o.dst v wr).hp:=by
     intro n hn o' c6
     refine hb n hn o' ?_
     have:n∉wr.map (·.1):=by
      intro hm
      obtain⟨y,hy,rfl⟩:=List.mem_map.1 hm
      have:=Nat.le_of_ble_eq_true (List.all_eq_true.1 bc y hy)
      omega
     rw[←g2.Bs n this (by omega)]
     exact c6
    obtain⟨s',Ii,rd2,q',i1,i2,i3,i4,i5,hk⟩:=qN hT hQ hZ (ops:=ops) hH l _ { q with fr:=bG q.fr o.dst e.val,nw:=pg hp.length q.nw e.wr } ov (rd++rd') K g3 wH hex o8 hk
    refine⟨s',Ii,rd'++rd2,q',?_,i2,i3,i4,i5,by rw[←List.append_assoc]; exact hk⟩
    refine aE.bind g1.gR ?_
    simp only[DH]
    exact i1
   ·split at hk
    case h_2=>simp[Tr.run]at hk
    rename_i n o' bc abE
    split at hk
    case h_2=>simp[Tr.run]at hk
    rename_i hh
    rw[Bool.and_eq_true]at hh
    obtain⟨bQ,gM⟩:=hh
    have bQ:n<hp.length:=by simpa using bQ
    have QC:q.ov=none:=by
     cases hq:q.ov with
     |none=>rfl
     |some x=>rw[hq]at wH; simp at wH
    unfold GL at gM
    split at gM
    case h_2=>simp at gM
    rename_i t a x DX
    split at gM
    case h_2=>simp at gM
    rename_i r0 n' c i j g f cur es PC Ta yS
    split at gM
    case h_2=>simp at gM
    rename_i l0 wI
    simp only[Bool.and_eq_true]at gM
    obtain⟨⟨⟨⟨c1,c2⟩,c3⟩,c4⟩,c5⟩:=gM
    obtain rfl:=Nat.eq_of_beq_eq_true c1
    have My:=h.ev a
    rw[Ta]at My
    have My:=My.live rfl
    simp only[R]at My
    obtain⟨aq,My,_⟩:=My
    obtain⟨dst,op,type,pos,after,guard⟩:=o
    simp only at DX
    subst DX
    obtain⟨VW,D5⟩:=Lq g1.1 My
    obtain⟨ao,HD,dD⟩:=h.hp.obj yS
    obtain⟨es',rfl,cC,_⟩:=dD
    obtain⟨l1,rh,GV⟩:=aw.get (aQ.1 cC) wI
    simp only[R]at GV
    obtain⟨l',rfl,GV⟩:=GV
    rw[QC]at HD
    have uB:hp[n']?=some (some (.arr g false f es')):=by
     grind[aR,pM]
    obtain⟨r1,wz,_,kL,_⟩:=hQ.row _ _ PC
    have Tg:rJ Q.P (ay q.fr) (.store t a x) n' (.arr g false f es')=true:=by
     simp only[rJ,wz,My,rh,Bool.and_eq_true]
     refine⟨⟨c1,?_⟩,?_⟩
     ·rw[←aw.length (aQ.1 GV),kL]; exact c2
     ·rw[kL]
      exact DG (((aQ.1 GV).drop j).take r0.size) c3
    have DH:e.wr.all (fun q=>Nat.ble hp.length q.1)=false:=by
     simp_all
    rw[cD]at hk
    obtain⟨g3,_⟩:=h.step g2 dst
    simp only at g3
    rw[D5,QC,xP uB]at g3
    have o8:FE H (s.step dst v [(n',o')]).hp:=by
     intro m hm om YJ
     by_cases e:m=n'
     ·subst e
      have N3:(bf s.hp [(m,o')])[m]?=some (some om):=YJ
      simp only[bf,bN]at N3
      rw[if_neg (by omega),List.getElem?_set_self (by omega)]at N3
      simp only[Option.some.injEq]at N3
      subst N3
      obtain⟨o1,b1,b2,b3⟩:=hb m hm _ yS
      refine⟨o1,b1,b2.trans (Nat.eq_of_beq_eq_true c4),b3.trans (Nat.eq_of_beq_eq_true c5)⟩
     ·refine hb m hm om ?_
      rw[←g2.Bs m (by simpa using e) (by omega)]
      exact YJ
    obtain⟨s',Ii,rd2,q',i1,i2,i3,i4,i5,hk⟩:=qN hT hQ hZ (ops:=ops) hH l _ { q with fr:=bG q.fr dst e.val,ov:=some (n',VW) } (some n') (rd++(rd'++[n'])) K g3 rfl
     (fun m om hm=>by simp only[Option.some.injEq,Prod.mk.injEq]at hm; obtain⟨rfl,rfl⟩:=hm; exact⟨_,uB⟩) o8 hk
    refine⟨s',Ii,rd'++(n'::rd2),q',?_,i2,i3,i4,i5,by simpa using hk⟩
    refine aE.bind g1.gR ?_
    rw[D5]at DH
    simp only[D5,DH,QC]
    refine aE.get uB ?_
    simp only[Tg]
    exact i1
theorem Ij[ab]{T:dw}(hT:T.Ok){Q:gP}(hQ:Q.Ok)(hZ:T.tO Q){hp:ag}{H:ah T.den}(hH:H.length=hp.length){ρ:Type}{r:ρ}{f:FuncId}:
  ∀ (c:Code) (s:bz T.den) (q:wu) (ov:Option Nat) (rd:List Nat) (K:Bool→bz T.den→Option Nat→List Nat→Tr ρ),RS T s ⟨f,q.fr,aR hp q.ov q.nw⟩→ov=q.ov.map (·.1)→(∀ n o,q.ov=some (n,o)→∃ o0,hp[n]?=some (some o0))→FE H s.hp →
  (lR Q hp.length c s ov rd K).run=some r →
  ∃ b s' Ii rd2 q',aE hp (gE Q.P hp.length c q) (q',b) rd2∧RS T s' ⟨f,q'.fr,aR hp q'.ov q'.nw⟩∧Ii=q'.ov.map (·.1)∧(∀ n o,q'.ov=some (n,o)→∃ o0,hp[n]?=some (some o0))∧FE H s'.hp∧(K b s' Ii (rd++rd2)).run=some r:=by
 intro c
 induction c with
 |skip=>intro s q ov rd K h wH hex hb hk; exact⟨false,s,ov,[],q,aE.pure _,h,wH,hex,hb,by rw[List.append_nil]; exact hk⟩
 |ret=>intro s q ov rd K h wH hex hb hk; exact⟨true,s,ov,[],q,aE.pure _,h,wH,hex,hb,by rw[List.append_nil]; exact hk⟩
 |seq a b Gs D7=>
  intro s q ov rd K h wH hex hb hk
  simp only[lR]at hk
  obtain⟨z,s1,Rr,Rs,q1,g1,g2,g3,g4,g5,hk⟩:=Gs s q ov rd _ h wH hex hb hk
  cases z with
  |true=>exact⟨true,s1,Rr,Rs++[],q1,by simp only[gE]; exact aE.bind g1 (aE.pure _),g2,g3,g4,g5,by rw[List.append_nil]; exact hk⟩
  |false=>
   obtain⟨z,s2,ov2,rd2,q2,i1,i2,i3,i4,i5,hk⟩:=D7 s1 q1 Rr _ K g2 g3 g4 g5 hk
   exact⟨z,s2,ov2,Rs++rd2,q2,by simp only[gE]; exact aE.bind g1 i1,i2,i3,i4,i5,by rw[←List.append_assoc]; exact hk⟩
 |cond o a b Gs D7=>
  intro s q ov rd K h wH hex hb hk
  simp only[lR]at hk
  split at hk
  ·rename_i t hs
   have ha:=(h.ev o).live (by rw[hs]; rfl)
   rw[hs]at ha
   have ha:ay q.fr o=.lit (.bool t):=ha
   rcases fu hk with ⟨rfl,hk⟩|⟨rfl,hk⟩
   ·obtain⟨z,s1,Rr,Rs,q1,g1,g⟩:=Gs s q ov rd K h wH hex hb hk
    exact⟨z,s1,Rr,Rs,q1,by simp only[gE,ha]; exact g1,g⟩
   ·obtain⟨z,s1,Rr,Rs,q1,g1,g⟩:=D7 s q ov rd K h wH hex hb hk
    exact⟨z,s1,Rr,Rs,q1,by simp only[gE,ha]; exact g1,g⟩
  ·simp[Tr.run]at hk
 |region id ops draw=>
  intro s q ov rd K h wH hex hb hk
  cases draw with
  |true=>simp[lR,Tr.run]at hk
  |false=>
   simp only[lR]at hk
   obtain⟨s',Ii,rd2,q',g1,g2,g3,g4,g5,hk⟩:=qN hT hQ hZ (ops:=ops) hH ops.toList s q ov rd _ h wH hex hb hk
   exact⟨false,s',Ii,rd2++[],q',by simp only[gE]; exact aE.bind g1 (aE.pure _),g2,g3,g4,g5,by rw[List.append_nil]; exact hk⟩
 |_=>intro s q ov rd K h wH hex hb hk; simp[lR,Tr.run]at hk
section
variable {T:dw}
theorem aw.qd{α β:Type}{P:α→β→Prop}:∀ {l:List α} {m:List β},aw P l m→∀ {i:Nat} {x:α} {y:β},m[i]?=some y→P x y→aw P (l.set i x) m
 |_::_,_::_,h,0,x,y,hy,hp=>by simp at hy; subst hy; exact⟨hp,h.2⟩
 |_::_,_::_,h,i+1,x,y,hy,hp=>⟨h.1,aw.qd h.2 (by simpa using hy) hp⟩
 |[],[],_,_,_,_,hy,_=>by simp at hy
theorem vk[ab]{s:bz T.den}{st:St}(h:RS T s st){n:Nat}{o o':aB T.den}(ho:s.hp[n]?=some (some o))(hc:o'.cur=o.cur)(hl:o'.len=o.len)(m8:o.isRec=false)
  (hr:∀ a,RO T s.hp o a→RO T s.hp o' a):RS T { s with hp:=s.hp.set n (some o'),wh:=n::s.wh } st∧bk s { s with hp:=s.hp.set n (some o'),wh:=n::s.wh }:=by
 have hn:=(List.getElem?_eq_some_iff.1 ho).1
 obtain⟨a,ha,hra⟩:=h.hp.obj ho
 have hg:dk s.hp (s.hp.set n (some o')):=by
  intro m x hm
  by_cases e:m=n
  ·simp_all
  ·grind
 refine⟨⟨h.fn,h.n,fun t=>(h.fr t).mono hg,?_,h.js.Bs fun m hm=>⟨?_,rfl⟩⟩,⟨rfl,rfl,fun _ _=>rfl,fun _ h=>h,fun m hm hw=>?_,fun m hm=>List.mem_cons_of_mem _ hm,by simp,hg⟩⟩
 ·exact aw.qd (aw.mono (fun _ _ h=>Bq.mono hg h) h.hp) (y:=some a) ha (Bq.mono hg (show Bq T s.hp (some o') (some a) from hr a hra))
 ·have dN:m≠n:=by
   grind[recAt]
  rw[List.getElem?_set_ne (Ne.symm dN)]
 ·simp only at hw ⊢
  rw[List.getElem?_set_ne (fun e=>hw (by rw[e]; simp))]
theorem sG[ab]{s:bz T.den}{st:St}(h:RS T s st){d:Nat}{v:SV T.den}(hr:∀ a,R T s.hp (cH s.fr d) a→R T s.hp v a)(hd:bP (cH s.fr d)=false):
  RS T { s with fr:=tE s.n s.fr d v,wf:=d::s.wf } st∧bk s { s with fr:=tE s.n s.fr d v,wf:=d::s.wf }:=by
 refine⟨⟨h.fn,h.n,fun t=>?_,h.hp,h.js⟩,⟨rfl,rfl,fun t ht=>?_,fun t ht=>List.mem_cons_of_mem _ ht,fun _ _ _=>rfl,fun _ h=>h,Nat.le_refl _,dk.refl _⟩⟩
 ·simp only
  rw[kn]
  split
  ·rename_i e
   rw[e.1]
   exact .inr (hr _ ((h.fr d).live hd))
  ·exact h.fr t
 ·simp only at ht ⊢
  rw[kn,if_neg]
  exact fun e=>ht (by rw[e.1]; simp)
theorem sH[ab]{s:bz T.den}{st:St}(h:RS T s st){d j:Nat}{v v':SV T.den}(hc:cellOf s d j=some v)(hd:bP v=false)(hr:∀ a,R T s.hp v a→R T s.hp v' a)(mh:aD v'=true):
  RS T (setCell s d j v') st∧bk s (setCell s d j v'):=by
 unfold cellOf at hc
 unfold setCell
 split at hc
 ·rename_i n c i k he
  split at hc
  case h_2=>simp at hc
  rename_i g cl f cur es ho
  split at hc
  case h_2=>simp at hc
  rename_i l hl
  refine vk h ho rfl (by simp[aB.len]) rfl fun a ha=>?_
  obtain⟨es',rfl,h1,h2⟩:=ha
  obtain⟨ea,h3,h4⟩:=aw.get (aQ.1 h1) hl
  simp only[R]at h4
  obtain⟨l',rfl,h5⟩:=h4
  obtain⟨b,h6,h7⟩:=aw.get (aQ.1 h5) hc
  refine⟨es',rfl,aQ.2 (aw.qd (aQ.1 h1) h3 ?_),fun Wu=>?_⟩
  ·simp only[R]
   exact⟨l',rfl,aQ.2 (aw.qd (aQ.1 h5) h6 (hr _ h7))⟩
  ·have h8:=h2 Wu
   rw[jl,List.all_eq_true]at h8 ⊢
   intro x hx
   rcases List.mem_or_eq_of_mem_set hx with hx|rfl
   ·exact h8 x hx
   ·have h9:=h8 _ (List.mem_of_getElem? hl)
    simp only[aD]at h9 ⊢
    rw[jl,List.all_eq_true]at h9 ⊢
    intro y hy
    rcases List.mem_or_eq_of_mem_set hy with hy|rfl
    ·exact h9 y hy
    ·exact mh
 ·rename_i l he
  refine sG h (fun a ha=>?_) (by rw[he]; rfl)
  rw[he]at ha
  simp only[R]at ha ⊢
  obtain⟨l',rfl,h5⟩:=ha
  obtain⟨b,h6,h7⟩:=aw.get (aQ.1 h5) hc
  exact⟨l',rfl,aQ.2 (aw.qd (aQ.1 h5) h6 (hr _ h7))⟩
 ·rename_i h1 h2
  split at hc
  case h_2=>simp at hc
  simp only[Option.some.injEq]at hc
  subst hc
  exact sG h hr hd
theorem DI{ρ:Type}{r:ρ}{n:Int}{K:Int→Tr ρ}:∀ {b m:Nat},(KS b m n K).run=some r→∃ m':Nat,n=Int.ofNat m'∧(K (Int.ofNat m')).run=some r
 |0,m,h=>by simp[KS,Tr.run]at h
 |b+1,m,h=>by
  simp only[KS,Tr.run]at h
  cases hb:n==Int.ofNat m with
  |true=>
   rw[hb]at h
   exact⟨m,eq_of_beq hb,h⟩
  |false=>
   rw[hb]at h
   exact DI h
theorem yF{α:Type}:∀ {l:List α} {i:Nat} {x:α},l[i]?=some x→l.drop i=x::l.drop (i+1)
 |y::ys,0,x,h=>by simp at h; subst h; simp
 |y::ys,i+1,x,h=>by simp at h ⊢; exact yF h
 |[],i,x,h=>by simp at h
theorem vm[ab]{ρ:Type}{r:ρ}{t:Nat}{l:List (T.den t)}:∀ {n i:Nat} {K:List (SV T.den)→Tr ρ},(C2 t l n i K).run=some r→∃ xs:List (T.den t),xs.length=n∧(l.drop i).take n=xs∧(K (xs.map (T.up t))).run=some r
 |0,i,K,h=>⟨[],rfl,by simp,h⟩
 |n+1,i,K,h=>by
  simp only[C2,Tr.run,Option.bind_eq_some_iff]at h
  obtain⟨x,hx,h⟩:=h
  obtain⟨xs,h1,h2,h3⟩:=vm h
  refine⟨x::xs,by simp[h1],?_,h3⟩
  rw[yF hx,List.take_succ_cons,h2]
theorem Lr[ab](hT:T.Ok){H:ah T.den}{t:Nat}:∀ {l:List (T.den t)} {m:List AV},aw (T.rp t) l m→RL T H (l.map (T.up t)) m∧av (l.map (T.up t))=true
 |[],[],_=>by simp[RL,av]
 |x::xs,y::ys,h=>by
  obtain⟨h1,h2⟩:=Lr hT (H:=H) h.2
  simp only[List.map_cons,RL,av,Bool.and_eq_true]
  exact⟨⟨hT.up _ _ _ H h.1,h1⟩,u4 hT h.1,h2⟩
theorem Ls[ab](hT:T.Ok){ρ:Type}{r:ρ}{w:Tw}{K:bz T.den→Tr ρ}{s:bz T.den}{st:St}(h:RS T s st)(hk:(yd s w K).run=some r):∃ s',RS T s' st∧bk s s'∧(K s').run=some r:=by
 cases w with
 |num d j b=>
  simp only[yd]at hk
  split at hk
  case h_2=>simp[Tr.run]at hk
  rename_i k n hc
  obtain⟨m,rfl,Eu⟩:=DI hk
  clear hk
  have hk:=Eu
  rw[force_eq]at hk
  obtain⟨h1,h2⟩:=sH h hc rfl (v':=.lit (.int k (Int.ofNat m))) (fun a ha=>ha) rfl
  exact⟨_,h1,h2,hk⟩
 |Yh d j n=>
  simp only[yd]at hk
  split at hk
  case h_2=>simp[Tr.run]at hk
  rename_i t l hc
  obtain⟨g1,hk⟩:=aY hk
  simp only[Bool.and_eq_true,decide_eq_true_eq]at g1
  obtain⟨g0,g1⟩:=g1
  have g0:0<n:=by simpa using g0
  obtain⟨xs,e1,e2,hk⟩:=vm hk
  rw[List.drop_zero,←g1,List.take_length]at e2
  subst e2
  rw[force_eq]at hk
  have mh:aD (.sl (l.map (T.up t)):SV T.den)=true:=rfl
  obtain⟨h1,h2⟩:=sH h hc rfl (v':=.sl (l.map (T.up t))) (fun a ha=>by
   simp only[R]at ha ⊢
   rcases ha with ⟨l',rfl,ha⟩|⟨rfl,_⟩
   ·obtain⟨b1,b2⟩:=Lr hT (H:=s.hp) ha
    exact⟨l',rfl,b1,b2⟩
   ·simp at g1; omega) mh
  exact⟨_,h1,h2,hk⟩
 |arr d n=>
  simp only[yd]at hk
  split at hk
  case h_2=>simp[Tr.run]at hk
  split at hk
  case h_2=>simp[Tr.run]at hk
  rename_i g f cur t l ho
  obtain⟨g1,hk⟩:=aY hk
  simp only[decide_eq_true_eq]at g1
  obtain⟨xs,e1,e2,hk⟩:=vm hk
  rw[List.drop_zero,←g1,List.take_length]at e2
  subst e2
  rw[force_eq]at hk
  obtain⟨h1,h2⟩:=vk h ho (o':=.arr g true f cur (l.map (T.up t))) rfl (by simp[aB.len]) rfl (fun a ha=>by
   obtain⟨es',rfl,ha⟩:=ha
   obtain⟨b1,b2⟩:=Lr hT (H:=s.hp) ha
   exact⟨es',rfl,b1,fun _=>b2⟩)
  exact⟨_,h1,h2,hk⟩
 |int d j=>
  simp only[yd]at hk
  split at hk
  case h_2=>simp[Tr.run]at hk
  rename_i k n hc
  simp only[Tr.run,Option.bind_some]at hk
  rw[force_eq]at hk
  obtain⟨h1,h2⟩:=sH h hc rfl (v':=.lit (.int k n)) (fun a ha=>ha) rfl
  exact⟨_,h1,h2,hk⟩
 |name d=>
  simp only[yd]at hk
  split at hk
  case h_2=>simp[Tr.run]at hk
  rename_i esz nm c rg cap hd
  split at hk
  case h_2=>simp[Tr.run]at hk
  rename_i g f cur t l ho
  simp only[Tr.run,Option.bind_some]at hk
  obtain⟨h1,h2⟩:=vk h ho (o':=.bW g f cur t l) rfl rfl rfl (fun a ha=>ha)
  split at hk
  ·rw[force_eq]at hk
   exact⟨_,h1,h2,hk⟩
  ·rename_i off len
   simp only[Tr.run,Option.bind_some]at hk
   rw[force_eq]at hk
   obtain⟨h3,h4⟩:=sG h1 (d:=d) (v:=.bq esz nm c (some (off,len)) cap) (fun a ha=>by simp only[hd]at ha; exact ha) (by simp only[hd]; rfl)
   exact⟨_,h3,h2.trans h4,hk⟩
theorem BE[ab](hT:T.Ok){ρ:Type}{r:ρ}{K:bz T.den→Tr ρ}{st:St}:∀ {l:List Tw} {s:bz T.den},RS T s st→(SH l s K).run=some r→∃ s',RS T s' st∧bk s s'∧(K s').run=some r
 |[],s,h,hk=>⟨s,h,bk.refl _,hk⟩
 |w::l,s,h,hk=>by
  obtain⟨s1,h1,h2,hk⟩:=Ls hT h hk
  obtain⟨s2,h3,h4,hk⟩:=BE hT h1 hk
  exact⟨s2,h3,h2.trans h4,hk⟩
theorem QD[ab](hT:T.Ok){ρ:Type}{r:ρ}{l:Tmp→List Tw}{dst:Option Tmp}{K:bz T.den→Tr ρ}{s:bz T.den}{st:St}(h:RS T s st)(hk:(SI l dst s K).run=some r):∃ s',RS T s' st∧bk s s'∧(K s').run=some r:=by
 cases dst with
 |none=>exact⟨s,h,bk.refl _,hk⟩
 |some d=>exact BE hT h hk
end
theorem vn[ab]{T:dw}{ρ:Type}{r:ρ}{K:bz T.den→Tr ρ}:∀ {l:List (Nat×Nat)} {s:bz T.den} {st:St},RS T s st→(yb l s K).run=some r→∃ s',RS T s' (gI l st)∧bk s s'∧(K s').run=some r
 |[],s,st,h,hk=>⟨s,h,bk.refl _,hk⟩
 |(d,j)::l,s,st,h,hk=>by
  unfold yb at hk
  have hd:=h.fr d
  split at hk
  case h_2=>simp[Tr.run]at hk
  rename_i n c i k he
  rw[he]at hd
  have hd:=hd.live rfl
  simp only[R]at hd
  obtain⟨aq,hd,ca⟩:=hd
  split at hk
  case h_2=>simp[Tr.run]at hk
  rename_i g cl f cur es ho
  obtain⟨ao,c6,dD⟩:=h.hp.obj ho
  obtain⟨es',rfl,cC,mh⟩:=dD
  split at hk
  case h_2=>simp[Tr.run]at hk
  rename_i e' Gc
  obtain⟨e,Mh,xL⟩:=Option.bind_eq_some_iff.1 Gc
  obtain⟨ea,Ta,Eb⟩:=aw.get (aQ.1 cC) Mh
  unfold Ac at xL
  split at xL
  case h_2=>simp at xL
  rename_i l0
  split at xL
  case h_2=>simp at xL
  rename_i Vl
  simp only[Option.some.injEq]at xL
  subst xL
  simp only[R]at Eb
  obtain⟨l',rfl,GV⟩:=Eb
  have hn:=(List.getElem?_eq_some_iff.1 ho).1
  have Wv:Nat.blt (k+j) l'.length=true:=by rw[←aw.length (aQ.1 GV)]; exact Vl
  have Fu:mf st d j={ st with hp:=st.hp.set n (some (.arr g false f (es'.set i (.agg (l'.set (k+j) .any))))) }:=by
   unfold mf
   rw[hd]
   simp only[c6,Ta,Option.bind_some,sP,Wv]
  rw[cD]at hk
  have hg:dk s.hp (s.hp.set n (some (.arr g false f cur (es.set i (.agg (l0.set (k+j) .hole)))))):=by
   intro m o hm
   by_cases e:m=n
   ·subst e
    rw[ho]at hm
    simp only[Option.some.injEq]at hm
    subst hm
    exact⟨_,List.getElem?_set_self hn,Nat.le_refl _,fun _=>by simp[aB.len]⟩
   ·grind
  have dD:RO T (s.hp.set n (some (.arr g false f cur (es.set i (.agg (l0.set (k+j) .hole)))))) (.arr g false f cur (es.set i (.agg (l0.set (k+j) .hole)))) (.arr g false f (es'.set i (.agg (l'.set (k+j) .any)))):=by
   refine⟨_,rfl,aQ.2 (((aQ.1 cC).mono fun _ _ h=>h.mono hg).set i ?_),fun h=>by cases h⟩
   simp only[R]
   exact⟨_,rfl,aQ.2 (((aQ.1 GV).mono fun _ _ h=>h.mono hg).set (k+j) (by simp[R]))⟩
  have ei:bf s.hp [(n,.arr g false f cur (es.set i (.agg (l0.set (k+j) .hole))))]=s.hp.set n (some (.arr g false f cur (es.set i (.agg (l0.set (k+j) .hole))))):=by
   grind[bf,bN]
  have O8:ak st.hp [(n,.arr g false f (es'.set i (.agg (l'.set (k+j) .any))))]=st.hp.set n (some (.arr g false f (es'.set i (.agg (l'.set (k+j) .any))))):=by
   simp only[ak]
   exact iD (List.getElem?_eq_some_iff.1 c6).1
  have hE:RE T s.hp st.hp (.lit undef) [(n,.arr g false f cur (es.set i (.agg (l0.set (k+j) .hole))))] ⟨.undef,[(n,.arr g false f (es'.set i (.agg (l'.set (k+j) .any))))]⟩:=by
   refine⟨bn _,?_,by rw[ei]; exact hg,fun q hq=>by simp only[List.mem_singleton]at hq; subst hq; simp,fun m hm hl=>?_,by rw[ei]; simp,fun m hm hc=>?_⟩
   ·rw[ei,O8]
    exact(aw.mono (fun _ _ h=>Bq.mono hg h) h.hp).set n dD
   ·grind
   ·simp_all[aB.isRec,recAt]
  obtain⟨g1,g2⟩:=h.step hE none
  rw[O8]at g1
  have Nm:RS T (s.step none (.lit undef) [(n,.arr g false f cur (es.set i (.agg (l0.set (k+j) .hole))))]) (mf st d j):=by
   rw[Fu]; exact g1
  obtain⟨s',i1,i2,i3⟩:=vn Nm hk
  exact⟨s',i1,g2.trans i2,i3⟩
section
variable [ab]{S:og}(hS:S.Ok)
include hS
theorem QE(f:FuncId):(S.Qf f).Ok:=⟨hS.Q.row,hS.Q.kind,hS.Q.OS,hS.Q.map⟩
theorem Lt{ρ:Type}{r:ρ}{g:FuncId}{args:List (SV S.T.den)}{as:List AV}{H:ah S.T.den}{hp:ag}{K:EK S.T ρ}(hh:RH S.T H hp)(ha:RL S.T H args as)(hk:(KU S g args H K).run=some r):
  S.C.kind g=.imp∧S.C.ra g=none∧∃ v rd e,aE hp (yO S.C.P hp.length g as) e rd∧RE S.T H hp v [] e∧(K v [] rd).run=some r:=by
 unfold KU at hk
 split at hk
 case h_2=>simp[Tr.run]at hk
 rename_i fn Ww QF qS
 split at hk
 case h_2=>simp[Tr.run]at hk
 rename_i c hc
 split at hk
 case h_1=>simp[Tr.run]at hk
 rename_i hD
 have gM:=yA (f:=g) ha hh fn.ntmps [] (js:=[]) (fun n st h=>by cases h)
 have hlen:H.length=hp.length:=hh.length
 have el:aR hp none []=hp:=by simp[aR,pM]
 rw[hlen]at hk
 obtain⟨b,s',ov,rd2,q,g1,g2,g3,g4,g5,hk⟩:=Ij hS.T (QE hS g) hS.Z hlen (f:=g) c _ ⟨as++List.replicate (fn.ntmps-as.length) .undef,none,[]⟩ none _ _ (by simp only[el]; exact gM) rfl (fun n o h=>by cases h) (fun n hn o ho=>⟨o,ho,rfl,rfl⟩) hk
 obtain⟨l,m,i1,i2,hk⟩:=oC hS.T hS.Q g2 hk
 have Wl:(aU S.C.P q.fr fn.results.toList).run (aR hp q.ov q.nw)=some m:=i1
 split at hk
 case h_2=>simp[Tr.run]at hk
 rename_i HC
 simp only[Bool.and_eq_true]at HC
 obtain⟨⟨c1,c2⟩,c3⟩:=HC
 have YK:=GW i2
 have hR:R S.T H (qW l) (cB m):=R.back g5 YK (by rw[hlen]; exact c1)
 refine⟨Ww,QF,qW l,_,⟨cB m,[]⟩,?_,⟨.inr hR,hh,dk.refl _,fun q h=>by simp at h,fun _ _ _=>rfl,Nat.le_refl _,fun _ _ h=>by simp at h⟩,hk⟩
 unfold yO
 rw[qS]
 simp only
 rw[hc]
 simp only
 rw[hD]
 simp only
 have BD:(below hp.length (cB m)&&(match q.ov with
    |some (_,o)=>o.below hp.length
    |none=>true))=true:=by
  rw[Bool.and_eq_true]
  refine⟨by rw[←R.below YK]; exact c1,?_⟩
  cases hq:q.ov with
  |none=>rfl
  |some x=>
   obtain⟨n,o⟩:=x
   simp only
   rw[hq]at g3
   simp only[Option.map_some]at g3
   rw[g3]at c3
   simp only at c3
   split at c3
   case h_2=>simp at c3
   rename_i so Ph
   obtain⟨o0,YL⟩:=g4 n o hq
   obtain⟨ao,Wx,Wy⟩:=aw.get g2.hp Ph
   have bQ:=(List.getElem?_eq_some_iff.1 YL).1
   have:(aR hp q.ov q.nw)[n]?=some (some o):=by
    rw[hq]
    simp only[aR,pM,YL]
    rw[List.getElem?_append_left (by simpa using bQ),List.getElem?_set_self bQ]
   rw[this]at Wx
   simp only[Option.some.injEq]at Wx
   subst Wx
   have:=Ao hS.T Wy (n:=hp.length)
   rw[c3]at this
   exact this.symm
 have y1:aE hp (gE S.C.P hp.length c ⟨as++List.replicate (fn.ntmps-as.length) .undef,none,[]⟩) (q,b) rd2:=g1
 have y2:aE hp ((aU S.C.P q.fr fn.results.toList).gR hp.length q.ov q.nw) m ((GM s'.fr fn.results.toList).filter fun n=>Nat.blt n hp.length):=
  aE.Tf ⟨Wl,fun n hn=>G5 g2 c2 n hn⟩
 have y3:=aE.bind (y1.Wt) (f:=fun q=>(aU S.C.P q.1.fr fn.results.toList).gR hp.length q.1.ov q.1.nw >>= fun l=>match below hp.length (cB l)&&(match q.1.ov with
    |some (_,o)=>o.below hp.length
    |none=>true) with
   |true=>(pure ⟨cB l,[]⟩:RM dm)
   |false=>.fail) (aE.bind y2 (f:=fun l=>match below hp.length (cB l)&&(match q.ov with
    |some (_,o)=>o.below hp.length
    |none=>true) with
   |true=>(pure ⟨cB l,[]⟩:RM dm)
   |false=>.fail) (b:=⟨cB m,[]⟩) (rd':=[]) (by simp only[BD]; exact aE.pure _))
 rw[List.append_nil,←List.filter_append]at y3
 exact y3
theorem QG{ρ:Type}{r:ρ}{nm:Nat}{o:Oper}{s:bz S.T.den}{st:St}{K:EK S.T ρ}(h:RS S.T s st)(hn:nm=s.hp.length∨s.hp[nm]?=some none)(nT:au o.op=false→nm=s.hp.length)(hk:(Uu S nm o s K).run=some r):
  ∃ v wr rd e lg,Ca S.C nm o st.fr st.hp=some (e,lg)∧(∀ n,n∈lg→n∈rd)∧RE S.T s.hp st.hp v wr e∧(K v wr rd).run=some r:=by
 have plain:(∀ c f,o.op=.call c→c.callee=.value f→False)→(∀ c m i,o.op=.call c→c.callee=.invoke m i→False)→(NI (S.Qf s.fn) nm s.hp (cU s.fr) o K).run=some r →
   ∃ v wr rd e lg,Ca S.C nm o st.fr st.hp=some (e,lg)∧(∀ n,n∈lg→n∈rd)∧RE S.T s.hp st.hp v wr e∧(K v wr rd).run=some r:=by
  intro h1 h2 hk
  obtain⟨v,wr,rd,e,g1,g2,g3⟩:=Fy hS.T (QE hS s.fn) (Q:=S.Qf s.fn) hS.Z h.hp hn (fun x=>h.ev x) hk
  refine⟨v,wr,rd,e,_,?_,g1.2,g2,g3⟩
  rw[Ey h1 h2]
  have:=g1.1
  rw[show (S.Qf s.fn).P=S.C.P from rfl]at this
  rw[this]
  rfl
 unfold Uu at hk
 split at hk
 ·rename_i c hc
  split at hk
  ·rename_i b hb
   exact plain (fun c' f h1 h2=>by rw[hc]at h1; simp only[Op.call.injEq]at h1; subst h1; rw[hb]at h2; cases h2) (fun c' m i h1 h2=>by rw[hc]at h1; simp only[Op.call.injEq]at h1; subst h1; rw[hb]at h2; cases h2) hk
  ·rename_i f hf
   split at hk
   ·simp[Tr.run]at hk
   rename_i g args hg
   split at hk
   ·rename_i pq
    split at hk
    case h_2=>simp[Tr.run]at hk
    rename_i σ hd hσ
    obtain⟨m,uu,yM⟩:=gg (h.ev f) (jn (fun x=>h.ev x) c.args.toList) hg
    obtain⟨v,wr,rd,e,lg,g2,g3,g4,g5⟩:=GZ hS.T (hS.own g σ hσ) h.hp hn (yM hd) hk
    refine⟨v,wr,rd,_,lg,?_,g3,g4,g5⟩
    obtain⟨dst,op,type,pos,after,guard⟩:=o
    simp only at hc pq
    subst hc
    obtain⟨callee,cQ,mg⟩:=c
    simp only at hf
    subst hf
    rw[uv,uu,pq]
    exact g2
   rename_i pq
   split at hk
   case h_3=>simp[Tr.run]at hk
   case h_2=>
    rename_i hd _
    obtain⟨m,uu,yM⟩:=gg (h.ev f) (jn (fun x=>h.ev x) c.args.toList) hg
    obtain⟨Ww,QF,v,rd,e,g1,g2,hk⟩:=Lt hS h.hp (yM hd) hk
    rw[show st.hp.length=nm from by rw[nT (by assumption),h.hp.length]]at g1
    refine⟨v,[],rd,e,_,?_,g1.2,g2,hk⟩
    obtain⟨dst,op,type,pos,after,guard⟩:=o
    simp only at hc pq
    subst hc
    obtain⟨callee,cQ,mg⟩:=c
    simp only at hf
    subst hf
    rw[uv,uu,pq]
    simp only[Option.bind_some,pz,Ww,QF,g1.1,Option.map_some]
   rename_i σ hd hσ
   obtain⟨m,uu,yM⟩:=gg (h.ev f) (jn (fun x=>h.ev x) c.args.toList) hg
   obtain⟨v,wr,rd,a,w,lg,_,g2,g3,g4,g5⟩:=wW hS.T (hS.sum g σ hσ) h.hp (yM hd) hk
   refine⟨v,wr,rd,_,lg,?_,g3,g4,g5⟩
   obtain⟨dst,op,type,pos,after,guard⟩:=o
   simp only at hc pq
   subst hc
   obtain⟨callee,cQ,mg⟩:=c
   simp only at hf
   subst hf
   rw[uv,uu,pq]
   exact g2 nm
  ·rename_i rv name hf
   split at hk
   ·simp[Tr.run]at hk
   rename_i g x hg
   obtain⟨ax,uu,Rt⟩:=Dx (h.ev rv) hg
   split at hk
   case h_2=>simp[Tr.run]at hk
   rename_i σ hd hσ
   have yM:RL S.T s.hp (x::c.args.toList.map (cU s.fr)) (ax::c.args.toList.map (ay st.fr)):=by
    simp only[List.any_cons,Bool.or_eq_false_iff]at hd
    simp only[RL]
    exact⟨Rt,iQ (jn (fun x=>h.ev x) c.args.toList) hd.2⟩
   obtain⟨v,wr,rd,a,w,lg,_,g2,g3,g4,g5⟩:=wW hS.T (hS.sum g σ hσ) h.hp yM hk
   refine⟨v,wr,rd,_,lg,?_,g3,g4,g5⟩
   obtain⟨dst,op,type,pos,after,guard⟩:=o
   simp only at hc
   subst hc
   obtain⟨callee,cQ,mg⟩:=c
   simp only at hf
   subst hf
   rw[Hn uu (hS.sum g σ hσ).kind]
   exact g2 nm
 ·rename_i MU
  exact plain (fun c' f h1 _=>MU c' h1) (fun c' m i h1 _=>MU c' h1) hk
theorem QH{k:Nat}(ih:oF S k){ρ:Type}{o:Oper}{s:bz S.T.den}{K:bz S.T.den→Tr ρ}{r:ρ}{st:St}(h:RS S.T s st)(hk:(NM S (k+1) ρ o s K).run=some r):
  ∃ s' st',ik S.C o st=some (.norm st')∧RS S.T s' st'∧bk s s'∧(K s').run=some r:=by
 have plain:qi o.op=true→(NI (S.Qf s.fn) s.hp.length s.hp (cU s.fr) o fun v wr _=>s.fp o.dst v wr fun s=>C1 (match o.op with|.call _=>fun _=>[]|_=>S.C.qQ s.fn) o.dst s
    fun s=>SI (match o.op with|.call _=>fun _=>[]|_=>S.tw s.fn) o.dst s K).run=some r →
   ∃ s' st',ik S.C o st=some (.norm st')∧RS S.T s' st'∧bk s s'∧(K s').run=some r:=by
  intro h1 hk
  obtain⟨v,wr,rd,e,g1,g2,g3⟩:=Fy hS.T (QE hS s.fn) (Q:=S.Qf s.fn) hS.Z h.hp (.inl rfl) (fun x=>h.ev x) hk
  replace g3:(s.fp o.dst v wr fun s=>C1 (match o.op with|.call _=>fun _=>[]|_=>S.C.qQ s.fn) o.dst s
    fun s=>SI (match o.op with|.call _=>fun _=>[]|_=>S.tw s.fn) o.dst s K).run=some r:=g3
  rw[cD]at g3
  obtain⟨g4,g5⟩:=h.step g2 o.dst
  have qS:(s.step o.dst v wr).fn=st.fn:=h.fn
  rw[qS]at g3
  obtain⟨s1,i1,i2,i3⟩:=Ln hS.T g4 g3
  obtain⟨s',j1,j2,j3⟩:=QD hS.T i1 i3
  refine⟨s',_,?_,j1,g5.trans (i2.trans j2),j3⟩
  rw[xq h1]
  have:=g1.1
  rw[h.hp.length]at this
  rw[show (S.Qf s.fn).P=S.C.P from rfl]at this
  rw[this]
  rfl
 unfold NM at hk
 obtain⟨dst,op,type,pos,after,guard⟩:=o
 simp only at hk
 split at hk
 ·rename_i c
  obtain⟨callee,cQ,mg⟩:=c
  split at hk
  ·rename_i b hb
   simp only at hb
   subst hb
   refine plain rfl ?_
   have e:(fun (s:bz S.T.den)=>C1 (fun _=>[]) dst s fun s=>SI (fun _=>[]) dst s K)=K:=by
    funext s
    cases dst<;>rfl
   simp only[e]
   exact hk
  ·rename_i f hf
   simp only at hf
   subst hf
   split at hk
   ·-- a round of a range over a function
    split at hk
    case h_2=>simp[Tr.run]at hk
    rename_i n hn
    have Cv:=(h.ev f).live (by rw[hn]; rfl)
    rw[hn]at Cv
    simp only[R]at Cv
    split at hk
    case h_2=>simp[Tr.run]at hk
    rename_i fn ps as bd fr ho hj Lu
    split at hk
    case h_2=>simp[Tr.run]at hk
    rename_i hc
    rw[force_eq]at hk
    have jd:=iQ (jn (fun x=>h.ev x) cQ.toList) Lu
    obtain⟨ao,c6,dD⟩:=h.hp.obj ho
    obtain⟨x,vs,rfl,lY⟩:=dD
    obtain⟨Q3,Q4⟩:=h.js n _ hj
    have hx:x=.ready:=by
     simp_all[ig]
    subst hx
    have hlen:vs.length=fr.length:=lY.length.symm
    obtain⟨p1,p2⟩:=Av (ps:=ps.toList) (xs:=cQ.toList.map (cU s.fr)) (as:=cQ.toList.map (ay st.fr)) (n:=fr.length) (fr:=mu 0 fr) (fa:=vs) (H:=s.hp) hlen (fun t=>by
     rw[vh]
     simp only[Nat.zero_le,if_true,Nat.sub_zero,List.getD_eq_getElem?_getD]
     cases hq:vs[t]? with
     |none=>
      have:fr[t]?=none:=by rw[List.getElem?_eq_none_iff]at hq ⊢; omega
      rw[this]
      exact bn undef
     |some a=>
      obtain⟨v,hv,hr⟩:=aw.get' lY hq
      rw[hv]
      rcases hr with ⟨rfl,_⟩|hr
      ·exact .inl rfl
      ·exact .inr hr) jd
    have D6:RS S.T ⟨fn,fr.length,lQ fr.length (mu 0 fr) ps.toList (cQ.toList.map (cU s.fr)),s.hp,[],s.wh,s.js⟩ ⟨fn,fI vs ps.toList (cQ.toList.map (ay st.fr)),st.hp⟩:=⟨rfl,p1,p2,h.hp,h.js⟩
    obtain⟨so1,o1,a1,a2,a3,hk⟩:=ih.c _ _ _ _ _ _ D6 hk
    cases so1 with
    |exit id s1=>simp[Tr.run]at hk
    |ret s1=>simp[Tr.run]at hk
    |norm s1=>
    obtain⟨UI,rfl,nx⟩:=a2
    simp only at hk
    split at hk
    case h_2=>simp[Tr.run]at hk
    rename_i wz
    obtain⟨_,rh⟩:=nx.js n _ wz
    obtain⟨b1,b2⟩:=G4 nx.hp nx.js wz .busy
    have Wz:RS S.T { s1 with js:=Bp s1.js n .busy } { UI with hp:=oI UI.hp n .busy }:=⟨nx.fn,nx.n,nx.fr,b1,b2⟩
    obtain⟨QI,o2,c1,c2,c3,hk⟩:=ih.c _ _ _ _ _ _ Wz hk
    have key:∀ (s2:bz S.T.den),bk { s1 with js:=Bp s1.js n .busy } s2→dk s.hp s2.hp∧s.hp.length≤s2.hp.length∧(∀ m:Nat,m<s.hp.length→m∉s2.wh→s2.hp[m]?=s.hp[m]?)∧∀ m,m∈s.wh→m∈s2.wh:=by
     intro s2 oM
     refine⟨a3.grow.trans oM.grow,Nat.le_trans a3.len oM.len,fun m hm hw=>?_,fun m hm=>oM.wh m (a3.wh m hm)⟩
     rw[oM.hp m (Nat.lt_of_lt_of_le hm a3.len) hw]
     exact a3.hp m hm (fun hc=>hw (oM.wh m hc))
    have Lv:ik S.C ⟨dst,.call ⟨.value f,cQ,mg⟩,type,pos,after,guard⟩ st=gL (fun c s=>cP S.C c s) n (cQ.toList.map (ay st.fr)) dst st:=by
     rw[nj,Cv.1]
     rfl
    have hy:gL (fun c s=>cP S.C c s) n (cQ.toList.map (ay st.fr)) dst st=Lo n dst st o2:=by
     clear c2
     unfold gL
     have e1:decide ((cQ.toList.map (ay st.fr)).length=ps.size)=true:=by
      simpa using Nat.eq_of_beq_eq_true hc
     simp only[c6,e1,a1,rh,c1]
     cases o2<;>rfl
    cases QI with
    |norm s2=>
     obtain⟨NZ,rfl,AW⟩:=c2
     obtain⟨k1,k2,k3,k4⟩:=key s2 c3
     obtain⟨s',st',d1,d2,d3,hk⟩:=BC hS.T h AW k1 k2 k3 k4 hk
     exact⟨s',st',by rw[Lv,hy]; exact d1,d2,d3,hk⟩
    |exit id s2=>
     obtain⟨NZ,rfl,AW⟩:=c2
     obtain⟨k1,k2,k3,k4⟩:=key s2 c3
     obtain⟨s',st',d1,d2,d3,hk⟩:=BC hS.T h AW k1 k2 k3 k4 hk
     exact⟨s',st',by rw[Lv,hy]; exact d1,d2,d3,hk⟩
    |ret s2=>
     obtain⟨NZ,rfl,AW⟩:=c2
     obtain⟨k1,k2,k3,k4⟩:=key s2 c3
     obtain⟨s',st',d1,d2,d3,hk⟩:=BC hS.T h AW k1 k2 k3 k4 hk
     exact⟨s',st',by rw[Lv,hy]; exact d1,d2,d3,hk⟩
   rename_i g args hg
   obtain⟨m,uu,yM⟩:=gg (h.ev f) (jn (fun x=>h.ev x) cQ.toList) hg
   split at hk
   ·rename_i pq
    split at hk
    case h_2=>simp[Tr.run]at hk
    rename_i σ hd hσ
    obtain⟨v,wr,rd,e,lg,g2,_,g4,g5⟩:=GZ hS.T (hS.own g σ hσ) h.hp (.inl rfl) (yM hd) hk
    rw[cD]at g5
    obtain⟨g6,g7⟩:=h.step g4 dst
    refine⟨_,_,?_,g6,g7,g5⟩
    rw[nj,uu]
    rw[h.hp.length]at g2
    simp only[nV,ri,pq,g2,Option.bind_some,gF]
   rename_i pq
   split at hk
   ·rename_i σ hd hσ
    obtain⟨v,wr,rd,a,w,lg,g1,_,_,g4,g5⟩:=wW hS.T (hS.sum g σ hσ) h.hp (yM hd) hk
    rw[cD]at g5
    obtain⟨g6,g7⟩:=h.step g4 dst
    refine⟨_,_,?_,g6,g7,g5⟩
    rw[nj,uu]
    simp only[nV,ri,pq,(hS.sum g σ hσ).kind,g1,Option.bind_some,Js]
   ·rename_i hd hσ
    split at hk
    ·simp[Tr.run]at hk
    rename_i tv
    obtain⟨v,cq,oV,qM,a,eL,g1,g2,g3,gj,g4,g5,g6,g7,hk⟩:=ih.f _ _ _ _ _ _ _ _ _ _ (yM hd) h.hp h.js hk
    split at hk
    case h_2=>simp[Tr.run]at hk
    rename_i BD
    rw[jQ,cD]at hk
    obtain⟨nx,oM,t2⟩:=qc hS.T h g2 g3 g4 g5 g6 g7 gj BD
    obtain⟨g8,g9⟩:=nx.step (v:=v) (wr:=[]) (e:=⟨a,[]⟩) ⟨.inr t2,nx.hp,dk.refl _,fun q hq=>by simp at hq,fun _ _ _=>rfl,Nat.le_refl _,fun _ _ h=>by simp at h⟩ dst
    refine⟨_,_,?_,g8,oM.trans g9,hk⟩
    rw[nj,uu]
    simp only[nV,ri,pq,tv,g1,Option.bind_some,F5]
    rw[h.hp.length]
    rfl
   ·simp[Tr.run]at hk
  ·rename_i rv name y5
   simp only at y5
   subst y5
   split at hk
   ·simp[Tr.run]at hk
   rename_i g x hg
   obtain⟨ax,uu,Rt⟩:=Dx (h.ev rv) hg
   have yM:((x::cQ.toList.map (cU s.fr)).any bP)=false→RL S.T s.hp (x::cQ.toList.map (cU s.fr)) (ax::cQ.toList.map (ay st.fr)):=fun hd=>by
    simp only[List.any_cons,Bool.or_eq_false_iff]at hd
    simp only[RL]
    exact⟨Rt,iQ (jn (fun x=>h.ev x) cQ.toList) hd.2⟩
   have pq:au (Op.call ⟨.invoke rv name,cQ,mg⟩)=false:=rfl
   split at hk
   ·rename_i σ hd hσ
    obtain⟨v,wr,rd,a,w,lg,g1,_,_,g4,g5⟩:=wW hS.T (hS.sum g σ hσ) h.hp (yM hd) hk
    rw[cD]at g5
    obtain⟨g6,g7⟩:=h.step g4 dst
    refine⟨_,_,?_,g6,g7,g5⟩
    rw[zH,uu]
    simp only[Option.bind_some,ri,pq,(hS.sum g σ hσ).kind,g1,Js]
   ·rename_i hd hσ
    split at hk
    ·simp[Tr.run]at hk
    rename_i tv
    obtain⟨v,cq,oV,qM,a,eL,g1,g2,g3,gj,g4,g5,g6,g7,hk⟩:=ih.f _ _ _ _ _ _ _ _ _ _ (yM hd) h.hp h.js hk
    split at hk
    case h_2=>simp[Tr.run]at hk
    rename_i BD
    rw[jQ,cD]at hk
    obtain⟨nx,oM,t2⟩:=qc hS.T h g2 g3 g4 g5 g6 g7 gj BD
    obtain⟨g8,g9⟩:=nx.step (v:=v) (wr:=[]) (e:=⟨a,[]⟩) ⟨.inr t2,nx.hp,dk.refl _,fun q hq=>by simp at hq,fun _ _ _=>rfl,Nat.le_refl _,fun _ _ h=>by simp at h⟩ dst
    refine⟨_,_,?_,g8,oM.trans g9,hk⟩
    rw[zH,uu]
    simp only[Option.bind_some,ri,pq,tv,g1,F5]
    rw[h.hp.length]
    rfl
   ·simp[Tr.run]at hk
 ·split at hk
  ·rename_i d
   rw[Ju]
   have qS:=h.fn
   split at hk
   ·rename_i zj
    rw[qS]at zj
    rw[zj]
    simp only[cond_true]
    split at hk
    case h_2=>simp[Tr.run]at hk
    rename_i m hm
    obtain⟨q,gQ,_,gG,_⟩:=hS.Q.elem hm
    split at hk
    case isFalse=>simp[Tr.run]at hk
    rename_i kL
    rw[cD]at hk
    have pj:=h.hp.new (nm:=s.hp.length) (o':=.arr true true false 0 []) (a':=.arr true true false []) (.inl rfl) ⟨[],rfl,by simp[RL],fun _=>rfl⟩
    have e1:bf s.hp [(s.hp.length,.arr true true false 0 [])]=bN s.hp s.hp.length (.arr true true false 0 []):=rfl
    have hl:=h.hp.length
    obtain⟨g8,g9⟩:=h.step (v:=.bq m.size s.hp.length 0 none none) (wr:=[(s.hp.length,.arr true true false 0 [])]) (e:=⟨.bq q.size st.hp.length 0 0 0 none,[(st.hp.length,.arr true true false [])]⟩)
     ⟨.inr (by
       rw[e1]
       simp only[R]
       exact⟨0,eK h.hp (.inl rfl) (o:=.arr true true false 0 []),by rw[gG,hl]⟩),
       by
        rw[←hl]
        exact pj.2,by rw[e1]; exact pj.1,fun q hq=>by simp at hq; subst hq; simp[hl],fun n hn hl=>by
        rw[e1]; simp at hn; exact yg hl hn,by rw[e1]; exact v9 (.inl rfl),fun m hm hc=>by simp at hc; have:=jo hm; omega⟩ (some d)
    refine⟨_,_,?_,g8,g9,hk⟩
    have WA:aP S.C.P type=some q:=gQ
    rw[WA]
    simp only[Option.bind_some]
    rw[if_pos (by rw[gG]; exact kL)]
    simp only[bG,ak,setObj,if_true]
   ·rename_i zj
    simp only[Bool.not_eq_true]at zj
    rw[qS]at zj
    rw[zj]
    simp only[cond_false]
    rw[cD]at hk
    obtain⟨g8,g9⟩:=h.step (v:=.lit cK) (wr:=[]) (e:=⟨.lit cK,[]⟩) ⟨bn _,h.hp,dk.refl _,fun q hq=>by simp at hq,fun _ _ _=>rfl,Nat.le_refl _,fun _ _ h=>by simp at h⟩ (some d)
    exact⟨_,_,rfl,g8,g9,hk⟩
  ·-- no variable: nothing happens
   refine⟨s,st,?_,h,bk.refl _,hk⟩
   refine bU (jz S.C _ _) (by simp[fJ]) fun k=>?_
   simp only[fJ]
 ·rename_i MU hna
  have hl:(match op with|.call _=>fun _=>[]|_=>S.C.qQ s.fn)=S.C.qQ s.fn:=by
   cases op<;>first|rfl|exact absurd rfl (MU _)
  refine plain ?_ ?_
  ·unfold qi
   simp only
  ·simp only
   exact hk
end
end Go.PI
end
section
/- PS, part Q: loops, code, functions: the soundness of the trees. -/
namespace Go.PI
theorem yG{τ ω:Type}{f:τ→Option (τ ⊕ ω)}:∀ {n:Nat} {x:τ} {w:ω},kH f n x=some w→kH f (n+1) x=some w
 |0,x,w,h=>by simp[kH]at h
 |n+1,x,w,h=>by
  rw[kH]at h ⊢
  cases hf:f x with
  |none=>rw[hf]at h; simp at h
  |some q=>
   rw[hf]at h
   cases q with
   |inl y=>exact yG h
   |inr z=>exact h
theorem sI[ab]{τ ω:Type}(f:τ→Option (τ ⊕ ω))(x:τ):fK fun n=>kH f n x:=fun _ _ h=>yG h
theorem oG[ab]{τ ω:Type}{f:τ→Option (τ ⊕ ω)}{x:τ}{w:ω}:aM f x=some w↔∃ n,kH f n x=some w:=by
 unfold aM
 split
 ·rename_i w' h
  constructor
  ·intro e; exact⟨4096,h.trans e⟩
  ·rintro⟨n,hn⟩
   rw[←(bj (sI f x)).2 ⟨4096,h⟩,(bj (sI f x)).2 ⟨n,hn⟩]
 ·exact bj (sI f x)
theorem CM[ab]{τ ω:Type}(f:τ→Option (τ ⊕ ω))(x:τ):aM f x=(f x).bind fun q=>Sum.elim (aM f) some q:=by
 apply Option.ext
 intro w
 rw[oG]
 constructor
 ·rintro⟨n,h⟩
  cases n with
  |zero=>simp[kH]at h
  |succ n=>
   rw[kH]at h
   cases hf:f x with
   |none=>rw[hf]at h; simp at h
   |some q=>
    rw[hf]at h
    cases q with
    |inl y=>simp only[Option.bind_some,Sum.elim_inl]; exact oG.2 ⟨n,h⟩
    |inr z=>simp_all
 ·intro h
  cases hf:f x with
  |none=>rw[hf]at h; simp at h
  |some q=>
   rw[hf]at h
   cases q with
   |inl y=>
    simp only[Option.bind_some,Sum.elim_inl]at h
    obtain⟨n,hn⟩:=oG.1 h
    exact⟨n+1,by rw[kH,hf]; exact hn⟩
   |inr z=>
    simp only[Option.bind_some,Sum.elim_inr]at h
    exact⟨1,by rw[kH,hf]; exact h⟩
section
variable {T:dw}{ρ:Type}
theorem dC[ab]{H0 H:ah T.den}{K:Tr ρ}{r:ρ}:∀ {objs:List (Nat×cO)},(hX H0 H objs K).run=some r→K.run=some r∧∀ q,q∈objs→∀ t,q.2=.fix t→∀ o o',H0[q.1]?=some (some o)→H[q.1]?=some (some o')→o'.len=o.len
 |[],h=>⟨h,fun q hq=>by simp at hq⟩
 |(n,p)::objs,h=>by
  cases p with
  |fix t=>
   simp only[hX]at h
   split at h
   ·rename_i o o' h1 h2
    obtain⟨g1,g2⟩:=aY h
    simp only[decide_eq_true_eq]at g1
    obtain⟨i1,i2⟩:=dC g2
    refine⟨i1,fun q hq t' e o3 o4 h3 h4=>?_⟩
    rcases List.mem_cons.1 hq with rfl|hq
    ·simp_all
    ·exact i2 q hq t' e o3 o4 h3 h4
   ·simp[Tr.run]at h
  |list t=>
   obtain⟨i1,i2⟩:=dC (objs:=objs) h
   refine⟨i1,fun q hq t' e o3 o4 h3 h4=>?_⟩
   rcases List.mem_cons.1 hq with rfl|hq
   ·simp at e
   ·exact i2 q hq t' e o3 o4 h3 h4
  |one p=>
   obtain⟨i1,i2⟩:=dC (objs:=objs) h
   refine⟨i1,fun q hq t' e o3 o4 h3 h4=>?_⟩
   rcases List.mem_cons.1 hq with rfl|hq
   ·simp at e
   ·exact i2 q hq t' e o3 o4 h3 h4
  |agg ps=>
   obtain⟨i1,i2⟩:=dC (objs:=objs) h
   refine⟨i1,fun q hq t' e o3 o4 h3 h4=>?_⟩
   rcases List.mem_cons.1 hq with rfl|hq
   ·simp at e
   ·exact i2 q hq t' e o3 o4 h3 h4
  |map kk t=>
   obtain⟨i1,i2⟩:=dC (objs:=objs) h
   refine⟨i1,fun q hq t' e o3 o4 h3 h4=>?_⟩
   rcases List.mem_cons.1 hq with rfl|hq
   ·simp at e
   ·exact i2 q hq t' e o3 o4 h3 h4
theorem Aw[ab]{key:Nat}{h:Hint}{s0 s:bz T.den}{kind:Option Nat}{r:ρ}:∀ {l:List Bi} {K:y8 T.den h.objs l→Tr ρ},(tI key h s0 s kind l K).run=some r →
  ∃ o x w,o∈l∧o.kind=kind∧HY h s0 s kind o=some x∧(K w).run=some r ∧
    (∀ q,q∈h.objs→∀ t,q.2=.fix t→∀ o o',s0.hp[q.1]?=some (some o)→s.hp[q.1]?=some (some o')→o'.len=o.len) ∧
    ∀ {σ:Type} (K':oY T.den→Tr σ),(ua h s0 l w K').run=(K' (Bo (jM h s0 o x) o.kind)).run
 |[],K,hk=>by simp[tI,Tr.run]at hk
 |[o],K,hk=>by
  simp only[tI]at hk
  split at hk
  ·rename_i x hx
   obtain⟨hk,hl⟩:=dC hk
   refine⟨o,x,x,by simp,?_,hx,hk,hl,fun K'=>?_⟩
   ·grind[HY]
   ·simp only[ua]
    rw[force_eq]
  ·simp[Tr.run]at hk
 |o::p::l,K,hk=>by
  simp only[tI]at hk
  split at hk
  ·rename_i x hx
   obtain⟨hk,hl⟩:=dC hk
   refine⟨o,x,.inl x,by simp,?_,hx,hk,hl,fun K'=>?_⟩
   ·grind[HY]
   ·simp only[ua,Tr.run,Sum.elim_inl]
    rw[force_eq]
  ·obtain⟨o',x,w,h1,h2,h3,h4,h5,h6⟩:=Aw (l:=p::l) hk
   refine⟨o',x,.inr w,List.mem_cons_of_mem _ h1,h2,h3,h4,h5,fun K'=>?_⟩
   simp only[ua,Tr.run,Sum.elim_inr]
   exact h6 K'
theorem yH{a b:List Nat}(h:subset a b=true){x:Nat}(hx:x∈a):x∈b:=by
 have:=List.all_eq_true.1 h x hx
 simpa using this
theorem G6[ab]{Ax:List (Nat×cO)}{slots0:List (Nat×oZ)}{dead0:List Nat}{az:List (Nat×oZ)}{dead:List Nat}{ext:List o5}{s0 sx s:bz T.den}{l:List (TV T.den)}
  (Rq:cZ (az.map (·.1))=true) (UH:cZ (Ax.map (·.1))=true)
  (WB:sx.fn=s0.fn) (WC:sx.n=s0.n) (WD:∀ t,t∉slots0.map (·.1)++dead0→cH sx.fr t=cH s0.fr t) (WE:∀ n:Nat,n<s0.hp.length→n∉Ax.map (·.1)→sx.hp[n]?=s0.hp[n]?) (WG:sx.hp.length=s0.hp.length)
  (te:∀ t,t∈slots0.map (·.1)++dead0→t∈az.map (·.1)++dead) (ha:bk sx s) (hl:sn az dead Ax ext s0 s=true)
  (Qz:∀ q,q∈Ax→∃ o,s0.hp[q.1]?=some (some o)∧Start s0.hp o q.2) (abs:uW az (Ax++a9 s0.hp.length ext) s=some l):Ie T az dead Ax ext s0 s l:=by
 unfold sn at hl
 simp only[Bool.and_eq_true,decide_eq_true_eq]at hl
 obtain⟨⟨⟨⟨⟨⟨⟨l1,l2⟩,l3⟩,l4⟩,l5⟩,l6⟩,l7⟩,l8⟩:=hl
 refine⟨Rq,UH,fun d hd=>?_,l2,ha.fn.trans WB,ha.n.trans WC,fun t ht=>?_,fun n hn hm=>?_,l5,l6,l7,l8,Qz,abs⟩
 ·have:=List.all_eq_true.1 l1 d hd
  have:=Nat.le_of_ble_eq_true this
  omega
 ·have hw:t∉s.wf:=fun hc=>ht (yH l3 hc)
  rw[ha.fr t hw,WD t (fun hc=>ht (te t hc))]
 ·have hw:n∉s.wh:=fun hc=>hm (yH l4 (List.mem_filter.2 ⟨hc,by simpa using hn⟩))
  rw[ha.hp n (by rw[WG]; exact hn) hw,WE n hn hm]
end
theorem Ay{T:dw}{az:List (Nat×oZ)}{objs:List (Nat×cO)}{s:bz T.den}{l:List (TV T.den)}(h:uW az objs s=some l):∃ l0,jZ s.hp objs=some l0:=by
 unfold uW at h
 rw[Option.bind_eq_some_iff]at h
 obtain⟨_,_,h⟩:=h
 rw[Option.map_eq_some_iff]at h
 obtain⟨lb,h,_⟩:=h
 exact⟨lb,h⟩
theorem Lz[ab]{T:dw}{az:List (Nat×oZ)}{dead:List Nat}{objs:List (Nat×cO)}{ext:List o5}{s:bz T.den}{l:List (TV T.den)}{js:List (Nat×kY)}{st:St}
  (h:RS T { c8 az dead objs ext s l with js:=js } st) (hj:js=s.js):RS T (c8 az dead objs ext s l) st:=by
 subst hj; exact⟨h.fn,h.n,h.fr,h.hp,h.js⟩
theorem Il{T:dw}{n:Nat}{s:bz T.den}:(jL n s).js=s.js:=by unfold jL; split<;>rfl
theorem yI[ab]{T:dw}{H:ah T.den}{objs:List (Nat×cO)}{l:List (TV T.den)}(h:jZ H objs=some l):qE H H objs=true:=by
 refine List.all_eq_true.2 fun q hq=>?_
 obtain⟨o,_,h1,_⟩:=ko h q hq
 simp[h1]
theorem BF[ab]{T:dw}{H:ah T.den}{objs:List (Nat×cO)}{l:List (TV T.den)}(h:jZ H objs=some l):wU H H objs=true:=by
 refine List.all_eq_true.2 fun q hq=>?_
 obtain⟨o,_,h1,_⟩:=ko h q hq
 split
 ·rfl
 ·simp[h1]
theorem vo[ab]{T:dw}{H:ah T.den}{objs:List (Nat×cO)}{l:List (TV T.den)}(h:jZ H objs=some l)(q:Nat×cO)(hq:q∈objs):∃ o,H[q.1]?=some (some o)∧Start H o q.2:=by
 obtain⟨o,ln,h1,h2⟩:=ko h q hq
 exact⟨o,h1,.inl ⟨ln,h2⟩⟩
theorem DL{objs more:List (Nat×cO)}{n:Nat}(h:n∈objs.map (·.1)):n∈(jh objs more).map (·.1):=by
 unfold jh
 rw[List.map_append]
 by_cases hm:n∈more.map (·.1)
 ·exact List.mem_append_right _ hm
 ·simp_all
theorem yJ[ab]{T:dw}{H:ah T.den}{l:List (Nat×cO)}(h:GK H l=true)(q:Nat×cO)(hq:q∈l):∃ o,H[q.1]?=some (some o)∧Start H o q.2:=by
 have:=List.all_eq_true.1 h q hq
 split at this
 ·rename_i g cl f c e p h1 h2
  exact⟨_,h1,.inr ⟨.inl ⟨p,h2⟩,g,cl,f,c,e,rfl⟩⟩
 ·rename_i g cl f c e p h1 h2
  exact⟨_,h1,.inr ⟨.inr ⟨p,h2⟩,g,cl,f,c,e,rfl⟩⟩
 ·simp at this
section
variable [ab]{S:og}(hS:S.Ok)
include hS
theorem N5{k:Nat}(ih:oF S k){b:Code}{s:bz S.T.den}{h:Hint}{l0:List (TV S.T.den)}{x0:HL S.T.den h.jK}(bM:h.ok=true)(KI:Bn s.n h.az h.dead=true)(how:sk s.hp.length h.az h.objs=true)
  (o7:uW h.az h.objs s=some l0) (UK:uQ h.jK l0=some x0) {st:St} (gM:RS S.T s st) {w:y8 S.T.den h.objs h.outs}
  (hw:aM (fun x=>(bz.force { c8 h.az h.dead h.objs [] s (fX h.jK x) with wf:=[],wh:=[] } fun s1=>wF S k (HL S.T.den h.jK ⊕ y8 S.T.den h.objs h.outs) b s1 fun
       |.norm s'=>
        (match jL s.hp.length s' with
        |tZ=>(match decide (tZ.js=s.js)&&sn h.az h.dead h.objs [] s tZ,(uW h.az h.objs tZ).bind (uQ h.jK) with
         |true,some y=>hX s.hp tZ.hp h.objs (.ret (.inl y))
         |_,_=>.bad (sj b s) none s tZ))
       |.exit id s'=>tI (sj b s) h s s' (some id) h.outs fun w=>.ret (.inr w)
       |.ret s'=>tI (sj b s) h s s' none h.outs fun w=>.ret (.inr w)).run) x0=some w) :
  ∃ o x so oo,cP S.C (.loop b) st=some oo∧so=Bo (jM h s o x) o.kind∧DC S.T so oo∧bk s so.st∧∀ {σ:Type} (K':oY S.T.den→Tr σ),(ua h s h.outs w K').run=(K' so).run:=by
 simp only[Hint.ok,Bool.and_eq_true]at bM
 obtain⟨⟨WH,Ti⟩,WI⟩:=bM
 obtain⟨abN,DM⟩:=Ay o7
 have Rq:cZ (h.az.map (·.1))=true:=by
  have:∀ {l m:List Nat},cZ (l++m)=true→cZ l=true:=by
   intro l m
   induction l with
   |nil=>intro _; rfl
   |cons x xs ih=>
    simp_all[cZ,decide_eq_false_iff_not]
  exact this WH
 have WJ:∀ d,d∈h.az.map (·.1)++h.dead→d<s.n:=by
  intro d hd
  have:=List.all_eq_true.1 KI d hd
  have:=Nat.le_of_ble_eq_true this
  omega
 have sxf:∀ x:HL S.T.den h.jK,∀ l,uW h.az h.objs s=some l→True:=fun _ _ _=>trivial
 clear sxf
 have nX:∀ (x:HL S.T.den h.jK) (sc:bz S.T.den) (lc:List (TV S.T.den)),Ie S.T h.az h.dead h.objs [] s sc lc→sc.js=s.js→fX h.jK x=lc→∀ (WK:St),RS S.T sc WK →
   RS S.T (c8 h.az h.dead h.objs [] s (fX h.jK x)) WK∧(c8 h.az h.dead h.objs [] s (fX h.jK x)).hp.length=s.hp.length ∧
   (∀ n:Nat,n<s.hp.length→n∉h.objs.map (·.1)→(c8 h.az h.dead h.objs [] s (fX h.jK x)).hp[n]?=s.hp[n]?) ∧
   (∀ t,t∉h.az.map (·.1)++h.dead→cH (c8 h.az h.dead h.objs [] s (fX h.jK x)).fr t=cH s.fr t) ∧
   (c8 h.az h.dead h.objs [] s (fX h.jK x)).fn=s.fn∧(c8 h.az h.dead h.objs [] s (fX h.jK x)).n=s.n:=by
  intro x sc lc ho hj hx WK WL
  obtain⟨r1,r2,r3,r4,r5,r6,_⟩:=G2 hS.T ho gM WL
  rw[hx]
  refine⟨Lz r1 hj,?_,r3,r4,r5,r6⟩
  rw[r2,ho.len]; rfl
 have main:∀ (n:Nat) (x:HL S.T.den h.jK) (stx:St),RS S.T (c8 h.az h.dead h.objs [] s (fX h.jK x)) stx→(c8 h.az h.dead h.objs [] s (fX h.jK x)).hp.length=s.hp.length →
   (∀ n:Nat,n<s.hp.length→n∉h.objs.map (·.1)→(c8 h.az h.dead h.objs [] s (fX h.jK x)).hp[n]?=s.hp[n]?) →
   (∀ t,t∉h.az.map (·.1)++h.dead→cH (c8 h.az h.dead h.objs [] s (fX h.jK x)).fr t=cH s.fr t) →
   (c8 h.az h.dead h.objs [] s (fX h.jK x)).fn=s.fn→(c8 h.az h.dead h.objs [] s (fX h.jK x)).n=s.n →
   kH (fun x=>(bz.force { c8 h.az h.dead h.objs [] s (fX h.jK x) with wf:=[],wh:=[] } fun s1=>wF S k (HL S.T.den h.jK ⊕ y8 S.T.den h.objs h.outs) b s1 fun
           |.norm s'=>
            (match jL s.hp.length s' with
            |tZ=>(match decide (tZ.js=s.js)&&sn h.az h.dead h.objs [] s tZ,(uW h.az h.objs tZ).bind (uQ h.jK) with
             |true,some y=>hX s.hp tZ.hp h.objs (.ret (.inl y))
             |_,_=>.bad (sj b s) none s tZ))
           |.exit id s'=>tI (sj b s) h s s' (some id) h.outs fun w=>.ret (.inr w)
           |.ret s'=>tI (sj b s) h s s' none h.outs fun w=>.ret (.inr w)).run) n x=some w →
   ∃ o x so oo,cP S.C (.loop b) stx=some oo∧so=Bo (jM h s o x) o.kind∧DC S.T so oo∧bk s so.st∧∀ {σ:Type} (K':oY S.T.den→Tr σ),(ua h s h.outs w K').run=(K' so).run:=by
  intro n
  induction n with
  |zero=>intro x stx _ _ _ _ _ _ hn; simp[kH]at hn
  |succ n ihn=>
   intro x stx D1 hlen QJ BB qS Mn hn
   rw[kH]at hn
   generalize Im:({ c8 h.az h.dead h.objs [] s (fX h.jK x) with wf:=[],wh:=[] }:bz S.T.den)=sx at hn
   have QK:RS S.T sx stx:=by rw[←Im]; exact⟨D1.fn,D1.n,D1.fr,D1.hp,D1.js⟩
   have e1:sx.fn=s.fn:=by rw[←Im]; exact qS
   have e2:sx.n=s.n:=by rw[←Im]; exact Mn
   have e3:∀ t,t∉h.az.map (·.1)++h.dead→cH sx.fr t=cH s.fr t:=by rw[←Im]; exact BB
   have e4:∀ n:Nat,n<s.hp.length→n∉h.objs.map (·.1)→sx.hp[n]?=s.hp[n]?:=by rw[←Im]; exact QJ
   have e5:sx.hp.length=s.hp.length:=by rw[←Im]; exact hlen
   rw[force_eq]at hn
   have nq:∀ q,(wF S k (HL S.T.den h.jK ⊕ y8 S.T.den h.objs h.outs) b sx fun
       |.norm s'=>
        (match jL s.hp.length s' with
        |tZ=>(match decide (tZ.js=s.js)&&sn h.az h.dead h.objs [] s tZ,(uW h.az h.objs tZ).bind (uQ h.jK) with
         |true,some y=>hX s.hp tZ.hp h.objs (.ret (.inl y))
         |_,_=>.bad (sj b s) none s tZ))
       |.exit id s'=>tI (sj b s) h s s' (some id) h.outs fun w=>.ret (.inr w)
       |.ret s'=>tI (sj b s) h s s' none h.outs fun w=>.ret (.inr w)).run=some q →
     (∃ y,q=.inl y∧∃ FI,cP S.C b stx=some (.norm FI)∧RS S.T (c8 h.az h.dead h.objs [] s (fX h.jK y)) (gJ stx.hp.length FI)∧(c8 h.az h.dead h.objs [] s (fX h.jK y)).hp.length=s.hp.length ∧
       (∀ n:Nat,n<s.hp.length→n∉h.objs.map (·.1)→(c8 h.az h.dead h.objs [] s (fX h.jK y)).hp[n]?=s.hp[n]?) ∧
       (∀ t,t∉h.az.map (·.1)++h.dead→cH (c8 h.az h.dead h.objs [] s (fX h.jK y)).fr t=cH s.fr t) ∧
       (c8 h.az h.dead h.objs [] s (fX h.jK y)).fn=s.fn∧(c8 h.az h.dead h.objs [] s (fX h.jK y)).n=s.n) ∨
     (∃ w',q=.inr w'∧∃ o x so oo,cP S.C b stx=some oo∧(∀ s',oo≠.norm s')∧so=Bo (jM h s o x) o.kind∧DC S.T so oo∧bk s so.st∧∀ {σ:Type} (K':oY S.T.den→Tr σ),(ua h s h.outs w' K').run=(K' so).run):=by
    intro q hq
    obtain⟨so,o,c1,c2,c3,c4⟩:=ih.c _ _ _ _ _ _ QK hq
    have leave:∀ (kind:Option Nat) (s':bz S.T.den) (FI:St),RS S.T s' FI→bk sx s'→(tI (sj b s) h s s' kind h.outs fun w=>(.ret (.inr w):Tr (HL S.T.den h.jK ⊕ y8 S.T.den h.objs h.outs))).run=some q →
      ∃ w',q=.inr w'∧∃ o x,o.kind=kind∧RS S.T (jM h s o x) FI∧bk s (jM h s o x)∧∀ {σ:Type} (K':oY S.T.den→Tr σ),(ua h s h.outs w' K').run=(K' (Bo (jM h s o x) o.kind)).run:=by
     intro kind s' FI ff ha hq
     obtain⟨o,x,w',d1,d2,d3,d4,d5,d6⟩:=Aw hq
     simp only[Tr.run,Option.some.injEq]at d4
     refine⟨w',d4.symm,o,x,d2,?_⟩
     unfold HY at d3
     split at d3
     case h_2=>simp at d3
     rename_i hc
     simp only[Bool.and_eq_true,decide_eq_true_eq]at hc
     obtain⟨hc,Ow,Wc,WM⟩:=hc
     rw[Option.bind_eq_some_iff]at d3
     obtain⟨lx,d7,d8⟩:=d3
     have Tj:∀ q,q∈jh h.objs o.more→∃ o,s.hp[q.1]?=some (some o)∧Start s.hp o q.2:=fun q hq=>by
      rcases List.mem_append.1 hq with hq|hq
      ·exact vo DM q (List.mem_filter.1 hq).1
      ·exact yJ WM q hq
     have wH:Ie S.T o.az (h.az.map (·.1)++h.dead) (jh h.objs o.more) o.ext s s' lx:=
      G6 (slots0:=h.az) (dead0:=h.dead) (List.all_eq_true.1 WI o d1) Wc e1 e2 e3 (fun n hn hm=>e4 n hn (fun hc=>hm (DL hc))) e5 (fun t ht=>List.mem_append_right _ ht) ha Ow Tj d7
     obtain⟨r1,r2,r3,r4,r5,r6,r7⟩:=G2 hS.T wH gM ff
     have ex:=oB _ _ _ d8
     refine⟨?_,?_,d6⟩
     ·unfold jM
      rw[ex]
      exact⟨r1.fn,r1.n,r1.fr,r1.hp,by rw[←hc.2]; exact r1.js⟩
     ·unfold jM
      rw[ex]
      refine⟨r5,r6,fun t ht=>r4 t ?_,fun t ht=>?_,fun n hn hw=>r3 n hn ?_,fun n hn=>?_,?_,?_⟩
      ·simp only[List.mem_append,not_or]at ht ⊢
       exact⟨ht.1,ht.2.1,ht.2.2.1⟩
      ·simp only[List.mem_append]
       exact .inr (.inr (.inr ht))
      ·exact fun hc=>hw (List.mem_append_left _ hc)
      ·exact List.mem_append_right _ hn
      ·simp only
       rw[r2,wH.len]
       omega
      ·intro n o' c6
       have hn:=(List.getElem?_eq_some_iff.1 c6).1
       by_cases hm:n∈(jh h.objs o.more).map (·.1)
       ·obtain⟨qq,UL,rfl⟩:=List.mem_map.1 hm
        obtain⟨o0,os,of,g1,g2,g3,g4,g5⟩:=r7 qq UL
        rw[g1]at c6
        simp only[Option.some.injEq]at c6
        subst c6
        refine⟨of,g3,by rw[g5]; exact G1 _ _,fun ec=>?_⟩
        rw[g4]
        rw[g5]at ec
        obtain⟨oo,m1,m2⟩:=Tj qq UL
        rw[g1]at m1
        simp only[Option.some.injEq]at m1
        subst m1
        have Tk:=Ay d7
        obtain⟨lS,hlS⟩:=Tk
        obtain⟨oo2,ln2,m3,m4⟩:=ko hlS qq (List.mem_append_left _ UL)
        rw[g2]at m3
        simp only[Option.some.injEq]at m3
        subst m3
        cases hp:qq.2 with
        |list t=>rw[hp]at ec; simp[Bz]at ec
        |fix t=>
         rcases List.mem_append.1 UL with gQ|gQ
         ·exact d5 qq (List.mem_filter.1 gQ).1 t hp o0 os g1 g2
         ·obtain⟨_,_,m5⟩:=yJ WM qq gQ
          rw[hp]at m2
          have:=List.all_eq_true.1 WM qq gQ
          rw[hp]at this
          simp at this
        |map kk t=>
         rw[hp]at m2 m4
         rcases m2 with ⟨ln,m2⟩|⟨⟨_,m2⟩|⟨_,m2⟩,_⟩
         ·obtain⟨_,rfl,_⟩:=tS m2
          obtain⟨_,rfl,_⟩:=tS m4
          rfl
         ·cases m2
         ·cases m2
        |one p=>
         rw[hp]at m2 m4
         simp only[ee]at m4
         split at m4
         case h_2=>simp at m4
         rcases m2 with ⟨ln,m2⟩|⟨_,_,_,_,_,_,rfl⟩
         ·simp only[ee]at m2
          split at m2
          case h_2=>simp at m2
          rfl
         ·rfl
        |agg p=>
         rw[hp]at m2 m4
         simp only[ee]at m4
         split at m4
         case h_2=>simp at m4
         rcases m2 with ⟨ln,m2⟩|⟨_,_,_,_,_,_,rfl⟩
         ·simp only[ee]at m2
          split at m2
          case h_2=>simp at m2
          rfl
         ·rfl
       ·exact⟨o',by simp only; rw[r3 n hn hm]; exact c6,Nat.le_refl _,fun _=>rfl⟩
    cases so with
    |norm s'=>
     left
     obtain⟨FI,rfl,ff⟩:=c2
     simp only at c4
     split at c4
     ·rename_i y hl hy
      simp only[Bool.and_eq_true,decide_eq_true_eq]at hl
      obtain⟨QA,hl⟩:=hl
      obtain⟨c5,_⟩:=dC c4
      simp only[Tr.run,Option.some.injEq]at c5
      rw[Option.bind_eq_some_iff]at hy
      obtain⟨ly,yn,wg⟩:=hy
      have hr:=Dw (n:=s.hp.length) hS.T ff (fun m x hm=>by
       rw[Il]at QA
       rw[QA]at hm
       exact jo (gM.js m x hm).1)
      have oM:bk sx (jL s.hp.length s'):=by
       have:=wi QK c3
       rw[e5]at this
       exact this
      have wH:Ie S.T h.az h.dead h.objs [] s (jL s.hp.length s') ly:=
       G6 (slots0:=h.az) (dead0:=h.dead) Rq Ti e1 e2 e3 e4 e5 (fun t ht=>ht) oM hl (vo DM) (by simpa[a9] using yn)
      have hle:stx.hp.length=s.hp.length:=by rw[←e5]; exact QK.hp.length.symm
      refine⟨y,c5.symm,FI,c1,?_⟩
      rw[hle]
      exact nX y _ ly wH QA (oB _ _ _ wg) _ hr
     ·simp[Tr.run]at c4
    |exit id s'=>
     right
     obtain⟨FI,rfl,ff⟩:=c2
     obtain⟨w',f1,o',x',f2,f3,f4,f5⟩:=leave (some id) s' FI ff c3 c4
     refine⟨w',f1,o',x',Bo (jM h s o' x') o'.kind,_,c1,by simp,rfl,?_,?_,f5⟩
     ·rw[f2]; exact⟨FI,rfl,f3⟩
     ·rw[f2]; exact f4
    |ret s'=>
     right
     obtain⟨FI,rfl,ff⟩:=c2
     obtain⟨w',f1,o',x',f2,f3,f4,f5⟩:=leave none s' FI ff c3 c4
     refine⟨w',f1,o',x',Bo (jM h s o' x') o'.kind,_,c1,by simp,rfl,?_,?_,f5⟩
     ·rw[f2]; exact⟨FI,rfl,f3⟩
     ·rw[f2]; exact f4
   split at hn
   ·rename_i y hy
    rcases nq _ hy with ⟨y',e,FI,g1,g2,g3,g4,g5,g6,g7⟩|⟨w',e,_⟩
    ·simp only[Sum.inl.injEq]at e
     subst e
     obtain⟨o,x',so,oo,i1,i2⟩:=ihn _ _ g2 g3 g4 g5 g6 g7 hn
     refine⟨o,x',so,oo,?_,i2⟩
     rw[ng,g1]
     exact i1
    ·simp at e
   ·rename_i w2 hw2
    simp only[Option.some.injEq]at hn
    subst hn
    rcases nq _ hw2 with ⟨y',e,_⟩|⟨w',e,o,x',so,oo,g1,g2,g3⟩
    ·simp at e
    ·simp only[Sum.inr.injEq]at e
     subst e
     refine⟨o,x',so,oo,?_,g3⟩
     rw[ng,g1]
     cases oo with
     |norm s'=>exact absurd rfl (g2 s')
     |_=>rfl
   ·simp at hn
 obtain⟨n,hn⟩:=oG.1 hw
 have wH:Ie S.T h.az h.dead h.objs [] s s l0:=⟨Rq,Ti,WJ,by simpa[a9] using how,rfl,rfl,fun _ _=>rfl,fun _ _ _=>rfl,rfl,yI DM,BF DM,rfl,vo DM,by simpa[a9] using o7⟩
 obtain⟨r1,r2,r3,r4,r5,r6⟩:=nX x0 s l0 wH rfl (oB _ _ _ UK) st gM
 exact main n x0 st r1 r2 r3 r4 r5 r6 hn
def DR(T:dw)(H:ah T.den):Option (SV T.den)→Option AV→Prop
 |none,none=>True
 |some v,some a=>RV T H v a
 |_,_=>False
omit hS in
theorem N6{k:Nat}(ih:oF S k){ρ:Type}:∀ (c:Code) {s:bz S.T.den} {K:oY S.T.den→Option (SV S.T.den)→Tr ρ} {r:ρ} {st:St},RS S.T s st→(KV (fun c s K=>wF S k ρ c s K) (fun o s K=>NM S k ρ o s K) c s K).run=some r →
  ∃ so d o da,zo (cP S.C) (ik S.C) c st=some (o,da)∧DC S.T so o∧bk s so.st∧DR S.T so.st.hp d da∧(K so d).run=some r:=by
 have leaf:∀ (c:Code) {s:bz S.T.den} {K:oY S.T.den→Option (SV S.T.den)→Tr ρ} {r:ρ} {st:St},RS S.T s st→(wF S k ρ c s fun o=>K o none).run=some r →
   ∃ so d o da,((cP S.C c st).map fun o=>(o,(none:Option AV)))=some (o,da)∧DC S.T so o∧bk s so.st∧DR S.T so.st.hp d da∧(K so d).run=some r:=by
  intro c s K r st h hk
  obtain⟨so,o,c1,c2,c3,hk⟩:=ih.c _ _ _ _ _ _ h hk
  exact⟨so,none,o,none,by rw[c1]; rfl,c2,c3,trivial,hk⟩
 intro c
 induction c with
 |seq x y _ Jn=>
  intro s K r st h hk
  simp only[KV]at hk
  cases hd:sS x with
  |some q=>
   obtain⟨ops,v⟩:=q
   rw[hd]at hk
   simp only at hk
   rw[qK]at hk
   obtain⟨s1,UI,g1,g2,g3,hk⟩:=p9 (C:=S.C) (fun o s st K h hk=>ih.o _ _ _ _ _ _ h hk) _ _ _ _ h hk
   split at hk
   case h_2=>simp[Tr.run]at hk
   rename_i q cy
   obtain⟨g,l⟩:=q
   obtain⟨m,hm,_⟩:=gg (g2.ev v) (args:=[]) (as:=[]) trivial cy
   obtain⟨so,o,c1,c2,c3,hk⟩:=ih.c _ _ _ _ _ _ g2 hk
   refine⟨so,some (cU s1.fr v),o,some (ay UI.fr v),?_,c2,g3.trans c3,(g2.ev v).mono c3.grow,hk⟩
   simp only[zo,hd,pC,g1,hm,c1]
   rfl
  |none=>
   rw[hd]at hk
   simp only at hk
   obtain⟨so,o,c1,c2,c3,hk⟩:=ih.c _ _ _ _ _ _ h hk
   cases so with
   |norm s'=>
    obtain⟨st',rfl,ff⟩:=c2
    obtain⟨QI,d2,o2,da2,e1,e2,e3,e4,hk⟩:=Jn ff hk
    exact⟨QI,d2,o2,da2,by simp only[zo,hd,c1]; exact e1,e2,c3.trans e3,e4,hk⟩
   |ret s'=>
    obtain⟨st',rfl,ff⟩:=c2
    exact⟨.ret s',none,_,none,by simp only[zo,hd,c1],⟨st',rfl,ff⟩,c3,trivial,hk⟩
   |exit id s'=>
    obtain⟨st',rfl,ff⟩:=c2
    exact⟨.exit id s',none,_,none,by simp only[zo,hd,c1],⟨st',rfl,ff⟩,c3,trivial,hk⟩
 |_=>intro s K r st h hk; simp only[KV,zo]at hk ⊢; exact leaf _ h hk
theorem LA{k:Nat}(ih:oF S k){ρ:Type}{s:bz S.T.den}{st:St}{d:Option (SV S.T.den)}{da:Option AV}{rs:List ResultVar}{K:List (SV S.T.den)→ah S.T.den→List Nat→List (Nat×kY)→Tr ρ}{r:ρ}(h:RS S.T s st)(hd:DR S.T s.hp d da)
  (hk:(C4 (fun c s K=>wF S k ρ c s K) S.Q S.C.P rs s d K).run=some r):∃ l cq oV qM m eL,ue (cP S.C) S.C.P rs st.fr st.hp da=some (.val (cB m),eL)∧RL S.T cq l m∧RH S.T cq eL∧kE qM cq eL∧dk s.hp cq∧s.hp.length≤cq.length ∧
    (∀ n:Nat,n<s.hp.length→n∉oV→cq[n]?=s.hp[n]?)∧(∀ n,n∈s.wh→n∈oV)∧(K l cq oV qM).run=some r:=by
 cases d with
 |none=>
  cases da with
  |some a=>exact hd.elim
  |none=>
   simp only[C4]at hk
   obtain⟨l,m,g1,g2,hk⟩:=oC hS.T hS.Q h hk
   have Nm:(aU S.C.P st.fr rs).run st.hp=some m:=g1
   exact⟨l,s.hp,s.wh,s.js,m,st.hp,by simp only[ue,Eg,Nm],g2,h.hp,h.js,dk.refl _,Nat.le_refl _,fun _ _ _=>rfl,fun _ h=>h,hk⟩
 |some v=>
  cases da with
  |none=>exact hd.elim
  |some a=>
   have hd:RV S.T s.hp v a:=hd
   simp only[C4]at hk
   split at hk
   ·simp[Tr.run]at hk
   rename_i g as cy
   split at hk
   ·simp[Tr.run]at hk
   rename_i fg MQ
   split at hk
   ·simp[Tr.run]at hk
   rename_i cg MR
   split at hk
   ·simp[Tr.run]at hk
   rename_i WN
   simp only[Bool.and_eq_true,Bool.not_eq_true']at WN
   obtain⟨m,hm,VG⟩:=gg hd (args:=[]) (as:=[]) trivial cy
   rw[force_eq]at hk
   have gM:=yA (f:=g) (VG WN.2) h.hp fg.ntmps s.wh h.js
   obtain⟨so,o,c1,c2,c3,hk⟩:=ih.c _ _ _ _ _ _ gM hk
   have fin:∀ (t:bz S.T.den) (tt:St),RS S.T t tt→bk ⟨g,max fg.ntmps as.length,mu 0 as,s.hp,[],s.wh,s.js⟩ t→(o=.norm tt∨o=.ret tt) →
     (si S.T S.Q t fg.results.toList fun _=>si S.T S.Q ⟨s.fn,s.n,s.fr,t.hp,s.wf,t.wh,t.js⟩ rs fun l=>K l t.hp t.wh t.js).run=some r →
     ∃ l cq oV qM m eL,ue (cP S.C) S.C.P rs st.fr st.hp (some a)=some (.val (cB m),eL)∧RL S.T cq l m∧RH S.T cq eL∧kE qM cq eL∧dk s.hp cq∧s.hp.length≤cq.length ∧
       (∀ n:Nat,n<s.hp.length→n∉oV→cq[n]?=s.hp[n]?)∧(∀ n,n∈s.wh→n∈oV)∧(K l cq oV qM).run=some r:=by
    intro t tt ht oM ho hk
    obtain⟨l1,m1,f1,_,hk⟩:=oC hS.T hS.Q ht hk
    have f1':(aU S.C.P tt.fr fg.results.toList).run tt.hp=some m1:=f1
    have AW:RS S.T ⟨s.fn,s.n,s.fr,t.hp,s.wf,t.wh,t.js⟩ ⟨st.fn,st.fr,tt.hp⟩:=⟨h.fn,h.n,fun x=>(h.fr x).mono oM.grow,ht.hp,ht.js⟩
    obtain⟨l,m2,g1,g2,hk⟩:=oC hS.T hS.Q AW hk
    have Nm:(aU S.C.P st.fr rs).run tt.hp=some m2:=g1
    refine⟨l,t.hp,t.wh,t.js,m2,tt.hp,?_,g2,ht.hp,ht.js,oM.grow,oM.len,oM.hp,oM.wh,hk⟩
    simp only[ue,hm,MQ,MR,WN.1,c1]
    rcases ho with rfl|rfl<;>simp only[f1',Eg,Nm]
   cases so with
   |norm t=>
    obtain⟨tt,rfl,ht⟩:=c2
    exact fin t tt ht c3 (.inl rfl) hk
   |ret t=>
    obtain⟨tt,rfl,ht⟩:=c2
    exact fin t tt ht c3 (.inr rfl) hk
   |exit id t=>simp[Tr.run]at hk
theorem QL{k:Nat}(ih:oF S k){ρ:Type}{f:FuncId}{args:List (SV S.T.den)}{hp:ah S.T.den}{wh:List Nat}{js:List (Nat×kY)}{K:SV S.T.den→ah S.T.den→List Nat→List (Nat×kY)→Tr ρ}{r:ρ}{as:List AV}{N2:ag}
  (ha:RL S.T hp args as) (hh:RH S.T hp N2) (hj:kE js hp N2) (hk:(OT S (k+1) ρ f args hp wh js K).run=some r):∃ v cq oV qM a eL,kx S.C f as N2=some (.val a,eL)∧R S.T cq v a∧RH S.T cq eL∧kE qM cq eL∧dk hp cq∧hp.length≤cq.length ∧
    (∀ n:Nat,n<hp.length→n∉oV→cq[n]?=hp[n]?)∧(∀ n,n∈wh→n∈oV)∧(K v cq oV qM).run=some r:=by
 unfold OT at hk
 split at hk
 ·simp[Tr.run]at hk
 rename_i fn qS
 split at hk
 ·simp[Tr.run]at hk
 rename_i c hc
 rw[nK,force_eq]at hk
 have gM:=yA (f:=f) ha hh fn.ntmps wh hj
 split at hk
 ·rename_i hD
  split at hk
  case h_2=>simp[Tr.run]at hk
  rename_i hn
  obtain⟨so,d,o,da,c1,c2,c3,c4,hk⟩:=N6 ih c gM hk
  have fin:∀ (s:bz S.T.den) (st:St),RS S.T s st→bk ⟨f,max fn.ntmps args.length,mu 0 args,hp,[],wh,js⟩ s→DR S.T s.hp d da→(o=.norm st∨o=.ret st) →
    (C4 (fun c s K=>wF S k ρ c s K) S.Q S.C.P fn.results.toList s d fun l hp wh js=>K (qW l) hp wh js).run=some r →
    ∃ v cq oV qM a eL,kx S.C f as N2=some (.val a,eL)∧R S.T cq v a∧RH S.T cq eL∧kE qM cq eL∧dk hp cq∧hp.length≤cq.length ∧
    (∀ n:Nat,n<hp.length→n∉oV→cq[n]?=hp[n]?)∧(∀ n,n∈wh→n∈oV)∧(K v cq oV qM).run=some r:=by
   intro s st hs oM Ng ho hk
   obtain⟨l,cq,oV,qM,m,eL,e1,e2,e3,e4,e5,e6,e7,e8,hk⟩:=LA hS ih hs Ng hk
   refine⟨qW l,cq,oV,qM,cB m,eL,?_,GW e2,e3,e4,oM.grow.trans e5,Nat.le_trans oM.len e6,fun n hn hw=>?_,fun n hn=>e8 n (oM.wh n hn),hk⟩
   ·refine Jr qS hc hD ?_
    unfold uf
    rw[hn,c1]
    rcases ho with rfl|rfl<;>exact e1
   ·rw[e7 n (Nat.lt_of_lt_of_le hn oM.len) hw]
    exact oM.hp n hn fun h=>hw (e8 n h)
  cases so with
  |norm s=>
   obtain⟨st,rfl,hs⟩:=c2
   exact fin s st hs c3 c4 (.inl rfl) hk
  |ret s=>
   obtain⟨st,rfl,hs⟩:=c2
   exact fin s st hs c3 c4 (.inr rfl) hk
  |exit id s=>simp[Tr.run]at hk
 rename_i hD
 obtain⟨so,o,c1,c2,c3,hk⟩:=ih.c _ _ _ _ _ _ gM hk
 have fin:∀ (s:bz S.T.den) (st:St),RS S.T s st→bk ⟨f,max fn.ntmps args.length,mu 0 args,hp,[],wh,js⟩ s→(Jq S.C fn.results o=((aU S.C.P st.fr fn.results.toList).run st.hp).map fun l=>(.val (cB l),st.hp)) →
   (si S.T S.Q s fn.results.toList fun l=>K (qW l) s.hp s.wh s.js).run=some r →
   ∃ v cq oV qM a eL,kx S.C f as N2=some (.val a,eL)∧R S.T cq v a∧RH S.T cq eL∧kE qM cq eL∧dk hp cq∧hp.length≤cq.length ∧
   (∀ n:Nat,n<hp.length→n∉oV→cq[n]?=hp[n]?)∧(∀ n,n∈wh→n∈oV)∧(K v cq oV qM).run=some r:=by
  intro s st hs oM he hk
  obtain⟨l,m,g1,g2,hk⟩:=oC hS.T hS.Q hs hk
  refine⟨qW l,s.hp,s.wh,s.js,cB m,st.hp,?_,GW g2,hs.hp,hs.js,oM.grow,oM.len,oM.hp,oM.wh,hk⟩
  rw[AN qS hc _ _ hD,c1]
  simp only[Option.bind_some]
  rw[he]
  have Nm:(aU S.C.P st.fr fn.results.toList).run st.hp=some m:=g1
  rw[Nm]
  rfl
 cases so with
 |norm s=>
  obtain⟨st,rfl,hs⟩:=c2
  exact fin s st hs c3 rfl hk
 |ret s=>
  obtain⟨st,rfl,hs⟩:=c2
  exact fin s st hs c3 rfl hk
 |exit id s=>simp[Tr.run]at hk
theorem QM{k:Nat}(ih:oF S k){ρ:Type}{c:Code}{s:bz S.T.den}{K:oY S.T.den→Tr ρ}{r:ρ}{st:St}(h:RS S.T s st)(hk:(wF S (k+1) ρ c s K).run=some r):
  ∃ so o,cP S.C c st=some o∧DC S.T so o∧bk s so.st∧(K so).run=some r:=by
 unfold wF at hk
 split at hk
 ·exact⟨.norm s,_,qh st,⟨st,rfl,h⟩,bk.refl _,hk⟩
 ·exact⟨.norm s,_,Er _ st,⟨st,rfl,h⟩,bk.refl _,hk⟩
 ·exact⟨.ret s,_,xm st,⟨st,rfl,h⟩,bk.refl _,hk⟩
 ·rename_i id
  exact⟨.exit id s,_,uq id st,⟨st,rfl,h⟩,bk.refl _,hk⟩
 ·rename_i a b
  obtain⟨so,o,c1,c2,c3,hk⟩:=ih.c _ _ _ _ _ _ h hk
  rw[gW,c1]
  cases so with
  |norm s'=>
   obtain⟨st',rfl,ff⟩:=c2
   obtain⟨QI,o2,d1,d2,d3,hk⟩:=ih.c _ _ _ _ _ _ ff hk
   exact⟨QI,o2,d1,d2,c3.trans d3,hk⟩
  |exit id s'=>
   obtain⟨st',rfl,ff⟩:=c2
   exact⟨.exit id s',_,rfl,⟨st',rfl,ff⟩,c3,hk⟩
  |ret s'=>
   obtain⟨st',rfl,ff⟩:=c2
   exact⟨.ret s',_,rfl,⟨st',rfl,ff⟩,c3,hk⟩
 ·rename_i o a b
  split at hk
  ·rename_i t ht
   have ha:=(h.ev o).lit ht
   rw[k6,ha]
   rcases fu hk with ⟨rfl,hk⟩|⟨rfl,hk⟩
   ·exact ih.c _ _ _ _ _ _ h hk
   ·exact ih.c _ _ _ _ _ _ h hk
  ·simp[Tr.run]at hk
 ·rename_i id b
  obtain⟨so,o,c1,c2,c3,hk⟩:=ih.c _ _ _ _ _ _ h hk
  rw[lB,c1]
  cases so with
  |norm s'=>
   obtain⟨st',rfl,ff⟩:=c2
   exact⟨.norm s',_,rfl,⟨st',rfl,ff⟩,c3,hk⟩
  |exit IY s'=>
   obtain⟨st',rfl,ff⟩:=c2
   simp only at hk
   by_cases e:IY=id
   ·rw[if_pos e]at hk
    exact⟨.norm s',.norm st',by simp[ur,e],⟨st',rfl,ff⟩,c3,hk⟩
   ·rw[if_neg e]at hk
    exact⟨.exit IY s',.exit IY st',by simp[ur,e],⟨st',rfl,ff⟩,c3,hk⟩
  |ret s'=>
   obtain⟨st',rfl,ff⟩:=c2
   exact⟨.ret s',_,rfl,⟨st',rfl,ff⟩,c3,hk⟩
 ·rename_i b
  split at hk
  case h_2=>simp[Tr.run]at hk
  rename_i c hc
  obtain⟨so,o,c1,c2,c3,hk⟩:=ih.c _ _ _ _ _ _ h hk
  exact⟨so,o,Et hc c1,c2,c3,hk⟩
 ·rename_i b
  split at hk
  ·split at hk
   ·obtain⟨so,o,c1,c2,c3,hk⟩:=ih.c _ _ _ _ _ _ h hk
    rw[ng,c1]
    cases so with
    |norm s'=>
     obtain⟨st',rfl,ff⟩:=c2
     simp only at hk
     split at hk
     case h_2=>simp[Tr.run]at hk
     rename_i BD
     rw[force_eq]at hk
     have hr:=Dw (n:=s.hp.length) hS.T ff (Ap BD)
     have oM:=wi h c3
     obtain⟨QI,o2,d1,d2,d3,hk⟩:=ih.c _ _ _ _ _ _ hr hk
     refine⟨QI,o2,?_,d2,oM.trans d3,hk⟩
     simp only[Option.bind_some,Jp]
     rw[←h.hp.length]
     exact d1
    |exit id s'=>
     obtain⟨st',rfl,ff⟩:=c2
     exact⟨.exit id s',_,rfl,⟨st',rfl,ff⟩,c3,hk⟩
    |ret s'=>
     obtain⟨st',rfl,ff⟩:=c2
     exact⟨.ret s',_,rfl,⟨st',rfl,ff⟩,c3,hk⟩
   ·simp[Tr.run]at hk
  ·rename_i hi _
   split at hk
   ·rename_i x0 bM UK
    simp only[Bool.and_eq_true]at bM
    rw[Option.bind_eq_some_iff]at UK
    obtain⟨l0,h1,h2⟩:=UK
    simp only[Tr.run,Option.bind_eq_some_iff]at hk
    obtain⟨w,hw,hk⟩:=hk
    obtain⟨o,x,so,oo,g1,g2,g3,g4,g5⟩:=N5 hS ih bM.1.1 bM.1.2 bM.2 h1 h2 h hw
    exact⟨so,oo,g1,g3,g4,by rw[←g5]; exact hk⟩
   ·simp[Tr.run]at hk
 ·rename_i id ops draw
  split at hk
  ·obtain⟨s00,WO,WQ,hk⟩:=vn h hk
   obtain⟨s0,e1,e2,hk⟩:=BE hS.T WO hk
   replace e2:=WQ.trans e2
   rw[qK]at hk
   obtain⟨s',st',g1,g2,g3,hk⟩:=p9 (C:=S.C) (fun o s st K h hk=>ih.o _ _ _ _ _ _ h hk) _ _ _ _ e1 hk
   exact⟨.norm s',.norm st',by rw[zN,←h.fn]; exact g1,⟨st',rfl,g2⟩,e2.trans g3,hk⟩
  ·split at hk
   case isFalse=>simp[Tr.run]at hk
   rename_i Nk
   generalize hm:S.C.head s.fn id ops=m at hk
   have key:∀ (s:bz S.T.den) (st:St),RS S.T s st→(oj ops ops.toList fun l=>ya (lP (bH 0 s.hp.length (ops.toList.take m)) l) fun li=>sq (fun nm o s K=>Uu S nm o s K) li
       { s with hp:=s.hp++List.replicate ((ops.toList.take m).filter fun o=>au o.op).length none } [] fun s' fs=>
      if (qF (bZ ops.toList) fs && mD (bZ ops.toList) ops.size m) = true then vZ (fun o s K => NM S k ρ o s K) (l.drop m) s' fun s' => K (.norm s') else .no "an order").run = some r →
     ∃ so o,(ta S.C ops (bH 0 st.hp.length (ops.toList.take m)) { st with hp:=st.hp++List.replicate ((ops.toList.take m).filter fun o=>au o.op).length none }).bind (F9 S.C ops m)=some o ∧
       DC S.T so o∧bk s so.st∧(K so).run=some r:=by
    clear hk h
    intro s st h hk
    rw[qK,Am,rC]at hk
    have WR:∀ n:Nat,dk s.hp (s.hp++List.replicate n none)∧RH S.T (s.hp++List.replicate n none) (st.hp++List.replicate n none):=by
     intro n
     have hg:dk s.hp (s.hp++List.replicate n none):=fun m o ho=>⟨o,by rw[List.getElem?_append_left (List.getElem?_eq_some_iff.1 ho).1]; exact ho,Nat.le_refl _,fun _=>rfl⟩
     exact⟨hg,aw.append (aw.mono (fun _ _=>Bq.mono hg) h.hp) (aw.replicate (show Bq S.T _ none none from trivial) n)⟩
    generalize WS:((ops.toList.take m).filter fun o=>au o.op).length=Ru at hk
    have nx:RS S.T { s with hp:=s.hp++List.replicate Ru none } { st with hp:=st.hp++List.replicate Ru none }:=
     ⟨h.fn,h.n,fun t=>(h.fr t).mono (WR Ru).1,(WR Ru).2,h.js.Bs fun n hn=>⟨by simp only; rw[List.getElem?_append_left (jo hn)],by simp only; rw[List.getElem?_append_left (by rw[←h.hp.length]; exact jo hn)]⟩⟩
    have WT:bk s { s with hp:=s.hp++List.replicate Ru none }:=
     ⟨rfl,rfl,fun _ _=>rfl,fun _ h=>h,fun n hn _=>by simp only; rw[List.getElem?_append_left hn],fun _ h=>h,by simp,(WR Ru).1⟩
    obtain⟨s',st',Qw,M8,g1,g2,g3,g4,hk⟩:=vg (C:=S.C) (ops:=ops) (fun nm o s st K h hn hk=>QG hS h hn hk) (bH 0 s.hp.length (ops.toList.take m)) s.hp.length _ _ [] _ (An _ _ _)
     (by rw[yx,WS]; simp) (fun m hm B0=>by
       simp only at B0 ⊢
       rw[List.getElem?_append_right hm,List.getElem?_replicate,if_pos]
       simp at B0; omega) nx hk
    split at hk
    case isFalse=>simp[Tr.run]at hk
    rename_i DN
    rw[Bool.and_eq_true]at DN
    obtain⟨DN,vK⟩:=DN
    obtain⟨s2,NZ,j1,j2,j3,hk⟩:=p9 (C:=S.C) (fun o s st K h hk=>ih.o _ _ _ _ _ _ h hk) _ _ _ _ g3 hk
    refine⟨.norm s2,.norm NZ,?_,⟨NZ,rfl,j2⟩,WT.trans (g4.trans j3),hk⟩
    have hl:=h.hp.length
    rw[←hl]
    rw[g1]
    simp only[Option.bind_some,F9]
    rw[if_pos]
    ·rw[pC,←j1,List.map_drop]
    ·rw[Bool.and_eq_true]
     simp only[List.nil_append]at DN
     exact⟨yw g2 (Bx DN),vK⟩
   obtain⟨s00,WO,WQ,hk⟩:=vn h hk
   obtain⟨s0,e1,e2,hk⟩:=BE hS.T WO hk
   replace e2:=WQ.trans e2
   obtain⟨so,o,i1,i2,i3,hk⟩:=key s0 _ e1 hk
   refine⟨so,o,?_,i2,e2.trans i3,hk⟩
   rw[Hm id ops Nk,←h.fn,←rV (S.C.iv s.fn id) st,hm]
   exact i1
 ·-- a range over a function
  rename_i f ps as bd
  split at hk
  case h_2=>simp[Tr.run]at hk
  rename_i g args hg
  split at hk
  case h_2=>simp[Tr.run]at hk
  rename_i lA
  rw[Bool.and_eq_true]at lA
  have hl:=h.hp.length
  have eu:=Ig h lA.2
  obtain⟨H1,IJ⟩:∃ H1,H1=s.hp++[some (aB.oX s.fn ps as bd (wE (cV as++cV bd) s.fr (List.range s.n)))]:=⟨_,rfl⟩
  rw[←IJ]at hk
  have O0:dk s.hp H1:=fun m o ho=>⟨o,by rw[IJ,List.getElem?_append_left (List.getElem?_eq_some_iff.1 ho).1]; exact ho,Nat.le_refl _,fun _=>rfl⟩
  have fe:H1[s.hp.length]?=some (some (aB.oX s.fn ps as bd (wE (cV as++cV bd) s.fr (List.range s.n)))):=by rw[IJ]; simp
  have hh1:RH S.T H1 (st.hp++[some (.gl (.loop st.fn ps as bd .ready) (ud as bd st.fr))]):=by
   have:aw (Bq S.T H1) (s.hp++[some (aB.oX s.fn ps as bd (wE (cV as++cV bd) s.fr (List.range s.n)))]) (st.hp++[some (.gl (.loop st.fn ps as bd .ready) (ud as bd st.fr))]):=
    aw.append (aw.mono (fun _ _=>Bq.mono O0) h.hp) ⟨⟨.ready,_,by rw[h.fn],aw.mono (fun _ _ h=>h.imp id (R.mono O0)) eu⟩,trivial⟩
   rw[←IJ]at this
   exact this
  have Q3:kE ((s.hp.length,.ready)::s.js) H1 (st.hp++[some (.gl (.loop st.fn ps as bd .ready) (ud as bd st.fr))]):=by
   intro m x hm
   simp only[cm]at hm
   split at hm
   ·simp_all[recAt,fe,aB.isRec,ig]
   ·obtain⟨h1,h2⟩:=h.js m x hm
    have bQ:=jo h1
    exact⟨by rw[p8 (show H1[m]?=s.hp[m]? by rw[IJ,List.getElem?_append_left bQ])]; exact h1,by rw[nL (List.getElem?_append_left (by omega))]; exact h2⟩
  have hyR:RV S.T H1 (.mp true s.hp.length) (.mp true st.hp.length):=.inr (by simp only[R]; exact⟨by rw[hl],_,fe⟩)
  obtain⟨m,uu,yM⟩:=gg ((h.ev f).mono O0) (show aw (RV S.T H1) [.mp true s.hp.length] [.mp true st.hp.length] from ⟨hyR,trivial⟩) hg
  have Lu:args.any bP=false:=by simpa using lA.1
  obtain⟨v,cq,oV,qM,a,eL,g1,g2,g3,gj,g4,g5,g6,g7,hk⟩:=ih.f _ _ _ _ _ _ _ _ _ _ (yM Lu) hh1 Q3 hk
  have F1:H1.length=s.hp.length+1:=by rw[IJ]; simp
  have fin:∀ x,cm qM s.hp.length=some x→RS S.T (s.gR s.hp.length cq oV qM) { st with hp:=rb eL st.hp.length }∧bk s (s.gR s.hp.length cq oV qM)∧ig eL st.hp.length=some x:=by
   intro x hx
   obtain⟨q1,q2⟩:=gj _ _ hx
   rw[hl]at q2
   obtain⟨Nf,Wr,nW,Ws,yZ,hr⟩:=iI q2
   obtain⟨o,ho,Wq⟩:∃ o,cq[s.hp.length]?=some (some o)∧o.isRec=true:=by
    grind[recAt]
   have nH:o.cur=0∧o.len=0:=by cases o<;>simp[aB.isRec]at Wq; exact⟨rfl,rfl⟩
   have Cw:rb eL st.hp.length=eL.set st.hp.length (some (.gl (.loop Nf Wr nW Ws .gR) (yZ.map fun _=>.any))):=by unfold rb; rw[hr]
   obtain⟨u1,u2⟩:=g3.Rj ho (o':=.hJ) (a':=.gl (.loop Nf Wr nW Ws .gR) (yZ.map fun _=>.any)) (by rw[nH.1]; exact Nat.zero_le _) (fun _=>by rw[nH.2]; rfl) (.inr ⟨_,_,rfl,fun n=>by
    rw[yy]
    simp[Go.PI.below]⟩)
   rw[hl]at u2
   have zJ:dk s.hp (cq.set s.hp.length (some .hJ)):=O0.trans (g4.trans u1)
   refine⟨⟨h.fn,h.n,fun t=>(h.fr t).mono zJ,?_,?_⟩,⟨rfl,rfl,fun _ _=>rfl,fun _ h=>h,fun n hn hw=>?_,g7,?_,zJ⟩,q2⟩
   ·rw[Cw]
    show RH S.T (cq.set s.hp.length (some .hJ)) _
    rw[hl]; exact u2
   ·intro n y hy
    have AU:cm (C3 qM s.hp.length) n=some y:=hy
    rw[DD]at AU
    split at AU
    ·simp at AU
    rename_i dN
    obtain⟨w1,w2⟩:=gj _ _ AU
    refine⟨?_,?_⟩
    ·rw[p8 (show (s.gR s.hp.length cq oV qM).hp[n]?=cq[n]? from List.getElem?_set_ne (Ne.symm dN))]; exact w1
    ·rw[Cw,nL (List.getElem?_set_ne (by rw[←hl]; exact Ne.symm dN))]; exact w2
   ·show (cq.set s.hp.length (some .hJ))[n]?=_
    rw[List.getElem?_set_ne (by omega),g6 n (by omega) hw,IJ,List.getElem?_append_left hn]
   ·show s.hp.length≤(cq.set s.hp.length (some .hJ)).length
    rw[List.length_set]; omega
  have aV:cP S.C (.rangeFunc f ps as bd) st=vt st st.hp.length eL:=by
   rw[Ex,uu]
   simp only[Option.bind_some,g1]
   rfl
  rw[aV]
  split at hk
  ·rename_i hx
   obtain⟨f1,f2,f3⟩:=fin _ hx
   exact⟨.norm _,_,by unfold vt; rw[f3],⟨_,rfl,f1⟩,f2,hk⟩
  ·rename_i hx
   obtain⟨f1,f2,f3⟩:=fin _ hx
   exact⟨.ret _,_,by unfold vt; rw[f3],⟨_,rfl,f1⟩,f2,hk⟩
  ·rename_i id hx
   obtain⟨f1,f2,f3⟩:=fin _ hx
   exact⟨.exit id _,_,by unfold vt; rw[f3],⟨_,rfl,f1⟩,f2,hk⟩
  ·simp[Tr.run]at hk
 ·simp[Tr.run]at hk
theorem DP:∀ k,oF S k
 |0=>⟨fun _ _ _ _ _ _ _ _ _ _ _ _ _ h=>by simp[OT,Tr.run]at h,fun _ _ _ _ _ _ _ h=>by simp[wF,Tr.run]at h,fun _ _ _ _ _ _ _ h=>by simp[NM,Tr.run]at h⟩
 |k+1=>
  have ih:=DP k
  ⟨fun _ _ _ _ _ _ _ _ _ _ ha hh hj hk=>QL hS ih ha hh hj hk,fun _ _ _ _ _ _ h hk=>QM hS ih h hk,fun _ _ _ _ _ _ h hk=>QH hS ih h hk⟩
end
end Go.PI
end
section
/- PS, part R: from an equation of trees to what is known of a function; laws; arguments read. -/
namespace Go.PI
theorem DK[ab]{S:og}(hS:S.Ok){k:Nat}{f:FuncId}{σ:uR S.T}(hk:S.C.kind f=.pure)(hi:S.C.ku f=none)(h:∀ x,(Qk S k f σ.args σ.res x).run=σ.fn x):p7 S.C S.T f σ where
 kind:=hk
 Rp:=by
  intro x as y hx hy
  rw[←h x]at hy
  unfold Qk at hy
  obtain⟨v,cq,oV,qM,a,eL,g1,g2,g3,_,_,_,_,_,hy⟩:=(DP hS k).f _ f _ [] [] [] _ _ as [] (Ld hS.T [] hx) (show RH S.T [] [] from trivial) (fun _ _ h=>by simp[cm]at h) hy
  obtain⟨v',rd,a',h1,h2,h3,hy⟩:=Lc g3 g2 hy
  split at hy
  case h_2=>simp[Tr.run]at hy
  rename_i r hr
  simp only[Tr.run,Option.some.injEq]at hy
  subst hy
  rw[Option.bind_eq_some_iff]at hr
  obtain⟨l,hl,hr⟩:=hr
  have Vi:∀ (ts:List Nat) (l:List (SV S.T.den)) r,HS S.T ts l=some r→ts.length=l.length:=by
   intro ts
   induction ts with
   |nil=>
    grind[HS]
   |cons t ts ih=>
    intro l r h
    cases l with
    |nil=>simp[HS]at h
    |cons v l=>
     simp only[HS,Option.bind_eq_some_iff,Option.map_eq_some_iff]at h
     obtain⟨_,_,_,h,_⟩:=h
     simp[ih _ _ h]
  have hlen:=Vi _ _ _ hl
  have key:∃ m,RL S.T cq (KW σ.res v') m∧cB m=a':=by
   unfold KW at hlen ⊢
   split at hlen
   ·exact⟨[a'],by simp only[RL]; exact⟨h2,trivial⟩,rfl⟩
   ·rename_i dN
    have rh:σ.res.length≠1:=by
     intro hc
     match cy:σ.res,hc with
     |[t],_=>exact dN t cy
    split at hlen
    ·simp only[R]at h2
     obtain⟨m,rfl,h2⟩:=h2
     have hm:=h2.length
     refine⟨m,h2,?_⟩
     match m,hm with
     |[],_=>rfl
     |[x],hm=>simp at hm; omega
     |x::y::r,_=>rfl
    ·simp at hlen; omega
  obtain⟨m,uu,Rt⟩:=key
  have Ed:=Fz hS.T uu hl
  rw[oB _ _ _ hr]
  refine⟨a,eL,m,?_,?_,?_,Ed⟩
  ·simp only[Lf,hi,g1]
  ·rw[Rt]; exact h1.1
  ·rw[Rt]; exact h3.1
def GR(C:Ctx)(T:dw)(M:List (Nat×jY))(hint:FuncId→Nat→Option Hint)(uS:FuncId→Nat→Bool)(L:List (Nat×uR T))(n:Nat)(O:List (Nat×vY T):=[])(tF:FuncId→Nat→Bool:=fun _ _=>false)(tw:FuncId→Tmp→List Tw:=fun _ _=>[]):og:=
 ⟨C,T,cm (L.take n),hint,uS,M,cm O,tF,tw⟩
theorem Az{α:Type}:∀ {l m:List (Nat×α)} {n:Nat} {a:α},cm (l++m) n=some a→cm l n=some a∨cm m n=some a
 |[],m,n,a,h=>.inr h
 |(k,b)::l,m,n,a,h=>by
  simp only[List.cons_append,cm]at h ⊢
  split at h
  ·exact .inl h
  ·exact Az h
section
variable {C:Ctx}{T:dw}{M:List (Nat×jY)}{hint:FuncId→Nat→Option Hint}{uS:FuncId→Nat→Bool}{L:List (Nat×uR T)}{O:List (Nat×vY T)}{tF:FuncId→Nat→Bool}{tw:FuncId→Tmp→List Tw}
theorem Db[ab](hT:T.Ok)(hQ:gP.Ok ⟨C.P,M,fun _=>false⟩)(hZ:T.tO ⟨C.P,M,fun _=>false⟩)(hO:∀ g σ,cm O g=some σ→GY C T g σ):(GR C T M hint uS L 0 O tF tw).Ok:=
 ⟨hT,hQ,hZ,fun g σ h=>by simp[GR,cm]at h,hO⟩
theorem tL[ab]{n:Nat}(hS:(GR C T M hint uS L n O tF tw).Ok){f:FuncId}{σ:uR T}(hL:L[n]?=some (f,σ))(h:p7 C T f σ):(GR C T M hint uS L (n+1) O tF tw).Ok:=by
 refine⟨hS.T,hS.Q,hS.Z,fun g τ hg=>?_,hS.own⟩
 simp only[GR]at hg
 rw[List.take_add_one,hL]at hg
 rcases Az hg with hg|hg
 ·exact hS.sum g τ hg
 ·have:=gC hg
  simp only[Option.toList_some,List.mem_singleton]at this
  obtain⟨rfl,rfl⟩:=this
  exact h
theorem aA[ab]{n:Nat}(hS:(GR C T M hint uS L n O tF tw).Ok){f:FuncId}{σ:uR T}(hL:L[n]?=some (f,σ))(hk:C.kind f=.pure)(hi:C.ku f=none)(k:Nat)
  (h:∀ x,(Qk (GR C T M hint uS L n O tF tw) k f σ.args σ.res x).run=σ.fn x):(GR C T M hint uS L (n+1) O tF tw).Ok:=
 tL hS hL (DK hS hk hi h)
theorem N7[ab]{n:Nat}(hS:(GR C T M hint uS L n O tF tw).Ok){f:FuncId}{σ:uR T}(h:cm (L.take n) f=some σ):p7 C T f σ:=hS.sum f σ h
end
theorem FJ[ab]{hp:ag}{v:AV}{b:Bool}(h:(aX 1000 v).run hp=some (.lit (.bool b))):v=.lit (.bool b):=by
 cases v with
 |lit x=>
  simp only[aX]at h
  split at h
  ·simp[RM.run_pure]at h
  ·simpa[RM.run_pure] using h
 |agg l=>simp only[aX,RM.run_bind]at h; cases hq:(aO 999 l).run hp<;>rw[hq]at h<;>simp[RM.run_pure]at h
 |ju l=>simp only[aX,RM.run_bind]at h; cases hq:(aO 999 l).run hp<;>rw[hq]at h<;>simp[RM.run_pure]at h
 |sl l=>simp[aX,RM.run_pure]at h
 |pa l c=>simp[aX,RM.run_pure]at h
 |nz=>simp[aX,RM.run_pure]at h
 |bh e j=>simp[aX,RM.run_pure]at h
 |ref n aq i j=>
  simp only[aX,RM.run_bind]at h
  cases hq:(RM.arr n aq).run hp with
  |none=>rw[hq]at h; simp at h
  |some q=>
   obtain⟨g,c,f,es⟩:=q
   rw[hq]at h
   simp only[Option.bind_some]at h
   split at h
   ·split at h
    ·simp[RM.run_pure]at h
    ·rename_i e _ _
     rw[RM.run_bind]at h
     cases dW:(aX 999 e).run hp<;>rw[dW]at h<;>simp[RM.run_pure]at h
   ·simp[RM.af]at h
 |iU n aq i j len cap=>
  simp only[aX,RM.run_bind]at h
  cases hq:(RM.arr n aq).run hp with
  |none=>rw[hq]at h; simp at h
  |some q=>
   obtain⟨g,c,f,es⟩:=q
   rw[hq]at h
   simp only[Option.bind_some]at h
   split at h
   ·split at h
    ·split at h
     ·simp[RM.run_pure]at h
     ·rename_i cs _ _ _
      rw[RM.run_bind]at h
      cases dW:(aO 999 ((cs.drop j).take len)).run hp<;>rw[dW]at h<;>simp[RM.run_pure]at h
    ·simp[RM.af]at h
   ·simp[RM.af]at h
 |mp n=>simp[aX,RM.af]at h
 |any=>simp[aX,RM.af]at h
 |gi t x=>simp only[aX,RM.run_bind]at h; cases hq:(aX 999 x).run hp<;>rw[hq]at h<;>simp[RM.run_pure]at h
 |iV fn f c=>
  simp only[aX,RM.run_bind]at h
  cases hq:(aO 999 f).run hp with
  |none=>rw[hq]at h; simp at h
  |some f'=>
   cases dW:(aO 999 c).run hp with
   |none=>rw[hq,dW]at h; simp at h
   |some c'=>simp_all[RM.run_pure]
 |bq esz n aq off len cap=>
  simp only[aX,RM.run_bind]at h
  cases hq:(RM.arr n aq).run hp with
  |none=>rw[hq]at h; simp at h
  |some q=>
   obtain⟨g,c,f,es⟩:=q
   rw[hq]at h
   simp only[Option.bind_some]at h
   split at h
   ·split at h
    ·simp[RM.run_pure]at h
    ·rw[RM.run_bind]at h
     cases dW:(aO 999 ((es.drop off).take len)).run hp<;>rw[dW]at h<;>simp[RM.run_pure]at h
   ·simp[RM.af]at h
open Go.RowKit in
theorem LB[ab]{C:Ctx}{T:dw}(hC:C.Ok){f:FuncId}{σ:uR T}(h:p7 C T f σ)(hi:C.ku f=none){x:HL T.den (σ.args.map .v)}{y:HL T.den (σ.res.map .v)}(hy:σ.fn x=some y)
  (cy:∀ l,aw (O3 T) (fX _ y) l→l=[.lit (.bool true)]) {as:List AV} (ha:aw (O3 T) (fX _ x) as) {W:World} (hg:mE (Env.all W)) {vs:List Value} (hr:an (Env.all W) false as vs) :
  Calls C.P f vs.toArray W fun e w'=>e=.returned (.bool true)∧Below W.heap.size W w':=by
 obtain⟨v,ib,l,h1,h2,_,h4⟩:=h.Rp x as y ha hy
 have:=cy l h4
 subst this
 have hv:=FJ h2
 subst hv
 unfold Lf at h1
 rw[hi]at h1
 simp only at h1
 split at h1
 case h_2=>simp at h1
 rename_i v0 S2 aV
 simp only[Option.some.injEq,Prod.mk.injEq]at h1
 obtain⟨rfl,rfl⟩:=h1
 exact Hh hC aV hg hr
end Go.PI
end
section
/- PS, part S: arguments that came in, as typed values. -/
namespace Go.PI
section
variable {P:Program}{n t:Nat}{l:List AV}
theorem oH(h:Shape P n t l):∃ k,n=k+1:=by
 cases n with
 |zero=>simp[Shape]at h
 |succ k=>exact⟨k,rfl⟩
theorem Iq[ab]{i:IntKind}(hu:P.underlying t=some (.int i))(h:Shape P n t l):∃ m:Int,l=[.lit (.int i m)]∧i.min≤m∧m≤i.max:=by
 obtain⟨k,rfl⟩:=oH h
 simp only[Shape,hu]at h
 obtain⟨m,h1,h2⟩:=h
 simp only[Lit.wf,Bool.and_eq_true,decide_eq_true_eq]at h2
 exact⟨m,h1,h2⟩
theorem qf[ab]{e:Nat}{α:Type}{Q:α→AV→Prop}{d:TypeDesc}(hu:P.underlying t=some (.slice e))(he:P.underlying e=some d)(h:Shape P n t l)
  (Jl:∀ k x,(∃ cl,(if dR d then x=AV.agg cl else cl=[x])∧Shape P k e cl)→∃ y,Q y x) :
  ∃ ys xs,l=[.sl xs]∧aw Q ys xs∧ys.length≤maxLen:=by
 obtain⟨k,rfl⟩:=oH h
 simp only[Shape,hu]at h
 obtain⟨xs,h1,h2,h3⟩:=h
 have:∃ ys,aw Q ys xs:=by
  clear h1 h2
  induction xs with
  |nil=>exact⟨[],trivial⟩
  |cons x xs ih=>
   obtain⟨ys,h4⟩:=ih fun y hy=>h3 y (List.mem_cons_of_mem _ hy)
   obtain⟨cl,h5,h6⟩:=h3 x (by simp)
   rw[he]at h5
   obtain⟨y,h7⟩:=Jl k x ⟨cl,h5,h6⟩
   exact⟨y::ys,h7,h4⟩
 obtain⟨ys,h4⟩:=this
 exact⟨ys,xs,h1,h4,by rw[h4.length]; exact h2⟩
theorem BG[ab]{fs:Array Field}(hu:P.underlying t=some (.struct fs))(h:Shape P n t l):l.length=P.cellsOf t∧∃ k,∀ f,f∈fs.toList→Shape P k f.type ((l.drop f.offset).take (P.cellsOf f.type)):=by
 obtain⟨k,rfl⟩:=oH h
 simp only[Shape,hu]at h
 exact⟨h.1,k,h.2⟩
theorem tU[ab]{Q:gP}(hQ:Q.Ok){t:Nat}{m:jY}(hm:Q.ty t=some m){fs:List (Nat×Nat)}(hk:m.kind=.struct fs)(h:Shape Q.P n t l):
  l.length=Q.P.cellsOf t∧∃ k,∀ q,q∈fs→Shape Q.P k q.2 ((l.drop q.1).take (Q.P.cellsOf q.2)):=by
 obtain⟨d,hd,Eu⟩:=hQ.kind t m hm
 rw[hk]at Eu
 cases d<;>simp[ow]at Eu
 rename_i DZ
 subst Eu
 obtain⟨h1,k,h2⟩:=BG hd h
 refine⟨h1,k,fun q hq=>?_⟩
 obtain⟨f,hf,rfl⟩:=List.mem_map.1 hq
 exact h2 f hf
end
theorem iu{Q:gP}(hQ:Q.Ok){t:Nat}{m:jY}(h:Q.ty t=some m):Q.P.cellsOf t=m.size:=by
 obtain⟨r,h1,_,h2,_⟩:=hQ.row t m h
 unfold fh at h1
 unfold Program.cellsOf
 cases hi:Q.P.info? t with
 |none=>rw[hi]at h1; simp at h1
 |some i=>
  grind
theorem fc[ab]{P:Program}{n t t':Nat}{l:List AV}(hu:P.underlying t=P.underlying t')(h:Shape P n t l)(hc:P.cellsOf t=P.cellsOf t':=by kernel_rfl):Shape P n t' l:=by
 obtain⟨k,rfl⟩:=oH h
 simp only[Shape]at h ⊢
 rw[←hu,←hc]
 exact h
theorem tV{k:IntKind}{n:Int}:ba (.lit (.int k n))=true:=rfl
theorem qO{b:Bool}:ba (.lit (.bool b))=true:=rfl
theorem tW{s:ByteArray}:ba (.lit (.string s))=true:=rfl
theorem DQ{T:dw}{H:ah T.den}{v:SV T.den}{vs:List (SV T.den)}{l:List AV}:RL T H (v::vs) l↔∃ c cs,l=c::cs∧R T H v c∧RL T H vs cs:=by
 cases l with
 |nil=>simp[RL]
 |cons c cs=>
  grind[RL]
theorem FK{T:dw}{H:ah T.den}{l:List AV}:RL T H [] l↔l=[]:=by
 cases l<;>simp[RL]
end Go.PI
end
section
/- PS: what must hold of a seat's types, for all the plain kinds at once. -/
namespace Go.PI
section
variable {T:dw}{H:ah T.den}{v:SV T.den}{a:AV}
theorem eR{k:IntKind}{x:Int}(h:dI k v=some x)(hr:R T H v a):a=.lit (.int k x):=by
 unfold dI at h
 split at h
 ·simp_all[R]
 ·simp at h
theorem LF{x:Bool}(h:dB v=some x)(hr:R T H v a):a=.lit (.bool x):=by
 unfold dB at h
 split at h
 ·simp_all[R]
 ·simp at h
theorem Tn{x:ByteArray}(h:dS v=some x)(hr:R T H v a):a=.lit (.string x):=by
 unfold dS at h
 split at h
 ·simp_all[R]
 ·simp at h
theorem LG{α:Type}{q:α→AV→Prop}{d:SV T.den→Option α}(hd:∀ v x a,d v=some x→R T H v a→q x a):∀ (vs:List (SV T.den)) (l:List α) (m:List AV),SJ d vs=some l→RL T H vs m→aw q l m
 |[],l,[],h,_=>by simp[SJ]at h; subst h; trivial
 |v::vs,l,a::m,h,hr=>by
  simp only[RL]at hr
  simp only[SJ,Option.bind_eq_some_iff,Option.map_eq_some_iff]at h
  obtain⟨x,h1,ys,h2,rfl⟩:=h
  exact⟨hd _ _ _ h1 hr.1,LG hd vs ys m h2 hr.2⟩
 |[],_,_::_,_,h=>by simp[RL]at h
 |_::_,_,[],_,h=>by simp[RL]at h
theorem gh{e:Nat}{x:List (T.den e)}{d:SV T.den→Option (T.den e)}(hd:∀ v x a,d v=some x→R T H v a→T.rp e x a)(h:OU e d v=some x)(hr:R T H v a):NN (T.rp e) x a:=by
 unfold OU at h
 split at h
 ·rename_i t l
  split at h
  ·rename_i e
   subst e
   have e2:l=x:=Option.some.inj h
   subst e2
   simp only[R]at hr
   exact hr
  ·simp at h
 ·simp only[R]at hr
  obtain⟨m,rfl,hm,_⟩:=hr
  exact .inl ⟨m,rfl,LG hd _ _ _ h hm⟩
 ·grind[R]
 ·simp at h
theorem QO{α:Type}{q:α→AV→Prop}{d:SV T.den→Option α}{x:α}(hd:∀ v a,d v=some x→R T H v a→q x a)(h:VU d v=some x)(hr:R T H v a):Uv q x a:=by
 unfold VU at h
 split at h
 ·grind[R]
 ·simp at h
theorem uL{l:Value}(h:a=.lit l):R T H (.lit l) a:=by simp only[R]; exact h
theorem uG{e:Nat}{x:List (T.den e)}(h:NN (T.rp e) x a):R T H (.jt e x) a:=by simp only[R]; exact h
theorem uP{α:Type}{q:α→AV→Prop}{u:α→SV T.den}{x:α}(hu:∀ b,q x b→R T H (u x) b)(hc:aD (u x)=true)(h:Uv q x a):R T H (.bh (u x) 0) a:=by
 grind[R]
theorem eI{k:IntKind}{x:Int}(h:a=.lit (.int k x)):aG false 1 a=true∧closed a=true∧ba a=true:=by subst h; exact⟨rfl,rfl,rfl⟩
theorem eB{x:Bool}(h:a=.lit (.bool x)):aG false 1 a=true∧closed a=true∧ba a=true:=by subst h; exact⟨rfl,rfl,rfl⟩
theorem eS{x:ByteArray}(h:a=.lit (.string x)):aG false 1 a=true∧closed a=true∧ba a=true:=by subst h; exact⟨rfl,rfl,rfl⟩
theorem eG{α:Type}{q:α→AV→Prop}{x:List α}(h:NN q x a):aG false 1 a=true∧closed a=true∧ba a=true:=by
 rcases h with ⟨l,rfl,_⟩|⟨_,rfl⟩<;>exact⟨rfl,rfl,rfl⟩
theorem eP{α:Type}{q:α→AV→Prop}{x:α}(h:Uv q x a):aG false 1 a=true∧closed a=true∧ba a=true:=by
 obtain⟨b,rfl,_⟩:=h
 exact⟨rfl,rfl,rfl⟩
theorem yN{p q r:Prop}(h:p∧q∧r):p∧q:=⟨h.1,h.2.1⟩
theorem zz{α β:Type}{P:α→β→Prop}{x z:α}{y za:β}(h1:some x=some z)(h2:some y=some za)(h:P x y):P z za:=by
 simp_all
theorem zn{α:Type}{z:α}{p:Prop}(h:(none:Option α)=some z):p:=by cases h
end
end Go.PI
end
section
/- PS, part U: what is lacking of laws to compute by: appends and literal slices. -/
namespace Go.PI
variable {C:Ctx}{P:Program}{dst:Option Tmp}{type:TypeId}{pos:String}{after:Array Edge}{guard:Option (Nat×Bool)}{s:St}{hp:ag}{nm:Nat}{ev:Operand→AV}
theorem DU[ab]{d:Tmp}(h:C.acc s.fn d=false):ik C ⟨some d,.assign (.const (.slice none 0 0)),type,pos,after,guard⟩ s=some (.norm { s with fr:=s.fr.set d (.lit cK) }):=by
 refine bU (jz C _ _) (by simp[fJ]) fun k=>?_
 simp only[fJ,h]
 rfl
theorem LM{x y:Operand}{t u:TypeId}:(aK P nm ev ⟨dst,.call ⟨.builtin .append,#[x,y],#[t,u]⟩,type,pos,after,guard⟩).run hp=(fH P nm t u (ev x) (ev y)).run hp:=rfl
def LN(d:Option dm):AV→Option dm
 |.lit (.slice none 0 0)=>some ⟨int 0,[]⟩
 |_=>d
theorem LO{d:Option dm}:LN d (.lit (.slice none 0 0))=some ⟨int 0,[]⟩:=rfl
theorem Oh{t:TypeId}{x:Operand}(h:bX P t=true):(aK P nm ev ⟨dst,.call ⟨.builtin .cap,#[x],#[t]⟩,type,pos,after,guard⟩).run hp =
  LN (JU P nm ev ⟨dst,.call ⟨.builtin .cap,#[x],#[t]⟩,type,pos,after,guard⟩ hp) (ev x):=by
 unfold LN
 split
 ·rename_i hx; simp[aK,dh,hx,h]; rfl
 ·rfl
theorem Oi{t:TypeId}{x:Operand}(h:bX P t=true):(aK P nm ev ⟨dst,.call ⟨.builtin .len,#[x],#[t]⟩,type,pos,after,guard⟩).run hp =
  LN (JU P nm ev ⟨dst,.call ⟨.builtin .len,#[x],#[t]⟩,type,pos,after,guard⟩ hp) (ev x):=by
 unfold LN
 split
 ·rename_i hx; simp[aK,dh,hx,h,nO]; rfl
 ·rfl
theorem Oj[ab]{t:TypeId}{x:Operand}{lo hi mx:Option Operand}:(aK P nm ev ⟨dst,.slice t x lo hi mx,type,pos,after,guard⟩).run hp=(mZ P t (ev x) (lo.map ev) (hi.map ev) (mx.map ev)).map fun x=>⟨x,[]⟩:=A0 _ _
theorem Ol{t:TypeId}{r:bJ}(yY:aP P t=some r):mZ P t (.lit cK) none (some (int 0)) none=some (.lit cK):=by
 simp[mZ,yY,br,asNat]
theorem Om{t:TypeId}{r:bJ}(yY:aP P t=some r){n aq len:Nat}(hv:0<aq):mZ P t (.bq r.size n aq 0 len none) none (some (int 0)) none=some (.bq r.size n aq 0 0 none):=by
 simp[mZ,yY,br,asNat,hv]
theorem LP[ab]{t u:TypeId}{r:bJ}{k:IntKind}{z:AV}{n:Nat}(yY:aP P t=some r)(gM:bX P u=false)(hu:P.underlying u=some (.int k))(hz:cj r=some z)(hr:0<r.size)
  (ho:aG r.isAgg r.size z=true) (hn:0<n) (h1:n*r.bytes≤2^44) (h2:n≤2^44) :
  (fH P nm t u (.lit cK) (int n)).run hp=some ⟨.bq r.size nm n 0 n none,[(nm,.arr true true false (List.replicate n z))]⟩:=by
 have dN:(List.replicate n z).isEmpty=false:=by cases n with
  |zero=>omega
  |succ n=>rfl
 have bc:(List.replicate n z).all (aG r.isAgg r.size)=true:=by simp[ho]
 simp only[fH,yY,wq,gM,hu,hz,rQ,RM.run_bind,h1,h2,and_self,if_true,RM.run_pure,Option.bind_some,Option.isSome_some,hr,bc,decide_true,Bool.and_self,dN,List.length_replicate]
theorem FM[ab]{k n:Nat}{xs:List AV}{esz:Nat}{cap:Option Nat}{g f:Bool}(h:(RM.arr n xs.length).run hp=some (g,true,f,xs)):(aX (k+1) (.bq esz n xs.length 0 xs.length cap)).run hp=some (.sl xs):=by
 simp[aX,RM.run_bind,h,RM.run_pure]
def wk:AV→AV
 |.lit (.slice none 0 0)=>.sl []
 |x=>x
theorem AA{E:Env}{o:Bool}{x:AV}{v:Value}(h:aj E o x v):aj E o (wk x) v:=by
 unfold wk
 split
 ·grind[aj]
 ·exact h
theorem yK[ab]{E:Env}{c:Array Value}{esz:Nat}:∀ {xs:List AV} {pos:Nat},dT E xs c pos esz→dT E (xs.map wk) c pos esz
 |[],_,_=>by simp[dT]
 |x::xs,pos,h=>by
  simp only[dT,List.map_cons]at h ⊢
  obtain⟨⟨v,h1,h2⟩,h3⟩:=h
  exact⟨⟨v,AA h1,h2⟩,yK h3⟩
theorem Iv[ab]{E:Env}{o:Bool}{xs:List AV}{v:Value}(h:aj E o (.sl xs) v):aj E o (.sl (xs.map wk)) v:=by
 simp only[aj,List.length_map]at h ⊢
 obtain⟨a,cap,h1,h2,h3,h4⟩:=h
 refine⟨a,cap,h1,h2,h3,?_⟩
 rcases h4 with h4|⟨b,of,esz,c,h5,h6,h7⟩
 ·left; rw[h4]; rfl
 ·exact .inr ⟨b,of,esz,c,h5,h6,yK h7⟩
def wm:List AV→Option (List (List AV))
 |[]=>some []
 |.sl l::xs=>(wm xs).map fun r=>l::r
 |_::_=>none
theorem DV:∀ {xs:List AV} {ls:List (List AV)},wm xs=some ls→xs=ls.map .sl
 |[],ls,h=>by simp[wm]at h; subst h; rfl
 |x::xs,ls,h=>by
  unfold wm at h
  split at h
  ·rename_i hh; simp at hh
  ·rename_i l xs' hh
   simp only[List.cons.injEq]at hh
   obtain⟨rfl,rfl⟩:=hh
   simp only[Option.map_eq_some_iff]at h
   obtain⟨r,h1,rfl⟩:=h
   rw[DV h1]; rfl
  ·simp at h
def XB(r:bJ):List AV→Option AV
 |[.sl xs]=>if xs.all (aG r.isAgg r.size)=true∧xs.length*r.bytes≤2^44∧xs.length≤2^44 then some (.sl xs) else none
 |[.lit (.slice none 0 0)]=>some (.sl [])
 |_=>none
def mC(r:bJ):List AV→Option AV
 |[.sl es]=>(match wm (es.map wk) with
  |some ls=>if ls.length≤2^44∧ls.flatten.all (aG r.isAgg r.size)=true∧ls.flatten.length*r.bytes≤2^44∧ls.flatten.length≤2^44 then some (.sl ls.flatten) else none
  |none=>none)
 |[.lit (.slice none 0 0)]=>some (.sl [])
 |_=>none
theorem DW[ab]{C0:Ctx}(bM:C0.Ok){g:FuncId}{xs:List AV}{r:AV}
  (h0:∃ res ib,kx C0 g [.sl xs] []=some (.val res,ib)∧(aX 1000 res).run ib=some r)
  (Ec:Env) (w:World) (vs:List Value) (hI:Inv Ec [] w) (ha:an Ec false [.sl xs] vs):Calls C0.P g vs.toArray w (bR Ec w [] (.val r)):=by
 obtain⟨res,ib,he,h⟩:=h0
 have out:(gn [.sl xs] ib (.val res)).run []=some (.val r,[]):=by
  simp only[gn,h]
  split
  ·rfl
  ·simp[ck,names,dM,RM.run_bind,RM.run_pure]
 have ha2:an Ec true [.sl xs] vs:=by
  match vs,ha with
  |[],ha=>simp[an]at ha
  |_::_::_,ha=>simp[an]at ha
  |[v],ha=>
   simp only[an]at ha ⊢
   exact⟨aj.iz ha.1,trivial⟩
 obtain⟨k,hk⟩:=(bj (ml C0 g [.sl xs] [])).1 he
 have nv:(aO 1000 [.sl xs]).run []=some [.sl xs]:=rfl
 refine uA hI ha2 nv out fun Ec' il Ot=>?_
 refine(sound bM k).1 g [.sl xs] [] _ _ hk Ec' w vs il ?_
 match vs,Ot with
 |[],ha=>simp[an]at ha
 |_::_::_,ha=>simp[an]at ha
 |[v],ha=>
  simp only[an]at ha ⊢
  exact⟨aj.iz ha.1,trivial⟩
theorem Ik[ab]{C0:Ctx}(bM:C0.Ok){g:FuncId}{r:bJ}
  (h1:∀ ls:List (List AV),ls.length≤2^44→(∀ l∈ls,l.all (aG r.isAgg r.size)=true)→ls.flatten.length*r.bytes≤2^44→ls.flatten.length≤2^44 →
    ∃ res ib,kx C0 g [.sl (ls.map .sl)] []=some (.val res,ib)∧(aX 1000 res).run ib=some (.sl ls.flatten))
  {as:List AV} {a:AV} (h:mC r as=some a) (Ec:Env) (w:World) (vs:List Value) (hI:Inv Ec [] w) (ha:an Ec false as vs):Calls C0.P g vs.toArray w (bR Ec w [] (.val a)):=by
 unfold mC at h
 split at h
 ·rename_i es
  split at h
  case h_2=>simp at h
  rename_i ls hls
  split at h
  case isFalse=>simp at h
  rename_i hc
  simp only[Option.some.injEq]at h
  subst h
  have he:=DV hls
  refine DW bM (xs:=ls.map .sl) (h1 ls hc.1 (fun l hl=>?_) hc.2.2.1 hc.2.2.2) Ec w vs hI ?_
  ·have:=hc.2.1
   rw[List.all_eq_true]at this ⊢
   exact fun x hx=>this x (List.mem_flatten.2 ⟨l,hl,hx⟩)
  ·rw[←he]
   match vs,ha with
   |[],ha=>simp[an]at ha
   |_::_::_,ha=>simp[an]at ha
   |[v],ha=>
    simp only[an]at ha ⊢
    exact⟨Iv ha.1,trivial⟩
 ·simp only[Option.some.injEq]at h
  subst h
  refine DW bM (xs:=[]) (h1 [] (by simp) (by simp) (by simp) (by simp)) Ec w vs hI ?_
  match vs,ha with
  |[],ha=>simp[an]at ha
  |_::_::_,ha=>simp[an]at ha
  |[v],ha=>
   simp only[an]at ha ⊢
   exact⟨AA ha.1,trivial⟩
 ·simp at h
end Go.PI
end
section
/- PS, part V: copies of lists and lists laid together, as models. -/
namespace Go.PI
def Kw(b n:Nat):Bool:=decide (n*b≤2^44)&&decide (n≤2^44)
def tC{α:Type}(b:Nat)(x:List (List α)):Option (List α):=bif decide (x.length≤2^44)&&Kw b x.flatten.length then some x.flatten else none
def XC{α:Type}(rpe:α→AV→Prop)(x:List α)(a:AV):Prop:=(∃ l,a=.sl l∧aw rpe x l)∨(x=[]∧a=.lit cK)
theorem yL[ab]{α:Type}{rpe:α→AV→Prop}:∀ {x:List (List α)} {es:List AV},aw (XC rpe) x es→∃ ls,wm (es.map wk)=some ls∧aw (aw rpe) x ls
 |[],es,h=>by
  have:=h.C5
  subst this
  exact⟨[],rfl,trivial⟩
 |x::xs,[],h=>by simp[aw]at h
 |x::xs,e::es,h=>by
  simp only[aw]at h
  obtain⟨h1,h2⟩:=h
  obtain⟨ls,h3,h4⟩:=yL h2
  rcases h1 with ⟨l,rfl,h⟩|⟨rfl,rfl⟩
  ·refine⟨l::ls,?_,h,h4⟩
   simp only[List.map_cons,wk,wm,h3,Option.map_some]
  ·refine⟨[]::ls,?_,trivial,h4⟩
   simp only[List.map_cons,wk,wm,h3,Option.map_some]
theorem tX[ab]{α:Type}{rpe:α→AV→Prop}:∀ {x:List (List α)} {ls:List (List AV)},aw (aw rpe) x ls→aw rpe x.flatten ls.flatten
 |[],ls,h=>by
  have:=h.C5
  subst this
  exact trivial
 |x::xs,[],h=>by simp[aw]at h
 |x::xs,e::es,h=>by
  simp only[aw]at h
  simp only[List.flatten_cons]
  exact h.1.append (tX h.2)
theorem FH[ab]{α:Type}{rpe:α→AV→Prop}{r:bJ}(bM:∀ x a,rpe x a→aG r.isAgg r.size a=true){x:List (List α)}{y:List α}{a:AV}(ha:XC (XC rpe) x a)(hy:tC r.bytes x=some y):
  ∃ l,mC r [a]=some (.sl l)∧aw rpe y l:=by
 unfold tC Kw at hy
 cases hq:decide (x.length≤2^44)&&(decide (x.flatten.length*r.bytes≤2^44)&&decide (x.flatten.length≤2^44))
 ·rw[hq]at hy; simp at hy
 rw[hq]at hy
 simp only[cond_true,Option.some.injEq]at hy
 subst hy
 simp only[Bool.and_eq_true,decide_eq_true_eq]at hq
 rcases ha with ⟨es,rfl,h⟩|⟨rfl,rfl⟩
 ·obtain⟨ls,h1,h2⟩:=yL h
  have h3:=tX h2
  rw[h3.length,h2.length]at hq
  refine⟨ls.flatten,?_,h3⟩
  unfold mC
  simp only
  rw[h1]
  simp only
  have bc:ls.flatten.all (aG r.isAgg r.size)=true:=by
   refine List.all_eq_true.2 fun z hz=>?_
   obtain⟨i,hi⟩:=List.getElem?_of_mem hz
   obtain⟨u,_,hu⟩:=h3.get' hi
   exact bM _ _ hu
  rw[if_pos ⟨hq.1,bc,hq.2.1,hq.2.2⟩]
 ·exact⟨[],rfl,trivial⟩
theorem FG[ab]{C:Ctx}{T:dw}{g:FuncId}{t u:Nat}{I:List AV→Option AV}{F:T.den t→Option (T.den u)}(hk:C.kind g=.pure)(hi:C.ku g=some I)
  (h:∀ x a y,T.rp t x a→F x=some y→∃ l,I [a]=some (.sl l)∧T.rp u y (.sl l)):p7 C T g ⟨[t],[u],F⟩ where
 kind:=hk
 Rp:=by
  intro x as y hx hy
  match as,hx with
  |[],hx=>exact False.elim hx
  |_::_::_,hx=>exact False.elim hx.2
  |[a],hx=>
   obtain⟨l,h1,h2⟩:=h x a y hx.1 hy
   refine⟨.sl l,[],[.sl l],?_,rfl,rfl,?_⟩
   ·simp only[Lf,hi,h1]; rfl
   ·exact⟨h2,trivial⟩
end Go.PI
end
section
/- PS, part W: a copy of a slice is the caller's own. -/
namespace Go.PI
end Go.PI
end
section
/- Plain laws: loops of models. -/
namespace Go.Pl
open Go.PI
theorem next[ab]{τ ω:Type}{f:τ→Option (τ ⊕ ω)}{x y:τ}(h:f x=some (.inl y)):aM f x=aM f y:=by
 rw[CM,h]; rfl
theorem out[ab]{τ ω:Type}{f:τ→Option (τ ⊕ ω)}{x:τ}{w:ω}(h:f x=some (.inr w)):aM f x=some w:=by
 rw[CM,h]; rfl
theorem xQ(p:Nat→Bool)(n i:Nat)(hi:i<n):(List.range' i (n-i)).all p=(p i&&(List.range' (i+1) (n-(i+1))).all p):=by
 grind
theorem tz[ab]{τ ω:Type}{f:τ→Option (τ ⊕ ω)}(st:Nat→τ)(p:Nat→Bool)(bad:Nat→ω)(n:Nat)(e:ω)
  (h:∀ i,i<n→f (st i)=some (bif p i then .inl (st (i+1)) else .inr (bad i))) (he:f (st n)=some (.inr e)) :
  (List.range n).all p=true∧aM f (st 0)=some e∨(List.range n).all p=false∧∃ i,i<n∧p i=false∧aM f (st 0)=some (bad i):=by
 have key:∀ m i,m=n-i→i≤n→(List.range' i (n-i)).all p=true∧aM f (st i)=some e∨(List.range' i (n-i)).all p=false∧∃ j,j<n∧p j=false∧aM f (st i)=some (bad j):=by
  intro m
  induction m with
  |zero=>
   intro i hm hi
   have:i=n:=by omega
   subst this
   left
   rw[Nat.sub_self]
   exact⟨rfl,out he⟩
  |succ m ih=>
   intro i hm hi
   have bQ:i<n:=by omega
   have hs:=h i bQ
   rw[xQ p n i bQ]
   cases hp:p i with
   |false=>
    rw[hp]at hs
    right
    exact⟨by simp,i,bQ,hp,out hs⟩
   |true=>
    rw[hp]at hs
    rw[next hs]
    simpa using ih (i+1) (by omega) (by omega)
 have:=key n 0 rfl (Nat.zero_le _)
 rwa [Nat.sub_zero,←List.range_eq_range']at this
theorem z5{α:Type}{l:List α}{q:α→Bool}{p:Nat→Bool}(h:∀ i (hi:i<l.length),p i=q l[i]):(List.range l.length).all p=l.all q:=by
 rw[Bool.eq_iff_iff,List.all_eq_true,List.all_eq_true]
 constructor
 ·intro hp x hx
  obtain⟨i,hi,rfl⟩:=List.getElem_of_mem hx
  rw[←h i hi]; exact hp i (List.mem_range.2 hi)
 ·simp_all
theorem uK[ab]{α τ ω:Type}{f:τ→Option (τ ⊕ ω)}(l:List α)(st:Nat→τ)(q:α→Bool)(bad e:ω){x0:τ}
  (h:∀ i (hi:i<l.length),f (st i)=some (bif q l[i] then .inl (st (i+1)) else .inr bad)) (he:f (st l.length)=some (.inr e)) (hx:x0=st 0) :
  aM f x0=some (bif l.all q then e else bad):=by
 subst hx
 have hp:∀ i (hi:i<l.length),(fun i=>(l[i]?.map q).getD false) i=q l[i]:=by
  simp_all
 rcases tz st (fun i=>(l[i]?.map q).getD false) (fun _=>bad) l.length e (fun i hi=>by have:=hp i hi; simp only at this; rw[this]; exact h i hi) he with ⟨h1,h2⟩|⟨h1,i,_,_,h2⟩
 ·rw[z5 hp]at h1; rw[h2,h1]; rfl
 ·rw[z5 hp]at h1; rw[h2,h1]; rfl
end Go.Pl
end
section
/- The types of this seat, as Lean's (printed by gen_tys.py out of the dump). -/
namespace Go.Proofs.Ytedjbjphpnkpoaa
open Go.PI
instance:ab:=⟨fun _=>none,fun _=>false⟩
structure dU where
 A:Bool
 N:Int
structure bD where
 aC:List Int
 ae:List (List Int)
 aH:List Int
structure ai where
 c7:Int
 Den:Int
structure cb where
 Net:bD
 CQ:List Bool
 CR:List ai
def den:Nat→Type
 |2=>Int
 |3=>Int
 |4=>Bool
 |5=>Int
 |9=>ByteArray
 |22=>List Int
 |23=>List (List Int)
 |24=>bD
 |25=>bD
 |26=>List ai
 |29=>Int
 |34=>ai
 |35=>ai
 |36=>List Int
 |53=>List Bool
 |54=>cb
 |55=>cb
 |56=>List dU
 |57=>Int
 |58=>Int
 |73=>Int
 |78=>Int
 |81=>dU
 |82=>dU
 |86=>ai
 |87=>ai
 |96=>Int
 |104=>Int
 |106=>Int
 |115=>Int
 |52=>cb
 |_=>Unit
abbrev V:=SV den
def up2(x:Int):V:=.lit (.int .i64 x)
def dn2(v:V):Option Int:=dI .i64 v
def rp2(x:Int)(a:AV):Prop:=a=.lit (.int .i64 x)
def To(x:Int):V:=.lit (.int .i64 x)
def Mz(v:V):Option Int:=dI .i64 v
def IQ(x:Int)(a:AV):Prop:=a=.lit (.int .i64 x)
def up4(x:Bool):V:=.lit (.bool x)
def YN(v:V):Option Bool:=dB v
def YO(x:Bool)(a:AV):Prop:=a=.lit (.bool x)
def up5(x:Int):V:=.lit (.int .u8 x)
def dn5(v:V):Option Int:=dI .u8 v
def rp5(x:Int)(a:AV):Prop:=a=.lit (.int .u8 x)
def up9(x:ByteArray):V:=.lit (.string x)
def dn9(v:V):Option ByteArray:=dS v
def rp9(x:ByteArray)(a:AV):Prop:=a=.lit (.string x)
def WY(x:List Int):V:=.jt 3 x
def Ir(v:V):Option (List Int):=OU (den:=den) 3 Mz v
def DS(x:List Int)(a:AV):Prop:=NN IQ x a
def WZ(x:List (List Int)):V:=.jt 22 x
def QP(v:V):Option (List (List Int)):=OU (den:=den) 22 Ir v
def N9(x:List (List Int))(a:AV):Prop:=NN DS x a
def Oa(x:bD):V:=.agg [.jt 3 x.aC,.jt 22 x.ae,.jt 3 x.aH]
def Ob:V→Option bD
 |.agg [a0,a1,a2]=>(Ir a0).bind fun b0=>(QP a1).bind fun b1=>(Ir a2).bind fun b2=>some ⟨b0,b1,b2⟩
 |_=>none
def It(x:bD)(a:AV):Prop:=∃ a0 a1 a2,DS x.aC a0∧N9 x.ae a1∧DS x.aH a2∧a=.agg [a0,a1,a2]
def Oc(x:ai):V:=.agg [.lit (.int .i64 x.c7),.lit (.int .i64 x.Den)]
def LH:V→Option ai
 |.agg [a0,a1]=>(Mz a0).bind fun b0=>(Mz a1).bind fun b1=>some ⟨b0,b1⟩
 |_=>none
def zk(x:ai)(a:AV):Prop:=a=.agg [.lit (.int .i64 x.c7),.lit (.int .i64 x.Den)]
def W0(x:List ai):V:=.jt 35 x
def Tp(v:V):Option (List ai):=OU (den:=den) 35 LH v
def QQ(x:List ai)(a:AV):Prop:=NN zk x a
def W1(x:Int):V:=.lit (.int .u16 x)
def Tq(v:V):Option Int:=dI .u16 v
def Ts(x:Int)(a:AV):Prop:=a=.lit (.int .u16 x)
def W2(x:List Int):V:=.jt 73 x
def W3(v:V):Option (List Int):=OU (den:=den) 73 Tq v
def W4(x:List Int)(a:AV):Prop:=NN Ts x a
def W5(x:List Bool):V:=.jt 4 x
def Tt(v:V):Option (List Bool):=OU (den:=den) 4 YN v
def Tu(x:List Bool)(a:AV):Prop:=NN YO x a
def LI(x:cb):V:=.agg [.jt 3 x.Net.aC,.jt 22 x.Net.ae,.jt 3 x.Net.aH,.jt 4 x.CQ,.jt 35 x.CR]
def LJ:V→Option cb
 |.agg [a0,a1,a2,a3,a4]=>(Ir a0).bind fun b0=>(QP a1).bind fun b1=>(Ir a2).bind fun b2=>(Tt a3).bind fun b3=>(Tp a4).bind fun b4=>some ⟨⟨b0,b1,b2⟩,b3,b4⟩
 |_=>none
def Iu(x:cb)(a:AV):Prop:=∃ a0 a1 a2 a3 a4,DS x.Net.aC a0∧N9 x.Net.ae a1∧DS x.Net.aH a2∧Tu x.CQ a3∧QQ x.CR a4∧a=.agg [a0,a1,a2,a3,a4]
def Od(x:dU):V:=bif x.A then .gi 57 (.lit (.int .i64 x.N)) else .gi 58 (.lit (.int .i64 x.N))
def LK(v:V):Option dU:=match v with
 |.gi t w=>(dI .i64 w).bind fun n=>bif Nat.beq t 57 then some ⟨true,n⟩ else bif Nat.beq t 58 then some ⟨false,n⟩ else none
 |_=>none
def DT(x:dU)(a:AV):Prop:=a=.gi (bif x.A then 57 else 58) (.lit (.int .i64 x.N))
def W6(x:List dU):V:=.jt 82 x
def W7(v:V):Option (List dU):=OU (den:=den) 82 LK v
def W8(x:List dU)(a:AV):Prop:=NN DT x a
def W9(x:Int):V:=.lit (.int .u64 x)
def Xa(v:V):Option Int:=dI .u64 v
def Xb(x:Int)(a:AV):Prop:=a=.lit (.int .u64 x)
def Oe(x:ai):V:=.agg [.lit (.int .i64 x.c7),.lit (.int .i64 x.Den)]
def Of:V→Option ai
 |.agg [a0,a1]=>(Mz a0).bind fun b0=>(Mz a1).bind fun b1=>some ⟨b0,b1⟩
 |_=>none
def FL(x:ai)(a:AV):Prop:=a=.agg [.lit (.int .i64 x.c7),.lit (.int .i64 x.Den)]
def Tv(x:Int):V:=.lit (.int .u32 x)
def Tx(v:V):Option Int:=dI .u32 v
def Ty(x:Int)(a:AV):Prop:=a=.lit (.int .u32 x)
def Pa(x:Int):V:=.lit (.int .u64 x)
def Pb(v:V):Option Int:=dI .u64 v
def Pc(x:Int)(a:AV):Prop:=a=.lit (.int .u64 x)
def Xc(x:cb):V:=.bh (LI x) 0
def Xd(v:V):Option cb:=VU LJ v
def Xe(x:cb)(a:AV):Prop:=Uv Iu x a
def up:(t:Nat)→den t→V
 |2,x=>up2 x
 |3,x=>To x
 |4,x=>up4 x
 |5,x=>up5 x
 |9,x=>up9 x
 |22,x=>WY x
 |23,x=>WZ x
 |24,x=>Oa x
 |25,x=>Oa x
 |26,x=>W0 x
 |29,x=>To x
 |34,x=>Oc x
 |35,x=>Oc x
 |36,x=>W2 x
 |53,x=>W5 x
 |54,x=>LI x
 |55,x=>LI x
 |56,x=>W6 x
 |57,x=>To x
 |58,x=>To x
 |73,x=>W1 x
 |78,x=>W9 x
 |81,x=>Od x
 |82,x=>Od x
 |86,x=>Oe x
 |87,x=>Oe x
 |96,x=>To x
 |104,x=>Tv x
 |106,x=>Pa x
 |115,x=>Pa x
 |52,x=>Xc x
 |_,_=>.dead
def dn:(t:Nat)→V→Option (den t)
 |2,v=>dn2 v
 |3,v=>Mz v
 |4,v=>YN v
 |5,v=>dn5 v
 |9,v=>dn9 v
 |22,v=>Ir v
 |23,v=>QP v
 |24,v=>Ob v
 |25,v=>Ob v
 |26,v=>Tp v
 |29,v=>Mz v
 |34,v=>LH v
 |35,v=>LH v
 |36,v=>W3 v
 |53,v=>Tt v
 |54,v=>LJ v
 |55,v=>LJ v
 |56,v=>W7 v
 |57,v=>Mz v
 |58,v=>Mz v
 |73,v=>Tq v
 |78,v=>Xa v
 |81,v=>LK v
 |82,v=>LK v
 |86,v=>Of v
 |87,v=>Of v
 |96,v=>Mz v
 |104,v=>Tx v
 |106,v=>Pb v
 |115,v=>Pb v
 |52,v=>Xd v
 |_,_=>none
def rp:(t:Nat)→den t→AV→Prop
 |2,x,a=>rp2 x a
 |3,x,a=>IQ x a
 |4,x,a=>YO x a
 |5,x,a=>rp5 x a
 |9,x,a=>rp9 x a
 |22,x,a=>DS x a
 |23,x,a=>N9 x a
 |24,x,a=>It x a
 |25,x,a=>It x a
 |26,x,a=>QQ x a
 |29,x,a=>IQ x a
 |34,x,a=>zk x a
 |35,x,a=>zk x a
 |36,x,a=>W4 x a
 |53,x,a=>Tu x a
 |54,x,a=>Iu x a
 |55,x,a=>Iu x a
 |56,x,a=>W8 x a
 |57,x,a=>IQ x a
 |58,x,a=>IQ x a
 |73,x,a=>Ts x a
 |78,x,a=>Xb x a
 |81,x,a=>DT x a
 |82,x,a=>DT x a
 |86,x,a=>FL x a
 |87,x,a=>FL x a
 |96,x,a=>IQ x a
 |104,x,a=>Ty x a
 |106,x,a=>Pc x a
 |115,x,a=>Pc x a
 |52,x,a=>Xe x a
 |_,_,_=>False
def Tz:Nat→Bool
 |24=>true
 |25=>true
 |34=>true
 |35=>true
 |54=>true
 |55=>true
 |86=>true
 |87=>true
 |_=>false
def Pd:Nat→Nat
 |24=>3
 |25=>3
 |34=>2
 |35=>2
 |54=>5
 |55=>5
 |86=>2
 |87=>2
 |_=>1
def Pe:(t:Nat)→Option (den t)
 |2=>some (0:Int)
 |3=>some (0:Int)
 |4=>some (false:Bool)
 |5=>some (0:Int)
 |9=>some (ByteArray.empty:ByteArray)
 |22=>some ([]:List Int)
 |23=>some ([]:List (List Int))
 |24=>some (⟨[],[],[]⟩:bD)
 |25=>some (⟨[],[],[]⟩:bD)
 |26=>some ([]:List ai)
 |29=>some (0:Int)
 |34=>some (⟨0,0⟩:ai)
 |35=>some (⟨0,0⟩:ai)
 |36=>some ([]:List Int)
 |53=>some ([]:List Bool)
 |54=>some (⟨⟨[],[],[]⟩,[],[]⟩:cb)
 |55=>some (⟨⟨[],[],[]⟩,[],[]⟩:cb)
 |56=>some ([]:List dU)
 |57=>some (0:Int)
 |58=>some (0:Int)
 |73=>some (0:Int)
 |78=>some (0:Int)
 |86=>some (⟨0,0⟩:ai)
 |87=>some (⟨0,0⟩:ai)
 |96=>some (0:Int)
 |104=>some (0:Int)
 |106=>some (0:Int)
 |115=>some (0:Int)
 |_=>none
def m5:jY:=⟨false,1,1,some (.lit (.int .u8 0)),.other,none,none⟩
def m7:jY:=⟨true,4,24,some (.agg [zI,zI,zB,.lit (.int .u8 0)]),.struct [(0,2),(1,3),(2,4),(3,6)],none,none⟩
def UM:jY:=⟨false,1,8,some (.lit (.int .u64 0)),.other,none,none⟩
def YP:jY:=⟨true,2,24,some (.agg [zS,.lit (.int .u64 0)]),.struct [(0,9),(1,12)],none,none⟩
def YQ:jY:=⟨true,1,8,some (.agg [.lit (.pointer none)]),.struct [(0,17)],none,none⟩
def Xf:jY:=⟨false,1,16,some (.lit .nilIface),.iface,none,none⟩
def Xg:jY:=⟨false,1,4,some (.lit (.int .i32 0)),.other,none,none⟩
def YR:jY:=⟨true,3,72,some (.agg [zL,zL,zL]),.struct [(0,22),(1,23),(2,22)],none,none⟩
def YS:jY:=⟨true,2,16,some (.agg [zI,zI]),.struct [(0,3),(1,3)],some [kI,kI],none⟩
def YT:jY:=⟨true,5,120,some (.agg [zL,zL,zL,zL,zL]),.struct [(0,25),(3,53),(4,26)],none,none⟩
def YU:jY:=⟨true,2,16,some (.agg [zI,zI]),.struct [(0,35)],some [kI,kI],none⟩
def TA:jY:=⟨true,4,40,some (.agg [.lit (.pointer none),.lit (.pointer none),.lit (.pointer none),zS]),.struct [(0,17),(1,17),(2,17),(3,9)],none,none⟩
def TB:jY:=⟨true,11,48,some (.agg [.lit (.int .u64 0),.lit (.int .u64 0),.lit (.int .u32 0),.lit (.int .u8 0),.lit (.int .u8 0),.lit (.int .u8 0),.lit (.int .u8 0),zF,.lit (.pointer none),.lit (.int .i32 0),.lit (.int .i32 0)]),.struct [(0,12),(1,12),(2,104),(3,135),(4,5),(5,5),(6,136),(7,137),(8,138),(9,139),(10,140)],none,none⟩
def Br:List (Nat×jY):=[
 (1,mF),
 (2,mI),
 (3,mI),
 (4,⟨false,1,1,some zB,.other,none,none⟩),
 (5,m5),
 (6,m5),
 (7,m7),
 (8,m7),
 (9,mS),
 (10,mS),
 (11,mS),
 (12,UM),
 (13,YP),
 (14,YP),
 (15,mP),
 (16,mP),
 (17,mP),
 (18,YQ),
 (19,YQ),
 (20,Xf),
 (21,Xg),
 (22,mL 3),
 (23,mL 22),
 (24,YR),
 (25,YR),
 (26,mL 35),
 (27,mF),
 (28,mF),
 (29,mI),
 (31,mF),
 (32,mF),
 (33,mF),
 (34,YS),
 (35,YS),
 (36,mL 73),
 (37,mF),
 (38,mF),
 (40,mF),
 (41,mF),
 (42,mF),
 (44,mF),
 (45,mF),
 (46,mF),
 (47,mF),
 (48,mF),
 (49,mF),
 (50,mF),
 (51,mF),
 (52,mP),
 (53,mL 4),
 (54,YT),
 (55,YT),
 (56,mL 82),
 (57,mI),
 (58,mI),
 (59,mF),
 (60,mF),
 (62,mF),
 (63,mF),
 (64,mF),
 (65,mF),
 (66,mF),
 (67,mF),
 (68,mF),
 (69,mF),
 (70,mF),
 (71,mF),
 (72,mF),
 (73,⟨false,1,2,some (.lit (.int .u16 0)),.other,none,none⟩),
 (75,mF),
 (76,mF),
 (77,mF),
 (78,UM),
 (79,mF),
 (80,mF),
 (81,Xf),
 (82,Xf),
 (83,mF),
 (84,mF),
 (85,mF),
 (86,YU),
 (87,YU),
 (88,mF),
 (89,mF),
 (90,mF),
 (91,mF),
 (92,mF),
 (93,mF),
 (94,mF),
 (95,mF),
 (96,mI),
 (98,mF),
 (99,mF),
 (100,mF),
 (102,mF),
 (103,mF),
 (104,⟨false,1,4,some (.lit (.int .u32 0)),.other,none,none⟩),
 (105,mF),
 (106,UM),
 (107,mF),
 (108,mF),
 (109,mF),
 (110,mF),
 (111,mF),
 (112,mF),
 (113,mF),
 (114,mF),
 (115,UM),
 (116,mF),
 (117,mF),
 (118,mF),
 (119,mP),
 (120,mF),
 (121,mF),
 (122,mF),
 (124,mF),
 (125,mP),
 (126,mF),
 (127,mF),
 (128,mF),
 (129,TA),
 (130,TA),
 (134,mF),
 (135,m5),
 (136,m5),
 (137,mF),
 (138,mP),
 (139,Xg),
 (140,Xg),
 (141,TB),
 (142,TB)]
def QR:(t:Nat)→Option ((den t→Bool)×(den t→V)×(den t→V))
 |81=>some (fun (x:dU)=>x.A,fun (x:dU)=>.gi 57 (.lit (.int .i64 x.N)),fun (x:dU)=>.gi 58 (.lit (.int .i64 x.N)))
 |82=>some (fun (x:dU)=>x.A,fun (x:dU)=>.gi 57 (.lit (.int .i64 x.N)),fun (x:dU)=>.gi 58 (.lit (.int .i64 x.N)))
 |_=>none
abbrev T:dw:=⟨den,up,dn,rp,Tz,Pd,Pe,QR⟩
end Go.Proofs.Ytedjbjphpnkpoaa
end
