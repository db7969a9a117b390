/- Part 4 of the proof: texts of this session laid one behind the other. -/
import Derived.KernelRfl
import Derived.IntWalk
import Derived.Test.YtpodhambaehlkaaGreatDoorX3
set_option linter.unusedVariables false
set_option linter.unusedSimpArgs false
section
/- PS, part O: a state goes over into one with variables. -/
namespace Go.PI
variable {T:eh}{ρ:Type}
section
variable {H0 Hs Hf:aq T.den}
mutual
theorem R.fi(ht:∀ n c v0 ax,gH H0 n c v0→gH Hs n c ax→gH Hf n c ax)(hx:∀ (n:Nat) (o:aK T.den),H0[n]?=some (some o)→∃ o,Hf[n]?=some (some o)):∀ {v:SV T.den} {a0 a:AV},R T H0 v a0→R T Hs v a→R T Hf v a
 |.dead,_,_,h,_=>by simp[R]at h
 |.hole,a0,a,_,h=>by simpa[R] using h
 |.lit v,a0,a,_,h=>by simpa[R] using h
 |.agg l,a0,a,h0,h=>by
  simp only[R]at h0 h ⊢
  obtain⟨l0,_,h2⟩:=h0
  obtain⟨l',h1,h3⟩:=h
  exact⟨l',h1,RL.fi ht hx h2 h3⟩
 |.kC l,a0,a,h0,h=>by
  simp only[R]at h0 h ⊢
  obtain⟨l0,_,h2⟩:=h0
  obtain⟨l',h1,h3⟩:=h
  exact⟨l',h1,RL.fi ht hx h2 h3⟩
 |.sl l,a0,a,h0,h=>by
  simp only[R]at h0 h ⊢
  obtain⟨l0,_,h2,_⟩:=h0
  obtain⟨l',h1,h3,h4⟩:=h
  exact⟨l',h1,RL.fi ht hx h2 h3,h4⟩
 |.jN t l,a0,a,_,h=>by simpa[R] using h
 |.zj t l c b,a0,a,_,h=>by simp only[R]at h ⊢; exact h
 |.nz,a0,a,_,h=>by simp only[R]at h ⊢; exact h
 |.bq e j,a0,a,h0,h=>by
  simp only[R]at h0 h ⊢
  obtain⟨l0,_,h2,_⟩:=h0
  obtain⟨l',h1,h3,h4⟩:=h
  exact⟨l',h1,R.fi ht hx h2 h3,h4⟩
 |.ref m c i j,a0,a,h0,h=>by
  grind[R]
 |.jw m c i j ln cp,a0,a,h0,h=>by
  grind[R]
 |.bw esz m c rg cap,a0,a,h0,h=>by
  grind[R]
 |.jP fn f c,a0,a,h0,h=>by
  simp only[R]at h0 h ⊢
  obtain⟨_,_,_,g1,g2⟩:=h0
  obtain⟨f',c',h1,h2,h3⟩:=h
  exact⟨f',c',h1,RL.fi ht hx g1 h2,RL.fi ht hx g2 h3⟩
 |.jQ t v,a0,a,h0,h=>by
  simp only[R]at h0 h ⊢
  obtain⟨l0,_,h2⟩:=h0
  obtain⟨l',h1,h3⟩:=h
  exact⟨l',h1,R.fi ht hx h2 h3⟩
 |.mp y n,a0,a,h0,h=>by
  grind[R]
 |.uQ v s l i,a0,a,h0,h=>by
  simp only[R]at h0 h ⊢
  obtain⟨b0,h2,_⟩:=h0
  obtain⟨b,h3,h4⟩:=h
  exact⟨b,R.fi ht hx h2 h3,h4⟩
theorem RL.fi(ht:∀ n c v0 ax,gH H0 n c v0→gH Hs n c ax→gH Hf n c ax)(hx:∀ (n:Nat) (o:aK T.den),H0[n]?=some (some o)→∃ o,Hf[n]?=some (some o)):∀ {l:List (SV T.den)} {m0 m:List AV},RL T H0 l m0→RL T Hs l m→RL T Hf l m
 |[],[],[],_,_=>by simp[RL]
 |x::xs,y0::ZR,y::ys,h0,h=>by
  simp only[RL]at h0 h ⊢
  exact⟨R.fi ht hx h0.1 h.1,RL.fi ht hx h0.2 h.2⟩
 |[],_::_,_,h,_=>by simp[RL]at h
 |[],[],_::_,_,h=>by simp[RL]at h
 |_::_,[],_,h,_=>by simp[RL]at h
 |_::_,_::_,[],_,h=>by simp[RL]at h
end
end
theorem lZ{Hs:aq T.den}:∀ {objs:List (Nat×dt)} {l:List (TV T.den)},lI Hs objs=some l→∀ q,q∈objs→∃ o ln,Hs[q.1]?=some (some o)∧fo Hs o q.2=some ln
 |[],_,_,q,hq=>by simp at hq
 |(n,p)::r,l,h,q,hq=>by
  simp only[lI]at h
  split at h
  case h_2=>simp at h
  rename_i o ho
  rw[Option.bind_eq_some_iff]at h
  obtain⟨ln,h1,h⟩:=h
  rw[Option.map_eq_some_iff]at h
  obtain⟨l2,h2,rfl⟩:=h
  rcases List.mem_cons.1 hq with rfl|hq
  ·exact⟨o,ln,ho,h1⟩
  ·exact lZ h2 q hq
def Eh(p:dt)(c:Nat):Nat:=
 match p with
 |.list _=>c+1
 |_=>c
theorem J5(p:dt)(c:Nat):c≤Eh p c:=by cases p<;>simp[Eh]
theorem Rj{p:dt}(h:∀ t,p≠.list t)(c:Nat):Eh p c=c:=by
 cases p with
 |list t=>exact absurd rfl (h t)
 |_=>rfl
def Start(H:aq T.den)(o:aK T.den)(p:dt):Prop:=(∃ ln,fo H o p=some ln)∨(((∃ q,p=.one q)∨∃ ps,p=.agg ps)∧∃ g cl f c e,o=.arr g cl f c [e])
theorem GD{Hs:aq T.den}{o:aK T.den}{p:dt}{ln:List (TV T.den)}(h:fo Hs o p=some ln):Compat (oE o p) p∧(oE o p).flags.1=o.flags.1∧(oE o p).flags.2.1=o.flags.2.1∧(oE o p).flags.2.2=o.flags.2.2 ∧
  (oE o p).cur=Eh p o.cur:=by
 cases p with
 |list t=>
  cases o with
  |arr g cl f c es=>
   cases cl with
   |true=>exact⟨⟨g,f,c+1,[],rfl⟩,rfl,rfl,rfl,rfl⟩
   |false=>cases h
  |cD g f c t' l=>exact⟨⟨g,f,c+1,[],rfl⟩,rfl,rfl,rfl,rfl⟩
  |_=>cases h
 |fix t=>
  cases o with
  |arr g cl f c es=>
   cases cl with
   |true=>exact⟨⟨g,f,c,[],rfl⟩,rfl,rfl,rfl,rfl⟩
   |false=>cases h
  |cD g f c t' l=>exact⟨⟨g,f,c,[],rfl⟩,rfl,rfl,rfl,rfl⟩
  |_=>cases h
 |one q=>
  cases o with
  |arr g cl f c es=>exact⟨⟨g,cl,f,c,es,rfl⟩,rfl,rfl,rfl,rfl⟩
  |_=>cases h
 |agg ps=>
  cases o with
  |arr g cl f c es=>exact⟨⟨g,cl,f,c,es,rfl⟩,rfl,rfl,rfl,rfl⟩
  |_=>cases h
 |map kk t=>
  obtain⟨m,rfl,rfl⟩:=wa h
  exact⟨⟨[],rfl⟩,rfl,rfl,rfl,rfl⟩
theorem Bj{Hs:aq T.den}{o:aK T.den}{p:dt}(h:Start Hs o p):Compat (oE o p) p∧(oE o p).flags.1=o.flags.1∧(oE o p).flags.2.1=o.flags.2.1∧(oE o p).flags.2.2=o.flags.2.2 ∧
  (oE o p).cur=Eh p o.cur:=by
 rcases h with ⟨ln,h⟩|⟨⟨q,rfl⟩|⟨ps,rfl⟩,g,cl,f,c,e,rfl⟩
 ·exact GD h
 ·exact⟨⟨g,cl,f,c,[e],rfl⟩,rfl,rfl,rfl,rfl⟩
 ·exact⟨⟨g,cl,f,c,[e],rfl⟩,rfl,rfl,rfl,rfl⟩
theorem jM:∀ {ext:List qW} {n:Nat} {q:Nat×dt},q∈br n ext→∃ i g f t,q=(n+i,.list t)∧ext[i]?=some (.list g f t)
 |[],_,q,h=>by simp[br]at h
 |.jc::r,n,q,h=>by
  simp only[br]at h
  obtain⟨i,g,f,t,rfl,h2⟩:=jM h
  exact⟨i+1,g,f,t,by rw[show n+1+i=n+(i+1) by omega],by simpa using h2⟩
 |.list g f t::r,n,q,h=>by
  simp only[br]at h
  rcases List.mem_cons.1 h with rfl|h
  ·exact⟨0,g,f,t,rfl,rfl⟩
  ·obtain⟨i,g',f',t',rfl,h2⟩:=jM h
   exact⟨i+1,g',f',t',by rw[show n+1+i=n+(i+1) by omega],by simpa using h2⟩
theorem o8[ag]:∀ {ext:List qW} {n:Nat},nodupB ((br n ext).map (·.1))=true
 |[],_=>rfl
 |.jc::r,n=>by simp only[br]; exact o8
 |.list g f t::r,n=>by
  simp only[br,List.map_cons,nodupB,Bool.and_eq_true,Bool.not_eq_true',List.contains_eq_mem,decide_eq_false_iff_not]
  refine⟨fun h=>?_,o8⟩
  obtain⟨q,hq,e⟩:=List.mem_map.1 h
  obtain⟨i,_,_,_,rfl,_⟩:=jM hq
  simp only at e
  omega
theorem C2[ag]:∀ {l m:List Nat},nodupB l=true→nodupB m=true→(∀ x,x∈l→x∉m)→nodupB (l++m)=true
 |[],m,_,h,_=>h
 |x::l,m,h,h',hd=>by
  obtain⟨h1,h2⟩:=nodup_cons h
  simp only[List.cons_append,nodupB,Bool.and_eq_true,Bool.not_eq_true',List.contains_eq_mem,decide_eq_false_iff_not,List.mem_append,not_or]
  exact⟨⟨h1,hd x (by simp)⟩,C2 h2 h' fun y hy=>hd y (List.mem_cons_of_mem _ hy)⟩
theorem wc{H:aq T.den}:∀ {ext:List qW} {n i:Nat} {e:qW},FJ H n ext=true→ext[i]?=some e→∃ o,H[n+i]?=some (some o)∧(match e with|.jc=>o.flags.2.1=true|.list g f _=>o.flags=(g,true,f))
 |[],_,i,e,_,h=>by simp at h
 |x::r,n,i,e,hx,h=>by
  simp only[FJ,Bool.and_eq_true]at hx
  cases i with
  |zero=>
   grind
  |succ i=>
   simp only[List.getElem?_cons_succ]at h
   obtain⟨o,h1,h2⟩:=wc hx.2 h
   exact⟨o,by rw[show n+(i+1)=n+1+i by omega]; exact h1,h2⟩
theorem qC[ag]:∀ {ext:List qW} {n i:Nat},i<ext.length→(ext[i]?=some .jc∧n+i∉(br n ext).map (·.1))∨∃ g f t,ext[i]?=some (.list g f t)∧(n+i,dt.list t)∈br n ext
 |[],_,i,h=>by simp at h
 |.jc::r,n,i,h=>by
  cases i with
  |zero=>
   left
   refine⟨rfl,fun hc=>?_⟩
   obtain⟨q,hq,e⟩:=List.mem_map.1 hc
   simp only[br]at hq
   obtain⟨j,_,_,_,rfl,_⟩:=jM hq
   simp only at e; omega
  |succ i=>
   rcases qC (n:=n+1) (i:=i) (by simpa using h) with ⟨h1,h2⟩|⟨g,f,t,h1,h2⟩
   ·grind[br]
   ·grind[br]
 |.list g f t::r,n,i,h=>by
  cases i with
  |zero=>grind[br]
  |succ i=>
   rcases qC (n:=n+1) (i:=i) (by simpa using h) with ⟨h1,h2⟩|⟨g',f',t',h1,h2⟩
   ·left
    refine⟨by simpa using h1,?_⟩
    simp only[br,List.map_cons,List.mem_cons,not_or]
    exact⟨by omega,by rw[show n+(i+1)=n+1+i by omega]; exact h2⟩
   ·grind[br]
theorem Ld(hT:T.Ok){o:aK T.den}{H:aq T.den}{a:aY}(h:RO T H o a)(hc:o.flags.2.1=true):(∃ g f es,a=.arr g true f es)∨∃ k vs,a=.iC k vs∧∀ n,dq n vs=true:=by
 cases o with
 |arr g cl f c es=>
  obtain⟨es',rfl,_⟩:=h
  simp only[aK.flags]at hc
  subst hc
  exact .inl ⟨_,_,_,rfl⟩
 |cD g f c t l=>obtain⟨es',rfl,_⟩:=h; exact .inl ⟨_,_,_,rfl⟩
 |jc=>exact h
 |lT kk t m=>obtain⟨vs,rfl,h⟩:=h; exact .inr ⟨_,_,rfl,fun n=>Bg hT h⟩
 |qT fn ps as bd fr=>simp[aK.flags]at hc
structure Lf(T:eh)(aG:List (Nat×qV))(dead:List Nat)(objs:List (Nat×dt))(ext:List qW)(s0 s:bQ T.den)(l:List (TV T.den)):Prop where
 Wd:nodupB (aG.map (·.1))=true
 ZS:nodupB (objs.map (·.1))=true
 Oh:∀ d,d∈aG.map (·.1)++dead→d<s0.n
 nU:xk s0.hp.length aG (objs++br s0.hp.length ext)=true
 fn:s.fn=s0.fn
 n:s.n=s0.n
 fr:∀ t,t∉aG.map (·.1)++dead→dj s.fr t=dj s0.fr t
 hp:∀ n:Nat,n<s0.hp.length→n∉objs.map (·.1)→s.hp[n]?=s0.hp[n]?
 len:s.hp.length=s0.hp.length+ext.length
 flags:sR s0.hp s.hp objs=true
 cur:zm s0.hp s.hp objs=true
 UF:FJ s.hp s0.hp.length ext=true
 UG:∀ q,q∈objs→∃ o,s0.hp[q.1]?=some (some o)∧Start s0.hp o q.2
 abs:xi aG (objs++br s0.hp.length ext) s=some l
theorem Ei{H H':aq T.den}{objs:List (Nat×dt)}(h:sR H H' objs=true){q:Nat×dt}(hq:q∈objs){o o':aK T.den}(h1:H[q.1]?=some (some o))(h2:H'[q.1]?=some (some o')):o.flags=o'.flags:=by
 have:=List.all_eq_true.1 h q hq
 simp only[h1,h2,decide_eq_true_eq]at this
 exact this
theorem IC{H H':aq T.den}{objs:List (Nat×dt)}(h:zm H H' objs=true){q:Nat×dt}(hq:q∈objs)(hl:∀ t,q.2≠.list t){o o':aK T.den}(h1:H[q.1]?=some (some o))(h2:H'[q.1]?=some (some o')):o.cur=o'.cur:=by
 have:=List.all_eq_true.1 h q hq
 split at this
 ·rename_i t e; exact absurd e (hl t)
 ·simp_all
theorem J6[ag](hT:T.Ok){aG:List (Nat×qV)}{dead:List Nat}{objs:List (Nat×dt)}{ext:List qW}{s0 s:bQ T.den}{l:List (TV T.den)}(ho:Lf T aG dead objs ext s0 s l){st0 st:St}(h0:RS T s0 st0)(h:RS T s st):
  RS T { dM aG dead objs ext s0 l with js:=s.js } st∧(dM aG dead objs ext s0 l).hp.length=s.hp.length ∧
  (∀ n:Nat,n<s0.hp.length→n∉objs.map (·.1)→(dM aG dead objs ext s0 l).hp[n]?=s0.hp[n]?) ∧
  (∀ t,t∉aG.map (·.1)++dead→dj (dM aG dead objs ext s0 l).fr t=dj s0.fr t) ∧
  (dM aG dead objs ext s0 l).fn=s0.fn∧(dM aG dead objs ext s0 l).n=s0.n ∧
  (∀ q,q∈objs→∃ o0 os of,s0.hp[q.1]?=some (some o0)∧s.hp[q.1]?=some (some os)∧(dM aG dead objs ext s0 l).hp[q.1]?=some (some of)∧of.len=os.len∧of.cur=Eh q.2 o0.cur):=by
 have SC:=ho.UG
 have cG:∀ n,n∈objs.map (·.1)→n<s0.hp.length:=by
  grind
 have Qc:∀ n,n∈(br s0.hp.length ext).map (·.1)→s0.hp.length≤n:=by
  intro n hn
  obtain⟨q,hq,rfl⟩:=List.mem_map.1 hn
  obtain⟨i,_,_,_,rfl,_⟩:=jM hq
  simp
 have Cw:nodupB ((objs++br s0.hp.length ext).map (·.1))=true:=by
  rw[List.map_append]
  exact C2 ho.ZS o8 fun x hx hc=>by have:=cG x hx; have:=Qc x hc; omega
 obtain⟨b1,b2,b3⟩:=uE (objs:=objs) (H:=s0.hp) ho.ZS
 generalize LJ:tz s0.hp objs++ext.map K0=H1
 have Oi:H1.length=s.hp.length:=by rw[←LJ,ho.len]; simp[b1]
 have Bk:∀ n:Nat,n<s0.hp.length→H1[n]?=(tz s0.hp objs)[n]?:=fun n hn=>by
  grind
 have Oj:∀ i:Nat,H1[s0.hp.length+i]?=(ext.map K0)[i]?:=fun i=>by
  grind
 have qZ:=ho.abs
 unfold xi at qZ
 rw[Option.bind_eq_some_iff]at qZ
 obtain⟨la,hla,qZ⟩:=qZ
 rw[Option.map_eq_some_iff]at qZ
 obtain⟨lb,hlb,rfl⟩:=qZ
 have Zl:∀ q,q∈objs++br s0.hp.length ext→∃ o,H1[q.1]?=some (some o)∧Compat o q.2:=by
  intro q hq
  rcases List.mem_append.1 hq with hq|hq
  ·obtain⟨o,h1,h2⟩:=SC q hq
   exact⟨oE o q.2,by rw[Bk _ (cG _ (List.mem_map_of_mem hq))]; exact b3 q hq o h1,(Bj h2).1⟩
  ·obtain⟨i,g,f,t,rfl,h2⟩:=jM hq
   refine⟨.cD g f 0 t [],?_,⟨g,f,0,[],rfl⟩⟩
   simp only
   rw[Oj,List.getElem?_map,h2]
   rfl
 obtain⟨c1,c2,c3,c4⟩:=tE hT (Hs:=s.hp) (H:=H1) [] Cw hlb Zl
 simp only[List.append_nil]at c1 c2 c3 c4
 generalize hHf:hJ H1 (objs++br s0.hp.length ext) lb=Hf at c1 c2 c3 c4
 have hlen:GA (fun n=>n<s0.hp.length∨n∈(objs++br s0.hp.length ext).map (·.1)) s.hp Hf:=by
  intro n o hn SW
  by_cases hm:n∈(objs++br s0.hp.length ext).map (·.1)
  ·grind
  ·have hn:n<s0.hp.length:=hn.resolve_right hm
   have EL:n∉objs.map (·.1):=fun hc=>hm (by rw[List.map_append]; exact List.mem_append_left _ hc)
   refine⟨o,?_,rfl⟩
   rw[c2 n hm,Bk n hn,b2 n EL,←ho.hp n hn EL]
   exact SW
 have SD:=List.all_eq_true.1 ho.nU
 have acm:∀ q,q∈objs++br s0.hp.length ext→∀ n,n∈q.2.nU→(n<s0.hp.length∨n∈(objs++br s0.hp.length ext).map (·.1)):=by
  intro q hq n hn
  have:=SD n (List.mem_append_right _ (List.mem_flatMap.2 ⟨q,hq,hn⟩))
  simp only[Bool.or_eq_true,List.contains_eq_mem,decide_eq_true_eq]at this
  refine this.imp (fun h=>?_) id
  have:=Nat.le_of_ble_eq_true h
  omega
 have acn:∀ q,q∈aG→∀ n,n∈q.2.nU→(n<s0.hp.length∨n∈(objs++br s0.hp.length ext).map (·.1)):=by
  intro q hq n hn
  have:=SD n (List.mem_append_left _ (List.mem_flatMap.2 ⟨q,hq,hn⟩))
  simp only[Bool.or_eq_true,List.contains_eq_mem,decide_eq_true_eq]at this
  refine this.imp (fun h=>?_) id
  have:=Nat.le_of_ble_eq_true h
  omega
 have Rk:∀ q,q∈objs→∃ o0 os of,s0.hp[q.1]?=some (some o0)∧s.hp[q.1]?=some (some os)∧Hf[q.1]?=some (some of)∧of.len=os.len∧of.cur=Eh q.2 o0.cur ∧
   (∀ a,RO T s.hp os a→RO T Hf of a):=by
  intro q hq
  obtain⟨o0,h1,h2⟩:=SC q hq
  obtain⟨o1,os,o',ln,Hc,GC,d1,d2,d3,d4,d5,d6,d7,d8⟩:=c4 q (List.mem_append_left _ hq)
  have hb:=b3 q hq o0 h1
  rw[Bk _ (cG _ (List.mem_map_of_mem hq)),hb]at d1
  simp only[Option.some.injEq]at d1
  subst d1
  obtain⟨e1,e2,e3,e4,e5⟩:=Bj h2
  have SA:=Ei ho.flags hq h1 d2
  refine⟨o0,os,o',h1,d2,d6,d8,by rw[d7,e5],fun a ha=>?_⟩
  exact Bi hT (fun n=>by rw[d4,c3]) hlen (acm q (List.mem_append_left _ hq)) e1 d3 d5 (by rw[e2,SA]) (by rw[e3,SA]) (by rw[e4,SA]) ha
 have VX:∀ n c v0 ax,gH s0.hp n c v0→gH s.hp n c ax→gH Hf n c ax:=by
  intro n c v0 ax Jg hv
  have hn:=Jg.lt
  by_cases hm:n∈objs.map (·.1)
  ·obtain⟨q,hq,rfl⟩:=List.mem_map.1 hm
   obtain⟨o0,os,of,g1,g2,g3,g4,g5,_⟩:=Rk q hq
   obtain⟨o0',k1,k2,_⟩:=Jg
   rw[g1]at k1
   simp only[Option.some.injEq]at k1
   subst k1
   obtain⟨os',k3,k4,k5⟩:=hv
   rw[g2]at k3
   simp only[Option.some.injEq]at k3
   subst k3
   refine⟨of,g3,?_,fun e=>?_⟩
   ·have:=J5 q.2 o0.cur; omega
   ·by_cases hl:∃ t,q.2=.list t
    ·obtain⟨t,hl⟩:=hl
     rw[g5,hl]at e
     simp only[Eh]at e
     omega
    ·have hc:=IC ho.cur hq (fun t e=>hl ⟨t,e⟩) g1 g2
     have:of.cur=o0.cur:=by rw[g5,Rj (fun t e=>hl ⟨t,e⟩)]
     rw[g4]
     exact k5 (by omega)
  ·have EL:n∉(objs++br s0.hp.length ext).map (·.1):=by
    rw[List.map_append]
    intro hc
    rcases List.mem_append.1 hc with hc|hc
    ·exact hm hc
    ·have:=Qc n hc; omega
   obtain⟨os,k1,k2,k3⟩:=hv
   exact⟨os,by rw[c2 n EL,Bk n hn,b2 n hm,←ho.hp n hn hm]; exact k1,k2,k3⟩
 have XZ:∀ n:Nat,n<s0.hp.length→n∉objs.map (·.1)→Hf[n]?=s0.hp[n]?:=by
  intro n hn hm
  have EL:n∉(objs++br s0.hp.length ext).map (·.1):=by
   rw[List.map_append]
   intro hc
   rcases List.mem_append.1 hc with hc|hc
   ·exact hm hc
   ·have:=Qc n hc; omega
  rw[c2 n EL,Bk n hn,b2 n hm]
 have hex:∀ (n:Nat) (o:aK T.den),s0.hp[n]?=some (some o)→∃ o,Hf[n]?=some (some o):=by
  intro n o Ca
  have hn:=(List.getElem?_eq_some_iff.1 Ca).1
  by_cases hm:n∈objs.map (·.1)
  ·obtain⟨q,hq,rfl⟩:=List.mem_map.1 hm
   obtain⟨_,_,of,_,_,g3,_⟩:=Rk q hq
   exact⟨of,g3⟩
  ·exact⟨o,by rw[XZ n hn hm]; exact Ca⟩
 have QT:mn s.js Hf st.hp:=by
  intro n x hx
  obtain⟨h1,h2⟩:=h.js n x hx
  refine⟨?_,h2⟩
  obtain⟨o,KJ,wT⟩:∃ o,s.hp[n]?=some (some o)∧o.isRec=true:=by
   unfold recAt at h1
   split at h1
   ·rename_i o KJ; exact⟨o,KJ,h1⟩
   ·simp at h1
  by_cases hn:n<s0.hp.length
  ·by_cases hm:n∈objs.map (·.1)
   ·exfalso
    obtain⟨q,hq,rfl⟩:=List.mem_map.1 hm
    obtain⟨o1,os,o',ln,Hc,GC,_,d2,d3,_⟩:=c4 q (List.mem_append_left _ hq)
    rw[KJ]at d2
    simp only[Option.some.injEq]at d2
    subst d2
    cases o<;>simp[aK.isRec]at wT
    cases hp2:q.2<;>rw[hp2]at d3<;>cases d3
   ·rw[si (show Hf[n]?=s.hp[n]? by rw[XZ n hn hm,ho.hp n hn hm])]
    exact h1
  ·exfalso
   have hns:=(List.getElem?_eq_some_iff.1 KJ).1
   have hi:n-s0.hp.length<ext.length:=by have:=ho.len; omega
   have Og:s0.hp.length+(n-s0.hp.length)=n:=by omega
   obtain⟨e,he⟩:∃ e,ext[n-s0.hp.length]?=some e:=⟨_,List.getElem?_eq_getElem hi⟩
   obtain⟨o2,m1,m2⟩:=wc ho.UF he
   rw[Og,KJ]at m1
   simp only[Option.some.injEq]at m1
   subst m1
   cases o<;>simp[aK.isRec]at wT
   cases e<;>simp[aK.flags]at m2
 have Rg:RH T Hf st.hp:=by
  have uM:Hf.length=st.hp.length:=by rw[c1,Oi]; exact h.hp.length
  refine aE.fk uM fun n x y hx hy=>?_
  obtain⟨xs,Cc,hr⟩:=aE.get' h.hp hy
  have hns:n<s.hp.length:=(List.getElem?_eq_some_iff.1 Cc).1
  by_cases hn:n<s0.hp.length
  ·by_cases hm:n∈objs.map (·.1)
   ·obtain⟨q,hq,rfl⟩:=List.mem_map.1 hm
    obtain⟨o0,os,of,g1,g2,g3,g4,g5,g6⟩:=Rk q hq
    rw[g3]at hx
    rw[g2]at Cc
    simp only[Option.some.injEq]at hx Cc
    subst hx; subst Cc
    cases y with
    |none=>exact hr.elim
    |some a=>exact g6 a hr
   ·have EL:n∉(objs++br s0.hp.length ext).map (·.1):=by
     rw[List.map_append]
     intro hc
     rcases List.mem_append.1 hc with hc|hc
     ·exact hm hc
     ·have:=Qc n hc; omega
    rw[c2 n EL,Bk n hn,b2 n hm,←ho.hp n hn hm,Cc]at hx
    simp only[Option.some.injEq]at hx
    subst hx
    have Qx:s0.hp[n]?=some xs:=by rw[←ho.hp n hn hm]; exact Cc
    obtain⟨y0,_,Hv⟩:=aE.get h0.hp Qx
    cases xs with
    |none=>cases y with
     |none=>trivial
     |some a=>exact hr.elim
    |some o=>cases y with
     |none=>exact hr.elim
     |some a=>
      cases y0 with
      |none=>exact Hv.elim
      |some a0=>
       cases o with
       |arr g cl f c es=>
        obtain⟨es',e1,e2,e3⟩:=hr
        obtain⟨es0,_,e5,_⟩:=Hv
        exact⟨es',e1,RL.fi VX hex e5 e2,e3⟩
       |cD g f c t l=>exact hr
       |jc=>exact hr
       |lT kk t m=>exact hr
       |qT fn ps as bd fr=>
        obtain⟨st,vs,e1,e2⟩:=hr
        obtain⟨st0,vs0,_,e5⟩:=Hv
        refine⟨st,vs,e1,aE.fk e2.length fun i x y hx hy=>?_⟩
        obtain⟨y',Ds,oO⟩:=aE.get e2 hx
        rw[hy]at Ds
        simp only[Option.some.injEq]at Ds
        subst Ds
        obtain⟨y0,hy0,UH⟩:=aE.get e5 hx
        rcases oO with oO|oO
        ·exact .inl oO
        ·rcases UH with ⟨rfl,_⟩|UH
         ·simp[R]at oO
         ·exact .inr (R.fi VX hex UH oO)
  ·have hi:n-s0.hp.length<ext.length:=by have:=ho.len; omega
   have Og:n=s0.hp.length+(n-s0.hp.length):=by omega
   rcases qC (n:=s0.hp.length) hi with ⟨k1,k2⟩|⟨g,f,t,k1,k2⟩
   ·rw[←Og]at k2
    have EL:n∉(objs++br s0.hp.length ext).map (·.1):=by
     rw[List.map_append]
     intro hc
     rcases List.mem_append.1 hc with hc|hc
     ·exact hn (cG n hc)
     ·exact k2 hc
    rw[c2 n EL,Og,Oj,List.getElem?_map,k1]at hx
    simp only[Option.map_some,K0,Option.some.injEq]at hx
    subst hx
    obtain⟨o,m1,m2⟩:=wc ho.UF k1
    rw[←Og,Cc]at m1
    simp only[Option.some.injEq]at m1
    subst m1
    cases y with
    |none=>exact hr.elim
    |some a=>exact Ld hT hr m2
   ·obtain⟨o1,os,o',ln,Hc,GC,d1,d2,d3,d4,d5,d6,d7,d8⟩:=c4 _ (List.mem_append_right _ k2)
    simp only at d1 d2 d3 d5 d6
    rw[←Og]at d2 d6
    rw[d6]at hx
    rw[d2]at Cc
    simp only[Option.some.injEq]at hx Cc
    subst hx; subst Cc
    rw[Oj,List.getElem?_map,k1]at d1
    simp only[Option.map_some,K0,Option.some.injEq]at d1
    subst d1
    obtain⟨o,m1,m2⟩:=wc ho.UF k1
    rw[←Og,d2]at m1
    simp only[Option.some.injEq]at m1
    subst m1
    simp only at m2
    cases y with
    |none=>exact hr.elim
    |some a=>
     exact Bi hT (fun n=>by rw[d4,c3]) hlen (by intro n hn; simp[dt.nU]at hn) (show Compat (.cD g f 0 t []) (.list t) from ⟨g,f,0,[],rfl⟩) d3 d5 (by rw[m2]; rfl) (by rw[m2]; rfl) (by rw[m2]; rfl) hr
 obtain⟨DE,f1,f2,f3⟩:=sn hT (Hc:=H1) (Hf:=Hf) (fun n=>by rw[c3]) hlen (N:=s0.n) (frs:=s.fr) (ast:=fun t=>st.fr.getD t .undef) h.fr (fr:=CL s0.n s0.fr dead) lb ho.Wd
  (fun q hq=>⟨ho.Oh _ (List.mem_append_left _ (List.mem_map_of_mem hq)),acn q hq⟩) hla
 have X0:dM aG dead objs ext s0 (la++lb)={ s0 with fr:=DE,hp:=Hf }:=by
  unfold dM
  rw[LJ,f1]
  simp only[hHf]
 have Ej:∀ t,t∉aG.map (·.1)++dead→dj DE t=dj s0.fr t:=by
  intro t ht
  simp only[List.mem_append,not_or]at ht
  rw[f2 t ht.1,xC,if_neg (fun hc=>ht.2 hc.1)]
 rw[X0]
 refine⟨⟨?_,?_,fun t=>?_,Rg,QT⟩,by rw[c1,Oi],fun n hn hm=>?_,Ej,rfl,rfl,fun q hq=>?_⟩
 ·show s0.fn=st.fn
  rw[←ho.fn]; exact h.fn
 ·show st.fr.length=s0.n
  rw[←ho.n]; exact h.n
 ·simp only
  by_cases ht:t∈aG.map (·.1)
  ·obtain⟨q,hq,rfl⟩:=List.mem_map.1 ht
   exact .inr (f3 q hq)
  ·by_cases hd:t∈dead
   ·left
    rw[f2 t ht,xC,if_pos ⟨hd,ho.Oh _ (List.mem_append_right _ hd)⟩]
   ·have hnt:t∉aG.map (·.1)++dead:=by simp only[List.mem_append,not_or]; exact⟨ht,hd⟩
    rw[Ej t hnt]
    have e1:=h.fr t
    rw[ho.fr t hnt]at e1
    rcases e1 with e1|e1
    ·exact .inl e1
    ·rcases h0.fr t with e0|e0
     ·exact .inl e0
     ·exact .inr (R.fi VX hex e0 e1)
 ·simp only
  have EL:n∉(objs++br s0.hp.length ext).map (·.1):=by
   rw[List.map_append]
   intro hc
   rcases List.mem_append.1 hc with hc|hc
   ·exact hm hc
   ·have:=Qc n hc; omega
  rw[c2 n EL,Bk n hn,b2 n hm]
 ·obtain⟨o0,os,of,g1,g2,g3,g4,g5,_⟩:=Rk q hq
  exact⟨o0,os,of,g1,g2,g3,g4,g5⟩
end Go.PI
end
section
/- PS, part P: the trees tell the truth. -/
namespace Go.PI
structure qX.Ok[ag](S:qX):Prop where
 T:S.T.Ok
 Q:S.Q.Ok
 Z:S.T.vY S.Q
 sum:∀ g σ,S.sum g=some σ→vZ S.C S.T g σ
 own:∀ g σ,S.own g=some σ→CV S.C S.T g σ
def GF(T:eh):qU T.den→Out→Prop
 |.norm s,o=>∃ st,o=.norm st∧RS T s st
 |.exit id s,o=>∃ st,o=.exit id st∧RS T s st
 |.ret s,o=>∃ st,o=.ret st∧RS T s st
def qU.st{den:Nat→Type}:qU den→bQ den
 |.norm s=>s
 |.exit _ s=>s
 |.ret s=>s
structure qD[ag](S:qX)(k:Nat):Prop where
 f:∀ (ρ:Type) (f:FuncId) (args:List (SV S.T.den)) (hp:aq S.T.den) (wh:List Nat) (js:List (Nat×m9)) (K:SV S.T.den→aq S.T.den→List Nat→List (Nat×m9)→Tr ρ) (r:ρ) (as:List AV) (Rl:ak),RL S.T hp args as→RH S.T hp Rl→mn js hp Rl →
  (Uk S k ρ f args hp wh js K).run=some r→∃ v cW ra ti a gl,jk S.C f as Rl=some (.val a,gl)∧R S.T cW v a∧RH S.T cW gl∧mn ti cW gl∧ej hp cW∧hp.length≤cW.length ∧
    (∀ n:Nat,n<hp.length→n∉ra→cW[n]?=hp[n]?)∧(∀ n,n∈wh→n∈ra)∧(K v cW ra ti).run=some r
 c:∀ (ρ:Type) (c:Code) (s:bQ S.T.den) (K:qU S.T.den→Tr ρ) (r:ρ) (st:St),RS S.T s st→(yV S k ρ c s K).run=some r →
  ∃ so o,du S.C c st=some o∧GF S.T so o∧bx s so.st∧(K so).run=some r
 o:∀ (ρ:Type) (o:Oper) (s:bQ S.T.den) (K:bQ S.T.den→Tr ρ) (r:ρ) (st:St),RS S.T s st→(Q5 S k ρ o s K).run=some r →
  ∃ s' st',jm S.C o st=some (.norm st')∧RS S.T s' st'∧bx s s'∧(K s').run=some r
section
variable {T:eh}{ρ:Type}
theorem yG[ag](hT:T.Ok){s:bQ T.den}{st:St}(h:RS T s st){v:SV T.den}{a:AV}{cW:aq T.den}{gl:ak}{ra:List Nat}{ti:List (Nat×m9)}(g2:R T cW v a)(g3:RH T cW gl)(g4:ej s.hp cW)(g5:s.hp.length≤cW.length)
  (g6:∀ n:Nat,n<s.hp.length→n∉ra→cW[n]?=s.hp[n]?) (g7:∀ n,n∈s.wh→n∈ra) (hj:mn ti cW gl) (hb:xl ti s.hp.length=true) :
  RS T ⟨s.fn,s.n,s.fr,iR s.hp.length v cW,s.wf,ra,ti⟩ ⟨st.fn,st.fr,jS s.hp.length a gl⟩∧bx s ⟨s.fn,s.n,s.fr,iR s.hp.length v cW,s.wf,ra,ti⟩∧R T (iR s.hp.length v cW) v a:=by
 obtain⟨t1,t2⟩:=Lb (n:=s.hp.length) hT g3 g2
 have Ci:ej s.hp (iR s.hp.length v cW):=by
  unfold iR
  split
  ·intro n o ho
   obtain⟨o',h1,h2⟩:=g4 n o ho
   exact⟨o',by rw[o7 (List.getElem?_eq_some_iff.1 ho).1]; exact h1,h2⟩
  ·exact g4
 have X1:∀ n:Nat,n<s.hp.length→n∉ra→(iR s.hp.length v cW)[n]?=s.hp[n]?:=by
  grind[iR]
 have hlen:s.hp.length≤(iR s.hp.length v cW).length:=by
  grind[iR]
 have QT:mn ti (iR s.hp.length v cW) (jS s.hp.length a gl):=by
  unfold iR jS
  rw[R.below g2,m8 hT (aE.take g3 _)]
  split
  ·exact hj.take (C1 hb)
  ·exact hj
 exact⟨⟨h.fn,h.n,fun t=>(h.fr t).mono Ci,t1,QT⟩,⟨rfl,rfl,fun _ _=>rfl,fun _ h=>h,X1,g7,hlen,Ci⟩,t2⟩
theorem Bl[ag]{H H':aq T.den}{esz j nm:Nat}{e e':SV T.den}{a:AV}(hr:R T H e a)(hx:∀ {v:SV T.den} {b:AV},R T H v b→R T H' v b)(hn:R T H' (.bw esz nm 0 none none) (.bw esz nm 0 0 0 none))(h:sa esz j nm e=some e'):
  ∃ a',mr esz j nm a=some a'∧R T H' e' a':=by
 unfold sa at h
 split at h
 ·rename_i l
  split at h
  case h_2=>simp at h
  rename_i hl
  simp only[Option.some.injEq]at h
  subst h
  simp only[R]at hr
  obtain⟨l',rfl,kW⟩:=hr
  obtain⟨b,hb,LK⟩:=aE.get (bc.1 kW) hl
  simp only[R]at LK
  subst LK
  refine⟨.agg (l'.set j (.bw esz nm 0 0 0 none)),by simp only[mr,hb],?_⟩
  simp only[R]
  exact⟨_,rfl,bc.2 (((bc.1 kW).mono fun _ _ h=>hx h).set j hn)⟩
 ·split at h
  case isFalse=>simp at h
  rename_i hj
  simp only[Option.some.injEq]at h
  subst h
  simp only[R]at hr
  subst hr
  exact⟨_,by simp only[mr]; rw[if_pos hj],hn⟩
 ·simp at h
theorem X2[ag]{H:aq T.den}:RO T H (.arr true true false 0 []) (.arr true true false []):=⟨[],rfl,by simp[RL],fun _=>rfl⟩
theorem Ol{H:aq T.den}{esz nm:Nat}{g cl f:Bool}(h:H[nm]?=some (some (.arr g cl f 0 []))):R T H (.bw esz nm 0 none none) (.bw esz nm 0 0 0 none):=by
 simp only[R]
 exact⟨0,⟨_,h,Nat.le_refl _,fun _=>rfl⟩,rfl⟩
theorem J7[ag](hT:T.Ok){d:Tmp}{r:ρ}{K:bQ T.den→Tr ρ}:∀ {l:List (Nat×Nat)} {s:bQ T.den} {st:St},RS T s st→(K2 d l s K).run=some r→∃ s',RS T s' (LR d l st)∧bx s s'∧(K s').run=some r
 |[],s,st,h,hk=>⟨s,h,bx.refl _,hk⟩
 |(j,esz)::l,s,st,h,hk=>by
  have hlen:=h.hp.length
  unfold K2 at hk
  have hd:=h.fr d
  have Iu:∀ {s':bQ T.den},RS T s' (rk d st j esz)→bx s s'→(K2 d l s' K).run=some r→∃ s',RS T s' (LR d ((j,esz)::l) st)∧bx s s'∧(K s').run=some r:=by
   intro s' h1 h2 h3
   obtain⟨s2,i1,i2,i3⟩:=J7 hT h1 h3
   exact⟨s2,i1,h2.trans i2,i3⟩
  split at hk
  ·rename_i n c i k he
   rw[he]at hd
   have hd:=hd.live rfl
   simp only[R]at hd
   obtain⟨ax,hd,cI⟩:=hd
   have gi:st.fr[d]?=some (.ref n ax i k):=by
    grind
   split at hk
   case h_2=>simp[Tr.run]at hk
   rename_i g cl f cur es ho
   obtain⟨ao,dJ,eD⟩:=h.hp.obj ho
   obtain⟨es',rfl,cZ,n4⟩:=eD
   split at hk
   case h_2=>simp[Tr.run]at hk
   rename_i e' Jr
   obtain⟨e,L4,Aq⟩:=Option.bind_eq_some_iff.1 Jr
   obtain⟨ea,X3,Hi⟩:=aE.get (bc.1 cZ) L4
   have hn:=(List.getElem?_eq_some_iff.1 ho).1
   have ru:=h.hp.new (nm:=s.hp.length) (o':=.arr true true false 0 []) (a':=.arr true true false []) (.inl rfl) X2
   have e1:cd s.hp s.hp.length (.arr true true false 0 [])=s.hp++[some (.arr true true false 0 [])]:=by simp[cd]
   have e2:setObj st.hp s.hp.length (.arr true true false [])=st.hp++[some (.arr true true false [])]:=by simp[setObj,hlen]
   rw[e1,e2]at ru
   obtain⟨Sx,xM⟩:=ru
   have lL:R T (s.hp++[some (.arr true true false 0 [])]) (.bw esz s.hp.length 0 none none) (.bw esz s.hp.length 0 0 0 none):=Ol (g:=true) (cl:=true) (f:=false) (by simp)
   obtain⟨SE,h5,h6⟩:=Bl Hi (fun h=>h.mono Sx) lL Aq
   have wT:(s.hp++[some (aK.arr true true false 0 [])])[n]?=some (some (.arr g cl f cur es)):=by rw[List.getElem?_append_left hn]; exact ho
   have fW:RL T (s.hp++[some (.arr true true false 0 [])]) (es.set i e') (es'.set i SE):=bc.2 (((bc.1 cZ).mono fun _ _ h=>h.mono Sx).set i h6)
   obtain⟨hg2,M5⟩:=xM.Wa wT (o':=.arr g false f cur (es.set i e')) (a':=.arr g false f (es'.set i SE)) (Nat.le_refl _) (fun _=>by simp[aK.len]) ⟨_,rfl,fW,fun hc=>by simp at hc⟩
   have w1:bu s.hp [(n,.arr g false f cur (es.set i e')),(s.hp.length,.arr true true false 0 [])]=(s.hp++[some (aK.arr true true false 0 [])]).set n (some (aK.arr g false f cur (es.set i e'))):=by
    have q1:cd s.hp n (.arr g false f cur (es.set i e'))=s.hp.set n (some (.arr g false f cur (es.set i e'))):=by unfold cd; rw[if_neg (by omega)]
    have q2:∀ (L:aq T.den) (o:aK T.den),L.length=s.hp.length→cd L s.hp.length o=L++[some o]:=fun L o hL=>by unfold cd; rw[if_pos hL.symm]
    simp only[bu]
    rw[q1,q2 _ _ (by simp),List.set_append_left _ _ hn]
   have w2:av st.hp [(n,.arr g false f (es'.set i SE)),(s.hp.length,.arr true true false [])]=(st.hp++[some (aY.arr true true false [])]).set n (some (aY.arr g false f (es'.set i SE))):=by
    have q1:setObj st.hp n (.arr g false f (es'.set i SE))=st.hp.set n (some (.arr g false f (es'.set i SE))):=by unfold setObj; rw[if_neg (by omega)]
    have q2:∀ (L:ak) (o:aY),L.length=s.hp.length→setObj L s.hp.length o=L++[some o]:=fun L o hL=>by unfold setObj; rw[if_pos hL.symm]
    simp only[av]
    rw[q1,q2 _ _ (by simp[hlen]),List.set_append_left _ _ (by omega)]
   rw[dw]at hk
   have hRE:RE T s.hp st.hp (.lit undef) [(n,.arr g false f cur (es.set i e')),(s.hp.length,.arr true true false 0 [])] ⟨.undef,[(n,.arr g false f (es'.set i SE)),(s.hp.length,.arr true true false [])]⟩:=by
    refine⟨bC undef,by rw[w1,w2]; exact M5,by rw[w1]; exact Sx.trans hg2,fun q hq=>?_,fun m hm hl=>?_,by rw[w1]; simp,fun m hm hc=>?_⟩
    ·grind
    ·grind
    ·simp at hc
     rcases hc with rfl|rfl
     ·simp[recAt,ho,aK.isRec]at hm
     ·have:=kq hm; omega
   obtain⟨g8,g9⟩:=h.step hRE none
   refine Iu (s':=s.step none (.lit undef) _) ?_ g9 hk
   have:rk d st j esz={ st with fr:=bX st.fr none AV.undef,hp:=av st.hp [(n,.arr g false f (es'.set i SE)),(s.hp.length,.arr true true false [])] }:=by
    unfold rk
    rw[hlen]at h5
    simp only[gi,dJ,X3,Option.bind_some,h5,bX]
    rw[w2,List.set_append_left _ _ (by omega)]
   rw[this]
   exact g8
  ·rename_i dY
   split at hk
   case h_2=>simp[Tr.run]at hk
   rename_i v' lE
   have X4:cL (dj s.fr d)=false:=by
    cases hq:dj s.fr d<;>first|rfl|(rw[hq]at lE; simp[sa]at lE)
   have hd:=hd.live X4
   have ru:=h.hp.new (nm:=s.hp.length) (o':=.arr true true false 0 []) (a':=.arr true true false []) (.inl rfl) X2
   have e1:cd s.hp s.hp.length (.arr true true false 0 [])=s.hp++[some (.arr true true false 0 [])]:=by simp[cd]
   have e2:setObj st.hp s.hp.length (.arr true true false [])=st.hp++[some (.arr true true false [])]:=by simp[setObj,hlen]
   have aeJ:=ru
   rw[e1,e2]at ru
   obtain⟨Sx,xM⟩:=ru
   have lL:R T (s.hp++[some (.arr true true false 0 [])]) (.bw esz s.hp.length 0 none none) (.bw esz s.hp.length 0 0 0 none):=Ol (g:=true) (cl:=true) (f:=false) (by simp)
   obtain⟨a',h5,h6⟩:=Bl hd (fun h=>h.mono Sx) lL lE
   have gi:st.fr[d]?=some (st.fr.getD d .undef):=by
    rw[List.getD_eq_getElem?_getD]at h5 ⊢
    cases hq:st.fr[d]? with
    |none=>simp_all[mr,AV.undef,Go.undef]
    |some x=>rfl
   have X5:∀ n ax i k,st.fr.getD d .undef≠.ref n ax i k:=by
    intro n ax i k e
    rw[e]at h5
    simp[mr]at h5
   rw[dw]at hk
   have hRE:RE T s.hp st.hp v' [(s.hp.length,.arr true true false 0 [])] ⟨a',[(st.hp.length,.arr true true false [])]⟩:=by
    have w1:bu s.hp [(s.hp.length,.arr true true false 0 [])]=s.hp++[some (.arr true true false 0 [])]:=e1
    have w2:av st.hp [(st.hp.length,.arr true true false [])]=st.hp++[some (.arr true true false [])]:=by simp[av,setObj]
    refine⟨.inr (by rw[w1]; exact h6),by rw[w1,w2]; exact xM,by rw[w1]; exact Sx,fun q hq=>by simp at hq; subst hq; simp[hlen],fun m hm hl=>?_,by rw[w1]; simp,fun m hm hc=>?_⟩
    ·rw[w1,List.getElem?_append_left hl]
    ·simp at hc
     have:=kq hm; omega
   obtain⟨g8,g9⟩:=h.step hRE (some d)
   refine Iu (s':=s.step (some d) v' _) ?_ g9 hk
   have:rk d st j esz={ st with fr:=bX st.fr (some d) a',hp:=av st.hp [(st.hp.length,.arr true true false [])] }:=by
    unfold rk
    rw[gi]
    rw[hlen]at h5
    split
    ·rename_i n ax i k he
     exact absurd (Option.some.inj he) (X5 n ax i k)
    ·rename_i e _ he
     have he:=Option.some.inj he
     rw[←he,h5]
     simp only[bX,av,setObj,if_true]
    ·rename_i he; cases he
   rw[this]
   exact g8
theorem Om[ag](hT:T.Ok){l:Tmp→List (Nat×Nat)}{dst:Option Tmp}{r:ρ}{K:bQ T.den→Tr ρ}{s:bQ T.den}{st:St}(h:RS T s st)(hk:(FK l dst s K).run=some r):∃ s',RS T s' (Ey l dst st)∧bx s s'∧(K s').run=some r:=by
 cases dst with
 |none=>exact⟨s,h,bx.refl _,hk⟩
 |some d=>exact J7 hT h hk
theorem ID{js:List (Nat×m9)}{n m:Nat}{y:m9}:cO (D5 js n y) m=if m=n then (cO js n).map (fun _=>y) else cO js m:=by
 induction js with
 |nil=>simp[D5,cO]
 |cons q r ih=>
  obtain⟨k,x⟩:=q
  simp only[D5,List.map_cons]at ih ⊢
  cases hk:Nat.beq k n with
  |true=>
   have:=Nat.eq_of_beq_eq_true hk
   subst this
   simp only[cO]
   by_cases hm:m=k
   ·subst hm; simp
   ·have:Nat.beq k m=false:=by cases hb:Nat.beq k m; rfl; exact absurd (Nat.eq_of_beq_eq_true hb).symm hm
    rw[this,if_neg hm]
    simp only
    rw[ih,if_neg hm]
  |false=>
   simp only[cO,hk]
   by_cases hm:m=n
   ·simp_all
   ·simp_all
theorem GG{js:List (Nat×m9)}{n m:Nat}:cO (FM js n) m=if m=n then none else cO js m:=by
 induction js with
 |nil=>simp[FM,cO]
 |cons q r ih=>
  obtain⟨k,x⟩:=q
  simp only[FM,List.filter_cons]at ih ⊢
  cases hk:Nat.beq k n with
  |true=>
   have:=Nat.eq_of_beq_eq_true hk
   subst this
   simp only[Bool.not_true,Bool.false_eq_true,if_false,ih,cO]
   by_cases hm:m=k
   ·simp[hm]
   ·have:Nat.beq k m=false:=by cases hb:Nat.beq k m; rfl; exact absurd (Nat.eq_of_beq_eq_true hb).symm hm
    rw[this,if_neg hm]
  |false=>
   grind[cO]
theorem J8[ag]{H:aq T.den}{hp:ak}{js:List (Nat×m9)}(hh:RH T H hp)(hj:mn js H hp){n:Nat}{x:m9}(hn:cO js n=some x)(y:m9):RH T H (qF hp n y)∧mn (D5 js n y) H (qF hp n y):=by
 obtain⟨h1,h2⟩:=hj n x hn
 obtain⟨fn,ps,as,bd,fr,hr⟩:=lN h2
 have cG:=(List.getElem?_eq_some_iff.1 hr).1
 have e:qF hp n y=hp.set n (some (.iC (.loop fn ps as bd y) fr)):=by unfold qF; rw[hr]
 rw[e]
 obtain⟨o,ho,ZT⟩:∃ o,H[n]?=some (some o)∧o.isRec=true:=by
  grind[recAt]
 obtain⟨a,ha,eD⟩:=hh.obj ho
 rw[hr]at ha
 simp only[Option.some.injEq]at ha
 subst ha
 cases o<;>simp[aK.isRec]at ZT
 rename_i V5 ps' qf bd' DE
 obtain⟨st,vs,he,qR⟩:=eD
 cases he
 have fW:RH T H (hp.set n (some (.iC (.loop fn ps as bd y) fr))):=by
  have:=aE.set hh n (x:=some (.qT fn ps as bd DE)) (y:=some (aY.iC (.loop fn ps as bd y) fr)) ⟨y,fr,rfl,qR⟩
  rwa [iX ho]at this
 refine⟨fW,fun m z hm=>?_⟩
 rw[ID]at hm
 split at hm
 ·simp_all[jV]
 ·rename_i dY
  obtain⟨h3,h4⟩:=hj m z hm
  exact⟨h3,by rw[pZ (List.getElem?_set_ne (Ne.symm dY))]; exact h4⟩
theorem GH{den:Nat→Type}{u:List Nat}{fr:uR den}:∀ {l:List Nat} {i:Nat},(yU u fr l)[i]?=(l[i]?).map fun d=>if u.contains d then dj fr d else .dead
 |[],i=>by simp[yU]
 |d::r,0=>by simp only[yU,List.getElem?_cons_zero,Option.map_some]; cases u.contains d<;>rfl
 |d::r,i+1=>by simp only[yU,List.getElem?_cons_succ]; exact GH
theorem GI{den:Nat→Type}{u:List Nat}{fr:uR den}:∀ {l:List Nat},(yU u fr l).length=l.length
 |[]=>rfl
 |d::r=>by simp only[yU,List.length_cons,GI]
theorem C3{u:List Nat}:∀ {fr:List AV} {i j:Nat},(qE u i fr)[j]?=(fr[j]?).map fun x=>if u.contains (i+j) then x else .any
 |[],i,j=>by simp[qE]
 |x::xs,i,0=>by simp[qE]
 |x::xs,i,j+1=>by
  simp only[qE,List.getElem?_cons_succ]
  rw[C3,show i+1+j=i+(j+1) by omega]
theorem C4{u:List Nat}:∀ {fr:List AV} {i:Nat},(qE u i fr).length=fr.length
 |[],_=>rfl
 |x::xs,i=>by simp only[qE,List.length_cons,C4]
theorem Lg[ag]{s:bQ T.den}{st:St}(h:RS T s st){as bd:Code}(hd:(eH as++eH bd).all (fun d=>!cL (dj s.fr d)||!Nat.blt d s.n)=true):
  aE (RD T s.hp) (yU (eH as++eH bd) s.fr (List.range s.n)) (zx as bd st.fr):=by
 unfold zx
 refine aE.fk (by rw[GI,C4,List.length_range,h.n]) fun i x y hx hy=>?_
 rw[GH,Option.map_eq_some_iff]at hx
 rw[C3,Option.map_eq_some_iff]at hy
 obtain⟨d,Cs,rfl⟩:=hx
 obtain⟨a,ha,rfl⟩:=hy
 obtain⟨hi,rfl⟩:i<s.n∧i=d:=by
  grind
 rw[Nat.zero_add]
 cases hc:(eH as++eH bd).contains i with
 |false=>exact .inl ⟨rfl,rfl⟩
 |true=>
  right
  simp only[if_true]
  have hm:i∈eH as++eH bd:=by simpa using hc
  have:=List.all_eq_true.1 hd i hm
  have hb:Nat.blt i s.n=true:=Nat.ble_eq_true_of_le hi
  rw[hb]at this
  simp only[Bool.not_true,Bool.or_false,Bool.not_eq_true']at this
  have hv:=(h.fr i).live this
  rw[List.getD_eq_getElem?_getD,ha]at hv
  exact hv
theorem C5[ag]{H:aq T.den}:∀ {ps:List Tmp} {xs:List (SV T.den)} {as:List AV} {n:Nat} {fr:uR T.den} {fa:List AV},fa.length=n→(∀ t,RV T H (dj fr t) (fa.getD t .undef))→RL T H xs as →
  (gC fa ps as).length=n∧∀ t,RV T H (dj (nJ n fr ps xs) t) ((gC fa ps as).getD t .undef)
 |[],xs,as,n,fr,fa,hl,h,_=>by simpa[gC,nJ] using ⟨hl,h⟩
 |p::ps,[],[],n,fr,fa,hl,h,_=>by simpa[gC,nJ] using ⟨hl,h⟩
 |p::ps,x::xs,a::as,n,fr,fa,hl,h,hx=>by
  simp only[RL]at hx
  simp only[gC,nJ]
  refine C5 (by simp[hl]) (fun t=>?_) hx.2
  rw[lY,Gu,hl]
  split
  ·exact .inr hx.1
  ·exact h t
 |p::ps,[],_::_,_,_,_,_,_,h=>by simp[RL]at h
 |p::ps,_::_,[],_,_,_,_,_,h=>by simp[RL]at h
noncomputable def On(n:Nat)(dst:Option Tmp)(st:St):Out→Option Out
 |.norm s2=>zy n dst st true .ready s2.hp
 |.exit id s2=>zy n dst st false (.jump (some id)) s2.hp
 |.ret s2=>zy n dst st false (.jump none) s2.hp
 |_=>none
theorem Ek[ag](hT:T.Ok){s s2:bQ T.den}{st Ri:St}(h:RS T s st)(h2:RS T s2 Ri)(hg:ej s.hp s2.hp)(hl:s.hp.length≤s2.hp.length)(hk:∀ n:Nat,n<s.hp.length→n∉s2.wh→s2.hp[n]?=s.hp[n]?)(hw:∀ n,n∈s.wh→n∈s2.wh)
  {n:Nat} {dst:Option Tmp} {b:Bool} {x:m9} {K:bQ T.den→Tr ρ} {r:ρ} (hr:(NS s n dst b x s2 K).run=some r) :
  ∃ s' st',zy n dst st b x Ri.hp=some (.norm st')∧RS T s' st'∧bx s s'∧(K s').run=some r:=by
 unfold NS at hr
 split at hr
 case h_2=>simp[Tr.run]at hr
 rename_i hb
 split at hr
 case h_2=>simp[Tr.run]at hr
 rename_i IE
 rw[mZ,dw]at hr
 obtain⟨_,X6⟩:=h2.js n _ hb
 obtain⟨r1,r2⟩:=J8 h2.hp h2.js hb x
 have X7:xl (D5 s2.js n x) s.hp.length=true:=by
  refine List.all_eq_true.2 fun q hq=>?_
  obtain⟨q0,hq0,e⟩:=List.mem_map.1 hq
  have:=List.all_eq_true.1 IE q0 hq0
  split at e<;>(subst e; exact this)
 obtain⟨g1,g2,g3⟩:=yG hT h (v:=.lit (.bool b)) (a:=.lit (.bool b)) (by simp[R]) r1 hg hl hk hw r2 X7
 obtain⟨g8,g9⟩:=g1.step (v:=.lit (.bool b)) (wr:=[]) (e:=⟨.lit (.bool b),[]⟩) ⟨bC _,g1.hp,ej.refl _,fun q hq=>by simp at hq,fun _ _ _=>rfl,Nat.le_refl _,fun _ _ h=>by simp at h⟩ dst
 refine⟨_,_,?_,g8,g2.trans g9,hr⟩
 unfold zy
 rw[X6,h.hp.length]
 rfl
end
def IG{den:Nat→Type}(H H':aq den):Prop:=∀ n:Nat,n<H.length→∀ o':aK den,H'[n]?=some (some o')→∃ o:aK den,H[n]?=some (some o)∧o.cur=o'.cur∧o.len=o'.len
theorem R.back[ag]{T:eh}{H H':aq T.den}(hb:IG H H'){v:SV T.den}{a:AV}(h:R T H' v a)(hv:bM H.length v=true):R T H v a:=by
 refine(h.take hv).mono fun n o ho=>?_
 have hn:n<H.length:=by
  grind
 rw[List.getElem?_take_of_lt hn]at ho
 obtain⟨o',h1,h2,h3⟩:=hb n hn o ho
 exact⟨o',h1,by omega,fun _=>h3⟩
theorem RM.Oo{α:Type}{hp:ak}:∀ {x:RM α} {a:α},x.run hp=some a→∀ n,n∈x.log hp→n<hp.length
 |.ret _,_,_,n,hn=>by simp[RM.log]at hn
 |.fail,_,h,_,_=>by simp[RM.run]at h
 |.get m k,a,h,n,hn=>by
  simp only[RM.run]at h
  split at h
  case h_2=>simp at h
  rename_i o ho
  simp only[RM.log,ho,List.mem_cons]at hn
  rcases hn with rfl|hn
  ·grind
  ·exact RM.Oo h n hn
theorem aN.over{hp:ak}{ov:Option (Nat×aY)}{nw:List aY}{α:Type}{x:RM α}{a:α}{rd:List Nat}(h:aN (bg hp ov nw) x a rd):aN hp (x.over hp.length ov nw) a rd:=by
 refine⟨by rw[(pP x).1]; exact h.1,fun n hn=>?_⟩
 rw[(pP x).2]at hn
 exact h.2 n (List.mem_filter.1 hn).1
theorem aN.X8{hp:ak}{ov:Option (Nat×aY)}{nw:List aY}{α:Type}{x:RM α}{a:α}{rd:List Nat}(h:aN (bg hp ov nw) x a rd):aN hp (x.over hp.length ov nw) a (rd.filter fun n=>Nat.blt n hp.length):=by
 refine⟨by rw[(pP x).1]; exact h.1,fun n hn=>?_⟩
 rw[(pP x).2]at hn
 obtain⟨h1,h2⟩:=List.mem_filter.1 hn
 exact List.mem_filter.2 ⟨h.2 n h1,h2⟩
theorem aN.acr{hp:ak}{α:Type}{x:RM α}{a:α}{rd:List Nat}(h:aN hp x a rd):aN hp x a (rd.filter fun n=>Nat.blt n hp.length):=by
 refine⟨h.1,fun n hn=>List.mem_filter.2 ⟨h.2 n hn,?_⟩⟩
 have:=RM.Oo h.1 n hn
 simpa using this
theorem Oq[ag]{P:Program}{hp:ak}{ev:Operand→AV}{nm n ax i j:Nat}{dst:Option Tmp}{t:TypeId}{a x:Operand}{type:TypeId}{pos:String}{after:Array Edge}{guard:Option (Nat×Bool)}{e:ed}
  (he:(aV P nm ev ⟨dst,.store t a x,type,pos,after,guard⟩).run hp=some e) (ha:ev a=.ref n ax i j):∃ o',e.wr=[(n,o')]:=by
 simp only[aV,rh,ha]at he
 split at he
 ·simp[RM.aj]at he
 ·simp only[RM.run_bind]at he
  cases hq:(RM.arr n ax).run hp with
  |none=>rw[hq]at he; simp at he
  |some q=>
   rw[hq]at he
   simp only[Option.bind_some]at he
   split at he
   case h_2=>simp[RM.aj]at he
   split at he
   case h_2=>simp[RM.aj]at he
   split at he
   case isFalse=>simp[RM.aj]at he
   simp only[RM.run_pure,Option.some.injEq]at he
   subst he
   exact⟨_,rfl⟩
theorem Lh[ag]{P:Program}{t:TypeId}{a:AV}{hp:ak}{n:Nat}(h:n∈(mo P t a).log hp):n∈names a:=by
 unfold mo at h
 split at h
 ·simp[RM.log]at h
 ·split at h
  ·rw[RM.fN]at h
   simp only[names]
   rcases List.mem_append.1 h with h|h
   ·grind[RM.log,RM.arr]
   ·exfalso
    split at h
    ·unfold RM.iT at h
     repeat' (split at h)
     all_goals first|(simp[RM.log]at h; done)|skip
    ·simp at h
  ·unfold RM.iT at h
   split at h<;>simp[RM.log]at h
  ·simp[RM.log]at h
theorem J9[ag]{T:eh}{P:Program}{s:bQ T.den}{st:St}(h:RS T s st):∀ {rs:List ResultVar},zo s.fr rs=true→∀ n,n∈(bh P st.fr rs).log st.hp→n∈JV s.fr rs
 |[],_,n,hn=>by simp[bh,pure,RM.log]at hn
 |r::rs,hl,n,hn=>by
  unfold zo at hl
  simp only[List.all_cons,Bool.and_eq_true]at hl
  have ih:=J9 (P:=P) h (rs:=rs) (by unfold zo; exact hl.2) n
  simp only[bh,RM.fN]at hn
  unfold JV
  rw[List.flatMap_cons]
  rcases List.mem_append.1 hn with hn|hn
  ·refine List.mem_append.2 (.inl ?_)
   cases r with
   |tmp t=>simp[lC,pure,RM.log]at hn
   |cell a t=>
    simp only[lC]at hn
    have hd:cL (dj s.fr a)=false:=by simpa using hl.1
    have:=Lh hn
    rw[←R.names ((h.fr a).live hd)]at this
    exact this
  ·split at hn
   ·rcases List.mem_append.1 hn with hn|hn
    ·exact List.mem_append.2 (.inr (ih hn))
    ·split at hn
     ·simp[pure,RM.log]at hn
     ·simp at hn
   ·simp at hn
theorem GJ[ag]{T:eh}{H:aq T.den}:∀ {l:List (SV T.den)} {m:List AV},aE (R T H) l m→l.all isHole=true→m.all isAny=true
 |[],[],_,_=>rfl
 |x::xs,y::ys,h,hl=>by
  simp only[List.all_cons,Bool.and_eq_true]at hl ⊢
  refine⟨?_,GJ h.2 hl.2⟩
  have h1:=h.1
  have h2:=hl.1
  unfold isHole at h2
  split at h2
  ·simp only[R]at h1
   rw[h1]; rfl
  ·simp at h2
theorem sY[ag]{T:eh}(hT:T.Ok){Q:iH}(hQ:Q.Ok)(hZ:T.vY Q){ops:Array Oper}{hp:ak}{H:aq T.den}(hH:H.length=hp.length){ρ:Type}{r:ρ}{f:FuncId}:
  ∀ (l:List Oper) (s:bQ T.den) (q:yM) (ov:Option Nat) (rd:List Nat) (K:bQ T.den→Option Nat→List Nat→Tr ρ),RS T s ⟨f,q.fr,bg hp q.ov q.nw⟩→ov=q.ov.map (·.1)→(∀ n o,q.ov=some (n,o)→∃ o0,hp[n]?=some (some o0))→IG H s.hp →
  (xm Q hp.length l s ov rd K).run=some r →
  ∃ s' Li rd2 q',aN hp (jU Q.P hp.length ops l q) q' rd2∧RS T s' ⟨f,q'.fr,bg hp q'.ov q'.nw⟩∧Li=q'.ov.map (·.1)∧(∀ n o,q'.ov=some (n,o)→∃ o0,hp[n]?=some (some o0))∧IG H s'.hp∧(K s' Li (rd++rd2)).run=some r
 |[],s,q,ov,rd,K,h,y4,hex,hb,hk=>⟨s,ov,[],q,aN.pure _,h,y4,hex,hb,by rw[List.append_nil]; exact hk⟩
 |o::l,s,q,ov,rd,K,h,y4,hex,hb,hk=>by
  simp only[xm]at hk
  split at hk
  ·simp[Tr.run]at hk
  rename_i hg
  have hw:dh ops q.fr o=some true:=by simp[dh,hg]
  split at hk
  ·simp[Tr.run]at hk
  ·rename_i G6
   rw[dw]at hk
   have he:RE T s.hp (bg hp q.ov q.nw) (.lit cx) [] ⟨.lit cx,[]⟩:=⟨bC _,h.hp,ej.refl _,fun q h=>by simp at h,fun _ _ _=>rfl,Nat.le_refl _,fun _ _ h=>by simp at h⟩
   obtain⟨g1,_⟩:=h.step he o.dst
   obtain⟨s',Li,rd2,q',i1,i2,i3,i4,i5,hk⟩:=sY hT hQ hZ (ops:=ops) hH l _ { q with fr:=bX q.fr o.dst (.lit cx) } ov rd K g1 y4 hex (by simpa[bQ.step,bu] using hb) hk
   refine⟨s',Li,rd2,q',?_,i2,i3,i4,i5,hk⟩
   simp only[jU,hw,G6]
   cases hd:o.dst with
   |none=>rw[hd]at i1; exact i1
   |some d=>rw[hd]at i1; exact i1
  ·rename_i hn1 Qr
   have hlen:s.hp.length=hp.length+q.nw.length:=h.hp.length.trans qj
   obtain⟨v,wr,rd',e,g1,g2,hk⟩:=Iy hT hQ hZ h.hp (.inl rfl) (fun x=>h.ev x) hk
   simp only at hk
   rw[hlen]at g1
   have e1:jU Q.P hp.length ops (o::l) q=((aV Q.P (hp.length+q.nw.length) (aP q.fr) o).over hp.length q.ov q.nw >>= fun e=>match e.wr.all fun q=>Nat.ble hp.length q.1 with
     |true=>jU Q.P hp.length ops l { q with fr:=bX q.fr o.dst e.val,nw:=rm hp.length q.nw e.wr }
     |false=>(match q.ov,e.wr with
      |none,[(n,o')]=>.get n fun o0=>(match tJ Q.P (aP q.fr) o.op n o0 with
        |true=>jU Q.P hp.length ops l { q with fr:=bX q.fr o.dst e.val,ov:=some (n,o') }
        |false=>.fail)
      |_,_=>.fail)):=by
    simp only[jU,hw]
    rfl
   rw[e1]
   split at hk
   ·rename_i bK
    rw[dw]at hk
    obtain⟨g3,_⟩:=h.step g2 o.dst
    have GK:e.wr.all (fun q=>Nat.ble hp.length q.1)=true:=by
     refine List.all_eq_true.2 fun x hx=>?_
     obtain⟨y,hy,hyx⟩:=List.mem_map.1 (g2.names x hx)
     have:=List.all_eq_true.1 bK y hy
     rw[←hyx]; exact this
    rw[rU e.wr fun x hx=>Nat.le_of_ble_eq_true (List.all_eq_true.1 GK x hx)]at g3
    have qG:IG H (s.step o.dst v wr).hp:=by
     intro n hn o' dJ
     refine hb n hn o' ?_
     have:n∉wr.map (·.1):=by
      intro hm
      obtain⟨y,hy,rfl⟩:=List.mem_map.1 hm
      have:=Nat.le_of_ble_eq_true (List.all_eq_true.1 bK y hy)
      omega
     rw[←g2.Ea n this (by omega)]
     exact dJ
    obtain⟨s',Li,rd2,q',i1,i2,i3,i4,i5,hk⟩:=sY hT hQ hZ (ops:=ops) hH l _ { q with fr:=bX q.fr o.dst e.val,nw:=rm hp.length q.nw e.wr } ov (rd++rd') K g3 y4 hex qG hk
    refine⟨s',Li,rd'++rd2,q',?_,i2,i3,i4,i5,by rw[←List.append_assoc]; exact hk⟩
    refine aN.bind g1.over ?_
    simp only[GK]
    exact i1
   ·split at hk
    case h_2=>simp[Tr.run]at hk
    rename_i n o' bK aiZ
    split at hk
    case h_2=>simp[Tr.run]at hk
    rename_i hh
    rw[Bool.and_eq_true]at hh
    obtain⟨cG,lM⟩:=hh
    have cG:n<hp.length:=by simpa using cG
    have UI:q.ov=none:=by
     cases hq:q.ov with
     |none=>rfl
     |some x=>rw[hq]at y4; simp at y4
    unfold JU at lM
    split at lM
    case h_2=>simp at lM
    rename_i t a x G6
    split at lM
    case h_2=>simp at lM
    rename_i r0 n' c i j g f cur es Te X3 xL
    split at lM
    case h_2=>simp at lM
    rename_i l0 B6
    simp only[Bool.and_eq_true]at lM
    obtain⟨⟨⟨⟨c1,c2⟩,c3⟩,c4⟩,c5⟩:=lM
    obtain rfl:=Nat.eq_of_beq_eq_true c1
    have PU:=h.ev a
    rw[X3]at PU
    have PU:=PU.live rfl
    simp only[R]at PU
    obtain⟨ax,PU,_⟩:=PU
    obtain⟨dst,op,type,pos,after,guard⟩:=o
    simp only at G6
    subst G6
    obtain⟨o'',Hd⟩:=Oq g1.1 PU
    obtain⟨ao,KJ,eD⟩:=h.hp.obj xL
    obtain⟨es',rfl,cZ,_⟩:=eD
    obtain⟨l1,uM,JZ⟩:=aE.get (bc.1 cZ) B6
    simp only[R]at JZ
    obtain⟨l',rfl,JZ⟩:=JZ
    rw[UI]at KJ
    have wT:hp[n']?=some (some (.arr g false f es')):=by
     grind[bg,rR]
    obtain⟨r1,xM,_,mw,_⟩:=hQ.row _ _ Te
    have X9:tJ Q.P (aP q.fr) (.store t a x) n' (.arr g false f es')=true:=by
     simp only[tJ,xM,PU,uM,Bool.and_eq_true]
     refine⟨⟨c1,?_⟩,?_⟩
     ·rw[←aE.length (bc.1 JZ),mw]; exact c2
     ·rw[mw]
      exact GJ (((bc.1 JZ).drop j).take r0.size) c3
    have GK:e.wr.all (fun q=>Nat.ble hp.length q.1)=false:=by
     simp_all
    rw[dw]at hk
    obtain⟨g3,_⟩:=h.step g2 dst
    simp only at g3
    rw[Hd,UI,Av wT]at g3
    have qG:IG H (s.step dst v [(n',o')]).hp:=by
     intro m hm om hom
     by_cases e:m=n'
     ·subst e
      have Rm:(bu s.hp [(m,o')])[m]?=some (some om):=hom
      simp only[bu,cd]at Rm
      rw[if_neg (by omega),List.getElem?_set_self (by omega)]at Rm
      simp only[Option.some.injEq]at Rm
      subst Rm
      obtain⟨o1,b1,b2,b3⟩:=hb m hm _ xL
      refine⟨o1,b1,b2.trans (Nat.eq_of_beq_eq_true c4),b3.trans (Nat.eq_of_beq_eq_true c5)⟩
     ·refine hb m hm om ?_
      rw[←g2.Ea m (by simpa using e) (by omega)]
      exact hom
    obtain⟨s',Li,rd2,q',i1,i2,i3,i4,i5,hk⟩:=sY hT hQ hZ (ops:=ops) hH l _ { q with fr:=bX q.fr dst e.val,ov:=some (n',o'') } (some n') (rd++(rd'++[n'])) K g3 rfl
     (fun m om hm=>by simp only[Option.some.injEq,Prod.mk.injEq]at hm; obtain⟨rfl,rfl⟩:=hm; exact⟨_,wT⟩) qG hk
    refine⟨s',Li,rd'++(n'::rd2),q',?_,i2,i3,i4,i5,by simpa using hk⟩
    refine aN.bind g1.over ?_
    rw[Hd]at GK
    simp only[Hd,GK,UI]
    refine aN.get wT ?_
    simp only[X9]
    exact i1
theorem Lj[ag]{T:eh}(hT:T.Ok){Q:iH}(hQ:Q.Ok)(hZ:T.vY Q){hp:ak}{H:aq T.den}(hH:H.length=hp.length){ρ:Type}{r:ρ}{f:FuncId}:
  ∀ (c:Code) (s:bQ T.den) (q:yM) (ov:Option Nat) (rd:List Nat) (K:Bool→bQ T.den→Option Nat→List Nat→Tr ρ),RS T s ⟨f,q.fr,bg hp q.ov q.nw⟩→ov=q.ov.map (·.1)→(∀ n o,q.ov=some (n,o)→∃ o0,hp[n]?=some (some o0))→IG H s.hp →
  (nK Q hp.length c s ov rd K).run=some r →
  ∃ b s' Li rd2 q',aN hp (iE Q.P hp.length c q) (q',b) rd2∧RS T s' ⟨f,q'.fr,bg hp q'.ov q'.nw⟩∧Li=q'.ov.map (·.1)∧(∀ n o,q'.ov=some (n,o)→∃ o0,hp[n]?=some (some o0))∧IG H s'.hp∧(K b s' Li (rd++rd2)).run=some r:=by
 intro c
 induction c with
 |skip=>intro s q ov rd K h y4 hex hb hk; exact⟨false,s,ov,[],q,aN.pure _,h,y4,hex,hb,by rw[List.append_nil]; exact hk⟩
 |ret=>intro s q ov rd K h y4 hex hb hk; exact⟨true,s,ov,[],q,aN.pure _,h,y4,hex,hb,by rw[List.append_nil]; exact hk⟩
 |seq a b JC He=>
  intro s q ov rd K h y4 hex hb hk
  simp only[nK]at hk
  obtain⟨z,s1,We,Wf,q1,g1,g2,g3,g4,g5,hk⟩:=JC s q ov rd _ h y4 hex hb hk
  cases z with
  |true=>exact⟨true,s1,We,Wf++[],q1,by simp only[iE]; exact aN.bind g1 (aN.pure _),g2,g3,g4,g5,by rw[List.append_nil]; exact hk⟩
  |false=>
   obtain⟨z,s2,ov2,rd2,q2,i1,i2,i3,i4,i5,hk⟩:=He s1 q1 We _ K g2 g3 g4 g5 hk
   exact⟨z,s2,ov2,Wf++rd2,q2,by simp only[iE]; exact aN.bind g1 i1,i2,i3,i4,i5,by rw[←List.append_assoc]; exact hk⟩
 |cond o a b JC He=>
  intro s q ov rd K h y4 hex hb hk
  simp only[nK]at hk
  split at hk
  ·rename_i t hs
   have ha:=(h.ev o).live (by rw[hs]; rfl)
   rw[hs]at ha
   have ha:aP q.fr o=.lit (.bool t):=ha
   rcases gv hk with ⟨rfl,hk⟩|⟨rfl,hk⟩
   ·obtain⟨z,s1,We,Wf,q1,g1,g⟩:=JC s q ov rd K h y4 hex hb hk
    exact⟨z,s1,We,Wf,q1,by simp only[iE,ha]; exact g1,g⟩
   ·obtain⟨z,s1,We,Wf,q1,g1,g⟩:=He s q ov rd K h y4 hex hb hk
    exact⟨z,s1,We,Wf,q1,by simp only[iE,ha]; exact g1,g⟩
  ·simp[Tr.run]at hk
 |region id ops draw=>
  intro s q ov rd K h y4 hex hb hk
  cases draw with
  |true=>simp[nK,Tr.run]at hk
  |false=>
   simp only[nK]at hk
   obtain⟨s',Li,rd2,q',g1,g2,g3,g4,g5,hk⟩:=sY hT hQ hZ (ops:=ops) hH ops.toList s q ov rd _ h y4 hex hb hk
   exact⟨false,s',Li,rd2++[],q',by simp only[iE]; exact aN.bind g1 (aN.pure _),g2,g3,g4,g5,by rw[List.append_nil]; exact hk⟩
 |_=>intro s q ov rd K h y4 hex hb hk; simp[nK,Tr.run]at hk
section
variable {T:eh}
theorem aE.sq{α β:Type}{P:α→β→Prop}:∀ {l:List α} {m:List β},aE P l m→∀ {i:Nat} {x:α} {y:β},m[i]?=some y→P x y→aE P (l.set i x) m
 |_::_,_::_,h,0,x,y,hy,hp=>by simp at hy; subst hy; exact⟨hp,h.2⟩
 |_::_,_::_,h,i+1,x,y,hy,hp=>⟨h.1,aE.sq h.2 (by simpa using hy) hp⟩
 |[],[],_,_,_,_,hy,_=>by simp at hy
theorem xD[ag]{s:bQ T.den}{st:St}(h:RS T s st){n:Nat}{o o':aK T.den}(ho:s.hp[n]?=some (some o))(hc:o'.cur=o.cur)(hl:o'.len=o.len)(pg:o.isRec=false)
  (hr:∀ a,RO T s.hp o a→RO T s.hp o' a):RS T { s with hp:=s.hp.set n (some o'),wh:=n::s.wh } st∧bx s { s with hp:=s.hp.set n (some o'),wh:=n::s.wh }:=by
 have hn:=(List.getElem?_eq_some_iff.1 ho).1
 obtain⟨a,ha,hra⟩:=h.hp.obj ho
 have hg:ej s.hp (s.hp.set n (some o')):=by
  intro m x hm
  by_cases e:m=n
  ·simp_all
  ·grind
 refine⟨⟨h.fn,h.n,fun t=>(h.fr t).mono hg,?_,h.js.Ea fun m hm=>⟨?_,rfl⟩⟩,⟨rfl,rfl,fun _ _=>rfl,fun _ h=>h,fun m hm hw=>?_,fun m hm=>List.mem_cons_of_mem _ hm,by simp,hg⟩⟩
 ·exact aE.sq (aE.mono (fun _ _ h=>D6.mono hg h) h.hp) (y:=some a) ha (D6.mono hg (show D6 T s.hp (some o') (some a) from hr a hra))
 ·have dY:m≠n:=by
   grind[recAt]
  rw[List.getElem?_set_ne (Ne.symm dY)]
 ·simp only at hw ⊢
  rw[List.getElem?_set_ne (fun e=>hw (by rw[e]; simp))]
theorem uF[ag]{s:bQ T.den}{st:St}(h:RS T s st){d:Nat}{v:SV T.den}(hr:∀ a,R T s.hp (dj s.fr d) a→R T s.hp v a)(hd:cL (dj s.fr d)=false):
  RS T { s with fr:=vO s.n s.fr d v,wf:=d::s.wf } st∧bx s { s with fr:=vO s.n s.fr d v,wf:=d::s.wf }:=by
 refine⟨⟨h.fn,h.n,fun t=>?_,h.hp,h.js⟩,⟨rfl,rfl,fun t ht=>?_,fun t ht=>List.mem_cons_of_mem _ ht,fun _ _ _=>rfl,fun _ h=>h,Nat.le_refl _,ej.refl _⟩⟩
 ·simp only
  rw[lY]
  split
  ·rename_i e
   rw[e.1]
   exact .inr (hr _ ((h.fr d).live hd))
  ·exact h.fr t
 ·simp only at ht ⊢
  rw[lY,if_neg]
  exact fun e=>ht (by rw[e.1]; simp)
theorem uH[ag]{s:bQ T.den}{st:St}(h:RS T s st){d j:Nat}{v v':SV T.den}(hc:cellOf s d j=some v)(hd:cL v=false)(hr:∀ a,R T s.hp v a→R T s.hp v' a)(n4:aM v'=true):
  RS T (setCell s d j v') st∧bx s (setCell s d j v'):=by
 unfold cellOf at hc
 unfold setCell
 split at hc
 ·rename_i n c i k he
  split at hc
  case h_2=>simp at hc
  rename_i g cl f cur es ho
  split at hc
  case h_2=>simp at hc
  rename_i l hl
  refine xD h ho rfl (by simp[aK.len]) rfl fun a ha=>?_
  obtain⟨es',rfl,h1,h2⟩:=ha
  obtain⟨ea,h3,h4⟩:=aE.get (bc.1 h1) hl
  simp only[R]at h4
  obtain⟨l',rfl,h5⟩:=h4
  obtain⟨b,h6,h7⟩:=aE.get (bc.1 h5) hc
  refine⟨es',rfl,bc.2 (aE.sq (bc.1 h1) h3 ?_),fun acs=>?_⟩
  ·simp only[R]
   exact⟨l',rfl,bc.2 (aE.sq (bc.1 h5) h6 (hr _ h7))⟩
  ·have h8:=h2 acs
   rw[kn,List.all_eq_true]at h8 ⊢
   intro x hx
   rcases List.mem_or_eq_of_mem_set hx with hx|rfl
   ·exact h8 x hx
   ·have h9:=h8 _ (List.mem_of_getElem? hl)
    simp only[aM]at h9 ⊢
    rw[kn,List.all_eq_true]at h9 ⊢
    intro y hy
    rcases List.mem_or_eq_of_mem_set hy with hy|rfl
    ·exact h9 y hy
    ·exact n4
 ·rename_i l he
  refine uF h (fun a ha=>?_) (by rw[he]; rfl)
  rw[he]at ha
  simp only[R]at ha ⊢
  obtain⟨l',rfl,h5⟩:=ha
  obtain⟨b,h6,h7⟩:=aE.get (bc.1 h5) hc
  exact⟨l',rfl,bc.2 (aE.sq (bc.1 h5) h6 (hr _ h7))⟩
 ·rename_i h1 h2
  split at hc
  case h_2=>simp at hc
  simp only[Option.some.injEq]at hc
  subst hc
  exact uF h hr hd
theorem GL{ρ:Type}{r:ρ}{n:Int}{K:Int→Tr ρ}:∀ {b m:Nat},(NR b m n K).run=some r→∃ m':Nat,n=Int.ofNat m'∧(K (Int.ofNat m')).run=some r
 |0,m,h=>by simp[NR,Tr.run]at h
 |b+1,m,h=>by
  simp only[NR,Tr.run]at h
  cases hb:n==Int.ofNat m with
  |true=>
   rw[hb]at h
   exact⟨m,eq_of_beq hb,h⟩
  |false=>
   rw[hb]at h
   exact GL h
theorem Bm{α:Type}:∀ {l:List α} {i:Nat} {x:α},l[i]?=some x→l.drop i=x::l.drop (i+1)
 |y::ys,0,x,h=>by simp at h; subst h; simp
 |y::ys,i+1,x,h=>by simp at h ⊢; exact Bm h
 |[],i,x,h=>by simp at h
theorem xE[ag]{ρ:Type}{r:ρ}{t:Nat}{l:List (T.den t)}:∀ {n i:Nat} {K:List (SV T.den)→Tr ρ},(FL t l n i K).run=some r→∃ xs:List (T.den t),xs.length=n∧(l.drop i).take n=xs∧(K (xs.map (T.up t))).run=some r
 |0,i,K,h=>⟨[],rfl,by simp,h⟩
 |n+1,i,K,h=>by
  simp only[FL,Tr.run,Option.bind_eq_some_iff]at h
  obtain⟨x,hx,h⟩:=h
  obtain⟨xs,h1,h2,h3⟩:=xE h
  refine⟨x::xs,by simp[h1],?_,h3⟩
  rw[Bm hx,List.take_succ_cons,h2]
theorem Ot[ag](hT:T.Ok){H:aq T.den}{t:Nat}:∀ {l:List (T.den t)} {m:List AV},aE (T.rp t) l m→RL T H (l.map (T.up t)) m∧aD (l.map (T.up t))=true
 |[],[],_=>by simp[RL,aD]
 |x::xs,y::ys,h=>by
  obtain⟨h1,h2⟩:=Ot hT (H:=H) h.2
  simp only[List.map_cons,RL,aD,Bool.and_eq_true]
  exact⟨⟨hT.up _ _ _ H h.1,h1⟩,xu hT h.1,h2⟩
theorem Ou[ag](hT:T.Ok){ρ:Type}{r:ρ}{w:Tw}{K:bQ T.den→Tr ρ}{s:bQ T.den}{st:St}(h:RS T s st)(hk:(AP s w K).run=some r):∃ s',RS T s' st∧bx s s'∧(K s').run=some r:=by
 cases w with
 |num d j b=>
  simp only[AP]at hk
  split at hk
  case h_2=>simp[Tr.run]at hk
  rename_i k n hc
  obtain⟨m,rfl,Dp⟩:=GL hk
  clear hk
  have hk:=Dp
  rw[force_eq]at hk
  obtain⟨h1,h2⟩:=uH h hc rfl (v':=.lit (.int k (Int.ofNat m))) (fun a ha=>ha) rfl
  exact⟨_,h1,h2,hk⟩
 |ZI d j n=>
  simp only[AP]at hk
  split at hk
  case h_2=>simp[Tr.run]at hk
  rename_i t l hc
  obtain⟨g1,hk⟩:=bp hk
  simp only[Bool.and_eq_true,decide_eq_true_eq]at g1
  obtain⟨g0,g1⟩:=g1
  have g0:0<n:=by simpa using g0
  obtain⟨xs,e1,e2,hk⟩:=xE hk
  rw[List.drop_zero,←g1,List.take_length]at e2
  subst e2
  rw[force_eq]at hk
  have n4:aM (.sl (l.map (T.up t)):SV T.den)=true:=rfl
  obtain⟨h1,h2⟩:=uH h hc rfl (v':=.sl (l.map (T.up t))) (fun a ha=>by
   simp only[R]at ha ⊢
   rcases ha with ⟨l',rfl,ha⟩|⟨rfl,_⟩
   ·obtain⟨b1,b2⟩:=Ot hT (H:=s.hp) ha
    exact⟨l',rfl,b1,b2⟩
   ·simp at g1; omega) n4
  exact⟨_,h1,h2,hk⟩
 |arr d n=>
  simp only[AP]at hk
  split at hk
  case h_2=>simp[Tr.run]at hk
  split at hk
  case h_2=>simp[Tr.run]at hk
  rename_i g f cur t l ho
  obtain⟨g1,hk⟩:=bp hk
  simp only[decide_eq_true_eq]at g1
  obtain⟨xs,e1,e2,hk⟩:=xE hk
  rw[List.drop_zero,←g1,List.take_length]at e2
  subst e2
  rw[force_eq]at hk
  obtain⟨h1,h2⟩:=xD h ho (o':=.arr g true f cur (l.map (T.up t))) rfl (by simp[aK.len]) rfl (fun a ha=>by
   obtain⟨es',rfl,ha⟩:=ha
   obtain⟨b1,b2⟩:=Ot hT (H:=s.hp) ha
   exact⟨es',rfl,b1,fun _=>b2⟩)
  exact⟨_,h1,h2,hk⟩
 |int d j=>
  simp only[AP]at hk
  split at hk
  case h_2=>simp[Tr.run]at hk
  rename_i k n hc
  simp only[Tr.run,Option.bind_some]at hk
  rw[force_eq]at hk
  obtain⟨h1,h2⟩:=uH h hc rfl (v':=.lit (.int k n)) (fun a ha=>ha) rfl
  exact⟨_,h1,h2,hk⟩
 |name d=>
  simp only[AP]at hk
  split at hk
  case h_2=>simp[Tr.run]at hk
  rename_i esz nm c rg cap hd
  split at hk
  case h_2=>simp[Tr.run]at hk
  rename_i g f cur t l ho
  simp only[Tr.run,Option.bind_some]at hk
  obtain⟨h1,h2⟩:=xD h ho (o':=.cD g f cur t l) rfl rfl rfl (fun a ha=>ha)
  split at hk
  ·rw[force_eq]at hk
   exact⟨_,h1,h2,hk⟩
  ·rename_i off len
   simp only[Tr.run,Option.bind_some]at hk
   rw[force_eq]at hk
   obtain⟨h3,h4⟩:=uF h1 (d:=d) (v:=.bw esz nm c (some (off,len)) cap) (fun a ha=>by simp only[hd]at ha; exact ha) (by simp only[hd]; rfl)
   exact⟨_,h3,h2.trans h4,hk⟩
theorem El[ag](hT:T.Ok){ρ:Type}{r:ρ}{K:bQ T.den→Tr ρ}{st:St}:∀ {l:List Tw} {s:bQ T.den},RS T s st→(Xv l s K).run=some r→∃ s',RS T s' st∧bx s s'∧(K s').run=some r
 |[],s,h,hk=>⟨s,h,bx.refl _,hk⟩
 |w::l,s,h,hk=>by
  obtain⟨s1,h1,h2,hk⟩:=Ou hT h hk
  obtain⟨s2,h3,h4,hk⟩:=El hT h1 hk
  exact⟨s2,h3,h2.trans h4,hk⟩
theorem UJ[ag](hT:T.Ok){ρ:Type}{r:ρ}{l:Tmp→List Tw}{dst:Option Tmp}{K:bQ T.den→Tr ρ}{s:bQ T.den}{st:St}(h:RS T s st)(hk:(Xw l dst s K).run=some r):∃ s',RS T s' st∧bx s s'∧(K s').run=some r:=by
 cases dst with
 |none=>exact⟨s,h,bx.refl _,hk⟩
 |some d=>exact El hT h hk
end
theorem xF[ag]{T:eh}{ρ:Type}{r:ρ}{K:bQ T.den→Tr ρ}:∀ {l:List (Nat×Nat)} {s:bQ T.den} {st:St},RS T s st→(AO l s K).run=some r→∃ s',RS T s' (iJ l st)∧bx s s'∧(K s').run=some r
 |[],s,st,h,hk=>⟨s,h,bx.refl _,hk⟩
 |(d,j)::l,s,st,h,hk=>by
  unfold AO at hk
  have hd:=h.fr d
  split at hk
  case h_2=>simp[Tr.run]at hk
  rename_i n c i k he
  rw[he]at hd
  have hd:=hd.live rfl
  simp only[R]at hd
  obtain⟨ax,hd,cI⟩:=hd
  split at hk
  case h_2=>simp[Tr.run]at hk
  rename_i g cl f cur es ho
  obtain⟨ao,dJ,eD⟩:=h.hp.obj ho
  obtain⟨es',rfl,cZ,n4⟩:=eD
  split at hk
  case h_2=>simp[Tr.run]at hk
  rename_i e' Jr
  obtain⟨e,L4,Aq⟩:=Option.bind_eq_some_iff.1 Jr
  obtain⟨ea,X3,Hi⟩:=aE.get (bc.1 cZ) L4
  unfold CM at Aq
  split at Aq
  case h_2=>simp at Aq
  rename_i l0
  split at Aq
  case h_2=>simp at Aq
  rename_i hjl
  simp only[Option.some.injEq]at Aq
  subst Aq
  simp only[R]at Hi
  obtain⟨l',rfl,JZ⟩:=Hi
  have hn:=(List.getElem?_eq_some_iff.1 ho).1
  have acu:Nat.blt (k+j) l'.length=true:=by rw[←aE.length (bc.1 JZ)]; exact hjl
  have Iu:nZ st d j={ st with hp:=st.hp.set n (some (.arr g false f (es'.set i (.agg (l'.set (k+j) .any))))) }:=by
   unfold nZ
   rw[hd]
   simp only[dJ,X3,Option.bind_some,uW,acu]
  rw[dw]at hk
  have hg:ej s.hp (s.hp.set n (some (.arr g false f cur (es.set i (.agg (l0.set (k+j) .hole)))))):=by
   intro m o hm
   by_cases e:m=n
   ·subst e
    rw[ho]at hm
    simp only[Option.some.injEq]at hm
    subst hm
    exact⟨_,List.getElem?_set_self hn,Nat.le_refl _,fun _=>by simp[aK.len]⟩
   ·grind
  have eD:RO T (s.hp.set n (some (.arr g false f cur (es.set i (.agg (l0.set (k+j) .hole)))))) (.arr g false f cur (es.set i (.agg (l0.set (k+j) .hole)))) (.arr g false f (es'.set i (.agg (l'.set (k+j) .any)))):=by
   refine⟨_,rfl,bc.2 (((bc.1 cZ).mono fun _ _ h=>h.mono hg).set i ?_),fun h=>by cases h⟩
   simp only[R]
   exact⟨_,rfl,bc.2 (((bc.1 JZ).mono fun _ _ h=>h.mono hg).set (k+j) (by simp[R]))⟩
  have fW:bu s.hp [(n,.arr g false f cur (es.set i (.agg (l0.set (k+j) .hole))))]=s.hp.set n (some (.arr g false f cur (es.set i (.agg (l0.set (k+j) .hole))))):=by
   grind[bu,cd]
  have SF:av st.hp [(n,.arr g false f (es'.set i (.agg (l'.set (k+j) .any))))]=st.hp.set n (some (.arr g false f (es'.set i (.agg (l'.set (k+j) .any))))):=by
   simp only[av]
   exact jE (List.getElem?_eq_some_iff.1 dJ).1
  have hE:RE T s.hp st.hp (.lit undef) [(n,.arr g false f cur (es.set i (.agg (l0.set (k+j) .hole))))] ⟨.undef,[(n,.arr g false f (es'.set i (.agg (l'.set (k+j) .any))))]⟩:=by
   refine⟨bC _,?_,by rw[fW]; exact hg,fun q hq=>by simp only[List.mem_singleton]at hq; subst hq; simp,fun m hm hl=>?_,by rw[fW]; simp,fun m hm hc=>?_⟩
   ·rw[fW,SF]
    exact(aE.mono (fun _ _ h=>D6.mono hg h) h.hp).set n eD
   ·grind
   ·simp_all[aK.isRec,recAt]
  obtain⟨g1,g2⟩:=h.step hE none
  rw[SF]at g1
  have QH:RS T (s.step none (.lit undef) [(n,.arr g false f cur (es.set i (.agg (l0.set (k+j) .hole))))]) (nZ st d j):=by
   rw[Iu]; exact g1
  obtain⟨s',i1,i2,i3⟩:=xF QH hk
  exact⟨s',i1,g2.trans i2,i3⟩
section
variable [ag]{S:qX}(hS:S.Ok)
include hS
theorem UK(f:FuncId):(S.Qf f).Ok:=⟨hS.Q.row,hS.Q.kind,hS.Q.Sm,hS.Q.map⟩
theorem Ov{ρ:Type}{r:ρ}{g:FuncId}{args:List (SV S.T.den)}{as:List AV}{H:aq S.T.den}{hp:ak}{K:EK S.T ρ}(hh:RH S.T H hp)(ha:RL S.T H args as)(hk:(NT S g args H K).run=some r):
  S.C.kind g=.imp∧S.C.rj g=none∧∃ v rd e,aN hp (BB S.C.P hp.length g as) e rd∧RE S.T H hp v [] e∧(K v [] rd).run=some r:=by
 unfold NT at hk
 split at hk
 case h_2=>simp[Tr.run]at hk
 rename_i fn hkd UL tc
 split at hk
 case h_2=>simp[Tr.run]at hk
 rename_i c hc
 split at hk
 case h_1=>simp[Tr.run]at hk
 rename_i hD
 have lM:=Bh (f:=g) ha hh fn.ntmps [] (js:=[]) (fun n st h=>by cases h)
 have hlen:H.length=hp.length:=hh.length
 have el:bg hp none []=hp:=by simp[bg,rR]
 rw[hlen]at hk
 obtain⟨b,s',ov,rd2,q,g1,g2,g3,g4,g5,hk⟩:=Lj hS.T (UK hS g) hS.Z hlen (f:=g) c _ ⟨as++List.replicate (fn.ntmps-as.length) .undef,none,[]⟩ none _ _ (by simp only[el]; exact lM) rfl (fun n o h=>by cases h) (fun n hn o ho=>⟨o,ho,rfl,rfl⟩) hk
 obtain⟨l,m,i1,i2,hk⟩:=qA hS.T hS.Q g2 hk
 have i1':(bh S.C.P q.fr fn.results.toList).run (bg hp q.ov q.nw)=some m:=i1
 split at hk
 case h_2=>simp[Tr.run]at hk
 rename_i HV
 simp only[Bool.and_eq_true]at HV
 obtain⟨⟨c1,c2⟩,c3⟩:=HV
 have hR0:=J0 i2
 have hR:R S.T H (tf l) (cY m):=R.back g5 hR0 (by rw[hlen]; exact c1)
 refine⟨hkd,UL,tf l,_,⟨cY m,[]⟩,?_,⟨.inr hR,hh,ej.refl _,fun q h=>by simp at h,fun _ _ _=>rfl,Nat.le_refl _,fun _ _ h=>by simp at h⟩,hk⟩
 unfold BB
 rw[tc]
 simp only
 rw[hc]
 simp only
 rw[hD]
 simp only
 have IE:(below hp.length (cY m)&&(match q.ov with
    |some (_,o)=>o.below hp.length
    |none=>true))=true:=by
  rw[Bool.and_eq_true]
  refine⟨by rw[←R.below hR0]; exact c1,?_⟩
  cases hq:q.ov with
  |none=>rfl
  |some x=>
   obtain⟨n,o⟩:=x
   simp only
   rw[hq]at g3
   simp only[Option.map_some]at g3
   rw[g3]at c3
   simp only at c3
   split at c3
   case h_2=>simp at c3
   rename_i so SW
   obtain⟨o0,ho0⟩:=g4 n o hq
   obtain⟨ao,hao,acx⟩:=aE.get g2.hp SW
   have cG:=(List.getElem?_eq_some_iff.1 ho0).1
   have:(bg hp q.ov q.nw)[n]?=some (some o):=by
    rw[hq]
    simp only[bg,rR,ho0]
    rw[List.getElem?_append_left (by simpa using cG),List.getElem?_set_self cG]
   rw[this]at hao
   simp only[Option.some.injEq]at hao
   subst hao
   have:=CZ hS.T acx (n:=hp.length)
   rw[c3]at this
   exact this.symm
 have y1:aN hp (iE S.C.P hp.length c ⟨as++List.replicate (fn.ntmps-as.length) .undef,none,[]⟩) (q,b) rd2:=g1
 have y2:aN hp ((bh S.C.P q.fr fn.results.toList).over hp.length q.ov q.nw) m ((JV s'.fr fn.results.toList).filter fun n=>Nat.blt n hp.length):=
  aN.X8 ⟨i1',fun n hn=>J9 g2 c2 n hn⟩
 have y3:=aN.bind (y1.acr) (f:=fun q=>(bh S.C.P q.1.fr fn.results.toList).over hp.length q.1.ov q.1.nw >>= fun l=>match below hp.length (cY l)&&(match q.1.ov with
    |some (_,o)=>o.below hp.length
    |none=>true) with
   |true=>(pure ⟨cY l,[]⟩:RM ed)
   |false=>.fail) (aN.bind y2 (f:=fun l=>match below hp.length (cY l)&&(match q.ov with
    |some (_,o)=>o.below hp.length
    |none=>true) with
   |true=>(pure ⟨cY l,[]⟩:RM ed)
   |false=>.fail) (b:=⟨cY m,[]⟩) (rd':=[]) (by simp only[IE]; exact aN.pure _))
 rw[List.append_nil,←List.filter_append]at y3
 exact y3
theorem UM{ρ:Type}{r:ρ}{nm:Nat}{o:Oper}{s:bQ S.T.den}{st:St}{K:EK S.T ρ}(h:RS S.T s st)(hn:nm=s.hp.length∨s.hp[nm]?=some none)(qc:aC o.op=false→nm=s.hp.length)(hk:(ZK S nm o s K).run=some r):
  ∃ v wr rd e lg,Kt S.C nm o st.fr st.hp=some (e,lg)∧(∀ n,n∈lg→n∈rd)∧RE S.T s.hp st.hp v wr e∧(K v wr rd).run=some r:=by
 have plain:(∀ c f,o.op=.call c→c.callee=.value f→False)→(∀ c m i,o.op=.call c→c.callee=.invoke m i→False)→(Q0 (S.Qf s.fn) nm s.hp (fZ s.fr) o K).run=some r →
   ∃ v wr rd e lg,Kt S.C nm o st.fr st.hp=some (e,lg)∧(∀ n,n∈lg→n∈rd)∧RE S.T s.hp st.hp v wr e∧(K v wr rd).run=some r:=by
  intro h1 h2 hk
  obtain⟨v,wr,rd,e,g1,g2,g3⟩:=Iy hS.T (UK hS s.fn) (Q:=S.Qf s.fn) hS.Z h.hp hn (fun x=>h.ev x) hk
  refine⟨v,wr,rd,e,_,?_,g1.2,g2,g3⟩
  rw[HE h1 h2]
  have:=g1.1
  rw[show (S.Qf s.fn).P=S.C.P from rfl]at this
  rw[this]
  rfl
 unfold ZK at hk
 split at hk
 ·rename_i c hc
  split at hk
  ·rename_i b hb
   exact plain (fun c' f h1 h2=>by rw[hc]at h1; simp only[Op.call.injEq]at h1; subst h1; rw[hb]at h2; cases h2) (fun c' m i h1 h2=>by rw[hc]at h1; simp only[Op.call.injEq]at h1; subst h1; rw[hb]at h2; cases h2) hk
  ·rename_i f hf
   split at hk
   ·simp[Tr.run]at hk
   rename_i g args hg
   split at hk
   ·rename_i tO
    split at hk
    case h_2=>simp[Tr.run]at hk
    rename_i σ hd hσ
    obtain⟨m,Hb,Cp⟩:=hY (h.ev f) (mO (fun x=>h.ev x) c.args.toList) hg
    obtain⟨v,wr,rd,e,lg,g2,g3,g4,g5⟩:=J2 hS.T (hS.own g σ hσ) h.hp hn (Cp hd) hk
    refine⟨v,wr,rd,_,lg,?_,g3,g4,g5⟩
    obtain⟨dst,op,type,pos,after,guard⟩:=o
    simp only at hc tO
    subst hc
    obtain⟨callee,p5,rb⟩:=c
    simp only at hf
    subst hf
    rw[wL,Hb,tO]
    exact g2
   rename_i tO
   split at hk
   case h_3=>simp[Tr.run]at hk
   case h_2=>
    rename_i hd _
    obtain⟨m,Hb,Cp⟩:=hY (h.ev f) (mO (fun x=>h.ev x) c.args.toList) hg
    obtain⟨hkd,UL,v,rd,e,g1,g2,hk⟩:=Ov hS h.hp (Cp hd) hk
    rw[show st.hp.length=nm from by rw[qc (by assumption),h.hp.length]]at g1
    refine⟨v,[],rd,e,_,?_,g1.2,g2,hk⟩
    obtain⟨dst,op,type,pos,after,guard⟩:=o
    simp only at hc tO
    subst hc
    obtain⟨callee,p5,rb⟩:=c
    simp only at hf
    subst hf
    rw[wL,Hb,tO]
    simp only[Option.bind_some,zY,hkd,UL,g1.1,Option.map_some]
   rename_i σ hd hσ
   obtain⟨m,Hb,Cp⟩:=hY (h.ev f) (mO (fun x=>h.ev x) c.args.toList) hg
   obtain⟨v,wr,rd,a,w,lg,_,g2,g3,g4,g5⟩:=J3 hS.T (hS.sum g σ hσ) h.hp (Cp hd) hk
   refine⟨v,wr,rd,_,lg,?_,g3,g4,g5⟩
   obtain⟨dst,op,type,pos,after,guard⟩:=o
   simp only at hc tO
   subst hc
   obtain⟨callee,p5,rb⟩:=c
   simp only at hf
   subst hf
   rw[wL,Hb,tO]
   exact g2 nm
  ·simp[Tr.run]at hk
 ·rename_i Qd
  exact plain (fun c' f h1 _=>Qd c' h1) (fun c' m i h1 _=>Qd c' h1) hk
theorem UN{k:Nat}(ih:qD S k){ρ:Type}{o:Oper}{s:bQ S.T.den}{K:bQ S.T.den→Tr ρ}{r:ρ}{st:St}(h:RS S.T s st)(hk:(Q5 S (k+1) ρ o s K).run=some r):
  ∃ s' st',jm S.C o st=some (.norm st')∧RS S.T s' st'∧bx s s'∧(K s').run=some r:=by
 have plain:sy o.op=true→(Q0 (S.Qf s.fn) s.hp.length s.hp (fZ s.fr) o fun v wr _=>s.gX o.dst v wr fun s=>FK (match o.op with|.call _=>fun _=>[]|_=>S.C.ta s.fn) o.dst s
    fun s=>Xw (match o.op with|.call _=>fun _=>[]|_=>S.tw s.fn) o.dst s K).run=some r →
   ∃ s' st',jm S.C o st=some (.norm st')∧RS S.T s' st'∧bx s s'∧(K s').run=some r:=by
  intro h1 hk
  obtain⟨v,wr,rd,e,g1,g2,g3⟩:=Iy hS.T (UK hS s.fn) (Q:=S.Qf s.fn) hS.Z h.hp (.inl rfl) (fun x=>h.ev x) hk
  replace g3:(s.gX o.dst v wr fun s=>FK (match o.op with|.call _=>fun _=>[]|_=>S.C.ta s.fn) o.dst s
    fun s=>Xw (match o.op with|.call _=>fun _=>[]|_=>S.tw s.fn) o.dst s K).run=some r:=g3
  rw[dw]at g3
  obtain⟨g4,g5⟩:=h.step g2 o.dst
  have tc:(s.step o.dst v wr).fn=st.fn:=h.fn
  rw[tc]at g3
  obtain⟨s1,i1,i2,i3⟩:=Om hS.T g4 g3
  obtain⟨s',j1,j2,j3⟩:=UJ hS.T i1 i3
  refine⟨s',_,?_,j1,g5.trans (i2.trans j2),j3⟩
  rw[zV h1]
  have:=g1.1
  rw[h.hp.length]at this
  rw[show (S.Qf s.fn).P=S.C.P from rfl]at this
  rw[this]
  rfl
 unfold Q5 at hk
 obtain⟨dst,op,type,pos,after,guard⟩:=o
 simp only at hk
 split at hk
 ·rename_i c
  obtain⟨callee,p5,rb⟩:=c
  split at hk
  ·rename_i b hb
   simp only at hb
   subst hb
   refine plain rfl ?_
   have e:(fun (s:bQ S.T.den)=>FK (fun _=>[]) dst s fun s=>Xw (fun _=>[]) dst s K)=K:=by
    funext s
    cases dst<;>rfl
   simp only[e]
   exact hk
  ·rename_i f hf
   simp only at hf
   subst hf
   split at hk
   ·-- a round of a range over a function
    split at hk
    case h_2=>simp[Tr.run]at hk
    rename_i n hn
    have HW:=(h.ev f).live (by rw[hn]; rfl)
    rw[hn]at HW
    simp only[R]at HW
    split at hk
    case h_2=>simp[Tr.run]at hk
    rename_i fn ps as bd fr ho hj Ow
    split at hk
    case h_2=>simp[Tr.run]at hk
    rename_i hc
    simp only[Bool.and_eq_true]at hc
    obtain⟨⟨VY,PE⟩,XL⟩:=hc
    rw[force_eq]at hk
    have od:=mX (mO (fun x=>h.ev x) p5.toList) Ow
    obtain⟨ao,dJ,eD⟩:=h.hp.obj ho
    obtain⟨x,vs,rfl,qR⟩:=eD
    obtain⟨VZ,V0⟩:=h.js n _ hj
    have hx:x=.ready:=by
     simp_all[jV]
    subst hx
    have hlen:vs.length=fr.length:=qR.length.symm
    obtain⟨p1,p2⟩:=C5 (ps:=ps.toList) (xs:=p5.toList.map (fZ s.fr)) (as:=p5.toList.map (aP st.fr)) (n:=fr.length) (fr:=oA 0 fr) (fa:=vs) (H:=s.hp) hlen (fun t=>by
     rw[xB]
     simp only[Nat.zero_le,if_true,Nat.sub_zero,List.getD_eq_getElem?_getD]
     cases hq:vs[t]? with
     |none=>
      have:fr[t]?=none:=by rw[List.getElem?_eq_none_iff]at hq ⊢; omega
      rw[this]
      exact bC undef
     |some a=>
      obtain⟨v,hv,hr⟩:=aE.get' qR hq
      rw[hv]
      rcases hr with ⟨rfl,_⟩|hr
      ·exact .inl rfl
      ·exact .inr hr) od
    have Qx:RS S.T ⟨fn,fr.length,nJ fr.length (oA 0 fr) ps.toList (p5.toList.map (fZ s.fr)),s.hp,[],s.wh,s.js⟩ ⟨fn,gC vs ps.toList (p5.toList.map (aP st.fr)),st.hp⟩:=⟨rfl,p1,p2,h.hp,h.js⟩
    obtain⟨so1,o1,a1,a2,a3,hk⟩:=ih.c _ _ _ _ _ _ Qx hk
    cases so1 with
    |exit id s1=>simp[Tr.run]at hk
    |ret s1=>simp[Tr.run]at hk
    |norm s1=>
    obtain⟨ZU,rfl,qK⟩:=a2
    simp only at hk
    split at hk
    case h_2=>simp[Tr.run]at hk
    rename_i xM
    obtain⟨_,uM⟩:=qK.js n _ xM
    obtain⟨b1,b2⟩:=J8 qK.hp qK.js xM .busy
    have acy:RS S.T { s1 with js:=D5 s1.js n .busy } { ZU with hp:=qF ZU.hp n .busy }:=⟨qK.fn,qK.n,qK.fr,b1,b2⟩
    obtain⟨UO,o2,c1,c2,c3,hk⟩:=ih.c _ _ _ _ _ _ acy hk
    have key:∀ (s2:bQ S.T.den),bx { s1 with js:=D5 s1.js n .busy } s2→ej s.hp s2.hp∧s.hp.length≤s2.hp.length∧(∀ m:Nat,m<s.hp.length→m∉s2.wh→s2.hp[m]?=s.hp[m]?)∧∀ m,m∈s.wh→m∈s2.wh:=by
     intro s2 sw
     refine⟨a3.grow.trans sw.grow,Nat.le_trans a3.len sw.len,fun m hm hw=>?_,fun m hm=>sw.wh m (a3.wh m hm)⟩
     rw[sw.hp m (Nat.lt_of_lt_of_le hm a3.len) hw]
     exact a3.hp m hm (fun hc=>hw (sw.wh m hc))
    have Ox:jm S.C ⟨dst,.call ⟨.value f,p5,rb⟩,type,pos,after,guard⟩ st=iL (fun c s=>du S.C c s) n (p5.toList.map (aP st.fr)) dst st:=by
     rw[pD,HW.1]
     rfl
    have hy:iL (fun c s=>du S.C c s) n (p5.toList.map (aP st.fr)) dst st=On n dst st o2:=by
     clear c2
     unfold iL
     have e1:(decide ((p5.toList.map (aP st.fr)).length=ps.size)&&ct as&&ct bd)=true:=by
      rw[PE,XL]
      simpa using Nat.eq_of_beq_eq_true VY
     simp only[dJ,e1,a1,uM,c1]
     cases o2<;>rfl
    cases UO with
    |norm s2=>
     obtain⟨Ri,rfl,Dt⟩:=c2
     obtain⟨k1,k2,k3,k4⟩:=key s2 c3
     obtain⟨s',st',d1,d2,d3,hk⟩:=Ek hS.T h Dt k1 k2 k3 k4 hk
     exact⟨s',st',by rw[Ox,hy]; exact d1,d2,d3,hk⟩
    |exit id s2=>
     obtain⟨Ri,rfl,Dt⟩:=c2
     obtain⟨k1,k2,k3,k4⟩:=key s2 c3
     obtain⟨s',st',d1,d2,d3,hk⟩:=Ek hS.T h Dt k1 k2 k3 k4 hk
     exact⟨s',st',by rw[Ox,hy]; exact d1,d2,d3,hk⟩
    |ret s2=>
     obtain⟨Ri,rfl,Dt⟩:=c2
     obtain⟨k1,k2,k3,k4⟩:=key s2 c3
     obtain⟨s',st',d1,d2,d3,hk⟩:=Ek hS.T h Dt k1 k2 k3 k4 hk
     exact⟨s',st',by rw[Ox,hy]; exact d1,d2,d3,hk⟩
   rename_i g args hg
   obtain⟨m,Hb,Cp⟩:=hY (h.ev f) (mO (fun x=>h.ev x) p5.toList) hg
   split at hk
   ·rename_i tO
    split at hk
    case h_2=>simp[Tr.run]at hk
    rename_i σ hd hσ
    obtain⟨v,wr,rd,e,lg,g2,_,g4,g5⟩:=J2 hS.T (hS.own g σ hσ) h.hp (.inl rfl) (Cp hd) hk
    rw[dw]at g5
    obtain⟨g6,g7⟩:=h.step g4 dst
    refine⟨_,_,?_,g6,g7,g5⟩
    rw[pD,Hb]
    rw[h.hp.length]at g2
    simp only[qe,Ch,tO,g2,Option.bind_some,gE]
   rename_i tO
   split at hk
   ·rename_i σ hd hσ
    obtain⟨v,wr,rd,a,w,lg,g1,_,_,g4,g5⟩:=J3 hS.T (hS.sum g σ hσ) h.hp (Cp hd) hk
    rw[dw]at g5
    obtain⟨g6,g7⟩:=h.step g4 dst
    refine⟨_,_,?_,g6,g7,g5⟩
    rw[pD,Hb]
    simp only[qe,Ch,tO,(hS.sum g σ hσ).kind,g1,Option.bind_some,RU]
   ·rename_i hd hσ
    split at hk
    ·simp[Tr.run]at hk
    rename_i Ao
    obtain⟨v,cW,ra,ti,a,gl,g1,g2,g3,gj,g4,g5,g6,g7,hk⟩:=ih.f _ _ _ _ _ _ _ _ _ _ (Cp hd) h.hp h.js hk
    split at hk
    case h_2=>simp[Tr.run]at hk
    rename_i IE
    rw[mZ,dw]at hk
    obtain⟨qK,sw,t2⟩:=yG hS.T h g2 g3 g4 g5 g6 g7 gj IE
    obtain⟨g8,g9⟩:=qK.step (v:=v) (wr:=[]) (e:=⟨a,[]⟩) ⟨.inr t2,qK.hp,ej.refl _,fun q hq=>by simp at hq,fun _ _ _=>rfl,Nat.le_refl _,fun _ _ h=>by simp at h⟩ dst
    refine⟨_,_,?_,g8,sw.trans g9,hk⟩
    rw[pD,Hb]
    simp only[qe,Ch,tO,Ao,g1,Option.bind_some,Mm]
    rw[h.hp.length]
    rfl
   ·simp[Tr.run]at hk
  ·simp[Tr.run]at hk
 ·split at hk
  ·rename_i d
   rw[Mo]
   have tc:=h.fn
   split at hk
   ·rename_i y5
    rw[tc]at y5
    rw[y5]
    simp only[cond_true]
    split at hk
    case h_2=>simp[Tr.run]at hk
    rename_i m hm
    obtain⟨q,ji,_,iG,_⟩:=hS.Q.elem hm
    split at hk
    case isFalse=>simp[Tr.run]at hk
    rename_i mw
    rw[dw]at hk
    have ru:=h.hp.new (nm:=s.hp.length) (o':=.arr true true false 0 []) (a':=.arr true true false []) (.inl rfl) ⟨[],rfl,by simp[RL],fun _=>rfl⟩
    have e1:bu s.hp [(s.hp.length,.arr true true false 0 [])]=cd s.hp s.hp.length (.arr true true false 0 []):=rfl
    have hl:=h.hp.length
    obtain⟨g8,g9⟩:=h.step (v:=.bw m.size s.hp.length 0 none none) (wr:=[(s.hp.length,.arr true true false 0 [])]) (e:=⟨.bw q.size st.hp.length 0 0 0 none,[(st.hp.length,.arr true true false [])]⟩)
     ⟨.inr (by
       rw[e1]
       simp only[R]
       exact⟨0,fU h.hp (.inl rfl) (o:=.arr true true false 0 []),by rw[iG,hl]⟩),
       by
        rw[←hl]
        exact ru.2,by rw[e1]; exact ru.1,fun q hq=>by simp at hq; subst hq; simp[hl],fun n hn hl=>by
        rw[e1]; simp at hn; exact AY hl hn,by rw[e1]; exact yy (.inl rfl),fun m hm hc=>by simp at hc; have:=kq hm; omega⟩ (some d)
    refine⟨_,_,?_,g8,g9,hk⟩
    have acz:aU S.C.P type=some q:=ji
    rw[acz]
    simp only[Option.bind_some]
    rw[if_pos (by rw[iG]; exact mw)]
    simp only[bX,av,setObj,if_true]
   ·rename_i y5
    simp only[Bool.not_eq_true]at y5
    rw[tc]at y5
    rw[y5]
    simp only[cond_false]
    rw[dw]at hk
    obtain⟨g8,g9⟩:=h.step (v:=.lit cx) (wr:=[]) (e:=⟨.lit cx,[]⟩) ⟨bC _,h.hp,ej.refl _,fun q hq=>by simp at hq,fun _ _ _=>rfl,Nat.le_refl _,fun _ _ h=>by simp at h⟩ (some d)
    exact⟨_,_,rfl,g8,g9,hk⟩
  ·-- no variable: nothing happens
   refine⟨s,st,?_,h,bx.refl _,hk⟩
   refine cM (ni S.C _ _) (by simp[iM]) fun k=>?_
   simp only[iM]
 ·rename_i Qd hna
  have hl:(match op with|.call _=>fun _=>[]|_=>S.C.ta s.fn)=S.C.ta s.fn:=by
   cases op<;>first|rfl|exact absurd rfl (Qd _)
  refine plain ?_ ?_
  ·unfold sy
   simp only
  ·simp only
   exact hk
end
end Go.PI
end
section
/- PS, part Q: loops, code, functions: the soundness of the trees. -/
namespace Go.PI
theorem Bn{τ ω:Type}{f:τ→Option (τ ⊕ ω)}:∀ {n:Nat} {x:τ} {w:ω},lR f n x=some w→lR f (n+1) x=some w
 |0,x,w,h=>by simp[lR]at h
 |n+1,x,w,h=>by
  rw[lR]at h ⊢
  cases hf:f x with
  |none=>rw[hf]at h; simp at h
  |some q=>
   rw[hf]at h
   cases q with
   |inl y=>exact Bn h
   |inr z=>exact h
theorem uJ[ag]{τ ω:Type}(f:τ→Option (τ ⊕ ω))(x:τ):gD fun n=>lR f n x:=fun _ _ h=>Bn h
theorem nA[ag]{τ ω:Type}{f:τ→Option (τ ⊕ ω)}{x:τ}{w:ω}:aX f x=some w↔∃ n,lR f n x=some w:=by
 unfold aX
 split
 ·rename_i w' h
  constructor
  ·intro e; exact⟨4096,h.trans e⟩
  ·rintro⟨n,hn⟩
   rw[←(bj (uJ f x)).2 ⟨4096,h⟩,(bj (uJ f x)).2 ⟨n,hn⟩]
 ·exact bj (uJ f x)
theorem FH[ag]{τ ω:Type}(f:τ→Option (τ ⊕ ω))(x:τ):aX f x=(f x).bind fun q=>Sum.elim (aX f) some q:=by
 apply Option.ext
 intro w
 rw[nA]
 constructor
 ·rintro⟨n,h⟩
  cases n with
  |zero=>simp[lR]at h
  |succ n=>
   rw[lR]at h
   cases hf:f x with
   |none=>rw[hf]at h; simp at h
   |some q=>
    rw[hf]at h
    cases q with
    |inl y=>simp only[Option.bind_some,Sum.elim_inl]; exact nA.2 ⟨n,h⟩
    |inr z=>simp_all
 ·intro h
  cases hf:f x with
  |none=>rw[hf]at h; simp at h
  |some q=>
   rw[hf]at h
   cases q with
   |inl y=>
    simp only[Option.bind_some,Sum.elim_inl]at h
    obtain⟨n,hn⟩:=nA.1 h
    exact⟨n+1,by rw[lR,hf]; exact hn⟩
   |inr z=>
    simp only[Option.bind_some,Sum.elim_inr]at h
    exact⟨1,by rw[lR,hf]; exact h⟩
section
variable {T:eh}{ρ:Type}
theorem eC[ag]{H0 H:aq T.den}{K:Tr ρ}{r:ρ}:∀ {objs:List (Nat×dt)},(jd H0 H objs K).run=some r→K.run=some r∧∀ q,q∈objs→∀ t,q.2=.fix t→∀ o o',H0[q.1]?=some (some o)→H[q.1]?=some (some o')→o'.len=o.len
 |[],h=>⟨h,fun q hq=>by simp at hq⟩
 |(n,p)::objs,h=>by
  cases p with
  |fix t=>
   simp only[jd]at h
   split at h
   ·rename_i o o' h1 h2
    obtain⟨g1,g2⟩:=bp h
    simp only[decide_eq_true_eq]at g1
    obtain⟨i1,i2⟩:=eC g2
    refine⟨i1,fun q hq t' e o3 o4 h3 h4=>?_⟩
    rcases List.mem_cons.1 hq with rfl|hq
    ·simp_all
    ·exact i2 q hq t' e o3 o4 h3 h4
   ·simp[Tr.run]at h
  |list t=>
   obtain⟨i1,i2⟩:=eC (objs:=objs) h
   refine⟨i1,fun q hq t' e o3 o4 h3 h4=>?_⟩
   rcases List.mem_cons.1 hq with rfl|hq
   ·simp at e
   ·exact i2 q hq t' e o3 o4 h3 h4
  |one p=>
   obtain⟨i1,i2⟩:=eC (objs:=objs) h
   refine⟨i1,fun q hq t' e o3 o4 h3 h4=>?_⟩
   rcases List.mem_cons.1 hq with rfl|hq
   ·simp at e
   ·exact i2 q hq t' e o3 o4 h3 h4
  |agg ps=>
   obtain⟨i1,i2⟩:=eC (objs:=objs) h
   refine⟨i1,fun q hq t' e o3 o4 h3 h4=>?_⟩
   rcases List.mem_cons.1 hq with rfl|hq
   ·simp at e
   ·exact i2 q hq t' e o3 o4 h3 h4
  |map kk t=>
   obtain⟨i1,i2⟩:=eC (objs:=objs) h
   refine⟨i1,fun q hq t' e o3 o4 h3 h4=>?_⟩
   rcases List.mem_cons.1 hq with rfl|hq
   ·simp at e
   ·exact i2 q hq t' e o3 o4 h3 h4
theorem C6[ag]{key:Nat}{h:Hint}{s0 s:bQ T.den}{kind:Option Nat}{r:ρ}:∀ {l:List DY} {K:BO T.den h.objs l→Tr ρ},(vR key h s0 s kind l K).run=some r →
  ∃ o x w,o∈l∧o.kind=kind∧K1 h s0 s kind o=some x∧(K w).run=some r ∧
    (∀ q,q∈h.objs→∀ t,q.2=.fix t→∀ o o',s0.hp[q.1]?=some (some o)→s.hp[q.1]?=some (some o')→o'.len=o.len) ∧
    ∀ {σ:Type} (K':qU T.den→Tr σ),(PL h s0 l w K').run=(K' (D4 (lv h s0 o x) o.kind)).run
 |[],K,hk=>by simp[vR,Tr.run]at hk
 |[o],K,hk=>by
  simp only[vR]at hk
  split at hk
  ·rename_i x hx
   obtain⟨hk,hl⟩:=eC hk
   refine⟨o,x,x,by simp,?_,hx,hk,hl,fun K'=>?_⟩
   ·grind[K1]
   ·simp only[PL]
    rw[force_eq]
  ·simp[Tr.run]at hk
 |o::p::l,K,hk=>by
  simp only[vR]at hk
  split at hk
  ·rename_i x hx
   obtain⟨hk,hl⟩:=eC hk
   refine⟨o,x,.inl x,by simp,?_,hx,hk,hl,fun K'=>?_⟩
   ·grind[K1]
   ·simp only[PL,Tr.run,Sum.elim_inl]
    rw[force_eq]
  ·obtain⟨o',x,w,h1,h2,h3,h4,h5,h6⟩:=C6 (l:=p::l) hk
   refine⟨o',x,.inr w,List.mem_cons_of_mem _ h1,h2,h3,h4,h5,fun K'=>?_⟩
   simp only[PL,Tr.run,Sum.elim_inr]
   exact h6 K'
theorem Bo{a b:List Nat}(h:subset a b=true){x:Nat}(hx:x∈a):x∈b:=by
 have:=List.all_eq_true.1 h x hx
 simpa using this
theorem Kc[ag]{C7:List (Nat×dt)}{slots0:List (Nat×qV)}{dead0:List Nat}{aG:List (Nat×qV)}{dead:List Nat}{ext:List qW}{s0 sx s:bQ T.den}{l:List (TV T.den)}
  (Wd:nodupB (aG.map (·.1))=true) (ZS:nodupB (C7.map (·.1))=true)
  (acA:sx.fn=s0.fn) (acB:sx.n=s0.n) (acC:∀ t,t∉slots0.map (·.1)++dead0→dj sx.fr t=dj s0.fr t) (acD:∀ n:Nat,n<s0.hp.length→n∉C7.map (·.1)→sx.hp[n]?=s0.hp[n]?) (acE:sx.hp.length=s0.hp.length)
  (Ag:∀ t,t∈slots0.map (·.1)++dead0→t∈aG.map (·.1)++dead) (ha:bx sx s) (hl:uq aG dead C7 ext s0 s=true)
  (UG:∀ q,q∈C7→∃ o,s0.hp[q.1]?=some (some o)∧Start s0.hp o q.2) (abs:xi aG (C7++br s0.hp.length ext) s=some l):Lf T aG dead C7 ext s0 s l:=by
 unfold uq at hl
 simp only[Bool.and_eq_true,decide_eq_true_eq]at hl
 obtain⟨⟨⟨⟨⟨⟨⟨l1,l2⟩,l3⟩,l4⟩,l5⟩,l6⟩,l7⟩,l8⟩:=hl
 refine⟨Wd,ZS,fun d hd=>?_,l2,ha.fn.trans acA,ha.n.trans acB,fun t ht=>?_,fun n hn hm=>?_,l5,l6,l7,l8,UG,abs⟩
 ·have:=List.all_eq_true.1 l1 d hd
  have:=Nat.le_of_ble_eq_true this
  omega
 ·have hw:t∉s.wf:=fun hc=>ht (Bo l3 hc)
  rw[ha.fr t hw,acC t (fun hc=>ht (Ag t hc))]
 ·have hw:n∉s.wh:=fun hc=>hm (Bo l4 (List.mem_filter.2 ⟨hc,by simpa using hn⟩))
  rw[ha.hp n (by rw[acE]; exact hn) hw,acD n hn hm]
end
theorem C8{T:eh}{aG:List (Nat×qV)}{objs:List (Nat×dt)}{s:bQ T.den}{l:List (TV T.den)}(h:xi aG objs s=some l):∃ l0,lI s.hp objs=some l0:=by
 unfold xi at h
 rw[Option.bind_eq_some_iff]at h
 obtain⟨_,_,h⟩:=h
 rw[Option.map_eq_some_iff]at h
 obtain⟨lb,h,_⟩:=h
 exact⟨lb,h⟩
theorem Oz[ag]{T:eh}{aG:List (Nat×qV)}{dead:List Nat}{objs:List (Nat×dt)}{ext:List qW}{s:bQ T.den}{l:List (TV T.den)}{js:List (Nat×m9)}{st:St}
  (h:RS T { dM aG dead objs ext s l with js:=js } st) (hj:js=s.js):RS T (dM aG dead objs ext s l) st:=by
 subst hj; exact⟨h.fn,h.n,h.fr,h.hp,h.js⟩
theorem Lo{T:eh}{n:Nat}{s:bQ T.den}:(lu n s).js=s.js:=by unfold lu; split<;>rfl
theorem Bp[ag]{T:eh}{H:aq T.den}{objs:List (Nat×dt)}{l:List (TV T.den)}(h:lI H objs=some l):sR H H objs=true:=by
 refine List.all_eq_true.2 fun q hq=>?_
 obtain⟨o,_,h1,_⟩:=lZ h q hq
 simp[h1]
theorem En[ag]{T:eh}{H:aq T.den}{objs:List (Nat×dt)}{l:List (TV T.den)}(h:lI H objs=some l):zm H H objs=true:=by
 refine List.all_eq_true.2 fun q hq=>?_
 obtain⟨o,_,h1,_⟩:=lZ h q hq
 split
 ·rfl
 ·simp[h1]
theorem xG[ag]{T:eh}{H:aq T.den}{objs:List (Nat×dt)}{l:List (TV T.den)}(h:lI H objs=some l)(q:Nat×dt)(hq:q∈objs):∃ o,H[q.1]?=some (some o)∧Start H o q.2:=by
 obtain⟨o,ln,h1,h2⟩:=lZ h q hq
 exact⟨o,h1,.inl ⟨ln,h2⟩⟩
theorem GN{objs more:List (Nat×dt)}{n:Nat}(h:n∈objs.map (·.1)):n∈(ki objs more).map (·.1):=by
 unfold ki
 rw[List.map_append]
 by_cases hm:n∈more.map (·.1)
 ·exact List.mem_append_right _ hm
 ·simp_all
theorem Br[ag]{T:eh}{H:aq T.den}{l:List (Nat×dt)}(h:JT H l=true)(q:Nat×dt)(hq:q∈l):∃ o,H[q.1]?=some (some o)∧Start H o q.2:=by
 have:=List.all_eq_true.1 h q hq
 split at this
 ·rename_i g cl f c e p h1 h2
  exact⟨_,h1,.inr ⟨.inl ⟨p,h2⟩,g,cl,f,c,e,rfl⟩⟩
 ·rename_i g cl f c e p h1 h2
  exact⟨_,h1,.inr ⟨.inr ⟨p,h2⟩,g,cl,f,c,e,rfl⟩⟩
 ·simp at this
section
variable [ag]{S:qX}(hS:S.Ok)
include hS
theorem Rn{k:Nat}(ih:qD S k){b:Code}{s:bQ S.T.den}{h:Hint}{l0:List (TV S.T.den)}{x0:HL S.T.den h.lr}(ck:h.ok=true)(hsl:D3 s.n h.aG h.dead=true)(how:xk s.hp.length h.aG h.objs=true)
  (qZ:xi h.aG h.objs s=some l0) (ZV:xe h.lr l0=some x0) {st:St} (lM:RS S.T s st) {w:BO S.T.den h.objs h.outs}
  (hw:aX (fun x=>(bQ.force { dM h.aG h.dead h.objs [] s (gV h.lr x) with wf:=[],wh:=[] } fun s1=>yV S k (HL S.T.den h.lr ⊕ BO S.T.den h.objs h.outs) b s1 fun
       |.norm s'=>
        (match lu s.hp.length s' with
        |uN=>(match decide (uN.js=s.js)&&uq h.aG h.dead h.objs [] s uN,(xi h.aG h.objs uN).bind (xe h.lr) with
         |true,some y=>jd s.hp uN.hp h.objs (.ret (.inl y))
         |_,_=>.bad (uo b s) none s uN))
       |.exit id s'=>vR (uo b s) h s s' (some id) h.outs fun w=>.ret (.inr w)
       |.ret s'=>vR (uo b s) h s s' none h.outs fun w=>.ret (.inr w)).run) x0=some w) :
  ∃ o x so oo,du S.C (.loop b) st=some oo∧so=D4 (lv h s o x) o.kind∧GF S.T so oo∧bx s so.st∧∀ {σ:Type} (K':qU S.T.den→Tr σ),(PL h s h.outs w K').run=(K' so).run:=by
 simp only[Hint.ok,Bool.and_eq_true]at ck
 obtain⟨⟨acF,Yc⟩,acG⟩:=ck
 obtain⟨ai6,GO⟩:=C8 qZ
 have Wd:nodupB (h.aG.map (·.1))=true:=by
  have:∀ {l m:List Nat},nodupB (l++m)=true→nodupB l=true:=by
   intro l m
   induction l with
   |nil=>intro _; rfl
   |cons x xs ih=>
    simp_all[nodupB,decide_eq_false_iff_not]
  exact this acF
 have acH:∀ d,d∈h.aG.map (·.1)++h.dead→d<s.n:=by
  intro d hd
  have:=List.all_eq_true.1 hsl d hd
  have:=Nat.le_of_ble_eq_true this
  omega
 have sxf:∀ x:HL S.T.den h.lr,∀ l,xi h.aG h.objs s=some l→True:=fun _ _ _=>trivial
 clear sxf
 have qg:∀ (x:HL S.T.den h.lr) (sc:bQ S.T.den) (lc:List (TV S.T.den)),Lf S.T h.aG h.dead h.objs [] s sc lc→sc.js=s.js→gV h.lr x=lc→∀ (stc:St),RS S.T sc stc →
   RS S.T (dM h.aG h.dead h.objs [] s (gV h.lr x)) stc∧(dM h.aG h.dead h.objs [] s (gV h.lr x)).hp.length=s.hp.length ∧
   (∀ n:Nat,n<s.hp.length→n∉h.objs.map (·.1)→(dM h.aG h.dead h.objs [] s (gV h.lr x)).hp[n]?=s.hp[n]?) ∧
   (∀ t,t∉h.aG.map (·.1)++h.dead→dj (dM h.aG h.dead h.objs [] s (gV h.lr x)).fr t=dj s.fr t) ∧
   (dM h.aG h.dead h.objs [] s (gV h.lr x)).fn=s.fn∧(dM h.aG h.dead h.objs [] s (gV h.lr x)).n=s.n:=by
  intro x sc lc ho hj hx stc acJ
  obtain⟨r1,r2,r3,r4,r5,r6,_⟩:=J6 hS.T ho lM acJ
  rw[hx]
  refine⟨Oz r1 hj,?_,r3,r4,r5,r6⟩
  rw[r2,ho.len]; rfl
 have main:∀ (n:Nat) (x:HL S.T.den h.lr) (stx:St),RS S.T (dM h.aG h.dead h.objs [] s (gV h.lr x)) stx→(dM h.aG h.dead h.objs [] s (gV h.lr x)).hp.length=s.hp.length →
   (∀ n:Nat,n<s.hp.length→n∉h.objs.map (·.1)→(dM h.aG h.dead h.objs [] s (gV h.lr x)).hp[n]?=s.hp[n]?) →
   (∀ t,t∉h.aG.map (·.1)++h.dead→dj (dM h.aG h.dead h.objs [] s (gV h.lr x)).fr t=dj s.fr t) →
   (dM h.aG h.dead h.objs [] s (gV h.lr x)).fn=s.fn→(dM h.aG h.dead h.objs [] s (gV h.lr x)).n=s.n →
   lR (fun x=>(bQ.force { dM h.aG h.dead h.objs [] s (gV h.lr x) with wf:=[],wh:=[] } fun s1=>yV S k (HL S.T.den h.lr ⊕ BO S.T.den h.objs h.outs) b s1 fun
           |.norm s'=>
            (match lu s.hp.length s' with
            |uN=>(match decide (uN.js=s.js)&&uq h.aG h.dead h.objs [] s uN,(xi h.aG h.objs uN).bind (xe h.lr) with
             |true,some y=>jd s.hp uN.hp h.objs (.ret (.inl y))
             |_,_=>.bad (uo b s) none s uN))
           |.exit id s'=>vR (uo b s) h s s' (some id) h.outs fun w=>.ret (.inr w)
           |.ret s'=>vR (uo b s) h s s' none h.outs fun w=>.ret (.inr w)).run) n x=some w →
   ∃ o x so oo,du S.C (.loop b) stx=some oo∧so=D4 (lv h s o x) o.kind∧GF S.T so oo∧bx s so.st∧∀ {σ:Type} (K':qU S.T.den→Tr σ),(PL h s h.outs w K').run=(K' so).run:=by
  intro n
  induction n with
  |zero=>intro x stx _ _ _ _ _ _ hn; simp[lR]at hn
  |succ n ihn=>
   intro x stx G9 hlen UU Ej tc Qr hn
   rw[lR]at hn
   generalize Lp:({ dM h.aG h.dead h.objs [] s (gV h.lr x) with wf:=[],wh:=[] }:bQ S.T.den)=sx at hn
   have UW:RS S.T sx stx:=by rw[←Lp]; exact⟨G9.fn,G9.n,G9.fr,G9.hp,G9.js⟩
   have e1:sx.fn=s.fn:=by rw[←Lp]; exact tc
   have e2:sx.n=s.n:=by rw[←Lp]; exact Qr
   have e3:∀ t,t∉h.aG.map (·.1)++h.dead→dj sx.fr t=dj s.fr t:=by rw[←Lp]; exact Ej
   have e4:∀ n:Nat,n<s.hp.length→n∉h.objs.map (·.1)→sx.hp[n]?=s.hp[n]?:=by rw[←Lp]; exact UU
   have e5:sx.hp.length=s.hp.length:=by rw[←Lp]; exact hlen
   rw[force_eq]at hn
   have rJ:∀ q,(yV S k (HL S.T.den h.lr ⊕ BO S.T.den h.objs h.outs) b sx fun
       |.norm s'=>
        (match lu s.hp.length s' with
        |uN=>(match decide (uN.js=s.js)&&uq h.aG h.dead h.objs [] s uN,(xi h.aG h.objs uN).bind (xe h.lr) with
         |true,some y=>jd s.hp uN.hp h.objs (.ret (.inl y))
         |_,_=>.bad (uo b s) none s uN))
       |.exit id s'=>vR (uo b s) h s s' (some id) h.outs fun w=>.ret (.inr w)
       |.ret s'=>vR (uo b s) h s s' none h.outs fun w=>.ret (.inr w)).run=some q →
     (∃ y,q=.inl y∧∃ IT,du S.C b stx=some (.norm IT)∧RS S.T (dM h.aG h.dead h.objs [] s (gV h.lr y)) (iK stx.hp.length IT)∧(dM h.aG h.dead h.objs [] s (gV h.lr y)).hp.length=s.hp.length ∧
       (∀ n:Nat,n<s.hp.length→n∉h.objs.map (·.1)→(dM h.aG h.dead h.objs [] s (gV h.lr y)).hp[n]?=s.hp[n]?) ∧
       (∀ t,t∉h.aG.map (·.1)++h.dead→dj (dM h.aG h.dead h.objs [] s (gV h.lr y)).fr t=dj s.fr t) ∧
       (dM h.aG h.dead h.objs [] s (gV h.lr y)).fn=s.fn∧(dM h.aG h.dead h.objs [] s (gV h.lr y)).n=s.n) ∨
     (∃ w',q=.inr w'∧∃ o x so oo,du S.C b stx=some oo∧(∀ s',oo≠.norm s')∧so=D4 (lv h s o x) o.kind∧GF S.T so oo∧bx s so.st∧∀ {σ:Type} (K':qU S.T.den→Tr σ),(PL h s h.outs w' K').run=(K' so).run):=by
    intro q hq
    obtain⟨so,o,c1,c2,c3,c4⟩:=ih.c _ _ _ _ _ _ UW hq
    have leave:∀ (kind:Option Nat) (s':bQ S.T.den) (IT:St),RS S.T s' IT→bx sx s'→(vR (uo b s) h s s' kind h.outs fun w=>(.ret (.inr w):Tr (HL S.T.den h.lr ⊕ BO S.T.den h.objs h.outs))).run=some q →
      ∃ w',q=.inr w'∧∃ o x,o.kind=kind∧RS S.T (lv h s o x) IT∧bx s (lv h s o x)∧∀ {σ:Type} (K':qU S.T.den→Tr σ),(PL h s h.outs w' K').run=(K' (D4 (lv h s o x) o.kind)).run:=by
     intro kind s' IT gm ha hq
     obtain⟨o,x,w',d1,d2,d3,d4,d5,d6⟩:=C6 hq
     simp only[Tr.run,Option.some.injEq]at d4
     refine⟨w',d4.symm,o,x,d2,?_⟩
     unfold K1 at d3
     split at d3
     case h_2=>simp at d3
     rename_i hc
     simp only[Bool.and_eq_true,decide_eq_true_eq]at hc
     obtain⟨hc,PE,XL,hc4⟩:=hc
     rw[Option.bind_eq_some_iff]at d3
     obtain⟨lx,d7,d8⟩:=d3
     have Yd:∀ q,q∈ki h.objs o.more→∃ o,s.hp[q.1]?=some (some o)∧Start s.hp o q.2:=fun q hq=>by
      rcases List.mem_append.1 hq with hq|hq
      ·exact xG GO q (List.mem_filter.1 hq).1
      ·exact Br hc4 q hq
     have y4:Lf S.T o.aG (h.aG.map (·.1)++h.dead) (ki h.objs o.more) o.ext s s' lx:=
      Kc (slots0:=h.aG) (dead0:=h.dead) (List.all_eq_true.1 acG o d1) XL e1 e2 e3 (fun n hn hm=>e4 n hn (fun hc=>hm (GN hc))) e5 (fun t ht=>List.mem_append_right _ ht) ha PE Yd d7
     obtain⟨r1,r2,r3,r4,r5,r6,r7⟩:=J6 hS.T y4 lM gm
     have ex:=qz _ _ _ d8
     refine⟨?_,?_,d6⟩
     ·unfold lv
      rw[ex]
      exact⟨r1.fn,r1.n,r1.fr,r1.hp,by rw[←hc.2]; exact r1.js⟩
     ·unfold lv
      rw[ex]
      refine⟨r5,r6,fun t ht=>r4 t ?_,fun t ht=>?_,fun n hn hw=>r3 n hn ?_,fun n hn=>?_,?_,?_⟩
      ·simp only[List.mem_append,not_or]at ht ⊢
       exact⟨ht.1,ht.2.1,ht.2.2.1⟩
      ·simp only[List.mem_append]
       exact .inr (.inr (.inr ht))
      ·exact fun hc=>hw (List.mem_append_left _ hc)
      ·exact List.mem_append_right _ hn
      ·simp only
       rw[r2,y4.len]
       omega
      ·intro n o' dJ
       have hn:=(List.getElem?_eq_some_iff.1 dJ).1
       by_cases hm:n∈(ki h.objs o.more).map (·.1)
       ·obtain⟨qq,ZW,rfl⟩:=List.mem_map.1 hm
        obtain⟨o0,os,of,g1,g2,g3,g4,g5⟩:=r7 qq ZW
        rw[g1]at dJ
        simp only[Option.some.injEq]at dJ
        subst dJ
        refine⟨of,g3,by rw[g5]; exact J5 _ _,fun ec=>?_⟩
        rw[g4]
        rw[g5]at ec
        obtain⟨oo,m1,m2⟩:=Yd qq ZW
        rw[g1]at m1
        simp only[Option.some.injEq]at m1
        subst m1
        have Ye:=C8 d7
        obtain⟨lS,hlS⟩:=Ye
        obtain⟨oo2,ln2,m3,m4⟩:=lZ hlS qq (List.mem_append_left _ ZW)
        rw[g2]at m3
        simp only[Option.some.injEq]at m3
        subst m3
        cases hp:qq.2 with
        |list t=>rw[hp]at ec; simp[Eh]at ec
        |fix t=>
         rcases List.mem_append.1 ZW with ji|ji
         ·exact d5 qq (List.mem_filter.1 ji).1 t hp o0 os g1 g2
         ·obtain⟨_,_,m5⟩:=Br hc4 qq ji
          rw[hp]at m2
          have:=List.all_eq_true.1 hc4 qq ji
          rw[hp]at this
          simp at this
        |map kk t=>
         rw[hp]at m2 m4
         rcases m2 with ⟨ln,m2⟩|⟨⟨_,m2⟩|⟨_,m2⟩,_⟩
         ·obtain⟨_,rfl,_⟩:=wa m2
          obtain⟨_,rfl,_⟩:=wa m4
          rfl
         ·cases m2
         ·cases m2
        |one p=>
         rw[hp]at m2 m4
         simp only[fo]at m4
         split at m4
         case h_2=>simp at m4
         rcases m2 with ⟨ln,m2⟩|⟨_,_,_,_,_,_,rfl⟩
         ·simp only[fo]at m2
          split at m2
          case h_2=>simp at m2
          rfl
         ·rfl
        |agg p=>
         rw[hp]at m2 m4
         simp only[fo]at m4
         split at m4
         case h_2=>simp at m4
         rcases m2 with ⟨ln,m2⟩|⟨_,_,_,_,_,_,rfl⟩
         ·simp only[fo]at m2
          split at m2
          case h_2=>simp at m2
          rfl
         ·rfl
       ·exact⟨o',by simp only; rw[r3 n hn hm]; exact dJ,Nat.le_refl _,fun _=>rfl⟩
    cases so with
    |norm s'=>
     left
     obtain⟨IT,rfl,gm⟩:=c2
     simp only at c4
     split at c4
     ·rename_i y hl hy
      simp only[Bool.and_eq_true,decide_eq_true_eq]at hl
      obtain⟨QT,hl⟩:=hl
      obtain⟨c5,_⟩:=eC c4
      simp only[Tr.run,Option.some.injEq]at c5
      rw[Option.bind_eq_some_iff]at hy
      obtain⟨ly,A6,yD⟩:=hy
      have hr:=Gz (n:=s.hp.length) hS.T gm (fun m x hm=>by
       rw[Lo]at QT
       rw[QT]at hm
       exact kq (lM.js m x hm).1)
      have sw:bx sx (lu s.hp.length s'):=by
       have:=yE UW c3
       rw[e5]at this
       exact this
      have y4:Lf S.T h.aG h.dead h.objs [] s (lu s.hp.length s') ly:=
       Kc (slots0:=h.aG) (dead0:=h.dead) Wd Yc e1 e2 e3 e4 e5 (fun t ht=>ht) sw hl (xG GO) (by simpa[br] using A6)
      have hle:stx.hp.length=s.hp.length:=by rw[←e5]; exact UW.hp.length.symm
      refine⟨y,c5.symm,IT,c1,?_⟩
      rw[hle]
      exact qg y _ ly y4 QT (qz _ _ _ yD) _ hr
     ·simp[Tr.run]at c4
    |exit id s'=>
     right
     obtain⟨IT,rfl,gm⟩:=c2
     obtain⟨w',f1,o',x',f2,f3,f4,f5⟩:=leave (some id) s' IT gm c3 c4
     refine⟨w',f1,o',x',D4 (lv h s o' x') o'.kind,_,c1,by simp,rfl,?_,?_,f5⟩
     ·rw[f2]; exact⟨IT,rfl,f3⟩
     ·rw[f2]; exact f4
    |ret s'=>
     right
     obtain⟨IT,rfl,gm⟩:=c2
     obtain⟨w',f1,o',x',f2,f3,f4,f5⟩:=leave none s' IT gm c3 c4
     refine⟨w',f1,o',x',D4 (lv h s o' x') o'.kind,_,c1,by simp,rfl,?_,?_,f5⟩
     ·rw[f2]; exact⟨IT,rfl,f3⟩
     ·rw[f2]; exact f4
   split at hn
   ·rename_i y hy
    rcases rJ _ hy with ⟨y',e,IT,g1,g2,g3,g4,g5,g6,g7⟩|⟨w',e,_⟩
    ·simp only[Sum.inl.injEq]at e
     subst e
     obtain⟨o,x',so,oo,i1,i2⟩:=ihn _ _ g2 g3 g4 g5 g6 g7 hn
     refine⟨o,x',so,oo,?_,i2⟩
     rw[pv,g1]
     exact i1
    ·simp at e
   ·rename_i w2 hw2
    simp only[Option.some.injEq]at hn
    subst hn
    rcases rJ _ hw2 with ⟨y',e,_⟩|⟨w',e,o,x',so,oo,g1,g2,g3⟩
    ·simp at e
    ·simp only[Sum.inr.injEq]at e
     subst e
     refine⟨o,x',so,oo,?_,g3⟩
     rw[pv,g1]
     cases oo with
     |norm s'=>exact absurd rfl (g2 s')
     |_=>rfl
   ·simp at hn
 obtain⟨n,hn⟩:=nA.1 hw
 have y4:Lf S.T h.aG h.dead h.objs [] s s l0:=⟨Wd,Yc,acH,by simpa[br] using how,rfl,rfl,fun _ _=>rfl,fun _ _ _=>rfl,rfl,Bp GO,En GO,rfl,xG GO,by simpa[br] using qZ⟩
 obtain⟨r1,r2,r3,r4,r5,r6⟩:=qg x0 s l0 y4 rfl (qz _ _ _ ZV) st lM
 exact main n x0 st r1 r2 r3 r4 r5 r6 hn
def DR(T:eh)(H:aq T.den):Option (SV T.den)→Option AV→Prop
 |none,none=>True
 |some v,some a=>RV T H v a
 |_,_=>False
omit hS in
theorem Ro{k:Nat}(ih:qD S k){ρ:Type}:∀ (c:Code) {s:bQ S.T.den} {K:qU S.T.den→Option (SV S.T.den)→Tr ρ} {r:ρ} {st:St},RS S.T s st→(NU (fun c s K=>yV S k ρ c s K) (fun o s K=>Q5 S k ρ o s K) c s K).run=some r →
  ∃ so d o da,B1 (du S.C) (jm S.C) c st=some (o,da)∧GF S.T so o∧bx s so.st∧DR S.T so.st.hp d da∧(K so d).run=some r:=by
 have leaf:∀ (c:Code) {s:bQ S.T.den} {K:qU S.T.den→Option (SV S.T.den)→Tr ρ} {r:ρ} {st:St},RS S.T s st→(yV S k ρ c s fun o=>K o none).run=some r →
   ∃ so d o da,((du S.C c st).map fun o=>(o,(none:Option AV)))=some (o,da)∧GF S.T so o∧bx s so.st∧DR S.T so.st.hp d da∧(K so d).run=some r:=by
  intro c s K r st h hk
  obtain⟨so,o,c1,c2,c3,hk⟩:=ih.c _ _ _ _ _ _ h hk
  exact⟨so,none,o,none,by rw[c1]; rfl,c2,c3,trivial,hk⟩
 intro c
 induction c with
 |seq x y _ Mh=>
  intro s K r st h hk
  simp only[NU]at hk
  cases hd:uZ x with
  |some q=>
   obtain⟨ops,v⟩:=q
   rw[hd]at hk
   simp only at hk
   rw[sW]at hk
   obtain⟨s1,ZU,g1,g2,g3,hk⟩:=sj (C:=S.C) (fun o s st K h hk=>ih.o _ _ _ _ _ _ h hk) _ _ _ _ h hk
   split at hk
   case h_2=>simp[Tr.run]at hk
   rename_i q dL
   obtain⟨g,l⟩:=q
   obtain⟨m,hm,_⟩:=hY (g2.ev v) (args:=[]) (as:=[]) trivial dL
   obtain⟨so,o,c1,c2,c3,hk⟩:=ih.c _ _ _ _ _ _ g2 hk
   refine⟨so,some (fZ s1.fr v),o,some (aP ZU.fr v),?_,c2,g3.trans c3,(g2.ev v).mono c3.grow,hk⟩
   simp only[B1,hd,rK,g1,hm,c1]
   rfl
  |none=>
   rw[hd]at hk
   simp only at hk
   obtain⟨so,o,c1,c2,c3,hk⟩:=ih.c _ _ _ _ _ _ h hk
   cases so with
   |norm s'=>
    obtain⟨st',rfl,gm⟩:=c2
    obtain⟨UO,d2,o2,da2,e1,e2,e3,e4,hk⟩:=Mh gm hk
    exact⟨UO,d2,o2,da2,by simp only[B1,hd,c1]; exact e1,e2,c3.trans e3,e4,hk⟩
   |ret s'=>
    obtain⟨st',rfl,gm⟩:=c2
    exact⟨.ret s',none,_,none,by simp only[B1,hd,c1],⟨st',rfl,gm⟩,c3,trivial,hk⟩
   |exit id s'=>
    obtain⟨st',rfl,gm⟩:=c2
    exact⟨.exit id s',none,_,none,by simp only[B1,hd,c1],⟨st',rfl,gm⟩,c3,trivial,hk⟩
 |_=>intro s K r st h hk; simp only[NU,B1]at hk ⊢; exact leaf _ h hk
theorem OA{k:Nat}(ih:qD S k){ρ:Type}{s:bQ S.T.den}{st:St}{d:Option (SV S.T.den)}{da:Option AV}{rs:List ResultVar}{K:List (SV S.T.den)→aq S.T.den→List Nat→List (Nat×m9)→Tr ρ}{r:ρ}(h:RS S.T s st)(hd:DR S.T s.hp d da)
  (hk:(FN (fun c s K=>yV S k ρ c s K) S.Q S.C.P rs s d K).run=some r):∃ l cW ra ti m gl,wu (du S.C) S.C.P rs st.fr st.hp da=some (.val (cY m),gl)∧RL S.T cW l m∧RH S.T cW gl∧mn ti cW gl∧ej s.hp cW∧s.hp.length≤cW.length ∧
    (∀ n:Nat,n<s.hp.length→n∉ra→cW[n]?=s.hp[n]?)∧(∀ n,n∈s.wh→n∈ra)∧(K l cW ra ti).run=some r:=by
 cases d with
 |none=>
  cases da with
  |some a=>exact hd.elim
  |none=>
   simp only[FN]at hk
   obtain⟨l,m,g1,g2,hk⟩:=qA hS.T hS.Q h hk
   have QH:(bh S.C.P st.fr rs).run st.hp=some m:=g1
   exact⟨l,s.hp,s.wh,s.js,m,st.hp,by simp only[wu,Hm,QH],g2,h.hp,h.js,ej.refl _,Nat.le_refl _,fun _ _ _=>rfl,fun _ h=>h,hk⟩
 |some v=>
  cases da with
  |none=>exact hd.elim
  |some a=>
   have hd:RV S.T s.hp v a:=hd
   simp only[FN]at hk
   split at hk
   ·simp[Tr.run]at hk
   rename_i g as dL
   split at hk
   ·simp[Tr.run]at hk
   rename_i fg P9
   split at hk
   ·simp[Tr.run]at hk
   rename_i cg Qa
   split at hk
   ·simp[Tr.run]at hk
   rename_i hck
   simp only[Bool.and_eq_true,Bool.not_eq_true']at hck
   obtain⟨m,hm,hmr⟩:=hY hd (args:=[]) (as:=[]) trivial dL
   rw[force_eq]at hk
   have lM:=Bh (f:=g) (hmr hck.2) h.hp fg.ntmps s.wh h.js
   obtain⟨so,o,c1,c2,c3,hk⟩:=ih.c _ _ _ _ _ _ lM hk
   have fin:∀ (t:bQ S.T.den) (tt:St),RS S.T t tt→bx ⟨g,max fg.ntmps as.length,oA 0 as,s.hp,[],s.wh,s.js⟩ t→(o=.norm tt∨o=.ret tt) →
     (um S.T S.Q t fg.results.toList fun _=>um S.T S.Q ⟨s.fn,s.n,s.fr,t.hp,s.wf,t.wh,t.js⟩ rs fun l=>K l t.hp t.wh t.js).run=some r →
     ∃ l cW ra ti m gl,wu (du S.C) S.C.P rs st.fr st.hp (some a)=some (.val (cY m),gl)∧RL S.T cW l m∧RH S.T cW gl∧mn ti cW gl∧ej s.hp cW∧s.hp.length≤cW.length ∧
       (∀ n:Nat,n<s.hp.length→n∉ra→cW[n]?=s.hp[n]?)∧(∀ n,n∈s.wh→n∈ra)∧(K l cW ra ti).run=some r:=by
    intro t tt ht sw ho hk
    obtain⟨l1,m1,f1,_,hk⟩:=qA hS.T hS.Q ht hk
    have f1':(bh S.C.P tt.fr fg.results.toList).run tt.hp=some m1:=f1
    have Dt:RS S.T ⟨s.fn,s.n,s.fr,t.hp,s.wf,t.wh,t.js⟩ ⟨st.fn,st.fr,tt.hp⟩:=⟨h.fn,h.n,fun x=>(h.fr x).mono sw.grow,ht.hp,ht.js⟩
    obtain⟨l,m2,g1,g2,hk⟩:=qA hS.T hS.Q Dt hk
    have QH:(bh S.C.P st.fr rs).run tt.hp=some m2:=g1
    refine⟨l,t.hp,t.wh,t.js,m2,tt.hp,?_,g2,ht.hp,ht.js,sw.grow,sw.len,sw.hp,sw.wh,hk⟩
    simp only[wu,hm,P9,Qa,hck.1,c1]
    rcases ho with rfl|rfl<;>simp only[f1',Hm,QH]
   cases so with
   |norm t=>
    obtain⟨tt,rfl,ht⟩:=c2
    exact fin t tt ht c3 (.inl rfl) hk
   |ret t=>
    obtain⟨tt,rfl,ht⟩:=c2
    exact fin t tt ht c3 (.inr rfl) hk
   |exit id t=>simp[Tr.run]at hk
theorem UX{k:Nat}(ih:qD S k){ρ:Type}{f:FuncId}{args:List (SV S.T.den)}{hp:aq S.T.den}{wh:List Nat}{js:List (Nat×m9)}{K:SV S.T.den→aq S.T.den→List Nat→List (Nat×m9)→Tr ρ}{r:ρ}{as:List AV}{Rl:ak}
  (ha:RL S.T hp args as) (hh:RH S.T hp Rl) (hj:mn js hp Rl) (hk:(Uk S (k+1) ρ f args hp wh js K).run=some r):∃ v cW ra ti a gl,jk S.C f as Rl=some (.val a,gl)∧R S.T cW v a∧RH S.T cW gl∧mn ti cW gl∧ej hp cW∧hp.length≤cW.length ∧
    (∀ n:Nat,n<hp.length→n∉ra→cW[n]?=hp[n]?)∧(∀ n,n∈wh→n∈ra)∧(K v cW ra ti).run=some r:=by
 unfold Uk at hk
 split at hk
 ·simp[Tr.run]at hk
 rename_i fn tc
 split at hk
 ·simp[Tr.run]at hk
 rename_i c hc
 rw[pY,force_eq]at hk
 have lM:=Bh (f:=f) ha hh fn.ntmps wh hj
 split at hk
 ·rename_i hD
  split at hk
  case h_2=>simp[Tr.run]at hk
  rename_i hn
  obtain⟨so,d,o,da,c1,c2,c3,c4,hk⟩:=Ro ih c lM hk
  have fin:∀ (s:bQ S.T.den) (st:St),RS S.T s st→bx ⟨f,max fn.ntmps args.length,oA 0 args,hp,[],wh,js⟩ s→DR S.T s.hp d da→(o=.norm st∨o=.ret st) →
    (FN (fun c s K=>yV S k ρ c s K) S.Q S.C.P fn.results.toList s d fun l hp wh js=>K (tf l) hp wh js).run=some r →
    ∃ v cW ra ti a gl,jk S.C f as Rl=some (.val a,gl)∧R S.T cW v a∧RH S.T cW gl∧mn ti cW gl∧ej hp cW∧hp.length≤cW.length ∧
    (∀ n:Nat,n<hp.length→n∉ra→cW[n]?=hp[n]?)∧(∀ n,n∈wh→n∈ra)∧(K v cW ra ti).run=some r:=by
   intro s st hs sw WL ho hk
   obtain⟨l,cW,ra,ti,m,gl,e1,e2,e3,e4,e5,e6,e7,e8,hk⟩:=OA hS ih hs WL hk
   refine⟨tf l,cW,ra,ti,cY m,gl,?_,J0 e2,e3,e4,sw.grow.trans e5,Nat.le_trans sw.len e6,fun n hn hw=>?_,fun n hn=>e8 n (sw.wh n hn),hk⟩
   ·refine Ml tc hc hD ?_
    unfold wv
    rw[hn,c1]
    rcases ho with rfl|rfl<;>exact e1
   ·rw[e7 n (Nat.lt_of_lt_of_le hn sw.len) hw]
    exact sw.hp n hn fun h=>hw (e8 n h)
  cases so with
  |norm s=>
   obtain⟨st,rfl,hs⟩:=c2
   exact fin s st hs c3 c4 (.inl rfl) hk
  |ret s=>
   obtain⟨st,rfl,hs⟩:=c2
   exact fin s st hs c3 c4 (.inr rfl) hk
  |exit id s=>simp[Tr.run]at hk
 rename_i hD
 obtain⟨so,o,c1,c2,c3,hk⟩:=ih.c _ _ _ _ _ _ lM hk
 have fin:∀ (s:bQ S.T.den) (st:St),RS S.T s st→bx ⟨f,max fn.ntmps args.length,oA 0 args,hp,[],wh,js⟩ s→(Mk S.C fn.results o=((bh S.C.P st.fr fn.results.toList).run st.hp).map fun l=>(.val (cY l),st.hp)) →
   (um S.T S.Q s fn.results.toList fun l=>K (tf l) s.hp s.wh s.js).run=some r →
   ∃ v cW ra ti a gl,jk S.C f as Rl=some (.val a,gl)∧R S.T cW v a∧RH S.T cW gl∧mn ti cW gl∧ej hp cW∧hp.length≤cW.length ∧
   (∀ n:Nat,n<hp.length→n∉ra→cW[n]?=hp[n]?)∧(∀ n,n∈wh→n∈ra)∧(K v cW ra ti).run=some r:=by
  intro s st hs sw he hk
  obtain⟨l,m,g1,g2,hk⟩:=qA hS.T hS.Q hs hk
  refine⟨tf l,s.hp,s.wh,s.js,cY m,st.hp,?_,J0 g2,hs.hp,hs.js,sw.grow,sw.len,sw.hp,sw.wh,hk⟩
  rw[y8 tc hc _ _ hD,c1]
  simp only[Option.bind_some]
  rw[he]
  have QH:(bh S.C.P st.fr fn.results.toList).run st.hp=some m:=g1
  rw[QH]
  rfl
 cases so with
 |norm s=>
  obtain⟨st,rfl,hs⟩:=c2
  exact fin s st hs c3 rfl hk
 |ret s=>
  obtain⟨st,rfl,hs⟩:=c2
  exact fin s st hs c3 rfl hk
 |exit id s=>simp[Tr.run]at hk
theorem UY{k:Nat}(ih:qD S k){ρ:Type}{c:Code}{s:bQ S.T.den}{K:qU S.T.den→Tr ρ}{r:ρ}{st:St}(h:RS S.T s st)(hk:(yV S (k+1) ρ c s K).run=some r):
  ∃ so o,du S.C c st=some o∧GF S.T so o∧bx s so.st∧(K so).run=some r:=by
 unfold yV at hk
 split at hk
 ·exact⟨.norm s,_,pt st,⟨st,rfl,h⟩,bx.refl _,hk⟩
 ·exact⟨.norm s,_,Hz _ st,⟨st,rfl,h⟩,bx.refl _,hk⟩
 ·exact⟨.ret s,_,vj st,⟨st,rfl,h⟩,bx.refl _,hk⟩
 ·rename_i id
  exact⟨.exit id s,_,wJ id st,⟨st,rfl,h⟩,bx.refl _,hk⟩
 ·rename_i a b
  obtain⟨so,o,c1,c2,c3,hk⟩:=ih.c _ _ _ _ _ _ h hk
  rw[gQ,c1]
  cases so with
  |norm s'=>
   obtain⟨st',rfl,gm⟩:=c2
   obtain⟨UO,o2,d1,d2,d3,hk⟩:=ih.c _ _ _ _ _ _ gm hk
   exact⟨UO,o2,d1,d2,c3.trans d3,hk⟩
  |exit id s'=>
   obtain⟨st',rfl,gm⟩:=c2
   exact⟨.exit id s',_,rfl,⟨st',rfl,gm⟩,c3,hk⟩
  |ret s'=>
   obtain⟨st',rfl,gm⟩:=c2
   exact⟨.ret s',_,rfl,⟨st',rfl,gm⟩,c3,hk⟩
 ·rename_i o a b
  split at hk
  ·rename_i t ht
   have ha:=(h.ev o).lit ht
   rw[k9,ha]
   rcases gv hk with ⟨rfl,hk⟩|⟨rfl,hk⟩
   ·exact ih.c _ _ _ _ _ _ h hk
   ·exact ih.c _ _ _ _ _ _ h hk
  ·simp[Tr.run]at hk
 ·rename_i id b
  obtain⟨so,o,c1,c2,c3,hk⟩:=ih.c _ _ _ _ _ _ h hk
  rw[nj,c1]
  cases so with
  |norm s'=>
   obtain⟨st',rfl,gm⟩:=c2
   exact⟨.norm s',_,rfl,⟨st',rfl,gm⟩,c3,hk⟩
  |exit LU s'=>
   obtain⟨st',rfl,gm⟩:=c2
   simp only at hk
   by_cases e:LU=id
   ·rw[if_pos e]at hk
    exact⟨.norm s',.norm st',by simp[wK,e],⟨st',rfl,gm⟩,c3,hk⟩
   ·rw[if_neg e]at hk
    exact⟨.exit LU s',.exit LU st',by simp[wK,e],⟨st',rfl,gm⟩,c3,hk⟩
  |ret s'=>
   obtain⟨st',rfl,gm⟩:=c2
   exact⟨.ret s',_,rfl,⟨st',rfl,gm⟩,c3,hk⟩
 ·rename_i b
  split at hk
  case h_2=>simp[Tr.run]at hk
  rename_i c hc
  obtain⟨so,o,c1,c2,c3,hk⟩:=ih.c _ _ _ _ _ _ h hk
  exact⟨so,o,HA hc c1,c2,c3,hk⟩
 ·rename_i b
  split at hk
  ·split at hk
   ·obtain⟨so,o,c1,c2,c3,hk⟩:=ih.c _ _ _ _ _ _ h hk
    rw[pv,c1]
    cases so with
    |norm s'=>
     obtain⟨st',rfl,gm⟩:=c2
     simp only at hk
     split at hk
     case h_2=>simp[Tr.run]at hk
     rename_i IE
     rw[force_eq]at hk
     have hr:=Gz (n:=s.hp.length) hS.T gm (C1 IE)
     have sw:=yE h c3
     obtain⟨UO,o2,d1,d2,d3,hk⟩:=ih.c _ _ _ _ _ _ hr hk
     refine⟨UO,o2,?_,d2,sw.trans d3,hk⟩
     simp only[Option.bind_some,Mj]
     rw[←h.hp.length]
     exact d1
    |exit id s'=>
     obtain⟨st',rfl,gm⟩:=c2
     exact⟨.exit id s',_,rfl,⟨st',rfl,gm⟩,c3,hk⟩
    |ret s'=>
     obtain⟨st',rfl,gm⟩:=c2
     exact⟨.ret s',_,rfl,⟨st',rfl,gm⟩,c3,hk⟩
   ·simp[Tr.run]at hk
  ·rename_i hi _
   split at hk
   ·rename_i x0 ck ZV
    simp only[Bool.and_eq_true]at ck
    rw[Option.bind_eq_some_iff]at ZV
    obtain⟨l0,h1,h2⟩:=ZV
    simp only[Tr.run,Option.bind_eq_some_iff]at hk
    obtain⟨w,hw,hk⟩:=hk
    obtain⟨o,x,so,oo,g1,g2,g3,g4,g5⟩:=Rn hS ih ck.1.1 ck.1.2 ck.2 h1 h2 h hw
    exact⟨so,oo,g1,g3,g4,by rw[←g5]; exact hk⟩
   ·simp[Tr.run]at hk
 ·rename_i id ops draw
  split at hk
  ·obtain⟨s00,e10,e20,hk⟩:=xF h hk
   obtain⟨s0,e1,e2,hk⟩:=El hS.T e10 hk
   replace e2:=e20.trans e2
   rw[sW]at hk
   obtain⟨s',st',g1,g2,g3,hk⟩:=sj (C:=S.C) (fun o s st K h hk=>ih.o _ _ _ _ _ _ h hk) _ _ _ _ e1 hk
   exact⟨.norm s',.norm st',by rw[Cl,←h.fn]; exact g1,⟨st',rfl,g2⟩,e2.trans g3,hk⟩
  ·split at hk
   case isFalse=>simp[Tr.run]at hk
   rename_i QF
   generalize hm:S.C.head s.fn id ops=m at hk
   have key:∀ (s:bQ S.T.den) (st:St),RS S.T s st→(qu ops ops.toList fun l=>AN (nI (bV 0 s.hp.length (ops.toList.take m)) l) fun li=>ur (fun nm o s K=>ZK S nm o s K) li
       { s with hp:=s.hp++List.replicate ((ops.toList.take m).filter fun o=>aC o.op).length none } [] fun s' fs=>
      if (sS (cH ops.toList) fs && oN (cH ops.toList) ops.size m) = true then yi (fun o s K => Q5 S k ρ o s K) (l.drop m) s' fun s' => K (.norm s') else .no "an order").run = some r →
     ∃ so o,(vk S.C ops (bV 0 st.hp.length (ops.toList.take m)) { st with hp:=st.hp++List.replicate ((ops.toList.take m).filter fun o=>aC o.op).length none }).bind (Jn S.C ops m)=some o ∧
       GF S.T so o∧bx s so.st∧(K so).run=some r:=by
    clear hk h
    intro s st h hk
    rw[sW,CX,tC]at hk
    have hRH:∀ n:Nat,ej s.hp (s.hp++List.replicate n none)∧RH S.T (s.hp++List.replicate n none) (st.hp++List.replicate n none):=by
     intro n
     have hg:ej s.hp (s.hp++List.replicate n none):=fun m o ho=>⟨o,by rw[List.getElem?_append_left (List.getElem?_eq_some_iff.1 ho).1]; exact ho,Nat.le_refl _,fun _=>rfl⟩
     exact⟨hg,aE.append (aE.mono (fun _ _=>D6.mono hg) h.hp) (aE.replicate (show D6 S.T _ none none from trivial) n)⟩
    generalize acP:((ops.toList.take m).filter fun o=>aC o.op).length=Wg at hk
    have qK:RS S.T { s with hp:=s.hp++List.replicate Wg none } { st with hp:=st.hp++List.replicate Wg none }:=
     ⟨h.fn,h.n,fun t=>(h.fr t).mono (hRH Wg).1,(hRH Wg).2,h.js.Ea fun n hn=>⟨by simp only; rw[List.getElem?_append_left (kq hn)],by simp only; rw[List.getElem?_append_left (by rw[←h.hp.length]; exact kq hn)]⟩⟩
    have acQ:bx s { s with hp:=s.hp++List.replicate Wg none }:=
     ⟨rfl,rfl,fun _ _=>rfl,fun _ h=>h,fun n hn _=>by simp only; rw[List.getElem?_append_left hn],fun _ h=>h,by simp,(hRH Wg).1⟩
    obtain⟨s',st',UD,Qt,g1,g2,g3,g4,hk⟩:=xA (C:=S.C) (ops:=ops) (fun nm o s st K h hn hk=>UM hS h hn hk) (bV 0 s.hp.length (ops.toList.take m)) s.hp.length _ _ [] _ (CY _ _ _)
     (by rw[Be,acP]; simp) (fun m hm LH=>by
       simp only at LH ⊢
       rw[List.getElem?_append_right hm,List.getElem?_replicate,if_pos]
       simp at LH; omega) qK hk
    split at hk
    case isFalse=>simp[Tr.run]at hk
    rename_i GP
    rw[Bool.and_eq_true]at GP
    obtain⟨GP,xY⟩:=GP
    obtain⟨s2,Ri,j1,j2,j3,hk⟩:=sj (C:=S.C) (fun o s st K h hk=>ih.o _ _ _ _ _ _ h hk) _ _ _ _ g3 hk
    refine⟨.norm s2,.norm Ri,?_,⟨Ri,rfl,j2⟩,acQ.trans (g4.trans j3),hk⟩
    have hl:=h.hp.length
    rw[←hl]
    rw[g1]
    simp only[Option.bind_some,Jn]
    rw[if_pos]
    ·rw[rK,←j1,List.map_drop]
    ·rw[Bool.and_eq_true]
     simp only[List.nil_append]at GP
     exact⟨Bd g2 (Eg GP),xY⟩
   obtain⟨s00,e10,e20,hk⟩:=xF h hk
   obtain⟨s0,e1,e2,hk⟩:=El hS.T e10 hk
   replace e2:=e20.trans e2
   obtain⟨so,o,i1,i2,i3,hk⟩:=key s0 _ e1 hk
   refine⟨so,o,?_,i2,e2.trans i3,hk⟩
   rw[Kv id ops QF,←h.fn,←tY (S.C.iU s.fn id) st,hm]
   exact i1
 ·-- a range over a function
  rename_i f ps as bd
  split at hk
  case h_2=>simp[Tr.run]at hk
  rename_i g args hg
  split at hk
  case h_2=>simp[Tr.run]at hk
  rename_i nh
  rw[Bool.and_eq_true]at nh
  have hl:=h.hp.length
  have gi:=Lg h nh.2
  obtain⟨H1,LJ⟩:∃ H1,H1=s.hp++[some (aK.qT s.fn ps as bd (yU (eH as++eH bd) s.fr (List.range s.n)))]:=⟨_,rfl⟩
  rw[←LJ]at hk
  have Sw:ej s.hp H1:=fun m o ho=>⟨o,by rw[LJ,List.getElem?_append_left (List.getElem?_eq_some_iff.1 ho).1]; exact ho,Nat.le_refl _,fun _=>rfl⟩
  have gy:H1[s.hp.length]?=some (some (aK.qT s.fn ps as bd (yU (eH as++eH bd) s.fr (List.range s.n)))):=by rw[LJ]; simp
  have hh1:RH S.T H1 (st.hp++[some (.iC (.loop st.fn ps as bd .ready) (zx as bd st.fr))]):=by
   have:aE (D6 S.T H1) (s.hp++[some (aK.qT s.fn ps as bd (yU (eH as++eH bd) s.fr (List.range s.n)))]) (st.hp++[some (.iC (.loop st.fn ps as bd .ready) (zx as bd st.fr))]):=
    aE.append (aE.mono (fun _ _=>D6.mono Sw) h.hp) ⟨⟨.ready,_,by rw[h.fn],aE.mono (fun _ _ h=>h.imp id (R.mono Sw)) gi⟩,trivial⟩
   rw[←LJ]at this
   exact this
  have VZ:mn ((s.hp.length,.ready)::s.js) H1 (st.hp++[some (.iC (.loop st.fn ps as bd .ready) (zx as bd st.fr))]):=by
   intro m x hm
   simp only[cO]at hm
   split at hm
   ·simp_all[recAt,gy,aK.isRec,jV]
   ·obtain⟨h1,h2⟩:=h.js m x hm
    have cG:=kq h1
    exact⟨by rw[si (show H1[m]?=s.hp[m]? by rw[LJ,List.getElem?_append_left cG])]; exact h1,by rw[pZ (List.getElem?_append_left (by omega))]; exact h2⟩
  have hyR:RV S.T H1 (.mp true s.hp.length) (.mp true st.hp.length):=.inr (by simp only[R]; exact⟨by rw[hl],_,gy⟩)
  obtain⟨m,Hb,Cp⟩:=hY ((h.ev f).mono Sw) (show aE (RV S.T H1) [.mp true s.hp.length] [.mp true st.hp.length] from ⟨hyR,trivial⟩) hg
  have Ow:args.any cL=false:=by simpa using nh.1
  obtain⟨v,cW,ra,ti,a,gl,g1,g2,g3,gj,g4,g5,g6,g7,hk⟩:=ih.f _ _ _ _ _ _ _ _ _ _ (Cp Ow) hh1 VZ hk
  have Ji:H1.length=s.hp.length+1:=by rw[LJ]; simp
  have fin:∀ x,cO ti s.hp.length=some x→RS S.T (s.over s.hp.length cW ra ti) { st with hp:=u3 gl st.hp.length }∧bx s (s.over s.hp.length cW ra ti)∧jV gl st.hp.length=some x:=by
   intro x hx
   obtain⟨q1,q2⟩:=gj _ _ hx
   rw[hl]at q2
   obtain⟨V5,ps',qf,bd',DE,hr⟩:=lN q2
   obtain⟨o,ho,ZT⟩:∃ o,cW[s.hp.length]?=some (some o)∧o.isRec=true:=by
    grind[recAt]
   have th:o.cur=0∧o.len=0:=by cases o<;>simp[aK.isRec]at ZT; exact⟨rfl,rfl⟩
   have Fk:u3 gl st.hp.length=gl.set st.hp.length (some (.iC (.loop V5 ps' qf bd' .over) (DE.map fun _=>.any))):=by unfold u3; rw[hr]
   obtain⟨u1,u2⟩:=g3.Wa ho (o':=.jc) (a':=.iC (.loop V5 ps' qf bd' .over) (DE.map fun _=>.any)) (by rw[th.1]; exact Nat.zero_le _) (fun _=>by rw[th.2]; rfl) (.inr ⟨_,_,rfl,fun n=>by
    rw[Bf]
    simp[Go.PI.below]⟩)
   rw[hl]at u2
   have Ci:ej s.hp (cW.set s.hp.length (some .jc)):=Sw.trans (g4.trans u1)
   refine⟨⟨h.fn,h.n,fun t=>(h.fr t).mono Ci,?_,?_⟩,⟨rfl,rfl,fun _ _=>rfl,fun _ h=>h,fun n hn hw=>?_,g7,?_,Ci⟩,q2⟩
   ·rw[Fk]
    show RH S.T (cW.set s.hp.length (some .jc)) _
    rw[hl]; exact u2
   ·intro n y hy
    have Ds:cO (FM ti s.hp.length) n=some y:=hy
    rw[GG]at Ds
    split at Ds
    ·simp at Ds
    rename_i dY
    obtain⟨w1,w2⟩:=gj _ _ Ds
    refine⟨?_,?_⟩
    ·rw[si (show (s.over s.hp.length cW ra ti).hp[n]?=cW[n]? from List.getElem?_set_ne (Ne.symm dY))]; exact w1
    ·rw[Fk,pZ (List.getElem?_set_ne (by rw[←hl]; exact Ne.symm dY))]; exact w2
   ·show (cW.set s.hp.length (some .jc))[n]?=_
    rw[List.getElem?_set_ne (by omega),g6 n (by omega) hw,LJ,List.getElem?_append_left hn]
   ·show s.hp.length≤(cW.set s.hp.length (some .jc)).length
    rw[List.length_set]; omega
  have bz:du S.C (.rangeFunc f ps as bd) st=zA st st.hp.length gl:=by
   rw[HD,Hb]
   simp only[Option.bind_some,g1]
   rfl
  rw[bz]
  split at hk
  ·rename_i hx
   obtain⟨f1,f2,f3⟩:=fin _ hx
   exact⟨.norm _,_,by unfold zA; rw[f3],⟨_,rfl,f1⟩,f2,hk⟩
  ·rename_i hx
   obtain⟨f1,f2,f3⟩:=fin _ hx
   exact⟨.ret _,_,by unfold zA; rw[f3],⟨_,rfl,f1⟩,f2,hk⟩
  ·rename_i id hx
   obtain⟨f1,f2,f3⟩:=fin _ hx
   exact⟨.exit id _,_,by unfold zA; rw[f3],⟨_,rfl,f1⟩,f2,hk⟩
  ·simp[Tr.run]at hk
 ·simp[Tr.run]at hk
theorem GQ:∀ k,qD S k
 |0=>⟨fun _ _ _ _ _ _ _ _ _ _ _ _ _ h=>by simp[Uk,Tr.run]at h,fun _ _ _ _ _ _ _ h=>by simp[yV,Tr.run]at h,fun _ _ _ _ _ _ _ h=>by simp[Q5,Tr.run]at h⟩
 |k+1=>
  have ih:=GQ k
  ⟨fun _ _ _ _ _ _ _ _ _ _ ha hh hj hk=>UX hS ih ha hh hj hk,fun _ _ _ _ _ _ h hk=>UY hS ih h hk,fun _ _ _ _ _ _ h hk=>UN hS ih h hk⟩
end
end Go.PI
end
section
/- PS, part R: from an equation of trees to what is known of a function; laws; arguments read. -/
namespace Go.PI
theorem OB[ag]{S:qX}(hS:S.Ok){k:Nat}{f:FuncId}{σ:yT S.T}(hk:S.C.kind f=.pure)(hi:S.C.kT f=none)(h:∀ x,(Ul S k f σ.args σ.res x).run=σ.fn x):vZ S.C S.T f σ where
 kind:=hk
 UC:=by
  intro x as y hx hy
  rw[←h x]at hy
  unfold Ul at hy
  obtain⟨v,cW,ra,ti,a,gl,g1,g2,g3,_,_,_,_,_,hy⟩:=(GQ hS k).f _ f _ [] [] [] _ _ as [] (Oc hS.T [] hx) (show RH S.T [] [] from trivial) (fun _ _ h=>by simp[cO]at h) hy
  obtain⟨v',rd,a',h1,h2,h3,hy⟩:=Ob g3 g2 hy
  split at hy
  case h_2=>simp[Tr.run]at hy
  rename_i r hr
  simp only[Tr.run,Option.some.injEq]at hy
  subst hy
  rw[Option.bind_eq_some_iff]at hr
  obtain⟨l,hl,hr⟩:=hr
  have Zu:∀ (ts:List Nat) (l:List (SV S.T.den)) r,KX S.T ts l=some r→ts.length=l.length:=by
   intro ts
   induction ts with
   |nil=>
    grind[KX]
   |cons t ts ih=>
    intro l r h
    cases l with
    |nil=>simp[KX]at h
    |cons v l=>
     simp only[KX,Option.bind_eq_some_iff,Option.map_eq_some_iff]at h
     obtain⟨_,_,_,h,_⟩:=h
     simp[ih _ _ h]
  have hlen:=Zu _ _ _ hl
  have key:∃ m,RL S.T cW (NV σ.res v') m∧cY m=a':=by
   unfold NV at hlen ⊢
   split at hlen
   ·exact⟨[a'],by simp only[RL]; exact⟨h2,trivial⟩,rfl⟩
   ·rename_i dY
    have uM:σ.res.length≠1:=by
     intro hc
     match dL:σ.res,hc with
     |[t],_=>exact dY t dL
    split at hlen
    ·simp only[R]at h2
     obtain⟨m,rfl,h2⟩:=h2
     have hm:=h2.length
     refine⟨m,h2,?_⟩
     match m,hm with
     |[],_=>rfl
     |[x],hm=>simp at hm; omega
     |x::y::r,_=>rfl
    ·simp at hlen; omega
  obtain⟨m,Hb,hm3⟩:=key
  have Hj:=Iz hS.T Hb hl
  rw[qz _ _ _ hr]
  refine⟨a,gl,m,?_,?_,?_,Hj⟩
  ·simp only[Od,hi,g1]
  ·rw[hm3]; exact h1.1
  ·rw[hm3]; exact h3.1
def PT(C:Ctx)(T:eh)(M:List (Nat×jO))(hint:FuncId→Nat→Option Hint)(xf:FuncId→Nat→Bool)(L:List (Nat×yT T))(n:Nat)(O:List (Nat×yh T):=[])(yS:FuncId→Nat→Bool:=fun _ _=>false)(tw:FuncId→Tmp→List Tw:=fun _ _=>[]):qX:=
 ⟨C,T,cO (L.take n),hint,xf,M,cO O,yS,tw⟩
theorem C9{α:Type}:∀ {l m:List (Nat×α)} {n:Nat} {a:α},cO (l++m) n=some a→cO l n=some a∨cO m n=some a
 |[],m,n,a,h=>.inr h
 |(k,b)::l,m,n,a,h=>by
  simp only[List.cons_append,cO]at h ⊢
  split at h
  ·exact .inl h
  ·exact C9 h
section
variable {C:Ctx}{T:eh}{M:List (Nat×jO)}{hint:FuncId→Nat→Option Hint}{xf:FuncId→Nat→Bool}{L:List (Nat×yT T)}{O:List (Nat×yh T)}{yS:FuncId→Nat→Bool}{tw:FuncId→Tmp→List Tw}
theorem N0[ag](hT:T.Ok)(hQ:iH.Ok ⟨C.P,M,fun _=>false⟩)(hZ:T.vY ⟨C.P,M,fun _=>false⟩)(hO:∀ g σ,cO O g=some σ→CV C T g σ):(PT C T M hint xf L 0 O yS tw).Ok:=
 ⟨hT,hQ,hZ,fun g σ h=>by simp[PT,cO]at h,hO⟩
theorem Gf[ag]{n:Nat}(hS:(PT C T M hint xf L n O yS tw).Ok){f:FuncId}{σ:yT T}(hL:L[n]?=some (f,σ))(h:vZ C T f σ):(PT C T M hint xf L (n+1) O yS tw).Ok:=by
 refine⟨hS.T,hS.Q,hS.Z,fun g τ hg=>?_,hS.own⟩
 simp only[PT]at hg
 rw[List.take_add_one,hL]at hg
 rcases C9 hg with hg|hg
 ·exact hS.sum g τ hg
 ·have:=fS hg
  simp only[Option.toList_some,List.mem_singleton]at this
  obtain⟨rfl,rfl⟩:=this
  exact h
theorem ar[ag]{n:Nat}(hS:(PT C T M hint xf L n O yS tw).Ok){f:FuncId}{σ:yT T}(hL:L[n]?=some (f,σ))(hk:C.kind f=.pure)(hi:C.kT f=none)(k:Nat)
  (h:∀ x,(Ul (PT C T M hint xf L n O yS tw) k f σ.args σ.res x).run=σ.fn x):(PT C T M hint xf L (n+1) O yS tw).Ok:=
 Gf hS hL (OB hS hk hi h)
theorem Rp[ag]{n:Nat}(hS:(PT C T M hint xf L n O yS tw).Ok){f:FuncId}{σ:yT T}(h:cO (L.take n) f=some σ):vZ C T f σ:=hS.sum f σ h
end
theorem IU[ag]{hp:ak}{v:AV}{b:Bool}(h:(bn 1000 v).run hp=some (.lit (.bool b))):v=.lit (.bool b):=by
 cases v with
 |lit x=>
  simp only[bn]at h
  split at h
  ·simp[RM.run_pure]at h
  ·simpa[RM.run_pure] using h
 |agg l=>simp only[bn,RM.run_bind]at h; cases hq:(ba 999 l).run hp<;>rw[hq]at h<;>simp[RM.run_pure]at h
 |kC l=>simp only[bn,RM.run_bind]at h; cases hq:(ba 999 l).run hp<;>rw[hq]at h<;>simp[RM.run_pure]at h
 |sl l=>simp[bn,RM.run_pure]at h
 |mq l c=>simp[bn,RM.run_pure]at h
 |nz=>simp[bn,RM.run_pure]at h
 |bq e j=>simp[bn,RM.run_pure]at h
 |ref n ax i j=>
  simp only[bn,RM.run_bind]at h
  cases hq:(RM.arr n ax).run hp with
  |none=>rw[hq]at h; simp at h
  |some q=>
   obtain⟨g,c,f,es⟩:=q
   rw[hq]at h
   simp only[Option.bind_some]at h
   split at h
   ·split at h
    ·simp[RM.run_pure]at h
    ·rename_i e _ _
     rw[RM.run_bind]at h
     cases e9:(bn 999 e).run hp<;>rw[e9]at h<;>simp[RM.run_pure]at h
   ·simp[RM.aj]at h
 |jw n ax i j len cap=>
  simp only[bn,RM.run_bind]at h
  cases hq:(RM.arr n ax).run hp with
  |none=>rw[hq]at h; simp at h
  |some q=>
   obtain⟨g,c,f,es⟩:=q
   rw[hq]at h
   simp only[Option.bind_some]at h
   split at h
   ·split at h
    ·split at h
     ·simp[RM.run_pure]at h
     ·rename_i cs _ _ _
      rw[RM.run_bind]at h
      cases e9:(ba 999 ((cs.drop j).take len)).run hp<;>rw[e9]at h<;>simp[RM.run_pure]at h
    ·simp[RM.aj]at h
   ·simp[RM.aj]at h
 |mp n=>simp[bn,RM.aj]at h
 |any=>simp[bn,RM.aj]at h
 |jQ t x=>simp only[bn,RM.run_bind]at h; cases hq:(bn 999 x).run hp<;>rw[hq]at h<;>simp[RM.run_pure]at h
 |jP fn f c=>
  simp only[bn,RM.run_bind]at h
  cases hq:(ba 999 f).run hp with
  |none=>rw[hq]at h; simp at h
  |some f'=>
   cases e9:(ba 999 c).run hp with
   |none=>rw[hq,e9]at h; simp at h
   |some c'=>simp_all[RM.run_pure]
 |bw esz n ax off len cap=>
  simp only[bn,RM.run_bind]at h
  cases hq:(RM.arr n ax).run hp with
  |none=>rw[hq]at h; simp at h
  |some q=>
   obtain⟨g,c,f,es⟩:=q
   rw[hq]at h
   simp only[Option.bind_some]at h
   split at h
   ·split at h
    ·simp[RM.run_pure]at h
    ·rw[RM.run_bind]at h
     cases e9:(ba 999 ((es.drop off).take len)).run hp<;>rw[e9]at h<;>simp[RM.run_pure]at h
   ·simp[RM.aj]at h
open Go.RowKit in
theorem OC[ag]{C:Ctx}{T:eh}(hC:C.Ok){f:FuncId}{σ:yT T}(h:vZ C T f σ)(hi:C.kT f=none){x:HL T.den (σ.args.map .v)}{y:HL T.den (σ.res.map .v)}(hy:σ.fn x=some y)
  (dL:∀ l,aE (Sz T) (gV _ y) l→l=[.lit (.bool true)]) {as:List AV} (ha:aE (Sz T) (gV _ x) as) {W:World} (hg:me (Env.all W)) {vs:List Value} (hr:aw (Env.all W) false as vs) :
  Calls C.P f vs.toArray W fun e w'=>e=.returned (.bool true)∧Below W.heap.size W w':=by
 obtain⟨v,eV,l,h1,h2,_,h4⟩:=h.UC x as y ha hy
 have:=dL l h4
 subst this
 have hv:=IU h2
 subst hv
 unfold Od at h1
 rw[hi]at h1
 simp only at h1
 split at h1
 case h_2=>simp at h1
 rename_i v0 XV bz
 simp only[Option.some.injEq,Prod.mk.injEq]at h1
 obtain⟨rfl,rfl⟩:=h1
 exact Kp hC bz hg hr
end Go.PI
end
section
/- PS, part S: arguments that came in, as typed values. -/
namespace Go.PI
section
variable {P:Program}{n t:Nat}{l:List AV}
theorem lB(h:Shape P n t l):∃ k,n=k+1:=by
 cases n with
 |zero=>simp[Shape]at h
 |succ k=>exact⟨k,rfl⟩
theorem IV[ag](hu:P.underlying t=some .bool)(h:Shape P n t l):∃ b,l=[.lit (.bool b)]:=by
 obtain⟨k,rfl⟩:=lB h
 simpa only[Shape,hu] using h
theorem Da[ag]{i:IntKind}(hu:P.underlying t=some (.int i))(h:Shape P n t l):∃ m:Int,l=[.lit (.int i m)]∧i.min≤m∧m≤i.max:=by
 obtain⟨k,rfl⟩:=lB h
 simp only[Shape,hu]at h
 obtain⟨m,h1,h2⟩:=h
 simp only[Lit.wf,Bool.and_eq_true,decide_eq_true_eq]at h2
 exact⟨m,h1,h2⟩
theorem yH[ag]{e:Nat}{α:Type}{Q:α→AV→Prop}{d:TypeDesc}(hu:P.underlying t=some (.slice e))(he:P.underlying e=some d)(h:Shape P n t l)
  (Me:∀ k x,(∃ cl,(if fK d then x=AV.agg cl else cl=[x])∧Shape P k e cl)→∃ y,Q y x) :
  ∃ ys xs,l=[.sl xs]∧aE Q ys xs∧ys.length≤maxLen:=by
 obtain⟨k,rfl⟩:=lB h
 simp only[Shape,hu]at h
 obtain⟨xs,h1,h2,h3⟩:=h
 have:∃ ys,aE Q ys xs:=by
  clear h1 h2
  induction xs with
  |nil=>exact⟨[],trivial⟩
  |cons x xs ih=>
   obtain⟨ys,h4⟩:=ih fun y hy=>h3 y (List.mem_cons_of_mem _ hy)
   obtain⟨cl,h5,h6⟩:=h3 x (by simp)
   rw[he]at h5
   obtain⟨y,h7⟩:=Me k x ⟨cl,h5,h6⟩
   exact⟨y::ys,h7,h4⟩
 obtain⟨ys,h4⟩:=this
 exact⟨ys,xs,h1,h4,by rw[h4.length]; exact h2⟩
theorem Eo[ag]{fs:Array Field}(hu:P.underlying t=some (.struct fs))(h:Shape P n t l):l.length=P.cellsOf t∧∃ k,∀ f,f∈fs.toList→Shape P k f.type ((l.drop f.offset).take (P.cellsOf f.type)):=by
 obtain⟨k,rfl⟩:=lB h
 simp only[Shape,hu]at h
 exact⟨h.1,k,h.2⟩
theorem kv[ag]{Q:iH}(hQ:Q.Ok){t:Nat}{m:jO}(hm:Q.ty t=some m){fs:List (Nat×Nat)}(hk:m.kind=.struct fs)(h:Shape Q.P n t l):
  l.length=Q.P.cellsOf t∧∃ k,∀ q,q∈fs→Shape Q.P k q.2 ((l.drop q.1).take (Q.P.cellsOf q.2)):=by
 obtain⟨d,hd,Dp⟩:=hQ.kind t m hm
 rw[hk]at Dp
 cases d<;>simp[kindOf]at Dp
 rename_i G7
 subst Dp
 obtain⟨h1,k,h2⟩:=Eo hd h
 refine⟨h1,k,fun q hq=>?_⟩
 obtain⟨f,hf,rfl⟩:=List.mem_map.1 hq
 exact h2 f hf
theorem GR[ag]{Q:iH}(hQ:Q.Ok){t:Nat}{m:jO}(hm:Q.ty t=some m){c e:Nat}(hk:m.kind=.array c e)(h:Shape Q.P n t l):
  l.length=Q.P.cellsOf t∧∃ k,∀ i,i<c→Shape Q.P k e ((l.drop (i*Q.P.cellsOf e)).take (Q.P.cellsOf e)):=by
 obtain⟨d,hd,Dp⟩:=hQ.kind t m hm
 rw[hk]at Dp
 cases d<;>simp[kindOf]at Dp
 obtain⟨rfl,rfl⟩:=Dp
 obtain⟨k,rfl⟩:=lB h
 simp only[Shape,hd]at h
 exact⟨h.1,k,h.2⟩
end
theorem aI{Q:iH}(hQ:Q.Ok){t:Nat}{m:jO}(h:Q.ty t=some m):Q.P.cellsOf t=m.size:=by
 obtain⟨r,h1,_,h2,_⟩:=hQ.row t m h
 unfold ga at h1
 unfold Program.cellsOf
 cases hi:Q.P.info? t with
 |none=>rw[hi]at h1; simp at h1
 |some i=>
  grind
theorem aL[ag]{P:Program}{n t t':Nat}{l:List AV}(hu:P.underlying t=P.underlying t')(h:Shape P n t l)(hc:P.cellsOf t=P.cellsOf t':=by kernel_rfl):Shape P n t' l:=by
 obtain⟨k,rfl⟩:=lB h
 simp only[Shape]at h ⊢
 rw[←hu,←hc]
 exact h
theorem ia{k:IntKind}{n:Int}:bt (.lit (.int k n))=true:=rfl
theorem fV{b:Bool}:bt (.lit (.bool b))=true:=rfl
theorem ib{s:ByteArray}:bt (.lit (.string s))=true:=rfl
theorem GS{T:eh}{H:aq T.den}{v:SV T.den}{vs:List (SV T.den)}{l:List AV}:RL T H (v::vs) l↔∃ c cs,l=c::cs∧R T H v c∧RL T H vs cs:=by
 cases l with
 |nil=>simp[RL]
 |cons c cs=>
  grind[RL]
theorem IW{T:eh}{H:aq T.den}{l:List AV}:RL T H [] l↔l=[]:=by
 cases l<;>simp[RL]
end Go.PI
end
section
/- PS: what must hold of a seat's types, for all the plain kinds at once. -/
namespace Go.PI
section
variable {T:eh}{H:aq T.den}{v:SV T.den}{a:AV}
theorem aA{k:IntKind}{x:Int}(h:dI k v=some x)(hr:R T H v a):a=.lit (.int k x):=by
 unfold dI at h
 split at h
 ·simp_all[R]
 ·simp at h
theorem ss{x:Bool}(h:dB v=some x)(hr:R T H v a):a=.lit (.bool x):=by
 unfold dB at h
 split at h
 ·simp_all[R]
 ·simp at h
theorem Yg{x:ByteArray}(h:dS v=some x)(hr:R T H v a):a=.lit (.string x):=by
 unfold dS at h
 split at h
 ·simp_all[R]
 ·simp at h
theorem OD{α:Type}{q:α→AV→Prop}{d:SV T.den→Option α}(hd:∀ v x a,d v=some x→R T H v a→q x a):∀ (vs:List (SV T.den)) (l:List α) (m:List AV),Xx d vs=some l→RL T H vs m→aE q l m
 |[],l,[],h,_=>by simp[Xx]at h; subst h; trivial
 |v::vs,l,a::m,h,hr=>by
  simp only[RL]at hr
  simp only[Xx,Option.bind_eq_some_iff,Option.map_eq_some_iff]at h
  obtain⟨x,h1,ys,h2,rfl⟩:=h
  exact⟨hd _ _ _ h1 hr.1,OD hd vs ys m h2 hr.2⟩
 |[],_,_::_,_,h=>by simp[RL]at h
 |_::_,_,[],_,h=>by simp[RL]at h
theorem eT{e:Nat}{x:List (T.den e)}{d:SV T.den→Option (T.den e)}(hd:∀ v x a,d v=some x→R T H v a→T.rp e x a)(h:V9 e d v=some x)(hr:R T H v a):Um (T.rp e) x a:=by
 unfold V9 at h
 split at h
 ·rename_i t l
  split at h
  ·rename_i e
   subst e
   have e2:l=x:=Option.some.inj h
   subst e2
   simp only[R]at hr
   exact hr
  ·simp at h
 ·simp only[R]at hr
  obtain⟨m,rfl,hm,_⟩:=hr
  exact .inl ⟨m,rfl,OD hd _ _ _ h hm⟩
 ·grind[R]
 ·simp at h
theorem su{α:Type}{q:α→AV→Prop}{d:SV T.den→Option α}{x:α}(hd:∀ v a,d v=some x→R T H v a→q x a)(h:Q6 d v=some x)(hr:R T H v a):PM q x a:=by
 unfold Q6 at h
 split at h
 ·grind[R]
 ·simp at h
theorem uL{l:Value}(h:a=.lit l):R T H (.lit l) a:=by simp only[R]; exact h
theorem uG{e:Nat}{x:List (T.den e)}(h:Um (T.rp e) x a):R T H (.jN e x) a:=by simp only[R]; exact h
theorem uP{α:Type}{q:α→AV→Prop}{u:α→SV T.den}{x:α}(hu:∀ b,q x b→R T H (u x) b)(hc:aM (u x)=true)(h:PM q x a):R T H (.bq (u x) 0) a:=by
 grind[R]
theorem eI{k:IntKind}{x:Int}(h:a=.lit (.int k x)):aF false 1 a=true∧closed a=true∧bt a=true:=by subst h; exact⟨rfl,rfl,rfl⟩
theorem eB{x:Bool}(h:a=.lit (.bool x)):aF false 1 a=true∧closed a=true∧bt a=true:=by subst h; exact⟨rfl,rfl,rfl⟩
theorem eS{x:ByteArray}(h:a=.lit (.string x)):aF false 1 a=true∧closed a=true∧bt a=true:=by subst h; exact⟨rfl,rfl,rfl⟩
theorem eG{α:Type}{q:α→AV→Prop}{x:List α}(h:Um q x a):aF false 1 a=true∧closed a=true∧bt a=true:=by
 rcases h with ⟨l,rfl,_⟩|⟨_,rfl⟩<;>exact⟨rfl,rfl,rfl⟩
theorem eP{α:Type}{q:α→AV→Prop}{x:α}(h:PM q x a):aF false 1 a=true∧closed a=true∧bt a=true:=by
 obtain⟨b,rfl,_⟩:=h
 exact⟨rfl,rfl,rfl⟩
theorem GU{p q r:Prop}(h:p∧q∧r):p∧q:=⟨h.1,h.2.1⟩
theorem zz{α β:Type}{P:α→β→Prop}{x z:α}{y za:β}(h1:some x=some z)(h2:some y=some za)(h:P x y):P z za:=by
 simp_all
theorem zn{α:Type}{z:α}{p:Prop}(h:(none:Option α)=some z):p:=by cases h
end
end Go.PI
end
section
/- PS, part U: what is lacking of laws to compute by: appends and literal slices. -/
namespace Go.PI
variable {C:Ctx}{P:Program}{dst:Option Tmp}{type:TypeId}{pos:String}{after:Array Edge}{guard:Option (Nat×Bool)}{s:St}{hp:ak}{nm:Nat}{ev:Operand→AV}
theorem Bv[ag]{d:Tmp}(h:C.acc s.fn d=false):jm C ⟨some d,.assign (.const (.slice none 0 0)),type,pos,after,guard⟩ s=some (.norm { s with fr:=s.fr.set d (.lit cx) }):=by
 refine cM (ni C _ _) (by simp[iM]) fun k=>?_
 simp only[iM,h]
 rfl
theorem I0{x y:Operand}{t u:TypeId}:(aV P nm ev ⟨dst,.call ⟨.builtin .append,#[x,y],#[t,u]⟩,type,pos,after,guard⟩).run hp=(fI P nm t u (ev x) (ev y)).run hp:=rfl
theorem Lu{t:TypeId}{r:bO}(yN:aU P t=some r)(hz:(cr r).isSome=true)(hr:0<r.size):
  (aV P nm ev ⟨dst,.buildSlice t 0 #[],type,pos,after,guard⟩).run hp=some ⟨.bw r.size nm 0 0 0 (some 0),[(nm,.arr false true false [])]⟩:=by
 obtain⟨z,hz⟩:=Option.isSome_iff_exists.1 hz
 simp only[aV,jx,yN,hz]
 simp[hr,aZ,gL]
 rfl
theorem Lv[ag]{t u:TypeId}{r:bO}(yN:aU P t=some r)(lM:cf P u=true)(hz:(cr r).isSome=true)(hr:0<r.size){xs:List AV}{c n:Nat}(bK:xs.all (aF r.isAgg r.size)=true)
  (dY:xs≠[]) (DM:(RM.arr n 0).run hp=some (false,true,false,[])) (h1:xs.length*r.bytes≤2^44) (h2:xs.length≤2^44) :
  (fI P nm t u (.bw r.size n 0 0 0 (some 0)) (.mq xs c)).run hp=some ⟨.bw r.size nm xs.length 0 xs.length none,[(nm,.arr true true false xs)]⟩:=by
 have hn:xs.isEmpty=false:=by cases xs<;>simp_all
 have hl:0<xs.length:=List.length_pos_iff.2 dY
 simp only[fI,yN,wq,lM,gw,RM.run_bind,RM.run_pure,Option.bind_some,hz,hr,bK,decide_true,Bool.and_self,hn,DM]
 simp[RM.run_pure,h1,h2,dY]
def O1(d:Option ed):AV→Option ed
 |.lit (.slice none 0 0)=>some ⟨int 0,[]⟩
 |_=>d
theorem O2{d:Option ed}:O1 d (.lit (.slice none 0 0))=some ⟨int 0,[]⟩:=rfl
theorem RA{t:TypeId}{x:Operand}(h:cf P t=true):(aV P nm ev ⟨dst,.call ⟨.builtin .cap,#[x],#[t]⟩,type,pos,after,guard⟩).run hp =
  O1 (MN P nm ev ⟨dst,.call ⟨.builtin .cap,#[x],#[t]⟩,type,pos,after,guard⟩ hp) (ev x):=by
 unfold O1
 split
 ·rename_i hx; simp[aV,dW,hx,h]; rfl
 ·rfl
theorem RB{t:TypeId}{x:Operand}(h:cf P t=true):(aV P nm ev ⟨dst,.call ⟨.builtin .len,#[x],#[t]⟩,type,pos,after,guard⟩).run hp =
  O1 (MN P nm ev ⟨dst,.call ⟨.builtin .len,#[x],#[t]⟩,type,pos,after,guard⟩ hp) (ev x):=by
 unfold O1
 split
 ·rename_i hx; simp[aV,dW,hx,h,p8]; rfl
 ·rfl
theorem RC[ag]{t:TypeId}{x:Operand}{lo hi mx:Option Operand}:(aV P nm ev ⟨dst,.slice t x lo hi mx,type,pos,after,guard⟩).run hp=(pf P t (ev x) (lo.map ev) (hi.map ev) (mx.map ev)).map fun x=>⟨x,[]⟩:=Dx _ _
theorem RF{t:TypeId}{r:bO}(yN:aU P t=some r):pf P t (.lit cx) none (some (int 0)) none=some (.lit cx):=by
 simp[pf,yN,bJ,asNat]
theorem RG{t:TypeId}{r:bO}(yN:aU P t=some r){n ax len:Nat}(hv:0<ax):pf P t (.bw r.size n ax 0 len none) none (some (int 0)) none=some (.bw r.size n ax 0 0 none):=by
 simp[pf,yN,bJ,asNat,hv]
theorem O3[ag]{t u:TypeId}{r:bO}{k:IntKind}{z:AV}{n:Nat}(yN:aU P t=some r)(lM:cf P u=false)(hu:P.underlying u=some (.int k))(hz:cr r=some z)(hr:0<r.size)
  (ho:aF r.isAgg r.size z=true) (hn:0<n) (h1:n*r.bytes≤2^44) (h2:n≤2^44) :
  (fI P nm t u (.lit cx) (int n)).run hp=some ⟨.bw r.size nm n 0 n none,[(nm,.arr true true false (List.replicate n z))]⟩:=by
 have dY:(List.replicate n z).isEmpty=false:=by cases n with
  |zero=>omega
  |succ n=>rfl
 have bK:(List.replicate n z).all (aF r.isAgg r.size)=true:=by simp[ho]
 simp only[fI,yN,wq,lM,hu,hz,tT,RM.run_bind,h1,h2,and_self,if_true,RM.run_pure,Option.bind_some,Option.isSome_some,hr,bK,decide_true,Bool.and_self,dY,List.length_replicate]
theorem I3[ag]{k n:Nat}{xs:List AV}{esz:Nat}{cap:Option Nat}{g f:Bool}(h:(RM.arr n xs.length).run hp=some (g,true,f,xs)):(bn (k+1) (.bw esz n xs.length 0 xs.length cap)).run hp=some (.sl xs):=by
 simp[bn,RM.run_bind,h,RM.run_pure]
def yK:AV→AV
 |.lit (.slice none 0 0)=>.sl []
 |x=>x
theorem De{E:Env}{o:Bool}{x:AV}{v:Value}(h:au E o x v):au E o (yK x) v:=by
 unfold yK
 split
 ·grind[au]
 ·exact h
theorem Bw[ag]{E:Env}{c:Array Value}{esz:Nat}:∀ {xs:List AV} {pos:Nat},eW E xs c pos esz→eW E (xs.map yK) c pos esz
 |[],_,_=>by simp[eW]
 |x::xs,pos,h=>by
  simp only[eW,List.map_cons]at h ⊢
  obtain⟨⟨v,h1,h2⟩,h3⟩:=h
  exact⟨⟨v,De h1,h2⟩,Bw h3⟩
theorem Lw[ag]{E:Env}{o:Bool}{xs:List AV}{v:Value}(h:au E o (.sl xs) v):au E o (.sl (xs.map yK)) v:=by
 simp only[au,List.length_map]at h ⊢
 obtain⟨a,cap,h1,h2,h3,h4⟩:=h
 refine⟨a,cap,h1,h2,h3,?_⟩
 rcases h4 with h4|⟨b,of,esz,c,h5,h6,h7⟩
 ·left; rw[h4]; rfl
 ·exact .inr ⟨b,of,esz,c,h5,h6,Bw h7⟩
def yL:List AV→Option (List (List AV))
 |[]=>some []
 |.sl l::xs=>(yL xs).map fun r=>l::r
 |_::_=>none
theorem G2:∀ {xs:List AV} {ls:List (List AV)},yL xs=some ls→xs=ls.map .sl
 |[],ls,h=>by simp[yL]at h; subst h; rfl
 |x::xs,ls,h=>by
  unfold yL at h
  split at h
  ·rename_i hh; simp at hh
  ·rename_i l xs' hh
   simp only[List.cons.injEq]at hh
   obtain⟨rfl,rfl⟩:=hh
   simp only[Option.map_eq_some_iff]at h
   obtain⟨r,h1,rfl⟩:=h
   rw[G2 h1]; rfl
  ·simp at h
def adK(r:bO):List AV→Option AV
 |[.sl xs]=>if xs.all (aF r.isAgg r.size)=true∧xs.length*r.bytes≤2^44∧xs.length≤2^44 then some (.sl xs) else none
 |[.lit (.slice none 0 0)]=>some (.sl [])
 |_=>none
def oI(r:bO):List AV→Option AV
 |[.sl es]=>(match yL (es.map yK) with
  |some ls=>if ls.length≤2^44∧ls.flatten.all (aF r.isAgg r.size)=true∧ls.flatten.length*r.bytes≤2^44∧ls.flatten.length≤2^44 then some (.sl ls.flatten) else none
  |none=>none)
 |[.lit (.slice none 0 0)]=>some (.sl [])
 |_=>none
theorem G3[ag]{C0:Ctx}(ck:C0.Ok){g:FuncId}{xs:List AV}{r:AV}
  (h0:∃ res eV,jk C0 g [.sl xs] []=some (.val res,eV)∧(bn 1000 res).run eV=some r)
  (Ec:Env) (w:World) (vs:List Value) (hI:Inv Ec [] w) (ha:aw Ec false [.sl xs] vs):Calls C0.P g vs.toArray w (bD Ec w [] (.val r)):=by
 obtain⟨res,eV,he,h⟩:=h0
 have out:(ie [.sl xs] eV (.val res)).run []=some (.val r,[]):=by
  simp only[ie,h]
  split
  ·rfl
  ·simp[cQ,names,eU,RM.run_bind,RM.run_pure]
 have ha2:aw Ec true [.sl xs] vs:=by
  match vs,ha with
  |[],ha=>simp[aw]at ha
  |_::_::_,ha=>simp[aw]at ha
  |[v],ha=>
   simp only[aw]at ha ⊢
   exact⟨au.jz ha.1,trivial⟩
 obtain⟨k,hk⟩:=(bj (kP C0 g [.sl xs] [])).1 he
 have pM:(ba 1000 [.sl xs]).run []=some [.sl xs]:=rfl
 refine wR hI ha2 pM out fun Ec' mC RQ=>?_
 refine(sound ck k).1 g [.sl xs] [] _ _ hk Ec' w vs mC ?_
 match vs,RQ with
 |[],ha=>simp[aw]at ha
 |_::_::_,ha=>simp[aw]at ha
 |[v],ha=>
  simp only[aw]at ha ⊢
  exact⟨au.jz ha.1,trivial⟩
theorem Lk[ag]{C0:Ctx}(ck:C0.Ok){g:FuncId}{r:bO}
  (h1:∀ ls:List (List AV),ls.length≤2^44→(∀ l∈ls,l.all (aF r.isAgg r.size)=true)→ls.flatten.length*r.bytes≤2^44→ls.flatten.length≤2^44 →
    ∃ res eV,jk C0 g [.sl (ls.map .sl)] []=some (.val res,eV)∧(bn 1000 res).run eV=some (.sl ls.flatten))
  {as:List AV} {a:AV} (h:oI r as=some a) (Ec:Env) (w:World) (vs:List Value) (hI:Inv Ec [] w) (ha:aw Ec false as vs):Calls C0.P g vs.toArray w (bD Ec w [] (.val a)):=by
 unfold oI at h
 split at h
 ·rename_i es
  split at h
  case h_2=>simp at h
  rename_i ls QX
  split at h
  case isFalse=>simp at h
  rename_i hc
  simp only[Option.some.injEq]at h
  subst h
  have he:=G2 QX
  refine G3 ck (xs:=ls.map .sl) (h1 ls hc.1 (fun l hl=>?_) hc.2.2.1 hc.2.2.2) Ec w vs hI ?_
  ·have:=hc.2.1
   rw[List.all_eq_true]at this ⊢
   exact fun x hx=>this x (List.mem_flatten.2 ⟨l,hl,hx⟩)
  ·rw[←he]
   match vs,ha with
   |[],ha=>simp[aw]at ha
   |_::_::_,ha=>simp[aw]at ha
   |[v],ha=>
    simp only[aw]at ha ⊢
    exact⟨Lw ha.1,trivial⟩
 ·simp only[Option.some.injEq]at h
  subst h
  refine G3 ck (xs:=[]) (h1 [] (by simp) (by simp) (by simp) (by simp)) Ec w vs hI ?_
  match vs,ha with
  |[],ha=>simp[aw]at ha
  |_::_::_,ha=>simp[aw]at ha
  |[v],ha=>
   simp only[aw]at ha ⊢
   exact⟨De ha.1,trivial⟩
 ·simp at h
end Go.PI
end
section
/- PS, part V: copies of lists and lists laid together, as models. -/
namespace Go.PI
def FC(b n:Nat):Bool:=decide (n*b≤2^44)&&decide (n≤2^44)
def DT{α:Type}(b:Nat)(x:List α):Option (List α):=bif FC b x.length then some x else none
def Em{α:Type}(b:Nat)(x:List (List α)):Option (List α):=bif decide (x.length≤2^44)&&FC b x.flatten.length then some x.flatten else none
def ZY{α:Type}(rpe:α→AV→Prop)(x:List α)(a:AV):Prop:=(∃ l,a=.sl l∧aE rpe x l)∨(x=[]∧a=.lit cx)
theorem Bx[ag]{α:Type}{rpe:α→AV→Prop}:∀ {x:List (List α)} {es:List AV},aE (ZY rpe) x es→∃ ls,yL (es.map yK)=some ls∧aE (aE rpe) x ls
 |[],es,h=>by
  have:=h.FO
  subst this
  exact⟨[],rfl,trivial⟩
 |x::xs,[],h=>by simp[aE]at h
 |x::xs,e::es,h=>by
  simp only[aE]at h
  obtain⟨h1,h2⟩:=h
  obtain⟨ls,h3,h4⟩:=Bx h2
  rcases h1 with ⟨l,rfl,h⟩|⟨rfl,rfl⟩
  ·refine⟨l::ls,?_,h,h4⟩
   simp only[List.map_cons,yK,yL,h3,Option.map_some]
  ·refine⟨[]::ls,?_,trivial,h4⟩
   simp only[List.map_cons,yK,yL,h3,Option.map_some]
theorem wj[ag]{α:Type}{rpe:α→AV→Prop}:∀ {x:List (List α)} {ls:List (List AV)},aE (aE rpe) x ls→aE rpe x.flatten ls.flatten
 |[],ls,h=>by
  have:=h.FO
  subst this
  exact trivial
 |x::xs,[],h=>by simp[aE]at h
 |x::xs,e::es,h=>by
  simp only[aE]at h
  simp only[List.flatten_cons]
  exact h.1.append (wj h.2)
theorem IQ[ag]{α:Type}{rpe:α→AV→Prop}{r:bO}(ck:∀ x a,rpe x a→aF r.isAgg r.size a=true){x:List (List α)}{y:List α}{a:AV}(ha:ZY (ZY rpe) x a)(hy:Em r.bytes x=some y):
  ∃ l,oI r [a]=some (.sl l)∧aE rpe y l:=by
 unfold Em FC at hy
 cases hq:decide (x.length≤2^44)&&(decide (x.flatten.length*r.bytes≤2^44)&&decide (x.flatten.length≤2^44))
 ·rw[hq]at hy; simp at hy
 rw[hq]at hy
 simp only[cond_true,Option.some.injEq]at hy
 subst hy
 simp only[Bool.and_eq_true,decide_eq_true_eq]at hq
 rcases ha with ⟨es,rfl,h⟩|⟨rfl,rfl⟩
 ·obtain⟨ls,h1,h2⟩:=Bx h
  have h3:=wj h2
  rw[h3.length,h2.length]at hq
  refine⟨ls.flatten,?_,h3⟩
  unfold oI
  simp only
  rw[h1]
  simp only
  have bK:ls.flatten.all (aF r.isAgg r.size)=true:=by
   refine List.all_eq_true.2 fun z hz=>?_
   obtain⟨i,hi⟩:=List.getElem?_of_mem hz
   obtain⟨u,_,hu⟩:=h3.get' hi
   exact ck _ _ hu
  rw[if_pos ⟨hq.1,bK,hq.2.1,hq.2.2⟩]
 ·exact⟨[],rfl,trivial⟩
theorem IP[ag]{C:Ctx}{T:eh}{g:FuncId}{t u:Nat}{I:List AV→Option AV}{F:T.den t→Option (T.den u)}(hk:C.kind g=.pure)(hi:C.kT g=some I)
  (h:∀ x a y,T.rp t x a→F x=some y→∃ l,I [a]=some (.sl l)∧T.rp u y (.sl l)):vZ C T g ⟨[t],[u],F⟩ where
 kind:=hk
 UC:=by
  intro x as y hx hy
  match as,hx with
  |[],hx=>exact False.elim hx
  |_::_::_,hx=>exact False.elim hx.2
  |[a],hx=>
   obtain⟨l,h1,h2⟩:=h x a y hx.1 hy
   refine⟨.sl l,[],[.sl l],?_,rfl,rfl,?_⟩
   ·simp only[Od,hi,h1]; rfl
   ·exact⟨h2,trivial⟩
end Go.PI
end
section
/- PS, part W: a copy of a slice is the caller's own. -/
namespace Go.PI
theorem RI[ag]{Ec:Env}{w w':World}{en:Ending}(esz:Nat)(h:bD Ec w [] (.val (.lit cx)) en w'):
  bD Ec w [some (.arr true true false [])] (.val (.bw esz 0 0 0 0 none)) en w':=by
 obtain⟨E',hx,hI,hf,hr⟩:=h
 cases en with
 |panicked ch=>exact hr.elim
 |outgrown=>exact hr.elim
 |returned v=>
  simp only[zO,au]at hr
  obtain⟨E2,oQ,wS,nt,M5⟩:=DK hI (esz:=esz)
  refine⟨E2,hx.trans oQ,wS,hf.trans nt,?_⟩
  simp only[zO]
  rw[hr]
  exact M5
theorem Lx[ag]{Ec:Env}{w w':World}{en:Ending}{eV:ak}{n esz:Nat}{cl:Bool}(hn:eV[n]?=some (some (.arr false cl false [])))
  (h:bD Ec w eV (.val (.bw esz n 0 0 0 (some 0))) en w'):bD Ec w (eV.set n (some (.arr true true false []))) (.val (.bw esz n 0 0 0 none)) en w':=by
 obtain⟨E',hx,hI,hf,hr⟩:=h
 cases en with
 |panicked ch=>exact hr.elim
 |outgrown=>exact hr.elim
 |returned v=>
  have nS:∀ i o,(eV.set n (some (aY.arr true true false [])))[i]?=some (some o)→(i=n∧o=.arr true true false [])∨(i≠n∧eV[i]?=some (some o)):=by
   grind
  have fH:∀ i b,cE E' (eV.set n (some (aY.arr true true false []))) i b→cE E' eV i b:=by
   rintro i b ⟨o,l,ho,hl,hb⟩
   rcases nS i o ho with ⟨rfl,rfl⟩|⟨_,ho⟩
   ·exact⟨_,l,hn,hl,hb⟩
   ·exact⟨o,l,ho,hl,hb⟩
  have DM:=hI.objs n _ hn
  refine⟨E',hx,⟨by simpa using hI.len,?_,?_,fun n1 n2 b h1 h2=>hI.inj n1 n2 b (fH _ _ h1) (fH _ _ h2),hI.mem,hI.qa,hI.kE⟩,hf,?_⟩
  ·intro i o ho
   rcases nS i o ho with ⟨rfl,rfl⟩|⟨_,ho⟩
   ·obtain⟨l,hl,hv,hm⟩:=DM
    refine⟨l,hl,hv,?_⟩
    cases hb:l.ma with
    |none=>rw[hb]at hm; exact⟨rfl,rfl⟩
    |some b=>
     rw[hb]at hm
     obtain⟨c,T,a1,a2,a3,a4,a5,_,_⟩:=hm
     exact⟨c,T,a1,a2,a3,a4,a5,(fun h=>by cases h),fun i e he=>by simp at he⟩
   ·exact hI.objs i o ho
  ·intro i ax h
   by_cases e:i=n
   ·subst e; rw[cC hn]at h; simp at h
   ·rw[List.getElem?_set_ne (fun h=>e h.symm)]at h
    exact hI.free i ax h
  ·simp only[zO,au]at hr ⊢
   obtain⟨h1,h2,l,hl,pj,hv,hm⟩:=hr
   refine⟨h1,h2,l,hl,pj,hv,?_⟩
   obtain⟨l2,rq,_,Cp⟩:=DM
   rw[show ([]:List AV).length=0 from rfl,hl]at rq
   cases rq
   cases hb:l.ma with
   |none=>rw[hb]at hm; simp at hm
   |some b=>
    rw[hb]at hm Cp
    obtain⟨c,T,_,_,_,_,_,hg,_⟩:=Cp
    obtain⟨a,dX,rfl,hk,_,h3,h4,h5,h6⟩:=hm
    have:=hk 0 rfl
    subst this
    have tN:=hg rfl
    exact⟨a,0,rfl,fun k Jh=>by simp at Jh,fun _=>by simp at tN; omega,h3,h4,h5,h6⟩
def sr(r:bO):List AV→Option (AV×ak)
 |[.sl xs]=>if xs.all (aF r.isAgg r.size)=true∧xs.length*r.bytes≤2^44∧xs.length≤2^44 then some (.bw r.size 0 xs.length 0 xs.length none,[some (.arr true true false xs)]) else none
 |[.lit (.slice none 0 0)]=>some (.bw r.size 0 0 0 0 none,[some (.arr true true false [])])
 |_=>none
theorem G4{nm n m esz:Nat}{cl cl':Bool}{es:List AV}{eV yO:ak}(h:eV[n]?=some (some (.arr true cl false es)))(h':yO[m]?=some (some (.arr true cl' false es))):
  ee nm (.bw esz n es.length 0 es.length none) eV=ee nm (.bw esz m es.length 0 es.length none) yO:=by
 simp only[ee,h,h']
theorem Ll[ag]{C0:Ctx}(ck:C0.Ok){g:FuncId}{r:bO}
  (h0:jk C0 g [.lit cx] []=some (.val (.lit cx),[]))
  (he:∀ cap,∃ n cl eV,jk C0 g [.mq [] cap] []=some (.val (.bw r.size n 0 0 0 (some 0)),eV)∧eV[n]?=some (some (.arr false cl false [])))
  (h1:∀ xs cap,xs≠[]→xs.all (aF r.isAgg r.size)=true→xs.length*r.bytes≤2^44→xs.length≤2^44 →
    ∃ n cl eV,jk C0 g [.mq xs cap] []=some (.val (.bw r.size n xs.length 0 xs.length none),eV)∧eV[n]?=some (some (.arr true cl false xs)))
  {as:List AV} {a:AV} {eV:ak} (h:sr r as=some (a,eV)) (Ec:Env) (w:World) (vs:List Value) (hI:Inv Ec [] w) (ha:aw Ec false as vs) :
  Calls C0.P g vs.toArray w (fun en w'=>∃ r' yO,bD Ec w yO (.val r') en w'∧∀ nm,ee nm r' yO=ee nm a eV):=by
 have Kg:∀ v,v=cx→Calls C0.P g #[v] w (fun en w'=>∃ r' yO,bD Ec w yO (.val r') en w'∧∀ nm,ee nm r' yO=ee nm (.bw r.size 0 0 0 0 none) [some (.arr true true false [])]):=by
  intro v hv
  obtain⟨k,hk⟩:=(bj (kP C0 g [.lit cx] [])).1 h0
  refine((sound ck k).1 g [.lit cx] [] _ _ hk Ec w [v] hI (by simp only[aw,au]; exact⟨hv,trivial⟩)).mono fun en w' hp=>?_
  exact⟨_,_,RI r.size hp,fun _=>rfl⟩
 unfold sr at h
 split at h
 ·rename_i xs
  split at h
  case isFalse=>simp at h
  rename_i hc
  simp only[Option.some.injEq,Prod.mk.injEq]at h
  obtain⟨rfl,rfl⟩:=h
  match vs,ha with
  |[],ha=>simp[aw]at ha
  |_::_::_,ha=>simp[aw]at ha
  |[v],ha=>
   have vm:=ha
   simp only[aw,au]at vm
   obtain⟨⟨ad,cap,hv,hle,hn,ZT⟩,_⟩:=vm
   cases ad with
   |none=>
    have hx:xs=[]:=by
     simp_all
    subst hx
    exact Kg v (by rw[hv,hn rfl]; rfl)
   |some ad=>
    have SR:aw Ec true [.mq xs cap] [v]:=by
     simp_all[aw,au]
    by_cases hx:xs=[]
    ·subst hx
     obtain⟨n,cl,eV,hr,xL⟩:=he cap
     obtain⟨k,hk⟩:=(bj (kP C0 g [.mq [] cap] [])).1 hr
     refine((sound ck k).1 g [.mq [] cap] [] _ _ hk Ec w [v] hI SR).mono fun en w' hp=>?_
     exact⟨_,_,Lx xL hp,fun nm=>G4 (es:=[]) (cC xL) rfl⟩
    ·obtain⟨n,cl,eV,hr,xL⟩:=h1 xs cap hx hc.1 hc.2.1 hc.2.2
     obtain⟨k,hk⟩:=(bj (kP C0 g [.mq xs cap] [])).1 hr
     refine((sound ck k).1 g [.mq xs cap] [] _ _ hk Ec w [v] hI SR).mono fun en w' hp=>?_
     exact⟨_,_,hp,fun nm=>G4 xL rfl⟩
 ·simp only[Option.some.injEq,Prod.mk.injEq]at h
  obtain⟨rfl,rfl⟩:=h
  match vs,ha with
  |[],ha=>simp[aw]at ha
  |_::_::_,ha=>simp[aw]at ha
  |[v],ha=>
   simp only[aw,au]at ha
   exact Kg v ha.1
 ·simp at h
theorem IM{α:Type}{rpe:α→AV→Prop}{r:bO}(ck:∀ x a,rpe x a→aF r.isAgg r.size a=true){x y:List α}{a:AV}(ha:ZY rpe x a)(hy:DT r.bytes x=some y):
  ∃ l,sr r [a]=some (.bw r.size 0 l.length 0 l.length none,[some (.arr true true false l)])∧aE rpe y l:=by
 unfold DT FC at hy
 rcases ha with ⟨l,rfl,h⟩|⟨rfl,rfl⟩
 ·cases hq:decide (x.length*r.bytes≤2^44)&&decide (x.length≤2^44)
  ·rw[hq]at hy; simp at hy
  rw[hq]at hy
  simp only[cond_true,Option.some.injEq]at hy
  subst hy
  simp only[Bool.and_eq_true,decide_eq_true_eq]at hq
  rw[h.length]at hq
  refine⟨l,?_,h⟩
  unfold sr
  simp only
  have bK:l.all (aF r.isAgg r.size)=true:=by
   refine List.all_eq_true.2 fun z hz=>?_
   obtain⟨i,hi⟩:=List.getElem?_of_mem hz
   obtain⟨u,_,hu⟩:=h.get' hi
   exact ck u z hu
  rw[if_pos ⟨bK,hq.1,hq.2⟩]
 ·have:y=[]:=by
   simp_all
  subst this
  exact⟨[],rfl,trivial⟩
theorem IL[ag]{C:Ctx}{T:eh}{g:FuncId}{t el esz:Nat}{I:List AV→Option (AV×ak)}{F:T.den t→Option (List (T.den el))}(hi:C.gM g=some I)
  (MR:∀ x a,T.rp el x a→flat a=true)
  (h:∀ x a y,T.rp t x a→F x=some y→∃ l,I [a]=some (.bw esz 0 l.length 0 l.length none,[some (.arr true true false l)])∧aE (T.rp el) y l):CV C T g ⟨[t],el,esz,F⟩ where
 UC:=by
  intro x as y hx hy
  match as,hx with
  |[],hx=>exact False.elim hx
  |_::_::_,hx=>exact False.elim hx.2
  |[a],hx=>
   obtain⟨l,h1,h2⟩:=h x a y hx.1 hy
   refine⟨0,true,l,[some (.arr true true false l)],?_,rfl,?_,h2⟩
   ·simp only[UB,hi,h1]
   ·rw[List.all_eq_true]
    intro z hz
    obtain⟨i,hi⟩:=List.getElem?_of_mem hz
    obtain⟨u,_,hu⟩:=h2.get' hi
    exact MR u z hu
end Go.PI
end
section
/- Plain laws: loops of models. -/
namespace Go.Pl
open Go.PI
theorem next[ag]{τ ω:Type}{f:τ→Option (τ ⊕ ω)}{x y:τ}(h:f x=some (.inl y)):aX f x=aX f y:=by
 rw[FH,h]; rfl
theorem out[ag]{τ ω:Type}{f:τ→Option (τ ⊕ ω)}{x:τ}{w:ω}(h:f x=some (.inr w)):aX f x=some w:=by
 rw[FH,h]; rfl
theorem AF(p:Nat→Bool)(n i:Nat)(hi:i<n):(List.range' i (n-i)).all p=(p i&&(List.range' (i+1) (n-(i+1))).all p):=by
 grind
theorem FD[ag]{τ ω:Type}{f:τ→Option (τ ⊕ ω)}(st:Nat→τ)(p:Nat→Bool)(bad:Nat→ω)(n:Nat)(e:ω)
  (h:∀ i,i<n→f (st i)=some (bif p i then .inl (st (i+1)) else .inr (bad i))) (he:f (st n)=some (.inr e)) :
  (List.range n).all p=true∧aX f (st 0)=some e∨(List.range n).all p=false∧∃ i,i<n∧p i=false∧aX f (st 0)=some (bad i):=by
 have key:∀ m i,m=n-i→i≤n→(List.range' i (n-i)).all p=true∧aX f (st i)=some e∨(List.range' i (n-i)).all p=false∧∃ j,j<n∧p j=false∧aX f (st i)=some (bad j):=by
  intro m
  induction m with
  |zero=>
   intro i hm hi
   have:i=n:=by omega
   subst this
   left
   rw[Nat.sub_self]
   exact⟨rfl,out he⟩
  |succ m ih=>
   intro i hm hi
   have cG:i<n:=by omega
   have hs:=h i cG
   rw[AF p n i cG]
   cases hp:p i with
   |false=>
    rw[hp]at hs
    right
    exact⟨by simp,i,cG,hp,out hs⟩
   |true=>
    rw[hp]at hs
    rw[next hs]
    simpa using ih (i+1) (by omega) (by omega)
 have:=key n 0 rfl (Nat.zero_le _)
 rwa [Nat.sub_zero,←List.range_eq_range']at this
theorem CG{α:Type}{l:List α}{q:α→Bool}{p:Nat→Bool}(h:∀ i (hi:i<l.length),p i=q l[i]):(List.range l.length).all p=l.all q:=by
 rw[Bool.eq_iff_iff,List.all_eq_true,List.all_eq_true]
 constructor
 ·intro hp x hx
  obtain⟨i,hi,rfl⟩:=List.getElem_of_mem hx
  rw[←h i hi]; exact hp i (List.mem_range.2 hi)
 ·simp_all
theorem mU[ag]{α τ ω:Type}{f:τ→Option (τ ⊕ ω)}(l:List α)(st:Nat→τ)(q:α→Bool)(bad e:ω){x0:τ}
  (h:∀ i (hi:i<l.length),f (st i)=some (bif q l[i] then .inl (st (i+1)) else .inr bad)) (he:f (st l.length)=some (.inr e)) (hx:x0=st 0) :
  aX f x0=some (bif l.all q then e else bad):=by
 subst hx
 have hp:∀ i (hi:i<l.length),(fun i=>(l[i]?.map q).getD false) i=q l[i]:=by
  simp_all
 rcases FD st (fun i=>(l[i]?.map q).getD false) (fun _=>bad) l.length e (fun i hi=>by have:=hp i hi; simp only at this; rw[this]; exact h i hi) he with ⟨h1,h2⟩|⟨h1,i,_,_,h2⟩
 ·rw[CG hp]at h1; rw[h2,h1]; rfl
 ·rw[CG hp]at h1; rw[h2,h1]; rfl
theorem mT{i n:Nat}(h:i<n)(hn:n≤2^63-1):IntKind.i64.wrap ((i:Int)+1)=((i+1:Nat):Int):=by
 rw[IntWalk.i64_in _ (by omega)]; omega
end Go.Pl
end
section
/- The types of this seat, as Lean's (printed by gen_tys.py out of the dump). -/
namespace Go.Proofs.YtpodhambaehlkaaGreatDoor
open Go.PI
instance:ag:=⟨fun g=>match Nat.beq g 0 with|true=>some #[.int .u64 30,.int .u64 13787848793156543929,.int .u64 27,.int .u64 10723151780598845931,.int .u64 31,.int .u64 1]|false=>none,fun f=>Nat.beq f 154⟩
structure A2(α:Type)where
 e0:α
 e1:α
structure A8(α:Type)where
 e0:α
 e1:α
 e2:α
 e3:α
 e4:α
 e5:α
 e6:α
 e7:α
structure af where
 Kind:Int
 A:Int
 B:Int
 C:Int
structure an where
 aH:Int
 Sub:Int
 Number:Int
 Data:Int
 az:Int
 aQ:Int
 aJ:Bool
 aB:Bool
structure ai where
 P:an
 At:Int
structure Queue where
 af:af
 Room:Int
 ah:List (List ai)
 ae:A8 Int
 bm:Int
structure bf where
 dv:Int
 dc:Int
 Queue:Queue
 iu:Bool
 dm:an
 cB:Int
structure we where
 dE:bf
 Kd:List an
structure oJ where
 Queue:Queue
 dm:Int
structure lQ where
 Q:Queue
 ah:A2 (List ai)
 dm:Int
 SJ:List an
def den:Nat→Type
 |2=>Int
 |3=>Int
 |4=>Bool
 |9=>ByteArray
 |22=>af
 |23=>af
 |24=>List (List ai)
 |25=>A8 Int
 |26=>Int
 |27=>Queue
 |28=>Queue
 |29=>an
 |30=>an
 |31=>bf
 |32=>bf
 |36=>List an
 |37=>Int
 |57=>List ai
 |60=>we
 |61=>we
 |82=>ai
 |83=>ai
 |104=>Queue
 |105=>Queue
 |111=>Queue
 |116=>List Int
 |120=>oJ
 |121=>oJ
 |124=>Queue
 |135=>A2 (List ai)
 |136=>lQ
 |137=>lQ
 |59=>we
 |110=>Queue
 |117=>oJ
 |123=>Queue
 |132=>lQ
 |1123=>Queue
 |1003=>Int
 |_=>Unit
abbrev V:=SV den
def up2(x:Int):V:=.lit (.int .i64 x)
def dn2(v:V):Option Int:=dI .i64 v
def rp2(x:Int)(a:AV):Prop:=a=.lit (.int .i64 x)
def up3(x:Int):V:=.lit (.int .i64 x)
def cX(v:V):Option Int:=dI .i64 v
def wk(x:Int)(a:AV):Prop:=a=.lit (.int .i64 x)
def up4(x:Bool):V:=.lit (.bool x)
def OE(v:V):Option Bool:=dB v
def Yh(x:Bool)(a:AV):Prop:=a=.lit (.bool x)
def up9(x:ByteArray):V:=.lit (.string x)
def dn9(v:V):Option ByteArray:=dS v
def rp9(x:ByteArray)(a:AV):Prop:=a=.lit (.string x)
def Rr(x:af):V:=.agg [.lit (.int .i64 x.Kind),.lit (.int .i64 x.A),.lit (.int .i64 x.B),.lit (.int .i64 x.C)]
def Rs:V→Option af
 |.agg [a0,a1,a2,a3]=>(cX a0).bind fun b0=>(cX a1).bind fun b1=>(cX a2).bind fun b2=>(cX a3).bind fun b3=>some ⟨b0,b1,b2,b3⟩
 |_=>none
def GV(x:af)(a:AV):Prop:=a=.agg [.lit (.int .i64 x.Kind),.lit (.int .i64 x.A),.lit (.int .i64 x.B),.lit (.int .i64 x.C)]
def Rt(x:an):V:=.agg [.lit (.int .i64 x.aH),.lit (.int .i64 x.Sub),.lit (.int .i64 x.Number),.lit (.int .i64 x.Data),.lit (.int .i64 x.az),.lit (.int .i64 x.aQ),.lit (.bool x.aJ),.lit (.bool x.aB)]
def OF:V→Option an
 |.agg [a0,a1,a2,a3,a4,a5,a6,a7]=>(cX a0).bind fun b0=>(cX a1).bind fun b1=>(cX a2).bind fun b2=>(cX a3).bind fun b3=>(cX a4).bind fun b4=>(cX a5).bind fun b5=>(OE a6).bind fun b6=>(OE a7).bind fun b7=>some ⟨b0,b1,b2,b3,b4,b5,b6,b7⟩
 |_=>none
def Ep(x:an)(a:AV):Prop:=a=.agg [.lit (.int .i64 x.aH),.lit (.int .i64 x.Sub),.lit (.int .i64 x.Number),.lit (.int .i64 x.Data),.lit (.int .i64 x.az),.lit (.int .i64 x.aQ),.lit (.bool x.aJ),.lit (.bool x.aB)]
def Ru(x:ai):V:=.agg [.lit (.int .i64 x.P.aH),.lit (.int .i64 x.P.Sub),.lit (.int .i64 x.P.Number),.lit (.int .i64 x.P.Data),.lit (.int .i64 x.P.az),.lit (.int .i64 x.P.aQ),.lit (.bool x.P.aJ),.lit (.bool x.P.aB),.lit (.int .i64 x.At)]
def OG:V→Option ai
 |.agg [a0,a1,a2,a3,a4,a5,a6,a7,a8]=>(cX a0).bind fun b0=>(cX a1).bind fun b1=>(cX a2).bind fun b2=>(cX a3).bind fun b3=>(cX a4).bind fun b4=>(cX a5).bind fun b5=>(OE a6).bind fun b6=>(OE a7).bind fun b7=>(cX a8).bind fun b8=>some ⟨⟨b0,b1,b2,b3,b4,b5,b6,b7⟩,b8⟩
 |_=>none
def uI(x:ai)(a:AV):Prop:=a=.agg [.lit (.int .i64 x.P.aH),.lit (.int .i64 x.P.Sub),.lit (.int .i64 x.P.Number),.lit (.int .i64 x.P.Data),.lit (.int .i64 x.P.az),.lit (.int .i64 x.P.aQ),.lit (.bool x.P.aJ),.lit (.bool x.P.aB),.lit (.int .i64 x.At)]
def acU(x:List ai):V:=.jN 83 x
def Lq(v:V):Option (List ai):=V9 (den:=den) 83 OG v
def GW(x:List ai)(a:AV):Prop:=Um uI x a
def acV(x:List (List ai)):V:=.jN 57 x
def IX(v:V):Option (List (List ai)):=V9 (den:=den) 57 Lq v
def GX(x:List (List ai))(a:AV):Prop:=Um GW x a
def U0(x:A8 Int):V:=.agg [.lit (.int .i64 x.e0),.lit (.int .i64 x.e1),.lit (.int .i64 x.e2),.lit (.int .i64 x.e3),.lit (.int .i64 x.e4),.lit (.int .i64 x.e5),.lit (.int .i64 x.e6),.lit (.int .i64 x.e7)]
def U1:V→Option (A8 Int)
 |.agg [a0,a1,a2,a3,a4,a5,a6,a7]=>(cX a0).bind fun b0=>(cX a1).bind fun b1=>(cX a2).bind fun b2=>(cX a3).bind fun b3=>(cX a4).bind fun b4=>(cX a5).bind fun b5=>(cX a6).bind fun b6=>(cX a7).bind fun b7=>some ⟨b0,b1,b2,b3,b4,b5,b6,b7⟩
 |_=>none
def IY(x:A8 Int)(a:AV):Prop:=a=.agg [.lit (.int .i64 x.e0),.lit (.int .i64 x.e1),.lit (.int .i64 x.e2),.lit (.int .i64 x.e3),.lit (.int .i64 x.e4),.lit (.int .i64 x.e5),.lit (.int .i64 x.e6),.lit (.int .i64 x.e7)]
def acW(x:Int):V:=.lit (.int .u64 x)
def IZ(v:V):Option Int:=dI .u64 v
def U2(x:Int)(a:AV):Prop:=a=.lit (.int .u64 x)
def Rv(x:Queue):V:=.agg [.lit (.int .i64 x.af.Kind),.lit (.int .i64 x.af.A),.lit (.int .i64 x.af.B),.lit (.int .i64 x.af.C),.lit (.int .i64 x.Room),.jN 57 x.ah,.lit (.int .i64 x.ae.e0),.lit (.int .i64 x.ae.e1),.lit (.int .i64 x.ae.e2),.lit (.int .i64 x.ae.e3),.lit (.int .i64 x.ae.e4),.lit (.int .i64 x.ae.e5),.lit (.int .i64 x.ae.e6),.lit (.int .i64 x.ae.e7),.lit (.int .u64 x.bm)]
def Rw:V→Option Queue
 |.agg [a0,a1,a2,a3,a4,a5,a6,a7,a8,a9,a10,a11,a12,a13,a14]=>(cX a0).bind fun b0=>(cX a1).bind fun b1=>(cX a2).bind fun b2=>(cX a3).bind fun b3=>(cX a4).bind fun b4=>(IX a5).bind fun b5=>(cX a6).bind fun b6=>(cX a7).bind fun b7=>(cX a8).bind fun b8=>(cX a9).bind fun b9=>(cX a10).bind fun yf=>(cX a11).bind fun uO=>(cX a12).bind fun D8=>(cX a13).bind fun ue=>(IZ a14).bind fun ll=>some ⟨⟨b0,b1,b2,b3⟩,b4,b5,⟨b6,b7,b8,b9,yf,uO,D8,ue⟩,ll⟩
 |_=>none
def Lr(x:Queue)(a:AV):Prop:=∃ a5,GX x.ah a5∧a=.agg [.lit (.int .i64 x.af.Kind),.lit (.int .i64 x.af.A),.lit (.int .i64 x.af.B),.lit (.int .i64 x.af.C),.lit (.int .i64 x.Room),a5,.lit (.int .i64 x.ae.e0),.lit (.int .i64 x.ae.e1),.lit (.int .i64 x.ae.e2),.lit (.int .i64 x.ae.e3),.lit (.int .i64 x.ae.e4),.lit (.int .i64 x.ae.e5),.lit (.int .i64 x.ae.e6),.lit (.int .i64 x.ae.e7),.lit (.int .u64 x.bm)]
def Rx(x:bf):V:=.agg [.lit (.int .i64 x.dv),.lit (.int .i64 x.dc),.lit (.int .i64 x.Queue.af.Kind),.lit (.int .i64 x.Queue.af.A),.lit (.int .i64 x.Queue.af.B),.lit (.int .i64 x.Queue.af.C),.lit (.int .i64 x.Queue.Room),.jN 57 x.Queue.ah,.lit (.int .i64 x.Queue.ae.e0),.lit (.int .i64 x.Queue.ae.e1),.lit (.int .i64 x.Queue.ae.e2),.lit (.int .i64 x.Queue.ae.e3),.lit (.int .i64 x.Queue.ae.e4),.lit (.int .i64 x.Queue.ae.e5),.lit (.int .i64 x.Queue.ae.e6),.lit (.int .i64 x.Queue.ae.e7),.lit (.int .u64 x.Queue.bm),.lit (.bool x.iu),.lit (.int .i64 x.dm.aH),.lit (.int .i64 x.dm.Sub),.lit (.int .i64 x.dm.Number),.lit (.int .i64 x.dm.Data),.lit (.int .i64 x.dm.az),.lit (.int .i64 x.dm.aQ),.lit (.bool x.dm.aJ),.lit (.bool x.dm.aB),.lit (.int .i64 x.cB)]
def Ry:V→Option bf
 |.agg [a0,a1,a2,a3,a4,a5,a6,a7,a8,a9,a10,a11,a12,a13,a14,a15,a16,a17,a18,a19,a20,a21,a22,a23,a24,a25,a26]=>(cX a0).bind fun b0=>(cX a1).bind fun b1=>(cX a2).bind fun b2=>(cX a3).bind fun b3=>(cX a4).bind fun b4=>(cX a5).bind fun b5=>(cX a6).bind fun b6=>(IX a7).bind fun b7=>(cX a8).bind fun b8=>(cX a9).bind fun b9=>(cX a10).bind fun yf=>(cX a11).bind fun uO=>(cX a12).bind fun D8=>(cX a13).bind fun ue=>(cX a14).bind fun ll=>(cX a15).bind fun CO=>(IZ a16).bind fun BN=>(OE a17).bind fun FU=>(cX a18).bind fun LN=>(cX a19).bind fun Nw=>(cX a20).bind fun Ur=>(cX a21).bind fun Us=>(cX a22).bind fun JW=>(cX a23).bind fun PS=>(OE a24).bind fun Yi=>(OE a25).bind fun QM=>(cX a26).bind fun Un=>some ⟨b0,b1,⟨⟨b2,b3,b4,b5⟩,b6,b7,⟨b8,b9,yf,uO,D8,ue,ll,CO⟩,BN⟩,FU,⟨LN,Nw,Ur,Us,JW,PS,Yi,QM⟩,Un⟩
 |_=>none
def Ls(x:bf)(a:AV):Prop:=∃ a7,GX x.Queue.ah a7∧a=.agg [.lit (.int .i64 x.dv),.lit (.int .i64 x.dc),.lit (.int .i64 x.Queue.af.Kind),.lit (.int .i64 x.Queue.af.A),.lit (.int .i64 x.Queue.af.B),.lit (.int .i64 x.Queue.af.C),.lit (.int .i64 x.Queue.Room),a7,.lit (.int .i64 x.Queue.ae.e0),.lit (.int .i64 x.Queue.ae.e1),.lit (.int .i64 x.Queue.ae.e2),.lit (.int .i64 x.Queue.ae.e3),.lit (.int .i64 x.Queue.ae.e4),.lit (.int .i64 x.Queue.ae.e5),.lit (.int .i64 x.Queue.ae.e6),.lit (.int .i64 x.Queue.ae.e7),.lit (.int .u64 x.Queue.bm),.lit (.bool x.iu),.lit (.int .i64 x.dm.aH),.lit (.int .i64 x.dm.Sub),.lit (.int .i64 x.dm.Number),.lit (.int .i64 x.dm.Data),.lit (.int .i64 x.dm.az),.lit (.int .i64 x.dm.aQ),.lit (.bool x.dm.aJ),.lit (.bool x.dm.aB),.lit (.int .i64 x.cB)]
def acX(x:List an):V:=.jN 30 x
def U3(v:V):Option (List an):=V9 (den:=den) 30 OF v
def U4(x:List an)(a:AV):Prop:=Um Ep x a
def OH(x:we):V:=.agg [.lit (.int .i64 x.dE.dv),.lit (.int .i64 x.dE.dc),.lit (.int .i64 x.dE.Queue.af.Kind),.lit (.int .i64 x.dE.Queue.af.A),.lit (.int .i64 x.dE.Queue.af.B),.lit (.int .i64 x.dE.Queue.af.C),.lit (.int .i64 x.dE.Queue.Room),.jN 57 x.dE.Queue.ah,.lit (.int .i64 x.dE.Queue.ae.e0),.lit (.int .i64 x.dE.Queue.ae.e1),.lit (.int .i64 x.dE.Queue.ae.e2),.lit (.int .i64 x.dE.Queue.ae.e3),.lit (.int .i64 x.dE.Queue.ae.e4),.lit (.int .i64 x.dE.Queue.ae.e5),.lit (.int .i64 x.dE.Queue.ae.e6),.lit (.int .i64 x.dE.Queue.ae.e7),.lit (.int .u64 x.dE.Queue.bm),.lit (.bool x.dE.iu),.lit (.int .i64 x.dE.dm.aH),.lit (.int .i64 x.dE.dm.Sub),.lit (.int .i64 x.dE.dm.Number),.lit (.int .i64 x.dE.dm.Data),.lit (.int .i64 x.dE.dm.az),.lit (.int .i64 x.dE.dm.aQ),.lit (.bool x.dE.dm.aJ),.lit (.bool x.dE.dm.aB),.lit (.int .i64 x.dE.cB),.jN 30 x.Kd]
def OI:V→Option we
 |.agg [a0,a1,a2,a3,a4,a5,a6,a7,a8,a9,a10,a11,a12,a13,a14,a15,a16,a17,a18,a19,a20,a21,a22,a23,a24,a25,a26,a27]=>(cX a0).bind fun b0=>(cX a1).bind fun b1=>(cX a2).bind fun b2=>(cX a3).bind fun b3=>(cX a4).bind fun b4=>(cX a5).bind fun b5=>(cX a6).bind fun b6=>(IX a7).bind fun b7=>(cX a8).bind fun b8=>(cX a9).bind fun b9=>(cX a10).bind fun yf=>(cX a11).bind fun uO=>(cX a12).bind fun D8=>(cX a13).bind fun ue=>(cX a14).bind fun ll=>(cX a15).bind fun CO=>(IZ a16).bind fun BN=>(OE a17).bind fun FU=>(cX a18).bind fun LN=>(cX a19).bind fun Nw=>(cX a20).bind fun Ur=>(cX a21).bind fun Us=>(cX a22).bind fun JW=>(cX a23).bind fun PS=>(OE a24).bind fun Yi=>(OE a25).bind fun QM=>(cX a26).bind fun Un=>(U3 a27).bind fun PO=>some ⟨⟨b0,b1,⟨⟨b2,b3,b4,b5⟩,b6,b7,⟨b8,b9,yf,uO,D8,ue,ll,CO⟩,BN⟩,FU,⟨LN,Nw,Ur,Us,JW,PS,Yi,QM⟩,Un⟩,PO⟩
 |_=>none
def Lt(x:we)(a:AV):Prop:=∃ a7 a27,GX x.dE.Queue.ah a7∧U4 x.Kd a27∧a=.agg [.lit (.int .i64 x.dE.dv),.lit (.int .i64 x.dE.dc),.lit (.int .i64 x.dE.Queue.af.Kind),.lit (.int .i64 x.dE.Queue.af.A),.lit (.int .i64 x.dE.Queue.af.B),.lit (.int .i64 x.dE.Queue.af.C),.lit (.int .i64 x.dE.Queue.Room),a7,.lit (.int .i64 x.dE.Queue.ae.e0),.lit (.int .i64 x.dE.Queue.ae.e1),.lit (.int .i64 x.dE.Queue.ae.e2),.lit (.int .i64 x.dE.Queue.ae.e3),.lit (.int .i64 x.dE.Queue.ae.e4),.lit (.int .i64 x.dE.Queue.ae.e5),.lit (.int .i64 x.dE.Queue.ae.e6),.lit (.int .i64 x.dE.Queue.ae.e7),.lit (.int .u64 x.dE.Queue.bm),.lit (.bool x.dE.iu),.lit (.int .i64 x.dE.dm.aH),.lit (.int .i64 x.dE.dm.Sub),.lit (.int .i64 x.dE.dm.Number),.lit (.int .i64 x.dE.dm.Data),.lit (.int .i64 x.dE.dm.az),.lit (.int .i64 x.dE.dm.aQ),.lit (.bool x.dE.dm.aJ),.lit (.bool x.dE.dm.aB),.lit (.int .i64 x.dE.cB),a27]
def yI(x:Queue):V:=.agg [.lit (.int .i64 x.af.Kind),.lit (.int .i64 x.af.A),.lit (.int .i64 x.af.B),.lit (.int .i64 x.af.C),.lit (.int .i64 x.Room),.jN 57 x.ah,.lit (.int .i64 x.ae.e0),.lit (.int .i64 x.ae.e1),.lit (.int .i64 x.ae.e2),.lit (.int .i64 x.ae.e3),.lit (.int .i64 x.ae.e4),.lit (.int .i64 x.ae.e5),.lit (.int .i64 x.ae.e6),.lit (.int .i64 x.ae.e7),.lit (.int .u64 x.bm)]
def yJ:V→Option Queue
 |.agg [a0,a1,a2,a3,a4,a5,a6,a7,a8,a9,a10,a11,a12,a13,a14]=>(cX a0).bind fun b0=>(cX a1).bind fun b1=>(cX a2).bind fun b2=>(cX a3).bind fun b3=>(cX a4).bind fun b4=>(IX a5).bind fun b5=>(cX a6).bind fun b6=>(cX a7).bind fun b7=>(cX a8).bind fun b8=>(cX a9).bind fun b9=>(cX a10).bind fun yf=>(cX a11).bind fun uO=>(cX a12).bind fun D8=>(cX a13).bind fun ue=>(IZ a14).bind fun ll=>some ⟨⟨b0,b1,b2,b3⟩,b4,b5,⟨b6,b7,b8,b9,yf,uO,D8,ue⟩,ll⟩
 |_=>none
def wg(x:Queue)(a:AV):Prop:=∃ a5,GX x.ah a5∧a=.agg [.lit (.int .i64 x.af.Kind),.lit (.int .i64 x.af.A),.lit (.int .i64 x.af.B),.lit (.int .i64 x.af.C),.lit (.int .i64 x.Room),a5,.lit (.int .i64 x.ae.e0),.lit (.int .i64 x.ae.e1),.lit (.int .i64 x.ae.e2),.lit (.int .i64 x.ae.e3),.lit (.int .i64 x.ae.e4),.lit (.int .i64 x.ae.e5),.lit (.int .i64 x.ae.e6),.lit (.int .i64 x.ae.e7),.lit (.int .u64 x.bm)]
def Yj(x:List Int):V:=.jN 3 x
def Yk(v:V):Option (List Int):=V9 (den:=den) 3 cX v
def Yl(x:List Int)(a:AV):Prop:=Um wk x a
def GY(x:oJ):V:=.agg [.lit (.int .i64 x.Queue.af.Kind),.lit (.int .i64 x.Queue.af.A),.lit (.int .i64 x.Queue.af.B),.lit (.int .i64 x.Queue.af.C),.lit (.int .i64 x.Queue.Room),.jN 57 x.Queue.ah,.lit (.int .i64 x.Queue.ae.e0),.lit (.int .i64 x.Queue.ae.e1),.lit (.int .i64 x.Queue.ae.e2),.lit (.int .i64 x.Queue.ae.e3),.lit (.int .i64 x.Queue.ae.e4),.lit (.int .i64 x.Queue.ae.e5),.lit (.int .i64 x.Queue.ae.e6),.lit (.int .i64 x.Queue.ae.e7),.lit (.int .u64 x.Queue.bm),.lit (.int .i64 x.dm)]
def GZ:V→Option oJ
 |.agg [a0,a1,a2,a3,a4,a5,a6,a7,a8,a9,a10,a11,a12,a13,a14,a15]=>(cX a0).bind fun b0=>(cX a1).bind fun b1=>(cX a2).bind fun b2=>(cX a3).bind fun b3=>(cX a4).bind fun b4=>(IX a5).bind fun b5=>(cX a6).bind fun b6=>(cX a7).bind fun b7=>(cX a8).bind fun b8=>(cX a9).bind fun b9=>(cX a10).bind fun yf=>(cX a11).bind fun uO=>(cX a12).bind fun D8=>(cX a13).bind fun ue=>(IZ a14).bind fun ll=>(cX a15).bind fun CO=>some ⟨⟨⟨b0,b1,b2,b3⟩,b4,b5,⟨b6,b7,b8,b9,yf,uO,D8,ue⟩,ll⟩,CO⟩
 |_=>none
def Db(x:oJ)(a:AV):Prop:=∃ a5,GX x.Queue.ah a5∧a=.agg [.lit (.int .i64 x.Queue.af.Kind),.lit (.int .i64 x.Queue.af.A),.lit (.int .i64 x.Queue.af.B),.lit (.int .i64 x.Queue.af.C),.lit (.int .i64 x.Queue.Room),a5,.lit (.int .i64 x.Queue.ae.e0),.lit (.int .i64 x.Queue.ae.e1),.lit (.int .i64 x.Queue.ae.e2),.lit (.int .i64 x.Queue.ae.e3),.lit (.int .i64 x.Queue.ae.e4),.lit (.int .i64 x.Queue.ae.e5),.lit (.int .i64 x.Queue.ae.e6),.lit (.int .i64 x.Queue.ae.e7),.lit (.int .u64 x.Queue.bm),.lit (.int .i64 x.dm)]
def OJ(x:A2 (List ai)):V:=.agg [.jN 83 x.e0,.jN 83 x.e1]
def OK:V→Option (A2 (List ai))
 |.agg [a0,a1]=>(Lq a0).bind fun b0=>(Lq a1).bind fun b1=>some ⟨b0,b1⟩
 |_=>none
def Ke(x:A2 (List ai))(a:AV):Prop:=∃ a0 a1,GW x.e0 a0∧GW x.e1 a1∧a=.agg [a0,a1]
def G0(x:lQ):V:=.agg [.lit (.int .i64 x.Q.af.Kind),.lit (.int .i64 x.Q.af.A),.lit (.int .i64 x.Q.af.B),.lit (.int .i64 x.Q.af.C),.lit (.int .i64 x.Q.Room),.jN 57 x.Q.ah,.lit (.int .i64 x.Q.ae.e0),.lit (.int .i64 x.Q.ae.e1),.lit (.int .i64 x.Q.ae.e2),.lit (.int .i64 x.Q.ae.e3),.lit (.int .i64 x.Q.ae.e4),.lit (.int .i64 x.Q.ae.e5),.lit (.int .i64 x.Q.ae.e6),.lit (.int .i64 x.Q.ae.e7),.lit (.int .u64 x.Q.bm),.jN 83 x.ah.e0,.jN 83 x.ah.e1,.lit (.int .i64 x.dm),.jN 30 x.SJ]
def G1:V→Option lQ
 |.agg [a0,a1,a2,a3,a4,a5,a6,a7,a8,a9,a10,a11,a12,a13,a14,a15,a16,a17,a18]=>(cX a0).bind fun b0=>(cX a1).bind fun b1=>(cX a2).bind fun b2=>(cX a3).bind fun b3=>(cX a4).bind fun b4=>(IX a5).bind fun b5=>(cX a6).bind fun b6=>(cX a7).bind fun b7=>(cX a8).bind fun b8=>(cX a9).bind fun b9=>(cX a10).bind fun yf=>(cX a11).bind fun uO=>(cX a12).bind fun D8=>(cX a13).bind fun ue=>(IZ a14).bind fun ll=>(Lq a15).bind fun CO=>(Lq a16).bind fun BN=>(cX a17).bind fun FU=>(U3 a18).bind fun LN=>some ⟨⟨⟨b0,b1,b2,b3⟩,b4,b5,⟨b6,b7,b8,b9,yf,uO,D8,ue⟩,ll⟩,⟨CO,BN⟩,FU,LN⟩
 |_=>none
def Dd(x:lQ)(a:AV):Prop:=∃ a5 a15 a16 a18,GX x.Q.ah a5∧GW x.ah.e0 a15∧GW x.ah.e1 a16∧U4 x.SJ a18∧a=.agg [.lit (.int .i64 x.Q.af.Kind),.lit (.int .i64 x.Q.af.A),.lit (.int .i64 x.Q.af.B),.lit (.int .i64 x.Q.af.C),.lit (.int .i64 x.Q.Room),a5,.lit (.int .i64 x.Q.ae.e0),.lit (.int .i64 x.Q.ae.e1),.lit (.int .i64 x.Q.ae.e2),.lit (.int .i64 x.Q.ae.e3),.lit (.int .i64 x.Q.ae.e4),.lit (.int .i64 x.Q.ae.e5),.lit (.int .i64 x.Q.ae.e6),.lit (.int .i64 x.Q.ae.e7),.lit (.int .u64 x.Q.bm),a15,a16,.lit (.int .i64 x.dm),a18]
def acY(x:we):V:=.bq (OH x) 0
def acZ(v:V):Option we:=Q6 OI v
def ac0(x:we)(a:AV):Prop:=PM Lt x a
def Ym(x:Queue):V:=.bq (yI x) 0
def Yn(v:V):Option Queue:=Q6 yJ v
def Yo(x:Queue)(a:AV):Prop:=PM wg x a
def Yp(x:oJ):V:=.bq (GY x) 0
def Yq(v:V):Option oJ:=Q6 GZ v
def Yr(x:oJ)(a:AV):Prop:=PM Db x a
def SK(x:Queue):V:=.bq (yI x) 0
def SL(v:V):Option Queue:=Q6 yJ v
def SM(x:Queue)(a:AV):Prop:=PM wg x a
def Ys(x:lQ):V:=.bq (G0 x) 0
def Yt(v:V):Option lQ:=Q6 G1 v
def Yu(x:lQ)(a:AV):Prop:=PM Dd x a
def U5(x:Queue):V:=.bq (SK x) 0
def U6(v:V):Option Queue:=Q6 SL v
def U7(x:Queue)(a:AV):Prop:=PM SM x a
def U8(x:Int):V:=.bq (up3 x) 0
def U9(v:V):Option Int:=Q6 cX v
def Va(x:Int)(a:AV):Prop:=PM wk x a
def up:(t:Nat)→den t→V
 |2,x=>up2 x
 |3,x=>up3 x
 |4,x=>up4 x
 |9,x=>up9 x
 |22,x=>Rr x
 |23,x=>Rr x
 |24,x=>acV x
 |25,x=>U0 x
 |26,x=>acW x
 |27,x=>Rv x
 |28,x=>Rv x
 |29,x=>Rt x
 |30,x=>Rt x
 |31,x=>Rx x
 |32,x=>Rx x
 |36,x=>acX x
 |37,x=>up3 x
 |57,x=>acU x
 |60,x=>OH x
 |61,x=>OH x
 |82,x=>Ru x
 |83,x=>Ru x
 |104,x=>yI x
 |105,x=>yI x
 |111,x=>yI x
 |116,x=>Yj x
 |120,x=>GY x
 |121,x=>GY x
 |124,x=>yI x
 |135,x=>OJ x
 |136,x=>G0 x
 |137,x=>G0 x
 |59,x=>acY x
 |110,x=>Ym x
 |117,x=>Yp x
 |123,x=>SK x
 |132,x=>Ys x
 |1123,x=>U5 x
 |1003,x=>U8 x
 |_,_=>.dead
def dn:(t:Nat)→V→Option (den t)
 |2,v=>dn2 v
 |3,v=>cX v
 |4,v=>OE v
 |9,v=>dn9 v
 |22,v=>Rs v
 |23,v=>Rs v
 |24,v=>IX v
 |25,v=>U1 v
 |26,v=>IZ v
 |27,v=>Rw v
 |28,v=>Rw v
 |29,v=>OF v
 |30,v=>OF v
 |31,v=>Ry v
 |32,v=>Ry v
 |36,v=>U3 v
 |37,v=>cX v
 |57,v=>Lq v
 |60,v=>OI v
 |61,v=>OI v
 |82,v=>OG v
 |83,v=>OG v
 |104,v=>yJ v
 |105,v=>yJ v
 |111,v=>yJ v
 |116,v=>Yk v
 |120,v=>GZ v
 |121,v=>GZ v
 |124,v=>yJ v
 |135,v=>OK v
 |136,v=>G1 v
 |137,v=>G1 v
 |59,v=>acZ v
 |110,v=>Yn v
 |117,v=>Yq v
 |123,v=>SL v
 |132,v=>Yt v
 |1123,v=>U6 v
 |1003,v=>U9 v
 |_,_=>none
def rp:(t:Nat)→den t→AV→Prop
 |2,x,a=>rp2 x a
 |3,x,a=>wk x a
 |4,x,a=>Yh x a
 |9,x,a=>rp9 x a
 |22,x,a=>GV x a
 |23,x,a=>GV x a
 |24,x,a=>GX x a
 |25,x,a=>IY x a
 |26,x,a=>U2 x a
 |27,x,a=>Lr x a
 |28,x,a=>Lr x a
 |29,x,a=>Ep x a
 |30,x,a=>Ep x a
 |31,x,a=>Ls x a
 |32,x,a=>Ls x a
 |36,x,a=>U4 x a
 |37,x,a=>wk x a
 |57,x,a=>GW x a
 |60,x,a=>Lt x a
 |61,x,a=>Lt x a
 |82,x,a=>uI x a
 |83,x,a=>uI x a
 |104,x,a=>wg x a
 |105,x,a=>wg x a
 |111,x,a=>wg x a
 |116,x,a=>Yl x a
 |120,x,a=>Db x a
 |121,x,a=>Db x a
 |124,x,a=>wg x a
 |135,x,a=>Ke x a
 |136,x,a=>Dd x a
 |137,x,a=>Dd x a
 |59,x,a=>ac0 x a
 |110,x,a=>Yo x a
 |117,x,a=>Yr x a
 |123,x,a=>SM x a
 |132,x,a=>Yu x a
 |1123,x,a=>U7 x a
 |1003,x,a=>Va x a
 |_,_,_=>False
def Yv:Nat→Bool
 |22=>true
 |23=>true
 |25=>true
 |27=>true
 |28=>true
 |29=>true
 |30=>true
 |31=>true
 |32=>true
 |60=>true
 |61=>true
 |82=>true
 |83=>true
 |104=>true
 |105=>true
 |111=>true
 |120=>true
 |121=>true
 |124=>true
 |135=>true
 |136=>true
 |137=>true
 |_=>false
def SN:Nat→Nat
 |22=>4
 |23=>4
 |25=>8
 |27=>15
 |28=>15
 |29=>8
 |30=>8
 |31=>27
 |32=>27
 |60=>28
 |61=>28
 |82=>9
 |83=>9
 |104=>15
 |105=>15
 |111=>15
 |120=>16
 |121=>16
 |124=>15
 |135=>2
 |136=>19
 |137=>19
 |_=>1
def SO:(t:Nat)→Option (den t)
 |2=>some (0:Int)
 |3=>some (0:Int)
 |4=>some (false:Bool)
 |9=>some (ByteArray.empty:ByteArray)
 |22=>some (⟨0,0,0,0⟩:af)
 |23=>some (⟨0,0,0,0⟩:af)
 |24=>some ([]:List (List ai))
 |25=>some (⟨0,0,0,0,0,0,0,0⟩:A8 Int)
 |26=>some (0:Int)
 |27=>some (⟨⟨0,0,0,0⟩,0,[],⟨0,0,0,0,0,0,0,0⟩,0⟩:Queue)
 |28=>some (⟨⟨0,0,0,0⟩,0,[],⟨0,0,0,0,0,0,0,0⟩,0⟩:Queue)
 |29=>some (⟨0,0,0,0,0,0,false,false⟩:an)
 |30=>some (⟨0,0,0,0,0,0,false,false⟩:an)
 |31=>some (⟨0,0,⟨⟨0,0,0,0⟩,0,[],⟨0,0,0,0,0,0,0,0⟩,0⟩,false,⟨0,0,0,0,0,0,false,false⟩,0⟩:bf)
 |32=>some (⟨0,0,⟨⟨0,0,0,0⟩,0,[],⟨0,0,0,0,0,0,0,0⟩,0⟩,false,⟨0,0,0,0,0,0,false,false⟩,0⟩:bf)
 |36=>some ([]:List an)
 |37=>some (0:Int)
 |57=>some ([]:List ai)
 |60=>some (⟨⟨0,0,⟨⟨0,0,0,0⟩,0,[],⟨0,0,0,0,0,0,0,0⟩,0⟩,false,⟨0,0,0,0,0,0,false,false⟩,0⟩,[]⟩:we)
 |61=>some (⟨⟨0,0,⟨⟨0,0,0,0⟩,0,[],⟨0,0,0,0,0,0,0,0⟩,0⟩,false,⟨0,0,0,0,0,0,false,false⟩,0⟩,[]⟩:we)
 |82=>some (⟨⟨0,0,0,0,0,0,false,false⟩,0⟩:ai)
 |83=>some (⟨⟨0,0,0,0,0,0,false,false⟩,0⟩:ai)
 |104=>some (⟨⟨0,0,0,0⟩,0,[],⟨0,0,0,0,0,0,0,0⟩,0⟩:Queue)
 |105=>some (⟨⟨0,0,0,0⟩,0,[],⟨0,0,0,0,0,0,0,0⟩,0⟩:Queue)
 |111=>some (⟨⟨0,0,0,0⟩,0,[],⟨0,0,0,0,0,0,0,0⟩,0⟩:Queue)
 |116=>some ([]:List Int)
 |120=>some (⟨⟨⟨0,0,0,0⟩,0,[],⟨0,0,0,0,0,0,0,0⟩,0⟩,0⟩:oJ)
 |121=>some (⟨⟨⟨0,0,0,0⟩,0,[],⟨0,0,0,0,0,0,0,0⟩,0⟩,0⟩:oJ)
 |124=>some (⟨⟨0,0,0,0⟩,0,[],⟨0,0,0,0,0,0,0,0⟩,0⟩:Queue)
 |135=>some (⟨[],[]⟩:A2 (List ai))
 |136=>some (⟨⟨⟨0,0,0,0⟩,0,[],⟨0,0,0,0,0,0,0,0⟩,0⟩,⟨[],[]⟩,0,[]⟩:lQ)
 |137=>some (⟨⟨⟨0,0,0,0⟩,0,[],⟨0,0,0,0,0,0,0,0⟩,0⟩,⟨[],[]⟩,0,[]⟩:lQ)
 |_=>none
def m5:jO:=⟨false,1,1,some (.lit (.int .u8 0)),.other,none,none⟩
def m7:jO:=⟨true,4,24,some (.agg [zI,zI,zB,.lit (.int .u8 0)]),.struct [(0,2),(1,3),(2,4),(3,6)],none,none⟩
def m12:jO:=⟨false,1,8,some (.lit (.int .u64 0)),.other,none,none⟩
def m13:jO:=⟨true,2,24,some (.agg [zS,.lit (.int .u64 0)]),.struct [(0,9),(1,12)],none,none⟩
def m18:jO:=⟨true,1,8,some (.agg [.lit (.pointer none)]),.struct [(0,17)],none,none⟩
def m21:jO:=⟨false,1,4,some (.lit (.int .i32 0)),.other,none,none⟩
def m22:jO:=⟨true,4,32,some (.agg [zI,zI,zI,zI]),.struct [(0,3),(1,3),(2,3),(3,3)],some [kI,kI,kI,kI],none⟩
def m27:jO:=⟨true,15,136,some (.agg [zI,zI,zI,zI,zI,zL,zI,zI,zI,zI,zI,zI,zI,zI,.lit (.int .u64 0)]),.struct [(0,23),(4,3),(5,24),(6,25),(14,26)],none,none⟩
def m29:jO:=⟨true,8,56,some (.agg [zI,zI,zI,zI,zI,zI,zB,zB]),.struct [(0,3),(1,3),(2,3),(3,3),(4,3),(5,3),(6,4),(7,4)],some [kI,kI,kI,kI,kI,kI,kB,kB],none⟩
def m31:jO:=⟨true,27,224,some (.agg [zI,zI,zI,zI,zI,zI,zI,zL,zI,zI,zI,zI,zI,zI,zI,zI,.lit (.int .u64 0),zB,zI,zI,zI,zI,zI,zI,zB,zB,zI]),.struct [(0,3),(1,3),(2,28),(17,4),(18,30),(26,3)],none,none⟩
def m60:jO:=⟨true,28,248,some (.agg [zI,zI,zI,zI,zI,zI,zI,zL,zI,zI,zI,zI,zI,zI,zI,zI,.lit (.int .u64 0),zB,zI,zI,zI,zI,zI,zI,zB,zB,zI,zL]),.struct [(0,32),(27,36)],none,none⟩
def m78:jO:=⟨true,4,32,some (.agg [zI,zF,zF,zF]),.struct [(0,3),(1,35),(2,66),(3,77)],none,none⟩
def m82:jO:=⟨true,9,64,some (.agg [zI,zI,zI,zI,zI,zI,zB,zB,zI]),.struct [(0,30),(8,3)],some [kI,kI,kI,kI,kI,kI,kB,kB,kI],none⟩
def Rz:jO:=⟨true,15,136,some (.agg [zI,zI,zI,zI,zI,zL,zI,zI,zI,zI,zI,zI,zI,zI,.lit (.int .u64 0)]),.struct [(0,28)],none,none⟩
def Yw:jO:=⟨true,16,144,some (.agg [zI,zI,zI,zI,zI,zL,zI,zI,zI,zI,zI,zI,zI,zI,.lit (.int .u64 0),zI]),.struct [(0,28),(15,3)],none,none⟩
def Yx:jO:=⟨true,19,216,some (.agg [zI,zI,zI,zI,zI,zL,zI,zI,zI,zI,zI,zI,zI,zI,.lit (.int .u64 0),zL,zL,zI,zL]),.struct [(0,28),(15,135),(17,3),(18,36)],none,none⟩
def Yy:jO:=⟨true,4,40,some (.agg [.lit (.pointer none),.lit (.pointer none),.lit (.pointer none),zS]),.struct [(0,17),(1,17),(2,17),(3,9)],none,none⟩
def Yz:jO:=⟨true,11,48,some (.agg [.lit (.int .u64 0),.lit (.int .u64 0),.lit (.int .u32 0),.lit (.int .u8 0),.lit (.int .u8 0),.lit (.int .u8 0),.lit (.int .u8 0),zF,.lit (.pointer none),.lit (.int .i32 0),.lit (.int .i32 0)]),.struct [(0,12),(1,12),(2,161),(3,162),(4,5),(5,5),(6,163),(7,164),(8,165),(9,166),(10,167)],none,none⟩
def NZ:List (Nat×jO):=[
 (1,mF),
 (2,mI),
 (3,mI),
 (4,⟨false,1,1,some zB,.other,none,none⟩),
 (5,m5),
 (6,m5),
 (7,m7),
 (8,m7),
 (9,mS),
 (10,mS),
 (11,mS),
 (12,m12),
 (13,m13),
 (14,m13),
 (15,mP),
 (16,mP),
 (17,mP),
 (18,m18),
 (19,m18),
 (20,⟨false,1,16,some (.lit .nilIface),.iface,none,none⟩),
 (21,m21),
 (22,m22),
 (23,m22),
 (24,mL 57),
 (25,⟨true,8,64,some (.agg [zI,zI,zI,zI,zI,zI,zI,zI]),.array 8 3,some [kI,kI,kI,kI,kI,kI,kI,kI],none⟩),
 (26,m12),
 (27,m27),
 (28,m27),
 (29,m29),
 (30,m29),
 (31,m31),
 (32,m31),
 (33,mF),
 (34,mF),
 (35,mF),
 (36,mL 30),
 (37,mI),
 (39,mF),
 (41,mF),
 (43,mF),
 (44,mF),
 (45,mF),
 (46,mF),
 (47,mF),
 (48,mF),
 (49,mF),
 (50,mF),
 (51,mF),
 (52,mF),
 (53,mF),
 (54,mF),
 (56,mF),
 (57,mL 83),
 (58,mF),
 (59,mP),
 (60,m60),
 (61,m60),
 (62,mF),
 (63,mP),
 (64,mF),
 (66,mF),
 (67,mF),
 (68,mF),
 (69,mF),
 (70,mF),
 (71,mF),
 (73,mF),
 (75,mF),
 (77,mF),
 (78,m78),
 (79,m78),
 (81,mF),
 (82,m82),
 (83,m82),
 (84,mF),
 (85,mF),
 (87,mF),
 (88,mF),
 (90,mF),
 (91,mF),
 (92,⟨true,28,224,some (.agg [zI,zF,zF,zF,zI,zF,zF,zF,zI,zF,zF,zF,zI,zF,zF,zF,zI,zF,zF,zF,zI,zF,zF,zF,zI,zF,zF,zF]),.array 7 79,none,none⟩),
 (93,mF),
 (94,mF),
 (95,mF),
 (96,mF),
 (97,mF),
 (98,mF),
 (99,mF),
 (101,mF),
 (102,mF),
 (103,mF),
 (104,Rz),
 (105,Rz),
 (106,mF),
 (107,mF),
 (108,mF),
 (109,mF),
 (110,mP),
 (111,Rz),
 (113,mF),
 (114,mF),
 (115,mF),
 (116,mL 3),
 (117,mP),
 (119,mF),
 (120,Yw),
 (121,Yw),
 (122,mF),
 (123,mP),
 (124,Rz),
 (126,mF),
 (127,mF),
 (128,mF),
 (129,mF),
 (130,mF),
 (131,mF),
 (132,mP),
 (134,mF),
 (135,⟨true,2,48,some (.agg [zL,zL]),.array 2 57,none,none⟩),
 (136,Yx),
 (137,Yx),
 (138,mF),
 (139,mF),
 (141,mF),
 (142,mF),
 (143,mF),
 (144,mP),
 (145,⟨true,4,32,some (.agg [zI,zI,zI,zI]),.array 4 3,some [kI,kI,kI,kI],none⟩),
 (146,mF),
 (147,mF),
 (148,m12),
 (149,mF),
 (150,mF),
 (151,mF),
 (152,mF),
 (153,⟨true,2,16,some (.agg [.lit (.int .u64 0),.lit (.int .u64 0)]),.struct [(0,148),(1,26)],none,none⟩),
 (154,⟨true,6,48,some (.agg [.lit (.int .u64 0),.lit (.int .u64 0),.lit (.int .u64 0),.lit (.int .u64 0),.lit (.int .u64 0),.lit (.int .u64 0)]),.array 3 153,some [.int .u64,.int .u64,.int .u64,.int .u64,.int .u64,.int .u64],none⟩),
 (155,mF),
 (156,Yy),
 (157,Yy),
 (161,⟨false,1,4,some (.lit (.int .u32 0)),.other,none,none⟩),
 (162,m5),
 (163,m5),
 (164,mF),
 (165,mP),
 (166,m21),
 (167,m21),
 (168,Yz),
 (169,Yz)]
abbrev T:eh:=⟨den,up,dn,rp,Yv,SN,SO⟩
end Go.Proofs.YtpodhambaehlkaaGreatDoor
end
