/- Part 4 of the proof: texts of this session laid one behind the other. -/
import Derived.KernelRfl
import Derived.IntWalk
import Derived.Test.YtedjbjphpnkpoaaX3
set_option linter.unusedVariables false
set_option linter.unusedSimpArgs false
section
/- PS, part O: a state goes over into one with variables. -/
namespace Go.PI
variable {T:dw}{ρ:Type}
section
variable {H0 Hs Hf:ah T.den}
mutual
theorem R.ed(ht:∀ n c v0 aq,fL H0 n c v0→fL Hs n c aq→fL Hf n c aq)(hx:∀ (n:Nat) (o:aB T.den),H0[n]?=some (some o)→∃ o,Hf[n]?=some (some o)):∀ {v:SV T.den} {a0 a:AV},R T H0 v a0→R T Hs v a→R T Hf v a
 |.dead,_,_,h,_=>by simp[R]at h
 |.hole,a0,a,_,h=>by simpa[R] using h
 |.lit v,a0,a,_,h=>by simpa[R] using h
 |.agg l,a0,a,h0,h=>by
  simp only[R]at h0 h ⊢
  obtain⟨l0,_,h2⟩:=h0
  obtain⟨l',h1,h3⟩:=h
  exact⟨l',h1,RL.ed ht hx h2 h3⟩
 |.jt l,a0,a,h0,h=>by
  simp only[R]at h0 h ⊢
  obtain⟨l0,_,h2⟩:=h0
  obtain⟨l',h1,h3⟩:=h
  exact⟨l',h1,RL.ed ht hx h2 h3⟩
 |.sl l,a0,a,h0,h=>by
  simp only[R]at h0 h ⊢
  obtain⟨l0,_,h2,_⟩:=h0
  obtain⟨l',h1,h3,h4⟩:=h
  exact⟨l',h1,RL.ed ht hx h2 h3,h4⟩
 |.jr t l,a0,a,_,h=>by simpa[R] using h
 |.wI t l c b,a0,a,_,h=>by simp only[R]at h ⊢; exact h
 |.nz,a0,a,_,h=>by simp only[R]at h ⊢; exact h
 |.bf e j,a0,a,h0,h=>by
  simp only[R]at h0 h ⊢
  obtain⟨l0,_,h2,_⟩:=h0
  obtain⟨l',h1,h3,h4⟩:=h
  exact⟨l',h1,R.ed ht hx h2 h3,h4⟩
 |.ref m c i j,a0,a,h0,h=>by
  grind[R]
 |.iM m c i j ln cp,a0,a,h0,h=>by
  grind[R]
 |.bq esz m c rg cap,a0,a,h0,h=>by
  grind[R]
 |.iT fn f c,a0,a,h0,h=>by
  simp only[R]at h0 h ⊢
  obtain⟨_,_,_,g1,g2⟩:=h0
  obtain⟨f',c',h1,h2,h3⟩:=h
  exact⟨f',c',h1,RL.ed ht hx g1 h2,RL.ed ht hx g2 h3⟩
 |.gg t v,a0,a,h0,h=>by
  simp only[R]at h0 h ⊢
  obtain⟨l0,_,h2⟩:=h0
  obtain⟨l',h1,h3⟩:=h
  exact⟨l',h1,R.ed ht hx h2 h3⟩
 |.mp y n,a0,a,h0,h=>by
  grind[R]
 |.sD v s l i,a0,a,h0,h=>by
  simp only[R]at h0 h ⊢
  obtain⟨b0,h2,_⟩:=h0
  obtain⟨b,h3,h4⟩:=h
  exact⟨b,R.ed ht hx h2 h3,h4⟩
theorem RL.ed(ht:∀ n c v0 aq,fL H0 n c v0→fL Hs n c aq→fL Hf n c aq)(hx:∀ (n:Nat) (o:aB T.den),H0[n]?=some (some o)→∃ o,Hf[n]?=some (some o)):∀ {l:List (SV T.den)} {m0 m:List AV},RL T H0 l m0→RL T Hs l m→RL T Hf l m
 |[],[],[],_,_=>by simp[RL]
 |x::xs,y0::UG,y::ys,h0,h=>by
  simp only[RL]at h0 h ⊢
  exact⟨R.ed ht hx h0.1 h.1,RL.ed ht hx h0.2 h.2⟩
 |[],_::_,_,h,_=>by simp[RL]at h
 |[],[],_::_,_,h=>by simp[RL]at h
 |_::_,[],_,h,_=>by simp[RL]at h
 |_::_,_::_,[],_,h=>by simp[RL]at h
end
end
theorem km{Hs:ah T.den}:∀ {objs:List (Nat×cQ)} {l:List (TV T.den)},jY Hs objs=some l→∀ q,q∈objs→∃ o ln,Hs[q.1]?=some (some o)∧eg Hs o q.2=some ln
 |[],_,_,q,hq=>by simp at hq
 |(n,p)::r,l,h,q,hq=>by
  simp only[jY]at h
  split at h
  case h_2=>simp at h
  rename_i o ho
  rw[Option.bind_eq_some_iff]at h
  obtain⟨ln,h1,h⟩:=h
  rw[Option.map_eq_some_iff]at h
  obtain⟨l2,h2,rfl⟩:=h
  rcases List.mem_cons.1 hq with rfl|hq
  ·exact⟨o,ln,ho,h1⟩
  ·exact km h2 q hq
def Bs(p:cQ)(c:Nat):Nat:=
 match p with
 |.list _=>c+1
 |_=>c
theorem GZ(p:cQ)(c:Nat):c≤Bs p c:=by cases p<;>simp[Bs]
theorem NU{p:cQ}(h:∀ t,p≠.list t)(c:Nat):Bs p c=c:=by
 cases p with
 |list t=>exact absurd rfl (h t)
 |_=>rfl
def Start(H:ah T.den)(o:aB T.den)(p:cQ):Prop:=(∃ ln,eg H o p=some ln)∨(((∃ q,p=.one q)∨∃ ps,p=.agg ps)∧∃ g cl f c e,o=.arr g cl f c [e])
theorem DD{Hs:ah T.den}{o:aB T.den}{p:cQ}{ln:List (TV T.den)}(h:eg Hs o p=some ln):Compat (mw o p) p∧(mw o p).flags.1=o.flags.1∧(mw o p).flags.2.1=o.flags.2.1∧(mw o p).flags.2.2=o.flags.2.2 ∧
  (mw o p).cur=Bs p o.cur:=by
 cases p with
 |list t=>
  cases o with
  |arr g cl f c es=>
   cases cl with
   |true=>exact⟨⟨g,f,c+1,[],rfl⟩,rfl,rfl,rfl,rfl⟩
   |false=>cases h
  |bV g f c t' l=>exact⟨⟨g,f,c+1,[],rfl⟩,rfl,rfl,rfl,rfl⟩
  |_=>cases h
 |fix t=>
  cases o with
  |arr g cl f c es=>
   cases cl with
   |true=>exact⟨⟨g,f,c,[],rfl⟩,rfl,rfl,rfl,rfl⟩
   |false=>cases h
  |bV g f c t' l=>exact⟨⟨g,f,c,[],rfl⟩,rfl,rfl,rfl,rfl⟩
  |_=>cases h
 |one q=>
  cases o with
  |arr g cl f c es=>exact⟨⟨g,cl,f,c,es,rfl⟩,rfl,rfl,rfl,rfl⟩
  |_=>cases h
 |agg ps=>
  cases o with
  |arr g cl f c es=>exact⟨⟨g,cl,f,c,es,rfl⟩,rfl,rfl,rfl,rfl⟩
  |_=>cases h
 |map kk t=>
  obtain⟨m,rfl,rfl⟩:=tN h
  exact⟨⟨[],rfl⟩,rfl,rfl,rfl,rfl⟩
theorem yq{Hs:ah T.den}{o:aB T.den}{p:cQ}(h:Start Hs o p):Compat (mw o p) p∧(mw o p).flags.1=o.flags.1∧(mw o p).flags.2.1=o.flags.2.1∧(mw o p).flags.2.2=o.flags.2.2 ∧
  (mw o p).cur=Bs p o.cur:=by
 rcases h with ⟨ln,h⟩|⟨⟨q,rfl⟩|⟨ps,rfl⟩,g,cl,f,c,e,rfl⟩
 ·exact DD h
 ·exact⟨⟨g,cl,f,c,[e],rfl⟩,rfl,rfl,rfl,rfl⟩
 ·exact⟨⟨g,cl,f,c,[e],rfl⟩,rfl,rfl,rfl,rfl⟩
theorem iL:∀ {ext:List oX} {n:Nat} {q:Nat×cQ},q∈a9 n ext→∃ i g f t,q=(n+i,.list t)∧ext[i]?=some (.list g f t)
 |[],_,q,h=>by simp[a9]at h
 |.gY::r,n,q,h=>by
  simp only[a9]at h
  obtain⟨i,g,f,t,rfl,h2⟩:=iL h
  exact⟨i+1,g,f,t,by rw[show n+1+i=n+(i+1) by omega],by simpa using h2⟩
 |.list g f t::r,n,q,h=>by
  simp only[a9]at h
  rcases List.mem_cons.1 h with rfl|h
  ·exact⟨0,g,f,t,rfl,rfl⟩
  ·obtain⟨i,g',f',t',rfl,h2⟩:=iL h
   exact⟨i+1,g',f',t',by rw[show n+1+i=n+(i+1) by omega],by simpa using h2⟩
theorem mV[ab]:∀ {ext:List oX} {n:Nat},c7 ((a9 n ext).map (·.1))=true
 |[],_=>rfl
 |.gY::r,n=>by simp only[a9]; exact mV
 |.list g f t::r,n=>by
  simp only[a9,List.map_cons,c7,Bool.and_eq_true,Bool.not_eq_true',List.contains_eq_mem,decide_eq_false_iff_not]
  refine⟨fun h=>?_,mV⟩
  obtain⟨q,hq,e⟩:=List.mem_map.1 h
  obtain⟨i,_,_,_,rfl,_⟩:=iL hq
  simp only at e
  omega
theorem Ah[ab]:∀ {l m:List Nat},c7 l=true→c7 m=true→(∀ x,x∈l→x∉m)→c7 (l++m)=true
 |[],m,_,h,_=>h
 |x::l,m,h,h',hd=>by
  obtain⟨h1,h2⟩:=nodup_cons h
  simp only[List.cons_append,c7,Bool.and_eq_true,Bool.not_eq_true',List.contains_eq_mem,decide_eq_false_iff_not,List.mem_append,not_or]
  exact⟨⟨h1,hd x (by simp)⟩,Ah h2 h' fun y hy=>hd y (List.mem_cons_of_mem _ hy)⟩
theorem tO{H:ah T.den}:∀ {ext:List oX} {n i:Nat} {e:oX},C3 H n ext=true→ext[i]?=some e→∃ o,H[n+i]?=some (some o)∧(match e with|.gY=>o.flags.2.1=true|.list g f _=>o.flags=(g,true,f))
 |[],_,i,e,_,h=>by simp at h
 |x::r,n,i,e,hx,h=>by
  simp only[C3,Bool.and_eq_true]at hx
  cases i with
  |zero=>
   grind
  |succ i=>
   simp only[List.getElem?_cons_succ]at h
   obtain⟨o,h1,h2⟩:=tO hx.2 h
   exact⟨o,by rw[show n+(i+1)=n+1+i by omega]; exact h1,h2⟩
theorem oA[ab]:∀ {ext:List oX} {n i:Nat},i<ext.length→(ext[i]?=some .gY∧n+i∉(a9 n ext).map (·.1))∨∃ g f t,ext[i]?=some (.list g f t)∧(n+i,cQ.list t)∈a9 n ext
 |[],_,i,h=>by simp at h
 |.gY::r,n,i,h=>by
  cases i with
  |zero=>
   left
   refine⟨rfl,fun hc=>?_⟩
   obtain⟨q,hq,e⟩:=List.mem_map.1 hc
   simp only[a9]at hq
   obtain⟨j,_,_,_,rfl,_⟩:=iL hq
   simp only at e; omega
  |succ i=>
   rcases oA (n:=n+1) (i:=i) (by simpa using h) with ⟨h1,h2⟩|⟨g,f,t,h1,h2⟩
   ·grind[a9]
   ·grind[a9]
 |.list g f t::r,n,i,h=>by
  cases i with
  |zero=>grind[a9]
  |succ i=>
   rcases oA (n:=n+1) (i:=i) (by simpa using h) with ⟨h1,h2⟩|⟨g',f',t',h1,h2⟩
   ·left
    refine⟨by simpa using h1,?_⟩
    simp only[a9,List.map_cons,List.mem_cons,not_or]
    exact⟨by omega,by rw[show n+(i+1)=n+1+i by omega]; exact h2⟩
   ·grind[a9]
theorem Ib(hT:T.Ok){o:aB T.den}{H:ah T.den}{a:aM}(h:RO T H o a)(hc:o.flags.2.1=true):(∃ g f es,a=.arr g true f es)∨∃ k vs,a=.gh k vs∧∀ n,cO n vs=true:=by
 cases o with
 |arr g cl f c es=>
  obtain⟨es',rfl,_⟩:=h
  simp only[aB.flags]at hc
  subst hc
  exact .inl ⟨_,_,_,rfl⟩
 |bV g f c t l=>obtain⟨es',rfl,_⟩:=h; exact .inl ⟨_,_,_,rfl⟩
 |gY=>exact h
 |ke kk t m=>obtain⟨vs,rfl,h⟩:=h; exact .inr ⟨_,_,rfl,fun n=>ym hT h⟩
 |oU fn ps as bd fr=>simp[aB.flags]at hc
structure Ic(T:dw)(az:List (Nat×oW))(dead:List Nat)(objs:List (Nat×cQ))(ext:List oX)(s0 s:bx T.den)(l:List (TV T.den)):Prop where
 Rg:c7 (az.map (·.1))=true
 UH:c7 (objs.map (·.1))=true
 Lb:∀ d,d∈az.map (·.1)++dead→d<s0.n
 kf:sf s0.hp.length az (objs++a9 s0.hp.length ext)=true
 fn:s.fn=s0.fn
 n:s.n=s0.n
 fr:∀ t,t∉az.map (·.1)++dead→cH s.fr t=cH s0.fr t
 hp:∀ n:Nat,n<s0.hp.length→n∉objs.map (·.1)→s.hp[n]?=s0.hp[n]?
 len:s.hp.length=s0.hp.length+ext.length
 flags:qB s0.hp s.hp objs=true
 cur:wL s0.hp s.hp objs=true
 Qu:C3 s.hp s0.hp.length ext=true
 Qv:∀ q,q∈objs→∃ o,s0.hp[q.1]?=some (some o)∧Start s0.hp o q.2
 abs:uQ az (objs++a9 s0.hp.length ext) s=some l
theorem Bt{H H':ah T.den}{objs:List (Nat×cQ)}(h:qB H H' objs=true){q:Nat×cQ}(hq:q∈objs){o o':aB T.den}(h1:H[q.1]?=some (some o))(h2:H'[q.1]?=some (some o')):o.flags=o'.flags:=by
 have:=List.all_eq_true.1 h q hq
 simp only[h1,h2,decide_eq_true_eq]at this
 exact this
theorem FF{H H':ah T.den}{objs:List (Nat×cQ)}(h:wL H H' objs=true){q:Nat×cQ}(hq:q∈objs)(hl:∀ t,q.2≠.list t){o o':aB T.den}(h1:H[q.1]?=some (some o))(h2:H'[q.1]?=some (some o')):o.cur=o'.cur:=by
 have:=List.all_eq_true.1 h q hq
 split at this
 ·rename_i t e; exact absurd e (hl t)
 ·simp_all
theorem G0[ab](hT:T.Ok){az:List (Nat×oW)}{dead:List Nat}{objs:List (Nat×cQ)}{ext:List oX}{s0 s:bx T.den}{l:List (TV T.den)}(ho:Ic T az dead objs ext s0 s l){YJ st:St}(h0:RS T s0 YJ)(h:RS T s st):
  RS T { c9 az dead objs ext s0 l with js:=s.js } st∧(c9 az dead objs ext s0 l).hp.length=s.hp.length ∧
  (∀ n:Nat,n<s0.hp.length→n∉objs.map (·.1)→(c9 az dead objs ext s0 l).hp[n]?=s0.hp[n]?) ∧
  (∀ t,t∉az.map (·.1)++dead→cH (c9 az dead objs ext s0 l).fr t=cH s0.fr t) ∧
  (c9 az dead objs ext s0 l).fn=s0.fn∧(c9 az dead objs ext s0 l).n=s0.n ∧
  (∀ q,q∈objs→∃ o0 os of,s0.hp[q.1]?=some (some o0)∧s.hp[q.1]?=some (some os)∧(c9 az dead objs ext s0 l).hp[q.1]?=some (some of)∧of.len=os.len∧of.cur=Bs q.2 o0.cur):=by
 have O1:=ho.Qv
 have bQ:∀ n,n∈objs.map (·.1)→n<s0.hp.length:=by
  grind
 have MO:∀ n,n∈(a9 s0.hp.length ext).map (·.1)→s0.hp.length≤n:=by
  intro n hn
  obtain⟨q,hq,rfl⟩:=List.mem_map.1 hn
  obtain⟨i,_,_,_,rfl,_⟩:=iL hq
  simp
 have zO:c7 ((objs++a9 s0.hp.length ext).map (·.1))=true:=by
  rw[List.map_append]
  exact Ah ho.UH mV fun x hx hc=>by have:=bQ x hx; have:=MO x hc; omega
 obtain⟨b1,b2,b3⟩:=sy (objs:=objs) (H:=s0.hp) ho.UH
 generalize IE:rn s0.hp objs++ext.map HW=H1
 have Lc:H1.length=s.hp.length:=by rw[←IE,ho.len]; simp[b1]
 have yr:∀ n:Nat,n<s0.hp.length→H1[n]?=(rn s0.hp objs)[n]?:=fun n hn=>by
  grind
 have Ld:∀ i:Nat,H1[s0.hp.length+i]?=(ext.map HW)[i]?:=fun i=>by
  grind
 have oZ:=ho.abs
 unfold uQ at oZ
 rw[Option.bind_eq_some_iff]at oZ
 obtain⟨la,hla,oZ⟩:=oZ
 rw[Option.map_eq_some_iff]at oZ
 obtain⟨lb,OF,rfl⟩:=oZ
 have QY:∀ q,q∈objs++a9 s0.hp.length ext→∃ o,H1[q.1]?=some (some o)∧Compat o q.2:=by
  intro q hq
  rcases List.mem_append.1 hq with hq|hq
  ·obtain⟨o,h1,h2⟩:=O1 q hq
   exact⟨mw o q.2,by rw[yr _ (bQ _ (List.mem_map_of_mem hq))]; exact b3 q hq o h1,(yq h2).1⟩
  ·obtain⟨i,g,f,t,rfl,h2⟩:=iL hq
   refine⟨.bV g f 0 t [],?_,⟨g,f,0,[],rfl⟩⟩
   simp only
   rw[Ld,List.getElem?_map,h2]
   rfl
 obtain⟨c1,c2,c3,c4⟩:=rD hT (Hs:=s.hp) (H:=H1) [] zO OF QY
 simp only[List.append_nil]at c1 c2 c3 c4
 generalize hHf:ga H1 (objs++a9 s0.hp.length ext) lb=Hf at c1 c2 c3 c4
 have hlen:DA (fun n=>n<s0.hp.length∨n∈(objs++a9 s0.hp.length ext).map (·.1)) s.hp Hf:=by
  intro n o hn Pd
  by_cases hm:n∈(objs++a9 s0.hp.length ext).map (·.1)
  ·grind
  ·have hn:n<s0.hp.length:=hn.resolve_right hm
   have AE:n∉objs.map (·.1):=fun hc=>hm (by rw[List.map_append]; exact List.mem_append_left _ hc)
   refine⟨o,?_,rfl⟩
   rw[c2 n hm,yr n hn,b2 n AE,←ho.hp n hn AE]
   exact Pd
 have O2:=List.all_eq_true.1 ho.kf
 have Wt:∀ q,q∈objs++a9 s0.hp.length ext→∀ n,n∈q.2.kf→(n<s0.hp.length∨n∈(objs++a9 s0.hp.length ext).map (·.1)):=by
  intro q hq n hn
  have:=O2 n (List.mem_append_right _ (List.mem_flatMap.2 ⟨q,hq,hn⟩))
  simp only[Bool.or_eq_true,List.contains_eq_mem,decide_eq_true_eq]at this
  refine this.imp (fun h=>?_) id
  have:=Nat.le_of_ble_eq_true h
  omega
 have Wu:∀ q,q∈az→∀ n,n∈q.2.kf→(n<s0.hp.length∨n∈(objs++a9 s0.hp.length ext).map (·.1)):=by
  intro q hq n hn
  have:=O2 n (List.mem_append_left _ (List.mem_flatMap.2 ⟨q,hq,hn⟩))
  simp only[Bool.or_eq_true,List.contains_eq_mem,decide_eq_true_eq]at this
  refine this.imp (fun h=>?_) id
  have:=Nat.le_of_ble_eq_true h
  omega
 have NV:∀ q,q∈objs→∃ o0 os of,s0.hp[q.1]?=some (some o0)∧s.hp[q.1]?=some (some os)∧Hf[q.1]?=some (some of)∧of.len=os.len∧of.cur=Bs q.2 o0.cur ∧
   (∀ a,RO T s.hp os a→RO T Hf of a):=by
  intro q hq
  obtain⟨o0,h1,h2⟩:=O1 q hq
  obtain⟨o1,os,o',ln,Hc,DC,d1,d2,d3,d4,d5,d6,d7,d8⟩:=c4 q (List.mem_append_left _ hq)
  have hb:=b3 q hq o0 h1
  rw[yr _ (bQ _ (List.mem_map_of_mem hq)),hb]at d1
  simp only[Option.some.injEq]at d1
  subst d1
  obtain⟨e1,e2,e3,e4,e5⟩:=yq h2
  have HN:=Bt ho.flags hq h1 d2
  refine⟨o0,os,o',h1,d2,d6,d8,by rw[d7,e5],fun a ha=>?_⟩
  exact yp hT (fun n=>by rw[d4,c3]) hlen (Wt q (List.mem_append_left _ hq)) e1 d3 d5 (by rw[e2,HN]) (by rw[e3,HN]) (by rw[e4,HN]) ha
 have QV:∀ n c v0 aq,fL s0.hp n c v0→fL s.hp n c aq→fL Hf n c aq:=by
  intro n c v0 aq Ja hv
  have hn:=Ja.lt
  by_cases hm:n∈objs.map (·.1)
  ·obtain⟨q,hq,rfl⟩:=List.mem_map.1 hm
   obtain⟨o0,os,of,g1,g2,g3,g4,g5,_⟩:=NV q hq
   obtain⟨o0',k1,k2,_⟩:=Ja
   rw[g1]at k1
   simp only[Option.some.injEq]at k1
   subst k1
   obtain⟨os',k3,k4,k5⟩:=hv
   rw[g2]at k3
   simp only[Option.some.injEq]at k3
   subst k3
   refine⟨of,g3,?_,fun e=>?_⟩
   ·have:=GZ q.2 o0.cur; omega
   ·by_cases hl:∃ t,q.2=.list t
    ·obtain⟨t,hl⟩:=hl
     rw[g5,hl]at e
     simp only[Bs]at e
     omega
    ·have hc:=FF ho.cur hq (fun t e=>hl ⟨t,e⟩) g1 g2
     have:of.cur=o0.cur:=by rw[g5,NU (fun t e=>hl ⟨t,e⟩)]
     rw[g4]
     exact k5 (by omega)
  ·have AE:n∉(objs++a9 s0.hp.length ext).map (·.1):=by
    rw[List.map_append]
    intro hc
    rcases List.mem_append.1 hc with hc|hc
    ·exact hm hc
    ·have:=MO n hc; omega
   obtain⟨os,k1,k2,k3⟩:=hv
   exact⟨os,by rw[c2 n AE,yr n hn,b2 n hm,←ho.hp n hn hm]; exact k1,k2,k3⟩
 have S3:∀ n:Nat,n<s0.hp.length→n∉objs.map (·.1)→Hf[n]?=s0.hp[n]?:=by
  intro n hn hm
  have AE:n∉(objs++a9 s0.hp.length ext).map (·.1):=by
   rw[List.map_append]
   intro hc
   rcases List.mem_append.1 hc with hc|hc
   ·exact hm hc
   ·have:=MO n hc; omega
  rw[c2 n AE,yr n hn,b2 n hm]
 have hex:∀ (n:Nat) (o:aB T.den),s0.hp[n]?=some (some o)→∃ o,Hf[n]?=some (some o):=by
  intro n o zm
  have hn:=(List.getElem?_eq_some_iff.1 zm).1
  by_cases hm:n∈objs.map (·.1)
  ·obtain⟨q,hq,rfl⟩:=List.mem_map.1 hm
   obtain⟨_,_,of,_,_,g3,_⟩:=NV q hq
   exact⟨of,g3⟩
  ·exact⟨o,by rw[S3 n hn hm]; exact zm⟩
 have Qw:kD s.js Hf st.hp:=by
  intro n x hx
  obtain⟨h1,h2⟩:=h.js n x hx
  refine⟨?_,h2⟩
  obtain⟨o,HC,ur⟩:∃ o,s.hp[n]?=some (some o)∧o.isRec=true:=by
   unfold recAt at h1
   split at h1
   ·rename_i o HC; exact⟨o,HC,h1⟩
   ·simp at h1
  by_cases hn:n<s0.hp.length
  ·by_cases hm:n∈objs.map (·.1)
   ·exfalso
    obtain⟨q,hq,rfl⟩:=List.mem_map.1 hm
    obtain⟨o1,os,o',ln,Hc,DC,_,d2,d3,_⟩:=c4 q (List.mem_append_left _ hq)
    rw[HC]at d2
    simp only[Option.some.injEq]at d2
    subst d2
    cases o<;>simp[aB.isRec]at ur
    cases hp2:q.2<;>rw[hp2]at d3<;>cases d3
   ·rw[p5 (show Hf[n]?=s.hp[n]? by rw[S3 n hn hm,ho.hp n hn hm])]
    exact h1
  ·exfalso
   have Wj:=(List.getElem?_eq_some_iff.1 HC).1
   have hi:n-s0.hp.length<ext.length:=by have:=ho.len; omega
   have La:s0.hp.length+(n-s0.hp.length)=n:=by omega
   obtain⟨e,he⟩:∃ e,ext[n-s0.hp.length]?=some e:=⟨_,List.getElem?_eq_getElem hi⟩
   obtain⟨o2,m1,m2⟩:=tO ho.Qu he
   rw[La,HC]at m1
   simp only[Option.some.injEq]at m1
   subst m1
   cases o<;>simp[aB.isRec]at ur
   cases e<;>simp[aB.flags]at m2
 have NR:RH T Hf st.hp:=by
  have rb:Hf.length=st.hp.length:=by rw[c1,Lc]; exact h.hp.length
  refine aw.ee rb fun n x y hx hy=>?_
  obtain⟨xs,zp,hr⟩:=aw.get' h.hp hy
  have Wj:n<s.hp.length:=(List.getElem?_eq_some_iff.1 zp).1
  by_cases hn:n<s0.hp.length
  ·by_cases hm:n∈objs.map (·.1)
   ·obtain⟨q,hq,rfl⟩:=List.mem_map.1 hm
    obtain⟨o0,os,of,g1,g2,g3,g4,g5,g6⟩:=NV q hq
    rw[g3]at hx
    rw[g2]at zp
    simp only[Option.some.injEq]at hx zp
    subst hx; subst zp
    cases y with
    |none=>exact hr.elim
    |some a=>exact g6 a hr
   ·have AE:n∉(objs++a9 s0.hp.length ext).map (·.1):=by
     rw[List.map_append]
     intro hc
     rcases List.mem_append.1 hc with hc|hc
     ·exact hm hc
     ·have:=MO n hc; omega
    rw[c2 n AE,yr n hn,b2 n hm,←ho.hp n hn hm,zp]at hx
    simp only[Option.some.injEq]at hx
    subst hx
    have D8:s0.hp[n]?=some xs:=by rw[←ho.hp n hn hm]; exact zp
    obtain⟨y0,_,BZ⟩:=aw.get h0.hp D8
    cases xs with
    |none=>cases y with
     |none=>trivial
     |some a=>exact hr.elim
    |some o=>cases y with
     |none=>exact hr.elim
     |some a=>
      cases y0 with
      |none=>exact BZ.elim
      |some a0=>
       cases o with
       |arr g cl f c es=>
        obtain⟨es',e1,e2,e3⟩:=hr
        obtain⟨Wp,_,e5,_⟩:=BZ
        exact⟨es',e1,RL.ed QV hex e5 e2,e3⟩
       |bV g f c t l=>exact hr
       |gY=>exact hr
       |ke kk t m=>exact hr
       |oU fn ps as bd fr=>
        obtain⟨st,vs,e1,e2⟩:=hr
        obtain⟨YJ,vs0,_,e5⟩:=BZ
        refine⟨st,vs,e1,aw.ee e2.length fun i x y hx hy=>?_⟩
        obtain⟨y',AK,kq⟩:=aw.get e2 hx
        rw[hy]at AK
        simp only[Option.some.injEq]at AK
        subst AK
        obtain⟨y0,Up,Qx⟩:=aw.get e5 hx
        rcases kq with kq|kq
        ·exact .inl kq
        ·rcases Qx with ⟨rfl,_⟩|Qx
         ·simp[R]at kq
         ·exact .inr (R.ed QV hex Qx kq)
  ·have hi:n-s0.hp.length<ext.length:=by have:=ho.len; omega
   have La:n=s0.hp.length+(n-s0.hp.length):=by omega
   rcases oA (n:=s0.hp.length) hi with ⟨k1,k2⟩|⟨g,f,t,k1,k2⟩
   ·rw[←La]at k2
    have AE:n∉(objs++a9 s0.hp.length ext).map (·.1):=by
     rw[List.map_append]
     intro hc
     rcases List.mem_append.1 hc with hc|hc
     ·exact hn (bQ n hc)
     ·exact k2 hc
    rw[c2 n AE,La,Ld,List.getElem?_map,k1]at hx
    simp only[Option.map_some,HW,Option.some.injEq]at hx
    subst hx
    obtain⟨o,m1,m2⟩:=tO ho.Qu k1
    rw[←La,zp]at m1
    simp only[Option.some.injEq]at m1
    subst m1
    cases y with
    |none=>exact hr.elim
    |some a=>exact Ib hT hr m2
   ·obtain⟨o1,os,o',ln,Hc,DC,d1,d2,d3,d4,d5,d6,d7,d8⟩:=c4 _ (List.mem_append_right _ k2)
    simp only at d1 d2 d3 d5 d6
    rw[←La]at d2 d6
    rw[d6]at hx
    rw[d2]at zp
    simp only[Option.some.injEq]at hx zp
    subst hx; subst zp
    rw[Ld,List.getElem?_map,k1]at d1
    simp only[Option.map_some,HW,Option.some.injEq]at d1
    subst d1
    obtain⟨o,m1,m2⟩:=tO ho.Qu k1
    rw[←La,d2]at m1
    simp only[Option.some.injEq]at m1
    subst m1
    simp only at m2
    cases y with
    |none=>exact hr.elim
    |some a=>
     exact yp hT (fun n=>by rw[d4,c3]) hlen (by intro n hn; simp[cQ.kf]at hn) (show Compat (.bV g f 0 t []) (.list t) from ⟨g,f,0,[],rfl⟩) d3 d5 (by rw[m2]; rfl) (by rw[m2]; rfl) (by rw[m2]; rfl) hr
 obtain⟨yQ,f1,f2,f3⟩:=p8 hT (Hc:=H1) (Hf:=Hf) (fun n=>by rw[c3]) hlen (N:=s0.n) (frs:=s.fr) (ast:=fun t=>st.fr.getD t .undef) h.fr (fr:=z1 s0.n s0.fr dead) lb ho.Rg
  (fun q hq=>⟨ho.Lb _ (List.mem_append_left _ (List.mem_map_of_mem hq)),Wu q hq⟩) hla
 have S4:c9 az dead objs ext s0 (la++lb)={ s0 with fr:=yQ,hp:=Hf }:=by
  unfold c9
  rw[IE,f1]
  simp only[hHf]
 have Bu:∀ t,t∉az.map (·.1)++dead→cH yQ t=cH s0.fr t:=by
  intro t ht
  simp only[List.mem_append,not_or]at ht
  rw[f2 t ht.1,u7,if_neg (fun hc=>ht.2 hc.1)]
 rw[S4]
 refine⟨⟨?_,?_,fun t=>?_,NR,Qw⟩,by rw[c1,Lc],fun n hn hm=>?_,Bu,rfl,rfl,fun q hq=>?_⟩
 ·show s0.fn=st.fn
  rw[←ho.fn]; exact h.fn
 ·show st.fr.length=s0.n
  rw[←ho.n]; exact h.n
 ·simp only
  by_cases ht:t∈az.map (·.1)
  ·obtain⟨q,hq,rfl⟩:=List.mem_map.1 ht
   exact .inr (f3 q hq)
  ·by_cases hd:t∈dead
   ·left
    rw[f2 t ht,u7,if_pos ⟨hd,ho.Lb _ (List.mem_append_right _ hd)⟩]
   ·have YK:t∉az.map (·.1)++dead:=by simp only[List.mem_append,not_or]; exact⟨ht,hd⟩
    rw[Bu t YK]
    have e1:=h.fr t
    rw[ho.fr t YK]at e1
    rcases e1 with e1|e1
    ·exact .inl e1
    ·rcases h0.fr t with e0|e0
     ·exact .inl e0
     ·exact .inr (R.ed QV hex e0 e1)
 ·simp only
  have AE:n∉(objs++a9 s0.hp.length ext).map (·.1):=by
   rw[List.map_append]
   intro hc
   rcases List.mem_append.1 hc with hc|hc
   ·exact hm hc
   ·have:=MO n hc; omega
  rw[c2 n AE,yr n hn,b2 n hm]
 ·obtain⟨o0,os,of,g1,g2,g3,g4,g5,_⟩:=NV q hq
  exact⟨o0,os,of,g1,g2,g3,g4,g5⟩
end Go.PI
end
section
/- PS, part P: the trees tell the truth. -/
namespace Go.PI
structure oa.Ok[ab](S:oa):Prop where
 T:S.T.Ok
 Q:S.Q.Ok
 Z:S.T.tJ S.Q
 sum:∀ g σ,S.sum g=some σ→pZ S.C S.T g σ
 own:∀ g σ,S.own g=some σ→GW S.C S.T g σ
def DE(T:dw):oV T.den→Out→Prop
 |.norm s,o=>∃ st,o=.norm st∧RS T s st
 |.exit id s,o=>∃ st,o=.exit id st∧RS T s st
 |.ret s,o=>∃ st,o=.ret st∧RS T s st
def oV.st{den:Nat→Type}:oV den→bx den
 |.norm s=>s
 |.exit _ s=>s
 |.ret s=>s
structure oB[ab](S:oa)(k:Nat):Prop where
 f:∀ (ρ:Type) (f:FuncId) (args:List (SV S.T.den)) (hp:ah S.T.den) (wh:List Nat) (js:List (Nat×kW)) (K:SV S.T.den→ah S.T.den→List Nat→List (Nat×kW)→Tr ρ) (r:ρ) (as:List AV) (NW:ag),RL S.T hp args as→RH S.T hp NW→kD js hp NW →
  (OO S k ρ f args hp wh js K).run=some r→∃ v cq oS qJ a eL,kv S.C f as NW=some (.val a,eL)∧R S.T cq v a∧RH S.T cq eL∧kD qJ cq eL∧dk hp cq∧hp.length≤cq.length ∧
    (∀ n:Nat,n<hp.length→n∉oS→cq[n]?=hp[n]?)∧(∀ n,n∈wh→n∈oS)∧(K v cq oS qJ).run=some r
 c:∀ (ρ:Type) (c:Code) (s:bx S.T.den) (K:oV S.T.den→Tr ρ) (r:ρ) (st:St),RS S.T s st→(wv S k ρ c s K).run=some r →
  ∃ so o,cR S.C c st=some o∧DE S.T so o∧bj s so.st∧(K so).run=some r
 o:∀ (ρ:Type) (o:Oper) (s:bx S.T.den) (K:bx S.T.den→Tr ρ) (r:ρ) (st:St),RS S.T s st→(NG S k ρ o s K).run=some r →
  ∃ s' st',ie S.C o st=some (.norm st')∧RS S.T s' st'∧bj s s'∧(K s').run=some r
section
variable {T:dw}{ρ:Type}
theorem p9[ab](hT:T.Ok){s:bx T.den}{st:St}(h:RS T s st){v:SV T.den}{a:AV}{cq:ah T.den}{eL:ag}{oS:List Nat}{qJ:List (Nat×kW)}(g2:R T cq v a)(g3:RH T cq eL)(g4:dk s.hp cq)(g5:s.hp.length≤cq.length)
  (g6:∀ n:Nat,n<s.hp.length→n∉oS→cq[n]?=s.hp[n]?) (g7:∀ n,n∈s.wh→n∈oS) (hj:kD qJ cq eL) (hb:si qJ s.hp.length=true) :
  RS T ⟨s.fn,s.n,s.fr,fZ s.hp.length v cq,s.wf,oS,qJ⟩ ⟨st.fn,st.fr,gJ s.hp.length a eL⟩∧bj s ⟨s.fn,s.n,s.fr,fZ s.hp.length v cq,s.wf,oS,qJ⟩∧R T (fZ s.hp.length v cq) v a:=by
 obtain⟨t1,t2⟩:=H9 (n:=s.hp.length) hT g3 g2
 have zx:dk s.hp (fZ s.hp.length v cq):=by
  unfold fZ
  split
  ·intro n o ho
   obtain⟨o',h1,h2⟩:=g4 n o ho
   exact⟨o',by rw[mU (List.getElem?_eq_some_iff.1 ho).1]; exact h1,h2⟩
  ·exact g4
 have S5:∀ n:Nat,n<s.hp.length→n∉oS→(fZ s.hp.length v cq)[n]?=s.hp[n]?:=by
  grind[fZ]
 have hlen:s.hp.length≤(fZ s.hp.length v cq).length:=by
  grind[fZ]
 have Qw:kD qJ (fZ s.hp.length v cq) (gJ s.hp.length a eL):=by
  unfold fZ gJ
  rw[R.below g2,k9 hT (aw.take g3 _)]
  split
  ·exact hj.take (Ag hb)
  ·exact hj
 exact⟨⟨h.fn,h.n,fun t=>(h.fr t).mono zx,t1,Qw⟩,⟨rfl,rfl,fun _ _=>rfl,fun _ h=>h,S5,g7,hlen,zx⟩,t2⟩
theorem yu[ab]{H H':ah T.den}{esz j nm:Nat}{e e':SV T.den}{a:AV}(hr:R T H e a)(hx:∀ {v:SV T.den} {b:AV},R T H v b→R T H' v b)(hn:R T H' (.bq esz nm 0 none none) (.bq esz nm 0 0 0 none))(h:pS esz j nm e=some e'):
  ∃ a',kH esz j nm a=some a'∧R T H' e' a':=by
 unfold pS at h
 split at h
 ·rename_i l
  split at h
  case h_2=>simp at h
  rename_i hl
  simp only[Option.some.injEq]at h
  subst h
  simp only[R]at hr
  obtain⟨l',rfl,iQ⟩:=hr
  obtain⟨b,hb,Rd⟩:=aw.get (aQ.1 iQ) hl
  simp only[R]at Rd
  subst Rd
  refine⟨.agg (l'.set j (.bq esz nm 0 0 0 none)),by simp only[kH,hb],?_⟩
  simp only[R]
  exact⟨_,rfl,aQ.2 (((aQ.1 iQ).mono fun _ _ h=>hx h).set j hn)⟩
 ·split at h
  case isFalse=>simp at h
  rename_i hj
  simp only[Option.some.injEq]at h
  subst h
  simp only[R]at hr
  subst hr
  exact⟨_,by simp only[kH]; rw[if_pos hj],hn⟩
 ·simp at h
theorem S6[ab]{H:ah T.den}:RO T H (.arr true true false 0 []) (.arr true true false []):=⟨[],rfl,by simp[RL],fun _=>rfl⟩
theorem Lf{H:ah T.den}{esz nm:Nat}{g cl f:Bool}(h:H[nm]?=some (some (.arr g cl f 0 []))):R T H (.bq esz nm 0 none none) (.bq esz nm 0 0 0 none):=by
 simp only[R]
 exact⟨0,⟨_,h,Nat.le_refl _,fun _=>rfl⟩,rfl⟩
theorem G1[ab](hT:T.Ok){d:Tmp}{r:ρ}{K:bx T.den→Tr ρ}:∀ {l:List (Nat×Nat)} {s:bx T.den} {st:St},RS T s st→(HY d l s K).run=some r→∃ s',RS T s' (IM d l st)∧bj s s'∧(K s').run=some r
 |[],s,st,h,hk=>⟨s,h,bj.refl _,hk⟩
 |(j,esz)::l,s,st,h,hk=>by
  have hlen:=h.hp.length
  unfold HY at hk
  have hd:=h.fr d
  have Fx:∀ {s':bx T.den},RS T s' (pa d st j esz)→bj s s'→(HY d l s' K).run=some r→∃ s',RS T s' (IM d ((j,esz)::l) st)∧bj s s'∧(K s').run=some r:=by
   intro s' h1 h2 h3
   obtain⟨s2,i1,i2,i3⟩:=G1 hT h1 h3
   exact⟨s2,i1,h2.trans i2,i3⟩
  split at hk
  ·rename_i n c i k he
   rw[he]at hd
   have hd:=hd.live rfl
   simp only[R]at hd
   obtain⟨aq,hd,bZ⟩:=hd
   have eK:st.fr[d]?=some (.ref n aq i k):=by
    grind
   split at hk
   case h_2=>simp[Tr.run]at hk
   rename_i g cl f cur es ho
   obtain⟨ao,c8,dC⟩:=h.hp.obj ho
   obtain⟨es',rfl,cC,mg⟩:=dC
   split at hk
   case h_2=>simp[Tr.run]at hk
   rename_i e' Gf
   obtain⟨e,Ma,xC⟩:=Option.bind_eq_some_iff.1 Gf
   obtain⟨ea,S7,Ed⟩:=aw.get (aQ.1 cC) Ma
   have hn:=(List.getElem?_eq_some_iff.1 ho).1
   have pf:=h.hp.new (nm:=s.hp.length) (o':=.arr true true false 0 []) (a':=.arr true true false []) (.inl rfl) S6
   have e1:bJ s.hp s.hp.length (.arr true true false 0 [])=s.hp++[some (.arr true true false 0 [])]:=by simp[bJ]
   have e2:setObj st.hp s.hp.length (.arr true true false [])=st.hp++[some (.arr true true false [])]:=by simp[setObj,hlen]
   rw[e1,e2]at pf
   obtain⟨OX,wm⟩:=pf
   have kb:R T (s.hp++[some (.arr true true false 0 [])]) (.bq esz s.hp.length 0 none none) (.bq esz s.hp.length 0 0 0 none):=Lf (g:=true) (cl:=true) (f:=false) (by simp)
   obtain⟨O3,h5,h6⟩:=yu Ed (fun h=>h.mono OX) kb xC
   have ur:(s.hp++[some (aB.arr true true false 0 [])])[n]?=some (some (.arr g cl f cur es)):=by rw[List.getElem?_append_left hn]; exact ho
   have dD:RL T (s.hp++[some (.arr true true false 0 [])]) (es.set i e') (es'.set i O3):=aQ.2 (((aQ.1 cC).mono fun _ _ h=>h.mono OX).set i h6)
   obtain⟨hg2,EX⟩:=wm.Q9 ur (o':=.arr g false f cur (es.set i e')) (a':=.arr g false f (es'.set i O3)) (Nat.le_refl _) (fun _=>by simp[aB.len]) ⟨_,rfl,dD,fun hc=>by simp at hc⟩
   have w1:bc s.hp [(n,.arr g false f cur (es.set i e')),(s.hp.length,.arr true true false 0 [])]=(s.hp++[some (aB.arr true true false 0 [])]).set n (some (aB.arr g false f cur (es.set i e'))):=by
    have q1:bJ s.hp n (.arr g false f cur (es.set i e'))=s.hp.set n (some (.arr g false f cur (es.set i e'))):=by unfold bJ; rw[if_neg (by omega)]
    have q2:∀ (L:ah T.den) (o:aB T.den),L.length=s.hp.length→bJ L s.hp.length o=L++[some o]:=fun L o hL=>by unfold bJ; rw[if_pos hL.symm]
    simp only[bc]
    rw[q1,q2 _ _ (by simp),List.set_append_left _ _ hn]
   have w2:ak st.hp [(n,.arr g false f (es'.set i O3)),(s.hp.length,.arr true true false [])]=(st.hp++[some (aM.arr true true false [])]).set n (some (aM.arr g false f (es'.set i O3))):=by
    have q1:setObj st.hp n (.arr g false f (es'.set i O3))=st.hp.set n (some (.arr g false f (es'.set i O3))):=by unfold setObj; rw[if_neg (by omega)]
    have q2:∀ (L:ag) (o:aM),L.length=s.hp.length→setObj L s.hp.length o=L++[some o]:=fun L o hL=>by unfold setObj; rw[if_pos hL.symm]
    simp only[ak]
    rw[q1,q2 _ _ (by simp[hlen]),List.set_append_left _ _ (by omega)]
   rw[cD]at hk
   have Wv:RE T s.hp st.hp (.lit undef) [(n,.arr g false f cur (es.set i e')),(s.hp.length,.arr true true false 0 [])] ⟨.undef,[(n,.arr g false f (es'.set i O3)),(s.hp.length,.arr true true false [])]⟩:=by
    refine⟨bm undef,by rw[w1,w2]; exact EX,by rw[w1]; exact OX.trans hg2,fun q hq=>?_,fun m hm hl=>?_,by rw[w1]; simp,fun m hm hc=>?_⟩
    ·grind
    ·grind
    ·simp at hc
     rcases hc with rfl|rfl
     ·simp[recAt,ho,aB.isRec]at hm
     ·have:=jo hm; omega
   obtain⟨g8,g9⟩:=h.step Wv none
   refine Fx (s':=s.step none (.lit undef) _) ?_ g9 hk
   have:pa d st j esz={ st with fr:=bC st.fr none AV.undef,hp:=ak st.hp [(n,.arr g false f (es'.set i O3)),(s.hp.length,.arr true true false [])] }:=by
    unfold pa
    rw[hlen]at h5
    simp only[eK,c8,S7,Option.bind_some,h5,bC]
    rw[w2,List.set_append_left _ _ (by omega)]
   rw[this]
   exact g8
  ·rename_i dN
   split at hk
   case h_2=>simp[Tr.run]at hk
   rename_i v' jS
   have S8:bO (cH s.fr d)=false:=by
    cases hq:cH s.fr d<;>first|rfl|(rw[hq]at jS; simp[pS]at jS)
   have hd:=hd.live S8
   have pf:=h.hp.new (nm:=s.hp.length) (o':=.arr true true false 0 []) (a':=.arr true true false []) (.inl rfl) S6
   have e1:bJ s.hp s.hp.length (.arr true true false 0 [])=s.hp++[some (.arr true true false 0 [])]:=by simp[bJ]
   have e2:setObj st.hp s.hp.length (.arr true true false [])=st.hp++[some (.arr true true false [])]:=by simp[setObj,hlen]
   have YL:=pf
   rw[e1,e2]at pf
   obtain⟨OX,wm⟩:=pf
   have kb:R T (s.hp++[some (.arr true true false 0 [])]) (.bq esz s.hp.length 0 none none) (.bq esz s.hp.length 0 0 0 none):=Lf (g:=true) (cl:=true) (f:=false) (by simp)
   obtain⟨a',h5,h6⟩:=yu hd (fun h=>h.mono OX) kb jS
   have eK:st.fr[d]?=some (st.fr.getD d .undef):=by
    rw[List.getD_eq_getElem?_getD]at h5 ⊢
    cases hq:st.fr[d]? with
    |none=>simp_all[kH,AV.undef,Go.undef]
    |some x=>rfl
   have S9:∀ n aq i k,st.fr.getD d .undef≠.ref n aq i k:=by
    intro n aq i k e
    rw[e]at h5
    simp[kH]at h5
   rw[cD]at hk
   have Wv:RE T s.hp st.hp v' [(s.hp.length,.arr true true false 0 [])] ⟨a',[(st.hp.length,.arr true true false [])]⟩:=by
    have w1:bc s.hp [(s.hp.length,.arr true true false 0 [])]=s.hp++[some (.arr true true false 0 [])]:=e1
    have w2:ak st.hp [(st.hp.length,.arr true true false [])]=st.hp++[some (.arr true true false [])]:=by simp[ak,setObj]
    refine⟨.inr (by rw[w1]; exact h6),by rw[w1,w2]; exact wm,by rw[w1]; exact OX,fun q hq=>by simp at hq; subst hq; simp[hlen],fun m hm hl=>?_,by rw[w1]; simp,fun m hm hc=>?_⟩
    ·rw[w1,List.getElem?_append_left hl]
    ·simp at hc
     have:=jo hm; omega
   obtain⟨g8,g9⟩:=h.step Wv (some d)
   refine Fx (s':=s.step (some d) v' _) ?_ g9 hk
   have:pa d st j esz={ st with fr:=bC st.fr (some d) a',hp:=ak st.hp [(st.hp.length,.arr true true false [])] }:=by
    unfold pa
    rw[eK]
    rw[hlen]at h5
    split
    ·rename_i n aq i k he
     exact absurd (Option.some.inj he) (S9 n aq i k)
    ·rename_i e _ he
     have he:=Option.some.inj he
     rw[←he,h5]
     simp only[bC,ak,setObj,if_true]
    ·rename_i he; cases he
   rw[this]
   exact g8
theorem Lg[ab](hT:T.Ok){l:Tmp→List (Nat×Nat)}{dst:Option Tmp}{r:ρ}{K:bx T.den→Tr ρ}{s:bx T.den}{st:St}(h:RS T s st)(hk:(C4 l dst s K).run=some r):∃ s',RS T s' (BN l dst st)∧bj s s'∧(K s').run=some r:=by
 cases dst with
 |none=>exact⟨s,h,bj.refl _,hk⟩
 |some d=>exact G1 hT h hk
theorem FG{js:List (Nat×kW)}{n m:Nat}{y:kW}:cm (Bj js n y) m=if m=n then (cm js n).map (fun _=>y) else cm js m:=by
 induction js with
 |nil=>simp[Bj,cm]
 |cons q r ih=>
  obtain⟨k,x⟩:=q
  simp only[Bj,List.map_cons]at ih ⊢
  cases hk:Nat.beq k n with
  |true=>
   have:=Nat.eq_of_beq_eq_true hk
   subst this
   simp only[cm]
   by_cases hm:m=k
   ·subst hm; simp
   ·have:Nat.beq k m=false:=by cases hb:Nat.beq k m; rfl; exact absurd (Nat.eq_of_beq_eq_true hb).symm hm
    rw[this,if_neg hm]
    simp only
    rw[ih,if_neg hm]
  |false=>
   simp only[cm,hk]
   by_cases hm:m=n
   ·simp_all
   ·simp_all
theorem DF{js:List (Nat×kW)}{n m:Nat}:cm (C6 js n) m=if m=n then none else cm js m:=by
 induction js with
 |nil=>simp[C6,cm]
 |cons q r ih=>
  obtain⟨k,x⟩:=q
  simp only[C6,List.filter_cons]at ih ⊢
  cases hk:Nat.beq k n with
  |true=>
   have:=Nat.eq_of_beq_eq_true hk
   subst this
   simp only[Bool.not_true,Bool.false_eq_true,if_false,ih,cm]
   by_cases hm:m=k
   ·simp[hm]
   ·have:Nat.beq k m=false:=by cases hb:Nat.beq k m; rfl; exact absurd (Nat.eq_of_beq_eq_true hb).symm hm
    rw[this,if_neg hm]
  |false=>
   grind[cm]
theorem G2[ab]{H:ah T.den}{hp:ag}{js:List (Nat×kW)}(hh:RH T H hp)(hj:kD js H hp){n:Nat}{x:kW}(hn:cm js n=some x)(y:kW):RH T H (oF hp n y)∧kD (Bj js n y) H (oF hp n y):=by
 obtain⟨h1,h2⟩:=hj n x hn
 obtain⟨fn,ps,as,bd,fr,hr⟩:=iD h2
 have bQ:=(List.getElem?_eq_some_iff.1 hr).1
 have e:oF hp n y=hp.set n (some (.gh (.loop fn ps as bd y) fr)):=by unfold oF; rw[hr]
 rw[e]
 obtain⟨o,ho,Ww⟩:∃ o,H[n]?=some (some o)∧o.isRec=true:=by
  grind[recAt]
 obtain⟨a,ha,dC⟩:=hh.obj ho
 rw[hr]at ha
 simp only[Option.some.injEq]at ha
 subst ha
 cases o<;>simp[aB.isRec]at Ww
 rename_i Na Wx nV Wy yQ
 obtain⟨st,vs,he,lY⟩:=dC
 cases he
 have dD:RH T H (hp.set n (some (.gh (.loop fn ps as bd y) fr))):=by
  have:=aw.set hh n (x:=some (.oU fn ps as bd yQ)) (y:=some (aM.gh (.loop fn ps as bd y) fr)) ⟨y,fr,rfl,lY⟩
  rwa [gW ho]at this
 refine⟨dD,fun m z hm=>?_⟩
 rw[FG]at hm
 split at hm
 ·simp_all[ib]
 ·rename_i dN
  obtain⟨h3,h4⟩:=hj m z hm
  exact⟨h3,by rw[nK (List.getElem?_set_ne (Ne.symm dN))]; exact h4⟩
theorem DG{den:Nat→Type}{u:List Nat}{fr:sE den}:∀ {l:List Nat} {i:Nat},(wu u fr l)[i]?=(l[i]?).map fun d=>if u.contains d then cH fr d else .dead
 |[],i=>by simp[wu]
 |d::r,0=>by simp only[wu,List.getElem?_cons_zero,Option.map_some]; cases u.contains d<;>rfl
 |d::r,i+1=>by simp only[wu,List.getElem?_cons_succ]; exact DG
theorem DH{den:Nat→Type}{u:List Nat}{fr:sE den}:∀ {l:List Nat},(wu u fr l).length=l.length
 |[]=>rfl
 |d::r=>by simp only[wu,List.length_cons,DH]
theorem Ai{u:List Nat}:∀ {fr:List AV} {i j:Nat},(mZ u i fr)[j]?=(fr[j]?).map fun x=>if u.contains (i+j) then x else .any
 |[],i,j=>by simp[mZ]
 |x::xs,i,0=>by simp[mZ]
 |x::xs,i,j+1=>by
  simp only[mZ,List.getElem?_cons_succ]
  rw[Ai,show i+1+j=i+(j+1) by omega]
theorem Aj{u:List Nat}:∀ {fr:List AV} {i:Nat},(mZ u i fr).length=fr.length
 |[],_=>rfl
 |x::xs,i=>by simp only[mZ,List.length_cons,Aj]
theorem Ie[ab]{s:bx T.den}{st:St}(h:RS T s st){as bd:Code}(hd:(cX as++cX bd).all (fun d=>!bO (cH s.fr d)||!Nat.blt d s.n)=true):
  aw (RD T s.hp) (wu (cX as++cX bd) s.fr (List.range s.n)) (tX as bd st.fr):=by
 unfold tX
 refine aw.ee (by rw[DH,Aj,List.length_range,h.n]) fun i x y hx hy=>?_
 rw[DG,Option.map_eq_some_iff]at hx
 rw[Ai,Option.map_eq_some_iff]at hy
 obtain⟨d,OA,rfl⟩:=hx
 obtain⟨a,ha,rfl⟩:=hy
 obtain⟨hi,rfl⟩:i<s.n∧i=d:=by
  grind
 rw[Nat.zero_add]
 cases hc:(cX as++cX bd).contains i with
 |false=>exact .inl ⟨rfl,rfl⟩
 |true=>
  right
  simp only[if_true]
  have hm:i∈cX as++cX bd:=by simpa using hc
  have:=List.all_eq_true.1 hd i hm
  have hb:Nat.blt i s.n=true:=Nat.ble_eq_true_of_le hi
  rw[hb]at this
  simp only[Bool.not_true,Bool.or_false,Bool.not_eq_true']at this
  have hv:=(h.fr i).live this
  rw[List.getD_eq_getElem?_getD,ha]at hv
  exact hv
theorem Ak[ab]{H:ah T.den}:∀ {ps:List Tmp} {xs:List (SV T.den)} {as:List AV} {n:Nat} {fr:sE T.den} {fa:List AV},fa.length=n→(∀ t,RV T H (cH fr t) (fa.getD t .undef))→RL T H xs as →
  (fF fa ps as).length=n∧∀ t,RV T H (cH (lP n fr ps xs) t) ((fF fa ps as).getD t .undef)
 |[],xs,as,n,fr,fa,hl,h,_=>by simpa[fF,lP] using ⟨hl,h⟩
 |p::ps,[],[],n,fr,fa,hl,h,_=>by simpa[fF,lP] using ⟨hl,h⟩
 |p::ps,x::xs,a::as,n,fr,fa,hl,h,hx=>by
  simp only[RL]at hx
  simp only[fF,lP]
  refine Ak (by simp[hl]) (fun t=>?_) hx.2
  rw[kl,Ds,hl]
  split
  ·exact .inr hx.1
  ·exact h t
 |p::ps,[],_::_,_,_,_,_,_,h=>by simp[RL]at h
 |p::ps,_::_,[],_,_,_,_,_,h=>by simp[RL]at h
noncomputable def Lh(n:Nat)(dst:Option Tmp)(st:St):Out→Option Out
 |.norm s2=>wU n dst st true .ready s2.hp
 |.exit id s2=>wU n dst st false (.jump (some id)) s2.hp
 |.ret s2=>wU n dst st false (.jump none) s2.hp
 |_=>none
theorem Bv[ab](hT:T.Ok){s s2:bx T.den}{st NT:St}(h:RS T s st)(h2:RS T s2 NT)(hg:dk s.hp s2.hp)(hl:s.hp.length≤s2.hp.length)(hk:∀ n:Nat,n<s.hp.length→n∉s2.wh→s2.hp[n]?=s.hp[n]?)(hw:∀ n,n∈s.wh→n∈s2.wh)
  {n:Nat} {dst:Option Tmp} {b:Bool} {x:kW} {K:bx T.den→Tr ρ} {r:ρ} (hr:(KN s n dst b x s2 K).run=some r) :
  ∃ s' st',wU n dst st b x NT.hp=some (.norm st')∧RS T s' st'∧bj s s'∧(K s').run=some r:=by
 unfold KN at hr
 split at hr
 case h_2=>simp[Tr.run]at hr
 rename_i hb
 split at hr
 case h_2=>simp[Tr.run]at hr
 rename_i Bw
 rw[jO,cD]at hr
 obtain⟨_,Ta⟩:=h2.js n _ hb
 obtain⟨r1,r2⟩:=G2 h2.hp h2.js hb x
 have Tb:si (Bj s2.js n x) s.hp.length=true:=by
  refine List.all_eq_true.2 fun q hq=>?_
  obtain⟨q0,VK,e⟩:=List.mem_map.1 hq
  have:=List.all_eq_true.1 Bw q0 VK
  split at e<;>(subst e; exact this)
 obtain⟨g1,g2,g3⟩:=p9 hT h (v:=.lit (.bool b)) (a:=.lit (.bool b)) (by simp[R]) r1 hg hl hk hw r2 Tb
 obtain⟨g8,g9⟩:=g1.step (v:=.lit (.bool b)) (wr:=[]) (e:=⟨.lit (.bool b),[]⟩) ⟨bm _,g1.hp,dk.refl _,fun q hq=>by simp at hq,fun _ _ _=>rfl,Nat.le_refl _,fun _ _ h=>by simp at h⟩ dst
 refine⟨_,_,?_,g8,g2.trans g9,hr⟩
 unfold wU
 rw[Ta,h.hp.length]
 rfl
end
def FH{den:Nat→Type}(H H':ah den):Prop:=∀ n:Nat,n<H.length→∀ o':aB den,H'[n]?=some (some o')→∃ o:aB den,H[n]?=some (some o)∧o.cur=o'.cur∧o.len=o'.len
theorem R.back[ab]{T:dw}{H H':ah T.den}(hb:FH H H'){v:SV T.den}{a:AV}(h:R T H' v a)(hv:bt H.length v=true):R T H v a:=by
 refine(h.take hv).mono fun n o ho=>?_
 have hn:n<H.length:=by
  grind
 rw[List.getElem?_take_of_lt hn]at ho
 obtain⟨o',h1,h2,h3⟩:=hb n hn o ho
 exact⟨o',h1,by omega,fun _=>h3⟩
theorem RM.Li{α:Type}{hp:ag}:∀ {x:RM α} {a:α},x.run hp=some a→∀ n,n∈x.log hp→n<hp.length
 |.ret _,_,_,n,hn=>by simp[RM.log]at hn
 |.fail,_,h,_,_=>by simp[RM.run]at h
 |.get m k,a,h,n,hn=>by
  simp only[RM.run]at h
  split at h
  case h_2=>simp at h
  rename_i o ho
  simp only[RM.log,ho,List.mem_cons]at hn
  rcases hn with rfl|hn
  ·grind
  ·exact RM.Li h n hn
theorem aE.gO{hp:ag}{ov:Option (Nat×aM)}{nw:List aM}{α:Type}{x:RM α}{a:α}{rd:List Nat}(h:aE (aR hp ov nw) x a rd):aE hp (x.gO hp.length ov nw) a rd:=by
 refine⟨by rw[(ny x).1]; exact h.1,fun n hn=>?_⟩
 rw[(ny x).2]at hn
 exact h.2 n (List.mem_filter.1 hn).1
theorem aE.Tc{hp:ag}{ov:Option (Nat×aM)}{nw:List aM}{α:Type}{x:RM α}{a:α}{rd:List Nat}(h:aE (aR hp ov nw) x a rd):aE hp (x.gO hp.length ov nw) a (rd.filter fun n=>Nat.blt n hp.length):=by
 refine⟨by rw[(ny x).1]; exact h.1,fun n hn=>?_⟩
 rw[(ny x).2]at hn
 obtain⟨h1,h2⟩:=List.mem_filter.1 hn
 exact List.mem_filter.2 ⟨h.2 n h1,h2⟩
theorem aE.Wz{hp:ag}{α:Type}{x:RM α}{a:α}{rd:List Nat}(h:aE hp x a rd):aE hp x a (rd.filter fun n=>Nat.blt n hp.length):=by
 refine⟨h.1,fun n hn=>List.mem_filter.2 ⟨h.2 n hn,?_⟩⟩
 have:=RM.Li h.1 n hn
 simpa using this
theorem Lj[ab]{P:Program}{hp:ag}{ev:Operand→AV}{nm n aq i j:Nat}{dst:Option Tmp}{t:TypeId}{a x:Operand}{type:TypeId}{pos:String}{after:Array Edge}{guard:Option (Nat×Bool)}{e:dm}
  (he:(aK P nm ev ⟨dst,.store t a x,type,pos,after,guard⟩).run hp=some e) (ha:ev a=.ref n aq i j):∃ o',e.wr=[(n,o')]:=by
 simp only[aK,o8,ha]at he
 split at he
 ·simp[RM.ae]at he
 ·simp only[RM.run_bind]at he
  cases hq:(RM.arr n aq).run hp with
  |none=>rw[hq]at he; simp at he
  |some q=>
   rw[hq]at he
   simp only[Option.bind_some]at he
   split at he
   case h_2=>simp[RM.ae]at he
   split at he
   case h_2=>simp[RM.ae]at he
   split at he
   case isFalse=>simp[RM.ae]at he
   simp only[RM.run_pure,Option.some.injEq]at he
   subst he
   exact⟨_,rfl⟩
theorem Ig[ab]{P:Program}{t:TypeId}{a:AV}{hp:ag}{n:Nat}(h:n∈(kE P t a).log hp):n∈names a:=by
 unfold kE at h
 split at h
 ·simp[RM.log]at h
 ·split at h
  ·rw[RM.eu]at h
   simp only[names]
   rcases List.mem_append.1 h with h|h
   ·grind[RM.log,RM.arr]
   ·exfalso
    split at h
    ·unfold RM.gQ at h
     repeat' (split at h)
     all_goals first|(simp[RM.log]at h; done)|skip
    ·simp at h
  ·unfold RM.gQ at h
   split at h<;>simp[RM.log]at h
  ·simp[RM.log]at h
theorem G3[ab]{T:dw}{P:Program}{s:bx T.den}{st:St}(h:RS T s st):∀ {rs:List ResultVar},wM s.fr rs=true→∀ n,n∈(aU P st.fr rs).log st.hp→n∈GM s.fr rs
 |[],_,n,hn=>by simp[aU,pure,RM.log]at hn
 |r::rs,hl,n,hn=>by
  unfold wM at hl
  simp only[List.all_cons,Bool.and_eq_true]at hl
  have ih:=G3 (P:=P) h (rs:=rs) (by unfold wM; exact hl.2) n
  simp only[aU,RM.eu]at hn
  unfold GM
  rw[List.flatMap_cons]
  rcases List.mem_append.1 hn with hn|hn
  ·refine List.mem_append.2 (.inl ?_)
   cases r with
   |tmp t=>simp[jQ,pure,RM.log]at hn
   |cell a t=>
    simp only[jQ]at hn
    have hd:bO (cH s.fr a)=false:=by simpa using hl.1
    have:=Ig hn
    rw[←R.names ((h.fr a).live hd)]at this
    exact this
  ·split at hn
   ·rcases List.mem_append.1 hn with hn|hn
    ·exact List.mem_append.2 (.inr (ih hn))
    ·split at hn
     ·simp[pure,RM.log]at hn
     ·simp at hn
   ·simp at hn
theorem DI[ab]{T:dw}{H:ah T.den}:∀ {l:List (SV T.den)} {m:List AV},aw (R T H) l m→l.all isHole=true→m.all isAny=true
 |[],[],_,_=>rfl
 |x::xs,y::ys,h,hl=>by
  simp only[List.all_cons,Bool.and_eq_true]at hl ⊢
  refine⟨?_,DI h.2 hl.2⟩
  have h1:=h.1
  have h2:=hl.1
  unfold isHole at h2
  split at h2
  ·simp only[R]at h1
   rw[h1]; rfl
  ·simp at h2
theorem qK[ab]{T:dw}(hT:T.Ok){Q:gM}(hQ:Q.Ok)(hZ:T.tJ Q){ops:Array Oper}{hp:ag}{H:ah T.den}(hH:H.length=hp.length){ρ:Type}{r:ρ}{f:FuncId}:
  ∀ (l:List Oper) (s:bx T.den) (q:wj) (ov:Option Nat) (rd:List Nat) (K:bx T.den→Option Nat→List Nat→Tr ρ),RS T s ⟨f,q.fr,aR hp q.ov q.nw⟩→ov=q.ov.map (·.1)→(∀ n o,q.ov=some (n,o)→∃ o0,hp[n]?=some (some o0))→FH H s.hp →
  (uR Q hp.length l s ov rd K).run=some r →
  ∃ s' Ih rd2 q',aE hp (iX Q.P hp.length ops l q) q' rd2∧RS T s' ⟨f,q'.fr,aR hp q'.ov q'.nw⟩∧Ih=q'.ov.map (·.1)∧(∀ n o,q'.ov=some (n,o)→∃ o0,hp[n]?=some (some o0))∧FH H s'.hp∧(K s' Ih (rd++rd2)).run=some r
 |[],s,q,ov,rd,K,h,wz,hex,hb,hk=>⟨s,ov,[],q,aE.pure _,h,wz,hex,hb,by rw[List.append_nil]; exact hk⟩
 |o::l,s,q,ov,rd,K,h,wz,hex,hb,hk=>by
  simp only[uR]at hk
  split at hk
  ·simp[Tr.run]at hk
  rename_i hg
  have hw:cF ops q.fr o=some true:=by simp[cF,hg]
  split at hk
  ·simp[Tr.run]at hk
  ·rename_i D0
   rw[cD]at hk
   have he:RE T s.hp (aR hp q.ov q.nw) (.lit cK) [] ⟨.lit cK,[]⟩:=⟨bm _,h.hp,dk.refl _,fun q h=>by simp at h,fun _ _ _=>rfl,Nat.le_refl _,fun _ _ h=>by simp at h⟩
   obtain⟨g1,_⟩:=h.step he o.dst
   obtain⟨s',Ih,rd2,q',i1,i2,i3,i4,i5,hk⟩:=qK hT hQ hZ (ops:=ops) hH l _ { q with fr:=bC q.fr o.dst (.lit cK) } ov rd K g1 wz hex (by simpa[bx.step,bc] using hb) hk
   refine⟨s',Ih,rd2,q',?_,i2,i3,i4,i5,hk⟩
   simp only[iX,hw,D0]
   cases hd:o.dst with
   |none=>rw[hd]at i1; exact i1
   |some d=>rw[hd]at i1; exact i1
  ·rename_i Ul Mg
   have hlen:s.hp.length=hp.length+q.nw.length:=h.hp.length.trans n6
   obtain⟨v,wr,rd',e,g1,g2,hk⟩:=FB hT hQ hZ h.hp (.inl rfl) (fun x=>h.ev x) hk
   simp only at hk
   rw[hlen]at g1
   have e1:iX Q.P hp.length ops (o::l) q=((aK Q.P (hp.length+q.nw.length) (ay q.fr) o).gO hp.length q.ov q.nw >>= fun e=>match e.wr.all fun q=>Nat.ble hp.length q.1 with
     |true=>iX Q.P hp.length ops l { q with fr:=bC q.fr o.dst e.val,nw:=pd hp.length q.nw e.wr }
     |false=>(match q.ov,e.wr with
      |none,[(n,o')]=>.get n fun o0=>(match rH Q.P (ay q.fr) o.op n o0 with
        |true=>iX Q.P hp.length ops l { q with fr:=bC q.fr o.dst e.val,ov:=some (n,o') }
        |false=>.fail)
      |_,_=>.fail)):=by
    simp only[iX,hw]
    rfl
   rw[e1]
   split at hk
   ·rename_i bg
    rw[cD]at hk
    obtain⟨g3,_⟩:=h.step g2 o.dst
    have DJ:e.wr.all (fun q=>Nat.ble hp.length q.1)=true:=by
     refine List.all_eq_true.2 fun x hx=>?_
     obtain⟨y,hy,hyx⟩:=List.mem_map.1 (g2.names x hx)
     have:=List.all_eq_true.1 bg y hy
     rw[←hyx]; exact this
    rw[pL e.wr fun x hx=>Nat.le_of_ble_eq_true (List.all_eq_true.1 DJ x hx)]at g3
    have o5:FH H (s.step o.dst v wr).hp:=by
     intro n hn o' c8
     refine hb n hn o' ?_
     have:n∉wr.map (·.1):=by
      intro hm
      obtain⟨y,hy,rfl⟩:=List.mem_map.1 hm
      have:=Nat.le_of_ble_eq_true (List.all_eq_true.1 bg y hy)
      omega
     rw[←g2.Bm n this (by omega)]
     exact c8
    obtain⟨s',Ih,rd2,q',i1,i2,i3,i4,i5,hk⟩:=qK hT hQ hZ (ops:=ops) hH l _ { q with fr:=bC q.fr o.dst e.val,nw:=pd hp.length q.nw e.wr } ov (rd++rd') K g3 wz hex o5 hk
    refine⟨s',Ih,rd'++rd2,q',?_,i2,i3,i4,i5,by rw[←List.append_assoc]; exact hk⟩
    refine aE.bind g1.gO ?_
    simp only[DJ]
    exact i1
   ·split at hk
    case h_2=>simp[Tr.run]at hk
    rename_i n o' bg abE
    split at hk
    case h_2=>simp[Tr.run]at hk
    rename_i hh
    rw[Bool.and_eq_true]at hh
    obtain⟨bQ,gL⟩:=hh
    have bQ:n<hp.length:=by simpa using bQ
    have Qy:q.ov=none:=by
     cases hq:q.ov with
     |none=>rfl
     |some x=>rw[hq]at wz; simp at wz
    unfold GL at gL
    split at gL
    case h_2=>simp at gL
    rename_i t a x D0
    split at gL
    case h_2=>simp at gL
    rename_i r0 n' c i j g f cur es Px S7 yJ
    split at gL
    case h_2=>simp at gL
    rename_i l0 wA
    simp only[Bool.and_eq_true]at gL
    obtain⟨⟨⟨⟨c1,c2⟩,c3⟩,c4⟩,c5⟩:=gL
    obtain rfl:=Nat.eq_of_beq_eq_true c1
    have Mr:=h.ev a
    rw[S7]at Mr
    have Mr:=Mr.live rfl
    simp only[R]at Mr
    obtain⟨aq,Mr,_⟩:=Mr
    obtain⟨dst,op,type,pos,after,guard⟩:=o
    simp only at D0
    subst D0
    obtain⟨V0,D6⟩:=Lj g1.1 Mr
    obtain⟨ao,HC,dC⟩:=h.hp.obj yJ
    obtain⟨es',rfl,cC,_⟩:=dC
    obtain⟨l1,rb,yV⟩:=aw.get (aQ.1 cC) wA
    simp only[R]at yV
    obtain⟨l',rfl,yV⟩:=yV
    rw[Qy]at HC
    have ur:hp[n']?=some (some (.arr g false f es')):=by
     grind[aR,pK]
    obtain⟨r1,wm,_,kK,_⟩:=hQ.row _ _ Px
    have Td:rH Q.P (ay q.fr) (.store t a x) n' (.arr g false f es')=true:=by
     simp only[rH,wm,Mr,rb,Bool.and_eq_true]
     refine⟨⟨c1,?_⟩,?_⟩
     ·rw[←aw.length (aQ.1 yV),kK]; exact c2
     ·rw[kK]
      exact DI (((aQ.1 yV).drop j).take r0.size) c3
    have DJ:e.wr.all (fun q=>Nat.ble hp.length q.1)=false:=by
     simp_all
    rw[cD]at hk
    obtain⟨g3,_⟩:=h.step g2 dst
    simp only at g3
    rw[D6,Qy,xG ur]at g3
    have o5:FH H (s.step dst v [(n',o')]).hp:=by
     intro m hm om YM
     by_cases e:m=n'
     ·subst e
      have NX:(bc s.hp [(m,o')])[m]?=some (some om):=YM
      simp only[bc,bJ]at NX
      rw[if_neg (by omega),List.getElem?_set_self (by omega)]at NX
      simp only[Option.some.injEq]at NX
      subst NX
      obtain⟨o1,b1,b2,b3⟩:=hb m hm _ yJ
      refine⟨o1,b1,b2.trans (Nat.eq_of_beq_eq_true c4),b3.trans (Nat.eq_of_beq_eq_true c5)⟩
     ·refine hb m hm om ?_
      rw[←g2.Bm m (by simpa using e) (by omega)]
      exact YM
    obtain⟨s',Ih,rd2,q',i1,i2,i3,i4,i5,hk⟩:=qK hT hQ hZ (ops:=ops) hH l _ { q with fr:=bC q.fr dst e.val,ov:=some (n',V0) } (some n') (rd++(rd'++[n'])) K g3 rfl
     (fun m om hm=>by simp only[Option.some.injEq,Prod.mk.injEq]at hm; obtain⟨rfl,rfl⟩:=hm; exact⟨_,ur⟩) o5 hk
    refine⟨s',Ih,rd'++(n'::rd2),q',?_,i2,i3,i4,i5,by simpa using hk⟩
    refine aE.bind g1.gO ?_
    rw[D6]at DJ
    simp only[D6,DJ,Qy]
    refine aE.get ur ?_
    simp only[Td]
    exact i1
theorem Ii[ab]{T:dw}(hT:T.Ok){Q:gM}(hQ:Q.Ok)(hZ:T.tJ Q){hp:ag}{H:ah T.den}(hH:H.length=hp.length){ρ:Type}{r:ρ}{f:FuncId}:
  ∀ (c:Code) (s:bx T.den) (q:wj) (ov:Option Nat) (rd:List Nat) (K:Bool→bx T.den→Option Nat→List Nat→Tr ρ),RS T s ⟨f,q.fr,aR hp q.ov q.nw⟩→ov=q.ov.map (·.1)→(∀ n o,q.ov=some (n,o)→∃ o0,hp[n]?=some (some o0))→FH H s.hp →
  (lQ Q hp.length c s ov rd K).run=some r →
  ∃ b s' Ih rd2 q',aE hp (gC Q.P hp.length c q) (q',b) rd2∧RS T s' ⟨f,q'.fr,aR hp q'.ov q'.nw⟩∧Ih=q'.ov.map (·.1)∧(∀ n o,q'.ov=some (n,o)→∃ o0,hp[n]?=some (some o0))∧FH H s'.hp∧(K b s' Ih (rd++rd2)).run=some r:=by
 intro c
 induction c with
 |skip=>intro s q ov rd K h wz hex hb hk; exact⟨false,s,ov,[],q,aE.pure _,h,wz,hex,hb,by rw[List.append_nil]; exact hk⟩
 |ret=>intro s q ov rd K h wz hex hb hk; exact⟨true,s,ov,[],q,aE.pure _,h,wz,hex,hb,by rw[List.append_nil]; exact hk⟩
 |seq a b Gv D9=>
  intro s q ov rd K h wz hex hb hk
  simp only[lQ]at hk
  obtain⟨z,s1,Rh,Ri,q1,g1,g2,g3,g4,g5,hk⟩:=Gv s q ov rd _ h wz hex hb hk
  cases z with
  |true=>exact⟨true,s1,Rh,Ri++[],q1,by simp only[gC]; exact aE.bind g1 (aE.pure _),g2,g3,g4,g5,by rw[List.append_nil]; exact hk⟩
  |false=>
   obtain⟨z,s2,ov2,rd2,q2,i1,i2,i3,i4,i5,hk⟩:=D9 s1 q1 Rh _ K g2 g3 g4 g5 hk
   exact⟨z,s2,ov2,Ri++rd2,q2,by simp only[gC]; exact aE.bind g1 i1,i2,i3,i4,i5,by rw[←List.append_assoc]; exact hk⟩
 |cond o a b Gv D9=>
  intro s q ov rd K h wz hex hb hk
  simp only[lQ]at hk
  split at hk
  ·rename_i t hs
   have ha:=(h.ev o).live (by rw[hs]; rfl)
   rw[hs]at ha
   have ha:ay q.fr o=.lit (.bool t):=ha
   rcases fp hk with ⟨rfl,hk⟩|⟨rfl,hk⟩
   ·obtain⟨z,s1,Rh,Ri,q1,g1,g⟩:=Gv s q ov rd K h wz hex hb hk
    exact⟨z,s1,Rh,Ri,q1,by simp only[gC,ha]; exact g1,g⟩
   ·obtain⟨z,s1,Rh,Ri,q1,g1,g⟩:=D9 s q ov rd K h wz hex hb hk
    exact⟨z,s1,Rh,Ri,q1,by simp only[gC,ha]; exact g1,g⟩
  ·simp[Tr.run]at hk
 |region id ops draw=>
  intro s q ov rd K h wz hex hb hk
  cases draw with
  |true=>simp[lQ,Tr.run]at hk
  |false=>
   simp only[lQ]at hk
   obtain⟨s',Ih,rd2,q',g1,g2,g3,g4,g5,hk⟩:=qK hT hQ hZ (ops:=ops) hH ops.toList s q ov rd _ h wz hex hb hk
   exact⟨false,s',Ih,rd2++[],q',by simp only[gC]; exact aE.bind g1 (aE.pure _),g2,g3,g4,g5,by rw[List.append_nil]; exact hk⟩
 |_=>intro s q ov rd K h wz hex hb hk; simp[lQ,Tr.run]at hk
section
variable {T:dw}
theorem aw.qa{α β:Type}{P:α→β→Prop}:∀ {l:List α} {m:List β},aw P l m→∀ {i:Nat} {x:α} {y:β},m[i]?=some y→P x y→aw P (l.set i x) m
 |_::_,_::_,h,0,x,y,hy,hp=>by simp at hy; subst hy; exact⟨hp,h.2⟩
 |_::_,_::_,h,i+1,x,y,hy,hp=>⟨h.1,aw.qa h.2 (by simpa using hy) hp⟩
 |[],[],_,_,_,_,hy,_=>by simp at hy
theorem u9[ab]{s:bx T.den}{st:St}(h:RS T s st){n:Nat}{o o':aB T.den}(ho:s.hp[n]?=some (some o))(hc:o'.cur=o.cur)(hl:o'.len=o.len)(m6:o.isRec=false)
  (hr:∀ a,RO T s.hp o a→RO T s.hp o' a):RS T { s with hp:=s.hp.set n (some o'),wh:=n::s.wh } st∧bj s { s with hp:=s.hp.set n (some o'),wh:=n::s.wh }:=by
 have hn:=(List.getElem?_eq_some_iff.1 ho).1
 obtain⟨a,ha,hra⟩:=h.hp.obj ho
 have hg:dk s.hp (s.hp.set n (some o')):=by
  intro m x hm
  by_cases e:m=n
  ·simp_all
  ·grind
 refine⟨⟨h.fn,h.n,fun t=>(h.fr t).mono hg,?_,h.js.Bm fun m hm=>⟨?_,rfl⟩⟩,⟨rfl,rfl,fun _ _=>rfl,fun _ h=>h,fun m hm hw=>?_,fun m hm=>List.mem_cons_of_mem _ hm,by simp,hg⟩⟩
 ·exact aw.qa (aw.mono (fun _ _ h=>Bk.mono hg h) h.hp) (y:=some a) ha (Bk.mono hg (show Bk T s.hp (some o') (some a) from hr a hra))
 ·have dN:m≠n:=by
   grind[recAt]
  rw[List.getElem?_set_ne (Ne.symm dN)]
 ·simp only at hw ⊢
  rw[List.getElem?_set_ne (fun e=>hw (by rw[e]; simp))]
theorem sz[ab]{s:bx T.den}{st:St}(h:RS T s st){d:Nat}{v:SV T.den}(hr:∀ a,R T s.hp (cH s.fr d) a→R T s.hp v a)(hd:bO (cH s.fr d)=false):
  RS T { s with fr:=tz s.n s.fr d v,wf:=d::s.wf } st∧bj s { s with fr:=tz s.n s.fr d v,wf:=d::s.wf }:=by
 refine⟨⟨h.fn,h.n,fun t=>?_,h.hp,h.js⟩,⟨rfl,rfl,fun t ht=>?_,fun t ht=>List.mem_cons_of_mem _ ht,fun _ _ _=>rfl,fun _ h=>h,Nat.le_refl _,dk.refl _⟩⟩
 ·simp only
  rw[kl]
  split
  ·rename_i e
   rw[e.1]
   exact .inr (hr _ ((h.fr d).live hd))
  ·exact h.fr t
 ·simp only at ht ⊢
  rw[kl,if_neg]
  exact fun e=>ht (by rw[e.1]; simp)
theorem sA[ab]{s:bx T.den}{st:St}(h:RS T s st){d j:Nat}{v v':SV T.den}(hc:cellOf s d j=some v)(hd:bO v=false)(hr:∀ a,R T s.hp v a→R T s.hp v' a)(mg:aD v'=true):
  RS T (setCell s d j v') st∧bj s (setCell s d j v'):=by
 unfold cellOf at hc
 unfold setCell
 split at hc
 ·rename_i n c i k he
  split at hc
  case h_2=>simp at hc
  rename_i g cl f cur es ho
  split at hc
  case h_2=>simp at hc
  rename_i l hl
  refine u9 h ho rfl (by simp[aB.len]) rfl fun a ha=>?_
  obtain⟨es',rfl,h1,h2⟩:=ha
  obtain⟨ea,h3,h4⟩:=aw.get (aQ.1 h1) hl
  simp only[R]at h4
  obtain⟨l',rfl,h5⟩:=h4
  obtain⟨b,h6,h7⟩:=aw.get (aQ.1 h5) hc
  refine⟨es',rfl,aQ.2 (aw.qa (aQ.1 h1) h3 ?_),fun WA=>?_⟩
  ·simp only[R]
   exact⟨l',rfl,aQ.2 (aw.qa (aQ.1 h5) h6 (hr _ h7))⟩
  ·have h8:=h2 WA
   rw[jk,List.all_eq_true]at h8 ⊢
   intro x hx
   rcases List.mem_or_eq_of_mem_set hx with hx|rfl
   ·exact h8 x hx
   ·have h9:=h8 _ (List.mem_of_getElem? hl)
    simp only[aD]at h9 ⊢
    rw[jk,List.all_eq_true]at h9 ⊢
    intro y hy
    rcases List.mem_or_eq_of_mem_set hy with hy|rfl
    ·exact h9 y hy
    ·exact mg
 ·rename_i l he
  refine sz h (fun a ha=>?_) (by rw[he]; rfl)
  rw[he]at ha
  simp only[R]at ha ⊢
  obtain⟨l',rfl,h5⟩:=ha
  obtain⟨b,h6,h7⟩:=aw.get (aQ.1 h5) hc
  exact⟨l',rfl,aQ.2 (aw.qa (aQ.1 h5) h6 (hr _ h7))⟩
 ·rename_i h1 h2
  split at hc
  case h_2=>simp at hc
  simp only[Option.some.injEq]at hc
  subst hc
  exact sz h hr hd
theorem DK{ρ:Type}{r:ρ}{n:Int}{K:Int→Tr ρ}:∀ {b m:Nat},(KM b m n K).run=some r→∃ m':Nat,n=Int.ofNat m'∧(K (Int.ofNat m')).run=some r
 |0,m,h=>by simp[KM,Tr.run]at h
 |b+1,m,h=>by
  simp only[KM,Tr.run]at h
  cases hb:n==Int.ofNat m with
  |true=>
   rw[hb]at h
   exact⟨m,eq_of_beq hb,h⟩
  |false=>
   rw[hb]at h
   exact DK h
theorem yw{α:Type}:∀ {l:List α} {i:Nat} {x:α},l[i]?=some x→l.drop i=x::l.drop (i+1)
 |y::ys,0,x,h=>by simp at h; subst h; simp
 |y::ys,i+1,x,h=>by simp at h ⊢; exact yw h
 |[],i,x,h=>by simp at h
theorem vb[ab]{ρ:Type}{r:ρ}{t:Nat}{l:List (T.den t)}:∀ {n i:Nat} {K:List (SV T.den)→Tr ρ},(C5 t l n i K).run=some r→∃ xs:List (T.den t),xs.length=n∧(l.drop i).take n=xs∧(K (xs.map (T.up t))).run=some r
 |0,i,K,h=>⟨[],rfl,by simp,h⟩
 |n+1,i,K,h=>by
  simp only[C5,Tr.run,Option.bind_eq_some_iff]at h
  obtain⟨x,hx,h⟩:=h
  obtain⟨xs,h1,h2,h3⟩:=vb h
  refine⟨x::xs,by simp[h1],?_,h3⟩
  rw[yw hx,List.take_succ_cons,h2]
theorem Lk[ab](hT:T.Ok){H:ah T.den}{t:Nat}:∀ {l:List (T.den t)} {m:List AV},aw (T.rp t) l m→RL T H (l.map (T.up t)) m∧av (l.map (T.up t))=true
 |[],[],_=>by simp[RL,av]
 |x::xs,y::ys,h=>by
  obtain⟨h1,h2⟩:=Lk hT (H:=H) h.2
  simp only[List.map_cons,RL,av,Bool.and_eq_true]
  exact⟨⟨hT.up _ _ _ H h.1,h1⟩,uW hT h.1,h2⟩
theorem Ll[ab](hT:T.Ok){ρ:Type}{r:ρ}{w:Tw}{K:bx T.den→Tr ρ}{s:bx T.den}{st:St}(h:RS T s st)(hk:(xW s w K).run=some r):∃ s',RS T s' st∧bj s s'∧(K s').run=some r:=by
 cases w with
 |num d j b=>
  simp only[xW]at hk
  split at hk
  case h_2=>simp[Tr.run]at hk
  rename_i k n hc
  obtain⟨m,rfl,Ex⟩:=DK hk
  clear hk
  have hk:=Ex
  rw[force_eq]at hk
  obtain⟨h1,h2⟩:=sA h hc rfl (v':=.lit (.int k (Int.ofNat m))) (fun a ha=>ha) rfl
  exact⟨_,h1,h2,hk⟩
 |Yn d j n=>
  simp only[xW]at hk
  split at hk
  case h_2=>simp[Tr.run]at hk
  rename_i t l hc
  obtain⟨g1,hk⟩:=aY hk
  simp only[Bool.and_eq_true,decide_eq_true_eq]at g1
  obtain⟨g0,g1⟩:=g1
  have g0:0<n:=by simpa using g0
  obtain⟨xs,e1,e2,hk⟩:=vb hk
  rw[List.drop_zero,←g1,List.take_length]at e2
  subst e2
  rw[force_eq]at hk
  have mg:aD (.sl (l.map (T.up t)):SV T.den)=true:=rfl
  obtain⟨h1,h2⟩:=sA h hc rfl (v':=.sl (l.map (T.up t))) (fun a ha=>by
   simp only[R]at ha ⊢
   rcases ha with ⟨l',rfl,ha⟩|⟨rfl,_⟩
   ·obtain⟨b1,b2⟩:=Lk hT (H:=s.hp) ha
    exact⟨l',rfl,b1,b2⟩
   ·simp at g1; omega) mg
  exact⟨_,h1,h2,hk⟩
 |arr d n=>
  simp only[xW]at hk
  split at hk
  case h_2=>simp[Tr.run]at hk
  split at hk
  case h_2=>simp[Tr.run]at hk
  rename_i g f cur t l ho
  obtain⟨g1,hk⟩:=aY hk
  simp only[decide_eq_true_eq]at g1
  obtain⟨xs,e1,e2,hk⟩:=vb hk
  rw[List.drop_zero,←g1,List.take_length]at e2
  subst e2
  rw[force_eq]at hk
  obtain⟨h1,h2⟩:=u9 h ho (o':=.arr g true f cur (l.map (T.up t))) rfl (by simp[aB.len]) rfl (fun a ha=>by
   obtain⟨es',rfl,ha⟩:=ha
   obtain⟨b1,b2⟩:=Lk hT (H:=s.hp) ha
   exact⟨es',rfl,b1,fun _=>b2⟩)
  exact⟨_,h1,h2,hk⟩
 |int d j=>
  simp only[xW]at hk
  split at hk
  case h_2=>simp[Tr.run]at hk
  rename_i k n hc
  simp only[Tr.run,Option.bind_some]at hk
  rw[force_eq]at hk
  obtain⟨h1,h2⟩:=sA h hc rfl (v':=.lit (.int k n)) (fun a ha=>ha) rfl
  exact⟨_,h1,h2,hk⟩
 |name d=>
  simp only[xW]at hk
  split at hk
  case h_2=>simp[Tr.run]at hk
  rename_i esz nm c rg cap hd
  split at hk
  case h_2=>simp[Tr.run]at hk
  rename_i g f cur t l ho
  simp only[Tr.run,Option.bind_some]at hk
  obtain⟨h1,h2⟩:=u9 h ho (o':=.bV g f cur t l) rfl rfl rfl (fun a ha=>ha)
  split at hk
  ·rw[force_eq]at hk
   exact⟨_,h1,h2,hk⟩
  ·rename_i off len
   simp only[Tr.run,Option.bind_some]at hk
   rw[force_eq]at hk
   obtain⟨h3,h4⟩:=sz h1 (d:=d) (v:=.bq esz nm c (some (off,len)) cap) (fun a ha=>by simp only[hd]at ha; exact ha) (by simp only[hd]; rfl)
   exact⟨_,h3,h2.trans h4,hk⟩
theorem Bx[ab](hT:T.Ok){ρ:Type}{r:ρ}{K:bx T.den→Tr ρ}{st:St}:∀ {l:List Tw} {s:bx T.den},RS T s st→(SD l s K).run=some r→∃ s',RS T s' st∧bj s s'∧(K s').run=some r
 |[],s,h,hk=>⟨s,h,bj.refl _,hk⟩
 |w::l,s,h,hk=>by
  obtain⟨s1,h1,h2,hk⟩:=Ll hT h hk
  obtain⟨s2,h3,h4,hk⟩:=Bx hT h1 hk
  exact⟨s2,h3,h2.trans h4,hk⟩
theorem Qz[ab](hT:T.Ok){ρ:Type}{r:ρ}{l:Tmp→List Tw}{dst:Option Tmp}{K:bx T.den→Tr ρ}{s:bx T.den}{st:St}(h:RS T s st)(hk:(SE l dst s K).run=some r):∃ s',RS T s' st∧bj s s'∧(K s').run=some r:=by
 cases dst with
 |none=>exact⟨s,h,bj.refl _,hk⟩
 |some d=>exact Bx hT h hk
end
theorem vf[ab]{T:dw}{ρ:Type}{r:ρ}{K:bx T.den→Tr ρ}:∀ {l:List (Nat×Nat)} {s:bx T.den} {st:St},RS T s st→(xV l s K).run=some r→∃ s',RS T s' (gH l st)∧bj s s'∧(K s').run=some r
 |[],s,st,h,hk=>⟨s,h,bj.refl _,hk⟩
 |(d,j)::l,s,st,h,hk=>by
  unfold xV at hk
  have hd:=h.fr d
  split at hk
  case h_2=>simp[Tr.run]at hk
  rename_i n c i k he
  rw[he]at hd
  have hd:=hd.live rfl
  simp only[R]at hd
  obtain⟨aq,hd,bZ⟩:=hd
  split at hk
  case h_2=>simp[Tr.run]at hk
  rename_i g cl f cur es ho
  obtain⟨ao,c8,dC⟩:=h.hp.obj ho
  obtain⟨es',rfl,cC,mg⟩:=dC
  split at hk
  case h_2=>simp[Tr.run]at hk
  rename_i e' Gf
  obtain⟨e,Ma,xC⟩:=Option.bind_eq_some_iff.1 Gf
  obtain⟨ea,S7,Ed⟩:=aw.get (aQ.1 cC) Ma
  unfold z2 at xC
  split at xC
  case h_2=>simp at xC
  rename_i l0
  split at xC
  case h_2=>simp at xC
  rename_i Vl
  simp only[Option.some.injEq]at xC
  subst xC
  simp only[R]at Ed
  obtain⟨l',rfl,yV⟩:=Ed
  have hn:=(List.getElem?_eq_some_iff.1 ho).1
  have WB:Nat.blt (k+j) l'.length=true:=by rw[←aw.length (aQ.1 yV)]; exact Vl
  have Fx:me st d j={ st with hp:=st.hp.set n (some (.arr g false f (es'.set i (.agg (l'.set (k+j) .any))))) }:=by
   unfold me
   rw[hd]
   simp only[c8,S7,Option.bind_some,sJ,WB]
  rw[cD]at hk
  have hg:dk s.hp (s.hp.set n (some (.arr g false f cur (es.set i (.agg (l0.set (k+j) .hole)))))):=by
   intro m o hm
   by_cases e:m=n
   ·subst e
    rw[ho]at hm
    simp only[Option.some.injEq]at hm
    subst hm
    exact⟨_,List.getElem?_set_self hn,Nat.le_refl _,fun _=>by simp[aB.len]⟩
   ·grind
  have dC:RO T (s.hp.set n (some (.arr g false f cur (es.set i (.agg (l0.set (k+j) .hole)))))) (.arr g false f cur (es.set i (.agg (l0.set (k+j) .hole)))) (.arr g false f (es'.set i (.agg (l'.set (k+j) .any)))):=by
   refine⟨_,rfl,aQ.2 (((aQ.1 cC).mono fun _ _ h=>h.mono hg).set i ?_),fun h=>by cases h⟩
   simp only[R]
   exact⟨_,rfl,aQ.2 (((aQ.1 yV).mono fun _ _ h=>h.mono hg).set (k+j) (by simp[R]))⟩
  have dD:bc s.hp [(n,.arr g false f cur (es.set i (.agg (l0.set (k+j) .hole))))]=s.hp.set n (some (.arr g false f cur (es.set i (.agg (l0.set (k+j) .hole))))):=by
   grind[bc,bJ]
  have O4:ak st.hp [(n,.arr g false f (es'.set i (.agg (l'.set (k+j) .any))))]=st.hp.set n (some (.arr g false f (es'.set i (.agg (l'.set (k+j) .any))))):=by
   simp only[ak]
   exact iz (List.getElem?_eq_some_iff.1 c8).1
  have hE:RE T s.hp st.hp (.lit undef) [(n,.arr g false f cur (es.set i (.agg (l0.set (k+j) .hole))))] ⟨.undef,[(n,.arr g false f (es'.set i (.agg (l'.set (k+j) .any))))]⟩:=by
   refine⟨bm _,?_,by rw[dD]; exact hg,fun q hq=>by simp only[List.mem_singleton]at hq; subst hq; simp,fun m hm hl=>?_,by rw[dD]; simp,fun m hm hc=>?_⟩
   ·rw[dD,O4]
    exact(aw.mono (fun _ _ h=>Bk.mono hg h) h.hp).set n dC
   ·grind
   ·simp_all[aB.isRec,recAt]
  obtain⟨g1,g2⟩:=h.step hE none
  rw[O4]at g1
  have Ni:RS T (s.step none (.lit undef) [(n,.arr g false f cur (es.set i (.agg (l0.set (k+j) .hole))))]) (me st d j):=by
   rw[Fx]; exact g1
  obtain⟨s',i1,i2,i3⟩:=vf Ni hk
  exact⟨s',i1,g2.trans i2,i3⟩
section
variable [ab]{S:oa}(hS:S.Ok)
include hS
theorem QA(f:FuncId):(S.Qf f).Ok:=⟨hS.Q.row,hS.Q.kind,hS.Q.ON,hS.Q.map⟩
theorem Lm{ρ:Type}{r:ρ}{g:FuncId}{args:List (SV S.T.den)}{as:List AV}{H:ah S.T.den}{hp:ag}{K:EK S.T ρ}(hh:RH S.T H hp)(ha:RL S.T H args as)(hk:(KO S g args H K).run=some r):
  S.C.kind g=.imp∧S.C.qX g=none∧∃ v rd e,aE hp (yF S.C.P hp.length g as) e rd∧RE S.T H hp v [] e∧(K v [] rd).run=some r:=by
 unfold KO at hk
 split at hk
 case h_2=>simp[Tr.run]at hk
 rename_i fn WC QB qP
 split at hk
 case h_2=>simp[Tr.run]at hk
 rename_i c hc
 split at hk
 case h_1=>simp[Tr.run]at hk
 rename_i hD
 have gL:=yn (f:=g) ha hh fn.ntmps [] (js:=[]) (fun n st h=>by cases h)
 have hlen:H.length=hp.length:=hh.length
 have el:aR hp none []=hp:=by simp[aR,pK]
 rw[hlen]at hk
 obtain⟨b,s',ov,rd2,q,g1,g2,g3,g4,g5,hk⟩:=Ii hS.T (QA hS g) hS.Z hlen (f:=g) c _ ⟨as++List.replicate (fn.ntmps-as.length) .undef,none,[]⟩ none _ _ (by simp only[el]; exact gL) rfl (fun n o h=>by cases h) (fun n hn o ho=>⟨o,ho,rfl,rfl⟩) hk
 obtain⟨l,m,i1,i2,hk⟩:=oy hS.T hS.Q g2 hk
 have Wr:(aU S.C.P q.fr fn.results.toList).run (aR hp q.ov q.nw)=some m:=i1
 split at hk
 case h_2=>simp[Tr.run]at hk
 rename_i HB
 simp only[Bool.and_eq_true]at HB
 obtain⟨⟨c1,c2⟩,c3⟩:=HB
 have YN:=GU i2
 have hR:R S.T H (qR l) (cB m):=R.back g5 YN (by rw[hlen]; exact c1)
 refine⟨WC,QB,qR l,_,⟨cB m,[]⟩,?_,⟨.inr hR,hh,dk.refl _,fun q h=>by simp at h,fun _ _ _=>rfl,Nat.le_refl _,fun _ _ h=>by simp at h⟩,hk⟩
 unfold yF
 rw[qP]
 simp only
 rw[hc]
 simp only
 rw[hD]
 simp only
 have Bw:(below hp.length (cB m)&&(match q.ov with
    |some (_,o)=>o.below hp.length
    |none=>true))=true:=by
  rw[Bool.and_eq_true]
  refine⟨by rw[←R.below YN]; exact c1,?_⟩
  cases hq:q.ov with
  |none=>rfl
  |some x=>
   obtain⟨n,o⟩:=x
   simp only
   rw[hq]at g3
   simp only[Option.map_some]at g3
   rw[g3]at c3
   simp only at c3
   split at c3
   case h_2=>simp at c3
   rename_i so Pd
   obtain⟨o0,YO⟩:=g4 n o hq
   obtain⟨ao,WD,WE⟩:=aw.get g2.hp Pd
   have bQ:=(List.getElem?_eq_some_iff.1 YO).1
   have:(aR hp q.ov q.nw)[n]?=some (some o):=by
    rw[hq]
    simp only[aR,pK,YO]
    rw[List.getElem?_append_left (by simpa using bQ),List.getElem?_set_self bQ]
   rw[this]at WD
   simp only[Option.some.injEq]at WD
   subst WD
   have:=Af hS.T WE (n:=hp.length)
   rw[c3]at this
   exact this.symm
 have y1:aE hp (gC S.C.P hp.length c ⟨as++List.replicate (fn.ntmps-as.length) .undef,none,[]⟩) (q,b) rd2:=g1
 have y2:aE hp ((aU S.C.P q.fr fn.results.toList).gO hp.length q.ov q.nw) m ((GM s'.fr fn.results.toList).filter fun n=>Nat.blt n hp.length):=
  aE.Tc ⟨Wr,fun n hn=>G3 g2 c2 n hn⟩
 have y3:=aE.bind (y1.Wz) (f:=fun q=>(aU S.C.P q.1.fr fn.results.toList).gO hp.length q.1.ov q.1.nw >>= fun l=>match below hp.length (cB l)&&(match q.1.ov with
    |some (_,o)=>o.below hp.length
    |none=>true) with
   |true=>(pure ⟨cB l,[]⟩:RM dm)
   |false=>.fail) (aE.bind y2 (f:=fun l=>match below hp.length (cB l)&&(match q.ov with
    |some (_,o)=>o.below hp.length
    |none=>true) with
   |true=>(pure ⟨cB l,[]⟩:RM dm)
   |false=>.fail) (b:=⟨cB m,[]⟩) (rd':=[]) (by simp only[Bw]; exact aE.pure _))
 rw[List.append_nil,←List.filter_append]at y3
 exact y3
theorem QC{ρ:Type}{r:ρ}{nm:Nat}{o:Oper}{s:bx S.T.den}{st:St}{K:EK S.T ρ}(h:RS S.T s st)(hn:nm=s.hp.length∨s.hp[nm]?=some none)(nS:au o.op=false→nm=s.hp.length)(hk:(Uu S nm o s K).run=some r):
  ∃ v wr rd e lg,B9 S.C nm o st.fr st.hp=some (e,lg)∧(∀ n,n∈lg→n∈rd)∧RE S.T s.hp st.hp v wr e∧(K v wr rd).run=some r:=by
 have plain:(∀ c f,o.op=.call c→c.callee=.value f→False)→(∀ c m i,o.op=.call c→c.callee=.invoke m i→False)→(NB (S.Qf s.fn) nm s.hp (cW s.fr) o K).run=some r →
   ∃ v wr rd e lg,B9 S.C nm o st.fr st.hp=some (e,lg)∧(∀ n,n∈lg→n∈rd)∧RE S.T s.hp st.hp v wr e∧(K v wr rd).run=some r:=by
  intro h1 h2 hk
  obtain⟨v,wr,rd,e,g1,g2,g3⟩:=FB hS.T (QA hS s.fn) (Q:=S.Qf s.fn) hS.Z h.hp hn (fun x=>h.ev x) hk
  refine⟨v,wr,rd,e,_,?_,g1.2,g2,g3⟩
  rw[EB h1 h2]
  have:=g1.1
  rw[show (S.Qf s.fn).P=S.C.P from rfl]at this
  rw[this]
  rfl
 unfold Uu at hk
 split at hk
 ·rename_i c hc
  split at hk
  ·rename_i b hb
   exact plain (fun c' f h1 h2=>by rw[hc]at h1; simp only[Op.call.injEq]at h1; subst h1; rw[hb]at h2; cases h2) (fun c' m i h1 h2=>by rw[hc]at h1; simp only[Op.call.injEq]at h1; subst h1; rw[hb]at h2; cases h2) hk
  ·rename_i f hf
   split at hk
   ·simp[Tr.run]at hk
   rename_i g args hg
   split at hk
   ·rename_i pk
    split at hk
    case h_2=>simp[Tr.run]at hk
    rename_i σ hd hσ
    obtain⟨m,rf,yD⟩:=gd (h.ev f) (jn (fun x=>h.ev x) c.args.toList) hg
    obtain⟨v,wr,rd,e,lg,g2,g3,g4,g5⟩:=GX hS.T (hS.own g σ hσ) h.hp hn (yD hd) hk
    refine⟨v,wr,rd,_,lg,?_,g3,g4,g5⟩
    obtain⟨dst,op,type,pos,after,guard⟩:=o
    simp only at hc pk
    subst hc
    obtain⟨callee,cS,mf⟩:=c
    simp only at hf
    subst hf
    rw[uj,rf,pk]
    exact g2
   rename_i pk
   split at hk
   case h_3=>simp[Tr.run]at hk
   case h_2=>
    rename_i hd _
    obtain⟨m,rf,yD⟩:=gd (h.ev f) (jn (fun x=>h.ev x) c.args.toList) hg
    obtain⟨WC,QB,v,rd,e,g1,g2,hk⟩:=Lm hS h.hp (yD hd) hk
    rw[show st.hp.length=nm from by rw[nS (by assumption),h.hp.length]]at g1
    refine⟨v,[],rd,e,_,?_,g1.2,g2,hk⟩
    obtain⟨dst,op,type,pos,after,guard⟩:=o
    simp only at hc pk
    subst hc
    obtain⟨callee,cS,mf⟩:=c
    simp only at hf
    subst hf
    rw[uj,rf,pk]
    simp only[Option.bind_some,pt,WC,QB,g1.1,Option.map_some]
   rename_i σ hd hσ
   obtain⟨m,rf,yD⟩:=gd (h.ev f) (jn (fun x=>h.ev x) c.args.toList) hg
   obtain⟨v,wr,rd,a,w,lg,_,g2,g3,g4,g5⟩:=wN hS.T (hS.sum g σ hσ) h.hp (yD hd) hk
   refine⟨v,wr,rd,_,lg,?_,g3,g4,g5⟩
   obtain⟨dst,op,type,pos,after,guard⟩:=o
   simp only at hc pk
   subst hc
   obtain⟨callee,cS,mf⟩:=c
   simp only at hf
   subst hf
   rw[uj,rf,pk]
   exact g2 nm
  ·rename_i rv name hf
   split at hk
   ·simp[Tr.run]at hk
   rename_i g x hg
   obtain⟨ax,rf,Rj⟩:=Dz (h.ev rv) hg
   split at hk
   case h_2=>simp[Tr.run]at hk
   rename_i σ hd hσ
   have yD:RL S.T s.hp (x::c.args.toList.map (cW s.fr)) (ax::c.args.toList.map (ay st.fr)):=by
    simp only[List.any_cons,Bool.or_eq_false_iff]at hd
    simp only[RL]
    exact⟨Rj,iJ (jn (fun x=>h.ev x) c.args.toList) hd.2⟩
   obtain⟨v,wr,rd,a,w,lg,_,g2,g3,g4,g5⟩:=wN hS.T (hS.sum g σ hσ) h.hp yD hk
   refine⟨v,wr,rd,_,lg,?_,g3,g4,g5⟩
   obtain⟨dst,op,type,pos,after,guard⟩:=o
   simp only at hc
   subst hc
   obtain⟨callee,cS,mf⟩:=c
   simp only at hf
   subst hf
   rw[Hl rf (hS.sum g σ hσ).kind]
   exact g2 nm
 ·rename_i MP
  exact plain (fun c' f h1 _=>MP c' h1) (fun c' m i h1 _=>MP c' h1) hk
theorem QD{k:Nat}(ih:oB S k){ρ:Type}{o:Oper}{s:bx S.T.den}{K:bx S.T.den→Tr ρ}{r:ρ}{st:St}(h:RS S.T s st)(hk:(NG S (k+1) ρ o s K).run=some r):
  ∃ s' st',ie S.C o st=some (.norm st')∧RS S.T s' st'∧bj s s'∧(K s').run=some r:=by
 have plain:qf o.op=true→(NB (S.Qf s.fn) s.hp.length s.hp (cW s.fr) o fun v wr _=>s.fh o.dst v wr fun s=>C4 (match o.op with|.call _=>fun _=>[]|_=>S.C.qN s.fn) o.dst s
    fun s=>SE (match o.op with|.call _=>fun _=>[]|_=>S.tw s.fn) o.dst s K).run=some r →
   ∃ s' st',ie S.C o st=some (.norm st')∧RS S.T s' st'∧bj s s'∧(K s').run=some r:=by
  intro h1 hk
  obtain⟨v,wr,rd,e,g1,g2,g3⟩:=FB hS.T (QA hS s.fn) (Q:=S.Qf s.fn) hS.Z h.hp (.inl rfl) (fun x=>h.ev x) hk
  replace g3:(s.fh o.dst v wr fun s=>C4 (match o.op with|.call _=>fun _=>[]|_=>S.C.qN s.fn) o.dst s
    fun s=>SE (match o.op with|.call _=>fun _=>[]|_=>S.tw s.fn) o.dst s K).run=some r:=g3
  rw[cD]at g3
  obtain⟨g4,g5⟩:=h.step g2 o.dst
  have qP:(s.step o.dst v wr).fn=st.fn:=h.fn
  rw[qP]at g3
  obtain⟨s1,i1,i2,i3⟩:=Lg hS.T g4 g3
  obtain⟨s',j1,j2,j3⟩:=Qz hS.T i1 i3
  refine⟨s',_,?_,j1,g5.trans (i2.trans j2),j3⟩
  rw[xf h1]
  have:=g1.1
  rw[h.hp.length]at this
  rw[show (S.Qf s.fn).P=S.C.P from rfl]at this
  rw[this]
  rfl
 unfold NG at hk
 obtain⟨dst,op,type,pos,after,guard⟩:=o
 simp only at hk
 split at hk
 ·rename_i c
  obtain⟨callee,cS,mf⟩:=c
  split at hk
  ·rename_i b hb
   simp only at hb
   subst hb
   refine plain rfl ?_
   have e:(fun (s:bx S.T.den)=>C4 (fun _=>[]) dst s fun s=>SE (fun _=>[]) dst s K)=K:=by
    funext s
    cases dst<;>rfl
   simp only[e]
   exact hk
  ·rename_i f hf
   simp only at hf
   subst hf
   split at hk
   ·-- a round of a range over a function
    split at hk
    case h_2=>simp[Tr.run]at hk
    rename_i n hn
    have Cv:=(h.ev f).live (by rw[hn]; rfl)
    rw[hn]at Cv
    simp only[R]at Cv
    split at hk
    case h_2=>simp[Tr.run]at hk
    rename_i fn ps as bd fr ho hj Ln
    split at hk
    case h_2=>simp[Tr.run]at hk
    rename_i hc
    rw[force_eq]at hk
    have jb:=iJ (jn (fun x=>h.ev x) cS.toList) Ln
    obtain⟨ao,c8,dC⟩:=h.hp.obj ho
    obtain⟨x,vs,rfl,lY⟩:=dC
    obtain⟨MD,Mb⟩:=h.js n _ hj
    have hx:x=.ready:=by
     simp_all[ib]
    subst hx
    have hlen:vs.length=fr.length:=lY.length.symm
    obtain⟨p1,p2⟩:=Ak (ps:=ps.toList) (xs:=cS.toList.map (cW s.fr)) (as:=cS.toList.map (ay st.fr)) (n:=fr.length) (fr:=mq 0 fr) (fa:=vs) (H:=s.hp) hlen (fun t=>by
     rw[u6]
     simp only[Nat.zero_le,if_true,Nat.sub_zero,List.getD_eq_getElem?_getD]
     cases hq:vs[t]? with
     |none=>
      have:fr[t]?=none:=by rw[List.getElem?_eq_none_iff]at hq ⊢; omega
      rw[this]
      exact bm undef
     |some a=>
      obtain⟨v,hv,hr⟩:=aw.get' lY hq
      rw[hv]
      rcases hr with ⟨rfl,_⟩|hr
      ·exact .inl rfl
      ·exact .inr hr) jb
    have D8:RS S.T ⟨fn,fr.length,lP fr.length (mq 0 fr) ps.toList (cS.toList.map (cW s.fr)),s.hp,[],s.wh,s.js⟩ ⟨fn,fF vs ps.toList (cS.toList.map (ay st.fr)),st.hp⟩:=⟨rfl,p1,p2,h.hp,h.js⟩
    obtain⟨so1,o1,a1,a2,a3,hk⟩:=ih.c _ _ _ _ _ _ D8 hk
    cases so1 with
    |exit id s1=>simp[Tr.run]at hk
    |ret s1=>simp[Tr.run]at hk
    |norm s1=>
    obtain⟨UI,rfl,nu⟩:=a2
    simp only at hk
    split at hk
    case h_2=>simp[Tr.run]at hk
    rename_i wm
    obtain⟨_,rb⟩:=nu.js n _ wm
    obtain⟨b1,b2⟩:=G2 nu.hp nu.js wm .busy
    have WG:RS S.T { s1 with js:=Bj s1.js n .busy } { UI with hp:=oF UI.hp n .busy }:=⟨nu.fn,nu.n,nu.fr,b1,b2⟩
    obtain⟨QE,o2,c1,c2,c3,hk⟩:=ih.c _ _ _ _ _ _ WG hk
    have key:∀ (s2:bx S.T.den),bj { s1 with js:=Bj s1.js n .busy } s2→dk s.hp s2.hp∧s.hp.length≤s2.hp.length∧(∀ m:Nat,m<s.hp.length→m∉s2.wh→s2.hp[m]?=s.hp[m]?)∧∀ m,m∈s.wh→m∈s2.wh:=by
     intro s2 oI
     refine⟨a3.grow.trans oI.grow,Nat.le_trans a3.len oI.len,fun m hm hw=>?_,fun m hm=>oI.wh m (a3.wh m hm)⟩
     rw[oI.hp m (Nat.lt_of_lt_of_le hm a3.len) hw]
     exact a3.hp m hm (fun hc=>hw (oI.wh m hc))
    have Lo:ie S.C ⟨dst,.call ⟨.value f,cS,mf⟩,type,pos,after,guard⟩ st=gK (fun c s=>cR S.C c s) n (cS.toList.map (ay st.fr)) dst st:=by
     rw[ni,Cv.1]
     rfl
    have hy:gK (fun c s=>cR S.C c s) n (cS.toList.map (ay st.fr)) dst st=Lh n dst st o2:=by
     clear c2
     unfold gK
     have e1:decide ((cS.toList.map (ay st.fr)).length=ps.size)=true:=by
      simpa using Nat.eq_of_beq_eq_true hc
     simp only[c8,e1,a1,rb,c1]
     cases o2<;>rfl
    cases QE with
    |norm s2=>
     obtain⟨NT,rfl,AL⟩:=c2
     obtain⟨k1,k2,k3,k4⟩:=key s2 c3
     obtain⟨s',st',d1,d2,d3,hk⟩:=Bv hS.T h AL k1 k2 k3 k4 hk
     exact⟨s',st',by rw[Lo,hy]; exact d1,d2,d3,hk⟩
    |exit id s2=>
     obtain⟨NT,rfl,AL⟩:=c2
     obtain⟨k1,k2,k3,k4⟩:=key s2 c3
     obtain⟨s',st',d1,d2,d3,hk⟩:=Bv hS.T h AL k1 k2 k3 k4 hk
     exact⟨s',st',by rw[Lo,hy]; exact d1,d2,d3,hk⟩
    |ret s2=>
     obtain⟨NT,rfl,AL⟩:=c2
     obtain⟨k1,k2,k3,k4⟩:=key s2 c3
     obtain⟨s',st',d1,d2,d3,hk⟩:=Bv hS.T h AL k1 k2 k3 k4 hk
     exact⟨s',st',by rw[Lo,hy]; exact d1,d2,d3,hk⟩
   rename_i g args hg
   obtain⟨m,rf,yD⟩:=gd (h.ev f) (jn (fun x=>h.ev x) cS.toList) hg
   split at hk
   ·rename_i pk
    split at hk
    case h_2=>simp[Tr.run]at hk
    rename_i σ hd hσ
    obtain⟨v,wr,rd,e,lg,g2,_,g4,g5⟩:=GX hS.T (hS.own g σ hσ) h.hp (.inl rfl) (yD hd) hk
    rw[cD]at g5
    obtain⟨g6,g7⟩:=h.step g4 dst
    refine⟨_,_,?_,g6,g7,g5⟩
    rw[ni,rf]
    rw[h.hp.length]at g2
    simp only[nU,rh,pk,g2,Option.bind_some,gD]
   rename_i pk
   split at hk
   ·rename_i σ hd hσ
    obtain⟨v,wr,rd,a,w,lg,g1,_,_,g4,g5⟩:=wN hS.T (hS.sum g σ hσ) h.hp (yD hd) hk
    rw[cD]at g5
    obtain⟨g6,g7⟩:=h.step g4 dst
    refine⟨_,_,?_,g6,g7,g5⟩
    rw[ni,rf]
    simp only[nU,rh,pk,(hS.sum g σ hσ).kind,g1,Option.bind_some,Jm]
   ·rename_i hd hσ
    split at hk
    ·simp[Tr.run]at hk
    rename_i tk
    obtain⟨v,cq,oS,qJ,a,eL,g1,g2,g3,gj,g4,g5,g6,g7,hk⟩:=ih.f _ _ _ _ _ _ _ _ _ _ (yD hd) h.hp h.js hk
    split at hk
    case h_2=>simp[Tr.run]at hk
    rename_i Bw
    rw[jO,cD]at hk
    obtain⟨nu,oI,t2⟩:=p9 hS.T h g2 g3 g4 g5 g6 g7 gj Bw
    obtain⟨g8,g9⟩:=nu.step (v:=v) (wr:=[]) (e:=⟨a,[]⟩) ⟨.inr t2,nu.hp,dk.refl _,fun q hq=>by simp at hq,fun _ _ _=>rfl,Nat.le_refl _,fun _ _ h=>by simp at h⟩ dst
    refine⟨_,_,?_,g8,oI.trans g9,hk⟩
    rw[ni,rf]
    simp only[nU,rh,pk,tk,g1,Option.bind_some,F8]
    rw[h.hp.length]
    rfl
   ·simp[Tr.run]at hk
  ·rename_i rv name yS
   simp only at yS
   subst yS
   split at hk
   ·simp[Tr.run]at hk
   rename_i g x hg
   obtain⟨ax,rf,Rj⟩:=Dz (h.ev rv) hg
   have yD:((x::cS.toList.map (cW s.fr)).any bO)=false→RL S.T s.hp (x::cS.toList.map (cW s.fr)) (ax::cS.toList.map (ay st.fr)):=fun hd=>by
    simp only[List.any_cons,Bool.or_eq_false_iff]at hd
    simp only[RL]
    exact⟨Rj,iJ (jn (fun x=>h.ev x) cS.toList) hd.2⟩
   have pk:au (Op.call ⟨.invoke rv name,cS,mf⟩)=false:=rfl
   split at hk
   ·rename_i σ hd hσ
    obtain⟨v,wr,rd,a,w,lg,g1,_,_,g4,g5⟩:=wN hS.T (hS.sum g σ hσ) h.hp (yD hd) hk
    rw[cD]at g5
    obtain⟨g6,g7⟩:=h.step g4 dst
    refine⟨_,_,?_,g6,g7,g5⟩
    rw[zw,rf]
    simp only[Option.bind_some,rh,pk,(hS.sum g σ hσ).kind,g1,Jm]
   ·rename_i hd hσ
    split at hk
    ·simp[Tr.run]at hk
    rename_i tk
    obtain⟨v,cq,oS,qJ,a,eL,g1,g2,g3,gj,g4,g5,g6,g7,hk⟩:=ih.f _ _ _ _ _ _ _ _ _ _ (yD hd) h.hp h.js hk
    split at hk
    case h_2=>simp[Tr.run]at hk
    rename_i Bw
    rw[jO,cD]at hk
    obtain⟨nu,oI,t2⟩:=p9 hS.T h g2 g3 g4 g5 g6 g7 gj Bw
    obtain⟨g8,g9⟩:=nu.step (v:=v) (wr:=[]) (e:=⟨a,[]⟩) ⟨.inr t2,nu.hp,dk.refl _,fun q hq=>by simp at hq,fun _ _ _=>rfl,Nat.le_refl _,fun _ _ h=>by simp at h⟩ dst
    refine⟨_,_,?_,g8,oI.trans g9,hk⟩
    rw[zw,rf]
    simp only[Option.bind_some,rh,pk,tk,g1,F8]
    rw[h.hp.length]
    rfl
   ·simp[Tr.run]at hk
 ·split at hk
  ·rename_i d
   rw[Jo]
   have qP:=h.fn
   split at hk
   ·rename_i zb
    rw[qP]at zb
    rw[zb]
    simp only[cond_true]
    split at hk
    case h_2=>simp[Tr.run]at hk
    rename_i m hm
    obtain⟨q,gN,_,gE,_⟩:=hS.Q.elem hm
    split at hk
    case isFalse=>simp[Tr.run]at hk
    rename_i kK
    rw[cD]at hk
    have pf:=h.hp.new (nm:=s.hp.length) (o':=.arr true true false 0 []) (a':=.arr true true false []) (.inl rfl) ⟨[],rfl,by simp[RL],fun _=>rfl⟩
    have e1:bc s.hp [(s.hp.length,.arr true true false 0 [])]=bJ s.hp s.hp.length (.arr true true false 0 []):=rfl
    have hl:=h.hp.length
    obtain⟨g8,g9⟩:=h.step (v:=.bq m.size s.hp.length 0 none none) (wr:=[(s.hp.length,.arr true true false 0 [])]) (e:=⟨.bq q.size st.hp.length 0 0 0 none,[(st.hp.length,.arr true true false [])]⟩)
     ⟨.inr (by
       rw[e1]
       simp only[R]
       exact⟨0,eJ h.hp (.inl rfl) (o:=.arr true true false 0 []),by rw[gE,hl]⟩),
       by
        rw[←hl]
        exact pf.2,by rw[e1]; exact pf.1,fun q hq=>by simp at hq; subst hq; simp[hl],fun n hn hl=>by
        rw[e1]; simp at hn; exact xZ hl hn,by rw[e1]; exact vY (.inl rfl),fun m hm hc=>by simp at hc; have:=jo hm; omega⟩ (some d)
    refine⟨_,_,?_,g8,g9,hk⟩
    have WH:aO S.C.P type=some q:=gN
    rw[WH]
    simp only[Option.bind_some]
    rw[if_pos (by rw[gE]; exact kK)]
    simp only[bC,ak,setObj,if_true]
   ·rename_i zb
    simp only[Bool.not_eq_true]at zb
    rw[qP]at zb
    rw[zb]
    simp only[cond_false]
    rw[cD]at hk
    obtain⟨g8,g9⟩:=h.step (v:=.lit cK) (wr:=[]) (e:=⟨.lit cK,[]⟩) ⟨bm _,h.hp,dk.refl _,fun q hq=>by simp at hq,fun _ _ _=>rfl,Nat.le_refl _,fun _ _ h=>by simp at h⟩ (some d)
    exact⟨_,_,rfl,g8,g9,hk⟩
  ·-- no variable: nothing happens
   refine⟨s,st,?_,h,bj.refl _,hk⟩
   refine bS (jx S.C _ _) (by simp[fG]) fun k=>?_
   simp only[fG]
 ·rename_i MP hna
  have hl:(match op with|.call _=>fun _=>[]|_=>S.C.qN s.fn)=S.C.qN s.fn:=by
   cases op<;>first|rfl|exact absurd rfl (MP _)
  refine plain ?_ ?_
  ·unfold qf
   simp only
  ·simp only
   exact hk
end
end Go.PI
end
section
/- PS, part Q: loops, code, functions: the soundness of the trees. -/
namespace Go.PI
theorem yx{τ ω:Type}{f:τ→Option (τ ⊕ ω)}:∀ {n:Nat} {x:τ} {w:ω},kG f n x=some w→kG f (n+1) x=some w
 |0,x,w,h=>by simp[kG]at h
 |n+1,x,w,h=>by
  rw[kG]at h ⊢
  cases hf:f x with
  |none=>rw[hf]at h; simp at h
  |some q=>
   rw[hf]at h
   cases q with
   |inl y=>exact yx h
   |inr z=>exact h
theorem sB[ab]{τ ω:Type}(f:τ→Option (τ ⊕ ω))(x:τ):fH fun n=>kG f n x:=fun _ _ h=>yx h
theorem oC[ab]{τ ω:Type}{f:τ→Option (τ ⊕ ω)}{x:τ}{w:ω}:aL f x=some w↔∃ n,kG f n x=some w:=by
 unfold aL
 split
 ·rename_i w' h
  constructor
  ·intro e; exact⟨4096,h.trans e⟩
  ·rintro⟨n,hn⟩
   rw[←(bh (sB f x)).2 ⟨4096,h⟩,(bh (sB f x)).2 ⟨n,hn⟩]
 ·exact bh (sB f x)
theorem CL[ab]{τ ω:Type}(f:τ→Option (τ ⊕ ω))(x:τ):aL f x=(f x).bind fun q=>Sum.elim (aL f) some q:=by
 apply Option.ext
 intro w
 rw[oC]
 constructor
 ·rintro⟨n,h⟩
  cases n with
  |zero=>simp[kG]at h
  |succ n=>
   rw[kG]at h
   cases hf:f x with
   |none=>rw[hf]at h; simp at h
   |some q=>
    rw[hf]at h
    cases q with
    |inl y=>simp only[Option.bind_some,Sum.elim_inl]; exact oC.2 ⟨n,h⟩
    |inr z=>simp_all
 ·intro h
  cases hf:f x with
  |none=>rw[hf]at h; simp at h
  |some q=>
   rw[hf]at h
   cases q with
   |inl y=>
    simp only[Option.bind_some,Sum.elim_inl]at h
    obtain⟨n,hn⟩:=oC.1 h
    exact⟨n+1,by rw[kG,hf]; exact hn⟩
   |inr z=>
    simp only[Option.bind_some,Sum.elim_inr]at h
    exact⟨1,by rw[kG,hf]; exact h⟩
section
variable {T:dw}{ρ:Type}
theorem dA[ab]{H0 H:ah T.den}{K:Tr ρ}{r:ρ}:∀ {objs:List (Nat×cQ)},(gZ H0 H objs K).run=some r→K.run=some r∧∀ q,q∈objs→∀ t,q.2=.fix t→∀ o o',H0[q.1]?=some (some o)→H[q.1]?=some (some o')→o'.len=o.len
 |[],h=>⟨h,fun q hq=>by simp at hq⟩
 |(n,p)::objs,h=>by
  cases p with
  |fix t=>
   simp only[gZ]at h
   split at h
   ·rename_i o o' h1 h2
    obtain⟨g1,g2⟩:=aY h
    simp only[decide_eq_true_eq]at g1
    obtain⟨i1,i2⟩:=dA g2
    refine⟨i1,fun q hq t' e o3 o4 h3 h4=>?_⟩
    rcases List.mem_cons.1 hq with rfl|hq
    ·simp_all
    ·exact i2 q hq t' e o3 o4 h3 h4
   ·simp[Tr.run]at h
  |list t=>
   obtain⟨i1,i2⟩:=dA (objs:=objs) h
   refine⟨i1,fun q hq t' e o3 o4 h3 h4=>?_⟩
   rcases List.mem_cons.1 hq with rfl|hq
   ·simp at e
   ·exact i2 q hq t' e o3 o4 h3 h4
  |one p=>
   obtain⟨i1,i2⟩:=dA (objs:=objs) h
   refine⟨i1,fun q hq t' e o3 o4 h3 h4=>?_⟩
   rcases List.mem_cons.1 hq with rfl|hq
   ·simp at e
   ·exact i2 q hq t' e o3 o4 h3 h4
  |agg ps=>
   obtain⟨i1,i2⟩:=dA (objs:=objs) h
   refine⟨i1,fun q hq t' e o3 o4 h3 h4=>?_⟩
   rcases List.mem_cons.1 hq with rfl|hq
   ·simp at e
   ·exact i2 q hq t' e o3 o4 h3 h4
  |map kk t=>
   obtain⟨i1,i2⟩:=dA (objs:=objs) h
   refine⟨i1,fun q hq t' e o3 o4 h3 h4=>?_⟩
   rcases List.mem_cons.1 hq with rfl|hq
   ·simp at e
   ·exact i2 q hq t' e o3 o4 h3 h4
theorem Al[ab]{key:Nat}{h:Hint}{s0 s:bx T.den}{kind:Option Nat}{r:ρ}:∀ {l:List Bc} {K:yW T.den h.objs l→Tr ρ},(tD key h s0 s kind l K).run=some r →
  ∃ o x w,o∈l∧o.kind=kind∧HX h s0 s kind o=some x∧(K w).run=some r ∧
    (∀ q,q∈h.objs→∀ t,q.2=.fix t→∀ o o',s0.hp[q.1]?=some (some o)→s.hp[q.1]?=some (some o')→o'.len=o.len) ∧
    ∀ {σ:Type} (K':oV T.den→Tr σ),(tU h s0 l w K').run=(K' (Bi (jK h s0 o x) o.kind)).run
 |[],K,hk=>by simp[tD,Tr.run]at hk
 |[o],K,hk=>by
  simp only[tD]at hk
  split at hk
  ·rename_i x hx
   obtain⟨hk,hl⟩:=dA hk
   refine⟨o,x,x,by simp,?_,hx,hk,hl,fun K'=>?_⟩
   ·grind[HX]
   ·simp only[tU]
    rw[force_eq]
  ·simp[Tr.run]at hk
 |o::p::l,K,hk=>by
  simp only[tD]at hk
  split at hk
  ·rename_i x hx
   obtain⟨hk,hl⟩:=dA hk
   refine⟨o,x,.inl x,by simp,?_,hx,hk,hl,fun K'=>?_⟩
   ·grind[HX]
   ·simp only[tU,Tr.run,Sum.elim_inl]
    rw[force_eq]
  ·obtain⟨o',x,w,h1,h2,h3,h4,h5,h6⟩:=Al (l:=p::l) hk
   refine⟨o',x,.inr w,List.mem_cons_of_mem _ h1,h2,h3,h4,h5,fun K'=>?_⟩
   simp only[tU,Tr.run,Sum.elim_inr]
   exact h6 K'
theorem yy{a b:List Nat}(h:subset a b=true){x:Nat}(hx:x∈a):x∈b:=by
 have:=List.all_eq_true.1 h x hx
 simpa using this
theorem G4[ab]{Am:List (Nat×cQ)}{slots0:List (Nat×oW)}{dead0:List Nat}{az:List (Nat×oW)}{dead:List Nat}{ext:List oX}{s0 sx s:bx T.den}{l:List (TV T.den)}
  (Rg:c7 (az.map (·.1))=true) (UH:c7 (Am.map (·.1))=true)
  (WI:sx.fn=s0.fn) (WJ:sx.n=s0.n) (WK:∀ t,t∉slots0.map (·.1)++dead0→cH sx.fr t=cH s0.fr t) (WL:∀ n:Nat,n<s0.hp.length→n∉Am.map (·.1)→sx.hp[n]?=s0.hp[n]?) (WM:sx.hp.length=s0.hp.length)
  (sY:∀ t,t∈slots0.map (·.1)++dead0→t∈az.map (·.1)++dead) (ha:bj sx s) (hl:sg az dead Am ext s0 s=true)
  (Qv:∀ q,q∈Am→∃ o,s0.hp[q.1]?=some (some o)∧Start s0.hp o q.2) (abs:uQ az (Am++a9 s0.hp.length ext) s=some l):Ic T az dead Am ext s0 s l:=by
 unfold sg at hl
 simp only[Bool.and_eq_true,decide_eq_true_eq]at hl
 obtain⟨⟨⟨⟨⟨⟨⟨l1,l2⟩,l3⟩,l4⟩,l5⟩,l6⟩,l7⟩,l8⟩:=hl
 refine⟨Rg,UH,fun d hd=>?_,l2,ha.fn.trans WI,ha.n.trans WJ,fun t ht=>?_,fun n hn hm=>?_,l5,l6,l7,l8,Qv,abs⟩
 ·have:=List.all_eq_true.1 l1 d hd
  have:=Nat.le_of_ble_eq_true this
  omega
 ·have hw:t∉s.wf:=fun hc=>ht (yy l3 hc)
  rw[ha.fr t hw,WK t (fun hc=>ht (sY t hc))]
 ·have hw:n∉s.wh:=fun hc=>hm (yy l4 (List.mem_filter.2 ⟨hc,by simpa using hn⟩))
  rw[ha.hp n (by rw[WM]; exact hn) hw,WL n hn hm]
end
theorem An{T:dw}{az:List (Nat×oW)}{objs:List (Nat×cQ)}{s:bx T.den}{l:List (TV T.den)}(h:uQ az objs s=some l):∃ l0,jY s.hp objs=some l0:=by
 unfold uQ at h
 rw[Option.bind_eq_some_iff]at h
 obtain⟨_,_,h⟩:=h
 rw[Option.map_eq_some_iff]at h
 obtain⟨lb,h,_⟩:=h
 exact⟨lb,h⟩
theorem Ls[ab]{T:dw}{az:List (Nat×oW)}{dead:List Nat}{objs:List (Nat×cQ)}{ext:List oX}{s:bx T.den}{l:List (TV T.den)}{js:List (Nat×kW)}{st:St}
  (h:RS T { c9 az dead objs ext s l with js:=js } st) (hj:js=s.js):RS T (c9 az dead objs ext s l) st:=by
 subst hj; exact⟨h.fn,h.n,h.fr,h.hp,h.js⟩
theorem Ik{T:dw}{n:Nat}{s:bx T.den}:(jJ n s).js=s.js:=by unfold jJ; split<;>rfl
theorem yz[ab]{T:dw}{H:ah T.den}{objs:List (Nat×cQ)}{l:List (TV T.den)}(h:jY H objs=some l):qB H H objs=true:=by
 refine List.all_eq_true.2 fun q hq=>?_
 obtain⟨o,_,h1,_⟩:=km h q hq
 simp[h1]
theorem Bz[ab]{T:dw}{H:ah T.den}{objs:List (Nat×cQ)}{l:List (TV T.den)}(h:jY H objs=some l):wL H H objs=true:=by
 refine List.all_eq_true.2 fun q hq=>?_
 obtain⟨o,_,h1,_⟩:=km h q hq
 split
 ·rfl
 ·simp[h1]
theorem vg[ab]{T:dw}{H:ah T.den}{objs:List (Nat×cQ)}{l:List (TV T.den)}(h:jY H objs=some l)(q:Nat×cQ)(hq:q∈objs):∃ o,H[q.1]?=some (some o)∧Start H o q.2:=by
 obtain⟨o,ln,h1,h2⟩:=km h q hq
 exact⟨o,h1,.inl ⟨ln,h2⟩⟩
theorem DN{objs more:List (Nat×cQ)}{n:Nat}(h:n∈objs.map (·.1)):n∈(jg objs more).map (·.1):=by
 unfold jg
 rw[List.map_append]
 by_cases hm:n∈more.map (·.1)
 ·exact List.mem_append_right _ hm
 ·simp_all
theorem yA[ab]{T:dw}{H:ah T.den}{l:List (Nat×cQ)}(h:GK H l=true)(q:Nat×cQ)(hq:q∈l):∃ o,H[q.1]?=some (some o)∧Start H o q.2:=by
 have:=List.all_eq_true.1 h q hq
 split at this
 ·rename_i g cl f c e p h1 h2
  exact⟨_,h1,.inr ⟨.inl ⟨p,h2⟩,g,cl,f,c,e,rfl⟩⟩
 ·rename_i g cl f c e p h1 h2
  exact⟨_,h1,.inr ⟨.inr ⟨p,h2⟩,g,cl,f,c,e,rfl⟩⟩
 ·simp at this
section
variable [ab]{S:oa}(hS:S.Ok)
include hS
theorem NZ{k:Nat}(ih:oB S k){b:Code}{s:bx S.T.den}{h:Hint}{l0:List (TV S.T.den)}{x0:HL S.T.den h.jI}(bL:h.ok=true)(Su:Bh s.n h.az h.dead=true)(how:sf s.hp.length h.az h.objs=true)
  (oZ:uQ h.az h.objs s=some l0) (UK:uI h.jI l0=some x0) {st:St} (gL:RS S.T s st) {w:yW S.T.den h.objs h.outs}
  (hw:aL (fun x=>(bx.force { c9 h.az h.dead h.objs [] s (fV h.jI x) with wf:=[],wh:=[] } fun s1=>wv S k (HL S.T.den h.jI ⊕ yW S.T.den h.objs h.outs) b s1 fun
       |.norm s'=>
        (match jJ s.hp.length s' with
        |tT=>(match decide (tT.js=s.js)&&sg h.az h.dead h.objs [] s tT,(uQ h.az h.objs tT).bind (uI h.jI) with
         |true,some y=>gZ s.hp tT.hp h.objs (.ret (.inl y))
         |_,_=>.bad (se b s) none s tT))
       |.exit id s'=>tD (se b s) h s s' (some id) h.outs fun w=>.ret (.inr w)
       |.ret s'=>tD (se b s) h s s' none h.outs fun w=>.ret (.inr w)).run) x0=some w) :
  ∃ o x so oo,cR S.C (.loop b) st=some oo∧so=Bi (jK h s o x) o.kind∧DE S.T so oo∧bj s so.st∧∀ {σ:Type} (K':oV S.T.den→Tr σ),(tU h s h.outs w K').run=(K' so).run:=by
 simp only[Hint.ok,Bool.and_eq_true]at bL
 obtain⟨⟨WN,Tf⟩,WO⟩:=bL
 obtain⟨abN,DP⟩:=An oZ
 have Rg:c7 (h.az.map (·.1))=true:=by
  have:∀ {l m:List Nat},c7 (l++m)=true→c7 l=true:=by
   intro l m
   induction l with
   |nil=>intro _; rfl
   |cons x xs ih=>
    simp_all[c7,decide_eq_false_iff_not]
  exact this WN
 have WQ:∀ d,d∈h.az.map (·.1)++h.dead→d<s.n:=by
  intro d hd
  have:=List.all_eq_true.1 Su d hd
  have:=Nat.le_of_ble_eq_true this
  omega
 have sxf:∀ x:HL S.T.den h.jI,∀ l,uQ h.az h.objs s=some l→True:=fun _ _ _=>trivial
 clear sxf
 have nW:∀ (x:HL S.T.den h.jI) (sc:bx S.T.den) (lc:List (TV S.T.den)),Ic S.T h.az h.dead h.objs [] s sc lc→sc.js=s.js→fV h.jI x=lc→∀ (WR:St),RS S.T sc WR →
   RS S.T (c9 h.az h.dead h.objs [] s (fV h.jI x)) WR∧(c9 h.az h.dead h.objs [] s (fV h.jI x)).hp.length=s.hp.length ∧
   (∀ n:Nat,n<s.hp.length→n∉h.objs.map (·.1)→(c9 h.az h.dead h.objs [] s (fV h.jI x)).hp[n]?=s.hp[n]?) ∧
   (∀ t,t∉h.az.map (·.1)++h.dead→cH (c9 h.az h.dead h.objs [] s (fV h.jI x)).fr t=cH s.fr t) ∧
   (c9 h.az h.dead h.objs [] s (fV h.jI x)).fn=s.fn∧(c9 h.az h.dead h.objs [] s (fV h.jI x)).n=s.n:=by
  intro x sc lc ho hj hx WR WS
  obtain⟨r1,r2,r3,r4,r5,r6,_⟩:=G0 hS.T ho gL WS
  rw[hx]
  refine⟨Ls r1 hj,?_,r3,r4,r5,r6⟩
  rw[r2,ho.len]; rfl
 have main:∀ (n:Nat) (x:HL S.T.den h.jI) (stx:St),RS S.T (c9 h.az h.dead h.objs [] s (fV h.jI x)) stx→(c9 h.az h.dead h.objs [] s (fV h.jI x)).hp.length=s.hp.length →
   (∀ n:Nat,n<s.hp.length→n∉h.objs.map (·.1)→(c9 h.az h.dead h.objs [] s (fV h.jI x)).hp[n]?=s.hp[n]?) →
   (∀ t,t∉h.az.map (·.1)++h.dead→cH (c9 h.az h.dead h.objs [] s (fV h.jI x)).fr t=cH s.fr t) →
   (c9 h.az h.dead h.objs [] s (fV h.jI x)).fn=s.fn→(c9 h.az h.dead h.objs [] s (fV h.jI x)).n=s.n →
   kG (fun x=>(bx.force { c9 h.az h.dead h.objs [] s (fV h.jI x) with wf:=[],wh:=[] } fun s1=>wv S k (HL S.T.den h.jI ⊕ yW S.T.den h.objs h.outs) b s1 fun
           |.norm s'=>
            (match jJ s.hp.length s' with
            |tT=>(match decide (tT.js=s.js)&&sg h.az h.dead h.objs [] s tT,(uQ h.az h.objs tT).bind (uI h.jI) with
             |true,some y=>gZ s.hp tT.hp h.objs (.ret (.inl y))
             |_,_=>.bad (se b s) none s tT))
           |.exit id s'=>tD (se b s) h s s' (some id) h.outs fun w=>.ret (.inr w)
           |.ret s'=>tD (se b s) h s s' none h.outs fun w=>.ret (.inr w)).run) n x=some w →
   ∃ o x so oo,cR S.C (.loop b) stx=some oo∧so=Bi (jK h s o x) o.kind∧DE S.T so oo∧bj s so.st∧∀ {σ:Type} (K':oV S.T.den→Tr σ),(tU h s h.outs w K').run=(K' so).run:=by
  intro n
  induction n with
  |zero=>intro x stx _ _ _ _ _ _ hn; simp[kG]at hn
  |succ n ihn=>
   intro x stx D3 hlen QF Bu qP Mg hn
   rw[kG]at hn
   generalize Il:({ c9 h.az h.dead h.objs [] s (fV h.jI x) with wf:=[],wh:=[] }:bx S.T.den)=sx at hn
   have QG:RS S.T sx stx:=by rw[←Il]; exact⟨D3.fn,D3.n,D3.fr,D3.hp,D3.js⟩
   have e1:sx.fn=s.fn:=by rw[←Il]; exact qP
   have e2:sx.n=s.n:=by rw[←Il]; exact Mg
   have e3:∀ t,t∉h.az.map (·.1)++h.dead→cH sx.fr t=cH s.fr t:=by rw[←Il]; exact Bu
   have e4:∀ n:Nat,n<s.hp.length→n∉h.objs.map (·.1)→sx.hp[n]?=s.hp[n]?:=by rw[←Il]; exact QF
   have e5:sx.hp.length=s.hp.length:=by rw[←Il]; exact hlen
   rw[force_eq]at hn
   have pw:∀ q,(wv S k (HL S.T.den h.jI ⊕ yW S.T.den h.objs h.outs) b sx fun
       |.norm s'=>
        (match jJ s.hp.length s' with
        |tT=>(match decide (tT.js=s.js)&&sg h.az h.dead h.objs [] s tT,(uQ h.az h.objs tT).bind (uI h.jI) with
         |true,some y=>gZ s.hp tT.hp h.objs (.ret (.inl y))
         |_,_=>.bad (se b s) none s tT))
       |.exit id s'=>tD (se b s) h s s' (some id) h.outs fun w=>.ret (.inr w)
       |.ret s'=>tD (se b s) h s s' none h.outs fun w=>.ret (.inr w)).run=some q →
     (∃ y,q=.inl y∧∃ FL,cR S.C b stx=some (.norm FL)∧RS S.T (c9 h.az h.dead h.objs [] s (fV h.jI y)) (gI stx.hp.length FL)∧(c9 h.az h.dead h.objs [] s (fV h.jI y)).hp.length=s.hp.length ∧
       (∀ n:Nat,n<s.hp.length→n∉h.objs.map (·.1)→(c9 h.az h.dead h.objs [] s (fV h.jI y)).hp[n]?=s.hp[n]?) ∧
       (∀ t,t∉h.az.map (·.1)++h.dead→cH (c9 h.az h.dead h.objs [] s (fV h.jI y)).fr t=cH s.fr t) ∧
       (c9 h.az h.dead h.objs [] s (fV h.jI y)).fn=s.fn∧(c9 h.az h.dead h.objs [] s (fV h.jI y)).n=s.n) ∨
     (∃ w',q=.inr w'∧∃ o x so oo,cR S.C b stx=some oo∧(∀ s',oo≠.norm s')∧so=Bi (jK h s o x) o.kind∧DE S.T so oo∧bj s so.st∧∀ {σ:Type} (K':oV S.T.den→Tr σ),(tU h s h.outs w' K').run=(K' so).run):=by
    intro q hq
    obtain⟨so,o,c1,c2,c3,c4⟩:=ih.c _ _ _ _ _ _ QG hq
    have leave:∀ (kind:Option Nat) (s':bx S.T.den) (FL:St),RS S.T s' FL→bj sx s'→(tD (se b s) h s s' kind h.outs fun w=>(.ret (.inr w):Tr (HL S.T.den h.jI ⊕ yW S.T.den h.objs h.outs))).run=some q →
      ∃ w',q=.inr w'∧∃ o x,o.kind=kind∧RS S.T (jK h s o x) FL∧bj s (jK h s o x)∧∀ {σ:Type} (K':oV S.T.den→Tr σ),(tU h s h.outs w' K').run=(K' (Bi (jK h s o x) o.kind)).run:=by
     intro kind s' FL e9 ha hq
     obtain⟨o,x,w',d1,d2,d3,d4,d5,d6⟩:=Al hq
     simp only[Tr.run,Option.some.injEq]at d4
     refine⟨w',d4.symm,o,x,d2,?_⟩
     unfold HX at d3
     split at d3
     case h_2=>simp at d3
     rename_i hc
     simp only[Bool.and_eq_true,decide_eq_true_eq]at hc
     obtain⟨hc,Oq,Wi,WT⟩:=hc
     rw[Option.bind_eq_some_iff]at d3
     obtain⟨lx,d7,d8⟩:=d3
     have Tg:∀ q,q∈jg h.objs o.more→∃ o,s.hp[q.1]?=some (some o)∧Start s.hp o q.2:=fun q hq=>by
      rcases List.mem_append.1 hq with hq|hq
      ·exact vg DP q (List.mem_filter.1 hq).1
      ·exact yA WT q hq
     have wz:Ic S.T o.az (h.az.map (·.1)++h.dead) (jg h.objs o.more) o.ext s s' lx:=
      G4 (slots0:=h.az) (dead0:=h.dead) (List.all_eq_true.1 WO o d1) Wi e1 e2 e3 (fun n hn hm=>e4 n hn (fun hc=>hm (DN hc))) e5 (fun t ht=>List.mem_append_right _ ht) ha Oq Tg d7
     obtain⟨r1,r2,r3,r4,r5,r6,r7⟩:=G0 hS.T wz gL e9
     have ex:=ox _ _ _ d8
     refine⟨?_,?_,d6⟩
     ·unfold jK
      rw[ex]
      exact⟨r1.fn,r1.n,r1.fr,r1.hp,by rw[←hc.2]; exact r1.js⟩
     ·unfold jK
      rw[ex]
      refine⟨r5,r6,fun t ht=>r4 t ?_,fun t ht=>?_,fun n hn hw=>r3 n hn ?_,fun n hn=>?_,?_,?_⟩
      ·simp only[List.mem_append,not_or]at ht ⊢
       exact⟨ht.1,ht.2.1,ht.2.2.1⟩
      ·simp only[List.mem_append]
       exact .inr (.inr (.inr ht))
      ·exact fun hc=>hw (List.mem_append_left _ hc)
      ·exact List.mem_append_right _ hn
      ·simp only
       rw[r2,wz.len]
       omega
      ·intro n o' c8
       have hn:=(List.getElem?_eq_some_iff.1 c8).1
       by_cases hm:n∈(jg h.objs o.more).map (·.1)
       ·obtain⟨qq,UL,rfl⟩:=List.mem_map.1 hm
        obtain⟨o0,os,of,g1,g2,g3,g4,g5⟩:=r7 qq UL
        rw[g1]at c8
        simp only[Option.some.injEq]at c8
        subst c8
        refine⟨of,g3,by rw[g5]; exact GZ _ _,fun ec=>?_⟩
        rw[g4]
        rw[g5]at ec
        obtain⟨oo,m1,m2⟩:=Tg qq UL
        rw[g1]at m1
        simp only[Option.some.injEq]at m1
        subst m1
        have Th:=An d7
        obtain⟨lS,hlS⟩:=Th
        obtain⟨oo2,ln2,m3,m4⟩:=km hlS qq (List.mem_append_left _ UL)
        rw[g2]at m3
        simp only[Option.some.injEq]at m3
        subst m3
        cases hp:qq.2 with
        |list t=>rw[hp]at ec; simp[Bs]at ec
        |fix t=>
         rcases List.mem_append.1 UL with gN|gN
         ·exact d5 qq (List.mem_filter.1 gN).1 t hp o0 os g1 g2
         ·obtain⟨_,_,m5⟩:=yA WT qq gN
          rw[hp]at m2
          have:=List.all_eq_true.1 WT qq gN
          rw[hp]at this
          simp at this
        |map kk t=>
         rw[hp]at m2 m4
         rcases m2 with ⟨ln,m2⟩|⟨⟨_,m2⟩|⟨_,m2⟩,_⟩
         ·obtain⟨_,rfl,_⟩:=tN m2
          obtain⟨_,rfl,_⟩:=tN m4
          rfl
         ·cases m2
         ·cases m2
        |one p=>
         rw[hp]at m2 m4
         simp only[eg]at m4
         split at m4
         case h_2=>simp at m4
         rcases m2 with ⟨ln,m2⟩|⟨_,_,_,_,_,_,rfl⟩
         ·simp only[eg]at m2
          split at m2
          case h_2=>simp at m2
          rfl
         ·rfl
        |agg p=>
         rw[hp]at m2 m4
         simp only[eg]at m4
         split at m4
         case h_2=>simp at m4
         rcases m2 with ⟨ln,m2⟩|⟨_,_,_,_,_,_,rfl⟩
         ·simp only[eg]at m2
          split at m2
          case h_2=>simp at m2
          rfl
         ·rfl
       ·exact⟨o',by simp only; rw[r3 n hn hm]; exact c8,Nat.le_refl _,fun _=>rfl⟩
    cases so with
    |norm s'=>
     left
     obtain⟨FL,rfl,e9⟩:=c2
     simp only at c4
     split at c4
     ·rename_i y hl hy
      simp only[Bool.and_eq_true,decide_eq_true_eq]at hl
      obtain⟨Qw,hl⟩:=hl
      obtain⟨c5,_⟩:=dA c4
      simp only[Tr.run,Option.some.injEq]at c5
      rw[Option.bind_eq_some_iff]at hy
      obtain⟨ly,yb,v9⟩:=hy
      have hr:=Dy (n:=s.hp.length) hS.T e9 (fun m x hm=>by
       rw[Ik]at Qw
       rw[Qw]at hm
       exact jo (gL.js m x hm).1)
      have oI:bj sx (jJ s.hp.length s'):=by
       have:=wa QG c3
       rw[e5]at this
       exact this
      have wz:Ic S.T h.az h.dead h.objs [] s (jJ s.hp.length s') ly:=
       G4 (slots0:=h.az) (dead0:=h.dead) Rg Tf e1 e2 e3 e4 e5 (fun t ht=>ht) oI hl (vg DP) (by simpa[a9] using yb)
      have hle:stx.hp.length=s.hp.length:=by rw[←e5]; exact QG.hp.length.symm
      refine⟨y,c5.symm,FL,c1,?_⟩
      rw[hle]
      exact nW y _ ly wz Qw (ox _ _ _ v9) _ hr
     ·simp[Tr.run]at c4
    |exit id s'=>
     right
     obtain⟨FL,rfl,e9⟩:=c2
     obtain⟨w',f1,o',x',f2,f3,f4,f5⟩:=leave (some id) s' FL e9 c3 c4
     refine⟨w',f1,o',x',Bi (jK h s o' x') o'.kind,_,c1,by simp,rfl,?_,?_,f5⟩
     ·rw[f2]; exact⟨FL,rfl,f3⟩
     ·rw[f2]; exact f4
    |ret s'=>
     right
     obtain⟨FL,rfl,e9⟩:=c2
     obtain⟨w',f1,o',x',f2,f3,f4,f5⟩:=leave none s' FL e9 c3 c4
     refine⟨w',f1,o',x',Bi (jK h s o' x') o'.kind,_,c1,by simp,rfl,?_,?_,f5⟩
     ·rw[f2]; exact⟨FL,rfl,f3⟩
     ·rw[f2]; exact f4
   split at hn
   ·rename_i y hy
    rcases pw _ hy with ⟨y',e,FL,g1,g2,g3,g4,g5,g6,g7⟩|⟨w',e,_⟩
    ·simp only[Sum.inl.injEq]at e
     subst e
     obtain⟨o,x',so,oo,i1,i2⟩:=ihn _ _ g2 g3 g4 g5 g6 g7 hn
     refine⟨o,x',so,oo,?_,i2⟩
     rw[nd,g1]
     exact i1
    ·simp at e
   ·rename_i w2 WU
    simp only[Option.some.injEq]at hn
    subst hn
    rcases pw _ WU with ⟨y',e,_⟩|⟨w',e,o,x',so,oo,g1,g2,g3⟩
    ·simp at e
    ·simp only[Sum.inr.injEq]at e
     subst e
     refine⟨o,x',so,oo,?_,g3⟩
     rw[nd,g1]
     cases oo with
     |norm s'=>exact absurd rfl (g2 s')
     |_=>rfl
   ·simp at hn
 obtain⟨n,hn⟩:=oC.1 hw
 have wz:Ic S.T h.az h.dead h.objs [] s s l0:=⟨Rg,Tf,WQ,by simpa[a9] using how,rfl,rfl,fun _ _=>rfl,fun _ _ _=>rfl,rfl,yz DP,Bz DP,rfl,vg DP,by simpa[a9] using oZ⟩
 obtain⟨r1,r2,r3,r4,r5,r6⟩:=nW x0 s l0 wz rfl (ox _ _ _ UK) st gL
 exact main n x0 st r1 r2 r3 r4 r5 r6 hn
def DR(T:dw)(H:ah T.den):Option (SV T.den)→Option AV→Prop
 |none,none=>True
 |some v,some a=>RV T H v a
 |_,_=>False
omit hS in
theorem N0{k:Nat}(ih:oB S k){ρ:Type}:∀ (c:Code) {s:bx S.T.den} {K:oV S.T.den→Option (SV S.T.den)→Tr ρ} {r:ρ} {st:St},RS S.T s st→(KP (fun c s K=>wv S k ρ c s K) (fun o s K=>NG S k ρ o s K) c s K).run=some r →
  ∃ so d o da,ze (cR S.C) (ie S.C) c st=some (o,da)∧DE S.T so o∧bj s so.st∧DR S.T so.st.hp d da∧(K so d).run=some r:=by
 have leaf:∀ (c:Code) {s:bx S.T.den} {K:oV S.T.den→Option (SV S.T.den)→Tr ρ} {r:ρ} {st:St},RS S.T s st→(wv S k ρ c s fun o=>K o none).run=some r →
   ∃ so d o da,((cR S.C c st).map fun o=>(o,(none:Option AV)))=some (o,da)∧DE S.T so o∧bj s so.st∧DR S.T so.st.hp d da∧(K so d).run=some r:=by
  intro c s K r st h hk
  obtain⟨so,o,c1,c2,c3,hk⟩:=ih.c _ _ _ _ _ _ h hk
  exact⟨so,none,o,none,by rw[c1]; rfl,c2,c3,trivial,hk⟩
 intro c
 induction c with
 |seq x y _ Jh=>
  intro s K r st h hk
  simp only[KP]at hk
  cases hd:sM x with
  |some q=>
   obtain⟨ops,v⟩:=q
   rw[hd]at hk
   simp only at hk
   rw[qH]at hk
   obtain⟨s1,UI,g1,g2,g3,hk⟩:=p6 (C:=S.C) (fun o s st K h hk=>ih.o _ _ _ _ _ _ h hk) _ _ _ _ h hk
   split at hk
   case h_2=>simp[Tr.run]at hk
   rename_i q cy
   obtain⟨g,l⟩:=q
   obtain⟨m,hm,_⟩:=gd (g2.ev v) (args:=[]) (as:=[]) trivial cy
   obtain⟨so,o,c1,c2,c3,hk⟩:=ih.c _ _ _ _ _ _ g2 hk
   refine⟨so,some (cW s1.fr v),o,some (ay UI.fr v),?_,c2,g3.trans c3,(g2.ev v).mono c3.grow,hk⟩
   simp only[ze,hd,pA,g1,hm,c1]
   rfl
  |none=>
   rw[hd]at hk
   simp only at hk
   obtain⟨so,o,c1,c2,c3,hk⟩:=ih.c _ _ _ _ _ _ h hk
   cases so with
   |norm s'=>
    obtain⟨st',rfl,e9⟩:=c2
    obtain⟨QE,d2,o2,da2,e1,e2,e3,e4,hk⟩:=Jh e9 hk
    exact⟨QE,d2,o2,da2,by simp only[ze,hd,c1]; exact e1,e2,c3.trans e3,e4,hk⟩
   |ret s'=>
    obtain⟨st',rfl,e9⟩:=c2
    exact⟨.ret s',none,_,none,by simp only[ze,hd,c1],⟨st',rfl,e9⟩,c3,trivial,hk⟩
   |exit id s'=>
    obtain⟨st',rfl,e9⟩:=c2
    exact⟨.exit id s',none,_,none,by simp only[ze,hd,c1],⟨st',rfl,e9⟩,c3,trivial,hk⟩
 |_=>intro s K r st h hk; simp only[KP,ze]at hk ⊢; exact leaf _ h hk
theorem Lt{k:Nat}(ih:oB S k){ρ:Type}{s:bx S.T.den}{st:St}{d:Option (SV S.T.den)}{da:Option AV}{rs:List ResultVar}{K:List (SV S.T.den)→ah S.T.den→List Nat→List (Nat×kW)→Tr ρ}{r:ρ}(h:RS S.T s st)(hd:DR S.T s.hp d da)
  (hk:(C7 (fun c s K=>wv S k ρ c s K) S.Q S.C.P rs s d K).run=some r):∃ l cq oS qJ m eL,tY (cR S.C) S.C.P rs st.fr st.hp da=some (.val (cB m),eL)∧RL S.T cq l m∧RH S.T cq eL∧kD qJ cq eL∧dk s.hp cq∧s.hp.length≤cq.length ∧
    (∀ n:Nat,n<s.hp.length→n∉oS→cq[n]?=s.hp[n]?)∧(∀ n,n∈s.wh→n∈oS)∧(K l cq oS qJ).run=some r:=by
 cases d with
 |none=>
  cases da with
  |some a=>exact hd.elim
  |none=>
   simp only[C7]at hk
   obtain⟨l,m,g1,g2,hk⟩:=oy hS.T hS.Q h hk
   have Ni:(aU S.C.P st.fr rs).run st.hp=some m:=g1
   exact⟨l,s.hp,s.wh,s.js,m,st.hp,by simp only[tY,Eh,Ni],g2,h.hp,h.js,dk.refl _,Nat.le_refl _,fun _ _ _=>rfl,fun _ h=>h,hk⟩
 |some v=>
  cases da with
  |none=>exact hd.elim
  |some a=>
   have hd:RV S.T s.hp v a:=hd
   simp only[C7]at hk
   split at hk
   ·simp[Tr.run]at hk
   rename_i g as cy
   split at hk
   ·simp[Tr.run]at hk
   rename_i fg ML
   split at hk
   ·simp[Tr.run]at hk
   rename_i cg MM
   split at hk
   ·simp[Tr.run]at hk
   rename_i WV
   simp only[Bool.and_eq_true,Bool.not_eq_true']at WV
   obtain⟨m,hm,VJ⟩:=gd hd (args:=[]) (as:=[]) trivial cy
   rw[force_eq]at hk
   have gL:=yn (f:=g) (VJ WV.2) h.hp fg.ntmps s.wh h.js
   obtain⟨so,o,c1,c2,c3,hk⟩:=ih.c _ _ _ _ _ _ gL hk
   have fin:∀ (t:bx S.T.den) (tt:St),RS S.T t tt→bj ⟨g,max fg.ntmps as.length,mq 0 as,s.hp,[],s.wh,s.js⟩ t→(o=.norm tt∨o=.ret tt) →
     (sd S.T S.Q t fg.results.toList fun _=>sd S.T S.Q ⟨s.fn,s.n,s.fr,t.hp,s.wf,t.wh,t.js⟩ rs fun l=>K l t.hp t.wh t.js).run=some r →
     ∃ l cq oS qJ m eL,tY (cR S.C) S.C.P rs st.fr st.hp (some a)=some (.val (cB m),eL)∧RL S.T cq l m∧RH S.T cq eL∧kD qJ cq eL∧dk s.hp cq∧s.hp.length≤cq.length ∧
       (∀ n:Nat,n<s.hp.length→n∉oS→cq[n]?=s.hp[n]?)∧(∀ n,n∈s.wh→n∈oS)∧(K l cq oS qJ).run=some r:=by
    intro t tt ht oI ho hk
    obtain⟨l1,m1,f1,_,hk⟩:=oy hS.T hS.Q ht hk
    have f1':(aU S.C.P tt.fr fg.results.toList).run tt.hp=some m1:=f1
    have AL:RS S.T ⟨s.fn,s.n,s.fr,t.hp,s.wf,t.wh,t.js⟩ ⟨st.fn,st.fr,tt.hp⟩:=⟨h.fn,h.n,fun x=>(h.fr x).mono oI.grow,ht.hp,ht.js⟩
    obtain⟨l,m2,g1,g2,hk⟩:=oy hS.T hS.Q AL hk
    have Ni:(aU S.C.P st.fr rs).run tt.hp=some m2:=g1
    refine⟨l,t.hp,t.wh,t.js,m2,tt.hp,?_,g2,ht.hp,ht.js,oI.grow,oI.len,oI.hp,oI.wh,hk⟩
    simp only[tY,hm,ML,MM,WV.1,c1]
    rcases ho with rfl|rfl<;>simp only[f1',Eh,Ni]
   cases so with
   |norm t=>
    obtain⟨tt,rfl,ht⟩:=c2
    exact fin t tt ht c3 (.inl rfl) hk
   |ret t=>
    obtain⟨tt,rfl,ht⟩:=c2
    exact fin t tt ht c3 (.inr rfl) hk
   |exit id t=>simp[Tr.run]at hk
theorem QH{k:Nat}(ih:oB S k){ρ:Type}{f:FuncId}{args:List (SV S.T.den)}{hp:ah S.T.den}{wh:List Nat}{js:List (Nat×kW)}{K:SV S.T.den→ah S.T.den→List Nat→List (Nat×kW)→Tr ρ}{r:ρ}{as:List AV}{NW:ag}
  (ha:RL S.T hp args as) (hh:RH S.T hp NW) (hj:kD js hp NW) (hk:(OO S (k+1) ρ f args hp wh js K).run=some r):∃ v cq oS qJ a eL,kv S.C f as NW=some (.val a,eL)∧R S.T cq v a∧RH S.T cq eL∧kD qJ cq eL∧dk hp cq∧hp.length≤cq.length ∧
    (∀ n:Nat,n<hp.length→n∉oS→cq[n]?=hp[n]?)∧(∀ n,n∈wh→n∈oS)∧(K v cq oS qJ).run=some r:=by
 unfold OO at hk
 split at hk
 ·simp[Tr.run]at hk
 rename_i fn qP
 split at hk
 ·simp[Tr.run]at hk
 rename_i c hc
 rw[nJ,force_eq]at hk
 have gL:=yn (f:=f) ha hh fn.ntmps wh hj
 split at hk
 ·rename_i hD
  split at hk
  case h_2=>simp[Tr.run]at hk
  rename_i hn
  obtain⟨so,d,o,da,c1,c2,c3,c4,hk⟩:=N0 ih c gL hk
  have fin:∀ (s:bx S.T.den) (st:St),RS S.T s st→bj ⟨f,max fn.ntmps args.length,mq 0 args,hp,[],wh,js⟩ s→DR S.T s.hp d da→(o=.norm st∨o=.ret st) →
    (C7 (fun c s K=>wv S k ρ c s K) S.Q S.C.P fn.results.toList s d fun l hp wh js=>K (qR l) hp wh js).run=some r →
    ∃ v cq oS qJ a eL,kv S.C f as NW=some (.val a,eL)∧R S.T cq v a∧RH S.T cq eL∧kD qJ cq eL∧dk hp cq∧hp.length≤cq.length ∧
    (∀ n:Nat,n<hp.length→n∉oS→cq[n]?=hp[n]?)∧(∀ n,n∈wh→n∈oS)∧(K v cq oS qJ).run=some r:=by
   intro s st hs oI Nb ho hk
   obtain⟨l,cq,oS,qJ,m,eL,e1,e2,e3,e4,e5,e6,e7,e8,hk⟩:=Lt hS ih hs Nb hk
   refine⟨qR l,cq,oS,qJ,cB m,eL,?_,GU e2,e3,e4,oI.grow.trans e5,Nat.le_trans oI.len e6,fun n hn hw=>?_,fun n hn=>e8 n (oI.wh n hn),hk⟩
   ·refine Jl qP hc hD ?_
    unfold tZ
    rw[hn,c1]
    rcases ho with rfl|rfl<;>exact e1
   ·rw[e7 n (Nat.lt_of_lt_of_le hn oI.len) hw]
    exact oI.hp n hn fun h=>hw (e8 n h)
  cases so with
  |norm s=>
   obtain⟨st,rfl,hs⟩:=c2
   exact fin s st hs c3 c4 (.inl rfl) hk
  |ret s=>
   obtain⟨st,rfl,hs⟩:=c2
   exact fin s st hs c3 c4 (.inr rfl) hk
  |exit id s=>simp[Tr.run]at hk
 rename_i hD
 obtain⟨so,o,c1,c2,c3,hk⟩:=ih.c _ _ _ _ _ _ gL hk
 have fin:∀ (s:bx S.T.den) (st:St),RS S.T s st→bj ⟨f,max fn.ntmps args.length,mq 0 args,hp,[],wh,js⟩ s→(Jk S.C fn.results o=((aU S.C.P st.fr fn.results.toList).run st.hp).map fun l=>(.val (cB l),st.hp)) →
   (sd S.T S.Q s fn.results.toList fun l=>K (qR l) s.hp s.wh s.js).run=some r →
   ∃ v cq oS qJ a eL,kv S.C f as NW=some (.val a,eL)∧R S.T cq v a∧RH S.T cq eL∧kD qJ cq eL∧dk hp cq∧hp.length≤cq.length ∧
   (∀ n:Nat,n<hp.length→n∉oS→cq[n]?=hp[n]?)∧(∀ n,n∈wh→n∈oS)∧(K v cq oS qJ).run=some r:=by
  intro s st hs oI he hk
  obtain⟨l,m,g1,g2,hk⟩:=oy hS.T hS.Q hs hk
  refine⟨qR l,s.hp,s.wh,s.js,cB m,st.hp,?_,GU g2,hs.hp,hs.js,oI.grow,oI.len,oI.hp,oI.wh,hk⟩
  rw[AF qP hc _ _ hD,c1]
  simp only[Option.bind_some]
  rw[he]
  have Ni:(aU S.C.P st.fr fn.results.toList).run st.hp=some m:=g1
  rw[Ni]
  rfl
 cases so with
 |norm s=>
  obtain⟨st,rfl,hs⟩:=c2
  exact fin s st hs c3 rfl hk
 |ret s=>
  obtain⟨st,rfl,hs⟩:=c2
  exact fin s st hs c3 rfl hk
 |exit id s=>simp[Tr.run]at hk
theorem QI{k:Nat}(ih:oB S k){ρ:Type}{c:Code}{s:bx S.T.den}{K:oV S.T.den→Tr ρ}{r:ρ}{st:St}(h:RS S.T s st)(hk:(wv S (k+1) ρ c s K).run=some r):
  ∃ so o,cR S.C c st=some o∧DE S.T so o∧bj s so.st∧(K so).run=some r:=by
 unfold wv at hk
 split at hk
 ·exact⟨.norm s,_,qe st,⟨st,rfl,h⟩,bj.refl _,hk⟩
 ·exact⟨.norm s,_,Ev _ st,⟨st,rfl,h⟩,bj.refl _,hk⟩
 ·exact⟨.ret s,_,xb st,⟨st,rfl,h⟩,bj.refl _,hk⟩
 ·rename_i id
  exact⟨.exit id s,_,uh id st,⟨st,rfl,h⟩,bj.refl _,hk⟩
 ·rename_i a b
  obtain⟨so,o,c1,c2,c3,hk⟩:=ih.c _ _ _ _ _ _ h hk
  rw[gT,c1]
  cases so with
  |norm s'=>
   obtain⟨st',rfl,e9⟩:=c2
   obtain⟨QE,o2,d1,d2,d3,hk⟩:=ih.c _ _ _ _ _ _ e9 hk
   exact⟨QE,o2,d1,d2,c3.trans d3,hk⟩
  |exit id s'=>
   obtain⟨st',rfl,e9⟩:=c2
   exact⟨.exit id s',_,rfl,⟨st',rfl,e9⟩,c3,hk⟩
  |ret s'=>
   obtain⟨st',rfl,e9⟩:=c2
   exact⟨.ret s',_,rfl,⟨st',rfl,e9⟩,c3,hk⟩
 ·rename_i o a b
  split at hk
  ·rename_i t ht
   have ha:=(h.ev o).lit ht
   rw[kY,ha]
   rcases fp hk with ⟨rfl,hk⟩|⟨rfl,hk⟩
   ·exact ih.c _ _ _ _ _ _ h hk
   ·exact ih.c _ _ _ _ _ _ h hk
  ·simp[Tr.run]at hk
 ·rename_i id b
  obtain⟨so,o,c1,c2,c3,hk⟩:=ih.c _ _ _ _ _ _ h hk
  rw[lz,c1]
  cases so with
  |norm s'=>
   obtain⟨st',rfl,e9⟩:=c2
   exact⟨.norm s',_,rfl,⟨st',rfl,e9⟩,c3,hk⟩
  |exit IQ s'=>
   obtain⟨st',rfl,e9⟩:=c2
   simp only at hk
   by_cases e:IQ=id
   ·rw[if_pos e]at hk
    exact⟨.norm s',.norm st',by simp[ui,e],⟨st',rfl,e9⟩,c3,hk⟩
   ·rw[if_neg e]at hk
    exact⟨.exit IQ s',.exit IQ st',by simp[ui,e],⟨st',rfl,e9⟩,c3,hk⟩
  |ret s'=>
   obtain⟨st',rfl,e9⟩:=c2
   exact⟨.ret s',_,rfl,⟨st',rfl,e9⟩,c3,hk⟩
 ·rename_i b
  split at hk
  case h_2=>simp[Tr.run]at hk
  rename_i c hc
  obtain⟨so,o,c1,c2,c3,hk⟩:=ih.c _ _ _ _ _ _ h hk
  exact⟨so,o,Ew hc c1,c2,c3,hk⟩
 ·rename_i b
  split at hk
  ·split at hk
   ·obtain⟨so,o,c1,c2,c3,hk⟩:=ih.c _ _ _ _ _ _ h hk
    rw[nd,c1]
    cases so with
    |norm s'=>
     obtain⟨st',rfl,e9⟩:=c2
     simp only at hk
     split at hk
     case h_2=>simp[Tr.run]at hk
     rename_i Bw
     rw[force_eq]at hk
     have hr:=Dy (n:=s.hp.length) hS.T e9 (Ag Bw)
     have oI:=wa h c3
     obtain⟨QE,o2,d1,d2,d3,hk⟩:=ih.c _ _ _ _ _ _ hr hk
     refine⟨QE,o2,?_,d2,oI.trans d3,hk⟩
     simp only[Option.bind_some,Jj]
     rw[←h.hp.length]
     exact d1
    |exit id s'=>
     obtain⟨st',rfl,e9⟩:=c2
     exact⟨.exit id s',_,rfl,⟨st',rfl,e9⟩,c3,hk⟩
    |ret s'=>
     obtain⟨st',rfl,e9⟩:=c2
     exact⟨.ret s',_,rfl,⟨st',rfl,e9⟩,c3,hk⟩
   ·simp[Tr.run]at hk
  ·rename_i hi _
   split at hk
   ·rename_i x0 bL UK
    simp only[Bool.and_eq_true]at bL
    rw[Option.bind_eq_some_iff]at UK
    obtain⟨l0,h1,h2⟩:=UK
    simp only[Tr.run,Option.bind_eq_some_iff]at hk
    obtain⟨w,hw,hk⟩:=hk
    obtain⟨o,x,so,oo,g1,g2,g3,g4,g5⟩:=NZ hS ih bL.1.1 bL.1.2 bL.2 h1 h2 h hw
    exact⟨so,oo,g1,g3,g4,by rw[←g5]; exact hk⟩
   ·simp[Tr.run]at hk
 ·rename_i id ops draw
  split at hk
  ·obtain⟨s00,WW,WX,hk⟩:=vf h hk
   obtain⟨s0,e1,e2,hk⟩:=Bx hS.T WW hk
   replace e2:=WX.trans e2
   rw[qH]at hk
   obtain⟨s',st',g1,g2,g3,hk⟩:=p6 (C:=S.C) (fun o s st K h hk=>ih.o _ _ _ _ _ _ h hk) _ _ _ _ e1 hk
   exact⟨.norm s',.norm st',by rw[zC,←h.fn]; exact g1,⟨st',rfl,g2⟩,e2.trans g3,hk⟩
  ·split at hk
   case isFalse=>simp[Tr.run]at hk
   rename_i Ng
   generalize hm:S.C.head s.fn id ops=m at hk
   have key:∀ (s:bx S.T.den) (st:St),RS S.T s st→(og ops ops.toList fun l=>xU (lO (bD 0 s.hp.length (ops.toList.take m)) l) fun li=>sh (fun nm o s K=>Uu S nm o s K) li
       { s with hp:=s.hp++List.replicate ((ops.toList.take m).filter fun o=>au o.op).length none } [] fun s' fs=>
      if (qC (bX ops.toList) fs && mC (bX ops.toList) ops.size m) = true then vU (fun o s K => NG S k ρ o s K) (l.drop m) s' fun s' => K (.norm s') else .no "an order").run = some r →
     ∃ so o,(sU S.C ops (bD 0 st.hp.length (ops.toList.take m)) { st with hp:=st.hp++List.replicate ((ops.toList.take m).filter fun o=>au o.op).length none }).bind (Gc S.C ops m)=some o ∧
       DE S.T so o∧bj s so.st∧(K so).run=some r:=by
    clear hk h
    intro s st h hk
    rw[qH,Ad,rB]at hk
    have WY:∀ n:Nat,dk s.hp (s.hp++List.replicate n none)∧RH S.T (s.hp++List.replicate n none) (st.hp++List.replicate n none):=by
     intro n
     have hg:dk s.hp (s.hp++List.replicate n none):=fun m o ho=>⟨o,by rw[List.getElem?_append_left (List.getElem?_eq_some_iff.1 ho).1]; exact ho,Nat.le_refl _,fun _=>rfl⟩
     exact⟨hg,aw.append (aw.mono (fun _ _=>Bk.mono hg) h.hp) (aw.replicate (show Bk S.T _ none none from trivial) n)⟩
    generalize WZ:((ops.toList.take m).filter fun o=>au o.op).length=Rk at hk
    have nu:RS S.T { s with hp:=s.hp++List.replicate Rk none } { st with hp:=st.hp++List.replicate Rk none }:=
     ⟨h.fn,h.n,fun t=>(h.fr t).mono (WY Rk).1,(WY Rk).2,h.js.Bm fun n hn=>⟨by simp only; rw[List.getElem?_append_left (jo hn)],by simp only; rw[List.getElem?_append_left (by rw[←h.hp.length]; exact jo hn)]⟩⟩
    have W0:bj s { s with hp:=s.hp++List.replicate Rk none }:=
     ⟨rfl,rfl,fun _ _=>rfl,fun _ h=>h,fun n hn _=>by simp only; rw[List.getElem?_append_left hn],fun _ h=>h,by simp,(WY Rk).1⟩
    obtain⟨s',st',Qs,M4,g1,g2,g3,g4,hk⟩:=u4 (C:=S.C) (ops:=ops) (fun nm o s st K h hn hk=>QC hS h hn hk) (bD 0 s.hp.length (ops.toList.take m)) s.hp.length _ _ [] _ (Ae _ _ _)
     (by rw[yj,WZ]; simp) (fun m hm IA=>by
       simp only at IA ⊢
       rw[List.getElem?_append_right hm,List.getElem?_replicate,if_pos]
       simp at IA; omega) nu hk
    split at hk
    case isFalse=>simp[Tr.run]at hk
    rename_i DQ
    rw[Bool.and_eq_true]at DQ
    obtain⟨DQ,vF⟩:=DQ
    obtain⟨s2,NT,j1,j2,j3,hk⟩:=p6 (C:=S.C) (fun o s st K h hk=>ih.o _ _ _ _ _ _ h hk) _ _ _ _ g3 hk
    refine⟨.norm s2,.norm NT,?_,⟨NT,rfl,j2⟩,W0.trans (g4.trans j3),hk⟩
    have hl:=h.hp.length
    rw[←hl]
    rw[g1]
    simp only[Option.bind_some,Gc]
    rw[if_pos]
    ·rw[pA,←j1,List.map_drop]
    ·rw[Bool.and_eq_true]
     simp only[List.nil_append]at DQ
     exact⟨yi g2 (Br DQ),vF⟩
   obtain⟨s00,WW,WX,hk⟩:=vf h hk
   obtain⟨s0,e1,e2,hk⟩:=Bx hS.T WW hk
   replace e2:=WX.trans e2
   obtain⟨so,o,i1,i2,i3,hk⟩:=key s0 _ e1 hk
   refine⟨so,o,?_,i2,e2.trans i3,hk⟩
   rw[Hk id ops Ng,←h.fn,←rR (S.C.im s.fn id) st,hm]
   exact i1
 ·-- a range over a function
  rename_i f ps as bd
  split at hk
  case h_2=>simp[Tr.run]at hk
  rename_i g args hg
  split at hk
  case h_2=>simp[Tr.run]at hk
  rename_i lr
  rw[Bool.and_eq_true]at lr
  have hl:=h.hp.length
  have eK:=Ie h lr.2
  obtain⟨H1,IE⟩:∃ H1,H1=s.hp++[some (aB.oU s.fn ps as bd (wu (cX as++cX bd) s.fr (List.range s.n)))]:=⟨_,rfl⟩
  rw[←IE]at hk
  have OW:dk s.hp H1:=fun m o ho=>⟨o,by rw[IE,List.getElem?_append_left (List.getElem?_eq_some_iff.1 ho).1]; exact ho,Nat.le_refl _,fun _=>rfl⟩
  have fu:H1[s.hp.length]?=some (some (aB.oU s.fn ps as bd (wu (cX as++cX bd) s.fr (List.range s.n)))):=by rw[IE]; simp
  have hh1:RH S.T H1 (st.hp++[some (.gh (.loop st.fn ps as bd .ready) (tX as bd st.fr))]):=by
   have:aw (Bk S.T H1) (s.hp++[some (aB.oU s.fn ps as bd (wu (cX as++cX bd) s.fr (List.range s.n)))]) (st.hp++[some (.gh (.loop st.fn ps as bd .ready) (tX as bd st.fr))]):=
    aw.append (aw.mono (fun _ _=>Bk.mono OW) h.hp) ⟨⟨.ready,_,by rw[h.fn],aw.mono (fun _ _ h=>h.imp id (R.mono OW)) eK⟩,trivial⟩
   rw[←IE]at this
   exact this
  have MD:kD ((s.hp.length,.ready)::s.js) H1 (st.hp++[some (.gh (.loop st.fn ps as bd .ready) (tX as bd st.fr))]):=by
   intro m x hm
   simp only[cm]at hm
   split at hm
   ·simp_all[recAt,fu,aB.isRec,ib]
   ·obtain⟨h1,h2⟩:=h.js m x hm
    have bQ:=jo h1
    exact⟨by rw[p5 (show H1[m]?=s.hp[m]? by rw[IE,List.getElem?_append_left bQ])]; exact h1,by rw[nK (List.getElem?_append_left (by omega))]; exact h2⟩
  have hyR:RV S.T H1 (.mp true s.hp.length) (.mp true st.hp.length):=.inr (by simp only[R]; exact⟨by rw[hl],_,fu⟩)
  obtain⟨m,rf,yD⟩:=gd ((h.ev f).mono OW) (show aw (RV S.T H1) [.mp true s.hp.length] [.mp true st.hp.length] from ⟨hyR,trivial⟩) hg
  have Ln:args.any bO=false:=by simpa using lr.1
  obtain⟨v,cq,oS,qJ,a,eL,g1,g2,g3,gj,g4,g5,g6,g7,hk⟩:=ih.f _ _ _ _ _ _ _ _ _ _ (yD Ln) hh1 MD hk
  have F4:H1.length=s.hp.length+1:=by rw[IE]; simp
  have fin:∀ x,cm qJ s.hp.length=some x→RS S.T (s.gO s.hp.length cq oS qJ) { st with hp:=qY eL st.hp.length }∧bj s (s.gO s.hp.length cq oS qJ)∧ib eL st.hp.length=some x:=by
   intro x hx
   obtain⟨q1,q2⟩:=gj _ _ hx
   rw[hl]at q2
   obtain⟨Na,Wx,nV,Wy,yQ,hr⟩:=iD q2
   obtain⟨o,ho,Ww⟩:∃ o,cq[s.hp.length]?=some (some o)∧o.isRec=true:=by
    grind[recAt]
   have qU:o.cur=0∧o.len=0:=by cases o<;>simp[aB.isRec]at Ww; exact⟨rfl,rfl⟩
   have Cw:qY eL st.hp.length=eL.set st.hp.length (some (.gh (.loop Na Wx nV Wy .gO) (yQ.map fun _=>.any))):=by unfold qY; rw[hr]
   obtain⟨u1,u2⟩:=g3.Q9 ho (o':=.gY) (a':=.gh (.loop Na Wx nV Wy .gO) (yQ.map fun _=>.any)) (by rw[qU.1]; exact Nat.zero_le _) (fun _=>by rw[qU.2]; rfl) (.inr ⟨_,_,rfl,fun n=>by
    rw[yk]
    simp[Go.PI.below]⟩)
   rw[hl]at u2
   have zx:dk s.hp (cq.set s.hp.length (some .gY)):=OW.trans (g4.trans u1)
   refine⟨⟨h.fn,h.n,fun t=>(h.fr t).mono zx,?_,?_⟩,⟨rfl,rfl,fun _ _=>rfl,fun _ h=>h,fun n hn hw=>?_,g7,?_,zx⟩,q2⟩
   ·rw[Cw]
    show RH S.T (cq.set s.hp.length (some .gY)) _
    rw[hl]; exact u2
   ·intro n y hy
    have AK:cm (C6 qJ s.hp.length) n=some y:=hy
    rw[DF]at AK
    split at AK
    ·simp at AK
    rename_i dN
    obtain⟨w1,w2⟩:=gj _ _ AK
    refine⟨?_,?_⟩
    ·rw[p5 (show (s.gO s.hp.length cq oS qJ).hp[n]?=cq[n]? from List.getElem?_set_ne (Ne.symm dN))]; exact w1
    ·rw[Cw,nK (List.getElem?_set_ne (by rw[←hl]; exact Ne.symm dN))]; exact w2
   ·show (cq.set s.hp.length (some .gY))[n]?=_
    rw[List.getElem?_set_ne (by omega),g6 n (by omega) hw,IE,List.getElem?_append_left hn]
   ·show s.hp.length≤(cq.set s.hp.length (some .gY)).length
    rw[List.length_set]; omega
  have aV:cR S.C (.rangeFunc f ps as bd) st=vk st st.hp.length eL:=by
   rw[EA,rf]
   simp only[Option.bind_some,g1]
   rfl
  rw[aV]
  split at hk
  ·rename_i hx
   obtain⟨f1,f2,f3⟩:=fin _ hx
   exact⟨.norm _,_,by unfold vk; rw[f3],⟨_,rfl,f1⟩,f2,hk⟩
  ·rename_i hx
   obtain⟨f1,f2,f3⟩:=fin _ hx
   exact⟨.ret _,_,by unfold vk; rw[f3],⟨_,rfl,f1⟩,f2,hk⟩
  ·rename_i id hx
   obtain⟨f1,f2,f3⟩:=fin _ hx
   exact⟨.exit id _,_,by unfold vk; rw[f3],⟨_,rfl,f1⟩,f2,hk⟩
  ·simp[Tr.run]at hk
 ·simp[Tr.run]at hk
theorem DS:∀ k,oB S k
 |0=>⟨fun _ _ _ _ _ _ _ _ _ _ _ _ _ h=>by simp[OO,Tr.run]at h,fun _ _ _ _ _ _ _ h=>by simp[wv,Tr.run]at h,fun _ _ _ _ _ _ _ h=>by simp[NG,Tr.run]at h⟩
 |k+1=>
  have ih:=DS k
  ⟨fun _ _ _ _ _ _ _ _ _ _ ha hh hj hk=>QH hS ih ha hh hj hk,fun _ _ _ _ _ _ h hk=>QI hS ih h hk,fun _ _ _ _ _ _ h hk=>QD hS ih h hk⟩
end
end Go.PI
end
section
/- PS, part R: from an equation of trees to what is known of a function; laws; arguments read. -/
namespace Go.PI
theorem DM[ab]{S:oa}(hS:S.Ok){k:Nat}{f:FuncId}{σ:uJ S.T}(hk:S.C.kind f=.pure)(hi:S.C.kp f=none)(h:∀ x,(Qd S k f σ.args σ.res x).run=σ.fn x):pZ S.C S.T f σ where
 kind:=hk
 Rf:=by
  intro x as y hx hy
  rw[←h x]at hy
  unfold Qd at hy
  obtain⟨v,cq,oS,qJ,a,eL,g1,g2,g3,_,_,_,_,_,hy⟩:=(DS hS k).f _ f _ [] [] [] _ _ as [] (K6 hS.T [] hx) (show RH S.T [] [] from trivial) (fun _ _ h=>by simp[cm]at h) hy
  obtain⟨v',rd,a',h1,h2,h3,hy⟩:=K5 g3 g2 hy
  split at hy
  case h_2=>simp[Tr.run]at hy
  rename_i r hr
  simp only[Tr.run,Option.some.injEq]at hy
  subst hy
  rw[Option.bind_eq_some_iff]at hr
  obtain⟨l,hl,hr⟩:=hr
  have Vi:∀ (ts:List Nat) (l:List (SV S.T.den)) r,HR S.T ts l=some r→ts.length=l.length:=by
   intro ts
   induction ts with
   |nil=>
    grind[HR]
   |cons t ts ih=>
    intro l r h
    cases l with
    |nil=>simp[HR]at h
    |cons v l=>
     simp only[HR,Option.bind_eq_some_iff,Option.map_eq_some_iff]at h
     obtain⟨_,_,_,h,_⟩:=h
     simp[ih _ _ h]
  have hlen:=Vi _ _ _ hl
  have key:∃ m,RL S.T cq (KQ σ.res v') m∧cB m=a':=by
   unfold KQ at hlen ⊢
   split at hlen
   ·exact⟨[a'],by simp only[RL]; exact⟨h2,trivial⟩,rfl⟩
   ·rename_i dN
    have rb:σ.res.length≠1:=by
     intro hc
     match cy:σ.res,hc with
     |[t],_=>exact dN t cy
    split at hlen
    ·simp only[R]at h2
     obtain⟨m,rfl,h2⟩:=h2
     have hm:=h2.length
     refine⟨m,h2,?_⟩
     match m,hm with
     |[],_=>rfl
     |[x],hm=>simp at hm; omega
     |x::y::r,_=>rfl
    ·simp at hlen; omega
  obtain⟨m,rf,Rj⟩:=key
  have Ee:=FC hS.T rf hl
  rw[ox _ _ _ hr]
  refine⟨a,eL,m,?_,?_,?_,Ee⟩
  ·simp only[K7,hi,g1]
  ·rw[Rj]; exact h1.1
  ·rw[Rj]; exact h3.1
def GQ(C:Ctx)(T:dw)(M:List (Nat×jX))(hint:FuncId→Nat→Option Hint)(uK:FuncId→Nat→Bool)(L:List (Nat×uJ T))(n:Nat)(O:List (Nat×vT T):=[])(tA:FuncId→Nat→Bool:=fun _ _=>false)(tw:FuncId→Tmp→List Tw:=fun _ _=>[]):oa:=
 ⟨C,T,cm (L.take n),hint,uK,M,cm O,tA,tw⟩
theorem Ao{α:Type}:∀ {l m:List (Nat×α)} {n:Nat} {a:α},cm (l++m) n=some a→cm l n=some a∨cm m n=some a
 |[],m,n,a,h=>.inr h
 |(k,b)::l,m,n,a,h=>by
  simp only[List.cons_append,cm]at h ⊢
  split at h
  ·exact .inl h
  ·exact Ao h
section
variable {C:Ctx}{T:dw}{M:List (Nat×jX)}{hint:FuncId→Nat→Option Hint}{uK:FuncId→Nat→Bool}{L:List (Nat×uJ T)}{O:List (Nat×vT T)}{tA:FuncId→Nat→Bool}{tw:FuncId→Tmp→List Tw}
theorem Dd[ab](hT:T.Ok)(hQ:gM.Ok ⟨C.P,M,fun _=>false⟩)(hZ:T.tJ ⟨C.P,M,fun _=>false⟩)(hO:∀ g σ,cm O g=some σ→GW C T g σ):(GQ C T M hint uK L 0 O tA tw).Ok:=
 ⟨hT,hQ,hZ,fun g σ h=>by simp[GQ,cm]at h,hO⟩
theorem tG[ab]{n:Nat}(hS:(GQ C T M hint uK L n O tA tw).Ok){f:FuncId}{σ:uJ T}(hL:L[n]?=some (f,σ))(h:pZ C T f σ):(GQ C T M hint uK L (n+1) O tA tw).Ok:=by
 refine⟨hS.T,hS.Q,hS.Z,fun g τ hg=>?_,hS.own⟩
 simp only[GQ]at hg
 rw[List.take_add_one,hL]at hg
 rcases Ao hg with hg|hg
 ·exact hS.sum g τ hg
 ·have:=gA hg
  simp only[Option.toList_some,List.mem_singleton]at this
  obtain⟨rfl,rfl⟩:=this
  exact h
theorem aC[ab]{n:Nat}(hS:(GQ C T M hint uK L n O tA tw).Ok){f:FuncId}{σ:uJ T}(hL:L[n]?=some (f,σ))(hk:C.kind f=.pure)(hi:C.kp f=none)(k:Nat)
  (h:∀ x,(Qd (GQ C T M hint uK L n O tA tw) k f σ.args σ.res x).run=σ.fn x):(GQ C T M hint uK L (n+1) O tA tw).Ok:=
 tG hS hL (DM hS hk hi h)
theorem N1[ab]{n:Nat}(hS:(GQ C T M hint uK L n O tA tw).Ok){f:FuncId}{σ:uJ T}(h:cm (L.take n) f=some σ):pZ C T f σ:=hS.sum f σ h
end
theorem FM[ab]{hp:ag}{v:AV}{b:Bool}(h:(aX 1000 v).run hp=some (.lit (.bool b))):v=.lit (.bool b):=by
 cases v with
 |lit x=>
  simp only[aX]at h
  split at h
  ·simp[RM.run_pure]at h
  ·simpa[RM.run_pure] using h
 |agg l=>simp only[aX,RM.run_bind]at h; cases hq:(aN 999 l).run hp<;>rw[hq]at h<;>simp[RM.run_pure]at h
 |jt l=>simp only[aX,RM.run_bind]at h; cases hq:(aN 999 l).run hp<;>rw[hq]at h<;>simp[RM.run_pure]at h
 |sl l=>simp[aX,RM.run_pure]at h
 |o7 l c=>simp[aX,RM.run_pure]at h
 |nz=>simp[aX,RM.run_pure]at h
 |bf e j=>simp[aX,RM.run_pure]at h
 |ref n aq i j=>
  simp only[aX,RM.run_bind]at h
  cases hq:(RM.arr n aq).run hp with
  |none=>rw[hq]at h; simp at h
  |some q=>
   obtain⟨g,c,f,es⟩:=q
   rw[hq]at h
   simp only[Option.bind_some]at h
   split at h
   ·split at h
    ·simp[RM.run_pure]at h
    ·rename_i e _ _
     rw[RM.run_bind]at h
     cases dX:(aX 999 e).run hp<;>rw[dX]at h<;>simp[RM.run_pure]at h
   ·simp[RM.ae]at h
 |iM n aq i j len cap=>
  simp only[aX,RM.run_bind]at h
  cases hq:(RM.arr n aq).run hp with
  |none=>rw[hq]at h; simp at h
  |some q=>
   obtain⟨g,c,f,es⟩:=q
   rw[hq]at h
   simp only[Option.bind_some]at h
   split at h
   ·split at h
    ·split at h
     ·simp[RM.run_pure]at h
     ·rename_i cs _ _ _
      rw[RM.run_bind]at h
      cases dX:(aN 999 ((cs.drop j).take len)).run hp<;>rw[dX]at h<;>simp[RM.run_pure]at h
    ·simp[RM.ae]at h
   ·simp[RM.ae]at h
 |mp n=>simp[aX,RM.ae]at h
 |any=>simp[aX,RM.ae]at h
 |gg t x=>simp only[aX,RM.run_bind]at h; cases hq:(aX 999 x).run hp<;>rw[hq]at h<;>simp[RM.run_pure]at h
 |iT fn f c=>
  simp only[aX,RM.run_bind]at h
  cases hq:(aN 999 f).run hp with
  |none=>rw[hq]at h; simp at h
  |some f'=>
   cases dX:(aN 999 c).run hp with
   |none=>rw[hq,dX]at h; simp at h
   |some c'=>simp_all[RM.run_pure]
 |bq esz n aq off len cap=>
  simp only[aX,RM.run_bind]at h
  cases hq:(RM.arr n aq).run hp with
  |none=>rw[hq]at h; simp at h
  |some q=>
   obtain⟨g,c,f,es⟩:=q
   rw[hq]at h
   simp only[Option.bind_some]at h
   split at h
   ·split at h
    ·simp[RM.run_pure]at h
    ·rw[RM.run_bind]at h
     cases dX:(aN 999 ((es.drop off).take len)).run hp<;>rw[dX]at h<;>simp[RM.run_pure]at h
   ·simp[RM.ae]at h
open Go.RowKit in
theorem Lu[ab]{C:Ctx}{T:dw}(hC:C.Ok){f:FuncId}{σ:uJ T}(h:pZ C T f σ)(hi:C.kp f=none){x:HL T.den (σ.args.map .v)}{y:HL T.den (σ.res.map .v)}(hy:σ.fn x=some y)
  (cy:∀ l,aw (OZ T) (fV _ y) l→l=[.lit (.bool true)]) {as:List AV} (ha:aw (OZ T) (fV _ x) as) {W:World} (hg:mD (Env.all W)) {vs:List Value} (hr:an (Env.all W) false as vs) :
  Calls C.P f vs.toArray W fun e w'=>e=.returned (.bool true)∧Below W.heap.size W w':=by
 obtain⟨v,hX,l,h1,h2,_,h4⟩:=h.Rf x as y ha hy
 have:=cy l h4
 subst this
 have hv:=FM h2
 subst hv
 unfold K7 at h1
 rw[hi]at h1
 simp only at h1
 split at h1
 case h_2=>simp at h1
 rename_i v0 SZ aV
 simp only[Option.some.injEq,Prod.mk.injEq]at h1
 obtain⟨rfl,rfl⟩:=h1
 exact He hC aV hg hr
end Go.PI
end
section
/- PS, part S: arguments that came in, as typed values. -/
namespace Go.PI
section
variable {P:Program}{n t:Nat}{l:List AV}
theorem oD(h:Shape P n t l):∃ k,n=k+1:=by
 cases n with
 |zero=>simp[Shape]at h
 |succ k=>exact⟨k,rfl⟩
theorem Ap[ab]{i:IntKind}(hu:P.underlying t=some (.int i))(h:Shape P n t l):∃ m:Int,l=[.lit (.int i m)]∧i.min≤m∧m≤i.max:=by
 obtain⟨k,rfl⟩:=oD h
 simp only[Shape,hu]at h
 obtain⟨m,h1,h2⟩:=h
 simp only[Lit.wf,Bool.and_eq_true,decide_eq_true_eq]at h2
 exact⟨m,h1,h2⟩
theorem qc[ab]{e:Nat}{α:Type}{Q:α→AV→Prop}{d:TypeDesc}(hu:P.underlying t=some (.slice e))(he:P.underlying e=some d)(h:Shape P n t l)
  (Jf:∀ k x,(∃ cl,(if dQ d then x=AV.agg cl else cl=[x])∧Shape P k e cl)→∃ y,Q y x) :
  ∃ ys xs,l=[.sl xs]∧aw Q ys xs∧ys.length≤maxLen:=by
 obtain⟨k,rfl⟩:=oD h
 simp only[Shape,hu]at h
 obtain⟨xs,h1,h2,h3⟩:=h
 have:∃ ys,aw Q ys xs:=by
  clear h1 h2
  induction xs with
  |nil=>exact⟨[],trivial⟩
  |cons x xs ih=>
   obtain⟨ys,h4⟩:=ih fun y hy=>h3 y (List.mem_cons_of_mem _ hy)
   obtain⟨cl,h5,h6⟩:=h3 x (by simp)
   rw[he]at h5
   obtain⟨y,h7⟩:=Jf k x ⟨cl,h5,h6⟩
   exact⟨y::ys,h7,h4⟩
 obtain⟨ys,h4⟩:=this
 exact⟨ys,xs,h1,h4,by rw[h4.length]; exact h2⟩
theorem BA[ab]{fs:Array Field}(hu:P.underlying t=some (.struct fs))(h:Shape P n t l):l.length=P.cellsOf t∧∃ k,∀ f,f∈fs.toList→Shape P k f.type ((l.drop f.offset).take (P.cellsOf f.type)):=by
 obtain⟨k,rfl⟩:=oD h
 simp only[Shape,hu]at h
 exact⟨h.1,k,h.2⟩
theorem BB[ab]{Q:gM}(hQ:Q.Ok){t:Nat}{m:jX}(hm:Q.ty t=some m){fs:List (Nat×Nat)}(hk:m.kind=.struct fs)(h:Shape Q.P n t l):
  l.length=Q.P.cellsOf t∧∃ k,∀ q,q∈fs→Shape Q.P k q.2 ((l.drop q.1).take (Q.P.cellsOf q.2)):=by
 obtain⟨d,hd,Ex⟩:=hQ.kind t m hm
 rw[hk]at Ex
 cases d<;>simp[oj]at Ex
 rename_i D1
 subst Ex
 obtain⟨h1,k,h2⟩:=BA hd h
 refine⟨h1,k,fun q hq=>?_⟩
 obtain⟨f,hf,rfl⟩:=List.mem_map.1 hq
 exact h2 f hf
end
theorem oE{Q:gM}(hQ:Q.Ok){t:Nat}{m:jX}(h:Q.ty t=some m):Q.P.cellsOf t=m.size:=by
 obtain⟨r,h1,_,h2,_⟩:=hQ.row t m h
 unfold fb at h1
 unfold Program.cellsOf
 cases hi:Q.P.info? t with
 |none=>rw[hi]at h1; simp at h1
 |some i=>
  grind
theorem il[ab]{P:Program}{n t t':Nat}{l:List AV}(hu:P.underlying t=P.underlying t')(h:Shape P n t l)(hc:P.cellsOf t=P.cellsOf t':=by kernel_rfl):Shape P n t' l:=by
 obtain⟨k,rfl⟩:=oD h
 simp only[Shape]at h ⊢
 rw[←hu,←hc]
 exact h
theorem tQ{k:IntKind}{n:Int}:ba (.lit (.int k n))=true:=rfl
theorem qL{b:Bool}:ba (.lit (.bool b))=true:=rfl
theorem tR{s:ByteArray}:ba (.lit (.string s))=true:=rfl
theorem DT{T:dw}{H:ah T.den}{v:SV T.den}{vs:List (SV T.den)}{l:List AV}:RL T H (v::vs) l↔∃ c cs,l=c::cs∧R T H v c∧RL T H vs cs:=by
 cases l with
 |nil=>simp[RL]
 |cons c cs=>
  grind[RL]
theorem FN{T:dw}{H:ah T.den}{l:List AV}:RL T H [] l↔l=[]:=by
 cases l<;>simp[RL]
end Go.PI
end
section
/- PS: what must hold of a seat's types, for all the plain kinds at once. -/
namespace Go.PI
section
variable {T:dw}{H:ah T.den}{v:SV T.den}{a:AV}
theorem eQ{k:IntKind}{x:Int}(h:dI k v=some x)(hr:R T H v a):a=.lit (.int k x):=by
 unfold dI at h
 split at h
 ·simp_all[R]
 ·simp at h
theorem Lx{x:Bool}(h:dB v=some x)(hr:R T H v a):a=.lit (.bool x):=by
 unfold dB at h
 split at h
 ·simp_all[R]
 ·simp at h
theorem Tk{x:ByteArray}(h:dS v=some x)(hr:R T H v a):a=.lit (.string x):=by
 unfold dS at h
 split at h
 ·simp_all[R]
 ·simp at h
theorem Ly{α:Type}{q:α→AV→Prop}{d:SV T.den→Option α}(hd:∀ v x a,d v=some x→R T H v a→q x a):∀ (vs:List (SV T.den)) (l:List α) (m:List AV),SF d vs=some l→RL T H vs m→aw q l m
 |[],l,[],h,_=>by simp[SF]at h; subst h; trivial
 |v::vs,l,a::m,h,hr=>by
  simp only[RL]at hr
  simp only[SF,Option.bind_eq_some_iff,Option.map_eq_some_iff]at h
  obtain⟨x,h1,ys,h2,rfl⟩:=h
  exact⟨hd _ _ _ h1 hr.1,Ly hd vs ys m h2 hr.2⟩
 |[],_,_::_,_,h=>by simp[RL]at h
 |_::_,_,[],_,h=>by simp[RL]at h
theorem gf{e:Nat}{x:List (T.den e)}{d:SV T.den→Option (T.den e)}(hd:∀ v x a,d v=some x→R T H v a→T.rp e x a)(h:OP e d v=some x)(hr:R T H v a):NH (T.rp e) x a:=by
 unfold OP at h
 split at h
 ·rename_i t l
  split at h
  ·rename_i e
   subst e
   have e2:l=x:=Option.some.inj h
   subst e2
   simp only[R]at hr
   exact hr
  ·simp at h
 ·simp only[R]at hr
  obtain⟨m,rfl,hm,_⟩:=hr
  exact .inl ⟨m,rfl,Ly hd _ _ _ h hm⟩
 ·grind[R]
 ·simp at h
theorem QJ{α:Type}{q:α→AV→Prop}{d:SV T.den→Option α}{x:α}(hd:∀ v a,d v=some x→R T H v a→q x a)(h:VY d v=some x)(hr:R T H v a):Uv q x a:=by
 unfold VY at h
 split at h
 ·grind[R]
 ·simp at h
theorem uL{l:Value}(h:a=.lit l):R T H (.lit l) a:=by simp only[R]; exact h
theorem uG{e:Nat}{x:List (T.den e)}(h:NH (T.rp e) x a):R T H (.jr e x) a:=by simp only[R]; exact h
theorem uP{α:Type}{q:α→AV→Prop}{u:α→SV T.den}{x:α}(hu:∀ b,q x b→R T H (u x) b)(hc:aD (u x)=true)(h:Uv q x a):R T H (.bf (u x) 0) a:=by
 grind[R]
theorem eI{k:IntKind}{x:Int}(h:a=.lit (.int k x)):aG false 1 a=true∧closed a=true∧ba a=true:=by subst h; exact⟨rfl,rfl,rfl⟩
theorem eB{x:Bool}(h:a=.lit (.bool x)):aG false 1 a=true∧closed a=true∧ba a=true:=by subst h; exact⟨rfl,rfl,rfl⟩
theorem eS{x:ByteArray}(h:a=.lit (.string x)):aG false 1 a=true∧closed a=true∧ba a=true:=by subst h; exact⟨rfl,rfl,rfl⟩
theorem eG{α:Type}{q:α→AV→Prop}{x:List α}(h:NH q x a):aG false 1 a=true∧closed a=true∧ba a=true:=by
 rcases h with ⟨l,rfl,_⟩|⟨_,rfl⟩<;>exact⟨rfl,rfl,rfl⟩
theorem eP{α:Type}{q:α→AV→Prop}{x:α}(h:Uv q x a):aG false 1 a=true∧closed a=true∧ba a=true:=by
 obtain⟨b,rfl,_⟩:=h
 exact⟨rfl,rfl,rfl⟩
theorem yE{p q r:Prop}(h:p∧q∧r):p∧q:=⟨h.1,h.2.1⟩
theorem zz{α β:Type}{P:α→β→Prop}{x z:α}{y za:β}(h1:some x=some z)(h2:some y=some za)(h:P x y):P z za:=by
 simp_all
theorem zn{α:Type}{z:α}{p:Prop}(h:(none:Option α)=some z):p:=by cases h
end
end Go.PI
end
section
/- PS, part U: what is lacking of laws to compute by: appends and literal slices. -/
namespace Go.PI
variable {C:Ctx}{P:Program}{dst:Option Tmp}{type:TypeId}{pos:String}{after:Array Edge}{guard:Option (Nat×Bool)}{s:St}{hp:ag}{nm:Nat}{ev:Operand→AV}
theorem DX[ab]{d:Tmp}(h:C.acc s.fn d=false):ie C ⟨some d,.assign (.const (.slice none 0 0)),type,pos,after,guard⟩ s=some (.norm { s with fr:=s.fr.set d (.lit cK) }):=by
 refine bS (jx C _ _) (by simp[fG]) fun k=>?_
 simp only[fG,h]
 rfl
theorem LF{x y:Operand}{t u:TypeId}:(aK P nm ev ⟨dst,.call ⟨.builtin .append,#[x,y],#[t,u]⟩,type,pos,after,guard⟩).run hp=(fE P nm t u (ev x) (ev y)).run hp:=rfl
def LG(d:Option dm):AV→Option dm
 |.lit (.slice none 0 0)=>some ⟨int 0,[]⟩
 |_=>d
theorem LH{d:Option dm}:LG d (.lit (.slice none 0 0))=some ⟨int 0,[]⟩:=rfl
theorem Od{t:TypeId}{x:Operand}(h:bW P t=true):(aK P nm ev ⟨dst,.call ⟨.builtin .cap,#[x],#[t]⟩,type,pos,after,guard⟩).run hp =
  LG (JO P nm ev ⟨dst,.call ⟨.builtin .cap,#[x],#[t]⟩,type,pos,after,guard⟩ hp) (ev x):=by
 unfold LG
 split
 ·rename_i hx; simp[aK,di,hx,h]; rfl
 ·rfl
theorem Oe{t:TypeId}{x:Operand}(h:bW P t=true):(aK P nm ev ⟨dst,.call ⟨.builtin .len,#[x],#[t]⟩,type,pos,after,guard⟩).run hp =
  LG (JO P nm ev ⟨dst,.call ⟨.builtin .len,#[x],#[t]⟩,type,pos,after,guard⟩ hp) (ev x):=by
 unfold LG
 split
 ·rename_i hx; simp[aK,di,hx,h,nN]; rfl
 ·rfl
theorem Of[ab]{t:TypeId}{x:Operand}{lo hi mx:Option Operand}:(aK P nm ev ⟨dst,.slice t x lo hi mx,type,pos,after,guard⟩).run hp=(mY P t (ev x) (lo.map ev) (hi.map ev) (mx.map ev)).map fun x=>⟨x,[]⟩:=AP _ _
theorem Og{t:TypeId}{r:bG}(yP:aO P t=some r):mY P t (.lit cK) none (some (int 0)) none=some (.lit cK):=by
 simp[mY,yP,br,asNat]
theorem Oh{t:TypeId}{r:bG}(yP:aO P t=some r){n aq len:Nat}(hv:0<aq):mY P t (.bq r.size n aq 0 len none) none (some (int 0)) none=some (.bq r.size n aq 0 0 none):=by
 simp[mY,yP,br,asNat,hv]
theorem LI[ab]{t u:TypeId}{r:bG}{k:IntKind}{z:AV}{n:Nat}(yP:aO P t=some r)(gL:bW P u=false)(hu:P.underlying u=some (.int k))(hz:cj r=some z)(hr:0<r.size)
  (ho:aG r.isAgg r.size z=true) (hn:0<n) (h1:n*r.bytes≤2^44) (h2:n≤2^44) :
  (fE P nm t u (.lit cK) (int n)).run hp=some ⟨.bq r.size nm n 0 n none,[(nm,.arr true true false (List.replicate n z))]⟩:=by
 have dN:(List.replicate n z).isEmpty=false:=by cases n with
  |zero=>omega
  |succ n=>rfl
 have bg:(List.replicate n z).all (aG r.isAgg r.size)=true:=by simp[ho]
 simp only[fE,yP,wi,gL,hu,hz,rM,RM.run_bind,h1,h2,and_self,if_true,RM.run_pure,Option.bind_some,Option.isSome_some,hr,bg,decide_true,Bool.and_self,dN,List.length_replicate]
theorem FP[ab]{k n:Nat}{xs:List AV}{esz:Nat}{cap:Option Nat}{g f:Bool}(h:(RM.arr n xs.length).run hp=some (g,true,f,xs)):(aX (k+1) (.bq esz n xs.length 0 xs.length cap)).run hp=some (.sl xs):=by
 simp[aX,RM.run_bind,h,RM.run_pure]
def wc:AV→AV
 |.lit (.slice none 0 0)=>.sl []
 |x=>x
theorem Aq{E:Env}{o:Bool}{x:AV}{v:Value}(h:ai E o x v):ai E o (wc x) v:=by
 unfold wc
 split
 ·grind[ai]
 ·exact h
theorem yB[ab]{E:Env}{c:Array Value}{esz:Nat}:∀ {xs:List AV} {pos:Nat},dR E xs c pos esz→dR E (xs.map wc) c pos esz
 |[],_,_=>by simp[dR]
 |x::xs,pos,h=>by
  simp only[dR,List.map_cons]at h ⊢
  obtain⟨⟨v,h1,h2⟩,h3⟩:=h
  exact⟨⟨v,Aq h1,h2⟩,yB h3⟩
theorem It[ab]{E:Env}{o:Bool}{xs:List AV}{v:Value}(h:ai E o (.sl xs) v):ai E o (.sl (xs.map wc)) v:=by
 simp only[ai,List.length_map]at h ⊢
 obtain⟨a,cap,h1,h2,h3,h4⟩:=h
 refine⟨a,cap,h1,h2,h3,?_⟩
 rcases h4 with h4|⟨b,of,esz,c,h5,h6,h7⟩
 ·left; rw[h4]; rfl
 ·exact .inr ⟨b,of,esz,c,h5,h6,yB h7⟩
def we:List AV→Option (List (List AV))
 |[]=>some []
 |.sl l::xs=>(we xs).map fun r=>l::r
 |_::_=>none
theorem DY:∀ {xs:List AV} {ls:List (List AV)},we xs=some ls→xs=ls.map .sl
 |[],ls,h=>by simp[we]at h; subst h; rfl
 |x::xs,ls,h=>by
  unfold we at h
  split at h
  ·rename_i hh; simp at hh
  ·rename_i l xs' hh
   simp only[List.cons.injEq]at hh
   obtain⟨rfl,rfl⟩:=hh
   simp only[Option.map_eq_some_iff]at h
   obtain⟨r,h1,rfl⟩:=h
   rw[DY h1]; rfl
  ·simp at h
def XI(r:bG):List AV→Option AV
 |[.sl xs]=>if xs.all (aG r.isAgg r.size)=true∧xs.length*r.bytes≤2^44∧xs.length≤2^44 then some (.sl xs) else none
 |[.lit (.slice none 0 0)]=>some (.sl [])
 |_=>none
def mB(r:bG):List AV→Option AV
 |[.sl es]=>(match we (es.map wc) with
  |some ls=>if ls.length≤2^44∧ls.flatten.all (aG r.isAgg r.size)=true∧ls.flatten.length*r.bytes≤2^44∧ls.flatten.length≤2^44 then some (.sl ls.flatten) else none
  |none=>none)
 |[.lit (.slice none 0 0)]=>some (.sl [])
 |_=>none
theorem DZ[ab]{C0:Ctx}(bL:C0.Ok){g:FuncId}{xs:List AV}{r:AV}
  (h0:∃ res hX,kv C0 g [.sl xs] []=some (.val res,hX)∧(aX 1000 res).run hX=some r)
  (Ec:Env) (w:World) (vs:List Value) (hI:Inv Ec [] w) (ha:an Ec false [.sl xs] vs):Calls C0.P g vs.toArray w (bP Ec w [] (.val r)):=by
 obtain⟨res,hX,he,h⟩:=h0
 have out:(gl [.sl xs] hX (.val res)).run []=some (.val r,[]):=by
  simp only[gl,h]
  split
  ·rfl
  ·simp[ck,names,dM,RM.run_bind,RM.run_pure]
 have ha2:an Ec true [.sl xs] vs:=by
  match vs,ha with
  |[],ha=>simp[an]at ha
  |_::_::_,ha=>simp[an]at ha
  |[v],ha=>
   simp only[an]at ha ⊢
   exact⟨ai.iu ha.1,trivial⟩
 obtain⟨k,hk⟩:=(bh (mi C0 g [.sl xs] [])).1 he
 have nt:(aN 1000 [.sl xs]).run []=some [.sl xs]:=rfl
 refine uq hI ha2 nt out fun Ec' ig Om=>?_
 refine(sound bL k).1 g [.sl xs] [] _ _ hk Ec' w vs ig ?_
 match vs,Om with
 |[],ha=>simp[an]at ha
 |_::_::_,ha=>simp[an]at ha
 |[v],ha=>
  simp only[an]at ha ⊢
  exact⟨ai.iu ha.1,trivial⟩
theorem Ij[ab]{C0:Ctx}(bL:C0.Ok){g:FuncId}{r:bG}
  (h1:∀ ls:List (List AV),ls.length≤2^44→(∀ l∈ls,l.all (aG r.isAgg r.size)=true)→ls.flatten.length*r.bytes≤2^44→ls.flatten.length≤2^44 →
    ∃ res hX,kv C0 g [.sl (ls.map .sl)] []=some (.val res,hX)∧(aX 1000 res).run hX=some (.sl ls.flatten))
  {as:List AV} {a:AV} (h:mB r as=some a) (Ec:Env) (w:World) (vs:List Value) (hI:Inv Ec [] w) (ha:an Ec false as vs):Calls C0.P g vs.toArray w (bP Ec w [] (.val a)):=by
 unfold mB at h
 split at h
 ·rename_i es
  split at h
  case h_2=>simp at h
  rename_i ls hls
  split at h
  case isFalse=>simp at h
  rename_i hc
  simp only[Option.some.injEq]at h
  subst h
  have he:=DY hls
  refine DZ bL (xs:=ls.map .sl) (h1 ls hc.1 (fun l hl=>?_) hc.2.2.1 hc.2.2.2) Ec w vs hI ?_
  ·have:=hc.2.1
   rw[List.all_eq_true]at this ⊢
   exact fun x hx=>this x (List.mem_flatten.2 ⟨l,hl,hx⟩)
  ·rw[←he]
   match vs,ha with
   |[],ha=>simp[an]at ha
   |_::_::_,ha=>simp[an]at ha
   |[v],ha=>
    simp only[an]at ha ⊢
    exact⟨It ha.1,trivial⟩
 ·simp only[Option.some.injEq]at h
  subst h
  refine DZ bL (xs:=[]) (h1 [] (by simp) (by simp) (by simp) (by simp)) Ec w vs hI ?_
  match vs,ha with
  |[],ha=>simp[an]at ha
  |_::_::_,ha=>simp[an]at ha
  |[v],ha=>
   simp only[an]at ha ⊢
   exact⟨Aq ha.1,trivial⟩
 ·simp at h
end Go.PI
end
section
/- PS, part V: copies of lists and lists laid together, as models. -/
namespace Go.PI
def Kp(b n:Nat):Bool:=decide (n*b≤2^44)&&decide (n≤2^44)
def tu{α:Type}(b:Nat)(x:List (List α)):Option (List α):=bif decide (x.length≤2^44)&&Kp b x.flatten.length then some x.flatten else none
def XJ{α:Type}(rpe:α→AV→Prop)(x:List α)(a:AV):Prop:=(∃ l,a=.sl l∧aw rpe x l)∨(x=[]∧a=.lit cK)
theorem yC[ab]{α:Type}{rpe:α→AV→Prop}:∀ {x:List (List α)} {es:List AV},aw (XJ rpe) x es→∃ ls,we (es.map wc)=some ls∧aw (aw rpe) x ls
 |[],es,h=>by
  have:=h.C8
  subst this
  exact⟨[],rfl,trivial⟩
 |x::xs,[],h=>by simp[aw]at h
 |x::xs,e::es,h=>by
  simp only[aw]at h
  obtain⟨h1,h2⟩:=h
  obtain⟨ls,h3,h4⟩:=yC h2
  rcases h1 with ⟨l,rfl,h⟩|⟨rfl,rfl⟩
  ·refine⟨l::ls,?_,h,h4⟩
   simp only[List.map_cons,wc,we,h3,Option.map_some]
  ·refine⟨[]::ls,?_,trivial,h4⟩
   simp only[List.map_cons,wc,we,h3,Option.map_some]
theorem tS[ab]{α:Type}{rpe:α→AV→Prop}:∀ {x:List (List α)} {ls:List (List AV)},aw (aw rpe) x ls→aw rpe x.flatten ls.flatten
 |[],ls,h=>by
  have:=h.C8
  subst this
  exact trivial
 |x::xs,[],h=>by simp[aw]at h
 |x::xs,e::es,h=>by
  simp only[aw]at h
  simp only[List.flatten_cons]
  exact h.1.append (tS h.2)
theorem FK[ab]{α:Type}{rpe:α→AV→Prop}{r:bG}(bL:∀ x a,rpe x a→aG r.isAgg r.size a=true){x:List (List α)}{y:List α}{a:AV}(ha:XJ (XJ rpe) x a)(hy:tu r.bytes x=some y):
  ∃ l,mB r [a]=some (.sl l)∧aw rpe y l:=by
 unfold tu Kp at hy
 cases hq:decide (x.length≤2^44)&&(decide (x.flatten.length*r.bytes≤2^44)&&decide (x.flatten.length≤2^44))
 ·rw[hq]at hy; simp at hy
 rw[hq]at hy
 simp only[cond_true,Option.some.injEq]at hy
 subst hy
 simp only[Bool.and_eq_true,decide_eq_true_eq]at hq
 rcases ha with ⟨es,rfl,h⟩|⟨rfl,rfl⟩
 ·obtain⟨ls,h1,h2⟩:=yC h
  have h3:=tS h2
  rw[h3.length,h2.length]at hq
  refine⟨ls.flatten,?_,h3⟩
  unfold mB
  simp only
  rw[h1]
  simp only
  have bg:ls.flatten.all (aG r.isAgg r.size)=true:=by
   refine List.all_eq_true.2 fun z hz=>?_
   obtain⟨i,hi⟩:=List.getElem?_of_mem hz
   obtain⟨u,_,hu⟩:=h3.get' hi
   exact bL _ _ hu
  rw[if_pos ⟨hq.1,bg,hq.2.1,hq.2.2⟩]
 ·exact⟨[],rfl,trivial⟩
theorem FJ[ab]{C:Ctx}{T:dw}{g:FuncId}{t u:Nat}{I:List AV→Option AV}{F:T.den t→Option (T.den u)}(hk:C.kind g=.pure)(hi:C.kp g=some I)
  (h:∀ x a y,T.rp t x a→F x=some y→∃ l,I [a]=some (.sl l)∧T.rp u y (.sl l)):pZ C T g ⟨[t],[u],F⟩ where
 kind:=hk
 Rf:=by
  intro x as y hx hy
  match as,hx with
  |[],hx=>exact False.elim hx
  |_::_::_,hx=>exact False.elim hx.2
  |[a],hx=>
   obtain⟨l,h1,h2⟩:=h x a y hx.1 hy
   refine⟨.sl l,[],[.sl l],?_,rfl,rfl,?_⟩
   ·simp only[K7,hi,h1]; rfl
   ·exact⟨h2,trivial⟩
end Go.PI
end
section
/- PS, part W: a copy of a slice is the caller's own. -/
namespace Go.PI
end Go.PI
end
section
/- Plain laws: loops of models. -/
namespace Go.Pl
open Go.PI
theorem next[ab]{τ ω:Type}{f:τ→Option (τ ⊕ ω)}{x y:τ}(h:f x=some (.inl y)):aL f x=aL f y:=by
 rw[CL,h]; rfl
theorem out[ab]{τ ω:Type}{f:τ→Option (τ ⊕ ω)}{x:τ}{w:ω}(h:f x=some (.inr w)):aL f x=some w:=by
 rw[CL,h]; rfl
theorem xH(p:Nat→Bool)(n i:Nat)(hi:i<n):(List.range' i (n-i)).all p=(p i&&(List.range' (i+1) (n-(i+1))).all p):=by
 grind
theorem tn[ab]{τ ω:Type}{f:τ→Option (τ ⊕ ω)}(st:Nat→τ)(p:Nat→Bool)(bad:Nat→ω)(n:Nat)(e:ω)
  (h:∀ i,i<n→f (st i)=some (bif p i then .inl (st (i+1)) else .inr (bad i))) (he:f (st n)=some (.inr e)) :
  (List.range n).all p=true∧aL f (st 0)=some e∨(List.range n).all p=false∧∃ i,i<n∧p i=false∧aL f (st 0)=some (bad i):=by
 have key:∀ m i,m=n-i→i≤n→(List.range' i (n-i)).all p=true∧aL f (st i)=some e∨(List.range' i (n-i)).all p=false∧∃ j,j<n∧p j=false∧aL f (st i)=some (bad j):=by
  intro m
  induction m with
  |zero=>
   intro i hm hi
   have:i=n:=by omega
   subst this
   left
   rw[Nat.sub_self]
   exact⟨rfl,out he⟩
  |succ m ih=>
   intro i hm hi
   have bQ:i<n:=by omega
   have hs:=h i bQ
   rw[xH p n i bQ]
   cases hp:p i with
   |false=>
    rw[hp]at hs
    right
    exact⟨by simp,i,bQ,hp,out hs⟩
   |true=>
    rw[hp]at hs
    rw[next hs]
    simpa using ih (i+1) (by omega) (by omega)
 have:=key n 0 rfl (Nat.zero_le _)
 rwa [Nat.sub_zero,←List.range_eq_range']at this
theorem zW{α:Type}{l:List α}{q:α→Bool}{p:Nat→Bool}(h:∀ i (hi:i<l.length),p i=q l[i]):(List.range l.length).all p=l.all q:=by
 rw[Bool.eq_iff_iff,List.all_eq_true,List.all_eq_true]
 constructor
 ·intro hp x hx
  obtain⟨i,hi,rfl⟩:=List.getElem_of_mem hx
  rw[←h i hi]; exact hp i (List.mem_range.2 hi)
 ·simp_all
theorem uB[ab]{α τ ω:Type}{f:τ→Option (τ ⊕ ω)}(l:List α)(st:Nat→τ)(q:α→Bool)(bad e:ω){x0:τ}
  (h:∀ i (hi:i<l.length),f (st i)=some (bif q l[i] then .inl (st (i+1)) else .inr bad)) (he:f (st l.length)=some (.inr e)) (hx:x0=st 0) :
  aL f x0=some (bif l.all q then e else bad):=by
 subst hx
 have hp:∀ i (hi:i<l.length),(fun i=>(l[i]?.map q).getD false) i=q l[i]:=by
  simp_all
 rcases tn st (fun i=>(l[i]?.map q).getD false) (fun _=>bad) l.length e (fun i hi=>by have:=hp i hi; simp only at this; rw[this]; exact h i hi) he with ⟨h1,h2⟩|⟨h1,i,_,_,h2⟩
 ·rw[zW hp]at h1; rw[h2,h1]; rfl
 ·rw[zW hp]at h1; rw[h2,h1]; rfl
end Go.Pl
end
section
/- The types of this seat, as Lean's (printed by gen_tys.py out of the dump). -/
namespace Go.Proofs.Ytedjbjphpnkpoaa
open Go.PI
instance:ab:=⟨fun _=>none,fun _=>false⟩
structure dV where
 A:Bool
 N:Int
structure bN where
 aA:List Int
 af:List (List Int)
 aH:List Int
structure aj where
 du:Int
 Den:Int
structure cb where
 Net:bN
 CQ:List Bool
 CR:List aj
def den:Nat→Type
 |2=>Int
 |3=>Int
 |4=>Bool
 |5=>Int
 |9=>ByteArray
 |22=>List Int
 |23=>List (List Int)
 |24=>bN
 |25=>bN
 |26=>List aj
 |29=>Int
 |34=>aj
 |35=>aj
 |36=>List Int
 |53=>List Bool
 |54=>cb
 |55=>cb
 |56=>List dV
 |57=>Int
 |58=>Int
 |73=>Int
 |78=>Int
 |81=>dV
 |82=>dV
 |86=>aj
 |87=>aj
 |96=>Int
 |104=>Int
 |106=>Int
 |115=>Int
 |52=>cb
 |_=>Unit
abbrev V:=SV den
def up2(x:Int):V:=.lit (.int .i64 x)
def dn2(v:V):Option Int:=dI .i64 v
def rp2(x:Int)(a:AV):Prop:=a=.lit (.int .i64 x)
def Tl(x:Int):V:=.lit (.int .i64 x)
def Mt(v:V):Option Int:=dI .i64 v
def Ms(x:Int)(a:AV):Prop:=a=.lit (.int .i64 x)
def up4(x:Bool):V:=.lit (.bool x)
def YQ(v:V):Option Bool:=dB v
def YR(x:Bool)(a:AV):Prop:=a=.lit (.bool x)
def up5(x:Int):V:=.lit (.int .u8 x)
def dn5(v:V):Option Int:=dI .u8 v
def rp5(x:Int)(a:AV):Prop:=a=.lit (.int .u8 x)
def up9(x:ByteArray):V:=.lit (.string x)
def dn9(v:V):Option ByteArray:=dS v
def rp9(x:ByteArray)(a:AV):Prop:=a=.lit (.string x)
def W5(x:List Int):V:=.jr 3 x
def Ip(v:V):Option (List Int):=OP (den:=den) 3 Mt v
def DU(x:List Int)(a:AV):Prop:=NH Ms x a
def W6(x:List (List Int)):V:=.jr 22 x
def QK(v:V):Option (List (List Int)):=OP (den:=den) 22 Ip v
def N4(x:List (List Int))(a:AV):Prop:=NH DU x a
def N5(x:bN):V:=.agg [.jr 3 x.aA,.jr 22 x.af,.jr 3 x.aH]
def N6:V→Option bN
 |.agg [a0,a1,a2]=>(Ip a0).bind fun b0=>(QK a1).bind fun b1=>(Ip a2).bind fun b2=>some ⟨b0,b1,b2⟩
 |_=>none
def Iq(x:bN)(a:AV):Prop:=∃ a0 a1 a2,DU x.aA a0∧N4 x.af a1∧DU x.aH a2∧a=.agg [a0,a1,a2]
def N7(x:aj):V:=.agg [.lit (.int .i64 x.du),.lit (.int .i64 x.Den)]
def Lz:V→Option aj
 |.agg [a0,a1]=>(Mt a0).bind fun b0=>(Mt a1).bind fun b1=>some ⟨b0,b1⟩
 |_=>none
def DV(x:aj)(a:AV):Prop:=a=.agg [.lit (.int .i64 x.du),.lit (.int .i64 x.Den)]
def W7(x:List aj):V:=.jr 35 x
def Tm(v:V):Option (List aj):=OP (den:=den) 35 Lz v
def Tn(x:List aj)(a:AV):Prop:=NH DV x a
def W8(x:Int):V:=.lit (.int .u16 x)
def To(v:V):Option Int:=dI .u16 v
def N8(x:Int)(a:AV):Prop:=a=.lit (.int .u16 x)
def W9(x:List Int):V:=.jr 73 x
def Xa(v:V):Option (List Int):=OP (den:=den) 73 To v
def Tp(x:List Int)(a:AV):Prop:=NH N8 x a
def Xb(x:List Bool):V:=.jr 4 x
def Tq(v:V):Option (List Bool):=OP (den:=den) 4 YQ v
def Ts(x:List Bool)(a:AV):Prop:=NH YR x a
def LA(x:cb):V:=.agg [.jr 3 x.Net.aA,.jr 22 x.Net.af,.jr 3 x.Net.aH,.jr 4 x.CQ,.jr 35 x.CR]
def LB:V→Option cb
 |.agg [a0,a1,a2,a3,a4]=>(Ip a0).bind fun b0=>(QK a1).bind fun b1=>(Ip a2).bind fun b2=>(Tq a3).bind fun b3=>(Tm a4).bind fun b4=>some ⟨⟨b0,b1,b2⟩,b3,b4⟩
 |_=>none
def Ir(x:cb)(a:AV):Prop:=∃ a0 a1 a2 a3 a4,DU x.Net.aA a0∧N4 x.Net.af a1∧DU x.Net.aH a2∧Ts x.CQ a3∧Tn x.CR a4∧a=.agg [a0,a1,a2,a3,a4]
def N9(x:dV):V:=bif x.A then .gg 57 (.lit (.int .i64 x.N)) else .gg 58 (.lit (.int .i64 x.N))
def LC(v:V):Option dV:=match v with
 |.gg t w=>(dI .i64 w).bind fun n=>bif Nat.beq t 57 then some ⟨true,n⟩ else bif Nat.beq t 58 then some ⟨false,n⟩ else none
 |_=>none
def DW(x:dV)(a:AV):Prop:=a=.gg (bif x.A then 57 else 58) (.lit (.int .i64 x.N))
def Xc(x:List dV):V:=.jr 82 x
def Xd(v:V):Option (List dV):=OP (den:=den) 82 LC v
def Xe(x:List dV)(a:AV):Prop:=NH DW x a
def Xf(x:Int):V:=.lit (.int .u64 x)
def Xg(v:V):Option Int:=dI .u64 v
def Xh(x:Int)(a:AV):Prop:=a=.lit (.int .u64 x)
def Oa(x:aj):V:=.agg [.lit (.int .i64 x.du),.lit (.int .i64 x.Den)]
def Ob:V→Option aj
 |.agg [a0,a1]=>(Mt a0).bind fun b0=>(Mt a1).bind fun b1=>some ⟨b0,b1⟩
 |_=>none
def FO(x:aj)(a:AV):Prop:=a=.agg [.lit (.int .i64 x.du),.lit (.int .i64 x.Den)]
def Tt(x:Int):V:=.lit (.int .u32 x)
def Tu(v:V):Option Int:=dI .u32 v
def Tv(x:Int)(a:AV):Prop:=a=.lit (.int .u32 x)
def O6(x:Int):V:=.lit (.int .u64 x)
def O7(v:V):Option Int:=dI .u64 v
def O8(x:Int)(a:AV):Prop:=a=.lit (.int .u64 x)
def Xi(x:cb):V:=.bf (LA x) 0
def Xj(v:V):Option cb:=VY LB v
def Xk(x:cb)(a:AV):Prop:=Uv Ir x a
def up:(t:Nat)→den t→V
 |2,x=>up2 x
 |3,x=>Tl x
 |4,x=>up4 x
 |5,x=>up5 x
 |9,x=>up9 x
 |22,x=>W5 x
 |23,x=>W6 x
 |24,x=>N5 x
 |25,x=>N5 x
 |26,x=>W7 x
 |29,x=>Tl x
 |34,x=>N7 x
 |35,x=>N7 x
 |36,x=>W9 x
 |53,x=>Xb x
 |54,x=>LA x
 |55,x=>LA x
 |56,x=>Xc x
 |57,x=>Tl x
 |58,x=>Tl x
 |73,x=>W8 x
 |78,x=>Xf x
 |81,x=>N9 x
 |82,x=>N9 x
 |86,x=>Oa x
 |87,x=>Oa x
 |96,x=>Tl x
 |104,x=>Tt x
 |106,x=>O6 x
 |115,x=>O6 x
 |52,x=>Xi x
 |_,_=>.dead
def dn:(t:Nat)→V→Option (den t)
 |2,v=>dn2 v
 |3,v=>Mt v
 |4,v=>YQ v
 |5,v=>dn5 v
 |9,v=>dn9 v
 |22,v=>Ip v
 |23,v=>QK v
 |24,v=>N6 v
 |25,v=>N6 v
 |26,v=>Tm v
 |29,v=>Mt v
 |34,v=>Lz v
 |35,v=>Lz v
 |36,v=>Xa v
 |53,v=>Tq v
 |54,v=>LB v
 |55,v=>LB v
 |56,v=>Xd v
 |57,v=>Mt v
 |58,v=>Mt v
 |73,v=>To v
 |78,v=>Xg v
 |81,v=>LC v
 |82,v=>LC v
 |86,v=>Ob v
 |87,v=>Ob v
 |96,v=>Mt v
 |104,v=>Tu v
 |106,v=>O7 v
 |115,v=>O7 v
 |52,v=>Xj v
 |_,_=>none
def rp:(t:Nat)→den t→AV→Prop
 |2,x,a=>rp2 x a
 |3,x,a=>Ms x a
 |4,x,a=>YR x a
 |5,x,a=>rp5 x a
 |9,x,a=>rp9 x a
 |22,x,a=>DU x a
 |23,x,a=>N4 x a
 |24,x,a=>Iq x a
 |25,x,a=>Iq x a
 |26,x,a=>Tn x a
 |29,x,a=>Ms x a
 |34,x,a=>DV x a
 |35,x,a=>DV x a
 |36,x,a=>Tp x a
 |53,x,a=>Ts x a
 |54,x,a=>Ir x a
 |55,x,a=>Ir x a
 |56,x,a=>Xe x a
 |57,x,a=>Ms x a
 |58,x,a=>Ms x a
 |73,x,a=>N8 x a
 |78,x,a=>Xh x a
 |81,x,a=>DW x a
 |82,x,a=>DW x a
 |86,x,a=>FO x a
 |87,x,a=>FO x a
 |96,x,a=>Ms x a
 |104,x,a=>Tv x a
 |106,x,a=>O8 x a
 |115,x,a=>O8 x a
 |52,x,a=>Xk x a
 |_,_,_=>False
def Tx:Nat→Bool
 |24=>true
 |25=>true
 |34=>true
 |35=>true
 |54=>true
 |55=>true
 |86=>true
 |87=>true
 |_=>false
def O9:Nat→Nat
 |24=>3
 |25=>3
 |34=>2
 |35=>2
 |54=>5
 |55=>5
 |86=>2
 |87=>2
 |_=>1
def Pa:(t:Nat)→Option (den t)
 |2=>some (0:Int)
 |3=>some (0:Int)
 |4=>some (false:Bool)
 |5=>some (0:Int)
 |9=>some (ByteArray.empty:ByteArray)
 |22=>some ([]:List Int)
 |23=>some ([]:List (List Int))
 |24=>some (⟨[],[],[]⟩:bN)
 |25=>some (⟨[],[],[]⟩:bN)
 |26=>some ([]:List aj)
 |29=>some (0:Int)
 |34=>some (⟨0,0⟩:aj)
 |35=>some (⟨0,0⟩:aj)
 |36=>some ([]:List Int)
 |53=>some ([]:List Bool)
 |54=>some (⟨⟨[],[],[]⟩,[],[]⟩:cb)
 |55=>some (⟨⟨[],[],[]⟩,[],[]⟩:cb)
 |56=>some ([]:List dV)
 |57=>some (0:Int)
 |58=>some (0:Int)
 |73=>some (0:Int)
 |78=>some (0:Int)
 |86=>some (⟨0,0⟩:aj)
 |87=>some (⟨0,0⟩:aj)
 |96=>some (0:Int)
 |104=>some (0:Int)
 |106=>some (0:Int)
 |115=>some (0:Int)
 |_=>none
def m5:jX:=⟨false,1,1,some (.lit (.int .u8 0)),.other,none,none⟩
def m7:jX:=⟨true,4,24,some (.agg [zI,zI,zB,.lit (.int .u8 0)]),.struct [(0,2),(1,3),(2,4),(3,6)],none,none⟩
def UM:jX:=⟨false,1,8,some (.lit (.int .u64 0)),.other,none,none⟩
def YS:jX:=⟨true,2,24,some (.agg [zS,.lit (.int .u64 0)]),.struct [(0,9),(1,12)],none,none⟩
def YT:jX:=⟨true,1,8,some (.agg [.lit (.pointer none)]),.struct [(0,17)],none,none⟩
def Xl:jX:=⟨false,1,16,some (.lit .nilIface),.iface,none,none⟩
def Xm:jX:=⟨false,1,4,some (.lit (.int .i32 0)),.other,none,none⟩
def YU:jX:=⟨true,3,72,some (.agg [zL,zL,zL]),.struct [(0,22),(1,23),(2,22)],none,none⟩
def YV:jX:=⟨true,2,16,some (.agg [zI,zI]),.struct [(0,3),(1,3)],some [kI,kI],none⟩
def YW:jX:=⟨true,5,120,some (.agg [zL,zL,zL,zL,zL]),.struct [(0,25),(3,53),(4,26)],none,none⟩
def YX:jX:=⟨true,2,16,some (.agg [zI,zI]),.struct [(0,35)],some [kI,kI],none⟩
def Ty:jX:=⟨true,4,40,some (.agg [.lit (.pointer none),.lit (.pointer none),.lit (.pointer none),zS]),.struct [(0,17),(1,17),(2,17),(3,9)],none,none⟩
def Tz:jX:=⟨true,11,48,some (.agg [.lit (.int .u64 0),.lit (.int .u64 0),.lit (.int .u32 0),.lit (.int .u8 0),.lit (.int .u8 0),.lit (.int .u8 0),.lit (.int .u8 0),zF,.lit (.pointer none),.lit (.int .i32 0),.lit (.int .i32 0)]),.struct [(0,12),(1,12),(2,104),(3,135),(4,5),(5,5),(6,136),(7,137),(8,138),(9,139),(10,140)],none,none⟩
def Bl:List (Nat×jX):=[
 (1,mF),
 (2,mI),
 (3,mI),
 (4,⟨false,1,1,some zB,.other,none,none⟩),
 (5,m5),
 (6,m5),
 (7,m7),
 (8,m7),
 (9,mS),
 (10,mS),
 (11,mS),
 (12,UM),
 (13,YS),
 (14,YS),
 (15,mP),
 (16,mP),
 (17,mP),
 (18,YT),
 (19,YT),
 (20,Xl),
 (21,Xm),
 (22,mL 3),
 (23,mL 22),
 (24,YU),
 (25,YU),
 (26,mL 35),
 (27,mF),
 (28,mF),
 (29,mI),
 (31,mF),
 (32,mF),
 (33,mF),
 (34,YV),
 (35,YV),
 (36,mL 73),
 (37,mF),
 (38,mF),
 (40,mF),
 (41,mF),
 (42,mF),
 (44,mF),
 (45,mF),
 (46,mF),
 (47,mF),
 (48,mF),
 (49,mF),
 (50,mF),
 (51,mF),
 (52,mP),
 (53,mL 4),
 (54,YW),
 (55,YW),
 (56,mL 82),
 (57,mI),
 (58,mI),
 (59,mF),
 (60,mF),
 (62,mF),
 (63,mF),
 (64,mF),
 (65,mF),
 (66,mF),
 (67,mF),
 (68,mF),
 (69,mF),
 (70,mF),
 (71,mF),
 (72,mF),
 (73,⟨false,1,2,some (.lit (.int .u16 0)),.other,none,none⟩),
 (75,mF),
 (76,mF),
 (77,mF),
 (78,UM),
 (79,mF),
 (80,mF),
 (81,Xl),
 (82,Xl),
 (83,mF),
 (84,mF),
 (85,mF),
 (86,YX),
 (87,YX),
 (88,mF),
 (89,mF),
 (90,mF),
 (91,mF),
 (92,mF),
 (93,mF),
 (94,mF),
 (95,mF),
 (96,mI),
 (98,mF),
 (99,mF),
 (100,mF),
 (102,mF),
 (103,mF),
 (104,⟨false,1,4,some (.lit (.int .u32 0)),.other,none,none⟩),
 (105,mF),
 (106,UM),
 (107,mF),
 (108,mF),
 (109,mF),
 (110,mF),
 (111,mF),
 (112,mF),
 (113,mF),
 (114,mF),
 (115,UM),
 (116,mF),
 (117,mF),
 (118,mF),
 (119,mP),
 (120,mF),
 (121,mF),
 (122,mF),
 (124,mF),
 (125,mP),
 (126,mF),
 (127,mF),
 (128,mF),
 (129,Ty),
 (130,Ty),
 (134,mF),
 (135,m5),
 (136,m5),
 (137,mF),
 (138,mP),
 (139,Xm),
 (140,Xm),
 (141,Tz),
 (142,Tz)]
def QL:(t:Nat)→Option ((den t→Bool)×(den t→V)×(den t→V))
 |81=>some (fun (x:dV)=>x.A,fun (x:dV)=>.gg 57 (.lit (.int .i64 x.N)),fun (x:dV)=>.gg 58 (.lit (.int .i64 x.N)))
 |82=>some (fun (x:dV)=>x.A,fun (x:dV)=>.gg 57 (.lit (.int .i64 x.N)),fun (x:dV)=>.gg 58 (.lit (.int .i64 x.N)))
 |_=>none
abbrev T:dw:=⟨den,up,dn,rp,Tx,O9,Pa,QL⟩
end Go.Proofs.Ytedjbjphpnkpoaa
end
