/- Part 4 of the proof: texts of this session laid one behind the other. -/
import Derived.KernelRfl
import Derived.IntWalk
import Derived.Test.YtedjbjphpnkpoaaX3
set_option linter.unusedVariables false
set_option linter.unusedSimpArgs false
section
/- PS, part O: a state goes over into one with variables. -/
namespace Go.PI
variable {T:dm}{ρ:Type}
section
variable {H0 Hs Hf:ah T.den}
mutual
theorem R.dX(ht:∀ n c v0 aq,fH H0 n c v0→fH Hs n c aq→fH Hf n c aq)(hx:∀ (n:Nat) (o:aC T.den),H0[n]?=some (some o)→∃ o,Hf[n]?=some (some o)):∀ {v:SV T.den} {a0 a:AV},R T H0 v a0→R T Hs v a→R T Hf v a
 |.dead,_,_,h,_=>by simp[R]at h
 |.hole,a0,a,_,h=>by simpa[R] using h
 |.lit v,a0,a,_,h=>by simpa[R] using h
 |.agg l,a0,a,h0,h=>by
  simp only[R]at h0 h ⊢
  obtain⟨l0,_,h2⟩:=h0
  obtain⟨l',h1,h3⟩:=h
  exact⟨l',h1,RL.dX ht hx h2 h3⟩
 |.jj l,a0,a,h0,h=>by
  simp only[R]at h0 h ⊢
  obtain⟨l0,_,h2⟩:=h0
  obtain⟨l',h1,h3⟩:=h
  exact⟨l',h1,RL.dX ht hx h2 h3⟩
 |.sl l,a0,a,h0,h=>by
  simp only[R]at h0 h ⊢
  obtain⟨l0,_,h2,_⟩:=h0
  obtain⟨l',h1,h3,h4⟩:=h
  exact⟨l',h1,RL.dX ht hx h2 h3,h4⟩
 |.ji t l,a0,a,_,h=>by simpa[R] using h
 |.wC t l c b,a0,a,_,h=>by simp only[R]at h ⊢; exact h
 |.nz,a0,a,_,h=>by simp only[R]at h ⊢; exact h
 |.bc e j,a0,a,h0,h=>by
  simp only[R]at h0 h ⊢
  obtain⟨l0,_,h2,_⟩:=h0
  obtain⟨l',h1,h3,h4⟩:=h
  exact⟨l',h1,R.dX ht hx h2 h3,h4⟩
 |.ref m c i j,a0,a,h0,h=>by
  grind[R]
 |.iI m c i j ln cp,a0,a,h0,h=>by
  grind[R]
 |.bp esz m c rg cap,a0,a,h0,h=>by
  grind[R]
 |.iK fn f c,a0,a,h0,h=>by
  simp only[R]at h0 h ⊢
  obtain⟨_,_,_,g1,g2⟩:=h0
  obtain⟨f',c',h1,h2,h3⟩:=h
  exact⟨f',c',h1,RL.dX ht hx g1 h2,RL.dX ht hx g2 h3⟩
 |.fZ t v,a0,a,h0,h=>by
  simp only[R]at h0 h ⊢
  obtain⟨l0,_,h2⟩:=h0
  obtain⟨l',h1,h3⟩:=h
  exact⟨l',h1,R.dX ht hx h2 h3⟩
 |.mp y n,a0,a,h0,h=>by
  grind[R]
 |.sy v s l i,a0,a,h0,h=>by
  simp only[R]at h0 h ⊢
  obtain⟨b0,h2,_⟩:=h0
  obtain⟨b,h3,h4⟩:=h
  exact⟨b,R.dX ht hx h2 h3,h4⟩
theorem RL.dX(ht:∀ n c v0 aq,fH H0 n c v0→fH Hs n c aq→fH Hf n c aq)(hx:∀ (n:Nat) (o:aC T.den),H0[n]?=some (some o)→∃ o,Hf[n]?=some (some o)):∀ {l:List (SV T.den)} {m0 m:List AV},RL T H0 l m0→RL T Hs l m→RL T Hf l m
 |[],[],[],_,_=>by simp[RL]
 |x::xs,y0::T3,y::ys,h0,h=>by
  simp only[RL]at h0 h ⊢
  exact⟨R.dX ht hx h0.1 h.1,RL.dX ht hx h0.2 h.2⟩
 |[],_::_,_,h,_=>by simp[RL]at h
 |[],[],_::_,_,h=>by simp[RL]at h
 |_::_,[],_,h,_=>by simp[RL]at h
 |_::_,_::_,[],_,h=>by simp[RL]at h
end
end
theorem kh{Hs:ah T.den}:∀ {objs:List (Nat×cO)} {l:List (TV T.den)},jT Hs objs=some l→∀ q,q∈objs→∃ o ln,Hs[q.1]?=some (some o)∧eb Hs o q.2=some ln
 |[],_,_,q,hq=>by simp at hq
 |(n,p)::r,l,h,q,hq=>by
  simp only[jT]at h
  split at h
  case h_2=>simp at h
  rename_i o ho
  rw[Option.bind_eq_some_iff]at h
  obtain⟨ln,h1,h⟩:=h
  rw[Option.map_eq_some_iff]at h
  obtain⟨l2,h2,rfl⟩:=h
  rcases List.mem_cons.1 hq with rfl|hq
  ·exact⟨o,ln,ho,h1⟩
  ·exact kh h2 q hq
def Bi(p:cO)(c:Nat):Nat:=
 match p with
 |.list _=>c+1
 |_=>c
theorem GF(p:cO)(c:Nat):c≤Bi p c:=by cases p<;>simp[Bi]
theorem Nw{p:cO}(h:∀ t,p≠.list t)(c:Nat):Bi p c=c:=by
 cases p with
 |list t=>exact absurd rfl (h t)
 |_=>rfl
def Start(H:ah T.den)(o:aC T.den)(p:cO):Prop:=(∃ ln,eb H o p=some ln)∨(((∃ q,p=.one q)∨∃ ps,p=.agg ps)∧∃ g cl f c e,o=.arr g cl f c [e])
theorem Dl{Hs:ah T.den}{o:aC T.den}{p:cO}{ln:List (TV T.den)}(h:eb Hs o p=some ln):Compat (mn o p) p∧(mn o p).flags.1=o.flags.1∧(mn o p).flags.2.1=o.flags.2.1∧(mn o p).flags.2.2=o.flags.2.2 ∧
  (mn o p).cur=Bi p o.cur:=by
 cases p with
 |list t=>
  cases o with
  |arr g cl f c es=>
   cases cl with
   |true=>exact⟨⟨g,f,c+1,[],rfl⟩,rfl,rfl,rfl,rfl⟩
   |false=>cases h
  |bU g f c t' l=>exact⟨⟨g,f,c+1,[],rfl⟩,rfl,rfl,rfl,rfl⟩
  |_=>cases h
 |fix t=>
  cases o with
  |arr g cl f c es=>
   cases cl with
   |true=>exact⟨⟨g,f,c,[],rfl⟩,rfl,rfl,rfl,rfl⟩
   |false=>cases h
  |bU g f c t' l=>exact⟨⟨g,f,c,[],rfl⟩,rfl,rfl,rfl,rfl⟩
  |_=>cases h
 |one q=>
  cases o with
  |arr g cl f c es=>exact⟨⟨g,cl,f,c,es,rfl⟩,rfl,rfl,rfl,rfl⟩
  |_=>cases h
 |agg ps=>
  cases o with
  |arr g cl f c es=>exact⟨⟨g,cl,f,c,es,rfl⟩,rfl,rfl,rfl,rfl⟩
  |_=>cases h
 |map kk t=>
  obtain⟨m,rfl,rfl⟩:=tG h
  exact⟨⟨[],rfl⟩,rfl,rfl,rfl,rfl⟩
theorem yk{Hs:ah T.den}{o:aC T.den}{p:cO}(h:Start Hs o p):Compat (mn o p) p∧(mn o p).flags.1=o.flags.1∧(mn o p).flags.2.1=o.flags.2.1∧(mn o p).flags.2.2=o.flags.2.2 ∧
  (mn o p).cur=Bi p o.cur:=by
 rcases h with ⟨ln,h⟩|⟨⟨q,rfl⟩|⟨ps,rfl⟩,g,cl,f,c,e,rfl⟩
 ·exact Dl h
 ·exact⟨⟨g,cl,f,c,[e],rfl⟩,rfl,rfl,rfl,rfl⟩
 ·exact⟨⟨g,cl,f,c,[e],rfl⟩,rfl,rfl,rfl,rfl⟩
theorem iH:∀ {ext:List oN} {n:Nat} {q:Nat×cO},q∈aZ n ext→∃ i g f t,q=(n+i,.list t)∧ext[i]?=some (.list g f t)
 |[],_,q,h=>by simp[aZ]at h
 |.gT::r,n,q,h=>by
  simp only[aZ]at h
  obtain⟨i,g,f,t,rfl,h2⟩:=iH h
  exact⟨i+1,g,f,t,by rw[show n+1+i=n+(i+1) by omega],by simpa using h2⟩
 |.list g f t::r,n,q,h=>by
  simp only[aZ]at h
  rcases List.mem_cons.1 h with rfl|h
  ·exact⟨0,g,f,t,rfl,rfl⟩
  ·obtain⟨i,g',f',t',rfl,h2⟩:=iH h
   exact⟨i+1,g',f',t',by rw[show n+1+i=n+(i+1) by omega],by simpa using h2⟩
theorem mN[ab]:∀ {ext:List oN} {n:Nat},cY ((aZ n ext).map (·.1))=true
 |[],_=>rfl
 |.gT::r,n=>by simp only[aZ]; exact mN
 |.list g f t::r,n=>by
  simp only[aZ,List.map_cons,cY,Bool.and_eq_true,Bool.not_eq_true',List.contains_eq_mem,decide_eq_false_iff_not]
  refine⟨fun h=>?_,mN⟩
  obtain⟨q,hq,e⟩:=List.mem_map.1 h
  obtain⟨i,_,_,_,rfl,_⟩:=iH hq
  simp only at e
  omega
theorem z9[ab]:∀ {l m:List Nat},cY l=true→cY m=true→(∀ x,x∈l→x∉m)→cY (l++m)=true
 |[],m,_,h,_=>h
 |x::l,m,h,h',hd=>by
  obtain⟨h1,h2⟩:=nodup_cons h
  simp only[List.cons_append,cY,Bool.and_eq_true,Bool.not_eq_true',List.contains_eq_mem,decide_eq_false_iff_not,List.mem_append,not_or]
  exact⟨⟨h1,hd x (by simp)⟩,z9 h2 h' fun y hy=>hd y (List.mem_cons_of_mem _ hy)⟩
theorem tH{H:ah T.den}:∀ {ext:List oN} {n i:Nat} {e:oN},CL H n ext=true→ext[i]?=some e→∃ o,H[n+i]?=some (some o)∧(match e with|.gT=>o.flags.2.1=true|.list g f _=>o.flags=(g,true,f))
 |[],_,i,e,_,h=>by simp at h
 |x::r,n,i,e,hx,h=>by
  simp only[CL,Bool.and_eq_true]at hx
  cases i with
  |zero=>
   grind
  |succ i=>
   simp only[List.getElem?_cons_succ]at h
   obtain⟨o,h1,h2⟩:=tH hx.2 h
   exact⟨o,by rw[show n+(i+1)=n+1+i by omega]; exact h1,h2⟩
theorem oi[ab]:∀ {ext:List oN} {n i:Nat},i<ext.length→(ext[i]?=some .gT∧n+i∉(aZ n ext).map (·.1))∨∃ g f t,ext[i]?=some (.list g f t)∧(n+i,cO.list t)∈aZ n ext
 |[],_,i,h=>by simp at h
 |.gT::r,n,i,h=>by
  cases i with
  |zero=>
   left
   refine⟨rfl,fun hc=>?_⟩
   obtain⟨q,hq,e⟩:=List.mem_map.1 hc
   simp only[aZ]at hq
   obtain⟨j,_,_,_,rfl,_⟩:=iH hq
   simp only at e; omega
  |succ i=>
   rcases oi (n:=n+1) (i:=i) (by simpa using h) with ⟨h1,h2⟩|⟨g,f,t,h1,h2⟩
   ·grind[aZ]
   ·grind[aZ]
 |.list g f t::r,n,i,h=>by
  cases i with
  |zero=>grind[aZ]
  |succ i=>
   rcases oi (n:=n+1) (i:=i) (by simpa using h) with ⟨h1,h2⟩|⟨g',f',t',h1,h2⟩
   ·left
    refine⟨by simpa using h1,?_⟩
    simp only[aZ,List.map_cons,List.mem_cons,not_or]
    exact⟨by omega,by rw[show n+(i+1)=n+1+i by omega]; exact h2⟩
   ·grind[aZ]
theorem HP(hT:T.Ok){o:aC T.den}{H:ah T.den}{a:aL}(h:RO T H o a)(hc:o.flags.2.1=true):(∃ g f es,a=.arr g true f es)∨∃ k vs,a=.ga k vs∧∀ n,cN n vs=true:=by
 cases o with
 |arr g cl f c es=>
  obtain⟨es',rfl,_⟩:=h
  simp only[aC.flags]at hc
  subst hc
  exact .inl ⟨_,_,_,rfl⟩
 |bU g f c t l=>obtain⟨es',rfl,_⟩:=h; exact .inl ⟨_,_,_,rfl⟩
 |gT=>exact h
 |j0 kk t m=>obtain⟨vs,rfl,h⟩:=h; exact .inr ⟨_,_,rfl,fun n=>yh hT h⟩
 |oJ fn ps as bd fr=>simp[aC.flags]at hc
structure HQ(T:dm)(az:List (Nat×oM))(dead:List Nat)(objs:List (Nat×cO))(ext:List oN)(s0 s:bx T.den)(l:List (TV T.den)):Prop where
 QK:cY (az.map (·.1))=true
 T4:cY (objs.map (·.1))=true
 KR:∀ d,d∈az.map (·.1)++dead→d<s0.n
 ka:rZ s0.hp.length az (objs++aZ s0.hp.length ext)=true
 fn:s.fn=s0.fn
 n:s.n=s0.n
 fr:∀ t,t∉az.map (·.1)++dead→cH s.fr t=cH s0.fr t
 hp:∀ n:Nat,n<s0.hp.length→n∉objs.map (·.1)→s.hp[n]?=s0.hp[n]?
 len:s.hp.length=s0.hp.length+ext.length
 flags:qx s0.hp s.hp objs=true
 cur:wF s0.hp s.hp objs=true
 PV:CL s.hp s0.hp.length ext=true
 PW:∀ q,q∈objs→∃ o,s0.hp[q.1]?=some (some o)∧Start s0.hp o q.2
 abs:uH az (objs++aZ s0.hp.length ext) s=some l
theorem Bj{H H':ah T.den}{objs:List (Nat×cO)}(h:qx H H' objs=true){q:Nat×cO}(hq:q∈objs){o o':aC T.den}(h1:H[q.1]?=some (some o))(h2:H'[q.1]?=some (some o')):o.flags=o'.flags:=by
 have:=List.all_eq_true.1 h q hq
 simp only[h1,h2,decide_eq_true_eq]at this
 exact this
theorem Fk{H H':ah T.den}{objs:List (Nat×cO)}(h:wF H H' objs=true){q:Nat×cO}(hq:q∈objs)(hl:∀ t,q.2≠.list t){o o':aC T.den}(h1:H[q.1]?=some (some o))(h2:H'[q.1]?=some (some o')):o.cur=o'.cur:=by
 have:=List.all_eq_true.1 h q hq
 split at this
 ·rename_i t e; exact absurd e (hl t)
 ·simp_all
theorem GG[ab](hT:T.Ok){az:List (Nat×oM)}{dead:List Nat}{objs:List (Nat×cO)}{ext:List oN}{s0 s:bx T.den}{l:List (TV T.den)}(ho:HQ T az dead objs ext s0 s l){XX st:St}(h0:RS T s0 XX)(h:RS T s st):
  RS T { c6 az dead objs ext s0 l with js:=s.js } st∧(c6 az dead objs ext s0 l).hp.length=s.hp.length ∧
  (∀ n:Nat,n<s0.hp.length→n∉objs.map (·.1)→(c6 az dead objs ext s0 l).hp[n]?=s0.hp[n]?) ∧
  (∀ t,t∉az.map (·.1)++dead→cH (c6 az dead objs ext s0 l).fr t=cH s0.fr t) ∧
  (c6 az dead objs ext s0 l).fn=s0.fn∧(c6 az dead objs ext s0 l).n=s0.n ∧
  (∀ q,q∈objs→∃ o0 os of,s0.hp[q.1]?=some (some o0)∧s.hp[q.1]?=some (some os)∧(c6 az dead objs ext s0 l).hp[q.1]?=some (some of)∧of.len=os.len∧of.cur=Bi q.2 o0.cur):=by
 have Oz:=ho.PW
 have bZ:∀ n,n∈objs.map (·.1)→n<s0.hp.length:=by
  grind
 have Ms:∀ n,n∈(aZ s0.hp.length ext).map (·.1)→s0.hp.length≤n:=by
  intro n hn
  obtain⟨q,hq,rfl⟩:=List.mem_map.1 hn
  obtain⟨i,_,_,_,rfl,_⟩:=iH hq
  simp
 have zD:cY ((objs++aZ s0.hp.length ext).map (·.1))=true:=by
  rw[List.map_append]
  exact z9 ho.T4 mN fun x hx hc=>by have:=bZ x hx; have:=Ms x hc; omega
 obtain⟨b1,b2,b3⟩:=sq (objs:=objs) (H:=s0.hp) ho.T4
 generalize Ik:ra s0.hp objs++ext.map HB=H1
 have KS:H1.length=s.hp.length:=by rw[←Ik,ho.len]; simp[b1]
 have yl:∀ n:Nat,n<s0.hp.length→H1[n]?=(ra s0.hp objs)[n]?:=fun n hn=>by
  grind
 have KT:∀ i:Nat,H1[s0.hp.length+i]?=(ext.map HB)[i]?:=fun i=>by
  grind
 have oP:=ho.abs
 unfold uH at oP
 rw[Option.bind_eq_some_iff]at oP
 obtain⟨la,hla,oP⟩:=oP
 rw[Option.map_eq_some_iff]at oP
 obtain⟨lb,Oc,rfl⟩:=oP
 have Qt:∀ q,q∈objs++aZ s0.hp.length ext→∃ o,H1[q.1]?=some (some o)∧Compat o q.2:=by
  intro q hq
  rcases List.mem_append.1 hq with hq|hq
  ·obtain⟨o,h1,h2⟩:=Oz q hq
   exact⟨mn o q.2,by rw[yl _ (bZ _ (List.mem_map_of_mem hq))]; exact b3 q hq o h1,(yk h2).1⟩
  ·obtain⟨i,g,f,t,rfl,h2⟩:=iH hq
   refine⟨.bU g f 0 t [],?_,⟨g,f,0,[],rfl⟩⟩
   simp only
   rw[KT,List.getElem?_map,h2]
   rfl
 obtain⟨c1,c2,c3,c4⟩:=rk hT (Hs:=s.hp) (H:=H1) [] zD Oc Qt
 simp only[List.append_nil]at c1 c2 c3 c4
 generalize hHf:fV H1 (objs++aZ s0.hp.length ext) lb=Hf at c1 c2 c3 c4
 have hlen:Di (fun n=>n<s0.hp.length∨n∈(objs++aZ s0.hp.length ext).map (·.1)) s.hp Hf:=by
  intro n o hn OL
  by_cases hm:n∈(objs++aZ s0.hp.length ext).map (·.1)
  ·grind
  ·have hn:n<s0.hp.length:=hn.resolve_right hm
   have Au:n∉objs.map (·.1):=fun hc=>hm (by rw[List.map_append]; exact List.mem_append_left _ hc)
   refine⟨o,?_,rfl⟩
   rw[c2 n hm,yl n hn,b2 n Au,←ho.hp n hn Au]
   exact OL
 have OA:=List.all_eq_true.1 ho.ka
 have VL:∀ q,q∈objs++aZ s0.hp.length ext→∀ n,n∈q.2.ka→(n<s0.hp.length∨n∈(objs++aZ s0.hp.length ext).map (·.1)):=by
  intro q hq n hn
  have:=OA n (List.mem_append_right _ (List.mem_flatMap.2 ⟨q,hq,hn⟩))
  simp only[Bool.or_eq_true,List.contains_eq_mem,decide_eq_true_eq]at this
  refine this.imp (fun h=>?_) id
  have:=Nat.le_of_ble_eq_true h
  omega
 have VM:∀ q,q∈az→∀ n,n∈q.2.ka→(n<s0.hp.length∨n∈(objs++aZ s0.hp.length ext).map (·.1)):=by
  intro q hq n hn
  have:=OA n (List.mem_append_left _ (List.mem_flatMap.2 ⟨q,hq,hn⟩))
  simp only[Bool.or_eq_true,List.contains_eq_mem,decide_eq_true_eq]at this
  refine this.imp (fun h=>?_) id
  have:=Nat.le_of_ble_eq_true h
  omega
 have Nx:∀ q,q∈objs→∃ o0 os of,s0.hp[q.1]?=some (some o0)∧s.hp[q.1]?=some (some os)∧Hf[q.1]?=some (some of)∧of.len=os.len∧of.cur=Bi q.2 o0.cur ∧
   (∀ a,RO T s.hp os a→RO T Hf of a):=by
  intro q hq
  obtain⟨o0,h1,h2⟩:=Oz q hq
  obtain⟨o1,os,o',ln,Hc,Dk,d1,d2,d3,d4,d5,d6,d7,d8⟩:=c4 q (List.mem_append_left _ hq)
  have hb:=b3 q hq o0 h1
  rw[yl _ (bZ _ (List.mem_map_of_mem hq)),hb]at d1
  simp only[Option.some.injEq]at d1
  subst d1
  obtain⟨e1,e2,e3,e4,e5⟩:=yk h2
  have Ht:=Bj ho.flags hq h1 d2
  refine⟨o0,os,o',h1,d2,d6,d8,by rw[d7,e5],fun a ha=>?_⟩
  exact yj hT (fun n=>by rw[d4,c3]) hlen (VL q (List.mem_append_left _ hq)) e1 d3 d5 (by rw[e2,Ht]) (by rw[e3,Ht]) (by rw[e4,Ht]) ha
 have Qp:∀ n c v0 aq,fH s0.hp n c v0→fH s.hp n c aq→fH Hf n c aq:=by
  intro n c v0 aq Mh hv
  have hn:=Mh.lt
  by_cases hm:n∈objs.map (·.1)
  ·obtain⟨q,hq,rfl⟩:=List.mem_map.1 hm
   obtain⟨o0,os,of,g1,g2,g3,g4,g5,_⟩:=Nx q hq
   obtain⟨o0',k1,k2,_⟩:=Mh
   rw[g1]at k1
   simp only[Option.some.injEq]at k1
   subst k1
   obtain⟨os',k3,k4,k5⟩:=hv
   rw[g2]at k3
   simp only[Option.some.injEq]at k3
   subst k3
   refine⟨of,g3,?_,fun e=>?_⟩
   ·have:=GF q.2 o0.cur; omega
   ·by_cases hl:∃ t,q.2=.list t
    ·obtain⟨t,hl⟩:=hl
     rw[g5,hl]at e
     simp only[Bi]at e
     omega
    ·have hc:=Fk ho.cur hq (fun t e=>hl ⟨t,e⟩) g1 g2
     have:of.cur=o0.cur:=by rw[g5,Nw (fun t e=>hl ⟨t,e⟩)]
     rw[g4]
     exact k5 (by omega)
  ·have Au:n∉(objs++aZ s0.hp.length ext).map (·.1):=by
    rw[List.map_append]
    intro hc
    rcases List.mem_append.1 hc with hc|hc
    ·exact hm hc
    ·have:=Ms n hc; omega
   obtain⟨os,k1,k2,k3⟩:=hv
   exact⟨os,by rw[c2 n Au,yl n hn,b2 n hm,←ho.hp n hn hm]; exact k1,k2,k3⟩
 have Sq:∀ n:Nat,n<s0.hp.length→n∉objs.map (·.1)→Hf[n]?=s0.hp[n]?:=by
  intro n hn hm
  have Au:n∉(objs++aZ s0.hp.length ext).map (·.1):=by
   rw[List.map_append]
   intro hc
   rcases List.mem_append.1 hc with hc|hc
   ·exact hm hc
   ·have:=Ms n hc; omega
  rw[c2 n Au,yl n hn,b2 n hm]
 have hex:∀ (n:Nat) (o:aC T.den),s0.hp[n]?=some (some o)→∃ o,Hf[n]?=some (some o):=by
  intro n o ze
  have hn:=(List.getElem?_eq_some_iff.1 ze).1
  by_cases hm:n∈objs.map (·.1)
  ·obtain⟨q,hq,rfl⟩:=List.mem_map.1 hm
   obtain⟨_,_,of,_,_,g3,_⟩:=Nx q hq
   exact⟨of,g3⟩
  ·exact⟨o,by rw[Sq n hn hm]; exact ze⟩
 have PX:kz s.js Hf st.hp:=by
  intro n x hx
  obtain⟨h1,h2⟩:=h.js n x hx
  refine⟨?_,h2⟩
  obtain⟨o,Hh,ui⟩:∃ o,s.hp[n]?=some (some o)∧o.isRec=true:=by
   unfold recAt at h1
   split at h1
   ·rename_i o Hh; exact⟨o,Hh,h1⟩
   ·simp at h1
  by_cases hn:n<s0.hp.length
  ·by_cases hm:n∈objs.map (·.1)
   ·exfalso
    obtain⟨q,hq,rfl⟩:=List.mem_map.1 hm
    obtain⟨o1,os,o',ln,Hc,Dk,_,d2,d3,_⟩:=c4 q (List.mem_append_left _ hq)
    rw[Hh]at d2
    simp only[Option.some.injEq]at d2
    subst d2
    cases o<;>simp[aC.isRec]at ui
    cases hp2:q.2<;>rw[hp2]at d3<;>cases d3
   ·rw[pW (show Hf[n]?=s.hp[n]? by rw[Sq n hn hm,ho.hp n hn hm])]
    exact h1
  ·exfalso
   have VB:=(List.getElem?_eq_some_iff.1 Hh).1
   have hi:n-s0.hp.length<ext.length:=by have:=ho.len; omega
   have KQ:s0.hp.length+(n-s0.hp.length)=n:=by omega
   obtain⟨e,he⟩:∃ e,ext[n-s0.hp.length]?=some e:=⟨_,List.getElem?_eq_getElem hi⟩
   obtain⟨o2,m1,m2⟩:=tH ho.PV he
   rw[KQ,Hh]at m1
   simp only[Option.some.injEq]at m1
   subst m1
   cases o<;>simp[aC.isRec]at ui
   cases e<;>simp[aC.flags]at m2
 have Nt:RH T Hf st.hp:=by
  have sw:Hf.length=st.hp.length:=by rw[c1,KS]; exact h.hp.length
  refine aw.dY sw fun n x y hx hy=>?_
  obtain⟨xs,zg,hr⟩:=aw.get' h.hp hy
  have VB:n<s.hp.length:=(List.getElem?_eq_some_iff.1 zg).1
  by_cases hn:n<s0.hp.length
  ·by_cases hm:n∈objs.map (·.1)
   ·obtain⟨q,hq,rfl⟩:=List.mem_map.1 hm
    obtain⟨o0,os,of,g1,g2,g3,g4,g5,g6⟩:=Nx q hq
    rw[g3]at hx
    rw[g2]at zg
    simp only[Option.some.injEq]at hx zg
    subst hx; subst zg
    cases y with
    |none=>exact hr.elim
    |some a=>exact g6 a hr
   ·have Au:n∉(objs++aZ s0.hp.length ext).map (·.1):=by
     rw[List.map_append]
     intro hc
     rcases List.mem_append.1 hc with hc|hc
     ·exact hm hc
     ·have:=Ms n hc; omega
    rw[c2 n Au,yl n hn,b2 n hm,←ho.hp n hn hm,zg]at hx
    simp only[Option.some.injEq]at hx
    subst hx
    have DQ:s0.hp[n]?=some xs:=by rw[←ho.hp n hn hm]; exact zg
    obtain⟨y0,_,DN⟩:=aw.get h0.hp DQ
    cases xs with
    |none=>cases y with
     |none=>trivial
     |some a=>exact hr.elim
    |some o=>cases y with
     |none=>exact hr.elim
     |some a=>
      cases y0 with
      |none=>exact DN.elim
      |some a0=>
       cases o with
       |arr g cl f c es=>
        obtain⟨es',e1,e2,e3⟩:=hr
        obtain⟨VH,_,e5,_⟩:=DN
        exact⟨es',e1,RL.dX Qp hex e5 e2,e3⟩
       |bU g f c t l=>exact hr
       |gT=>exact hr
       |j0 kk t m=>exact hr
       |oJ fn ps as bd fr=>
        obtain⟨st,vs,e1,e2⟩:=hr
        obtain⟨XX,vs0,_,e5⟩:=DN
        refine⟨st,vs,e1,aw.dY e2.length fun i x y hx hy=>?_⟩
        obtain⟨y',AD,ld⟩:=aw.get e2 hx
        rw[hy]at AD
        simp only[Option.some.injEq]at AD
        subst AD
        obtain⟨y0,XT,PY⟩:=aw.get e5 hx
        rcases ld with ld|ld
        ·exact .inl ld
        ·rcases PY with ⟨rfl,_⟩|PY
         ·simp[R]at ld
         ·exact .inr (R.dX Qp hex PY ld)
  ·have hi:n-s0.hp.length<ext.length:=by have:=ho.len; omega
   have KQ:n=s0.hp.length+(n-s0.hp.length):=by omega
   rcases oi (n:=s0.hp.length) hi with ⟨k1,k2⟩|⟨g,f,t,k1,k2⟩
   ·rw[←KQ]at k2
    have Au:n∉(objs++aZ s0.hp.length ext).map (·.1):=by
     rw[List.map_append]
     intro hc
     rcases List.mem_append.1 hc with hc|hc
     ·exact hn (bZ n hc)
     ·exact k2 hc
    rw[c2 n Au,KQ,KT,List.getElem?_map,k1]at hx
    simp only[Option.map_some,HB,Option.some.injEq]at hx
    subst hx
    obtain⟨o,m1,m2⟩:=tH ho.PV k1
    rw[←KQ,zg]at m1
    simp only[Option.some.injEq]at m1
    subst m1
    cases y with
    |none=>exact hr.elim
    |some a=>exact HP hT hr m2
   ·obtain⟨o1,os,o',ln,Hc,Dk,d1,d2,d3,d4,d5,d6,d7,d8⟩:=c4 _ (List.mem_append_right _ k2)
    simp only at d1 d2 d3 d5 d6
    rw[←KQ]at d2 d6
    rw[d6]at hx
    rw[d2]at zg
    simp only[Option.some.injEq]at hx zg
    subst hx; subst zg
    rw[KT,List.getElem?_map,k1]at d1
    simp only[Option.map_some,HB,Option.some.injEq]at d1
    subst d1
    obtain⟨o,m1,m2⟩:=tH ho.PV k1
    rw[←KQ,d2]at m1
    simp only[Option.some.injEq]at m1
    subst m1
    simp only at m2
    cases y with
    |none=>exact hr.elim
    |some a=>
     exact yj hT (fun n=>by rw[d4,c3]) hlen (by intro n hn; simp[cO.ka]at hn) (show Compat (.bU g f 0 t []) (.list t) from ⟨g,f,0,[],rfl⟩) d3 d5 (by rw[m2]; rfl) (by rw[m2]; rfl) (by rw[m2]; rfl) hr
 obtain⟨yK,f1,f2,f3⟩:=pZ hT (Hc:=H1) (Hf:=Hf) (fun n=>by rw[c3]) hlen (N:=s0.n) (frs:=s.fr) (ast:=fun t=>st.fr.getD t .undef) h.fr (fr:=zR s0.n s0.fr dead) lb ho.QK
  (fun q hq=>⟨ho.KR _ (List.mem_append_left _ (List.mem_map_of_mem hq)),VM q hq⟩) hla
 have Sr:c6 az dead objs ext s0 (la++lb)={ s0 with fr:=yK,hp:=Hf }:=by
  unfold c6
  rw[Ik,f1]
  simp only[hHf]
 have Bk:∀ t,t∉az.map (·.1)++dead→cH yK t=cH s0.fr t:=by
  intro t ht
  simp only[List.mem_append,not_or]at ht
  rw[f2 t ht.1,uX,if_neg (fun hc=>ht.2 hc.1)]
 rw[Sr]
 refine⟨⟨?_,?_,fun t=>?_,Nt,PX⟩,by rw[c1,KS],fun n hn hm=>?_,Bk,rfl,rfl,fun q hq=>?_⟩
 ·show s0.fn=st.fn
  rw[←ho.fn]; exact h.fn
 ·show st.fr.length=s0.n
  rw[←ho.n]; exact h.n
 ·simp only
  by_cases ht:t∈az.map (·.1)
  ·obtain⟨q,hq,rfl⟩:=List.mem_map.1 ht
   exact .inr (f3 q hq)
  ·by_cases hd:t∈dead
   ·left
    rw[f2 t ht,uX,if_pos ⟨hd,ho.KR _ (List.mem_append_right _ hd)⟩]
   ·have XY:t∉az.map (·.1)++dead:=by simp only[List.mem_append,not_or]; exact⟨ht,hd⟩
    rw[Bk t XY]
    have e1:=h.fr t
    rw[ho.fr t XY]at e1
    rcases e1 with e1|e1
    ·exact .inl e1
    ·rcases h0.fr t with e0|e0
     ·exact .inl e0
     ·exact .inr (R.dX Qp hex e0 e1)
 ·simp only
  have Au:n∉(objs++aZ s0.hp.length ext).map (·.1):=by
   rw[List.map_append]
   intro hc
   rcases List.mem_append.1 hc with hc|hc
   ·exact hm hc
   ·have:=Ms n hc; omega
  rw[c2 n Au,yl n hn,b2 n hm]
 ·obtain⟨o0,os,of,g1,g2,g3,g4,g5,_⟩:=Nx q hq
  exact⟨o0,os,of,g1,g2,g3,g4,g5⟩
end Go.PI
end
section
/- PS, part P: the trees tell the truth. -/
namespace Go.PI
structure nW.Ok[ab](S:nW):Prop where
 T:S.T.Ok
 Q:S.Q.Ok
 Z:S.T.tC S.Q
 sum:∀ g σ,S.sum g=some σ→pV S.C S.T g σ
 own:∀ g σ,S.own g=some σ→GB S.C S.T g σ
def Dm(T:dm):oK T.den→Out→Prop
 |.norm s,o=>∃ st,o=.norm st∧RS T s st
 |.exit id s,o=>∃ st,o=.exit id st∧RS T s st
 |.ret s,o=>∃ st,o=.ret st∧RS T s st
def oK.st{den:Nat→Type}:oK den→bx den
 |.norm s=>s
 |.exit _ s=>s
 |.ret s=>s
structure oj[ab](S:nW)(k:Nat):Prop where
 f:∀ (ρ:Type) (f:FuncId) (args:List (SV S.T.den)) (hp:ah S.T.den) (wh:List Nat) (js:List (Nat×kS)) (K:SV S.T.den→ah S.T.den→List Nat→List (Nat×kS)→Tr ρ) (r:ρ) (as:List AV) (Ny:af),RL S.T hp args as→RH S.T hp Ny→kz js hp Ny →
  (Oj S k ρ f args hp wh js K).run=some r→∃ v cq oH qG a eD,kn S.C f as Ny=some (.val a,eD)∧R S.T cq v a∧RH S.T cq eD∧kz qG cq eD∧dh hp cq∧hp.length≤cq.length ∧
    (∀ n:Nat,n<hp.length→n∉oH→cq[n]?=hp[n]?)∧(∀ n,n∈wh→n∈oH)∧(K v cq oH qG).run=some r
 c:∀ (ρ:Type) (c:Code) (s:bx S.T.den) (K:oK S.T.den→Tr ρ) (r:ρ) (st:St),RS S.T s st→(wi S k ρ c s K).run=some r →
  ∃ so o,cP S.C c st=some o∧Dm S.T so o∧bh s so.st∧(K so).run=some r
 o:∀ (ρ:Type) (o:Oper) (s:bx S.T.den) (K:bx S.T.den→Tr ρ) (r:ρ) (st:St),RS S.T s st→(Ni S k ρ o s K).run=some r →
  ∃ s' st',hX S.C o st=some (.norm st')∧RS S.T s' st'∧bh s s'∧(K s').run=some r
section
variable {T:dm}{ρ:Type}
theorem p5[ab](hT:T.Ok){s:bx T.den}{st:St}(h:RS T s st){v:SV T.den}{a:AV}{cq:ah T.den}{eD:af}{oH:List Nat}{qG:List (Nat×kS)}(g2:R T cq v a)(g3:RH T cq eD)(g4:dh s.hp cq)(g5:s.hp.length≤cq.length)
  (g6:∀ n:Nat,n<s.hp.length→n∉oH→cq[n]?=s.hp[n]?) (g7:∀ n,n∈s.wh→n∈oH) (hj:kz qG cq eD) (hb:sa qG s.hp.length=true) :
  RS T ⟨s.fn,s.n,s.fr,fU s.hp.length v cq,s.wf,oH,qG⟩ ⟨st.fn,st.fr,gE s.hp.length a eD⟩∧bh s ⟨s.fn,s.n,s.fr,fU s.hp.length v cq,s.wf,oH,qG⟩∧R T (fU s.hp.length v cq) v a:=by
 obtain⟨t1,t2⟩:=HN (n:=s.hp.length) hT g3 g2
 have zm:dh s.hp (fU s.hp.length v cq):=by
  unfold fU
  split
  ·intro n o ho
   obtain⟨o',h1,h2⟩:=g4 n o ho
   exact⟨o',by rw[mM (List.getElem?_eq_some_iff.1 ho).1]; exact h1,h2⟩
  ·exact g4
 have Ss:∀ n:Nat,n<s.hp.length→n∉oH→(fU s.hp.length v cq)[n]?=s.hp[n]?:=by
  grind[fU]
 have hlen:s.hp.length≤(fU s.hp.length v cq).length:=by
  grind[fU]
 have PX:kz qG (fU s.hp.length v cq) (gE s.hp.length a eD):=by
  unfold fU gE
  rw[R.below g2,kZ hT (aw.take g3 _)]
  split
  ·exact hj.take (z8 hb)
  ·exact hj
 exact⟨⟨h.fn,h.n,fun t=>(h.fr t).mono zm,t1,PX⟩,⟨rfl,rfl,fun _ _=>rfl,fun _ h=>h,Ss,g7,hlen,zm⟩,t2⟩
theorem ym[ab]{H H':ah T.den}{esz j nm:Nat}{e e':SV T.den}{a:AV}(hr:R T H e a)(hx:∀ {v:SV T.den} {b:AV},R T H v b→R T H' v b)(hn:R T H' (.bp esz nm 0 none none) (.bp esz nm 0 0 0 none))(h:pN esz j nm e=some e'):
  ∃ a',kD esz j nm a=some a'∧R T H' e' a':=by
 unfold pN at h
 split at h
 ·rename_i l
  split at h
  case h_2=>simp at h
  rename_i hl
  simp only[Option.some.injEq]at h
  subst h
  simp only[R]at hr
  obtain⟨l',rfl,jl⟩:=hr
  obtain⟨b,hb,QH⟩:=aw.get (aO.1 jl) hl
  simp only[R]at QH
  subst QH
  refine⟨.agg (l'.set j (.bp esz nm 0 0 0 none)),by simp only[kD,hb],?_⟩
  simp only[R]
  exact⟨_,rfl,aO.2 (((aO.1 jl).mono fun _ _ h=>hx h).set j hn)⟩
 ·split at h
  case isFalse=>simp at h
  rename_i hj
  simp only[Option.some.injEq]at h
  subst h
  simp only[R]at hr
  subst hr
  exact⟨_,by simp only[kD]; rw[if_pos hj],hn⟩
 ·simp at h
theorem Su[ab]{H:ah T.den}:RO T H (.arr true true false 0 []) (.arr true true false []):=⟨[],rfl,by simp[RL],fun _=>rfl⟩
theorem KU{H:ah T.den}{esz nm:Nat}{g cl f:Bool}(h:H[nm]?=some (some (.arr g cl f 0 []))):R T H (.bp esz nm 0 none none) (.bp esz nm 0 0 0 none):=by
 simp only[R]
 exact⟨0,⟨_,h,Nat.le_refl _,fun _=>rfl⟩,rfl⟩
theorem GH[ab](hT:T.Ok){d:Tmp}{r:ρ}{K:bx T.den→Tr ρ}:∀ {l:List (Nat×Nat)} {s:bx T.den} {st:St},RS T s st→(HD d l s K).run=some r→∃ s',RS T s' (Iv d l st)∧bh s s'∧(K s').run=some r
 |[],s,st,h,hk=>⟨s,h,bh.refl _,hk⟩
 |(j,esz)::l,s,st,h,hk=>by
  have hlen:=h.hp.length
  unfold HD at hk
  have hd:=h.fr d
  have Fb:∀ {s':bx T.den},RS T s' (oW d st j esz)→bh s s'→(HD d l s' K).run=some r→∃ s',RS T s' (Iv d ((j,esz)::l) st)∧bh s s'∧(K s').run=some r:=by
   intro s' h1 h2 h3
   obtain⟨s2,i1,i2,i3⟩:=GH hT h1 h3
   exact⟨s2,i1,h2.trans i2,i3⟩
  split at hk
  ·rename_i n c i k he
   rw[he]at hd
   have hd:=hd.live rfl
   simp only[R]at hd
   obtain⟨aq,hd,bX⟩:=hd
   have eO:st.fr[d]?=some (.ref n aq i k):=by
    grind
   split at hk
   case h_2=>simp[Tr.run]at hk
   rename_i g cl f cur es ho
   obtain⟨ao,cZ,dA⟩:=h.hp.obj ho
   obtain⟨es',rfl,cC,lZ⟩:=dA
   split at hk
   case h_2=>simp[Tr.run]at hk
   rename_i e' FU
   obtain⟨e,LN,xw⟩:=Option.bind_eq_some_iff.1 FU
   obtain⟨ea,Sv,DW⟩:=aw.get (aO.1 cC) LN
   have hn:=(List.getElem?_eq_some_iff.1 ho).1
   have o6:=h.hp.new (nm:=s.hp.length) (o':=.arr true true false 0 []) (a':=.arr true true false []) (.inl rfl) Su
   have e1:bJ s.hp s.hp.length (.arr true true false 0 [])=s.hp++[some (.arr true true false 0 [])]:=by simp[bJ]
   have e2:setObj st.hp s.hp.length (.arr true true false [])=st.hp++[some (.arr true true false [])]:=by simp[setObj,hlen]
   rw[e1,e2]at o6
   obtain⟨Ov,wb⟩:=o6
   have jY:R T (s.hp++[some (.arr true true false 0 [])]) (.bp esz s.hp.length 0 none none) (.bp esz s.hp.length 0 0 0 none):=KU (g:=true) (cl:=true) (f:=false) (by simp)
   obtain⟨OB,h5,h6⟩:=ym DW (fun h=>h.mono Ov) jY xw
   have ui:(s.hp++[some (aC.arr true true false 0 [])])[n]?=some (some (.arr g cl f cur es)):=by rw[List.getElem?_append_left hn]; exact ho
   have ee:RL T (s.hp++[some (.arr true true false 0 [])]) (es.set i e') (es'.set i OB):=aO.2 (((aO.1 cC).mono fun _ _ h=>h.mono Ov).set i h6)
   obtain⟨hg2,ED⟩:=wb.QD ui (o':=.arr g false f cur (es.set i e')) (a':=.arr g false f (es'.set i OB)) (Nat.le_refl _) (fun _=>by simp[aC.len]) ⟨_,rfl,ee,fun hc=>by simp at hc⟩
   have w1:ba s.hp [(n,.arr g false f cur (es.set i e')),(s.hp.length,.arr true true false 0 [])]=(s.hp++[some (aC.arr true true false 0 [])]).set n (some (aC.arr g false f cur (es.set i e'))):=by
    have q1:bJ s.hp n (.arr g false f cur (es.set i e'))=s.hp.set n (some (.arr g false f cur (es.set i e'))):=by unfold bJ; rw[if_neg (by omega)]
    have q2:∀ (L:ah T.den) (o:aC T.den),L.length=s.hp.length→bJ L s.hp.length o=L++[some o]:=fun L o hL=>by unfold bJ; rw[if_pos hL.symm]
    simp only[ba]
    rw[q1,q2 _ _ (by simp),List.set_append_left _ _ hn]
   have w2:ak st.hp [(n,.arr g false f (es'.set i OB)),(s.hp.length,.arr true true false [])]=(st.hp++[some (aL.arr true true false [])]).set n (some (aL.arr g false f (es'.set i OB))):=by
    have q1:setObj st.hp n (.arr g false f (es'.set i OB))=st.hp.set n (some (.arr g false f (es'.set i OB))):=by unfold setObj; rw[if_neg (by omega)]
    have q2:∀ (L:af) (o:aL),L.length=s.hp.length→setObj L s.hp.length o=L++[some o]:=fun L o hL=>by unfold setObj; rw[if_pos hL.symm]
    simp only[ak]
    rw[q1,q2 _ _ (by simp[hlen]),List.set_append_left _ _ (by omega)]
   rw[cD]at hk
   have VO:RE T s.hp st.hp (.lit undef) [(n,.arr g false f cur (es.set i e')),(s.hp.length,.arr true true false 0 [])] ⟨.undef,[(n,.arr g false f (es'.set i OB)),(s.hp.length,.arr true true false [])]⟩:=by
    refine⟨bk undef,by rw[w1,w2]; exact ED,by rw[w1]; exact Ov.trans hg2,fun q hq=>?_,fun m hm hl=>?_,by rw[w1]; simp,fun m hm hc=>?_⟩
    ·grind
    ·grind
    ·simp at hc
     rcases hc with rfl|rfl
     ·simp[recAt,ho,aC.isRec]at hm
     ·have:=jg hm; omega
   obtain⟨g8,g9⟩:=h.step VO none
   refine Fb (s':=s.step none (.lit undef) _) ?_ g9 hk
   have:oW d st j esz={ st with fr:=bC st.fr none AV.undef,hp:=ak st.hp [(n,.arr g false f (es'.set i OB)),(s.hp.length,.arr true true false [])] }:=by
    unfold oW
    rw[hlen]at h5
    simp only[eO,cZ,Sv,Option.bind_some,h5,bC]
    rw[w2,List.set_append_left _ _ (by omega)]
   rw[this]
   exact g8
  ·rename_i dK
   split at hk
   case h_2=>simp[Tr.run]at hk
   rename_i v' jM
   have Sw:bN (cH s.fr d)=false:=by
    cases hq:cH s.fr d<;>first|rfl|(rw[hq]at jM; simp[pN]at jM)
   have hd:=hd.live Sw
   have o6:=h.hp.new (nm:=s.hp.length) (o':=.arr true true false 0 []) (a':=.arr true true false []) (.inl rfl) Su
   have e1:bJ s.hp s.hp.length (.arr true true false 0 [])=s.hp++[some (.arr true true false 0 [])]:=by simp[bJ]
   have e2:setObj st.hp s.hp.length (.arr true true false [])=st.hp++[some (.arr true true false [])]:=by simp[setObj,hlen]
   have XZ:=o6
   rw[e1,e2]at o6
   obtain⟨Ov,wb⟩:=o6
   have jY:R T (s.hp++[some (.arr true true false 0 [])]) (.bp esz s.hp.length 0 none none) (.bp esz s.hp.length 0 0 0 none):=KU (g:=true) (cl:=true) (f:=false) (by simp)
   obtain⟨a',h5,h6⟩:=ym hd (fun h=>h.mono Ov) jY jM
   have eO:st.fr[d]?=some (st.fr.getD d .undef):=by
    rw[List.getD_eq_getElem?_getD]at h5 ⊢
    cases hq:st.fr[d]? with
    |none=>simp_all[kD,AV.undef,Go.undef]
    |some x=>rfl
   have Sx:∀ n aq i k,st.fr.getD d .undef≠.ref n aq i k:=by
    intro n aq i k e
    rw[e]at h5
    simp[kD]at h5
   rw[cD]at hk
   have VO:RE T s.hp st.hp v' [(s.hp.length,.arr true true false 0 [])] ⟨a',[(st.hp.length,.arr true true false [])]⟩:=by
    have w1:ba s.hp [(s.hp.length,.arr true true false 0 [])]=s.hp++[some (.arr true true false 0 [])]:=e1
    have w2:ak st.hp [(st.hp.length,.arr true true false [])]=st.hp++[some (.arr true true false [])]:=by simp[ak,setObj]
    refine⟨.inr (by rw[w1]; exact h6),by rw[w1,w2]; exact wb,by rw[w1]; exact Ov,fun q hq=>by simp at hq; subst hq; simp[hlen],fun m hm hl=>?_,by rw[w1]; simp,fun m hm hc=>?_⟩
    ·rw[w1,List.getElem?_append_left hl]
    ·simp at hc
     have:=jg hm; omega
   obtain⟨g8,g9⟩:=h.step VO (some d)
   refine Fb (s':=s.step (some d) v' _) ?_ g9 hk
   have:oW d st j esz={ st with fr:=bC st.fr (some d) a',hp:=ak st.hp [(st.hp.length,.arr true true false [])] }:=by
    unfold oW
    rw[eO]
    rw[hlen]at h5
    split
    ·rename_i n aq i k he
     exact absurd (Option.some.inj he) (Sx n aq i k)
    ·rename_i e _ he
     have he:=Option.some.inj he
     rw[←he,h5]
     simp only[bC,ak,setObj,if_true]
    ·rename_i he; cases he
   rw[this]
   exact g8
theorem KV[ab](hT:T.Ok){l:Tmp→List (Nat×Nat)}{dst:Option Tmp}{r:ρ}{K:bx T.den→Tr ρ}{s:bx T.den}{st:St}(h:RS T s st)(hk:(CM l dst s K).run=some r):∃ s',RS T s' (BA l dst st)∧bh s s'∧(K s').run=some r:=by
 cases dst with
 |none=>exact⟨s,h,bh.refl _,hk⟩
 |some d=>exact GH hT h hk
theorem Fl{js:List (Nat×kS)}{n m:Nat}{y:kS}:cm (A9 js n y) m=if m=n then (cm js n).map (fun _=>y) else cm js m:=by
 induction js with
 |nil=>simp[A9,cm]
 |cons q r ih=>
  obtain⟨k,x⟩:=q
  simp only[A9,List.map_cons]at ih ⊢
  cases hk:Nat.beq k n with
  |true=>
   have:=Nat.eq_of_beq_eq_true hk
   subst this
   simp only[cm]
   by_cases hm:m=k
   ·subst hm; simp
   ·have:Nat.beq k m=false:=by cases hb:Nat.beq k m; rfl; exact absurd (Nat.eq_of_beq_eq_true hb).symm hm
    rw[this,if_neg hm]
    simp only
    rw[ih,if_neg hm]
  |false=>
   simp only[cm,hk]
   by_cases hm:m=n
   ·simp_all
   ·simp_all
theorem Dn{js:List (Nat×kS)}{n m:Nat}:cm (CO js n) m=if m=n then none else cm js m:=by
 induction js with
 |nil=>simp[CO,cm]
 |cons q r ih=>
  obtain⟨k,x⟩:=q
  simp only[CO,List.filter_cons]at ih ⊢
  cases hk:Nat.beq k n with
  |true=>
   have:=Nat.eq_of_beq_eq_true hk
   subst this
   simp only[Bool.not_true,Bool.false_eq_true,if_false,ih,cm]
   by_cases hm:m=k
   ·simp[hm]
   ·have:Nat.beq k m=false:=by cases hb:Nat.beq k m; rfl; exact absurd (Nat.eq_of_beq_eq_true hb).symm hm
    rw[this,if_neg hm]
  |false=>
   grind[cm]
theorem GI[ab]{H:ah T.den}{hp:af}{js:List (Nat×kS)}(hh:RH T H hp)(hj:kz js H hp){n:Nat}{x:kS}(hn:cm js n=some x)(y:kS):RH T H (ow hp n y)∧kz (A9 js n y) H (ow hp n y):=by
 obtain⟨h1,h2⟩:=hj n x hn
 obtain⟨fn,ps,as,bd,fr,hr⟩:=iy h2
 have bZ:=(List.getElem?_eq_some_iff.1 hr).1
 have e:ow hp n y=hp.set n (some (.ga (.loop fn ps as bd y) fr)):=by unfold ow; rw[hr]
 rw[e]
 obtain⟨o,ho,VP⟩:∃ o,H[n]?=some (some o)∧o.isRec=true:=by
  grind[recAt]
 obtain⟨a,ha,dA⟩:=hh.obj ho
 rw[hr]at ha
 simp only[Option.some.injEq]at ha
 subst ha
 cases o<;>simp[aC.isRec]at VP
 rename_i MO VQ nM VR yK
 obtain⟨st,vs,he,lR⟩:=dA
 cases he
 have ee:RH T H (hp.set n (some (.ga (.loop fn ps as bd y) fr))):=by
  have:=aw.set hh n (x:=some (.oJ fn ps as bd yK)) (y:=some (aL.ga (.loop fn ps as bd y) fr)) ⟨y,fr,rfl,lR⟩
  rwa [gQ ho]at this
 refine⟨ee,fun m z hm=>?_⟩
 rw[Fl]at hm
 split at hm
 ·simp_all[hG]
 ·rename_i dK
  obtain⟨h3,h4⟩:=hj m z hm
  exact⟨h3,by rw[nB (List.getElem?_set_ne (Ne.symm dK))]; exact h4⟩
theorem Dp{den:Nat→Type}{u:List Nat}{fr:sz den}:∀ {l:List Nat} {i:Nat},(wg u fr l)[i]?=(l[i]?).map fun d=>if u.contains d then cH fr d else .dead
 |[],i=>by simp[wg]
 |d::r,0=>by simp only[wg,List.getElem?_cons_zero,Option.map_some]; cases u.contains d<;>rfl
 |d::r,i+1=>by simp only[wg,List.getElem?_cons_succ]; exact Dp
theorem Dq{den:Nat→Type}{u:List Nat}{fr:sz den}:∀ {l:List Nat},(wg u fr l).length=l.length
 |[]=>rfl
 |d::r=>by simp only[wg,List.length_cons,Dq]
theorem Aa{u:List Nat}:∀ {fr:List AV} {i j:Nat},(mR u i fr)[j]?=(fr[j]?).map fun x=>if u.contains (i+j) then x else .any
 |[],i,j=>by simp[mR]
 |x::xs,i,0=>by simp[mR]
 |x::xs,i,j+1=>by
  simp only[mR,List.getElem?_cons_succ]
  rw[Aa,show i+1+j=i+(j+1) by omega]
theorem Ab{u:List Nat}:∀ {fr:List AV} {i:Nat},(mR u i fr).length=fr.length
 |[],_=>rfl
 |x::xs,i=>by simp only[mR,List.length_cons,Ab]
theorem HR[ab]{s:bx T.den}{st:St}(h:RS T s st){as bd:Code}(hd:(cV as++cV bd).all (fun d=>!bN (cH s.fr d)||!Nat.blt d s.n)=true):
  aw (RD T s.hp) (wg (cV as++cV bd) s.fr (List.range s.n)) (tP as bd st.fr):=by
 unfold tP
 refine aw.dY (by rw[Dq,Ab,List.length_range,h.n]) fun i x y hx hy=>?_
 rw[Dp,Option.map_eq_some_iff]at hx
 rw[Aa,Option.map_eq_some_iff]at hy
 obtain⟨d,N7,rfl⟩:=hx
 obtain⟨a,ha,rfl⟩:=hy
 obtain⟨hi,rfl⟩:i<s.n∧i=d:=by
  grind
 rw[Nat.zero_add]
 cases hc:(cV as++cV bd).contains i with
 |false=>exact .inl ⟨rfl,rfl⟩
 |true=>
  right
  simp only[if_true]
  have hm:i∈cV as++cV bd:=by simpa using hc
  have:=List.all_eq_true.1 hd i hm
  have hb:Nat.blt i s.n=true:=Nat.ble_eq_true_of_le hi
  rw[hb]at this
  simp only[Bool.not_true,Bool.or_false,Bool.not_eq_true']at this
  have hv:=(h.fr i).live this
  rw[List.getD_eq_getElem?_getD,ha]at hv
  exact hv
theorem Ac[ab]{H:ah T.den}:∀ {ps:List Tmp} {xs:List (SV T.den)} {as:List AV} {n:Nat} {fr:sz T.den} {fa:List AV},fa.length=n→(∀ t,RV T H (cH fr t) (fa.getD t .undef))→RL T H xs as →
  (fu fa ps as).length=n∧∀ t,RV T H (cH (lI n fr ps xs) t) ((fu fa ps as).getD t .undef)
 |[],xs,as,n,fr,fa,hl,h,_=>by simpa[fu,lI] using ⟨hl,h⟩
 |p::ps,[],[],n,fr,fa,hl,h,_=>by simpa[fu,lI] using ⟨hl,h⟩
 |p::ps,x::xs,a::as,n,fr,fa,hl,h,hx=>by
  simp only[RL]at hx
  simp only[fu,lI]
  refine Ac (by simp[hl]) (fun t=>?_) hx.2
  rw[kg,Db,hl]
  split
  ·exact .inr hx.1
  ·exact h t
 |p::ps,[],_::_,_,_,_,_,_,h=>by simp[RL]at h
 |p::ps,_::_,[],_,_,_,_,_,h=>by simp[RL]at h
noncomputable def KW(n:Nat)(dst:Option Tmp)(st:St):Out→Option Out
 |.norm s2=>wO n dst st true .ready s2.hp
 |.exit id s2=>wO n dst st false (.jump (some id)) s2.hp
 |.ret s2=>wO n dst st false (.jump none) s2.hp
 |_=>none
theorem Bl[ab](hT:T.Ok){s s2:bx T.den}{st Nv:St}(h:RS T s st)(h2:RS T s2 Nv)(hg:dh s.hp s2.hp)(hl:s.hp.length≤s2.hp.length)(hk:∀ n:Nat,n<s.hp.length→n∉s2.wh→s2.hp[n]?=s.hp[n]?)(hw:∀ n,n∈s.wh→n∈s2.wh)
  {n:Nat} {dst:Option Tmp} {b:Bool} {x:kS} {K:bx T.den→Tr ρ} {r:ρ} (hr:(Ks s n dst b x s2 K).run=some r) :
  ∃ s' st',wO n dst st b x Nv.hp=some (.norm st')∧RS T s' st'∧bh s s'∧(K s').run=some r:=by
 unfold Ks at hr
 split at hr
 case h_2=>simp[Tr.run]at hr
 rename_i hb
 split at hr
 case h_2=>simp[Tr.run]at hr
 rename_i Bm
 rw[jH,cD]at hr
 obtain⟨_,Sy⟩:=h2.js n _ hb
 obtain⟨r1,r2⟩:=GI h2.hp h2.js hb x
 have Sz:sa (A9 s2.js n x) s.hp.length=true:=by
  refine List.all_eq_true.2 fun q hq=>?_
  obtain⟨q0,U6,e⟩:=List.mem_map.1 hq
  have:=List.all_eq_true.1 Bm q0 U6
  split at e<;>(subst e; exact this)
 obtain⟨g1,g2,g3⟩:=p5 hT h (v:=.lit (.bool b)) (a:=.lit (.bool b)) (by simp[R]) r1 hg hl hk hw r2 Sz
 obtain⟨g8,g9⟩:=g1.step (v:=.lit (.bool b)) (wr:=[]) (e:=⟨.lit (.bool b),[]⟩) ⟨bk _,g1.hp,dh.refl _,fun q hq=>by simp at hq,fun _ _ _=>rfl,Nat.le_refl _,fun _ _ h=>by simp at h⟩ dst
 refine⟨_,_,?_,g8,g2.trans g9,hr⟩
 unfold wO
 rw[Sy,h.hp.length]
 rfl
end
def Fm{den:Nat→Type}(H H':ah den):Prop:=∀ n:Nat,n<H.length→∀ o':aC den,H'[n]?=some (some o')→∃ o:aC den,H[n]?=some (some o)∧o.cur=o'.cur∧o.len=o'.len
theorem R.back[ab]{T:dm}{H H':ah T.den}(hb:Fm H H'){v:SV T.den}{a:AV}(h:R T H' v a)(hv:bt H.length v=true):R T H v a:=by
 refine(h.take hv).mono fun n o ho=>?_
 have hn:n<H.length:=by
  grind
 rw[List.getElem?_take_of_lt hn]at ho
 obtain⟨o',h1,h2,h3⟩:=hb n hn o ho
 exact⟨o',h1,by omega,fun _=>h3⟩
theorem RM.KX{α:Type}{hp:af}:∀ {x:RM α} {a:α},x.run hp=some a→∀ n,n∈x.log hp→n<hp.length
 |.ret _,_,_,n,hn=>by simp[RM.log]at hn
 |.fail,_,h,_,_=>by simp[RM.run]at h
 |.get m k,a,h,n,hn=>by
  simp only[RM.run]at h
  split at h
  case h_2=>simp at h
  rename_i o ho
  simp only[RM.log,ho,List.mem_cons]at hn
  rcases hn with rfl|hn
  ·grind
  ·exact RM.KX h n hn
theorem aF.gJ{hp:af}{ov:Option (Nat×aL)}{nw:List aL}{α:Type}{x:RM α}{a:α}{rd:List Nat}(h:aF (aP hp ov nw) x a rd):aF hp (x.gJ hp.length ov nw) a rd:=by
 refine⟨by rw[(nk x).1]; exact h.1,fun n hn=>?_⟩
 rw[(nk x).2]at hn
 exact h.2 n (List.mem_filter.1 hn).1
theorem aF.SA{hp:af}{ov:Option (Nat×aL)}{nw:List aL}{α:Type}{x:RM α}{a:α}{rd:List Nat}(h:aF (aP hp ov nw) x a rd):aF hp (x.gJ hp.length ov nw) a (rd.filter fun n=>Nat.blt n hp.length):=by
 refine⟨by rw[(nk x).1]; exact h.1,fun n hn=>?_⟩
 rw[(nk x).2]at hn
 obtain⟨h1,h2⟩:=List.mem_filter.1 hn
 exact List.mem_filter.2 ⟨h.2 n h1,h2⟩
theorem aF.VS{hp:af}{α:Type}{x:RM α}{a:α}{rd:List Nat}(h:aF hp x a rd):aF hp x a (rd.filter fun n=>Nat.blt n hp.length):=by
 refine⟨h.1,fun n hn=>List.mem_filter.2 ⟨h.2 n hn,?_⟩⟩
 have:=RM.KX h.1 n hn
 simpa using this
theorem KY[ab]{P:Program}{hp:af}{ev:Operand→AV}{nm n aq i j:Nat}{dst:Option Tmp}{t:TypeId}{a x:Operand}{type:TypeId}{pos:String}{after:Array Edge}{guard:Option (Nat×Bool)}{e:di}
  (he:(aK P nm ev ⟨dst,.store t a x,type,pos,after,guard⟩).run hp=some e) (ha:ev a=.ref n aq i j):∃ o',e.wr=[(n,o')]:=by
 simp only[aK,oU,ha]at he
 split at he
 ·simp[RM.ae]at he
 ·simp only[RM.run_bind]at he
  cases hq:(RM.arr n aq).run hp with
  |none=>rw[hq]at he; simp at he
  |some q=>
   rw[hq]at he
   simp only[Option.bind_some]at he
   split at he
   case h_2=>simp[RM.ae]at he
   split at he
   case h_2=>simp[RM.ae]at he
   split at he
   case isFalse=>simp[RM.ae]at he
   simp only[RM.run_pure,Option.some.injEq]at he
   subst he
   exact⟨_,rfl⟩
theorem HS[ab]{P:Program}{t:TypeId}{a:AV}{hp:af}{n:Nat}(h:n∈(kA P t a).log hp):n∈names a:=by
 unfold kA at h
 split at h
 ·simp[RM.log]at h
 ·split at h
  ·rw[RM.ej]at h
   simp only[names]
   rcases List.mem_append.1 h with h|h
   ·grind[RM.log,RM.arr]
   ·exfalso
    split at h
    ·unfold RM.gL at h
     repeat' (split at h)
     all_goals first|(simp[RM.log]at h; done)|skip
    ·simp at h
  ·unfold RM.gL at h
   split at h<;>simp[RM.log]at h
  ·simp[RM.log]at h
theorem GJ[ab]{T:dm}{P:Program}{s:bx T.den}{st:St}(h:RS T s st):∀ {rs:List ResultVar},wG s.fr rs=true→∀ n,n∈(aR P st.fr rs).log st.hp→n∈Gq s.fr rs
 |[],_,n,hn=>by simp[aR,pure,RM.log]at hn
 |r::rs,hl,n,hn=>by
  unfold wG at hl
  simp only[List.all_cons,Bool.and_eq_true]at hl
  have ih:=GJ (P:=P) h (rs:=rs) (by unfold wG; exact hl.2) n
  simp only[aR,RM.ej]at hn
  unfold Gq
  rw[List.flatMap_cons]
  rcases List.mem_append.1 hn with hn|hn
  ·refine List.mem_append.2 (.inl ?_)
   cases r with
   |tmp t=>simp[jK,pure,RM.log]at hn
   |cell a t=>
    simp only[jK]at hn
    have hd:bN (cH s.fr a)=false:=by simpa using hl.1
    have:=HS hn
    rw[←R.names ((h.fr a).live hd)]at this
    exact this
  ·split at hn
   ·rcases List.mem_append.1 hn with hn|hn
    ·exact List.mem_append.2 (.inr (ih hn))
    ·split at hn
     ·simp[pure,RM.log]at hn
     ·simp at hn
   ·simp at hn
theorem Dr[ab]{T:dm}{H:ah T.den}:∀ {l:List (SV T.den)} {m:List AV},aw (R T H) l m→l.all isHole=true→m.all isAny=true
 |[],[],_,_=>rfl
 |x::xs,y::ys,h,hl=>by
  simp only[List.all_cons,Bool.and_eq_true]at hl ⊢
  refine⟨?_,Dr h.2 hl.2⟩
  have h1:=h.1
  have h2:=hl.1
  unfold isHole at h2
  split at h2
  ·simp only[R]at h1
   rw[h1]; rfl
  ·simp at h2
theorem qH[ab]{T:dm}(hT:T.Ok){Q:gH}(hQ:Q.Ok)(hZ:T.tC Q){ops:Array Oper}{hp:af}{H:ah T.den}(hH:H.length=hp.length){ρ:Type}{r:ρ}{f:FuncId}:
  ∀ (l:List Oper) (s:bx T.den) (q:v9) (ov:Option Nat) (rd:List Nat) (K:bx T.den→Option Nat→List Nat→Tr ρ),RS T s ⟨f,q.fr,aP hp q.ov q.nw⟩→ov=q.ov.map (·.1)→(∀ n o,q.ov=some (n,o)→∃ o0,hp[n]?=some (some o0))→Fm H s.hp →
  (uI Q hp.length l s ov rd K).run=some r →
  ∃ s' HT rd2 q',aF hp (iQ Q.P hp.length ops l q) q' rd2∧RS T s' ⟨f,q'.fr,aP hp q'.ov q'.nw⟩∧HT=q'.ov.map (·.1)∧(∀ n o,q'.ov=some (n,o)→∃ o0,hp[n]?=some (some o0))∧Fm H s'.hp∧(K s' HT (rd++rd2)).run=some r
 |[],s,q,ov,rd,K,h,wk,hex,hb,hk=>⟨s,ov,[],q,aF.pure _,h,wk,hex,hb,by rw[List.append_nil]; exact hk⟩
 |o::l,s,q,ov,rd,K,h,wk,hex,hb,hk=>by
  simp only[uI]at hk
  split at hk
  ·simp[Tr.run]at hk
  rename_i hg
  have hw:cF ops q.fr o=some true:=by simp[cF,hg]
  split at hk
  ·simp[Tr.run]at hk
  ·rename_i DI
   rw[cD]at hk
   have he:RE T s.hp (aP hp q.ov q.nw) (.lit cK) [] ⟨.lit cK,[]⟩:=⟨bk _,h.hp,dh.refl _,fun q h=>by simp at h,fun _ _ _=>rfl,Nat.le_refl _,fun _ _ h=>by simp at h⟩
   obtain⟨g1,_⟩:=h.step he o.dst
   obtain⟨s',HT,rd2,q',i1,i2,i3,i4,i5,hk⟩:=qH hT hQ hZ (ops:=ops) hH l _ { q with fr:=bC q.fr o.dst (.lit cK) } ov rd K g1 wk hex (by simpa[bx.step,ba] using hb) hk
   refine⟨s',HT,rd2,q',?_,i2,i3,i4,i5,hk⟩
   simp only[iQ,hw,DI]
   cases hd:o.dst with
   |none=>rw[hd]at i1; exact i1
   |some d=>rw[hd]at i1; exact i1
  ·rename_i TH LS
   have hlen:s.hp.length=hp.length+q.nw.length:=h.hp.length.trans nT
   obtain⟨v,wr,rd',e,g1,g2,hk⟩:=Fg hT hQ hZ h.hp (.inl rfl) (fun x=>h.ev x) hk
   simp only at hk
   rw[hlen]at g1
   have e1:iQ Q.P hp.length ops (o::l) q=((aK Q.P (hp.length+q.nw.length) (ay q.fr) o).gJ hp.length q.ov q.nw >>= fun e=>match e.wr.all fun q=>Nat.ble hp.length q.1 with
     |true=>iQ Q.P hp.length ops l { q with fr:=bC q.fr o.dst e.val,nw:=oZ hp.length q.nw e.wr }
     |false=>(match q.ov,e.wr with
      |none,[(n,o')]=>.get n fun o0=>(match ru Q.P (ay q.fr) o.op n o0 with
        |true=>iQ Q.P hp.length ops l { q with fr:=bC q.fr o.dst e.val,ov:=some (n,o') }
        |false=>.fail)
      |_,_=>.fail)):=by
    simp only[iQ,hw]
    rfl
   rw[e1]
   split at hk
   ·rename_i bf
    rw[cD]at hk
    obtain⟨g3,_⟩:=h.step g2 o.dst
    have Ds:e.wr.all (fun q=>Nat.ble hp.length q.1)=true:=by
     refine List.all_eq_true.2 fun x hx=>?_
     obtain⟨y,hy,Vc⟩:=List.mem_map.1 (g2.names x hx)
     have:=List.all_eq_true.1 bf y hy
     rw[←Vc]; exact this
    rw[pD e.wr fun x hx=>Nat.le_of_ble_eq_true (List.all_eq_true.1 Ds x hx)]at g3
    have oQ:Fm H (s.step o.dst v wr).hp:=by
     intro n hn o' cZ
     refine hb n hn o' ?_
     have:n∉wr.map (·.1):=by
      intro hm
      obtain⟨y,hy,rfl⟩:=List.mem_map.1 hm
      have:=Nat.le_of_ble_eq_true (List.all_eq_true.1 bf y hy)
      omega
     rw[←g2.Bc n this (by omega)]
     exact cZ
    obtain⟨s',HT,rd2,q',i1,i2,i3,i4,i5,hk⟩:=qH hT hQ hZ (ops:=ops) hH l _ { q with fr:=bC q.fr o.dst e.val,nw:=oZ hp.length q.nw e.wr } ov (rd++rd') K g3 wk hex oQ hk
    refine⟨s',HT,rd'++rd2,q',?_,i2,i3,i4,i5,by rw[←List.append_assoc]; exact hk⟩
    refine aF.bind g1.gJ ?_
    simp only[Ds]
    exact i1
   ·split at hk
    case h_2=>simp[Tr.run]at hk
    rename_i n o' bf aaR
    split at hk
    case h_2=>simp[Tr.run]at hk
    rename_i hh
    rw[Bool.and_eq_true]at hh
    obtain⟨bZ,gG⟩:=hh
    have bZ:n<hp.length:=by simpa using bZ
    have PZ:q.ov=none:=by
     cases hq:q.ov with
     |none=>rfl
     |some x=>rw[hq]at wk; simp at wk
    unfold Gp at gG
    split at gG
    case h_2=>simp at gG
    rename_i t a x DI
    split at gG
    case h_2=>simp at gG
    rename_i r0 n' c i j g f cur es O4 Sv yD
    split at gG
    case h_2=>simp at gG
    rename_i l0 wm
    simp only[Bool.and_eq_true]at gG
    obtain⟨⟨⟨⟨c1,c2⟩,c3⟩,c4⟩,c5⟩:=gG
    obtain rfl:=Nat.eq_of_beq_eq_true c1
    have L4:=h.ev a
    rw[Sv]at L4
    have L4:=L4.live rfl
    simp only[R]at L4
    obtain⟨aq,L4,_⟩:=L4
    obtain⟨dst,op,type,pos,after,guard⟩:=o
    simp only at DI
    subst DI
    obtain⟨Vi,AB⟩:=KY g1.1 L4
    obtain⟨ao,Hh,dA⟩:=h.hp.obj yD
    obtain⟨es',rfl,cC,_⟩:=dA
    obtain⟨l1,sw,Gy⟩:=aw.get (aO.1 cC) wm
    simp only[R]at Gy
    obtain⟨l',rfl,Gy⟩:=Gy
    rw[PZ]at Hh
    have ui:hp[n']?=some (some (.arr g false f es')):=by
     grind[aP,pC]
    obtain⟨r1,wb,_,kF,_⟩:=hQ.row _ _ O4
    have SB:ru Q.P (ay q.fr) (.store t a x) n' (.arr g false f es')=true:=by
     simp only[ru,wb,L4,sw,Bool.and_eq_true]
     refine⟨⟨c1,?_⟩,?_⟩
     ·rw[←aw.length (aO.1 Gy),kF]; exact c2
     ·rw[kF]
      exact Dr (((aO.1 Gy).drop j).take r0.size) c3
    have Ds:e.wr.all (fun q=>Nat.ble hp.length q.1)=false:=by
     simp_all
    rw[cD]at hk
    obtain⟨g3,_⟩:=h.step g2 dst
    simp only at g3
    rw[AB,PZ,xA ui]at g3
    have oQ:Fm H (s.step dst v [(n',o')]).hp:=by
     intro m hm om X0
     by_cases e:m=n'
     ·subst e
      have Nz:(ba s.hp [(m,o')])[m]?=some (some om):=X0
      simp only[ba,bJ]at Nz
      rw[if_neg (by omega),List.getElem?_set_self (by omega)]at Nz
      simp only[Option.some.injEq]at Nz
      subst Nz
      obtain⟨o1,b1,b2,b3⟩:=hb m hm _ yD
      refine⟨o1,b1,b2.trans (Nat.eq_of_beq_eq_true c4),b3.trans (Nat.eq_of_beq_eq_true c5)⟩
     ·refine hb m hm om ?_
      rw[←g2.Bc m (by simpa using e) (by omega)]
      exact X0
    obtain⟨s',HT,rd2,q',i1,i2,i3,i4,i5,hk⟩:=qH hT hQ hZ (ops:=ops) hH l _ { q with fr:=bC q.fr dst e.val,ov:=some (n',Vi) } (some n') (rd++(rd'++[n'])) K g3 rfl
     (fun m om hm=>by simp only[Option.some.injEq,Prod.mk.injEq]at hm; obtain⟨rfl,rfl⟩:=hm; exact⟨_,ui⟩) oQ hk
    refine⟨s',HT,rd'++(n'::rd2),q',?_,i2,i3,i4,i5,by simpa using hk⟩
    refine aF.bind g1.gJ ?_
    rw[AB]at Ds
    simp only[AB,Ds,PZ]
    refine aF.get ui ?_
    simp only[SB]
    exact i1
theorem HU[ab]{T:dm}(hT:T.Ok){Q:gH}(hQ:Q.Ok)(hZ:T.tC Q){hp:af}{H:ah T.den}(hH:H.length=hp.length){ρ:Type}{r:ρ}{f:FuncId}:
  ∀ (c:Code) (s:bx T.den) (q:v9) (ov:Option Nat) (rd:List Nat) (K:Bool→bx T.den→Option Nat→List Nat→Tr ρ),RS T s ⟨f,q.fr,aP hp q.ov q.nw⟩→ov=q.ov.map (·.1)→(∀ n o,q.ov=some (n,o)→∃ o0,hp[n]?=some (some o0))→Fm H s.hp →
  (lJ Q hp.length c s ov rd K).run=some r →
  ∃ b s' HT rd2 q',aF hp (gw Q.P hp.length c q) (q',b) rd2∧RS T s' ⟨f,q'.fr,aP hp q'.ov q'.nw⟩∧HT=q'.ov.map (·.1)∧(∀ n o,q'.ov=some (n,o)→∃ o0,hp[n]?=some (some o0))∧Fm H s'.hp∧(K b s' HT (rd++rd2)).run=some r:=by
 intro c
 induction c with
 |skip=>intro s q ov rd K h wk hex hb hk; exact⟨false,s,ov,[],q,aF.pure _,h,wk,hex,hb,by rw[List.append_nil]; exact hk⟩
 |ret=>intro s q ov rd K h wk hex hb hk; exact⟨true,s,ov,[],q,aF.pure _,h,wk,hex,hb,by rw[List.append_nil]; exact hk⟩
 |seq a b Ga DS=>
  intro s q ov rd K h wk hex hb hk
  simp only[lJ]at hk
  obtain⟨z,s1,QL,QM,q1,g1,g2,g3,g4,g5,hk⟩:=Ga s q ov rd _ h wk hex hb hk
  cases z with
  |true=>exact⟨true,s1,QL,QM++[],q1,by simp only[gw]; exact aF.bind g1 (aF.pure _),g2,g3,g4,g5,by rw[List.append_nil]; exact hk⟩
  |false=>
   obtain⟨z,s2,ov2,rd2,q2,i1,i2,i3,i4,i5,hk⟩:=DS s1 q1 QL _ K g2 g3 g4 g5 hk
   exact⟨z,s2,ov2,QM++rd2,q2,by simp only[gw]; exact aF.bind g1 i1,i2,i3,i4,i5,by rw[←List.append_assoc]; exact hk⟩
 |cond o a b Ga DS=>
  intro s q ov rd K h wk hex hb hk
  simp only[lJ]at hk
  split at hk
  ·rename_i t hs
   have ha:=(h.ev o).live (by rw[hs]; rfl)
   rw[hs]at ha
   have ha:ay q.fr o=.lit (.bool t):=ha
   rcases ff hk with ⟨rfl,hk⟩|⟨rfl,hk⟩
   ·obtain⟨z,s1,QL,QM,q1,g1,g⟩:=Ga s q ov rd K h wk hex hb hk
    exact⟨z,s1,QL,QM,q1,by simp only[gw,ha]; exact g1,g⟩
   ·obtain⟨z,s1,QL,QM,q1,g1,g⟩:=DS s q ov rd K h wk hex hb hk
    exact⟨z,s1,QL,QM,q1,by simp only[gw,ha]; exact g1,g⟩
  ·simp[Tr.run]at hk
 |region id ops draw=>
  intro s q ov rd K h wk hex hb hk
  cases draw with
  |true=>simp[lJ,Tr.run]at hk
  |false=>
   simp only[lJ]at hk
   obtain⟨s',HT,rd2,q',g1,g2,g3,g4,g5,hk⟩:=qH hT hQ hZ (ops:=ops) hH ops.toList s q ov rd _ h wk hex hb hk
   exact⟨false,s',HT,rd2++[],q',by simp only[gw]; exact aF.bind g1 (aF.pure _),g2,g3,g4,g5,by rw[List.append_nil]; exact hk⟩
 |_=>intro s q ov rd K h wk hex hb hk; simp[lJ,Tr.run]at hk
section
variable {T:dm}
theorem aw.p6{α β:Type}{P:α→β→Prop}:∀ {l:List α} {m:List β},aw P l m→∀ {i:Nat} {x:α} {y:β},m[i]?=some y→P x y→aw P (l.set i x) m
 |_::_,_::_,h,0,x,y,hy,hp=>by simp at hy; subst hy; exact⟨hp,h.2⟩
 |_::_,_::_,h,i+1,x,y,hy,hp=>⟨h.1,aw.p6 h.2 (by simpa using hy) hp⟩
 |[],[],_,_,_,_,hy,_=>by simp at hy
theorem uY[ab]{s:bx T.den}{st:St}(h:RS T s st){n:Nat}{o o':aC T.den}(ho:s.hp[n]?=some (some o))(hc:o'.cur=o.cur)(hl:o'.len=o.len)(mT:o.isRec=false)
  (hr:∀ a,RO T s.hp o a→RO T s.hp o' a):RS T { s with hp:=s.hp.set n (some o'),wh:=n::s.wh } st∧bh s { s with hp:=s.hp.set n (some o'),wh:=n::s.wh }:=by
 have hn:=(List.getElem?_eq_some_iff.1 ho).1
 obtain⟨a,ha,hra⟩:=h.hp.obj ho
 have hg:dh s.hp (s.hp.set n (some o')):=by
  intro m x hm
  by_cases e:m=n
  ·simp_all
  ·grind
 refine⟨⟨h.fn,h.n,fun t=>(h.fr t).mono hg,?_,h.js.Bc fun m hm=>⟨?_,rfl⟩⟩,⟨rfl,rfl,fun _ _=>rfl,fun _ h=>h,fun m hm hw=>?_,fun m hm=>List.mem_cons_of_mem _ hm,by simp,hg⟩⟩
 ·exact aw.p6 (aw.mono (fun _ _ h=>Ba.mono hg h) h.hp) (y:=some a) ha (Ba.mono hg (show Ba T s.hp (some o') (some a) from hr a hra))
 ·have dK:m≠n:=by
   grind[recAt]
  rw[List.getElem?_set_ne (Ne.symm dK)]
 ·simp only at hw ⊢
  rw[List.getElem?_set_ne (fun e=>hw (by rw[e]; simp))]
theorem sr[ab]{s:bx T.den}{st:St}(h:RS T s st){d:Nat}{v:SV T.den}(hr:∀ a,R T s.hp (cH s.fr d) a→R T s.hp v a)(hd:bN (cH s.fr d)=false):
  RS T { s with fr:=tn s.n s.fr d v,wf:=d::s.wf } st∧bh s { s with fr:=tn s.n s.fr d v,wf:=d::s.wf }:=by
 refine⟨⟨h.fn,h.n,fun t=>?_,h.hp,h.js⟩,⟨rfl,rfl,fun t ht=>?_,fun t ht=>List.mem_cons_of_mem _ ht,fun _ _ _=>rfl,fun _ h=>h,Nat.le_refl _,dh.refl _⟩⟩
 ·simp only
  rw[kg]
  split
  ·rename_i e
   rw[e.1]
   exact .inr (hr _ ((h.fr d).live hd))
  ·exact h.fr t
 ·simp only at ht ⊢
  rw[kg,if_neg]
  exact fun e=>ht (by rw[e.1]; simp)
theorem ss[ab]{s:bx T.den}{st:St}(h:RS T s st){d j:Nat}{v v':SV T.den}(hc:cellOf s d j=some v)(hd:bN v=false)(hr:∀ a,R T s.hp v a→R T s.hp v' a)(lZ:aE v'=true):
  RS T (setCell s d j v') st∧bh s (setCell s d j v'):=by
 unfold cellOf at hc
 unfold setCell
 split at hc
 ·rename_i n c i k he
  split at hc
  case h_2=>simp at hc
  rename_i g cl f cur es ho
  split at hc
  case h_2=>simp at hc
  rename_i l hl
  refine uY h ho rfl (by simp[aC.len]) rfl fun a ha=>?_
  obtain⟨es',rfl,h1,h2⟩:=ha
  obtain⟨ea,h3,h4⟩:=aw.get (aO.1 h1) hl
  simp only[R]at h4
  obtain⟨l',rfl,h5⟩:=h4
  obtain⟨b,h6,h7⟩:=aw.get (aO.1 h5) hc
  refine⟨es',rfl,aO.2 (aw.p6 (aO.1 h1) h3 ?_),fun VU=>?_⟩
  ·simp only[R]
   exact⟨l',rfl,aO.2 (aw.p6 (aO.1 h5) h6 (hr _ h7))⟩
  ·have h8:=h2 VU
   rw[jc,List.all_eq_true]at h8 ⊢
   intro x hx
   rcases List.mem_or_eq_of_mem_set hx with hx|rfl
   ·exact h8 x hx
   ·have h9:=h8 _ (List.mem_of_getElem? hl)
    simp only[aE]at h9 ⊢
    rw[jc,List.all_eq_true]at h9 ⊢
    intro y hy
    rcases List.mem_or_eq_of_mem_set hy with hy|rfl
    ·exact h9 y hy
    ·exact lZ
 ·rename_i l he
  refine sr h (fun a ha=>?_) (by rw[he]; rfl)
  rw[he]at ha
  simp only[R]at ha ⊢
  obtain⟨l',rfl,h5⟩:=ha
  obtain⟨b,h6,h7⟩:=aw.get (aO.1 h5) hc
  exact⟨l',rfl,aO.2 (aw.p6 (aO.1 h5) h6 (hr _ h7))⟩
 ·rename_i h1 h2
  split at hc
  case h_2=>simp at hc
  simp only[Option.some.injEq]at hc
  subst hc
  exact sr h hr hd
theorem Dt{ρ:Type}{r:ρ}{n:Int}{K:Int→Tr ρ}:∀ {b m:Nat},(Kr b m n K).run=some r→∃ m':Nat,n=Int.ofNat m'∧(K (Int.ofNat m')).run=some r
 |0,m,h=>by simp[Kr,Tr.run]at h
 |b+1,m,h=>by
  simp only[Kr,Tr.run]at h
  cases hb:n==Int.ofNat m with
  |true=>
   rw[hb]at h
   exact⟨m,eq_of_beq hb,h⟩
  |false=>
   rw[hb]at h
   exact Dt h
theorem yn{α:Type}:∀ {l:List α} {i:Nat} {x:α},l[i]?=some x→l.drop i=x::l.drop (i+1)
 |y::ys,0,x,h=>by simp at h; subst h; simp
 |y::ys,i+1,x,h=>by simp at h ⊢; exact yn h
 |[],i,x,h=>by simp at h
theorem uZ[ab]{ρ:Type}{r:ρ}{t:Nat}{l:List (T.den t)}:∀ {n i:Nat} {K:List (SV T.den)→Tr ρ},(CN t l n i K).run=some r→∃ xs:List (T.den t),xs.length=n∧(l.drop i).take n=xs∧(K (xs.map (T.up t))).run=some r
 |0,i,K,h=>⟨[],rfl,by simp,h⟩
 |n+1,i,K,h=>by
  simp only[CN,Tr.run,Option.bind_eq_some_iff]at h
  obtain⟨x,hx,h⟩:=h
  obtain⟨xs,h1,h2,h3⟩:=uZ h
  refine⟨x::xs,by simp[h1],?_,h3⟩
  rw[yn hx,List.take_succ_cons,h2]
theorem KZ[ab](hT:T.Ok){H:ah T.den}{t:Nat}:∀ {l:List (T.den t)} {m:List AV},aw (T.rp t) l m→RL T H (l.map (T.up t)) m∧av (l.map (T.up t))=true
 |[],[],_=>by simp[RL,av]
 |x::xs,y::ys,h=>by
  obtain⟨h1,h2⟩:=KZ hT (H:=H) h.2
  simp only[List.map_cons,RL,av,Bool.and_eq_true]
  exact⟨⟨hT.up _ _ _ H h.1,h1⟩,uO hT h.1,h2⟩
theorem K0[ab](hT:T.Ok){ρ:Type}{r:ρ}{w:Tw}{K:bx T.den→Tr ρ}{s:bx T.den}{st:St}(h:RS T s st)(hk:(xS s w K).run=some r):∃ s',RS T s' st∧bh s s'∧(K s').run=some r:=by
 cases w with
 |num d j b=>
  simp only[xS]at hk
  split at hk
  case h_2=>simp[Tr.run]at hk
  rename_i k n hc
  obtain⟨m,rfl,Ee⟩:=Dt hk
  clear hk
  have hk:=Ee
  rw[force_eq]at hk
  obtain⟨h1,h2⟩:=ss h hc rfl (v':=.lit (.int k (Int.ofNat m))) (fun a ha=>ha) rfl
  exact⟨_,h1,h2,hk⟩
 |Xy d j n=>
  simp only[xS]at hk
  split at hk
  case h_2=>simp[Tr.run]at hk
  rename_i t l hc
  obtain⟨g1,hk⟩:=aX hk
  simp only[Bool.and_eq_true,decide_eq_true_eq]at g1
  obtain⟨g0,g1⟩:=g1
  have g0:0<n:=by simpa using g0
  obtain⟨xs,e1,e2,hk⟩:=uZ hk
  rw[List.drop_zero,←g1,List.take_length]at e2
  subst e2
  rw[force_eq]at hk
  have lZ:aE (.sl (l.map (T.up t)):SV T.den)=true:=rfl
  obtain⟨h1,h2⟩:=ss h hc rfl (v':=.sl (l.map (T.up t))) (fun a ha=>by
   simp only[R]at ha ⊢
   rcases ha with ⟨l',rfl,ha⟩|⟨rfl,_⟩
   ·obtain⟨b1,b2⟩:=KZ hT (H:=s.hp) ha
    exact⟨l',rfl,b1,b2⟩
   ·simp at g1; omega) lZ
  exact⟨_,h1,h2,hk⟩
 |arr d n=>
  simp only[xS]at hk
  split at hk
  case h_2=>simp[Tr.run]at hk
  split at hk
  case h_2=>simp[Tr.run]at hk
  rename_i g f cur t l ho
  obtain⟨g1,hk⟩:=aX hk
  simp only[decide_eq_true_eq]at g1
  obtain⟨xs,e1,e2,hk⟩:=uZ hk
  rw[List.drop_zero,←g1,List.take_length]at e2
  subst e2
  rw[force_eq]at hk
  obtain⟨h1,h2⟩:=uY h ho (o':=.arr g true f cur (l.map (T.up t))) rfl (by simp[aC.len]) rfl (fun a ha=>by
   obtain⟨es',rfl,ha⟩:=ha
   obtain⟨b1,b2⟩:=KZ hT (H:=s.hp) ha
   exact⟨es',rfl,b1,fun _=>b2⟩)
  exact⟨_,h1,h2,hk⟩
 |int d j=>
  simp only[xS]at hk
  split at hk
  case h_2=>simp[Tr.run]at hk
  rename_i k n hc
  simp only[Tr.run,Option.bind_some]at hk
  rw[force_eq]at hk
  obtain⟨h1,h2⟩:=ss h hc rfl (v':=.lit (.int k n)) (fun a ha=>ha) rfl
  exact⟨_,h1,h2,hk⟩
 |name d=>
  simp only[xS]at hk
  split at hk
  case h_2=>simp[Tr.run]at hk
  rename_i esz nm c rg cap hd
  split at hk
  case h_2=>simp[Tr.run]at hk
  rename_i g f cur t l ho
  simp only[Tr.run,Option.bind_some]at hk
  obtain⟨h1,h2⟩:=uY h ho (o':=.bU g f cur t l) rfl rfl rfl (fun a ha=>ha)
  split at hk
  ·rw[force_eq]at hk
   exact⟨_,h1,h2,hk⟩
  ·rename_i off len
   simp only[Tr.run,Option.bind_some]at hk
   rw[force_eq]at hk
   obtain⟨h3,h4⟩:=sr h1 (d:=d) (v:=.bp esz nm c (some (off,len)) cap) (fun a ha=>by simp only[hd]at ha; exact ha) (by simp only[hd]; rfl)
   exact⟨_,h3,h2.trans h4,hk⟩
theorem Bn[ab](hT:T.Ok){ρ:Type}{r:ρ}{K:bx T.den→Tr ρ}{st:St}:∀ {l:List Tw} {s:bx T.den},RS T s st→(R1 l s K).run=some r→∃ s',RS T s' st∧bh s s'∧(K s').run=some r
 |[],s,h,hk=>⟨s,h,bh.refl _,hk⟩
 |w::l,s,h,hk=>by
  obtain⟨s1,h1,h2,hk⟩:=K0 hT h hk
  obtain⟨s2,h3,h4,hk⟩:=Bn hT h1 hk
  exact⟨s2,h3,h2.trans h4,hk⟩
theorem P0[ab](hT:T.Ok){ρ:Type}{r:ρ}{l:Tmp→List Tw}{dst:Option Tmp}{K:bx T.den→Tr ρ}{s:bx T.den}{st:St}(h:RS T s st)(hk:(R2 l dst s K).run=some r):∃ s',RS T s' st∧bh s s'∧(K s').run=some r:=by
 cases dst with
 |none=>exact⟨s,h,bh.refl _,hk⟩
 |some d=>exact Bn hT h hk
end
theorem u0[ab]{T:dm}{ρ:Type}{r:ρ}{K:bx T.den→Tr ρ}:∀ {l:List (Nat×Nat)} {s:bx T.den} {st:St},RS T s st→(xR l s K).run=some r→∃ s',RS T s' (gC l st)∧bh s s'∧(K s').run=some r
 |[],s,st,h,hk=>⟨s,h,bh.refl _,hk⟩
 |(d,j)::l,s,st,h,hk=>by
  unfold xR at hk
  have hd:=h.fr d
  split at hk
  case h_2=>simp[Tr.run]at hk
  rename_i n c i k he
  rw[he]at hd
  have hd:=hd.live rfl
  simp only[R]at hd
  obtain⟨aq,hd,bX⟩:=hd
  split at hk
  case h_2=>simp[Tr.run]at hk
  rename_i g cl f cur es ho
  obtain⟨ao,cZ,dA⟩:=h.hp.obj ho
  obtain⟨es',rfl,cC,lZ⟩:=dA
  split at hk
  case h_2=>simp[Tr.run]at hk
  rename_i e' FU
  obtain⟨e,LN,xw⟩:=Option.bind_eq_some_iff.1 FU
  obtain⟨ea,Sv,DW⟩:=aw.get (aO.1 cC) LN
  unfold zT at xw
  split at xw
  case h_2=>simp at xw
  rename_i l0
  split at xw
  case h_2=>simp at xw
  rename_i UH
  simp only[Option.some.injEq]at xw
  subst xw
  simp only[R]at DW
  obtain⟨l',rfl,Gy⟩:=DW
  have hn:=(List.getElem?_eq_some_iff.1 ho).1
  have VV:Nat.blt (k+j) l'.length=true:=by rw[←aw.length (aO.1 Gy)]; exact UH
  have Fb:lX st d j={ st with hp:=st.hp.set n (some (.arr g false f (es'.set i (.agg (l'.set (k+j) .any))))) }:=by
   unfold lX
   rw[hd]
   simp only[cZ,Sv,Option.bind_some,sD,VV]
  rw[cD]at hk
  have hg:dh s.hp (s.hp.set n (some (.arr g false f cur (es.set i (.agg (l0.set (k+j) .hole)))))):=by
   intro m o hm
   by_cases e:m=n
   ·subst e
    rw[ho]at hm
    simp only[Option.some.injEq]at hm
    subst hm
    exact⟨_,List.getElem?_set_self hn,Nat.le_refl _,fun _=>by simp[aC.len]⟩
   ·grind
  have dA:RO T (s.hp.set n (some (.arr g false f cur (es.set i (.agg (l0.set (k+j) .hole)))))) (.arr g false f cur (es.set i (.agg (l0.set (k+j) .hole)))) (.arr g false f (es'.set i (.agg (l'.set (k+j) .any)))):=by
   refine⟨_,rfl,aO.2 (((aO.1 cC).mono fun _ _ h=>h.mono hg).set i ?_),fun h=>by cases h⟩
   simp only[R]
   exact⟨_,rfl,aO.2 (((aO.1 Gy).mono fun _ _ h=>h.mono hg).set (k+j) (by simp[R]))⟩
  have ee:ba s.hp [(n,.arr g false f cur (es.set i (.agg (l0.set (k+j) .hole))))]=s.hp.set n (some (.arr g false f cur (es.set i (.agg (l0.set (k+j) .hole))))):=by
   grind[ba,bJ]
  have OC:ak st.hp [(n,.arr g false f (es'.set i (.agg (l'.set (k+j) .any))))]=st.hp.set n (some (.arr g false f (es'.set i (.agg (l'.set (k+j) .any))))):=by
   simp only[ak]
   exact ir (List.getElem?_eq_some_iff.1 cZ).1
  have hE:RE T s.hp st.hp (.lit undef) [(n,.arr g false f cur (es.set i (.agg (l0.set (k+j) .hole))))] ⟨.undef,[(n,.arr g false f (es'.set i (.agg (l'.set (k+j) .any))))]⟩:=by
   refine⟨bk _,?_,by rw[ee]; exact hg,fun q hq=>by simp only[List.mem_singleton]at hq; subst hq; simp,fun m hm hl=>?_,by rw[ee]; simp,fun m hm hc=>?_⟩
   ·rw[ee,OC]
    exact(aw.mono (fun _ _ h=>Ba.mono hg h) h.hp).set n dA
   ·grind
   ·simp_all[aC.isRec,recAt]
  obtain⟨g1,g2⟩:=h.step hE none
  rw[OC]at g1
  have MV:RS T (s.step none (.lit undef) [(n,.arr g false f cur (es.set i (.agg (l0.set (k+j) .hole))))]) (lX st d j):=by
   rw[Fb]; exact g1
  obtain⟨s',i1,i2,i3⟩:=u0 MV hk
  exact⟨s',i1,g2.trans i2,i3⟩
section
variable [ab]{S:nW}(hS:S.Ok)
include hS
theorem P3(f:FuncId):(S.Qf f).Ok:=⟨hS.Q.row,hS.Q.kind,hS.Q.Oi,hS.Q.map⟩
theorem K1{ρ:Type}{r:ρ}{g:FuncId}{args:List (SV S.T.den)}{as:List AV}{H:ah S.T.den}{hp:af}{K:EK S.T ρ}(hh:RH S.T H hp)(ha:RL S.T H args as)(hk:(Kt S g args H K).run=some r):
  S.C.kind g=.imp∧S.C.qT g=none∧∃ v rd e,aF hp (yz S.C.P hp.length g as) e rd∧RE S.T H hp v [] e∧(K v [] rd).run=some r:=by
 unfold Kt at hk
 split at hk
 case h_2=>simp[Tr.run]at hk
 rename_i fn VW P4 qM
 split at hk
 case h_2=>simp[Tr.run]at hk
 rename_i c hc
 split at hk
 case h_1=>simp[Tr.run]at hk
 rename_i hD
 have gG:=yi (f:=g) ha hh fn.ntmps [] (js:=[]) (fun n st h=>by cases h)
 have hlen:H.length=hp.length:=hh.length
 have el:aP hp none []=hp:=by simp[aP,pC]
 rw[hlen]at hk
 obtain⟨b,s',ov,rd2,q,g1,g2,g3,g4,g5,hk⟩:=HU hS.T (P3 hS g) hS.Z hlen (f:=g) c _ ⟨as++List.replicate (fn.ntmps-as.length) .undef,none,[]⟩ none _ _ (by simp only[el]; exact gG) rfl (fun n o h=>by cases h) (fun n hn o ho=>⟨o,ho,rfl,rfl⟩) hk
 obtain⟨l,m,i1,i2,hk⟩:=og hS.T hS.Q g2 hk
 have VJ:(aR S.C.P q.fr fn.results.toList).run (aP hp q.ov q.nw)=some m:=i1
 split at hk
 case h_2=>simp[Tr.run]at hk
 rename_i Hg
 simp only[Bool.and_eq_true]at Hg
 obtain⟨⟨c1,c2⟩,c3⟩:=Hg
 have X1:=Gz i2
 have hR:R S.T H (qN l) (cB m):=R.back g5 X1 (by rw[hlen]; exact c1)
 refine⟨VW,P4,qN l,_,⟨cB m,[]⟩,?_,⟨.inr hR,hh,dh.refl _,fun q h=>by simp at h,fun _ _ _=>rfl,Nat.le_refl _,fun _ _ h=>by simp at h⟩,hk⟩
 unfold yz
 rw[qM]
 simp only
 rw[hc]
 simp only
 rw[hD]
 simp only
 have Bm:(below hp.length (cB m)&&(match q.ov with
    |some (_,o)=>o.below hp.length
    |none=>true))=true:=by
  rw[Bool.and_eq_true]
  refine⟨by rw[←R.below X1]; exact c1,?_⟩
  cases hq:q.ov with
  |none=>rfl
  |some x=>
   obtain⟨n,o⟩:=x
   simp only
   rw[hq]at g3
   simp only[Option.map_some]at g3
   rw[g3]at c3
   simp only at c3
   split at c3
   case h_2=>simp at c3
   rename_i so OL
   obtain⟨o0,X2⟩:=g4 n o hq
   obtain⟨ao,VX,VY⟩:=aw.get g2.hp OL
   have bZ:=(List.getElem?_eq_some_iff.1 X2).1
   have:(aP hp q.ov q.nw)[n]?=some (some o):=by
    rw[hq]
    simp only[aP,pC,X2]
    rw[List.getElem?_append_left (by simpa using bZ),List.getElem?_set_self bZ]
   rw[this]at VX
   simp only[Option.some.injEq]at VX
   subst VX
   have:=z7 hS.T VY (n:=hp.length)
   rw[c3]at this
   exact this.symm
 have y1:aF hp (gw S.C.P hp.length c ⟨as++List.replicate (fn.ntmps-as.length) .undef,none,[]⟩) (q,b) rd2:=g1
 have y2:aF hp ((aR S.C.P q.fr fn.results.toList).gJ hp.length q.ov q.nw) m ((Gq s'.fr fn.results.toList).filter fun n=>Nat.blt n hp.length):=
  aF.SA ⟨VJ,fun n hn=>GJ g2 c2 n hn⟩
 have y3:=aF.bind (y1.VS) (f:=fun q=>(aR S.C.P q.1.fr fn.results.toList).gJ hp.length q.1.ov q.1.nw >>= fun l=>match below hp.length (cB l)&&(match q.1.ov with
    |some (_,o)=>o.below hp.length
    |none=>true) with
   |true=>(pure ⟨cB l,[]⟩:RM di)
   |false=>.fail) (aF.bind y2 (f:=fun l=>match below hp.length (cB l)&&(match q.ov with
    |some (_,o)=>o.below hp.length
    |none=>true) with
   |true=>(pure ⟨cB l,[]⟩:RM di)
   |false=>.fail) (b:=⟨cB m,[]⟩) (rd':=[]) (by simp only[Bm]; exact aF.pure _))
 rw[List.append_nil,←List.filter_append]at y3
 exact y3
theorem P5{ρ:Type}{r:ρ}{nm:Nat}{o:Oper}{s:bx S.T.den}{st:St}{K:EK S.T ρ}(h:RS S.T s st)(hn:nm=s.hp.length∨s.hp[nm]?=some none)(nJ:au o.op=false→nm=s.hp.length)(hk:(TO S nm o s K).run=some r):
  ∃ v wr rd e lg,BU S.C nm o st.fr st.hp=some (e,lg)∧(∀ n,n∈lg→n∈rd)∧RE S.T s.hp st.hp v wr e∧(K v wr rd).run=some r:=by
 have plain:(∀ c f,o.op=.call c→c.callee=.value f→False)→(∀ c m i,o.op=.call c→c.callee=.invoke m i→False)→(Nd (S.Qf s.fn) nm s.hp (cU s.fr) o K).run=some r →
   ∃ v wr rd e lg,BU S.C nm o st.fr st.hp=some (e,lg)∧(∀ n,n∈lg→n∈rd)∧RE S.T s.hp st.hp v wr e∧(K v wr rd).run=some r:=by
  intro h1 h2 hk
  obtain⟨v,wr,rd,e,g1,g2,g3⟩:=Fg hS.T (P3 hS s.fn) (Q:=S.Qf s.fn) hS.Z h.hp hn (fun x=>h.ev x) hk
  refine⟨v,wr,rd,e,_,?_,g1.2,g2,g3⟩
  rw[Ei h1 h2]
  have:=g1.1
  rw[show (S.Qf s.fn).P=S.C.P from rfl]at this
  rw[this]
  rfl
 unfold TO at hk
 split at hk
 ·rename_i c hc
  split at hk
  ·rename_i b hb
   exact plain (fun c' f h1 h2=>by rw[hc]at h1; simp only[Op.call.injEq]at h1; subst h1; rw[hb]at h2; cases h2) (fun c' m i h1 h2=>by rw[hc]at h1; simp only[Op.call.injEq]at h1; subst h1; rw[hb]at h2; cases h2) hk
  ·rename_i f hf
   split at hk
   ·simp[Tr.run]at hk
   rename_i g args hg
   split at hk
   ·rename_i pa
    split at hk
    case h_2=>simp[Tr.run]at hk
    rename_i σ hd hσ
    obtain⟨m,ub,yx⟩:=fX (h.ev f) (jf (fun x=>h.ev x) c.args.toList) hg
    obtain⟨v,wr,rd,e,lg,g2,g3,g4,g5⟩:=GC hS.T (hS.own g σ hσ) h.hp hn (yx hd) hk
    refine⟨v,wr,rd,_,lg,?_,g3,g4,g5⟩
    obtain⟨dst,op,type,pos,after,guard⟩:=o
    simp only at hc pa
    subst hc
    obtain⟨callee,cQ,lY⟩:=c
    simp only at hf
    subst hf
    rw[uc,ub,pa]
    exact g2
   rename_i pa
   split at hk
   case h_3=>simp[Tr.run]at hk
   case h_2=>
    rename_i hd _
    obtain⟨m,ub,yx⟩:=fX (h.ev f) (jf (fun x=>h.ev x) c.args.toList) hg
    obtain⟨VW,P4,v,rd,e,g1,g2,hk⟩:=K1 hS h.hp (yx hd) hk
    rw[show st.hp.length=nm from by rw[nJ (by assumption),h.hp.length]]at g1
    refine⟨v,[],rd,e,_,?_,g1.2,g2,hk⟩
    obtain⟨dst,op,type,pos,after,guard⟩:=o
    simp only at hc pa
    subst hc
    obtain⟨callee,cQ,lY⟩:=c
    simp only at hf
    subst hf
    rw[uc,ub,pa]
    simp only[Option.bind_some,pe,VW,P4,g1.1,Option.map_some]
   rename_i σ hd hσ
   obtain⟨m,ub,yx⟩:=fX (h.ev f) (jf (fun x=>h.ev x) c.args.toList) hg
   obtain⟨v,wr,rd,a,w,lg,_,g2,g3,g4,g5⟩:=wH hS.T (hS.sum g σ hσ) h.hp (yx hd) hk
   refine⟨v,wr,rd,_,lg,?_,g3,g4,g5⟩
   obtain⟨dst,op,type,pos,after,guard⟩:=o
   simp only at hc pa
   subst hc
   obtain⟨callee,cQ,lY⟩:=c
   simp only at hf
   subst hf
   rw[uc,ub,pa]
   exact g2 nm
  ·rename_i rv name hf
   split at hk
   ·simp[Tr.run]at hk
   rename_i g x hg
   obtain⟨ax,ub,QN⟩:=Dh (h.ev rv) hg
   split at hk
   case h_2=>simp[Tr.run]at hk
   rename_i σ hd hσ
   have yx:RL S.T s.hp (x::c.args.toList.map (cU s.fr)) (ax::c.args.toList.map (ay st.fr)):=by
    simp only[List.any_cons,Bool.or_eq_false_iff]at hd
    simp only[RL]
    exact⟨QN,iE (jf (fun x=>h.ev x) c.args.toList) hd.2⟩
   obtain⟨v,wr,rd,a,w,lg,_,g2,g3,g4,g5⟩:=wH hS.T (hS.sum g σ hσ) h.hp yx hk
   refine⟨v,wr,rd,_,lg,?_,g3,g4,g5⟩
   obtain⟨dst,op,type,pos,after,guard⟩:=o
   simp only at hc
   subst hc
   obtain⟨callee,cQ,lY⟩:=c
   simp only at hf
   subst hf
   rw[G0 ub (hS.sum g σ hσ).kind]
   exact g2 nm
 ·rename_i Mt
  exact plain (fun c' f h1 _=>Mt c' h1) (fun c' m i h1 _=>Mt c' h1) hk
theorem P6{k:Nat}(ih:oj S k){ρ:Type}{o:Oper}{s:bx S.T.den}{K:bx S.T.den→Tr ρ}{r:ρ}{st:St}(h:RS S.T s st)(hk:(Ni S (k+1) ρ o s K).run=some r):
  ∃ s' st',hX S.C o st=some (.norm st')∧RS S.T s' st'∧bh s s'∧(K s').run=some r:=by
 have plain:qb o.op=true→(Nd (S.Qf s.fn) s.hp.length s.hp (cU s.fr) o fun v wr _=>s.fb o.dst v wr fun s=>CM (match o.op with|.call _=>fun _=>[]|_=>S.C.qK s.fn) o.dst s
    fun s=>R2 (match o.op with|.call _=>fun _=>[]|_=>S.tw s.fn) o.dst s K).run=some r →
   ∃ s' st',hX S.C o st=some (.norm st')∧RS S.T s' st'∧bh s s'∧(K s').run=some r:=by
  intro h1 hk
  obtain⟨v,wr,rd,e,g1,g2,g3⟩:=Fg hS.T (P3 hS s.fn) (Q:=S.Qf s.fn) hS.Z h.hp (.inl rfl) (fun x=>h.ev x) hk
  replace g3:(s.fb o.dst v wr fun s=>CM (match o.op with|.call _=>fun _=>[]|_=>S.C.qK s.fn) o.dst s
    fun s=>R2 (match o.op with|.call _=>fun _=>[]|_=>S.tw s.fn) o.dst s K).run=some r:=g3
  rw[cD]at g3
  obtain⟨g4,g5⟩:=h.step g2 o.dst
  have qM:(s.step o.dst v wr).fn=st.fn:=h.fn
  rw[qM]at g3
  obtain⟨s1,i1,i2,i3⟩:=KV hS.T g4 g3
  obtain⟨s',j1,j2,j3⟩:=P0 hS.T i1 i3
  refine⟨s',_,?_,j1,g5.trans (i2.trans j2),j3⟩
  rw[w8 h1]
  have:=g1.1
  rw[h.hp.length]at this
  rw[show (S.Qf s.fn).P=S.C.P from rfl]at this
  rw[this]
  rfl
 unfold Ni at hk
 obtain⟨dst,op,type,pos,after,guard⟩:=o
 simp only at hk
 split at hk
 ·rename_i c
  obtain⟨callee,cQ,lY⟩:=c
  split at hk
  ·rename_i b hb
   simp only at hb
   subst hb
   refine plain rfl ?_
   have e:(fun (s:bx S.T.den)=>CM (fun _=>[]) dst s fun s=>R2 (fun _=>[]) dst s K)=K:=by
    funext s
    cases dst<;>rfl
   simp only[e]
   exact hk
  ·rename_i f hf
   simp only at hf
   subst hf
   split at hk
   ·-- a round of a range over a function
    split at hk
    case h_2=>simp[Tr.run]at hk
    rename_i n hn
    have Ch:=(h.ev f).live (by rw[hn]; rfl)
    rw[hn]at Ch
    simp only[R]at Ch
    split at hk
    case h_2=>simp[Tr.run]at hk
    rename_i fn ps as bd fr ho hj K2
    split at hk
    case h_2=>simp[Tr.run]at hk
    rename_i hc
    rw[force_eq]at hk
    have iV:=iE (jf (fun x=>h.ev x) cQ.toList) K2
    obtain⟨ao,cZ,dA⟩:=h.hp.obj ho
    obtain⟨x,vs,rfl,lR⟩:=dA
    obtain⟨Qq,Qr⟩:=h.js n _ hj
    have hx:x=.ready:=by
     simp_all[hG]
    subst hx
    have hlen:vs.length=fr.length:=lR.length.symm
    obtain⟨p1,p2⟩:=Ac (ps:=ps.toList) (xs:=cQ.toList.map (cU s.fr)) (as:=cQ.toList.map (ay st.fr)) (n:=fr.length) (fr:=mh 0 fr) (fa:=vs) (H:=s.hp) hlen (fun t=>by
     rw[uW]
     simp only[Nat.zero_le,if_true,Nat.sub_zero,List.getD_eq_getElem?_getD]
     cases hq:vs[t]? with
     |none=>
      have:fr[t]?=none:=by rw[List.getElem?_eq_none_iff]at hq ⊢; omega
      rw[this]
      exact bk undef
     |some a=>
      obtain⟨v,hv,hr⟩:=aw.get' lR hq
      rw[hv]
      rcases hr with ⟨rfl,_⟩|hr
      ·exact .inl rfl
      ·exact .inr hr) iV
    have DQ:RS S.T ⟨fn,fr.length,lI fr.length (mh 0 fr) ps.toList (cQ.toList.map (cU s.fr)),s.hp,[],s.wh,s.js⟩ ⟨fn,fu vs ps.toList (cQ.toList.map (ay st.fr)),st.hp⟩:=⟨rfl,p1,p2,h.hp,h.js⟩
    obtain⟨so1,o1,a1,a2,a3,hk⟩:=ih.c _ _ _ _ _ _ DQ hk
    cases so1 with
    |exit id s1=>simp[Tr.run]at hk
    |ret s1=>simp[Tr.run]at hk
    |norm s1=>
    obtain⟨T5,rfl,nh⟩:=a2
    simp only at hk
    split at hk
    case h_2=>simp[Tr.run]at hk
    rename_i wb
    obtain⟨_,sw⟩:=nh.js n _ wb
    obtain⟨b1,b2⟩:=GI nh.hp nh.js wb .busy
    have VZ:RS S.T { s1 with js:=A9 s1.js n .busy } { T5 with hp:=ow T5.hp n .busy }:=⟨nh.fn,nh.n,nh.fr,b1,b2⟩
    obtain⟨P7,o2,c1,c2,c3,hk⟩:=ih.c _ _ _ _ _ _ VZ hk
    have key:∀ (s2:bx S.T.den),bh { s1 with js:=A9 s1.js n .busy } s2→dh s.hp s2.hp∧s.hp.length≤s2.hp.length∧(∀ m:Nat,m<s.hp.length→m∉s2.wh→s2.hp[m]?=s.hp[m]?)∧∀ m,m∈s.wh→m∈s2.wh:=by
     intro s2 oS
     refine⟨a3.grow.trans oS.grow,Nat.le_trans a3.len oS.len,fun m hm hw=>?_,fun m hm=>oS.wh m (a3.wh m hm)⟩
     rw[oS.hp m (Nat.lt_of_lt_of_le hm a3.len) hw]
     exact a3.hp m hm (fun hc=>hw (oS.wh m hc))
    have K3:hX S.C ⟨dst,.call ⟨.value f,cQ,lY⟩,type,pos,after,guard⟩ st=gF (fun c s=>cP S.C c s) n (cQ.toList.map (ay st.fr)) dst st:=by
     rw[m8,Ch.1]
     rfl
    have hy:gF (fun c s=>cP S.C c s) n (cQ.toList.map (ay st.fr)) dst st=KW n dst st o2:=by
     clear c2
     unfold gF
     have e1:decide ((cQ.toList.map (ay st.fr)).length=ps.size)=true:=by
      simpa using Nat.eq_of_beq_eq_true hc
     simp only[cZ,e1,a1,sw,c1]
     cases o2<;>rfl
    cases P7 with
    |norm s2=>
     obtain⟨Nv,rfl,AE⟩:=c2
     obtain⟨k1,k2,k3,k4⟩:=key s2 c3
     obtain⟨s',st',d1,d2,d3,hk⟩:=Bl hS.T h AE k1 k2 k3 k4 hk
     exact⟨s',st',by rw[K3,hy]; exact d1,d2,d3,hk⟩
    |exit id s2=>
     obtain⟨Nv,rfl,AE⟩:=c2
     obtain⟨k1,k2,k3,k4⟩:=key s2 c3
     obtain⟨s',st',d1,d2,d3,hk⟩:=Bl hS.T h AE k1 k2 k3 k4 hk
     exact⟨s',st',by rw[K3,hy]; exact d1,d2,d3,hk⟩
    |ret s2=>
     obtain⟨Nv,rfl,AE⟩:=c2
     obtain⟨k1,k2,k3,k4⟩:=key s2 c3
     obtain⟨s',st',d1,d2,d3,hk⟩:=Bl hS.T h AE k1 k2 k3 k4 hk
     exact⟨s',st',by rw[K3,hy]; exact d1,d2,d3,hk⟩
   rename_i g args hg
   obtain⟨m,ub,yx⟩:=fX (h.ev f) (jf (fun x=>h.ev x) cQ.toList) hg
   split at hk
   ·rename_i pa
    split at hk
    case h_2=>simp[Tr.run]at hk
    rename_i σ hd hσ
    obtain⟨v,wr,rd,e,lg,g2,_,g4,g5⟩:=GC hS.T (hS.own g σ hσ) h.hp (.inl rfl) (yx hd) hk
    rw[cD]at g5
    obtain⟨g6,g7⟩:=h.step g4 dst
    refine⟨_,_,?_,g6,g7,g5⟩
    rw[m8,ub]
    rw[h.hp.length]at g2
    simp only[nL,qW,pa,g2,Option.bind_some,gz]
   rename_i pa
   split at hk
   ·rename_i σ hd hσ
    obtain⟨v,wr,rd,a,w,lg,g1,_,_,g4,g5⟩:=wH hS.T (hS.sum g σ hσ) h.hp (yx hd) hk
    rw[cD]at g5
    obtain⟨g6,g7⟩:=h.step g4 dst
    refine⟨_,_,?_,g6,g7,g5⟩
    rw[m8,ub]
    simp only[nL,qW,pa,(hS.sum g σ hσ).kind,g1,Option.bind_some,I5]
   ·rename_i hd hσ
    split at hk
    ·simp[Tr.run]at hk
    rename_i tf
    obtain⟨v,cq,oH,qG,a,eD,g1,g2,g3,gj,g4,g5,g6,g7,hk⟩:=ih.f _ _ _ _ _ _ _ _ _ _ (yx hd) h.hp h.js hk
    split at hk
    case h_2=>simp[Tr.run]at hk
    rename_i Bm
    rw[jH,cD]at hk
    obtain⟨nh,oS,t2⟩:=p5 hS.T h g2 g3 g4 g5 g6 g7 gj Bm
    obtain⟨g8,g9⟩:=nh.step (v:=v) (wr:=[]) (e:=⟨a,[]⟩) ⟨.inr t2,nh.hp,dh.refl _,fun q hq=>by simp at hq,fun _ _ _=>rfl,Nat.le_refl _,fun _ _ h=>by simp at h⟩ dst
    refine⟨_,_,?_,g8,oS.trans g9,hk⟩
    rw[m8,ub]
    simp only[nL,qW,pa,tf,g1,Option.bind_some,FM]
    rw[h.hp.length]
    rfl
   ·simp[Tr.run]at hk
  ·rename_i rv name yM
   simp only at yM
   subst yM
   split at hk
   ·simp[Tr.run]at hk
   rename_i g x hg
   obtain⟨ax,ub,QN⟩:=Dh (h.ev rv) hg
   have yx:((x::cQ.toList.map (cU s.fr)).any bN)=false→RL S.T s.hp (x::cQ.toList.map (cU s.fr)) (ax::cQ.toList.map (ay st.fr)):=fun hd=>by
    simp only[List.any_cons,Bool.or_eq_false_iff]at hd
    simp only[RL]
    exact⟨QN,iE (jf (fun x=>h.ev x) cQ.toList) hd.2⟩
   have pa:au (Op.call ⟨.invoke rv name,cQ,lY⟩)=false:=rfl
   split at hk
   ·rename_i σ hd hσ
    obtain⟨v,wr,rd,a,w,lg,g1,_,_,g4,g5⟩:=wH hS.T (hS.sum g σ hσ) h.hp (yx hd) hk
    rw[cD]at g5
    obtain⟨g6,g7⟩:=h.step g4 dst
    refine⟨_,_,?_,g6,g7,g5⟩
    rw[zl,ub]
    simp only[Option.bind_some,qW,pa,(hS.sum g σ hσ).kind,g1,I5]
   ·rename_i hd hσ
    split at hk
    ·simp[Tr.run]at hk
    rename_i tf
    obtain⟨v,cq,oH,qG,a,eD,g1,g2,g3,gj,g4,g5,g6,g7,hk⟩:=ih.f _ _ _ _ _ _ _ _ _ _ (yx hd) h.hp h.js hk
    split at hk
    case h_2=>simp[Tr.run]at hk
    rename_i Bm
    rw[jH,cD]at hk
    obtain⟨nh,oS,t2⟩:=p5 hS.T h g2 g3 g4 g5 g6 g7 gj Bm
    obtain⟨g8,g9⟩:=nh.step (v:=v) (wr:=[]) (e:=⟨a,[]⟩) ⟨.inr t2,nh.hp,dh.refl _,fun q hq=>by simp at hq,fun _ _ _=>rfl,Nat.le_refl _,fun _ _ h=>by simp at h⟩ dst
    refine⟨_,_,?_,g8,oS.trans g9,hk⟩
    rw[zl,ub]
    simp only[Option.bind_some,qW,pa,tf,g1,FM]
    rw[h.hp.length]
    rfl
   ·simp[Tr.run]at hk
 ·split at hk
  ·rename_i d
   rw[I7]
   have qM:=h.fn
   split at hk
   ·rename_i yY
    rw[qM]at yY
    rw[yY]
    simp only[cond_true]
    split at hk
    case h_2=>simp[Tr.run]at hk
    rename_i m hm
    obtain⟨q,gI,_,gA,_⟩:=hS.Q.elem hm
    split at hk
    case isFalse=>simp[Tr.run]at hk
    rename_i kF
    rw[cD]at hk
    have o6:=h.hp.new (nm:=s.hp.length) (o':=.arr true true false 0 []) (a':=.arr true true false []) (.inl rfl) ⟨[],rfl,by simp[RL],fun _=>rfl⟩
    have e1:ba s.hp [(s.hp.length,.arr true true false 0 [])]=bJ s.hp s.hp.length (.arr true true false 0 []):=rfl
    have hl:=h.hp.length
    obtain⟨g8,g9⟩:=h.step (v:=.bp m.size s.hp.length 0 none none) (wr:=[(s.hp.length,.arr true true false 0 [])]) (e:=⟨.bp q.size st.hp.length 0 0 0 none,[(st.hp.length,.arr true true false [])]⟩)
     ⟨.inr (by
       rw[e1]
       simp only[R]
       exact⟨0,eC h.hp (.inl rfl) (o:=.arr true true false 0 []),by rw[gA,hl]⟩),
       by
        rw[←hl]
        exact o6.2,by rw[e1]; exact o6.1,fun q hq=>by simp at hq; subst hq; simp[hl],fun n hn hl=>by
        rw[e1]; simp at hn; exact xV hl hn,by rw[e1]; exact vO (.inl rfl),fun m hm hc=>by simp at hc; have:=jg hm; omega⟩ (some d)
    refine⟨_,_,?_,g8,g9,hk⟩
    have V0:aN S.C.P type=some q:=gI
    rw[V0]
    simp only[Option.bind_some]
    rw[if_pos (by rw[gA]; exact kF)]
    simp only[bC,ak,setObj,if_true]
   ·rename_i yY
    simp only[Bool.not_eq_true]at yY
    rw[qM]at yY
    rw[yY]
    simp only[cond_false]
    rw[cD]at hk
    obtain⟨g8,g9⟩:=h.step (v:=.lit cK) (wr:=[]) (e:=⟨.lit cK,[]⟩) ⟨bk _,h.hp,dh.refl _,fun q hq=>by simp at hq,fun _ _ _=>rfl,Nat.le_refl _,fun _ _ h=>by simp at h⟩ (some d)
    exact⟨_,_,rfl,g8,g9,hk⟩
  ·-- no variable: nothing happens
   refine⟨s,st,?_,h,bh.refl _,hk⟩
   refine bR (jo S.C _ _) (by simp[fw]) fun k=>?_
   simp only[fw]
 ·rename_i Mt hna
  have hl:(match op with|.call _=>fun _=>[]|_=>S.C.qK s.fn)=S.C.qK s.fn:=by
   cases op<;>first|rfl|exact absurd rfl (Mt _)
  refine plain ?_ ?_
  ·unfold qb
   simp only
  ·simp only
   exact hk
end
end Go.PI
end
section
/- PS, part Q: loops, code, functions: the soundness of the trees. -/
namespace Go.PI
theorem yp{τ ω:Type}{f:τ→Option (τ ⊕ ω)}:∀ {n:Nat} {x:τ} {w:ω},kC f n x=some w→kC f (n+1) x=some w
 |0,x,w,h=>by simp[kC]at h
 |n+1,x,w,h=>by
  rw[kC]at h ⊢
  cases hf:f x with
  |none=>rw[hf]at h; simp at h
  |some q=>
   rw[hf]at h
   cases q with
   |inl y=>exact yp h
   |inr z=>exact h
theorem su[ab]{τ ω:Type}(f:τ→Option (τ ⊕ ω))(x:τ):fC fun n=>kC f n x:=fun _ _ h=>yp h
theorem oq[ab]{τ ω:Type}{f:τ→Option (τ ⊕ ω)}{x:τ}{w:ω}:aQ f x=some w↔∃ n,kC f n x=some w:=by
 unfold aQ
 split
 ·rename_i w' h
  constructor
  ·intro e; exact⟨4096,h.trans e⟩
  ·rintro⟨n,hn⟩
   rw[←(bg (su f x)).2 ⟨4096,h⟩,(bg (su f x)).2 ⟨n,hn⟩]
 ·exact bg (su f x)
theorem Cw[ab]{τ ω:Type}(f:τ→Option (τ ⊕ ω))(x:τ):aQ f x=(f x).bind fun q=>Sum.elim (aQ f) some q:=by
 apply Option.ext
 intro w
 rw[oq]
 constructor
 ·rintro⟨n,h⟩
  cases n with
  |zero=>simp[kC]at h
  |succ n=>
   rw[kC]at h
   cases hf:f x with
   |none=>rw[hf]at h; simp at h
   |some q=>
    rw[hf]at h
    cases q with
    |inl y=>simp only[Option.bind_some,Sum.elim_inl]; exact oq.2 ⟨n,h⟩
    |inr z=>simp_all
 ·intro h
  cases hf:f x with
  |none=>rw[hf]at h; simp at h
  |some q=>
   rw[hf]at h
   cases q with
   |inl y=>
    simp only[Option.bind_some,Sum.elim_inl]at h
    obtain⟨n,hn⟩:=oq.1 h
    exact⟨n+1,by rw[kC,hf]; exact hn⟩
   |inr z=>
    simp only[Option.bind_some,Sum.elim_inr]at h
    exact⟨1,by rw[kC,hf]; exact h⟩
section
variable {T:dm}{ρ:Type}
theorem dz[ab]{H0 H:ah T.den}{K:Tr ρ}{r:ρ}:∀ {objs:List (Nat×cO)},(gU H0 H objs K).run=some r→K.run=some r∧∀ q,q∈objs→∀ t,q.2=.fix t→∀ o o',H0[q.1]?=some (some o)→H[q.1]?=some (some o')→o'.len=o.len
 |[],h=>⟨h,fun q hq=>by simp at hq⟩
 |(n,p)::objs,h=>by
  cases p with
  |fix t=>
   simp only[gU]at h
   split at h
   ·rename_i o o' h1 h2
    obtain⟨g1,g2⟩:=aX h
    simp only[decide_eq_true_eq]at g1
    obtain⟨i1,i2⟩:=dz g2
    refine⟨i1,fun q hq t' e o3 o4 h3 h4=>?_⟩
    rcases List.mem_cons.1 hq with rfl|hq
    ·simp_all
    ·exact i2 q hq t' e o3 o4 h3 h4
   ·simp[Tr.run]at h
  |list t=>
   obtain⟨i1,i2⟩:=dz (objs:=objs) h
   refine⟨i1,fun q hq t' e o3 o4 h3 h4=>?_⟩
   rcases List.mem_cons.1 hq with rfl|hq
   ·simp at e
   ·exact i2 q hq t' e o3 o4 h3 h4
  |one p=>
   obtain⟨i1,i2⟩:=dz (objs:=objs) h
   refine⟨i1,fun q hq t' e o3 o4 h3 h4=>?_⟩
   rcases List.mem_cons.1 hq with rfl|hq
   ·simp at e
   ·exact i2 q hq t' e o3 o4 h3 h4
  |agg ps=>
   obtain⟨i1,i2⟩:=dz (objs:=objs) h
   refine⟨i1,fun q hq t' e o3 o4 h3 h4=>?_⟩
   rcases List.mem_cons.1 hq with rfl|hq
   ·simp at e
   ·exact i2 q hq t' e o3 o4 h3 h4
  |map kk t=>
   obtain⟨i1,i2⟩:=dz (objs:=objs) h
   refine⟨i1,fun q hq t' e o3 o4 h3 h4=>?_⟩
   rcases List.mem_cons.1 hq with rfl|hq
   ·simp at e
   ·exact i2 q hq t' e o3 o4 h3 h4
theorem Ad[ab]{key:Nat}{h:Hint}{s0 s:bx T.den}{kind:Option Nat}{r:ρ}:∀ {l:List A2} {K:yO T.den h.objs l→Tr ρ},(tv key h s0 s kind l K).run=some r →
  ∃ o x w,o∈l∧o.kind=kind∧HC h s0 s kind o=some x∧(K w).run=some r ∧
    (∀ q,q∈h.objs→∀ t,q.2=.fix t→∀ o o',s0.hp[q.1]?=some (some o)→s.hp[q.1]?=some (some o')→o'.len=o.len) ∧
    ∀ {σ:Type} (K':oK T.den→Tr σ),(tM h s0 l w K').run=(K' (A8 (jD h s0 o x) o.kind)).run
 |[],K,hk=>by simp[tv,Tr.run]at hk
 |[o],K,hk=>by
  simp only[tv]at hk
  split at hk
  ·rename_i x hx
   obtain⟨hk,hl⟩:=dz hk
   refine⟨o,x,x,by simp,?_,hx,hk,hl,fun K'=>?_⟩
   ·grind[HC]
   ·simp only[tM]
    rw[force_eq]
  ·simp[Tr.run]at hk
 |o::p::l,K,hk=>by
  simp only[tv]at hk
  split at hk
  ·rename_i x hx
   obtain⟨hk,hl⟩:=dz hk
   refine⟨o,x,.inl x,by simp,?_,hx,hk,hl,fun K'=>?_⟩
   ·grind[HC]
   ·simp only[tM,Tr.run,Sum.elim_inl]
    rw[force_eq]
  ·obtain⟨o',x,w,h1,h2,h3,h4,h5,h6⟩:=Ad (l:=p::l) hk
   refine⟨o',x,.inr w,List.mem_cons_of_mem _ h1,h2,h3,h4,h5,fun K'=>?_⟩
   simp only[tM,Tr.run,Sum.elim_inr]
   exact h6 K'
theorem yq{a b:List Nat}(h:subset a b=true){x:Nat}(hx:x∈a):x∈b:=by
 have:=List.all_eq_true.1 h x hx
 simpa using this
theorem GK[ab]{Ae:List (Nat×cO)}{slots0:List (Nat×oM)}{dead0:List Nat}{az:List (Nat×oM)}{dead:List Nat}{ext:List oN}{s0 sx s:bx T.den}{l:List (TV T.den)}
  (QK:cY (az.map (·.1))=true) (T4:cY (Ae.map (·.1))=true)
  (V1:sx.fn=s0.fn) (V2:sx.n=s0.n) (V3:∀ t,t∉slots0.map (·.1)++dead0→cH sx.fr t=cH s0.fr t) (V4:∀ n:Nat,n<s0.hp.length→n∉Ae.map (·.1)→sx.hp[n]?=s0.hp[n]?) (V5:sx.hp.length=s0.hp.length)
  (sT:∀ t,t∈slots0.map (·.1)++dead0→t∈az.map (·.1)++dead) (ha:bh sx s) (hl:r8 az dead Ae ext s0 s=true)
  (PW:∀ q,q∈Ae→∃ o,s0.hp[q.1]?=some (some o)∧Start s0.hp o q.2) (abs:uH az (Ae++aZ s0.hp.length ext) s=some l):HQ T az dead Ae ext s0 s l:=by
 unfold r8 at hl
 simp only[Bool.and_eq_true,decide_eq_true_eq]at hl
 obtain⟨⟨⟨⟨⟨⟨⟨l1,l2⟩,l3⟩,l4⟩,l5⟩,l6⟩,l7⟩,l8⟩:=hl
 refine⟨QK,T4,fun d hd=>?_,l2,ha.fn.trans V1,ha.n.trans V2,fun t ht=>?_,fun n hn hm=>?_,l5,l6,l7,l8,PW,abs⟩
 ·have:=List.all_eq_true.1 l1 d hd
  have:=Nat.le_of_ble_eq_true this
  omega
 ·have hw:t∉s.wf:=fun hc=>ht (yq l3 hc)
  rw[ha.fr t hw,V3 t (fun hc=>ht (sT t hc))]
 ·have hw:n∉s.wh:=fun hc=>hm (yq l4 (List.mem_filter.2 ⟨hc,by simpa using hn⟩))
  rw[ha.hp n (by rw[V5]; exact hn) hw,V4 n hn hm]
end
theorem Af{T:dm}{az:List (Nat×oM)}{objs:List (Nat×cO)}{s:bx T.den}{l:List (TV T.den)}(h:uH az objs s=some l):∃ l0,jT s.hp objs=some l0:=by
 unfold uH at h
 rw[Option.bind_eq_some_iff]at h
 obtain⟨_,_,h⟩:=h
 rw[Option.map_eq_some_iff]at h
 obtain⟨lb,h,_⟩:=h
 exact⟨lb,h⟩
theorem K7[ab]{T:dm}{az:List (Nat×oM)}{dead:List Nat}{objs:List (Nat×cO)}{ext:List oN}{s:bx T.den}{l:List (TV T.den)}{js:List (Nat×kS)}{st:St}
  (h:RS T { c6 az dead objs ext s l with js:=js } st) (hj:js=s.js):RS T (c6 az dead objs ext s l) st:=by
 subst hj; exact⟨h.fn,h.n,h.fr,h.hp,h.js⟩
theorem HW{T:dm}{n:Nat}{s:bx T.den}:(jC n s).js=s.js:=by unfold jC; split<;>rfl
theorem yr[ab]{T:dm}{H:ah T.den}{objs:List (Nat×cO)}{l:List (TV T.den)}(h:jT H objs=some l):qx H H objs=true:=by
 refine List.all_eq_true.2 fun q hq=>?_
 obtain⟨o,_,h1,_⟩:=kh h q hq
 simp[h1]
theorem Bo[ab]{T:dm}{H:ah T.den}{objs:List (Nat×cO)}{l:List (TV T.den)}(h:jT H objs=some l):wF H H objs=true:=by
 refine List.all_eq_true.2 fun q hq=>?_
 obtain⟨o,_,h1,_⟩:=kh h q hq
 split
 ·rfl
 ·simp[h1]
theorem u3[ab]{T:dm}{H:ah T.den}{objs:List (Nat×cO)}{l:List (TV T.den)}(h:jT H objs=some l)(q:Nat×cO)(hq:q∈objs):∃ o,H[q.1]?=some (some o)∧Start H o q.2:=by
 obtain⟨o,ln,h1,h2⟩:=kh h q hq
 exact⟨o,h1,.inl ⟨ln,h2⟩⟩
theorem Dx{objs more:List (Nat×cO)}{n:Nat}(h:n∈objs.map (·.1)):n∈(iY objs more).map (·.1):=by
 unfold iY
 rw[List.map_append]
 by_cases hm:n∈more.map (·.1)
 ·exact List.mem_append_right _ hm
 ·simp_all
theorem yu[ab]{T:dm}{H:ah T.den}{l:List (Nat×cO)}(h:Gn H l=true)(q:Nat×cO)(hq:q∈l):∃ o,H[q.1]?=some (some o)∧Start H o q.2:=by
 have:=List.all_eq_true.1 h q hq
 split at this
 ·rename_i g cl f c e p h1 h2
  exact⟨_,h1,.inr ⟨.inl ⟨p,h2⟩,g,cl,f,c,e,rfl⟩⟩
 ·rename_i g cl f c e p h1 h2
  exact⟨_,h1,.inr ⟨.inr ⟨p,h2⟩,g,cl,f,c,e,rfl⟩⟩
 ·simp at this
section
variable [ab]{S:nW}(hS:S.Ok)
include hS
theorem NB{k:Nat}(ih:oj S k){b:Code}{s:bx S.T.den}{h:Hint}{l0:List (TV S.T.den)}{x0:HL S.T.den h.jB}(bL:h.ok=true)(hsl:A7 s.n h.az h.dead=true)(how:rZ s.hp.length h.az h.objs=true)
  (oP:uH h.az h.objs s=some l0) (T7:uA h.jB l0=some x0) {st:St} (gG:RS S.T s st) {w:yO S.T.den h.objs h.outs}
  (hw:aQ (fun x=>(bx.force { c6 h.az h.dead h.objs [] s (fQ h.jB x) with wf:=[],wh:=[] } fun s1=>wi S k (HL S.T.den h.jB ⊕ yO S.T.den h.objs h.outs) b s1 fun
       |.norm s'=>
        (match jC s.hp.length s' with
        |tL=>(match decide (tL.js=s.js)&&r8 h.az h.dead h.objs [] s tL,(uH h.az h.objs tL).bind (uA h.jB) with
         |true,some y=>gU s.hp tL.hp h.objs (.ret (.inl y))
         |_,_=>.bad (rY b s) none s tL))
       |.exit id s'=>tv (rY b s) h s s' (some id) h.outs fun w=>.ret (.inr w)
       |.ret s'=>tv (rY b s) h s s' none h.outs fun w=>.ret (.inr w)).run) x0=some w) :
  ∃ o x so oo,cP S.C (.loop b) st=some oo∧so=A8 (jD h s o x) o.kind∧Dm S.T so oo∧bh s so.st∧∀ {σ:Type} (K':oK S.T.den→Tr σ),(tM h s h.outs w K').run=(K' so).run:=by
 simp only[Hint.ok,Bool.and_eq_true]at bL
 obtain⟨⟨V6,SD⟩,V7⟩:=bL
 obtain⟨aa1,Dy⟩:=Af oP
 have QK:cY (h.az.map (·.1))=true:=by
  have:∀ {l m:List Nat},cY (l++m)=true→cY l=true:=by
   intro l m
   induction l with
   |nil=>intro _; rfl
   |cons x xs ih=>
    simp_all[cY,decide_eq_false_iff_not]
  exact this V6
 have V8:∀ d,d∈h.az.map (·.1)++h.dead→d<s.n:=by
  intro d hd
  have:=List.all_eq_true.1 hsl d hd
  have:=Nat.le_of_ble_eq_true this
  omega
 have sxf:∀ x:HL S.T.den h.jB,∀ l,uH h.az h.objs s=some l→True:=fun _ _ _=>trivial
 clear sxf
 have nN:∀ (x:HL S.T.den h.jB) (sc:bx S.T.den) (lc:List (TV S.T.den)),HQ S.T h.az h.dead h.objs [] s sc lc→sc.js=s.js→fQ h.jB x=lc→∀ (V9:St),RS S.T sc V9 →
   RS S.T (c6 h.az h.dead h.objs [] s (fQ h.jB x)) V9∧(c6 h.az h.dead h.objs [] s (fQ h.jB x)).hp.length=s.hp.length ∧
   (∀ n:Nat,n<s.hp.length→n∉h.objs.map (·.1)→(c6 h.az h.dead h.objs [] s (fQ h.jB x)).hp[n]?=s.hp[n]?) ∧
   (∀ t,t∉h.az.map (·.1)++h.dead→cH (c6 h.az h.dead h.objs [] s (fQ h.jB x)).fr t=cH s.fr t) ∧
   (c6 h.az h.dead h.objs [] s (fQ h.jB x)).fn=s.fn∧(c6 h.az h.dead h.objs [] s (fQ h.jB x)).n=s.n:=by
  intro x sc lc ho hj hx V9 Wa
  obtain⟨r1,r2,r3,r4,r5,r6,_⟩:=GG hS.T ho gG Wa
  rw[hx]
  refine⟨K7 r1 hj,?_,r3,r4,r5,r6⟩
  rw[r2,ho.len]; rfl
 have main:∀ (n:Nat) (x:HL S.T.den h.jB) (stx:St),RS S.T (c6 h.az h.dead h.objs [] s (fQ h.jB x)) stx→(c6 h.az h.dead h.objs [] s (fQ h.jB x)).hp.length=s.hp.length →
   (∀ n:Nat,n<s.hp.length→n∉h.objs.map (·.1)→(c6 h.az h.dead h.objs [] s (fQ h.jB x)).hp[n]?=s.hp[n]?) →
   (∀ t,t∉h.az.map (·.1)++h.dead→cH (c6 h.az h.dead h.objs [] s (fQ h.jB x)).fr t=cH s.fr t) →
   (c6 h.az h.dead h.objs [] s (fQ h.jB x)).fn=s.fn→(c6 h.az h.dead h.objs [] s (fQ h.jB x)).n=s.n →
   kC (fun x=>(bx.force { c6 h.az h.dead h.objs [] s (fQ h.jB x) with wf:=[],wh:=[] } fun s1=>wi S k (HL S.T.den h.jB ⊕ yO S.T.den h.objs h.outs) b s1 fun
           |.norm s'=>
            (match jC s.hp.length s' with
            |tL=>(match decide (tL.js=s.js)&&r8 h.az h.dead h.objs [] s tL,(uH h.az h.objs tL).bind (uA h.jB) with
             |true,some y=>gU s.hp tL.hp h.objs (.ret (.inl y))
             |_,_=>.bad (rY b s) none s tL))
           |.exit id s'=>tv (rY b s) h s s' (some id) h.outs fun w=>.ret (.inr w)
           |.ret s'=>tv (rY b s) h s s' none h.outs fun w=>.ret (.inr w)).run) n x=some w →
   ∃ o x so oo,cP S.C (.loop b) stx=some oo∧so=A8 (jD h s o x) o.kind∧Dm S.T so oo∧bh s so.st∧∀ {σ:Type} (K':oK S.T.den→Tr σ),(tM h s h.outs w K').run=(K' so).run:=by
  intro n
  induction n with
  |zero=>intro x stx _ _ _ _ _ _ hn; simp[kC]at hn
  |succ n ihn=>
   intro x stx DL hlen P8 Bk qM LS hn
   rw[kC]at hn
   generalize HX:({ c6 h.az h.dead h.objs [] s (fQ h.jB x) with wf:=[],wh:=[] }:bx S.T.den)=sx at hn
   have P9:RS S.T sx stx:=by rw[←HX]; exact⟨DL.fn,DL.n,DL.fr,DL.hp,DL.js⟩
   have e1:sx.fn=s.fn:=by rw[←HX]; exact qM
   have e2:sx.n=s.n:=by rw[←HX]; exact LS
   have e3:∀ t,t∉h.az.map (·.1)++h.dead→cH sx.fr t=cH s.fr t:=by rw[←HX]; exact Bk
   have e4:∀ n:Nat,n<s.hp.length→n∉h.objs.map (·.1)→sx.hp[n]?=s.hp[n]?:=by rw[←HX]; exact P8
   have e5:sx.hp.length=s.hp.length:=by rw[←HX]; exact hlen
   rw[force_eq]at hn
   have ph:∀ q,(wi S k (HL S.T.den h.jB ⊕ yO S.T.den h.objs h.outs) b sx fun
       |.norm s'=>
        (match jC s.hp.length s' with
        |tL=>(match decide (tL.js=s.js)&&r8 h.az h.dead h.objs [] s tL,(uH h.az h.objs tL).bind (uA h.jB) with
         |true,some y=>gU s.hp tL.hp h.objs (.ret (.inl y))
         |_,_=>.bad (rY b s) none s tL))
       |.exit id s'=>tv (rY b s) h s s' (some id) h.outs fun w=>.ret (.inr w)
       |.ret s'=>tv (rY b s) h s s' none h.outs fun w=>.ret (.inr w)).run=some q →
     (∃ y,q=.inl y∧∃ Fs,cP S.C b stx=some (.norm Fs)∧RS S.T (c6 h.az h.dead h.objs [] s (fQ h.jB y)) (gD stx.hp.length Fs)∧(c6 h.az h.dead h.objs [] s (fQ h.jB y)).hp.length=s.hp.length ∧
       (∀ n:Nat,n<s.hp.length→n∉h.objs.map (·.1)→(c6 h.az h.dead h.objs [] s (fQ h.jB y)).hp[n]?=s.hp[n]?) ∧
       (∀ t,t∉h.az.map (·.1)++h.dead→cH (c6 h.az h.dead h.objs [] s (fQ h.jB y)).fr t=cH s.fr t) ∧
       (c6 h.az h.dead h.objs [] s (fQ h.jB y)).fn=s.fn∧(c6 h.az h.dead h.objs [] s (fQ h.jB y)).n=s.n) ∨
     (∃ w',q=.inr w'∧∃ o x so oo,cP S.C b stx=some oo∧(∀ s',oo≠.norm s')∧so=A8 (jD h s o x) o.kind∧Dm S.T so oo∧bh s so.st∧∀ {σ:Type} (K':oK S.T.den→Tr σ),(tM h s h.outs w' K').run=(K' so).run):=by
    intro q hq
    obtain⟨so,o,c1,c2,c3,c4⟩:=ih.c _ _ _ _ _ _ P9 hq
    have leave:∀ (kind:Option Nat) (s':bx S.T.den) (Fs:St),RS S.T s' Fs→bh sx s'→(tv (rY b s) h s s' kind h.outs fun w=>(.ret (.inr w):Tr (HL S.T.den h.jB ⊕ yO S.T.den h.objs h.outs))).run=some q →
      ∃ w',q=.inr w'∧∃ o x,o.kind=kind∧RS S.T (jD h s o x) Fs∧bh s (jD h s o x)∧∀ {σ:Type} (K':oK S.T.den→Tr σ),(tM h s h.outs w' K').run=(K' (A8 (jD h s o x) o.kind)).run:=by
     intro kind s' Fs eV ha hq
     obtain⟨o,x,w',d1,d2,d3,d4,d5,d6⟩:=Ad hq
     simp only[Tr.run,Option.some.injEq]at d4
     refine⟨w',d4.symm,o,x,d2,?_⟩
     unfold HC at d3
     split at d3
     case h_2=>simp at d3
     rename_i hc
     simp only[Bool.and_eq_true,decide_eq_true_eq]at hc
     obtain⟨hc,NZ,VA,Wb⟩:=hc
     rw[Option.bind_eq_some_iff]at d3
     obtain⟨lx,d7,d8⟩:=d3
     have SE:∀ q,q∈iY h.objs o.more→∃ o,s.hp[q.1]?=some (some o)∧Start s.hp o q.2:=fun q hq=>by
      rcases List.mem_append.1 hq with hq|hq
      ·exact u3 Dy q (List.mem_filter.1 hq).1
      ·exact yu Wb q hq
     have wk:HQ S.T o.az (h.az.map (·.1)++h.dead) (iY h.objs o.more) o.ext s s' lx:=
      GK (slots0:=h.az) (dead0:=h.dead) (List.all_eq_true.1 V7 o d1) VA e1 e2 e3 (fun n hn hm=>e4 n hn (fun hc=>hm (Dx hc))) e5 (fun t ht=>List.mem_append_right _ ht) ha NZ SE d7
     obtain⟨r1,r2,r3,r4,r5,r6,r7⟩:=GG hS.T wk gG eV
     have ex:=oe _ _ _ d8
     refine⟨?_,?_,d6⟩
     ·unfold jD
      rw[ex]
      exact⟨r1.fn,r1.n,r1.fr,r1.hp,by rw[←hc.2]; exact r1.js⟩
     ·unfold jD
      rw[ex]
      refine⟨r5,r6,fun t ht=>r4 t ?_,fun t ht=>?_,fun n hn hw=>r3 n hn ?_,fun n hn=>?_,?_,?_⟩
      ·simp only[List.mem_append,not_or]at ht ⊢
       exact⟨ht.1,ht.2.1,ht.2.2.1⟩
      ·simp only[List.mem_append]
       exact .inr (.inr (.inr ht))
      ·exact fun hc=>hw (List.mem_append_left _ hc)
      ·exact List.mem_append_right _ hn
      ·simp only
       rw[r2,wk.len]
       omega
      ·intro n o' cZ
       have hn:=(List.getElem?_eq_some_iff.1 cZ).1
       by_cases hm:n∈(iY h.objs o.more).map (·.1)
       ·obtain⟨qq,T8,rfl⟩:=List.mem_map.1 hm
        obtain⟨o0,os,of,g1,g2,g3,g4,g5⟩:=r7 qq T8
        rw[g1]at cZ
        simp only[Option.some.injEq]at cZ
        subst cZ
        refine⟨of,g3,by rw[g5]; exact GF _ _,fun ec=>?_⟩
        rw[g4]
        rw[g5]at ec
        obtain⟨oo,m1,m2⟩:=SE qq T8
        rw[g1]at m1
        simp only[Option.some.injEq]at m1
        subst m1
        have SF:=Af d7
        obtain⟨lS,hlS⟩:=SF
        obtain⟨oo2,ln2,m3,m4⟩:=kh hlS qq (List.mem_append_left _ T8)
        rw[g2]at m3
        simp only[Option.some.injEq]at m3
        subst m3
        cases hp:qq.2 with
        |list t=>rw[hp]at ec; simp[Bi]at ec
        |fix t=>
         rcases List.mem_append.1 T8 with gI|gI
         ·exact d5 qq (List.mem_filter.1 gI).1 t hp o0 os g1 g2
         ·obtain⟨_,_,m5⟩:=yu Wb qq gI
          rw[hp]at m2
          have:=List.all_eq_true.1 Wb qq gI
          rw[hp]at this
          simp at this
        |map kk t=>
         rw[hp]at m2 m4
         rcases m2 with ⟨ln,m2⟩|⟨⟨_,m2⟩|⟨_,m2⟩,_⟩
         ·obtain⟨_,rfl,_⟩:=tG m2
          obtain⟨_,rfl,_⟩:=tG m4
          rfl
         ·cases m2
         ·cases m2
        |one p=>
         rw[hp]at m2 m4
         simp only[eb]at m4
         split at m4
         case h_2=>simp at m4
         rcases m2 with ⟨ln,m2⟩|⟨_,_,_,_,_,_,rfl⟩
         ·simp only[eb]at m2
          split at m2
          case h_2=>simp at m2
          rfl
         ·rfl
        |agg p=>
         rw[hp]at m2 m4
         simp only[eb]at m4
         split at m4
         case h_2=>simp at m4
         rcases m2 with ⟨ln,m2⟩|⟨_,_,_,_,_,_,rfl⟩
         ·simp only[eb]at m2
          split at m2
          case h_2=>simp at m2
          rfl
         ·rfl
       ·exact⟨o',by simp only; rw[r3 n hn hm]; exact cZ,Nat.le_refl _,fun _=>rfl⟩
    cases so with
    |norm s'=>
     left
     obtain⟨Fs,rfl,eV⟩:=c2
     simp only at c4
     split at c4
     ·rename_i y hl hy
      simp only[Bool.and_eq_true,decide_eq_true_eq]at hl
      obtain⟨PX,hl⟩:=hl
      obtain⟨c5,_⟩:=dz c4
      simp only[Tr.run,Option.some.injEq]at c5
      rw[Option.bind_eq_some_iff]at hy
      obtain⟨ly,x7,vU⟩:=hy
      have hr:=Dg (n:=s.hp.length) hS.T eV (fun m x hm=>by
       rw[HW]at PX
       rw[PX]at hm
       exact jg (gG.js m x hm).1)
      have oS:bh sx (jC s.hp.length s'):=by
       have:=vV P9 c3
       rw[e5]at this
       exact this
      have wk:HQ S.T h.az h.dead h.objs [] s (jC s.hp.length s') ly:=
       GK (slots0:=h.az) (dead0:=h.dead) QK SD e1 e2 e3 e4 e5 (fun t ht=>ht) oS hl (u3 Dy) (by simpa[aZ] using x7)
      have hle:stx.hp.length=s.hp.length:=by rw[←e5]; exact P9.hp.length.symm
      refine⟨y,c5.symm,Fs,c1,?_⟩
      rw[hle]
      exact nN y _ ly wk PX (oe _ _ _ vU) _ hr
     ·simp[Tr.run]at c4
    |exit id s'=>
     right
     obtain⟨Fs,rfl,eV⟩:=c2
     obtain⟨w',f1,o',x',f2,f3,f4,f5⟩:=leave (some id) s' Fs eV c3 c4
     refine⟨w',f1,o',x',A8 (jD h s o' x') o'.kind,_,c1,by simp,rfl,?_,?_,f5⟩
     ·rw[f2]; exact⟨Fs,rfl,f3⟩
     ·rw[f2]; exact f4
    |ret s'=>
     right
     obtain⟨Fs,rfl,eV⟩:=c2
     obtain⟨w',f1,o',x',f2,f3,f4,f5⟩:=leave none s' Fs eV c3 c4
     refine⟨w',f1,o',x',A8 (jD h s o' x') o'.kind,_,c1,by simp,rfl,?_,?_,f5⟩
     ·rw[f2]; exact⟨Fs,rfl,f3⟩
     ·rw[f2]; exact f4
   split at hn
   ·rename_i y hy
    rcases ph _ hy with ⟨y',e,Fs,g1,g2,g3,g4,g5,g6,g7⟩|⟨w',e,_⟩
    ·simp only[Sum.inl.injEq]at e
     subst e
     obtain⟨o,x',so,oo,i1,i2⟩:=ihn _ _ g2 g3 g4 g5 g6 g7 hn
     refine⟨o,x',so,oo,?_,i2⟩
     rw[mY,g1]
     exact i1
    ·simp at e
   ·rename_i w2 hw2
    simp only[Option.some.injEq]at hn
    subst hn
    rcases ph _ hw2 with ⟨y',e,_⟩|⟨w',e,o,x',so,oo,g1,g2,g3⟩
    ·simp at e
    ·simp only[Sum.inr.injEq]at e
     subst e
     refine⟨o,x',so,oo,?_,g3⟩
     rw[mY,g1]
     cases oo with
     |norm s'=>exact absurd rfl (g2 s')
     |_=>rfl
   ·simp at hn
 obtain⟨n,hn⟩:=oq.1 hw
 have wk:HQ S.T h.az h.dead h.objs [] s s l0:=⟨QK,SD,V8,by simpa[aZ] using how,rfl,rfl,fun _ _=>rfl,fun _ _ _=>rfl,rfl,yr Dy,Bo Dy,rfl,u3 Dy,by simpa[aZ] using oP⟩
 obtain⟨r1,r2,r3,r4,r5,r6⟩:=nN x0 s l0 wk rfl (oe _ _ _ T7) st gG
 exact main n x0 st r1 r2 r3 r4 r5 r6 hn
def DR(T:dm)(H:ah T.den):Option (SV T.den)→Option AV→Prop
 |none,none=>True
 |some v,some a=>RV T H v a
 |_,_=>False
omit hS in
theorem NC{k:Nat}(ih:oj S k){ρ:Type}:∀ (c:Code) {s:bx S.T.den} {K:oK S.T.den→Option (SV S.T.den)→Tr ρ} {r:ρ} {st:St},RS S.T s st→(Ku (fun c s K=>wi S k ρ c s K) (fun o s K=>Ni S k ρ o s K) c s K).run=some r →
  ∃ so d o da,y5 (cP S.C) (hX S.C) c st=some (o,da)∧Dm S.T so o∧bh s so.st∧DR S.T so.st.hp d da∧(K so d).run=some r:=by
 have leaf:∀ (c:Code) {s:bx S.T.den} {K:oK S.T.den→Option (SV S.T.den)→Tr ρ} {r:ρ} {st:St},RS S.T s st→(wi S k ρ c s fun o=>K o none).run=some r →
   ∃ so d o da,((cP S.C c st).map fun o=>(o,(none:Option AV)))=some (o,da)∧Dm S.T so o∧bh s so.st∧DR S.T so.st.hp d da∧(K so d).run=some r:=by
  intro c s K r st h hk
  obtain⟨so,o,c1,c2,c3,hk⟩:=ih.c _ _ _ _ _ _ h hk
  exact⟨so,none,o,none,by rw[c1]; rfl,c2,c3,trivial,hk⟩
 intro c
 induction c with
 |seq x y _ IY=>
  intro s K r st h hk
  simp only[Ku]at hk
  cases hd:sH x with
  |some q=>
   obtain⟨ops,v⟩:=q
   rw[hd]at hk
   simp only at hk
   rw[qE]at hk
   obtain⟨s1,T5,g1,g2,g3,hk⟩:=pX (C:=S.C) (fun o s st K h hk=>ih.o _ _ _ _ _ _ h hk) _ _ _ _ h hk
   split at hk
   case h_2=>simp[Tr.run]at hk
   rename_i q cy
   obtain⟨g,l⟩:=q
   obtain⟨m,hm,_⟩:=fX (g2.ev v) (args:=[]) (as:=[]) trivial cy
   obtain⟨so,o,c1,c2,c3,hk⟩:=ih.c _ _ _ _ _ _ g2 hk
   refine⟨so,some (cU s1.fr v),o,some (ay T5.fr v),?_,c2,g3.trans c3,(g2.ev v).mono c3.grow,hk⟩
   simp only[y5,hd,pk,g1,hm,c1]
   rfl
  |none=>
   rw[hd]at hk
   simp only at hk
   obtain⟨so,o,c1,c2,c3,hk⟩:=ih.c _ _ _ _ _ _ h hk
   cases so with
   |norm s'=>
    obtain⟨st',rfl,eV⟩:=c2
    obtain⟨P7,d2,o2,da2,e1,e2,e3,e4,hk⟩:=IY eV hk
    exact⟨P7,d2,o2,da2,by simp only[y5,hd,c1]; exact e1,e2,c3.trans e3,e4,hk⟩
   |ret s'=>
    obtain⟨st',rfl,eV⟩:=c2
    exact⟨.ret s',none,_,none,by simp only[y5,hd,c1],⟨st',rfl,eV⟩,c3,trivial,hk⟩
   |exit id s'=>
    obtain⟨st',rfl,eV⟩:=c2
    exact⟨.exit id s',none,_,none,by simp only[y5,hd,c1],⟨st',rfl,eV⟩,c3,trivial,hk⟩
 |_=>intro s K r st h hk; simp only[Ku,y5]at hk ⊢; exact leaf _ h hk
theorem K8{k:Nat}(ih:oj S k){ρ:Type}{s:bx S.T.den}{st:St}{d:Option (SV S.T.den)}{da:Option AV}{rs:List ResultVar}{K:List (SV S.T.den)→ah S.T.den→List Nat→List (Nat×kS)→Tr ρ}{r:ρ}(h:RS S.T s st)(hd:DR S.T s.hp d da)
  (hk:(CP (fun c s K=>wi S k ρ c s K) S.Q S.C.P rs s d K).run=some r):∃ l cq oH qG m eD,tQ (cP S.C) S.C.P rs st.fr st.hp da=some (.val (cB m),eD)∧RL S.T cq l m∧RH S.T cq eD∧kz qG cq eD∧dh s.hp cq∧s.hp.length≤cq.length ∧
    (∀ n:Nat,n<s.hp.length→n∉oH→cq[n]?=s.hp[n]?)∧(∀ n,n∈s.wh→n∈oH)∧(K l cq oH qG).run=some r:=by
 cases d with
 |none=>
  cases da with
  |some a=>exact hd.elim
  |none=>
   simp only[CP]at hk
   obtain⟨l,m,g1,g2,hk⟩:=og hS.T hS.Q h hk
   have MV:(aR S.C.P st.fr rs).run st.hp=some m:=g1
   exact⟨l,s.hp,s.wh,s.js,m,st.hp,by simp only[tQ,D0,MV],g2,h.hp,h.js,dh.refl _,Nat.le_refl _,fun _ _ _=>rfl,fun _ h=>h,hk⟩
 |some v=>
  cases da with
  |none=>exact hd.elim
  |some a=>
   have hd:RV S.T s.hp v a:=hd
   simp only[CP]at hk
   split at hk
   ·simp[Tr.run]at hk
   rename_i g as cy
   split at hk
   ·simp[Tr.run]at hk
   rename_i fg Mp
   split at hk
   ·simp[Tr.run]at hk
   rename_i cg Mq
   split at hk
   ·simp[Tr.run]at hk
   rename_i Wc
   simp only[Bool.and_eq_true,Bool.not_eq_true']at Wc
   obtain⟨m,hm,U5⟩:=fX hd (args:=[]) (as:=[]) trivial cy
   rw[force_eq]at hk
   have gG:=yi (f:=g) (U5 Wc.2) h.hp fg.ntmps s.wh h.js
   obtain⟨so,o,c1,c2,c3,hk⟩:=ih.c _ _ _ _ _ _ gG hk
   have fin:∀ (t:bx S.T.den) (tt:St),RS S.T t tt→bh ⟨g,max fg.ntmps as.length,mh 0 as,s.hp,[],s.wh,s.js⟩ t→(o=.norm tt∨o=.ret tt) →
     (rX S.T S.Q t fg.results.toList fun _=>rX S.T S.Q ⟨s.fn,s.n,s.fr,t.hp,s.wf,t.wh,t.js⟩ rs fun l=>K l t.hp t.wh t.js).run=some r →
     ∃ l cq oH qG m eD,tQ (cP S.C) S.C.P rs st.fr st.hp (some a)=some (.val (cB m),eD)∧RL S.T cq l m∧RH S.T cq eD∧kz qG cq eD∧dh s.hp cq∧s.hp.length≤cq.length ∧
       (∀ n:Nat,n<s.hp.length→n∉oH→cq[n]?=s.hp[n]?)∧(∀ n,n∈s.wh→n∈oH)∧(K l cq oH qG).run=some r:=by
    intro t tt ht oS ho hk
    obtain⟨l1,m1,f1,_,hk⟩:=og hS.T hS.Q ht hk
    have f1':(aR S.C.P tt.fr fg.results.toList).run tt.hp=some m1:=f1
    have AE:RS S.T ⟨s.fn,s.n,s.fr,t.hp,s.wf,t.wh,t.js⟩ ⟨st.fn,st.fr,tt.hp⟩:=⟨h.fn,h.n,fun x=>(h.fr x).mono oS.grow,ht.hp,ht.js⟩
    obtain⟨l,m2,g1,g2,hk⟩:=og hS.T hS.Q AE hk
    have MV:(aR S.C.P st.fr rs).run tt.hp=some m2:=g1
    refine⟨l,t.hp,t.wh,t.js,m2,tt.hp,?_,g2,ht.hp,ht.js,oS.grow,oS.len,oS.hp,oS.wh,hk⟩
    simp only[tQ,hm,Mp,Mq,Wc.1,c1]
    rcases ho with rfl|rfl<;>simp only[f1',D0,MV]
   cases so with
   |norm t=>
    obtain⟨tt,rfl,ht⟩:=c2
    exact fin t tt ht c3 (.inl rfl) hk
   |ret t=>
    obtain⟨tt,rfl,ht⟩:=c2
    exact fin t tt ht c3 (.inr rfl) hk
   |exit id t=>simp[Tr.run]at hk
theorem Qa{k:Nat}(ih:oj S k){ρ:Type}{f:FuncId}{args:List (SV S.T.den)}{hp:ah S.T.den}{wh:List Nat}{js:List (Nat×kS)}{K:SV S.T.den→ah S.T.den→List Nat→List (Nat×kS)→Tr ρ}{r:ρ}{as:List AV}{Ny:af}
  (ha:RL S.T hp args as) (hh:RH S.T hp Ny) (hj:kz js hp Ny) (hk:(Oj S (k+1) ρ f args hp wh js K).run=some r):∃ v cq oH qG a eD,kn S.C f as Ny=some (.val a,eD)∧R S.T cq v a∧RH S.T cq eD∧kz qG cq eD∧dh hp cq∧hp.length≤cq.length ∧
    (∀ n:Nat,n<hp.length→n∉oH→cq[n]?=hp[n]?)∧(∀ n,n∈wh→n∈oH)∧(K v cq oH qG).run=some r:=by
 unfold Oj at hk
 split at hk
 ·simp[Tr.run]at hk
 rename_i fn qM
 split at hk
 ·simp[Tr.run]at hk
 rename_i c hc
 rw[nA,force_eq]at hk
 have gG:=yi (f:=f) ha hh fn.ntmps wh hj
 split at hk
 ·rename_i hD
  split at hk
  case h_2=>simp[Tr.run]at hk
  rename_i hn
  obtain⟨so,d,o,da,c1,c2,c3,c4,hk⟩:=NC ih c gG hk
  have fin:∀ (s:bx S.T.den) (st:St),RS S.T s st→bh ⟨f,max fn.ntmps args.length,mh 0 args,hp,[],wh,js⟩ s→DR S.T s.hp d da→(o=.norm st∨o=.ret st) →
    (CP (fun c s K=>wi S k ρ c s K) S.Q S.C.P fn.results.toList s d fun l hp wh js=>K (qN l) hp wh js).run=some r →
    ∃ v cq oH qG a eD,kn S.C f as Ny=some (.val a,eD)∧R S.T cq v a∧RH S.T cq eD∧kz qG cq eD∧dh hp cq∧hp.length≤cq.length ∧
    (∀ n:Nat,n<hp.length→n∉oH→cq[n]?=hp[n]?)∧(∀ n,n∈wh→n∈oH)∧(K v cq oH qG).run=some r:=by
   intro s st hs oS MP ho hk
   obtain⟨l,cq,oH,qG,m,eD,e1,e2,e3,e4,e5,e6,e7,e8,hk⟩:=K8 hS ih hs MP hk
   refine⟨qN l,cq,oH,qG,cB m,eD,?_,Gz e2,e3,e4,oS.grow.trans e5,Nat.le_trans oS.len e6,fun n hn hw=>?_,fun n hn=>e8 n (oS.wh n hn),hk⟩
   ·refine I4 qM hc hD ?_
    unfold tR
    rw[hn,c1]
    rcases ho with rfl|rfl<;>exact e1
   ·rw[e7 n (Nat.lt_of_lt_of_le hn oS.len) hw]
    exact oS.hp n hn fun h=>hw (e8 n h)
  cases so with
  |norm s=>
   obtain⟨st,rfl,hs⟩:=c2
   exact fin s st hs c3 c4 (.inl rfl) hk
  |ret s=>
   obtain⟨st,rfl,hs⟩:=c2
   exact fin s st hs c3 c4 (.inr rfl) hk
  |exit id s=>simp[Tr.run]at hk
 rename_i hD
 obtain⟨so,o,c1,c2,c3,hk⟩:=ih.c _ _ _ _ _ _ gG hk
 have fin:∀ (s:bx S.T.den) (st:St),RS S.T s st→bh ⟨f,max fn.ntmps args.length,mh 0 args,hp,[],wh,js⟩ s→(I3 S.C fn.results o=((aR S.C.P st.fr fn.results.toList).run st.hp).map fun l=>(.val (cB l),st.hp)) →
   (rX S.T S.Q s fn.results.toList fun l=>K (qN l) s.hp s.wh s.js).run=some r →
   ∃ v cq oH qG a eD,kn S.C f as Ny=some (.val a,eD)∧R S.T cq v a∧RH S.T cq eD∧kz qG cq eD∧dh hp cq∧hp.length≤cq.length ∧
   (∀ n:Nat,n<hp.length→n∉oH→cq[n]?=hp[n]?)∧(∀ n,n∈wh→n∈oH)∧(K v cq oH qG).run=some r:=by
  intro s st hs oS he hk
  obtain⟨l,m,g1,g2,hk⟩:=og hS.T hS.Q hs hk
  refine⟨qN l,s.hp,s.wh,s.js,cB m,st.hp,?_,Gz g2,hs.hp,hs.js,oS.grow,oS.len,oS.hp,oS.wh,hk⟩
  rw[Aw qM hc _ _ hD,c1]
  simp only[Option.bind_some]
  rw[he]
  have MV:(aR S.C.P st.fr fn.results.toList).run st.hp=some m:=g1
  rw[MV]
  rfl
 cases so with
 |norm s=>
  obtain⟨st,rfl,hs⟩:=c2
  exact fin s st hs c3 rfl hk
 |ret s=>
  obtain⟨st,rfl,hs⟩:=c2
  exact fin s st hs c3 rfl hk
 |exit id s=>simp[Tr.run]at hk
theorem Qb{k:Nat}(ih:oj S k){ρ:Type}{c:Code}{s:bx S.T.den}{K:oK S.T.den→Tr ρ}{r:ρ}{st:St}(h:RS S.T s st)(hk:(wi S (k+1) ρ c s K).run=some r):
  ∃ so o,cP S.C c st=some o∧Dm S.T so o∧bh s so.st∧(K so).run=some r:=by
 unfold wi at hk
 split at hk
 ·exact⟨.norm s,_,qa st,⟨st,rfl,h⟩,bh.refl _,hk⟩
 ·exact⟨.norm s,_,Eb _ st,⟨st,rfl,h⟩,bh.refl _,hk⟩
 ·exact⟨.ret s,_,wX st,⟨st,rfl,h⟩,bh.refl _,hk⟩
 ·rename_i id
  exact⟨.exit id s,_,tZ id st,⟨st,rfl,h⟩,bh.refl _,hk⟩
 ·rename_i a b
  obtain⟨so,o,c1,c2,c3,hk⟩:=ih.c _ _ _ _ _ _ h hk
  rw[gN,c1]
  cases so with
  |norm s'=>
   obtain⟨st',rfl,eV⟩:=c2
   obtain⟨P7,o2,d1,d2,d3,hk⟩:=ih.c _ _ _ _ _ _ eV hk
   exact⟨P7,o2,d1,d2,c3.trans d3,hk⟩
  |exit id s'=>
   obtain⟨st',rfl,eV⟩:=c2
   exact⟨.exit id s',_,rfl,⟨st',rfl,eV⟩,c3,hk⟩
  |ret s'=>
   obtain⟨st',rfl,eV⟩:=c2
   exact⟨.ret s',_,rfl,⟨st',rfl,eV⟩,c3,hk⟩
 ·rename_i o a b
  split at hk
  ·rename_i t ht
   have ha:=(h.ev o).lit ht
   rw[kU,ha]
   rcases ff hk with ⟨rfl,hk⟩|⟨rfl,hk⟩
   ·exact ih.c _ _ _ _ _ _ h hk
   ·exact ih.c _ _ _ _ _ _ h hk
  ·simp[Tr.run]at hk
 ·rename_i id b
  obtain⟨so,o,c1,c2,c3,hk⟩:=ih.c _ _ _ _ _ _ h hk
  rw[ll,c1]
  cases so with
  |norm s'=>
   obtain⟨st',rfl,eV⟩:=c2
   exact⟨.norm s',_,rfl,⟨st',rfl,eV⟩,c3,hk⟩
  |exit Ix s'=>
   obtain⟨st',rfl,eV⟩:=c2
   simp only at hk
   by_cases e:Ix=id
   ·rw[if_pos e]at hk
    exact⟨.norm s',.norm st',by simp[ua,e],⟨st',rfl,eV⟩,c3,hk⟩
   ·rw[if_neg e]at hk
    exact⟨.exit Ix s',.exit Ix st',by simp[ua,e],⟨st',rfl,eV⟩,c3,hk⟩
  |ret s'=>
   obtain⟨st',rfl,eV⟩:=c2
   exact⟨.ret s',_,rfl,⟨st',rfl,eV⟩,c3,hk⟩
 ·rename_i b
  split at hk
  case h_2=>simp[Tr.run]at hk
  rename_i c hc
  obtain⟨so,o,c1,c2,c3,hk⟩:=ih.c _ _ _ _ _ _ h hk
  exact⟨so,o,Ed hc c1,c2,c3,hk⟩
 ·rename_i b
  split at hk
  ·split at hk
   ·obtain⟨so,o,c1,c2,c3,hk⟩:=ih.c _ _ _ _ _ _ h hk
    rw[mY,c1]
    cases so with
    |norm s'=>
     obtain⟨st',rfl,eV⟩:=c2
     simp only at hk
     split at hk
     case h_2=>simp[Tr.run]at hk
     rename_i Bm
     rw[force_eq]at hk
     have hr:=Dg (n:=s.hp.length) hS.T eV (z8 Bm)
     have oS:=vV h c3
     obtain⟨P7,o2,d1,d2,d3,hk⟩:=ih.c _ _ _ _ _ _ hr hk
     refine⟨P7,o2,?_,d2,oS.trans d3,hk⟩
     simp only[Option.bind_some,I0]
     rw[←h.hp.length]
     exact d1
    |exit id s'=>
     obtain⟨st',rfl,eV⟩:=c2
     exact⟨.exit id s',_,rfl,⟨st',rfl,eV⟩,c3,hk⟩
    |ret s'=>
     obtain⟨st',rfl,eV⟩:=c2
     exact⟨.ret s',_,rfl,⟨st',rfl,eV⟩,c3,hk⟩
   ·simp[Tr.run]at hk
  ·rename_i hi _
   split at hk
   ·rename_i x0 bL T7
    simp only[Bool.and_eq_true]at bL
    rw[Option.bind_eq_some_iff]at T7
    obtain⟨l0,h1,h2⟩:=T7
    simp only[Tr.run,Option.bind_eq_some_iff]at hk
    obtain⟨w,hw,hk⟩:=hk
    obtain⟨o,x,so,oo,g1,g2,g3,g4,g5⟩:=NB hS ih bL.1.1 bL.1.2 bL.2 h1 h2 h hw
    exact⟨so,oo,g1,g3,g4,by rw[←g5]; exact hk⟩
   ·simp[Tr.run]at hk
 ·rename_i id ops draw
  split at hk
  ·obtain⟨s00,Wd,We,hk⟩:=u0 h hk
   obtain⟨s0,e1,e2,hk⟩:=Bn hS.T Wd hk
   replace e2:=We.trans e2
   rw[qE]at hk
   obtain⟨s',st',g1,g2,g3,hk⟩:=pX (C:=S.C) (fun o s st K h hk=>ih.o _ _ _ _ _ _ h hk) _ _ _ _ e1 hk
   exact⟨.norm s',.norm st',by rw[zq,←h.fn]; exact g1,⟨st',rfl,g2⟩,e2.trans g3,hk⟩
  ·split at hk
   case isFalse=>simp[Tr.run]at hk
   rename_i MT
   generalize hm:S.C.head s.fn id ops=m at hk
   have key:∀ (s:bx S.T.den) (st:St),RS S.T s st→(nZ ops ops.toList fun l=>xQ (lH (bD 0 s.hp.length (ops.toList.take m)) l) fun li=>r9 (fun nm o s K=>TO S nm o s K) li
       { s with hp:=s.hp++List.replicate ((ops.toList.take m).filter fun o=>au o.op).length none } [] fun s' fs=>
      if (qy (bW ops.toList) fs && mv (bW ops.toList) ops.size m) = true then vJ (fun o s K => Ni S k ρ o s K) (l.drop m) s' fun s' => K (.norm s') else .no "an order").run = some r →
     ∃ so o,(sP S.C ops (bD 0 st.hp.length (ops.toList.take m)) { st with hp:=st.hp++List.replicate ((ops.toList.take m).filter fun o=>au o.op).length none }).bind (FQ S.C ops m)=some o ∧
       Dm S.T so o∧bh s so.st∧(K so).run=some r:=by
    clear hk h
    intro s st h hk
    rw[qE,z5,ri]at hk
    have Wf:∀ n:Nat,dh s.hp (s.hp++List.replicate n none)∧RH S.T (s.hp++List.replicate n none) (st.hp++List.replicate n none):=by
     intro n
     have hg:dh s.hp (s.hp++List.replicate n none):=fun m o ho=>⟨o,by rw[List.getElem?_append_left (List.getElem?_eq_some_iff.1 ho).1]; exact ho,Nat.le_refl _,fun _=>rfl⟩
     exact⟨hg,aw.append (aw.mono (fun _ _=>Ba.mono hg) h.hp) (aw.replicate (show Ba S.T _ none none from trivial) n)⟩
    generalize Wg:((ops.toList.take m).filter fun o=>au o.op).length=QO at hk
    have nh:RS S.T { s with hp:=s.hp++List.replicate QO none } { st with hp:=st.hp++List.replicate QO none }:=
     ⟨h.fn,h.n,fun t=>(h.fr t).mono (Wf QO).1,(Wf QO).2,h.js.Bc fun n hn=>⟨by simp only; rw[List.getElem?_append_left (jg hn)],by simp only; rw[List.getElem?_append_left (by rw[←h.hp.length]; exact jg hn)]⟩⟩
    have Wh:bh s { s with hp:=s.hp++List.replicate QO none }:=
     ⟨rfl,rfl,fun _ _=>rfl,fun _ h=>h,fun n hn _=>by simp only; rw[List.getElem?_append_left hn],fun _ h=>h,by simp,(Wf QO).1⟩
    obtain⟨s',st',PT,MH,g1,g2,g3,g4,hk⟩:=uV (C:=S.C) (ops:=ops) (fun nm o s st K h hn hk=>P5 hS h hn hk) (bD 0 s.hp.length (ops.toList.take m)) s.hp.length _ _ [] _ (z6 _ _ _)
     (by rw[yf,Wg]; simp) (fun m hm Ie=>by
       simp only at Ie ⊢
       rw[List.getElem?_append_right hm,List.getElem?_replicate,if_pos]
       simp at Ie; omega) nh hk
    split at hk
    case isFalse=>simp[Tr.run]at hk
    rename_i Dz
    rw[Bool.and_eq_true]at Dz
    obtain⟨Dz,vv⟩:=Dz
    obtain⟨s2,Nv,j1,j2,j3,hk⟩:=pX (C:=S.C) (fun o s st K h hk=>ih.o _ _ _ _ _ _ h hk) _ _ _ _ g3 hk
    refine⟨.norm s2,.norm Nv,?_,⟨Nv,rfl,j2⟩,Wh.trans (g4.trans j3),hk⟩
    have hl:=h.hp.length
    rw[←hl]
    rw[g1]
    simp only[Option.bind_some,FQ]
    rw[if_pos]
    ·rw[pk,←j1,List.map_drop]
    ·rw[Bool.and_eq_true]
     simp only[List.nil_append]at Dz
     exact⟨ye g2 (Bh Dz),vv⟩
   obtain⟨s00,Wd,We,hk⟩:=u0 h hk
   obtain⟨s0,e1,e2,hk⟩:=Bn hS.T Wd hk
   replace e2:=We.trans e2
   obtain⟨so,o,i1,i2,i3,hk⟩:=key s0 _ e1 hk
   refine⟨so,o,?_,i2,e2.trans i3,hk⟩
   rw[GZ id ops MT,←h.fn,←rJ (S.C.ie s.fn id) st,hm]
   exact i1
 ·-- a range over a function
  rename_i f ps as bd
  split at hk
  case h_2=>simp[Tr.run]at hk
  rename_i g args hg
  split at hk
  case h_2=>simp[Tr.run]at hk
  rename_i lj
  rw[Bool.and_eq_true]at lj
  have hl:=h.hp.length
  have eO:=HR h lj.2
  obtain⟨H1,Ik⟩:∃ H1,H1=s.hp++[some (aC.oJ s.fn ps as bd (wg (cV as++cV bd) s.fr (List.range s.n)))]:=⟨_,rfl⟩
  rw[←Ik]at hk
  have Ou:dh s.hp H1:=fun m o ho=>⟨o,by rw[Ik,List.getElem?_append_left (List.getElem?_eq_some_iff.1 ho).1]; exact ho,Nat.le_refl _,fun _=>rfl⟩
  have fj:H1[s.hp.length]?=some (some (aC.oJ s.fn ps as bd (wg (cV as++cV bd) s.fr (List.range s.n)))):=by rw[Ik]; simp
  have hh1:RH S.T H1 (st.hp++[some (.ga (.loop st.fn ps as bd .ready) (tP as bd st.fr))]):=by
   have:aw (Ba S.T H1) (s.hp++[some (aC.oJ s.fn ps as bd (wg (cV as++cV bd) s.fr (List.range s.n)))]) (st.hp++[some (.ga (.loop st.fn ps as bd .ready) (tP as bd st.fr))]):=
    aw.append (aw.mono (fun _ _=>Ba.mono Ou) h.hp) ⟨⟨.ready,_,by rw[h.fn],aw.mono (fun _ _ h=>h.imp id (R.mono Ou)) eO⟩,trivial⟩
   rw[←Ik]at this
   exact this
  have Qq:kz ((s.hp.length,.ready)::s.js) H1 (st.hp++[some (.ga (.loop st.fn ps as bd .ready) (tP as bd st.fr))]):=by
   intro m x hm
   simp only[cm]at hm
   split at hm
   ·simp_all[recAt,fj,aC.isRec,hG]
   ·obtain⟨h1,h2⟩:=h.js m x hm
    have bZ:=jg h1
    exact⟨by rw[pW (show H1[m]?=s.hp[m]? by rw[Ik,List.getElem?_append_left bZ])]; exact h1,by rw[nB (List.getElem?_append_left (by omega))]; exact h2⟩
  have hyR:RV S.T H1 (.mp true s.hp.length) (.mp true st.hp.length):=.inr (by simp only[R]; exact⟨by rw[hl],_,fj⟩)
  obtain⟨m,ub,yx⟩:=fX ((h.ev f).mono Ou) (show aw (RV S.T H1) [.mp true s.hp.length] [.mp true st.hp.length] from ⟨hyR,trivial⟩) hg
  have K2:args.any bN=false:=by simpa using lj.1
  obtain⟨v,cq,oH,qG,a,eD,g1,g2,g3,gj,g4,g5,g6,g7,hk⟩:=ih.f _ _ _ _ _ _ _ _ _ _ (yx K2) hh1 Qq hk
  have FJ:H1.length=s.hp.length+1:=by rw[Ik]; simp
  have fin:∀ x,cm qG s.hp.length=some x→RS S.T (s.gJ s.hp.length cq oH qG) { st with hp:=qU eD st.hp.length }∧bh s (s.gJ s.hp.length cq oH qG)∧hG eD st.hp.length=some x:=by
   intro x hx
   obtain⟨q1,q2⟩:=gj _ _ hx
   rw[hl]at q2
   obtain⟨MO,VQ,nM,VR,yK,hr⟩:=iy q2
   obtain⟨o,ho,VP⟩:∃ o,cq[s.hp.length]?=some (some o)∧o.isRec=true:=by
    grind[recAt]
   have qQ:o.cur=0∧o.len=0:=by cases o<;>simp[aC.isRec]at VP; exact⟨rfl,rfl⟩
   have Ci:qU eD st.hp.length=eD.set st.hp.length (some (.ga (.loop MO VQ nM VR .gJ) (yK.map fun _=>.any))):=by unfold qU; rw[hr]
   obtain⟨u1,u2⟩:=g3.QD ho (o':=.gT) (a':=.ga (.loop MO VQ nM VR .gJ) (yK.map fun _=>.any)) (by rw[qQ.1]; exact Nat.zero_le _) (fun _=>by rw[qQ.2]; rfl) (.inr ⟨_,_,rfl,fun n=>by
    rw[yg]
    simp[Go.PI.below]⟩)
   rw[hl]at u2
   have zm:dh s.hp (cq.set s.hp.length (some .gT)):=Ou.trans (g4.trans u1)
   refine⟨⟨h.fn,h.n,fun t=>(h.fr t).mono zm,?_,?_⟩,⟨rfl,rfl,fun _ _=>rfl,fun _ h=>h,fun n hn hw=>?_,g7,?_,zm⟩,q2⟩
   ·rw[Ci]
    show RH S.T (cq.set s.hp.length (some .gT)) _
    rw[hl]; exact u2
   ·intro n y hy
    have AD:cm (CO qG s.hp.length) n=some y:=hy
    rw[Dn]at AD
    split at AD
    ·simp at AD
    rename_i dK
    obtain⟨w1,w2⟩:=gj _ _ AD
    refine⟨?_,?_⟩
    ·rw[pW (show (s.gJ s.hp.length cq oH qG).hp[n]?=cq[n]? from List.getElem?_set_ne (Ne.symm dK))]; exact w1
    ·rw[Ci,nB (List.getElem?_set_ne (by rw[←hl]; exact Ne.symm dK))]; exact w2
   ·show (cq.set s.hp.length (some .gT))[n]?=_
    rw[List.getElem?_set_ne (by omega),g6 n (by omega) hw,Ik,List.getElem?_append_left hn]
   ·show s.hp.length≤(cq.set s.hp.length (some .gT)).length
    rw[List.length_set]; omega
  have aU:cP S.C (.rangeFunc f ps as bd) st=u7 st st.hp.length eD:=by
   rw[Eh,ub]
   simp only[Option.bind_some,g1]
   rfl
  rw[aU]
  split at hk
  ·rename_i hx
   obtain⟨f1,f2,f3⟩:=fin _ hx
   exact⟨.norm _,_,by unfold u7; rw[f3],⟨_,rfl,f1⟩,f2,hk⟩
  ·rename_i hx
   obtain⟨f1,f2,f3⟩:=fin _ hx
   exact⟨.ret _,_,by unfold u7; rw[f3],⟨_,rfl,f1⟩,f2,hk⟩
  ·rename_i id hx
   obtain⟨f1,f2,f3⟩:=fin _ hx
   exact⟨.exit id _,_,by unfold u7; rw[f3],⟨_,rfl,f1⟩,f2,hk⟩
  ·simp[Tr.run]at hk
 ·simp[Tr.run]at hk
theorem DA:∀ k,oj S k
 |0=>⟨fun _ _ _ _ _ _ _ _ _ _ _ _ _ h=>by simp[Oj,Tr.run]at h,fun _ _ _ _ _ _ _ h=>by simp[wi,Tr.run]at h,fun _ _ _ _ _ _ _ h=>by simp[Ni,Tr.run]at h⟩
 |k+1=>
  have ih:=DA k
  ⟨fun _ _ _ _ _ _ _ _ _ _ ha hh hj hk=>Qa hS ih ha hh hj hk,fun _ _ _ _ _ _ h hk=>Qb hS ih h hk,fun _ _ _ _ _ _ h hk=>P6 hS ih h hk⟩
end
end Go.PI
end
section
/- PS, part R: from an equation of trees to what is known of a function; laws; arguments read. -/
namespace Go.PI
theorem Dw[ab]{S:nW}(hS:S.Ok){k:Nat}{f:FuncId}{σ:uB S.T}(hk:S.C.kind f=.pure)(hi:S.C.kl f=none)(h:∀ x,(PD S k f σ.args σ.res x).run=σ.fn x):pV S.C S.T f σ where
 kind:=hk
 QJ:=by
  intro x as y hx hy
  rw[←h x]at hy
  unfold PD at hy
  obtain⟨v,cq,oH,qG,a,eD,g1,g2,g3,_,_,_,_,_,hy⟩:=(DA hS k).f _ f _ [] [] [] _ _ as [] (KM hS.T [] hx) (show RH S.T [] [] from trivial) (fun _ _ h=>by simp[cm]at h) hy
  obtain⟨v',rd,a',h1,h2,h3,hy⟩:=KL g3 g2 hy
  split at hy
  case h_2=>simp[Tr.run]at hy
  rename_i r hr
  simp only[Tr.run,Option.some.injEq]at hy
  subst hy
  rw[Option.bind_eq_some_iff]at hr
  obtain⟨l,hl,hr⟩:=hr
  have UE:∀ (ts:List Nat) (l:List (SV S.T.den)) r,Hw S.T ts l=some r→ts.length=l.length:=by
   intro ts
   induction ts with
   |nil=>
    grind[Hw]
   |cons t ts ih=>
    intro l r h
    cases l with
    |nil=>simp[Hw]at h
    |cons v l=>
     simp only[Hw,Option.bind_eq_some_iff,Option.map_eq_some_iff]at h
     obtain⟨_,_,_,h,_⟩:=h
     simp[ih _ _ h]
  have hlen:=UE _ _ _ hl
  have key:∃ m,RL S.T cq (Kv σ.res v') m∧cB m=a':=by
   unfold Kv at hlen ⊢
   split at hlen
   ·exact⟨[a'],by simp only[RL]; exact⟨h2,trivial⟩,rfl⟩
   ·rename_i dK
    have sw:σ.res.length≠1:=by
     intro hc
     match cy:σ.res,hc with
     |[t],_=>exact dK t cy
    split at hlen
    ·simp only[R]at h2
     obtain⟨m,rfl,h2⟩:=h2
     have hm:=h2.length
     refine⟨m,h2,?_⟩
     match m,hm with
     |[],_=>rfl
     |[x],hm=>simp at hm; omega
     |x::y::r,_=>rfl
    ·simp at hlen; omega
  obtain⟨m,ub,QN⟩:=key
  have DX:=Fh hS.T ub hl
  rw[oe _ _ _ hr]
  refine⟨a,eD,m,?_,?_,?_,DX⟩
  ·simp only[KN,hi,g1]
  ·rw[QN]; exact h1.1
  ·rw[QN]; exact h3.1
def Gv(C:Ctx)(T:dm)(M:List (Nat×jS))(hint:FuncId→Nat→Option Hint)(uC:FuncId→Nat→Bool)(L:List (Nat×uB T))(n:Nat)(O:List (Nat×vI T):=[])(tp:FuncId→Nat→Bool:=fun _ _=>false)(tw:FuncId→Tmp→List Tw:=fun _ _=>[]):nW:=
 ⟨C,T,cm (L.take n),hint,uC,M,cm O,tp,tw⟩
theorem Ag{α:Type}:∀ {l m:List (Nat×α)} {n:Nat} {a:α},cm (l++m) n=some a→cm l n=some a∨cm m n=some a
 |[],m,n,a,h=>.inr h
 |(k,b)::l,m,n,a,h=>by
  simp only[List.cons_append,cm]at h ⊢
  split at h
  ·exact .inl h
  ·exact Ag h
section
variable {C:Ctx}{T:dm}{M:List (Nat×jS)}{hint:FuncId→Nat→Option Hint}{uC:FuncId→Nat→Bool}{L:List (Nat×uB T)}{O:List (Nat×vI T)}{tp:FuncId→Nat→Bool}{tw:FuncId→Tmp→List Tw}
theorem CW[ab](hT:T.Ok)(hQ:gH.Ok ⟨C.P,M,fun _=>false⟩)(hZ:T.tC ⟨C.P,M,fun _=>false⟩)(hO:∀ g σ,cm O g=some σ→GB C T g σ):(Gv C T M hint uC L 0 O tp tw).Ok:=
 ⟨hT,hQ,hZ,fun g σ h=>by simp[Gv,cm]at h,hO⟩
theorem tz[ab]{n:Nat}(hS:(Gv C T M hint uC L n O tp tw).Ok){f:FuncId}{σ:uB T}(hL:L[n]?=some (f,σ))(h:pV C T f σ):(Gv C T M hint uC L (n+1) O tp tw).Ok:=by
 refine⟨hS.T,hS.Q,hS.Z,fun g τ hg=>?_,hS.own⟩
 simp only[Gv]at hg
 rw[List.take_add_one,hL]at hg
 rcases Ag hg with hg|hg
 ·exact hS.sum g τ hg
 ·have:=gu hg
  simp only[Option.toList_some,List.mem_singleton]at this
  obtain⟨rfl,rfl⟩:=this
  exact h
theorem aB[ab]{n:Nat}(hS:(Gv C T M hint uC L n O tp tw).Ok){f:FuncId}{σ:uB T}(hL:L[n]?=some (f,σ))(hk:C.kind f=.pure)(hi:C.kl f=none)(k:Nat)
  (h:∀ x,(PD (Gv C T M hint uC L n O tp tw) k f σ.args σ.res x).run=σ.fn x):(Gv C T M hint uC L (n+1) O tp tw).Ok:=
 tz hS hL (Dw hS hk hi h)
theorem ND[ab]{n:Nat}(hS:(Gv C T M hint uC L n O tp tw).Ok){f:FuncId}{σ:uB T}(h:cm (L.take n) f=some σ):pV C T f σ:=hS.sum f σ h
end
theorem Ft[ab]{hp:af}{v:AV}{b:Bool}(h:(aW 1000 v).run hp=some (.lit (.bool b))):v=.lit (.bool b):=by
 cases v with
 |lit x=>
  simp only[aW]at h
  split at h
  ·simp[RM.run_pure]at h
  ·simpa[RM.run_pure] using h
 |agg l=>simp only[aW,RM.run_bind]at h; cases hq:(aM 999 l).run hp<;>rw[hq]at h<;>simp[RM.run_pure]at h
 |jj l=>simp only[aW,RM.run_bind]at h; cases hq:(aM 999 l).run hp<;>rw[hq]at h<;>simp[RM.run_pure]at h
 |sl l=>simp[aW,RM.run_pure]at h
 |oT l c=>simp[aW,RM.run_pure]at h
 |nz=>simp[aW,RM.run_pure]at h
 |bc e j=>simp[aW,RM.run_pure]at h
 |ref n aq i j=>
  simp only[aW,RM.run_bind]at h
  cases hq:(RM.arr n aq).run hp with
  |none=>rw[hq]at h; simp at h
  |some q=>
   obtain⟨g,c,f,es⟩:=q
   rw[hq]at h
   simp only[Option.bind_some]at h
   split at h
   ·split at h
    ·simp[RM.run_pure]at h
    ·rename_i e _ _
     rw[RM.run_bind]at h
     cases dR:(aW 999 e).run hp<;>rw[dR]at h<;>simp[RM.run_pure]at h
   ·simp[RM.ae]at h
 |iI n aq i j len cap=>
  simp only[aW,RM.run_bind]at h
  cases hq:(RM.arr n aq).run hp with
  |none=>rw[hq]at h; simp at h
  |some q=>
   obtain⟨g,c,f,es⟩:=q
   rw[hq]at h
   simp only[Option.bind_some]at h
   split at h
   ·split at h
    ·split at h
     ·simp[RM.run_pure]at h
     ·rename_i cs _ _ _
      rw[RM.run_bind]at h
      cases dR:(aM 999 ((cs.drop j).take len)).run hp<;>rw[dR]at h<;>simp[RM.run_pure]at h
    ·simp[RM.ae]at h
   ·simp[RM.ae]at h
 |mp n=>simp[aW,RM.ae]at h
 |any=>simp[aW,RM.ae]at h
 |fZ t x=>simp only[aW,RM.run_bind]at h; cases hq:(aW 999 x).run hp<;>rw[hq]at h<;>simp[RM.run_pure]at h
 |iK fn f c=>
  simp only[aW,RM.run_bind]at h
  cases hq:(aM 999 f).run hp with
  |none=>rw[hq]at h; simp at h
  |some f'=>
   cases dR:(aM 999 c).run hp with
   |none=>rw[hq,dR]at h; simp at h
   |some c'=>simp_all[RM.run_pure]
 |bp esz n aq off len cap=>
  simp only[aW,RM.run_bind]at h
  cases hq:(RM.arr n aq).run hp with
  |none=>rw[hq]at h; simp at h
  |some q=>
   obtain⟨g,c,f,es⟩:=q
   rw[hq]at h
   simp only[Option.bind_some]at h
   split at h
   ·split at h
    ·simp[RM.run_pure]at h
    ·rw[RM.run_bind]at h
     cases dR:(aM 999 ((es.drop off).take len)).run hp<;>rw[dR]at h<;>simp[RM.run_pure]at h
   ·simp[RM.ae]at h
open Go.RowKit in
theorem K9[ab]{C:Ctx}{T:dm}(hC:C.Ok){f:FuncId}{σ:uB T}(h:pV C T f σ)(hi:C.kl f=none){x:HL T.den (σ.args.map .v)}{y:HL T.den (σ.res.map .v)}(hy:σ.fn x=some y)
  (cy:∀ l,aw (Ox T) (fQ _ y) l→l=[.lit (.bool true)]) {as:List AV} (ha:aw (Ox T) (fQ _ x) as) {W:World} (hg:mw (Env.all W)) {vs:List Value} (hr:an (Env.all W) false as vs) :
  Calls C.P f vs.toArray W fun e w'=>e=.returned (.bool true)∧Below W.heap.size W w':=by
 obtain⟨v,gX,l,h1,h2,_,h4⟩:=h.QJ x as y ha hy
 have:=cy l h4
 subst this
 have hv:=Ft h2
 subst hv
 unfold KN at h1
 rw[hi]at h1
 simp only at h1
 split at h1
 case h_2=>simp at h1
 rename_i v0 Sm aU
 simp only[Option.some.injEq,Prod.mk.injEq]at h1
 obtain⟨rfl,rfl⟩:=h1
 exact GU hC aU hg hr
end Go.PI
end
section
/- PS, part S: arguments that came in, as typed values. -/
namespace Go.PI
section
variable {P:Program}{n t:Nat}{l:List AV}
theorem ot(h:Shape P n t l):∃ k,n=k+1:=by
 cases n with
 |zero=>simp[Shape]at h
 |succ k=>exact⟨k,rfl⟩
theorem HY[ab]{i:IntKind}(hu:P.underlying t=some (.int i))(h:Shape P n t l):∃ m:Int,l=[.lit (.int i m)]∧i.min≤m∧m≤i.max:=by
 obtain⟨k,rfl⟩:=ot h
 simp only[Shape,hu]at h
 obtain⟨m,h1,h2⟩:=h
 simp only[Lit.wf,Bool.and_eq_true,decide_eq_true_eq]at h2
 exact⟨m,h1,h2⟩
theorem vY[ab]{e:Nat}{α:Type}{Q:α→AV→Prop}{d:TypeDesc}(hu:P.underlying t=some (.slice e))(he:P.underlying e=some d)(h:Shape P n t l)
  (IW:∀ k x,(∃ cl,(if eg d then x=AV.agg cl else cl=[x])∧Shape P k e cl)→∃ y,Q y x) :
  ∃ ys xs,l=[.sl xs]∧aw Q ys xs∧ys.length≤maxLen:=by
 obtain⟨k,rfl⟩:=ot h
 simp only[Shape,hu]at h
 obtain⟨xs,h1,h2,h3⟩:=h
 have:∃ ys,aw Q ys xs:=by
  clear h1 h2
  induction xs with
  |nil=>exact⟨[],trivial⟩
  |cons x xs ih=>
   obtain⟨ys,h4⟩:=ih fun y hy=>h3 y (List.mem_cons_of_mem _ hy)
   obtain⟨cl,h5,h6⟩:=h3 x (by simp)
   rw[he]at h5
   obtain⟨y,h7⟩:=IW k x ⟨cl,h5,h6⟩
   exact⟨y::ys,h7,h4⟩
 obtain⟨ys,h4⟩:=this
 exact⟨ys,xs,h1,h4,by rw[h4.length]; exact h2⟩
theorem Bp[ab]{fs:Array Field}(hu:P.underlying t=some (.struct fs))(h:Shape P n t l):l.length=P.cellsOf t∧∃ k,∀ f,f∈fs.toList→Shape P k f.type ((l.drop f.offset).take (P.cellsOf f.type)):=by
 obtain⟨k,rfl⟩:=ot h
 simp only[Shape,hu]at h
 exact⟨h.1,k,h.2⟩
theorem Bq[ab]{Q:gH}(hQ:Q.Ok){t:Nat}{m:jS}(hm:Q.ty t=some m){fs:List (Nat×Nat)}(hk:m.kind=.struct fs)(h:Shape Q.P n t l):
  l.length=Q.P.cellsOf t∧∃ k,∀ q,q∈fs→Shape Q.P k q.2 ((l.drop q.1).take (Q.P.cellsOf q.2)):=by
 obtain⟨d,hd,Ee⟩:=hQ.kind t m hm
 rw[hk]at Ee
 cases d<;>simp[n7]at Ee
 rename_i DJ
 subst Ee
 obtain⟨h1,k,h2⟩:=Bp hd h
 refine⟨h1,k,fun q hq=>?_⟩
 obtain⟨f,hf,rfl⟩:=List.mem_map.1 hq
 exact h2 f hf
end
theorem ou{Q:gH}(hQ:Q.Ok){t:Nat}{m:jS}(h:Q.ty t=some m):Q.P.cellsOf t=m.size:=by
 obtain⟨r,h1,_,h2,_⟩:=hQ.row t m h
 unfold eW at h1
 unfold Program.cellsOf
 cases hi:Q.P.info? t with
 |none=>rw[hi]at h1; simp at h1
 |some i=>
  grind
theorem jI[ab]{P:Program}{n t t':Nat}{l:List AV}(hu:P.underlying t=P.underlying t')(h:Shape P n t l)(hc:P.cellsOf t=P.cellsOf t':=by kernel_rfl):Shape P n t' l:=by
 obtain⟨k,rfl⟩:=ot h
 simp only[Shape]at h ⊢
 rw[←hu,←hc]
 exact h
theorem tI{k:IntKind}{n:Int}:a9 (.lit (.int k n))=true:=rfl
theorem qI{b:Bool}:a9 (.lit (.bool b))=true:=rfl
theorem tJ{s:ByteArray}:a9 (.lit (.string s))=true:=rfl
theorem DB{T:dm}{H:ah T.den}{v:SV T.den}{vs:List (SV T.den)}{l:List AV}:RL T H (v::vs) l↔∃ c cs,l=c::cs∧R T H v c∧RL T H vs cs:=by
 cases l with
 |nil=>simp[RL]
 |cons c cs=>
  grind[RL]
theorem Fu{T:dm}{H:ah T.den}{l:List AV}:RL T H [] l↔l=[]:=by
 cases l<;>simp[RL]
end Go.PI
end
section
/- PS: what must hold of a seat's types, for all the plain kinds at once. -/
namespace Go.PI
section
variable {T:dm}{H:ah T.den}{v:SV T.den}{a:AV}
theorem eH{k:IntKind}{x:Int}(h:dI k v=some x)(hr:R T H v a):a=.lit (.int k x):=by
 unfold dI at h
 split at h
 ·simp_all[R]
 ·simp at h
theorem La{x:Bool}(h:dB v=some x)(hr:R T H v a):a=.lit (.bool x):=by
 unfold dB at h
 split at h
 ·simp_all[R]
 ·simp at h
theorem SH{x:ByteArray}(h:dS v=some x)(hr:R T H v a):a=.lit (.string x):=by
 unfold dS at h
 split at h
 ·simp_all[R]
 ·simp at h
theorem Lb{α:Type}{q:α→AV→Prop}{d:SV T.den→Option α}(hd:∀ v x a,d v=some x→R T H v a→q x a):∀ (vs:List (SV T.den)) (l:List α) (m:List AV),R3 d vs=some l→RL T H vs m→aw q l m
 |[],l,[],h,_=>by simp[R3]at h; subst h; trivial
 |v::vs,l,a::m,h,hr=>by
  simp only[RL]at hr
  simp only[R3,Option.bind_eq_some_iff,Option.map_eq_some_iff]at h
  obtain⟨x,h1,ys,h2,rfl⟩:=h
  exact⟨hd _ _ _ h1 hr.1,Lb hd vs ys m h2 hr.2⟩
 |[],_,_::_,_,h=>by simp[RL]at h
 |_::_,_,[],_,h=>by simp[RL]at h
theorem fY{e:Nat}{x:List (T.den e)}{d:SV T.den→Option (T.den e)}(hd:∀ v x a,d v=some x→R T H v a→T.rp e x a)(h:Ol e d v=some x)(hr:R T H v a):Nj (T.rp e) x a:=by
 unfold Ol at h
 split at h
 ·rename_i t l
  split at h
  ·rename_i e
   subst e
   have e2:l=x:=Option.some.inj h
   subst e2
   simp only[R]at hr
   exact hr
  ·simp at h
 ·simp only[R]at hr
  obtain⟨m,rfl,hm,_⟩:=hr
  exact .inl ⟨m,rfl,Lb hd _ _ _ h hm⟩
 ·grind[R]
 ·simp at h
theorem Qd{α:Type}{q:α→AV→Prop}{d:SV T.den→Option α}{x:α}(hd:∀ v a,d v=some x→R T H v a→q x a)(h:Vg d v=some x)(hr:R T H v a):TP q x a:=by
 unfold Vg at h
 split at h
 ·grind[R]
 ·simp at h
theorem uL{l:Value}(h:a=.lit l):R T H (.lit l) a:=by simp only[R]; exact h
theorem uG{e:Nat}{x:List (T.den e)}(h:Nj (T.rp e) x a):R T H (.ji e x) a:=by simp only[R]; exact h
theorem uP{α:Type}{q:α→AV→Prop}{u:α→SV T.den}{x:α}(hu:∀ b,q x b→R T H (u x) b)(hc:aE (u x)=true)(h:TP q x a):R T H (.bc (u x) 0) a:=by
 grind[R]
theorem eI{k:IntKind}{x:Int}(h:a=.lit (.int k x)):aG false 1 a=true∧closed a=true∧a9 a=true:=by subst h; exact⟨rfl,rfl,rfl⟩
theorem eB{x:Bool}(h:a=.lit (.bool x)):aG false 1 a=true∧closed a=true∧a9 a=true:=by subst h; exact⟨rfl,rfl,rfl⟩
theorem eS{x:ByteArray}(h:a=.lit (.string x)):aG false 1 a=true∧closed a=true∧a9 a=true:=by subst h; exact⟨rfl,rfl,rfl⟩
theorem eG{α:Type}{q:α→AV→Prop}{x:List α}(h:Nj q x a):aG false 1 a=true∧closed a=true∧a9 a=true:=by
 rcases h with ⟨l,rfl,_⟩|⟨_,rfl⟩<;>exact⟨rfl,rfl,rfl⟩
theorem eP{α:Type}{q:α→AV→Prop}{x:α}(h:TP q x a):aG false 1 a=true∧closed a=true∧a9 a=true:=by
 obtain⟨b,rfl,_⟩:=h
 exact⟨rfl,rfl,rfl⟩
theorem yy{p q r:Prop}(h:p∧q∧r):p∧q:=⟨h.1,h.2.1⟩
theorem zz{α β:Type}{P:α→β→Prop}{x z:α}{y za:β}(h1:some x=some z)(h2:some y=some za)(h:P x y):P z za:=by
 simp_all
theorem zn{α:Type}{z:α}{p:Prop}(h:(none:Option α)=some z):p:=by cases h
end
end Go.PI
end
section
/- PS, part U: what is lacking of laws to compute by: appends and literal slices. -/
namespace Go.PI
variable {C:Ctx}{P:Program}{dst:Option Tmp}{type:TypeId}{pos:String}{after:Array Edge}{guard:Option (Nat×Bool)}{s:St}{hp:af}{nm:Nat}{ev:Operand→AV}
theorem DF[ab]{d:Tmp}(h:C.acc s.fn d=false):hX C ⟨some d,.assign (.const (.slice none 0 0)),type,pos,after,guard⟩ s=some (.norm { s with fr:=s.fr.set d (.lit cK) }):=by
 refine bR (jo C _ _) (by simp[fw]) fun k=>?_
 simp only[fw,h]
 rfl
theorem Li{x y:Operand}{t u:TypeId}:(aK P nm ev ⟨dst,.call ⟨.builtin .append,#[x,y],#[t,u]⟩,type,pos,after,guard⟩).run hp=(ft P nm t u (ev x) (ev y)).run hp:=rfl
def Lj(d:Option di):AV→Option di
 |.lit (.slice none 0 0)=>some ⟨int 0,[]⟩
 |_=>d
theorem Lk{d:Option di}:Lj d (.lit (.slice none 0 0))=some ⟨int 0,[]⟩:=rfl
theorem NO{t:TypeId}{x:Operand}(h:bV P t=true):(aK P nm ev ⟨dst,.call ⟨.builtin .cap,#[x],#[t]⟩,type,pos,after,guard⟩).run hp =
  Lj (Jx P nm ev ⟨dst,.call ⟨.builtin .cap,#[x],#[t]⟩,type,pos,after,guard⟩ hp) (ev x):=by
 unfold Lj
 split
 ·rename_i hx; simp[aK,dc,hx,h]; rfl
 ·rfl
theorem NP{t:TypeId}{x:Operand}(h:bV P t=true):(aK P nm ev ⟨dst,.call ⟨.builtin .len,#[x],#[t]⟩,type,pos,after,guard⟩).run hp =
  Lj (Jx P nm ev ⟨dst,.call ⟨.builtin .len,#[x],#[t]⟩,type,pos,after,guard⟩ hp) (ev x):=by
 unfold Lj
 split
 ·rename_i hx; simp[aK,dc,hx,h,nE]; rfl
 ·rfl
theorem NQ[ab]{t:TypeId}{x:Operand}{lo hi mx:Option Operand}:(aK P nm ev ⟨dst,.slice t x lo hi mx,type,pos,after,guard⟩).run hp=(mQ P t (ev x) (lo.map ev) (hi.map ev) (mx.map ev)).map fun x=>⟨x,[]⟩:=AI _ _
theorem NR{t:TypeId}{r:bG}(yJ:aN P t=some r):mQ P t (.lit cK) none (some (int 0)) none=some (.lit cK):=by
 simp[mQ,yJ,bq,asNat]
theorem NS{t:TypeId}{r:bG}(yJ:aN P t=some r){n aq len:Nat}(hv:0<aq):mQ P t (.bp r.size n aq 0 len none) none (some (int 0)) none=some (.bp r.size n aq 0 0 none):=by
 simp[mQ,yJ,bq,asNat,hv]
theorem Ll[ab]{t u:TypeId}{r:bG}{k:IntKind}{z:AV}{n:Nat}(yJ:aN P t=some r)(gG:bV P u=false)(hu:P.underlying u=some (.int k))(hz:cj r=some z)(hr:0<r.size)
  (ho:aG r.isAgg r.size z=true) (hn:0<n) (h1:n*r.bytes≤2^44) (h2:n≤2^44) :
  (ft P nm t u (.lit cK) (int n)).run hp=some ⟨.bp r.size nm n 0 n none,[(nm,.arr true true false (List.replicate n z))]⟩:=by
 have dK:(List.replicate n z).isEmpty=false:=by cases n with
  |zero=>omega
  |succ n=>rfl
 have bf:(List.replicate n z).all (aG r.isAgg r.size)=true:=by simp[ho]
 simp only[ft,yJ,v8,gG,hu,hz,rD,RM.run_bind,h1,h2,and_self,if_true,RM.run_pure,Option.bind_some,Option.isSome_some,hr,bf,decide_true,Bool.and_self,dK,List.length_replicate]
theorem Fw[ab]{k n:Nat}{xs:List AV}{esz:Nat}{cap:Option Nat}{g f:Bool}(h:(RM.arr n xs.length).run hp=some (g,true,f,xs)):(aW (k+1) (.bp esz n xs.length 0 xs.length cap)).run hp=some (.sl xs):=by
 simp[aW,RM.run_bind,h,RM.run_pure]
def vZ:AV→AV
 |.lit (.slice none 0 0)=>.sl []
 |x=>x
theorem Ah{E:Env}{o:Bool}{x:AV}{v:Value}(h:ai E o x v):ai E o (vZ x) v:=by
 unfold vZ
 split
 ·grind[ai]
 ·exact h
theorem yv[ab]{E:Env}{c:Array Value}{esz:Nat}:∀ {xs:List AV} {pos:Nat},dM E xs c pos esz→dM E (xs.map vZ) c pos esz
 |[],_,_=>by simp[dM]
 |x::xs,pos,h=>by
  simp only[dM,List.map_cons]at h ⊢
  obtain⟨⟨v,h1,h2⟩,h3⟩:=h
  exact⟨⟨v,Ah h1,h2⟩,yv h3⟩
theorem H4[ab]{E:Env}{o:Bool}{xs:List AV}{v:Value}(h:ai E o (.sl xs) v):ai E o (.sl (xs.map vZ)) v:=by
 simp only[ai,List.length_map]at h ⊢
 obtain⟨a,cap,h1,h2,h3,h4⟩:=h
 refine⟨a,cap,h1,h2,h3,?_⟩
 rcases h4 with h4|⟨b,of,esz,c,h5,h6,h7⟩
 ·left; rw[h4]; rfl
 ·exact .inr ⟨b,of,esz,c,h5,h6,yv h7⟩
def v5:List AV→Option (List (List AV))
 |[]=>some []
 |.sl l::xs=>(v5 xs).map fun r=>l::r
 |_::_=>none
theorem DG:∀ {xs:List AV} {ls:List (List AV)},v5 xs=some ls→xs=ls.map .sl
 |[],ls,h=>by simp[v5]at h; subst h; rfl
 |x::xs,ls,h=>by
  unfold v5 at h
  split at h
  ·rename_i hh; simp at hh
  ·rename_i l xs' hh
   simp only[List.cons.injEq]at hh
   obtain⟨rfl,rfl⟩:=hh
   simp only[Option.map_eq_some_iff]at h
   obtain⟨r,h1,rfl⟩:=h
   rw[DG h1]; rfl
  ·simp at h
def WT(r:bG):List AV→Option AV
 |[.sl xs]=>if xs.all (aG r.isAgg r.size)=true∧xs.length*r.bytes≤2^44∧xs.length≤2^44 then some (.sl xs) else none
 |[.lit (.slice none 0 0)]=>some (.sl [])
 |_=>none
def mu(r:bG):List AV→Option AV
 |[.sl es]=>(match v5 (es.map vZ) with
  |some ls=>if ls.length≤2^44∧ls.flatten.all (aG r.isAgg r.size)=true∧ls.flatten.length*r.bytes≤2^44∧ls.flatten.length≤2^44 then some (.sl ls.flatten) else none
  |none=>none)
 |[.lit (.slice none 0 0)]=>some (.sl [])
 |_=>none
theorem DH[ab]{C0:Ctx}(bL:C0.Ok){g:FuncId}{xs:List AV}{r:AV}
  (h0:∃ res gX,kn C0 g [.sl xs] []=some (.val res,gX)∧(aW 1000 res).run gX=some r)
  (Ec:Env) (w:World) (vs:List Value) (hI:Inv Ec [] w) (ha:an Ec false [.sl xs] vs):Calls C0.P g vs.toArray w (bO Ec w [] (.val r)):=by
 obtain⟨res,gX,he,h⟩:=h0
 have out:(gd [.sl xs] gX (.val res)).run []=some (.val r,[]):=by
  simp only[gd,h]
  split
  ·rfl
  ·simp[ck,names,dJ,RM.run_bind,RM.run_pure]
 have ha2:an Ec true [.sl xs] vs:=by
  match vs,ha with
  |[],ha=>simp[an]at ha
  |_::_::_,ha=>simp[an]at ha
  |[v],ha=>
   simp only[an]at ha ⊢
   exact⟨ai.ik ha.1,trivial⟩
 obtain⟨k,hk⟩:=(bg (mc C0 g [.sl xs] [])).1 he
 have ng:(aM 1000 [.sl xs]).run []=some [.sl xs]:=rfl
 refine uh hI ha2 ng out fun Ec' hY NW=>?_
 refine(sound bL k).1 g [.sl xs] [] _ _ hk Ec' w vs hY ?_
 match vs,NW with
 |[],ha=>simp[an]at ha
 |_::_::_,ha=>simp[an]at ha
 |[v],ha=>
  simp only[an]at ha ⊢
  exact⟨ai.ik ha.1,trivial⟩
theorem HV[ab]{C0:Ctx}(bL:C0.Ok){g:FuncId}{r:bG}
  (h1:∀ ls:List (List AV),ls.length≤2^44→(∀ l∈ls,l.all (aG r.isAgg r.size)=true)→ls.flatten.length*r.bytes≤2^44→ls.flatten.length≤2^44 →
    ∃ res gX,kn C0 g [.sl (ls.map .sl)] []=some (.val res,gX)∧(aW 1000 res).run gX=some (.sl ls.flatten))
  {as:List AV} {a:AV} (h:mu r as=some a) (Ec:Env) (w:World) (vs:List Value) (hI:Inv Ec [] w) (ha:an Ec false as vs):Calls C0.P g vs.toArray w (bO Ec w [] (.val a)):=by
 unfold mu at h
 split at h
 ·rename_i es
  split at h
  case h_2=>simp at h
  rename_i ls hls
  split at h
  case isFalse=>simp at h
  rename_i hc
  simp only[Option.some.injEq]at h
  subst h
  have he:=DG hls
  refine DH bL (xs:=ls.map .sl) (h1 ls hc.1 (fun l hl=>?_) hc.2.2.1 hc.2.2.2) Ec w vs hI ?_
  ·have:=hc.2.1
   rw[List.all_eq_true]at this ⊢
   exact fun x hx=>this x (List.mem_flatten.2 ⟨l,hl,hx⟩)
  ·rw[←he]
   match vs,ha with
   |[],ha=>simp[an]at ha
   |_::_::_,ha=>simp[an]at ha
   |[v],ha=>
    simp only[an]at ha ⊢
    exact⟨H4 ha.1,trivial⟩
 ·simp only[Option.some.injEq]at h
  subst h
  refine DH bL (xs:=[]) (h1 [] (by simp) (by simp) (by simp) (by simp)) Ec w vs hI ?_
  match vs,ha with
  |[],ha=>simp[an]at ha
  |_::_::_,ha=>simp[an]at ha
  |[v],ha=>
   simp only[an]at ha ⊢
   exact⟨Ah ha.1,trivial⟩
 ·simp at h
end Go.PI
end
section
/- PS, part V: copies of lists and lists laid together, as models. -/
namespace Go.PI
def J9(b n:Nat):Bool:=decide (n*b≤2^44)&&decide (n≤2^44)
def tj{α:Type}(b:Nat)(x:List (List α)):Option (List α):=bif decide (x.length≤2^44)&&J9 b x.flatten.length then some x.flatten else none
def WU{α:Type}(rpe:α→AV→Prop)(x:List α)(a:AV):Prop:=(∃ l,a=.sl l∧aw rpe x l)∨(x=[]∧a=.lit cK)
theorem yw[ab]{α:Type}{rpe:α→AV→Prop}:∀ {x:List (List α)} {es:List AV},aw (WU rpe) x es→∃ ls,v5 (es.map vZ)=some ls∧aw (aw rpe) x ls
 |[],es,h=>by
  have:=h.CQ
  subst this
  exact⟨[],rfl,trivial⟩
 |x::xs,[],h=>by simp[aw]at h
 |x::xs,e::es,h=>by
  simp only[aw]at h
  obtain⟨h1,h2⟩:=h
  obtain⟨ls,h3,h4⟩:=yw h2
  rcases h1 with ⟨l,rfl,h⟩|⟨rfl,rfl⟩
  ·refine⟨l::ls,?_,h,h4⟩
   simp only[List.map_cons,vZ,v5,h3,Option.map_some]
  ·refine⟨[]::ls,?_,trivial,h4⟩
   simp only[List.map_cons,vZ,v5,h3,Option.map_some]
theorem tK[ab]{α:Type}{rpe:α→AV→Prop}:∀ {x:List (List α)} {ls:List (List AV)},aw (aw rpe) x ls→aw rpe x.flatten ls.flatten
 |[],ls,h=>by
  have:=h.CQ
  subst this
  exact trivial
 |x::xs,[],h=>by simp[aw]at h
 |x::xs,e::es,h=>by
  simp only[aw]at h
  simp only[List.flatten_cons]
  exact h.1.append (tK h.2)
theorem Fq[ab]{α:Type}{rpe:α→AV→Prop}{r:bG}(bL:∀ x a,rpe x a→aG r.isAgg r.size a=true){x:List (List α)}{y:List α}{a:AV}(ha:WU (WU rpe) x a)(hy:tj r.bytes x=some y):
  ∃ l,mu r [a]=some (.sl l)∧aw rpe y l:=by
 unfold tj J9 at hy
 cases hq:decide (x.length≤2^44)&&(decide (x.flatten.length*r.bytes≤2^44)&&decide (x.flatten.length≤2^44))
 ·rw[hq]at hy; simp at hy
 rw[hq]at hy
 simp only[cond_true,Option.some.injEq]at hy
 subst hy
 simp only[Bool.and_eq_true,decide_eq_true_eq]at hq
 rcases ha with ⟨es,rfl,h⟩|⟨rfl,rfl⟩
 ·obtain⟨ls,h1,h2⟩:=yw h
  have h3:=tK h2
  rw[h3.length,h2.length]at hq
  refine⟨ls.flatten,?_,h3⟩
  unfold mu
  simp only
  rw[h1]
  simp only
  have bf:ls.flatten.all (aG r.isAgg r.size)=true:=by
   refine List.all_eq_true.2 fun z hz=>?_
   obtain⟨i,hi⟩:=List.getElem?_of_mem hz
   obtain⟨u,_,hu⟩:=h3.get' hi
   exact bL _ _ hu
  rw[if_pos ⟨hq.1,bf,hq.2.1,hq.2.2⟩]
 ·exact⟨[],rfl,trivial⟩
theorem Fp[ab]{C:Ctx}{T:dm}{g:FuncId}{t u:Nat}{I:List AV→Option AV}{F:T.den t→Option (T.den u)}(hk:C.kind g=.pure)(hi:C.kl g=some I)
  (h:∀ x a y,T.rp t x a→F x=some y→∃ l,I [a]=some (.sl l)∧T.rp u y (.sl l)):pV C T g ⟨[t],[u],F⟩ where
 kind:=hk
 QJ:=by
  intro x as y hx hy
  match as,hx with
  |[],hx=>exact False.elim hx
  |_::_::_,hx=>exact False.elim hx.2
  |[a],hx=>
   obtain⟨l,h1,h2⟩:=h x a y hx.1 hy
   refine⟨.sl l,[],[.sl l],?_,rfl,rfl,?_⟩
   ·simp only[KN,hi,h1]; rfl
   ·exact⟨h2,trivial⟩
end Go.PI
end
section
/- PS, part W: a copy of a slice is the caller's own. -/
namespace Go.PI
end Go.PI
end
section
/- Plain laws: loops of models. -/
namespace Go.Pl
open Go.PI
theorem next[ab]{τ ω:Type}{f:τ→Option (τ ⊕ ω)}{x y:τ}(h:f x=some (.inl y)):aQ f x=aQ f y:=by
 rw[Cw,h]; rfl
theorem out[ab]{τ ω:Type}{f:τ→Option (τ ⊕ ω)}{x:τ}{w:ω}(h:f x=some (.inr w)):aQ f x=some w:=by
 rw[Cw,h]; rfl
theorem xB(p:Nat→Bool)(n i:Nat)(hi:i<n):(List.range' i (n-i)).all p=(p i&&(List.range' (i+1) (n-(i+1))).all p):=by
 grind
theorem th[ab]{τ ω:Type}{f:τ→Option (τ ⊕ ω)}(st:Nat→τ)(p:Nat→Bool)(bad:Nat→ω)(n:Nat)(e:ω)
  (h:∀ i,i<n→f (st i)=some (bif p i then .inl (st (i+1)) else .inr (bad i))) (he:f (st n)=some (.inr e)) :
  (List.range n).all p=true∧aQ f (st 0)=some e∨(List.range n).all p=false∧∃ i,i<n∧p i=false∧aQ f (st 0)=some (bad i):=by
 have key:∀ m i,m=n-i→i≤n→(List.range' i (n-i)).all p=true∧aQ f (st i)=some e∨(List.range' i (n-i)).all p=false∧∃ j,j<n∧p j=false∧aQ f (st i)=some (bad j):=by
  intro m
  induction m with
  |zero=>
   intro i hm hi
   have:i=n:=by omega
   subst this
   left
   rw[Nat.sub_self]
   exact⟨rfl,out he⟩
  |succ m ih=>
   intro i hm hi
   have bZ:i<n:=by omega
   have hs:=h i bZ
   rw[xB p n i bZ]
   cases hp:p i with
   |false=>
    rw[hp]at hs
    right
    exact⟨by simp,i,bZ,hp,out hs⟩
   |true=>
    rw[hp]at hs
    rw[next hs]
    simpa using ih (i+1) (by omega) (by omega)
 have:=key n 0 rfl (Nat.zero_le _)
 rwa [Nat.sub_zero,←List.range_eq_range']at this
theorem zN{α:Type}{l:List α}{q:α→Bool}{p:Nat→Bool}(h:∀ i (hi:i<l.length),p i=q l[i]):(List.range l.length).all p=l.all q:=by
 rw[Bool.eq_iff_iff,List.all_eq_true,List.all_eq_true]
 constructor
 ·intro hp x hx
  obtain⟨i,hi,rfl⟩:=List.getElem_of_mem hx
  rw[←h i hi]; exact hp i (List.mem_range.2 hi)
 ·simp_all
theorem uv[ab]{α τ ω:Type}{f:τ→Option (τ ⊕ ω)}(l:List α)(st:Nat→τ)(q:α→Bool)(bad e:ω){x0:τ}
  (h:∀ i (hi:i<l.length),f (st i)=some (bif q l[i] then .inl (st (i+1)) else .inr bad)) (he:f (st l.length)=some (.inr e)) (hx:x0=st 0) :
  aQ f x0=some (bif l.all q then e else bad):=by
 subst hx
 have hp:∀ i (hi:i<l.length),(fun i=>(l[i]?.map q).getD false) i=q l[i]:=by
  simp_all
 rcases th st (fun i=>(l[i]?.map q).getD false) (fun _=>bad) l.length e (fun i hi=>by have:=hp i hi; simp only at this; rw[this]; exact h i hi) he with ⟨h1,h2⟩|⟨h1,i,_,_,h2⟩
 ·rw[zN hp]at h1; rw[h2,h1]; rfl
 ·rw[zN hp]at h1; rw[h2,h1]; rfl
end Go.Pl
end
section
/- The types of this seat, as Lean's (printed by gen_tys.py out of the dump). -/
namespace Go.Proofs.Ytedjbjphpnkpoaa
open Go.PI
instance:ab:=⟨fun _=>none,fun _=>false⟩
structure dP where
 A:Bool
 N:Int
structure bP where
 aD:List Int
 ag:List (List Int)
 aA:List Int
structure aj where
 dC:Int
 Den:Int
structure ca where
 Net:bP
 CC:List Bool
 CD:List aj
def den:Nat→Type
 |2=>Int
 |3=>Int
 |4=>Bool
 |5=>Int
 |9=>ByteArray
 |22=>List Int
 |23=>List (List Int)
 |24=>bP
 |25=>bP
 |26=>List aj
 |29=>Int
 |34=>aj
 |35=>aj
 |36=>List Int
 |53=>List Bool
 |54=>ca
 |55=>ca
 |56=>List dP
 |57=>Int
 |58=>Int
 |73=>Int
 |78=>Int
 |81=>dP
 |82=>dP
 |86=>aj
 |87=>aj
 |96=>Int
 |104=>Int
 |106=>Int
 |115=>Int
 |52=>ca
 |_=>Unit
abbrev V:=SV den
def up2(x:Int):V:=.lit (.int .i64 x)
def dn2(v:V):Option Int:=dI .i64 v
def rp2(x:Int)(a:AV):Prop:=a=.lit (.int .i64 x)
def SI(x:Int):V:=.lit (.int .i64 x)
def L6(v:V):Option Int:=dI .i64 v
def L5(x:Int)(a:AV):Prop:=a=.lit (.int .i64 x)
def up4(x:Bool):V:=.lit (.bool x)
def X5(v:V):Option Bool:=dB v
def X6(x:Bool)(a:AV):Prop:=a=.lit (.bool x)
def up5(x:Int):V:=.lit (.int .u8 x)
def dn5(v:V):Option Int:=dI .u8 v
def rp5(x:Int)(a:AV):Prop:=a=.lit (.int .u8 x)
def up9(x:ByteArray):V:=.lit (.string x)
def dn9(v:V):Option ByteArray:=dS v
def rp9(x:ByteArray)(a:AV):Prop:=a=.lit (.string x)
def Wk(x:List Int):V:=.ji 3 x
def HZ(v:V):Option (List Int):=Ol (den:=den) 3 L6 v
def DC(x:List Int)(a:AV):Prop:=Nj L5 x a
def Wl(x:List (List Int)):V:=.ji 22 x
def Qe(v:V):Option (List (List Int)):=Ol (den:=den) 22 HZ v
def NG(x:List (List Int))(a:AV):Prop:=Nj DC x a
def NH(x:bP):V:=.agg [.ji 3 x.aD,.ji 22 x.ag,.ji 3 x.aA]
def NI:V→Option bP
 |.agg [a0,a1,a2]=>(HZ a0).bind fun b0=>(Qe a1).bind fun b1=>(HZ a2).bind fun b2=>some ⟨b0,b1,b2⟩
 |_=>none
def H2(x:bP)(a:AV):Prop:=∃ a0 a1 a2,DC x.aD a0∧NG x.ag a1∧DC x.aA a2∧a=.agg [a0,a1,a2]
def NJ(x:aj):V:=.agg [.lit (.int .i64 x.dC),.lit (.int .i64 x.Den)]
def Lc:V→Option aj
 |.agg [a0,a1]=>(L6 a0).bind fun b0=>(L6 a1).bind fun b1=>some ⟨b0,b1⟩
 |_=>none
def DD(x:aj)(a:AV):Prop:=a=.agg [.lit (.int .i64 x.dC),.lit (.int .i64 x.Den)]
def Wm(x:List aj):V:=.ji 35 x
def SJ(v:V):Option (List aj):=Ol (den:=den) 35 Lc v
def SK(x:List aj)(a:AV):Prop:=Nj DD x a
def Wn(x:Int):V:=.lit (.int .u16 x)
def SL(v:V):Option Int:=dI .u16 v
def SM(x:Int)(a:AV):Prop:=a=.lit (.int .u16 x)
def Wo(x:List Int):V:=.ji 73 x
def Wp(v:V):Option (List Int):=Ol (den:=den) 73 SL v
def Wq(x:List Int)(a:AV):Prop:=Nj SM x a
def Wr(x:List Bool):V:=.ji 4 x
def SN(v:V):Option (List Bool):=Ol (den:=den) 4 X5 v
def SO(x:List Bool)(a:AV):Prop:=Nj X6 x a
def Ld(x:ca):V:=.agg [.ji 3 x.Net.aD,.ji 22 x.Net.ag,.ji 3 x.Net.aA,.ji 4 x.CC,.ji 35 x.CD]
def Lf:V→Option ca
 |.agg [a0,a1,a2,a3,a4]=>(HZ a0).bind fun b0=>(Qe a1).bind fun b1=>(HZ a2).bind fun b2=>(SN a3).bind fun b3=>(SJ a4).bind fun b4=>some ⟨⟨b0,b1,b2⟩,b3,b4⟩
 |_=>none
def H3(x:ca)(a:AV):Prop:=∃ a0 a1 a2 a3 a4,DC x.Net.aD a0∧NG x.Net.ag a1∧DC x.Net.aA a2∧SO x.CC a3∧SK x.CD a4∧a=.agg [a0,a1,a2,a3,a4]
def NK(x:dP):V:=bif x.A then .fZ 57 (.lit (.int .i64 x.N)) else .fZ 58 (.lit (.int .i64 x.N))
def Lg(v:V):Option dP:=match v with
 |.fZ t w=>(dI .i64 w).bind fun n=>bif Nat.beq t 57 then some ⟨true,n⟩ else bif Nat.beq t 58 then some ⟨false,n⟩ else none
 |_=>none
def DE(x:dP)(a:AV):Prop:=a=.fZ (bif x.A then 57 else 58) (.lit (.int .i64 x.N))
def Ws(x:List dP):V:=.ji 82 x
def Wt(v:V):Option (List dP):=Ol (den:=den) 82 Lg v
def Wu(x:List dP)(a:AV):Prop:=Nj DE x a
def Wv(x:Int):V:=.lit (.int .u64 x)
def Ww(v:V):Option Int:=dI .u64 v
def Wx(x:Int)(a:AV):Prop:=a=.lit (.int .u64 x)
def NL(x:aj):V:=.agg [.lit (.int .i64 x.dC),.lit (.int .i64 x.Den)]
def NM:V→Option aj
 |.agg [a0,a1]=>(L6 a0).bind fun b0=>(L6 a1).bind fun b1=>some ⟨b0,b1⟩
 |_=>none
def Fv(x:aj)(a:AV):Prop:=a=.agg [.lit (.int .i64 x.dC),.lit (.int .i64 x.Den)]
def SP(x:Int):V:=.lit (.int .u32 x)
def SQ(v:V):Option Int:=dI .u32 v
def SR(x:Int)(a:AV):Prop:=a=.lit (.int .u32 x)
def OE(x:Int):V:=.lit (.int .u64 x)
def OF(v:V):Option Int:=dI .u64 v
def OG(x:Int)(a:AV):Prop:=a=.lit (.int .u64 x)
def Wy(x:ca):V:=.bc (Ld x) 0
def Wz(v:V):Option ca:=Vg Lf v
def WA(x:ca)(a:AV):Prop:=TP H3 x a
def up:(t:Nat)→den t→V
 |2,x=>up2 x
 |3,x=>SI x
 |4,x=>up4 x
 |5,x=>up5 x
 |9,x=>up9 x
 |22,x=>Wk x
 |23,x=>Wl x
 |24,x=>NH x
 |25,x=>NH x
 |26,x=>Wm x
 |29,x=>SI x
 |34,x=>NJ x
 |35,x=>NJ x
 |36,x=>Wo x
 |53,x=>Wr x
 |54,x=>Ld x
 |55,x=>Ld x
 |56,x=>Ws x
 |57,x=>SI x
 |58,x=>SI x
 |73,x=>Wn x
 |78,x=>Wv x
 |81,x=>NK x
 |82,x=>NK x
 |86,x=>NL x
 |87,x=>NL x
 |96,x=>SI x
 |104,x=>SP x
 |106,x=>OE x
 |115,x=>OE x
 |52,x=>Wy x
 |_,_=>.dead
def dn:(t:Nat)→V→Option (den t)
 |2,v=>dn2 v
 |3,v=>L6 v
 |4,v=>X5 v
 |5,v=>dn5 v
 |9,v=>dn9 v
 |22,v=>HZ v
 |23,v=>Qe v
 |24,v=>NI v
 |25,v=>NI v
 |26,v=>SJ v
 |29,v=>L6 v
 |34,v=>Lc v
 |35,v=>Lc v
 |36,v=>Wp v
 |53,v=>SN v
 |54,v=>Lf v
 |55,v=>Lf v
 |56,v=>Wt v
 |57,v=>L6 v
 |58,v=>L6 v
 |73,v=>SL v
 |78,v=>Ww v
 |81,v=>Lg v
 |82,v=>Lg v
 |86,v=>NM v
 |87,v=>NM v
 |96,v=>L6 v
 |104,v=>SQ v
 |106,v=>OF v
 |115,v=>OF v
 |52,v=>Wz v
 |_,_=>none
def rp:(t:Nat)→den t→AV→Prop
 |2,x,a=>rp2 x a
 |3,x,a=>L5 x a
 |4,x,a=>X6 x a
 |5,x,a=>rp5 x a
 |9,x,a=>rp9 x a
 |22,x,a=>DC x a
 |23,x,a=>NG x a
 |24,x,a=>H2 x a
 |25,x,a=>H2 x a
 |26,x,a=>SK x a
 |29,x,a=>L5 x a
 |34,x,a=>DD x a
 |35,x,a=>DD x a
 |36,x,a=>Wq x a
 |53,x,a=>SO x a
 |54,x,a=>H3 x a
 |55,x,a=>H3 x a
 |56,x,a=>Wu x a
 |57,x,a=>L5 x a
 |58,x,a=>L5 x a
 |73,x,a=>SM x a
 |78,x,a=>Wx x a
 |81,x,a=>DE x a
 |82,x,a=>DE x a
 |86,x,a=>Fv x a
 |87,x,a=>Fv x a
 |96,x,a=>L5 x a
 |104,x,a=>SR x a
 |106,x,a=>OG x a
 |115,x,a=>OG x a
 |52,x,a=>WA x a
 |_,_,_=>False
def SS:Nat→Bool
 |24=>true
 |25=>true
 |34=>true
 |35=>true
 |54=>true
 |55=>true
 |86=>true
 |87=>true
 |_=>false
def OH:Nat→Nat
 |24=>3
 |25=>3
 |34=>2
 |35=>2
 |54=>5
 |55=>5
 |86=>2
 |87=>2
 |_=>1
def OI:(t:Nat)→Option (den t)
 |2=>some (0:Int)
 |3=>some (0:Int)
 |4=>some (false:Bool)
 |5=>some (0:Int)
 |9=>some (ByteArray.empty:ByteArray)
 |22=>some ([]:List Int)
 |23=>some ([]:List (List Int))
 |24=>some (⟨[],[],[]⟩:bP)
 |25=>some (⟨[],[],[]⟩:bP)
 |26=>some ([]:List aj)
 |29=>some (0:Int)
 |34=>some (⟨0,0⟩:aj)
 |35=>some (⟨0,0⟩:aj)
 |36=>some ([]:List Int)
 |53=>some ([]:List Bool)
 |54=>some (⟨⟨[],[],[]⟩,[],[]⟩:ca)
 |55=>some (⟨⟨[],[],[]⟩,[],[]⟩:ca)
 |56=>some ([]:List dP)
 |57=>some (0:Int)
 |58=>some (0:Int)
 |73=>some (0:Int)
 |78=>some (0:Int)
 |86=>some (⟨0,0⟩:aj)
 |87=>some (⟨0,0⟩:aj)
 |96=>some (0:Int)
 |104=>some (0:Int)
 |106=>some (0:Int)
 |115=>some (0:Int)
 |_=>none
def m5:jS:=⟨false,1,1,some (.lit (.int .u8 0)),.other,none,none⟩
def m7:jS:=⟨true,4,24,some (.agg [zI,zI,zB,.lit (.int .u8 0)]),.struct [(0,2),(1,3),(2,4),(3,6)],none,none⟩
def T9:jS:=⟨false,1,8,some (.lit (.int .u64 0)),.other,none,none⟩
def X7:jS:=⟨true,2,24,some (.agg [zS,.lit (.int .u64 0)]),.struct [(0,9),(1,12)],none,none⟩
def X8:jS:=⟨true,1,8,some (.agg [.lit (.pointer none)]),.struct [(0,17)],none,none⟩
def WB:jS:=⟨false,1,16,some (.lit .nilIface),.iface,none,none⟩
def WC:jS:=⟨false,1,4,some (.lit (.int .i32 0)),.other,none,none⟩
def X9:jS:=⟨true,3,72,some (.agg [zL,zL,zL]),.struct [(0,22),(1,23),(2,22)],none,none⟩
def Ya:jS:=⟨true,2,16,some (.agg [zI,zI]),.struct [(0,3),(1,3)],some [kI,kI],none⟩
def Yb:jS:=⟨true,5,120,some (.agg [zL,zL,zL,zL,zL]),.struct [(0,25),(3,53),(4,26)],none,none⟩
def Yc:jS:=⟨true,2,16,some (.agg [zI,zI]),.struct [(0,35)],some [kI,kI],none⟩
def SU:jS:=⟨true,4,40,some (.agg [.lit (.pointer none),.lit (.pointer none),.lit (.pointer none),zS]),.struct [(0,17),(1,17),(2,17),(3,9)],none,none⟩
def SW:jS:=⟨true,11,48,some (.agg [.lit (.int .u64 0),.lit (.int .u64 0),.lit (.int .u32 0),.lit (.int .u8 0),.lit (.int .u8 0),.lit (.int .u8 0),.lit (.int .u8 0),zF,.lit (.pointer none),.lit (.int .i32 0),.lit (.int .i32 0)]),.struct [(0,12),(1,12),(2,104),(3,135),(4,5),(5,5),(6,136),(7,137),(8,138),(9,139),(10,140)],none,none⟩
def Bb:List (Nat×jS):=[
 (1,mF),
 (2,mI),
 (3,mI),
 (4,⟨false,1,1,some zB,.other,none,none⟩),
 (5,m5),
 (6,m5),
 (7,m7),
 (8,m7),
 (9,mS),
 (10,mS),
 (11,mS),
 (12,T9),
 (13,X7),
 (14,X7),
 (15,mP),
 (16,mP),
 (17,mP),
 (18,X8),
 (19,X8),
 (20,WB),
 (21,WC),
 (22,mL 3),
 (23,mL 22),
 (24,X9),
 (25,X9),
 (26,mL 35),
 (27,mF),
 (28,mF),
 (29,mI),
 (31,mF),
 (32,mF),
 (33,mF),
 (34,Ya),
 (35,Ya),
 (36,mL 73),
 (37,mF),
 (38,mF),
 (40,mF),
 (41,mF),
 (42,mF),
 (44,mF),
 (45,mF),
 (46,mF),
 (47,mF),
 (48,mF),
 (49,mF),
 (50,mF),
 (51,mF),
 (52,mP),
 (53,mL 4),
 (54,Yb),
 (55,Yb),
 (56,mL 82),
 (57,mI),
 (58,mI),
 (59,mF),
 (60,mF),
 (62,mF),
 (63,mF),
 (64,mF),
 (65,mF),
 (66,mF),
 (67,mF),
 (68,mF),
 (69,mF),
 (70,mF),
 (71,mF),
 (72,mF),
 (73,⟨false,1,2,some (.lit (.int .u16 0)),.other,none,none⟩),
 (75,mF),
 (76,mF),
 (77,mF),
 (78,T9),
 (79,mF),
 (80,mF),
 (81,WB),
 (82,WB),
 (83,mF),
 (84,mF),
 (85,mF),
 (86,Yc),
 (87,Yc),
 (88,mF),
 (89,mF),
 (90,mF),
 (91,mF),
 (92,mF),
 (93,mF),
 (94,mF),
 (95,mF),
 (96,mI),
 (98,mF),
 (99,mF),
 (100,mF),
 (102,mF),
 (103,mF),
 (104,⟨false,1,4,some (.lit (.int .u32 0)),.other,none,none⟩),
 (105,mF),
 (106,T9),
 (107,mF),
 (108,mF),
 (109,mF),
 (110,mF),
 (111,mF),
 (112,mF),
 (113,mF),
 (114,mF),
 (115,T9),
 (116,mF),
 (117,mF),
 (118,mF),
 (119,mP),
 (120,mF),
 (121,mF),
 (122,mF),
 (124,mF),
 (125,mP),
 (126,mF),
 (127,mF),
 (128,mF),
 (129,SU),
 (130,SU),
 (134,mF),
 (135,m5),
 (136,m5),
 (137,mF),
 (138,mP),
 (139,WC),
 (140,WC),
 (141,SW),
 (142,SW)]
def Qg:(t:Nat)→Option ((den t→Bool)×(den t→V)×(den t→V))
 |81=>some (fun (x:dP)=>x.A,fun (x:dP)=>.fZ 57 (.lit (.int .i64 x.N)),fun (x:dP)=>.fZ 58 (.lit (.int .i64 x.N)))
 |82=>some (fun (x:dP)=>x.A,fun (x:dP)=>.fZ 57 (.lit (.int .i64 x.N)),fun (x:dP)=>.fZ 58 (.lit (.int .i64 x.N)))
 |_=>none
abbrev T:dm:=⟨den,up,dn,rp,SS,OH,OI,Qg⟩
end Go.Proofs.Ytedjbjphpnkpoaa
end
