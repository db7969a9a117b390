/- Part 4 of the proof: texts of this session laid one behind the other. -/
import Derived.KernelRfl
import Derived.IntWalk
import Derived.Test.YtedjbjphpnkpoaaX3
set_option linter.unusedVariables false
set_option linter.unusedSimpArgs false
section
/- PS, part O: a state goes over into one with variables. -/
namespace Go.PI
variable {T:dw}{ρ:Type}
section
variable {H0 Hs Hf:ah T.den}
mutual
theorem R.dX(ht:∀ n c v0 aq,fK H0 n c v0→fK Hs n c aq→fK Hf n c aq)(hx:∀ (n:Nat) (o:aC T.den),H0[n]?=some (some o)→∃ o,Hf[n]?=some (some o)):∀ {v:SV T.den} {a0 a:AV},R T H0 v a0→R T Hs v a→R T Hf v a
 |.dead,_,_,h,_=>by simp[R]at h
 |.hole,a0,a,_,h=>by simpa[R] using h
 |.lit v,a0,a,_,h=>by simpa[R] using h
 |.agg l,a0,a,h0,h=>by
  simp only[R]at h0 h ⊢
  obtain⟨l0,_,h2⟩:=h0
  obtain⟨l',h1,h3⟩:=h
  exact⟨l',h1,RL.dX ht hx h2 h3⟩
 |.ju l,a0,a,h0,h=>by
  simp only[R]at h0 h ⊢
  obtain⟨l0,_,h2⟩:=h0
  obtain⟨l',h1,h3⟩:=h
  exact⟨l',h1,RL.dX ht hx h2 h3⟩
 |.sl l,a0,a,h0,h=>by
  simp only[R]at h0 h ⊢
  obtain⟨l0,_,h2,_⟩:=h0
  obtain⟨l',h1,h3,h4⟩:=h
  exact⟨l',h1,RL.dX ht hx h2 h3,h4⟩
 |.jt t l,a0,a,_,h=>by simpa[R] using h
 |.wK t l c b,a0,a,_,h=>by simp only[R]at h ⊢; exact h
 |.nz,a0,a,_,h=>by simp only[R]at h ⊢; exact h
 |.bf e j,a0,a,h0,h=>by
  simp only[R]at h0 h ⊢
  obtain⟨l0,_,h2,_⟩:=h0
  obtain⟨l',h1,h3,h4⟩:=h
  exact⟨l',h1,R.dX ht hx h2 h3,h4⟩
 |.ref m c i j,a0,a,h0,h=>by
  grind[R]
 |.iP m c i j ln cp,a0,a,h0,h=>by
  grind[R]
 |.bq esz m c rg cap,a0,a,h0,h=>by
  grind[R]
 |.iR fn f c,a0,a,h0,h=>by
  simp only[R]at h0 h ⊢
  obtain⟨_,_,_,g1,g2⟩:=h0
  obtain⟨f',c',h1,h2,h3⟩:=h
  exact⟨f',c',h1,RL.dX ht hx g1 h2,RL.dX ht hx g2 h3⟩
 |.gd t v,a0,a,h0,h=>by
  simp only[R]at h0 h ⊢
  obtain⟨l0,_,h2⟩:=h0
  obtain⟨l',h1,h3⟩:=h
  exact⟨l',h1,R.dX ht hx h2 h3⟩
 |.mp y n,a0,a,h0,h=>by
  grind[R]
 |.sH v s l i,a0,a,h0,h=>by
  simp only[R]at h0 h ⊢
  obtain⟨b0,h2,_⟩:=h0
  obtain⟨b,h3,h4⟩:=h
  exact⟨b,R.dX ht hx h2 h3,h4⟩
theorem RL.dX(ht:∀ n c v0 aq,fK H0 n c v0→fK Hs n c aq→fK Hf n c aq)(hx:∀ (n:Nat) (o:aC T.den),H0[n]?=some (some o)→∃ o,Hf[n]?=some (some o)):∀ {l:List (SV T.den)} {m0 m:List AV},RL T H0 l m0→RL T Hs l m→RL T Hf l m
 |[],[],[],_,_=>by simp[RL]
 |x::xs,y0::Um,y::ys,h0,h=>by
  simp only[RL]at h0 h ⊢
  exact⟨R.dX ht hx h0.1 h.1,RL.dX ht hx h0.2 h.2⟩
 |[],_::_,_,h,_=>by simp[RL]at h
 |[],[],_::_,_,h=>by simp[RL]at h
 |_::_,[],_,h,_=>by simp[RL]at h
 |_::_,_::_,[],_,h=>by simp[RL]at h
end
end
theorem kp{Hs:ah T.den}:∀ {objs:List (Nat×cP)} {l:List (TV T.den)},ka Hs objs=some l→∀ q,q∈objs→∃ o ln,Hs[q.1]?=some (some o)∧ee Hs o q.2=some ln
 |[],_,_,q,hq=>by simp at hq
 |(n,p)::r,l,h,q,hq=>by
  simp only[ka]at h
  split at h
  case h_2=>simp at h
  rename_i o ho
  rw[Option.bind_eq_some_iff]at h
  obtain⟨ln,h1,h⟩:=h
  rw[Option.map_eq_some_iff]at h
  obtain⟨l2,h2,rfl⟩:=h
  rcases List.mem_cons.1 hq with rfl|hq
  ·exact⟨o,ln,ho,h1⟩
  ·exact kp h2 q hq
def Bp(p:cP)(c:Nat):Nat:=
 match p with
 |.list _=>c+1
 |_=>c
theorem GO(p:cP)(c:Nat):c≤Bp p c:=by cases p<;>simp[Bp]
theorem NK{p:cP}(h:∀ t,p≠.list t)(c:Nat):Bp p c=c:=by
 cases p with
 |list t=>exact absurd rfl (h t)
 |_=>rfl
def Start(H:ah T.den)(o:aC T.den)(p:cP):Prop:=(∃ ln,ee H o p=some ln)∨(((∃ q,p=.one q)∨∃ ps,p=.agg ps)∧∃ g cl f c e,o=.arr g cl f c [e])
theorem Dr{Hs:ah T.den}{o:aC T.den}{p:cP}{ln:List (TV T.den)}(h:ee Hs o p=some ln):Compat (mB o p) p∧(mB o p).flags.1=o.flags.1∧(mB o p).flags.2.1=o.flags.2.1∧(mB o p).flags.2.2=o.flags.2.2 ∧
  (mB o p).cur=Bp p o.cur:=by
 cases p with
 |list t=>
  cases o with
  |arr g cl f c es=>
   cases cl with
   |true=>exact⟨⟨g,f,c+1,[],rfl⟩,rfl,rfl,rfl,rfl⟩
   |false=>cases h
  |bW g f c t' l=>exact⟨⟨g,f,c+1,[],rfl⟩,rfl,rfl,rfl,rfl⟩
  |_=>cases h
 |fix t=>
  cases o with
  |arr g cl f c es=>
   cases cl with
   |true=>exact⟨⟨g,f,c,[],rfl⟩,rfl,rfl,rfl,rfl⟩
   |false=>cases h
  |bW g f c t' l=>exact⟨⟨g,f,c,[],rfl⟩,rfl,rfl,rfl,rfl⟩
  |_=>cases h
 |one q=>
  cases o with
  |arr g cl f c es=>exact⟨⟨g,cl,f,c,es,rfl⟩,rfl,rfl,rfl,rfl⟩
  |_=>cases h
 |agg ps=>
  cases o with
  |arr g cl f c es=>exact⟨⟨g,cl,f,c,es,rfl⟩,rfl,rfl,rfl,rfl⟩
  |_=>cases h
 |map kk t=>
  obtain⟨m,rfl,rfl⟩:=tQ h
  exact⟨⟨[],rfl⟩,rfl,rfl,rfl,rfl⟩
theorem yr{Hs:ah T.den}{o:aC T.den}{p:cP}(h:Start Hs o p):Compat (mB o p) p∧(mB o p).flags.1=o.flags.1∧(mB o p).flags.2.1=o.flags.2.1∧(mB o p).flags.2.2=o.flags.2.2 ∧
  (mB o p).cur=Bp p o.cur:=by
 rcases h with ⟨ln,h⟩|⟨⟨q,rfl⟩|⟨ps,rfl⟩,g,cl,f,c,e,rfl⟩
 ·exact Dr h
 ·exact⟨⟨g,cl,f,c,[e],rfl⟩,rfl,rfl,rfl,rfl⟩
 ·exact⟨⟨g,cl,f,c,[e],rfl⟩,rfl,rfl,rfl,rfl⟩
theorem iM:∀ {ext:List oX} {n:Nat} {q:Nat×cP},q∈aZ n ext→∃ i g f t,q=(n+i,.list t)∧ext[i]?=some (.list g f t)
 |[],_,q,h=>by simp[aZ]at h
 |.gX::r,n,q,h=>by
  simp only[aZ]at h
  obtain⟨i,g,f,t,rfl,h2⟩:=iM h
  exact⟨i+1,g,f,t,by rw[show n+1+i=n+(i+1) by omega],by simpa using h2⟩
 |.list g f t::r,n,q,h=>by
  simp only[aZ]at h
  rcases List.mem_cons.1 h with rfl|h
  ·exact⟨0,g,f,t,rfl,rfl⟩
  ·obtain⟨i,g',f',t',rfl,h2⟩:=iM h
   exact⟨i+1,g',f',t',by rw[show n+1+i=n+(i+1) by omega],by simpa using h2⟩
theorem mZ[ab]:∀ {ext:List oX} {n:Nat},cZ ((aZ n ext).map (·.1))=true
 |[],_=>rfl
 |.gX::r,n=>by simp only[aZ]; exact mZ
 |.list g f t::r,n=>by
  simp only[aZ,List.map_cons,cZ,Bool.and_eq_true,Bool.not_eq_true',List.contains_eq_mem,decide_eq_false_iff_not]
  refine⟨fun h=>?_,mZ⟩
  obtain⟨q,hq,e⟩:=List.mem_map.1 h
  obtain⟨i,_,_,_,rfl,_⟩:=iM hq
  simp only at e
  omega
theorem Ag[ab]:∀ {l m:List Nat},cZ l=true→cZ m=true→(∀ x,x∈l→x∉m)→cZ (l++m)=true
 |[],m,_,h,_=>h
 |x::l,m,h,h',hd=>by
  obtain⟨h1,h2⟩:=nodup_cons h
  simp only[List.cons_append,cZ,Bool.and_eq_true,Bool.not_eq_true',List.contains_eq_mem,decide_eq_false_iff_not,List.mem_append,not_or]
  exact⟨⟨h1,hd x (by simp)⟩,Ag h2 h' fun y hy=>hd y (List.mem_cons_of_mem _ hy)⟩
theorem tR{H:ah T.den}:∀ {ext:List oX} {n i:Nat} {e:oX},CQ H n ext=true→ext[i]?=some e→∃ o,H[n+i]?=some (some o)∧(match e with|.gX=>o.flags.2.1=true|.list g f _=>o.flags=(g,true,f))
 |[],_,i,e,_,h=>by simp at h
 |x::r,n,i,e,hx,h=>by
  simp only[CQ,Bool.and_eq_true]at hx
  cases i with
  |zero=>
   grind
  |succ i=>
   simp only[List.getElem?_cons_succ]at h
   obtain⟨o,h1,h2⟩:=tR hx.2 h
   exact⟨o,by rw[show n+(i+1)=n+1+i by omega]; exact h1,h2⟩
theorem oA[ab]:∀ {ext:List oX} {n i:Nat},i<ext.length→(ext[i]?=some .gX∧n+i∉(aZ n ext).map (·.1))∨∃ g f t,ext[i]?=some (.list g f t)∧(n+i,cP.list t)∈aZ n ext
 |[],_,i,h=>by simp at h
 |.gX::r,n,i,h=>by
  cases i with
  |zero=>
   left
   refine⟨rfl,fun hc=>?_⟩
   obtain⟨q,hq,e⟩:=List.mem_map.1 hc
   simp only[aZ]at hq
   obtain⟨j,_,_,_,rfl,_⟩:=iM hq
   simp only at e; omega
  |succ i=>
   rcases oA (n:=n+1) (i:=i) (by simpa using h) with ⟨h1,h2⟩|⟨g,f,t,h1,h2⟩
   ·grind[aZ]
   ·grind[aZ]
 |.list g f t::r,n,i,h=>by
  cases i with
  |zero=>grind[aZ]
  |succ i=>
   rcases oA (n:=n+1) (i:=i) (by simpa using h) with ⟨h1,h2⟩|⟨g',f',t',h1,h2⟩
   ·left
    refine⟨by simpa using h1,?_⟩
    simp only[aZ,List.map_cons,List.mem_cons,not_or]
    exact⟨by omega,by rw[show n+(i+1)=n+1+i by omega]; exact h2⟩
   ·grind[aZ]
theorem H4(hT:T.Ok){o:aC T.den}{H:ah T.den}{a:aL}(h:RO T H o a)(hc:o.flags.2.1=true):(∃ g f es,a=.arr g true f es)∨∃ k vs,a=.gf k vs∧∀ n,cO n vs=true:=by
 cases o with
 |arr g cl f c es=>
  obtain⟨es',rfl,_⟩:=h
  simp only[aC.flags]at hc
  subst hc
  exact .inl ⟨_,_,_,rfl⟩
 |bW g f c t l=>obtain⟨es',rfl,_⟩:=h; exact .inl ⟨_,_,_,rfl⟩
 |gX=>exact h
 |kh kk t m=>obtain⟨vs,rfl,h⟩:=h; exact .inr ⟨_,_,rfl,fun n=>yn hT h⟩
 |oU fn ps as bd fr=>simp[aC.flags]at hc
structure H5(T:dw)(aA:List (Nat×oW))(dead:List Nat)(objs:List (Nat×cP))(ext:List oX)(s0 s:bx T.den)(l:List (TV T.den)):Prop where
 Q4:cZ (aA.map (·.1))=true
 Un:cZ (objs.map (·.1))=true
 K2:∀ d,d∈aA.map (·.1)++dead→d<s0.n
 ki:sg s0.hp.length aA (objs++aZ s0.hp.length ext)=true
 fn:s.fn=s0.fn
 n:s.n=s0.n
 fr:∀ t,t∉aA.map (·.1)++dead→cH s.fr t=cH s0.fr t
 hp:∀ n:Nat,n<s0.hp.length→n∉objs.map (·.1)→s.hp[n]?=s0.hp[n]?
 len:s.hp.length=s0.hp.length+ext.length
 flags:qF s0.hp s.hp objs=true
 cur:wN s0.hp s.hp objs=true
 Qm:CQ s.hp s0.hp.length ext=true
 Qn:∀ q,q∈objs→∃ o,s0.hp[q.1]?=some (some o)∧Start s0.hp o q.2
 abs:uR aA (objs++aZ s0.hp.length ext) s=some l
theorem Bq{H H':ah T.den}{objs:List (Nat×cP)}(h:qF H H' objs=true){q:Nat×cP}(hq:q∈objs){o o':aC T.den}(h1:H[q.1]?=some (some o))(h2:H'[q.1]?=some (some o')):o.flags=o'.flags:=by
 have:=List.all_eq_true.1 h q hq
 simp only[h1,h2,decide_eq_true_eq]at this
 exact this
theorem Fv{H H':ah T.den}{objs:List (Nat×cP)}(h:wN H H' objs=true){q:Nat×cP}(hq:q∈objs)(hl:∀ t,q.2≠.list t){o o':aC T.den}(h1:H[q.1]?=some (some o))(h2:H'[q.1]?=some (some o')):o.cur=o'.cur:=by
 have:=List.all_eq_true.1 h q hq
 split at this
 ·rename_i t e; exact absurd e (hl t)
 ·simp_all
theorem GP[ab](hT:T.Ok){aA:List (Nat×oW)}{dead:List Nat}{objs:List (Nat×cP)}{ext:List oX}{s0 s:bx T.den}{l:List (TV T.den)}(ho:H5 T aA dead objs ext s0 s l){Yh st:St}(h0:RS T s0 Yh)(h:RS T s st):
  RS T { c7 aA dead objs ext s0 l with js:=s.js } st∧(c7 aA dead objs ext s0 l).hp.length=s.hp.length ∧
  (∀ n:Nat,n<s0.hp.length→n∉objs.map (·.1)→(c7 aA dead objs ext s0 l).hp[n]?=s0.hp[n]?) ∧
  (∀ t,t∉aA.map (·.1)++dead→cH (c7 aA dead objs ext s0 l).fr t=cH s0.fr t) ∧
  (c7 aA dead objs ext s0 l).fn=s0.fn∧(c7 aA dead objs ext s0 l).n=s0.n ∧
  (∀ q,q∈objs→∃ o0 os of,s0.hp[q.1]?=some (some o0)∧s.hp[q.1]?=some (some os)∧(c7 aA dead objs ext s0 l).hp[q.1]?=some (some of)∧of.len=os.len∧of.cur=Bp q.2 o0.cur):=by
 have OQ:=ho.Qn
 have bS:∀ n,n∈objs.map (·.1)→n<s0.hp.length:=by
  grind
 have MB:∀ n,n∈(aZ s0.hp.length ext).map (·.1)→s0.hp.length≤n:=by
  intro n hn
  obtain⟨q,hq,rfl⟩:=List.mem_map.1 hn
  obtain⟨i,_,_,_,rfl,_⟩:=iM hq
  simp
 have zO:cZ ((objs++aZ s0.hp.length ext).map (·.1))=true:=by
  rw[List.map_append]
  exact Ag ho.Un mZ fun x hx hc=>by have:=bS x hx; have:=MB x hc; omega
 obtain⟨b1,b2,b3⟩:=sA (objs:=objs) (H:=s0.hp) ho.Un
 generalize Iz:rm s0.hp objs++ext.map HP=H1
 have K3:H1.length=s.hp.length:=by rw[←Iz,ho.len]; simp[b1]
 have yu:∀ n:Nat,n<s0.hp.length→H1[n]?=(rm s0.hp objs)[n]?:=fun n hn=>by
  grind
 have K4:∀ i:Nat,H1[s0.hp.length+i]?=(ext.map HP)[i]?:=fun i=>by
  grind
 have oZ:=ho.abs
 unfold uR at oZ
 rw[Option.bind_eq_some_iff]at oZ
 obtain⟨la,hla,oZ⟩:=oZ
 rw[Option.map_eq_some_iff]at oZ
 obtain⟨lb,Ou,rfl⟩:=oZ
 have QQ:∀ q,q∈objs++aZ s0.hp.length ext→∃ o,H1[q.1]?=some (some o)∧Compat o q.2:=by
  intro q hq
  rcases List.mem_append.1 hq with hq|hq
  ·obtain⟨o,h1,h2⟩:=OQ q hq
   exact⟨mB o q.2,by rw[yu _ (bS _ (List.mem_map_of_mem hq))]; exact b3 q hq o h1,(yr h2).1⟩
  ·obtain⟨i,g,f,t,rfl,h2⟩:=iM hq
   refine⟨.bW g f 0 t [],?_,⟨g,f,0,[],rfl⟩⟩
   simp only
   rw[K4,List.getElem?_map,h2]
   rfl
 obtain⟨c1,c2,c3,c4⟩:=rC hT (Hs:=s.hp) (H:=H1) [] zO Ou QQ
 simp only[List.append_nil]at c1 c2 c3 c4
 generalize hHf:fY H1 (objs++aZ s0.hp.length ext) lb=Hf at c1 c2 c3 c4
 have hlen:Dn (fun n=>n<s0.hp.length∨n∈(objs++aZ s0.hp.length ext).map (·.1)) s.hp Hf:=by
  intro n o hn O3
  by_cases hm:n∈(objs++aZ s0.hp.length ext).map (·.1)
  ·grind
  ·have hn:n<s0.hp.length:=hn.resolve_right hm
   have AA:n∉objs.map (·.1):=fun hc=>hm (by rw[List.map_append]; exact List.mem_append_left _ hc)
   refine⟨o,?_,rfl⟩
   rw[c2 n hm,yu n hn,b2 n AA,←ho.hp n hn AA]
   exact O3
 have OS:=List.all_eq_true.1 ho.ki
 have V5:∀ q,q∈objs++aZ s0.hp.length ext→∀ n,n∈q.2.ki→(n<s0.hp.length∨n∈(objs++aZ s0.hp.length ext).map (·.1)):=by
  intro q hq n hn
  have:=OS n (List.mem_append_right _ (List.mem_flatMap.2 ⟨q,hq,hn⟩))
  simp only[Bool.or_eq_true,List.contains_eq_mem,decide_eq_true_eq]at this
  refine this.imp (fun h=>?_) id
  have:=Nat.le_of_ble_eq_true h
  omega
 have V6:∀ q,q∈aA→∀ n,n∈q.2.ki→(n<s0.hp.length∨n∈(objs++aZ s0.hp.length ext).map (·.1)):=by
  intro q hq n hn
  have:=OS n (List.mem_append_left _ (List.mem_flatMap.2 ⟨q,hq,hn⟩))
  simp only[Bool.or_eq_true,List.contains_eq_mem,decide_eq_true_eq]at this
  refine this.imp (fun h=>?_) id
  have:=Nat.le_of_ble_eq_true h
  omega
 have NL:∀ q,q∈objs→∃ o0 os of,s0.hp[q.1]?=some (some o0)∧s.hp[q.1]?=some (some os)∧Hf[q.1]?=some (some of)∧of.len=os.len∧of.cur=Bp q.2 o0.cur ∧
   (∀ a,RO T s.hp os a→RO T Hf of a):=by
  intro q hq
  obtain⟨o0,h1,h2⟩:=OQ q hq
  obtain⟨o1,os,o',ln,Hc,Dq,d1,d2,d3,d4,d5,d6,d7,d8⟩:=c4 q (List.mem_append_left _ hq)
  have hb:=b3 q hq o0 h1
  rw[yu _ (bS _ (List.mem_map_of_mem hq)),hb]at d1
  simp only[Option.some.injEq]at d1
  subst d1
  obtain⟨e1,e2,e3,e4,e5⟩:=yr h2
  have HD:=Bq ho.flags hq h1 d2
  refine⟨o0,os,o',h1,d2,d6,d8,by rw[d7,e5],fun a ha=>?_⟩
  exact yq hT (fun n=>by rw[d4,c3]) hlen (V5 q (List.mem_append_left _ hq)) e1 d3 d5 (by rw[e2,HD]) (by rw[e3,HD]) (by rw[e4,HD]) ha
 have QM:∀ n c v0 aq,fK s0.hp n c v0→fK s.hp n c aq→fK Hf n c aq:=by
  intro n c v0 aq Mr hv
  have hn:=Mr.lt
  by_cases hm:n∈objs.map (·.1)
  ·obtain⟨q,hq,rfl⟩:=List.mem_map.1 hm
   obtain⟨o0,os,of,g1,g2,g3,g4,g5,_⟩:=NL q hq
   obtain⟨o0',k1,k2,_⟩:=Mr
   rw[g1]at k1
   simp only[Option.some.injEq]at k1
   subst k1
   obtain⟨os',k3,k4,k5⟩:=hv
   rw[g2]at k3
   simp only[Option.some.injEq]at k3
   subst k3
   refine⟨of,g3,?_,fun e=>?_⟩
   ·have:=GO q.2 o0.cur; omega
   ·by_cases hl:∃ t,q.2=.list t
    ·obtain⟨t,hl⟩:=hl
     rw[g5,hl]at e
     simp only[Bp]at e
     omega
    ·have hc:=Fv ho.cur hq (fun t e=>hl ⟨t,e⟩) g1 g2
     have:of.cur=o0.cur:=by rw[g5,NK (fun t e=>hl ⟨t,e⟩)]
     rw[g4]
     exact k5 (by omega)
  ·have AA:n∉(objs++aZ s0.hp.length ext).map (·.1):=by
    rw[List.map_append]
    intro hc
    rcases List.mem_append.1 hc with hc|hc
    ·exact hm hc
    ·have:=MB n hc; omega
   obtain⟨os,k1,k2,k3⟩:=hv
   exact⟨os,by rw[c2 n AA,yu n hn,b2 n hm,←ho.hp n hn hm]; exact k1,k2,k3⟩
 have SM:∀ n:Nat,n<s0.hp.length→n∉objs.map (·.1)→Hf[n]?=s0.hp[n]?:=by
  intro n hn hm
  have AA:n∉(objs++aZ s0.hp.length ext).map (·.1):=by
   rw[List.map_append]
   intro hc
   rcases List.mem_append.1 hc with hc|hc
   ·exact hm hc
   ·have:=MB n hc; omega
  rw[c2 n AA,yu n hn,b2 n hm]
 have hex:∀ (n:Nat) (o:aC T.den),s0.hp[n]?=some (some o)→∃ o,Hf[n]?=some (some o):=by
  intro n o zm
  have hn:=(List.getElem?_eq_some_iff.1 zm).1
  by_cases hm:n∈objs.map (·.1)
  ·obtain⟨q,hq,rfl⟩:=List.mem_map.1 hm
   obtain⟨_,_,of,_,_,g3,_⟩:=NL q hq
   exact⟨of,g3⟩
  ·exact⟨o,by rw[SM n hn hm]; exact zm⟩
 have Qo:kG s.js Hf st.hp:=by
  intro n x hx
  obtain⟨h1,h2⟩:=h.js n x hx
  refine⟨?_,h2⟩
  obtain⟨o,Hr,uv⟩:∃ o,s.hp[n]?=some (some o)∧o.isRec=true:=by
   unfold recAt at h1
   split at h1
   ·rename_i o Hr; exact⟨o,Hr,h1⟩
   ·simp at h1
  by_cases hn:n<s0.hp.length
  ·by_cases hm:n∈objs.map (·.1)
   ·exfalso
    obtain⟨q,hq,rfl⟩:=List.mem_map.1 hm
    obtain⟨o1,os,o',ln,Hc,Dq,_,d2,d3,_⟩:=c4 q (List.mem_append_left _ hq)
    rw[Hr]at d2
    simp only[Option.some.injEq]at d2
    subst d2
    cases o<;>simp[aC.isRec]at uv
    cases hp2:q.2<;>rw[hp2]at d3<;>cases d3
   ·rw[p9 (show Hf[n]?=s.hp[n]? by rw[SM n hn hm,ho.hp n hn hm])]
    exact h1
  ·exfalso
   have VV:=(List.getElem?_eq_some_iff.1 Hr).1
   have hi:n-s0.hp.length<ext.length:=by have:=ho.len; omega
   have K1:s0.hp.length+(n-s0.hp.length)=n:=by omega
   obtain⟨e,he⟩:∃ e,ext[n-s0.hp.length]?=some e:=⟨_,List.getElem?_eq_getElem hi⟩
   obtain⟨o2,m1,m2⟩:=tR ho.Qm he
   rw[K1,Hr]at m1
   simp only[Option.some.injEq]at m1
   subst m1
   cases o<;>simp[aC.isRec]at uv
   cases e<;>simp[aC.flags]at m2
 have NH:RH T Hf st.hp:=by
  have sG:Hf.length=st.hp.length:=by rw[c1,K3]; exact h.hp.length
  refine aw.dY sG fun n x y hx hy=>?_
  obtain⟨xs,zp,hr⟩:=aw.get' h.hp hy
  have VV:n<s.hp.length:=(List.getElem?_eq_some_iff.1 zp).1
  by_cases hn:n<s0.hp.length
  ·by_cases hm:n∈objs.map (·.1)
   ·obtain⟨q,hq,rfl⟩:=List.mem_map.1 hm
    obtain⟨o0,os,of,g1,g2,g3,g4,g5,g6⟩:=NL q hq
    rw[g3]at hx
    rw[g2]at zp
    simp only[Option.some.injEq]at hx zp
    subst hx; subst zp
    cases y with
    |none=>exact hr.elim
    |some a=>exact g6 a hr
   ·have AA:n∉(objs++aZ s0.hp.length ext).map (·.1):=by
     rw[List.map_append]
     intro hc
     rcases List.mem_append.1 hc with hc|hc
     ·exact hm hc
     ·have:=MB n hc; omega
    rw[c2 n AA,yu n hn,b2 n hm,←ho.hp n hn hm,zp]at hx
    simp only[Option.some.injEq]at hx
    subst hx
    have DX:s0.hp[n]?=some xs:=by rw[←ho.hp n hn hm]; exact zp
    obtain⟨y0,_,DU⟩:=aw.get h0.hp DX
    cases xs with
    |none=>cases y with
     |none=>trivial
     |some a=>exact hr.elim
    |some o=>cases y with
     |none=>exact hr.elim
     |some a=>
      cases y0 with
      |none=>exact DU.elim
      |some a0=>
       cases o with
       |arr g cl f c es=>
        obtain⟨es',e1,e2,e3⟩:=hr
        obtain⟨V1,_,e5,_⟩:=DU
        exact⟨es',e1,RL.dX QM hex e5 e2,e3⟩
       |bW g f c t l=>exact hr
       |gX=>exact hr
       |kh kk t m=>exact hr
       |oU fn ps as bd fr=>
        obtain⟨st,vs,e1,e2⟩:=hr
        obtain⟨Yh,vs0,_,e5⟩:=DU
        refine⟨st,vs,e1,aw.dY e2.length fun i x y hx hy=>?_⟩
        obtain⟨y',AI,lz⟩:=aw.get e2 hx
        rw[hy]at AI
        simp only[Option.some.injEq]at AI
        subst AI
        obtain⟨y0,Yd,Qp⟩:=aw.get e5 hx
        rcases lz with lz|lz
        ·exact .inl lz
        ·rcases Qp with ⟨rfl,_⟩|Qp
         ·simp[R]at lz
         ·exact .inr (R.dX QM hex Qp lz)
  ·have hi:n-s0.hp.length<ext.length:=by have:=ho.len; omega
   have K1:n=s0.hp.length+(n-s0.hp.length):=by omega
   rcases oA (n:=s0.hp.length) hi with ⟨k1,k2⟩|⟨g,f,t,k1,k2⟩
   ·rw[←K1]at k2
    have AA:n∉(objs++aZ s0.hp.length ext).map (·.1):=by
     rw[List.map_append]
     intro hc
     rcases List.mem_append.1 hc with hc|hc
     ·exact hn (bS n hc)
     ·exact k2 hc
    rw[c2 n AA,K1,K4,List.getElem?_map,k1]at hx
    simp only[Option.map_some,HP,Option.some.injEq]at hx
    subst hx
    obtain⟨o,m1,m2⟩:=tR ho.Qm k1
    rw[←K1,zp]at m1
    simp only[Option.some.injEq]at m1
    subst m1
    cases y with
    |none=>exact hr.elim
    |some a=>exact H4 hT hr m2
   ·obtain⟨o1,os,o',ln,Hc,Dq,d1,d2,d3,d4,d5,d6,d7,d8⟩:=c4 _ (List.mem_append_right _ k2)
    simp only at d1 d2 d3 d5 d6
    rw[←K1]at d2 d6
    rw[d6]at hx
    rw[d2]at zp
    simp only[Option.some.injEq]at hx zp
    subst hx; subst zp
    rw[K4,List.getElem?_map,k1]at d1
    simp only[Option.map_some,HP,Option.some.injEq]at d1
    subst d1
    obtain⟨o,m1,m2⟩:=tR ho.Qm k1
    rw[←K1,d2]at m1
    simp only[Option.some.injEq]at m1
    subst m1
    simp only at m2
    cases y with
    |none=>exact hr.elim
    |some a=>
     exact yq hT (fun n=>by rw[d4,c3]) hlen (by intro n hn; simp[cP.ki]at hn) (show Compat (.bW g f 0 t []) (.list t) from ⟨g,f,0,[],rfl⟩) d3 d5 (by rw[m2]; rfl) (by rw[m2]; rfl) (by rw[m2]; rfl) hr
 obtain⟨yS,f1,f2,f3⟩:=qc hT (Hc:=H1) (Hf:=Hf) (fun n=>by rw[c3]) hlen (N:=s0.n) (frs:=s.fr) (ast:=fun t=>st.fr.getD t .undef) h.fr (fr:=z1 s0.n s0.fr dead) lb ho.Q4
  (fun q hq=>⟨ho.K2 _ (List.mem_append_left _ (List.mem_map_of_mem hq)),V6 q hq⟩) hla
 have SN:c7 aA dead objs ext s0 (la++lb)={ s0 with fr:=yS,hp:=Hf }:=by
  unfold c7
  rw[Iz,f1]
  simp only[hHf]
 have Br:∀ t,t∉aA.map (·.1)++dead→cH yS t=cH s0.fr t:=by
  intro t ht
  simp only[List.mem_append,not_or]at ht
  rw[f2 t ht.1,u7,if_neg (fun hc=>ht.2 hc.1)]
 rw[SN]
 refine⟨⟨?_,?_,fun t=>?_,NH,Qo⟩,by rw[c1,K3],fun n hn hm=>?_,Br,rfl,rfl,fun q hq=>?_⟩
 ·show s0.fn=st.fn
  rw[←ho.fn]; exact h.fn
 ·show st.fr.length=s0.n
  rw[←ho.n]; exact h.n
 ·simp only
  by_cases ht:t∈aA.map (·.1)
  ·obtain⟨q,hq,rfl⟩:=List.mem_map.1 ht
   exact .inr (f3 q hq)
  ·by_cases hd:t∈dead
   ·left
    rw[f2 t ht,u7,if_pos ⟨hd,ho.K2 _ (List.mem_append_right _ hd)⟩]
   ·have Yi:t∉aA.map (·.1)++dead:=by simp only[List.mem_append,not_or]; exact⟨ht,hd⟩
    rw[Br t Yi]
    have e1:=h.fr t
    rw[ho.fr t Yi]at e1
    rcases e1 with e1|e1
    ·exact .inl e1
    ·rcases h0.fr t with e0|e0
     ·exact .inl e0
     ·exact .inr (R.dX QM hex e0 e1)
 ·simp only
  have AA:n∉(objs++aZ s0.hp.length ext).map (·.1):=by
   rw[List.map_append]
   intro hc
   rcases List.mem_append.1 hc with hc|hc
   ·exact hm hc
   ·have:=MB n hc; omega
  rw[c2 n AA,yu n hn,b2 n hm]
 ·obtain⟨o0,os,of,g1,g2,g3,g4,g5,_⟩:=NL q hq
  exact⟨o0,os,of,g1,g2,g3,g4,g5⟩
end Go.PI
end
section
/- PS, part P: the trees tell the truth. -/
namespace Go.PI
structure od.Ok[ab](S:od):Prop where
 T:S.T.Ok
 Q:S.Q.Ok
 Z:S.T.tM S.Q
 sum:∀ g σ,S.sum g=some σ→p8 S.C S.T g σ
 own:∀ g σ,S.own g=some σ→GL S.C S.T g σ
def Ds(T:dw):oV T.den→Out→Prop
 |.norm s,o=>∃ st,o=.norm st∧RS T s st
 |.exit id s,o=>∃ st,o=.exit id st∧RS T s st
 |.ret s,o=>∃ st,o=.ret st∧RS T s st
def oV.st{den:Nat→Type}:oV den→bx den
 |.norm s=>s
 |.exit _ s=>s
 |.ret s=>s
structure oB[ab](S:od)(k:Nat):Prop where
 f:∀ (ρ:Type) (f:FuncId) (args:List (SV S.T.den)) (hp:ah S.T.den) (wh:List Nat) (js:List (Nat×kZ)) (K:SV S.T.den→ah S.T.den→List Nat→List (Nat×kZ)→Tr ρ) (r:ρ) (as:List AV) (NM:ag),RL S.T hp args as→RH S.T hp NM→kG js hp NM →
  (OE S k ρ f args hp wh js K).run=some r→∃ v cq oS qN a eF,ky S.C f as NM=some (.val a,eF)∧R S.T cq v a∧RH S.T cq eF∧kG qN cq eF∧dk hp cq∧hp.length≤cq.length ∧
    (∀ n:Nat,n<hp.length→n∉oS→cq[n]?=hp[n]?)∧(∀ n,n∈wh→n∈oS)∧(K v cq oS qN).run=some r
 c:∀ (ρ:Type) (c:Code) (s:bx S.T.den) (K:oV S.T.den→Tr ρ) (r:ρ) (st:St),RS S.T s st→(wA S k ρ c s K).run=some r →
  ∃ so o,cQ S.C c st=some o∧Ds S.T so o∧bj s so.st∧(K so).run=some r
 o:∀ (ρ:Type) (o:Oper) (s:bx S.T.den) (K:bx S.T.den→Tr ρ) (r:ρ) (st:St),RS S.T s st→(Nv S k ρ o s K).run=some r →
  ∃ s' st',ie S.C o st=some (.norm st')∧RS S.T s' st'∧bj s s'∧(K s').run=some r
section
variable {T:dw}{ρ:Type}
theorem qd[ab](hT:T.Ok){s:bx T.den}{st:St}(h:RS T s st){v:SV T.den}{a:AV}{cq:ah T.den}{eF:ag}{oS:List Nat}{qN:List (Nat×kZ)}(g2:R T cq v a)(g3:RH T cq eF)(g4:dk s.hp cq)(g5:s.hp.length≤cq.length)
  (g6:∀ n:Nat,n<s.hp.length→n∉oS→cq[n]?=s.hp[n]?) (g7:∀ n,n∈s.wh→n∈oS) (hj:kG qN cq eF) (hb:sj qN s.hp.length=true) :
  RS T ⟨s.fn,s.n,s.fr,fX s.hp.length v cq,s.wf,oS,qN⟩ ⟨st.fn,st.fr,gH s.hp.length a eF⟩∧bj s ⟨s.fn,s.n,s.fr,fX s.hp.length v cq,s.wf,oS,qN⟩∧R T (fX s.hp.length v cq) v a:=by
 obtain⟨t1,t2⟩:=H2 (n:=s.hp.length) hT g3 g2
 have zx:dk s.hp (fX s.hp.length v cq):=by
  unfold fX
  split
  ·intro n o ho
   obtain⟨o',h1,h2⟩:=g4 n o ho
   exact⟨o',by rw[mY (List.getElem?_eq_some_iff.1 ho).1]; exact h1,h2⟩
  ·exact g4
 have SO:∀ n:Nat,n<s.hp.length→n∉oS→(fX s.hp.length v cq)[n]?=s.hp[n]?:=by
  grind[fX]
 have hlen:s.hp.length≤(fX s.hp.length v cq).length:=by
  grind[fX]
 have Qo:kG qN (fX s.hp.length v cq) (gH s.hp.length a eF):=by
  unfold fX gH
  rw[R.below g2,lj hT (aw.take g3 _)]
  split
  ·exact hj.take (Af hb)
  ·exact hj
 exact⟨⟨h.fn,h.n,fun t=>(h.fr t).mono zx,t1,Qo⟩,⟨rfl,rfl,fun _ _=>rfl,fun _ h=>h,SO,g7,hlen,zx⟩,t2⟩
theorem yv[ab]{H H':ah T.den}{esz j nm:Nat}{e e':SV T.den}{a:AV}(hr:R T H e a)(hx:∀ {v:SV T.den} {b:AV},R T H v b→R T H' v b)(hn:R T H' (.bq esz nm 0 none none) (.bq esz nm 0 0 0 none))(h:pW esz j nm e=some e'):
  ∃ a',kL esz j nm a=some a'∧R T H' e' a':=by
 unfold pW at h
 split at h
 ·rename_i l
  split at h
  case h_2=>simp at h
  rename_i hl
  simp only[Option.some.injEq]at h
  subst h
  simp only[R]at hr
  obtain⟨l',rfl,iQ⟩:=hr
  obtain⟨b,hb,Q1⟩:=aw.get (aP.1 iQ) hl
  simp only[R]at Q1
  subst Q1
  refine⟨.agg (l'.set j (.bq esz nm 0 0 0 none)),by simp only[kL,hb],?_⟩
  simp only[R]
  exact⟨_,rfl,aP.2 (((aP.1 iQ).mono fun _ _ h=>hx h).set j hn)⟩
 ·split at h
  case isFalse=>simp at h
  rename_i hj
  simp only[Option.some.injEq]at h
  subst h
  simp only[R]at hr
  subst hr
  exact⟨_,by simp only[kL]; rw[if_pos hj],hn⟩
 ·simp at h
theorem SP[ab]{H:ah T.den}:RO T H (.arr true true false 0 []) (.arr true true false []):=⟨[],rfl,by simp[RL],fun _=>rfl⟩
theorem K5{H:ah T.den}{esz nm:Nat}{g cl f:Bool}(h:H[nm]?=some (some (.arr g cl f 0 []))):R T H (.bq esz nm 0 none none) (.bq esz nm 0 0 0 none):=by
 simp only[R]
 exact⟨0,⟨_,h,Nat.le_refl _,fun _=>rfl⟩,rfl⟩
theorem GQ[ab](hT:T.Ok){d:Tmp}{r:ρ}{K:bx T.den→Tr ρ}:∀ {l:List (Nat×Nat)} {s:bx T.den} {st:St},RS T s st→(HR d l s K).run=some r→∃ s',RS T s' (II d l st)∧bj s s'∧(K s').run=some r
 |[],s,st,h,hk=>⟨s,h,bj.refl _,hk⟩
 |(j,esz)::l,s,st,h,hk=>by
  have hlen:=h.hp.length
  unfold HR at hk
  have hd:=h.fr d
  have Fl:∀ {s':bx T.den},RS T s' (o9 d st j esz)→bj s s'→(HR d l s' K).run=some r→∃ s',RS T s' (II d ((j,esz)::l) st)∧bj s s'∧(K s').run=some r:=by
   intro s' h1 h2 h3
   obtain⟨s2,i1,i2,i3⟩:=GQ hT h1 h3
   exact⟨s2,i1,h2.trans i2,i3⟩
  split at hk
  ·rename_i n c i k he
   rw[he]at hd
   have hd:=hd.live rfl
   simp only[R]at hd
   obtain⟨aq,hd,ca⟩:=hd
   have eT:st.fr[d]?=some (.ref n aq i k):=by
    grind
   split at hk
   case h_2=>simp[Tr.run]at hk
   rename_i g cl f cur es ho
   obtain⟨ao,c6,dC⟩:=h.hp.obj ho
   obtain⟨es',rfl,cC,mj⟩:=dC
   split at hk
   case h_2=>simp[Tr.run]at hk
   rename_i e' F5
   obtain⟨e,LZ,xE⟩:=Option.bind_eq_some_iff.1 F5
   obtain⟨ea,SQ,D2⟩:=aw.get (aP.1 cC) LZ
   have hn:=(List.getElem?_eq_some_iff.1 ho).1
   have pe:=h.hp.new (nm:=s.hp.length) (o':=.arr true true false 0 []) (a':=.arr true true false []) (.inl rfl) SP
   have e1:bJ s.hp s.hp.length (.arr true true false 0 [])=s.hp++[some (.arr true true false 0 [])]:=by simp[bJ]
   have e2:setObj st.hp s.hp.length (.arr true true false [])=st.hp++[some (.arr true true false [])]:=by simp[setObj,hlen]
   rw[e1,e2]at pe
   obtain⟨OM,wo⟩:=pe
   have ke:R T (s.hp++[some (.arr true true false 0 [])]) (.bq esz s.hp.length 0 none none) (.bq esz s.hp.length 0 0 0 none):=K5 (g:=true) (cl:=true) (f:=false) (by simp)
   obtain⟨OT,h5,h6⟩:=yv D2 (fun h=>h.mono OM) ke xE
   have uv:(s.hp++[some (aC.arr true true false 0 [])])[n]?=some (some (.arr g cl f cur es)):=by rw[List.getElem?_append_left hn]; exact ho
   have dU:RL T (s.hp++[some (.arr true true false 0 [])]) (es.set i e') (es'.set i OT):=aP.2 (((aP.1 cC).mono fun _ _ h=>h.mono OM).set i h6)
   obtain⟨hg2,EJ⟩:=wo.QX uv (o':=.arr g false f cur (es.set i e')) (a':=.arr g false f (es'.set i OT)) (Nat.le_refl _) (fun _=>by simp[aC.len]) ⟨_,rfl,dU,fun hc=>by simp at hc⟩
   have w1:bc s.hp [(n,.arr g false f cur (es.set i e')),(s.hp.length,.arr true true false 0 [])]=(s.hp++[some (aC.arr true true false 0 [])]).set n (some (aC.arr g false f cur (es.set i e'))):=by
    have q1:bJ s.hp n (.arr g false f cur (es.set i e'))=s.hp.set n (some (.arr g false f cur (es.set i e'))):=by unfold bJ; rw[if_neg (by omega)]
    have q2:∀ (L:ah T.den) (o:aC T.den),L.length=s.hp.length→bJ L s.hp.length o=L++[some o]:=fun L o hL=>by unfold bJ; rw[if_pos hL.symm]
    simp only[bc]
    rw[q1,q2 _ _ (by simp),List.set_append_left _ _ hn]
   have w2:ak st.hp [(n,.arr g false f (es'.set i OT)),(s.hp.length,.arr true true false [])]=(st.hp++[some (aL.arr true true false [])]).set n (some (aL.arr g false f (es'.set i OT))):=by
    have q1:setObj st.hp n (.arr g false f (es'.set i OT))=st.hp.set n (some (.arr g false f (es'.set i OT))):=by unfold setObj; rw[if_neg (by omega)]
    have q2:∀ (L:ag) (o:aL),L.length=s.hp.length→setObj L s.hp.length o=L++[some o]:=fun L o hL=>by unfold setObj; rw[if_pos hL.symm]
    simp only[ak]
    rw[q1,q2 _ _ (by simp[hlen]),List.set_append_left _ _ (by omega)]
   rw[cD]at hk
   have V7:RE T s.hp st.hp (.lit undef) [(n,.arr g false f cur (es.set i e')),(s.hp.length,.arr true true false 0 [])] ⟨.undef,[(n,.arr g false f (es'.set i OT)),(s.hp.length,.arr true true false [])]⟩:=by
    refine⟨bm undef,by rw[w1,w2]; exact EJ,by rw[w1]; exact OM.trans hg2,fun q hq=>?_,fun m hm hl=>?_,by rw[w1]; simp,fun m hm hc=>?_⟩
    ·grind
    ·grind
    ·simp at hc
     rcases hc with rfl|rfl
     ·simp[recAt,ho,aC.isRec]at hm
     ·have:=jq hm; omega
   obtain⟨g8,g9⟩:=h.step V7 none
   refine Fl (s':=s.step none (.lit undef) _) ?_ g9 hk
   have:o9 d st j esz={ st with fr:=bC st.fr none AV.undef,hp:=ak st.hp [(n,.arr g false f (es'.set i OT)),(s.hp.length,.arr true true false [])] }:=by
    unfold o9
    rw[hlen]at h5
    simp only[eT,c6,SQ,Option.bind_some,h5,bC]
    rw[w2,List.set_append_left _ _ (by omega)]
   rw[this]
   exact g8
  ·rename_i dK
   split at hk
   case h_2=>simp[Tr.run]at hk
   rename_i v' jV
   have SR:bN (cH s.fr d)=false:=by
    cases hq:cH s.fr d<;>first|rfl|(rw[hq]at jV; simp[pW]at jV)
   have hd:=hd.live SR
   have pe:=h.hp.new (nm:=s.hp.length) (o':=.arr true true false 0 []) (a':=.arr true true false []) (.inl rfl) SP
   have e1:bJ s.hp s.hp.length (.arr true true false 0 [])=s.hp++[some (.arr true true false 0 [])]:=by simp[bJ]
   have e2:setObj st.hp s.hp.length (.arr true true false [])=st.hp++[some (.arr true true false [])]:=by simp[setObj,hlen]
   have Yj:=pe
   rw[e1,e2]at pe
   obtain⟨OM,wo⟩:=pe
   have ke:R T (s.hp++[some (.arr true true false 0 [])]) (.bq esz s.hp.length 0 none none) (.bq esz s.hp.length 0 0 0 none):=K5 (g:=true) (cl:=true) (f:=false) (by simp)
   obtain⟨a',h5,h6⟩:=yv hd (fun h=>h.mono OM) ke jV
   have eT:st.fr[d]?=some (st.fr.getD d .undef):=by
    rw[List.getD_eq_getElem?_getD]at h5 ⊢
    cases hq:st.fr[d]? with
    |none=>simp_all[kL,AV.undef,Go.undef]
    |some x=>rfl
   have SS:∀ n aq i k,st.fr.getD d .undef≠.ref n aq i k:=by
    intro n aq i k e
    rw[e]at h5
    simp[kL]at h5
   rw[cD]at hk
   have V7:RE T s.hp st.hp v' [(s.hp.length,.arr true true false 0 [])] ⟨a',[(st.hp.length,.arr true true false [])]⟩:=by
    have w1:bc s.hp [(s.hp.length,.arr true true false 0 [])]=s.hp++[some (.arr true true false 0 [])]:=e1
    have w2:ak st.hp [(st.hp.length,.arr true true false [])]=st.hp++[some (.arr true true false [])]:=by simp[ak,setObj]
    refine⟨.inr (by rw[w1]; exact h6),by rw[w1,w2]; exact wo,by rw[w1]; exact OM,fun q hq=>by simp at hq; subst hq; simp[hlen],fun m hm hl=>?_,by rw[w1]; simp,fun m hm hc=>?_⟩
    ·rw[w1,List.getElem?_append_left hl]
    ·simp at hc
     have:=jq hm; omega
   obtain⟨g8,g9⟩:=h.step V7 (some d)
   refine Fl (s':=s.step (some d) v' _) ?_ g9 hk
   have:o9 d st j esz={ st with fr:=bC st.fr (some d) a',hp:=ak st.hp [(st.hp.length,.arr true true false [])] }:=by
    unfold o9
    rw[eT]
    rw[hlen]at h5
    split
    ·rename_i n aq i k he
     exact absurd (Option.some.inj he) (SS n aq i k)
    ·rename_i e _ he
     have he:=Option.some.inj he
     rw[←he,h5]
     simp only[bC,ak,setObj,if_true]
    ·rename_i he; cases he
   rw[this]
   exact g8
theorem K6[ab](hT:T.Ok){l:Tmp→List (Nat×Nat)}{dst:Option Tmp}{r:ρ}{K:bx T.den→Tr ρ}{s:bx T.den}{st:St}(h:RS T s st)(hk:(CR l dst s K).run=some r):∃ s',RS T s' (BH l dst st)∧bj s s'∧(K s').run=some r:=by
 cases dst with
 |none=>exact⟨s,h,bj.refl _,hk⟩
 |some d=>exact GQ hT h hk
theorem Fw{js:List (Nat×kZ)}{n m:Nat}{y:kZ}:cm (Bg js n y) m=if m=n then (cm js n).map (fun _=>y) else cm js m:=by
 induction js with
 |nil=>simp[Bg,cm]
 |cons q r ih=>
  obtain⟨k,x⟩:=q
  simp only[Bg,List.map_cons]at ih ⊢
  cases hk:Nat.beq k n with
  |true=>
   have:=Nat.eq_of_beq_eq_true hk
   subst this
   simp only[cm]
   by_cases hm:m=k
   ·subst hm; simp
   ·have:Nat.beq k m=false:=by cases hb:Nat.beq k m; rfl; exact absurd (Nat.eq_of_beq_eq_true hb).symm hm
    rw[this,if_neg hm]
    simp only
    rw[ih,if_neg hm]
  |false=>
   simp only[cm,hk]
   by_cases hm:m=n
   ·simp_all
   ·simp_all
theorem Dt{js:List (Nat×kZ)}{n m:Nat}:cm (CT js n) m=if m=n then none else cm js m:=by
 induction js with
 |nil=>simp[CT,cm]
 |cons q r ih=>
  obtain⟨k,x⟩:=q
  simp only[CT,List.filter_cons]at ih ⊢
  cases hk:Nat.beq k n with
  |true=>
   have:=Nat.eq_of_beq_eq_true hk
   subst this
   simp only[Bool.not_true,Bool.false_eq_true,if_false,ih,cm]
   by_cases hm:m=k
   ·simp[hm]
   ·have:Nat.beq k m=false:=by cases hb:Nat.beq k m; rfl; exact absurd (Nat.eq_of_beq_eq_true hb).symm hm
    rw[this,if_neg hm]
  |false=>
   grind[cm]
theorem GR[ab]{H:ah T.den}{hp:ag}{js:List (Nat×kZ)}(hh:RH T H hp)(hj:kG js H hp){n:Nat}{x:kZ}(hn:cm js n=some x)(y:kZ):RH T H (oF hp n y)∧kG (Bg js n y) H (oF hp n y):=by
 obtain⟨h1,h2⟩:=hj n x hn
 obtain⟨fn,ps,as,bd,fr,hr⟩:=iE h2
 have bS:=(List.getElem?_eq_some_iff.1 hr).1
 have e:oF hp n y=hp.set n (some (.gf (.loop fn ps as bd y) fr)):=by unfold oF; rw[hr]
 rw[e]
 obtain⟨o,ho,V8⟩:∃ o,H[n]?=some (some o)∧o.isRec=true:=by
  grind[recAt]
 obtain⟨a,ha,dC⟩:=hh.obj ho
 rw[hr]at ha
 simp only[Option.some.injEq]at ha
 subst ha
 cases o<;>simp[aC.isRec]at V8
 rename_i MX V9 nW Wa yS
 obtain⟨st,vs,he,ma⟩:=dC
 cases he
 have dU:RH T H (hp.set n (some (.gf (.loop fn ps as bd y) fr))):=by
  have:=aw.set hh n (x:=some (.oU fn ps as bd yS)) (y:=some (aL.gf (.loop fn ps as bd y) fr)) ⟨y,fr,rfl,ma⟩
  rwa [gV ho]at this
 refine⟨dU,fun m z hm=>?_⟩
 rw[Fw]at hm
 split at hm
 ·simp_all[ib]
 ·rename_i dK
  obtain⟨h3,h4⟩:=hj m z hm
  exact⟨h3,by rw[nL (List.getElem?_set_ne (Ne.symm dK))]; exact h4⟩
theorem Du{den:Nat→Type}{u:List Nat}{fr:sI den}:∀ {l:List Nat} {i:Nat},(wz u fr l)[i]?=(l[i]?).map fun d=>if u.contains d then cH fr d else .dead
 |[],i=>by simp[wz]
 |d::r,0=>by simp only[wz,List.getElem?_cons_zero,Option.map_some]; cases u.contains d<;>rfl
 |d::r,i+1=>by simp only[wz,List.getElem?_cons_succ]; exact Du
theorem Dw{den:Nat→Type}{u:List Nat}{fr:sI den}:∀ {l:List Nat},(wz u fr l).length=l.length
 |[]=>rfl
 |d::r=>by simp only[wz,List.length_cons,Dw]
theorem Ah{u:List Nat}:∀ {fr:List AV} {i j:Nat},(m9 u i fr)[j]?=(fr[j]?).map fun x=>if u.contains (i+j) then x else .any
 |[],i,j=>by simp[m9]
 |x::xs,i,0=>by simp[m9]
 |x::xs,i,j+1=>by
  simp only[m9,List.getElem?_cons_succ]
  rw[Ah,show i+1+j=i+(j+1) by omega]
theorem Ai{u:List Nat}:∀ {fr:List AV} {i:Nat},(m9 u i fr).length=fr.length
 |[],_=>rfl
 |x::xs,i=>by simp only[m9,List.length_cons,Ai]
theorem H6[ab]{s:bx T.den}{st:St}(h:RS T s st){as bd:Code}(hd:(cW as++cW bd).all (fun d=>!bN (cH s.fr d)||!Nat.blt d s.n)=true):
  aw (RD T s.hp) (wz (cW as++cW bd) s.fr (List.range s.n)) (tY as bd st.fr):=by
 unfold tY
 refine aw.dY (by rw[Dw,Ai,List.length_range,h.n]) fun i x y hx hy=>?_
 rw[Du,Option.map_eq_some_iff]at hx
 rw[Ah,Option.map_eq_some_iff]at hy
 obtain⟨d,Om,rfl⟩:=hx
 obtain⟨a,ha,rfl⟩:=hy
 obtain⟨hi,rfl⟩:i<s.n∧i=d:=by
  grind
 rw[Nat.zero_add]
 cases hc:(cW as++cW bd).contains i with
 |false=>exact .inl ⟨rfl,rfl⟩
 |true=>
  right
  simp only[if_true]
  have hm:i∈cW as++cW bd:=by simpa using hc
  have:=List.all_eq_true.1 hd i hm
  have hb:Nat.blt i s.n=true:=Nat.ble_eq_true_of_le hi
  rw[hb]at this
  simp only[Bool.not_true,Bool.or_false,Bool.not_eq_true']at this
  have hv:=(h.fr i).live this
  rw[List.getD_eq_getElem?_getD,ha]at hv
  exact hv
theorem Aj[ab]{H:ah T.den}:∀ {ps:List Tmp} {xs:List (SV T.den)} {as:List AV} {n:Nat} {fr:sI T.den} {fa:List AV},fa.length=n→(∀ t,RV T H (cH fr t) (fa.getD t .undef))→RL T H xs as →
  (fE fa ps as).length=n∧∀ t,RV T H (cH (lR n fr ps xs) t) ((fE fa ps as).getD t .undef)
 |[],xs,as,n,fr,fa,hl,h,_=>by simpa[fE,lR] using ⟨hl,h⟩
 |p::ps,[],[],n,fr,fa,hl,h,_=>by simpa[fE,lR] using ⟨hl,h⟩
 |p::ps,x::xs,a::as,n,fr,fa,hl,h,hx=>by
  simp only[RL]at hx
  simp only[fE,lR]
  refine Aj (by simp[hl]) (fun t=>?_) hx.2
  rw[ko,Dg,hl]
  split
  ·exact .inr hx.1
  ·exact h t
 |p::ps,[],_::_,_,_,_,_,_,h=>by simp[RL]at h
 |p::ps,_::_,[],_,_,_,_,_,h=>by simp[RL]at h
noncomputable def K7(n:Nat)(dst:Option Tmp)(st:St):Out→Option Out
 |.norm s2=>wW n dst st true .ready s2.hp
 |.exit id s2=>wW n dst st false (.jump (some id)) s2.hp
 |.ret s2=>wW n dst st false (.jump none) s2.hp
 |_=>none
theorem Bs[ab](hT:T.Ok){s s2:bx T.den}{st NJ:St}(h:RS T s st)(h2:RS T s2 NJ)(hg:dk s.hp s2.hp)(hl:s.hp.length≤s2.hp.length)(hk:∀ n:Nat,n<s.hp.length→n∉s2.wh→s2.hp[n]?=s.hp[n]?)(hw:∀ n,n∈s.wh→n∈s2.wh)
  {n:Nat} {dst:Option Tmp} {b:Bool} {x:kZ} {K:bx T.den→Tr ρ} {r:ρ} (hr:(KE s n dst b x s2 K).run=some r) :
  ∃ s' st',wW n dst st b x NJ.hp=some (.norm st')∧RS T s' st'∧bj s s'∧(K s').run=some r:=by
 unfold KE at hr
 split at hr
 case h_2=>simp[Tr.run]at hr
 rename_i hb
 split at hr
 case h_2=>simp[Tr.run]at hr
 rename_i Bt
 rw[jQ,cD]at hr
 obtain⟨_,SU⟩:=h2.js n _ hb
 obtain⟨r1,r2⟩:=GR h2.hp h2.js hb x
 have SW:sj (Bg s2.js n x) s.hp.length=true:=by
  refine List.all_eq_true.2 fun q hq=>?_
  obtain⟨q0,Vq,e⟩:=List.mem_map.1 hq
  have:=List.all_eq_true.1 Bt q0 Vq
  split at e<;>(subst e; exact this)
 obtain⟨g1,g2,g3⟩:=qd hT h (v:=.lit (.bool b)) (a:=.lit (.bool b)) (by simp[R]) r1 hg hl hk hw r2 SW
 obtain⟨g8,g9⟩:=g1.step (v:=.lit (.bool b)) (wr:=[]) (e:=⟨.lit (.bool b),[]⟩) ⟨bm _,g1.hp,dk.refl _,fun q hq=>by simp at hq,fun _ _ _=>rfl,Nat.le_refl _,fun _ _ h=>by simp at h⟩ dst
 refine⟨_,_,?_,g8,g2.trans g9,hr⟩
 unfold wW
 rw[SU,h.hp.length]
 rfl
end
def Fx{den:Nat→Type}(H H':ah den):Prop:=∀ n:Nat,n<H.length→∀ o':aC den,H'[n]?=some (some o')→∃ o:aC den,H[n]?=some (some o)∧o.cur=o'.cur∧o.len=o'.len
theorem R.back[ab]{T:dw}{H H':ah T.den}(hb:Fx H H'){v:SV T.den}{a:AV}(h:R T H' v a)(hv:bt H.length v=true):R T H v a:=by
 refine(h.take hv).mono fun n o ho=>?_
 have hn:n<H.length:=by
  grind
 rw[List.getElem?_take_of_lt hn]at ho
 obtain⟨o',h1,h2,h3⟩:=hb n hn o ho
 exact⟨o',h1,by omega,fun _=>h3⟩
theorem RM.K8{α:Type}{hp:ag}:∀ {x:RM α} {a:α},x.run hp=some a→∀ n,n∈x.log hp→n<hp.length
 |.ret _,_,_,n,hn=>by simp[RM.log]at hn
 |.fail,_,h,_,_=>by simp[RM.run]at h
 |.get m k,a,h,n,hn=>by
  simp only[RM.run]at h
  split at h
  case h_2=>simp at h
  rename_i o ho
  simp only[RM.log,ho,List.mem_cons]at hn
  rcases hn with rfl|hn
  ·grind
  ·exact RM.K8 h n hn
theorem aF.gM{hp:ag}{ov:Option (Nat×aL)}{nw:List aL}{α:Type}{x:RM α}{a:α}{rd:List Nat}(h:aF (aQ hp ov nw) x a rd):aF hp (x.gM hp.length ov nw) a rd:=by
 refine⟨by rw[(nC x).1]; exact h.1,fun n hn=>?_⟩
 rw[(nC x).2]at hn
 exact h.2 n (List.mem_filter.1 hn).1
theorem aF.SX{hp:ag}{ov:Option (Nat×aL)}{nw:List aL}{α:Type}{x:RM α}{a:α}{rd:List Nat}(h:aF (aQ hp ov nw) x a rd):aF hp (x.gM hp.length ov nw) a (rd.filter fun n=>Nat.blt n hp.length):=by
 refine⟨by rw[(nC x).1]; exact h.1,fun n hn=>?_⟩
 rw[(nC x).2]at hn
 obtain⟨h1,h2⟩:=List.mem_filter.1 hn
 exact List.mem_filter.2 ⟨h.2 n h1,h2⟩
theorem aF.Wb{hp:ag}{α:Type}{x:RM α}{a:α}{rd:List Nat}(h:aF hp x a rd):aF hp x a (rd.filter fun n=>Nat.blt n hp.length):=by
 refine⟨h.1,fun n hn=>List.mem_filter.2 ⟨h.2 n hn,?_⟩⟩
 have:=RM.K8 h.1 n hn
 simpa using this
theorem K9[ab]{P:Program}{hp:ag}{ev:Operand→AV}{nm n aq i j:Nat}{dst:Option Tmp}{t:TypeId}{a x:Operand}{type:TypeId}{pos:String}{after:Array Edge}{guard:Option (Nat×Bool)}{e:dm}
  (he:(aK P nm ev ⟨dst,.store t a x,type,pos,after,guard⟩).run hp=some e) (ha:ev a=.ref n aq i j):∃ o',e.wr=[(n,o')]:=by
 simp only[aK,o7,ha]at he
 split at he
 ·simp[RM.ae]at he
 ·simp only[RM.run_bind]at he
  cases hq:(RM.arr n aq).run hp with
  |none=>rw[hq]at he; simp at he
  |some q=>
   rw[hq]at he
   simp only[Option.bind_some]at he
   split at he
   case h_2=>simp[RM.ae]at he
   split at he
   case h_2=>simp[RM.ae]at he
   split at he
   case isFalse=>simp[RM.ae]at he
   simp only[RM.run_pure,Option.some.injEq]at he
   subst he
   exact⟨_,rfl⟩
theorem H7[ab]{P:Program}{t:TypeId}{a:AV}{hp:ag}{n:Nat}(h:n∈(kH P t a).log hp):n∈names a:=by
 unfold kH at h
 split at h
 ·simp[RM.log]at h
 ·split at h
  ·rw[RM.ek]at h
   simp only[names]
   rcases List.mem_append.1 h with h|h
   ·grind[RM.log,RM.arr]
   ·exfalso
    split at h
    ·unfold RM.gO at h
     repeat' (split at h)
     all_goals first|(simp[RM.log]at h; done)|skip
    ·simp at h
  ·unfold RM.gO at h
   split at h<;>simp[RM.log]at h
  ·simp[RM.log]at h
theorem GS[ab]{T:dw}{P:Program}{s:bx T.den}{st:St}(h:RS T s st):∀ {rs:List ResultVar},wO s.fr rs=true→∀ n,n∈(aR P st.fr rs).log st.hp→n∈Gz s.fr rs
 |[],_,n,hn=>by simp[aR,pure,RM.log]at hn
 |r::rs,hl,n,hn=>by
  unfold wO at hl
  simp only[List.all_cons,Bool.and_eq_true]at hl
  have ih:=GS (P:=P) h (rs:=rs) (by unfold wO; exact hl.2) n
  simp only[aR,RM.ek]at hn
  unfold Gz
  rw[List.flatMap_cons]
  rcases List.mem_append.1 hn with hn|hn
  ·refine List.mem_append.2 (.inl ?_)
   cases r with
   |tmp t=>simp[jT,pure,RM.log]at hn
   |cell a t=>
    simp only[jT]at hn
    have hd:bN (cH s.fr a)=false:=by simpa using hl.1
    have:=H7 hn
    rw[←R.names ((h.fr a).live hd)]at this
    exact this
  ·split at hn
   ·rcases List.mem_append.1 hn with hn|hn
    ·exact List.mem_append.2 (.inr (ih hn))
    ·split at hn
     ·simp[pure,RM.log]at hn
     ·simp at hn
   ·simp at hn
theorem Dx[ab]{T:dw}{H:ah T.den}:∀ {l:List (SV T.den)} {m:List AV},aw (R T H) l m→l.all isHole=true→m.all isAny=true
 |[],[],_,_=>rfl
 |x::xs,y::ys,h,hl=>by
  simp only[List.all_cons,Bool.and_eq_true]at hl ⊢
  refine⟨?_,Dx h.2 hl.2⟩
  have h1:=h.1
  have h2:=hl.1
  unfold isHole at h2
  split at h2
  ·simp only[R]at h1
   rw[h1]; rfl
  ·simp at h2
theorem qO[ab]{T:dw}(hT:T.Ok){Q:gK}(hQ:Q.Ok)(hZ:T.tM Q){ops:Array Oper}{hp:ag}{H:ah T.den}(hH:H.length=hp.length){ρ:Type}{r:ρ}{f:FuncId}:
  ∀ (l:List Oper) (s:bx T.den) (q:wi) (ov:Option Nat) (rd:List Nat) (K:bx T.den→Option Nat→List Nat→Tr ρ),RS T s ⟨f,q.fr,aQ hp q.ov q.nw⟩→ov=q.ov.map (·.1)→(∀ n o,q.ov=some (n,o)→∃ o0,hp[n]?=some (some o0))→Fx H s.hp →
  (uS Q hp.length l s ov rd K).run=some r →
  ∃ s' H8 rd2 q',aF hp (iW Q.P hp.length ops l q) q' rd2∧RS T s' ⟨f,q'.fr,aQ hp q'.ov q'.nw⟩∧H8=q'.ov.map (·.1)∧(∀ n o,q'.ov=some (n,o)→∃ o0,hp[n]?=some (some o0))∧Fx H s'.hp∧(K s' H8 (rd++rd2)).run=some r
 |[],s,q,ov,rd,K,h,wC,hex,hb,hk=>⟨s,ov,[],q,aF.pure _,h,wC,hex,hb,by rw[List.append_nil]; exact hk⟩
 |o::l,s,q,ov,rd,K,h,wC,hex,hb,hk=>by
  simp only[uS]at hk
  split at hk
  ·simp[Tr.run]at hk
  rename_i hg
  have hw:cF ops q.fr o=some true:=by simp[cF,hg]
  split at hk
  ·simp[Tr.run]at hk
  ·rename_i DN
   rw[cD]at hk
   have he:RE T s.hp (aQ hp q.ov q.nw) (.lit cK) [] ⟨.lit cK,[]⟩:=⟨bm _,h.hp,dk.refl _,fun q h=>by simp at h,fun _ _ _=>rfl,Nat.le_refl _,fun _ _ h=>by simp at h⟩
   obtain⟨g1,_⟩:=h.step he o.dst
   obtain⟨s',H8,rd2,q',i1,i2,i3,i4,i5,hk⟩:=qO hT hQ hZ (ops:=ops) hH l _ { q with fr:=bC q.fr o.dst (.lit cK) } ov rd K g1 wC hex (by simpa[bx.step,bc] using hb) hk
   refine⟨s',H8,rd2,q',?_,i2,i3,i4,i5,hk⟩
   simp only[iW,hw,DN]
   cases hd:o.dst with
   |none=>rw[hd]at i1; exact i1
   |some d=>rw[hd]at i1; exact i1
  ·rename_i T5 L4
   have hlen:s.hp.length=hp.length+q.nw.length:=h.hp.length.trans n7
   obtain⟨v,wr,rd',e,g1,g2,hk⟩:=Fq hT hQ hZ h.hp (.inl rfl) (fun x=>h.ev x) hk
   simp only at hk
   rw[hlen]at g1
   have e1:iW Q.P hp.length ops (o::l) q=((aK Q.P (hp.length+q.nw.length) (az q.fr) o).gM hp.length q.ov q.nw >>= fun e=>match e.wr.all fun q=>Nat.ble hp.length q.1 with
     |true=>iW Q.P hp.length ops l { q with fr:=bC q.fr o.dst e.val,nw:=pc hp.length q.nw e.wr }
     |false=>(match q.ov,e.wr with
      |none,[(n,o')]=>.get n fun o0=>(match rG Q.P (az q.fr) o.op n o0 with
        |true=>iW Q.P hp.length ops l { q with fr:=bC q.fr o.dst e.val,ov:=some (n,o') }
        |false=>.fail)
      |_,_=>.fail)):=by
    simp only[iW,hw]
    rfl
   rw[e1]
   split at hk
   ·rename_i bg
    rw[cD]at hk
    obtain⟨g3,_⟩:=h.step g2 o.dst
    have Dy:e.wr.all (fun q=>Nat.ble hp.length q.1)=true:=by
     refine List.all_eq_true.2 fun x hx=>?_
     obtain⟨y,hy,hyx⟩:=List.mem_map.1 (g2.names x hx)
     have:=List.all_eq_true.1 bg y hy
     rw[←hyx]; exact this
    rw[pL e.wr fun x hx=>Nat.le_of_ble_eq_true (List.all_eq_true.1 Dy x hx)]at g3
    have oG:Fx H (s.step o.dst v wr).hp:=by
     intro n hn o' c6
     refine hb n hn o' ?_
     have:n∉wr.map (·.1):=by
      intro hm
      obtain⟨y,hy,rfl⟩:=List.mem_map.1 hm
      have:=Nat.le_of_ble_eq_true (List.all_eq_true.1 bg y hy)
      omega
     rw[←g2.Bj n this (by omega)]
     exact c6
    obtain⟨s',H8,rd2,q',i1,i2,i3,i4,i5,hk⟩:=qO hT hQ hZ (ops:=ops) hH l _ { q with fr:=bC q.fr o.dst e.val,nw:=pc hp.length q.nw e.wr } ov (rd++rd') K g3 wC hex oG hk
    refine⟨s',H8,rd'++rd2,q',?_,i2,i3,i4,i5,by rw[←List.append_assoc]; exact hk⟩
    refine aF.bind g1.gM ?_
    simp only[Dy]
    exact i1
   ·split at hk
    case h_2=>simp[Tr.run]at hk
    rename_i n o' bg abe
    split at hk
    case h_2=>simp[Tr.run]at hk
    rename_i hh
    rw[Bool.and_eq_true]at hh
    obtain⟨bS,gJ⟩:=hh
    have bS:n<hp.length:=by simpa using bS
    have Qq:q.ov=none:=by
     cases hq:q.ov with
     |none=>rfl
     |some x=>rw[hq]at wC; simp at wC
    unfold Gy at gJ
    split at gJ
    case h_2=>simp at gJ
    rename_i t a x DN
    split at gJ
    case h_2=>simp at gJ
    rename_i r0 n' c i j g f cur es Pn SQ yK
    split at gJ
    case h_2=>simp at gJ
    rename_i l0 wm
    simp only[Bool.and_eq_true]at gJ
    obtain⟨⟨⟨⟨c1,c2⟩,c3⟩,c4⟩,c5⟩:=gJ
    obtain rfl:=Nat.eq_of_beq_eq_true c1
    have Me:=h.ev a
    rw[SQ]at Me
    have Me:=Me.live rfl
    simp only[R]at Me
    obtain⟨aq,Me,_⟩:=Me
    obtain⟨dst,op,type,pos,after,guard⟩:=o
    simp only at DN
    subst DN
    obtain⟨VB,DW⟩:=K9 g1.1 Me
    obtain⟨ao,Hr,dC⟩:=h.hp.obj yK
    obtain⟨es',rfl,cC,_⟩:=dC
    obtain⟨l1,sG,GI⟩:=aw.get (aP.1 cC) wm
    simp only[R]at GI
    obtain⟨l',rfl,GI⟩:=GI
    rw[Qq]at Hr
    have uv:hp[n']?=some (some (.arr g false f es')):=by
     grind[aQ,pK]
    obtain⟨r1,wo,_,kN,_⟩:=hQ.row _ _ Pn
    have SY:rG Q.P (az q.fr) (.store t a x) n' (.arr g false f es')=true:=by
     simp only[rG,wo,Me,sG,Bool.and_eq_true]
     refine⟨⟨c1,?_⟩,?_⟩
     ·rw[←aw.length (aP.1 GI),kN]; exact c2
     ·rw[kN]
      exact Dx (((aP.1 GI).drop j).take r0.size) c3
    have Dy:e.wr.all (fun q=>Nat.ble hp.length q.1)=false:=by
     simp_all
    rw[cD]at hk
    obtain⟨g3,_⟩:=h.step g2 dst
    simp only at g3
    rw[DW,Qq,xH uv]at g3
    have oG:Fx H (s.step dst v [(n',o')]).hp:=by
     intro m hm om Yk
     by_cases e:m=n'
     ·subst e
      have NN:(bc s.hp [(m,o')])[m]?=some (some om):=Yk
      simp only[bc,bJ]at NN
      rw[if_neg (by omega),List.getElem?_set_self (by omega)]at NN
      simp only[Option.some.injEq]at NN
      subst NN
      obtain⟨o1,b1,b2,b3⟩:=hb m hm _ yK
      refine⟨o1,b1,b2.trans (Nat.eq_of_beq_eq_true c4),b3.trans (Nat.eq_of_beq_eq_true c5)⟩
     ·refine hb m hm om ?_
      rw[←g2.Bj m (by simpa using e) (by omega)]
      exact Yk
    obtain⟨s',H8,rd2,q',i1,i2,i3,i4,i5,hk⟩:=qO hT hQ hZ (ops:=ops) hH l _ { q with fr:=bC q.fr dst e.val,ov:=some (n',VB) } (some n') (rd++(rd'++[n'])) K g3 rfl
     (fun m om hm=>by simp only[Option.some.injEq,Prod.mk.injEq]at hm; obtain⟨rfl,rfl⟩:=hm; exact⟨_,uv⟩) oG hk
    refine⟨s',H8,rd'++(n'::rd2),q',?_,i2,i3,i4,i5,by simpa using hk⟩
    refine aF.bind g1.gM ?_
    rw[DW]at Dy
    simp only[DW,Dy,Qq]
    refine aF.get uv ?_
    simp only[SY]
    exact i1
theorem H9[ab]{T:dw}(hT:T.Ok){Q:gK}(hQ:Q.Ok)(hZ:T.tM Q){hp:ag}{H:ah T.den}(hH:H.length=hp.length){ρ:Type}{r:ρ}{f:FuncId}:
  ∀ (c:Code) (s:bx T.den) (q:wi) (ov:Option Nat) (rd:List Nat) (K:Bool→bx T.den→Option Nat→List Nat→Tr ρ),RS T s ⟨f,q.fr,aQ hp q.ov q.nw⟩→ov=q.ov.map (·.1)→(∀ n o,q.ov=some (n,o)→∃ o0,hp[n]?=some (some o0))→Fx H s.hp →
  (lT Q hp.length c s ov rd K).run=some r →
  ∃ b s' H8 rd2 q',aF hp (gB Q.P hp.length c q) (q',b) rd2∧RS T s' ⟨f,q'.fr,aQ hp q'.ov q'.nw⟩∧H8=q'.ov.map (·.1)∧(∀ n o,q'.ov=some (n,o)→∃ o0,hp[n]?=some (some o0))∧Fx H s'.hp∧(K b s' H8 (rd++rd2)).run=some r:=by
 intro c
 induction c with
 |skip=>intro s q ov rd K h wC hex hb hk; exact⟨false,s,ov,[],q,aF.pure _,h,wC,hex,hb,by rw[List.append_nil]; exact hk⟩
 |ret=>intro s q ov rd K h wC hex hb hk; exact⟨true,s,ov,[],q,aF.pure _,h,wC,hex,hb,by rw[List.append_nil]; exact hk⟩
 |seq a b Gk DY=>
  intro s q ov rd K h wC hex hb hk
  simp only[lT]at hk
  obtain⟨z,s1,Q5,Q6,q1,g1,g2,g3,g4,g5,hk⟩:=Gk s q ov rd _ h wC hex hb hk
  cases z with
  |true=>exact⟨true,s1,Q5,Q6++[],q1,by simp only[gB]; exact aF.bind g1 (aF.pure _),g2,g3,g4,g5,by rw[List.append_nil]; exact hk⟩
  |false=>
   obtain⟨z,s2,ov2,rd2,q2,i1,i2,i3,i4,i5,hk⟩:=DY s1 q1 Q5 _ K g2 g3 g4 g5 hk
   exact⟨z,s2,ov2,Q6++rd2,q2,by simp only[gB]; exact aF.bind g1 i1,i2,i3,i4,i5,by rw[←List.append_assoc]; exact hk⟩
 |cond o a b Gk DY=>
  intro s q ov rd K h wC hex hb hk
  simp only[lT]at hk
  split at hk
  ·rename_i t hs
   have ha:=(h.ev o).live (by rw[hs]; rfl)
   rw[hs]at ha
   have ha:az q.fr o=.lit (.bool t):=ha
   rcases fo hk with ⟨rfl,hk⟩|⟨rfl,hk⟩
   ·obtain⟨z,s1,Q5,Q6,q1,g1,g⟩:=Gk s q ov rd K h wC hex hb hk
    exact⟨z,s1,Q5,Q6,q1,by simp only[gB,ha]; exact g1,g⟩
   ·obtain⟨z,s1,Q5,Q6,q1,g1,g⟩:=DY s q ov rd K h wC hex hb hk
    exact⟨z,s1,Q5,Q6,q1,by simp only[gB,ha]; exact g1,g⟩
  ·simp[Tr.run]at hk
 |region id ops draw=>
  intro s q ov rd K h wC hex hb hk
  cases draw with
  |true=>simp[lT,Tr.run]at hk
  |false=>
   simp only[lT]at hk
   obtain⟨s',H8,rd2,q',g1,g2,g3,g4,g5,hk⟩:=qO hT hQ hZ (ops:=ops) hH ops.toList s q ov rd _ h wC hex hb hk
   exact⟨false,s',H8,rd2++[],q',by simp only[gB]; exact aF.bind g1 (aF.pure _),g2,g3,g4,g5,by rw[List.append_nil]; exact hk⟩
 |_=>intro s q ov rd K h wC hex hb hk; simp[lT,Tr.run]at hk
section
variable {T:dw}
theorem aw.qe{α β:Type}{P:α→β→Prop}:∀ {l:List α} {m:List β},aw P l m→∀ {i:Nat} {x:α} {y:β},m[i]?=some y→P x y→aw P (l.set i x) m
 |_::_,_::_,h,0,x,y,hy,hp=>by simp at hy; subst hy; exact⟨hp,h.2⟩
 |_::_,_::_,h,i+1,x,y,hy,hp=>⟨h.1,aw.qe h.2 (by simpa using hy) hp⟩
 |[],[],_,_,_,_,hy,_=>by simp at hy
theorem u9[ab]{s:bx T.den}{st:St}(h:RS T s st){n:Nat}{o o':aC T.den}(ho:s.hp[n]?=some (some o))(hc:o'.cur=o.cur)(hl:o'.len=o.len)(na:o.isRec=false)
  (hr:∀ a,RO T s.hp o a→RO T s.hp o' a):RS T { s with hp:=s.hp.set n (some o'),wh:=n::s.wh } st∧bj s { s with hp:=s.hp.set n (some o'),wh:=n::s.wh }:=by
 have hn:=(List.getElem?_eq_some_iff.1 ho).1
 obtain⟨a,ha,hra⟩:=h.hp.obj ho
 have hg:dk s.hp (s.hp.set n (some o')):=by
  intro m x hm
  by_cases e:m=n
  ·simp_all
  ·grind
 refine⟨⟨h.fn,h.n,fun t=>(h.fr t).mono hg,?_,h.js.Bj fun m hm=>⟨?_,rfl⟩⟩,⟨rfl,rfl,fun _ _=>rfl,fun _ h=>h,fun m hm hw=>?_,fun m hm=>List.mem_cons_of_mem _ hm,by simp,hg⟩⟩
 ·exact aw.qe (aw.mono (fun _ _ h=>Bh.mono hg h) h.hp) (y:=some a) ha (Bh.mono hg (show Bh T s.hp (some o') (some a) from hr a hra))
 ·have dK:m≠n:=by
   grind[recAt]
  rw[List.getElem?_set_ne (Ne.symm dK)]
 ·simp only at hw ⊢
  rw[List.getElem?_set_ne (fun e=>hw (by rw[e]; simp))]
theorem sB[ab]{s:bx T.den}{st:St}(h:RS T s st){d:Nat}{v:SV T.den}(hr:∀ a,R T s.hp (cH s.fr d) a→R T s.hp v a)(hd:bN (cH s.fr d)=false):
  RS T { s with fr:=tC s.n s.fr d v,wf:=d::s.wf } st∧bj s { s with fr:=tC s.n s.fr d v,wf:=d::s.wf }:=by
 refine⟨⟨h.fn,h.n,fun t=>?_,h.hp,h.js⟩,⟨rfl,rfl,fun t ht=>?_,fun t ht=>List.mem_cons_of_mem _ ht,fun _ _ _=>rfl,fun _ h=>h,Nat.le_refl _,dk.refl _⟩⟩
 ·simp only
  rw[ko]
  split
  ·rename_i e
   rw[e.1]
   exact .inr (hr _ ((h.fr d).live hd))
  ·exact h.fr t
 ·simp only at ht ⊢
  rw[ko,if_neg]
  exact fun e=>ht (by rw[e.1]; simp)
theorem sC[ab]{s:bx T.den}{st:St}(h:RS T s st){d j:Nat}{v v':SV T.den}(hc:cellOf s d j=some v)(hd:bN v=false)(hr:∀ a,R T s.hp v a→R T s.hp v' a)(mj:aE v'=true):
  RS T (setCell s d j v') st∧bj s (setCell s d j v'):=by
 unfold cellOf at hc
 unfold setCell
 split at hc
 ·rename_i n c i k he
  split at hc
  case h_2=>simp at hc
  rename_i g cl f cur es ho
  split at hc
  case h_2=>simp at hc
  rename_i l hl
  refine u9 h ho rfl (by simp[aC.len]) rfl fun a ha=>?_
  obtain⟨es',rfl,h1,h2⟩:=ha
  obtain⟨ea,h3,h4⟩:=aw.get (aP.1 h1) hl
  simp only[R]at h4
  obtain⟨l',rfl,h5⟩:=h4
  obtain⟨b,h6,h7⟩:=aw.get (aP.1 h5) hc
  refine⟨es',rfl,aP.2 (aw.qe (aP.1 h1) h3 ?_),fun Wc=>?_⟩
  ·simp only[R]
   exact⟨l',rfl,aP.2 (aw.qe (aP.1 h5) h6 (hr _ h7))⟩
  ·have h8:=h2 Wc
   rw[jl,List.all_eq_true]at h8 ⊢
   intro x hx
   rcases List.mem_or_eq_of_mem_set hx with hx|rfl
   ·exact h8 x hx
   ·have h9:=h8 _ (List.mem_of_getElem? hl)
    simp only[aE]at h9 ⊢
    rw[jl,List.all_eq_true]at h9 ⊢
    intro y hy
    rcases List.mem_or_eq_of_mem_set hy with hy|rfl
    ·exact h9 y hy
    ·exact mj
 ·rename_i l he
  refine sB h (fun a ha=>?_) (by rw[he]; rfl)
  rw[he]at ha
  simp only[R]at ha ⊢
  obtain⟨l',rfl,h5⟩:=ha
  obtain⟨b,h6,h7⟩:=aw.get (aP.1 h5) hc
  exact⟨l',rfl,aP.2 (aw.qe (aP.1 h5) h6 (hr _ h7))⟩
 ·rename_i h1 h2
  split at hc
  case h_2=>simp at hc
  simp only[Option.some.injEq]at hc
  subst hc
  exact sB h hr hd
theorem Dz{ρ:Type}{r:ρ}{n:Int}{K:Int→Tr ρ}:∀ {b m:Nat},(KD b m n K).run=some r→∃ m':Nat,n=Int.ofNat m'∧(K (Int.ofNat m')).run=some r
 |0,m,h=>by simp[KD,Tr.run]at h
 |b+1,m,h=>by
  simp only[KD,Tr.run]at h
  cases hb:n==Int.ofNat m with
  |true=>
   rw[hb]at h
   exact⟨m,eq_of_beq hb,h⟩
  |false=>
   rw[hb]at h
   exact Dz h
theorem yw{α:Type}:∀ {l:List α} {i:Nat} {x:α},l[i]?=some x→l.drop i=x::l.drop (i+1)
 |y::ys,0,x,h=>by simp at h; subst h; simp
 |y::ys,i+1,x,h=>by simp at h ⊢; exact yw h
 |[],i,x,h=>by simp at h
theorem vb[ab]{ρ:Type}{r:ρ}{t:Nat}{l:List (T.den t)}:∀ {n i:Nat} {K:List (SV T.den)→Tr ρ},(CS t l n i K).run=some r→∃ xs:List (T.den t),xs.length=n∧(l.drop i).take n=xs∧(K (xs.map (T.up t))).run=some r
 |0,i,K,h=>⟨[],rfl,by simp,h⟩
 |n+1,i,K,h=>by
  simp only[CS,Tr.run,Option.bind_eq_some_iff]at h
  obtain⟨x,hx,h⟩:=h
  obtain⟨xs,h1,h2,h3⟩:=vb h
  refine⟨x::xs,by simp[h1],?_,h3⟩
  rw[yw hx,List.take_succ_cons,h2]
theorem La[ab](hT:T.Ok){H:ah T.den}{t:Nat}:∀ {l:List (T.den t)} {m:List AV},aw (T.rp t) l m→RL T H (l.map (T.up t)) m∧av (l.map (T.up t))=true
 |[],[],_=>by simp[RL,av]
 |x::xs,y::ys,h=>by
  obtain⟨h1,h2⟩:=La hT (H:=H) h.2
  simp only[List.map_cons,RL,av,Bool.and_eq_true]
  exact⟨⟨hT.up _ _ _ H h.1,h1⟩,uW hT h.1,h2⟩
theorem Lb[ab](hT:T.Ok){ρ:Type}{r:ρ}{w:Tw}{K:bx T.den→Tr ρ}{s:bx T.den}{st:St}(h:RS T s st)(hk:(xY s w K).run=some r):∃ s',RS T s' st∧bj s s'∧(K s').run=some r:=by
 cases w with
 |num d j b=>
  simp only[xY]at hk
  split at hk
  case h_2=>simp[Tr.run]at hk
  rename_i k n hc
  obtain⟨m,rfl,Ek⟩:=Dz hk
  clear hk
  have hk:=Ek
  rw[force_eq]at hk
  obtain⟨h1,h2⟩:=sC h hc rfl (v':=.lit (.int k (Int.ofNat m))) (fun a ha=>ha) rfl
  exact⟨_,h1,h2,hk⟩
 |XS d j n=>
  simp only[xY]at hk
  split at hk
  case h_2=>simp[Tr.run]at hk
  rename_i t l hc
  obtain⟨g1,hk⟩:=aX hk
  simp only[Bool.and_eq_true,decide_eq_true_eq]at g1
  obtain⟨g0,g1⟩:=g1
  have g0:0<n:=by simpa using g0
  obtain⟨xs,e1,e2,hk⟩:=vb hk
  rw[List.drop_zero,←g1,List.take_length]at e2
  subst e2
  rw[force_eq]at hk
  have mj:aE (.sl (l.map (T.up t)):SV T.den)=true:=rfl
  obtain⟨h1,h2⟩:=sC h hc rfl (v':=.sl (l.map (T.up t))) (fun a ha=>by
   simp only[R]at ha ⊢
   rcases ha with ⟨l',rfl,ha⟩|⟨rfl,_⟩
   ·obtain⟨b1,b2⟩:=La hT (H:=s.hp) ha
    exact⟨l',rfl,b1,b2⟩
   ·simp at g1; omega) mj
  exact⟨_,h1,h2,hk⟩
 |arr d n=>
  simp only[xY]at hk
  split at hk
  case h_2=>simp[Tr.run]at hk
  split at hk
  case h_2=>simp[Tr.run]at hk
  rename_i g f cur t l ho
  obtain⟨g1,hk⟩:=aX hk
  simp only[decide_eq_true_eq]at g1
  obtain⟨xs,e1,e2,hk⟩:=vb hk
  rw[List.drop_zero,←g1,List.take_length]at e2
  subst e2
  rw[force_eq]at hk
  obtain⟨h1,h2⟩:=u9 h ho (o':=.arr g true f cur (l.map (T.up t))) rfl (by simp[aC.len]) rfl (fun a ha=>by
   obtain⟨es',rfl,ha⟩:=ha
   obtain⟨b1,b2⟩:=La hT (H:=s.hp) ha
   exact⟨es',rfl,b1,fun _=>b2⟩)
  exact⟨_,h1,h2,hk⟩
 |int d j=>
  simp only[xY]at hk
  split at hk
  case h_2=>simp[Tr.run]at hk
  rename_i k n hc
  simp only[Tr.run,Option.bind_some]at hk
  rw[force_eq]at hk
  obtain⟨h1,h2⟩:=sC h hc rfl (v':=.lit (.int k n)) (fun a ha=>ha) rfl
  exact⟨_,h1,h2,hk⟩
 |name d=>
  simp only[xY]at hk
  split at hk
  case h_2=>simp[Tr.run]at hk
  rename_i esz nm c rg cap hd
  split at hk
  case h_2=>simp[Tr.run]at hk
  rename_i g f cur t l ho
  simp only[Tr.run,Option.bind_some]at hk
  obtain⟨h1,h2⟩:=u9 h ho (o':=.bW g f cur t l) rfl rfl rfl (fun a ha=>ha)
  split at hk
  ·rw[force_eq]at hk
   exact⟨_,h1,h2,hk⟩
  ·rename_i off len
   simp only[Tr.run,Option.bind_some]at hk
   rw[force_eq]at hk
   obtain⟨h3,h4⟩:=sB h1 (d:=d) (v:=.bq esz nm c (some (off,len)) cap) (fun a ha=>by simp only[hd]at ha; exact ha) (by simp only[hd]; rfl)
   exact⟨_,h3,h2.trans h4,hk⟩
theorem Bu[ab](hT:T.Ok){ρ:Type}{r:ρ}{K:bx T.den→Tr ρ}{st:St}:∀ {l:List Tw} {s:bx T.den},RS T s st→(Sn l s K).run=some r→∃ s',RS T s' st∧bj s s'∧(K s').run=some r
 |[],s,h,hk=>⟨s,h,bj.refl _,hk⟩
 |w::l,s,h,hk=>by
  obtain⟨s1,h1,h2,hk⟩:=Lb hT h hk
  obtain⟨s2,h3,h4,hk⟩:=Bu hT h1 hk
  exact⟨s2,h3,h2.trans h4,hk⟩
theorem Qr[ab](hT:T.Ok){ρ:Type}{r:ρ}{l:Tmp→List Tw}{dst:Option Tmp}{K:bx T.den→Tr ρ}{s:bx T.den}{st:St}(h:RS T s st)(hk:(So l dst s K).run=some r):∃ s',RS T s' st∧bj s s'∧(K s').run=some r:=by
 cases dst with
 |none=>exact⟨s,h,bj.refl _,hk⟩
 |some d=>exact Bu hT h hk
end
theorem vf[ab]{T:dw}{ρ:Type}{r:ρ}{K:bx T.den→Tr ρ}:∀ {l:List (Nat×Nat)} {s:bx T.den} {st:St},RS T s st→(xX l s K).run=some r→∃ s',RS T s' (gF l st)∧bj s s'∧(K s').run=some r
 |[],s,st,h,hk=>⟨s,h,bj.refl _,hk⟩
 |(d,j)::l,s,st,h,hk=>by
  unfold xX at hk
  have hd:=h.fr d
  split at hk
  case h_2=>simp[Tr.run]at hk
  rename_i n c i k he
  rw[he]at hd
  have hd:=hd.live rfl
  simp only[R]at hd
  obtain⟨aq,hd,ca⟩:=hd
  split at hk
  case h_2=>simp[Tr.run]at hk
  rename_i g cl f cur es ho
  obtain⟨ao,c6,dC⟩:=h.hp.obj ho
  obtain⟨es',rfl,cC,mj⟩:=dC
  split at hk
  case h_2=>simp[Tr.run]at hk
  rename_i e' F5
  obtain⟨e,LZ,xE⟩:=Option.bind_eq_some_iff.1 F5
  obtain⟨ea,SQ,D2⟩:=aw.get (aP.1 cC) LZ
  unfold z2 at xE
  split at xE
  case h_2=>simp at xE
  rename_i l0
  split at xE
  case h_2=>simp at xE
  rename_i U1
  simp only[Option.some.injEq]at xE
  subst xE
  simp only[R]at D2
  obtain⟨l',rfl,GI⟩:=D2
  have hn:=(List.getElem?_eq_some_iff.1 ho).1
  have Wd:Nat.blt (k+j) l'.length=true:=by rw[←aw.length (aP.1 GI)]; exact U1
  have Fl:mg st d j={ st with hp:=st.hp.set n (some (.arr g false f (es'.set i (.agg (l'.set (k+j) .any))))) }:=by
   unfold mg
   rw[hd]
   simp only[c6,SQ,Option.bind_some,sM,Wd]
  rw[cD]at hk
  have hg:dk s.hp (s.hp.set n (some (.arr g false f cur (es.set i (.agg (l0.set (k+j) .hole)))))):=by
   intro m o hm
   by_cases e:m=n
   ·subst e
    rw[ho]at hm
    simp only[Option.some.injEq]at hm
    subst hm
    exact⟨_,List.getElem?_set_self hn,Nat.le_refl _,fun _=>by simp[aC.len]⟩
   ·grind
  have dC:RO T (s.hp.set n (some (.arr g false f cur (es.set i (.agg (l0.set (k+j) .hole)))))) (.arr g false f cur (es.set i (.agg (l0.set (k+j) .hole)))) (.arr g false f (es'.set i (.agg (l'.set (k+j) .any)))):=by
   refine⟨_,rfl,aP.2 (((aP.1 cC).mono fun _ _ h=>h.mono hg).set i ?_),fun h=>by cases h⟩
   simp only[R]
   exact⟨_,rfl,aP.2 (((aP.1 GI).mono fun _ _ h=>h.mono hg).set (k+j) (by simp[R]))⟩
  have dU:bc s.hp [(n,.arr g false f cur (es.set i (.agg (l0.set (k+j) .hole))))]=s.hp.set n (some (.arr g false f cur (es.set i (.agg (l0.set (k+j) .hole))))):=by
   grind[bc,bJ]
  have OU:ak st.hp [(n,.arr g false f (es'.set i (.agg (l'.set (k+j) .any))))]=st.hp.set n (some (.arr g false f (es'.set i (.agg (l'.set (k+j) .any))))):=by
   simp only[ak]
   exact iA (List.getElem?_eq_some_iff.1 c6).1
  have hE:RE T s.hp st.hp (.lit undef) [(n,.arr g false f cur (es.set i (.agg (l0.set (k+j) .hole))))] ⟨.undef,[(n,.arr g false f (es'.set i (.agg (l'.set (k+j) .any))))]⟩:=by
   refine⟨bm _,?_,by rw[dU]; exact hg,fun q hq=>by simp only[List.mem_singleton]at hq; subst hq; simp,fun m hm hl=>?_,by rw[dU]; simp,fun m hm hc=>?_⟩
   ·rw[dU,OU]
    exact(aw.mono (fun _ _ h=>Bh.mono hg h) h.hp).set n dC
   ·grind
   ·simp_all[aC.isRec,recAt]
  obtain⟨g1,g2⟩:=h.step hE none
  rw[OU]at g1
  have M5:RS T (s.step none (.lit undef) [(n,.arr g false f cur (es.set i (.agg (l0.set (k+j) .hole))))]) (mg st d j):=by
   rw[Fl]; exact g1
  obtain⟨s',i1,i2,i3⟩:=vf M5 hk
  exact⟨s',i1,g2.trans i2,i3⟩
section
variable [ab]{S:od}(hS:S.Ok)
include hS
theorem Qs(f:FuncId):(S.Qf f).Ok:=⟨hS.Q.row,hS.Q.kind,hS.Q.OD,hS.Q.map⟩
theorem Lc{ρ:Type}{r:ρ}{g:FuncId}{args:List (SV S.T.den)}{as:List AV}{H:ah S.T.den}{hp:ag}{K:EK S.T ρ}(hh:RH S.T H hp)(ha:RL S.T H args as)(hk:(KF S g args H K).run=some r):
  S.C.kind g=.imp∧S.C.rb g=none∧∃ v rd e,aF hp (yG S.C.P hp.length g as) e rd∧RE S.T H hp v [] e∧(K v [] rd).run=some r:=by
 unfold KF at hk
 split at hk
 case h_2=>simp[Tr.run]at hk
 rename_i fn We Qt qT
 split at hk
 case h_2=>simp[Tr.run]at hk
 rename_i c hc
 split at hk
 case h_1=>simp[Tr.run]at hk
 rename_i hD
 have gJ:=yp (f:=g) ha hh fn.ntmps [] (js:=[]) (fun n st h=>by cases h)
 have hlen:H.length=hp.length:=hh.length
 have el:aQ hp none []=hp:=by simp[aQ,pK]
 rw[hlen]at hk
 obtain⟨b,s',ov,rd2,q,g1,g2,g3,g4,g5,hk⟩:=H9 hS.T (Qs hS g) hS.Z hlen (f:=g) c _ ⟨as++List.replicate (fn.ntmps-as.length) .undef,none,[]⟩ none _ _ (by simp only[el]; exact gJ) rfl (fun n o h=>by cases h) (fun n hn o ho=>⟨o,ho,rfl,rfl⟩) hk
 obtain⟨l,m,i1,i2,hk⟩:=oy hS.T hS.Q g2 hk
 have V3:(aR S.C.P q.fr fn.results.toList).run (aQ hp q.ov q.nw)=some m:=i1
 split at hk
 case h_2=>simp[Tr.run]at hk
 rename_i Hq
 simp only[Bool.and_eq_true]at Hq
 obtain⟨⟨c1,c2⟩,c3⟩:=Hq
 have Yl:=GJ i2
 have hR:R S.T H (qV l) (cB m):=R.back g5 Yl (by rw[hlen]; exact c1)
 refine⟨We,Qt,qV l,_,⟨cB m,[]⟩,?_,⟨.inr hR,hh,dk.refl _,fun q h=>by simp at h,fun _ _ _=>rfl,Nat.le_refl _,fun _ _ h=>by simp at h⟩,hk⟩
 unfold yG
 rw[qT]
 simp only
 rw[hc]
 simp only
 rw[hD]
 simp only
 have Bt:(below hp.length (cB m)&&(match q.ov with
    |some (_,o)=>o.below hp.length
    |none=>true))=true:=by
  rw[Bool.and_eq_true]
  refine⟨by rw[←R.below Yl]; exact c1,?_⟩
  cases hq:q.ov with
  |none=>rfl
  |some x=>
   obtain⟨n,o⟩:=x
   simp only
   rw[hq]at g3
   simp only[Option.map_some]at g3
   rw[g3]at c3
   simp only at c3
   split at c3
   case h_2=>simp at c3
   rename_i so O3
   obtain⟨o0,Ym⟩:=g4 n o hq
   obtain⟨ao,Wf,Wg⟩:=aw.get g2.hp O3
   have bS:=(List.getElem?_eq_some_iff.1 Ym).1
   have:(aQ hp q.ov q.nw)[n]?=some (some o):=by
    rw[hq]
    simp only[aQ,pK,Ym]
    rw[List.getElem?_append_left (by simpa using bS),List.getElem?_set_self bS]
   rw[this]at Wf
   simp only[Option.some.injEq]at Wf
   subst Wf
   have:=Ae hS.T Wg (n:=hp.length)
   rw[c3]at this
   exact this.symm
 have y1:aF hp (gB S.C.P hp.length c ⟨as++List.replicate (fn.ntmps-as.length) .undef,none,[]⟩) (q,b) rd2:=g1
 have y2:aF hp ((aR S.C.P q.fr fn.results.toList).gM hp.length q.ov q.nw) m ((Gz s'.fr fn.results.toList).filter fun n=>Nat.blt n hp.length):=
  aF.SX ⟨V3,fun n hn=>GS g2 c2 n hn⟩
 have y3:=aF.bind (y1.Wb) (f:=fun q=>(aR S.C.P q.1.fr fn.results.toList).gM hp.length q.1.ov q.1.nw >>= fun l=>match below hp.length (cB l)&&(match q.1.ov with
    |some (_,o)=>o.below hp.length
    |none=>true) with
   |true=>(pure ⟨cB l,[]⟩:RM dm)
   |false=>.fail) (aF.bind y2 (f:=fun l=>match below hp.length (cB l)&&(match q.ov with
    |some (_,o)=>o.below hp.length
    |none=>true) with
   |true=>(pure ⟨cB l,[]⟩:RM dm)
   |false=>.fail) (b:=⟨cB m,[]⟩) (rd':=[]) (by simp only[Bt]; exact aF.pure _))
 rw[List.append_nil,←List.filter_append]at y3
 exact y3
theorem Qu{ρ:Type}{r:ρ}{nm:Nat}{o:Oper}{s:bx S.T.den}{st:St}{K:EK S.T ρ}(h:RS S.T s st)(hn:nm=s.hp.length∨s.hp[nm]?=some none)(nT:au o.op=false→nm=s.hp.length)(hk:(Ua S nm o s K).run=some r):
  ∃ v wr rd e lg,B2 S.C nm o st.fr st.hp=some (e,lg)∧(∀ n,n∈lg→n∈rd)∧RE S.T s.hp st.hp v wr e∧(K v wr rd).run=some r:=by
 have plain:(∀ c f,o.op=.call c→c.callee=.value f→False)→(∀ c m i,o.op=.call c→c.callee=.invoke m i→False)→(Nr (S.Qf s.fn) nm s.hp (cV s.fr) o K).run=some r →
   ∃ v wr rd e lg,B2 S.C nm o st.fr st.hp=some (e,lg)∧(∀ n,n∈lg→n∈rd)∧RE S.T s.hp st.hp v wr e∧(K v wr rd).run=some r:=by
  intro h1 h2 hk
  obtain⟨v,wr,rd,e,g1,g2,g3⟩:=Fq hS.T (Qs hS s.fn) (Q:=S.Qf s.fn) hS.Z h.hp hn (fun x=>h.ev x) hk
  refine⟨v,wr,rd,e,_,?_,g1.2,g2,g3⟩
  rw[Eo h1 h2]
  have:=g1.1
  rw[show (S.Qf s.fn).P=S.C.P from rfl]at this
  rw[this]
  rfl
 unfold Ua at hk
 split at hk
 ·rename_i c hc
  split at hk
  ·rename_i b hb
   exact plain (fun c' f h1 h2=>by rw[hc]at h1; simp only[Op.call.injEq]at h1; subst h1; rw[hb]at h2; cases h2) (fun c' m i h1 h2=>by rw[hc]at h1; simp only[Op.call.injEq]at h1; subst h1; rw[hb]at h2; cases h2) hk
  ·rename_i f hf
   split at hk
   ·simp[Tr.run]at hk
   rename_i g args hg
   split at hk
   ·rename_i pj
    split at hk
    case h_2=>simp[Tr.run]at hk
    rename_i σ hd hσ
    obtain⟨m,uk,yE⟩:=ga (h.ev f) (jo (fun x=>h.ev x) c.args.toList) hg
    obtain⟨v,wr,rd,e,lg,g2,g3,g4,g5⟩:=GM hS.T (hS.own g σ hσ) h.hp hn (yE hd) hk
    refine⟨v,wr,rd,_,lg,?_,g3,g4,g5⟩
    obtain⟨dst,op,type,pos,after,guard⟩:=o
    simp only at hc pj
    subst hc
    obtain⟨callee,cR,mh⟩:=c
    simp only at hf
    subst hf
    rw[um,uk,pj]
    exact g2
   rename_i pj
   split at hk
   case h_3=>simp[Tr.run]at hk
   case h_2=>
    rename_i hd _
    obtain⟨m,uk,yE⟩:=ga (h.ev f) (jo (fun x=>h.ev x) c.args.toList) hg
    obtain⟨We,Qt,v,rd,e,g1,g2,hk⟩:=Lc hS h.hp (yE hd) hk
    rw[show st.hp.length=nm from by rw[nT (by assumption),h.hp.length]]at g1
    refine⟨v,[],rd,e,_,?_,g1.2,g2,hk⟩
    obtain⟨dst,op,type,pos,after,guard⟩:=o
    simp only at hc pj
    subst hc
    obtain⟨callee,cR,mh⟩:=c
    simp only at hf
    subst hf
    rw[um,uk,pj]
    simp only[Option.bind_some,pq,We,Qt,g1.1,Option.map_some]
   rename_i σ hd hσ
   obtain⟨m,uk,yE⟩:=ga (h.ev f) (jo (fun x=>h.ev x) c.args.toList) hg
   obtain⟨v,wr,rd,a,w,lg,_,g2,g3,g4,g5⟩:=wP hS.T (hS.sum g σ hσ) h.hp (yE hd) hk
   refine⟨v,wr,rd,_,lg,?_,g3,g4,g5⟩
   obtain⟨dst,op,type,pos,after,guard⟩:=o
   simp only at hc pj
   subst hc
   obtain⟨callee,cR,mh⟩:=c
   simp only at hf
   subst hf
   rw[um,uk,pj]
   exact g2 nm
  ·rename_i rv name hf
   split at hk
   ·simp[Tr.run]at hk
   rename_i g x hg
   obtain⟨ax,uk,Q7⟩:=Dm (h.ev rv) hg
   split at hk
   case h_2=>simp[Tr.run]at hk
   rename_i σ hd hσ
   have yE:RL S.T s.hp (x::c.args.toList.map (cV s.fr)) (ax::c.args.toList.map (az st.fr)):=by
    simp only[List.any_cons,Bool.or_eq_false_iff]at hd
    simp only[RL]
    exact⟨Q7,iK (jo (fun x=>h.ev x) c.args.toList) hd.2⟩
   obtain⟨v,wr,rd,a,w,lg,_,g2,g3,g4,g5⟩:=wP hS.T (hS.sum g σ hσ) h.hp yE hk
   refine⟨v,wr,rd,_,lg,?_,g3,g4,g5⟩
   obtain⟨dst,op,type,pos,after,guard⟩:=o
   simp only at hc
   subst hc
   obtain⟨callee,cR,mh⟩:=c
   simp only at hf
   subst hf
   rw[G9 uk (hS.sum g σ hσ).kind]
   exact g2 nm
 ·rename_i MC
  exact plain (fun c' f h1 _=>MC c' h1) (fun c' m i h1 _=>MC c' h1) hk
theorem Qv{k:Nat}(ih:oB S k){ρ:Type}{o:Oper}{s:bx S.T.den}{K:bx S.T.den→Tr ρ}{r:ρ}{st:St}(h:RS S.T s st)(hk:(Nv S (k+1) ρ o s K).run=some r):
  ∃ s' st',ie S.C o st=some (.norm st')∧RS S.T s' st'∧bj s s'∧(K s').run=some r:=by
 have plain:qi o.op=true→(Nr (S.Qf s.fn) s.hp.length s.hp (cV s.fr) o fun v wr _=>s.ff o.dst v wr fun s=>CR (match o.op with|.call _=>fun _=>[]|_=>S.C.qR s.fn) o.dst s
    fun s=>So (match o.op with|.call _=>fun _=>[]|_=>S.tw s.fn) o.dst s K).run=some r →
   ∃ s' st',ie S.C o st=some (.norm st')∧RS S.T s' st'∧bj s s'∧(K s').run=some r:=by
  intro h1 hk
  obtain⟨v,wr,rd,e,g1,g2,g3⟩:=Fq hS.T (Qs hS s.fn) (Q:=S.Qf s.fn) hS.Z h.hp (.inl rfl) (fun x=>h.ev x) hk
  replace g3:(s.ff o.dst v wr fun s=>CR (match o.op with|.call _=>fun _=>[]|_=>S.C.qR s.fn) o.dst s
    fun s=>So (match o.op with|.call _=>fun _=>[]|_=>S.tw s.fn) o.dst s K).run=some r:=g3
  rw[cD]at g3
  obtain⟨g4,g5⟩:=h.step g2 o.dst
  have qT:(s.step o.dst v wr).fn=st.fn:=h.fn
  rw[qT]at g3
  obtain⟨s1,i1,i2,i3⟩:=K6 hS.T g4 g3
  obtain⟨s',j1,j2,j3⟩:=Qr hS.T i1 i3
  refine⟨s',_,?_,j1,g5.trans (i2.trans j2),j3⟩
  rw[xh h1]
  have:=g1.1
  rw[h.hp.length]at this
  rw[show (S.Qf s.fn).P=S.C.P from rfl]at this
  rw[this]
  rfl
 unfold Nv at hk
 obtain⟨dst,op,type,pos,after,guard⟩:=o
 simp only at hk
 split at hk
 ·rename_i c
  obtain⟨callee,cR,mh⟩:=c
  split at hk
  ·rename_i b hb
   simp only at hb
   subst hb
   refine plain rfl ?_
   have e:(fun (s:bx S.T.den)=>CR (fun _=>[]) dst s fun s=>So (fun _=>[]) dst s K)=K:=by
    funext s
    cases dst<;>rfl
   simp only[e]
   exact hk
  ·rename_i f hf
   simp only at hf
   subst hf
   split at hk
   ·-- a round of a range over a function
    split at hk
    case h_2=>simp[Tr.run]at hk
    rename_i n hn
    have Cp:=(h.ev f).live (by rw[hn]; rfl)
    rw[hn]at Cp
    simp only[R]at Cp
    split at hk
    case h_2=>simp[Tr.run]at hk
    rename_i fn ps as bd fr ho hj Ld
    split at hk
    case h_2=>simp[Tr.run]at hk
    rename_i hc
    rw[force_eq]at hk
    have jc:=iK (jo (fun x=>h.ev x) cR.toList) Ld
    obtain⟨ao,c6,dC⟩:=h.hp.obj ho
    obtain⟨x,vs,rfl,ma⟩:=dC
    obtain⟨QN,QO⟩:=h.js n _ hj
    have hx:x=.ready:=by
     simp_all[ib]
    subst hx
    have hlen:vs.length=fr.length:=ma.length.symm
    obtain⟨p1,p2⟩:=Aj (ps:=ps.toList) (xs:=cR.toList.map (cV s.fr)) (as:=cR.toList.map (az st.fr)) (n:=fr.length) (fr:=mw 0 fr) (fa:=vs) (H:=s.hp) hlen (fun t=>by
     rw[u6]
     simp only[Nat.zero_le,if_true,Nat.sub_zero,List.getD_eq_getElem?_getD]
     cases hq:vs[t]? with
     |none=>
      have:fr[t]?=none:=by rw[List.getElem?_eq_none_iff]at hq ⊢; omega
      rw[this]
      exact bm undef
     |some a=>
      obtain⟨v,hv,hr⟩:=aw.get' ma hq
      rw[hv]
      rcases hr with ⟨rfl,_⟩|hr
      ·exact .inl rfl
      ·exact .inr hr) jc
    have DX:RS S.T ⟨fn,fr.length,lR fr.length (mw 0 fr) ps.toList (cR.toList.map (cV s.fr)),s.hp,[],s.wh,s.js⟩ ⟨fn,fE vs ps.toList (cR.toList.map (az st.fr)),st.hp⟩:=⟨rfl,p1,p2,h.hp,h.js⟩
    obtain⟨so1,o1,a1,a2,a3,hk⟩:=ih.c _ _ _ _ _ _ DX hk
    cases so1 with
    |exit id s1=>simp[Tr.run]at hk
    |ret s1=>simp[Tr.run]at hk
    |norm s1=>
    obtain⟨Uo,rfl,ny⟩:=a2
    simp only at hk
    split at hk
    case h_2=>simp[Tr.run]at hk
    rename_i wo
    obtain⟨_,sG⟩:=ny.js n _ wo
    obtain⟨b1,b2⟩:=GR ny.hp ny.js wo .busy
    have Wh:RS S.T { s1 with js:=Bg s1.js n .busy } { Uo with hp:=oF Uo.hp n .busy }:=⟨ny.fn,ny.n,ny.fr,b1,b2⟩
    obtain⟨Qw,o2,c1,c2,c3,hk⟩:=ih.c _ _ _ _ _ _ Wh hk
    have key:∀ (s2:bx S.T.den),bj { s1 with js:=Bg s1.js n .busy } s2→dk s.hp s2.hp∧s.hp.length≤s2.hp.length∧(∀ m:Nat,m<s.hp.length→m∉s2.wh→s2.hp[m]?=s.hp[m]?)∧∀ m,m∈s.wh→m∈s2.wh:=by
     intro s2 o5
     refine⟨a3.grow.trans o5.grow,Nat.le_trans a3.len o5.len,fun m hm hw=>?_,fun m hm=>o5.wh m (a3.wh m hm)⟩
     rw[o5.hp m (Nat.lt_of_lt_of_le hm a3.len) hw]
     exact a3.hp m hm (fun hc=>hw (o5.wh m hc))
    have Lf:ie S.C ⟨dst,.call ⟨.value f,cR,mh⟩,type,pos,after,guard⟩ st=gI (fun c s=>cQ S.C c s) n (cR.toList.map (az st.fr)) dst st:=by
     rw[nk,Cp.1]
     rfl
    have hy:gI (fun c s=>cQ S.C c s) n (cR.toList.map (az st.fr)) dst st=K7 n dst st o2:=by
     clear c2
     unfold gI
     have e1:decide ((cR.toList.map (az st.fr)).length=ps.size)=true:=by
      simpa using Nat.eq_of_beq_eq_true hc
     simp only[c6,e1,a1,sG,c1]
     cases o2<;>rfl
    cases Qw with
    |norm s2=>
     obtain⟨NJ,rfl,AJ⟩:=c2
     obtain⟨k1,k2,k3,k4⟩:=key s2 c3
     obtain⟨s',st',d1,d2,d3,hk⟩:=Bs hS.T h AJ k1 k2 k3 k4 hk
     exact⟨s',st',by rw[Lf,hy]; exact d1,d2,d3,hk⟩
    |exit id s2=>
     obtain⟨NJ,rfl,AJ⟩:=c2
     obtain⟨k1,k2,k3,k4⟩:=key s2 c3
     obtain⟨s',st',d1,d2,d3,hk⟩:=Bs hS.T h AJ k1 k2 k3 k4 hk
     exact⟨s',st',by rw[Lf,hy]; exact d1,d2,d3,hk⟩
    |ret s2=>
     obtain⟨NJ,rfl,AJ⟩:=c2
     obtain⟨k1,k2,k3,k4⟩:=key s2 c3
     obtain⟨s',st',d1,d2,d3,hk⟩:=Bs hS.T h AJ k1 k2 k3 k4 hk
     exact⟨s',st',by rw[Lf,hy]; exact d1,d2,d3,hk⟩
   rename_i g args hg
   obtain⟨m,uk,yE⟩:=ga (h.ev f) (jo (fun x=>h.ev x) cR.toList) hg
   split at hk
   ·rename_i pj
    split at hk
    case h_2=>simp[Tr.run]at hk
    rename_i σ hd hσ
    obtain⟨v,wr,rd,e,lg,g2,_,g4,g5⟩:=GM hS.T (hS.own g σ hσ) h.hp (.inl rfl) (yE hd) hk
    rw[cD]at g5
    obtain⟨g6,g7⟩:=h.step g4 dst
    refine⟨_,_,?_,g6,g7,g5⟩
    rw[nk,uk]
    rw[h.hp.length]at g2
    simp only[nV,ri,pj,g2,Option.bind_some,gC]
   rename_i pj
   split at hk
   ·rename_i σ hd hσ
    obtain⟨v,wr,rd,a,w,lg,g1,_,_,g4,g5⟩:=wP hS.T (hS.sum g σ hσ) h.hp (yE hd) hk
    rw[cD]at g5
    obtain⟨g6,g7⟩:=h.step g4 dst
    refine⟨_,_,?_,g6,g7,g5⟩
    rw[nk,uk]
    simp only[nV,ri,pj,(hS.sum g σ hσ).kind,g1,Option.bind_some,Jh]
   ·rename_i hd hσ
    split at hk
    ·simp[Tr.run]at hk
    rename_i tp
    obtain⟨v,cq,oS,qN,a,eF,g1,g2,g3,gj,g4,g5,g6,g7,hk⟩:=ih.f _ _ _ _ _ _ _ _ _ _ (yE hd) h.hp h.js hk
    split at hk
    case h_2=>simp[Tr.run]at hk
    rename_i Bt
    rw[jQ,cD]at hk
    obtain⟨ny,o5,t2⟩:=qd hS.T h g2 g3 g4 g5 g6 g7 gj Bt
    obtain⟨g8,g9⟩:=ny.step (v:=v) (wr:=[]) (e:=⟨a,[]⟩) ⟨.inr t2,ny.hp,dk.refl _,fun q hq=>by simp at hq,fun _ _ _=>rfl,Nat.le_refl _,fun _ _ h=>by simp at h⟩ dst
    refine⟨_,_,?_,g8,o5.trans g9,hk⟩
    rw[nk,uk]
    simp only[nV,ri,pj,tp,g1,Option.bind_some,FY]
    rw[h.hp.length]
    rfl
   ·simp[Tr.run]at hk
  ·rename_i rv name yU
   simp only at yU
   subst yU
   split at hk
   ·simp[Tr.run]at hk
   rename_i g x hg
   obtain⟨ax,uk,Q7⟩:=Dm (h.ev rv) hg
   have yE:((x::cR.toList.map (cV s.fr)).any bN)=false→RL S.T s.hp (x::cR.toList.map (cV s.fr)) (ax::cR.toList.map (az st.fr)):=fun hd=>by
    simp only[List.any_cons,Bool.or_eq_false_iff]at hd
    simp only[RL]
    exact⟨Q7,iK (jo (fun x=>h.ev x) cR.toList) hd.2⟩
   have pj:au (Op.call ⟨.invoke rv name,cR,mh⟩)=false:=rfl
   split at hk
   ·rename_i σ hd hσ
    obtain⟨v,wr,rd,a,w,lg,g1,_,_,g4,g5⟩:=wP hS.T (hS.sum g σ hσ) h.hp (yE hd) hk
    rw[cD]at g5
    obtain⟨g6,g7⟩:=h.step g4 dst
    refine⟨_,_,?_,g6,g7,g5⟩
    rw[zw,uk]
    simp only[Option.bind_some,ri,pj,(hS.sum g σ hσ).kind,g1,Jh]
   ·rename_i hd hσ
    split at hk
    ·simp[Tr.run]at hk
    rename_i tp
    obtain⟨v,cq,oS,qN,a,eF,g1,g2,g3,gj,g4,g5,g6,g7,hk⟩:=ih.f _ _ _ _ _ _ _ _ _ _ (yE hd) h.hp h.js hk
    split at hk
    case h_2=>simp[Tr.run]at hk
    rename_i Bt
    rw[jQ,cD]at hk
    obtain⟨ny,o5,t2⟩:=qd hS.T h g2 g3 g4 g5 g6 g7 gj Bt
    obtain⟨g8,g9⟩:=ny.step (v:=v) (wr:=[]) (e:=⟨a,[]⟩) ⟨.inr t2,ny.hp,dk.refl _,fun q hq=>by simp at hq,fun _ _ _=>rfl,Nat.le_refl _,fun _ _ h=>by simp at h⟩ dst
    refine⟨_,_,?_,g8,o5.trans g9,hk⟩
    rw[zw,uk]
    simp only[Option.bind_some,ri,pj,tp,g1,FY]
    rw[h.hp.length]
    rfl
   ·simp[Tr.run]at hk
 ·split at hk
  ·rename_i d
   rw[Jj]
   have qT:=h.fn
   split at hk
   ·rename_i zb
    rw[qT]at zb
    rw[zb]
    simp only[cond_true]
    split at hk
    case h_2=>simp[Tr.run]at hk
    rename_i m hm
    obtain⟨q,gL,_,gD,_⟩:=hS.Q.elem hm
    split at hk
    case isFalse=>simp[Tr.run]at hk
    rename_i kN
    rw[cD]at hk
    have pe:=h.hp.new (nm:=s.hp.length) (o':=.arr true true false 0 []) (a':=.arr true true false []) (.inl rfl) ⟨[],rfl,by simp[RL],fun _=>rfl⟩
    have e1:bc s.hp [(s.hp.length,.arr true true false 0 [])]=bJ s.hp s.hp.length (.arr true true false 0 []):=rfl
    have hl:=h.hp.length
    obtain⟨g8,g9⟩:=h.step (v:=.bq m.size s.hp.length 0 none none) (wr:=[(s.hp.length,.arr true true false 0 [])]) (e:=⟨.bq q.size st.hp.length 0 0 0 none,[(st.hp.length,.arr true true false [])]⟩)
     ⟨.inr (by
       rw[e1]
       simp only[R]
       exact⟨0,eE h.hp (.inl rfl) (o:=.arr true true false 0 []),by rw[gD,hl]⟩),
       by
        rw[←hl]
        exact pe.2,by rw[e1]; exact pe.1,fun q hq=>by simp at hq; subst hq; simp[hl],fun n hn hl=>by
        rw[e1]; simp at hn; exact x6 hl hn,by rw[e1]; exact vW (.inl rfl),fun m hm hc=>by simp at hc; have:=jq hm; omega⟩ (some d)
    refine⟨_,_,?_,g8,g9,hk⟩
    have Wi:aN S.C.P type=some q:=gL
    rw[Wi]
    simp only[Option.bind_some]
    rw[if_pos (by rw[gD]; exact kN)]
    simp only[bC,ak,setObj,if_true]
   ·rename_i zb
    simp only[Bool.not_eq_true]at zb
    rw[qT]at zb
    rw[zb]
    simp only[cond_false]
    rw[cD]at hk
    obtain⟨g8,g9⟩:=h.step (v:=.lit cK) (wr:=[]) (e:=⟨.lit cK,[]⟩) ⟨bm _,h.hp,dk.refl _,fun q hq=>by simp at hq,fun _ _ _=>rfl,Nat.le_refl _,fun _ _ h=>by simp at h⟩ (some d)
    exact⟨_,_,rfl,g8,g9,hk⟩
  ·-- no variable: nothing happens
   refine⟨s,st,?_,h,bj.refl _,hk⟩
   refine bU (jy S.C _ _) (by simp[fF]) fun k=>?_
   simp only[fF]
 ·rename_i MC hna
  have hl:(match op with|.call _=>fun _=>[]|_=>S.C.qR s.fn)=S.C.qR s.fn:=by
   cases op<;>first|rfl|exact absurd rfl (MC _)
  refine plain ?_ ?_
  ·unfold qi
   simp only
  ·simp only
   exact hk
end
end Go.PI
end
section
/- PS, part Q: loops, code, functions: the soundness of the trees. -/
namespace Go.PI
theorem yx{τ ω:Type}{f:τ→Option (τ ⊕ ω)}:∀ {n:Nat} {x:τ} {w:ω},kK f n x=some w→kK f (n+1) x=some w
 |0,x,w,h=>by simp[kK]at h
 |n+1,x,w,h=>by
  rw[kK]at h ⊢
  cases hf:f x with
  |none=>rw[hf]at h; simp at h
  |some q=>
   rw[hf]at h
   cases q with
   |inl y=>exact yx h
   |inr z=>exact h
theorem sD[ab]{τ ω:Type}(f:τ→Option (τ ⊕ ω))(x:τ):fG fun n=>kK f n x:=fun _ _ h=>yx h
theorem oC[ab]{τ ω:Type}{f:τ→Option (τ ⊕ ω)}{x:τ}{w:ω}:aO f x=some w↔∃ n,kK f n x=some w:=by
 unfold aO
 split
 ·rename_i w' h
  constructor
  ·intro e; exact⟨4096,h.trans e⟩
  ·rintro⟨n,hn⟩
   rw[←(bh (sD f x)).2 ⟨4096,h⟩,(bh (sD f x)).2 ⟨n,hn⟩]
 ·exact bh (sD f x)
theorem CE[ab]{τ ω:Type}(f:τ→Option (τ ⊕ ω))(x:τ):aO f x=(f x).bind fun q=>Sum.elim (aO f) some q:=by
 apply Option.ext
 intro w
 rw[oC]
 constructor
 ·rintro⟨n,h⟩
  cases n with
  |zero=>simp[kK]at h
  |succ n=>
   rw[kK]at h
   cases hf:f x with
   |none=>rw[hf]at h; simp at h
   |some q=>
    rw[hf]at h
    cases q with
    |inl y=>simp only[Option.bind_some,Sum.elim_inl]; exact oC.2 ⟨n,h⟩
    |inr z=>simp_all
 ·intro h
  cases hf:f x with
  |none=>rw[hf]at h; simp at h
  |some q=>
   rw[hf]at h
   cases q with
   |inl y=>
    simp only[Option.bind_some,Sum.elim_inl]at h
    obtain⟨n,hn⟩:=oC.1 h
    exact⟨n+1,by rw[kK,hf]; exact hn⟩
   |inr z=>
    simp only[Option.bind_some,Sum.elim_inr]at h
    exact⟨1,by rw[kK,hf]; exact h⟩
section
variable {T:dw}{ρ:Type}
theorem dA[ab]{H0 H:ah T.den}{K:Tr ρ}{r:ρ}:∀ {objs:List (Nat×cP)},(gY H0 H objs K).run=some r→K.run=some r∧∀ q,q∈objs→∀ t,q.2=.fix t→∀ o o',H0[q.1]?=some (some o)→H[q.1]?=some (some o')→o'.len=o.len
 |[],h=>⟨h,fun q hq=>by simp at hq⟩
 |(n,p)::objs,h=>by
  cases p with
  |fix t=>
   simp only[gY]at h
   split at h
   ·rename_i o o' h1 h2
    obtain⟨g1,g2⟩:=aX h
    simp only[decide_eq_true_eq]at g1
    obtain⟨i1,i2⟩:=dA g2
    refine⟨i1,fun q hq t' e o3 o4 h3 h4=>?_⟩
    rcases List.mem_cons.1 hq with rfl|hq
    ·simp_all
    ·exact i2 q hq t' e o3 o4 h3 h4
   ·simp[Tr.run]at h
  |list t=>
   obtain⟨i1,i2⟩:=dA (objs:=objs) h
   refine⟨i1,fun q hq t' e o3 o4 h3 h4=>?_⟩
   rcases List.mem_cons.1 hq with rfl|hq
   ·simp at e
   ·exact i2 q hq t' e o3 o4 h3 h4
  |one p=>
   obtain⟨i1,i2⟩:=dA (objs:=objs) h
   refine⟨i1,fun q hq t' e o3 o4 h3 h4=>?_⟩
   rcases List.mem_cons.1 hq with rfl|hq
   ·simp at e
   ·exact i2 q hq t' e o3 o4 h3 h4
  |agg ps=>
   obtain⟨i1,i2⟩:=dA (objs:=objs) h
   refine⟨i1,fun q hq t' e o3 o4 h3 h4=>?_⟩
   rcases List.mem_cons.1 hq with rfl|hq
   ·simp at e
   ·exact i2 q hq t' e o3 o4 h3 h4
  |map kk t=>
   obtain⟨i1,i2⟩:=dA (objs:=objs) h
   refine⟨i1,fun q hq t' e o3 o4 h3 h4=>?_⟩
   rcases List.mem_cons.1 hq with rfl|hq
   ·simp at e
   ·exact i2 q hq t' e o3 o4 h3 h4
theorem Ak[ab]{key:Nat}{h:Hint}{s0 s:bx T.den}{kind:Option Nat}{r:ρ}:∀ {l:List A9} {K:yW T.den h.objs l→Tr ρ},(tG key h s0 s kind l K).run=some r →
  ∃ o x w,o∈l∧o.kind=kind∧HQ h s0 s kind o=some x∧(K w).run=some r ∧
    (∀ q,q∈h.objs→∀ t,q.2=.fix t→∀ o o',s0.hp[q.1]?=some (some o)→s.hp[q.1]?=some (some o')→o'.len=o.len) ∧
    ∀ {σ:Type} (K':oV T.den→Tr σ),(tv h s0 l w K').run=(K' (Bf (jM h s0 o x) o.kind)).run
 |[],K,hk=>by simp[tG,Tr.run]at hk
 |[o],K,hk=>by
  simp only[tG]at hk
  split at hk
  ·rename_i x hx
   obtain⟨hk,hl⟩:=dA hk
   refine⟨o,x,x,by simp,?_,hx,hk,hl,fun K'=>?_⟩
   ·grind[HQ]
   ·simp only[tv]
    rw[force_eq]
  ·simp[Tr.run]at hk
 |o::p::l,K,hk=>by
  simp only[tG]at hk
  split at hk
  ·rename_i x hx
   obtain⟨hk,hl⟩:=dA hk
   refine⟨o,x,.inl x,by simp,?_,hx,hk,hl,fun K'=>?_⟩
   ·grind[HQ]
   ·simp only[tv,Tr.run,Sum.elim_inl]
    rw[force_eq]
  ·obtain⟨o',x,w,h1,h2,h3,h4,h5,h6⟩:=Ak (l:=p::l) hk
   refine⟨o',x,.inr w,List.mem_cons_of_mem _ h1,h2,h3,h4,h5,fun K'=>?_⟩
   simp only[tv,Tr.run,Sum.elim_inr]
   exact h6 K'
theorem yy{a b:List Nat}(h:subset a b=true){x:Nat}(hx:x∈a):x∈b:=by
 have:=List.all_eq_true.1 h x hx
 simpa using this
theorem GU[ab]{Al:List (Nat×cP)}{slots0:List (Nat×oW)}{dead0:List Nat}{aA:List (Nat×oW)}{dead:List Nat}{ext:List oX}{s0 sx s:bx T.den}{l:List (TV T.den)}
  (Q4:cZ (aA.map (·.1))=true) (Un:cZ (Al.map (·.1))=true)
  (Wj:sx.fn=s0.fn) (Wk:sx.n=s0.n) (Wl:∀ t,t∉slots0.map (·.1)++dead0→cH sx.fr t=cH s0.fr t) (Wm:∀ n:Nat,n<s0.hp.length→n∉Al.map (·.1)→sx.hp[n]?=s0.hp[n]?) (Wn:sx.hp.length=s0.hp.length)
  (tb:∀ t,t∈slots0.map (·.1)++dead0→t∈aA.map (·.1)++dead) (ha:bj sx s) (hl:sh aA dead Al ext s0 s=true)
  (Qn:∀ q,q∈Al→∃ o,s0.hp[q.1]?=some (some o)∧Start s0.hp o q.2) (abs:uR aA (Al++aZ s0.hp.length ext) s=some l):H5 T aA dead Al ext s0 s l:=by
 unfold sh at hl
 simp only[Bool.and_eq_true,decide_eq_true_eq]at hl
 obtain⟨⟨⟨⟨⟨⟨⟨l1,l2⟩,l3⟩,l4⟩,l5⟩,l6⟩,l7⟩,l8⟩:=hl
 refine⟨Q4,Un,fun d hd=>?_,l2,ha.fn.trans Wj,ha.n.trans Wk,fun t ht=>?_,fun n hn hm=>?_,l5,l6,l7,l8,Qn,abs⟩
 ·have:=List.all_eq_true.1 l1 d hd
  have:=Nat.le_of_ble_eq_true this
  omega
 ·have hw:t∉s.wf:=fun hc=>ht (yy l3 hc)
  rw[ha.fr t hw,Wl t (fun hc=>ht (tb t hc))]
 ·have hw:n∉s.wh:=fun hc=>hm (yy l4 (List.mem_filter.2 ⟨hc,by simpa using hn⟩))
  rw[ha.hp n (by rw[Wn]; exact hn) hw,Wm n hn hm]
end
theorem Am{T:dw}{aA:List (Nat×oW)}{objs:List (Nat×cP)}{s:bx T.den}{l:List (TV T.den)}(h:uR aA objs s=some l):∃ l0,ka s.hp objs=some l0:=by
 unfold uR at h
 rw[Option.bind_eq_some_iff]at h
 obtain⟨_,_,h⟩:=h
 rw[Option.map_eq_some_iff]at h
 obtain⟨lb,h,_⟩:=h
 exact⟨lb,h⟩
theorem Lj[ab]{T:dw}{aA:List (Nat×oW)}{dead:List Nat}{objs:List (Nat×cP)}{ext:List oX}{s:bx T.den}{l:List (TV T.den)}{js:List (Nat×kZ)}{st:St}
  (h:RS T { c7 aA dead objs ext s l with js:=js } st) (hj:js=s.js):RS T (c7 aA dead objs ext s l) st:=by
 subst hj; exact⟨h.fn,h.n,h.fr,h.hp,h.js⟩
theorem Ib{T:dw}{n:Nat}{s:bx T.den}:(jL n s).js=s.js:=by unfold jL; split<;>rfl
theorem yz[ab]{T:dw}{H:ah T.den}{objs:List (Nat×cP)}{l:List (TV T.den)}(h:ka H objs=some l):qF H H objs=true:=by
 refine List.all_eq_true.2 fun q hq=>?_
 obtain⟨o,_,h1,_⟩:=kp h q hq
 simp[h1]
theorem Bv[ab]{T:dw}{H:ah T.den}{objs:List (Nat×cP)}{l:List (TV T.den)}(h:ka H objs=some l):wN H H objs=true:=by
 refine List.all_eq_true.2 fun q hq=>?_
 obtain⟨o,_,h1,_⟩:=kp h q hq
 split
 ·rfl
 ·simp[h1]
theorem vg[ab]{T:dw}{H:ah T.den}{objs:List (Nat×cP)}{l:List (TV T.den)}(h:ka H objs=some l)(q:Nat×cP)(hq:q∈objs):∃ o,H[q.1]?=some (some o)∧Start H o q.2:=by
 obtain⟨o,ln,h1,h2⟩:=kp h q hq
 exact⟨o,h1,.inl ⟨ln,h2⟩⟩
theorem DC{objs more:List (Nat×cP)}{n:Nat}(h:n∈objs.map (·.1)):n∈(jh objs more).map (·.1):=by
 unfold jh
 rw[List.map_append]
 by_cases hm:n∈more.map (·.1)
 ·exact List.mem_append_right _ hm
 ·simp_all
theorem yA[ab]{T:dw}{H:ah T.den}{l:List (Nat×cP)}(h:Gx H l=true)(q:Nat×cP)(hq:q∈l):∃ o,H[q.1]?=some (some o)∧Start H o q.2:=by
 have:=List.all_eq_true.1 h q hq
 split at this
 ·rename_i g cl f c e p h1 h2
  exact⟨_,h1,.inr ⟨.inl ⟨p,h2⟩,g,cl,f,c,e,rfl⟩⟩
 ·rename_i g cl f c e p h1 h2
  exact⟨_,h1,.inr ⟨.inr ⟨p,h2⟩,g,cl,f,c,e,rfl⟩⟩
 ·simp at this
section
variable [ab]{S:od}(hS:S.Ok)
include hS
theorem NP{k:Nat}(ih:oB S k){b:Code}{s:bx S.T.den}{h:Hint}{l0:List (TV S.T.den)}{x0:HL S.T.den h.jK}(bL:h.ok=true)(hsl:Be s.n h.aA h.dead=true)(how:sg s.hp.length h.aA h.objs=true)
  (oZ:uR h.aA h.objs s=some l0) (Uq:uJ h.jK l0=some x0) {st:St} (gJ:RS S.T s st) {w:yW S.T.den h.objs h.outs}
  (hw:aO (fun x=>(bx.force { c7 h.aA h.dead h.objs [] s (fT h.jK x) with wf:=[],wh:=[] } fun s1=>wA S k (HL S.T.den h.jK ⊕ yW S.T.den h.objs h.outs) b s1 fun
       |.norm s'=>
        (match jL s.hp.length s' with
        |tV=>(match decide (tV.js=s.js)&&sh h.aA h.dead h.objs [] s tV,(uR h.aA h.objs tV).bind (uJ h.jK) with
         |true,some y=>gY s.hp tV.hp h.objs (.ret (.inl y))
         |_,_=>.bad (sf b s) none s tV))
       |.exit id s'=>tG (sf b s) h s s' (some id) h.outs fun w=>.ret (.inr w)
       |.ret s'=>tG (sf b s) h s s' none h.outs fun w=>.ret (.inr w)).run) x0=some w) :
  ∃ o x so oo,cQ S.C (.loop b) st=some oo∧so=Bf (jM h s o x) o.kind∧Ds S.T so oo∧bj s so.st∧∀ {σ:Type} (K':oV S.T.den→Tr σ),(tv h s h.outs w K').run=(K' so).run:=by
 simp only[Hint.ok,Bool.and_eq_true]at bL
 obtain⟨⟨Wo,S0⟩,Wp⟩:=bL
 obtain⟨abo,DD⟩:=Am oZ
 have Q4:cZ (h.aA.map (·.1))=true:=by
  have:∀ {l m:List Nat},cZ (l++m)=true→cZ l=true:=by
   intro l m
   induction l with
   |nil=>intro _; rfl
   |cons x xs ih=>
    simp_all[cZ,decide_eq_false_iff_not]
  exact this Wo
 have Wq:∀ d,d∈h.aA.map (·.1)++h.dead→d<s.n:=by
  intro d hd
  have:=List.all_eq_true.1 hsl d hd
  have:=Nat.le_of_ble_eq_true this
  omega
 have sxf:∀ x:HL S.T.den h.jK,∀ l,uR h.aA h.objs s=some l→True:=fun _ _ _=>trivial
 clear sxf
 have nX:∀ (x:HL S.T.den h.jK) (sc:bx S.T.den) (lc:List (TV S.T.den)),H5 S.T h.aA h.dead h.objs [] s sc lc→sc.js=s.js→fT h.jK x=lc→∀ (Wr:St),RS S.T sc Wr →
   RS S.T (c7 h.aA h.dead h.objs [] s (fT h.jK x)) Wr∧(c7 h.aA h.dead h.objs [] s (fT h.jK x)).hp.length=s.hp.length ∧
   (∀ n:Nat,n<s.hp.length→n∉h.objs.map (·.1)→(c7 h.aA h.dead h.objs [] s (fT h.jK x)).hp[n]?=s.hp[n]?) ∧
   (∀ t,t∉h.aA.map (·.1)++h.dead→cH (c7 h.aA h.dead h.objs [] s (fT h.jK x)).fr t=cH s.fr t) ∧
   (c7 h.aA h.dead h.objs [] s (fT h.jK x)).fn=s.fn∧(c7 h.aA h.dead h.objs [] s (fT h.jK x)).n=s.n:=by
  intro x sc lc ho hj hx Wr Ws
  obtain⟨r1,r2,r3,r4,r5,r6,_⟩:=GP hS.T ho gJ Ws
  rw[hx]
  refine⟨Lj r1 hj,?_,r3,r4,r5,r6⟩
  rw[r2,ho.len]; rfl
 have main:∀ (n:Nat) (x:HL S.T.den h.jK) (stx:St),RS S.T (c7 h.aA h.dead h.objs [] s (fT h.jK x)) stx→(c7 h.aA h.dead h.objs [] s (fT h.jK x)).hp.length=s.hp.length →
   (∀ n:Nat,n<s.hp.length→n∉h.objs.map (·.1)→(c7 h.aA h.dead h.objs [] s (fT h.jK x)).hp[n]?=s.hp[n]?) →
   (∀ t,t∉h.aA.map (·.1)++h.dead→cH (c7 h.aA h.dead h.objs [] s (fT h.jK x)).fr t=cH s.fr t) →
   (c7 h.aA h.dead h.objs [] s (fT h.jK x)).fn=s.fn→(c7 h.aA h.dead h.objs [] s (fT h.jK x)).n=s.n →
   kK (fun x=>(bx.force { c7 h.aA h.dead h.objs [] s (fT h.jK x) with wf:=[],wh:=[] } fun s1=>wA S k (HL S.T.den h.jK ⊕ yW S.T.den h.objs h.outs) b s1 fun
           |.norm s'=>
            (match jL s.hp.length s' with
            |tV=>(match decide (tV.js=s.js)&&sh h.aA h.dead h.objs [] s tV,(uR h.aA h.objs tV).bind (uJ h.jK) with
             |true,some y=>gY s.hp tV.hp h.objs (.ret (.inl y))
             |_,_=>.bad (sf b s) none s tV))
           |.exit id s'=>tG (sf b s) h s s' (some id) h.outs fun w=>.ret (.inr w)
           |.ret s'=>tG (sf b s) h s s' none h.outs fun w=>.ret (.inr w)).run) n x=some w →
   ∃ o x so oo,cQ S.C (.loop b) stx=some oo∧so=Bf (jM h s o x) o.kind∧Ds S.T so oo∧bj s so.st∧∀ {σ:Type} (K':oV S.T.den→Tr σ),(tv h s h.outs w K').run=(K' so).run:=by
  intro n
  induction n with
  |zero=>intro x stx _ _ _ _ _ _ hn; simp[kK]at hn
  |succ n ihn=>
   intro x stx DS hlen Qx Br qT L4 hn
   rw[kK]at hn
   generalize Ic:({ c7 h.aA h.dead h.objs [] s (fT h.jK x) with wf:=[],wh:=[] }:bx S.T.den)=sx at hn
   have Qy:RS S.T sx stx:=by rw[←Ic]; exact⟨DS.fn,DS.n,DS.fr,DS.hp,DS.js⟩
   have e1:sx.fn=s.fn:=by rw[←Ic]; exact qT
   have e2:sx.n=s.n:=by rw[←Ic]; exact L4
   have e3:∀ t,t∉h.aA.map (·.1)++h.dead→cH sx.fr t=cH s.fr t:=by rw[←Ic]; exact Br
   have e4:∀ n:Nat,n<s.hp.length→n∉h.objs.map (·.1)→sx.hp[n]?=s.hp[n]?:=by rw[←Ic]; exact Qx
   have e5:sx.hp.length=s.hp.length:=by rw[←Ic]; exact hlen
   rw[force_eq]at hn
   have pv:∀ q,(wA S k (HL S.T.den h.jK ⊕ yW S.T.den h.objs h.outs) b sx fun
       |.norm s'=>
        (match jL s.hp.length s' with
        |tV=>(match decide (tV.js=s.js)&&sh h.aA h.dead h.objs [] s tV,(uR h.aA h.objs tV).bind (uJ h.jK) with
         |true,some y=>gY s.hp tV.hp h.objs (.ret (.inl y))
         |_,_=>.bad (sf b s) none s tV))
       |.exit id s'=>tG (sf b s) h s s' (some id) h.outs fun w=>.ret (.inr w)
       |.ret s'=>tG (sf b s) h s s' none h.outs fun w=>.ret (.inr w)).run=some q →
     (∃ y,q=.inl y∧∃ FB,cQ S.C b stx=some (.norm FB)∧RS S.T (c7 h.aA h.dead h.objs [] s (fT h.jK y)) (gG stx.hp.length FB)∧(c7 h.aA h.dead h.objs [] s (fT h.jK y)).hp.length=s.hp.length ∧
       (∀ n:Nat,n<s.hp.length→n∉h.objs.map (·.1)→(c7 h.aA h.dead h.objs [] s (fT h.jK y)).hp[n]?=s.hp[n]?) ∧
       (∀ t,t∉h.aA.map (·.1)++h.dead→cH (c7 h.aA h.dead h.objs [] s (fT h.jK y)).fr t=cH s.fr t) ∧
       (c7 h.aA h.dead h.objs [] s (fT h.jK y)).fn=s.fn∧(c7 h.aA h.dead h.objs [] s (fT h.jK y)).n=s.n) ∨
     (∃ w',q=.inr w'∧∃ o x so oo,cQ S.C b stx=some oo∧(∀ s',oo≠.norm s')∧so=Bf (jM h s o x) o.kind∧Ds S.T so oo∧bj s so.st∧∀ {σ:Type} (K':oV S.T.den→Tr σ),(tv h s h.outs w' K').run=(K' so).run):=by
    intro q hq
    obtain⟨so,o,c1,c2,c3,c4⟩:=ih.c _ _ _ _ _ _ Qy hq
    have leave:∀ (kind:Option Nat) (s':bx S.T.den) (FB:St),RS S.T s' FB→bj sx s'→(tG (sf b s) h s s' kind h.outs fun w=>(.ret (.inr w):Tr (HL S.T.den h.jK ⊕ yW S.T.den h.objs h.outs))).run=some q →
      ∃ w',q=.inr w'∧∃ o x,o.kind=kind∧RS S.T (jM h s o x) FB∧bj s (jM h s o x)∧∀ {σ:Type} (K':oV S.T.den→Tr σ),(tv h s h.outs w' K').run=(K' (Bf (jM h s o x) o.kind)).run:=by
     intro kind s' FB eV ha hq
     obtain⟨o,x,w',d1,d2,d3,d4,d5,d6⟩:=Ak hq
     simp only[Tr.run,Option.some.injEq]at d4
     refine⟨w',d4.symm,o,x,d2,?_⟩
     unfold HQ at d3
     split at d3
     case h_2=>simp at d3
     rename_i hc
     simp only[Bool.and_eq_true,decide_eq_true_eq]at hc
     obtain⟨hc,Od,VU,Wt⟩:=hc
     rw[Option.bind_eq_some_iff]at d3
     obtain⟨lx,d7,d8⟩:=d3
     have S1:∀ q,q∈jh h.objs o.more→∃ o,s.hp[q.1]?=some (some o)∧Start s.hp o q.2:=fun q hq=>by
      rcases List.mem_append.1 hq with hq|hq
      ·exact vg DD q (List.mem_filter.1 hq).1
      ·exact yA Wt q hq
     have wC:H5 S.T o.aA (h.aA.map (·.1)++h.dead) (jh h.objs o.more) o.ext s s' lx:=
      GU (slots0:=h.aA) (dead0:=h.dead) (List.all_eq_true.1 Wp o d1) VU e1 e2 e3 (fun n hn hm=>e4 n hn (fun hc=>hm (DC hc))) e5 (fun t ht=>List.mem_append_right _ ht) ha Od S1 d7
     obtain⟨r1,r2,r3,r4,r5,r6,r7⟩:=GP hS.T wC gJ eV
     have ex:=ox _ _ _ d8
     refine⟨?_,?_,d6⟩
     ·unfold jM
      rw[ex]
      exact⟨r1.fn,r1.n,r1.fr,r1.hp,by rw[←hc.2]; exact r1.js⟩
     ·unfold jM
      rw[ex]
      refine⟨r5,r6,fun t ht=>r4 t ?_,fun t ht=>?_,fun n hn hw=>r3 n hn ?_,fun n hn=>?_,?_,?_⟩
      ·simp only[List.mem_append,not_or]at ht ⊢
       exact⟨ht.1,ht.2.1,ht.2.2.1⟩
      ·simp only[List.mem_append]
       exact .inr (.inr (.inr ht))
      ·exact fun hc=>hw (List.mem_append_left _ hc)
      ·exact List.mem_append_right _ hn
      ·simp only
       rw[r2,wC.len]
       omega
      ·intro n o' c6
       have hn:=(List.getElem?_eq_some_iff.1 c6).1
       by_cases hm:n∈(jh h.objs o.more).map (·.1)
       ·obtain⟨qq,Ur,rfl⟩:=List.mem_map.1 hm
        obtain⟨o0,os,of,g1,g2,g3,g4,g5⟩:=r7 qq Ur
        rw[g1]at c6
        simp only[Option.some.injEq]at c6
        subst c6
        refine⟨of,g3,by rw[g5]; exact GO _ _,fun ec=>?_⟩
        rw[g4]
        rw[g5]at ec
        obtain⟨oo,m1,m2⟩:=S1 qq Ur
        rw[g1]at m1
        simp only[Option.some.injEq]at m1
        subst m1
        have S2:=Am d7
        obtain⟨lS,hlS⟩:=S2
        obtain⟨oo2,ln2,m3,m4⟩:=kp hlS qq (List.mem_append_left _ Ur)
        rw[g2]at m3
        simp only[Option.some.injEq]at m3
        subst m3
        cases hp:qq.2 with
        |list t=>rw[hp]at ec; simp[Bp]at ec
        |fix t=>
         rcases List.mem_append.1 Ur with gL|gL
         ·exact d5 qq (List.mem_filter.1 gL).1 t hp o0 os g1 g2
         ·obtain⟨_,_,m5⟩:=yA Wt qq gL
          rw[hp]at m2
          have:=List.all_eq_true.1 Wt qq gL
          rw[hp]at this
          simp at this
        |map kk t=>
         rw[hp]at m2 m4
         rcases m2 with ⟨ln,m2⟩|⟨⟨_,m2⟩|⟨_,m2⟩,_⟩
         ·obtain⟨_,rfl,_⟩:=tQ m2
          obtain⟨_,rfl,_⟩:=tQ m4
          rfl
         ·cases m2
         ·cases m2
        |one p=>
         rw[hp]at m2 m4
         simp only[ee]at m4
         split at m4
         case h_2=>simp at m4
         rcases m2 with ⟨ln,m2⟩|⟨_,_,_,_,_,_,rfl⟩
         ·simp only[ee]at m2
          split at m2
          case h_2=>simp at m2
          rfl
         ·rfl
        |agg p=>
         rw[hp]at m2 m4
         simp only[ee]at m4
         split at m4
         case h_2=>simp at m4
         rcases m2 with ⟨ln,m2⟩|⟨_,_,_,_,_,_,rfl⟩
         ·simp only[ee]at m2
          split at m2
          case h_2=>simp at m2
          rfl
         ·rfl
       ·exact⟨o',by simp only; rw[r3 n hn hm]; exact c6,Nat.le_refl _,fun _=>rfl⟩
    cases so with
    |norm s'=>
     left
     obtain⟨FB,rfl,eV⟩:=c2
     simp only at c4
     split at c4
     ·rename_i y hl hy
      simp only[Bool.and_eq_true,decide_eq_true_eq]at hl
      obtain⟨Qo,hl⟩:=hl
      obtain⟨c5,_⟩:=dA c4
      simp only[Tr.run,Option.some.injEq]at c5
      rw[Option.bind_eq_some_iff]at hy
      obtain⟨ly,ye,v7⟩:=hy
      have hr:=Dl (n:=s.hp.length) hS.T eV (fun m x hm=>by
       rw[Ib]at Qo
       rw[Qo]at hm
       exact jq (gJ.js m x hm).1)
      have o5:bj sx (jL s.hp.length s'):=by
       have:=v8 Qy c3
       rw[e5]at this
       exact this
      have wC:H5 S.T h.aA h.dead h.objs [] s (jL s.hp.length s') ly:=
       GU (slots0:=h.aA) (dead0:=h.dead) Q4 S0 e1 e2 e3 e4 e5 (fun t ht=>ht) o5 hl (vg DD) (by simpa[aZ] using ye)
      have hle:stx.hp.length=s.hp.length:=by rw[←e5]; exact Qy.hp.length.symm
      refine⟨y,c5.symm,FB,c1,?_⟩
      rw[hle]
      exact nX y _ ly wC Qo (ox _ _ _ v7) _ hr
     ·simp[Tr.run]at c4
    |exit id s'=>
     right
     obtain⟨FB,rfl,eV⟩:=c2
     obtain⟨w',f1,o',x',f2,f3,f4,f5⟩:=leave (some id) s' FB eV c3 c4
     refine⟨w',f1,o',x',Bf (jM h s o' x') o'.kind,_,c1,by simp,rfl,?_,?_,f5⟩
     ·rw[f2]; exact⟨FB,rfl,f3⟩
     ·rw[f2]; exact f4
    |ret s'=>
     right
     obtain⟨FB,rfl,eV⟩:=c2
     obtain⟨w',f1,o',x',f2,f3,f4,f5⟩:=leave none s' FB eV c3 c4
     refine⟨w',f1,o',x',Bf (jM h s o' x') o'.kind,_,c1,by simp,rfl,?_,?_,f5⟩
     ·rw[f2]; exact⟨FB,rfl,f3⟩
     ·rw[f2]; exact f4
   split at hn
   ·rename_i y hy
    rcases pv _ hy with ⟨y',e,FB,g1,g2,g3,g4,g5,g6,g7⟩|⟨w',e,_⟩
    ·simp only[Sum.inl.injEq]at e
     subst e
     obtain⟨o,x',so,oo,i1,i2⟩:=ihn _ _ g2 g3 g4 g5 g6 g7 hn
     refine⟨o,x',so,oo,?_,i2⟩
     rw[nh,g1]
     exact i1
    ·simp at e
   ·rename_i w2 Ku
    simp only[Option.some.injEq]at hn
    subst hn
    rcases pv _ Ku with ⟨y',e,_⟩|⟨w',e,o,x',so,oo,g1,g2,g3⟩
    ·simp at e
    ·simp only[Sum.inr.injEq]at e
     subst e
     refine⟨o,x',so,oo,?_,g3⟩
     rw[nh,g1]
     cases oo with
     |norm s'=>exact absurd rfl (g2 s')
     |_=>rfl
   ·simp at hn
 obtain⟨n,hn⟩:=oC.1 hw
 have wC:H5 S.T h.aA h.dead h.objs [] s s l0:=⟨Q4,S0,Wq,by simpa[aZ] using how,rfl,rfl,fun _ _=>rfl,fun _ _ _=>rfl,rfl,yz DD,Bv DD,rfl,vg DD,by simpa[aZ] using oZ⟩
 obtain⟨r1,r2,r3,r4,r5,r6⟩:=nX x0 s l0 wC rfl (ox _ _ _ Uq) st gJ
 exact main n x0 st r1 r2 r3 r4 r5 r6 hn
def DR(T:dw)(H:ah T.den):Option (SV T.den)→Option AV→Prop
 |none,none=>True
 |some v,some a=>RV T H v a
 |_,_=>False
omit hS in
theorem NQ{k:Nat}(ih:oB S k){ρ:Type}:∀ (c:Code) {s:bx S.T.den} {K:oV S.T.den→Option (SV S.T.den)→Tr ρ} {r:ρ} {st:St},RS S.T s st→(KG (fun c s K=>wA S k ρ c s K) (fun o s K=>Nv S k ρ o s K) c s K).run=some r →
  ∃ so d o da,ze (cQ S.C) (ie S.C) c st=some (o,da)∧Ds S.T so o∧bj s so.st∧DR S.T so.st.hp d da∧(K so d).run=some r:=by
 have leaf:∀ (c:Code) {s:bx S.T.den} {K:oV S.T.den→Option (SV S.T.den)→Tr ρ} {r:ρ} {st:St},RS S.T s st→(wA S k ρ c s fun o=>K o none).run=some r →
   ∃ so d o da,((cQ S.C c st).map fun o=>(o,(none:Option AV)))=some (o,da)∧Ds S.T so o∧bj s so.st∧DR S.T so.st.hp d da∧(K so d).run=some r:=by
  intro c s K r st h hk
  obtain⟨so,o,c1,c2,c3,hk⟩:=ih.c _ _ _ _ _ _ h hk
  exact⟨so,none,o,none,by rw[c1]; rfl,c2,c3,trivial,hk⟩
 intro c
 induction c with
 |seq x y _ Jc=>
  intro s K r st h hk
  simp only[KG]at hk
  cases hd:sP x with
  |some q=>
   obtain⟨ops,v⟩:=q
   rw[hd]at hk
   simp only at hk
   rw[qL]at hk
   obtain⟨s1,Uo,g1,g2,g3,hk⟩:=qa (C:=S.C) (fun o s st K h hk=>ih.o _ _ _ _ _ _ h hk) _ _ _ _ h hk
   split at hk
   case h_2=>simp[Tr.run]at hk
   rename_i q cy
   obtain⟨g,l⟩:=q
   obtain⟨m,hm,_⟩:=ga (g2.ev v) (args:=[]) (as:=[]) trivial cy
   obtain⟨so,o,c1,c2,c3,hk⟩:=ih.c _ _ _ _ _ _ g2 hk
   refine⟨so,some (cV s1.fr v),o,some (az Uo.fr v),?_,c2,g3.trans c3,(g2.ev v).mono c3.grow,hk⟩
   simp only[ze,hd,pz,g1,hm,c1]
   rfl
  |none=>
   rw[hd]at hk
   simp only at hk
   obtain⟨so,o,c1,c2,c3,hk⟩:=ih.c _ _ _ _ _ _ h hk
   cases so with
   |norm s'=>
    obtain⟨st',rfl,eV⟩:=c2
    obtain⟨Qw,d2,o2,da2,e1,e2,e3,e4,hk⟩:=Jc eV hk
    exact⟨Qw,d2,o2,da2,by simp only[ze,hd,c1]; exact e1,e2,c3.trans e3,e4,hk⟩
   |ret s'=>
    obtain⟨st',rfl,eV⟩:=c2
    exact⟨.ret s',none,_,none,by simp only[ze,hd,c1],⟨st',rfl,eV⟩,c3,trivial,hk⟩
   |exit id s'=>
    obtain⟨st',rfl,eV⟩:=c2
    exact⟨.exit id s',none,_,none,by simp only[ze,hd,c1],⟨st',rfl,eV⟩,c3,trivial,hk⟩
 |_=>intro s K r st h hk; simp only[KG,ze]at hk ⊢; exact leaf _ h hk
theorem Lk{k:Nat}(ih:oB S k){ρ:Type}{s:bx S.T.den}{st:St}{d:Option (SV S.T.den)}{da:Option AV}{rs:List ResultVar}{K:List (SV S.T.den)→ah S.T.den→List Nat→List (Nat×kZ)→Tr ρ}{r:ρ}(h:RS S.T s st)(hd:DR S.T s.hp d da)
  (hk:(CU (fun c s K=>wA S k ρ c s K) S.Q S.C.P rs s d K).run=some r):∃ l cq oS qN m eF,tZ (cQ S.C) S.C.P rs st.fr st.hp da=some (.val (cB m),eF)∧RL S.T cq l m∧RH S.T cq eF∧kG qN cq eF∧dk s.hp cq∧s.hp.length≤cq.length ∧
    (∀ n:Nat,n<s.hp.length→n∉oS→cq[n]?=s.hp[n]?)∧(∀ n,n∈s.wh→n∈oS)∧(K l cq oS qN).run=some r:=by
 cases d with
 |none=>
  cases da with
  |some a=>exact hd.elim
  |none=>
   simp only[CU]at hk
   obtain⟨l,m,g1,g2,hk⟩:=oy hS.T hS.Q h hk
   have M5:(aR S.C.P st.fr rs).run st.hp=some m:=g1
   exact⟨l,s.hp,s.wh,s.js,m,st.hp,by simp only[tZ,D6,M5],g2,h.hp,h.js,dk.refl _,Nat.le_refl _,fun _ _ _=>rfl,fun _ h=>h,hk⟩
 |some v=>
  cases da with
  |none=>exact hd.elim
  |some a=>
   have hd:RV S.T s.hp v a:=hd
   simp only[CU]at hk
   split at hk
   ·simp[Tr.run]at hk
   rename_i g as cy
   split at hk
   ·simp[Tr.run]at hk
   rename_i fg My
   split at hk
   ·simp[Tr.run]at hk
   rename_i cg Mz
   split at hk
   ·simp[Tr.run]at hk
   rename_i Wu
   simp only[Bool.and_eq_true,Bool.not_eq_true']at Wu
   obtain⟨m,hm,Vp⟩:=ga hd (args:=[]) (as:=[]) trivial cy
   rw[force_eq]at hk
   have gJ:=yp (f:=g) (Vp Wu.2) h.hp fg.ntmps s.wh h.js
   obtain⟨so,o,c1,c2,c3,hk⟩:=ih.c _ _ _ _ _ _ gJ hk
   have fin:∀ (t:bx S.T.den) (tt:St),RS S.T t tt→bj ⟨g,max fg.ntmps as.length,mw 0 as,s.hp,[],s.wh,s.js⟩ t→(o=.norm tt∨o=.ret tt) →
     (se S.T S.Q t fg.results.toList fun _=>se S.T S.Q ⟨s.fn,s.n,s.fr,t.hp,s.wf,t.wh,t.js⟩ rs fun l=>K l t.hp t.wh t.js).run=some r →
     ∃ l cq oS qN m eF,tZ (cQ S.C) S.C.P rs st.fr st.hp (some a)=some (.val (cB m),eF)∧RL S.T cq l m∧RH S.T cq eF∧kG qN cq eF∧dk s.hp cq∧s.hp.length≤cq.length ∧
       (∀ n:Nat,n<s.hp.length→n∉oS→cq[n]?=s.hp[n]?)∧(∀ n,n∈s.wh→n∈oS)∧(K l cq oS qN).run=some r:=by
    intro t tt ht o5 ho hk
    obtain⟨l1,m1,f1,_,hk⟩:=oy hS.T hS.Q ht hk
    have f1':(aR S.C.P tt.fr fg.results.toList).run tt.hp=some m1:=f1
    have AJ:RS S.T ⟨s.fn,s.n,s.fr,t.hp,s.wf,t.wh,t.js⟩ ⟨st.fn,st.fr,tt.hp⟩:=⟨h.fn,h.n,fun x=>(h.fr x).mono o5.grow,ht.hp,ht.js⟩
    obtain⟨l,m2,g1,g2,hk⟩:=oy hS.T hS.Q AJ hk
    have M5:(aR S.C.P st.fr rs).run tt.hp=some m2:=g1
    refine⟨l,t.hp,t.wh,t.js,m2,tt.hp,?_,g2,ht.hp,ht.js,o5.grow,o5.len,o5.hp,o5.wh,hk⟩
    simp only[tZ,hm,My,Mz,Wu.1,c1]
    rcases ho with rfl|rfl<;>simp only[f1',D6,M5]
   cases so with
   |norm t=>
    obtain⟨tt,rfl,ht⟩:=c2
    exact fin t tt ht c3 (.inl rfl) hk
   |ret t=>
    obtain⟨tt,rfl,ht⟩:=c2
    exact fin t tt ht c3 (.inr rfl) hk
   |exit id t=>simp[Tr.run]at hk
theorem Qz{k:Nat}(ih:oB S k){ρ:Type}{f:FuncId}{args:List (SV S.T.den)}{hp:ah S.T.den}{wh:List Nat}{js:List (Nat×kZ)}{K:SV S.T.den→ah S.T.den→List Nat→List (Nat×kZ)→Tr ρ}{r:ρ}{as:List AV}{NM:ag}
  (ha:RL S.T hp args as) (hh:RH S.T hp NM) (hj:kG js hp NM) (hk:(OE S (k+1) ρ f args hp wh js K).run=some r):∃ v cq oS qN a eF,ky S.C f as NM=some (.val a,eF)∧R S.T cq v a∧RH S.T cq eF∧kG qN cq eF∧dk hp cq∧hp.length≤cq.length ∧
    (∀ n:Nat,n<hp.length→n∉oS→cq[n]?=hp[n]?)∧(∀ n,n∈wh→n∈oS)∧(K v cq oS qN).run=some r:=by
 unfold OE at hk
 split at hk
 ·simp[Tr.run]at hk
 rename_i fn qT
 split at hk
 ·simp[Tr.run]at hk
 rename_i c hc
 rw[nK,force_eq]at hk
 have gJ:=yp (f:=f) ha hh fn.ntmps wh hj
 split at hk
 ·rename_i hD
  split at hk
  case h_2=>simp[Tr.run]at hk
  rename_i hn
  obtain⟨so,d,o,da,c1,c2,c3,c4,hk⟩:=NQ ih c gJ hk
  have fin:∀ (s:bx S.T.den) (st:St),RS S.T s st→bj ⟨f,max fn.ntmps args.length,mw 0 args,hp,[],wh,js⟩ s→DR S.T s.hp d da→(o=.norm st∨o=.ret st) →
    (CU (fun c s K=>wA S k ρ c s K) S.Q S.C.P fn.results.toList s d fun l hp wh js=>K (qV l) hp wh js).run=some r →
    ∃ v cq oS qN a eF,ky S.C f as NM=some (.val a,eF)∧R S.T cq v a∧RH S.T cq eF∧kG qN cq eF∧dk hp cq∧hp.length≤cq.length ∧
    (∀ n:Nat,n<hp.length→n∉oS→cq[n]?=hp[n]?)∧(∀ n,n∈wh→n∈oS)∧(K v cq oS qN).run=some r:=by
   intro s st hs o5 MY ho hk
   obtain⟨l,cq,oS,qN,m,eF,e1,e2,e3,e4,e5,e6,e7,e8,hk⟩:=Lk hS ih hs MY hk
   refine⟨qV l,cq,oS,qN,cB m,eF,?_,GJ e2,e3,e4,o5.grow.trans e5,Nat.le_trans o5.len e6,fun n hn hw=>?_,fun n hn=>e8 n (o5.wh n hn),hk⟩
   ·refine Jg qT hc hD ?_
    unfold ua
    rw[hn,c1]
    rcases ho with rfl|rfl<;>exact e1
   ·rw[e7 n (Nat.lt_of_lt_of_le hn o5.len) hw]
    exact o5.hp n hn fun h=>hw (e8 n h)
  cases so with
  |norm s=>
   obtain⟨st,rfl,hs⟩:=c2
   exact fin s st hs c3 c4 (.inl rfl) hk
  |ret s=>
   obtain⟨st,rfl,hs⟩:=c2
   exact fin s st hs c3 c4 (.inr rfl) hk
  |exit id s=>simp[Tr.run]at hk
 rename_i hD
 obtain⟨so,o,c1,c2,c3,hk⟩:=ih.c _ _ _ _ _ _ gJ hk
 have fin:∀ (s:bx S.T.den) (st:St),RS S.T s st→bj ⟨f,max fn.ntmps args.length,mw 0 args,hp,[],wh,js⟩ s→(Jf S.C fn.results o=((aR S.C.P st.fr fn.results.toList).run st.hp).map fun l=>(.val (cB l),st.hp)) →
   (se S.T S.Q s fn.results.toList fun l=>K (qV l) s.hp s.wh s.js).run=some r →
   ∃ v cq oS qN a eF,ky S.C f as NM=some (.val a,eF)∧R S.T cq v a∧RH S.T cq eF∧kG qN cq eF∧dk hp cq∧hp.length≤cq.length ∧
   (∀ n:Nat,n<hp.length→n∉oS→cq[n]?=hp[n]?)∧(∀ n,n∈wh→n∈oS)∧(K v cq oS qN).run=some r:=by
  intro s st hs o5 he hk
  obtain⟨l,m,g1,g2,hk⟩:=oy hS.T hS.Q hs hk
  refine⟨qV l,s.hp,s.wh,s.js,cB m,st.hp,?_,GJ g2,hs.hp,hs.js,o5.grow,o5.len,o5.hp,o5.wh,hk⟩
  rw[AD qT hc _ _ hD,c1]
  simp only[Option.bind_some]
  rw[he]
  have M5:(aR S.C.P st.fr fn.results.toList).run st.hp=some m:=g1
  rw[M5]
  rfl
 cases so with
 |norm s=>
  obtain⟨st,rfl,hs⟩:=c2
  exact fin s st hs c3 rfl hk
 |ret s=>
  obtain⟨st,rfl,hs⟩:=c2
  exact fin s st hs c3 rfl hk
 |exit id s=>simp[Tr.run]at hk
theorem QA{k:Nat}(ih:oB S k){ρ:Type}{c:Code}{s:bx S.T.den}{K:oV S.T.den→Tr ρ}{r:ρ}{st:St}(h:RS S.T s st)(hk:(wA S (k+1) ρ c s K).run=some r):
  ∃ so o,cQ S.C c st=some o∧Ds S.T so o∧bj s so.st∧(K so).run=some r:=by
 unfold wA at hk
 split at hk
 ·exact⟨.norm s,_,qh st,⟨st,rfl,h⟩,bj.refl _,hk⟩
 ·exact⟨.norm s,_,Ei _ st,⟨st,rfl,h⟩,bj.refl _,hk⟩
 ·exact⟨.ret s,_,xe st,⟨st,rfl,h⟩,bj.refl _,hk⟩
 ·rename_i id
  exact⟨.exit id s,_,ui id st,⟨st,rfl,h⟩,bj.refl _,hk⟩
 ·rename_i a b
  obtain⟨so,o,c1,c2,c3,hk⟩:=ih.c _ _ _ _ _ _ h hk
  rw[gR,c1]
  cases so with
  |norm s'=>
   obtain⟨st',rfl,eV⟩:=c2
   obtain⟨Qw,o2,d1,d2,d3,hk⟩:=ih.c _ _ _ _ _ _ eV hk
   exact⟨Qw,o2,d1,d2,c3.trans d3,hk⟩
  |exit id s'=>
   obtain⟨st',rfl,eV⟩:=c2
   exact⟨.exit id s',_,rfl,⟨st',rfl,eV⟩,c3,hk⟩
  |ret s'=>
   obtain⟨st',rfl,eV⟩:=c2
   exact⟨.ret s',_,rfl,⟨st',rfl,eV⟩,c3,hk⟩
 ·rename_i o a b
  split at hk
  ·rename_i t ht
   have ha:=(h.ev o).lit ht
   rw[k7,ha]
   rcases fo hk with ⟨rfl,hk⟩|⟨rfl,hk⟩
   ·exact ih.c _ _ _ _ _ _ h hk
   ·exact ih.c _ _ _ _ _ _ h hk
  ·simp[Tr.run]at hk
 ·rename_i id b
  obtain⟨so,o,c1,c2,c3,hk⟩:=ih.c _ _ _ _ _ _ h hk
  rw[lD,c1]
  cases so with
  |norm s'=>
   obtain⟨st',rfl,eV⟩:=c2
   exact⟨.norm s',_,rfl,⟨st',rfl,eV⟩,c3,hk⟩
  |exit IK s'=>
   obtain⟨st',rfl,eV⟩:=c2
   simp only at hk
   by_cases e:IK=id
   ·rw[if_pos e]at hk
    exact⟨.norm s',.norm st',by simp[uj,e],⟨st',rfl,eV⟩,c3,hk⟩
   ·rw[if_neg e]at hk
    exact⟨.exit IK s',.exit IK st',by simp[uj,e],⟨st',rfl,eV⟩,c3,hk⟩
  |ret s'=>
   obtain⟨st',rfl,eV⟩:=c2
   exact⟨.ret s',_,rfl,⟨st',rfl,eV⟩,c3,hk⟩
 ·rename_i b
  split at hk
  case h_2=>simp[Tr.run]at hk
  rename_i c hc
  obtain⟨so,o,c1,c2,c3,hk⟩:=ih.c _ _ _ _ _ _ h hk
  exact⟨so,o,Ej hc c1,c2,c3,hk⟩
 ·rename_i b
  split at hk
  ·split at hk
   ·obtain⟨so,o,c1,c2,c3,hk⟩:=ih.c _ _ _ _ _ _ h hk
    rw[nh,c1]
    cases so with
    |norm s'=>
     obtain⟨st',rfl,eV⟩:=c2
     simp only at hk
     split at hk
     case h_2=>simp[Tr.run]at hk
     rename_i Bt
     rw[force_eq]at hk
     have hr:=Dl (n:=s.hp.length) hS.T eV (Af Bt)
     have o5:=v8 h c3
     obtain⟨Qw,o2,d1,d2,d3,hk⟩:=ih.c _ _ _ _ _ _ hr hk
     refine⟨Qw,o2,?_,d2,o5.trans d3,hk⟩
     simp only[Option.bind_some,Je]
     rw[←h.hp.length]
     exact d1
    |exit id s'=>
     obtain⟨st',rfl,eV⟩:=c2
     exact⟨.exit id s',_,rfl,⟨st',rfl,eV⟩,c3,hk⟩
    |ret s'=>
     obtain⟨st',rfl,eV⟩:=c2
     exact⟨.ret s',_,rfl,⟨st',rfl,eV⟩,c3,hk⟩
   ·simp[Tr.run]at hk
  ·rename_i hi _
   split at hk
   ·rename_i x0 bL Uq
    simp only[Bool.and_eq_true]at bL
    rw[Option.bind_eq_some_iff]at Uq
    obtain⟨l0,h1,h2⟩:=Uq
    simp only[Tr.run,Option.bind_eq_some_iff]at hk
    obtain⟨w,hw,hk⟩:=hk
    obtain⟨o,x,so,oo,g1,g2,g3,g4,g5⟩:=NP hS ih bL.1.1 bL.1.2 bL.2 h1 h2 h hw
    exact⟨so,oo,g1,g3,g4,by rw[←g5]; exact hk⟩
   ·simp[Tr.run]at hk
 ·rename_i id ops draw
  split at hk
  ·obtain⟨s00,Wv,Ww,hk⟩:=vf h hk
   obtain⟨s0,e1,e2,hk⟩:=Bu hS.T Wv hk
   replace e2:=Ww.trans e2
   rw[qL]at hk
   obtain⟨s',st',g1,g2,g3,hk⟩:=qa (C:=S.C) (fun o s st K h hk=>ih.o _ _ _ _ _ _ h hk) _ _ _ _ e1 hk
   exact⟨.norm s',.norm st',by rw[zC,←h.fn]; exact g1,⟨st',rfl,g2⟩,e2.trans g3,hk⟩
  ·split at hk
   case isFalse=>simp[Tr.run]at hk
   rename_i M3
   generalize hm:S.C.head s.fn id ops=m at hk
   have key:∀ (s:bx S.T.den) (st:St),RS S.T s st→(oh ops ops.toList fun l=>xW (lQ (bD 0 s.hp.length (ops.toList.take m)) l) fun li=>si (fun nm o s K=>Ua S nm o s K) li
       { s with hp:=s.hp++List.replicate ((ops.toList.take m).filter fun o=>au o.op).length none } [] fun s' fs=>
      if (qG (bZ ops.toList) fs && mH (bZ ops.toList) ops.size m) = true then vS (fun o s K => Nv S k ρ o s K) (l.drop m) s' fun s' => K (.norm s') else .no "an order").run = some r →
     ∃ so o,(sX S.C ops (bD 0 st.hp.length (ops.toList.take m)) { st with hp:=st.hp++List.replicate ((ops.toList.take m).filter fun o=>au o.op).length none }).bind (F2 S.C ops m)=some o ∧
       Ds S.T so o∧bj s so.st∧(K so).run=some r:=by
    clear hk h
    intro s st h hk
    rw[qL,Ac,rA]at hk
    have Wx:∀ n:Nat,dk s.hp (s.hp++List.replicate n none)∧RH S.T (s.hp++List.replicate n none) (st.hp++List.replicate n none):=by
     intro n
     have hg:dk s.hp (s.hp++List.replicate n none):=fun m o ho=>⟨o,by rw[List.getElem?_append_left (List.getElem?_eq_some_iff.1 ho).1]; exact ho,Nat.le_refl _,fun _=>rfl⟩
     exact⟨hg,aw.append (aw.mono (fun _ _=>Bh.mono hg) h.hp) (aw.replicate (show Bh S.T _ none none from trivial) n)⟩
    generalize Wy:((ops.toList.take m).filter fun o=>au o.op).length=Q8 at hk
    have ny:RS S.T { s with hp:=s.hp++List.replicate Q8 none } { st with hp:=st.hp++List.replicate Q8 none }:=
     ⟨h.fn,h.n,fun t=>(h.fr t).mono (Wx Q8).1,(Wx Q8).2,h.js.Bj fun n hn=>⟨by simp only; rw[List.getElem?_append_left (jq hn)],by simp only; rw[List.getElem?_append_left (by rw[←h.hp.length]; exact jq hn)]⟩⟩
    have Wz:bj s { s with hp:=s.hp++List.replicate Q8 none }:=
     ⟨rfl,rfl,fun _ _=>rfl,fun _ h=>h,fun n hn _=>by simp only; rw[List.getElem?_append_left hn],fun _ h=>h,by simp,(Wx Q8).1⟩
    obtain⟨s',st',Qk,MR,g1,g2,g3,g4,hk⟩:=u4 (C:=S.C) (ops:=ops) (fun nm o s st K h hn hk=>Qu hS h hn hk) (bD 0 s.hp.length (ops.toList.take m)) s.hp.length _ _ [] _ (Ad _ _ _)
     (by rw[yl,Wy]; simp) (fun m hm Iu=>by
       simp only at Iu ⊢
       rw[List.getElem?_append_right hm,List.getElem?_replicate,if_pos]
       simp at Iu; omega) ny hk
    split at hk
    case isFalse=>simp[Tr.run]at hk
    rename_i DE
    rw[Bool.and_eq_true]at DE
    obtain⟨DE,vE⟩:=DE
    obtain⟨s2,NJ,j1,j2,j3,hk⟩:=qa (C:=S.C) (fun o s st K h hk=>ih.o _ _ _ _ _ _ h hk) _ _ _ _ g3 hk
    refine⟨.norm s2,.norm NJ,?_,⟨NJ,rfl,j2⟩,Wz.trans (g4.trans j3),hk⟩
    have hl:=h.hp.length
    rw[←hl]
    rw[g1]
    simp only[Option.bind_some,F2]
    rw[if_pos]
    ·rw[pz,←j1,List.map_drop]
    ·rw[Bool.and_eq_true]
     simp only[List.nil_append]at DE
     exact⟨yk g2 (Bo DE),vE⟩
   obtain⟨s00,Wv,Ww,hk⟩:=vf h hk
   obtain⟨s0,e1,e2,hk⟩:=Bu hS.T Wv hk
   replace e2:=Ww.trans e2
   obtain⟨so,o,i1,i2,i3,hk⟩:=key s0 _ e1 hk
   refine⟨so,o,?_,i2,e2.trans i3,hk⟩
   rw[G8 id ops M3,←h.fn,←rR (S.C.iq s.fn id) st,hm]
   exact i1
 ·-- a range over a function
  rename_i f ps as bd
  split at hk
  case h_2=>simp[Tr.run]at hk
  rename_i g args hg
  split at hk
  case h_2=>simp[Tr.run]at hk
  rename_i lC
  rw[Bool.and_eq_true]at lC
  have hl:=h.hp.length
  have eT:=H6 h lC.2
  obtain⟨H1,Iz⟩:∃ H1,H1=s.hp++[some (aC.oU s.fn ps as bd (wz (cW as++cW bd) s.fr (List.range s.n)))]:=⟨_,rfl⟩
  rw[←Iz]at hk
  have OL:dk s.hp H1:=fun m o ho=>⟨o,by rw[Iz,List.getElem?_append_left (List.getElem?_eq_some_iff.1 ho).1]; exact ho,Nat.le_refl _,fun _=>rfl⟩
  have ft:H1[s.hp.length]?=some (some (aC.oU s.fn ps as bd (wz (cW as++cW bd) s.fr (List.range s.n)))):=by rw[Iz]; simp
  have hh1:RH S.T H1 (st.hp++[some (.gf (.loop st.fn ps as bd .ready) (tY as bd st.fr))]):=by
   have:aw (Bh S.T H1) (s.hp++[some (aC.oU s.fn ps as bd (wz (cW as++cW bd) s.fr (List.range s.n)))]) (st.hp++[some (.gf (.loop st.fn ps as bd .ready) (tY as bd st.fr))]):=
    aw.append (aw.mono (fun _ _=>Bh.mono OL) h.hp) ⟨⟨.ready,_,by rw[h.fn],aw.mono (fun _ _ h=>h.imp id (R.mono OL)) eT⟩,trivial⟩
   rw[←Iz]at this
   exact this
  have QN:kG ((s.hp.length,.ready)::s.js) H1 (st.hp++[some (.gf (.loop st.fn ps as bd .ready) (tY as bd st.fr))]):=by
   intro m x hm
   simp only[cm]at hm
   split at hm
   ·simp_all[recAt,ft,aC.isRec,ib]
   ·obtain⟨h1,h2⟩:=h.js m x hm
    have bS:=jq h1
    exact⟨by rw[p9 (show H1[m]?=s.hp[m]? by rw[Iz,List.getElem?_append_left bS])]; exact h1,by rw[nL (List.getElem?_append_left (by omega))]; exact h2⟩
  have hyR:RV S.T H1 (.mp true s.hp.length) (.mp true st.hp.length):=.inr (by simp only[R]; exact⟨by rw[hl],_,ft⟩)
  obtain⟨m,uk,yE⟩:=ga ((h.ev f).mono OL) (show aw (RV S.T H1) [.mp true s.hp.length] [.mp true st.hp.length] from ⟨hyR,trivial⟩) hg
  have Ld:args.any bN=false:=by simpa using lC.1
  obtain⟨v,cq,oS,qN,a,eF,g1,g2,g3,gj,g4,g5,g6,g7,hk⟩:=ih.f _ _ _ _ _ _ _ _ _ _ (yE Ld) hh1 QN hk
  have FU:H1.length=s.hp.length+1:=by rw[Iz]; simp
  have fin:∀ x,cm qN s.hp.length=some x→RS S.T (s.gM s.hp.length cq oS qN) { st with hp:=rf eF st.hp.length }∧bj s (s.gM s.hp.length cq oS qN)∧ib eF st.hp.length=some x:=by
   intro x hx
   obtain⟨q1,q2⟩:=gj _ _ hx
   rw[hl]at q2
   obtain⟨MX,V9,nW,Wa,yS,hr⟩:=iE q2
   obtain⟨o,ho,V8⟩:∃ o,cq[s.hp.length]?=some (some o)∧o.isRec=true:=by
    grind[recAt]
   have qY:o.cur=0∧o.len=0:=by cases o<;>simp[aC.isRec]at V8; exact⟨rfl,rfl⟩
   have Cq:rf eF st.hp.length=eF.set st.hp.length (some (.gf (.loop MX V9 nW Wa .gM) (yS.map fun _=>.any))):=by unfold rf; rw[hr]
   obtain⟨u1,u2⟩:=g3.QX ho (o':=.gX) (a':=.gf (.loop MX V9 nW Wa .gM) (yS.map fun _=>.any)) (by rw[qY.1]; exact Nat.zero_le _) (fun _=>by rw[qY.2]; rfl) (.inr ⟨_,_,rfl,fun n=>by
    rw[ym]
    simp[Go.PI.below]⟩)
   rw[hl]at u2
   have zx:dk s.hp (cq.set s.hp.length (some .gX)):=OL.trans (g4.trans u1)
   refine⟨⟨h.fn,h.n,fun t=>(h.fr t).mono zx,?_,?_⟩,⟨rfl,rfl,fun _ _=>rfl,fun _ h=>h,fun n hn hw=>?_,g7,?_,zx⟩,q2⟩
   ·rw[Cq]
    show RH S.T (cq.set s.hp.length (some .gX)) _
    rw[hl]; exact u2
   ·intro n y hy
    have AI:cm (CT qN s.hp.length) n=some y:=hy
    rw[Dt]at AI
    split at AI
    ·simp at AI
    rename_i dK
    obtain⟨w1,w2⟩:=gj _ _ AI
    refine⟨?_,?_⟩
    ·rw[p9 (show (s.gM s.hp.length cq oS qN).hp[n]?=cq[n]? from List.getElem?_set_ne (Ne.symm dK))]; exact w1
    ·rw[Cq,nL (List.getElem?_set_ne (by rw[←hl]; exact Ne.symm dK))]; exact w2
   ·show (cq.set s.hp.length (some .gX))[n]?=_
    rw[List.getElem?_set_ne (by omega),g6 n (by omega) hw,Iz,List.getElem?_append_left hn]
   ·show s.hp.length≤(cq.set s.hp.length (some .gX)).length
    rw[List.length_set]; omega
  have aU:cQ S.C (.rangeFunc f ps as bd) st=vk st st.hp.length eF:=by
   rw[En,uk]
   simp only[Option.bind_some,g1]
   rfl
  rw[aU]
  split at hk
  ·rename_i hx
   obtain⟨f1,f2,f3⟩:=fin _ hx
   exact⟨.norm _,_,by unfold vk; rw[f3],⟨_,rfl,f1⟩,f2,hk⟩
  ·rename_i hx
   obtain⟨f1,f2,f3⟩:=fin _ hx
   exact⟨.ret _,_,by unfold vk; rw[f3],⟨_,rfl,f1⟩,f2,hk⟩
  ·rename_i id hx
   obtain⟨f1,f2,f3⟩:=fin _ hx
   exact⟨.exit id _,_,by unfold vk; rw[f3],⟨_,rfl,f1⟩,f2,hk⟩
  ·simp[Tr.run]at hk
 ·simp[Tr.run]at hk
theorem DF:∀ k,oB S k
 |0=>⟨fun _ _ _ _ _ _ _ _ _ _ _ _ _ h=>by simp[OE,Tr.run]at h,fun _ _ _ _ _ _ _ h=>by simp[wA,Tr.run]at h,fun _ _ _ _ _ _ _ h=>by simp[Nv,Tr.run]at h⟩
 |k+1=>
  have ih:=DF k
  ⟨fun _ _ _ _ _ _ _ _ _ _ ha hh hj hk=>Qz hS ih ha hh hj hk,fun _ _ _ _ _ _ h hk=>QA hS ih h hk,fun _ _ _ _ _ _ h hk=>Qv hS ih h hk⟩
end
end Go.PI
end
section
/- PS, part R: from an equation of trees to what is known of a function; laws; arguments read. -/
namespace Go.PI
theorem DB[ab]{S:od}(hS:S.Ok){k:Nat}{f:FuncId}{σ:uK S.T}(hk:S.C.kind f=.pure)(hi:S.C.kv f=none)(h:∀ x,(P5 S k f σ.args σ.res x).run=σ.fn x):p8 S.C S.T f σ where
 kind:=hk
 Q3:=by
  intro x as y hx hy
  rw[←h x]at hy
  unfold P5 at hy
  obtain⟨v,cq,oS,qN,a,eF,g1,g2,g3,_,_,_,_,_,hy⟩:=(DF hS k).f _ f _ [] [] [] _ _ as [] (KX hS.T [] hx) (show RH S.T [] [] from trivial) (fun _ _ h=>by simp[cm]at h) hy
  obtain⟨v',rd,a',h1,h2,h3,hy⟩:=KW g3 g2 hy
  split at hy
  case h_2=>simp[Tr.run]at hy
  rename_i r hr
  simp only[Tr.run,Option.some.injEq]at hy
  subst hy
  rw[Option.bind_eq_some_iff]at hr
  obtain⟨l,hl,hr⟩:=hr
  have UY:∀ (ts:List Nat) (l:List (SV S.T.den)) r,HJ S.T ts l=some r→ts.length=l.length:=by
   intro ts
   induction ts with
   |nil=>
    grind[HJ]
   |cons t ts ih=>
    intro l r h
    cases l with
    |nil=>simp[HJ]at h
    |cons v l=>
     simp only[HJ,Option.bind_eq_some_iff,Option.map_eq_some_iff]at h
     obtain⟨_,_,_,h,_⟩:=h
     simp[ih _ _ h]
  have hlen:=UY _ _ _ hl
  have key:∃ m,RL S.T cq (KH σ.res v') m∧cB m=a':=by
   unfold KH at hlen ⊢
   split at hlen
   ·exact⟨[a'],by simp only[RL]; exact⟨h2,trivial⟩,rfl⟩
   ·rename_i dK
    have sG:σ.res.length≠1:=by
     intro hc
     match cy:σ.res,hc with
     |[t],_=>exact dK t cy
    split at hlen
    ·simp only[R]at h2
     obtain⟨m,rfl,h2⟩:=h2
     have hm:=h2.length
     refine⟨m,h2,?_⟩
     match m,hm with
     |[],_=>rfl
     |[x],hm=>simp at hm; omega
     |x::y::r,_=>rfl
    ·simp at hlen; omega
  obtain⟨m,uk,Q7⟩:=key
  have D3:=Fs hS.T uk hl
  rw[ox _ _ _ hr]
  refine⟨a,eF,m,?_,?_,?_,D3⟩
  ·simp only[KY,hi,g1]
  ·rw[Q7]; exact h1.1
  ·rw[Q7]; exact h3.1
def GF(C:Ctx)(T:dw)(M:List (Nat×j0))(hint:FuncId→Nat→Option Hint)(uM:FuncId→Nat→Bool)(L:List (Nat×uK T))(n:Nat)(O:List (Nat×vQ T):=[])(tD:FuncId→Nat→Bool:=fun _ _=>false)(tw:FuncId→Tmp→List Tw:=fun _ _=>[]):od:=
 ⟨C,T,cm (L.take n),hint,uM,M,cm O,tD,tw⟩
theorem An{α:Type}:∀ {l m:List (Nat×α)} {n:Nat} {a:α},cm (l++m) n=some a→cm l n=some a∨cm m n=some a
 |[],m,n,a,h=>.inr h
 |(k,b)::l,m,n,a,h=>by
  simp only[List.cons_append,cm]at h ⊢
  split at h
  ·exact .inl h
  ·exact An h
section
variable {C:Ctx}{T:dw}{M:List (Nat×j0)}{hint:FuncId→Nat→Option Hint}{uM:FuncId→Nat→Bool}{L:List (Nat×uK T)}{O:List (Nat×vQ T)}{tD:FuncId→Nat→Bool}{tw:FuncId→Tmp→List Tw}
theorem C2[ab](hT:T.Ok)(hQ:gK.Ok ⟨C.P,M,fun _=>false⟩)(hZ:T.tM ⟨C.P,M,fun _=>false⟩)(hO:∀ g σ,cm O g=some σ→GL C T g σ):(GF C T M hint uM L 0 O tD tw).Ok:=
 ⟨hT,hQ,hZ,fun g σ h=>by simp[GF,cm]at h,hO⟩
theorem tJ[ab]{n:Nat}(hS:(GF C T M hint uM L n O tD tw).Ok){f:FuncId}{σ:uK T}(hL:L[n]?=some (f,σ))(h:p8 C T f σ):(GF C T M hint uM L (n+1) O tD tw).Ok:=by
 refine⟨hS.T,hS.Q,hS.Z,fun g τ hg=>?_,hS.own⟩
 simp only[GF]at hg
 rw[List.take_add_one,hL]at hg
 rcases An hg with hg|hg
 ·exact hS.sum g τ hg
 ·have:=gz hg
  simp only[Option.toList_some,List.mem_singleton]at this
  obtain⟨rfl,rfl⟩:=this
  exact h
theorem aB[ab]{n:Nat}(hS:(GF C T M hint uM L n O tD tw).Ok){f:FuncId}{σ:uK T}(hL:L[n]?=some (f,σ))(hk:C.kind f=.pure)(hi:C.kv f=none)(k:Nat)
  (h:∀ x,(P5 (GF C T M hint uM L n O tD tw) k f σ.args σ.res x).run=σ.fn x):(GF C T M hint uM L (n+1) O tD tw).Ok:=
 tJ hS hL (DB hS hk hi h)
theorem NR[ab]{n:Nat}(hS:(GF C T M hint uM L n O tD tw).Ok){f:FuncId}{σ:uK T}(h:cm (L.take n) f=some σ):p8 C T f σ:=hS.sum f σ h
end
theorem FC[ab]{hp:ag}{v:AV}{b:Bool}(h:(aW 1000 v).run hp=some (.lit (.bool b))):v=.lit (.bool b):=by
 cases v with
 |lit x=>
  simp only[aW]at h
  split at h
  ·simp[RM.run_pure]at h
  ·simpa[RM.run_pure] using h
 |agg l=>simp only[aW,RM.run_bind]at h; cases hq:(aM 999 l).run hp<;>rw[hq]at h<;>simp[RM.run_pure]at h
 |ju l=>simp only[aW,RM.run_bind]at h; cases hq:(aM 999 l).run hp<;>rw[hq]at h<;>simp[RM.run_pure]at h
 |sl l=>simp[aW,RM.run_pure]at h
 |o6 l c=>simp[aW,RM.run_pure]at h
 |nz=>simp[aW,RM.run_pure]at h
 |bf e j=>simp[aW,RM.run_pure]at h
 |ref n aq i j=>
  simp only[aW,RM.run_bind]at h
  cases hq:(RM.arr n aq).run hp with
  |none=>rw[hq]at h; simp at h
  |some q=>
   obtain⟨g,c,f,es⟩:=q
   rw[hq]at h
   simp only[Option.bind_some]at h
   split at h
   ·split at h
    ·simp[RM.run_pure]at h
    ·rename_i e _ _
     rw[RM.run_bind]at h
     cases dR:(aW 999 e).run hp<;>rw[dR]at h<;>simp[RM.run_pure]at h
   ·simp[RM.ae]at h
 |iP n aq i j len cap=>
  simp only[aW,RM.run_bind]at h
  cases hq:(RM.arr n aq).run hp with
  |none=>rw[hq]at h; simp at h
  |some q=>
   obtain⟨g,c,f,es⟩:=q
   rw[hq]at h
   simp only[Option.bind_some]at h
   split at h
   ·split at h
    ·split at h
     ·simp[RM.run_pure]at h
     ·rename_i cs _ _ _
      rw[RM.run_bind]at h
      cases dR:(aM 999 ((cs.drop j).take len)).run hp<;>rw[dR]at h<;>simp[RM.run_pure]at h
    ·simp[RM.ae]at h
   ·simp[RM.ae]at h
 |mp n=>simp[aW,RM.ae]at h
 |any=>simp[aW,RM.ae]at h
 |gd t x=>simp only[aW,RM.run_bind]at h; cases hq:(aW 999 x).run hp<;>rw[hq]at h<;>simp[RM.run_pure]at h
 |iR fn f c=>
  simp only[aW,RM.run_bind]at h
  cases hq:(aM 999 f).run hp with
  |none=>rw[hq]at h; simp at h
  |some f'=>
   cases dR:(aM 999 c).run hp with
   |none=>rw[hq,dR]at h; simp at h
   |some c'=>simp_all[RM.run_pure]
 |bq esz n aq off len cap=>
  simp only[aW,RM.run_bind]at h
  cases hq:(RM.arr n aq).run hp with
  |none=>rw[hq]at h; simp at h
  |some q=>
   obtain⟨g,c,f,es⟩:=q
   rw[hq]at h
   simp only[Option.bind_some]at h
   split at h
   ·split at h
    ·simp[RM.run_pure]at h
    ·rw[RM.run_bind]at h
     cases dR:(aM 999 ((es.drop off).take len)).run hp<;>rw[dR]at h<;>simp[RM.run_pure]at h
   ·simp[RM.ae]at h
open Go.RowKit in
theorem Ll[ab]{C:Ctx}{T:dw}(hC:C.Ok){f:FuncId}{σ:uK T}(h:p8 C T f σ)(hi:C.kv f=none){x:HL T.den (σ.args.map .v)}{y:HL T.den (σ.res.map .v)}(hy:σ.fn x=some y)
  (cy:∀ l,aw (OO T) (fT _ y) l→l=[.lit (.bool true)]) {as:List AV} (ha:aw (OO T) (fT _ x) as) {W:World} (hg:mJ (Env.all W)) {vs:List Value} (hr:an (Env.all W) false as vs) :
  Calls C.P f vs.toArray W fun e w'=>e=.returned (.bool true)∧Below W.heap.size W w':=by
 obtain⟨v,hJ,l,h1,h2,_,h4⟩:=h.Q3 x as y ha hy
 have:=cy l h4
 subst this
 have hv:=FC h2
 subst hv
 unfold KY at h1
 rw[hi]at h1
 simp only at h1
 split at h1
 case h_2=>simp at h1
 rename_i v0 SI aU
 simp only[Option.some.injEq,Prod.mk.injEq]at h1
 obtain⟨rfl,rfl⟩:=h1
 exact G3 hC aU hg hr
end Go.PI
end
section
/- PS, part S: arguments that came in, as typed values. -/
namespace Go.PI
section
variable {P:Program}{n t:Nat}{l:List AV}
theorem oD(h:Shape P n t l):∃ k,n=k+1:=by
 cases n with
 |zero=>simp[Shape]at h
 |succ k=>exact⟨k,rfl⟩
theorem Ie[ab]{i:IntKind}(hu:P.underlying t=some (.int i))(h:Shape P n t l):∃ m:Int,l=[.lit (.int i m)]∧i.min≤m∧m≤i.max:=by
 obtain⟨k,rfl⟩:=oD h
 simp only[Shape,hu]at h
 obtain⟨m,h1,h2⟩:=h
 simp only[Lit.wf,Bool.and_eq_true,decide_eq_true_eq]at h2
 exact⟨m,h1,h2⟩
theorem wa[ab]{e:Nat}{α:Type}{Q:α→AV→Prop}{d:TypeDesc}(hu:P.underlying t=some (.slice e))(he:P.underlying e=some d)(h:Shape P n t l)
  (Ja:∀ k x,(∃ cl,(if eh d then x=AV.agg cl else cl=[x])∧Shape P k e cl)→∃ y,Q y x) :
  ∃ ys xs,l=[.sl xs]∧aw Q ys xs∧ys.length≤maxLen:=by
 obtain⟨k,rfl⟩:=oD h
 simp only[Shape,hu]at h
 obtain⟨xs,h1,h2,h3⟩:=h
 have:∃ ys,aw Q ys xs:=by
  clear h1 h2
  induction xs with
  |nil=>exact⟨[],trivial⟩
  |cons x xs ih=>
   obtain⟨ys,h4⟩:=ih fun y hy=>h3 y (List.mem_cons_of_mem _ hy)
   obtain⟨cl,h5,h6⟩:=h3 x (by simp)
   rw[he]at h5
   obtain⟨y,h7⟩:=Ja k x ⟨cl,h5,h6⟩
   exact⟨y::ys,h7,h4⟩
 obtain⟨ys,h4⟩:=this
 exact⟨ys,xs,h1,h4,by rw[h4.length]; exact h2⟩
theorem Bw[ab]{fs:Array Field}(hu:P.underlying t=some (.struct fs))(h:Shape P n t l):l.length=P.cellsOf t∧∃ k,∀ f,f∈fs.toList→Shape P k f.type ((l.drop f.offset).take (P.cellsOf f.type)):=by
 obtain⟨k,rfl⟩:=oD h
 simp only[Shape,hu]at h
 exact⟨h.1,k,h.2⟩
theorem Bx[ab]{Q:gK}(hQ:Q.Ok){t:Nat}{m:j0}(hm:Q.ty t=some m){fs:List (Nat×Nat)}(hk:m.kind=.struct fs)(h:Shape Q.P n t l):
  l.length=Q.P.cellsOf t∧∃ k,∀ q,q∈fs→Shape Q.P k q.2 ((l.drop q.1).take (Q.P.cellsOf q.2)):=by
 obtain⟨d,hd,Ek⟩:=hQ.kind t m hm
 rw[hk]at Ek
 cases d<;>simp[oj]at Ek
 rename_i DP
 subst Ek
 obtain⟨h1,k,h2⟩:=Bw hd h
 refine⟨h1,k,fun q hq=>?_⟩
 obtain⟨f,hf,rfl⟩:=List.mem_map.1 hq
 exact h2 f hf
end
theorem oE{Q:gK}(hQ:Q.Ok){t:Nat}{m:j0}(h:Q.ty t=some m):Q.P.cellsOf t=m.size:=by
 obtain⟨r,h1,_,h2,_⟩:=hQ.row t m h
 unfold eY at h1
 unfold Program.cellsOf
 cases hi:Q.P.info? t with
 |none=>rw[hi]at h1; simp at h1
 |some i=>
  grind
theorem jR[ab]{P:Program}{n t t':Nat}{l:List AV}(hu:P.underlying t=P.underlying t')(h:Shape P n t l)(hc:P.cellsOf t=P.cellsOf t':=by kernel_rfl):Shape P n t' l:=by
 obtain⟨k,rfl⟩:=oD h
 simp only[Shape]at h ⊢
 rw[←hu,←hc]
 exact h
theorem tS{k:IntKind}{n:Int}:a9 (.lit (.int k n))=true:=rfl
theorem qP{b:Bool}:a9 (.lit (.bool b))=true:=rfl
theorem tT{s:ByteArray}:a9 (.lit (.string s))=true:=rfl
theorem DG{T:dw}{H:ah T.den}{v:SV T.den}{vs:List (SV T.den)}{l:List AV}:RL T H (v::vs) l↔∃ c cs,l=c::cs∧R T H v c∧RL T H vs cs:=by
 cases l with
 |nil=>simp[RL]
 |cons c cs=>
  grind[RL]
theorem FD{T:dw}{H:ah T.den}{l:List AV}:RL T H [] l↔l=[]:=by
 cases l<;>simp[RL]
end Go.PI
end
section
/- PS: what must hold of a seat's types, for all the plain kinds at once. -/
namespace Go.PI
section
variable {T:dw}{H:ah T.den}{v:SV T.den}{a:AV}
theorem eL{k:IntKind}{x:Int}(h:dI k v=some x)(hr:R T H v a):a=.lit (.int k x):=by
 unfold dI at h
 split at h
 ·simp_all[R]
 ·simp at h
theorem Lm{x:Bool}(h:dB v=some x)(hr:R T H v a):a=.lit (.bool x):=by
 unfold dB at h
 split at h
 ·simp_all[R]
 ·simp at h
theorem S4{x:ByteArray}(h:dS v=some x)(hr:R T H v a):a=.lit (.string x):=by
 unfold dS at h
 split at h
 ·simp_all[R]
 ·simp at h
theorem Ln{α:Type}{q:α→AV→Prop}{d:SV T.den→Option α}(hd:∀ v x a,d v=some x→R T H v a→q x a):∀ (vs:List (SV T.den)) (l:List α) (m:List AV),Sp d vs=some l→RL T H vs m→aw q l m
 |[],l,[],h,_=>by simp[Sp]at h; subst h; trivial
 |v::vs,l,a::m,h,hr=>by
  simp only[RL]at hr
  simp only[Sp,Option.bind_eq_some_iff,Option.map_eq_some_iff]at h
  obtain⟨x,h1,ys,h2,rfl⟩:=h
  exact⟨hd _ _ _ h1 hr.1,Ln hd vs ys m h2 hr.2⟩
 |[],_,_::_,_,h=>by simp[RL]at h
 |_::_,_,[],_,h=>by simp[RL]at h
theorem gb{e:Nat}{x:List (T.den e)}{d:SV T.den→Option (T.den e)}(hd:∀ v x a,d v=some x→R T H v a→T.rp e x a)(h:OF e d v=some x)(hr:R T H v a):Nw (T.rp e) x a:=by
 unfold OF at h
 split at h
 ·rename_i t l
  split at h
  ·rename_i e
   subst e
   have e2:l=x:=Option.some.inj h
   subst e2
   simp only[R]at hr
   exact hr
  ·simp at h
 ·simp only[R]at hr
  obtain⟨m,rfl,hm,_⟩:=hr
  exact .inl ⟨m,rfl,Ln hd _ _ _ h hm⟩
 ·grind[R]
 ·simp at h
theorem QB{α:Type}{q:α→AV→Prop}{d:SV T.den→Option α}{x:α}(hd:∀ v a,d v=some x→R T H v a→q x a)(h:Vz d v=some x)(hr:R T H v a):Ub q x a:=by
 unfold Vz at h
 split at h
 ·grind[R]
 ·simp at h
theorem uL{l:Value}(h:a=.lit l):R T H (.lit l) a:=by simp only[R]; exact h
theorem uG{e:Nat}{x:List (T.den e)}(h:Nw (T.rp e) x a):R T H (.jt e x) a:=by simp only[R]; exact h
theorem uP{α:Type}{q:α→AV→Prop}{u:α→SV T.den}{x:α}(hu:∀ b,q x b→R T H (u x) b)(hc:aE (u x)=true)(h:Ub q x a):R T H (.bf (u x) 0) a:=by
 grind[R]
theorem eI{k:IntKind}{x:Int}(h:a=.lit (.int k x)):aG false 1 a=true∧closed a=true∧a9 a=true:=by subst h; exact⟨rfl,rfl,rfl⟩
theorem eB{x:Bool}(h:a=.lit (.bool x)):aG false 1 a=true∧closed a=true∧a9 a=true:=by subst h; exact⟨rfl,rfl,rfl⟩
theorem eS{x:ByteArray}(h:a=.lit (.string x)):aG false 1 a=true∧closed a=true∧a9 a=true:=by subst h; exact⟨rfl,rfl,rfl⟩
theorem eG{α:Type}{q:α→AV→Prop}{x:List α}(h:Nw q x a):aG false 1 a=true∧closed a=true∧a9 a=true:=by
 rcases h with ⟨l,rfl,_⟩|⟨_,rfl⟩<;>exact⟨rfl,rfl,rfl⟩
theorem eP{α:Type}{q:α→AV→Prop}{x:α}(h:Ub q x a):aG false 1 a=true∧closed a=true∧a9 a=true:=by
 obtain⟨b,rfl,_⟩:=h
 exact⟨rfl,rfl,rfl⟩
theorem yF{p q r:Prop}(h:p∧q∧r):p∧q:=⟨h.1,h.2.1⟩
theorem zz{α β:Type}{P:α→β→Prop}{x z:α}{y za:β}(h1:some x=some z)(h2:some y=some za)(h:P x y):P z za:=by
 simp_all
theorem zn{α:Type}{z:α}{p:Prop}(h:(none:Option α)=some z):p:=by cases h
end
end Go.PI
end
section
/- PS, part U: what is lacking of laws to compute by: appends and literal slices. -/
namespace Go.PI
variable {C:Ctx}{P:Program}{dst:Option Tmp}{type:TypeId}{pos:String}{after:Array Edge}{guard:Option (Nat×Bool)}{s:St}{hp:ag}{nm:Nat}{ev:Operand→AV}
theorem DK[ab]{d:Tmp}(h:C.acc s.fn d=false):ie C ⟨some d,.assign (.const (.slice none 0 0)),type,pos,after,guard⟩ s=some (.norm { s with fr:=s.fr.set d (.lit cK) }):=by
 refine bU (jy C _ _) (by simp[fF]) fun k=>?_
 simp only[fF,h]
 rfl
theorem Lt{x y:Operand}{t u:TypeId}:(aK P nm ev ⟨dst,.call ⟨.builtin .append,#[x,y],#[t,u]⟩,type,pos,after,guard⟩).run hp=(fD P nm t u (ev x) (ev y)).run hp:=rfl
def Lu(d:Option dm):AV→Option dm
 |.lit (.slice none 0 0)=>some ⟨int 0,[]⟩
 |_=>d
theorem Lv{d:Option dm}:Lu d (.lit (.slice none 0 0))=some ⟨int 0,[]⟩:=rfl
theorem N2{t:TypeId}{x:Operand}(h:bX P t=true):(aK P nm ev ⟨dst,.call ⟨.builtin .cap,#[x],#[t]⟩,type,pos,after,guard⟩).run hp =
  Lu (JI P nm ev ⟨dst,.call ⟨.builtin .cap,#[x],#[t]⟩,type,pos,after,guard⟩ hp) (ev x):=by
 unfold Lu
 split
 ·rename_i hx; simp[aK,dh,hx,h]; rfl
 ·rfl
theorem N3{t:TypeId}{x:Operand}(h:bX P t=true):(aK P nm ev ⟨dst,.call ⟨.builtin .len,#[x],#[t]⟩,type,pos,after,guard⟩).run hp =
  Lu (JI P nm ev ⟨dst,.call ⟨.builtin .len,#[x],#[t]⟩,type,pos,after,guard⟩ hp) (ev x):=by
 unfold Lu
 split
 ·rename_i hx; simp[aK,dh,hx,h,nO]; rfl
 ·rfl
theorem N4[ab]{t:TypeId}{x:Operand}{lo hi mx:Option Operand}:(aK P nm ev ⟨dst,.slice t x lo hi mx,type,pos,after,guard⟩).run hp=(m8 P t (ev x) (lo.map ev) (hi.map ev) (mx.map ev)).map fun x=>⟨x,[]⟩:=AN _ _
theorem N5{t:TypeId}{r:bG}(yR:aN P t=some r):m8 P t (.lit cK) none (some (int 0)) none=some (.lit cK):=by
 simp[m8,yR,br,asNat]
theorem N6{t:TypeId}{r:bG}(yR:aN P t=some r){n aq len:Nat}(hv:0<aq):m8 P t (.bq r.size n aq 0 len none) none (some (int 0)) none=some (.bq r.size n aq 0 0 none):=by
 simp[m8,yR,br,asNat,hv]
theorem Lw[ab]{t u:TypeId}{r:bG}{k:IntKind}{z:AV}{n:Nat}(yR:aN P t=some r)(gJ:bX P u=false)(hu:P.underlying u=some (.int k))(hz:cj r=some z)(hr:0<r.size)
  (ho:aG r.isAgg r.size z=true) (hn:0<n) (h1:n*r.bytes≤2^44) (h2:n≤2^44) :
  (fD P nm t u (.lit cK) (int n)).run hp=some ⟨.bq r.size nm n 0 n none,[(nm,.arr true true false (List.replicate n z))]⟩:=by
 have dK:(List.replicate n z).isEmpty=false:=by cases n with
  |zero=>omega
  |succ n=>rfl
 have bg:(List.replicate n z).all (aG r.isAgg r.size)=true:=by simp[ho]
 simp only[fD,yR,wg,gJ,hu,hz,rL,RM.run_bind,h1,h2,and_self,if_true,RM.run_pure,Option.bind_some,Option.isSome_some,hr,bg,decide_true,Bool.and_self,dK,List.length_replicate]
theorem FF[ab]{k n:Nat}{xs:List AV}{esz:Nat}{cap:Option Nat}{g f:Bool}(h:(RM.arr n xs.length).run hp=some (g,true,f,xs)):(aW (k+1) (.bq esz n xs.length 0 xs.length cap)).run hp=some (.sl xs):=by
 simp[aW,RM.run_bind,h,RM.run_pure]
def wb:AV→AV
 |.lit (.slice none 0 0)=>.sl []
 |x=>x
theorem Ao{E:Env}{o:Bool}{x:AV}{v:Value}(h:aj E o x v):aj E o (wb x) v:=by
 unfold wb
 split
 ·grind[aj]
 ·exact h
theorem yC[ab]{E:Env}{c:Array Value}{esz:Nat}:∀ {xs:List AV} {pos:Nat},dM E xs c pos esz→dM E (xs.map wb) c pos esz
 |[],_,_=>by simp[dM]
 |x::xs,pos,h=>by
  simp only[dM,List.map_cons]at h ⊢
  obtain⟨⟨v,h1,h2⟩,h3⟩:=h
  exact⟨⟨v,Ao h1,h2⟩,yC h3⟩
theorem Ij[ab]{E:Env}{o:Bool}{xs:List AV}{v:Value}(h:aj E o (.sl xs) v):aj E o (.sl (xs.map wb)) v:=by
 simp only[aj,List.length_map]at h ⊢
 obtain⟨a,cap,h1,h2,h3,h4⟩:=h
 refine⟨a,cap,h1,h2,h3,?_⟩
 rcases h4 with h4|⟨b,of,esz,c,h5,h6,h7⟩
 ·left; rw[h4]; rfl
 ·exact .inr ⟨b,of,esz,c,h5,h6,yC h7⟩
def wc:List AV→Option (List (List AV))
 |[]=>some []
 |.sl l::xs=>(wc xs).map fun r=>l::r
 |_::_=>none
theorem DL:∀ {xs:List AV} {ls:List (List AV)},wc xs=some ls→xs=ls.map .sl
 |[],ls,h=>by simp[wc]at h; subst h; rfl
 |x::xs,ls,h=>by
  unfold wc at h
  split at h
  ·rename_i hh; simp at hh
  ·rename_i l xs' hh
   simp only[List.cons.injEq]at hh
   obtain⟨rfl,rfl⟩:=hh
   simp only[Option.map_eq_some_iff]at h
   obtain⟨r,h1,rfl⟩:=h
   rw[DL h1]; rfl
  ·simp at h
def Xb(r:bG):List AV→Option AV
 |[.sl xs]=>if xs.all (aG r.isAgg r.size)=true∧xs.length*r.bytes≤2^44∧xs.length≤2^44 then some (.sl xs) else none
 |[.lit (.slice none 0 0)]=>some (.sl [])
 |_=>none
def mG(r:bG):List AV→Option AV
 |[.sl es]=>(match wc (es.map wb) with
  |some ls=>if ls.length≤2^44∧ls.flatten.all (aG r.isAgg r.size)=true∧ls.flatten.length*r.bytes≤2^44∧ls.flatten.length≤2^44 then some (.sl ls.flatten) else none
  |none=>none)
 |[.lit (.slice none 0 0)]=>some (.sl [])
 |_=>none
theorem DM[ab]{C0:Ctx}(bL:C0.Ok){g:FuncId}{xs:List AV}{r:AV}
  (h0:∃ res hJ,ky C0 g [.sl xs] []=some (.val res,hJ)∧(aW 1000 res).run hJ=some r)
  (Ec:Env) (w:World) (vs:List Value) (hI:Inv Ec [] w) (ha:an Ec false [.sl xs] vs):Calls C0.P g vs.toArray w (bO Ec w [] (.val r)):=by
 obtain⟨res,hJ,he,h⟩:=h0
 have out:(gh [.sl xs] hJ (.val res)).run []=some (.val r,[]):=by
  simp only[gh,h]
  split
  ·rfl
  ·simp[ck,names,dJ,RM.run_bind,RM.run_pure]
 have ha2:an Ec true [.sl xs] vs:=by
  match vs,ha with
  |[],ha=>simp[an]at ha
  |_::_::_,ha=>simp[an]at ha
  |[v],ha=>
   simp only[an]at ha ⊢
   exact⟨aj.iv ha.1,trivial⟩
 obtain⟨k,hk⟩:=(bh (mo C0 g [.sl xs] [])).1 he
 have nx:(aM 1000 [.sl xs]).run []=some [.sl xs]:=rfl
 refine uu hI ha2 nx out fun Ec' ig Oa=>?_
 refine(sound bL k).1 g [.sl xs] [] _ _ hk Ec' w vs ig ?_
 match vs,Oa with
 |[],ha=>simp[an]at ha
 |_::_::_,ha=>simp[an]at ha
 |[v],ha=>
  simp only[an]at ha ⊢
  exact⟨aj.iv ha.1,trivial⟩
theorem Ia[ab]{C0:Ctx}(bL:C0.Ok){g:FuncId}{r:bG}
  (h1:∀ ls:List (List AV),ls.length≤2^44→(∀ l∈ls,l.all (aG r.isAgg r.size)=true)→ls.flatten.length*r.bytes≤2^44→ls.flatten.length≤2^44 →
    ∃ res hJ,ky C0 g [.sl (ls.map .sl)] []=some (.val res,hJ)∧(aW 1000 res).run hJ=some (.sl ls.flatten))
  {as:List AV} {a:AV} (h:mG r as=some a) (Ec:Env) (w:World) (vs:List Value) (hI:Inv Ec [] w) (ha:an Ec false as vs):Calls C0.P g vs.toArray w (bO Ec w [] (.val a)):=by
 unfold mG at h
 split at h
 ·rename_i es
  split at h
  case h_2=>simp at h
  rename_i ls hls
  split at h
  case isFalse=>simp at h
  rename_i hc
  simp only[Option.some.injEq]at h
  subst h
  have he:=DL hls
  refine DM bL (xs:=ls.map .sl) (h1 ls hc.1 (fun l hl=>?_) hc.2.2.1 hc.2.2.2) Ec w vs hI ?_
  ·have:=hc.2.1
   rw[List.all_eq_true]at this ⊢
   exact fun x hx=>this x (List.mem_flatten.2 ⟨l,hl,hx⟩)
  ·rw[←he]
   match vs,ha with
   |[],ha=>simp[an]at ha
   |_::_::_,ha=>simp[an]at ha
   |[v],ha=>
    simp only[an]at ha ⊢
    exact⟨Ij ha.1,trivial⟩
 ·simp only[Option.some.injEq]at h
  subst h
  refine DM bL (xs:=[]) (h1 [] (by simp) (by simp) (by simp) (by simp)) Ec w vs hI ?_
  match vs,ha with
  |[],ha=>simp[an]at ha
  |_::_::_,ha=>simp[an]at ha
  |[v],ha=>
   simp only[an]at ha ⊢
   exact⟨Ao ha.1,trivial⟩
 ·simp at h
end Go.PI
end
section
/- PS, part V: copies of lists and lists laid together, as models. -/
namespace Go.PI
def Ki(b n:Nat):Bool:=decide (n*b≤2^44)&&decide (n≤2^44)
def tx{α:Type}(b:Nat)(x:List (List α)):Option (List α):=bif decide (x.length≤2^44)&&Ki b x.flatten.length then some x.flatten else none
def Xc{α:Type}(rpe:α→AV→Prop)(x:List α)(a:AV):Prop:=(∃ l,a=.sl l∧aw rpe x l)∨(x=[]∧a=.lit cK)
theorem yD[ab]{α:Type}{rpe:α→AV→Prop}:∀ {x:List (List α)} {es:List AV},aw (Xc rpe) x es→∃ ls,wc (es.map wb)=some ls∧aw (aw rpe) x ls
 |[],es,h=>by
  have:=h.CV
  subst this
  exact⟨[],rfl,trivial⟩
 |x::xs,[],h=>by simp[aw]at h
 |x::xs,e::es,h=>by
  simp only[aw]at h
  obtain⟨h1,h2⟩:=h
  obtain⟨ls,h3,h4⟩:=yD h2
  rcases h1 with ⟨l,rfl,h⟩|⟨rfl,rfl⟩
  ·refine⟨l::ls,?_,h,h4⟩
   simp only[List.map_cons,wb,wc,h3,Option.map_some]
  ·refine⟨[]::ls,?_,trivial,h4⟩
   simp only[List.map_cons,wb,wc,h3,Option.map_some]
theorem tU[ab]{α:Type}{rpe:α→AV→Prop}:∀ {x:List (List α)} {ls:List (List AV)},aw (aw rpe) x ls→aw rpe x.flatten ls.flatten
 |[],ls,h=>by
  have:=h.CV
  subst this
  exact trivial
 |x::xs,[],h=>by simp[aw]at h
 |x::xs,e::es,h=>by
  simp only[aw]at h
  simp only[List.flatten_cons]
  exact h.1.append (tU h.2)
theorem FA[ab]{α:Type}{rpe:α→AV→Prop}{r:bG}(bL:∀ x a,rpe x a→aG r.isAgg r.size a=true){x:List (List α)}{y:List α}{a:AV}(ha:Xc (Xc rpe) x a)(hy:tx r.bytes x=some y):
  ∃ l,mG r [a]=some (.sl l)∧aw rpe y l:=by
 unfold tx Ki at hy
 cases hq:decide (x.length≤2^44)&&(decide (x.flatten.length*r.bytes≤2^44)&&decide (x.flatten.length≤2^44))
 ·rw[hq]at hy; simp at hy
 rw[hq]at hy
 simp only[cond_true,Option.some.injEq]at hy
 subst hy
 simp only[Bool.and_eq_true,decide_eq_true_eq]at hq
 rcases ha with ⟨es,rfl,h⟩|⟨rfl,rfl⟩
 ·obtain⟨ls,h1,h2⟩:=yD h
  have h3:=tU h2
  rw[h3.length,h2.length]at hq
  refine⟨ls.flatten,?_,h3⟩
  unfold mG
  simp only
  rw[h1]
  simp only
  have bg:ls.flatten.all (aG r.isAgg r.size)=true:=by
   refine List.all_eq_true.2 fun z hz=>?_
   obtain⟨i,hi⟩:=List.getElem?_of_mem hz
   obtain⟨u,_,hu⟩:=h3.get' hi
   exact bL _ _ hu
  rw[if_pos ⟨hq.1,bg,hq.2.1,hq.2.2⟩]
 ·exact⟨[],rfl,trivial⟩
theorem Fz[ab]{C:Ctx}{T:dw}{g:FuncId}{t u:Nat}{I:List AV→Option AV}{F:T.den t→Option (T.den u)}(hk:C.kind g=.pure)(hi:C.kv g=some I)
  (h:∀ x a y,T.rp t x a→F x=some y→∃ l,I [a]=some (.sl l)∧T.rp u y (.sl l)):p8 C T g ⟨[t],[u],F⟩ where
 kind:=hk
 Q3:=by
  intro x as y hx hy
  match as,hx with
  |[],hx=>exact False.elim hx
  |_::_::_,hx=>exact False.elim hx.2
  |[a],hx=>
   obtain⟨l,h1,h2⟩:=h x a y hx.1 hy
   refine⟨.sl l,[],[.sl l],?_,rfl,rfl,?_⟩
   ·simp only[KY,hi,h1]; rfl
   ·exact⟨h2,trivial⟩
end Go.PI
end
section
/- PS, part W: a copy of a slice is the caller's own. -/
namespace Go.PI
end Go.PI
end
section
/- Plain laws: loops of models. -/
namespace Go.Pl
open Go.PI
theorem next[ab]{τ ω:Type}{f:τ→Option (τ ⊕ ω)}{x y:τ}(h:f x=some (.inl y)):aO f x=aO f y:=by
 rw[CE,h]; rfl
theorem out[ab]{τ ω:Type}{f:τ→Option (τ ⊕ ω)}{x:τ}{w:ω}(h:f x=some (.inr w)):aO f x=some w:=by
 rw[CE,h]; rfl
theorem xI(p:Nat→Bool)(n i:Nat)(hi:i<n):(List.range' i (n-i)).all p=(p i&&(List.range' (i+1) (n-(i+1))).all p):=by
 grind
theorem pM[ab]{τ ω:Type}{f:τ→Option (τ ⊕ ω)}(st:Nat→τ)(p:Nat→Bool)(bad:Nat→ω)(n:Nat)(e:ω)
  (h:∀ i,i<n→f (st i)=some (bif p i then .inl (st (i+1)) else .inr (bad i))) (he:f (st n)=some (.inr e)) :
  (List.range n).all p=true∧aO f (st 0)=some e∨(List.range n).all p=false∧∃ i,i<n∧p i=false∧aO f (st 0)=some (bad i):=by
 have key:∀ m i,m=n-i→i≤n→(List.range' i (n-i)).all p=true∧aO f (st i)=some e∨(List.range' i (n-i)).all p=false∧∃ j,j<n∧p j=false∧aO f (st i)=some (bad j):=by
  intro m
  induction m with
  |zero=>
   intro i hm hi
   have:i=n:=by omega
   subst this
   left
   rw[Nat.sub_self]
   exact⟨rfl,out he⟩
  |succ m ih=>
   intro i hm hi
   have bS:i<n:=by omega
   have hs:=h i bS
   rw[xI p n i bS]
   cases hp:p i with
   |false=>
    rw[hp]at hs
    right
    exact⟨by simp,i,bS,hp,out hs⟩
   |true=>
    rw[hp]at hs
    rw[next hs]
    simpa using ih (i+1) (by omega) (by omega)
 have:=key n 0 rfl (Nat.zero_le _)
 rwa [Nat.sub_zero,←List.range_eq_range']at this
theorem zW{α:Type}{l:List α}{q:α→Bool}{p:Nat→Bool}(h:∀ i (hi:i<l.length),p i=q l[i]):(List.range l.length).all p=l.all q:=by
 rw[Bool.eq_iff_iff,List.all_eq_true,List.all_eq_true]
 constructor
 ·intro hp x hx
  obtain⟨i,hi,rfl⟩:=List.getElem_of_mem hx
  rw[←h i hi]; exact hp i (List.mem_range.2 hi)
 ·simp_all
theorem uD[ab]{α τ ω:Type}{f:τ→Option (τ ⊕ ω)}(l:List α)(st:Nat→τ)(q:α→Bool)(bad e:ω){x0:τ}
  (h:∀ i (hi:i<l.length),f (st i)=some (bif q l[i] then .inl (st (i+1)) else .inr bad)) (he:f (st l.length)=some (.inr e)) (hx:x0=st 0) :
  aO f x0=some (bif l.all q then e else bad):=by
 subst hx
 have hp:∀ i (hi:i<l.length),(fun i=>(l[i]?.map q).getD false) i=q l[i]:=by
  simp_all
 rcases pM st (fun i=>(l[i]?.map q).getD false) (fun _=>bad) l.length e (fun i hi=>by have:=hp i hi; simp only at this; rw[this]; exact h i hi) he with ⟨h1,h2⟩|⟨h1,i,_,_,h2⟩
 ·rw[zW hp]at h1; rw[h2,h1]; rfl
 ·rw[zW hp]at h1; rw[h2,h1]; rfl
end Go.Pl
end
section
/- The types of this seat, as Lean's (printed by gen_tys.py out of the dump). -/
namespace Go.Proofs.Ytedjbjphpnkpoaa
open Go.PI
instance:ab:=⟨fun _=>none,fun _=>false⟩
structure dP where
 A:Bool
 N:Int
structure bP where
 ay:List Int
 af:List (List Int)
 aD:List Int
structure ai where
 du:Int
 Den:Int
structure cb where
 Net:bP
 CI:List Bool
 CJ:List ai
def den:Nat→Type
 |2=>Int
 |3=>Int
 |4=>Bool
 |5=>Int
 |9=>ByteArray
 |22=>List Int
 |23=>List (List Int)
 |24=>bP
 |25=>bP
 |26=>List ai
 |29=>Int
 |34=>ai
 |35=>ai
 |36=>List Int
 |53=>List Bool
 |54=>cb
 |55=>cb
 |56=>List dP
 |57=>Int
 |58=>Int
 |73=>Int
 |78=>Int
 |81=>dP
 |82=>dP
 |86=>ai
 |87=>ai
 |96=>Int
 |104=>Int
 |106=>Int
 |115=>Int
 |52=>cb
 |_=>Unit
abbrev V:=SV den
def up2(x:Int):V:=.lit (.int .i64 x)
def dn2(v:V):Option Int:=dI .i64 v
def rp2(x:Int)(a:AV):Prop:=a=.lit (.int .i64 x)
def S5(x:Int):V:=.lit (.int .i64 x)
def Mg(v:V):Option Int:=dI .i64 v
def Mf(x:Int)(a:AV):Prop:=a=.lit (.int .i64 x)
def up4(x:Bool):V:=.lit (.bool x)
def Yp(v:V):Option Bool:=dB v
def Yq(x:Bool)(a:AV):Prop:=a=.lit (.bool x)
def up5(x:Int):V:=.lit (.int .u8 x)
def dn5(v:V):Option Int:=dI .u8 v
def rp5(x:Int)(a:AV):Prop:=a=.lit (.int .u8 x)
def up9(x:ByteArray):V:=.lit (.string x)
def dn9(v:V):Option ByteArray:=dS v
def rp9(x:ByteArray)(a:AV):Prop:=a=.lit (.string x)
def WC(x:List Int):V:=.jt 3 x
def Ig(v:V):Option (List Int):=OF (den:=den) 3 Mg v
def DH(x:List Int)(a:AV):Prop:=Nw Mf x a
def WD(x:List (List Int)):V:=.jt 22 x
def QC(v:V):Option (List (List Int)):=OF (den:=den) 22 Ig v
def NU(x:List (List Int))(a:AV):Prop:=Nw DH x a
def NV(x:bP):V:=.agg [.jt 3 x.ay,.jt 22 x.af,.jt 3 x.aD]
def NW:V→Option bP
 |.agg [a0,a1,a2]=>(Ig a0).bind fun b0=>(QC a1).bind fun b1=>(Ig a2).bind fun b2=>some ⟨b0,b1,b2⟩
 |_=>none
def Ih(x:bP)(a:AV):Prop:=∃ a0 a1 a2,DH x.ay a0∧NU x.af a1∧DH x.aD a2∧a=.agg [a0,a1,a2]
def NX(x:ai):V:=.agg [.lit (.int .i64 x.du),.lit (.int .i64 x.Den)]
def Lo:V→Option ai
 |.agg [a0,a1]=>(Mg a0).bind fun b0=>(Mg a1).bind fun b1=>some ⟨b0,b1⟩
 |_=>none
def DI(x:ai)(a:AV):Prop:=a=.agg [.lit (.int .i64 x.du),.lit (.int .i64 x.Den)]
def WE(x:List ai):V:=.jt 35 x
def S6(v:V):Option (List ai):=OF (den:=den) 35 Lo v
def S7(x:List ai)(a:AV):Prop:=Nw DI x a
def WG(x:Int):V:=.lit (.int .u16 x)
def S8(v:V):Option Int:=dI .u16 v
def S9(x:Int)(a:AV):Prop:=a=.lit (.int .u16 x)
def WH(x:List Int):V:=.jt 73 x
def WI(v:V):Option (List Int):=OF (den:=den) 73 S8 v
def WJ(x:List Int)(a:AV):Prop:=Nw S9 x a
def WK(x:List Bool):V:=.jt 4 x
def Ta(v:V):Option (List Bool):=OF (den:=den) 4 Yp v
def Tb(x:List Bool)(a:AV):Prop:=Nw Yq x a
def Lp(x:cb):V:=.agg [.jt 3 x.Net.ay,.jt 22 x.Net.af,.jt 3 x.Net.aD,.jt 4 x.CI,.jt 35 x.CJ]
def Lq:V→Option cb
 |.agg [a0,a1,a2,a3,a4]=>(Ig a0).bind fun b0=>(QC a1).bind fun b1=>(Ig a2).bind fun b2=>(Ta a3).bind fun b3=>(S6 a4).bind fun b4=>some ⟨⟨b0,b1,b2⟩,b3,b4⟩
 |_=>none
def Ii(x:cb)(a:AV):Prop:=∃ a0 a1 a2 a3 a4,DH x.Net.ay a0∧NU x.Net.af a1∧DH x.Net.aD a2∧Tb x.CI a3∧S7 x.CJ a4∧a=.agg [a0,a1,a2,a3,a4]
def NY(x:dP):V:=bif x.A then .gd 57 (.lit (.int .i64 x.N)) else .gd 58 (.lit (.int .i64 x.N))
def Lr(v:V):Option dP:=match v with
 |.gd t w=>(dI .i64 w).bind fun n=>bif Nat.beq t 57 then some ⟨true,n⟩ else bif Nat.beq t 58 then some ⟨false,n⟩ else none
 |_=>none
def DJ(x:dP)(a:AV):Prop:=a=.gd (bif x.A then 57 else 58) (.lit (.int .i64 x.N))
def WL(x:List dP):V:=.jt 82 x
def WM(v:V):Option (List dP):=OF (den:=den) 82 Lr v
def WN(x:List dP)(a:AV):Prop:=Nw DJ x a
def WO(x:Int):V:=.lit (.int .u64 x)
def WQ(v:V):Option Int:=dI .u64 v
def WR(x:Int)(a:AV):Prop:=a=.lit (.int .u64 x)
def NZ(x:ai):V:=.agg [.lit (.int .i64 x.du),.lit (.int .i64 x.Den)]
def N0:V→Option ai
 |.agg [a0,a1]=>(Mg a0).bind fun b0=>(Mg a1).bind fun b1=>some ⟨b0,b1⟩
 |_=>none
def FE(x:ai)(a:AV):Prop:=a=.agg [.lit (.int .i64 x.du),.lit (.int .i64 x.Den)]
def Tc(x:Int):V:=.lit (.int .u32 x)
def Td(v:V):Option Int:=dI .u32 v
def Te(x:Int)(a:AV):Prop:=a=.lit (.int .u32 x)
def OW(x:Int):V:=.lit (.int .u64 x)
def OX(v:V):Option Int:=dI .u64 v
def OY(x:Int)(a:AV):Prop:=a=.lit (.int .u64 x)
def WS(x:cb):V:=.bf (Lp x) 0
def WT(v:V):Option cb:=Vz Lq v
def WU(x:cb)(a:AV):Prop:=Ub Ii x a
def up:(t:Nat)→den t→V
 |2,x=>up2 x
 |3,x=>S5 x
 |4,x=>up4 x
 |5,x=>up5 x
 |9,x=>up9 x
 |22,x=>WC x
 |23,x=>WD x
 |24,x=>NV x
 |25,x=>NV x
 |26,x=>WE x
 |29,x=>S5 x
 |34,x=>NX x
 |35,x=>NX x
 |36,x=>WH x
 |53,x=>WK x
 |54,x=>Lp x
 |55,x=>Lp x
 |56,x=>WL x
 |57,x=>S5 x
 |58,x=>S5 x
 |73,x=>WG x
 |78,x=>WO x
 |81,x=>NY x
 |82,x=>NY x
 |86,x=>NZ x
 |87,x=>NZ x
 |96,x=>S5 x
 |104,x=>Tc x
 |106,x=>OW x
 |115,x=>OW x
 |52,x=>WS x
 |_,_=>.dead
def dn:(t:Nat)→V→Option (den t)
 |2,v=>dn2 v
 |3,v=>Mg v
 |4,v=>Yp v
 |5,v=>dn5 v
 |9,v=>dn9 v
 |22,v=>Ig v
 |23,v=>QC v
 |24,v=>NW v
 |25,v=>NW v
 |26,v=>S6 v
 |29,v=>Mg v
 |34,v=>Lo v
 |35,v=>Lo v
 |36,v=>WI v
 |53,v=>Ta v
 |54,v=>Lq v
 |55,v=>Lq v
 |56,v=>WM v
 |57,v=>Mg v
 |58,v=>Mg v
 |73,v=>S8 v
 |78,v=>WQ v
 |81,v=>Lr v
 |82,v=>Lr v
 |86,v=>N0 v
 |87,v=>N0 v
 |96,v=>Mg v
 |104,v=>Td v
 |106,v=>OX v
 |115,v=>OX v
 |52,v=>WT v
 |_,_=>none
def rp:(t:Nat)→den t→AV→Prop
 |2,x,a=>rp2 x a
 |3,x,a=>Mf x a
 |4,x,a=>Yq x a
 |5,x,a=>rp5 x a
 |9,x,a=>rp9 x a
 |22,x,a=>DH x a
 |23,x,a=>NU x a
 |24,x,a=>Ih x a
 |25,x,a=>Ih x a
 |26,x,a=>S7 x a
 |29,x,a=>Mf x a
 |34,x,a=>DI x a
 |35,x,a=>DI x a
 |36,x,a=>WJ x a
 |53,x,a=>Tb x a
 |54,x,a=>Ii x a
 |55,x,a=>Ii x a
 |56,x,a=>WN x a
 |57,x,a=>Mf x a
 |58,x,a=>Mf x a
 |73,x,a=>S9 x a
 |78,x,a=>WR x a
 |81,x,a=>DJ x a
 |82,x,a=>DJ x a
 |86,x,a=>FE x a
 |87,x,a=>FE x a
 |96,x,a=>Mf x a
 |104,x,a=>Te x a
 |106,x,a=>OY x a
 |115,x,a=>OY x a
 |52,x,a=>WU x a
 |_,_,_=>False
def Tf:Nat→Bool
 |24=>true
 |25=>true
 |34=>true
 |35=>true
 |54=>true
 |55=>true
 |86=>true
 |87=>true
 |_=>false
def OZ:Nat→Nat
 |24=>3
 |25=>3
 |34=>2
 |35=>2
 |54=>5
 |55=>5
 |86=>2
 |87=>2
 |_=>1
def O0:(t:Nat)→Option (den t)
 |2=>some (0:Int)
 |3=>some (0:Int)
 |4=>some (false:Bool)
 |5=>some (0:Int)
 |9=>some (ByteArray.empty:ByteArray)
 |22=>some ([]:List Int)
 |23=>some ([]:List (List Int))
 |24=>some (⟨[],[],[]⟩:bP)
 |25=>some (⟨[],[],[]⟩:bP)
 |26=>some ([]:List ai)
 |29=>some (0:Int)
 |34=>some (⟨0,0⟩:ai)
 |35=>some (⟨0,0⟩:ai)
 |36=>some ([]:List Int)
 |53=>some ([]:List Bool)
 |54=>some (⟨⟨[],[],[]⟩,[],[]⟩:cb)
 |55=>some (⟨⟨[],[],[]⟩,[],[]⟩:cb)
 |56=>some ([]:List dP)
 |57=>some (0:Int)
 |58=>some (0:Int)
 |73=>some (0:Int)
 |78=>some (0:Int)
 |86=>some (⟨0,0⟩:ai)
 |87=>some (⟨0,0⟩:ai)
 |96=>some (0:Int)
 |104=>some (0:Int)
 |106=>some (0:Int)
 |115=>some (0:Int)
 |_=>none
def m5:j0:=⟨false,1,1,some (.lit (.int .u8 0)),.other,none,none⟩
def m7:j0:=⟨true,4,24,some (.agg [zI,zI,zB,.lit (.int .u8 0)]),.struct [(0,2),(1,3),(2,4),(3,6)],none,none⟩
def Us:j0:=⟨false,1,8,some (.lit (.int .u64 0)),.other,none,none⟩
def Yr:j0:=⟨true,2,24,some (.agg [zS,.lit (.int .u64 0)]),.struct [(0,9),(1,12)],none,none⟩
def Ys:j0:=⟨true,1,8,some (.agg [.lit (.pointer none)]),.struct [(0,17)],none,none⟩
def WV:j0:=⟨false,1,16,some (.lit .nilIface),.iface,none,none⟩
def WW:j0:=⟨false,1,4,some (.lit (.int .i32 0)),.other,none,none⟩
def Yt:j0:=⟨true,3,72,some (.agg [zL,zL,zL]),.struct [(0,22),(1,23),(2,22)],none,none⟩
def Yu:j0:=⟨true,2,16,some (.agg [zI,zI]),.struct [(0,3),(1,3)],some [kI,kI],none⟩
def Yv:j0:=⟨true,5,120,some (.agg [zL,zL,zL,zL,zL]),.struct [(0,25),(3,53),(4,26)],none,none⟩
def Yw:j0:=⟨true,2,16,some (.agg [zI,zI]),.struct [(0,35)],some [kI,kI],none⟩
def Tg:j0:=⟨true,4,40,some (.agg [.lit (.pointer none),.lit (.pointer none),.lit (.pointer none),zS]),.struct [(0,17),(1,17),(2,17),(3,9)],none,none⟩
def Th:j0:=⟨true,11,48,some (.agg [.lit (.int .u64 0),.lit (.int .u64 0),.lit (.int .u32 0),.lit (.int .u8 0),.lit (.int .u8 0),.lit (.int .u8 0),.lit (.int .u8 0),zF,.lit (.pointer none),.lit (.int .i32 0),.lit (.int .i32 0)]),.struct [(0,12),(1,12),(2,104),(3,135),(4,5),(5,5),(6,136),(7,137),(8,138),(9,139),(10,140)],none,none⟩
def Bi:List (Nat×j0):=[
 (1,mF),
 (2,mI),
 (3,mI),
 (4,⟨false,1,1,some zB,.other,none,none⟩),
 (5,m5),
 (6,m5),
 (7,m7),
 (8,m7),
 (9,mS),
 (10,mS),
 (11,mS),
 (12,Us),
 (13,Yr),
 (14,Yr),
 (15,mP),
 (16,mP),
 (17,mP),
 (18,Ys),
 (19,Ys),
 (20,WV),
 (21,WW),
 (22,mL 3),
 (23,mL 22),
 (24,Yt),
 (25,Yt),
 (26,mL 35),
 (27,mF),
 (28,mF),
 (29,mI),
 (31,mF),
 (32,mF),
 (33,mF),
 (34,Yu),
 (35,Yu),
 (36,mL 73),
 (37,mF),
 (38,mF),
 (40,mF),
 (41,mF),
 (42,mF),
 (44,mF),
 (45,mF),
 (46,mF),
 (47,mF),
 (48,mF),
 (49,mF),
 (50,mF),
 (51,mF),
 (52,mP),
 (53,mL 4),
 (54,Yv),
 (55,Yv),
 (56,mL 82),
 (57,mI),
 (58,mI),
 (59,mF),
 (60,mF),
 (62,mF),
 (63,mF),
 (64,mF),
 (65,mF),
 (66,mF),
 (67,mF),
 (68,mF),
 (69,mF),
 (70,mF),
 (71,mF),
 (72,mF),
 (73,⟨false,1,2,some (.lit (.int .u16 0)),.other,none,none⟩),
 (75,mF),
 (76,mF),
 (77,mF),
 (78,Us),
 (79,mF),
 (80,mF),
 (81,WV),
 (82,WV),
 (83,mF),
 (84,mF),
 (85,mF),
 (86,Yw),
 (87,Yw),
 (88,mF),
 (89,mF),
 (90,mF),
 (91,mF),
 (92,mF),
 (93,mF),
 (94,mF),
 (95,mF),
 (96,mI),
 (98,mF),
 (99,mF),
 (100,mF),
 (102,mF),
 (103,mF),
 (104,⟨false,1,4,some (.lit (.int .u32 0)),.other,none,none⟩),
 (105,mF),
 (106,Us),
 (107,mF),
 (108,mF),
 (109,mF),
 (110,mF),
 (111,mF),
 (112,mF),
 (113,mF),
 (114,mF),
 (115,Us),
 (116,mF),
 (117,mF),
 (118,mF),
 (119,mP),
 (120,mF),
 (121,mF),
 (122,mF),
 (124,mF),
 (125,mP),
 (126,mF),
 (127,mF),
 (128,mF),
 (129,Tg),
 (130,Tg),
 (134,mF),
 (135,m5),
 (136,m5),
 (137,mF),
 (138,mP),
 (139,WW),
 (140,WW),
 (141,Th),
 (142,Th)]
def QD:(t:Nat)→Option ((den t→Bool)×(den t→V)×(den t→V))
 |81=>some (fun (x:dP)=>x.A,fun (x:dP)=>.gd 57 (.lit (.int .i64 x.N)),fun (x:dP)=>.gd 58 (.lit (.int .i64 x.N)))
 |82=>some (fun (x:dP)=>x.A,fun (x:dP)=>.gd 57 (.lit (.int .i64 x.N)),fun (x:dP)=>.gd 58 (.lit (.int .i64 x.N)))
 |_=>none
abbrev T:dw:=⟨den,up,dn,rp,Tf,OZ,O0,QD⟩
end Go.Proofs.Ytedjbjphpnkpoaa
end
