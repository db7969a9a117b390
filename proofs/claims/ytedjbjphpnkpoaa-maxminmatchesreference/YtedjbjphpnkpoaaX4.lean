/- Part 4 of the proof: texts of this session laid one behind the other. -/
import Derived.KernelRfl
import Derived.IntWalk
import Derived.Test.YtedjbjphpnkpoaaX3
set_option linter.unusedVariables false
set_option linter.unusedSimpArgs false
section
/- PS, part O: a state goes over into one with variables. -/
namespace Go.PI
variable {T:dP}{ρ:Type}
section
variable {H0 Hs Hf:ai T.den}
mutual
theorem R.eJ(ht:∀ n c v0 aq,gh H0 n c v0→gh Hs n c aq→gh Hf n c aq)(hx:∀ (n:Nat) (o:aE T.den),H0[n]?=some (some o)→∃ o,Hf[n]?=some (some o)):∀ {v:SV T.den} {a0 a:AV},R T H0 v a0→R T Hs v a→R T Hf v a
 |.dead,_,_,h,_=>by simp[R]at h
 |.hole,a0,a,_,h=>by simpa[R] using h
 |.lit v,a0,a,_,h=>by simpa[R] using h
 |.agg l,a0,a,h0,h=>by
  simp only[R]at h0 h ⊢
  obtain⟨l0,_,h2⟩:=h0
  obtain⟨l',h1,h3⟩:=h
  exact⟨l',h1,RL.eJ ht hx h2 h3⟩
 |.jU l,a0,a,h0,h=>by
  simp only[R]at h0 h ⊢
  obtain⟨l0,_,h2⟩:=h0
  obtain⟨l',h1,h3⟩:=h
  exact⟨l',h1,RL.eJ ht hx h2 h3⟩
 |.sl l,a0,a,h0,h=>by
  simp only[R]at h0 h ⊢
  obtain⟨l0,_,h2,_⟩:=h0
  obtain⟨l',h1,h3,h4⟩:=h
  exact⟨l',h1,RL.eJ ht hx h2 h3,h4⟩
 |.jT t l,a0,a,_,h=>by simpa[R] using h
 |.xB t l c b,a0,a,_,h=>by simp only[R]at h ⊢; exact h
 |.nz,a0,a,_,h=>by simp only[R]at h ⊢; exact h
 |.bk e j,a0,a,h0,h=>by
  simp only[R]at h0 h ⊢
  obtain⟨l0,_,h2,_⟩:=h0
  obtain⟨l',h1,h3,h4⟩:=h
  exact⟨l',h1,R.eJ ht hx h2 h3,h4⟩
 |.ref m c i j,a0,a,h0,h=>by
  grind[R]
 |.jt m c i j ln cp,a0,a,h0,h=>by
  grind[R]
 |.bu esz m c rg cap,a0,a,h0,h=>by
  grind[R]
 |.ju fn f c,a0,a,h0,h=>by
  simp only[R]at h0 h ⊢
  obtain⟨_,_,_,g1,g2⟩:=h0
  obtain⟨f',c',h1,h2,h3⟩:=h
  exact⟨f',c',h1,RL.eJ ht hx g1 h2,RL.eJ ht hx g2 h3⟩
 |.gH t v,a0,a,h0,h=>by
  simp only[R]at h0 h ⊢
  obtain⟨l0,_,h2⟩:=h0
  obtain⟨l',h1,h3⟩:=h
  exact⟨l',h1,R.eJ ht hx h2 h3⟩
 |.mp y n,a0,a,h0,h=>by
  grind[R]
 |.tz v s l i,a0,a,h0,h=>by
  simp only[R]at h0 h ⊢
  obtain⟨b0,h2,_⟩:=h0
  obtain⟨b,h3,h4⟩:=h
  exact⟨b,R.eJ ht hx h2 h3,h4⟩
theorem RL.eJ(ht:∀ n c v0 aq,gh H0 n c v0→gh Hs n c aq→gh Hf n c aq)(hx:∀ (n:Nat) (o:aE T.den),H0[n]?=some (some o)→∃ o,Hf[n]?=some (some o)):∀ {l:List (SV T.den)} {m0 m:List AV},RL T H0 l m0→RL T Hs l m→RL T Hf l m
 |[],[],[],_,_=>by simp[RL]
 |x::xs,y0::VD,y::ys,h0,h=>by
  simp only[RL]at h0 h ⊢
  exact⟨R.eJ ht hx h0.1 h.1,RL.eJ ht hx h0.2 h.2⟩
 |[],_::_,_,h,_=>by simp[RL]at h
 |[],[],_::_,_,h=>by simp[RL]at h
 |_::_,[],_,h,_=>by simp[RL]at h
 |_::_,_::_,[],_,h=>by simp[RL]at h
end
end
theorem kV{Hs:ai T.den}:∀ {objs:List (Nat×c8)} {l:List (TV T.den)},kE Hs objs=some l→∀ q,q∈objs→∃ o ln,Hs[q.1]?=some (some o)∧eO Hs o q.2=some ln
 |[],_,_,q,hq=>by simp at hq
 |(n,p)::r,l,h,q,hq=>by
  simp only[kE]at h
  split at h
  case h_2=>simp at h
  rename_i o ho
  rw[Option.bind_eq_some_iff]at h
  obtain⟨ln,h1,h⟩:=h
  rw[Option.map_eq_some_iff]at h
  obtain⟨l2,h2,rfl⟩:=h
  rcases List.mem_cons.1 hq with rfl|hq
  ·exact⟨o,ln,ho,h1⟩
  ·exact kV h2 q hq
def Cc(p:c8)(c:Nat):Nat:=
 match p with
 |.list _=>c+1
 |_=>c
theorem HH(p:c8)(c:Nat):c≤Cc p c:=by cases p<;>simp[Cc]
theorem OX{p:c8}(h:∀ t,p≠.list t)(c:Nat):Cc p c=c:=by
 cases p with
 |list t=>exact absurd rfl (h t)
 |_=>rfl
def Start(H:ai T.den)(o:aE T.den)(p:c8):Prop:=(∃ ln,eO H o p=some ln)∨(((∃ q,p=.one q)∨∃ ps,p=.agg ps)∧∃ g cl f c e,o=.arr g cl f c [e])
theorem Ej{Hs:ai T.den}{o:aE T.den}{p:c8}{ln:List (TV T.den)}(h:eO Hs o p=some ln):Compat (nh o p) p∧(nh o p).flags.1=o.flags.1∧(nh o p).flags.2.1=o.flags.2.1∧(nh o p).flags.2.2=o.flags.2.2 ∧
  (nh o p).cur=Cc p o.cur:=by
 cases p with
 |list t=>
  cases o with
  |arr g cl f c es=>
   cases cl with
   |true=>exact⟨⟨g,f,c+1,[],rfl⟩,rfl,rfl,rfl,rfl⟩
   |false=>cases h
  |cj g f c t' l=>exact⟨⟨g,f,c+1,[],rfl⟩,rfl,rfl,rfl,rfl⟩
  |_=>cases h
 |fix t=>
  cases o with
  |arr g cl f c es=>
   cases cl with
   |true=>exact⟨⟨g,f,c,[],rfl⟩,rfl,rfl,rfl,rfl⟩
   |false=>cases h
  |cj g f c t' l=>exact⟨⟨g,f,c,[],rfl⟩,rfl,rfl,rfl,rfl⟩
  |_=>cases h
 |one q=>
  cases o with
  |arr g cl f c es=>exact⟨⟨g,cl,f,c,es,rfl⟩,rfl,rfl,rfl,rfl⟩
  |_=>cases h
 |agg ps=>
  cases o with
  |arr g cl f c es=>exact⟨⟨g,cl,f,c,es,rfl⟩,rfl,rfl,rfl,rfl⟩
  |_=>cases h
 |map kk t=>
  obtain⟨m,rfl,rfl⟩:=uH h
  exact⟨⟨[],rfl⟩,rfl,rfl,rfl,rfl⟩
theorem zg{Hs:ai T.den}{o:aE T.den}{p:c8}(h:Start Hs o p):Compat (nh o p) p∧(nh o p).flags.1=o.flags.1∧(nh o p).flags.2.1=o.flags.2.1∧(nh o p).flags.2.2=o.flags.2.2 ∧
  (nh o p).cur=Cc p o.cur:=by
 rcases h with ⟨ln,h⟩|⟨⟨q,rfl⟩|⟨ps,rfl⟩,g,cl,f,c,e,rfl⟩
 ·exact Ej h
 ·exact⟨⟨g,cl,f,c,[e],rfl⟩,rfl,rfl,rfl,rfl⟩
 ·exact⟨⟨g,cl,f,c,[e],rfl⟩,rfl,rfl,rfl,rfl⟩
theorem jr:∀ {ext:List pD} {n:Nat} {q:Nat×c8},q∈bf n ext→∃ i g f t,q=(n+i,.list t)∧ext[i]?=some (.list g f t)
 |[],_,q,h=>by simp[bf]at h
 |.iB::r,n,q,h=>by
  simp only[bf]at h
  obtain⟨i,g,f,t,rfl,h2⟩:=jr h
  exact⟨i+1,g,f,t,by rw[show n+1+i=n+(i+1) by omega],by simpa using h2⟩
 |.list g f t::r,n,q,h=>by
  simp only[bf]at h
  rcases List.mem_cons.1 h with rfl|h
  ·exact⟨0,g,f,t,rfl,rfl⟩
  ·obtain⟨i,g',f',t',rfl,h2⟩:=jr h
   exact⟨i+1,g',f',t',by rw[show n+1+i=n+(i+1) by omega],by simpa using h2⟩
theorem nI[ae]:∀ {ext:List pD} {n:Nat},dx ((bf n ext).map (·.1))=true
 |[],_=>rfl
 |.iB::r,n=>by simp only[bf]; exact nI
 |.list g f t::r,n=>by
  simp only[bf,List.map_cons,dx,Bool.and_eq_true,Bool.not_eq_true',List.contains_eq_mem,decide_eq_false_iff_not]
  refine⟨fun h=>?_,nI⟩
  obtain⟨q,hq,e⟩:=List.mem_map.1 h
  obtain⟨i,_,_,_,rfl,_⟩:=jr hq
  simp only at e
  omega
theorem A7[ae]:∀ {l m:List Nat},dx l=true→dx m=true→(∀ x,x∈l→x∉m)→dx (l++m)=true
 |[],m,_,h,_=>h
 |x::l,m,h,h',hd=>by
  obtain⟨h1,h2⟩:=nodup_cons h
  simp only[List.cons_append,dx,Bool.and_eq_true,Bool.not_eq_true',List.contains_eq_mem,decide_eq_false_iff_not,List.mem_append,not_or]
  exact⟨⟨h1,hd x (by simp)⟩,A7 h2 h' fun y hy=>hd y (List.mem_cons_of_mem _ hy)⟩
theorem uI{H:ai T.den}:∀ {ext:List pD} {n i:Nat} {e:pD},DH H n ext=true→ext[i]?=some e→∃ o,H[n+i]?=some (some o)∧(match e with|.iB=>o.flags.2.1=true|.list g f _=>o.flags=(g,true,f))
 |[],_,i,e,_,h=>by simp at h
 |x::r,n,i,e,hx,h=>by
  simp only[DH,Bool.and_eq_true]at hx
  cases i with
  |zero=>
   grind
  |succ i=>
   simp only[List.getElem?_cons_succ]at h
   obtain⟨o,h1,h2⟩:=uI hx.2 h
   exact⟨o,by rw[show n+(i+1)=n+1+i by omega]; exact h1,h2⟩
theorem o9[ae]:∀ {ext:List pD} {n i:Nat},i<ext.length→(ext[i]?=some .iB∧n+i∉(bf n ext).map (·.1))∨∃ g f t,ext[i]?=some (.list g f t)∧(n+i,c8.list t)∈bf n ext
 |[],_,i,h=>by simp at h
 |.iB::r,n,i,h=>by
  cases i with
  |zero=>
   left
   refine⟨rfl,fun hc=>?_⟩
   obtain⟨q,hq,e⟩:=List.mem_map.1 hc
   simp only[bf]at hq
   obtain⟨j,_,_,_,rfl,_⟩:=jr hq
   simp only at e; omega
  |succ i=>
   rcases o9 (n:=n+1) (i:=i) (by simpa using h) with ⟨h1,h2⟩|⟨g,f,t,h1,h2⟩
   ·grind[bf]
   ·grind[bf]
 |.list g f t::r,n,i,h=>by
  cases i with
  |zero=>grind[bf]
  |succ i=>
   rcases o9 (n:=n+1) (i:=i) (by simpa using h) with ⟨h1,h2⟩|⟨g',f',t',h1,h2⟩
   ·left
    refine⟨by simpa using h1,?_⟩
    simp only[bf,List.map_cons,List.mem_cons,not_or]
    exact⟨by omega,by rw[show n+(i+1)=n+1+i by omega]; exact h2⟩
   ·grind[bf]
theorem I0(hT:T.Ok){o:aE T.den}{H:ai T.den}{a:aP}(h:RO T H o a)(hc:o.flags.2.1=true):(∃ g f es,a=.arr g true f es)∨∃ k vs,a=.gI k vs∧∀ n,c7 n vs=true:=by
 cases o with
 |arr g cl f c es=>
  obtain⟨es',rfl,_⟩:=h
  simp only[aE.flags]at hc
  subst hc
  exact .inl ⟨_,_,_,rfl⟩
 |cj g f c t l=>obtain⟨es',rfl,_⟩:=h; exact .inl ⟨_,_,_,rfl⟩
 |iB=>exact h
 |kO kk t m=>obtain⟨vs,rfl,h⟩:=h; exact .inr ⟨_,_,rfl,fun n=>zd hT h⟩
 |pA fn ps as bd fr=>simp[aE.flags]at hc
structure I3(T:dP)(aC:List (Nat×pC))(dead:List Nat)(objs:List (Nat×c8))(ext:List pD)(s0 s:bC T.den)(l:List (TV T.den)):Prop where
 SF:dx (aC.map (·.1))=true
 VE:dx (objs.map (·.1))=true
 L6:∀ d,d∈aC.map (·.1)++dead→d<s0.n
 kP:sY s0.hp.length aC (objs++bf s0.hp.length ext)=true
 fn:s.fn=s0.fn
 n:s.n=s0.n
 fr:∀ t,t∉aC.map (·.1)++dead→cU s.fr t=cU s0.fr t
 hp:∀ n:Nat,n<s0.hp.length→n∉objs.map (·.1)→s.hp[n]?=s0.hp[n]?
 len:s.hp.length=s0.hp.length+ext.length
 flags:rA s0.hp s.hp objs=true
 cur:xE s0.hp s.hp objs=true
 RF:DH s.hp s0.hp.length ext=true
 RG:∀ q,q∈objs→∃ o,s0.hp[q.1]?=some (some o)∧Start s0.hp o q.2
 abs:vK aC (objs++bf s0.hp.length ext) s=some l
theorem Cd{H H':ai T.den}{objs:List (Nat×c8)}(h:rA H H' objs=true){q:Nat×c8}(hq:q∈objs){o o':aE T.den}(h1:H[q.1]?=some (some o))(h2:H'[q.1]?=some (some o')):o.flags=o'.flags:=by
 have:=List.all_eq_true.1 h q hq
 simp only[h1,h2,decide_eq_true_eq]at this
 exact this
theorem Gg{H H':ai T.den}{objs:List (Nat×c8)}(h:xE H H' objs=true){q:Nat×c8}(hq:q∈objs)(hl:∀ t,q.2≠.list t){o o':aE T.den}(h1:H[q.1]?=some (some o))(h2:H'[q.1]?=some (some o')):o.cur=o'.cur:=by
 have:=List.all_eq_true.1 h q hq
 split at this
 ·rename_i t e; exact absurd e (hl t)
 ·simp_all
theorem HI[ae](hT:T.Ok){aC:List (Nat×pC)}{dead:List Nat}{objs:List (Nat×c8)}{ext:List pD}{s0 s:bC T.den}{l:List (TV T.den)}(ho:I3 T aC dead objs ext s0 s l){ZC st:St}(h0:RS T s0 ZC)(h:RS T s st):
  RS T { dy aC dead objs ext s0 l with js:=s.js } st∧(dy aC dead objs ext s0 l).hp.length=s.hp.length ∧
  (∀ n:Nat,n<s0.hp.length→n∉objs.map (·.1)→(dy aC dead objs ext s0 l).hp[n]?=s0.hp[n]?) ∧
  (∀ t,t∉aC.map (·.1)++dead→cU (dy aC dead objs ext s0 l).fr t=cU s0.fr t) ∧
  (dy aC dead objs ext s0 l).fn=s0.fn∧(dy aC dead objs ext s0 l).n=s0.n ∧
  (∀ q,q∈objs→∃ o0 os of,s0.hp[q.1]?=some (some o0)∧s.hp[q.1]?=some (some os)∧(dy aC dead objs ext s0 l).hp[q.1]?=some (some of)∧of.len=os.len∧of.cur=Cc q.2 o0.cur):=by
 have P6:=ho.RG
 have bE:∀ n,n∈objs.map (·.1)→n<s0.hp.length:=by
  grind
 have NH:∀ n,n∈(bf s0.hp.length ext).map (·.1)→s0.hp.length≤n:=by
  intro n hn
  obtain⟨q,hq,rfl⟩:=List.mem_map.1 hn
  obtain⟨i,_,_,_,rfl,_⟩:=jr hq
  simp
 have AB:dx ((objs++bf s0.hp.length ext).map (·.1))=true:=by
  rw[List.map_append]
  exact A7 ho.VE nI fun x hx hc=>by have:=bE x hx; have:=NH x hc; omega
 obtain⟨b1,b2,b3⟩:=tn (objs:=objs) (H:=s0.hp) ho.VE
 generalize Js:sf s0.hp objs++ext.map IJ=H1
 have L7:H1.length=s.hp.length:=by rw[←Js,ho.len]; simp[b1]
 have zh:∀ n:Nat,n<s0.hp.length→H1[n]?=(sf s0.hp objs)[n]?:=fun n hn=>by
  grind
 have L8:∀ i:Nat,H1[s0.hp.length+i]?=(ext.map IJ)[i]?:=fun i=>by
  grind
 have pG:=ho.abs
 unfold vK at pG
 rw[Option.bind_eq_some_iff]at pG
 obtain⟨la,hla,pG⟩:=pG
 rw[Option.map_eq_some_iff]at pG
 obtain⟨lb,PE,rfl⟩:=pG
 have Sl:∀ q,q∈objs++bf s0.hp.length ext→∃ o,H1[q.1]?=some (some o)∧Compat o q.2:=by
  intro q hq
  rcases List.mem_append.1 hq with hq|hq
  ·obtain⟨o,h1,h2⟩:=P6 q hq
   exact⟨nh o q.2,by rw[zh _ (bE _ (List.mem_map_of_mem hq))]; exact b3 q hq o h1,(zg h2).1⟩
  ·obtain⟨i,g,f,t,rfl,h2⟩:=jr hq
   refine⟨.cj g f 0 t [],?_,⟨g,f,0,[],rfl⟩⟩
   simp only
   rw[L8,List.getElem?_map,h2]
   rfl
 obtain⟨c1,c2,c3,c4⟩:=sn hT (Hs:=s.hp) (H:=H1) [] AB PE Sl
 simp only[List.append_nil]at c1 c2 c3 c4
 generalize hHf:gC H1 (objs++bf s0.hp.length ext) lb=Hf at c1 c2 c3 c4
 have hlen:Eg (fun n=>n<s0.hp.length∨n∈(objs++bf s0.hp.length ext).map (·.1)) s.hp Hf:=by
  intro n o hn Qj
  by_cases hm:n∈(objs++bf s0.hp.length ext).map (·.1)
  ·grind
  ·have hn:n<s0.hp.length:=hn.resolve_right hm
   have uQ:n∉objs.map (·.1):=fun hc=>hm (by rw[List.map_append]; exact List.mem_append_left _ hc)
   refine⟨o,?_,rfl⟩
   rw[c2 n hm,zh n hn,b2 n uQ,←ho.hp n hn uQ]
   exact Qj
 have P7:=List.all_eq_true.1 ho.kP
 have Xm:∀ q,q∈objs++bf s0.hp.length ext→∀ n,n∈q.2.kP→(n<s0.hp.length∨n∈(objs++bf s0.hp.length ext).map (·.1)):=by
  intro q hq n hn
  have:=P7 n (List.mem_append_right _ (List.mem_flatMap.2 ⟨q,hq,hn⟩))
  simp only[Bool.or_eq_true,List.contains_eq_mem,decide_eq_true_eq]at this
  refine this.imp (fun h=>?_) id
  have:=Nat.le_of_ble_eq_true h
  omega
 have Xn:∀ q,q∈aC→∀ n,n∈q.2.kP→(n<s0.hp.length∨n∈(objs++bf s0.hp.length ext).map (·.1)):=by
  intro q hq n hn
  have:=P7 n (List.mem_append_left _ (List.mem_flatMap.2 ⟨q,hq,hn⟩))
  simp only[Bool.or_eq_true,List.contains_eq_mem,decide_eq_true_eq]at this
  refine this.imp (fun h=>?_) id
  have:=Nat.le_of_ble_eq_true h
  omega
 have OY:∀ q,q∈objs→∃ o0 os of,s0.hp[q.1]?=some (some o0)∧s.hp[q.1]?=some (some os)∧Hf[q.1]?=some (some of)∧of.len=os.len∧of.cur=Cc q.2 o0.cur ∧
   (∀ a,RO T s.hp os a→RO T Hf of a):=by
  intro q hq
  obtain⟨o0,h1,h2⟩:=P6 q hq
  obtain⟨o1,os,o',ln,Hc,Ei,d1,d2,d3,d4,d5,d6,d7,d8⟩:=c4 q (List.mem_append_left _ hq)
  have hb:=b3 q hq o0 h1
  rw[zh _ (bE _ (List.mem_map_of_mem hq)),hb]at d1
  simp only[Option.some.injEq]at d1
  subst d1
  obtain⟨e1,e2,e3,e4,e5⟩:=zg h2
  have tx:=Cd ho.flags hq h1 d2
  refine⟨o0,os,o',h1,d2,d6,d8,by rw[d7,e5],fun a ha=>?_⟩
  exact zf hT (fun n=>by rw[d4,c3]) hlen (Xm q (List.mem_append_left _ hq)) e1 d3 d5 (by rw[e2,tx]) (by rw[e3,tx]) (by rw[e4,tx]) ha
 have Sg:∀ n c v0 aq,gh s0.hp n c v0→gh s.hp n c aq→gh Hf n c aq:=by
  intro n c v0 aq Nx hv
  have hn:=Nx.lt
  by_cases hm:n∈objs.map (·.1)
  ·obtain⟨q,hq,rfl⟩:=List.mem_map.1 hm
   obtain⟨o0,os,of,g1,g2,g3,g4,g5,_⟩:=OY q hq
   obtain⟨o0',k1,k2,_⟩:=Nx
   rw[g1]at k1
   simp only[Option.some.injEq]at k1
   subst k1
   obtain⟨os',k3,k4,k5⟩:=hv
   rw[g2]at k3
   simp only[Option.some.injEq]at k3
   subst k3
   refine⟨of,g3,?_,fun e=>?_⟩
   ·have:=HH q.2 o0.cur; omega
   ·by_cases hl:∃ t,q.2=.list t
    ·obtain⟨t,hl⟩:=hl
     rw[g5,hl]at e
     simp only[Cc]at e
     omega
    ·have hc:=Gg ho.cur hq (fun t e=>hl ⟨t,e⟩) g1 g2
     have:of.cur=o0.cur:=by rw[g5,OX (fun t e=>hl ⟨t,e⟩)]
     rw[g4]
     exact k5 (by omega)
  ·have uQ:n∉(objs++bf s0.hp.length ext).map (·.1):=by
    rw[List.map_append]
    intro hc
    rcases List.mem_append.1 hc with hc|hc
    ·exact hm hc
    ·have:=NH n hc; omega
   obtain⟨os,k1,k2,k3⟩:=hv
   exact⟨os,by rw[c2 n uQ,zh n hn,b2 n hm,←ho.hp n hn hm]; exact k1,k2,k3⟩
 have Ua:∀ n:Nat,n<s0.hp.length→n∉objs.map (·.1)→Hf[n]?=s0.hp[n]?:=by
  intro n hn hm
  have uQ:n∉(objs++bf s0.hp.length ext).map (·.1):=by
   rw[List.map_append]
   intro hc
   rcases List.mem_append.1 hc with hc|hc
   ·exact hm hc
   ·have:=NH n hc; omega
  rw[c2 n uQ,zh n hn,b2 n hm]
 have hex:∀ (n:Nat) (o:aE T.den),s0.hp[n]?=some (some o)→∃ o,Hf[n]?=some (some o):=by
  intro n o wj
  have hn:=(List.getElem?_eq_some_iff.1 wj).1
  by_cases hm:n∈objs.map (·.1)
  ·obtain⟨q,hq,rfl⟩:=List.mem_map.1 hm
   obtain⟨_,_,of,_,_,g3,_⟩:=OY q hq
   exact⟨of,g3⟩
  ·exact⟨o,by rw[Ua n hn hm]; exact wj⟩
 have RI:lj s.js Hf st.hp:=by
  intro n x hx
  obtain⟨h1,h2⟩:=h.js n x hx
  refine⟨?_,h2⟩
  obtain⟨o,Ik,vn⟩:∃ o,s.hp[n]?=some (some o)∧o.isRec=true:=by
   unfold recAt at h1
   split at h1
   ·rename_i o Ik; exact⟨o,Ik,h1⟩
   ·simp at h1
  by_cases hn:n<s0.hp.length
  ·by_cases hm:n∈objs.map (·.1)
   ·exfalso
    obtain⟨q,hq,rfl⟩:=List.mem_map.1 hm
    obtain⟨o1,os,o',ln,Hc,Ei,_,d2,d3,_⟩:=c4 q (List.mem_append_left _ hq)
    rw[Ik]at d2
    simp only[Option.some.injEq]at d2
    subst d2
    cases o<;>simp[aE.isRec]at vn
    cases hp2:q.2<;>rw[hp2]at d3<;>cases d3
   ·rw[qG (show Hf[n]?=s.hp[n]? by rw[Ua n hn hm,ho.hp n hn hm])]
    exact h1
  ·exfalso
   have Xc:=(List.getElem?_eq_some_iff.1 Ik).1
   have hi:n-s0.hp.length<ext.length:=by have:=ho.len; omega
   have L5:s0.hp.length+(n-s0.hp.length)=n:=by omega
   obtain⟨e,he⟩:∃ e,ext[n-s0.hp.length]?=some e:=⟨_,List.getElem?_eq_getElem hi⟩
   obtain⟨o2,m1,m2⟩:=uI ho.RF he
   rw[L5,Ik]at m1
   simp only[Option.some.injEq]at m1
   subst m1
   cases o<;>simp[aE.isRec]at vn
   cases e<;>simp[aE.flags]at m2
 have OU:RH T Hf st.hp:=by
  have rZ:Hf.length=st.hp.length:=by rw[c1,L7]; exact h.hp.length
  refine ay.eL rZ fun n x y hx hy=>?_
  obtain⟨xs,Ah,hr⟩:=ay.get' h.hp hy
  have Xc:n<s.hp.length:=(List.getElem?_eq_some_iff.1 Ah).1
  by_cases hn:n<s0.hp.length
  ·by_cases hm:n∈objs.map (·.1)
   ·obtain⟨q,hq,rfl⟩:=List.mem_map.1 hm
    obtain⟨o0,os,of,g1,g2,g3,g4,g5,g6⟩:=OY q hq
    rw[g3]at hx
    rw[g2]at Ah
    simp only[Option.some.injEq]at hx Ah
    subst hx; subst Ah
    cases y with
    |none=>exact hr.elim
    |some a=>exact g6 a hr
   ·have uQ:n∉(objs++bf s0.hp.length ext).map (·.1):=by
     rw[List.map_append]
     intro hc
     rcases List.mem_append.1 hc with hc|hc
     ·exact hm hc
     ·have:=NH n hc; omega
    rw[c2 n uQ,zh n hn,b2 n hm,←ho.hp n hn hm,Ah]at hx
    simp only[Option.some.injEq]at hx
    subst hx
    have EO:s0.hp[n]?=some xs:=by rw[←ho.hp n hn hm]; exact Ah
    obtain⟨y0,_,EL⟩:=ay.get h0.hp EO
    cases xs with
    |none=>cases y with
     |none=>trivial
     |some a=>exact hr.elim
    |some o=>cases y with
     |none=>exact hr.elim
     |some a=>
      cases y0 with
      |none=>exact EL.elim
      |some a0=>
       cases o with
       |arr g cl f c es=>
        obtain⟨es',e1,e2,e3⟩:=hr
        obtain⟨Xi,_,e5,_⟩:=EL
        exact⟨es',e1,RL.eJ Sg hex e5 e2,e3⟩
       |cj g f c t l=>exact hr
       |iB=>exact hr
       |kO kk t m=>exact hr
       |pA fn ps as bd fr=>
        obtain⟨st,vs,e1,e2⟩:=hr
        obtain⟨ZC,vs0,_,e5⟩:=EL
        refine⟨st,vs,e1,ay.eL e2.length fun i x y hx hy=>?_⟩
        obtain⟨y',Bv,ma⟩:=ay.get e2 hx
        rw[hy]at Bv
        simp only[Option.some.injEq]at Bv
        subst Bv
        obtain⟨y0,Zy,RJ⟩:=ay.get e5 hx
        rcases ma with ma|ma
        ·exact .inl ma
        ·rcases RJ with ⟨rfl,_⟩|RJ
         ·simp[R]at ma
         ·exact .inr (R.eJ Sg hex RJ ma)
  ·have hi:n-s0.hp.length<ext.length:=by have:=ho.len; omega
   have L5:n=s0.hp.length+(n-s0.hp.length):=by omega
   rcases o9 (n:=s0.hp.length) hi with ⟨k1,k2⟩|⟨g,f,t,k1,k2⟩
   ·rw[←L5]at k2
    have uQ:n∉(objs++bf s0.hp.length ext).map (·.1):=by
     rw[List.map_append]
     intro hc
     rcases List.mem_append.1 hc with hc|hc
     ·exact hn (bE n hc)
     ·exact k2 hc
    rw[c2 n uQ,L5,L8,List.getElem?_map,k1]at hx
    simp only[Option.map_some,IJ,Option.some.injEq]at hx
    subst hx
    obtain⟨o,m1,m2⟩:=uI ho.RF k1
    rw[←L5,Ah]at m1
    simp only[Option.some.injEq]at m1
    subst m1
    cases y with
    |none=>exact hr.elim
    |some a=>exact I0 hT hr m2
   ·obtain⟨o1,os,o',ln,Hc,Ei,d1,d2,d3,d4,d5,d6,d7,d8⟩:=c4 _ (List.mem_append_right _ k2)
    simp only at d1 d2 d3 d5 d6
    rw[←L5]at d2 d6
    rw[d6]at hx
    rw[d2]at Ah
    simp only[Option.some.injEq]at hx Ah
    subst hx; subst Ah
    rw[L8,List.getElem?_map,k1]at d1
    simp only[Option.map_some,IJ,Option.some.injEq]at d1
    subst d1
    obtain⟨o,m1,m2⟩:=uI ho.RF k1
    rw[←L5,d2]at m1
    simp only[Option.some.injEq]at m1
    subst m1
    simp only at m2
    cases y with
    |none=>exact hr.elim
    |some a=>
     exact zf hT (fun n=>by rw[d4,c3]) hlen (by intro n hn; simp[c8.kP]at hn) (show Compat (.cj g f 0 t []) (.list t) from ⟨g,f,0,[],rfl⟩) d3 d5 (by rw[m2]; rfl) (by rw[m2]; rfl) (by rw[m2]; rfl) hr
 obtain⟨zK,f1,f2,f3⟩:=qJ hT (Hc:=H1) (Hf:=Hf) (fun n=>by rw[c3]) hlen (N:=s0.n) (frs:=s.fr) (ast:=fun t=>st.fr.getD t .undef) h.fr (fr:=AU s0.n s0.fr dead) lb ho.SF
  (fun q hq=>⟨ho.L6 _ (List.mem_append_left _ (List.mem_map_of_mem hq)),Xn q hq⟩) hla
 have Ub:dy aC dead objs ext s0 (la++lb)={ s0 with fr:=zK,hp:=Hf }:=by
  unfold dy
  rw[Js,f1]
  simp only[hHf]
 have Ce:∀ t,t∉aC.map (·.1)++dead→cU zK t=cU s0.fr t:=by
  intro t ht
  simp only[List.mem_append,not_or]at ht
  rw[f2 t ht.1,v5,if_neg (fun hc=>ht.2 hc.1)]
 rw[Ub]
 refine⟨⟨?_,?_,fun t=>?_,OU,RI⟩,by rw[c1,L7],fun n hn hm=>?_,Ce,rfl,rfl,fun q hq=>?_⟩
 ·show s0.fn=st.fn
  rw[←ho.fn]; exact h.fn
 ·show st.fr.length=s0.n
  rw[←ho.n]; exact h.n
 ·simp only
  by_cases ht:t∈aC.map (·.1)
  ·obtain⟨q,hq,rfl⟩:=List.mem_map.1 ht
   exact .inr (f3 q hq)
  ·by_cases hd:t∈dead
   ·left
    rw[f2 t ht,v5,if_pos ⟨hd,ho.L6 _ (List.mem_append_right _ hd)⟩]
   ·have ZD:t∉aC.map (·.1)++dead:=by simp only[List.mem_append,not_or]; exact⟨ht,hd⟩
    rw[Ce t ZD]
    have e1:=h.fr t
    rw[ho.fr t ZD]at e1
    rcases e1 with e1|e1
    ·exact .inl e1
    ·rcases h0.fr t with e0|e0
     ·exact .inl e0
     ·exact .inr (R.eJ Sg hex e0 e1)
 ·simp only
  have uQ:n∉(objs++bf s0.hp.length ext).map (·.1):=by
   rw[List.map_append]
   intro hc
   rcases List.mem_append.1 hc with hc|hc
   ·exact hm hc
   ·have:=NH n hc; omega
  rw[c2 n uQ,zh n hn,b2 n hm]
 ·obtain⟨o0,os,of,g1,g2,g3,g4,g5,_⟩:=OY q hq
  exact⟨o0,os,of,g1,g2,g3,g4,g5⟩
end Go.PI
end
section
/- PS, part P: the trees tell the truth. -/
namespace Go.PI
structure oS.Ok[ae](S:oS):Prop where
 T:S.T.Ok
 Q:S.Q.Ok
 Z:S.T.uC S.Q
 sum:∀ g σ,S.sum g=some σ→qF S.C S.T g σ
 own:∀ g σ,S.own g=some σ→HE S.C S.T g σ
def Ek(T:dP):pB T.den→Out→Prop
 |.norm s,o=>∃ st,o=.norm st∧RS T s st
 |.exit id s,o=>∃ st,o=.exit id st∧RS T s st
 |.ret s,o=>∃ st,o=.ret st∧RS T s st
def pB.st{den:Nat→Type}:pB den→bC den
 |.norm s=>s
 |.exit _ s=>s
 |.ret s=>s
structure pa[ae](S:oS)(k:Nat):Prop where
 f:∀ (ρ:Type) (f:FuncId) (args:List (SV S.T.den)) (hp:ai S.T.den) (wh:List Nat) (js:List (Nat×lN)) (K:SV S.T.den→ai S.T.den→List Nat→List (Nat×lN)→Tr ρ) (r:ρ) (as:List AV) (OZ:ag),RL S.T hp args as→RH S.T hp OZ→lj js hp OZ →
  (PT S k ρ f args hp wh js K).run=some r→∃ v cB pv rH a fc,k6 S.C f as OZ=some (.val a,fc)∧R S.T cB v a∧RH S.T cB fc∧lj rH cB fc∧dJ hp cB∧hp.length≤cB.length ∧
    (∀ n:Nat,n<hp.length→n∉pv→cB[n]?=hp[n]?)∧(∀ n,n∈wh→n∈pv)∧(K v cB pv rH).run=some r
 c:∀ (ρ:Type) (c:Code) (s:bC S.T.den) (K:pB S.T.den→Tr ρ) (r:ρ) (st:St),RS S.T s st→(xk S k ρ c s K).run=some r →
  ∃ so o,db S.C c st=some o∧Ek S.T so o∧bn s so.st∧(K so).run=some r
 o:∀ (ρ:Type) (o:Oper) (s:bC S.T.den) (K:bC S.T.den→Tr ρ) (r:ρ) (st:St),RS S.T s st→(OI S k ρ o s K).run=some r →
  ∃ s' st',iL S.C o st=some (.norm st')∧RS S.T s' st'∧bn s s'∧(K s').run=some r
section
variable {T:dP}{ρ:Type}
theorem qK[ae](hT:T.Ok){s:bC T.den}{st:St}(h:RS T s st){v:SV T.den}{a:AV}{cB:ai T.den}{fc:ag}{pv:List Nat}{rH:List (Nat×lN)}(g2:R T cB v a)(g3:RH T cB fc)(g4:dJ s.hp cB)(g5:s.hp.length≤cB.length)
  (g6:∀ n:Nat,n<s.hp.length→n∉pv→cB[n]?=s.hp[n]?) (g7:∀ n,n∈s.wh→n∈pv) (hj:lj rH cB fc) (hb:tb rH s.hp.length=true) :
  RS T ⟨s.fn,s.n,s.fr,gB s.hp.length v cB,s.wf,pv,rH⟩ ⟨st.fn,st.fr,ic s.hp.length a fc⟩∧bn s ⟨s.fn,s.n,s.fr,gB s.hp.length v cB,s.wf,pv,rH⟩∧R T (gB s.hp.length v cB) v a:=by
 obtain⟨t1,t2⟩:=IY (n:=s.hp.length) hT g3 g2
 have An:dJ s.hp (gB s.hp.length v cB):=by
  unfold gB
  split
  ·intro n o ho
   obtain⟨o',h1,h2⟩:=g4 n o ho
   exact⟨o',by rw[nH (List.getElem?_eq_some_iff.1 ho).1]; exact h1,h2⟩
  ·exact g4
 have Uc:∀ n:Nat,n<s.hp.length→n∉pv→(gB s.hp.length v cB)[n]?=s.hp[n]?:=by
  grind[gB]
 have hlen:s.hp.length≤(gB s.hp.length v cB).length:=by
  grind[gB]
 have RI:lj rH (gB s.hp.length v cB) (ic s.hp.length a fc):=by
  unfold gB ic
  rw[R.below g2,lV hT (ay.take g3 _)]
  split
  ·exact hj.take (A6 hb)
  ·exact hj
 exact⟨⟨h.fn,h.n,fun t=>(h.fr t).mono An,t1,RI⟩,⟨rfl,rfl,fun _ _=>rfl,fun _ h=>h,Uc,g7,hlen,An⟩,t2⟩
theorem zi[ae]{H H':ai T.den}{esz j nm:Nat}{e e':SV T.den}{a:AV}(hr:R T H e a)(hx:∀ {v:SV T.den} {b:AV},R T H v b→R T H' v b)(hn:R T H' (.bu esz nm 0 none none) (.bu esz nm 0 0 0 none))(h:qy esz j nm e=some e'):
  ∃ a',lu esz j nm a=some a'∧R T H' e' a':=by
 unfold qy at h
 split at h
 ·rename_i l
  split at h
  case h_2=>simp at h
  rename_i hl
  simp only[Option.some.injEq]at h
  subst h
  simp only[R]at hr
  obtain⟨l',rfl,gJ⟩:=hr
  obtain⟨b,hb,SC⟩:=ay.get (aU.1 gJ) hl
  simp only[R]at SC
  subst SC
  refine⟨.agg (l'.set j (.bu esz nm 0 0 0 none)),by simp only[lu,hb],?_⟩
  simp only[R]
  exact⟨_,rfl,aU.2 (((aU.1 gJ).mono fun _ _ h=>hx h).set j hn)⟩
 ·split at h
  case isFalse=>simp at h
  rename_i hj
  simp only[Option.some.injEq]at h
  subst h
  simp only[R]at hr
  subst hr
  exact⟨_,by simp only[lu]; rw[if_pos hj],hn⟩
 ·simp at h
theorem Ud[ae]{H:ai T.den}:RO T H (.arr true true false 0 []) (.arr true true false []):=⟨[],rfl,by simp[RL],fun _=>rfl⟩
theorem L9{H:ai T.den}{esz nm:Nat}{g cl f:Bool}(h:H[nm]?=some (some (.arr g cl f 0 []))):R T H (.bu esz nm 0 none none) (.bu esz nm 0 0 0 none):=by
 simp only[R]
 exact⟨0,⟨_,h,Nat.le_refl _,fun _=>rfl⟩,rfl⟩
theorem HJ[ae](hT:T.Ok){d:Tmp}{r:ρ}{K:bC T.den→Tr ρ}:∀ {l:List (Nat×Nat)} {s:bC T.den} {st:St},RS T s st→(IL d l s K).run=some r→∃ s',RS T s' (JC d l st)∧bn s s'∧(K s').run=some r
 |[],s,st,h,hk=>⟨s,h,bn.refl _,hk⟩
 |(j,esz)::l,s,st,h,hk=>by
  have hlen:=h.hp.length
  unfold IL at hk
  have hd:=h.fr d
  have F8:∀ {s':bC T.den},RS T s' (pM d st j esz)→bn s s'→(IL d l s' K).run=some r→∃ s',RS T s' (JC d ((j,esz)::l) st)∧bn s s'∧(K s').run=some r:=by
   intro s' h1 h2 h3
   obtain⟨s2,i1,i2,i3⟩:=HJ hT h1 h3
   exact⟨s2,i1,h2.trans i2,i3⟩
  split at hk
  ·rename_i n c i k he
   rw[he]at hd
   have hd:=hd.live rfl
   simp only[R]at hd
   obtain⟨aq,hd,cq⟩:=hd
   have eK:st.fr[d]?=some (.ref n aq i k):=by
    grind
   split at hk
   case h_2=>simp[Tr.run]at hk
   rename_i g cl f cur es ho
   obtain⟨ao,dr,dV⟩:=h.hp.obj ho
   obtain⟨es',rfl,cP,mT⟩:=dV
   split at hk
   case h_2=>simp[Tr.run]at hk
   rename_i e' GR
   obtain⟨e,M5,yq⟩:=Option.bind_eq_some_iff.1 GR
   obtain⟨ea,Ue,ET⟩:=ay.get (aU.1 cP) M5
   have hn:=(List.getElem?_eq_some_iff.1 ho).1
   have pR:=h.hp.new (nm:=s.hp.length) (o':=.arr true true false 0 []) (a':=.arr true true false []) (.inl rfl) Ud
   have e1:bQ s.hp s.hp.length (.arr true true false 0 [])=s.hp++[some (.arr true true false 0 [])]:=by simp[bQ]
   have e2:setObj st.hp s.hp.length (.arr true true false [])=st.hp++[some (.arr true true false [])]:=by simp[setObj,hlen]
   rw[e1,e2]at pR
   obtain⟨P0,xf⟩:=pR
   have kH:R T (s.hp++[some (.arr true true false 0 [])]) (.bu esz s.hp.length 0 none none) (.bu esz s.hp.length 0 0 0 none):=L9 (g:=true) (cl:=true) (f:=false) (by simp)
   obtain⟨P8,h5,h6⟩:=zi ET (fun h=>h.mono P0) kH yq
   have vn:(s.hp++[some (aE.arr true true false 0 [])])[n]?=some (some (.arr g cl f cur es)):=by rw[List.getElem?_append_left hn]; exact ho
   have eR:RL T (s.hp++[some (.arr true true false 0 [])]) (es.set i e') (es'.set i P8):=aU.2 (((aU.1 cP).mono fun _ _ h=>h.mono P0).set i h6)
   obtain⟨hg2,zO⟩:=xf.Sz vn (o':=.arr g false f cur (es.set i e')) (a':=.arr g false f (es'.set i P8)) (Nat.le_refl _) (fun _=>by simp[aE.len]) ⟨_,rfl,eR,fun hc=>by simp at hc⟩
   have w1:bh s.hp [(n,.arr g false f cur (es.set i e')),(s.hp.length,.arr true true false 0 [])]=(s.hp++[some (aE.arr true true false 0 [])]).set n (some (aE.arr g false f cur (es.set i e'))):=by
    have q1:bQ s.hp n (.arr g false f cur (es.set i e'))=s.hp.set n (some (.arr g false f cur (es.set i e'))):=by unfold bQ; rw[if_neg (by omega)]
    have q2:∀ (L:ai T.den) (o:aE T.den),L.length=s.hp.length→bQ L s.hp.length o=L++[some o]:=fun L o hL=>by unfold bQ; rw[if_pos hL.symm]
    simp only[bh]
    rw[q1,q2 _ _ (by simp),List.set_append_left _ _ hn]
   have w2:ak st.hp [(n,.arr g false f (es'.set i P8)),(s.hp.length,.arr true true false [])]=(st.hp++[some (aP.arr true true false [])]).set n (some (aP.arr g false f (es'.set i P8))):=by
    have q1:setObj st.hp n (.arr g false f (es'.set i P8))=st.hp.set n (some (.arr g false f (es'.set i P8))):=by unfold setObj; rw[if_neg (by omega)]
    have q2:∀ (L:ag) (o:aP),L.length=s.hp.length→setObj L s.hp.length o=L++[some o]:=fun L o hL=>by unfold setObj; rw[if_pos hL.symm]
    simp only[ak]
    rw[q1,q2 _ _ (by simp[hlen]),List.set_append_left _ _ (by omega)]
   rw[cQ]at hk
   have Xo:RE T s.hp st.hp (.lit undef) [(n,.arr g false f cur (es.set i e')),(s.hp.length,.arr true true false 0 [])] ⟨.undef,[(n,.arr g false f (es'.set i P8)),(s.hp.length,.arr true true false [])]⟩:=by
    refine⟨bp undef,by rw[w1,w2]; exact zO,by rw[w1]; exact P0.trans hg2,fun q hq=>?_,fun m hm hl=>?_,by rw[w1]; simp,fun m hm hc=>?_⟩
    ·grind
    ·grind
    ·simp at hc
     rcases hc with rfl|rfl
     ·simp[recAt,ho,aE.isRec]at hm
     ·have:=jP hm; omega
   obtain⟨g8,g9⟩:=h.step Xo none
   refine F8 (s':=s.step none (.lit undef) _) ?_ g9 hk
   have:pM d st j esz={ st with fr:=bJ st.fr none AV.undef,hp:=ak st.hp [(n,.arr g false f (es'.set i P8)),(s.hp.length,.arr true true false [])] }:=by
    unfold pM
    rw[hlen]at h5
    simp only[eK,dr,Ue,Option.bind_some,h5,bJ]
    rw[w2,List.set_append_left _ _ (by omega)]
   rw[this]
   exact g8
  ·rename_i dE
   split at hk
   case h_2=>simp[Tr.run]at hk
   rename_i v' jS
   have Uf:bV (cU s.fr d)=false:=by
    cases hq:cU s.fr d<;>first|rfl|(rw[hq]at jS; simp[qy]at jS)
   have hd:=hd.live Uf
   have pR:=h.hp.new (nm:=s.hp.length) (o':=.arr true true false 0 []) (a':=.arr true true false []) (.inl rfl) Ud
   have e1:bQ s.hp s.hp.length (.arr true true false 0 [])=s.hp++[some (.arr true true false 0 [])]:=by simp[bQ]
   have e2:setObj st.hp s.hp.length (.arr true true false [])=st.hp++[some (.arr true true false [])]:=by simp[setObj,hlen]
   have ZE:=pR
   rw[e1,e2]at pR
   obtain⟨P0,xf⟩:=pR
   have kH:R T (s.hp++[some (.arr true true false 0 [])]) (.bu esz s.hp.length 0 none none) (.bu esz s.hp.length 0 0 0 none):=L9 (g:=true) (cl:=true) (f:=false) (by simp)
   obtain⟨a',h5,h6⟩:=zi hd (fun h=>h.mono P0) kH jS
   have eK:st.fr[d]?=some (st.fr.getD d .undef):=by
    rw[List.getD_eq_getElem?_getD]at h5 ⊢
    cases hq:st.fr[d]? with
    |none=>simp_all[lu,AV.undef,Go.undef]
    |some x=>rfl
   have Ug:∀ n aq i k,st.fr.getD d .undef≠.ref n aq i k:=by
    intro n aq i k e
    rw[e]at h5
    simp[lu]at h5
   rw[cQ]at hk
   have Xo:RE T s.hp st.hp v' [(s.hp.length,.arr true true false 0 [])] ⟨a',[(st.hp.length,.arr true true false [])]⟩:=by
    have w1:bh s.hp [(s.hp.length,.arr true true false 0 [])]=s.hp++[some (.arr true true false 0 [])]:=e1
    have w2:ak st.hp [(st.hp.length,.arr true true false [])]=st.hp++[some (.arr true true false [])]:=by simp[ak,setObj]
    refine⟨.inr (by rw[w1]; exact h6),by rw[w1,w2]; exact xf,by rw[w1]; exact P0,fun q hq=>by simp at hq; subst hq; simp[hlen],fun m hm hl=>?_,by rw[w1]; simp,fun m hm hc=>?_⟩
    ·rw[w1,List.getElem?_append_left hl]
    ·simp at hc
     have:=jP hm; omega
   obtain⟨g8,g9⟩:=h.step Xo (some d)
   refine F8 (s':=s.step (some d) v' _) ?_ g9 hk
   have:pM d st j esz={ st with fr:=bJ st.fr (some d) a',hp:=ak st.hp [(st.hp.length,.arr true true false [])] }:=by
    unfold pM
    rw[eK]
    rw[hlen]at h5
    split
    ·rename_i n aq i k he
     exact absurd (Option.some.inj he) (Ug n aq i k)
    ·rename_i e _ he
     have he:=Option.some.inj he
     rw[←he,h5]
     simp only[bJ,ak,setObj,if_true]
    ·rename_i he; cases he
   rw[this]
   exact g8
theorem Ma[ae](hT:T.Ok){l:Tmp→List (Nat×Nat)}{dst:Option Tmp}{r:ρ}{K:bC T.den→Tr ρ}{s:bC T.den}{st:St}(h:RS T s st)(hk:(DI l dst s K).run=some r):∃ s',RS T s' (Ct l dst st)∧bn s s'∧(K s').run=some r:=by
 cases dst with
 |none=>exact⟨s,h,bn.refl _,hk⟩
 |some d=>exact HJ hT h hk
theorem Gh{js:List (Nat×lN)}{n m:Nat}{y:lN}:cE (B4 js n y) m=if m=n then (cE js n).map (fun _=>y) else cE js m:=by
 induction js with
 |nil=>simp[B4,cE]
 |cons q r ih=>
  obtain⟨k,x⟩:=q
  simp only[B4,List.map_cons]at ih ⊢
  cases hk:Nat.beq k n with
  |true=>
   have:=Nat.eq_of_beq_eq_true hk
   subst this
   simp only[cE]
   by_cases hm:m=k
   ·subst hm; simp
   ·have:Nat.beq k m=false:=by cases hb:Nat.beq k m; rfl; exact absurd (Nat.eq_of_beq_eq_true hb).symm hm
    rw[this,if_neg hm]
    simp only
    rw[ih,if_neg hm]
  |false=>
   simp only[cE,hk]
   by_cases hm:m=n
   ·simp_all
   ·simp_all
theorem El{js:List (Nat×lN)}{n m:Nat}:cE (DK js n) m=if m=n then none else cE js m:=by
 induction js with
 |nil=>simp[DK,cE]
 |cons q r ih=>
  obtain⟨k,x⟩:=q
  simp only[DK,List.filter_cons]at ih ⊢
  cases hk:Nat.beq k n with
  |true=>
   have:=Nat.eq_of_beq_eq_true hk
   subst this
   simp only[Bool.not_true,Bool.false_eq_true,if_false,ih,cE]
   by_cases hm:m=k
   ·simp[hm]
   ·have:Nat.beq k m=false:=by cases hb:Nat.beq k m; rfl; exact absurd (Nat.eq_of_beq_eq_true hb).symm hm
    rw[this,if_neg hm]
  |false=>
   grind[cE]
theorem HK[ae]{H:ai T.den}{hp:ag}{js:List (Nat×lN)}(hh:RH T H hp)(hj:lj js H hp){n:Nat}{x:lN}(hn:cE js n=some x)(y:lN):RH T H (pd hp n y)∧lj (B4 js n y) H (pd hp n y):=by
 obtain⟨h1,h2⟩:=hj n x hn
 obtain⟨fn,ps,as,bd,fr,hr⟩:=jh h2
 have bE:=(List.getElem?_eq_some_iff.1 hr).1
 have e:pd hp n y=hp.set n (some (.gI (.loop fn ps as bd y) fr)):=by unfold pd; rw[hr]
 rw[e]
 obtain⟨o,ho,Xp⟩:∃ o,H[n]?=some (some o)∧o.isRec=true:=by
  grind[recAt]
 obtain⟨a,ha,dV⟩:=hh.obj ho
 rw[hr]at ha
 simp only[Option.some.injEq]at ha
 subst ha
 cases o<;>simp[aE.isRec]at Xp
 rename_i N1 Xq oF Xr zK
 obtain⟨st,vs,he,mK⟩:=dV
 cases he
 have eR:RH T H (hp.set n (some (.gI (.loop fn ps as bd y) fr))):=by
  have:=ay.set hh n (x:=some (.pA fn ps as bd zK)) (y:=some (aP.gI (.loop fn ps as bd y) fr)) ⟨y,fr,rfl,mK⟩
  rwa [iy ho]at this
 refine⟨eR,fun m z hm=>?_⟩
 rw[Gh]at hm
 split at hm
 ·simp_all[iJ]
 ·rename_i dE
  obtain⟨h3,h4⟩:=hj m z hm
  exact⟨h3,by rw[oj (List.getElem?_set_ne (Ne.symm dE))]; exact h4⟩
theorem Em{den:Nat→Type}{u:List Nat}{fr:tA den}:∀ {l:List Nat} {i:Nat},(xj u fr l)[i]?=(l[i]?).map fun d=>if u.contains d then cU fr d else .dead
 |[],i=>by simp[xj]
 |d::r,0=>by simp only[xj,List.getElem?_cons_zero,Option.map_some]; cases u.contains d<;>rfl
 |d::r,i+1=>by simp only[xj,List.getElem?_cons_succ]; exact Em
theorem En{den:Nat→Type}{u:List Nat}{fr:tA den}:∀ {l:List Nat},(xj u fr l).length=l.length
 |[]=>rfl
 |d::r=>by simp only[xj,List.length_cons,En]
theorem A8{u:List Nat}:∀ {fr:List AV} {i j:Nat},(nL u i fr)[j]?=(fr[j]?).map fun x=>if u.contains (i+j) then x else .any
 |[],i,j=>by simp[nL]
 |x::xs,i,0=>by simp[nL]
 |x::xs,i,j+1=>by
  simp only[nL,List.getElem?_cons_succ]
  rw[A8,show i+1+j=i+(j+1) by omega]
theorem A9{u:List Nat}:∀ {fr:List AV} {i:Nat},(nL u i fr).length=fr.length
 |[],_=>rfl
 |x::xs,i=>by simp only[nL,List.length_cons,A9]
theorem I4[ae]{s:bC T.den}{st:St}(h:RS T s st){as bd:Code}(hd:(dt as++dt bd).all (fun d=>!bV (cU s.fr d)||!Nat.blt d s.n)=true):
  ay (RD T s.hp) (xj (dt as++dt bd) s.fr (List.range s.n)) (uV as bd st.fr):=by
 unfold uV
 refine ay.eL (by rw[En,A9,List.length_range,h.n]) fun i x y hx hy=>?_
 rw[Em,Option.map_eq_some_iff]at hx
 rw[A8,Option.map_eq_some_iff]at hy
 obtain⟨d,KE,rfl⟩:=hx
 obtain⟨a,ha,rfl⟩:=hy
 obtain⟨hi,rfl⟩:i<s.n∧i=d:=by
  grind
 rw[Nat.zero_add]
 cases hc:(dt as++dt bd).contains i with
 |false=>exact .inl ⟨rfl,rfl⟩
 |true=>
  right
  simp only[if_true]
  have hm:i∈dt as++dt bd:=by simpa using hc
  have:=List.all_eq_true.1 hd i hm
  have hb:Nat.blt i s.n=true:=Nat.ble_eq_true_of_le hi
  rw[hb]at this
  simp only[Bool.not_true,Bool.or_false,Bool.not_eq_true']at this
  have hv:=(h.fr i).live this
  rw[List.getD_eq_getElem?_getD,ha]at hv
  exact hv
theorem Ba[ae]{H:ai T.den}:∀ {ps:List Tmp} {xs:List (SV T.den)} {as:List AV} {n:Nat} {fr:tA T.den} {fa:List AV},fa.length=n→(∀ t,RV T H (cU fr t) (fa.getD t .undef))→RL T H xs as →
  (fX fa ps as).length=n∧∀ t,RV T H (cU (mA n fr ps xs) t) ((fX fa ps as).getD t .undef)
 |[],xs,as,n,fr,fa,hl,h,_=>by simpa[fX,mA] using ⟨hl,h⟩
 |p::ps,[],[],n,fr,fa,hl,h,_=>by simpa[fX,mA] using ⟨hl,h⟩
 |p::ps,x::xs,a::as,n,fr,fa,hl,h,hx=>by
  simp only[RL]at hx
  simp only[fX,mA]
  refine Ba (by simp[hl]) (fun t=>?_) hx.2
  rw[kU,D8,hl]
  split
  ·exact .inr hx.1
  ·exact h t
 |p::ps,[],_::_,_,_,_,_,_,h=>by simp[RL]at h
 |p::ps,_::_,[],_,_,_,_,_,h=>by simp[RL]at h
noncomputable def Mb(n:Nat)(dst:Option Tmp)(st:St):Out→Option Out
 |.norm s2=>xN n dst st true .ready s2.hp
 |.exit id s2=>xN n dst st false (.jump (some id)) s2.hp
 |.ret s2=>xN n dst st false (.jump none) s2.hp
 |_=>none
theorem Cf[ae](hT:T.Ok){s s2:bC T.den}{st OW:St}(h:RS T s st)(h2:RS T s2 OW)(hg:dJ s.hp s2.hp)(hl:s.hp.length≤s2.hp.length)(hk:∀ n:Nat,n<s.hp.length→n∉s2.wh→s2.hp[n]?=s.hp[n]?)(hw:∀ n,n∈s.wh→n∈s2.wh)
  {n:Nat} {dst:Option Tmp} {b:Bool} {x:lN} {K:bC T.den→Tr ρ} {r:ρ} (hr:(LG s n dst b x s2 K).run=some r) :
  ∃ s' st',xN n dst st b x OW.hp=some (.norm st')∧RS T s' st'∧bn s s'∧(K s').run=some r:=by
 unfold LG at hr
 split at hr
 case h_2=>simp[Tr.run]at hr
 rename_i hb
 split at hr
 case h_2=>simp[Tr.run]at hr
 rename_i Cg
 rw[ku,cQ]at hr
 obtain⟨_,Uh⟩:=h2.js n _ hb
 obtain⟨r1,r2⟩:=HK h2.hp h2.js hb x
 have Ui:tb (B4 s2.js n x) s.hp.length=true:=by
  refine List.all_eq_true.2 fun q hq=>?_
  obtain⟨q0,Of,e⟩:=List.mem_map.1 hq
  have:=List.all_eq_true.1 Cg q0 Of
  split at e<;>(subst e; exact this)
 obtain⟨g1,g2,g3⟩:=qK hT h (v:=.lit (.bool b)) (a:=.lit (.bool b)) (by simp[R]) r1 hg hl hk hw r2 Ui
 obtain⟨g8,g9⟩:=g1.step (v:=.lit (.bool b)) (wr:=[]) (e:=⟨.lit (.bool b),[]⟩) ⟨bp _,g1.hp,dJ.refl _,fun q hq=>by simp at hq,fun _ _ _=>rfl,Nat.le_refl _,fun _ _ h=>by simp at h⟩ dst
 refine⟨_,_,?_,g8,g2.trans g9,hr⟩
 unfold xN
 rw[Uh,h.hp.length]
 rfl
end
def Gi{den:Nat→Type}(H H':ai den):Prop:=∀ n:Nat,n<H.length→∀ o':aE den,H'[n]?=some (some o')→∃ o:aE den,H[n]?=some (some o)∧o.cur=o'.cur∧o.len=o'.len
theorem R.back[ae]{T:dP}{H H':ai T.den}(hb:Gi H H'){v:SV T.den}{a:AV}(h:R T H' v a)(hv:bx H.length v=true):R T H v a:=by
 refine(h.take hv).mono fun n o ho=>?_
 have hn:n<H.length:=by
  grind
 rw[List.getElem?_take_of_lt hn]at ho
 obtain⟨o',h1,h2,h3⟩:=hb n hn o ho
 exact⟨o',h1,by omega,fun _=>h3⟩
theorem RM.Mc{α:Type}{hp:ag}:∀ {x:RM α} {a:α},x.run hp=some a→∀ n,n∈x.log hp→n<hp.length
 |.ret _,_,_,n,hn=>by simp[RM.log]at hn
 |.fail,_,h,_,_=>by simp[RM.run]at h
 |.get m k,a,h,n,hn=>by
  simp only[RM.run]at h
  split at h
  case h_2=>simp at h
  rename_i o ho
  simp only[RM.log,ho,List.mem_cons]at hn
  rcases hn with rfl|hn
  ·grind
  ·exact RM.Mc h n hn
theorem aH.il{hp:ag}{ov:Option (Nat×aP)}{nw:List aP}{α:Type}{x:RM α}{a:α}{rd:List Nat}(h:aH (aV hp ov nw) x a rd):aH hp (x.il hp.length ov nw) a rd:=by
 refine⟨by rw[(n8 x).1]; exact h.1,fun n hn=>?_⟩
 rw[(n8 x).2]at hn
 exact h.2 n (List.mem_filter.1 hn).1
theorem aH.Uj{hp:ag}{ov:Option (Nat×aP)}{nw:List aP}{α:Type}{x:RM α}{a:α}{rd:List Nat}(h:aH (aV hp ov nw) x a rd):aH hp (x.il hp.length ov nw) a (rd.filter fun n=>Nat.blt n hp.length):=by
 refine⟨by rw[(n8 x).1]; exact h.1,fun n hn=>?_⟩
 rw[(n8 x).2]at hn
 obtain⟨h1,h2⟩:=List.mem_filter.1 hn
 exact List.mem_filter.2 ⟨h.2 n h1,h2⟩
theorem aH.Xs{hp:ag}{α:Type}{x:RM α}{a:α}{rd:List Nat}(h:aH hp x a rd):aH hp x a (rd.filter fun n=>Nat.blt n hp.length):=by
 refine⟨h.1,fun n hn=>List.mem_filter.2 ⟨h.2 n hn,?_⟩⟩
 have:=RM.Mc h.1 n hn
 simpa using this
theorem Md[ae]{P:Program}{hp:ag}{ev:Operand→AV}{nm n aq i j:Nat}{dst:Option Tmp}{t:TypeId}{a x:Operand}{type:TypeId}{pos:String}{after:Array Edge}{guard:Option (Nat×Bool)}{e:dK}
  (he:(aO P nm ev ⟨dst,.store t a x,type,pos,after,guard⟩).run hp=some e) (ha:ev a=.ref n aq i j):∃ o',e.wr=[(n,o')]:=by
 simp only[aO,pK,ha]at he
 split at he
 ·simp[RM.af]at he
 ·simp only[RM.run_bind]at he
  cases hq:(RM.arr n aq).run hp with
  |none=>rw[hq]at he; simp at he
  |some q=>
   rw[hq]at he
   simp only[Option.bind_some]at he
   split at he
   case h_2=>simp[RM.af]at he
   split at he
   case h_2=>simp[RM.af]at he
   split at he
   case isFalse=>simp[RM.af]at he
   simp only[RM.run_pure,Option.some.injEq]at he
   subst he
   exact⟨_,rfl⟩
theorem I5[ae]{P:Program}{t:TypeId}{a:AV}{hp:ag}{n:Nat}(h:n∈(ll P t a).log hp):n∈names a:=by
 unfold ll at h
 split at h
 ·simp[RM.log]at h
 ·split at h
  ·rw[RM.eV]at h
   simp only[names]
   rcases List.mem_append.1 h with h|h
   ·grind[RM.log,RM.arr]
   ·exfalso
    split at h
    ·unfold RM.iq at h
     repeat' (split at h)
     all_goals first|(simp[RM.log]at h; done)|skip
    ·simp at h
  ·unfold RM.iq at h
   split at h<;>simp[RM.log]at h
  ·simp[RM.log]at h
theorem HM[ae]{T:dP}{P:Program}{s:bC T.den}{st:St}(h:RS T s st):∀ {rs:List ResultVar},xF s.fr rs=true→∀ n,n∈(aW P st.fr rs).log st.hp→n∈Ht s.fr rs
 |[],_,n,hn=>by simp[aW,pure,RM.log]at hn
 |r::rs,hl,n,hn=>by
  unfold xF at hl
  simp only[List.all_cons,Bool.and_eq_true]at hl
  have ih:=HM (P:=P) h (rs:=rs) (by unfold xF; exact hl.2) n
  simp only[aW,RM.eV]at hn
  unfold Ht
  rw[List.flatMap_cons]
  rcases List.mem_append.1 hn with hn|hn
  ·refine List.mem_append.2 (.inl ?_)
   cases r with
   |tmp t=>simp[kx,pure,RM.log]at hn
   |cell a t=>
    simp only[kx]at hn
    have hd:bV (cU s.fr a)=false:=by simpa using hl.1
    have:=I5 hn
    rw[←R.names ((h.fr a).live hd)]at this
    exact this
  ·split at hn
   ·rcases List.mem_append.1 hn with hn|hn
    ·exact List.mem_append.2 (.inr (ih hn))
    ·split at hn
     ·simp[pure,RM.log]at hn
     ·simp at hn
   ·simp at hn
theorem Eo[ae]{T:dP}{H:ai T.den}:∀ {l:List (SV T.den)} {m:List AV},ay (R T H) l m→l.all isHole=true→m.all isAny=true
 |[],[],_,_=>rfl
 |x::xs,y::ys,h,hl=>by
  simp only[List.all_cons,Bool.and_eq_true]at hl ⊢
  refine⟨?_,Eo h.2 hl.2⟩
  have h1:=h.1
  have h2:=hl.1
  unfold isHole at h2
  split at h2
  ·simp only[R]at h1
   rw[h1]; rfl
  ·simp at h2
theorem rI[ae]{T:dP}(hT:T.Ok){Q:ik}(hQ:Q.Ok)(hZ:T.uC Q){ops:Array Oper}{hp:ag}{H:ai T.den}(hH:H.length=hp.length){ρ:Type}{r:ρ}{f:FuncId}:
  ∀ (l:List Oper) (s:bC T.den) (q:xd) (ov:Option Nat) (rd:List Nat) (K:bC T.den→Option Nat→List Nat→Tr ρ),RS T s ⟨f,q.fr,aV hp q.ov q.nw⟩→ov=q.ov.map (·.1)→(∀ n o,q.ov=some (n,o)→∃ o0,hp[n]?=some (some o0))→Gi H s.hp →
  (vL Q hp.length l s ov rd K).run=some r →
  ∃ s' I6 rd2 q',aH hp (jy Q.P hp.length ops l q) q' rd2∧RS T s' ⟨f,q'.fr,aV hp q'.ov q'.nw⟩∧I6=q'.ov.map (·.1)∧(∀ n o,q'.ov=some (n,o)→∃ o0,hp[n]?=some (some o0))∧Gi H s'.hp∧(K s' I6 (rd++rd2)).run=some r
 |[],s,q,ov,rd,K,h,xm,hex,hb,hk=>⟨s,ov,[],q,aH.pure _,h,xm,hex,hb,by rw[List.append_nil]; exact hk⟩
 |o::l,s,q,ov,rd,K,h,xm,hex,hb,hk=>by
  simp only[vL]at hk
  split at hk
  ·simp[Tr.run]at hk
  rename_i hg
  have hw:cS ops q.fr o=some true:=by simp[cS,hg]
  split at hk
  ·simp[Tr.run]at hk
  ·rename_i EF
   rw[cQ]at hk
   have he:RE T s.hp (aV hp q.ov q.nw) (.lit cX) [] ⟨.lit cX,[]⟩:=⟨bp _,h.hp,dJ.refl _,fun q h=>by simp at h,fun _ _ _=>rfl,Nat.le_refl _,fun _ _ h=>by simp at h⟩
   obtain⟨g1,_⟩:=h.step he o.dst
   obtain⟨s',I6,rd2,q',i1,i2,i3,i4,i5,hk⟩:=rI hT hQ hZ (ops:=ops) hH l _ { q with fr:=bJ q.fr o.dst (.lit cX) } ov rd K g1 xm hex (by simpa[bC.step,bh] using hb) hk
   refine⟨s',I6,rd2,q',?_,i2,i3,i4,i5,hk⟩
   simp only[jy,hw,EF]
   cases hd:o.dst with
   |none=>rw[hd]at i1; exact i1
   |some d=>rw[hd]at i1; exact i1
  ·rename_i Tx KD
   have hlen:s.hp.length=hp.length+q.nw.length:=h.hp.length.trans oN
   obtain⟨v,wr,rd',e,g1,g2,hk⟩:=Gc hT hQ hZ h.hp (.inl rfl) (fun x=>h.ev x) hk
   simp only at hk
   rw[hlen]at g1
   have e1:jy Q.P hp.length ops (o::l) q=((aO Q.P (hp.length+q.nw.length) (aB q.fr) o).il hp.length q.ov q.nw >>= fun e=>match e.wr.all fun q=>Nat.ble hp.length q.1 with
     |true=>jy Q.P hp.length ops l { q with fr:=bJ q.fr o.dst e.val,nw:=pP hp.length q.nw e.wr }
     |false=>(match q.ov,e.wr with
      |none,[(n,o')]=>.get n fun o0=>(match su Q.P (aB q.fr) o.op n o0 with
        |true=>jy Q.P hp.length ops l { q with fr:=bJ q.fr o.dst e.val,ov:=some (n,o') }
        |false=>.fail)
      |_,_=>.fail)):=by
    simp only[jy,hw]
    rfl
   rw[e1]
   split at hk
   ·rename_i aX
    rw[cQ]at hk
    obtain⟨g3,_⟩:=h.step g2 o.dst
    have Ep:e.wr.all (fun q=>Nat.ble hp.length q.1)=true:=by
     refine List.all_eq_true.2 fun x hx=>?_
     obtain⟨y,hy,hyx⟩:=List.mem_map.1 (g2.names x hx)
     have:=List.all_eq_true.1 aX y hy
     rw[←hyx]; exact this
    rw[qi e.wr fun x hx=>Nat.le_of_ble_eq_true (List.all_eq_true.1 Ep x hx)]at g3
    have pH:Gi H (s.step o.dst v wr).hp:=by
     intro n hn o' dr
     refine hb n hn o' ?_
     have:n∉wr.map (·.1):=by
      intro hm
      obtain⟨y,hy,rfl⟩:=List.mem_map.1 hm
      have:=Nat.le_of_ble_eq_true (List.all_eq_true.1 aX y hy)
      omega
     rw[←g2.pz n this (by omega)]
     exact dr
    obtain⟨s',I6,rd2,q',i1,i2,i3,i4,i5,hk⟩:=rI hT hQ hZ (ops:=ops) hH l _ { q with fr:=bJ q.fr o.dst e.val,nw:=pP hp.length q.nw e.wr } ov (rd++rd') K g3 xm hex pH hk
    refine⟨s',I6,rd'++rd2,q',?_,i2,i3,i4,i5,by rw[←List.append_assoc]; exact hk⟩
    refine aH.bind g1.il ?_
    simp only[Ep]
    exact i1
   ·split at hk
    case h_2=>simp[Tr.run]at hk
    rename_i n o' aX acs
    split at hk
    case h_2=>simp[Tr.run]at hk
    rename_i hh
    rw[Bool.and_eq_true]at hh
    obtain⟨bE,ig⟩:=hh
    have bE:n<hp.length:=by simpa using bE
    have RK:q.ov=none:=by
     cases hq:q.ov with
     |none=>rfl
     |some x=>rw[hq]at xm; simp at xm
    unfold Hr at ig
    split at ig
    case h_2=>simp at ig
    rename_i t a x EF
    split at ig
    case h_2=>simp at ig
    rename_i r0 n' c i j g f cur es QE Ue zA
    split at ig
    case h_2=>simp at ig
    rename_i l0 u0
    simp only[Bool.and_eq_true]at ig
    obtain⟨⟨⟨⟨c1,c2⟩,c3⟩,c4⟩,c5⟩:=ig
    obtain rfl:=Nat.eq_of_beq_eq_true c1
    have Nm:=h.ev a
    rw[Ue]at Nm
    have Nm:=Nm.live rfl
    simp only[R]at Nm
    obtain⟨aq,Nm,_⟩:=Nm
    obtain⟨dst,op,type,pos,after,guard⟩:=o
    simp only at EF
    subst EF
    obtain⟨WY,EN⟩:=Md g1.1 Nm
    obtain⟨ao,Ik,dV⟩:=h.hp.obj zA
    obtain⟨es',rfl,cP,_⟩:=dV
    obtain⟨l1,rZ,HB⟩:=ay.get (aU.1 cP) u0
    simp only[R]at HB
    obtain⟨l',rfl,HB⟩:=HB
    rw[RK]at Ik
    have vn:hp[n']?=some (some (.arr g false f es')):=by
     grind[aV,qh]
    obtain⟨r1,xf,_,lA,_⟩:=hQ.row _ _ QE
    have Uk:su Q.P (aB q.fr) (.store t a x) n' (.arr g false f es')=true:=by
     simp only[su,xf,Nm,rZ,Bool.and_eq_true]
     refine⟨⟨c1,?_⟩,?_⟩
     ·rw[←ay.length (aU.1 HB),lA]; exact c2
     ·rw[lA]
      exact Eo (((aU.1 HB).drop j).take r0.size) c3
    have Ep:e.wr.all (fun q=>Nat.ble hp.length q.1)=false:=by
     simp_all
    rw[cQ]at hk
    obtain⟨g3,_⟩:=h.step g2 dst
    simp only at g3
    rw[EN,RK,yw vn]at g3
    have pH:Gi H (s.step dst v [(n',o')]).hp:=by
     intro m hm om ZF
     by_cases e:m=n'
     ·subst e
      have O0:(bh s.hp [(m,o')])[m]?=some (some om):=ZF
      simp only[bh,bQ]at O0
      rw[if_neg (by omega),List.getElem?_set_self (by omega)]at O0
      simp only[Option.some.injEq]at O0
      subst O0
      obtain⟨o1,b1,b2,b3⟩:=hb m hm _ zA
      refine⟨o1,b1,b2.trans (Nat.eq_of_beq_eq_true c4),b3.trans (Nat.eq_of_beq_eq_true c5)⟩
     ·refine hb m hm om ?_
      rw[←g2.pz m (by simpa using e) (by omega)]
      exact ZF
    obtain⟨s',I6,rd2,q',i1,i2,i3,i4,i5,hk⟩:=rI hT hQ hZ (ops:=ops) hH l _ { q with fr:=bJ q.fr dst e.val,ov:=some (n',WY) } (some n') (rd++(rd'++[n'])) K g3 rfl
     (fun m om hm=>by simp only[Option.some.injEq,Prod.mk.injEq]at hm; obtain⟨rfl,rfl⟩:=hm; exact⟨_,vn⟩) pH hk
    refine⟨s',I6,rd'++(n'::rd2),q',?_,i2,i3,i4,i5,by simpa using hk⟩
    refine aH.bind g1.il ?_
    rw[EN]at Ep
    simp only[EN,Ep,RK]
    refine aH.get vn ?_
    simp only[Uk]
    exact i1
theorem I7[ae]{T:dP}(hT:T.Ok){Q:ik}(hQ:Q.Ok)(hZ:T.uC Q){hp:ag}{H:ai T.den}(hH:H.length=hp.length){ρ:Type}{r:ρ}{f:FuncId}:
  ∀ (c:Code) (s:bC T.den) (q:xd) (ov:Option Nat) (rd:List Nat) (K:Bool→bC T.den→Option Nat→List Nat→Tr ρ),RS T s ⟨f,q.fr,aV hp q.ov q.nw⟩→ov=q.ov.map (·.1)→(∀ n o,q.ov=some (n,o)→∃ o0,hp[n]?=some (some o0))→Gi H s.hp →
  (mB Q hp.length c s ov rd K).run=some r →
  ∃ b s' I6 rd2 q',aH hp (hG Q.P hp.length c q) (q',b) rd2∧RS T s' ⟨f,q'.fr,aV hp q'.ov q'.nw⟩∧I6=q'.ov.map (·.1)∧(∀ n o,q'.ov=some (n,o)→∃ o0,hp[n]?=some (some o0))∧Gi H s'.hp∧(K b s' I6 (rd++rd2)).run=some r:=by
 intro c
 induction c with
 |skip=>intro s q ov rd K h xm hex hb hk; exact⟨false,s,ov,[],q,aH.pure _,h,xm,hex,hb,by rw[List.append_nil]; exact hk⟩
 |ret=>intro s q ov rd K h xm hex hb hk; exact⟨true,s,ov,[],q,aH.pure _,h,xm,hex,hb,by rw[List.append_nil]; exact hk⟩
 |seq a b G8 EP=>
  intro s q ov rd K h xm hex hb hk
  simp only[mB]at hk
  obtain⟨z,s1,SG,SH,q1,g1,g2,g3,g4,g5,hk⟩:=G8 s q ov rd _ h xm hex hb hk
  cases z with
  |true=>exact⟨true,s1,SG,SH++[],q1,by simp only[hG]; exact aH.bind g1 (aH.pure _),g2,g3,g4,g5,by rw[List.append_nil]; exact hk⟩
  |false=>
   obtain⟨z,s2,ov2,rd2,q2,i1,i2,i3,i4,i5,hk⟩:=EP s1 q1 SG _ K g2 g3 g4 g5 hk
   exact⟨z,s2,ov2,SH++rd2,q2,by simp only[hG]; exact aH.bind g1 i1,i2,i3,i4,i5,by rw[←List.append_assoc]; exact hk⟩
 |cond o a b G8 EP=>
  intro s q ov rd K h xm hex hb hk
  simp only[mB]at hk
  split at hk
  ·rename_i t hs
   have ha:=(h.ev o).live (by rw[hs]; rfl)
   rw[hs]at ha
   have ha:aB q.fr o=.lit (.bool t):=ha
   rcases fQ hk with ⟨rfl,hk⟩|⟨rfl,hk⟩
   ·obtain⟨z,s1,SG,SH,q1,g1,g⟩:=G8 s q ov rd K h xm hex hb hk
    exact⟨z,s1,SG,SH,q1,by simp only[hG,ha]; exact g1,g⟩
   ·obtain⟨z,s1,SG,SH,q1,g1,g⟩:=EP s q ov rd K h xm hex hb hk
    exact⟨z,s1,SG,SH,q1,by simp only[hG,ha]; exact g1,g⟩
  ·simp[Tr.run]at hk
 |region id ops draw=>
  intro s q ov rd K h xm hex hb hk
  cases draw with
  |true=>simp[mB,Tr.run]at hk
  |false=>
   simp only[mB]at hk
   obtain⟨s',I6,rd2,q',g1,g2,g3,g4,g5,hk⟩:=rI hT hQ hZ (ops:=ops) hH ops.toList s q ov rd _ h xm hex hb hk
   exact⟨false,s',I6,rd2++[],q',by simp only[hG]; exact aH.bind g1 (aH.pure _),g2,g3,g4,g5,by rw[List.append_nil]; exact hk⟩
 |_=>intro s q ov rd K h xm hex hb hk; simp[mB,Tr.run]at hk
section
variable {T:dP}
theorem ay.qL{α β:Type}{P:α→β→Prop}:∀ {l:List α} {m:List β},ay P l m→∀ {i:Nat} {x:α} {y:β},m[i]?=some y→P x y→ay P (l.set i x) m
 |_::_,_::_,h,0,x,y,hy,hp=>by simp at hy; subst hy; exact⟨hp,h.2⟩
 |_::_,_::_,h,i+1,x,y,hy,hp=>⟨h.1,ay.qL h.2 (by simpa using hy) hp⟩
 |[],[],_,_,_,_,hy,_=>by simp at hy
theorem v7[ae]{s:bC T.den}{st:St}(h:RS T s st){n:Nat}{o o':aE T.den}(ho:s.hp[n]?=some (some o))(hc:o'.cur=o.cur)(hl:o'.len=o.len)(nM:o.isRec=false)
  (hr:∀ a,RO T s.hp o a→RO T s.hp o' a):RS T { s with hp:=s.hp.set n (some o'),wh:=n::s.wh } st∧bn s { s with hp:=s.hp.set n (some o'),wh:=n::s.wh }:=by
 have hn:=(List.getElem?_eq_some_iff.1 ho).1
 obtain⟨a,ha,hra⟩:=h.hp.obj ho
 have hg:dJ s.hp (s.hp.set n (some o')):=by
  intro m x hm
  by_cases e:m=n
  ·simp_all
  ·grind
 refine⟨⟨h.fn,h.n,fun t=>(h.fr t).mono hg,?_,h.js.pz fun m hm=>⟨?_,rfl⟩⟩,⟨rfl,rfl,fun _ _=>rfl,fun _ h=>h,fun m hm hw=>?_,fun m hm=>List.mem_cons_of_mem _ hm,by simp,hg⟩⟩
 ·exact ay.qL (ay.mono (fun _ _ h=>B5.mono hg h) h.hp) (y:=some a) ha (B5.mono hg (show B5 T s.hp (some o') (some a) from hr a hra))
 ·have dE:m≠n:=by
   grind[recAt]
  rw[List.getElem?_set_ne (Ne.symm dE)]
 ·simp only at hw ⊢
  rw[List.getElem?_set_ne (fun e=>hw (by rw[e]; simp))]
theorem tp[ae]{s:bC T.den}{st:St}(h:RS T s st){d:Nat}{v:SV T.den}(hr:∀ a,R T s.hp (cU s.fr d) a→R T s.hp v a)(hd:bV (cU s.fr d)=false):
  RS T { s with fr:=uq s.n s.fr d v,wf:=d::s.wf } st∧bn s { s with fr:=uq s.n s.fr d v,wf:=d::s.wf }:=by
 refine⟨⟨h.fn,h.n,fun t=>?_,h.hp,h.js⟩,⟨rfl,rfl,fun t ht=>?_,fun t ht=>List.mem_cons_of_mem _ ht,fun _ _ _=>rfl,fun _ h=>h,Nat.le_refl _,dJ.refl _⟩⟩
 ·simp only
  rw[kU]
  split
  ·rename_i e
   rw[e.1]
   exact .inr (hr _ ((h.fr d).live hd))
  ·exact h.fr t
 ·simp only at ht ⊢
  rw[kU,if_neg]
  exact fun e=>ht (by rw[e.1]; simp)
theorem tq[ae]{s:bC T.den}{st:St}(h:RS T s st){d j:Nat}{v v':SV T.den}(hc:cellOf s d j=some v)(hd:bV v=false)(hr:∀ a,R T s.hp v a→R T s.hp v' a)(mT:aG v'=true):
  RS T (setCell s d j v') st∧bn s (setCell s d j v'):=by
 unfold cellOf at hc
 unfold setCell
 split at hc
 ·rename_i n c i k he
  split at hc
  case h_2=>simp at hc
  rename_i g cl f cur es ho
  split at hc
  case h_2=>simp at hc
  rename_i l hl
  refine v7 h ho rfl (by simp[aE.len]) rfl fun a ha=>?_
  obtain⟨es',rfl,h1,h2⟩:=ha
  obtain⟨ea,h3,h4⟩:=ay.get (aU.1 h1) hl
  simp only[R]at h4
  obtain⟨l',rfl,h5⟩:=h4
  obtain⟨b,h6,h7⟩:=ay.get (aU.1 h5) hc
  refine⟨es',rfl,aU.2 (ay.qL (aU.1 h1) h3 ?_),fun Xt=>?_⟩
  ·simp only[R]
   exact⟨l',rfl,aU.2 (ay.qL (aU.1 h5) h6 (hr _ h7))⟩
  ·have h8:=h2 Xt
   rw[jM,List.all_eq_true]at h8 ⊢
   intro x hx
   rcases List.mem_or_eq_of_mem_set hx with hx|rfl
   ·exact h8 x hx
   ·have h9:=h8 _ (List.mem_of_getElem? hl)
    simp only[aG]at h9 ⊢
    rw[jM,List.all_eq_true]at h9 ⊢
    intro y hy
    rcases List.mem_or_eq_of_mem_set hy with hy|rfl
    ·exact h9 y hy
    ·exact mT
 ·rename_i l he
  refine tp h (fun a ha=>?_) (by rw[he]; rfl)
  rw[he]at ha
  simp only[R]at ha ⊢
  obtain⟨l',rfl,h5⟩:=ha
  obtain⟨b,h6,h7⟩:=ay.get (aU.1 h5) hc
  exact⟨l',rfl,aU.2 (ay.qL (aU.1 h5) h6 (hr _ h7))⟩
 ·rename_i h1 h2
  split at hc
  case h_2=>simp at hc
  simp only[Option.some.injEq]at hc
  subst hc
  exact tp h hr hd
theorem Er{ρ:Type}{r:ρ}{n:Int}{K:Int→Tr ρ}:∀ {b m:Nat},(LF b m n K).run=some r→∃ m':Nat,n=Int.ofNat m'∧(K (Int.ofNat m')).run=some r
 |0,m,h=>by simp[LF,Tr.run]at h
 |b+1,m,h=>by
  simp only[LF,Tr.run]at h
  cases hb:n==Int.ofNat m with
  |true=>
   rw[hb]at h
   exact⟨m,eq_of_beq hb,h⟩
  |false=>
   rw[hb]at h
   exact Er h
theorem zj{α:Type}:∀ {l:List α} {i:Nat} {x:α},l[i]?=some x→l.drop i=x::l.drop (i+1)
 |y::ys,0,x,h=>by simp at h; subst h; simp
 |y::ys,i+1,x,h=>by simp at h ⊢; exact zj h
 |[],i,x,h=>by simp at h
theorem v8[ae]{ρ:Type}{r:ρ}{t:Nat}{l:List (T.den t)}:∀ {n i:Nat} {K:List (SV T.den)→Tr ρ},(DJ t l n i K).run=some r→∃ xs:List (T.den t),xs.length=n∧(l.drop i).take n=xs∧(K (xs.map (T.up t))).run=some r
 |0,i,K,h=>⟨[],rfl,by simp,h⟩
 |n+1,i,K,h=>by
  simp only[DJ,Tr.run,Option.bind_eq_some_iff]at h
  obtain⟨x,hx,h⟩:=h
  obtain⟨xs,h1,h2,h3⟩:=v8 h
  refine⟨x::xs,by simp[h1],?_,h3⟩
  rw[zj hx,List.take_succ_cons,h2]
theorem Me[ae](hT:T.Ok){H:ai T.den}{t:Nat}:∀ {l:List (T.den t)} {m:List AV},ay (T.rp t) l m→RL T H (l.map (T.up t)) m∧aw (l.map (T.up t))=true
 |[],[],_=>by simp[RL,aw]
 |x::xs,y::ys,h=>by
  obtain⟨h1,h2⟩:=Me hT (H:=H) h.2
  simp only[List.map_cons,RL,aw,Bool.and_eq_true]
  exact⟨⟨hT.up _ _ _ H h.1,h1⟩,vS hT h.1,h2⟩
theorem Mf[ae](hT:T.Ok){ρ:Type}{r:ρ}{w:Tw}{K:bC T.den→Tr ρ}{s:bC T.den}{st:St}(h:RS T s st)(hk:(yP s w K).run=some r):∃ s',RS T s' st∧bn s s'∧(K s').run=some r:=by
 cases w with
 |num d j b=>
  simp only[yP]at hk
  split at hk
  case h_2=>simp[Tr.run]at hk
  rename_i k n hc
  obtain⟨m,rfl,Fg⟩:=Er hk
  clear hk
  have hk:=Fg
  rw[force_eq]at hk
  obtain⟨h1,h2⟩:=tq h hc rfl (v':=.lit (.int k (Int.ofNat m))) (fun a ha=>ha) rfl
  exact⟨_,h1,h2,hk⟩
 |Zd d j n=>
  simp only[yP]at hk
  split at hk
  case h_2=>simp[Tr.run]at hk
  rename_i t l hc
  obtain⟨g1,hk⟩:=ba hk
  simp only[Bool.and_eq_true,decide_eq_true_eq]at g1
  obtain⟨g0,g1⟩:=g1
  have g0:0<n:=by simpa using g0
  obtain⟨xs,e1,e2,hk⟩:=v8 hk
  rw[List.drop_zero,←g1,List.take_length]at e2
  subst e2
  rw[force_eq]at hk
  have mT:aG (.sl (l.map (T.up t)):SV T.den)=true:=rfl
  obtain⟨h1,h2⟩:=tq h hc rfl (v':=.sl (l.map (T.up t))) (fun a ha=>by
   simp only[R]at ha ⊢
   rcases ha with ⟨l',rfl,ha⟩|⟨rfl,_⟩
   ·obtain⟨b1,b2⟩:=Me hT (H:=s.hp) ha
    exact⟨l',rfl,b1,b2⟩
   ·simp at g1; omega) mT
  exact⟨_,h1,h2,hk⟩
 |arr d n=>
  simp only[yP]at hk
  split at hk
  case h_2=>simp[Tr.run]at hk
  split at hk
  case h_2=>simp[Tr.run]at hk
  rename_i g f cur t l ho
  obtain⟨g1,hk⟩:=ba hk
  simp only[decide_eq_true_eq]at g1
  obtain⟨xs,e1,e2,hk⟩:=v8 hk
  rw[List.drop_zero,←g1,List.take_length]at e2
  subst e2
  rw[force_eq]at hk
  obtain⟨h1,h2⟩:=v7 h ho (o':=.arr g true f cur (l.map (T.up t))) rfl (by simp[aE.len]) rfl (fun a ha=>by
   obtain⟨es',rfl,ha⟩:=ha
   obtain⟨b1,b2⟩:=Me hT (H:=s.hp) ha
   exact⟨es',rfl,b1,fun _=>b2⟩)
  exact⟨_,h1,h2,hk⟩
 |int d j=>
  simp only[yP]at hk
  split at hk
  case h_2=>simp[Tr.run]at hk
  rename_i k n hc
  simp only[Tr.run,Option.bind_some]at hk
  rw[force_eq]at hk
  obtain⟨h1,h2⟩:=tq h hc rfl (v':=.lit (.int k n)) (fun a ha=>ha) rfl
  exact⟨_,h1,h2,hk⟩
 |name d=>
  simp only[yP]at hk
  split at hk
  case h_2=>simp[Tr.run]at hk
  rename_i esz nm c rg cap hd
  split at hk
  case h_2=>simp[Tr.run]at hk
  rename_i g f cur t l ho
  simp only[Tr.run,Option.bind_some]at hk
  obtain⟨h1,h2⟩:=v7 h ho (o':=.cj g f cur t l) rfl rfl rfl (fun a ha=>ha)
  split at hk
  ·rw[force_eq]at hk
   exact⟨_,h1,h2,hk⟩
  ·rename_i off len
   simp only[Tr.run,Option.bind_some]at hk
   rw[force_eq]at hk
   obtain⟨h3,h4⟩:=tp h1 (d:=d) (v:=.bu esz nm c (some (off,len)) cap) (fun a ha=>by simp only[hd]at ha; exact ha) (by simp only[hd]; rfl)
   exact⟨_,h3,h2.trans h4,hk⟩
theorem Ch[ae](hT:T.Ok){ρ:Type}{r:ρ}{K:bC T.den→Tr ρ}{st:St}:∀ {l:List Tw} {s:bC T.den},RS T s st→(TM l s K).run=some r→∃ s',RS T s' st∧bn s s'∧(K s').run=some r
 |[],s,h,hk=>⟨s,h,bn.refl _,hk⟩
 |w::l,s,h,hk=>by
  obtain⟨s1,h1,h2,hk⟩:=Mf hT h hk
  obtain⟨s2,h3,h4,hk⟩:=Ch hT h1 hk
  exact⟨s2,h3,h2.trans h4,hk⟩
theorem RN[ae](hT:T.Ok){ρ:Type}{r:ρ}{l:Tmp→List Tw}{dst:Option Tmp}{K:bC T.den→Tr ρ}{s:bC T.den}{st:St}(h:RS T s st)(hk:(TN l dst s K).run=some r):∃ s',RS T s' st∧bn s s'∧(K s').run=some r:=by
 cases dst with
 |none=>exact⟨s,h,bn.refl _,hk⟩
 |some d=>exact Ch hT h hk
end
theorem v9[ae]{T:dP}{ρ:Type}{r:ρ}{K:bC T.den→Tr ρ}:∀ {l:List (Nat×Nat)} {s:bC T.den} {st:St},RS T s st→(yO l s K).run=some r→∃ s',RS T s' (ia l st)∧bn s s'∧(K s').run=some r
 |[],s,st,h,hk=>⟨s,h,bn.refl _,hk⟩
 |(d,j)::l,s,st,h,hk=>by
  unfold yO at hk
  have hd:=h.fr d
  split at hk
  case h_2=>simp[Tr.run]at hk
  rename_i n c i k he
  rw[he]at hd
  have hd:=hd.live rfl
  simp only[R]at hd
  obtain⟨aq,hd,cq⟩:=hd
  split at hk
  case h_2=>simp[Tr.run]at hk
  rename_i g cl f cur es ho
  obtain⟨ao,dr,dV⟩:=h.hp.obj ho
  obtain⟨es',rfl,cP,mT⟩:=dV
  split at hk
  case h_2=>simp[Tr.run]at hk
  rename_i e' GR
  obtain⟨e,M5,yq⟩:=Option.bind_eq_some_iff.1 GR
  obtain⟨ea,Ue,ET⟩:=ay.get (aU.1 cP) M5
  unfold AW at yq
  split at yq
  case h_2=>simp at yq
  rename_i l0
  split at yq
  case h_2=>simp at yq
  rename_i Wj
  simp only[Option.some.injEq]at yq
  subst yq
  simp only[R]at ET
  obtain⟨l',rfl,HB⟩:=ET
  have hn:=(List.getElem?_eq_some_iff.1 ho).1
  have Xu:Nat.blt (k+j) l'.length=true:=by rw[←ay.length (aU.1 HB)]; exact Wj
  have F8:mQ st d j={ st with hp:=st.hp.set n (some (.arr g false f (es'.set i (.agg (l'.set (k+j) .any))))) }:=by
   unfold mQ
   rw[hd]
   simp only[dr,Ue,Option.bind_some,tE,Xu]
  rw[cQ]at hk
  have hg:dJ s.hp (s.hp.set n (some (.arr g false f cur (es.set i (.agg (l0.set (k+j) .hole)))))):=by
   intro m o hm
   by_cases e:m=n
   ·subst e
    rw[ho]at hm
    simp only[Option.some.injEq]at hm
    subst hm
    exact⟨_,List.getElem?_set_self hn,Nat.le_refl _,fun _=>by simp[aE.len]⟩
   ·grind
  have dV:RO T (s.hp.set n (some (.arr g false f cur (es.set i (.agg (l0.set (k+j) .hole)))))) (.arr g false f cur (es.set i (.agg (l0.set (k+j) .hole)))) (.arr g false f (es'.set i (.agg (l'.set (k+j) .any)))):=by
   refine⟨_,rfl,aU.2 (((aU.1 cP).mono fun _ _ h=>h.mono hg).set i ?_),fun h=>by cases h⟩
   simp only[R]
   exact⟨_,rfl,aU.2 (((aU.1 HB).mono fun _ _ h=>h.mono hg).set (k+j) (by simp[R]))⟩
  have eR:bh s.hp [(n,.arr g false f cur (es.set i (.agg (l0.set (k+j) .hole))))]=s.hp.set n (some (.arr g false f cur (es.set i (.agg (l0.set (k+j) .hole))))):=by
   grind[bh,bQ]
  have P9:ak st.hp [(n,.arr g false f (es'.set i (.agg (l'.set (k+j) .any))))]=st.hp.set n (some (.arr g false f (es'.set i (.agg (l'.set (k+j) .any))))):=by
   simp only[ak]
   exact jd (List.getElem?_eq_some_iff.1 dr).1
  have hE:RE T s.hp st.hp (.lit undef) [(n,.arr g false f cur (es.set i (.agg (l0.set (k+j) .hole))))] ⟨.undef,[(n,.arr g false f (es'.set i (.agg (l'.set (k+j) .any))))]⟩:=by
   refine⟨bp _,?_,by rw[eR]; exact hg,fun q hq=>by simp only[List.mem_singleton]at hq; subst hq; simp,fun m hm hl=>?_,by rw[eR]; simp,fun m hm hc=>?_⟩
   ·rw[eR,P9]
    exact(ay.mono (fun _ _ h=>B5.mono hg h) h.hp).set n dV
   ·grind
   ·simp_all[aE.isRec,recAt]
  obtain⟨g1,g2⟩:=h.step hE none
  rw[P9]at g1
  have N8:RS T (s.step none (.lit undef) [(n,.arr g false f cur (es.set i (.agg (l0.set (k+j) .hole))))]) (mQ st d j):=by
   rw[F8]; exact g1
  obtain⟨s',i1,i2,i3⟩:=v9 N8 hk
  exact⟨s',i1,g2.trans i2,i3⟩
section
variable [ae]{S:oS}(hS:S.Ok)
include hS
theorem RQ(f:FuncId):(S.Qf f).Ok:=⟨hS.Q.row,hS.Q.kind,hS.Q.PS,hS.Q.map⟩
theorem Mg{ρ:Type}{r:ρ}{g:FuncId}{args:List (SV S.T.den)}{as:List AV}{H:ai S.T.den}{hp:ag}{K:EK S.T ρ}(hh:RH S.T H hp)(ha:RL S.T H args as)(hk:(LH S g args H K).run=some r):
  S.C.kind g=.imp∧S.C.rW g=none∧∃ v rd e,aH hp (zu S.C.P hp.length g as) e rd∧RE S.T H hp v [] e∧(K v [] rd).run=some r:=by
 unfold LH at hk
 split at hk
 case h_2=>simp[Tr.run]at hk
 rename_i fn Xv RR rN
 split at hk
 case h_2=>simp[Tr.run]at hk
 rename_i c hc
 split at hk
 case h_1=>simp[Tr.run]at hk
 rename_i hD
 have ig:=ze (f:=g) ha hh fn.ntmps [] (js:=[]) (fun n st h=>by cases h)
 have hlen:H.length=hp.length:=hh.length
 have el:aV hp none []=hp:=by simp[aV,qh]
 rw[hlen]at hk
 obtain⟨b,s',ov,rd2,q,g1,g2,g3,g4,g5,hk⟩:=I7 hS.T (RQ hS g) hS.Z hlen (f:=g) c _ ⟨as++List.replicate (fn.ntmps-as.length) .undef,none,[]⟩ none _ _ (by simp only[el]; exact ig) rfl (fun n o h=>by cases h) (fun n hn o ho=>⟨o,ho,rfl,rfl⟩) hk
 obtain⟨l,m,i1,i2,hk⟩:=o7 hS.T hS.Q g2 hk
 have Xk:(aW S.C.P q.fr fn.results.toList).run (aV hp q.ov q.nw)=some m:=i1
 split at hk
 case h_2=>simp[Tr.run]at hk
 rename_i Ij
 simp only[Bool.and_eq_true]at Ij
 obtain⟨⟨c1,c2⟩,c3⟩:=Ij
 have ZG:=HC i2
 have hR:R S.T H (rR l) (cO m):=R.back g5 ZG (by rw[hlen]; exact c1)
 refine⟨Xv,RR,rR l,_,⟨cO m,[]⟩,?_,⟨.inr hR,hh,dJ.refl _,fun q h=>by simp at h,fun _ _ _=>rfl,Nat.le_refl _,fun _ _ h=>by simp at h⟩,hk⟩
 unfold zu
 rw[rN]
 simp only
 rw[hc]
 simp only
 rw[hD]
 simp only
 have Cg:(below hp.length (cO m)&&(match q.ov with
    |some (_,o)=>o.below hp.length
    |none=>true))=true:=by
  rw[Bool.and_eq_true]
  refine⟨by rw[←R.below ZG]; exact c1,?_⟩
  cases hq:q.ov with
  |none=>rfl
  |some x=>
   obtain⟨n,o⟩:=x
   simp only
   rw[hq]at g3
   simp only[Option.map_some]at g3
   rw[g3]at c3
   simp only at c3
   split at c3
   case h_2=>simp at c3
   rename_i so Qj
   obtain⟨o0,ZH⟩:=g4 n o hq
   obtain⟨ao,Xw,Xx⟩:=ay.get g2.hp Qj
   have bE:=(List.getElem?_eq_some_iff.1 ZH).1
   have:(aV hp q.ov q.nw)[n]?=some (some o):=by
    rw[hq]
    simp only[aV,qh,ZH]
    rw[List.getElem?_append_left (by simpa using bE),List.getElem?_set_self bE]
   rw[this]at Xw
   simp only[Option.some.injEq]at Xw
   subst Xw
   have:=A5 hS.T Xx (n:=hp.length)
   rw[c3]at this
   exact this.symm
 have y1:aH hp (hG S.C.P hp.length c ⟨as++List.replicate (fn.ntmps-as.length) .undef,none,[]⟩) (q,b) rd2:=g1
 have y2:aH hp ((aW S.C.P q.fr fn.results.toList).il hp.length q.ov q.nw) m ((Ht s'.fr fn.results.toList).filter fun n=>Nat.blt n hp.length):=
  aH.Uj ⟨Xk,fun n hn=>HM g2 c2 n hn⟩
 have y3:=aH.bind (y1.Xs) (f:=fun q=>(aW S.C.P q.1.fr fn.results.toList).il hp.length q.1.ov q.1.nw >>= fun l=>match below hp.length (cO l)&&(match q.1.ov with
    |some (_,o)=>o.below hp.length
    |none=>true) with
   |true=>(pure ⟨cO l,[]⟩:RM dK)
   |false=>.fail) (aH.bind y2 (f:=fun l=>match below hp.length (cO l)&&(match q.ov with
    |some (_,o)=>o.below hp.length
    |none=>true) with
   |true=>(pure ⟨cO l,[]⟩:RM dK)
   |false=>.fail) (b:=⟨cO m,[]⟩) (rd':=[]) (by simp only[Cg]; exact aH.pure _))
 rw[List.append_nil,←List.filter_append]at y3
 exact y3
theorem RT{ρ:Type}{r:ρ}{nm:Nat}{o:Oper}{s:bC S.T.den}{st:St}{K:EK S.T ρ}(h:RS S.T s st)(hn:nm=s.hp.length∨s.hp[nm]?=some none)(oC:au o.op=false→nm=s.hp.length)(hk:(Vs S nm o s K).run=some r):
  ∃ v wr rd e lg,CP S.C nm o st.fr st.hp=some (e,lg)∧(∀ n,n∈lg→n∈rd)∧RE S.T s.hp st.hp v wr e∧(K v wr rd).run=some r:=by
 have plain:(∀ c f,o.op=.call c→c.callee=.value f→False)→(∀ c m i,o.op=.call c→c.callee=.invoke m i→False)→(OE (S.Qf s.fn) nm s.hp (dj s.fr) o K).run=some r →
   ∃ v wr rd e lg,CP S.C nm o st.fr st.hp=some (e,lg)∧(∀ n,n∈lg→n∈rd)∧RE S.T s.hp st.hp v wr e∧(K v wr rd).run=some r:=by
  intro h1 h2 hk
  obtain⟨v,wr,rd,e,g1,g2,g3⟩:=Gc hS.T (RQ hS s.fn) (Q:=S.Qf s.fn) hS.Z h.hp hn (fun x=>h.ev x) hk
  refine⟨v,wr,rd,e,_,?_,g1.2,g2,g3⟩
  rw[Fk h1 h2]
  have:=g1.1
  rw[show (S.Qf s.fn).P=S.C.P from rfl]at this
  rw[this]
  rfl
 unfold Vs at hk
 split at hk
 ·rename_i c hc
  split at hk
  ·rename_i b hb
   exact plain (fun c' f h1 h2=>by rw[hc]at h1; simp only[Op.call.injEq]at h1; subst h1; rw[hb]at h2; cases h2) (fun c' m i h1 h2=>by rw[hc]at h1; simp only[Op.call.injEq]at h1; subst h1; rw[hb]at h2; cases h2) hk
  ·rename_i f hf
   split at hk
   ·simp[Tr.run]at hk
   rename_i g args hg
   split at hk
   ·rename_i pV
    split at hk
    case h_2=>simp[Tr.run]at hk
    rename_i σ hd hσ
    obtain⟨m,r8,zr⟩:=gE (h.ev f) (jO (fun x=>h.ev x) c.args.toList) hg
    obtain⟨v,wr,rd,e,lg,g2,g3,g4,g5⟩:=HF hS.T (hS.own g σ hσ) h.hp hn (zr hd) hk
    refine⟨v,wr,rd,_,lg,?_,g3,g4,g5⟩
    obtain⟨dst,op,type,pos,after,guard⟩:=o
    simp only at hc pV
    subst hc
    obtain⟨callee,dc,mR⟩:=c
    simp only at hf
    subst hf
    rw[vg,r8,pV]
    exact g2
   rename_i pV
   split at hk
   case h_3=>simp[Tr.run]at hk
   case h_2=>
    rename_i hd _
    obtain⟨m,r8,zr⟩:=gE (h.ev f) (jO (fun x=>h.ev x) c.args.toList) hg
    obtain⟨Xv,RR,v,rd,e,g1,g2,hk⟩:=Mg hS h.hp (zr hd) hk
    rw[show st.hp.length=nm from by rw[oC (by assumption),h.hp.length]]at g1
    refine⟨v,[],rd,e,_,?_,g1.2,g2,hk⟩
    obtain⟨dst,op,type,pos,after,guard⟩:=o
    simp only at hc pV
    subst hc
    obtain⟨callee,dc,mR⟩:=c
    simp only at hf
    subst hf
    rw[vg,r8,pV]
    simp only[Option.bind_some,pZ,Xv,RR,g1.1,Option.map_some]
   rename_i σ hd hσ
   obtain⟨m,r8,zr⟩:=gE (h.ev f) (jO (fun x=>h.ev x) c.args.toList) hg
   obtain⟨v,wr,rd,a,w,lg,_,g2,g3,g4,g5⟩:=xG hS.T (hS.sum g σ hσ) h.hp (zr hd) hk
   refine⟨v,wr,rd,_,lg,?_,g3,g4,g5⟩
   obtain⟨dst,op,type,pos,after,guard⟩:=o
   simp only at hc pV
   subst hc
   obtain⟨callee,dc,mR⟩:=c
   simp only at hf
   subst hf
   rw[vg,r8,pV]
   exact g2 nm
  ·rename_i rv name hf
   split at hk
   ·simp[Tr.run]at hk
   rename_i g x hg
   obtain⟨ax,r8,SI⟩:=Ef (h.ev rv) hg
   split at hk
   case h_2=>simp[Tr.run]at hk
   rename_i σ hd hσ
   have zr:RL S.T s.hp (x::c.args.toList.map (dj s.fr)) (ax::c.args.toList.map (aB st.fr)):=by
    simp only[List.any_cons,Bool.or_eq_false_iff]at hd
    simp only[RL]
    exact⟨SI,jo (jO (fun x=>h.ev x) c.args.toList) hd.2⟩
   obtain⟨v,wr,rd,a,w,lg,_,g2,g3,g4,g5⟩:=xG hS.T (hS.sum g σ hσ) h.hp zr hk
   refine⟨v,wr,rd,_,lg,?_,g3,g4,g5⟩
   obtain⟨dst,op,type,pos,after,guard⟩:=o
   simp only at hc
   subst hc
   obtain⟨callee,dc,mR⟩:=c
   simp only at hf
   subst hf
   rw[H3 r8 (hS.sum g σ hσ).kind]
   exact g2 nm
 ·rename_i NI
  exact plain (fun c' f h1 _=>NI c' h1) (fun c' m i h1 _=>NI c' h1) hk
theorem RU{k:Nat}(ih:pa S k){ρ:Type}{o:Oper}{s:bC S.T.den}{K:bC S.T.den→Tr ρ}{r:ρ}{st:St}(h:RS S.T s st)(hk:(OI S (k+1) ρ o s K).run=some r):
  ∃ s' st',iL S.C o st=some (.norm st')∧RS S.T s' st'∧bn s s'∧(K s').run=some r:=by
 have plain:qP o.op=true→(OE (S.Qf s.fn) s.hp.length s.hp (dj s.fr) o fun v wr _=>s.fL o.dst v wr fun s=>DI (match o.op with|.call _=>fun _=>[]|_=>S.C.rL s.fn) o.dst s
    fun s=>TN (match o.op with|.call _=>fun _=>[]|_=>S.tw s.fn) o.dst s K).run=some r →
   ∃ s' st',iL S.C o st=some (.norm st')∧RS S.T s' st'∧bn s s'∧(K s').run=some r:=by
  intro h1 hk
  obtain⟨v,wr,rd,e,g1,g2,g3⟩:=Gc hS.T (RQ hS s.fn) (Q:=S.Qf s.fn) hS.Z h.hp (.inl rfl) (fun x=>h.ev x) hk
  replace g3:(s.fL o.dst v wr fun s=>DI (match o.op with|.call _=>fun _=>[]|_=>S.C.rL s.fn) o.dst s
    fun s=>TN (match o.op with|.call _=>fun _=>[]|_=>S.tw s.fn) o.dst s K).run=some r:=g3
  rw[cQ]at g3
  obtain⟨g4,g5⟩:=h.step g2 o.dst
  have rN:(s.step o.dst v wr).fn=st.fn:=h.fn
  rw[rN]at g3
  obtain⟨s1,i1,i2,i3⟩:=Ma hS.T g4 g3
  obtain⟨s',j1,j2,j3⟩:=RN hS.T i1 i3
  refine⟨s',_,?_,j1,g5.trans (i2.trans j2),j3⟩
  rw[xZ h1]
  have:=g1.1
  rw[h.hp.length]at this
  rw[show (S.Qf s.fn).P=S.C.P from rfl]at this
  rw[this]
  rfl
 unfold OI at hk
 obtain⟨dst,op,type,pos,after,guard⟩:=o
 simp only at hk
 split at hk
 ·rename_i c
  obtain⟨callee,dc,mR⟩:=c
  split at hk
  ·rename_i b hb
   simp only at hb
   subst hb
   refine plain rfl ?_
   have e:(fun (s:bC S.T.den)=>DI (fun _=>[]) dst s fun s=>TN (fun _=>[]) dst s K)=K:=by
    funext s
    cases dst<;>rfl
   simp only[e]
   exact hk
  ·rename_i f hf
   simp only at hf
   subst hf
   split at hk
   ·-- a round of a range over a function
    split at hk
    case h_2=>simp[Tr.run]at hk
    rename_i n hn
    have Db:=(h.ev f).live (by rw[hn]; rfl)
    rw[hn]at Db
    simp only[R]at Db
    split at hk
    case h_2=>simp[Tr.run]at hk
    rename_i fn ps as bd fr ho hj Mh
    split at hk
    case h_2=>simp[Tr.run]at hk
    rename_i hc
    rw[force_eq]at hk
    have jC:=jo (jO (fun x=>h.ev x) dc.toList) Mh
    obtain⟨ao,dr,dV⟩:=h.hp.obj ho
    obtain⟨x,vs,rfl,mK⟩:=dV
    obtain⟨Si,Sj⟩:=h.js n _ hj
    have hx:x=.ready:=by
     simp_all[iJ]
    subst hx
    have hlen:vs.length=fr.length:=mK.length.symm
    obtain⟨p1,p2⟩:=Ba (ps:=ps.toList) (xs:=dc.toList.map (dj s.fr)) (as:=dc.toList.map (aB st.fr)) (n:=fr.length) (fr:=na 0 fr) (fa:=vs) (H:=s.hp) hlen (fun t=>by
     rw[vZ]
     simp only[Nat.zero_le,if_true,Nat.sub_zero,List.getD_eq_getElem?_getD]
     cases hq:vs[t]? with
     |none=>
      have:fr[t]?=none:=by rw[List.getElem?_eq_none_iff]at hq ⊢; omega
      rw[this]
      exact bp undef
     |some a=>
      obtain⟨v,hv,hr⟩:=ay.get' mK hq
      rw[hv]
      rcases hr with ⟨rfl,_⟩|hr
      ·exact .inl rfl
      ·exact .inr hr) jC
    have EO:RS S.T ⟨fn,fr.length,mA fr.length (na 0 fr) ps.toList (dc.toList.map (dj s.fr)),s.hp,[],s.wh,s.js⟩ ⟨fn,fX vs ps.toList (dc.toList.map (aB st.fr)),st.hp⟩:=⟨rfl,p1,p2,h.hp,h.js⟩
    obtain⟨so1,o1,a1,a2,a3,hk⟩:=ih.c _ _ _ _ _ _ EO hk
    cases so1 with
    |exit id s1=>simp[Tr.run]at hk
    |ret s1=>simp[Tr.run]at hk
    |norm s1=>
    obtain⟨VF,rfl,n5⟩:=a2
    simp only at hk
    split at hk
    case h_2=>simp[Tr.run]at hk
    rename_i xf
    obtain⟨_,rZ⟩:=n5.js n _ xf
    obtain⟨b1,b2⟩:=HK n5.hp n5.js xf .busy
    have Xy:RS S.T { s1 with js:=B4 s1.js n .busy } { VF with hp:=pd VF.hp n .busy }:=⟨n5.fn,n5.n,n5.fr,b1,b2⟩
    obtain⟨RW,o2,c1,c2,c3,hk⟩:=ih.c _ _ _ _ _ _ Xy hk
    have key:∀ (s2:bC S.T.den),bn { s1 with js:=B4 s1.js n .busy } s2→dJ s.hp s2.hp∧s.hp.length≤s2.hp.length∧(∀ m:Nat,m<s.hp.length→m∉s2.wh→s2.hp[m]?=s.hp[m]?)∧∀ m,m∈s.wh→m∈s2.wh:=by
     intro s2 pg
     refine⟨a3.grow.trans pg.grow,Nat.le_trans a3.len pg.len,fun m hm hw=>?_,fun m hm=>pg.wh m (a3.wh m hm)⟩
     rw[pg.hp m (Nat.lt_of_lt_of_le hm a3.len) hw]
     exact a3.hp m hm (fun hc=>hw (pg.wh m hc))
    have Mi:iL S.C ⟨dst,.call ⟨.value f,dc,mR⟩,type,pos,after,guard⟩ st=ie (fun c s=>db S.C c s) n (dc.toList.map (aB st.fr)) dst st:=by
     rw[nU,Db.1]
     rfl
    have hy:ie (fun c s=>db S.C c s) n (dc.toList.map (aB st.fr)) dst st=Mb n dst st o2:=by
     clear c2
     unfold ie
     have e1:decide ((dc.toList.map (aB st.fr)).length=ps.size)=true:=by
      simpa using Nat.eq_of_beq_eq_true hc
     simp only[dr,e1,a1,rZ,c1]
     cases o2<;>rfl
    cases RW with
    |norm s2=>
     obtain⟨OW,rfl,Bw⟩:=c2
     obtain⟨k1,k2,k3,k4⟩:=key s2 c3
     obtain⟨s',st',d1,d2,d3,hk⟩:=Cf hS.T h Bw k1 k2 k3 k4 hk
     exact⟨s',st',by rw[Mi,hy]; exact d1,d2,d3,hk⟩
    |exit id s2=>
     obtain⟨OW,rfl,Bw⟩:=c2
     obtain⟨k1,k2,k3,k4⟩:=key s2 c3
     obtain⟨s',st',d1,d2,d3,hk⟩:=Cf hS.T h Bw k1 k2 k3 k4 hk
     exact⟨s',st',by rw[Mi,hy]; exact d1,d2,d3,hk⟩
    |ret s2=>
     obtain⟨OW,rfl,Bw⟩:=c2
     obtain⟨k1,k2,k3,k4⟩:=key s2 c3
     obtain⟨s',st',d1,d2,d3,hk⟩:=Cf hS.T h Bw k1 k2 k3 k4 hk
     exact⟨s',st',by rw[Mi,hy]; exact d1,d2,d3,hk⟩
   rename_i g args hg
   obtain⟨m,r8,zr⟩:=gE (h.ev f) (jO (fun x=>h.ev x) dc.toList) hg
   split at hk
   ·rename_i pV
    split at hk
    case h_2=>simp[Tr.run]at hk
    rename_i σ hd hσ
    obtain⟨v,wr,rd,e,lg,g2,_,g4,g5⟩:=HF hS.T (hS.own g σ hσ) h.hp (.inl rfl) (zr hd) hk
    rw[cQ]at g5
    obtain⟨g6,g7⟩:=h.step g4 dst
    refine⟨_,_,?_,g6,g7,g5⟩
    rw[nU,r8]
    rw[h.hp.length]at g2
    simp only[oE,r9,pV,g2,Option.bind_some,hJ]
   rename_i pV
   split at hk
   ·rename_i σ hd hσ
    obtain⟨v,wr,rd,a,w,lg,g1,_,_,g4,g5⟩:=xG hS.T (hS.sum g σ hσ) h.hp (zr hd) hk
    rw[cQ]at g5
    obtain⟨g6,g7⟩:=h.step g4 dst
    refine⟨_,_,?_,g6,g7,g5⟩
    rw[nU,r8]
    simp only[oE,r9,pV,(hS.sum g σ hσ).kind,g1,Option.bind_some,J7]
   ·rename_i hd hσ
    split at hk
    ·simp[Tr.run]at hk
    rename_i ue
    obtain⟨v,cB,pv,rH,a,fc,g1,g2,g3,gj,g4,g5,g6,g7,hk⟩:=ih.f _ _ _ _ _ _ _ _ _ _ (zr hd) h.hp h.js hk
    split at hk
    case h_2=>simp[Tr.run]at hk
    rename_i Cg
    rw[ku,cQ]at hk
    obtain⟨n5,pg,t2⟩:=qK hS.T h g2 g3 g4 g5 g6 g7 gj Cg
    obtain⟨g8,g9⟩:=n5.step (v:=v) (wr:=[]) (e:=⟨a,[]⟩) ⟨.inr t2,n5.hp,dJ.refl _,fun q hq=>by simp at hq,fun _ _ _=>rfl,Nat.le_refl _,fun _ _ h=>by simp at h⟩ dst
    refine⟨_,_,?_,g8,pg.trans g9,hk⟩
    rw[nU,r8]
    simp only[oE,r9,pV,ue,g1,Option.bind_some,GK]
    rw[h.hp.length]
    rfl
   ·simp[Tr.run]at hk
  ·rename_i rv name zN
   simp only at zN
   subst zN
   split at hk
   ·simp[Tr.run]at hk
   rename_i g x hg
   obtain⟨ax,r8,SI⟩:=Ef (h.ev rv) hg
   have zr:((x::dc.toList.map (dj s.fr)).any bV)=false→RL S.T s.hp (x::dc.toList.map (dj s.fr)) (ax::dc.toList.map (aB st.fr)):=fun hd=>by
    simp only[List.any_cons,Bool.or_eq_false_iff]at hd
    simp only[RL]
    exact⟨SI,jo (jO (fun x=>h.ev x) dc.toList) hd.2⟩
   have pV:au (Op.call ⟨.invoke rv name,dc,mR⟩)=false:=rfl
   split at hk
   ·rename_i σ hd hσ
    obtain⟨v,wr,rd,a,w,lg,g1,_,_,g4,g5⟩:=xG hS.T (hS.sum g σ hσ) h.hp (zr hd) hk
    rw[cQ]at g5
    obtain⟨g6,g7⟩:=h.step g4 dst
    refine⟨_,_,?_,g6,g7,g5⟩
    rw[Am,r8]
    simp only[Option.bind_some,r9,pV,(hS.sum g σ hσ).kind,g1,J7]
   ·rename_i hd hσ
    split at hk
    ·simp[Tr.run]at hk
    rename_i ue
    obtain⟨v,cB,pv,rH,a,fc,g1,g2,g3,gj,g4,g5,g6,g7,hk⟩:=ih.f _ _ _ _ _ _ _ _ _ _ (zr hd) h.hp h.js hk
    split at hk
    case h_2=>simp[Tr.run]at hk
    rename_i Cg
    rw[ku,cQ]at hk
    obtain⟨n5,pg,t2⟩:=qK hS.T h g2 g3 g4 g5 g6 g7 gj Cg
    obtain⟨g8,g9⟩:=n5.step (v:=v) (wr:=[]) (e:=⟨a,[]⟩) ⟨.inr t2,n5.hp,dJ.refl _,fun q hq=>by simp at hq,fun _ _ _=>rfl,Nat.le_refl _,fun _ _ h=>by simp at h⟩ dst
    refine⟨_,_,?_,g8,pg.trans g9,hk⟩
    rw[Am,r8]
    simp only[Option.bind_some,r9,pV,ue,g1,GK]
    rw[h.hp.length]
    rfl
   ·simp[Tr.run]at hk
 ·split at hk
  ·rename_i d
   rw[J9]
   have rN:=h.fn
   split at hk
   ·rename_i z4
    rw[rN]at z4
    rw[z4]
    simp only[cond_true]
    split at hk
    case h_2=>simp[Tr.run]at hk
    rename_i m hm
    obtain⟨q,gR,_,hX,_⟩:=hS.Q.elem hm
    split at hk
    case isFalse=>simp[Tr.run]at hk
    rename_i lA
    rw[cQ]at hk
    have pR:=h.hp.new (nm:=s.hp.length) (o':=.arr true true false 0 []) (a':=.arr true true false []) (.inl rfl) ⟨[],rfl,by simp[RL],fun _=>rfl⟩
    have e1:bh s.hp [(s.hp.length,.arr true true false 0 [])]=bQ s.hp s.hp.length (.arr true true false 0 []):=rfl
    have hl:=h.hp.length
    obtain⟨g8,g9⟩:=h.step (v:=.bu m.size s.hp.length 0 none none) (wr:=[(s.hp.length,.arr true true false 0 [])]) (e:=⟨.bu q.size st.hp.length 0 0 0 none,[(st.hp.length,.arr true true false [])]⟩)
     ⟨.inr (by
       rw[e1]
       simp only[R]
       exact⟨0,fb h.hp (.inl rfl) (o:=.arr true true false 0 []),by rw[hX,hl]⟩),
       by
        rw[←hl]
        exact pR.2,by rw[e1]; exact pR.1,fun q hq=>by simp at hq; subst hq; simp[hl],fun n hn hl=>by
        rw[e1]; simp at hn; exact yS hl hn,by rw[e1]; exact wS (.inl rfl),fun m hm hc=>by simp at hc; have:=jP hm; omega⟩ (some d)
    refine⟨_,_,?_,g8,g9,hk⟩
    have Xz:aR S.C.P type=some q:=gR
    rw[Xz]
    simp only[Option.bind_some]
    rw[if_pos (by rw[hX]; exact lA)]
    simp only[bJ,ak,setObj,if_true]
   ·rename_i z4
    simp only[Bool.not_eq_true]at z4
    rw[rN]at z4
    rw[z4]
    simp only[cond_false]
    rw[cQ]at hk
    obtain⟨g8,g9⟩:=h.step (v:=.lit cX) (wr:=[]) (e:=⟨.lit cX,[]⟩) ⟨bp _,h.hp,dJ.refl _,fun q hq=>by simp at hq,fun _ _ _=>rfl,Nat.le_refl _,fun _ _ h=>by simp at h⟩ (some d)
    exact⟨_,_,rfl,g8,g9,hk⟩
  ·-- no variable: nothing happens
   refine⟨s,st,?_,h,bn.refl _,hk⟩
   refine cd (jX S.C _ _) (by simp[fY]) fun k=>?_
   simp only[fY]
 ·rename_i NI hna
  have hl:(match op with|.call _=>fun _=>[]|_=>S.C.rL s.fn)=S.C.rL s.fn:=by
   cases op<;>first|rfl|exact absurd rfl (NI _)
  refine plain ?_ ?_
  ·unfold qP
   simp only
  ·simp only
   exact hk
end
end Go.PI
end
section
/- PS, part Q: loops, code, functions: the soundness of the trees. -/
namespace Go.PI
theorem zk{τ ω:Type}{f:τ→Option (τ ⊕ ω)}:∀ {n:Nat} {x:τ} {w:ω},lr f n x=some w→lr f (n+1) x=some w
 |0,x,w,h=>by simp[lr]at h
 |n+1,x,w,h=>by
  rw[lr]at h ⊢
  cases hf:f x with
  |none=>rw[hf]at h; simp at h
  |some q=>
   rw[hf]at h
   cases q with
   |inl y=>exact zk h
   |inr z=>exact h
theorem tu[ae]{τ ω:Type}(f:τ→Option (τ ⊕ ω))(x:τ):fZ fun n=>lr f n x:=fun _ _ h=>zk h
theorem pb[ae]{τ ω:Type}{f:τ→Option (τ ⊕ ω)}{x:τ}{w:ω}:aM f x=some w↔∃ n,lr f n x=some w:=by
 unfold aM
 split
 ·rename_i w' h
  constructor
  ·intro e; exact⟨4096,h.trans e⟩
  ·rintro⟨n,hn⟩
   rw[←(bm (tu f x)).2 ⟨4096,h⟩,(bm (tu f x)).2 ⟨n,hn⟩]
 ·exact bm (tu f x)
theorem Dr[ae]{τ ω:Type}(f:τ→Option (τ ⊕ ω))(x:τ):aM f x=(f x).bind fun q=>Sum.elim (aM f) some q:=by
 apply Option.ext
 intro w
 rw[pb]
 constructor
 ·rintro⟨n,h⟩
  cases n with
  |zero=>simp[lr]at h
  |succ n=>
   rw[lr]at h
   cases hf:f x with
   |none=>rw[hf]at h; simp at h
   |some q=>
    rw[hf]at h
    cases q with
    |inl y=>simp only[Option.bind_some,Sum.elim_inl]; exact pb.2 ⟨n,h⟩
    |inr z=>simp_all
 ·intro h
  cases hf:f x with
  |none=>rw[hf]at h; simp at h
  |some q=>
   rw[hf]at h
   cases q with
   |inl y=>
    simp only[Option.bind_some,Sum.elim_inl]at h
    obtain⟨n,hn⟩:=pb.1 h
    exact⟨n+1,by rw[lr,hf]; exact hn⟩
   |inr z=>
    simp only[Option.bind_some,Sum.elim_inr]at h
    exact⟨1,by rw[lr,hf]; exact h⟩
section
variable {T:dP}{ρ:Type}
theorem dU[ae]{H0 H:ai T.den}{K:Tr ρ}{r:ρ}:∀ {objs:List (Nat×c8)},(iC H0 H objs K).run=some r→K.run=some r∧∀ q,q∈objs→∀ t,q.2=.fix t→∀ o o',H0[q.1]?=some (some o)→H[q.1]?=some (some o')→o'.len=o.len
 |[],h=>⟨h,fun q hq=>by simp at hq⟩
 |(n,p)::objs,h=>by
  cases p with
  |fix t=>
   simp only[iC]at h
   split at h
   ·rename_i o o' h1 h2
    obtain⟨g1,g2⟩:=ba h
    simp only[decide_eq_true_eq]at g1
    obtain⟨i1,i2⟩:=dU g2
    refine⟨i1,fun q hq t' e o3 o4 h3 h4=>?_⟩
    rcases List.mem_cons.1 hq with rfl|hq
    ·simp_all
    ·exact i2 q hq t' e o3 o4 h3 h4
   ·simp[Tr.run]at h
  |list t=>
   obtain⟨i1,i2⟩:=dU (objs:=objs) h
   refine⟨i1,fun q hq t' e o3 o4 h3 h4=>?_⟩
   rcases List.mem_cons.1 hq with rfl|hq
   ·simp at e
   ·exact i2 q hq t' e o3 o4 h3 h4
  |one p=>
   obtain⟨i1,i2⟩:=dU (objs:=objs) h
   refine⟨i1,fun q hq t' e o3 o4 h3 h4=>?_⟩
   rcases List.mem_cons.1 hq with rfl|hq
   ·simp at e
   ·exact i2 q hq t' e o3 o4 h3 h4
  |agg ps=>
   obtain⟨i1,i2⟩:=dU (objs:=objs) h
   refine⟨i1,fun q hq t' e o3 o4 h3 h4=>?_⟩
   rcases List.mem_cons.1 hq with rfl|hq
   ·simp at e
   ·exact i2 q hq t' e o3 o4 h3 h4
  |map kk t=>
   obtain⟨i1,i2⟩:=dU (objs:=objs) h
   refine⟨i1,fun q hq t' e o3 o4 h3 h4=>?_⟩
   rcases List.mem_cons.1 hq with rfl|hq
   ·simp at e
   ·exact i2 q hq t' e o3 o4 h3 h4
theorem Bb[ae]{key:Nat}{h:Hint}{s0 s:bC T.den}{kind:Option Nat}{r:ρ}:∀ {l:List BW} {K:zT T.den h.objs l→Tr ρ},(uw key h s0 s kind l K).run=some r →
  ∃ o x w,o∈l∧o.kind=kind∧IK h s0 s kind o=some x∧(K w).run=some r ∧
    (∀ q,q∈h.objs→∀ t,q.2=.fix t→∀ o o',s0.hp[q.1]?=some (some o)→s.hp[q.1]?=some (some o')→o'.len=o.len) ∧
    ∀ {σ:Type} (K':pB T.den→Tr σ),(uS h s0 l w K').run=(K' (B3 (kn h s0 o x) o.kind)).run
 |[],K,hk=>by simp[uw,Tr.run]at hk
 |[o],K,hk=>by
  simp only[uw]at hk
  split at hk
  ·rename_i x hx
   obtain⟨hk,hl⟩:=dU hk
   refine⟨o,x,x,by simp,?_,hx,hk,hl,fun K'=>?_⟩
   ·grind[IK]
   ·simp only[uS]
    rw[force_eq]
  ·simp[Tr.run]at hk
 |o::p::l,K,hk=>by
  simp only[uw]at hk
  split at hk
  ·rename_i x hx
   obtain⟨hk,hl⟩:=dU hk
   refine⟨o,x,.inl x,by simp,?_,hx,hk,hl,fun K'=>?_⟩
   ·grind[IK]
   ·simp only[uS,Tr.run,Sum.elim_inl]
    rw[force_eq]
  ·obtain⟨o',x,w,h1,h2,h3,h4,h5,h6⟩:=Bb (l:=p::l) hk
   refine⟨o',x,.inr w,List.mem_cons_of_mem _ h1,h2,h3,h4,h5,fun K'=>?_⟩
   simp only[uS,Tr.run,Sum.elim_inr]
   exact h6 K'
theorem zl{a b:List Nat}(h:subset a b=true){x:Nat}(hx:x∈a):x∈b:=by
 have:=List.all_eq_true.1 h x hx
 simpa using this
theorem HN[ae]{Bc:List (Nat×c8)}{slots0:List (Nat×pC)}{dead0:List Nat}{aC:List (Nat×pC)}{dead:List Nat}{ext:List pD}{s0 sx s:bC T.den}{l:List (TV T.den)}
  (SF:dx (aC.map (·.1))=true) (VE:dx (Bc.map (·.1))=true)
  (XA:sx.fn=s0.fn) (XB:sx.n=s0.n) (XC:∀ t,t∉slots0.map (·.1)++dead0→cU sx.fr t=cU s0.fr t) (XD:∀ n:Nat,n<s0.hp.length→n∉Bc.map (·.1)→sx.hp[n]?=s0.hp[n]?) (XE:sx.hp.length=s0.hp.length)
  (p6:∀ t,t∈slots0.map (·.1)++dead0→t∈aC.map (·.1)++dead) (ha:bn sx s) (hl:sZ aC dead Bc ext s0 s=true)
  (RG:∀ q,q∈Bc→∃ o,s0.hp[q.1]?=some (some o)∧Start s0.hp o q.2) (abs:vK aC (Bc++bf s0.hp.length ext) s=some l):I3 T aC dead Bc ext s0 s l:=by
 unfold sZ at hl
 simp only[Bool.and_eq_true,decide_eq_true_eq]at hl
 obtain⟨⟨⟨⟨⟨⟨⟨l1,l2⟩,l3⟩,l4⟩,l5⟩,l6⟩,l7⟩,l8⟩:=hl
 refine⟨SF,VE,fun d hd=>?_,l2,ha.fn.trans XA,ha.n.trans XB,fun t ht=>?_,fun n hn hm=>?_,l5,l6,l7,l8,RG,abs⟩
 ·have:=List.all_eq_true.1 l1 d hd
  have:=Nat.le_of_ble_eq_true this
  omega
 ·have hw:t∉s.wf:=fun hc=>ht (zl l3 hc)
  rw[ha.fr t hw,XC t (fun hc=>ht (p6 t hc))]
 ·have hw:n∉s.wh:=fun hc=>hm (zl l4 (List.mem_filter.2 ⟨hc,by simpa using hn⟩))
  rw[ha.hp n (by rw[XE]; exact hn) hw,XD n hn hm]
end
theorem Bd{T:dP}{aC:List (Nat×pC)}{objs:List (Nat×c8)}{s:bC T.den}{l:List (TV T.den)}(h:vK aC objs s=some l):∃ l0,kE s.hp objs=some l0:=by
 unfold vK at h
 rw[Option.bind_eq_some_iff]at h
 obtain⟨_,_,h⟩:=h
 rw[Option.map_eq_some_iff]at h
 obtain⟨lb,h,_⟩:=h
 exact⟨lb,h⟩
theorem Mn[ae]{T:dP}{aC:List (Nat×pC)}{dead:List Nat}{objs:List (Nat×c8)}{ext:List pD}{s:bC T.den}{l:List (TV T.den)}{js:List (Nat×lN)}{st:St}
  (h:RS T { dy aC dead objs ext s l with js:=js } st) (hj:js=s.js):RS T (dy aC dead objs ext s l) st:=by
 subst hj; exact⟨h.fn,h.n,h.fr,h.hp,h.js⟩
theorem I9{T:dP}{n:Nat}{s:bC T.den}:(km n s).js=s.js:=by unfold km; split<;>rfl
theorem zm[ae]{T:dP}{H:ai T.den}{objs:List (Nat×c8)}{l:List (TV T.den)}(h:kE H objs=some l):rA H H objs=true:=by
 refine List.all_eq_true.2 fun q hq=>?_
 obtain⟨o,_,h1,_⟩:=kV h q hq
 simp[h1]
theorem Ci[ae]{T:dP}{H:ai T.den}{objs:List (Nat×c8)}{l:List (TV T.den)}(h:kE H objs=some l):xE H H objs=true:=by
 refine List.all_eq_true.2 fun q hq=>?_
 obtain⟨o,_,h1,_⟩:=kV h q hq
 split
 ·rfl
 ·simp[h1]
theorem wa[ae]{T:dP}{H:ai T.den}{objs:List (Nat×c8)}{l:List (TV T.den)}(h:kE H objs=some l)(q:Nat×c8)(hq:q∈objs):∃ o,H[q.1]?=some (some o)∧Start H o q.2:=by
 obtain⟨o,ln,h1,h2⟩:=kV h q hq
 exact⟨o,h1,.inl ⟨ln,h2⟩⟩
theorem Ev{objs more:List (Nat×c8)}{n:Nat}(h:n∈objs.map (·.1)):n∈(jI objs more).map (·.1):=by
 unfold jI
 rw[List.map_append]
 by_cases hm:n∈more.map (·.1)
 ·exact List.mem_append_right _ hm
 ·simp_all
theorem zo[ae]{T:dP}{H:ai T.den}{l:List (Nat×c8)}(h:Hq H l=true)(q:Nat×c8)(hq:q∈l):∃ o,H[q.1]?=some (some o)∧Start H o q.2:=by
 have:=List.all_eq_true.1 h q hq
 split at this
 ·rename_i g cl f c e p h1 h2
  exact⟨_,h1,.inr ⟨.inl ⟨p,h2⟩,g,cl,f,c,e,rfl⟩⟩
 ·rename_i g cl f c e p h1 h2
  exact⟨_,h1,.inr ⟨.inr ⟨p,h2⟩,g,cl,f,c,e,rfl⟩⟩
 ·simp at this
section
variable [ae]{S:oS}(hS:S.Ok)
include hS
theorem O2{k:Nat}(ih:pa S k){b:Code}{s:bC S.T.den}{h:Hint}{l0:List (TV S.T.den)}{x0:HL S.T.den h.kl}(bM:h.ok=true)(Lq:B2 s.n h.aC h.dead=true)(how:sY s.hp.length h.aC h.objs=true)
  (pG:vK h.aC h.objs s=some l0) (VH:vE h.kl l0=some x0) {st:St} (ig:RS S.T s st) {w:zT S.T.den h.objs h.outs}
  (hw:aM (fun x=>(bC.force { dy h.aC h.dead h.objs [] s (gw h.kl x) with wf:=[],wh:=[] } fun s1=>xk S k (HL S.T.den h.kl ⊕ zT S.T.den h.objs h.outs) b s1 fun
       |.norm s'=>
        (match km s.hp.length s' with
        |uR=>(match decide (uR.js=s.js)&&sZ h.aC h.dead h.objs [] s uR,(vK h.aC h.objs uR).bind (vE h.kl) with
         |true,some y=>iC s.hp uR.hp h.objs (.ret (.inl y))
         |_,_=>.bad (sX b s) none s uR))
       |.exit id s'=>uw (sX b s) h s s' (some id) h.outs fun w=>.ret (.inr w)
       |.ret s'=>uw (sX b s) h s s' none h.outs fun w=>.ret (.inr w)).run) x0=some w) :
  ∃ o x so oo,db S.C (.loop b) st=some oo∧so=B3 (kn h s o x) o.kind∧Ek S.T so oo∧bn s so.st∧∀ {σ:Type} (K':pB S.T.den→Tr σ),(uS h s h.outs w K').run=(K' so).run:=by
 simp only[Hint.ok,Bool.and_eq_true]at bM
 obtain⟨⟨XF,Um⟩,XG⟩:=bM
 obtain⟨acC,Ew⟩:=Bd pG
 have SF:dx (h.aC.map (·.1))=true:=by
  have:∀ {l m:List Nat},dx (l++m)=true→dx l=true:=by
   intro l m
   induction l with
   |nil=>intro _; rfl
   |cons x xs ih=>
    simp_all[dx,decide_eq_false_iff_not]
  exact this XF
 have XH:∀ d,d∈h.aC.map (·.1)++h.dead→d<s.n:=by
  intro d hd
  have:=List.all_eq_true.1 Lq d hd
  have:=Nat.le_of_ble_eq_true this
  omega
 have sxf:∀ x:HL S.T.den h.kl,∀ l,vK h.aC h.objs s=some l→True:=fun _ _ _=>trivial
 clear sxf
 have oG:∀ (x:HL S.T.den h.kl) (sc:bC S.T.den) (lc:List (TV S.T.den)),I3 S.T h.aC h.dead h.objs [] s sc lc→sc.js=s.js→gw h.kl x=lc→∀ (XI:St),RS S.T sc XI →
   RS S.T (dy h.aC h.dead h.objs [] s (gw h.kl x)) XI∧(dy h.aC h.dead h.objs [] s (gw h.kl x)).hp.length=s.hp.length ∧
   (∀ n:Nat,n<s.hp.length→n∉h.objs.map (·.1)→(dy h.aC h.dead h.objs [] s (gw h.kl x)).hp[n]?=s.hp[n]?) ∧
   (∀ t,t∉h.aC.map (·.1)++h.dead→cU (dy h.aC h.dead h.objs [] s (gw h.kl x)).fr t=cU s.fr t) ∧
   (dy h.aC h.dead h.objs [] s (gw h.kl x)).fn=s.fn∧(dy h.aC h.dead h.objs [] s (gw h.kl x)).n=s.n:=by
  intro x sc lc ho hj hx XI XJ
  obtain⟨r1,r2,r3,r4,r5,r6,_⟩:=HI hS.T ho ig XJ
  rw[hx]
  refine⟨Mn r1 hj,?_,r3,r4,r5,r6⟩
  rw[r2,ho.len]; rfl
 have main:∀ (n:Nat) (x:HL S.T.den h.kl) (stx:St),RS S.T (dy h.aC h.dead h.objs [] s (gw h.kl x)) stx→(dy h.aC h.dead h.objs [] s (gw h.kl x)).hp.length=s.hp.length →
   (∀ n:Nat,n<s.hp.length→n∉h.objs.map (·.1)→(dy h.aC h.dead h.objs [] s (gw h.kl x)).hp[n]?=s.hp[n]?) →
   (∀ t,t∉h.aC.map (·.1)++h.dead→cU (dy h.aC h.dead h.objs [] s (gw h.kl x)).fr t=cU s.fr t) →
   (dy h.aC h.dead h.objs [] s (gw h.kl x)).fn=s.fn→(dy h.aC h.dead h.objs [] s (gw h.kl x)).n=s.n →
   lr (fun x=>(bC.force { dy h.aC h.dead h.objs [] s (gw h.kl x) with wf:=[],wh:=[] } fun s1=>xk S k (HL S.T.den h.kl ⊕ zT S.T.den h.objs h.outs) b s1 fun
           |.norm s'=>
            (match km s.hp.length s' with
            |uR=>(match decide (uR.js=s.js)&&sZ h.aC h.dead h.objs [] s uR,(vK h.aC h.objs uR).bind (vE h.kl) with
             |true,some y=>iC s.hp uR.hp h.objs (.ret (.inl y))
             |_,_=>.bad (sX b s) none s uR))
           |.exit id s'=>uw (sX b s) h s s' (some id) h.outs fun w=>.ret (.inr w)
           |.ret s'=>uw (sX b s) h s s' none h.outs fun w=>.ret (.inr w)).run) n x=some w →
   ∃ o x so oo,db S.C (.loop b) stx=some oo∧so=B3 (kn h s o x) o.kind∧Ek S.T so oo∧bn s so.st∧∀ {σ:Type} (K':pB S.T.den→Tr σ),(uS h s h.outs w K').run=(K' so).run:=by
  intro n
  induction n with
  |zero=>intro x stx _ _ _ _ _ _ hn; simp[lr]at hn
  |succ n ihn=>
   intro x stx EI hlen RX Ce rN KD hn
   rw[lr]at hn
   generalize Ja:({ dy h.aC h.dead h.objs [] s (gw h.kl x) with wf:=[],wh:=[] }:bC S.T.den)=sx at hn
   have RY:RS S.T sx stx:=by rw[←Ja]; exact⟨EI.fn,EI.n,EI.fr,EI.hp,EI.js⟩
   have e1:sx.fn=s.fn:=by rw[←Ja]; exact rN
   have e2:sx.n=s.n:=by rw[←Ja]; exact KD
   have e3:∀ t,t∉h.aC.map (·.1)++h.dead→cU sx.fr t=cU s.fr t:=by rw[←Ja]; exact Ce
   have e4:∀ n:Nat,n<s.hp.length→n∉h.objs.map (·.1)→sx.hp[n]?=s.hp[n]?:=by rw[←Ja]; exact RX
   have e5:sx.hp.length=s.hp.length:=by rw[←Ja]; exact hlen
   rw[force_eq]at hn
   have eb:∀ q,(xk S k (HL S.T.den h.kl ⊕ zT S.T.den h.objs h.outs) b sx fun
       |.norm s'=>
        (match km s.hp.length s' with
        |uR=>(match decide (uR.js=s.js)&&sZ h.aC h.dead h.objs [] s uR,(vK h.aC h.objs uR).bind (vE h.kl) with
         |true,some y=>iC s.hp uR.hp h.objs (.ret (.inl y))
         |_,_=>.bad (sX b s) none s uR))
       |.exit id s'=>uw (sX b s) h s s' (some id) h.outs fun w=>.ret (.inr w)
       |.ret s'=>uw (sX b s) h s s' none h.outs fun w=>.ret (.inr w)).run=some q →
     (∃ y,q=.inl y∧∃ Gm,db S.C b stx=some (.norm Gm)∧RS S.T (dy h.aC h.dead h.objs [] s (gw h.kl y)) (ib stx.hp.length Gm)∧(dy h.aC h.dead h.objs [] s (gw h.kl y)).hp.length=s.hp.length ∧
       (∀ n:Nat,n<s.hp.length→n∉h.objs.map (·.1)→(dy h.aC h.dead h.objs [] s (gw h.kl y)).hp[n]?=s.hp[n]?) ∧
       (∀ t,t∉h.aC.map (·.1)++h.dead→cU (dy h.aC h.dead h.objs [] s (gw h.kl y)).fr t=cU s.fr t) ∧
       (dy h.aC h.dead h.objs [] s (gw h.kl y)).fn=s.fn∧(dy h.aC h.dead h.objs [] s (gw h.kl y)).n=s.n) ∨
     (∃ w',q=.inr w'∧∃ o x so oo,db S.C b stx=some oo∧(∀ s',oo≠.norm s')∧so=B3 (kn h s o x) o.kind∧Ek S.T so oo∧bn s so.st∧∀ {σ:Type} (K':pB S.T.den→Tr σ),(uS h s h.outs w' K').run=(K' so).run):=by
    intro q hq
    obtain⟨so,o,c1,c2,c3,c4⟩:=ih.c _ _ _ _ _ _ RY hq
    have leave:∀ (kind:Option Nat) (s':bC S.T.den) (Gm:St),RS S.T s' Gm→bn sx s'→(uw (sX b s) h s s' kind h.outs fun w=>(.ret (.inr w):Tr (HL S.T.den h.kl ⊕ zT S.T.den h.objs h.outs))).run=some q →
      ∃ w',q=.inr w'∧∃ o x,o.kind=kind∧RS S.T (kn h s o x) Gm∧bn s (kn h s o x)∧∀ {σ:Type} (K':pB S.T.den→Tr σ),(uS h s h.outs w' K').run=(K' (B3 (kn h s o x) o.kind)).run:=by
     intro kind s' Gm fG ha hq
     obtain⟨o,x,w',d1,d2,d3,d4,d5,d6⟩:=Bb hq
     simp only[Tr.run,Option.some.injEq]at d4
     refine⟨w',d4.symm,o,x,d2,?_⟩
     unfold IK at d3
     split at d3
     case h_2=>simp at d3
     rename_i hc
     simp only[Bool.and_eq_true,decide_eq_true_eq]at hc
     obtain⟨hc,Pr,Xb,XK⟩:=hc
     rw[Option.bind_eq_some_iff]at d3
     obtain⟨lx,d7,d8⟩:=d3
     have Un:∀ q,q∈jI h.objs o.more→∃ o,s.hp[q.1]?=some (some o)∧Start s.hp o q.2:=fun q hq=>by
      rcases List.mem_append.1 hq with hq|hq
      ·exact wa Ew q (List.mem_filter.1 hq).1
      ·exact zo XK q hq
     have xm:I3 S.T o.aC (h.aC.map (·.1)++h.dead) (jI h.objs o.more) o.ext s s' lx:=
      HN (slots0:=h.aC) (dead0:=h.dead) (List.all_eq_true.1 XG o d1) Xb e1 e2 e3 (fun n hn hm=>e4 n hn (fun hc=>hm (Ev hc))) e5 (fun t ht=>List.mem_append_right _ ht) ha Pr Un d7
     obtain⟨r1,r2,r3,r4,r5,r6,r7⟩:=HI hS.T xm ig fG
     have ex:=o6 _ _ _ d8
     refine⟨?_,?_,d6⟩
     ·unfold kn
      rw[ex]
      exact⟨r1.fn,r1.n,r1.fr,r1.hp,by rw[←hc.2]; exact r1.js⟩
     ·unfold kn
      rw[ex]
      refine⟨r5,r6,fun t ht=>r4 t ?_,fun t ht=>?_,fun n hn hw=>r3 n hn ?_,fun n hn=>?_,?_,?_⟩
      ·simp only[List.mem_append,not_or]at ht ⊢
       exact⟨ht.1,ht.2.1,ht.2.2.1⟩
      ·simp only[List.mem_append]
       exact .inr (.inr (.inr ht))
      ·exact fun hc=>hw (List.mem_append_left _ hc)
      ·exact List.mem_append_right _ hn
      ·simp only
       rw[r2,xm.len]
       omega
      ·intro n o' dr
       have hn:=(List.getElem?_eq_some_iff.1 dr).1
       by_cases hm:n∈(jI h.objs o.more).map (·.1)
       ·obtain⟨qq,VI,rfl⟩:=List.mem_map.1 hm
        obtain⟨o0,os,of,g1,g2,g3,g4,g5⟩:=r7 qq VI
        rw[g1]at dr
        simp only[Option.some.injEq]at dr
        subst dr
        refine⟨of,g3,by rw[g5]; exact HH _ _,fun ec=>?_⟩
        rw[g4]
        rw[g5]at ec
        obtain⟨oo,m1,m2⟩:=Un qq VI
        rw[g1]at m1
        simp only[Option.some.injEq]at m1
        subst m1
        have Uo:=Bd d7
        obtain⟨lS,hlS⟩:=Uo
        obtain⟨oo2,ln2,m3,m4⟩:=kV hlS qq (List.mem_append_left _ VI)
        rw[g2]at m3
        simp only[Option.some.injEq]at m3
        subst m3
        cases hp:qq.2 with
        |list t=>rw[hp]at ec; simp[Cc]at ec
        |fix t=>
         rcases List.mem_append.1 VI with gR|gR
         ·exact d5 qq (List.mem_filter.1 gR).1 t hp o0 os g1 g2
         ·obtain⟨_,_,m5⟩:=zo XK qq gR
          rw[hp]at m2
          have:=List.all_eq_true.1 XK qq gR
          rw[hp]at this
          simp at this
        |map kk t=>
         rw[hp]at m2 m4
         rcases m2 with ⟨ln,m2⟩|⟨⟨_,m2⟩|⟨_,m2⟩,_⟩
         ·obtain⟨_,rfl,_⟩:=uH m2
          obtain⟨_,rfl,_⟩:=uH m4
          rfl
         ·cases m2
         ·cases m2
        |one p=>
         rw[hp]at m2 m4
         simp only[eO]at m4
         split at m4
         case h_2=>simp at m4
         rcases m2 with ⟨ln,m2⟩|⟨_,_,_,_,_,_,rfl⟩
         ·simp only[eO]at m2
          split at m2
          case h_2=>simp at m2
          rfl
         ·rfl
        |agg p=>
         rw[hp]at m2 m4
         simp only[eO]at m4
         split at m4
         case h_2=>simp at m4
         rcases m2 with ⟨ln,m2⟩|⟨_,_,_,_,_,_,rfl⟩
         ·simp only[eO]at m2
          split at m2
          case h_2=>simp at m2
          rfl
         ·rfl
       ·exact⟨o',by simp only; rw[r3 n hn hm]; exact dr,Nat.le_refl _,fun _=>rfl⟩
    cases so with
    |norm s'=>
     left
     obtain⟨Gm,rfl,fG⟩:=c2
     simp only at c4
     split at c4
     ·rename_i y hl hy
      simp only[Bool.and_eq_true,decide_eq_true_eq]at hl
      obtain⟨RI,hl⟩:=hl
      obtain⟨c5,_⟩:=dU c4
      simp only[Tr.run,Option.some.injEq]at c5
      rw[Option.bind_eq_some_iff]at hy
      obtain⟨ly,yZ,wX⟩:=hy
      have hr:=Ee (n:=s.hp.length) hS.T fG (fun m x hm=>by
       rw[I9]at RI
       rw[RI]at hm
       exact jP (ig.js m x hm).1)
      have pg:bn sx (km s.hp.length s'):=by
       have:=wY RY c3
       rw[e5]at this
       exact this
      have xm:I3 S.T h.aC h.dead h.objs [] s (km s.hp.length s') ly:=
       HN (slots0:=h.aC) (dead0:=h.dead) SF Um e1 e2 e3 e4 e5 (fun t ht=>ht) pg hl (wa Ew) (by simpa[bf] using yZ)
      have hle:stx.hp.length=s.hp.length:=by rw[←e5]; exact RY.hp.length.symm
      refine⟨y,c5.symm,Gm,c1,?_⟩
      rw[hle]
      exact oG y _ ly xm RI (o6 _ _ _ wX) _ hr
     ·simp[Tr.run]at c4
    |exit id s'=>
     right
     obtain⟨Gm,rfl,fG⟩:=c2
     obtain⟨w',f1,o',x',f2,f3,f4,f5⟩:=leave (some id) s' Gm fG c3 c4
     refine⟨w',f1,o',x',B3 (kn h s o' x') o'.kind,_,c1,by simp,rfl,?_,?_,f5⟩
     ·rw[f2]; exact⟨Gm,rfl,f3⟩
     ·rw[f2]; exact f4
    |ret s'=>
     right
     obtain⟨Gm,rfl,fG⟩:=c2
     obtain⟨w',f1,o',x',f2,f3,f4,f5⟩:=leave none s' Gm fG c3 c4
     refine⟨w',f1,o',x',B3 (kn h s o' x') o'.kind,_,c1,by simp,rfl,?_,?_,f5⟩
     ·rw[f2]; exact⟨Gm,rfl,f3⟩
     ·rw[f2]; exact f4
   split at hn
   ·rename_i y hy
    rcases eb _ hy with ⟨y',e,Gm,g1,g2,g3,g4,g5,g6,g7⟩|⟨w',e,_⟩
    ·simp only[Sum.inl.injEq]at e
     subst e
     obtain⟨o,x',so,oo,i1,i2⟩:=ihn _ _ g2 g3 g4 g5 g6 g7 hn
     refine⟨o,x',so,oo,?_,i2⟩
     rw[nR,g1]
     exact i1
    ·simp at e
   ·rename_i w2 hw2
    simp only[Option.some.injEq]at hn
    subst hn
    rcases eb _ hw2 with ⟨y',e,_⟩|⟨w',e,o,x',so,oo,g1,g2,g3⟩
    ·simp at e
    ·simp only[Sum.inr.injEq]at e
     subst e
     refine⟨o,x',so,oo,?_,g3⟩
     rw[nR,g1]
     cases oo with
     |norm s'=>exact absurd rfl (g2 s')
     |_=>rfl
   ·simp at hn
 obtain⟨n,hn⟩:=pb.1 hw
 have xm:I3 S.T h.aC h.dead h.objs [] s s l0:=⟨SF,Um,XH,by simpa[bf] using how,rfl,rfl,fun _ _=>rfl,fun _ _ _=>rfl,rfl,zm Ew,Ci Ew,rfl,wa Ew,by simpa[bf] using pG⟩
 obtain⟨r1,r2,r3,r4,r5,r6⟩:=oG x0 s l0 xm rfl (o6 _ _ _ VH) st ig
 exact main n x0 st r1 r2 r3 r4 r5 r6 hn
def DR(T:dP)(H:ai T.den):Option (SV T.den)→Option AV→Prop
 |none,none=>True
 |some v,some a=>RV T H v a
 |_,_=>False
omit hS in
theorem O3{k:Nat}(ih:pa S k){ρ:Type}:∀ (c:Code) {s:bC S.T.den} {K:pB S.T.den→Option (SV S.T.den)→Tr ρ} {r:ρ} {st:St},RS S.T s st→(LI (fun c s K=>xk S k ρ c s K) (fun o s K=>OI S k ρ o s K) c s K).run=some r →
  ∃ so d o da,z8 (db S.C) (iL S.C) c st=some (o,da)∧Ek S.T so o∧bn s so.st∧DR S.T so.st.hp d da∧(K so d).run=some r:=by
 have leaf:∀ (c:Code) {s:bC S.T.den} {K:pB S.T.den→Option (SV S.T.den)→Tr ρ} {r:ρ} {st:St},RS S.T s st→(xk S k ρ c s fun o=>K o none).run=some r →
   ∃ so d o da,((db S.C c st).map fun o=>(o,(none:Option AV)))=some (o,da)∧Ek S.T so o∧bn s so.st∧DR S.T so.st.hp d da∧(K so d).run=some r:=by
  intro c s K r st h hk
  obtain⟨so,o,c1,c2,c3,hk⟩:=ih.c _ _ _ _ _ _ h hk
  exact⟨so,none,o,none,by rw[c1]; rfl,c2,c3,trivial,hk⟩
 intro c
 induction c with
 |seq x y _ J2=>
  intro s K r st h hk
  simp only[LI]at hk
  cases hd:tH x with
  |some q=>
   obtain⟨ops,v⟩:=q
   rw[hd]at hk
   simp only at hk
   rw[rF]at hk
   obtain⟨s1,VF,g1,g2,g3,hk⟩:=qH (C:=S.C) (fun o s st K h hk=>ih.o _ _ _ _ _ _ h hk) _ _ _ _ h hk
   split at hk
   case h_2=>simp[Tr.run]at hk
   rename_i q cL
   obtain⟨g,l⟩:=q
   obtain⟨m,hm,_⟩:=gE (g2.ev v) (args:=[]) (as:=[]) trivial cL
   obtain⟨so,o,c1,c2,c3,hk⟩:=ih.c _ _ _ _ _ _ g2 hk
   refine⟨so,some (dj s1.fr v),o,some (aB VF.fr v),?_,c2,g3.trans c3,(g2.ev v).mono c3.grow,hk⟩
   simp only[z8,hd,p8,g1,hm,c1]
   rfl
  |none=>
   rw[hd]at hk
   simp only at hk
   obtain⟨so,o,c1,c2,c3,hk⟩:=ih.c _ _ _ _ _ _ h hk
   cases so with
   |norm s'=>
    obtain⟨st',rfl,fG⟩:=c2
    obtain⟨RW,d2,o2,da2,e1,e2,e3,e4,hk⟩:=J2 fG hk
    exact⟨RW,d2,o2,da2,by simp only[z8,hd,c1]; exact e1,e2,c3.trans e3,e4,hk⟩
   |ret s'=>
    obtain⟨st',rfl,fG⟩:=c2
    exact⟨.ret s',none,_,none,by simp only[z8,hd,c1],⟨st',rfl,fG⟩,c3,trivial,hk⟩
   |exit id s'=>
    obtain⟨st',rfl,fG⟩:=c2
    exact⟨.exit id s',none,_,none,by simp only[z8,hd,c1],⟨st',rfl,fG⟩,c3,trivial,hk⟩
 |_=>intro s K r st h hk; simp only[LI,z8]at hk ⊢; exact leaf _ h hk
theorem Mo{k:Nat}(ih:pa S k){ρ:Type}{s:bC S.T.den}{st:St}{d:Option (SV S.T.den)}{da:Option AV}{rs:List ResultVar}{K:List (SV S.T.den)→ai S.T.den→List Nat→List (Nat×lN)→Tr ρ}{r:ρ}(h:RS S.T s st)(hd:DR S.T s.hp d da)
  (hk:(DL (fun c s K=>xk S k ρ c s K) S.Q S.C.P rs s d K).run=some r):∃ l cB pv rH m fc,uW (db S.C) S.C.P rs st.fr st.hp da=some (.val (cO m),fc)∧RL S.T cB l m∧RH S.T cB fc∧lj rH cB fc∧dJ s.hp cB∧s.hp.length≤cB.length ∧
    (∀ n:Nat,n<s.hp.length→n∉pv→cB[n]?=s.hp[n]?)∧(∀ n,n∈s.wh→n∈pv)∧(K l cB pv rH).run=some r:=by
 cases d with
 |none=>
  cases da with
  |some a=>exact hd.elim
  |none=>
   simp only[DL]at hk
   obtain⟨l,m,g1,g2,hk⟩:=o7 hS.T hS.Q h hk
   have N8:(aW S.C.P st.fr rs).run st.hp=some m:=g1
   exact⟨l,s.hp,s.wh,s.js,m,st.hp,by simp only[uW,EX,N8],g2,h.hp,h.js,dJ.refl _,Nat.le_refl _,fun _ _ _=>rfl,fun _ h=>h,hk⟩
 |some v=>
  cases da with
  |none=>exact hd.elim
  |some a=>
   have hd:RV S.T s.hp v a:=hd
   simp only[DL]at hk
   split at hk
   ·simp[Tr.run]at hk
   rename_i g as cL
   split at hk
   ·simp[Tr.run]at hk
   rename_i fg ND
   split at hk
   ·simp[Tr.run]at hk
   rename_i cg NF
   split at hk
   ·simp[Tr.run]at hk
   rename_i XL
   simp only[Bool.and_eq_true,Bool.not_eq_true']at XL
   obtain⟨m,hm,TC⟩:=gE hd (args:=[]) (as:=[]) trivial cL
   rw[force_eq]at hk
   have ig:=ze (f:=g) (TC XL.2) h.hp fg.ntmps s.wh h.js
   obtain⟨so,o,c1,c2,c3,hk⟩:=ih.c _ _ _ _ _ _ ig hk
   have fin:∀ (t:bC S.T.den) (tt:St),RS S.T t tt→bn ⟨g,max fg.ntmps as.length,na 0 as,s.hp,[],s.wh,s.js⟩ t→(o=.norm tt∨o=.ret tt) →
     (sW S.T S.Q t fg.results.toList fun _=>sW S.T S.Q ⟨s.fn,s.n,s.fr,t.hp,s.wf,t.wh,t.js⟩ rs fun l=>K l t.hp t.wh t.js).run=some r →
     ∃ l cB pv rH m fc,uW (db S.C) S.C.P rs st.fr st.hp (some a)=some (.val (cO m),fc)∧RL S.T cB l m∧RH S.T cB fc∧lj rH cB fc∧dJ s.hp cB∧s.hp.length≤cB.length ∧
       (∀ n:Nat,n<s.hp.length→n∉pv→cB[n]?=s.hp[n]?)∧(∀ n,n∈s.wh→n∈pv)∧(K l cB pv rH).run=some r:=by
    intro t tt ht pg ho hk
    obtain⟨l1,m1,f1,_,hk⟩:=o7 hS.T hS.Q ht hk
    have f1':(aW S.C.P tt.fr fg.results.toList).run tt.hp=some m1:=f1
    have Bw:RS S.T ⟨s.fn,s.n,s.fr,t.hp,s.wf,t.wh,t.js⟩ ⟨st.fn,st.fr,tt.hp⟩:=⟨h.fn,h.n,fun x=>(h.fr x).mono pg.grow,ht.hp,ht.js⟩
    obtain⟨l,m2,g1,g2,hk⟩:=o7 hS.T hS.Q Bw hk
    have N8:(aW S.C.P st.fr rs).run tt.hp=some m2:=g1
    refine⟨l,t.hp,t.wh,t.js,m2,tt.hp,?_,g2,ht.hp,ht.js,pg.grow,pg.len,pg.hp,pg.wh,hk⟩
    simp only[uW,hm,ND,NF,XL.1,c1]
    rcases ho with rfl|rfl<;>simp only[f1',EX,N8]
   cases so with
   |norm t=>
    obtain⟨tt,rfl,ht⟩:=c2
    exact fin t tt ht c3 (.inl rfl) hk
   |ret t=>
    obtain⟨tt,rfl,ht⟩:=c2
    exact fin t tt ht c3 (.inr rfl) hk
   |exit id t=>simp[Tr.run]at hk
theorem RZ{k:Nat}(ih:pa S k){ρ:Type}{f:FuncId}{args:List (SV S.T.den)}{hp:ai S.T.den}{wh:List Nat}{js:List (Nat×lN)}{K:SV S.T.den→ai S.T.den→List Nat→List (Nat×lN)→Tr ρ}{r:ρ}{as:List AV}{OZ:ag}
  (ha:RL S.T hp args as) (hh:RH S.T hp OZ) (hj:lj js hp OZ) (hk:(PT S (k+1) ρ f args hp wh js K).run=some r):∃ v cB pv rH a fc,k6 S.C f as OZ=some (.val a,fc)∧R S.T cB v a∧RH S.T cB fc∧lj rH cB fc∧dJ hp cB∧hp.length≤cB.length ∧
    (∀ n:Nat,n<hp.length→n∉pv→cB[n]?=hp[n]?)∧(∀ n,n∈wh→n∈pv)∧(K v cB pv rH).run=some r:=by
 unfold PT at hk
 split at hk
 ·simp[Tr.run]at hk
 rename_i fn rN
 split at hk
 ·simp[Tr.run]at hk
 rename_i c hc
 rw[oi,force_eq]at hk
 have ig:=ze (f:=f) ha hh fn.ntmps wh hj
 split at hk
 ·rename_i hD
  split at hk
  case h_2=>simp[Tr.run]at hk
  rename_i hn
  obtain⟨so,d,o,da,c1,c2,c3,c4,hk⟩:=O3 ih c ig hk
  have fin:∀ (s:bC S.T.den) (st:St),RS S.T s st→bn ⟨f,max fn.ntmps args.length,na 0 args,hp,[],wh,js⟩ s→DR S.T s.hp d da→(o=.norm st∨o=.ret st) →
    (DL (fun c s K=>xk S k ρ c s K) S.Q S.C.P fn.results.toList s d fun l hp wh js=>K (rR l) hp wh js).run=some r →
    ∃ v cB pv rH a fc,k6 S.C f as OZ=some (.val a,fc)∧R S.T cB v a∧RH S.T cB fc∧lj rH cB fc∧dJ hp cB∧hp.length≤cB.length ∧
    (∀ n:Nat,n<hp.length→n∉pv→cB[n]?=hp[n]?)∧(∀ n,n∈wh→n∈pv)∧(K v cB pv rH).run=some r:=by
   intro s st hs pg N2 ho hk
   obtain⟨l,cB,pv,rH,m,fc,e1,e2,e3,e4,e5,e6,e7,e8,hk⟩:=Mo hS ih hs N2 hk
   refine⟨rR l,cB,pv,rH,cO m,fc,?_,HC e2,e3,e4,pg.grow.trans e5,Nat.le_trans pg.len e6,fun n hn hw=>?_,fun n hn=>e8 n (pg.wh n hn),hk⟩
   ·refine J6 rN hc hD ?_
    unfold uX
    rw[hn,c1]
    rcases ho with rfl|rfl<;>exact e1
   ·rw[e7 n (Nat.lt_of_lt_of_le hn pg.len) hw]
    exact pg.hp n hn fun h=>hw (e8 n h)
  cases so with
  |norm s=>
   obtain⟨st,rfl,hs⟩:=c2
   exact fin s st hs c3 c4 (.inl rfl) hk
  |ret s=>
   obtain⟨st,rfl,hs⟩:=c2
   exact fin s st hs c3 c4 (.inr rfl) hk
  |exit id s=>simp[Tr.run]at hk
 rename_i hD
 obtain⟨so,o,c1,c2,c3,hk⟩:=ih.c _ _ _ _ _ _ ig hk
 have fin:∀ (s:bC S.T.den) (st:St),RS S.T s st→bn ⟨f,max fn.ntmps args.length,na 0 args,hp,[],wh,js⟩ s→(J5 S.C fn.results o=((aW S.C.P st.fr fn.results.toList).run st.hp).map fun l=>(.val (cO l),st.hp)) →
   (sW S.T S.Q s fn.results.toList fun l=>K (rR l) s.hp s.wh s.js).run=some r →
   ∃ v cB pv rH a fc,k6 S.C f as OZ=some (.val a,fc)∧R S.T cB v a∧RH S.T cB fc∧lj rH cB fc∧dJ hp cB∧hp.length≤cB.length ∧
   (∀ n:Nat,n<hp.length→n∉pv→cB[n]?=hp[n]?)∧(∀ n,n∈wh→n∈pv)∧(K v cB pv rH).run=some r:=by
  intro s st hs pg he hk
  obtain⟨l,m,g1,g2,hk⟩:=o7 hS.T hS.Q hs hk
  refine⟨rR l,s.hp,s.wh,s.js,cO m,st.hp,?_,HC g2,hs.hp,hs.js,pg.grow,pg.len,pg.hp,pg.wh,hk⟩
  rw[Bq rN hc _ _ hD,c1]
  simp only[Option.bind_some]
  rw[he]
  have N8:(aW S.C.P st.fr fn.results.toList).run st.hp=some m:=g1
  rw[N8]
  rfl
 cases so with
 |norm s=>
  obtain⟨st,rfl,hs⟩:=c2
  exact fin s st hs c3 rfl hk
 |ret s=>
  obtain⟨st,rfl,hs⟩:=c2
  exact fin s st hs c3 rfl hk
 |exit id s=>simp[Tr.run]at hk
theorem R0{k:Nat}(ih:pa S k){ρ:Type}{c:Code}{s:bC S.T.den}{K:pB S.T.den→Tr ρ}{r:ρ}{st:St}(h:RS S.T s st)(hk:(xk S (k+1) ρ c s K).run=some r):
  ∃ so o,db S.C c st=some o∧Ek S.T so o∧bn s so.st∧(K so).run=some r:=by
 unfold xk at hk
 split at hk
 ·exact⟨.norm s,_,qO st,⟨st,rfl,h⟩,bn.refl _,hk⟩
 ·exact⟨.norm s,_,Fe _ st,⟨st,rfl,h⟩,bn.refl _,hk⟩
 ·exact⟨.ret s,_,xW st,⟨st,rfl,h⟩,bn.refl _,hk⟩
 ·rename_i id
  exact⟨.exit id s,_,vb id st,⟨st,rfl,h⟩,bn.refl _,hk⟩
 ·rename_i a b
  obtain⟨so,o,c1,c2,c3,hk⟩:=ih.c _ _ _ _ _ _ h hk
  rw[iu,c1]
  cases so with
  |norm s'=>
   obtain⟨st',rfl,fG⟩:=c2
   obtain⟨RW,o2,d1,d2,d3,hk⟩:=ih.c _ _ _ _ _ _ fG hk
   exact⟨RW,o2,d1,d2,c3.trans d3,hk⟩
  |exit id s'=>
   obtain⟨st',rfl,fG⟩:=c2
   exact⟨.exit id s',_,rfl,⟨st',rfl,fG⟩,c3,hk⟩
  |ret s'=>
   obtain⟨st',rfl,fG⟩:=c2
   exact⟨.ret s',_,rfl,⟨st',rfl,fG⟩,c3,hk⟩
 ·rename_i o a b
  split at hk
  ·rename_i t ht
   have ha:=(h.ev o).lit ht
   rw[lP,ha]
   rcases fQ hk with ⟨rfl,hk⟩|⟨rfl,hk⟩
   ·exact ih.c _ _ _ _ _ _ h hk
   ·exact ih.c _ _ _ _ _ _ h hk
  ·simp[Tr.run]at hk
 ·rename_i id b
  obtain⟨so,o,c1,c2,c3,hk⟩:=ih.c _ _ _ _ _ _ h hk
  rw[mf,c1]
  cases so with
  |norm s'=>
   obtain⟨st',rfl,fG⟩:=c2
   exact⟨.norm s',_,rfl,⟨st',rfl,fG⟩,c3,hk⟩
  |exit JE s'=>
   obtain⟨st',rfl,fG⟩:=c2
   simp only at hk
   by_cases e:JE=id
   ·rw[if_pos e]at hk
    exact⟨.norm s',.norm st',by simp[vf,e],⟨st',rfl,fG⟩,c3,hk⟩
   ·rw[if_neg e]at hk
    exact⟨.exit JE s',.exit JE st',by simp[vf,e],⟨st',rfl,fG⟩,c3,hk⟩
  |ret s'=>
   obtain⟨st',rfl,fG⟩:=c2
   exact⟨.ret s',_,rfl,⟨st',rfl,fG⟩,c3,hk⟩
 ·rename_i b
  split at hk
  case h_2=>simp[Tr.run]at hk
  rename_i c hc
  obtain⟨so,o,c1,c2,c3,hk⟩:=ih.c _ _ _ _ _ _ h hk
  exact⟨so,o,Ff hc c1,c2,c3,hk⟩
 ·rename_i b
  split at hk
  ·split at hk
   ·obtain⟨so,o,c1,c2,c3,hk⟩:=ih.c _ _ _ _ _ _ h hk
    rw[nR,c1]
    cases so with
    |norm s'=>
     obtain⟨st',rfl,fG⟩:=c2
     simp only at hk
     split at hk
     case h_2=>simp[Tr.run]at hk
     rename_i Cg
     rw[force_eq]at hk
     have hr:=Ee (n:=s.hp.length) hS.T fG (A6 Cg)
     have pg:=wY h c3
     obtain⟨RW,o2,d1,d2,d3,hk⟩:=ih.c _ _ _ _ _ _ hr hk
     refine⟨RW,o2,?_,d2,pg.trans d3,hk⟩
     simp only[Option.bind_some,J4]
     rw[←h.hp.length]
     exact d1
    |exit id s'=>
     obtain⟨st',rfl,fG⟩:=c2
     exact⟨.exit id s',_,rfl,⟨st',rfl,fG⟩,c3,hk⟩
    |ret s'=>
     obtain⟨st',rfl,fG⟩:=c2
     exact⟨.ret s',_,rfl,⟨st',rfl,fG⟩,c3,hk⟩
   ·simp[Tr.run]at hk
  ·rename_i hi _
   split at hk
   ·rename_i x0 bM VH
    simp only[Bool.and_eq_true]at bM
    rw[Option.bind_eq_some_iff]at VH
    obtain⟨l0,h1,h2⟩:=VH
    simp only[Tr.run,Option.bind_eq_some_iff]at hk
    obtain⟨w,hw,hk⟩:=hk
    obtain⟨o,x,so,oo,g1,g2,g3,g4,g5⟩:=O2 hS ih bM.1.1 bM.1.2 bM.2 h1 h2 h hw
    exact⟨so,oo,g1,g3,g4,by rw[←g5]; exact hk⟩
   ·simp[Tr.run]at hk
 ·rename_i id ops draw
  split at hk
  ·obtain⟨s00,XM,XN,hk⟩:=v9 h hk
   obtain⟨s0,e1,e2,hk⟩:=Ch hS.T XM hk
   replace e2:=XN.trans e2
   rw[rF]at hk
   obtain⟨s',st',g1,g2,g3,hk⟩:=qH (C:=S.C) (fun o s st K h hk=>ih.o _ _ _ _ _ _ h hk) _ _ _ _ e1 hk
   exact⟨.norm s',.norm st',by rw[Aq,←h.fn]; exact g1,⟨st',rfl,g2⟩,e2.trans g3,hk⟩
  ·split at hk
   case isFalse=>simp[Tr.run]at hk
   rename_i N6
   generalize hm:S.C.head s.fn id ops=m at hk
   have key:∀ (s:bC S.T.den) (st:St),RS S.T s st→(oV ops ops.toList fun l=>yN (mz (bK 0 s.hp.length (ops.toList.take m)) l) fun li=>ta (fun nm o s K=>Vs S nm o s K) li
       { s with hp:=s.hp++List.replicate ((ops.toList.take m).filter fun o=>au o.op).length none } [] fun s' fs=>
      if (rB (cm ops.toList) fs && np (cm ops.toList) ops.size m) = true then wR (fun o s K => OI S k ρ o s K) (l.drop m) s' fun s' => K (.norm s') else .no "an order").run = some r →
     ∃ so o,(tP S.C ops (bK 0 st.hp.length (ops.toList.take m)) { st with hp:=st.hp++List.replicate ((ops.toList.take m).filter fun o=>au o.op).length none }).bind (GO S.C ops m)=some o ∧
       Ek S.T so o∧bn s so.st∧(K so).run=some r:=by
    clear hk h
    intro s st h hk
    rw[rF,A3,sj]at hk
    have XO:∀ n:Nat,dJ s.hp (s.hp++List.replicate n none)∧RH S.T (s.hp++List.replicate n none) (st.hp++List.replicate n none):=by
     intro n
     have hg:dJ s.hp (s.hp++List.replicate n none):=fun m o ho=>⟨o,by rw[List.getElem?_append_left (List.getElem?_eq_some_iff.1 ho).1]; exact ho,Nat.le_refl _,fun _=>rfl⟩
     exact⟨hg,ay.append (ay.mono (fun _ _=>B5.mono hg) h.hp) (ay.replicate (show B5 S.T _ none none from trivial) n)⟩
    generalize XP:((ops.toList.take m).filter fun o=>au o.op).length=SJ at hk
    have n5:RS S.T { s with hp:=s.hp++List.replicate SJ none } { st with hp:=st.hp++List.replicate SJ none }:=
     ⟨h.fn,h.n,fun t=>(h.fr t).mono (XO SJ).1,(XO SJ).2,h.js.pz fun n hn=>⟨by simp only; rw[List.getElem?_append_left (jP hn)],by simp only; rw[List.getElem?_append_left (by rw[←h.hp.length]; exact jP hn)]⟩⟩
    have XQ:bn s { s with hp:=s.hp++List.replicate SJ none }:=
     ⟨rfl,rfl,fun _ _=>rfl,fun _ h=>h,fun n hn _=>by simp only; rw[List.getElem?_append_left hn],fun _ h=>h,by simp,(XO SJ).1⟩
    obtain⟨s',st',RB,NV,g1,g2,g3,g4,hk⟩:=vY (C:=S.C) (ops:=ops) (fun nm o s st K h hn hk=>RT hS h hn hk) (bK 0 s.hp.length (ops.toList.take m)) s.hp.length _ _ [] _ (A4 _ _ _)
     (by rw[zb,XP]; simp) (fun m hm CE=>by
       simp only at CE ⊢
       rw[List.getElem?_append_right hm,List.getElem?_replicate,if_pos]
       simp at CE; omega) n5 hk
    split at hk
    case isFalse=>simp[Tr.run]at hk
    rename_i Ex
    rw[Bool.and_eq_true]at Ex
    obtain⟨Ex,wF⟩:=Ex
    obtain⟨s2,OW,j1,j2,j3,hk⟩:=qH (C:=S.C) (fun o s st K h hk=>ih.o _ _ _ _ _ _ h hk) _ _ _ _ g3 hk
    refine⟨.norm s2,.norm OW,?_,⟨OW,rfl,j2⟩,XQ.trans (g4.trans j3),hk⟩
    have hl:=h.hp.length
    rw[←hl]
    rw[g1]
    simp only[Option.bind_some,GO]
    rw[if_pos]
    ·rw[p8,←j1,List.map_drop]
    ·rw[Bool.and_eq_true]
     simp only[List.nil_append]at Ex
     exact⟨y9 g2 (Cb Ex),wF⟩
   obtain⟨s00,XM,XN,hk⟩:=v9 h hk
   obtain⟨s0,e1,e2,hk⟩:=Ch hS.T XM hk
   replace e2:=XN.trans e2
   obtain⟨so,o,i1,i2,i3,hk⟩:=key s0 _ e1 hk
   refine⟨so,o,?_,i2,e2.trans i3,hk⟩
   rw[H2 id ops N6,←h.fn,←sH (S.C.iV s.fn id) st,hm]
   exact i1
 ·-- a range over a function
  rename_i f ps as bd
  split at hk
  case h_2=>simp[Tr.run]at hk
  rename_i g args hg
  split at hk
  case h_2=>simp[Tr.run]at hk
  rename_i me
  rw[Bool.and_eq_true]at me
  have hl:=h.hp.length
  have eK:=I4 h me.2
  obtain⟨H1,Js⟩:∃ H1,H1=s.hp++[some (aE.pA s.fn ps as bd (xj (dt as++dt bd) s.fr (List.range s.n)))]:=⟨_,rfl⟩
  rw[←Js]at hk
  have PZ:dJ s.hp H1:=fun m o ho=>⟨o,by rw[Js,List.getElem?_append_left (List.getElem?_eq_some_iff.1 ho).1]; exact ho,Nat.le_refl _,fun _=>rfl⟩
  have fF:H1[s.hp.length]?=some (some (aE.pA s.fn ps as bd (xj (dt as++dt bd) s.fr (List.range s.n)))):=by rw[Js]; simp
  have hh1:RH S.T H1 (st.hp++[some (.gI (.loop st.fn ps as bd .ready) (uV as bd st.fr))]):=by
   have:ay (B5 S.T H1) (s.hp++[some (aE.pA s.fn ps as bd (xj (dt as++dt bd) s.fr (List.range s.n)))]) (st.hp++[some (.gI (.loop st.fn ps as bd .ready) (uV as bd st.fr))]):=
    ay.append (ay.mono (fun _ _=>B5.mono PZ) h.hp) ⟨⟨.ready,_,by rw[h.fn],ay.mono (fun _ _ h=>h.imp id (R.mono PZ)) eK⟩,trivial⟩
   rw[←Js]at this
   exact this
  have Si:lj ((s.hp.length,.ready)::s.js) H1 (st.hp++[some (.gI (.loop st.fn ps as bd .ready) (uV as bd st.fr))]):=by
   intro m x hm
   simp only[cE]at hm
   split at hm
   ·simp_all[recAt,fF,aE.isRec,iJ]
   ·obtain⟨h1,h2⟩:=h.js m x hm
    have bE:=jP h1
    exact⟨by rw[qG (show H1[m]?=s.hp[m]? by rw[Js,List.getElem?_append_left bE])]; exact h1,by rw[oj (List.getElem?_append_left (by omega))]; exact h2⟩
  have hyR:RV S.T H1 (.mp true s.hp.length) (.mp true st.hp.length):=.inr (by simp only[R]; exact⟨by rw[hl],_,fF⟩)
  obtain⟨m,r8,zr⟩:=gE ((h.ev f).mono PZ) (show ay (RV S.T H1) [.mp true s.hp.length] [.mp true st.hp.length] from ⟨hyR,trivial⟩) hg
  have Mh:args.any bV=false:=by simpa using me.1
  obtain⟨v,cB,pv,rH,a,fc,g1,g2,g3,gj,g4,g5,g6,g7,hk⟩:=ih.f _ _ _ _ _ _ _ _ _ _ (zr Mh) hh1 Si hk
  have GG:H1.length=s.hp.length+1:=by rw[Js]; simp
  have fin:∀ x,cE rH s.hp.length=some x→RS S.T (s.il s.hp.length cB pv rH) { st with hp:=rX fc st.hp.length }∧bn s (s.il s.hp.length cB pv rH)∧iJ fc st.hp.length=some x:=by
   intro x hx
   obtain⟨q1,q2⟩:=gj _ _ hx
   rw[hl]at q2
   obtain⟨N1,Xq,oF,Xr,zK,hr⟩:=jh q2
   obtain⟨o,ho,Xp⟩:∃ o,cB[s.hp.length]?=some (some o)∧o.isRec=true:=by
    grind[recAt]
   have mu:o.cur=0∧o.len=0:=by cases o<;>simp[aE.isRec]at Xp; exact⟨rfl,rfl⟩
   have Dc:rX fc st.hp.length=fc.set st.hp.length (some (.gI (.loop N1 Xq oF Xr .il) (zK.map fun _=>.any))):=by unfold rX; rw[hr]
   obtain⟨u1,u2⟩:=g3.Sz ho (o':=.iB) (a':=.gI (.loop N1 Xq oF Xr .il) (zK.map fun _=>.any)) (by rw[mu.1]; exact Nat.zero_le _) (fun _=>by rw[mu.2]; rfl) (.inr ⟨_,_,rfl,fun n=>by
    rw[zc]
    simp[Go.PI.below]⟩)
   rw[hl]at u2
   have An:dJ s.hp (cB.set s.hp.length (some .iB)):=PZ.trans (g4.trans u1)
   refine⟨⟨h.fn,h.n,fun t=>(h.fr t).mono An,?_,?_⟩,⟨rfl,rfl,fun _ _=>rfl,fun _ h=>h,fun n hn hw=>?_,g7,?_,An⟩,q2⟩
   ·rw[Dc]
    show RH S.T (cB.set s.hp.length (some .iB)) _
    rw[hl]; exact u2
   ·intro n y hy
    have Bv:cE (DK rH s.hp.length) n=some y:=hy
    rw[El]at Bv
    split at Bv
    ·simp at Bv
    rename_i dE
    obtain⟨w1,w2⟩:=gj _ _ Bv
    refine⟨?_,?_⟩
    ·rw[qG (show (s.il s.hp.length cB pv rH).hp[n]?=cB[n]? from List.getElem?_set_ne (Ne.symm dE))]; exact w1
    ·rw[Dc,oj (List.getElem?_set_ne (by rw[←hl]; exact Ne.symm dE))]; exact w2
   ·show (cB.set s.hp.length (some .iB))[n]?=_
    rw[List.getElem?_set_ne (by omega),g6 n (by omega) hw,Js,List.getElem?_append_left hn]
   ·show s.hp.length≤(cB.set s.hp.length (some .iB)).length
    rw[List.length_set]; omega
  have aY:db S.C (.rangeFunc f ps as bd) st=we st st.hp.length fc:=by
   rw[Fj,r8]
   simp only[Option.bind_some,g1]
   rfl
  rw[aY]
  split at hk
  ·rename_i hx
   obtain⟨f1,f2,f3⟩:=fin _ hx
   exact⟨.norm _,_,by unfold we; rw[f3],⟨_,rfl,f1⟩,f2,hk⟩
  ·rename_i hx
   obtain⟨f1,f2,f3⟩:=fin _ hx
   exact⟨.ret _,_,by unfold we; rw[f3],⟨_,rfl,f1⟩,f2,hk⟩
  ·rename_i id hx
   obtain⟨f1,f2,f3⟩:=fin _ hx
   exact⟨.exit id _,_,by unfold we; rw[f3],⟨_,rfl,f1⟩,f2,hk⟩
  ·simp[Tr.run]at hk
 ·simp[Tr.run]at hk
theorem Ey:∀ k,pa S k
 |0=>⟨fun _ _ _ _ _ _ _ _ _ _ _ _ _ h=>by simp[PT,Tr.run]at h,fun _ _ _ _ _ _ _ h=>by simp[xk,Tr.run]at h,fun _ _ _ _ _ _ _ h=>by simp[OI,Tr.run]at h⟩
 |k+1=>
  have ih:=Ey k
  ⟨fun _ _ _ _ _ _ _ _ _ _ ha hh hj hk=>RZ hS ih ha hh hj hk,fun _ _ _ _ _ _ h hk=>R0 hS ih h hk,fun _ _ _ _ _ _ h hk=>RU hS ih h hk⟩
end
end Go.PI
end
section
/- PS, part R: from an equation of trees to what is known of a function; laws; arguments read. -/
namespace Go.PI
theorem Eu[ae]{S:oS}(hS:S.Ok){k:Nat}{f:FuncId}{σ:vF S.T}(hk:S.C.kind f=.pure)(hi:S.C.kY f=none)(h:∀ x,(Ro S k f σ.args σ.res x).run=σ.fn x):qF S.C S.T f σ where
 kind:=hk
 SE:=by
  intro x as y hx hy
  rw[←h x]at hy
  unfold Ro at hy
  obtain⟨v,cB,pv,rH,a,fc,g1,g2,g3,_,_,_,_,_,hy⟩:=(Ey hS k).f _ f _ [] [] [] _ _ as [] (L1 hS.T [] hx) (show RH S.T [] [] from trivial) (fun _ _ h=>by simp[cE]at h) hy
  obtain⟨v',rd,a',h1,h2,h3,hy⟩:=L0 g3 g2 hy
  split at hy
  case h_2=>simp[Tr.run]at hy
  rename_i r hr
  simp only[Tr.run,Option.some.injEq]at hy
  subst hy
  rw[Option.bind_eq_some_iff]at hr
  obtain⟨l,hl,hr⟩:=hr
  have Wg:∀ (ts:List Nat) (l:List (SV S.T.den)) r,IC S.T ts l=some r→ts.length=l.length:=by
   intro ts
   induction ts with
   |nil=>
    grind[IC]
   |cons t ts ih=>
    intro l r h
    cases l with
    |nil=>simp[IC]at h
    |cons v l=>
     simp only[IC,Option.bind_eq_some_iff,Option.map_eq_some_iff]at h
     obtain⟨_,_,_,h,_⟩:=h
     simp[ih _ _ h]
  have hlen:=Wg _ _ _ hl
  have key:∃ m,RL S.T cB (LJ σ.res v') m∧cO m=a':=by
   unfold LJ at hlen ⊢
   split at hlen
   ·exact⟨[a'],by simp only[RL]; exact⟨h2,trivial⟩,rfl⟩
   ·rename_i dE
    have rZ:σ.res.length≠1:=by
     intro hc
     match cL:σ.res,hc with
     |[t],_=>exact dE t cL
    split at hlen
    ·simp only[R]at h2
     obtain⟨m,rfl,h2⟩:=h2
     have hm:=h2.length
     refine⟨m,h2,?_⟩
     match m,hm with
     |[],_=>rfl
     |[x],hm=>simp at hm; omega
     |x::y::r,_=>rfl
    ·simp at hlen; omega
  obtain⟨m,r8,SI⟩:=key
  have EU:=Gd hS.T r8 hl
  rw[o6 _ _ _ hr]
  refine⟨a,fc,m,?_,?_,?_,EU⟩
  ·simp only[L2,hi,g1]
  ·rw[SI]; exact h1.1
  ·rw[SI]; exact h3.1
def Hy(C:Ctx)(T:dP)(M:List (Nat×kD))(hint:FuncId→Nat→Option Hint)(vG:FuncId→Nat→Bool)(L:List (Nat×vF T))(n:Nat)(O:List (Nat×wQ T):=[])(ur:FuncId→Nat→Bool:=fun _ _=>false)(tw:FuncId→Tmp→List Tw:=fun _ _=>[]):oS:=
 ⟨C,T,cE (L.take n),hint,vG,M,cE O,ur,tw⟩
theorem Be{α:Type}:∀ {l m:List (Nat×α)} {n:Nat} {a:α},cE (l++m) n=some a→cE l n=some a∨cE m n=some a
 |[],m,n,a,h=>.inr h
 |(k,b)::l,m,n,a,h=>by
  simp only[List.cons_append,cE]at h ⊢
  split at h
  ·exact .inl h
  ·exact Be h
section
variable {C:Ctx}{T:dP}{M:List (Nat×kD)}{hint:FuncId→Nat→Option Hint}{vG:FuncId→Nat→Bool}{L:List (Nat×vF T)}{O:List (Nat×wQ T)}{ur:FuncId→Nat→Bool}{tw:FuncId→Tmp→List Tw}
theorem DU[ae](hT:T.Ok)(hQ:ik.Ok ⟨C.P,M,fun _=>false⟩)(hZ:T.uC ⟨C.P,M,fun _=>false⟩)(hO:∀ g σ,cE O g=some σ→HE C T g σ):(Hy C T M hint vG L 0 O ur tw).Ok:=
 ⟨hT,hQ,hZ,fun g σ h=>by simp[Hy,cE]at h,hO⟩
theorem uz[ae]{n:Nat}(hS:(Hy C T M hint vG L n O ur tw).Ok){f:FuncId}{σ:vF T}(hL:L[n]?=some (f,σ))(h:qF C T f σ):(Hy C T M hint vG L (n+1) O ur tw).Ok:=by
 refine⟨hS.T,hS.Q,hS.Z,fun g τ hg=>?_,hS.own⟩
 simp only[Hy]at hg
 rw[List.take_add_one,hL]at hg
 rcases Be hg with hg|hg
 ·exact hS.sum g τ hg
 ·have:=gY hg
  simp only[Option.toList_some,List.mem_singleton]at this
  obtain⟨rfl,rfl⟩:=this
  exact h
theorem aD[ae]{n:Nat}(hS:(Hy C T M hint vG L n O ur tw).Ok){f:FuncId}{σ:vF T}(hL:L[n]?=some (f,σ))(hk:C.kind f=.pure)(hi:C.kY f=none)(k:Nat)
  (h:∀ x,(Ro (Hy C T M hint vG L n O ur tw) k f σ.args σ.res x).run=σ.fn x):(Hy C T M hint vG L (n+1) O ur tw).Ok:=
 uz hS hL (Eu hS hk hi h)
theorem O4[ae]{n:Nat}(hS:(Hy C T M hint vG L n O ur tw).Ok){f:FuncId}{σ:vF T}(h:cE (L.take n) f=some σ):qF C T f σ:=hS.sum f σ h
end
theorem Gn[ae]{hp:ag}{v:AV}{b:Bool}(h:(a9 1000 v).run hp=some (.lit (.bool b))):v=.lit (.bool b):=by
 cases v with
 |lit x=>
  simp only[a9]at h
  split at h
  ·simp[RM.run_pure]at h
  ·simpa[RM.run_pure] using h
 |agg l=>simp only[a9,RM.run_bind]at h; cases hq:(aQ 999 l).run hp<;>rw[hq]at h<;>simp[RM.run_pure]at h
 |jU l=>simp only[a9,RM.run_bind]at h; cases hq:(aQ 999 l).run hp<;>rw[hq]at h<;>simp[RM.run_pure]at h
 |sl l=>simp[a9,RM.run_pure]at h
 |pJ l c=>simp[a9,RM.run_pure]at h
 |nz=>simp[a9,RM.run_pure]at h
 |bk e j=>simp[a9,RM.run_pure]at h
 |ref n aq i j=>
  simp only[a9,RM.run_bind]at h
  cases hq:(RM.arr n aq).run hp with
  |none=>rw[hq]at h; simp at h
  |some q=>
   obtain⟨g,c,f,es⟩:=q
   rw[hq]at h
   simp only[Option.bind_some]at h
   split at h
   ·split at h
    ·simp[RM.run_pure]at h
    ·rename_i e _ _
     rw[RM.run_bind]at h
     cases eC:(a9 999 e).run hp<;>rw[eC]at h<;>simp[RM.run_pure]at h
   ·simp[RM.af]at h
 |jt n aq i j len cap=>
  simp only[a9,RM.run_bind]at h
  cases hq:(RM.arr n aq).run hp with
  |none=>rw[hq]at h; simp at h
  |some q=>
   obtain⟨g,c,f,es⟩:=q
   rw[hq]at h
   simp only[Option.bind_some]at h
   split at h
   ·split at h
    ·split at h
     ·simp[RM.run_pure]at h
     ·rename_i cs _ _ _
      rw[RM.run_bind]at h
      cases eC:(aQ 999 ((cs.drop j).take len)).run hp<;>rw[eC]at h<;>simp[RM.run_pure]at h
    ·simp[RM.af]at h
   ·simp[RM.af]at h
 |mp n=>simp[a9,RM.af]at h
 |any=>simp[a9,RM.af]at h
 |gH t x=>simp only[a9,RM.run_bind]at h; cases hq:(a9 999 x).run hp<;>rw[hq]at h<;>simp[RM.run_pure]at h
 |ju fn f c=>
  simp only[a9,RM.run_bind]at h
  cases hq:(aQ 999 f).run hp with
  |none=>rw[hq]at h; simp at h
  |some f'=>
   cases eC:(aQ 999 c).run hp with
   |none=>rw[hq,eC]at h; simp at h
   |some c'=>simp_all[RM.run_pure]
 |bu esz n aq off len cap=>
  simp only[a9,RM.run_bind]at h
  cases hq:(RM.arr n aq).run hp with
  |none=>rw[hq]at h; simp at h
  |some q=>
   obtain⟨g,c,f,es⟩:=q
   rw[hq]at h
   simp only[Option.bind_some]at h
   split at h
   ·split at h
    ·simp[RM.run_pure]at h
    ·rw[RM.run_bind]at h
     cases eC:(aQ 999 ((es.drop off).take len)).run hp<;>rw[eC]at h<;>simp[RM.run_pure]at h
   ·simp[RM.af]at h
open Go.RowKit in
theorem Mp[ae]{C:Ctx}{T:dP}(hC:C.Ok){f:FuncId}{σ:vF T}(h:qF C T f σ)(hi:C.kY f=none){x:HL T.den (σ.args.map .v)}{y:HL T.den (σ.res.map .v)}(hy:σ.fn x=some y)
  (cL:∀ l,ay (P4 T) (gw _ y) l→l=[.lit (.bool true)]) {as:List AV} (ha:ay (P4 T) (gw _ x) as) {W:World} (hg:nq (Env.all W)) {vs:List Value} (hr:an (Env.all W) false as vs) :
  Calls C.P f vs.toArray W fun e w'=>e=.returned (.bool true)∧Below W.heap.size W w':=by
 obtain⟨v,iG,l,h1,h2,_,h4⟩:=h.SE x as y ha hy
 have:=cL l h4
 subst this
 have hv:=Gn h2
 subst hv
 unfold L2 at h1
 rw[hi]at h1
 simp only at h1
 split at h1
 case h_2=>simp at h1
 rename_i v0 T6 aY
 simp only[Option.some.injEq,Prod.mk.injEq]at h1
 obtain⟨rfl,rfl⟩:=h1
 exact HV hC aY hg hr
end Go.PI
end
section
/- PS, part S: arguments that came in, as typed values. -/
namespace Go.PI
section
variable {P:Program}{n t:Nat}{l:List AV}
theorem pc(h:Shape P n t l):∃ k,n=k+1:=by
 cases n with
 |zero=>simp[Shape]at h
 |succ k=>exact⟨k,rfl⟩
theorem Jc[ae]{i:IntKind}(hu:P.underlying t=some (.int i))(h:Shape P n t l):∃ m:Int,l=[.lit (.int i m)]∧i.min≤m∧m≤i.max:=by
 obtain⟨k,rfl⟩:=pc h
 simp only[Shape,hu]at h
 obtain⟨m,h1,h2⟩:=h
 simp only[Lit.wf,Bool.and_eq_true,decide_eq_true_eq]at h2
 exact⟨m,h1,h2⟩
theorem qN[ae]{e:Nat}{α:Type}{Q:α→AV→Prop}{d:TypeDesc}(hu:P.underlying t=some (.slice e))(he:P.underlying e=some d)(h:Shape P n t l)
  (J0:∀ k x,(∃ cl,(if ei d then x=AV.agg cl else cl=[x])∧Shape P k e cl)→∃ y,Q y x) :
  ∃ ys xs,l=[.sl xs]∧ay Q ys xs∧ys.length≤maxLen:=by
 obtain⟨k,rfl⟩:=pc h
 simp only[Shape,hu]at h
 obtain⟨xs,h1,h2,h3⟩:=h
 have:∃ ys,ay Q ys xs:=by
  clear h1 h2
  induction xs with
  |nil=>exact⟨[],trivial⟩
  |cons x xs ih=>
   obtain⟨ys,h4⟩:=ih fun y hy=>h3 y (List.mem_cons_of_mem _ hy)
   obtain⟨cl,h5,h6⟩:=h3 x (by simp)
   rw[he]at h5
   obtain⟨y,h7⟩:=J0 k x ⟨cl,h5,h6⟩
   exact⟨y::ys,h7,h4⟩
 obtain⟨ys,h4⟩:=this
 exact⟨ys,xs,h1,h4,by rw[h4.length]; exact h2⟩
theorem Cj[ae]{fs:Array Field}(hu:P.underlying t=some (.struct fs))(h:Shape P n t l):l.length=P.cellsOf t∧∃ k,∀ f,f∈fs.toList→Shape P k f.type ((l.drop f.offset).take (P.cellsOf f.type)):=by
 obtain⟨k,rfl⟩:=pc h
 simp only[Shape,hu]at h
 exact⟨h.1,k,h.2⟩
theorem uJ[ae]{Q:ik}(hQ:Q.Ok){t:Nat}{m:kD}(hm:Q.ty t=some m){fs:List (Nat×Nat)}(hk:m.kind=.struct fs)(h:Shape Q.P n t l):
  l.length=Q.P.cellsOf t∧∃ k,∀ q,q∈fs→Shape Q.P k q.2 ((l.drop q.1).take (Q.P.cellsOf q.2)):=by
 obtain⟨d,hd,Fg⟩:=hQ.kind t m hm
 rw[hk]at Fg
 cases d<;>simp[oW]at Fg
 rename_i EG
 subst Fg
 obtain⟨h1,k,h2⟩:=Cj hd h
 refine⟨h1,k,fun q hq=>?_⟩
 obtain⟨f,hf,rfl⟩:=List.mem_map.1 hq
 exact h2 f hf
end
theorem iU{Q:ik}(hQ:Q.Ok){t:Nat}{m:kD}(h:Q.ty t=some m):Q.P.cellsOf t=m.size:=by
 obtain⟨r,h1,_,h2,_⟩:=hQ.row t m h
 unfold fH at h1
 unfold Program.cellsOf
 cases hi:Q.P.info? t with
 |none=>rw[hi]at h1; simp at h1
 |some i=>
  grind
theorem fE[ae]{P:Program}{n t t':Nat}{l:List AV}(hu:P.underlying t=P.underlying t')(h:Shape P n t l)(hc:P.cellsOf t=P.cellsOf t':=by kernel_rfl):Shape P n t' l:=by
 obtain⟨k,rfl⟩:=pc h
 simp only[Shape]at h ⊢
 rw[←hu,←hc]
 exact h
theorem uK{k:IntKind}{n:Int}:bg (.lit (.int k n))=true:=rfl
theorem rJ{b:Bool}:bg (.lit (.bool b))=true:=rfl
theorem uM{s:ByteArray}:bg (.lit (.string s))=true:=rfl
theorem Ez{T:dP}{H:ai T.den}{v:SV T.den}{vs:List (SV T.den)}{l:List AV}:RL T H (v::vs) l↔∃ c cs,l=c::cs∧R T H v c∧RL T H vs cs:=by
 cases l with
 |nil=>simp[RL]
 |cons c cs=>
  grind[RL]
theorem Gp{T:dP}{H:ai T.den}{l:List AV}:RL T H [] l↔l=[]:=by
 cases l<;>simp[RL]
end Go.PI
end
section
/- PS: what must hold of a seat's types, for all the plain kinds at once. -/
namespace Go.PI
section
variable {T:dP}{H:ai T.den}{v:SV T.den}{a:AV}
theorem fi{k:IntKind}{x:Int}(h:dI k v=some x)(hr:R T H v a):a=.lit (.int k x):=by
 unfold dI at h
 split at h
 ·simp_all[R]
 ·simp at h
theorem Ms{x:Bool}(h:dB v=some x)(hr:R T H v a):a=.lit (.bool x):=by
 unfold dB at h
 split at h
 ·simp_all[R]
 ·simp at h
theorem Ur{x:ByteArray}(h:dS v=some x)(hr:R T H v a):a=.lit (.string x):=by
 unfold dS at h
 split at h
 ·simp_all[R]
 ·simp at h
theorem Mt{α:Type}{q:α→AV→Prop}{d:SV T.den→Option α}(hd:∀ v x a,d v=some x→R T H v a→q x a):∀ (vs:List (SV T.den)) (l:List α) (m:List AV),TO d vs=some l→RL T H vs m→ay q l m
 |[],l,[],h,_=>by simp[TO]at h; subst h; trivial
 |v::vs,l,a::m,h,hr=>by
  simp only[RL]at hr
  simp only[TO,Option.bind_eq_some_iff,Option.map_eq_some_iff]at h
  obtain⟨x,h1,ys,h2,rfl⟩:=h
  exact⟨hd _ _ _ h1 hr.1,Mt hd vs ys m h2 hr.2⟩
 |[],_,_::_,_,h=>by simp[RL]at h
 |_::_,_,[],_,h=>by simp[RL]at h
theorem gG{e:Nat}{x:List (T.den e)}{d:SV T.den→Option (T.den e)}(hd:∀ v x a,d v=some x→R T H v a→T.rp e x a)(h:PU e d v=some x)(hr:R T H v a):OJ (T.rp e) x a:=by
 unfold PU at h
 split at h
 ·rename_i t l
  split at h
  ·rename_i e
   subst e
   have e2:l=x:=Option.some.inj h
   subst e2
   simp only[R]at hr
   exact hr
  ·simp at h
 ·simp only[R]at hr
  obtain⟨m,rfl,hm,_⟩:=hr
  exact .inl ⟨m,rfl,Mt hd _ _ _ h hm⟩
 ·grind[R]
 ·simp at h
theorem R2{α:Type}{q:α→AV→Prop}{d:SV T.den→Option α}{x:α}(hd:∀ v a,d v=some x→R T H v a→q x a)(h:WW d v=some x)(hr:R T H v a):Vt q x a:=by
 unfold WW at h
 split at h
 ·grind[R]
 ·simp at h
theorem uL{l:Value}(h:a=.lit l):R T H (.lit l) a:=by simp only[R]; exact h
theorem uG{e:Nat}{x:List (T.den e)}(h:OJ (T.rp e) x a):R T H (.jT e x) a:=by simp only[R]; exact h
theorem uP{α:Type}{q:α→AV→Prop}{u:α→SV T.den}{x:α}(hu:∀ b,q x b→R T H (u x) b)(hc:aG (u x)=true)(h:Vt q x a):R T H (.bk (u x) 0) a:=by
 grind[R]
theorem eI{k:IntKind}{x:Int}(h:a=.lit (.int k x)):aJ false 1 a=true∧closed a=true∧bg a=true:=by subst h; exact⟨rfl,rfl,rfl⟩
theorem eB{x:Bool}(h:a=.lit (.bool x)):aJ false 1 a=true∧closed a=true∧bg a=true:=by subst h; exact⟨rfl,rfl,rfl⟩
theorem eS{x:ByteArray}(h:a=.lit (.string x)):aJ false 1 a=true∧closed a=true∧bg a=true:=by subst h; exact⟨rfl,rfl,rfl⟩
theorem eG{α:Type}{q:α→AV→Prop}{x:List α}(h:OJ q x a):aJ false 1 a=true∧closed a=true∧bg a=true:=by
 rcases h with ⟨l,rfl,_⟩|⟨_,rfl⟩<;>exact⟨rfl,rfl,rfl⟩
theorem eP{α:Type}{q:α→AV→Prop}{x:α}(h:Vt q x a):aJ false 1 a=true∧closed a=true∧bg a=true:=by
 obtain⟨b,rfl,_⟩:=h
 exact⟨rfl,rfl,rfl⟩
theorem zt{p q r:Prop}(h:p∧q∧r):p∧q:=⟨h.1,h.2.1⟩
theorem zz{α β:Type}{P:α→β→Prop}{x z:α}{y za:β}(h1:some x=some z)(h2:some y=some za)(h:P x y):P z za:=by
 simp_all
theorem zn{α:Type}{z:α}{p:Prop}(h:(none:Option α)=some z):p:=by cases h
end
end Go.PI
end
section
/- PS, part U: what is lacking of laws to compute by: appends and literal slices. -/
namespace Go.PI
variable {C:Ctx}{P:Program}{dst:Option Tmp}{type:TypeId}{pos:String}{after:Array Edge}{guard:Option (Nat×Bool)}{s:St}{hp:ag}{nm:Nat}{ev:Operand→AV}
theorem EC[ae]{d:Tmp}(h:C.acc s.fn d=false):iL C ⟨some d,.assign (.const (.slice none 0 0)),type,pos,after,guard⟩ s=some (.norm { s with fr:=s.fr.set d (.lit cX) }):=by
 refine cd (jX C _ _) (by simp[fY]) fun k=>?_
 simp only[fY,h]
 rfl
theorem Mz{x y:Operand}{t u:TypeId}:(aO P nm ev ⟨dst,.call ⟨.builtin .append,#[x,y],#[t,u]⟩,type,pos,after,guard⟩).run hp=(fW P nm t u (ev x) (ev y)).run hp:=rfl
def MA(d:Option dK):AV→Option dK
 |.lit (.slice none 0 0)=>some ⟨int 0,[]⟩
 |_=>d
theorem MB{d:Option dK}:MA d (.lit (.slice none 0 0))=some ⟨int 0,[]⟩:=rfl
theorem Pe{t:TypeId}{x:Operand}(h:ck P t=true):(aO P nm ev ⟨dst,.call ⟨.builtin .cap,#[x],#[t]⟩,type,pos,after,guard⟩).run hp =
  MA (Kz P nm ev ⟨dst,.call ⟨.builtin .cap,#[x],#[t]⟩,type,pos,after,guard⟩ hp) (ev x):=by
 unfold MA
 split
 ·rename_i hx; simp[aO,dF,hx,h]; rfl
 ·rfl
theorem Pf{t:TypeId}{x:Operand}(h:ck P t=true):(aO P nm ev ⟨dst,.call ⟨.builtin .len,#[x],#[t]⟩,type,pos,after,guard⟩).run hp =
  MA (Kz P nm ev ⟨dst,.call ⟨.builtin .len,#[x],#[t]⟩,type,pos,after,guard⟩ hp) (ev x):=by
 unfold MA
 split
 ·rename_i hx; simp[aO,dF,hx,h,ou]; rfl
 ·rfl
theorem Pg[ae]{t:TypeId}{x:Operand}{lo hi mx:Option Operand}:(aO P nm ev ⟨dst,.slice t x lo hi mx,type,pos,after,guard⟩).run hp=(nK P t (ev x) (lo.map ev) (hi.map ev) (mx.map ev)).map fun x=>⟨x,[]⟩:=BB _ _
theorem Ph{t:TypeId}{r:bN}(zJ:aR P t=some r):nK P t (.lit cX) none (some (int 0)) none=some (.lit cX):=by
 simp[nK,zJ,bw,asNat]
theorem Pj{t:TypeId}{r:bN}(zJ:aR P t=some r){n aq len:Nat}(hv:0<aq):nK P t (.bu r.size n aq 0 len none) none (some (int 0)) none=some (.bu r.size n aq 0 0 none):=by
 simp[nK,zJ,bw,asNat,hv]
theorem MC[ae]{t u:TypeId}{r:bN}{k:IntKind}{z:AV}{n:Nat}(zJ:aR P t=some r)(ig:ck P u=false)(hu:P.underlying u=some (.int k))(hz:cC r=some z)(hr:0<r.size)
  (ho:aJ r.isAgg r.size z=true) (hn:0<n) (h1:n*r.bytes≤2^44) (h2:n≤2^44) :
  (fW P nm t u (.lit cX) (int n)).run hp=some ⟨.bu r.size nm n 0 n none,[(nm,.arr true true false (List.replicate n z))]⟩:=by
 have dE:(List.replicate n z).isEmpty=false:=by cases n with
  |zero=>omega
  |succ n=>rfl
 have aX:(List.replicate n z).all (aJ r.isAgg r.size)=true:=by simp[ho]
 simp only[fW,zJ,xb,ig,hu,hz,sB,RM.run_bind,h1,h2,and_self,if_true,RM.run_pure,Option.bind_some,Option.isSome_some,hr,aX,decide_true,Bool.and_self,dE,List.length_replicate]
theorem Gr[ae]{k n:Nat}{xs:List AV}{esz:Nat}{cap:Option Nat}{g f:Bool}(h:(RM.arr n xs.length).run hp=some (g,true,f,xs)):(a9 (k+1) (.bu esz n xs.length 0 xs.length cap)).run hp=some (.sl xs):=by
 simp[a9,RM.run_bind,h,RM.run_pure]
def w8:AV→AV
 |.lit (.slice none 0 0)=>.sl []
 |x=>x
theorem Bf{E:Env}{o:Bool}{x:AV}{v:Value}(h:aj E o x v):aj E o (w8 x) v:=by
 unfold w8
 split
 ·grind[aj]
 ·exact h
theorem zp[ae]{E:Env}{c:Array Value}{esz:Nat}:∀ {xs:List AV} {pos:Nat},ep E xs c pos esz→ep E (xs.map w8) c pos esz
 |[],_,_=>by simp[ep]
 |x::xs,pos,h=>by
  simp only[ep,List.map_cons]at h ⊢
  obtain⟨⟨v,h1,h2⟩,h3⟩:=h
  exact⟨⟨v,Bf h1,h2⟩,zp h3⟩
theorem Jg[ae]{E:Env}{o:Bool}{xs:List AV}{v:Value}(h:aj E o (.sl xs) v):aj E o (.sl (xs.map w8)) v:=by
 simp only[aj,List.length_map]at h ⊢
 obtain⟨a,cap,h1,h2,h3,h4⟩:=h
 refine⟨a,cap,h1,h2,h3,?_⟩
 rcases h4 with h4|⟨b,of,esz,c,h5,h6,h7⟩
 ·left; rw[h4]; rfl
 ·exact .inr ⟨b,of,esz,c,h5,h6,zp h7⟩
def w9:List AV→Option (List (List AV))
 |[]=>some []
 |.sl l::xs=>(w9 xs).map fun r=>l::r
 |_::_=>none
theorem ED:∀ {xs:List AV} {ls:List (List AV)},w9 xs=some ls→xs=ls.map .sl
 |[],ls,h=>by simp[w9]at h; subst h; rfl
 |x::xs,ls,h=>by
  unfold w9 at h
  split at h
  ·rename_i hh; simp at hh
  ·rename_i l xs' hh
   simp only[List.cons.injEq]at hh
   obtain⟨rfl,rfl⟩:=hh
   simp only[Option.map_eq_some_iff]at h
   obtain⟨r,h1,rfl⟩:=h
   rw[ED h1]; rfl
  ·simp at h
def Yy(r:bN):List AV→Option AV
 |[.sl xs]=>if xs.all (aJ r.isAgg r.size)=true∧xs.length*r.bytes≤2^44∧xs.length≤2^44 then some (.sl xs) else none
 |[.lit (.slice none 0 0)]=>some (.sl [])
 |_=>none
def nk(r:bN):List AV→Option AV
 |[.sl es]=>(match w9 (es.map w8) with
  |some ls=>if ls.length≤2^44∧ls.flatten.all (aJ r.isAgg r.size)=true∧ls.flatten.length*r.bytes≤2^44∧ls.flatten.length≤2^44 then some (.sl ls.flatten) else none
  |none=>none)
 |[.lit (.slice none 0 0)]=>some (.sl [])
 |_=>none
theorem EE[ae]{C0:Ctx}(bM:C0.Ok){g:FuncId}{xs:List AV}{r:AV}
  (h0:∃ res iG,k6 C0 g [.sl xs] []=some (.val res,iG)∧(a9 1000 res).run iG=some r)
  (Ec:Env) (w:World) (vs:List Value) (hI:Inv Ec [] w) (ha:an Ec false [.sl xs] vs):Calls C0.P g vs.toArray w (bW Ec w [] (.val r)):=by
 obtain⟨res,iG,he,h⟩:=h0
 have out:(gL [.sl xs] iG (.val res)).run []=some (.val r,[]):=by
  simp only[gL,h]
  split
  ·rfl
  ·simp[cD,names,ee,RM.run_bind,RM.run_pure]
 have ha2:an Ec true [.sl xs] vs:=by
  match vs,ha with
  |[],ha=>simp[an]at ha
  |_::_::_,ha=>simp[an]at ha
  |[v],ha=>
   simp only[an]at ha ⊢
   exact⟨aj.iY ha.1,trivial⟩
 obtain⟨k,hk⟩:=(bm (mW C0 g [.sl xs] [])).1 he
 have n4:(aQ 1000 [.sl xs]).run []=some [.sl xs]:=rfl
 refine vm hI ha2 n4 out fun Ec' iM Po=>?_
 refine(sound bM k).1 g [.sl xs] [] _ _ hk Ec' w vs iM ?_
 match vs,Po with
 |[],ha=>simp[an]at ha
 |_::_::_,ha=>simp[an]at ha
 |[v],ha=>
  simp only[an]at ha ⊢
  exact⟨aj.iY ha.1,trivial⟩
theorem I8[ae]{C0:Ctx}(bM:C0.Ok){g:FuncId}{r:bN}
  (h1:∀ ls:List (List AV),ls.length≤2^44→(∀ l∈ls,l.all (aJ r.isAgg r.size)=true)→ls.flatten.length*r.bytes≤2^44→ls.flatten.length≤2^44 →
    ∃ res iG,k6 C0 g [.sl (ls.map .sl)] []=some (.val res,iG)∧(a9 1000 res).run iG=some (.sl ls.flatten))
  {as:List AV} {a:AV} (h:nk r as=some a) (Ec:Env) (w:World) (vs:List Value) (hI:Inv Ec [] w) (ha:an Ec false as vs):Calls C0.P g vs.toArray w (bW Ec w [] (.val a)):=by
 unfold nk at h
 split at h
 ·rename_i es
  split at h
  case h_2=>simp at h
  rename_i ls hls
  split at h
  case isFalse=>simp at h
  rename_i hc
  simp only[Option.some.injEq]at h
  subst h
  have he:=ED hls
  refine EE bM (xs:=ls.map .sl) (h1 ls hc.1 (fun l hl=>?_) hc.2.2.1 hc.2.2.2) Ec w vs hI ?_
  ·have:=hc.2.1
   rw[List.all_eq_true]at this ⊢
   exact fun x hx=>this x (List.mem_flatten.2 ⟨l,hl,hx⟩)
  ·rw[←he]
   match vs,ha with
   |[],ha=>simp[an]at ha
   |_::_::_,ha=>simp[an]at ha
   |[v],ha=>
    simp only[an]at ha ⊢
    exact⟨Jg ha.1,trivial⟩
 ·simp only[Option.some.injEq]at h
  subst h
  refine EE bM (xs:=[]) (h1 [] (by simp) (by simp) (by simp) (by simp)) Ec w vs hI ?_
  match vs,ha with
  |[],ha=>simp[an]at ha
  |_::_::_,ha=>simp[an]at ha
  |[v],ha=>
   simp only[an]at ha ⊢
   exact⟨Bf ha.1,trivial⟩
 ·simp at h
end Go.PI
end
section
/- PS, part V: copies of lists and lists laid together, as models. -/
namespace Go.PI
def Lb(b n:Nat):Bool:=decide (n*b≤2^44)&&decide (n≤2^44)
def ui{α:Type}(b:Nat)(x:List (List α)):Option (List α):=bif decide (x.length≤2^44)&&Lb b x.flatten.length then some x.flatten else none
def Yz{α:Type}(rpe:α→AV→Prop)(x:List α)(a:AV):Prop:=(∃ l,a=.sl l∧ay rpe x l)∨(x=[]∧a=.lit cX)
theorem zq[ae]{α:Type}{rpe:α→AV→Prop}:∀ {x:List (List α)} {es:List AV},ay (Yz rpe) x es→∃ ls,w9 (es.map w8)=some ls∧ay (ay rpe) x ls
 |[],es,h=>by
  have:=h.DM
  subst this
  exact⟨[],rfl,trivial⟩
 |x::xs,[],h=>by simp[ay]at h
 |x::xs,e::es,h=>by
  simp only[ay]at h
  obtain⟨h1,h2⟩:=h
  obtain⟨ls,h3,h4⟩:=zq h2
  rcases h1 with ⟨l,rfl,h⟩|⟨rfl,rfl⟩
  ·refine⟨l::ls,?_,h,h4⟩
   simp only[List.map_cons,w8,w9,h3,Option.map_some]
  ·refine⟨[]::ls,?_,trivial,h4⟩
   simp only[List.map_cons,w8,w9,h3,Option.map_some]
theorem uN[ae]{α:Type}{rpe:α→AV→Prop}:∀ {x:List (List α)} {ls:List (List AV)},ay (ay rpe) x ls→ay rpe x.flatten ls.flatten
 |[],ls,h=>by
  have:=h.DM
  subst this
  exact trivial
 |x::xs,[],h=>by simp[ay]at h
 |x::xs,e::es,h=>by
  simp only[ay]at h
  simp only[List.flatten_cons]
  exact h.1.append (uN h.2)
theorem Gl[ae]{α:Type}{rpe:α→AV→Prop}{r:bN}(bM:∀ x a,rpe x a→aJ r.isAgg r.size a=true){x:List (List α)}{y:List α}{a:AV}(ha:Yz (Yz rpe) x a)(hy:ui r.bytes x=some y):
  ∃ l,nk r [a]=some (.sl l)∧ay rpe y l:=by
 unfold ui Lb at hy
 cases hq:decide (x.length≤2^44)&&(decide (x.flatten.length*r.bytes≤2^44)&&decide (x.flatten.length≤2^44))
 ·rw[hq]at hy; simp at hy
 rw[hq]at hy
 simp only[cond_true,Option.some.injEq]at hy
 subst hy
 simp only[Bool.and_eq_true,decide_eq_true_eq]at hq
 rcases ha with ⟨es,rfl,h⟩|⟨rfl,rfl⟩
 ·obtain⟨ls,h1,h2⟩:=zq h
  have h3:=uN h2
  rw[h3.length,h2.length]at hq
  refine⟨ls.flatten,?_,h3⟩
  unfold nk
  simp only
  rw[h1]
  simp only
  have aX:ls.flatten.all (aJ r.isAgg r.size)=true:=by
   refine List.all_eq_true.2 fun z hz=>?_
   obtain⟨i,hi⟩:=List.getElem?_of_mem hz
   obtain⟨u,_,hu⟩:=h3.get' hi
   exact bM _ _ hu
  rw[if_pos ⟨hq.1,aX,hq.2.1,hq.2.2⟩]
 ·exact⟨[],rfl,trivial⟩
theorem Gk[ae]{C:Ctx}{T:dP}{g:FuncId}{t u:Nat}{I:List AV→Option AV}{F:T.den t→Option (T.den u)}(hk:C.kind g=.pure)(hi:C.kY g=some I)
  (h:∀ x a y,T.rp t x a→F x=some y→∃ l,I [a]=some (.sl l)∧T.rp u y (.sl l)):qF C T g ⟨[t],[u],F⟩ where
 kind:=hk
 SE:=by
  intro x as y hx hy
  match as,hx with
  |[],hx=>exact False.elim hx
  |_::_::_,hx=>exact False.elim hx.2
  |[a],hx=>
   obtain⟨l,h1,h2⟩:=h x a y hx.1 hy
   refine⟨.sl l,[],[.sl l],?_,rfl,rfl,?_⟩
   ·simp only[L2,hi,h1]; rfl
   ·exact⟨h2,trivial⟩
end Go.PI
end
section
/- PS, part W: a copy of a slice is the caller's own. -/
namespace Go.PI
end Go.PI
end
section
/- Plain laws: loops of models. -/
namespace Go.Pl
open Go.PI
theorem next[ae]{τ ω:Type}{f:τ→Option (τ ⊕ ω)}{x y:τ}(h:f x=some (.inl y)):aM f x=aM f y:=by
 rw[Dr,h]; rfl
theorem out[ae]{τ ω:Type}{f:τ→Option (τ ⊕ ω)}{x:τ}{w:ω}(h:f x=some (.inr w)):aM f x=some w:=by
 rw[Dr,h]; rfl
theorem yx(p:Nat→Bool)(n i:Nat)(hi:i<n):(List.range' i (n-i)).all p=(p i&&(List.range' (i+1) (n-(i+1))).all p):=by
 grind
theorem qj[ae]{τ ω:Type}{f:τ→Option (τ ⊕ ω)}(st:Nat→τ)(p:Nat→Bool)(bad:Nat→ω)(n:Nat)(e:ω)
  (h:∀ i,i<n→f (st i)=some (bif p i then .inl (st (i+1)) else .inr (bad i))) (he:f (st n)=some (.inr e)) :
  (List.range n).all p=true∧aM f (st 0)=some e∨(List.range n).all p=false∧∃ i,i<n∧p i=false∧aM f (st 0)=some (bad i):=by
 have key:∀ m i,m=n-i→i≤n→(List.range' i (n-i)).all p=true∧aM f (st i)=some e∨(List.range' i (n-i)).all p=false∧∃ j,j<n∧p j=false∧aM f (st i)=some (bad j):=by
  intro m
  induction m with
  |zero=>
   intro i hm hi
   have:i=n:=by omega
   subst this
   left
   rw[Nat.sub_self]
   exact⟨rfl,out he⟩
  |succ m ih=>
   intro i hm hi
   have bE:i<n:=by omega
   have hs:=h i bE
   rw[yx p n i bE]
   cases hp:p i with
   |false=>
    rw[hp]at hs
    right
    exact⟨by simp,i,bE,hp,out hs⟩
   |true=>
    rw[hp]at hs
    rw[next hs]
    simpa using ih (i+1) (by omega) (by omega)
 have:=key n 0 rfl (Nat.zero_le _)
 rwa [Nat.sub_zero,←List.range_eq_range']at this
theorem AJ{α:Type}{l:List α}{q:α→Bool}{p:Nat→Bool}(h:∀ i (hi:i<l.length),p i=q l[i]):(List.range l.length).all p=l.all q:=by
 rw[Bool.eq_iff_iff,List.all_eq_true,List.all_eq_true]
 constructor
 ·intro hp x hx
  obtain⟨i,hi,rfl⟩:=List.getElem_of_mem hx
  rw[←h i hi]; exact hp i (List.mem_range.2 hi)
 ·simp_all
theorem vz[ae]{α τ ω:Type}{f:τ→Option (τ ⊕ ω)}(l:List α)(st:Nat→τ)(q:α→Bool)(bad e:ω){x0:τ}
  (h:∀ i (hi:i<l.length),f (st i)=some (bif q l[i] then .inl (st (i+1)) else .inr bad)) (he:f (st l.length)=some (.inr e)) (hx:x0=st 0) :
  aM f x0=some (bif l.all q then e else bad):=by
 subst hx
 have hp:∀ i (hi:i<l.length),(fun i=>(l[i]?.map q).getD false) i=q l[i]:=by
  simp_all
 rcases qj st (fun i=>(l[i]?.map q).getD false) (fun _=>bad) l.length e (fun i hi=>by have:=hp i hi; simp only at this; rw[this]; exact h i hi) he with ⟨h1,h2⟩|⟨h1,i,_,_,h2⟩
 ·rw[AJ hp]at h1; rw[h2,h1]; rfl
 ·rw[AJ hp]at h1; rw[h2,h1]; rfl
end Go.Pl
end
section
/- The types of this seat, as Lean's (printed by gen_tys.py out of the dump). -/
namespace Go.Proofs.Ytedjbjphpnkpoaa
open Go.PI
instance:ae:=⟨fun _=>none,fun _=>false⟩
structure eu where
 A:Bool
 N:Int
structure bt where
 aA:List Int
 ab:List (List Int)
 aF:List Int
structure ah where
 cF:Int
 Den:Int
structure cr where
 Net:bt
 Dz:List Bool
 DA:List ah
def den:Nat→Type
 |2=>Int
 |3=>Int
 |4=>Bool
 |5=>Int
 |9=>ByteArray
 |22=>List Int
 |23=>List (List Int)
 |24=>bt
 |25=>bt
 |26=>List ah
 |29=>Int
 |34=>ah
 |35=>ah
 |36=>List Int
 |53=>List Bool
 |54=>cr
 |55=>cr
 |56=>List eu
 |57=>Int
 |58=>Int
 |73=>Int
 |78=>Int
 |81=>eu
 |82=>eu
 |86=>ah
 |87=>ah
 |96=>Int
 |104=>Int
 |106=>Int
 |115=>Int
 |52=>cr
 |_=>Unit
abbrev V:=SV den
def up2(x:Int):V:=.lit (.int .i64 x)
def dn2(v:V):Option Int:=dI .i64 v
def rp2(x:Int)(a:AV):Prop:=a=.lit (.int .i64 x)
def Us(x:Int):V:=.lit (.int .i64 x)
def Nn(v:V):Option Int:=dI .i64 v
def Jy(x:Int)(a:AV):Prop:=a=.lit (.int .i64 x)
def up4(x:Bool):V:=.lit (.bool x)
def ZJ(v:V):Option Bool:=dB v
def ZK(x:Bool)(a:AV):Prop:=a=.lit (.bool x)
def up5(x:Int):V:=.lit (.int .u8 x)
def dn5(v:V):Option Int:=dI .u8 v
def rp5(x:Int)(a:AV):Prop:=a=.lit (.int .u8 x)
def up9(x:ByteArray):V:=.lit (.string x)
def dn9(v:V):Option ByteArray:=dS v
def rp9(x:ByteArray)(a:AV):Prop:=a=.lit (.string x)
def XV(x:List Int):V:=.jT 3 x
def Jd(v:V):Option (List Int):=PU (den:=den) 3 Nn v
def EA(x:List Int)(a:AV):Prop:=OJ Jy x a
def XW(x:List (List Int)):V:=.jT 22 x
def R3(v:V):Option (List (List Int)):=PU (den:=den) 22 Jd v
def O6(x:List (List Int))(a:AV):Prop:=OJ EA x a
def O7(x:bt):V:=.agg [.jT 3 x.aA,.jT 22 x.ab,.jT 3 x.aF]
def O8:V→Option bt
 |.agg [a0,a1,a2]=>(Jd a0).bind fun b0=>(R3 a1).bind fun b1=>(Jd a2).bind fun b2=>some ⟨b0,b1,b2⟩
 |_=>none
def Je(x:bt)(a:AV):Prop:=∃ a0 a1 a2,EA x.aA a0∧O6 x.ab a1∧EA x.aF a2∧a=.agg [a0,a1,a2]
def O9(x:ah):V:=.agg [.lit (.int .i64 x.cF),.lit (.int .i64 x.Den)]
def Mu:V→Option ah
 |.agg [a0,a1]=>(Nn a0).bind fun b0=>(Nn a1).bind fun b1=>some ⟨b0,b1⟩
 |_=>none
def z5(x:ah)(a:AV):Prop:=a=.agg [.lit (.int .i64 x.cF),.lit (.int .i64 x.Den)]
def XX(x:List ah):V:=.jT 35 x
def Ut(v:V):Option (List ah):=PU (den:=den) 35 Mu v
def R4(x:List ah)(a:AV):Prop:=OJ z5 x a
def XY(x:Int):V:=.lit (.int .u16 x)
def Uu(v:V):Option Int:=dI .u16 v
def Uv(x:Int)(a:AV):Prop:=a=.lit (.int .u16 x)
def XZ(x:List Int):V:=.jT 73 x
def X0(v:V):Option (List Int):=PU (den:=den) 73 Uu v
def X1(x:List Int)(a:AV):Prop:=OJ Uv x a
def X2(x:List Bool):V:=.jT 4 x
def Uw(v:V):Option (List Bool):=PU (den:=den) 4 ZJ v
def Ux(x:List Bool)(a:AV):Prop:=OJ ZK x a
def Mv(x:cr):V:=.agg [.jT 3 x.Net.aA,.jT 22 x.Net.ab,.jT 3 x.Net.aF,.jT 4 x.Dz,.jT 35 x.DA]
def Mw:V→Option cr
 |.agg [a0,a1,a2,a3,a4]=>(Jd a0).bind fun b0=>(R3 a1).bind fun b1=>(Jd a2).bind fun b2=>(Uw a3).bind fun b3=>(Ut a4).bind fun b4=>some ⟨⟨b0,b1,b2⟩,b3,b4⟩
 |_=>none
def Jf(x:cr)(a:AV):Prop:=∃ a0 a1 a2 a3 a4,EA x.Net.aA a0∧O6 x.Net.ab a1∧EA x.Net.aF a2∧Ux x.Dz a3∧R4 x.DA a4∧a=.agg [a0,a1,a2,a3,a4]
def Pa(x:eu):V:=bif x.A then .gH 57 (.lit (.int .i64 x.N)) else .gH 58 (.lit (.int .i64 x.N))
def Mx(v:V):Option eu:=match v with
 |.gH t w=>(dI .i64 w).bind fun n=>bif Nat.beq t 57 then some ⟨true,n⟩ else bif Nat.beq t 58 then some ⟨false,n⟩ else none
 |_=>none
def EB(x:eu)(a:AV):Prop:=a=.gH (bif x.A then 57 else 58) (.lit (.int .i64 x.N))
def X3(x:List eu):V:=.jT 82 x
def X4(v:V):Option (List eu):=PU (den:=den) 82 Mx v
def X5(x:List eu)(a:AV):Prop:=OJ EB x a
def X6(x:Int):V:=.lit (.int .u64 x)
def X7(v:V):Option Int:=dI .u64 v
def X8(x:Int)(a:AV):Prop:=a=.lit (.int .u64 x)
def Pb(x:ah):V:=.agg [.lit (.int .i64 x.cF),.lit (.int .i64 x.Den)]
def Pc:V→Option ah
 |.agg [a0,a1]=>(Nn a0).bind fun b0=>(Nn a1).bind fun b1=>some ⟨b0,b1⟩
 |_=>none
def Gq(x:ah)(a:AV):Prop:=a=.agg [.lit (.int .i64 x.cF),.lit (.int .i64 x.Den)]
def Uy(x:Int):V:=.lit (.int .u32 x)
def Uz(v:V):Option Int:=dI .u32 v
def UA(x:Int)(a:AV):Prop:=a=.lit (.int .u32 x)
def Qb(x:Int):V:=.lit (.int .u64 x)
def Qc(v:V):Option Int:=dI .u64 v
def Qd(x:Int)(a:AV):Prop:=a=.lit (.int .u64 x)
def X9(x:cr):V:=.bk (Mv x) 0
def Ya(v:V):Option cr:=WW Mw v
def Yb(x:cr)(a:AV):Prop:=Vt Jf x a
def up:(t:Nat)→den t→V
 |2,x=>up2 x
 |3,x=>Us x
 |4,x=>up4 x
 |5,x=>up5 x
 |9,x=>up9 x
 |22,x=>XV x
 |23,x=>XW x
 |24,x=>O7 x
 |25,x=>O7 x
 |26,x=>XX x
 |29,x=>Us x
 |34,x=>O9 x
 |35,x=>O9 x
 |36,x=>XZ x
 |53,x=>X2 x
 |54,x=>Mv x
 |55,x=>Mv x
 |56,x=>X3 x
 |57,x=>Us x
 |58,x=>Us x
 |73,x=>XY x
 |78,x=>X6 x
 |81,x=>Pa x
 |82,x=>Pa x
 |86,x=>Pb x
 |87,x=>Pb x
 |96,x=>Us x
 |104,x=>Uy x
 |106,x=>Qb x
 |115,x=>Qb x
 |52,x=>X9 x
 |_,_=>.dead
def dn:(t:Nat)→V→Option (den t)
 |2,v=>dn2 v
 |3,v=>Nn v
 |4,v=>ZJ v
 |5,v=>dn5 v
 |9,v=>dn9 v
 |22,v=>Jd v
 |23,v=>R3 v
 |24,v=>O8 v
 |25,v=>O8 v
 |26,v=>Ut v
 |29,v=>Nn v
 |34,v=>Mu v
 |35,v=>Mu v
 |36,v=>X0 v
 |53,v=>Uw v
 |54,v=>Mw v
 |55,v=>Mw v
 |56,v=>X4 v
 |57,v=>Nn v
 |58,v=>Nn v
 |73,v=>Uu v
 |78,v=>X7 v
 |81,v=>Mx v
 |82,v=>Mx v
 |86,v=>Pc v
 |87,v=>Pc v
 |96,v=>Nn v
 |104,v=>Uz v
 |106,v=>Qc v
 |115,v=>Qc v
 |52,v=>Ya v
 |_,_=>none
def rp:(t:Nat)→den t→AV→Prop
 |2,x,a=>rp2 x a
 |3,x,a=>Jy x a
 |4,x,a=>ZK x a
 |5,x,a=>rp5 x a
 |9,x,a=>rp9 x a
 |22,x,a=>EA x a
 |23,x,a=>O6 x a
 |24,x,a=>Je x a
 |25,x,a=>Je x a
 |26,x,a=>R4 x a
 |29,x,a=>Jy x a
 |34,x,a=>z5 x a
 |35,x,a=>z5 x a
 |36,x,a=>X1 x a
 |53,x,a=>Ux x a
 |54,x,a=>Jf x a
 |55,x,a=>Jf x a
 |56,x,a=>X5 x a
 |57,x,a=>Jy x a
 |58,x,a=>Jy x a
 |73,x,a=>Uv x a
 |78,x,a=>X8 x a
 |81,x,a=>EB x a
 |82,x,a=>EB x a
 |86,x,a=>Gq x a
 |87,x,a=>Gq x a
 |96,x,a=>Jy x a
 |104,x,a=>UA x a
 |106,x,a=>Qd x a
 |115,x,a=>Qd x a
 |52,x,a=>Yb x a
 |_,_,_=>False
def UB:Nat→Bool
 |24=>true
 |25=>true
 |34=>true
 |35=>true
 |54=>true
 |55=>true
 |86=>true
 |87=>true
 |_=>false
def Qe:Nat→Nat
 |24=>3
 |25=>3
 |34=>2
 |35=>2
 |54=>5
 |55=>5
 |86=>2
 |87=>2
 |_=>1
def Qg:(t:Nat)→Option (den t)
 |2=>some (0:Int)
 |3=>some (0:Int)
 |4=>some (false:Bool)
 |5=>some (0:Int)
 |9=>some (ByteArray.empty:ByteArray)
 |22=>some ([]:List Int)
 |23=>some ([]:List (List Int))
 |24=>some (⟨[],[],[]⟩:bt)
 |25=>some (⟨[],[],[]⟩:bt)
 |26=>some ([]:List ah)
 |29=>some (0:Int)
 |34=>some (⟨0,0⟩:ah)
 |35=>some (⟨0,0⟩:ah)
 |36=>some ([]:List Int)
 |53=>some ([]:List Bool)
 |54=>some (⟨⟨[],[],[]⟩,[],[]⟩:cr)
 |55=>some (⟨⟨[],[],[]⟩,[],[]⟩:cr)
 |56=>some ([]:List eu)
 |57=>some (0:Int)
 |58=>some (0:Int)
 |73=>some (0:Int)
 |78=>some (0:Int)
 |86=>some (⟨0,0⟩:ah)
 |87=>some (⟨0,0⟩:ah)
 |96=>some (0:Int)
 |104=>some (0:Int)
 |106=>some (0:Int)
 |115=>some (0:Int)
 |_=>none
def m5:kD:=⟨false,1,1,some (.lit (.int .u8 0)),.other,none,none⟩
def m7:kD:=⟨true,4,24,some (.agg [zI,zI,zB,.lit (.int .u8 0)]),.struct [(0,2),(1,3),(2,4),(3,6)],none,none⟩
def VJ:kD:=⟨false,1,8,some (.lit (.int .u64 0)),.other,none,none⟩
def ZL:kD:=⟨true,2,24,some (.agg [zS,.lit (.int .u64 0)]),.struct [(0,9),(1,12)],none,none⟩
def ZM:kD:=⟨true,1,8,some (.agg [.lit (.pointer none)]),.struct [(0,17)],none,none⟩
def Yc:kD:=⟨false,1,16,some (.lit .nilIface),.iface,none,none⟩
def Yd:kD:=⟨false,1,4,some (.lit (.int .i32 0)),.other,none,none⟩
def ZN:kD:=⟨true,3,72,some (.agg [zL,zL,zL]),.struct [(0,22),(1,23),(2,22)],none,none⟩
def ZO:kD:=⟨true,2,16,some (.agg [zI,zI]),.struct [(0,3),(1,3)],some [kI,kI],none⟩
def ZQ:kD:=⟨true,5,120,some (.agg [zL,zL,zL,zL,zL]),.struct [(0,25),(3,53),(4,26)],none,none⟩
def ZR:kD:=⟨true,2,16,some (.agg [zI,zI]),.struct [(0,35)],some [kI,kI],none⟩
def UC:kD:=⟨true,4,40,some (.agg [.lit (.pointer none),.lit (.pointer none),.lit (.pointer none),zS]),.struct [(0,17),(1,17),(2,17),(3,9)],none,none⟩
def UD:kD:=⟨true,11,48,some (.agg [.lit (.int .u64 0),.lit (.int .u64 0),.lit (.int .u32 0),.lit (.int .u8 0),.lit (.int .u8 0),.lit (.int .u8 0),.lit (.int .u8 0),zF,.lit (.pointer none),.lit (.int .i32 0),.lit (.int .i32 0)]),.struct [(0,12),(1,12),(2,104),(3,135),(4,5),(5,5),(6,136),(7,137),(8,138),(9,139),(10,140)],none,none⟩
def B6:List (Nat×kD):=[
 (1,mF),
 (2,mI),
 (3,mI),
 (4,⟨false,1,1,some zB,.other,none,none⟩),
 (5,m5),
 (6,m5),
 (7,m7),
 (8,m7),
 (9,mS),
 (10,mS),
 (11,mS),
 (12,VJ),
 (13,ZL),
 (14,ZL),
 (15,mP),
 (16,mP),
 (17,mP),
 (18,ZM),
 (19,ZM),
 (20,Yc),
 (21,Yd),
 (22,mL 3),
 (23,mL 22),
 (24,ZN),
 (25,ZN),
 (26,mL 35),
 (27,mF),
 (28,mF),
 (29,mI),
 (31,mF),
 (32,mF),
 (33,mF),
 (34,ZO),
 (35,ZO),
 (36,mL 73),
 (37,mF),
 (38,mF),
 (40,mF),
 (41,mF),
 (42,mF),
 (44,mF),
 (45,mF),
 (46,mF),
 (47,mF),
 (48,mF),
 (49,mF),
 (50,mF),
 (51,mF),
 (52,mP),
 (53,mL 4),
 (54,ZQ),
 (55,ZQ),
 (56,mL 82),
 (57,mI),
 (58,mI),
 (59,mF),
 (60,mF),
 (62,mF),
 (63,mF),
 (64,mF),
 (65,mF),
 (66,mF),
 (67,mF),
 (68,mF),
 (69,mF),
 (70,mF),
 (71,mF),
 (72,mF),
 (73,⟨false,1,2,some (.lit (.int .u16 0)),.other,none,none⟩),
 (75,mF),
 (76,mF),
 (77,mF),
 (78,VJ),
 (79,mF),
 (80,mF),
 (81,Yc),
 (82,Yc),
 (83,mF),
 (84,mF),
 (85,mF),
 (86,ZR),
 (87,ZR),
 (88,mF),
 (89,mF),
 (90,mF),
 (91,mF),
 (92,mF),
 (93,mF),
 (94,mF),
 (95,mF),
 (96,mI),
 (98,mF),
 (99,mF),
 (100,mF),
 (102,mF),
 (103,mF),
 (104,⟨false,1,4,some (.lit (.int .u32 0)),.other,none,none⟩),
 (105,mF),
 (106,VJ),
 (107,mF),
 (108,mF),
 (109,mF),
 (110,mF),
 (111,mF),
 (112,mF),
 (113,mF),
 (114,mF),
 (115,VJ),
 (116,mF),
 (117,mF),
 (118,mF),
 (119,mP),
 (120,mF),
 (121,mF),
 (122,mF),
 (124,mF),
 (125,mP),
 (126,mF),
 (127,mF),
 (128,mF),
 (129,UC),
 (130,UC),
 (134,mF),
 (135,m5),
 (136,m5),
 (137,mF),
 (138,mP),
 (139,Yd),
 (140,Yd),
 (141,UD),
 (142,UD)]
def R5:(t:Nat)→Option ((den t→Bool)×(den t→V)×(den t→V))
 |81=>some (fun (x:eu)=>x.A,fun (x:eu)=>.gH 57 (.lit (.int .i64 x.N)),fun (x:eu)=>.gH 58 (.lit (.int .i64 x.N)))
 |82=>some (fun (x:eu)=>x.A,fun (x:eu)=>.gH 57 (.lit (.int .i64 x.N)),fun (x:eu)=>.gH 58 (.lit (.int .i64 x.N)))
 |_=>none
abbrev T:dP:=⟨den,up,dn,rp,UB,Qe,Qg,R5⟩
end Go.Proofs.Ytedjbjphpnkpoaa
end
