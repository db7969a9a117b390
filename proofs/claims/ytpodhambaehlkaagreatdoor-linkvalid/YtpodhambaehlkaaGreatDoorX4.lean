/- Part 4 of the proof: texts of this session laid one behind the other. -/
import Derived.KernelRfl
import Derived.IntWalk
import Derived.Test.YtpodhambaehlkaaGreatDoorX3
set_option linter.unusedVariables false
set_option linter.unusedSimpArgs false
section
/- PS, part O: a state goes over into one with variables. -/
namespace Go.PI
variable {T:ej}{ρ:Type}
section
variable {H0 Hs Hf:aq T.den}
mutual
theorem R.fi(ht:∀ n c v0 ax,gL H0 n c v0→gL Hs n c ax→gL Hf n c ax)(hx:∀ (n:Nat) (o:aK T.den),H0[n]?=some (some o)→∃ o,Hf[n]?=some (some o)):∀ {v:SV T.den} {a0 a:AV},R T H0 v a0→R T Hs v a→R T Hf v a
 |.dead,_,_,h,_=>by simp[R]at h
 |.hole,a0,a,_,h=>by simpa[R] using h
 |.lit v,a0,a,_,h=>by simpa[R] using h
 |.agg l,a0,a,h0,h=>by
  simp only[R]at h0 h ⊢
  obtain⟨l0,_,h2⟩:=h0
  obtain⟨l',h1,h3⟩:=h
  exact⟨l',h1,RL.fi ht hx h2 h3⟩
 |.kJ l,a0,a,h0,h=>by
  simp only[R]at h0 h ⊢
  obtain⟨l0,_,h2⟩:=h0
  obtain⟨l',h1,h3⟩:=h
  exact⟨l',h1,RL.fi ht hx h2 h3⟩
 |.sl l,a0,a,h0,h=>by
  simp only[R]at h0 h ⊢
  obtain⟨l0,_,h2,_⟩:=h0
  obtain⟨l',h1,h3,h4⟩:=h
  exact⟨l',h1,RL.fi ht hx h2 h3,h4⟩
 |.jR t l,a0,a,_,h=>by simpa[R] using h
 |.zD t l c b,a0,a,_,h=>by simp only[R]at h ⊢; exact h
 |.nz,a0,a,_,h=>by simp only[R]at h ⊢; exact h
 |.bq e j,a0,a,h0,h=>by
  simp only[R]at h0 h ⊢
  obtain⟨l0,_,h2,_⟩:=h0
  obtain⟨l',h1,h3,h4⟩:=h
  exact⟨l',h1,R.fi ht hx h2 h3,h4⟩
 |.ref m c i j,a0,a,h0,h=>by
  grind[R]
 |.jC m c i j ln cp,a0,a,h0,h=>by
  grind[R]
 |.bw esz m c rg cap,a0,a,h0,h=>by
  grind[R]
 |.jT fn f c,a0,a,h0,h=>by
  simp only[R]at h0 h ⊢
  obtain⟨_,_,_,g1,g2⟩:=h0
  obtain⟨f',c',h1,h2,h3⟩:=h
  exact⟨f',c',h1,RL.fi ht hx g1 h2,RL.fi ht hx g2 h3⟩
 |.jU t v,a0,a,h0,h=>by
  simp only[R]at h0 h ⊢
  obtain⟨l0,_,h2⟩:=h0
  obtain⟨l',h1,h3⟩:=h
  exact⟨l',h1,R.fi ht hx h2 h3⟩
 |.mp y n,a0,a,h0,h=>by
  grind[R]
 |.vg v s l i,a0,a,h0,h=>by
  simp only[R]at h0 h ⊢
  obtain⟨b0,h2,_⟩:=h0
  obtain⟨b,h3,h4⟩:=h
  exact⟨b,R.fi ht hx h2 h3,h4⟩
theorem RL.fi(ht:∀ n c v0 ax,gL H0 n c v0→gL Hs n c ax→gL Hf n c ax)(hx:∀ (n:Nat) (o:aK T.den),H0[n]?=some (some o)→∃ o,Hf[n]?=some (some o)):∀ {l:List (SV T.den)} {m0 m:List AV},RL T H0 l m0→RL T Hs l m→RL T Hf l m
 |[],[],[],_,_=>by simp[RL]
 |x::xs,y0::ys0,y::ys,h0,h=>by
  simp only[RL]at h0 h ⊢
  exact⟨R.fi ht hx h0.1 h.1,RL.fi ht hx h0.2 h.2⟩
 |[],_::_,_,h,_=>by simp[RL]at h
 |[],[],_::_,_,h=>by simp[RL]at h
 |_::_,[],_,h,_=>by simp[RL]at h
 |_::_,_::_,[],_,h=>by simp[RL]at h
end
end
theorem mg{Hs:aq T.den}:∀ {objs:List (Nat×dv)} {l:List (TV T.den)},lN Hs objs=some l→∀ q,q∈objs→∃ o ln,Hs[q.1]?=some (some o)∧fp Hs o q.2=some ln
 |[],_,_,q,hq=>by simp at hq
 |(n,p)::r,l,h,q,hq=>by
  simp only[lN]at h
  split at h
  case h_2=>simp at h
  rename_i o ho
  rw[Option.bind_eq_some_iff]at h
  obtain⟨ln,h1,h⟩:=h
  rw[Option.map_eq_some_iff]at h
  obtain⟨l2,h2,rfl⟩:=h
  rcases List.mem_cons.1 hq with rfl|hq
  ·exact⟨o,ln,ho,h1⟩
  ·exact mg h2 q hq
def EM(p:dv)(c:Nat):Nat:=
 match p with
 |.list _=>c+1
 |_=>c
theorem Kq(p:dv)(c:Nat):c≤EM p c:=by cases p<;>simp[EM]
theorem RX{p:dv}(h:∀ t,p≠.list t)(c:Nat):EM p c=c:=by
 cases p with
 |list t=>exact absurd rfl (h t)
 |_=>rfl
def Start(H:aq T.den)(o:aK T.den)(p:dv):Prop:=(∃ ln,fp H o p=some ln)∨(((∃ q,p=.one q)∨∃ ps,p=.agg ps)∧∃ g cl f c e,o=.arr g cl f c [e])
theorem GZ{Hs:aq T.den}{o:aK T.den}{p:dv}{ln:List (TV T.den)}(h:fp Hs o p=some ln):Compat (oN o p) p∧(oN o p).flags.1=o.flags.1∧(oN o p).flags.2.1=o.flags.2.1∧(oN o p).flags.2.2=o.flags.2.2 ∧
  (oN o p).cur=EM p o.cur:=by
 cases p with
 |list t=>
  cases o with
  |arr g cl f c es=>
   cases cl with
   |true=>exact⟨⟨g,f,c+1,[],rfl⟩,rfl,rfl,rfl,rfl⟩
   |false=>cases h
  |cE g f c t' l=>exact⟨⟨g,f,c+1,[],rfl⟩,rfl,rfl,rfl,rfl⟩
  |_=>cases h
 |fix t=>
  cases o with
  |arr g cl f c es=>
   cases cl with
   |true=>exact⟨⟨g,f,c,[],rfl⟩,rfl,rfl,rfl,rfl⟩
   |false=>cases h
  |cE g f c t' l=>exact⟨⟨g,f,c,[],rfl⟩,rfl,rfl,rfl,rfl⟩
  |_=>cases h
 |one q=>
  cases o with
  |arr g cl f c es=>exact⟨⟨g,cl,f,c,es,rfl⟩,rfl,rfl,rfl,rfl⟩
  |_=>cases h
 |agg ps=>
  cases o with
  |arr g cl f c es=>exact⟨⟨g,cl,f,c,es,rfl⟩,rfl,rfl,rfl,rfl⟩
  |_=>cases h
 |map kk t=>
  obtain⟨m,rfl,rfl⟩:=wI h
  exact⟨⟨[],rfl⟩,rfl,rfl,rfl,rfl⟩
theorem BF{Hs:aq T.den}{o:aK T.den}{p:dv}(h:Start Hs o p):Compat (oN o p) p∧(oN o p).flags.1=o.flags.1∧(oN o p).flags.2.1=o.flags.2.1∧(oN o p).flags.2.2=o.flags.2.2 ∧
  (oN o p).cur=EM p o.cur:=by
 rcases h with ⟨ln,h⟩|⟨⟨q,rfl⟩|⟨ps,rfl⟩,g,cl,f,c,e,rfl⟩
 ·exact GZ h
 ·exact⟨⟨g,cl,f,c,[e],rfl⟩,rfl,rfl,rfl,rfl⟩
 ·exact⟨⟨g,cl,f,c,[e],rfl⟩,rfl,rfl,rfl,rfl⟩
theorem jQ:∀ {ext:List rk} {n:Nat} {q:Nat×dv},q∈br n ext→∃ i g f t,q=(n+i,.list t)∧ext[i]?=some (.list g f t)
 |[],_,q,h=>by simp[br]at h
 |.ji::r,n,q,h=>by
  simp only[br]at h
  obtain⟨i,g,f,t,rfl,h2⟩:=jQ h
  exact⟨i+1,g,f,t,by rw[show n+1+i=n+(i+1) by omega],by simpa using h2⟩
 |.list g f t::r,n,q,h=>by
  simp only[br]at h
  rcases List.mem_cons.1 h with rfl|h
  ·exact⟨0,g,f,t,rfl,rfl⟩
  ·obtain⟨i,g',f',t',rfl,h2⟩:=jQ h
   exact⟨i+1,g',f',t',by rw[show n+1+i=n+(i+1) by omega],by simpa using h2⟩
theorem pj[ah]:∀ {ext:List rk} {n:Nat},nodupB ((br n ext).map (·.1))=true
 |[],_=>rfl
 |.ji::r,n=>by simp only[br]; exact pj
 |.list g f t::r,n=>by
  simp only[br,List.map_cons,nodupB,Bool.and_eq_true,Bool.not_eq_true',List.contains_eq_mem,decide_eq_false_iff_not]
  refine⟨fun h=>?_,pj⟩
  obtain⟨q,hq,e⟩:=List.mem_map.1 h
  obtain⟨i,_,_,_,rfl,_⟩:=jQ hq
  simp only at e
  omega
theorem Dq[ah]:∀ {l m:List Nat},nodupB l=true→nodupB m=true→(∀ x,x∈l→x∉m)→nodupB (l++m)=true
 |[],m,_,h,_=>h
 |x::l,m,h,h',hd=>by
  obtain⟨h1,h2⟩:=nodup_cons h
  simp only[List.cons_append,nodupB,Bool.and_eq_true,Bool.not_eq_true',List.contains_eq_mem,decide_eq_false_iff_not,List.mem_append,not_or]
  exact⟨⟨h1,hd x (by simp)⟩,Dq h2 h' fun y hy=>hd y (List.mem_cons_of_mem _ hy)⟩
theorem wJ{H:aq T.den}:∀ {ext:List rk} {n i:Nat} {e:rk},F7 H n ext=true→ext[i]?=some e→∃ o,H[n+i]?=some (some o)∧(match e with|.ji=>o.flags.2.1=true|.list g f _=>o.flags=(g,true,f))
 |[],_,i,e,_,h=>by simp at h
 |x::r,n,i,e,hx,h=>by
  simp only[F7,Bool.and_eq_true]at hx
  cases i with
  |zero=>
   grind
  |succ i=>
   simp only[List.getElem?_cons_succ]at h
   obtain⟨o,h1,h2⟩:=wJ hx.2 h
   exact⟨o,by rw[show n+(i+1)=n+1+i by omega]; exact h1,h2⟩
theorem qN[ah]:∀ {ext:List rk} {n i:Nat},i<ext.length→(ext[i]?=some .ji∧n+i∉(br n ext).map (·.1))∨∃ g f t,ext[i]?=some (.list g f t)∧(n+i,dv.list t)∈br n ext
 |[],_,i,h=>by simp at h
 |.ji::r,n,i,h=>by
  cases i with
  |zero=>
   left
   refine⟨rfl,fun hc=>?_⟩
   obtain⟨q,hq,e⟩:=List.mem_map.1 hc
   simp only[br]at hq
   obtain⟨j,_,_,_,rfl,_⟩:=jQ hq
   simp only at e; omega
  |succ i=>
   rcases qN (n:=n+1) (i:=i) (by simpa using h) with ⟨h1,h2⟩|⟨g,f,t,h1,h2⟩
   ·grind[br]
   ·grind[br]
 |.list g f t::r,n,i,h=>by
  cases i with
  |zero=>grind[br]
  |succ i=>
   rcases qN (n:=n+1) (i:=i) (by simpa using h) with ⟨h1,h2⟩|⟨g',f',t',h1,h2⟩
   ·left
    refine⟨by simpa using h1,?_⟩
    simp only[br,List.map_cons,List.mem_cons,not_or]
    exact⟨by omega,by rw[show n+(i+1)=n+1+i by omega]; exact h2⟩
   ·grind[br]
theorem LA(hT:T.Ok){o:aK T.den}{H:aq T.den}{a:ba}(h:RO T H o a)(hc:o.flags.2.1=true):(∃ g f es,a=.arr g true f es)∨∃ k vs,a=.iI k vs∧∀ n,dt n vs=true:=by
 cases o with
 |arr g cl f c es=>
  obtain⟨es',rfl,_⟩:=h
  simp only[aK.flags]at hc
  subst hc
  exact .inl ⟨_,_,_,rfl⟩
 |cE g f c t l=>obtain⟨es',rfl,_⟩:=h; exact .inl ⟨_,_,_,rfl⟩
 |ji=>exact h
 |lZ kk t m=>obtain⟨vs,rfl,h⟩:=h; exact .inr ⟨_,_,rfl,fun n=>BC hT h⟩
 |rh fn ps as bd fr=>simp[aK.flags]at hc
structure LB(T:ej)(aH:List (Nat×rj))(dead:List Nat)(objs:List (Nat×dv))(ext:List rk)(s0 s:bQ T.den)(l:List (TV T.den)):Prop where
 WN:nodupB (aH.map (·.1))=true
 nd2:nodupB (objs.map (·.1))=true
 OJ:∀ d,d∈aH.map (·.1)++dead→d<s0.n
 n5:xF s0.hp.length aH (objs++br s0.hp.length ext)=true
 fn:s.fn=s0.fn
 n:s.n=s0.n
 fr:∀ t,t∉aH.map (·.1)++dead→dj s.fr t=dj s0.fr t
 hp:∀ n:Nat,n<s0.hp.length→n∉objs.map (·.1)→s.hp[n]?=s0.hp[n]?
 len:s.hp.length=s0.hp.length+ext.length
 flags:tm s0.hp s.hp objs=true
 cur:zH s0.hp s.hp objs=true
 Vf:F7 s.hp s0.hp.length ext=true
 Vg:∀ q,q∈objs→∃ o,s0.hp[q.1]?=some (some o)∧Start s0.hp o q.2
 abs:xE aH (objs++br s0.hp.length ext) s=some l
theorem EN{H H':aq T.den}{objs:List (Nat×dv)}(h:tm H H' objs=true){q:Nat×dv}(hq:q∈objs){o o':aK T.den}(h1:H[q.1]?=some (some o))(h2:H'[q.1]?=some (some o')):o.flags=o'.flags:=by
 have:=List.all_eq_true.1 h q hq
 simp only[h1,h2,decide_eq_true_eq]at this
 exact this
theorem I0{H H':aq T.den}{objs:List (Nat×dv)}(h:zH H H' objs=true){q:Nat×dv}(hq:q∈objs)(hl:∀ t,q.2≠.list t){o o':aK T.den}(h1:H[q.1]?=some (some o))(h2:H'[q.1]?=some (some o')):o.cur=o'.cur:=by
 have:=List.all_eq_true.1 h q hq
 split at this
 ·rename_i t e; exact absurd e (hl t)
 ·simp_all
theorem Kr[ah](hT:T.Ok){aH:List (Nat×rj)}{dead:List Nat}{objs:List (Nat×dv)}{ext:List rk}{s0 s:bQ T.den}{l:List (TV T.den)}(ho:LB T aH dead objs ext s0 s l){st0 st:St}(h0:RS T s0 st0)(h:RS T s st):
  RS T { dU aH dead objs ext s0 l with js:=s.js } st∧(dU aH dead objs ext s0 l).hp.length=s.hp.length ∧
  (∀ n:Nat,n<s0.hp.length→n∉objs.map (·.1)→(dU aH dead objs ext s0 l).hp[n]?=s0.hp[n]?) ∧
  (∀ t,t∉aH.map (·.1)++dead→dj (dU aH dead objs ext s0 l).fr t=dj s0.fr t) ∧
  (dU aH dead objs ext s0 l).fn=s0.fn∧(dU aH dead objs ext s0 l).n=s0.n ∧
  (∀ q,q∈objs→∃ o0 os of,s0.hp[q.1]?=some (some o0)∧s.hp[q.1]?=some (some os)∧(dU aH dead objs ext s0 l).hp[q.1]?=some (some of)∧of.len=os.len∧of.cur=EM q.2 o0.cur):=by
 have S6:=ho.Vg
 have cr:∀ n,n∈objs.map (·.1)→n<s0.hp.length:=by
  grind
 have QH:∀ n,n∈(br s0.hp.length ext).map (·.1)→s0.hp.length≤n:=by
  intro n hn
  obtain⟨q,hq,rfl⟩:=List.mem_map.1 hn
  obtain⟨i,_,_,_,rfl,_⟩:=jQ hq
  simp
 have CR:nodupB ((objs++br s0.hp.length ext).map (·.1))=true:=by
  rw[List.map_append]
  exact Dq ho.nd2 pj fun x hx hc=>by have:=cr x hx; have:=QH x hc; omega
 obtain⟨b1,b2,b3⟩:=uY (objs:=objs) (H:=s0.hp) ho.nd2
 generalize L5:tT s0.hp objs++ext.map Ln=H1
 have OK:H1.length=s.hp.length:=by rw[←L5,ho.len]; simp[b1]
 have BG:∀ n:Nat,n<s0.hp.length→H1[n]?=(tT s0.hp objs)[n]?:=fun n hn=>by
  grind
 have OL:∀ i:Nat,H1[s0.hp.length+i]?=(ext.map Ln)[i]?:=fun i=>by
  grind
 have rn:=ho.abs
 unfold xE at rn
 rw[Option.bind_eq_some_iff]at rn
 obtain⟨la,hla,rn⟩:=rn
 rw[Option.map_eq_some_iff]at rn
 obtain⟨lb,hlb,rfl⟩:=rn
 have ZQ:∀ q,q∈objs++br s0.hp.length ext→∃ o,H1[q.1]?=some (some o)∧Compat o q.2:=by
  intro q hq
  rcases List.mem_append.1 hq with hq|hq
  ·obtain⟨o,h1,h2⟩:=S6 q hq
   exact⟨oN o q.2,by rw[BG _ (cr _ (List.mem_map_of_mem hq))]; exact b3 q hq o h1,(BF h2).1⟩
  ·obtain⟨i,g,f,t,rfl,h2⟩:=jQ hq
   refine⟨.cE g f 0 t [],?_,⟨g,f,0,[],rfl⟩⟩
   simp only
   rw[OL,List.getElem?_map,h2]
   rfl
 obtain⟨c1,c2,c3,c4⟩:=tZ hT (Hs:=s.hp) (H:=H1) [] CR hlb ZQ
 simp only[List.append_nil]at c1 c2 c3 c4
 generalize hHf:ie H1 (objs++br s0.hp.length ext) lb=Hf at c1 c2 c3 c4
 have hlen:GW (fun n=>n<s0.hp.length∨n∈(objs++br s0.hp.length ext).map (·.1)) s.hp Hf:=by
  intro n o hn To
  by_cases hm:n∈(objs++br s0.hp.length ext).map (·.1)
  ·grind
  ·have hn:n<s0.hp.length:=hn.resolve_right hm
   have DM:n∉objs.map (·.1):=fun hc=>hm (by rw[List.map_append]; exact List.mem_append_left _ hc)
   refine⟨o,?_,rfl⟩
   rw[c2 n hm,BG n hn,b2 n DM,←ho.hp n hn DM]
   exact To
 have S7:=List.all_eq_true.1 ho.n5
 have acR:∀ q,q∈objs++br s0.hp.length ext→∀ n,n∈q.2.n5→(n<s0.hp.length∨n∈(objs++br s0.hp.length ext).map (·.1)):=by
  intro q hq n hn
  have:=S7 n (List.mem_append_right _ (List.mem_flatMap.2 ⟨q,hq,hn⟩))
  simp only[Bool.or_eq_true,List.contains_eq_mem,decide_eq_true_eq]at this
  refine this.imp (fun h=>?_) id
  have:=Nat.le_of_ble_eq_true h
  omega
 have acS:∀ q,q∈aH→∀ n,n∈q.2.n5→(n<s0.hp.length∨n∈(objs++br s0.hp.length ext).map (·.1)):=by
  intro q hq n hn
  have:=S7 n (List.mem_append_left _ (List.mem_flatMap.2 ⟨q,hq,hn⟩))
  simp only[Bool.or_eq_true,List.contains_eq_mem,decide_eq_true_eq]at this
  refine this.imp (fun h=>?_) id
  have:=Nat.le_of_ble_eq_true h
  omega
 have RY:∀ q,q∈objs→∃ o0 os of,s0.hp[q.1]?=some (some o0)∧s.hp[q.1]?=some (some os)∧Hf[q.1]?=some (some of)∧of.len=os.len∧of.cur=EM q.2 o0.cur ∧
   (∀ a,RO T s.hp os a→RO T Hf of a):=by
  intro q hq
  obtain⟨o0,h1,h2⟩:=S6 q hq
  obtain⟨o1,os,o',ln,Hc,GY,d1,d2,d3,d4,d5,d6,d7,d8⟩:=c4 q (List.mem_append_left _ hq)
  have hb:=b3 q hq o0 h1
  rw[BG _ (cr _ (List.mem_map_of_mem hq)),hb]at d1
  simp only[Option.some.injEq]at d1
  subst d1
  obtain⟨e1,e2,e3,e4,e5⟩:=BF h2
  have S4:=EN ho.flags hq h1 d2
  refine⟨o0,os,o',h1,d2,d6,d8,by rw[d7,e5],fun a ha=>?_⟩
  exact BE hT (fun n=>by rw[d4,c3]) hlen (acR q (List.mem_append_left _ hq)) e1 d3 d5 (by rw[e2,S4]) (by rw[e3,S4]) (by rw[e4,S4]) ha
 have Ww:∀ n c v0 ax,gL s0.hp n c v0→gL s.hp n c ax→gL Hf n c ax:=by
  intro n c v0 ax Jy hv
  have hn:=Jy.lt
  by_cases hm:n∈objs.map (·.1)
  ·obtain⟨q,hq,rfl⟩:=List.mem_map.1 hm
   obtain⟨o0,os,of,g1,g2,g3,g4,g5,_⟩:=RY q hq
   obtain⟨o0',k1,k2,_⟩:=Jy
   rw[g1]at k1
   simp only[Option.some.injEq]at k1
   subst k1
   obtain⟨os',k3,k4,k5⟩:=hv
   rw[g2]at k3
   simp only[Option.some.injEq]at k3
   subst k3
   refine⟨of,g3,?_,fun e=>?_⟩
   ·have:=Kq q.2 o0.cur; omega
   ·by_cases hl:∃ t,q.2=.list t
    ·obtain⟨t,hl⟩:=hl
     rw[g5,hl]at e
     simp only[EM]at e
     omega
    ·have hc:=I0 ho.cur hq (fun t e=>hl ⟨t,e⟩) g1 g2
     have:of.cur=o0.cur:=by rw[g5,RX (fun t e=>hl ⟨t,e⟩)]
     rw[g4]
     exact k5 (by omega)
  ·have DM:n∉(objs++br s0.hp.length ext).map (·.1):=by
    rw[List.map_append]
    intro hc
    rcases List.mem_append.1 hc with hc|hc
    ·exact hm hc
    ·have:=QH n hc; omega
   obtain⟨os,k1,k2,k3⟩:=hv
   exact⟨os,by rw[c2 n DM,BG n hn,b2 n hm,←ho.hp n hn hm]; exact k1,k2,k3⟩
 have Yt:∀ n:Nat,n<s0.hp.length→n∉objs.map (·.1)→Hf[n]?=s0.hp[n]?:=by
  intro n hn hm
  have DM:n∉(objs++br s0.hp.length ext).map (·.1):=by
   rw[List.map_append]
   intro hc
   rcases List.mem_append.1 hc with hc|hc
   ·exact hm hc
   ·have:=QH n hc; omega
  rw[c2 n DM,BG n hn,b2 n hm]
 have hex:∀ (n:Nat) (o:aK T.den),s0.hp[n]?=some (some o)→∃ o,Hf[n]?=some (some o):=by
  intro n o Cu
  have hn:=(List.getElem?_eq_some_iff.1 Cu).1
  by_cases hm:n∈objs.map (·.1)
  ·obtain⟨q,hq,rfl⟩:=List.mem_map.1 hm
   obtain⟨_,_,of,_,_,g3,_⟩:=RY q hq
   exact⟨of,g3⟩
  ·exact⟨o,by rw[Yt n hn hm]; exact Cu⟩
 have Ro:mz s.js Hf st.hp:=by
  intro n x hx
  obtain⟨h1,h2⟩:=h.js n x hx
  refine⟨?_,h2⟩
  obtain⟨o,K5,xm⟩:∃ o,s.hp[n]?=some (some o)∧o.isRec=true:=by
   unfold recAt at h1
   split at h1
   ·rename_i o K5; exact⟨o,K5,h1⟩
   ·simp at h1
  by_cases hn:n<s0.hp.length
  ·by_cases hm:n∈objs.map (·.1)
   ·exfalso
    obtain⟨q,hq,rfl⟩:=List.mem_map.1 hm
    obtain⟨o1,os,o',ln,Hc,GY,_,d2,d3,_⟩:=c4 q (List.mem_append_left _ hq)
    rw[K5]at d2
    simp only[Option.some.injEq]at d2
    subst d2
    cases o<;>simp[aK.isRec]at xm
    cases hp2:q.2<;>rw[hp2]at d3<;>cases d3
   ·rw[sG (show Hf[n]?=s.hp[n]? by rw[Yt n hn hm,ho.hp n hn hm])]
    exact h1
  ·exfalso
   have hns:=(List.getElem?_eq_some_iff.1 K5).1
   have hi:n-s0.hp.length<ext.length:=by have:=ho.len; omega
   have OI:s0.hp.length+(n-s0.hp.length)=n:=by omega
   obtain⟨e,he⟩:∃ e,ext[n-s0.hp.length]?=some e:=⟨_,List.getElem?_eq_getElem hi⟩
   obtain⟨o2,m1,m2⟩:=wJ ho.Vf he
   rw[OI,K5]at m1
   simp only[Option.some.injEq]at m1
   subst m1
   cases o<;>simp[aK.isRec]at xm
   cases e<;>simp[aK.flags]at m2
 have RT:RH T Hf st.hp:=by
  have u7:Hf.length=st.hp.length:=by rw[c1,OK]; exact h.hp.length
  refine aE.fk u7 fun n x y hx hy=>?_
  obtain⟨xs,Cw,hr⟩:=aE.get' h.hp hy
  have hns:n<s.hp.length:=(List.getElem?_eq_some_iff.1 Cw).1
  by_cases hn:n<s0.hp.length
  ·by_cases hm:n∈objs.map (·.1)
   ·obtain⟨q,hq,rfl⟩:=List.mem_map.1 hm
    obtain⟨o0,os,of,g1,g2,g3,g4,g5,g6⟩:=RY q hq
    rw[g3]at hx
    rw[g2]at Cw
    simp only[Option.some.injEq]at hx Cw
    subst hx; subst Cw
    cases y with
    |none=>exact hr.elim
    |some a=>exact g6 a hr
   ·have DM:n∉(objs++br s0.hp.length ext).map (·.1):=by
     rw[List.map_append]
     intro hc
     rcases List.mem_append.1 hc with hc|hc
     ·exact hm hc
     ·have:=QH n hc; omega
    rw[c2 n DM,BG n hn,b2 n hm,←ho.hp n hn hm,Cw]at hx
    simp only[Option.some.injEq]at hx
    subst hx
    have Q2:s0.hp[n]?=some xs:=by rw[←ho.hp n hn hm]; exact Cw
    obtain⟨y0,_,Fh⟩:=aE.get h0.hp Q2
    cases xs with
    |none=>cases y with
     |none=>trivial
     |some a=>exact hr.elim
    |some o=>cases y with
     |none=>exact hr.elim
     |some a=>
      cases y0 with
      |none=>exact Fh.elim
      |some a0=>
       cases o with
       |arr g cl f c es=>
        obtain⟨es',e1,e2,e3⟩:=hr
        obtain⟨es0,_,e5,_⟩:=Fh
        exact⟨es',e1,RL.fi Ww hex e5 e2,e3⟩
       |cE g f c t l=>exact hr
       |ji=>exact hr
       |lZ kk t m=>exact hr
       |rh fn ps as bd fr=>
        obtain⟨st,vs,e1,e2⟩:=hr
        obtain⟨st0,vs0,_,e5⟩:=Fh
        refine⟨st,vs,e1,aE.fk e2.length fun i x y hx hy=>?_⟩
        obtain⟨y',DT,pw⟩:=aE.get e2 hx
        rw[hy]at DT
        simp only[Option.some.injEq]at DT
        subst DT
        obtain⟨y0,hy0,Vh⟩:=aE.get e5 hx
        rcases pw with pw|pw
        ·exact .inl pw
        ·rcases Vh with ⟨rfl,_⟩|Vh
         ·simp[R]at pw
         ·exact .inr (R.fi Ww hex Vh pw)
  ·have hi:n-s0.hp.length<ext.length:=by have:=ho.len; omega
   have OI:n=s0.hp.length+(n-s0.hp.length):=by omega
   rcases qN (n:=s0.hp.length) hi with ⟨k1,k2⟩|⟨g,f,t,k1,k2⟩
   ·rw[←OI]at k2
    have DM:n∉(objs++br s0.hp.length ext).map (·.1):=by
     rw[List.map_append]
     intro hc
     rcases List.mem_append.1 hc with hc|hc
     ·exact hn (cr n hc)
     ·exact k2 hc
    rw[c2 n DM,OI,OL,List.getElem?_map,k1]at hx
    simp only[Option.map_some,Ln,Option.some.injEq]at hx
    subst hx
    obtain⟨o,m1,m2⟩:=wJ ho.Vf k1
    rw[←OI,Cw]at m1
    simp only[Option.some.injEq]at m1
    subst m1
    cases y with
    |none=>exact hr.elim
    |some a=>exact LA hT hr m2
   ·obtain⟨o1,os,o',ln,Hc,GY,d1,d2,d3,d4,d5,d6,d7,d8⟩:=c4 _ (List.mem_append_right _ k2)
    simp only at d1 d2 d3 d5 d6
    rw[←OI]at d2 d6
    rw[d6]at hx
    rw[d2]at Cw
    simp only[Option.some.injEq]at hx Cw
    subst hx; subst Cw
    rw[OL,List.getElem?_map,k1]at d1
    simp only[Option.map_some,Ln,Option.some.injEq]at d1
    subst d1
    obtain⟨o,m1,m2⟩:=wJ ho.Vf k1
    rw[←OI,d2]at m1
    simp only[Option.some.injEq]at m1
    subst m1
    simp only at m2
    cases y with
    |none=>exact hr.elim
    |some a=>
     exact BE hT (fun n=>by rw[d4,c3]) hlen (by intro n hn; simp[dv.n5]at hn) (show Compat (.cE g f 0 t []) (.list t) from ⟨g,f,0,[],rfl⟩) d3 d5 (by rw[m2]; rfl) (by rw[m2]; rfl) (by rw[m2]; rfl) hr
 obtain⟨D4,f1,f2,f3⟩:=sJ hT (Hc:=H1) (Hf:=Hf) (fun n=>by rw[c3]) hlen (N:=s0.n) (frs:=s.fr) (ast:=fun t=>st.fr.getD t .undef) h.fr (fr:=C9 s0.n s0.fr dead) lb ho.WN
  (fun q hq=>⟨ho.OJ _ (List.mem_append_left _ (List.mem_map_of_mem hq)),acS q hq⟩) hla
 have Yu:dU aH dead objs ext s0 (la++lb)={ s0 with fr:=D4,hp:=Hf }:=by
  unfold dU
  rw[L5,f1]
  simp only[hHf]
 have EO:∀ t,t∉aH.map (·.1)++dead→dj D4 t=dj s0.fr t:=by
  intro t ht
  simp only[List.mem_append,not_or]at ht
  rw[f2 t ht.1,xT,if_neg (fun hc=>ht.2 hc.1)]
 rw[Yu]
 refine⟨⟨?_,?_,fun t=>?_,RT,Ro⟩,by rw[c1,OK],fun n hn hm=>?_,EO,rfl,rfl,fun q hq=>?_⟩
 ·show s0.fn=st.fn
  rw[←ho.fn]; exact h.fn
 ·show st.fr.length=s0.n
  rw[←ho.n]; exact h.n
 ·simp only
  by_cases ht:t∈aH.map (·.1)
  ·obtain⟨q,hq,rfl⟩:=List.mem_map.1 ht
   exact .inr (f3 q hq)
  ·by_cases hd:t∈dead
   ·left
    rw[f2 t ht,xT,if_pos ⟨hd,ho.OJ _ (List.mem_append_right _ hd)⟩]
   ·have hnt:t∉aH.map (·.1)++dead:=by simp only[List.mem_append,not_or]; exact⟨ht,hd⟩
    rw[EO t hnt]
    have e1:=h.fr t
    rw[ho.fr t hnt]at e1
    rcases e1 with e1|e1
    ·exact .inl e1
    ·rcases h0.fr t with e0|e0
     ·exact .inl e0
     ·exact .inr (R.fi Ww hex e0 e1)
 ·simp only
  have DM:n∉(objs++br s0.hp.length ext).map (·.1):=by
   rw[List.map_append]
   intro hc
   rcases List.mem_append.1 hc with hc|hc
   ·exact hm hc
   ·have:=QH n hc; omega
  rw[c2 n DM,BG n hn,b2 n hm]
 ·obtain⟨o0,os,of,g1,g2,g3,g4,g5,_⟩:=RY q hq
  exact⟨o0,os,of,g1,g2,g3,g4,g5⟩
end Go.PI
end
section
/- PS, part P: the trees tell the truth. -/
namespace Go.PI
structure rl.Ok[ah](S:rl):Prop where
 T:S.T.Ok
 Q:S.Q.Ok
 Z:S.T.wz S.Q
 sum:∀ g σ,S.sum g=some σ→wC S.C S.T g σ
 own:∀ g σ,S.own g=some σ→Dj S.C S.T g σ
def G0(T:ej):ri T.den→Out→Prop
 |.norm s,o=>∃ st,o=.norm st∧RS T s st
 |.exit id s,o=>∃ st,o=.exit id st∧RS T s st
 |.ret s,o=>∃ st,o=.ret st∧RS T s st
def ri.st{den:Nat→Type}:ri den→bQ den
 |.norm s=>s
 |.exit _ s=>s
 |.ret s=>s
structure qO[ah](S:rl)(k:Nat):Prop where
 f:∀ (ρ:Type) (f:FuncId) (args:List (SV S.T.den)) (hp:aq S.T.den) (wh:List Nat) (js:List (Nat×nf)) (K:SV S.T.den→aq S.T.den→List Nat→List (Nat×nf)→Tr ρ) (r:ρ) (as:List AV) (RZ:ak),RL S.T hp args as→RH S.T hp RZ→mz js hp RZ →
  (UT S k ρ f args hp wh js K).run=some r→∃ v cU rq tJ a gm,jt S.C f as RZ=some (.val a,gm)∧R S.T cU v a∧RH S.T cU gm∧mz tJ cU gm∧ep hp cU∧hp.length≤cU.length ∧
    (∀ n:Nat,n<hp.length→n∉rq→cU[n]?=hp[n]?)∧(∀ n,n∈wh→n∈rq)∧(K v cU rq tJ).run=some r
 c:∀ (ρ:Type) (c:Code) (s:bQ S.T.den) (K:ri S.T.den→Tr ρ) (r:ρ) (st:St),RS S.T s st→(ze S k ρ c s K).run=some r →
  ∃ so o,dw S.C c st=some o∧G0 S.T so o∧bx s so.st∧(K so).run=some r
 o:∀ (ρ:Type) (o:Oper) (s:bQ S.T.den) (K:bQ S.T.den→Tr ρ) (r:ρ) (st:St),RS S.T s st→(RA S k ρ o s K).run=some r →
  ∃ s' st',jv S.C o st=some (.norm st')∧RS S.T s' st'∧bx s s'∧(K s').run=some r
section
variable {T:ej}{ρ:Type}
theorem yU[ah](hT:T.Ok){s:bQ T.den}{st:St}(h:RS T s st){v:SV T.den}{a:AV}{cU:aq T.den}{gm:ak}{rq:List Nat}{tJ:List (Nat×nf)}(g2:R T cU v a)(g3:RH T cU gm)(g4:ep s.hp cU)(g5:s.hp.length≤cU.length)
  (g6:∀ n:Nat,n<s.hp.length→n∉rq→cU[n]?=s.hp[n]?) (g7:∀ n,n∈s.wh→n∈rq) (hj:mz tJ cU gm) (hb:xG tJ s.hp.length=true) :
  RS T ⟨s.fn,s.n,s.fr,iY s.hp.length v cU,s.wf,rq,tJ⟩ ⟨st.fn,st.fr,jW s.hp.length a gm⟩∧bx s ⟨s.fn,s.n,s.fr,iY s.hp.length v cU,s.wf,rq,tJ⟩∧R T (iY s.hp.length v cU) v a:=by
 obtain⟨t1,t2⟩:=Ly (n:=s.hp.length) hT g3 g2
 have CC:ep s.hp (iY s.hp.length v cU):=by
  unfold iY
  split
  ·intro n o ho
   obtain⟨o',h1,h2⟩:=g4 n o ho
   exact⟨o',by rw[ph (List.getElem?_eq_some_iff.1 ho).1]; exact h1,h2⟩
  ·exact g4
 have Yv:∀ n:Nat,n<s.hp.length→n∉rq→(iY s.hp.length v cU)[n]?=s.hp[n]?:=by
  grind[iY]
 have hlen:s.hp.length≤(iY s.hp.length v cU).length:=by
  grind[iY]
 have Ro:mz tJ (iY s.hp.length v cU) (jW s.hp.length a gm):=by
  unfold iY jW
  rw[R.below g2,nd hT (aE.take g3 _)]
  split
  ·exact hj.take (Dp hb)
  ·exact hj
 exact⟨⟨h.fn,h.n,fun t=>(h.fr t).mono CC,t1,Ro⟩,⟨rfl,rfl,fun _ _=>rfl,fun _ h=>h,Yv,g7,hlen,CC⟩,t2⟩
theorem BH[ah]{H H':aq T.den}{esz j nm:Nat}{e e':SV T.den}{a:AV}(hr:R T H e a)(hx:∀ {v:SV T.den} {b:AV},R T H v b→R T H' v b)(hn:R T H' (.bw esz nm 0 none none) (.bw esz nm 0 0 0 none))(h:sy esz j nm e=some e'):
  ∃ a',mC esz j nm a=some a'∧R T H' e' a':=by
 unfold sy at h
 split at h
 ·rename_i l
  split at h
  case h_2=>simp at h
  rename_i hl
  simp only[Option.some.injEq]at h
  subst h
  simp only[R]at hr
  obtain⟨l',rfl,ld⟩:=hr
  obtain⟨b,hb,L6⟩:=aE.get (bh.1 ld) hl
  simp only[R]at L6
  subst L6
  refine⟨.agg (l'.set j (.bw esz nm 0 0 0 none)),by simp only[mC,hb],?_⟩
  simp only[R]
  exact⟨_,rfl,bh.2 (((bh.1 ld).mono fun _ _ h=>hx h).set j hn)⟩
 ·split at h
  case isFalse=>simp at h
  rename_i hj
  simp only[Option.some.injEq]at h
  subst h
  simp only[R]at hr
  subst hr
  exact⟨_,by simp only[mC]; rw[if_pos hj],hn⟩
 ·simp at h
theorem Yw[ah]{H:aq T.den}:RO T H (.arr true true false 0 []) (.arr true true false []):=⟨[],rfl,by simp[RL],fun _=>rfl⟩
theorem OM{H:aq T.den}{esz nm:Nat}{g cl f:Bool}(h:H[nm]?=some (some (.arr g cl f 0 []))):R T H (.bw esz nm 0 none none) (.bw esz nm 0 0 0 none):=by
 simp only[R]
 exact⟨0,⟨_,h,Nat.le_refl _,fun _=>rfl⟩,rfl⟩
theorem Ks[ah](hT:T.Ok){d:Tmp}{r:ρ}{K:bQ T.den→Tr ρ}:∀ {l:List (Nat×Nat)} {s:bQ T.den} {st:St},RS T s st→(Lp d l s K).run=some r→∃ s',RS T s' (Md d l st)∧bx s s'∧(K s').run=some r
 |[],s,st,h,hk=>⟨s,h,bx.refl _,hk⟩
 |(j,esz)::l,s,st,h,hk=>by
  have hlen:=h.hp.length
  unfold Lp at hk
  have hd:=h.fr d
  have IQ:∀ {s':bQ T.den},RS T s' (rC d st j esz)→bx s s'→(Lp d l s' K).run=some r→∃ s',RS T s' (Md d ((j,esz)::l) st)∧bx s s'∧(K s').run=some r:=by
   intro s' h1 h2 h3
   obtain⟨s2,i1,i2,i3⟩:=Ks hT h1 h3
   exact⟨s2,i1,h2.trans i2,i3⟩
  split at hk
  ·rename_i n c i k he
   rw[he]at hd
   have hd:=hd.live rfl
   simp only[R]at hd
   obtain⟨ax,hd,cI⟩:=hd
   have gk:st.fr[d]?=some (.ref n ax i k):=by
    grind
   split at hk
   case h_2=>simp[Tr.run]at hk
   rename_i g cl f cur es ho
   obtain⟨ao,dM,eF⟩:=h.hp.obj ho
   obtain⟨es',rfl,cZ,og⟩:=eF
   split at hk
   case h_2=>simp[Tr.run]at hk
   rename_i e' JK
   obtain⟨e,Mq,AI⟩:=Option.bind_eq_some_iff.1 JK
   obtain⟨ea,Yx,HE⟩:=aE.get (bh.1 cZ) Mq
   have hn:=(List.getElem?_eq_some_iff.1 ho).1
   have rL:=h.hp.new (nm:=s.hp.length) (o':=.arr true true false 0 []) (a':=.arr true true false []) (.inl rfl) Yw
   have e1:cd s.hp s.hp.length (.arr true true false 0 [])=s.hp++[some (.arr true true false 0 [])]:=by simp[cd]
   have e2:setObj st.hp s.hp.length (.arr true true false [])=st.hp++[some (.arr true true false [])]:=by simp[setObj,hlen]
   rw[e1,e2]at rL
   obtain⟨S1,yb⟩:=rL
   have lP:R T (s.hp++[some (.arr true true false 0 [])]) (.bw esz s.hp.length 0 none none) (.bw esz s.hp.length 0 0 0 none):=OM (g:=true) (cl:=true) (f:=false) (by simp)
   obtain⟨S8,h5,h6⟩:=BH HE (fun h=>h.mono S1) lP AI
   have xm:(s.hp++[some (aK.arr true true false 0 [])])[n]?=some (some (.arr g cl f cur es)):=by rw[List.getElem?_append_left hn]; exact ho
   have fW:RL T (s.hp++[some (.arr true true false 0 [])]) (es.set i e') (es'.set i S8):=bh.2 (((bh.1 cZ).mono fun _ _ h=>h.mono S1).set i h6)
   obtain⟨hg2,Ns⟩:=yb.WK xm (o':=.arr g false f cur (es.set i e')) (a':=.arr g false f (es'.set i S8)) (Nat.le_refl _) (fun _=>by simp[aK.len]) ⟨_,rfl,fW,fun hc=>by simp at hc⟩
   have w1:bu s.hp [(n,.arr g false f cur (es.set i e')),(s.hp.length,.arr true true false 0 [])]=(s.hp++[some (aK.arr true true false 0 [])]).set n (some (aK.arr g false f cur (es.set i e'))):=by
    have q1:cd s.hp n (.arr g false f cur (es.set i e'))=s.hp.set n (some (.arr g false f cur (es.set i e'))):=by unfold cd; rw[if_neg (by omega)]
    have q2:∀ (L:aq T.den) (o:aK T.den),L.length=s.hp.length→cd L s.hp.length o=L++[some o]:=fun L o hL=>by unfold cd; rw[if_pos hL.symm]
    simp only[bu]
    rw[q1,q2 _ _ (by simp),List.set_append_left _ _ hn]
   have w2:av st.hp [(n,.arr g false f (es'.set i S8)),(s.hp.length,.arr true true false [])]=(st.hp++[some (ba.arr true true false [])]).set n (some (ba.arr g false f (es'.set i S8))):=by
    have q1:setObj st.hp n (.arr g false f (es'.set i S8))=st.hp.set n (some (.arr g false f (es'.set i S8))):=by unfold setObj; rw[if_neg (by omega)]
    have q2:∀ (L:ak) (o:ba),L.length=s.hp.length→setObj L s.hp.length o=L++[some o]:=fun L o hL=>by unfold setObj; rw[if_pos hL.symm]
    simp only[av]
    rw[q1,q2 _ _ (by simp[hlen]),List.set_append_left _ _ (by omega)]
   rw[dx]at hk
   have hRE:RE T s.hp st.hp (.lit undef) [(n,.arr g false f cur (es.set i e')),(s.hp.length,.arr true true false 0 [])] ⟨.undef,[(n,.arr g false f (es'.set i S8)),(s.hp.length,.arr true true false [])]⟩:=by
    refine⟨bC undef,by rw[w1,w2]; exact Ns,by rw[w1]; exact S1.trans hg2,fun q hq=>?_,fun m hm hl=>?_,by rw[w1]; simp,fun m hm hc=>?_⟩
    ·grind
    ·grind
    ·simp at hc
     rcases hc with rfl|rfl
     ·simp[recAt,ho,aK.isRec]at hm
     ·have:=kz hm; omega
   obtain⟨g8,g9⟩:=h.step hRE none
   refine IQ (s':=s.step none (.lit undef) _) ?_ g9 hk
   have:rC d st j esz={ st with fr:=bZ st.fr none AV.undef,hp:=av st.hp [(n,.arr g false f (es'.set i S8)),(s.hp.length,.arr true true false [])] }:=by
    unfold rC
    rw[hlen]at h5
    simp only[gk,dM,Yx,Option.bind_some,h5,bZ]
    rw[w2,List.set_append_left _ _ (by omega)]
   rw[this]
   exact g8
  ·rename_i dP
   split at hk
   case h_2=>simp[Tr.run]at hk
   rename_i v' lK
   have Yy:cL (dj s.fr d)=false:=by
    cases hq:dj s.fr d<;>first|rfl|(rw[hq]at lK; simp[sy]at lK)
   have hd:=hd.live Yy
   have rL:=h.hp.new (nm:=s.hp.length) (o':=.arr true true false 0 []) (a':=.arr true true false []) (.inl rfl) Yw
   have e1:cd s.hp s.hp.length (.arr true true false 0 [])=s.hp++[some (.arr true true false 0 [])]:=by simp[cd]
   have e2:setObj st.hp s.hp.length (.arr true true false [])=st.hp++[some (.arr true true false [])]:=by simp[setObj,hlen]
   have aff:=rL
   rw[e1,e2]at rL
   obtain⟨S1,yb⟩:=rL
   have lP:R T (s.hp++[some (.arr true true false 0 [])]) (.bw esz s.hp.length 0 none none) (.bw esz s.hp.length 0 0 0 none):=OM (g:=true) (cl:=true) (f:=false) (by simp)
   obtain⟨a',h5,h6⟩:=BH hd (fun h=>h.mono S1) lP lK
   have gk:st.fr[d]?=some (st.fr.getD d .undef):=by
    rw[List.getD_eq_getElem?_getD]at h5 ⊢
    cases hq:st.fr[d]? with
    |none=>simp_all[mC,AV.undef,Go.undef]
    |some x=>rfl
   have Yz:∀ n ax i k,st.fr.getD d .undef≠.ref n ax i k:=by
    intro n ax i k e
    rw[e]at h5
    simp[mC]at h5
   rw[dx]at hk
   have hRE:RE T s.hp st.hp v' [(s.hp.length,.arr true true false 0 [])] ⟨a',[(st.hp.length,.arr true true false [])]⟩:=by
    have w1:bu s.hp [(s.hp.length,.arr true true false 0 [])]=s.hp++[some (.arr true true false 0 [])]:=e1
    have w2:av st.hp [(st.hp.length,.arr true true false [])]=st.hp++[some (.arr true true false [])]:=by simp[av,setObj]
    refine⟨.inr (by rw[w1]; exact h6),by rw[w1,w2]; exact yb,by rw[w1]; exact S1,fun q hq=>by simp at hq; subst hq; simp[hlen],fun m hm hl=>?_,by rw[w1]; simp,fun m hm hc=>?_⟩
    ·rw[w1,List.getElem?_append_left hl]
    ·simp at hc
     have:=kz hm; omega
   obtain⟨g8,g9⟩:=h.step hRE (some d)
   refine IQ (s':=s.step (some d) v' _) ?_ g9 hk
   have:rC d st j esz={ st with fr:=bZ st.fr (some d) a',hp:=av st.hp [(st.hp.length,.arr true true false [])] }:=by
    unfold rC
    rw[gk]
    rw[hlen]at h5
    split
    ·rename_i n ax i k he
     exact absurd (Option.some.inj he) (Yz n ax i k)
    ·rename_i e _ he
     have he:=Option.some.inj he
     rw[←he,h5]
     simp only[bZ,av,setObj,if_true]
    ·rename_i he; cases he
   rw[this]
   exact g8
theorem ON[ah](hT:T.Ok){l:Tmp→List (Nat×Nat)}{dst:Option Tmp}{r:ρ}{K:bQ T.den→Tr ρ}{s:bQ T.den}{st:St}(h:RS T s st)(hk:(F8 l dst s K).run=some r):∃ s',RS T s' (E6 l dst st)∧bx s s'∧(K s').run=some r:=by
 cases dst with
 |none=>exact⟨s,h,bx.refl _,hk⟩
 |some d=>exact Ks hT h hk
theorem I3{js:List (Nat×nf)}{n m:Nat}{y:nf}:cQ (Ez js n y) m=if m=n then (cQ js n).map (fun _=>y) else cQ js m:=by
 induction js with
 |nil=>simp[Ez,cQ]
 |cons q r ih=>
  obtain⟨k,x⟩:=q
  simp only[Ez,List.map_cons]at ih ⊢
  cases hk:Nat.beq k n with
  |true=>
   have:=Nat.eq_of_beq_eq_true hk
   subst this
   simp only[cQ]
   by_cases hm:m=k
   ·subst hm; simp
   ·have:Nat.beq k m=false:=by cases hb:Nat.beq k m; rfl; exact absurd (Nat.eq_of_beq_eq_true hb).symm hm
    rw[this,if_neg hm]
    simp only
    rw[ih,if_neg hm]
  |false=>
   simp only[cQ,hk]
   by_cases hm:m=n
   ·simp_all
   ·simp_all
theorem G1{js:List (Nat×nf)}{n m:Nat}:cQ (Ga js n) m=if m=n then none else cQ js m:=by
 induction js with
 |nil=>simp[Ga,cQ]
 |cons q r ih=>
  obtain⟨k,x⟩:=q
  simp only[Ga,List.filter_cons]at ih ⊢
  cases hk:Nat.beq k n with
  |true=>
   have:=Nat.eq_of_beq_eq_true hk
   subst this
   simp only[Bool.not_true,Bool.false_eq_true,if_false,ih,cQ]
   by_cases hm:m=k
   ·simp[hm]
   ·have:Nat.beq k m=false:=by cases hb:Nat.beq k m; rfl; exact absurd (Nat.eq_of_beq_eq_true hb).symm hm
    rw[this,if_neg hm]
  |false=>
   grind[cQ]
theorem Kt[ah]{H:aq T.den}{hp:ak}{js:List (Nat×nf)}(hh:RH T H hp)(hj:mz js H hp){n:Nat}{x:nf}(hn:cQ js n=some x)(y:nf):RH T H (qQ hp n y)∧mz (Ez js n y) H (qQ hp n y):=by
 obtain⟨h1,h2⟩:=hj n x hn
 obtain⟨fn,ps,as,bd,fr,hr⟩:=lR h2
 have cr:=(List.getElem?_eq_some_iff.1 hr).1
 have e:qQ hp n y=hp.set n (some (.iI (.loop fn ps as bd y) fr)):=by unfold qQ; rw[hr]
 rw[e]
 obtain⟨o,ho,hor⟩:∃ o,H[n]?=some (some o)∧o.isRec=true:=by
  grind[recAt]
 obtain⟨a,ha,eF⟩:=hh.obj ho
 rw[hr]at ha
 simp only[Option.some.injEq]at ha
 subst ha
 cases o<;>simp[aK.isRec]at hor
 rename_i WE ps' qp bd' D4
 obtain⟨st,vs,he,rb⟩:=eF
 cases he
 have fW:RH T H (hp.set n (some (.iI (.loop fn ps as bd y) fr))):=by
  have:=aE.set hh n (x:=some (.rh fn ps as bd D4)) (y:=some (ba.iI (.loop fn ps as bd y) fr)) ⟨y,fr,rfl,rb⟩
  rwa [jd ho]at this
 refine⟨fW,fun m z hm=>?_⟩
 rw[I3]at hm
 split at hm
 ·simp_all[jZ]
 ·rename_i dP
  obtain⟨h3,h4⟩:=hj m z hm
  exact⟨h3,by rw[qf (List.getElem?_set_ne (Ne.symm dP))]; exact h4⟩
theorem G2{den:Nat→Type}{u:List Nat}{fr:vh den}:∀ {l:List Nat} {i:Nat},(zd u fr l)[i]?=(l[i]?).map fun d=>if u.contains d then dj fr d else .dead
 |[],i=>by simp[zd]
 |d::r,0=>by simp only[zd,List.getElem?_cons_zero,Option.map_some]; cases u.contains d<;>rfl
 |d::r,i+1=>by simp only[zd,List.getElem?_cons_succ]; exact G2
theorem G3{den:Nat→Type}{u:List Nat}{fr:vh den}:∀ {l:List Nat},(zd u fr l).length=l.length
 |[]=>rfl
 |d::r=>by simp only[zd,List.length_cons,G3]
theorem Dr{u:List Nat}:∀ {fr:List AV} {i j:Nat},(qP u i fr)[j]?=(fr[j]?).map fun x=>if u.contains (i+j) then x else .any
 |[],i,j=>by simp[qP]
 |x::xs,i,0=>by simp[qP]
 |x::xs,i,j+1=>by
  simp only[qP,List.getElem?_cons_succ]
  rw[Dr,show i+1+j=i+(j+1) by omega]
theorem Ds{u:List Nat}:∀ {fr:List AV} {i:Nat},(qP u i fr).length=fr.length
 |[],_=>rfl
 |x::xs,i=>by simp only[qP,List.length_cons,Ds]
theorem LC[ah]{s:bQ T.den}{st:St}(h:RS T s st){as bd:Code}(hd:(eK as++eK bd).all (fun d=>!cL (dj s.fr d)||!Nat.blt d s.n)=true):
  aE (RD T s.hp) (zd (eK as++eK bd) s.fr (List.range s.n)) (zU as bd st.fr):=by
 unfold zU
 refine aE.fk (by rw[G3,Ds,List.length_range,h.n]) fun i x y hx hy=>?_
 rw[G2,Option.map_eq_some_iff]at hx
 rw[Dr,Option.map_eq_some_iff]at hy
 obtain⟨d,CN,rfl⟩:=hx
 obtain⟨a,ha,rfl⟩:=hy
 obtain⟨hi,rfl⟩:i<s.n∧i=d:=by
  grind
 rw[Nat.zero_add]
 cases hc:(eK as++eK bd).contains i with
 |false=>exact .inl ⟨rfl,rfl⟩
 |true=>
  right
  simp only[if_true]
  have hm:i∈eK as++eK bd:=by simpa using hc
  have:=List.all_eq_true.1 hd i hm
  have hb:Nat.blt i s.n=true:=Nat.ble_eq_true_of_le hi
  rw[hb]at this
  simp only[Bool.not_true,Bool.or_false,Bool.not_eq_true']at this
  have hv:=(h.fr i).live this
  rw[List.getD_eq_getElem?_getD,ha]at hv
  exact hv
theorem Dt[ah]{H:aq T.den}:∀ {ps:List Tmp} {xs:List (SV T.den)} {as:List AV} {n:Nat} {fr:vh T.den} {fa:List AV},fa.length=n→(∀ t,RV T H (dj fr t) (fa.getD t .undef))→RL T H xs as →
  (gG fa ps as).length=n∧∀ t,RV T H (dj (nP n fr ps xs) t) ((gG fa ps as).getD t .undef)
 |[],xs,as,n,fr,fa,hl,h,_=>by simpa[gG,nP] using ⟨hl,h⟩
 |p::ps,[],[],n,fr,fa,hl,h,_=>by simpa[gG,nP] using ⟨hl,h⟩
 |p::ps,x::xs,a::as,n,fr,fa,hl,h,hx=>by
  simp only[RL]at hx
  simp only[gG,nP]
  refine Dt (by simp[hl]) (fun t=>?_) hx.2
  rw[mf,GP,hl]
  split
  ·exact .inr hx.1
  ·exact h t
 |p::ps,[],_::_,_,_,_,_,_,h=>by simp[RL]at h
 |p::ps,_::_,[],_,_,_,_,_,h=>by simp[RL]at h
noncomputable def OO(n:Nat)(dst:Option Tmp)(st:St):Out→Option Out
 |.norm s2=>zV n dst st true .ready s2.hp
 |.exit id s2=>zV n dst st false (.jump (some id)) s2.hp
 |.ret s2=>zV n dst st false (.jump none) s2.hp
 |_=>none
theorem EP[ah](hT:T.Ok){s s2:bQ T.den}{st RW:St}(h:RS T s st)(h2:RS T s2 RW)(hg:ep s.hp s2.hp)(hl:s.hp.length≤s2.hp.length)(hk:∀ n:Nat,n<s.hp.length→n∉s2.wh→s2.hp[n]?=s.hp[n]?)(hw:∀ n,n∈s.wh→n∈s2.wh)
  {n:Nat} {dst:Option Tmp} {b:Bool} {x:nf} {K:bQ T.den→Tr ρ} {r:ρ} (hr:(Og s n dst b x s2 K).run=some r) :
  ∃ s' st',zV n dst st b x RW.hp=some (.norm st')∧RS T s' st'∧bx s s'∧(K s').run=some r:=by
 unfold Og at hr
 split at hr
 case h_2=>simp[Tr.run]at hr
 rename_i hb
 split at hr
 case h_2=>simp[Tr.run]at hr
 rename_i I4
 rw[nc,dx]at hr
 obtain⟨_,YA⟩:=h2.js n _ hb
 obtain⟨r1,r2⟩:=Kt h2.hp h2.js hb x
 have YB:xG (Ez s2.js n x) s.hp.length=true:=by
  refine List.all_eq_true.2 fun q hq=>?_
  obtain⟨q0,hq0,e⟩:=List.mem_map.1 hq
  have:=List.all_eq_true.1 I4 q0 hq0
  split at e<;>(subst e; exact this)
 obtain⟨g1,g2,g3⟩:=yU hT h (v:=.lit (.bool b)) (a:=.lit (.bool b)) (by simp[R]) r1 hg hl hk hw r2 YB
 obtain⟨g8,g9⟩:=g1.step (v:=.lit (.bool b)) (wr:=[]) (e:=⟨.lit (.bool b),[]⟩) ⟨bC _,g1.hp,ep.refl _,fun q hq=>by simp at hq,fun _ _ _=>rfl,Nat.le_refl _,fun _ _ h=>by simp at h⟩ dst
 refine⟨_,_,?_,g8,g2.trans g9,hr⟩
 unfold zV
 rw[YA,h.hp.length]
 rfl
end
def I5{den:Nat→Type}(H H':aq den):Prop:=∀ n:Nat,n<H.length→∀ o':aK den,H'[n]?=some (some o')→∃ o:aK den,H[n]?=some (some o)∧o.cur=o'.cur∧o.len=o'.len
theorem R.back[ah]{T:ej}{H H':aq T.den}(hb:I5 H H'){v:SV T.den}{a:AV}(h:R T H' v a)(hv:bM H.length v=true):R T H v a:=by
 refine(h.take hv).mono fun n o ho=>?_
 have hn:n<H.length:=by
  grind
 rw[List.getElem?_take_of_lt hn]at ho
 obtain⟨o',h1,h2,h3⟩:=hb n hn o ho
 exact⟨o',h1,by omega,fun _=>h3⟩
theorem RM.OP{α:Type}{hp:ak}:∀ {x:RM α} {a:α},x.run hp=some a→∀ n,n∈x.log hp→n<hp.length
 |.ret _,_,_,n,hn=>by simp[RM.log]at hn
 |.fail,_,h,_,_=>by simp[RM.run]at h
 |.get m k,a,h,n,hn=>by
  simp only[RM.run]at h
  split at h
  case h_2=>simp at h
  rename_i o ho
  simp only[RM.log,ho,List.mem_cons]at hn
  rcases hn with rfl|hn
  ·grind
  ·exact RM.OP h n hn
theorem aN.over{hp:ak}{ov:Option (Nat×ba)}{nw:List ba}{α:Type}{x:RM α}{a:α}{rd:List Nat}(h:aN (bj hp ov nw) x a rd):aN hp (x.over hp.length ov nw) a rd:=by
 refine⟨by rw[(pY x).1]; exact h.1,fun n hn=>?_⟩
 rw[(pY x).2]at hn
 exact h.2 n (List.mem_filter.1 hn).1
theorem aN.YC{hp:ak}{ov:Option (Nat×ba)}{nw:List ba}{α:Type}{x:RM α}{a:α}{rd:List Nat}(h:aN (bj hp ov nw) x a rd):aN hp (x.over hp.length ov nw) a (rd.filter fun n=>Nat.blt n hp.length):=by
 refine⟨by rw[(pY x).1]; exact h.1,fun n hn=>?_⟩
 rw[(pY x).2]at hn
 obtain⟨h1,h2⟩:=List.mem_filter.1 hn
 exact List.mem_filter.2 ⟨h.2 n h1,h2⟩
theorem aN.acW{hp:ak}{α:Type}{x:RM α}{a:α}{rd:List Nat}(h:aN hp x a rd):aN hp x a (rd.filter fun n=>Nat.blt n hp.length):=by
 refine⟨h.1,fun n hn=>List.mem_filter.2 ⟨h.2 n hn,?_⟩⟩
 have:=RM.OP h.1 n hn
 simpa using this
theorem OQ[ah]{P:Program}{hp:ak}{ev:Operand→AV}{nm n ax i j:Nat}{dst:Option Tmp}{t:TypeId}{a x:Operand}{type:TypeId}{pos:String}{after:Array Edge}{guard:Option (Nat×Bool)}{e:eg}
  (he:(aV P nm ev ⟨dst,.store t a x,type,pos,after,guard⟩).run hp=some e) (ha:ev a=.ref n ax i j):∃ o',e.wr=[(n,o')]:=by
 simp only[aV,rz,ha]at he
 split at he
 ·simp[RM.aj]at he
 ·simp only[RM.run_bind]at he
  cases hq:(RM.arr n ax).run hp with
  |none=>rw[hq]at he; simp at he
  |some q=>
   rw[hq]at he
   simp only[Option.bind_some]at he
   split at he
   case h_2=>simp[RM.aj]at he
   split at he
   case h_2=>simp[RM.aj]at he
   split at he
   case isFalse=>simp[RM.aj]at he
   simp only[RM.run_pure,Option.some.injEq]at he
   subst he
   exact⟨_,rfl⟩
theorem LD[ah]{P:Program}{t:TypeId}{a:AV}{hp:ak}{n:Nat}(h:n∈(mA P t a).log hp):n∈names a:=by
 unfold mA at h
 split at h
 ·simp[RM.log]at h
 ·split at h
  ·rw[RM.fN]at h
   simp only[names]
   rcases List.mem_append.1 h with h|h
   ·grind[RM.log,RM.arr]
   ·exfalso
    split at h
    ·unfold RM.iZ at h
     repeat' (split at h)
     all_goals first|(simp[RM.log]at h; done)|skip
    ·simp at h
  ·unfold RM.iZ at h
   split at h<;>simp[RM.log]at h
  ·simp[RM.log]at h
theorem Ku[ah]{T:ej}{P:Program}{s:bQ T.den}{st:St}(h:RS T s st):∀ {rs:List ResultVar},zJ s.fr rs=true→∀ n,n∈(bk P st.fr rs).log st.hp→n∈Kg s.fr rs
 |[],_,n,hn=>by simp[bk,pure,RM.log]at hn
 |r::rs,hl,n,hn=>by
  unfold zJ at hl
  simp only[List.all_cons,Bool.and_eq_true]at hl
  have ih:=Ku (P:=P) h (rs:=rs) (by unfold zJ; exact hl.2) n
  simp only[bk,RM.fN]at hn
  unfold Kg
  rw[List.flatMap_cons]
  rcases List.mem_append.1 hn with hn|hn
  ·refine List.mem_append.2 (.inl ?_)
   cases r with
   |tmp t=>simp[lI,pure,RM.log]at hn
   |cell a t=>
    simp only[lI]at hn
    have hd:cL (dj s.fr a)=false:=by simpa using hl.1
    have:=LD hn
    rw[←R.names ((h.fr a).live hd)]at this
    exact this
  ·split at hn
   ·rcases List.mem_append.1 hn with hn|hn
    ·exact List.mem_append.2 (.inr (ih hn))
    ·split at hn
     ·simp[pure,RM.log]at hn
     ·simp at hn
   ·simp at hn
theorem G4[ah]{T:ej}{H:aq T.den}:∀ {l:List (SV T.den)} {m:List AV},aE (R T H) l m→l.all isHole=true→m.all isAny=true
 |[],[],_,_=>rfl
 |x::xs,y::ys,h,hl=>by
  simp only[List.all_cons,Bool.and_eq_true]at hl ⊢
  refine⟨?_,G4 h.2 hl.2⟩
  have h1:=h.1
  have h2:=hl.1
  unfold isHole at h2
  split at h2
  ·simp only[R]at h1
   rw[h1]; rfl
  ·simp at h2
theorem tz[ah]{T:ej}(hT:T.Ok){Q:iM}(hQ:Q.Ok)(hZ:T.wz Q){ops:Array Oper}{hp:ak}{H:aq T.den}(hH:H.length=hp.length){ρ:Type}{r:ρ}{f:FuncId}:
  ∀ (l:List Oper) (s:bQ T.den) (q:y4) (ov:Option Nat) (rd:List Nat) (K:bQ T.den→Option Nat→List Nat→Tr ρ),RS T s ⟨f,q.fr,bj hp q.ov q.nw⟩→ov=q.ov.map (·.1)→(∀ n o,q.ov=some (n,o)→∃ o0,hp[n]?=some (some o0))→I5 H s.hp →
  (xH Q hp.length l s ov rd K).run=some r →
  ∃ s' LF rd2 q',aN hp (jY Q.P hp.length ops l q) q' rd2∧RS T s' ⟨f,q'.fr,bj hp q'.ov q'.nw⟩∧LF=q'.ov.map (·.1)∧(∀ n o,q'.ov=some (n,o)→∃ o0,hp[n]?=some (some o0))∧I5 H s'.hp∧(K s' LF (rd++rd2)).run=some r
 |[],s,q,ov,rd,K,h,zi,hex,hb,hk=>⟨s,ov,[],q,aN.pure _,h,zi,hex,hb,by rw[List.append_nil]; exact hk⟩
 |o::l,s,q,ov,rd,K,h,zi,hex,hb,hk=>by
  simp only[xH]at hk
  split at hk
  ·simp[Tr.run]at hk
  rename_i hg
  have hw:dg ops q.fr o=some true:=by simp[dg,hg]
  split at hk
  ·simp[Tr.run]at hk
  ·rename_i Ht
   rw[dx]at hk
   have he:RE T s.hp (bj hp q.ov q.nw) (.lit cz) [] ⟨.lit cz,[]⟩:=⟨bC _,h.hp,ep.refl _,fun q h=>by simp at h,fun _ _ _=>rfl,Nat.le_refl _,fun _ _ h=>by simp at h⟩
   obtain⟨g1,_⟩:=h.step he o.dst
   obtain⟨s',LF,rd2,q',i1,i2,i3,i4,i5,hk⟩:=tz hT hQ hZ (ops:=ops) hH l _ { q with fr:=bZ q.fr o.dst (.lit cz) } ov rd K g1 zi hex (by simpa[bQ.step,bu] using hb) hk
   refine⟨s',LF,rd2,q',?_,i2,i3,i4,i5,hk⟩
   simp only[jY,hw,Ht]
   cases hd:o.dst with
   |none=>rw[hd]at i1; exact i1
   |some d=>rw[hd]at i1; exact i1
  ·rename_i hn1 QW
   have hlen:s.hp.length=hp.length+q.nw.length:=h.hp.length.trans qw
   obtain⟨v,wr,rd',e,g1,g2,hk⟩:=IW hT hQ hZ h.hp (.inl rfl) (fun x=>h.ev x) hk
   simp only at hk
   rw[hlen]at g1
   have e1:jY Q.P hp.length ops (o::l) q=((aV Q.P (hp.length+q.nw.length) (aP q.fr) o).over hp.length q.ov q.nw >>= fun e=>match e.wr.all fun q=>Nat.ble hp.length q.1 with
     |true=>jY Q.P hp.length ops l { q with fr:=bZ q.fr o.dst e.val,nw:=rH hp.length q.nw e.wr }
     |false=>(match q.ov,e.wr with
      |none,[(n,o')]=>.get n fun o0=>(match ud Q.P (aP q.fr) o.op n o0 with
        |true=>jY Q.P hp.length ops l { q with fr:=bZ q.fr o.dst e.val,ov:=some (n,o') }
        |false=>.fail)
      |_,_=>.fail)):=by
    simp only[jY,hw]
    rfl
   rw[e1]
   split at hk
   ·rename_i bK
    rw[dx]at hk
    obtain⟨g3,_⟩:=h.step g2 o.dst
    have G5:e.wr.all (fun q=>Nat.ble hp.length q.1)=true:=by
     refine List.all_eq_true.2 fun x hx=>?_
     obtain⟨y,hy,hyx⟩:=List.mem_map.1 (g2.names x hx)
     have:=List.all_eq_true.1 bK y hy
     rw[←hyx]; exact this
    rw[sh e.wr fun x hx=>Nat.le_of_ble_eq_true (List.all_eq_true.1 G5 x hx)]at g3
    have qR:I5 H (s.step o.dst v wr).hp:=by
     intro n hn o' dM
     refine hb n hn o' ?_
     have:n∉wr.map (·.1):=by
      intro hm
      obtain⟨y,hy,rfl⟩:=List.mem_map.1 hm
      have:=Nat.le_of_ble_eq_true (List.all_eq_true.1 bK y hy)
      omega
     rw[←g2.EE n this (by omega)]
     exact dM
    obtain⟨s',LF,rd2,q',i1,i2,i3,i4,i5,hk⟩:=tz hT hQ hZ (ops:=ops) hH l _ { q with fr:=bZ q.fr o.dst e.val,nw:=rH hp.length q.nw e.wr } ov (rd++rd') K g3 zi hex qR hk
    refine⟨s',LF,rd'++rd2,q',?_,i2,i3,i4,i5,by rw[←List.append_assoc]; exact hk⟩
    refine aN.bind g1.over ?_
    simp only[G5]
    exact i1
   ·split at hk
    case h_2=>simp[Tr.run]at hk
    rename_i n o' bK ajr
    split at hk
    case h_2=>simp[Tr.run]at hk
    rename_i hh
    rw[Bool.and_eq_true]at hh
    obtain⟨cr,lQ⟩:=hh
    have cr:n<hp.length:=by simpa using cr
    have Vi:q.ov=none:=by
     cases hq:q.ov with
     |none=>rfl
     |some x=>rw[hq]at zi; simp at zi
    unfold Kf at lQ
    split at lQ
    case h_2=>simp at lQ
    rename_i t a x Ht
    split at lQ
    case h_2=>simp at lQ
    rename_i r0 n' c i j g f cur es TL Yx ya
    split at lQ
    case h_2=>simp at lQ
    rename_i l0 Cp
    simp only[Bool.and_eq_true]at lQ
    obtain⟨⟨⟨⟨c1,c2⟩,c3⟩,c4⟩,c5⟩:=lQ
    obtain rfl:=Nat.eq_of_beq_eq_true c1
    have Qs:=h.ev a
    rw[Yx]at Qs
    have Qs:=Qs.live rfl
    simp only[R]at Qs
    obtain⟨ax,Qs,_⟩:=Qs
    obtain⟨dst,op,type,pos,after,guard⟩:=o
    simp only at Ht
    subst Ht
    obtain⟨o'',Hz⟩:=OQ g1.1 Qs
    obtain⟨ao,K5,eF⟩:=h.hp.obj ya
    obtain⟨es',rfl,cZ,_⟩:=eF
    obtain⟨l1,u7,Kk⟩:=aE.get (bh.1 cZ) Cp
    simp only[R]at Kk
    obtain⟨l',rfl,Kk⟩:=Kk
    rw[Vi]at K5
    have xm:hp[n']?=some (some (.arr g false f es')):=by
     grind[bj,sg]
    obtain⟨r1,yb,_,mE,_⟩:=hQ.row _ _ TL
    have YD:ud Q.P (aP q.fr) (.store t a x) n' (.arr g false f es')=true:=by
     simp only[ud,yb,Qs,u7,Bool.and_eq_true]
     refine⟨⟨c1,?_⟩,?_⟩
     ·rw[←aE.length (bh.1 Kk),mE]; exact c2
     ·rw[mE]
      exact G4 (((bh.1 Kk).drop j).take r0.size) c3
    have G5:e.wr.all (fun q=>Nat.ble hp.length q.1)=false:=by
     simp_all
    rw[dx]at hk
    obtain⟨g3,_⟩:=h.step g2 dst
    simp only at g3
    rw[Hz,Vi,AL xm]at g3
    have qR:I5 H (s.step dst v [(n',o')]).hp:=by
     intro m hm om hom
     by_cases e:m=n'
     ·subst e
      have R0:(bu s.hp [(m,o')])[m]?=some (some om):=hom
      simp only[bu,cd]at R0
      rw[if_neg (by omega),List.getElem?_set_self (by omega)]at R0
      simp only[Option.some.injEq]at R0
      subst R0
      obtain⟨o1,b1,b2,b3⟩:=hb m hm _ ya
      refine⟨o1,b1,b2.trans (Nat.eq_of_beq_eq_true c4),b3.trans (Nat.eq_of_beq_eq_true c5)⟩
     ·refine hb m hm om ?_
      rw[←g2.EE m (by simpa using e) (by omega)]
      exact hom
    obtain⟨s',LF,rd2,q',i1,i2,i3,i4,i5,hk⟩:=tz hT hQ hZ (ops:=ops) hH l _ { q with fr:=bZ q.fr dst e.val,ov:=some (n',o'') } (some n') (rd++(rd'++[n'])) K g3 rfl
     (fun m om hm=>by simp only[Option.some.injEq,Prod.mk.injEq]at hm; obtain⟨rfl,rfl⟩:=hm; exact⟨_,xm⟩) qR hk
    refine⟨s',LF,rd'++(n'::rd2),q',?_,i2,i3,i4,i5,by simpa using hk⟩
    refine aN.bind g1.over ?_
    rw[Hz]at G5
    simp only[Hz,G5,Vi]
    refine aN.get xm ?_
    simp only[YD]
    exact i1
theorem LG[ah]{T:ej}(hT:T.Ok){Q:iM}(hQ:Q.Ok)(hZ:T.wz Q){hp:ak}{H:aq T.den}(hH:H.length=hp.length){ρ:Type}{r:ρ}{f:FuncId}:
  ∀ (c:Code) (s:bQ T.den) (q:y4) (ov:Option Nat) (rd:List Nat) (K:Bool→bQ T.den→Option Nat→List Nat→Tr ρ),RS T s ⟨f,q.fr,bj hp q.ov q.nw⟩→ov=q.ov.map (·.1)→(∀ n o,q.ov=some (n,o)→∃ o0,hp[n]?=some (some o0))→I5 H s.hp →
  (nQ Q hp.length c s ov rd K).run=some r →
  ∃ b s' LF rd2 q',aN hp (iK Q.P hp.length c q) (q',b) rd2∧RS T s' ⟨f,q'.fr,bj hp q'.ov q'.nw⟩∧LF=q'.ov.map (·.1)∧(∀ n o,q'.ov=some (n,o)→∃ o0,hp[n]?=some (some o0))∧I5 H s'.hp∧(K b s' LF (rd++rd2)).run=some r:=by
 intro c
 induction c with
 |skip=>intro s q ov rd K h zi hex hb hk; exact⟨false,s,ov,[],q,aN.pure _,h,zi,hex,hb,by rw[List.append_nil]; exact hk⟩
 |ret=>intro s q ov rd K h zi hex hb hk; exact⟨true,s,ov,[],q,aN.pure _,h,zi,hex,hb,by rw[List.append_nil]; exact hk⟩
 |seq a b JV HA=>
  intro s q ov rd K h zi hex hb hk
  simp only[nQ]at hk
  obtain⟨z,s1,WO,WQ,q1,g1,g2,g3,g4,g5,hk⟩:=JV s q ov rd _ h zi hex hb hk
  cases z with
  |true=>exact⟨true,s1,WO,WQ++[],q1,by simp only[iK]; exact aN.bind g1 (aN.pure _),g2,g3,g4,g5,by rw[List.append_nil]; exact hk⟩
  |false=>
   obtain⟨z,s2,ov2,rd2,q2,i1,i2,i3,i4,i5,hk⟩:=HA s1 q1 WO _ K g2 g3 g4 g5 hk
   exact⟨z,s2,ov2,WQ++rd2,q2,by simp only[iK]; exact aN.bind g1 i1,i2,i3,i4,i5,by rw[←List.append_assoc]; exact hk⟩
 |cond o a b JV HA=>
  intro s q ov rd K h zi hex hb hk
  simp only[nQ]at hk
  split at hk
  ·rename_i t hs
   have ha:=(h.ev o).live (by rw[hs]; rfl)
   rw[hs]at ha
   have ha:aP q.fr o=.lit (.bool t):=ha
   rcases gz hk with ⟨rfl,hk⟩|⟨rfl,hk⟩
   ·obtain⟨z,s1,WO,WQ,q1,g1,g⟩:=JV s q ov rd K h zi hex hb hk
    exact⟨z,s1,WO,WQ,q1,by simp only[iK,ha]; exact g1,g⟩
   ·obtain⟨z,s1,WO,WQ,q1,g1,g⟩:=HA s q ov rd K h zi hex hb hk
    exact⟨z,s1,WO,WQ,q1,by simp only[iK,ha]; exact g1,g⟩
  ·simp[Tr.run]at hk
 |region id ops draw=>
  intro s q ov rd K h zi hex hb hk
  cases draw with
  |true=>simp[nQ,Tr.run]at hk
  |false=>
   simp only[nQ]at hk
   obtain⟨s',LF,rd2,q',g1,g2,g3,g4,g5,hk⟩:=tz hT hQ hZ (ops:=ops) hH ops.toList s q ov rd _ h zi hex hb hk
   exact⟨false,s',LF,rd2++[],q',by simp only[iK]; exact aN.bind g1 (aN.pure _),g2,g3,g4,g5,by rw[List.append_nil]; exact hk⟩
 |_=>intro s q ov rd K h zi hex hb hk; simp[nQ,Tr.run]at hk
section
variable {T:ej}
theorem aE.sK{α β:Type}{P:α→β→Prop}:∀ {l:List α} {m:List β},aE P l m→∀ {i:Nat} {x:α} {y:β},m[i]?=some y→P x y→aE P (l.set i x) m
 |_::_,_::_,h,0,x,y,hy,hp=>by simp at hy; subst hy; exact⟨hp,h.2⟩
 |_::_,_::_,h,i+1,x,y,hy,hp=>⟨h.1,aE.sK h.2 (by simpa using hy) hp⟩
 |[],[],_,_,_,_,hy,_=>by simp at hy
theorem xU[ah]{s:bQ T.den}{st:St}(h:RS T s st){n:Nat}{o o':aK T.den}(ho:s.hp[n]?=some (some o))(hc:o'.cur=o.cur)(hl:o'.len=o.len)(pv:o.isRec=false)
  (hr:∀ a,RO T s.hp o a→RO T s.hp o' a):RS T { s with hp:=s.hp.set n (some o'),wh:=n::s.wh } st∧bx s { s with hp:=s.hp.set n (some o'),wh:=n::s.wh }:=by
 have hn:=(List.getElem?_eq_some_iff.1 ho).1
 obtain⟨a,ha,hra⟩:=h.hp.obj ho
 have hg:ep s.hp (s.hp.set n (some o')):=by
  intro m x hm
  by_cases e:m=n
  ·simp_all
  ·grind
 refine⟨⟨h.fn,h.n,fun t=>(h.fr t).mono hg,?_,h.js.EE fun m hm=>⟨?_,rfl⟩⟩,⟨rfl,rfl,fun _ _=>rfl,fun _ h=>h,fun m hm hw=>?_,fun m hm=>List.mem_cons_of_mem _ hm,by simp,hg⟩⟩
 ·exact aE.sK (aE.mono (fun _ _ h=>EA.mono hg h) h.hp) (y:=some a) ha (EA.mono hg (show EA T s.hp (some o') (some a) from hr a hra))
 ·have dP:m≠n:=by
   grind[recAt]
  rw[List.getElem?_set_ne (Ne.symm dP)]
 ·simp only at hw ⊢
  rw[List.getElem?_set_ne (fun e=>hw (by rw[e]; simp))]
theorem uZ[ah]{s:bQ T.den}{st:St}(h:RS T s st){d:Nat}{v:SV T.den}(hr:∀ a,R T s.hp (dj s.fr d) a→R T s.hp v a)(hd:cL (dj s.fr d)=false):
  RS T { s with fr:=wj s.n s.fr d v,wf:=d::s.wf } st∧bx s { s with fr:=wj s.n s.fr d v,wf:=d::s.wf }:=by
 refine⟨⟨h.fn,h.n,fun t=>?_,h.hp,h.js⟩,⟨rfl,rfl,fun t ht=>?_,fun t ht=>List.mem_cons_of_mem _ ht,fun _ _ _=>rfl,fun _ h=>h,Nat.le_refl _,ep.refl _⟩⟩
 ·simp only
  rw[mf]
  split
  ·rename_i e
   rw[e.1]
   exact .inr (hr _ ((h.fr d).live hd))
  ·exact h.fr t
 ·simp only at ht ⊢
  rw[mf,if_neg]
  exact fun e=>ht (by rw[e.1]; simp)
theorem u0[ah]{s:bQ T.den}{st:St}(h:RS T s st){d j:Nat}{v v':SV T.den}(hc:cellOf s d j=some v)(hd:cL v=false)(hr:∀ a,R T s.hp v a→R T s.hp v' a)(og:aM v'=true):
  RS T (setCell s d j v') st∧bx s (setCell s d j v'):=by
 unfold cellOf at hc
 unfold setCell
 split at hc
 ·rename_i n c i k he
  split at hc
  case h_2=>simp at hc
  rename_i g cl f cur es ho
  split at hc
  case h_2=>simp at hc
  rename_i l hl
  refine xU h ho rfl (by simp[aK.len]) rfl fun a ha=>?_
  obtain⟨es',rfl,h1,h2⟩:=ha
  obtain⟨ea,h3,h4⟩:=aE.get (bh.1 h1) hl
  simp only[R]at h4
  obtain⟨l',rfl,h5⟩:=h4
  obtain⟨b,h6,h7⟩:=aE.get (bh.1 h5) hc
  refine⟨es',rfl,bh.2 (aE.sK (bh.1 h1) h3 ?_),fun acX=>?_⟩
  ·simp only[R]
   exact⟨l',rfl,bh.2 (aE.sK (bh.1 h5) h6 (hr _ h7))⟩
  ·have h8:=h2 acX
   rw[kv,List.all_eq_true]at h8 ⊢
   intro x hx
   rcases List.mem_or_eq_of_mem_set hx with hx|rfl
   ·exact h8 x hx
   ·have h9:=h8 _ (List.mem_of_getElem? hl)
    simp only[aM]at h9 ⊢
    rw[kv,List.all_eq_true]at h9 ⊢
    intro y hy
    rcases List.mem_or_eq_of_mem_set hy with hy|rfl
    ·exact h9 y hy
    ·exact og
 ·rename_i l he
  refine uZ h (fun a ha=>?_) (by rw[he]; rfl)
  rw[he]at ha
  simp only[R]at ha ⊢
  obtain⟨l',rfl,h5⟩:=ha
  obtain⟨b,h6,h7⟩:=aE.get (bh.1 h5) hc
  exact⟨l',rfl,bh.2 (aE.sK (bh.1 h5) h6 (hr _ h7))⟩
 ·rename_i h1 h2
  split at hc
  case h_2=>simp at hc
  simp only[Option.some.injEq]at hc
  subst hc
  exact uZ h hr hd
theorem G6{ρ:Type}{r:ρ}{n:Int}{K:Int→Tr ρ}:∀ {b m:Nat},(Of b m n K).run=some r→∃ m':Nat,n=Int.ofNat m'∧(K (Int.ofNat m')).run=some r
 |0,m,h=>by simp[Of,Tr.run]at h
 |b+1,m,h=>by
  simp only[Of,Tr.run]at h
  cases hb:n==Int.ofNat m with
  |true=>
   rw[hb]at h
   exact⟨m,eq_of_beq hb,h⟩
  |false=>
   rw[hb]at h
   exact G6 h
theorem BI{α:Type}:∀ {l:List α} {i:Nat} {x:α},l[i]?=some x→l.drop i=x::l.drop (i+1)
 |y::ys,0,x,h=>by simp at h; subst h; simp
 |y::ys,i+1,x,h=>by simp at h ⊢; exact BI h
 |[],i,x,h=>by simp at h
theorem xV[ah]{ρ:Type}{r:ρ}{t:Nat}{l:List (T.den t)}:∀ {n i:Nat} {K:List (SV T.den)→Tr ρ},(F9 t l n i K).run=some r→∃ xs:List (T.den t),xs.length=n∧(l.drop i).take n=xs∧(K (xs.map (T.up t))).run=some r
 |0,i,K,h=>⟨[],rfl,by simp,h⟩
 |n+1,i,K,h=>by
  simp only[F9,Tr.run,Option.bind_eq_some_iff]at h
  obtain⟨x,hx,h⟩:=h
  obtain⟨xs,h1,h2,h3⟩:=xV h
  refine⟨x::xs,by simp[h1],?_,h3⟩
  rw[BI hx,List.take_succ_cons,h2]
theorem OS[ah](hT:T.Ok){H:aq T.den}{t:Nat}:∀ {l:List (T.den t)} {m:List AV},aE (T.rp t) l m→RL T H (l.map (T.up t)) m∧aD (l.map (T.up t))=true
 |[],[],_=>by simp[RL,aD]
 |x::xs,y::ys,h=>by
  obtain⟨h1,h2⟩:=OS hT (H:=H) h.2
  simp only[List.map_cons,RL,aD,Bool.and_eq_true]
  exact⟨⟨hT.up _ _ _ H h.1,h1⟩,xL hT h.1,h2⟩
theorem OT[ah](hT:T.Ok){ρ:Type}{r:ρ}{w:Tw}{K:bQ T.den→Tr ρ}{s:bQ T.den}{st:St}(h:RS T s st)(hk:(Be s w K).run=some r):∃ s',RS T s' st∧bx s s'∧(K s').run=some r:=by
 cases w with
 |num d j b=>
  simp only[Be]at hk
  split at hk
  case h_2=>simp[Tr.run]at hk
  rename_i k n hc
  obtain⟨m,rfl,DP⟩:=G6 hk
  clear hk
  have hk:=DP
  rw[force_eq]at hk
  obtain⟨h1,h2⟩:=u0 h hc rfl (v':=.lit (.int k (Int.ofNat m))) (fun a ha=>ha) rfl
  exact⟨_,h1,h2,hk⟩
 |lst d j n=>
  simp only[Be]at hk
  split at hk
  case h_2=>simp[Tr.run]at hk
  rename_i t l hc
  obtain⟨g1,hk⟩:=bp hk
  simp only[Bool.and_eq_true,decide_eq_true_eq]at g1
  obtain⟨g0,g1⟩:=g1
  have g0:0<n:=by simpa using g0
  obtain⟨xs,e1,e2,hk⟩:=xV hk
  rw[List.drop_zero,←g1,List.take_length]at e2
  subst e2
  rw[force_eq]at hk
  have og:aM (.sl (l.map (T.up t)):SV T.den)=true:=rfl
  obtain⟨h1,h2⟩:=u0 h hc rfl (v':=.sl (l.map (T.up t))) (fun a ha=>by
   simp only[R]at ha ⊢
   rcases ha with ⟨l',rfl,ha⟩|⟨rfl,_⟩
   ·obtain⟨b1,b2⟩:=OS hT (H:=s.hp) ha
    exact⟨l',rfl,b1,b2⟩
   ·simp at g1; omega) og
  exact⟨_,h1,h2,hk⟩
 |arr d n=>
  simp only[Be]at hk
  split at hk
  case h_2=>simp[Tr.run]at hk
  split at hk
  case h_2=>simp[Tr.run]at hk
  rename_i g f cur t l ho
  obtain⟨g1,hk⟩:=bp hk
  simp only[decide_eq_true_eq]at g1
  obtain⟨xs,e1,e2,hk⟩:=xV hk
  rw[List.drop_zero,←g1,List.take_length]at e2
  subst e2
  rw[force_eq]at hk
  obtain⟨h1,h2⟩:=xU h ho (o':=.arr g true f cur (l.map (T.up t))) rfl (by simp[aK.len]) rfl (fun a ha=>by
   obtain⟨es',rfl,ha⟩:=ha
   obtain⟨b1,b2⟩:=OS hT (H:=s.hp) ha
   exact⟨es',rfl,b1,fun _=>b2⟩)
  exact⟨_,h1,h2,hk⟩
 |int d j=>
  simp only[Be]at hk
  split at hk
  case h_2=>simp[Tr.run]at hk
  rename_i k n hc
  simp only[Tr.run,Option.bind_some]at hk
  rw[force_eq]at hk
  obtain⟨h1,h2⟩:=u0 h hc rfl (v':=.lit (.int k n)) (fun a ha=>ha) rfl
  exact⟨_,h1,h2,hk⟩
 |name d=>
  simp only[Be]at hk
  split at hk
  case h_2=>simp[Tr.run]at hk
  rename_i esz nm c rg cap hd
  split at hk
  case h_2=>simp[Tr.run]at hk
  rename_i g f cur t l ho
  simp only[Tr.run,Option.bind_some]at hk
  obtain⟨h1,h2⟩:=xU h ho (o':=.cE g f cur t l) rfl rfl rfl (fun a ha=>ha)
  split at hk
  ·rw[force_eq]at hk
   exact⟨_,h1,h2,hk⟩
  ·rename_i off len
   simp only[Tr.run,Option.bind_some]at hk
   rw[force_eq]at hk
   obtain⟨h3,h4⟩:=uZ h1 (d:=d) (v:=.bw esz nm c (some (off,len)) cap) (fun a ha=>by simp only[hd]at ha; exact ha) (by simp only[hd]; rfl)
   exact⟨_,h3,h2.trans h4,hk⟩
theorem ER[ah](hT:T.Ok){ρ:Type}{r:ρ}{K:bQ T.den→Tr ρ}{st:St}:∀ {l:List Tw} {s:bQ T.den},RS T s st→(XZ l s K).run=some r→∃ s',RS T s' st∧bx s s'∧(K s').run=some r
 |[],s,h,hk=>⟨s,h,bx.refl _,hk⟩
 |w::l,s,h,hk=>by
  obtain⟨s1,h1,h2,hk⟩:=OT hT h hk
  obtain⟨s2,h3,h4,hk⟩:=ER hT h1 hk
  exact⟨s2,h3,h2.trans h4,hk⟩
theorem Vj[ah](hT:T.Ok){ρ:Type}{r:ρ}{l:Tmp→List Tw}{dst:Option Tmp}{K:bQ T.den→Tr ρ}{s:bQ T.den}{st:St}(h:RS T s st)(hk:(X0 l dst s K).run=some r):∃ s',RS T s' st∧bx s s'∧(K s').run=some r:=by
 cases dst with
 |none=>exact⟨s,h,bx.refl _,hk⟩
 |some d=>exact ER hT h hk
end
theorem xW[ah]{T:ej}{ρ:Type}{r:ρ}{K:bQ T.den→Tr ρ}:∀ {l:List (Nat×Nat)} {s:bQ T.den} {st:St},RS T s st→(Bd l s K).run=some r→∃ s',RS T s' (iR l st)∧bx s s'∧(K s').run=some r
 |[],s,st,h,hk=>⟨s,h,bx.refl _,hk⟩
 |(d,j)::l,s,st,h,hk=>by
  unfold Bd at hk
  have hd:=h.fr d
  split at hk
  case h_2=>simp[Tr.run]at hk
  rename_i n c i k he
  rw[he]at hd
  have hd:=hd.live rfl
  simp only[R]at hd
  obtain⟨ax,hd,cI⟩:=hd
  split at hk
  case h_2=>simp[Tr.run]at hk
  rename_i g cl f cur es ho
  obtain⟨ao,dM,eF⟩:=h.hp.obj ho
  obtain⟨es',rfl,cZ,og⟩:=eF
  split at hk
  case h_2=>simp[Tr.run]at hk
  rename_i e' JK
  obtain⟨e,Mq,AI⟩:=Option.bind_eq_some_iff.1 JK
  obtain⟨ea,Yx,HE⟩:=aE.get (bh.1 cZ) Mq
  unfold Da at AI
  split at AI
  case h_2=>simp at AI
  rename_i l0
  split at AI
  case h_2=>simp at AI
  rename_i hjl
  simp only[Option.some.injEq]at AI
  subst AI
  simp only[R]at HE
  obtain⟨l',rfl,Kk⟩:=HE
  have hn:=(List.getElem?_eq_some_iff.1 ho).1
  have acY:Nat.blt (k+j) l'.length=true:=by rw[←aE.length (bh.1 Kk)]; exact hjl
  have IQ:oe st d j={ st with hp:=st.hp.set n (some (.arr g false f (es'.set i (.agg (l'.set (k+j) .any))))) }:=by
   unfold oe
   rw[hd]
   simp only[dM,Yx,Option.bind_some,vo,acY]
  rw[dx]at hk
  have hg:ep s.hp (s.hp.set n (some (.arr g false f cur (es.set i (.agg (l0.set (k+j) .hole)))))):=by
   intro m o hm
   by_cases e:m=n
   ·subst e
    rw[ho]at hm
    simp only[Option.some.injEq]at hm
    subst hm
    exact⟨_,List.getElem?_set_self hn,Nat.le_refl _,fun _=>by simp[aK.len]⟩
   ·grind
  have eF:RO T (s.hp.set n (some (.arr g false f cur (es.set i (.agg (l0.set (k+j) .hole)))))) (.arr g false f cur (es.set i (.agg (l0.set (k+j) .hole)))) (.arr g false f (es'.set i (.agg (l'.set (k+j) .any)))):=by
   refine⟨_,rfl,bh.2 (((bh.1 cZ).mono fun _ _ h=>h.mono hg).set i ?_),fun h=>by cases h⟩
   simp only[R]
   exact⟨_,rfl,bh.2 (((bh.1 Kk).mono fun _ _ h=>h.mono hg).set (k+j) (by simp[R]))⟩
  have fW:bu s.hp [(n,.arr g false f cur (es.set i (.agg (l0.set (k+j) .hole))))]=s.hp.set n (some (.arr g false f cur (es.set i (.agg (l0.set (k+j) .hole))))):=by
   grind[bu,cd]
  have S9:av st.hp [(n,.arr g false f (es'.set i (.agg (l'.set (k+j) .any))))]=st.hp.set n (some (.arr g false f (es'.set i (.agg (l'.set (k+j) .any))))):=by
   simp only[av]
   exact jK (List.getElem?_eq_some_iff.1 dM).1
  have hE:RE T s.hp st.hp (.lit undef) [(n,.arr g false f cur (es.set i (.agg (l0.set (k+j) .hole))))] ⟨.undef,[(n,.arr g false f (es'.set i (.agg (l'.set (k+j) .any))))]⟩:=by
   refine⟨bC _,?_,by rw[fW]; exact hg,fun q hq=>by simp only[List.mem_singleton]at hq; subst hq; simp,fun m hm hl=>?_,by rw[fW]; simp,fun m hm hc=>?_⟩
   ·rw[fW,S9]
    exact(aE.mono (fun _ _ h=>EA.mono hg h) h.hp).set n eF
   ·grind
   ·simp_all[aK.isRec,recAt]
  obtain⟨g1,g2⟩:=h.step hE none
  rw[S9]at g1
  have Rb:RS T (s.step none (.lit undef) [(n,.arr g false f cur (es.set i (.agg (l0.set (k+j) .hole))))]) (oe st d j):=by
   rw[IQ]; exact g1
  obtain⟨s',i1,i2,i3⟩:=xW Rb hk
  exact⟨s',i1,g2.trans i2,i3⟩
section
variable [ah]{S:rl}(hS:S.Ok)
include hS
theorem Vk(f:FuncId):(S.Qf f).Ok:=⟨hS.Q.row,hS.Q.kind,hS.Q.SQ,hS.Q.map⟩
theorem OU{ρ:Type}{r:ρ}{g:FuncId}{args:List (SV S.T.den)}{as:List AV}{H:aq S.T.den}{hp:ak}{K:EK S.T ρ}(hh:RH S.T H hp)(ha:RL S.T H args as)(hk:(Oh S g args H K).run=some r):
  S.C.kind g=.imp∧S.C.rB g=none∧∃ v rd e,aN hp (BV S.C.P hp.length g as) e rd∧RE S.T H hp v [] e∧(K v [] rd).run=some r:=by
 unfold Oh at hk
 split at hk
 case h_2=>simp[Tr.run]at hk
 rename_i fn hkd Vl tD
 split at hk
 case h_2=>simp[Tr.run]at hk
 rename_i c hc
 split at hk
 case h_1=>simp[Tr.run]at hk
 rename_i hD
 have lQ:=BD (f:=g) ha hh fn.ntmps [] (js:=[]) (fun n st h=>by cases h)
 have hlen:H.length=hp.length:=hh.length
 have el:bj hp none []=hp:=by simp[bj,sg]
 rw[hlen]at hk
 obtain⟨b,s',ov,rd2,q,g1,g2,g3,g4,g5,hk⟩:=LG hS.T (Vk hS g) hS.Z hlen (f:=g) c _ ⟨as++List.replicate (fn.ntmps-as.length) .undef,none,[]⟩ none _ _ (by simp only[el]; exact lQ) rfl (fun n o h=>by cases h) (fun n hn o ho=>⟨o,ho,rfl,rfl⟩) hk
 obtain⟨l,m,i1,i2,hk⟩:=qL hS.T hS.Q g2 hk
 have i1':(bk S.C.P q.fr fn.results.toList).run (bj hp q.ov q.nw)=some m:=i1
 split at hk
 case h_2=>simp[Tr.run]at hk
 rename_i Ij
 simp only[Bool.and_eq_true]at Ij
 obtain⟨⟨c1,c2⟩,c3⟩:=Ij
 have hR0:=Kl i2
 have hR:R S.T H (tF l) (cY m):=R.back g5 hR0 (by rw[hlen]; exact c1)
 refine⟨hkd,Vl,tF l,_,⟨cY m,[]⟩,?_,⟨.inr hR,hh,ep.refl _,fun q h=>by simp at h,fun _ _ _=>rfl,Nat.le_refl _,fun _ _ h=>by simp at h⟩,hk⟩
 unfold BV
 rw[tD]
 simp only
 rw[hc]
 simp only
 rw[hD]
 simp only
 have I4:(below hp.length (cY m)&&(match q.ov with
    |some (_,o)=>o.below hp.length
    |none=>true))=true:=by
  rw[Bool.and_eq_true]
  refine⟨by rw[←R.below hR0]; exact c1,?_⟩
  cases hq:q.ov with
  |none=>rfl
  |some x=>
   obtain⟨n,o⟩:=x
   simp only
   rw[hq]at g3
   simp only[Option.map_some]at g3
   rw[g3]at c3
   simp only at c3
   split at c3
   case h_2=>simp at c3
   rename_i so To
   obtain⟨o0,ho0⟩:=g4 n o hq
   obtain⟨ao,hao,ac1⟩:=aE.get g2.hp To
   have cr:=(List.getElem?_eq_some_iff.1 ho0).1
   have:(bj hp q.ov q.nw)[n]?=some (some o):=by
    rw[hq]
    simp only[bj,sg,ho0]
    rw[List.getElem?_append_left (by simpa using cr),List.getElem?_set_self cr]
   rw[this]at hao
   simp only[Option.some.injEq]at hao
   subst hao
   have:=Dn hS.T ac1 (n:=hp.length)
   rw[c3]at this
   exact this.symm
 have y1:aN hp (iK S.C.P hp.length c ⟨as++List.replicate (fn.ntmps-as.length) .undef,none,[]⟩) (q,b) rd2:=g1
 have y2:aN hp ((bk S.C.P q.fr fn.results.toList).over hp.length q.ov q.nw) m ((Kg s'.fr fn.results.toList).filter fun n=>Nat.blt n hp.length):=
  aN.YC ⟨i1',fun n hn=>Ku g2 c2 n hn⟩
 have y3:=aN.bind (y1.acW) (f:=fun q=>(bk S.C.P q.1.fr fn.results.toList).over hp.length q.1.ov q.1.nw >>= fun l=>match below hp.length (cY l)&&(match q.1.ov with
    |some (_,o)=>o.below hp.length
    |none=>true) with
   |true=>(pure ⟨cY l,[]⟩:RM eg)
   |false=>.fail) (aN.bind y2 (f:=fun l=>match below hp.length (cY l)&&(match q.ov with
    |some (_,o)=>o.below hp.length
    |none=>true) with
   |true=>(pure ⟨cY l,[]⟩:RM eg)
   |false=>.fail) (b:=⟨cY m,[]⟩) (rd':=[]) (by simp only[I4]; exact aN.pure _))
 rw[List.append_nil,←List.filter_append]at y3
 exact y3
theorem Vm{ρ:Type}{r:ρ}{nm:Nat}{o:Oper}{s:bQ S.T.den}{st:St}{K:EK S.T ρ}(h:RS S.T s st)(hn:nm=s.hp.length∨s.hp[nm]?=some none)(qm:aC o.op=false→nm=s.hp.length)(hk:(exE S nm o s K).run=some r):
  ∃ v wr rd e lg,KP S.C nm o st.fr st.hp=some (e,lg)∧(∀ n,n∈lg→n∈rd)∧RE S.T s.hp st.hp v wr e∧(K v wr rd).run=some r:=by
 have plain:(∀ c f,o.op=.call c→c.callee=.value f→False)→(∀ c m i,o.op=.call c→c.callee=.invoke m i→False)→(Rv (S.Qf s.fn) nm s.hp (ga s.fr) o K).run=some r →
   ∃ v wr rd e lg,KP S.C nm o st.fr st.hp=some (e,lg)∧(∀ n,n∈lg→n∈rd)∧RE S.T s.hp st.hp v wr e∧(K v wr rd).run=some r:=by
  intro h1 h2 hk
  obtain⟨v,wr,rd,e,g1,g2,g3⟩:=IW hS.T (Vk hS s.fn) (Q:=S.Qf s.fn) hS.Z h.hp hn (fun x=>h.ev x) hk
  refine⟨v,wr,rd,e,_,?_,g1.2,g2,g3⟩
  rw[HZ h1 h2]
  have:=g1.1
  rw[show (S.Qf s.fn).P=S.C.P from rfl]at this
  rw[this]
  rfl
 unfold exE at hk
 split at hk
 ·rename_i c hc
  split at hk
  ·rename_i b hb
   exact plain (fun c' f h1 h2=>by rw[hc]at h1; simp only[Op.call.injEq]at h1; subst h1; rw[hb]at h2; cases h2) (fun c' m i h1 h2=>by rw[hc]at h1; simp only[Op.call.injEq]at h1; subst h1; rw[hb]at h2; cases h2) hk
  ·rename_i f hf
   split at hk
   ·simp[Tr.run]at hk
   rename_i g args hg
   split at hk
   ·rename_i ui
    split at hk
    case h_2=>simp[Tr.run]at hk
    rename_i σ hd hσ
    obtain⟨m,Hy,CJ⟩:=ij (h.ev f) (mX (fun x=>h.ev x) c.args.toList) hg
    obtain⟨v,wr,rd,e,lg,g2,g3,g4,g5⟩:=Kn hS.T (hS.own g σ hσ) h.hp hn (CJ hd) hk
    refine⟨v,wr,rd,_,lg,?_,g3,g4,g5⟩
    obtain⟨dst,op,type,pos,after,guard⟩:=o
    simp only at hc ui
    subst hc
    obtain⟨callee,qg,ru⟩:=c
    simp only at hf
    subst hf
    rw[xe,Hy,ui]
    exact g2
   rename_i ui
   split at hk
   case h_3=>simp[Tr.run]at hk
   case h_2=>
    rename_i hd _
    obtain⟨m,Hy,CJ⟩:=ij (h.ev f) (mX (fun x=>h.ev x) c.args.toList) hg
    obtain⟨hkd,Vl,v,rd,e,g1,g2,hk⟩:=OU hS h.hp (CJ hd) hk
    rw[show st.hp.length=nm from by rw[qm (by assumption),h.hp.length]]at g1
    refine⟨v,[],rd,e,_,?_,g1.2,g2,hk⟩
    obtain⟨dst,op,type,pos,after,guard⟩:=o
    simp only at hc ui
    subst hc
    obtain⟨callee,qg,ru⟩:=c
    simp only at hf
    subst hf
    rw[xe,Hy,ui]
    simp only[Option.bind_some,Ak,hkd,Vl,g1.1,Option.map_some]
   rename_i σ hd hσ
   obtain⟨m,Hy,CJ⟩:=ij (h.ev f) (mX (fun x=>h.ev x) c.args.toList) hg
   obtain⟨v,wr,rd,a,w,lg,_,g2,g3,g4,g5⟩:=Ko hS.T (hS.sum g σ hσ) h.hp (CJ hd) hk
   refine⟨v,wr,rd,_,lg,?_,g3,g4,g5⟩
   obtain⟨dst,op,type,pos,after,guard⟩:=o
   simp only at hc ui
   subst hc
   obtain⟨callee,qg,ru⟩:=c
   simp only at hf
   subst hf
   rw[xe,Hy,ui]
   exact g2 nm
  ·simp[Tr.run]at hk
 ·rename_i QI
  exact plain (fun c' f h1 _=>QI c' h1) (fun c' m i h1 _=>QI c' h1) hk
theorem Vn{k:Nat}(ih:qO S k){ρ:Type}{o:Oper}{s:bQ S.T.den}{K:bQ S.T.den→Tr ρ}{r:ρ}{st:St}(h:RS S.T s st)(hk:(RA S (k+1) ρ o s K).run=some r):
  ∃ s' st',jv S.C o st=some (.norm st')∧RS S.T s' st'∧bx s s'∧(K s').run=some r:=by
 have plain:sR o.op=true→(Rv (S.Qf s.fn) s.hp.length s.hp (ga s.fr) o fun v wr _=>s.ia o.dst v wr fun s=>F8 (match o.op with|.call _=>fun _=>[]|_=>S.C.tB s.fn) o.dst s
    fun s=>X0 (match o.op with|.call _=>fun _=>[]|_=>S.tw s.fn) o.dst s K).run=some r →
   ∃ s' st',jv S.C o st=some (.norm st')∧RS S.T s' st'∧bx s s'∧(K s').run=some r:=by
  intro h1 hk
  obtain⟨v,wr,rd,e,g1,g2,g3⟩:=IW hS.T (Vk hS s.fn) (Q:=S.Qf s.fn) hS.Z h.hp (.inl rfl) (fun x=>h.ev x) hk
  replace g3:(s.ia o.dst v wr fun s=>F8 (match o.op with|.call _=>fun _=>[]|_=>S.C.tB s.fn) o.dst s
    fun s=>X0 (match o.op with|.call _=>fun _=>[]|_=>S.tw s.fn) o.dst s K).run=some r:=g3
  rw[dx]at g3
  obtain⟨g4,g5⟩:=h.step g2 o.dst
  have tD:(s.step o.dst v wr).fn=st.fn:=h.fn
  rw[tD]at g3
  obtain⟨s1,i1,i2,i3⟩:=ON hS.T g4 g3
  obtain⟨s',j1,j2,j3⟩:=Vj hS.T i1 i3
  refine⟨s',_,?_,j1,g5.trans (i2.trans j2),j3⟩
  rw[Ai h1]
  have:=g1.1
  rw[h.hp.length]at this
  rw[show (S.Qf s.fn).P=S.C.P from rfl]at this
  rw[this]
  rfl
 unfold RA at hk
 obtain⟨dst,op,type,pos,after,guard⟩:=o
 simp only at hk
 split at hk
 ·rename_i c
  obtain⟨callee,qg,ru⟩:=c
  split at hk
  ·rename_i b hb
   simp only at hb
   subst hb
   refine plain rfl ?_
   have e:(fun (s:bQ S.T.den)=>F8 (fun _=>[]) dst s fun s=>X0 (fun _=>[]) dst s K)=K:=by
    funext s
    cases dst<;>rfl
   simp only[e]
   exact hk
  ·rename_i f hf
   simp only at hf
   subst hf
   split at hk
   ·-- a round of a range over a function
    split at hk
    case h_2=>simp[Tr.run]at hk
    rename_i n hn
    have Ik:=(h.ev f).live (by rw[hn]; rfl)
    rw[hn]at Ik
    simp only[R]at Ik
    split at hk
    case h_2=>simp[Tr.run]at hk
    rename_i fn ps as bd fr ho hj OV
    split at hk
    case h_2=>simp[Tr.run]at hk
    rename_i hc
    simp only[Bool.and_eq_true]at hc
    obtain⟨⟨Wx,Qe⟩,Yf⟩:=hc
    rw[force_eq]at hk
    have ot:=na (mX (fun x=>h.ev x) qg.toList) OV
    obtain⟨ao,dM,eF⟩:=h.hp.obj ho
    obtain⟨x,vs,rfl,rb⟩:=eF
    obtain⟨Wy,Wz⟩:=h.js n _ hj
    have hx:x=.ready:=by
     simp_all[jZ]
    subst hx
    have hlen:vs.length=fr.length:=rb.length.symm
    obtain⟨p1,p2⟩:=Dt (ps:=ps.toList) (xs:=qg.toList.map (ga s.fr)) (as:=qg.toList.map (aP st.fr)) (n:=fr.length) (fr:=oI 0 fr) (fa:=vs) (H:=s.hp) hlen (fun t=>by
     rw[xS]
     simp only[Nat.zero_le,if_true,Nat.sub_zero,List.getD_eq_getElem?_getD]
     cases hq:vs[t]? with
     |none=>
      have:fr[t]?=none:=by rw[List.getElem?_eq_none_iff]at hq ⊢; omega
      rw[this]
      exact bC undef
     |some a=>
      obtain⟨v,hv,hr⟩:=aE.get' rb hq
      rw[hv]
      rcases hr with ⟨rfl,_⟩|hr
      ·exact .inl rfl
      ·exact .inr hr) ot
    have Q2:RS S.T ⟨fn,fr.length,nP fr.length (oI 0 fr) ps.toList (qg.toList.map (ga s.fr)),s.hp,[],s.wh,s.js⟩ ⟨fn,gG vs ps.toList (qg.toList.map (aP st.fr)),st.hp⟩:=⟨rfl,p1,p2,h.hp,h.js⟩
    obtain⟨so1,o1,a1,a2,a3,hk⟩:=ih.c _ _ _ _ _ _ Q2 hk
    cases so1 with
    |exit id s1=>simp[Tr.run]at hk
    |ret s1=>simp[Tr.run]at hk
    |norm s1=>
    obtain⟨st1,rfl,qV⟩:=a2
    simp only at hk
    split at hk
    case h_2=>simp[Tr.run]at hk
    rename_i yb
    obtain⟨_,u7⟩:=qV.js n _ yb
    obtain⟨b1,b2⟩:=Kt qV.hp qV.js yb .busy
    have ac2:RS S.T { s1 with js:=Ez s1.js n .busy } { st1 with hp:=qQ st1.hp n .busy }:=⟨qV.fn,qV.n,qV.fr,b1,b2⟩
    obtain⟨Vo,o2,c1,c2,c3,hk⟩:=ih.c _ _ _ _ _ _ ac2 hk
    have key:∀ (s2:bQ S.T.den),bx { s1 with js:=Ez s1.js n .busy } s2→ep s.hp s2.hp∧s.hp.length≤s2.hp.length∧(∀ m:Nat,m<s.hp.length→m∉s2.wh→s2.hp[m]?=s.hp[m]?)∧∀ m,m∈s.wh→m∈s2.wh:=by
     intro s2 sP
     refine⟨a3.grow.trans sP.grow,Nat.le_trans a3.len sP.len,fun m hm hw=>?_,fun m hm=>sP.wh m (a3.wh m hm)⟩
     rw[sP.hp m (Nat.lt_of_lt_of_le hm a3.len) hw]
     exact a3.hp m hm (fun hc=>hw (sP.wh m hc))
    have OW:jv S.C ⟨dst,.call ⟨.value f,qg,ru⟩,type,pos,after,guard⟩ st=iU (fun c s=>dw S.C c s) n (qg.toList.map (aP st.fr)) dst st:=by
     rw[pN,Ik.1]
     rfl
    have hy:iU (fun c s=>dw S.C c s) n (qg.toList.map (aP st.fr)) dst st=OO n dst st o2:=by
     clear c2
     unfold iU
     have e1:(decide ((qg.toList.map (aP st.fr)).length=ps.size)&&cw as&&cw bd)=true:=by
      rw[Qe,Yf]
      simpa using Nat.eq_of_beq_eq_true Wx
     simp only[dM,e1,a1,u7,c1]
     cases o2<;>rfl
    cases Vo with
    |norm s2=>
     obtain⟨RW,rfl,DU⟩:=c2
     obtain⟨k1,k2,k3,k4⟩:=key s2 c3
     obtain⟨s',st',d1,d2,d3,hk⟩:=EP hS.T h DU k1 k2 k3 k4 hk
     exact⟨s',st',by rw[OW,hy]; exact d1,d2,d3,hk⟩
    |exit id s2=>
     obtain⟨RW,rfl,DU⟩:=c2
     obtain⟨k1,k2,k3,k4⟩:=key s2 c3
     obtain⟨s',st',d1,d2,d3,hk⟩:=EP hS.T h DU k1 k2 k3 k4 hk
     exact⟨s',st',by rw[OW,hy]; exact d1,d2,d3,hk⟩
    |ret s2=>
     obtain⟨RW,rfl,DU⟩:=c2
     obtain⟨k1,k2,k3,k4⟩:=key s2 c3
     obtain⟨s',st',d1,d2,d3,hk⟩:=EP hS.T h DU k1 k2 k3 k4 hk
     exact⟨s',st',by rw[OW,hy]; exact d1,d2,d3,hk⟩
   rename_i g args hg
   obtain⟨m,Hy,CJ⟩:=ij (h.ev f) (mX (fun x=>h.ev x) qg.toList) hg
   split at hk
   ·rename_i ui
    split at hk
    case h_2=>simp[Tr.run]at hk
    rename_i σ hd hσ
    obtain⟨v,wr,rd,e,lg,g2,_,g4,g5⟩:=Kn hS.T (hS.own g σ hσ) h.hp (.inl rfl) (CJ hd) hk
    rw[dx]at g5
    obtain⟨g6,g7⟩:=h.step g4 dst
    refine⟨_,_,?_,g6,g7,g5⟩
    rw[pN,Hy]
    rw[h.hp.length]at g2
    simp only[qo,CB,ui,g2,Option.bind_some,gI]
   rename_i ui
   split at hk
   ·rename_i σ hd hσ
    obtain⟨v,wr,rd,a,w,lg,g1,_,_,g4,g5⟩:=Ko hS.T (hS.sum g σ hσ) h.hp (CJ hd) hk
    rw[dx]at g5
    obtain⟨g6,g7⟩:=h.step g4 dst
    refine⟨_,_,?_,g6,g7,g5⟩
    rw[pN,Hy]
    simp only[qo,CB,ui,(hS.sum g σ hσ).kind,g1,Option.bind_some,So]
   ·rename_i hd hσ
    split at hk
    ·simp[Tr.run]at hk
    rename_i AG
    obtain⟨v,cU,rq,tJ,a,gm,g1,g2,g3,gj,g4,g5,g6,g7,hk⟩:=ih.f _ _ _ _ _ _ _ _ _ _ (CJ hd) h.hp h.js hk
    split at hk
    case h_2=>simp[Tr.run]at hk
    rename_i I4
    rw[nc,dx]at hk
    obtain⟨qV,sP,t2⟩:=yU hS.T h g2 g3 g4 g5 g6 g7 gj I4
    obtain⟨g8,g9⟩:=qV.step (v:=v) (wr:=[]) (e:=⟨a,[]⟩) ⟨.inr t2,qV.hp,ep.refl _,fun q hq=>by simp at hq,fun _ _ _=>rfl,Nat.le_refl _,fun _ _ h=>by simp at h⟩ dst
    refine⟨_,_,?_,g8,sP.trans g9,hk⟩
    rw[pN,Hy]
    simp only[qo,CB,ui,AG,g1,Option.bind_some,MI]
    rw[h.hp.length]
    rfl
   ·simp[Tr.run]at hk
  ·simp[Tr.run]at hk
 ·split at hk
  ·rename_i d
   rw[ML]
   have tD:=h.fn
   split at hk
   ·rename_i zj
    rw[tD]at zj
    rw[zj]
    simp only[cond_true]
    split at hk
    case h_2=>simp[Tr.run]at hk
    rename_i m hm
    obtain⟨q,jq,_,iL,_⟩:=hS.Q.elem hm
    split at hk
    case isFalse=>simp[Tr.run]at hk
    rename_i mE
    rw[dx]at hk
    have rL:=h.hp.new (nm:=s.hp.length) (o':=.arr true true false 0 []) (a':=.arr true true false []) (.inl rfl) ⟨[],rfl,by simp[RL],fun _=>rfl⟩
    have e1:bu s.hp [(s.hp.length,.arr true true false 0 [])]=cd s.hp s.hp.length (.arr true true false 0 []):=rfl
    have hl:=h.hp.length
    obtain⟨g8,g9⟩:=h.step (v:=.bw m.size s.hp.length 0 none none) (wr:=[(s.hp.length,.arr true true false 0 [])]) (e:=⟨.bw q.size st.hp.length 0 0 0 none,[(st.hp.length,.arr true true false [])]⟩)
     ⟨.inr (by
       rw[e1]
       simp only[R]
       exact⟨0,fU h.hp (.inl rfl) (o:=.arr true true false 0 []),by rw[iL,hl]⟩),
       by
        rw[←hl]
        exact rL.2,by rw[e1]; exact rL.1,fun q hq=>by simp at hq; subst hq; simp[hl],fun n hn hl=>by
        rw[e1]; simp at hn; exact Bk hl hn,by rw[e1]; exact yM (.inl rfl),fun m hm hc=>by simp at hc; have:=kz hm; omega⟩ (some d)
    refine⟨_,_,?_,g8,g9,hk⟩
    have ac3:aU S.C.P type=some q:=jq
    rw[ac3]
    simp only[Option.bind_some]
    rw[if_pos (by rw[iL]; exact mE)]
    simp only[bZ,av,setObj,if_true]
   ·rename_i zj
    simp only[Bool.not_eq_true]at zj
    rw[tD]at zj
    rw[zj]
    simp only[cond_false]
    rw[dx]at hk
    obtain⟨g8,g9⟩:=h.step (v:=.lit cz) (wr:=[]) (e:=⟨.lit cz,[]⟩) ⟨bC _,h.hp,ep.refl _,fun q hq=>by simp at hq,fun _ _ _=>rfl,Nat.le_refl _,fun _ _ h=>by simp at h⟩ (some d)
    exact⟨_,_,rfl,g8,g9,hk⟩
  ·-- no variable: nothing happens
   refine⟨s,st,?_,h,bx.refl _,hk⟩
   refine cM (nq S.C _ _) (by simp[iV]) fun k=>?_
   simp only[iV]
 ·rename_i QI hna
  have hl:(match op with|.call _=>fun _=>[]|_=>S.C.tB s.fn)=S.C.tB s.fn:=by
   cases op<;>first|rfl|exact absurd rfl (QI _)
  refine plain ?_ ?_
  ·unfold sR
   simp only
  ·simp only
   exact hk
end
end Go.PI
end
section
/- PS, part Q: loops, code, functions: the soundness of the trees. -/
namespace Go.PI
theorem BJ{τ ω:Type}{f:τ→Option (τ ⊕ ω)}:∀ {n:Nat} {x:τ} {w:ω},lX f n x=some w→lX f (n+1) x=some w
 |0,x,w,h=>by simp[lX]at h
 |n+1,x,w,h=>by
  rw[lX]at h ⊢
  cases hf:f x with
  |none=>rw[hf]at h; simp at h
  |some q=>
   rw[hf]at h
   cases q with
   |inl y=>exact BJ h
   |inr z=>exact h
theorem u4[ah]{τ ω:Type}(f:τ→Option (τ ⊕ ω))(x:τ):gH fun n=>lX f n x:=fun _ _ h=>BJ h
theorem nH[ah]{τ ω:Type}{f:τ→Option (τ ⊕ ω)}{x:τ}{w:ω}:aX f x=some w↔∃ n,lX f n x=some w:=by
 unfold aX
 split
 ·rename_i w' h
  constructor
  ·intro e; exact⟨4096,h.trans e⟩
  ·rintro⟨n,hn⟩
   rw[←(bl (u4 f x)).2 ⟨4096,h⟩,(bl (u4 f x)).2 ⟨n,hn⟩]
 ·exact bl (u4 f x)
theorem F5[ah]{τ ω:Type}(f:τ→Option (τ ⊕ ω))(x:τ):aX f x=(f x).bind fun q=>Sum.elim (aX f) some q:=by
 apply Option.ext
 intro w
 rw[nH]
 constructor
 ·rintro⟨n,h⟩
  cases n with
  |zero=>simp[lX]at h
  |succ n=>
   rw[lX]at h
   cases hf:f x with
   |none=>rw[hf]at h; simp at h
   |some q=>
    rw[hf]at h
    cases q with
    |inl y=>simp only[Option.bind_some,Sum.elim_inl]; exact nH.2 ⟨n,h⟩
    |inr z=>simp_all
 ·intro h
  cases hf:f x with
  |none=>rw[hf]at h; simp at h
  |some q=>
   rw[hf]at h
   cases q with
   |inl y=>
    simp only[Option.bind_some,Sum.elim_inl]at h
    obtain⟨n,hn⟩:=nH.1 h
    exact⟨n+1,by rw[lX,hf]; exact hn⟩
   |inr z=>
    simp only[Option.bind_some,Sum.elim_inr]at h
    exact⟨1,by rw[lX,hf]; exact h⟩
section
variable {T:ej}{ρ:Type}
theorem eE[ah]{H0 H:aq T.den}{K:Tr ρ}{r:ρ}:∀ {objs:List (Nat×dv)},(jj H0 H objs K).run=some r→K.run=some r∧∀ q,q∈objs→∀ t,q.2=.fix t→∀ o o',H0[q.1]?=some (some o)→H[q.1]?=some (some o')→o'.len=o.len
 |[],h=>⟨h,fun q hq=>by simp at hq⟩
 |(n,p)::objs,h=>by
  cases p with
  |fix t=>
   simp only[jj]at h
   split at h
   ·rename_i o o' h1 h2
    obtain⟨g1,g2⟩:=bp h
    simp only[decide_eq_true_eq]at g1
    obtain⟨i1,i2⟩:=eE g2
    refine⟨i1,fun q hq t' e o3 o4 h3 h4=>?_⟩
    rcases List.mem_cons.1 hq with rfl|hq
    ·simp_all
    ·exact i2 q hq t' e o3 o4 h3 h4
   ·simp[Tr.run]at h
  |list t=>
   obtain⟨i1,i2⟩:=eE (objs:=objs) h
   refine⟨i1,fun q hq t' e o3 o4 h3 h4=>?_⟩
   rcases List.mem_cons.1 hq with rfl|hq
   ·simp at e
   ·exact i2 q hq t' e o3 o4 h3 h4
  |one p=>
   obtain⟨i1,i2⟩:=eE (objs:=objs) h
   refine⟨i1,fun q hq t' e o3 o4 h3 h4=>?_⟩
   rcases List.mem_cons.1 hq with rfl|hq
   ·simp at e
   ·exact i2 q hq t' e o3 o4 h3 h4
  |agg ps=>
   obtain⟨i1,i2⟩:=eE (objs:=objs) h
   refine⟨i1,fun q hq t' e o3 o4 h3 h4=>?_⟩
   rcases List.mem_cons.1 hq with rfl|hq
   ·simp at e
   ·exact i2 q hq t' e o3 o4 h3 h4
  |map kk t=>
   obtain⟨i1,i2⟩:=eE (objs:=objs) h
   refine⟨i1,fun q hq t' e o3 o4 h3 h4=>?_⟩
   rcases List.mem_cons.1 hq with rfl|hq
   ·simp at e
   ·exact i2 q hq t' e o3 o4 h3 h4
theorem Du[ah]{key:Nat}{h:Hint}{s0 s:bQ T.den}{kind:Option Nat}{r:ρ}:∀ {l:List Er} {K:B8 T.den h.objs l→Tr ρ},(wo key h s0 s kind l K).run=some r →
  ∃ o x w,o∈l∧o.kind=kind∧Lo h s0 s kind o=some x∧(K w).run=some r ∧
    (∀ q,q∈h.objs→∀ t,q.2=.fix t→∀ o o',s0.hp[q.1]?=some (some o)→s.hp[q.1]?=some (some o')→o'.len=o.len) ∧
    ∀ {σ:Type} (K':ri T.den→Tr σ),(Ql h s0 l w K').run=(K' (Ey (lE h s0 o x) o.kind)).run
 |[],K,hk=>by simp[wo,Tr.run]at hk
 |[o],K,hk=>by
  simp only[wo]at hk
  split at hk
  ·rename_i x hx
   obtain⟨hk,hl⟩:=eE hk
   refine⟨o,x,x,by simp,?_,hx,hk,hl,fun K'=>?_⟩
   ·grind[Lo]
   ·simp only[Ql]
    rw[force_eq]
  ·simp[Tr.run]at hk
 |o::p::l,K,hk=>by
  simp only[wo]at hk
  split at hk
  ·rename_i x hx
   obtain⟨hk,hl⟩:=eE hk
   refine⟨o,x,.inl x,by simp,?_,hx,hk,hl,fun K'=>?_⟩
   ·grind[Lo]
   ·simp only[Ql,Tr.run,Sum.elim_inl]
    rw[force_eq]
  ·obtain⟨o',x,w,h1,h2,h3,h4,h5,h6⟩:=Du (l:=p::l) hk
   refine⟨o',x,.inr w,List.mem_cons_of_mem _ h1,h2,h3,h4,h5,fun K'=>?_⟩
   simp only[Ql,Tr.run,Sum.elim_inr]
   exact h6 K'
theorem BK{a b:List Nat}(h:subset a b=true){x:Nat}(hx:x∈a):x∈b:=by
 have:=List.all_eq_true.1 h x hx
 simpa using this
theorem Kx[ah]{Dv:List (Nat×dv)}{slots0:List (Nat×rj)}{dead0:List Nat}{aH:List (Nat×rj)}{dead:List Nat}{ext:List rk}{s0 sx s:bQ T.den}{l:List (TV T.den)}
  (WN:nodupB (aH.map (·.1))=true) (nd2:nodupB (Dv.map (·.1))=true)
  (ac4:sx.fn=s0.fn) (ac5:sx.n=s0.n) (ac6:∀ t,t∉slots0.map (·.1)++dead0→dj sx.fr t=dj s0.fr t) (ac7:∀ n:Nat,n<s0.hp.length→n∉Dv.map (·.1)→sx.hp[n]?=s0.hp[n]?) (ac8:sx.hp.length=s0.hp.length)
  (Ax:∀ t,t∈slots0.map (·.1)++dead0→t∈aH.map (·.1)++dead) (ha:bx sx s) (hl:uK aH dead Dv ext s0 s=true)
  (Vg:∀ q,q∈Dv→∃ o,s0.hp[q.1]?=some (some o)∧Start s0.hp o q.2) (abs:xE aH (Dv++br s0.hp.length ext) s=some l):LB T aH dead Dv ext s0 s l:=by
 unfold uK at hl
 simp only[Bool.and_eq_true,decide_eq_true_eq]at hl
 obtain⟨⟨⟨⟨⟨⟨⟨l1,l2⟩,l3⟩,l4⟩,l5⟩,l6⟩,l7⟩,l8⟩:=hl
 refine⟨WN,nd2,fun d hd=>?_,l2,ha.fn.trans ac4,ha.n.trans ac5,fun t ht=>?_,fun n hn hm=>?_,l5,l6,l7,l8,Vg,abs⟩
 ·have:=List.all_eq_true.1 l1 d hd
  have:=Nat.le_of_ble_eq_true this
  omega
 ·have hw:t∉s.wf:=fun hc=>ht (BK l3 hc)
  rw[ha.fr t hw,ac6 t (fun hc=>ht (Ax t hc))]
 ·have hw:n∉s.wh:=fun hc=>hm (BK l4 (List.mem_filter.2 ⟨hc,by simpa using hn⟩))
  rw[ha.hp n (by rw[ac8]; exact hn) hw,ac7 n hn hm]
end
theorem Dw{T:ej}{aH:List (Nat×rj)}{objs:List (Nat×dv)}{s:bQ T.den}{l:List (TV T.den)}(h:xE aH objs s=some l):∃ l0,lN s.hp objs=some l0:=by
 unfold xE at h
 rw[Option.bind_eq_some_iff]at h
 obtain⟨_,_,h⟩:=h
 rw[Option.map_eq_some_iff]at h
 obtain⟨lb,h,_⟩:=h
 exact⟨lb,h⟩
theorem OY[ah]{T:ej}{aH:List (Nat×rj)}{dead:List Nat}{objs:List (Nat×dv)}{ext:List rk}{s:bQ T.den}{l:List (TV T.den)}{js:List (Nat×nf)}{st:St}
  (h:RS T { dU aH dead objs ext s l with js:=js } st) (hj:js=s.js):RS T (dU aH dead objs ext s l) st:=by
 subst hj; exact⟨h.fn,h.n,h.fr,h.hp,h.js⟩
theorem LL{T:ej}{n:Nat}{s:bQ T.den}:(lD n s).js=s.js:=by unfold lD; split<;>rfl
theorem BL[ah]{T:ej}{H:aq T.den}{objs:List (Nat×dv)}{l:List (TV T.den)}(h:lN H objs=some l):tm H H objs=true:=by
 refine List.all_eq_true.2 fun q hq=>?_
 obtain⟨o,_,h1,_⟩:=mg h q hq
 simp[h1]
theorem ES[ah]{T:ej}{H:aq T.den}{objs:List (Nat×dv)}{l:List (TV T.den)}(h:lN H objs=some l):zH H H objs=true:=by
 refine List.all_eq_true.2 fun q hq=>?_
 obtain⟨o,_,h1,_⟩:=mg h q hq
 split
 ·rfl
 ·simp[h1]
theorem xX[ah]{T:ej}{H:aq T.den}{objs:List (Nat×dv)}{l:List (TV T.den)}(h:lN H objs=some l)(q:Nat×dv)(hq:q∈objs):∃ o,H[q.1]?=some (some o)∧Start H o q.2:=by
 obtain⟨o,ln,h1,h2⟩:=mg h q hq
 exact⟨o,h1,.inl ⟨ln,h2⟩⟩
theorem G8{objs more:List (Nat×dv)}{n:Nat}(h:n∈objs.map (·.1)):n∈(ko objs more).map (·.1):=by
 unfold ko
 rw[List.map_append]
 by_cases hm:n∈more.map (·.1)
 ·exact List.mem_append_right _ hm
 ·simp_all
theorem BM[ah]{T:ej}{H:aq T.den}{l:List (Nat×dv)}(h:Ke H l=true)(q:Nat×dv)(hq:q∈l):∃ o,H[q.1]?=some (some o)∧Start H o q.2:=by
 have:=List.all_eq_true.1 h q hq
 split at this
 ·rename_i g cl f c e p h1 h2
  exact⟨_,h1,.inr ⟨.inl ⟨p,h2⟩,g,cl,f,c,e,rfl⟩⟩
 ·rename_i g cl f c e p h1 h2
  exact⟨_,h1,.inr ⟨.inr ⟨p,h2⟩,g,cl,f,c,e,rfl⟩⟩
 ·simp at this
section
variable [ah]{S:rl}(hS:S.Ok)
include hS
theorem R1{k:Nat}(ih:qO S k){b:Code}{s:bQ S.T.den}{h:Hint}{l0:List (TV S.T.den)}{x0:HL S.T.den h.lC}(cj:h.ok=true)(hsl:Ex s.n h.aH h.dead=true)(how:xF s.hp.length h.aH h.objs=true)
  (rn:xE h.aH h.objs s=some l0) (hx0:xA h.lC l0=some x0) {st:St} (lQ:RS S.T s st) {w:B8 S.T.den h.objs h.outs}
  (hw:aX (fun x=>(bQ.force { dU h.aH h.dead h.objs [] s (hU h.lC x) with wf:=[],wh:=[] } fun s1=>ze S k (HL S.T.den h.lC ⊕ B8 S.T.den h.objs h.outs) b s1 fun
       |.norm s'=>
        (match lD s.hp.length s' with
        |u9=>(match decide (u9.js=s.js)&&uK h.aH h.dead h.objs [] s u9,(xE h.aH h.objs u9).bind (xA h.lC) with
         |true,some y=>jj s.hp u9.hp h.objs (.ret (.inl y))
         |_,_=>.bad (uJ b s) none s u9))
       |.exit id s'=>wo (uJ b s) h s s' (some id) h.outs fun w=>.ret (.inr w)
       |.ret s'=>wo (uJ b s) h s s' none h.outs fun w=>.ret (.inr w)).run) x0=some w) :
  ∃ o x so oo,dw S.C (.loop b) st=some oo∧so=Ey (lE h s o x) o.kind∧G0 S.T so oo∧bx s so.st∧∀ {σ:Type} (K':ri S.T.den→Tr σ),(Ql h s h.outs w K').run=(K' so).run:=by
 simp only[Hint.ok,Bool.and_eq_true]at cj
 obtain⟨⟨ac9,YG⟩,ada⟩:=cj
 obtain⟨ajy,G9⟩:=Dw rn
 have WN:nodupB (h.aH.map (·.1))=true:=by
  have:∀ {l m:List Nat},nodupB (l++m)=true→nodupB l=true:=by
   intro l m
   induction l with
   |nil=>intro _; rfl
   |cons x xs ih=>
    simp_all[nodupB,decide_eq_false_iff_not]
  exact this ac9
 have adb:∀ d,d∈h.aH.map (·.1)++h.dead→d<s.n:=by
  intro d hd
  have:=List.all_eq_true.1 hsl d hd
  have:=Nat.le_of_ble_eq_true this
  omega
 have sxf:∀ x:HL S.T.den h.lC,∀ l,xE h.aH h.objs s=some l→True:=fun _ _ _=>trivial
 clear sxf
 have qt:∀ (x:HL S.T.den h.lC) (sc:bQ S.T.den) (lc:List (TV S.T.den)),LB S.T h.aH h.dead h.objs [] s sc lc→sc.js=s.js→hU h.lC x=lc→∀ (stc:St),RS S.T sc stc →
   RS S.T (dU h.aH h.dead h.objs [] s (hU h.lC x)) stc∧(dU h.aH h.dead h.objs [] s (hU h.lC x)).hp.length=s.hp.length ∧
   (∀ n:Nat,n<s.hp.length→n∉h.objs.map (·.1)→(dU h.aH h.dead h.objs [] s (hU h.lC x)).hp[n]?=s.hp[n]?) ∧
   (∀ t,t∉h.aH.map (·.1)++h.dead→dj (dU h.aH h.dead h.objs [] s (hU h.lC x)).fr t=dj s.fr t) ∧
   (dU h.aH h.dead h.objs [] s (hU h.lC x)).fn=s.fn∧(dU h.aH h.dead h.objs [] s (hU h.lC x)).n=s.n:=by
  intro x sc lc ho hj hx stc adf
  obtain⟨r1,r2,r3,r4,r5,r6,_⟩:=Kr hS.T ho lQ adf
  rw[hx]
  refine⟨OY r1 hj,?_,r3,r4,r5,r6⟩
  rw[r2,ho.len]; rfl
 have main:∀ (n:Nat) (x:HL S.T.den h.lC) (stx:St),RS S.T (dU h.aH h.dead h.objs [] s (hU h.lC x)) stx→(dU h.aH h.dead h.objs [] s (hU h.lC x)).hp.length=s.hp.length →
   (∀ n:Nat,n<s.hp.length→n∉h.objs.map (·.1)→(dU h.aH h.dead h.objs [] s (hU h.lC x)).hp[n]?=s.hp[n]?) →
   (∀ t,t∉h.aH.map (·.1)++h.dead→dj (dU h.aH h.dead h.objs [] s (hU h.lC x)).fr t=dj s.fr t) →
   (dU h.aH h.dead h.objs [] s (hU h.lC x)).fn=s.fn→(dU h.aH h.dead h.objs [] s (hU h.lC x)).n=s.n →
   lX (fun x=>(bQ.force { dU h.aH h.dead h.objs [] s (hU h.lC x) with wf:=[],wh:=[] } fun s1=>ze S k (HL S.T.den h.lC ⊕ B8 S.T.den h.objs h.outs) b s1 fun
           |.norm s'=>
            (match lD s.hp.length s' with
            |u9=>(match decide (u9.js=s.js)&&uK h.aH h.dead h.objs [] s u9,(xE h.aH h.objs u9).bind (xA h.lC) with
             |true,some y=>jj s.hp u9.hp h.objs (.ret (.inl y))
             |_,_=>.bad (uJ b s) none s u9))
           |.exit id s'=>wo (uJ b s) h s s' (some id) h.outs fun w=>.ret (.inr w)
           |.ret s'=>wo (uJ b s) h s s' none h.outs fun w=>.ret (.inr w)).run) n x=some w →
   ∃ o x so oo,dw S.C (.loop b) stx=some oo∧so=Ey (lE h s o x) o.kind∧G0 S.T so oo∧bx s so.st∧∀ {σ:Type} (K':ri S.T.den→Tr σ),(Ql h s h.outs w K').run=(K' so).run:=by
  intro n
  induction n with
  |zero=>intro x stx _ _ _ _ _ _ hn; simp[lX]at hn
  |succ n ihn=>
   intro x stx Hw hlen Vu EO tD QW hn
   rw[lX]at hn
   generalize LM:({ dU h.aH h.dead h.objs [] s (hU h.lC x) with wf:=[],wh:=[] }:bQ S.T.den)=sx at hn
   have Vv:RS S.T sx stx:=by rw[←LM]; exact⟨Hw.fn,Hw.n,Hw.fr,Hw.hp,Hw.js⟩
   have e1:sx.fn=s.fn:=by rw[←LM]; exact tD
   have e2:sx.n=s.n:=by rw[←LM]; exact QW
   have e3:∀ t,t∉h.aH.map (·.1)++h.dead→dj sx.fr t=dj s.fr t:=by rw[←LM]; exact EO
   have e4:∀ n:Nat,n<s.hp.length→n∉h.objs.map (·.1)→sx.hp[n]?=s.hp[n]?:=by rw[←LM]; exact Vu
   have e5:sx.hp.length=s.hp.length:=by rw[←LM]; exact hlen
   rw[force_eq]at hn
   have rW:∀ q,(ze S k (HL S.T.den h.lC ⊕ B8 S.T.den h.objs h.outs) b sx fun
       |.norm s'=>
        (match lD s.hp.length s' with
        |u9=>(match decide (u9.js=s.js)&&uK h.aH h.dead h.objs [] s u9,(xE h.aH h.objs u9).bind (xA h.lC) with
         |true,some y=>jj s.hp u9.hp h.objs (.ret (.inl y))
         |_,_=>.bad (uJ b s) none s u9))
       |.exit id s'=>wo (uJ b s) h s s' (some id) h.outs fun w=>.ret (.inr w)
       |.ret s'=>wo (uJ b s) h s s' none h.outs fun w=>.ret (.inr w)).run=some q →
     (∃ y,q=.inl y∧∃ Jd,dw S.C b stx=some (.norm Jd)∧RS S.T (dU h.aH h.dead h.objs [] s (hU h.lC y)) (iT stx.hp.length Jd)∧(dU h.aH h.dead h.objs [] s (hU h.lC y)).hp.length=s.hp.length ∧
       (∀ n:Nat,n<s.hp.length→n∉h.objs.map (·.1)→(dU h.aH h.dead h.objs [] s (hU h.lC y)).hp[n]?=s.hp[n]?) ∧
       (∀ t,t∉h.aH.map (·.1)++h.dead→dj (dU h.aH h.dead h.objs [] s (hU h.lC y)).fr t=dj s.fr t) ∧
       (dU h.aH h.dead h.objs [] s (hU h.lC y)).fn=s.fn∧(dU h.aH h.dead h.objs [] s (hU h.lC y)).n=s.n) ∨
     (∃ w',q=.inr w'∧∃ o x so oo,dw S.C b stx=some oo∧(∀ s',oo≠.norm s')∧so=Ey (lE h s o x) o.kind∧G0 S.T so oo∧bx s so.st∧∀ {σ:Type} (K':ri S.T.den→Tr σ),(Ql h s h.outs w' K').run=(K' so).run):=by
    intro q hq
    obtain⟨so,o,c1,c2,c3,c4⟩:=ih.c _ _ _ _ _ _ Vv hq
    have leave:∀ (kind:Option Nat) (s':bQ S.T.den) (Jd:St),RS S.T s' Jd→bx sx s'→(wo (uJ b s) h s s' kind h.outs fun w=>(.ret (.inr w):Tr (HL S.T.den h.lC ⊕ B8 S.T.den h.objs h.outs))).run=some q →
      ∃ w',q=.inr w'∧∃ o x,o.kind=kind∧RS S.T (lE h s o x) Jd∧bx s (lE h s o x)∧∀ {σ:Type} (K':ri S.T.den→Tr σ),(Ql h s h.outs w' K').run=(K' (Ey (lE h s o x) o.kind)).run:=by
     intro kind s' Jd gn ha hq
     obtain⟨o,x,w',d1,d2,d3,d4,d5,d6⟩:=Du hq
     simp only[Tr.run,Option.some.injEq]at d4
     refine⟨w',d4.symm,o,x,d2,?_⟩
     unfold Lo at d3
     split at d3
     case h_2=>simp at d3
     rename_i hc
     simp only[Bool.and_eq_true,decide_eq_true_eq]at hc
     obtain⟨hc,Qe,Yf,hc4⟩:=hc
     rw[Option.bind_eq_some_iff]at d3
     obtain⟨lx,d7,d8⟩:=d3
     have YH:∀ q,q∈ko h.objs o.more→∃ o,s.hp[q.1]?=some (some o)∧Start s.hp o q.2:=fun q hq=>by
      rcases List.mem_append.1 hq with hq|hq
      ·exact xX G9 q (List.mem_filter.1 hq).1
      ·exact BM hc4 q hq
     have zi:LB S.T o.aH (h.aH.map (·.1)++h.dead) (ko h.objs o.more) o.ext s s' lx:=
      Kx (slots0:=h.aH) (dead0:=h.dead) (List.all_eq_true.1 ada o d1) Yf e1 e2 e3 (fun n hn hm=>e4 n hn (fun hc=>hm (G8 hc))) e5 (fun t ht=>List.mem_append_right _ ht) ha Qe YH d7
     obtain⟨r1,r2,r3,r4,r5,r6,r7⟩:=Kr hS.T zi lQ gn
     have ex:=qK _ _ _ d8
     refine⟨?_,?_,d6⟩
     ·unfold lE
      rw[ex]
      exact⟨r1.fn,r1.n,r1.fr,r1.hp,by rw[←hc.2]; exact r1.js⟩
     ·unfold lE
      rw[ex]
      refine⟨r5,r6,fun t ht=>r4 t ?_,fun t ht=>?_,fun n hn hw=>r3 n hn ?_,fun n hn=>?_,?_,?_⟩
      ·simp only[List.mem_append,not_or]at ht ⊢
       exact⟨ht.1,ht.2.1,ht.2.2.1⟩
      ·simp only[List.mem_append]
       exact .inr (.inr (.inr ht))
      ·exact fun hc=>hw (List.mem_append_left _ hc)
      ·exact List.mem_append_right _ hn
      ·simp only
       rw[r2,zi.len]
       omega
      ·intro n o' dM
       have hn:=(List.getElem?_eq_some_iff.1 dM).1
       by_cases hm:n∈(ko h.objs o.more).map (·.1)
       ·obtain⟨qq,hqq,rfl⟩:=List.mem_map.1 hm
        obtain⟨o0,os,of,g1,g2,g3,g4,g5⟩:=r7 qq hqq
        rw[g1]at dM
        simp only[Option.some.injEq]at dM
        subst dM
        refine⟨of,g3,by rw[g5]; exact Kq _ _,fun ec=>?_⟩
        rw[g4]
        rw[g5]at ec
        obtain⟨oo,m1,m2⟩:=YH qq hqq
        rw[g1]at m1
        simp only[Option.some.injEq]at m1
        subst m1
        have YI:=Dw d7
        obtain⟨lS,hlS⟩:=YI
        obtain⟨oo2,ln2,m3,m4⟩:=mg hlS qq (List.mem_append_left _ hqq)
        rw[g2]at m3
        simp only[Option.some.injEq]at m3
        subst m3
        cases hp:qq.2 with
        |list t=>rw[hp]at ec; simp[EM]at ec
        |fix t=>
         rcases List.mem_append.1 hqq with jq|jq
         ·exact d5 qq (List.mem_filter.1 jq).1 t hp o0 os g1 g2
         ·obtain⟨_,_,m5⟩:=BM hc4 qq jq
          rw[hp]at m2
          have:=List.all_eq_true.1 hc4 qq jq
          rw[hp]at this
          simp at this
        |map kk t=>
         rw[hp]at m2 m4
         rcases m2 with ⟨ln,m2⟩|⟨⟨_,m2⟩|⟨_,m2⟩,_⟩
         ·obtain⟨_,rfl,_⟩:=wI m2
          obtain⟨_,rfl,_⟩:=wI m4
          rfl
         ·cases m2
         ·cases m2
        |one p=>
         rw[hp]at m2 m4
         simp only[fp]at m4
         split at m4
         case h_2=>simp at m4
         rcases m2 with ⟨ln,m2⟩|⟨_,_,_,_,_,_,rfl⟩
         ·simp only[fp]at m2
          split at m2
          case h_2=>simp at m2
          rfl
         ·rfl
        |agg p=>
         rw[hp]at m2 m4
         simp only[fp]at m4
         split at m4
         case h_2=>simp at m4
         rcases m2 with ⟨ln,m2⟩|⟨_,_,_,_,_,_,rfl⟩
         ·simp only[fp]at m2
          split at m2
          case h_2=>simp at m2
          rfl
         ·rfl
       ·exact⟨o',by simp only; rw[r3 n hn hm]; exact dM,Nat.le_refl _,fun _=>rfl⟩
    cases so with
    |norm s'=>
     left
     obtain⟨Jd,rfl,gn⟩:=c2
     simp only at c4
     split at c4
     ·rename_i y hl hy
      simp only[Bool.and_eq_true,decide_eq_true_eq]at hl
      obtain⟨Ro,hl⟩:=hl
      obtain⟨c5,_⟩:=eE c4
      simp only[Tr.run,Option.some.injEq]at c5
      rw[Option.bind_eq_some_iff]at hy
      obtain⟨ly,Bs,yR⟩:=hy
      have hr:=GV (n:=s.hp.length) hS.T gn (fun m x hm=>by
       rw[LL]at Ro
       rw[Ro]at hm
       exact kz (lQ.js m x hm).1)
      have sP:bx sx (lD s.hp.length s'):=by
       have:=yS Vv c3
       rw[e5]at this
       exact this
      have zi:LB S.T h.aH h.dead h.objs [] s (lD s.hp.length s') ly:=
       Kx (slots0:=h.aH) (dead0:=h.dead) WN YG e1 e2 e3 e4 e5 (fun t ht=>ht) sP hl (xX G9) (by simpa[br] using Bs)
      have hle:stx.hp.length=s.hp.length:=by rw[←e5]; exact Vv.hp.length.symm
      refine⟨y,c5.symm,Jd,c1,?_⟩
      rw[hle]
      exact qt y _ ly zi Ro (qK _ _ _ yR) _ hr
     ·simp[Tr.run]at c4
    |exit id s'=>
     right
     obtain⟨Jd,rfl,gn⟩:=c2
     obtain⟨w',f1,o',x',f2,f3,f4,f5⟩:=leave (some id) s' Jd gn c3 c4
     refine⟨w',f1,o',x',Ey (lE h s o' x') o'.kind,_,c1,by simp,rfl,?_,?_,f5⟩
     ·rw[f2]; exact⟨Jd,rfl,f3⟩
     ·rw[f2]; exact f4
    |ret s'=>
     right
     obtain⟨Jd,rfl,gn⟩:=c2
     obtain⟨w',f1,o',x',f2,f3,f4,f5⟩:=leave none s' Jd gn c3 c4
     refine⟨w',f1,o',x',Ey (lE h s o' x') o'.kind,_,c1,by simp,rfl,?_,?_,f5⟩
     ·rw[f2]; exact⟨Jd,rfl,f3⟩
     ·rw[f2]; exact f4
   split at hn
   ·rename_i y hy
    rcases rW _ hy with ⟨y',e,Jd,g1,g2,g3,g4,g5,g6,g7⟩|⟨w',e,_⟩
    ·simp only[Sum.inl.injEq]at e
     subst e
     obtain⟨o,x',so,oo,i1,i2⟩:=ihn _ _ g2 g3 g4 g5 g6 g7 hn
     refine⟨o,x',so,oo,?_,i2⟩
     rw[pK,g1]
     exact i1
    ·simp at e
   ·rename_i w2 hw2
    simp only[Option.some.injEq]at hn
    subst hn
    rcases rW _ hw2 with ⟨y',e,_⟩|⟨w',e,o,x',so,oo,g1,g2,g3⟩
    ·simp at e
    ·simp only[Sum.inr.injEq]at e
     subst e
     refine⟨o,x',so,oo,?_,g3⟩
     rw[pK,g1]
     cases oo with
     |norm s'=>exact absurd rfl (g2 s')
     |_=>rfl
   ·simp at hn
 obtain⟨n,hn⟩:=nH.1 hw
 have zi:LB S.T h.aH h.dead h.objs [] s s l0:=⟨WN,YG,adb,by simpa[br] using how,rfl,rfl,fun _ _=>rfl,fun _ _ _=>rfl,rfl,BL G9,ES G9,rfl,xX G9,by simpa[br] using rn⟩
 obtain⟨r1,r2,r3,r4,r5,r6⟩:=qt x0 s l0 zi rfl (qK _ _ _ hx0) st lQ
 exact main n x0 st r1 r2 r3 r4 r5 r6 hn
def DR(T:ej)(H:aq T.den):Option (SV T.den)→Option AV→Prop
 |none,none=>True
 |some v,some a=>RV T H v a
 |_,_=>False
omit hS in
theorem R2{k:Nat}(ih:qO S k){ρ:Type}:∀ (c:Code) {s:bQ S.T.den} {K:ri S.T.den→Option (SV S.T.den)→Tr ρ} {r:ρ} {st:St},RS S.T s st→(Oi (fun c s K=>ze S k ρ c s K) (fun o s K=>RA S k ρ o s K) c s K).run=some r →
  ∃ so d o da,Ck (dw S.C) (jv S.C) c st=some (o,da)∧G0 S.T so o∧bx s so.st∧DR S.T so.st.hp d da∧(K so d).run=some r:=by
 have leaf:∀ (c:Code) {s:bQ S.T.den} {K:ri S.T.den→Option (SV S.T.den)→Tr ρ} {r:ρ} {st:St},RS S.T s st→(ze S k ρ c s fun o=>K o none).run=some r →
   ∃ so d o da,((dw S.C c st).map fun o=>(o,(none:Option AV)))=some (o,da)∧G0 S.T so o∧bx s so.st∧DR S.T so.st.hp d da∧(K so d).run=some r:=by
  intro c s K r st h hk
  obtain⟨so,o,c1,c2,c3,hk⟩:=ih.c _ _ _ _ _ _ h hk
  exact⟨so,none,o,none,by rw[c1]; rfl,c2,c3,trivial,hk⟩
 intro c
 induction c with
 |seq x y _ MD=>
  intro s K r st h hk
  simp only[Oi]at hk
  cases hd:vt x with
  |some q=>
   obtain⟨ops,v⟩:=q
   rw[hd]at hk
   simp only at hk
   rw[tv]at hk
   obtain⟨s1,st1,g1,g2,g3,hk⟩:=sH (C:=S.C) (fun o s st K h hk=>ih.o _ _ _ _ _ _ h hk) _ _ _ _ h hk
   split at hk
   case h_2=>simp[Tr.run]at hk
   rename_i q dR
   obtain⟨g,l⟩:=q
   obtain⟨m,hm,_⟩:=ij (g2.ev v) (args:=[]) (as:=[]) trivial dR
   obtain⟨so,o,c1,c2,c3,hk⟩:=ih.c _ _ _ _ _ _ g2 hk
   refine⟨so,some (ga s1.fr v),o,some (aP st1.fr v),?_,c2,g3.trans c3,(g2.ev v).mono c3.grow,hk⟩
   simp only[Ck,hd,rX,g1,hm,c1]
   rfl
  |none=>
   rw[hd]at hk
   simp only at hk
   obtain⟨so,o,c1,c2,c3,hk⟩:=ih.c _ _ _ _ _ _ h hk
   cases so with
   |norm s'=>
    obtain⟨st',rfl,gn⟩:=c2
    obtain⟨Vo,d2,o2,da2,e1,e2,e3,e4,hk⟩:=MD gn hk
    exact⟨Vo,d2,o2,da2,by simp only[Ck,hd,c1]; exact e1,e2,c3.trans e3,e4,hk⟩
   |ret s'=>
    obtain⟨st',rfl,gn⟩:=c2
    exact⟨.ret s',none,_,none,by simp only[Ck,hd,c1],⟨st',rfl,gn⟩,c3,trivial,hk⟩
   |exit id s'=>
    obtain⟨st',rfl,gn⟩:=c2
    exact⟨.exit id s',none,_,none,by simp only[Ck,hd,c1],⟨st',rfl,gn⟩,c3,trivial,hk⟩
 |_=>intro s K r st h hk; simp only[Oi,Ck]at hk ⊢; exact leaf _ h hk
theorem OZ{k:Nat}(ih:qO S k){ρ:Type}{s:bQ S.T.den}{st:St}{d:Option (SV S.T.den)}{da:Option AV}{rs:List ResultVar}{K:List (SV S.T.den)→aq S.T.den→List Nat→List (Nat×nf)→Tr ρ}{r:ρ}(h:RS S.T s st)(hd:DR S.T s.hp d da)
  (hk:(Gb (fun c s K=>ze S k ρ c s K) S.Q S.C.P rs s d K).run=some r):∃ l cU rq tJ m gm,wT (dw S.C) S.C.P rs st.fr st.hp da=some (.val (cY m),gm)∧RL S.T cU l m∧RH S.T cU gm∧mz tJ cU gm∧ep s.hp cU∧s.hp.length≤cU.length ∧
    (∀ n:Nat,n<s.hp.length→n∉rq→cU[n]?=s.hp[n]?)∧(∀ n,n∈s.wh→n∈rq)∧(K l cU rq tJ).run=some r:=by
 cases d with
 |none=>
  cases da with
  |some a=>exact hd.elim
  |none=>
   simp only[Gb]at hk
   obtain⟨l,m,g1,g2,hk⟩:=qL hS.T hS.Q h hk
   have Rb:(bk S.C.P st.fr rs).run st.hp=some m:=g1
   exact⟨l,s.hp,s.wh,s.js,m,st.hp,by simp only[wT,HI,Rb],g2,h.hp,h.js,ep.refl _,Nat.le_refl _,fun _ _ _=>rfl,fun _ h=>h,hk⟩
 |some v=>
  cases da with
  |none=>exact hd.elim
  |some a=>
   have hd:RV S.T s.hp v a:=hd
   simp only[Gb]at hk
   split at hk
   ·simp[Tr.run]at hk
   rename_i g as dR
   split at hk
   ·simp[Tr.run]at hk
   rename_i fg QE
   split at hk
   ·simp[Tr.run]at hk
   rename_i cg QF
   split at hk
   ·simp[Tr.run]at hk
   rename_i hck
   simp only[Bool.and_eq_true,Bool.not_eq_true']at hck
   obtain⟨m,hm,hmr⟩:=ij hd (args:=[]) (as:=[]) trivial dR
   rw[force_eq]at hk
   have lQ:=BD (f:=g) (hmr hck.2) h.hp fg.ntmps s.wh h.js
   obtain⟨so,o,c1,c2,c3,hk⟩:=ih.c _ _ _ _ _ _ lQ hk
   have fin:∀ (t:bQ S.T.den) (tt:St),RS S.T t tt→bx ⟨g,max fg.ntmps as.length,oI 0 as,s.hp,[],s.wh,s.js⟩ t→(o=.norm tt∨o=.ret tt) →
     (uI S.T S.Q t fg.results.toList fun _=>uI S.T S.Q ⟨s.fn,s.n,s.fr,t.hp,s.wf,t.wh,t.js⟩ rs fun l=>K l t.hp t.wh t.js).run=some r →
     ∃ l cU rq tJ m gm,wT (dw S.C) S.C.P rs st.fr st.hp (some a)=some (.val (cY m),gm)∧RL S.T cU l m∧RH S.T cU gm∧mz tJ cU gm∧ep s.hp cU∧s.hp.length≤cU.length ∧
       (∀ n:Nat,n<s.hp.length→n∉rq→cU[n]?=s.hp[n]?)∧(∀ n,n∈s.wh→n∈rq)∧(K l cU rq tJ).run=some r:=by
    intro t tt ht sP ho hk
    obtain⟨l1,m1,f1,_,hk⟩:=qL hS.T hS.Q ht hk
    have f1':(bk S.C.P tt.fr fg.results.toList).run tt.hp=some m1:=f1
    have DU:RS S.T ⟨s.fn,s.n,s.fr,t.hp,s.wf,t.wh,t.js⟩ ⟨st.fn,st.fr,tt.hp⟩:=⟨h.fn,h.n,fun x=>(h.fr x).mono sP.grow,ht.hp,ht.js⟩
    obtain⟨l,m2,g1,g2,hk⟩:=qL hS.T hS.Q DU hk
    have Rb:(bk S.C.P st.fr rs).run tt.hp=some m2:=g1
    refine⟨l,t.hp,t.wh,t.js,m2,tt.hp,?_,g2,ht.hp,ht.js,sP.grow,sP.len,sP.hp,sP.wh,hk⟩
    simp only[wT,hm,QE,QF,hck.1,c1]
    rcases ho with rfl|rfl<;>simp only[f1',HI,Rb]
   cases so with
   |norm t=>
    obtain⟨tt,rfl,ht⟩:=c2
    exact fin t tt ht c3 (.inl rfl) hk
   |ret t=>
    obtain⟨tt,rfl,ht⟩:=c2
    exact fin t tt ht c3 (.inr rfl) hk
   |exit id t=>simp[Tr.run]at hk
theorem Vw{k:Nat}(ih:qO S k){ρ:Type}{f:FuncId}{args:List (SV S.T.den)}{hp:aq S.T.den}{wh:List Nat}{js:List (Nat×nf)}{K:SV S.T.den→aq S.T.den→List Nat→List (Nat×nf)→Tr ρ}{r:ρ}{as:List AV}{RZ:ak}
  (ha:RL S.T hp args as) (hh:RH S.T hp RZ) (hj:mz js hp RZ) (hk:(UT S (k+1) ρ f args hp wh js K).run=some r):∃ v cU rq tJ a gm,jt S.C f as RZ=some (.val a,gm)∧R S.T cU v a∧RH S.T cU gm∧mz tJ cU gm∧ep hp cU∧hp.length≤cU.length ∧
    (∀ n:Nat,n<hp.length→n∉rq→cU[n]?=hp[n]?)∧(∀ n,n∈wh→n∈rq)∧(K v cU rq tJ).run=some r:=by
 unfold UT at hk
 split at hk
 ·simp[Tr.run]at hk
 rename_i fn tD
 split at hk
 ·simp[Tr.run]at hk
 rename_i c hc
 rw[qe,force_eq]at hk
 have lQ:=BD (f:=f) ha hh fn.ntmps wh hj
 split at hk
 ·rename_i hD
  split at hk
  case h_2=>simp[Tr.run]at hk
  rename_i hn
  obtain⟨so,d,o,da,c1,c2,c3,c4,hk⟩:=R2 ih c lQ hk
  have fin:∀ (s:bQ S.T.den) (st:St),RS S.T s st→bx ⟨f,max fn.ntmps args.length,oI 0 args,hp,[],wh,js⟩ s→DR S.T s.hp d da→(o=.norm st∨o=.ret st) →
    (Gb (fun c s K=>ze S k ρ c s K) S.Q S.C.P fn.results.toList s d fun l hp wh js=>K (tF l) hp wh js).run=some r →
    ∃ v cU rq tJ a gm,jt S.C f as RZ=some (.val a,gm)∧R S.T cU v a∧RH S.T cU gm∧mz tJ cU gm∧ep hp cU∧hp.length≤cU.length ∧
    (∀ n:Nat,n<hp.length→n∉rq→cU[n]?=hp[n]?)∧(∀ n,n∈wh→n∈rq)∧(K v cU rq tJ).run=some r:=by
   intro s st hs sP Xm ho hk
   obtain⟨l,cU,rq,tJ,m,gm,e1,e2,e3,e4,e5,e6,e7,e8,hk⟩:=OZ hS ih hs Xm hk
   refine⟨tF l,cU,rq,tJ,cY m,gm,?_,Kl e2,e3,e4,sP.grow.trans e5,Nat.le_trans sP.len e6,fun n hn hw=>?_,fun n hn=>e8 n (sP.wh n hn),hk⟩
   ·refine MH tD hc hD ?_
    unfold wU
    rw[hn,c1]
    rcases ho with rfl|rfl<;>exact e1
   ·rw[e7 n (Nat.lt_of_lt_of_le hn sP.len) hw]
    exact sP.hp n hn fun h=>hw (e8 n h)
  cases so with
  |norm s=>
   obtain⟨st,rfl,hs⟩:=c2
   exact fin s st hs c3 c4 (.inl rfl) hk
  |ret s=>
   obtain⟨st,rfl,hs⟩:=c2
   exact fin s st hs c3 c4 (.inr rfl) hk
  |exit id s=>simp[Tr.run]at hk
 rename_i hD
 obtain⟨so,o,c1,c2,c3,hk⟩:=ih.c _ _ _ _ _ _ lQ hk
 have fin:∀ (s:bQ S.T.den) (st:St),RS S.T s st→bx ⟨f,max fn.ntmps args.length,oI 0 args,hp,[],wh,js⟩ s→(MG S.C fn.results o=((bk S.C.P st.fr fn.results.toList).run st.hp).map fun l=>(.val (cY l),st.hp)) →
   (uI S.T S.Q s fn.results.toList fun l=>K (tF l) s.hp s.wh s.js).run=some r →
   ∃ v cU rq tJ a gm,jt S.C f as RZ=some (.val a,gm)∧R S.T cU v a∧RH S.T cU gm∧mz tJ cU gm∧ep hp cU∧hp.length≤cU.length ∧
   (∀ n:Nat,n<hp.length→n∉rq→cU[n]?=hp[n]?)∧(∀ n,n∈wh→n∈rq)∧(K v cU rq tJ).run=some r:=by
  intro s st hs sP he hk
  obtain⟨l,m,g1,g2,hk⟩:=qL hS.T hS.Q hs hk
  refine⟨tF l,s.hp,s.wh,s.js,cY m,st.hp,?_,Kl g2,hs.hp,hs.js,sP.grow,sP.len,sP.hp,sP.wh,hk⟩
  rw[zm tD hc _ _ hD,c1]
  simp only[Option.bind_some]
  rw[he]
  have Rb:(bk S.C.P st.fr fn.results.toList).run st.hp=some m:=g1
  rw[Rb]
  rfl
 cases so with
 |norm s=>
  obtain⟨st,rfl,hs⟩:=c2
  exact fin s st hs c3 rfl hk
 |ret s=>
  obtain⟨st,rfl,hs⟩:=c2
  exact fin s st hs c3 rfl hk
 |exit id s=>simp[Tr.run]at hk
theorem Vx{k:Nat}(ih:qO S k){ρ:Type}{c:Code}{s:bQ S.T.den}{K:ri S.T.den→Tr ρ}{r:ρ}{st:St}(h:RS S.T s st)(hk:(ze S (k+1) ρ c s K).run=some r):
  ∃ so o,dw S.C c st=some o∧G0 S.T so o∧bx s so.st∧(K so).run=some r:=by
 unfold ze at hk
 split at hk
 ·exact⟨.norm s,_,pJ st,⟨st,rfl,h⟩,bx.refl _,hk⟩
 ·exact⟨.norm s,_,HU _ st,⟨st,rfl,h⟩,bx.refl _,hk⟩
 ·exact⟨.ret s,_,vH st,⟨st,rfl,h⟩,bx.refl _,hk⟩
 ·rename_i id
  exact⟨.exit id s,_,xb id st,⟨st,rfl,h⟩,bx.refl _,hk⟩
 ·rename_i a b
  obtain⟨so,o,c1,c2,c3,hk⟩:=ih.c _ _ _ _ _ _ h hk
  rw[gT,c1]
  cases so with
  |norm s'=>
   obtain⟨st',rfl,gn⟩:=c2
   obtain⟨Vo,o2,d1,d2,d3,hk⟩:=ih.c _ _ _ _ _ _ gn hk
   exact⟨Vo,o2,d1,d2,c3.trans d3,hk⟩
  |exit id s'=>
   obtain⟨st',rfl,gn⟩:=c2
   exact⟨.exit id s',_,rfl,⟨st',rfl,gn⟩,c3,hk⟩
  |ret s'=>
   obtain⟨st',rfl,gn⟩:=c2
   exact⟨.ret s',_,rfl,⟨st',rfl,gn⟩,c3,hk⟩
 ·rename_i o a b
  split at hk
  ·rename_i t ht
   have ha:=(h.ev o).lit ht
   rw[ll,ha]
   rcases gz hk with ⟨rfl,hk⟩|⟨rfl,hk⟩
   ·exact ih.c _ _ _ _ _ _ h hk
   ·exact ih.c _ _ _ _ _ _ h hk
  ·simp[Tr.run]at hk
 ·rename_i id b
  obtain⟨so,o,c1,c2,c3,hk⟩:=ih.c _ _ _ _ _ _ h hk
  rw[nr,c1]
  cases so with
  |norm s'=>
   obtain⟨st',rfl,gn⟩:=c2
   exact⟨.norm s',_,rfl,⟨st',rfl,gn⟩,c3,hk⟩
  |exit Mf s'=>
   obtain⟨st',rfl,gn⟩:=c2
   simp only at hk
   by_cases e:Mf=id
   ·rw[if_pos e]at hk
    exact⟨.norm s',.norm st',by simp[xd,e],⟨st',rfl,gn⟩,c3,hk⟩
   ·rw[if_neg e]at hk
    exact⟨.exit Mf s',.exit Mf st',by simp[xd,e],⟨st',rfl,gn⟩,c3,hk⟩
  |ret s'=>
   obtain⟨st',rfl,gn⟩:=c2
   exact⟨.ret s',_,rfl,⟨st',rfl,gn⟩,c3,hk⟩
 ·rename_i b
  split at hk
  case h_2=>simp[Tr.run]at hk
  rename_i c hc
  obtain⟨so,o,c1,c2,c3,hk⟩:=ih.c _ _ _ _ _ _ h hk
  exact⟨so,o,HV hc c1,c2,c3,hk⟩
 ·rename_i b
  split at hk
  ·split at hk
   ·obtain⟨so,o,c1,c2,c3,hk⟩:=ih.c _ _ _ _ _ _ h hk
    rw[pK,c1]
    cases so with
    |norm s'=>
     obtain⟨st',rfl,gn⟩:=c2
     simp only at hk
     split at hk
     case h_2=>simp[Tr.run]at hk
     rename_i I4
     rw[force_eq]at hk
     have hr:=GV (n:=s.hp.length) hS.T gn (Dp I4)
     have sP:=yS h c3
     obtain⟨Vo,o2,d1,d2,d3,hk⟩:=ih.c _ _ _ _ _ _ hr hk
     refine⟨Vo,o2,?_,d2,sP.trans d3,hk⟩
     simp only[Option.bind_some,MF]
     rw[←h.hp.length]
     exact d1
    |exit id s'=>
     obtain⟨st',rfl,gn⟩:=c2
     exact⟨.exit id s',_,rfl,⟨st',rfl,gn⟩,c3,hk⟩
    |ret s'=>
     obtain⟨st',rfl,gn⟩:=c2
     exact⟨.ret s',_,rfl,⟨st',rfl,gn⟩,c3,hk⟩
   ·simp[Tr.run]at hk
  ·rename_i hi _
   split at hk
   ·rename_i x0 cj hx0
    simp only[Bool.and_eq_true]at cj
    rw[Option.bind_eq_some_iff]at hx0
    obtain⟨l0,h1,h2⟩:=hx0
    simp only[Tr.run,Option.bind_eq_some_iff]at hk
    obtain⟨w,hw,hk⟩:=hk
    obtain⟨o,x,so,oo,g1,g2,g3,g4,g5⟩:=R1 hS ih cj.1.1 cj.1.2 cj.2 h1 h2 h hw
    exact⟨so,oo,g1,g3,g4,by rw[←g5]; exact hk⟩
   ·simp[Tr.run]at hk
 ·rename_i id ops draw
  split at hk
  ·obtain⟨s00,e10,e20,hk⟩:=xW h hk
   obtain⟨s0,e1,e2,hk⟩:=ER hS.T e10 hk
   replace e2:=e20.trans e2
   rw[tv]at hk
   obtain⟨s',st',g1,g2,g3,hk⟩:=sH (C:=S.C) (fun o s st K h hk=>ih.o _ _ _ _ _ _ h hk) _ _ _ _ e1 hk
   exact⟨.norm s',.norm st',by rw[CF,←h.fn]; exact g1,⟨st',rfl,g2⟩,e2.trans g3,hk⟩
  ·split at hk
   case isFalse=>simp[Tr.run]at hk
   rename_i Q9
   generalize hm:S.C.head s.fn id ops=m at hk
   have key:∀ (s:bQ S.T.den) (st:St),RS S.T s st→(qF ops ops.toList fun l=>Bc (nO (bW 0 s.hp.length (ops.toList.take m)) l) fun li=>uM (fun nm o s K=>exE S nm o s K) li
       { s with hp:=s.hp++List.replicate ((ops.toList.take m).filter fun o=>aC o.op).length none } [] fun s' fs=>
      if (tn (cH ops.toList) fs && oW (cH ops.toList) ops.size m) = true then yC (fun o s K => RA S k ρ o s K) (l.drop m) s' fun s' => K (.norm s') else .no "an order").run = some r →
     ∃ so o,(vJ S.C ops (bW 0 st.hp.length (ops.toList.take m)) { st with hp:=st.hp++List.replicate ((ops.toList.take m).filter fun o=>aC o.op).length none }).bind (JG S.C ops m)=some o ∧
       G0 S.T so o∧bx s so.st∧(K so).run=some r:=by
    clear hk h
    intro s st h hk
    rw[tv,Dl,tX]at hk
    have hRH:∀ n:Nat,ep s.hp (s.hp++List.replicate n none)∧RH S.T (s.hp++List.replicate n none) (st.hp++List.replicate n none):=by
     intro n
     have hg:ep s.hp (s.hp++List.replicate n none):=fun m o ho=>⟨o,by rw[List.getElem?_append_left (List.getElem?_eq_some_iff.1 ho).1]; exact ho,Nat.le_refl _,fun _=>rfl⟩
     exact⟨hg,aE.append (aE.mono (fun _ _=>EA.mono hg) h.hp) (aE.replicate (show EA S.T _ none none from trivial) n)⟩
    generalize adl:((ops.toList.take m).filter fun o=>aC o.op).length=WR at hk
    have qV:RS S.T { s with hp:=s.hp++List.replicate WR none } { st with hp:=st.hp++List.replicate WR none }:=
     ⟨h.fn,h.n,fun t=>(h.fr t).mono (hRH WR).1,(hRH WR).2,h.js.EE fun n hn=>⟨by simp only; rw[List.getElem?_append_left (kz hn)],by simp only; rw[List.getElem?_append_left (by rw[←h.hp.length]; exact kz hn)]⟩⟩
    have adm:bx s { s with hp:=s.hp++List.replicate WR none }:=
     ⟨rfl,rfl,fun _ _=>rfl,fun _ h=>h,fun n hn _=>by simp only; rw[List.getElem?_append_left hn],fun _ h=>h,by simp,(hRH WR).1⟩
    obtain⟨s',st',Vd,QY,g1,g2,g3,g4,hk⟩:=xR (C:=S.C) (ops:=ops) (fun nm o s st K h hn hk=>Vm hS h hn hk) (bW 0 s.hp.length (ops.toList.take m)) s.hp.length _ _ [] _ (Dm _ _ _)
     (by rw[BA,adl]; simp) (fun m hm L3=>by
       simp only at L3 ⊢
       rw[List.getElem?_append_right hm,List.getElem?_replicate,if_pos]
       simp at L3; omega) qV hk
    split at hk
    case isFalse=>simp[Tr.run]at hk
    rename_i Ha
    rw[Bool.and_eq_true]at Ha
    obtain⟨Ha,yp⟩:=Ha
    obtain⟨s2,RW,j1,j2,j3,hk⟩:=sH (C:=S.C) (fun o s st K h hk=>ih.o _ _ _ _ _ _ h hk) _ _ _ _ g3 hk
    refine⟨.norm s2,.norm RW,?_,⟨RW,rfl,j2⟩,adm.trans (g4.trans j3),hk⟩
    have hl:=h.hp.length
    rw[←hl]
    rw[g1]
    simp only[Option.bind_some,JG]
    rw[if_pos]
    ·rw[rX,←j1,List.map_drop]
    ·rw[Bool.and_eq_true]
     simp only[List.nil_append]at Ha
     exact⟨Bz g2 (EL Ha),yp⟩
   obtain⟨s00,e10,e20,hk⟩:=xW h hk
   obtain⟨s0,e1,e2,hk⟩:=ER hS.T e10 hk
   replace e2:=e20.trans e2
   obtain⟨so,o,i1,i2,i3,hk⟩:=key s0 _ e1 hk
   refine⟨so,o,?_,i2,e2.trans i3,hk⟩
   rw[KR id ops Q9,←h.fn,←uw (S.C.ja s.fn id) st,hm]
   exact i1
 ·-- a range over a function
  rename_i f ps as bd
  split at hk
  case h_2=>simp[Tr.run]at hk
  rename_i g args hg
  split at hk
  case h_2=>simp[Tr.run]at hk
  rename_i np
  rw[Bool.and_eq_true]at np
  have hl:=h.hp.length
  have gk:=LC h np.2
  obtain⟨H1,L5⟩:∃ H1,H1=s.hp++[some (aK.rh s.fn ps as bd (zd (eK as++eK bd) s.fr (List.range s.n)))]:=⟨_,rfl⟩
  rw[←L5]at hk
  have S0:ep s.hp H1:=fun m o ho=>⟨o,by rw[L5,List.getElem?_append_left (List.getElem?_eq_some_iff.1 ho).1]; exact ho,Nat.le_refl _,fun _=>rfl⟩
  have gC:H1[s.hp.length]?=some (some (aK.rh s.fn ps as bd (zd (eK as++eK bd) s.fr (List.range s.n)))):=by rw[L5]; simp
  have hh1:RH S.T H1 (st.hp++[some (.iI (.loop st.fn ps as bd .ready) (zU as bd st.fr))]):=by
   have:aE (EA S.T H1) (s.hp++[some (aK.rh s.fn ps as bd (zd (eK as++eK bd) s.fr (List.range s.n)))]) (st.hp++[some (.iI (.loop st.fn ps as bd .ready) (zU as bd st.fr))]):=
    aE.append (aE.mono (fun _ _=>EA.mono S0) h.hp) ⟨⟨.ready,_,by rw[h.fn],aE.mono (fun _ _ h=>h.imp id (R.mono S0)) gk⟩,trivial⟩
   rw[←L5]at this
   exact this
  have Wy:mz ((s.hp.length,.ready)::s.js) H1 (st.hp++[some (.iI (.loop st.fn ps as bd .ready) (zU as bd st.fr))]):=by
   intro m x hm
   simp only[cQ]at hm
   split at hm
   ·simp_all[recAt,gC,aK.isRec,jZ]
   ·obtain⟨h1,h2⟩:=h.js m x hm
    have cr:=kz h1
    exact⟨by rw[sG (show H1[m]?=s.hp[m]? by rw[L5,List.getElem?_append_left cr])]; exact h1,by rw[qf (List.getElem?_append_left (by omega))]; exact h2⟩
  have hyR:RV S.T H1 (.mp true s.hp.length) (.mp true st.hp.length):=.inr (by simp only[R]; exact⟨by rw[hl],_,gC⟩)
  obtain⟨m,Hy,CJ⟩:=ij ((h.ev f).mono S0) (show aE (RV S.T H1) [.mp true s.hp.length] [.mp true st.hp.length] from ⟨hyR,trivial⟩) hg
  have OV:args.any cL=false:=by simpa using np.1
  obtain⟨v,cU,rq,tJ,a,gm,g1,g2,g3,gj,g4,g5,g6,g7,hk⟩:=ih.f _ _ _ _ _ _ _ _ _ _ (CJ OV) hh1 Wy hk
  have JA:H1.length=s.hp.length+1:=by rw[L5]; simp
  have fin:∀ x,cQ tJ s.hp.length=some x→RS S.T (s.over s.hp.length cU rq tJ) { st with hp:=vv gm st.hp.length }∧bx s (s.over s.hp.length cU rq tJ)∧jZ gm st.hp.length=some x:=by
   intro x hx
   obtain⟨q1,q2⟩:=gj _ _ hx
   rw[hl]at q2
   obtain⟨WE,ps',qp,bd',D4,hr⟩:=lR q2
   obtain⟨o,ho,hor⟩:∃ o,cU[s.hp.length]?=some (some o)∧o.isRec=true:=by
    grind[recAt]
   have tI:o.cur=0∧o.len=0:=by cases o<;>simp[aK.isRec]at hor; exact⟨rfl,rfl⟩
   have FM:vv gm st.hp.length=gm.set st.hp.length (some (.iI (.loop WE ps' qp bd' .over) (D4.map fun _=>.any))):=by unfold vv; rw[hr]
   obtain⟨u1,u2⟩:=g3.WK ho (o':=.ji) (a':=.iI (.loop WE ps' qp bd' .over) (D4.map fun _=>.any)) (by rw[tI.1]; exact Nat.zero_le _) (fun _=>by rw[tI.2]; rfl) (.inr ⟨_,_,rfl,fun n=>by
    rw[BB]
    simp[Go.PI.below]⟩)
   rw[hl]at u2
   have CC:ep s.hp (cU.set s.hp.length (some .ji)):=S0.trans (g4.trans u1)
   refine⟨⟨h.fn,h.n,fun t=>(h.fr t).mono CC,?_,?_⟩,⟨rfl,rfl,fun _ _=>rfl,fun _ h=>h,fun n hn hw=>?_,g7,?_,CC⟩,q2⟩
   ·rw[FM]
    show RH S.T (cU.set s.hp.length (some .ji)) _
    rw[hl]; exact u2
   ·intro n y hy
    have DT:cQ (Ga tJ s.hp.length) n=some y:=hy
    rw[G1]at DT
    split at DT
    ·simp at DT
    rename_i dP
    obtain⟨w1,w2⟩:=gj _ _ DT
    refine⟨?_,?_⟩
    ·rw[sG (show (s.over s.hp.length cU rq tJ).hp[n]?=cU[n]? from List.getElem?_set_ne (Ne.symm dP))]; exact w1
    ·rw[FM,qf (List.getElem?_set_ne (by rw[←hl]; exact Ne.symm dP))]; exact w2
   ·show (cU.set s.hp.length (some .ji))[n]?=_
    rw[List.getElem?_set_ne (by omega),g6 n (by omega) hw,L5,List.getElem?_append_left hn]
   ·show s.hp.length≤(cU.set s.hp.length (some .ji)).length
    rw[List.length_set]; omega
  have bz:dw S.C (.rangeFunc f ps as bd) st=zX st st.hp.length gm:=by
   rw[HY,Hy]
   simp only[Option.bind_some,g1]
   rfl
  rw[bz]
  split at hk
  ·rename_i hx
   obtain⟨f1,f2,f3⟩:=fin _ hx
   exact⟨.norm _,_,by unfold zX; rw[f3],⟨_,rfl,f1⟩,f2,hk⟩
  ·rename_i hx
   obtain⟨f1,f2,f3⟩:=fin _ hx
   exact⟨.ret _,_,by unfold zX; rw[f3],⟨_,rfl,f1⟩,f2,hk⟩
  ·rename_i id hx
   obtain⟨f1,f2,f3⟩:=fin _ hx
   exact⟨.exit id _,_,by unfold zX; rw[f3],⟨_,rfl,f1⟩,f2,hk⟩
  ·simp[Tr.run]at hk
 ·simp[Tr.run]at hk
theorem Hb:∀ k,qO S k
 |0=>⟨fun _ _ _ _ _ _ _ _ _ _ _ _ _ h=>by simp[UT,Tr.run]at h,fun _ _ _ _ _ _ _ h=>by simp[ze,Tr.run]at h,fun _ _ _ _ _ _ _ h=>by simp[RA,Tr.run]at h⟩
 |k+1=>
  have ih:=Hb k
  ⟨fun _ _ _ _ _ _ _ _ _ _ ha hh hj hk=>Vw hS ih ha hh hj hk,fun _ _ _ _ _ _ h hk=>Vx hS ih h hk,fun _ _ _ _ _ _ h hk=>Vn hS ih h hk⟩
end
end Go.PI
end
section
/- PS, part R: from an equation of trees to what is known of a function; laws; arguments read. -/
namespace Go.PI
theorem O0[ah]{S:rl}(hS:S.Ok){k:Nat}{f:FuncId}{σ:zc S.T}(hk:S.C.kind f=.pure)(hi:S.C.kZ f=none)(h:∀ x,(UU S k f σ.args σ.res x).run=σ.fn x):wC S.C S.T f σ where
 kind:=hk
 Vc:=by
  intro x as y hx hy
  rw[←h x]at hy
  unfold UU at hy
  obtain⟨v,cU,rq,tJ,a,gm,g1,g2,g3,_,_,_,_,_,hy⟩:=(Hb hS k).f _ f _ [] [] [] _ _ as [] (OE hS.T [] hx) (show RH S.T [] [] from trivial) (fun _ _ h=>by simp[cQ]at h) hy
  obtain⟨v',rd,a',h1,h2,h3,hy⟩:=OD g3 g2 hy
  split at hy
  case h_2=>simp[Tr.run]at hy
  rename_i r hr
  simp only[Tr.run,Option.some.injEq]at hy
  subst hy
  rw[Option.bind_eq_some_iff]at hr
  obtain⟨l,hl,hr⟩:=hr
  have ZZ:∀ (ts:List Nat) (l:List (SV S.T.den)) r,Lk S.T ts l=some r→ts.length=l.length:=by
   intro ts
   induction ts with
   |nil=>
    grind[Lk]
   |cons t ts ih=>
    intro l r h
    cases l with
    |nil=>simp[Lk]at h
    |cons v l=>
     simp only[Lk,Option.bind_eq_some_iff,Option.map_eq_some_iff]at h
     obtain⟨_,_,_,h,_⟩:=h
     simp[ih _ _ h]
  have hlen:=ZZ _ _ _ hl
  have key:∃ m,RL S.T cU (Oj σ.res v') m∧cY m=a':=by
   unfold Oj at hlen ⊢
   split at hlen
   ·exact⟨[a'],by simp only[RL]; exact⟨h2,trivial⟩,rfl⟩
   ·rename_i dP
    have u7:σ.res.length≠1:=by
     intro hc
     match dR:σ.res,hc with
     |[t],_=>exact dP t dR
    split at hlen
    ·simp only[R]at h2
     obtain⟨m,rfl,h2⟩:=h2
     have hm:=h2.length
     refine⟨m,h2,?_⟩
     match m,hm with
     |[],_=>rfl
     |[x],hm=>simp at hm; omega
     |x::y::r,_=>rfl
    ·simp at hlen; omega
  obtain⟨m,Hy,hm3⟩:=key
  have HF:=IX hS.T Hy hl
  rw[qK _ _ _ hr]
  refine⟨a,gm,m,?_,?_,?_,HF⟩
  ·simp only[OF,hi,g1]
  ·rw[hm3]; exact h1.1
  ·rw[hm3]; exact h3.1
def Qr(C:Ctx)(T:ej)(M:List (Nat×jS))(hint:FuncId→Nat→Option Hint)(xB:FuncId→Nat→Bool)(L:List (Nat×zc T))(n:Nat)(O:List (Nat×yB T):=[])(zb:FuncId→Nat→Bool:=fun _ _=>false)(tw:FuncId→Tmp→List Tw:=fun _ _=>[]):rl:=
 ⟨C,T,cQ (L.take n),hint,xB,M,cQ O,zb,tw⟩
theorem Dx{α:Type}:∀ {l m:List (Nat×α)} {n:Nat} {a:α},cQ (l++m) n=some a→cQ l n=some a∨cQ m n=some a
 |[],m,n,a,h=>.inr h
 |(k,b)::l,m,n,a,h=>by
  simp only[List.cons_append,cQ]at h ⊢
  split at h
  ·exact .inl h
  ·exact Dx h
section
variable {C:Ctx}{T:ej}{M:List (Nat×jS)}{hint:FuncId→Nat→Option Hint}{xB:FuncId→Nat→Bool}{L:List (Nat×zc T)}{O:List (Nat×yB T)}{zb:FuncId→Nat→Bool}{tw:FuncId→Tmp→List Tw}
theorem Oq[ah](hT:T.Ok)(hQ:iM.Ok ⟨C.P,M,fun _=>false⟩)(hZ:T.wz ⟨C.P,M,fun _=>false⟩)(hO:∀ g σ,cQ O g=some σ→Dj C T g σ):(Qr C T M hint xB L 0 O zb tw).Ok:=
 ⟨hT,hQ,hZ,fun g σ h=>by simp[Qr,cQ]at h,hO⟩
theorem GA[ah]{n:Nat}(hS:(Qr C T M hint xB L n O zb tw).Ok){f:FuncId}{σ:zc T}(hL:L[n]?=some (f,σ))(h:wC C T f σ):(Qr C T M hint xB L (n+1) O zb tw).Ok:=by
 refine⟨hS.T,hS.Q,hS.Z,fun g τ hg=>?_,hS.own⟩
 simp only[Qr]at hg
 rw[List.take_add_one,hL]at hg
 rcases Dx hg with hg|hg
 ·exact hS.sum g τ hg
 ·have:=fS hg
  simp only[Option.toList_some,List.mem_singleton]at this
  obtain⟨rfl,rfl⟩:=this
  exact h
theorem au[ah]{n:Nat}(hS:(Qr C T M hint xB L n O zb tw).Ok){f:FuncId}{σ:zc T}(hL:L[n]?=some (f,σ))(hk:C.kind f=.pure)(hi:C.kZ f=none)(k:Nat)
  (h:∀ x,(UU (Qr C T M hint xB L n O zb tw) k f σ.args σ.res x).run=σ.fn x):(Qr C T M hint xB L (n+1) O zb tw).Ok:=
 GA hS hL (O0 hS hk hi h)
theorem R3[ah]{n:Nat}(hS:(Qr C T M hint xB L n O zb tw).Ok){f:FuncId}{σ:zc T}(h:cQ (L.take n) f=some σ):wC C T f σ:=hS.sum f σ h
end
theorem Je[ah]{hp:ak}{v:AV}{b:Bool}(h:(bn 1000 v).run hp=some (.lit (.bool b))):v=.lit (.bool b):=by
 cases v with
 |lit x=>
  simp only[bn]at h
  split at h
  ·simp[RM.run_pure]at h
  ·simpa[RM.run_pure] using h
 |agg l=>simp only[bn,RM.run_bind]at h; cases hq:(bg 999 l).run hp<;>rw[hq]at h<;>simp[RM.run_pure]at h
 |kJ l=>simp only[bn,RM.run_bind]at h; cases hq:(bg 999 l).run hp<;>rw[hq]at h<;>simp[RM.run_pure]at h
 |sl l=>simp[bn,RM.run_pure]at h
 |mB l c=>simp[bn,RM.run_pure]at h
 |nz=>simp[bn,RM.run_pure]at h
 |bq e j=>simp[bn,RM.run_pure]at h
 |ref n ax i j=>
  simp only[bn,RM.run_bind]at h
  cases hq:(RM.arr n ax).run hp with
  |none=>rw[hq]at h; simp at h
  |some q=>
   obtain⟨g,c,f,es⟩:=q
   rw[hq]at h
   simp only[Option.bind_some]at h
   split at h
   ·split at h
    ·simp[RM.run_pure]at h
    ·rename_i e _ _
     rw[RM.run_bind]at h
     cases fc:(bn 999 e).run hp<;>rw[fc]at h<;>simp[RM.run_pure]at h
   ·simp[RM.aj]at h
 |jC n ax i j len cap=>
  simp only[bn,RM.run_bind]at h
  cases hq:(RM.arr n ax).run hp with
  |none=>rw[hq]at h; simp at h
  |some q=>
   obtain⟨g,c,f,es⟩:=q
   rw[hq]at h
   simp only[Option.bind_some]at h
   split at h
   ·split at h
    ·split at h
     ·simp[RM.run_pure]at h
     ·rename_i cs _ _ _
      rw[RM.run_bind]at h
      cases fc:(bg 999 ((cs.drop j).take len)).run hp<;>rw[fc]at h<;>simp[RM.run_pure]at h
    ·simp[RM.aj]at h
   ·simp[RM.aj]at h
 |mp n=>simp[bn,RM.aj]at h
 |any=>simp[bn,RM.aj]at h
 |jU t x=>simp only[bn,RM.run_bind]at h; cases hq:(bn 999 x).run hp<;>rw[hq]at h<;>simp[RM.run_pure]at h
 |jT fn f c=>
  simp only[bn,RM.run_bind]at h
  cases hq:(bg 999 f).run hp with
  |none=>rw[hq]at h; simp at h
  |some f'=>
   cases fc:(bg 999 c).run hp with
   |none=>rw[hq,fc]at h; simp at h
   |some c'=>simp_all[RM.run_pure]
 |bw esz n ax off len cap=>
  simp only[bn,RM.run_bind]at h
  cases hq:(RM.arr n ax).run hp with
  |none=>rw[hq]at h; simp at h
  |some q=>
   obtain⟨g,c,f,es⟩:=q
   rw[hq]at h
   simp only[Option.bind_some]at h
   split at h
   ·split at h
    ·simp[RM.run_pure]at h
    ·rw[RM.run_bind]at h
     cases fc:(bg 999 ((es.drop off).take len)).run hp<;>rw[fc]at h<;>simp[RM.run_pure]at h
   ·simp[RM.aj]at h
open Go.RowKit in
theorem O1[ah]{C:Ctx}{T:ej}(hC:C.Ok){f:FuncId}{σ:zc T}(h:wC C T f σ)(hi:C.kZ f=none){x:HL T.den (σ.args.map .v)}{y:HL T.den (σ.res.map .v)}(hy:σ.fn x=some y)
  (dR:∀ l,aE (S3 T) (hU _ y) l→l=[.lit (.bool true)]) {as:List AV} (ha:aE (S3 T) (hU _ x) as) {W:World} (hg:mn (Env.all W)) {vs:List Value} (hr:aw (Env.all W) false as vs) :
  Calls C.P f vs.toArray W fun e w'=>e=.returned (.bool true)∧Below W.heap.size W w':=by
 obtain⟨v,eX,l,h1,h2,_,h4⟩:=h.Vc x as y ha hy
 have:=dR l h4
 subst this
 have hv:=Je h2
 subst hv
 unfold OF at h1
 rw[hi]at h1
 simp only at h1
 split at h1
 case h_2=>simp at h1
 rename_i v0 Yp bz
 simp only[Option.some.injEq,Prod.mk.injEq]at h1
 obtain⟨rfl,rfl⟩:=h1
 exact KL hC bz hg hr
end Go.PI
end
section
/- PS, part S: arguments that came in, as typed values. -/
namespace Go.PI
section
variable {P:Program}{n t:Nat}{l:List AV}
theorem lH(h:Shape P n t l):∃ k,n=k+1:=by
 cases n with
 |zero=>simp[Shape]at h
 |succ k=>exact⟨k,rfl⟩
theorem Jf[ah](hu:P.underlying t=some .bool)(h:Shape P n t l):∃ b,l=[.lit (.bool b)]:=by
 obtain⟨k,rfl⟩:=lH h
 simpa only[Shape,hu] using h
theorem Dz[ah]{i:IntKind}(hu:P.underlying t=some (.int i))(h:Shape P n t l):∃ m:Int,l=[.lit (.int i m)]∧i.min≤m∧m≤i.max:=by
 obtain⟨k,rfl⟩:=lH h
 simp only[Shape,hu]at h
 obtain⟨m,h1,h2⟩:=h
 simp only[Lit.wf,Bool.and_eq_true,decide_eq_true_eq]at h2
 exact⟨m,h1,h2⟩
theorem yV[ah]{e:Nat}{α:Type}{Q:α→AV→Prop}{d:TypeDesc}(hu:P.underlying t=some (.slice e))(he:P.underlying e=some d)(h:Shape P n t l)
  (MA:∀ k x,(∃ cl,(if fK d then x=AV.agg cl else cl=[x])∧Shape P k e cl)→∃ y,Q y x) :
  ∃ ys xs,l=[.sl xs]∧aE Q ys xs∧ys.length≤maxLen:=by
 obtain⟨k,rfl⟩:=lH h
 simp only[Shape,hu]at h
 obtain⟨xs,h1,h2,h3⟩:=h
 have:∃ ys,aE Q ys xs:=by
  clear h1 h2
  induction xs with
  |nil=>exact⟨[],trivial⟩
  |cons x xs ih=>
   obtain⟨ys,h4⟩:=ih fun y hy=>h3 y (List.mem_cons_of_mem _ hy)
   obtain⟨cl,h5,h6⟩:=h3 x (by simp)
   rw[he]at h5
   obtain⟨y,h7⟩:=MA k x ⟨cl,h5,h6⟩
   exact⟨y::ys,h7,h4⟩
 obtain⟨ys,h4⟩:=this
 exact⟨ys,xs,h1,h4,by rw[h4.length]; exact h2⟩
theorem ET[ah]{fs:Array Field}(hu:P.underlying t=some (.struct fs))(h:Shape P n t l):l.length=P.cellsOf t∧∃ k,∀ f,f∈fs.toList→Shape P k f.type ((l.drop f.offset).take (P.cellsOf f.type)):=by
 obtain⟨k,rfl⟩:=lH h
 simp only[Shape,hu]at h
 exact⟨h.1,k,h.2⟩
theorem kC[ah]{Q:iM}(hQ:Q.Ok){t:Nat}{m:jS}(hm:Q.ty t=some m){fs:List (Nat×Nat)}(hk:m.kind=.struct fs)(h:Shape Q.P n t l):
  l.length=Q.P.cellsOf t∧∃ k,∀ q,q∈fs→Shape Q.P k q.2 ((l.drop q.1).take (Q.P.cellsOf q.2)):=by
 obtain⟨d,hd,DP⟩:=hQ.kind t m hm
 rw[hk]at DP
 cases d<;>simp[kindOf]at DP
 rename_i Hu
 subst DP
 obtain⟨h1,k,h2⟩:=ET hd h
 refine⟨h1,k,fun q hq=>?_⟩
 obtain⟨f,hf,rfl⟩:=List.mem_map.1 hq
 exact h2 f hf
theorem Hd[ah]{Q:iM}(hQ:Q.Ok){t:Nat}{m:jS}(hm:Q.ty t=some m){c e:Nat}(hk:m.kind=.array c e)(h:Shape Q.P n t l):
  l.length=Q.P.cellsOf t∧∃ k,∀ i,i<c→Shape Q.P k e ((l.drop (i*Q.P.cellsOf e)).take (Q.P.cellsOf e)):=by
 obtain⟨d,hd,DP⟩:=hQ.kind t m hm
 rw[hk]at DP
 cases d<;>simp[kindOf]at DP
 obtain⟨rfl,rfl⟩:=DP
 obtain⟨k,rfl⟩:=lH h
 simp only[Shape,hd]at h
 exact⟨h.1,k,h.2⟩
end
theorem aJ{Q:iM}(hQ:Q.Ok){t:Nat}{m:jS}(h:Q.ty t=some m):Q.P.cellsOf t=m.size:=by
 obtain⟨r,h1,_,h2,_⟩:=hQ.row t m h
 unfold gb at h1
 unfold Program.cellsOf
 cases hi:Q.P.info? t with
 |none=>rw[hi]at h1; simp at h1
 |some i=>
  grind
theorem aL[ah]{P:Program}{n t t':Nat}{l:List AV}(hu:P.underlying t=P.underlying t')(h:Shape P n t l)(hc:P.cellsOf t=P.cellsOf t':=by kernel_rfl):Shape P n t' l:=by
 obtain⟨k,rfl⟩:=lH h
 simp only[Shape]at h ⊢
 rw[←hu,←hc]
 exact h
theorem ik{k:IntKind}{n:Int}:bt (.lit (.int k n))=true:=rfl
theorem fV{b:Bool}:bt (.lit (.bool b))=true:=rfl
theorem il{s:ByteArray}:bt (.lit (.string s))=true:=rfl
theorem He{T:ej}{H:aq T.den}{v:SV T.den}{vs:List (SV T.den)}{l:List AV}:RL T H (v::vs) l↔∃ c cs,l=c::cs∧R T H v c∧RL T H vs cs:=by
 cases l with
 |nil=>simp[RL]
 |cons c cs=>
  grind[RL]
theorem Jg{T:ej}{H:aq T.den}{l:List AV}:RL T H [] l↔l=[]:=by
 cases l<;>simp[RL]
end Go.PI
end
section
/- PS: what must hold of a seat's types, for all the plain kinds at once. -/
namespace Go.PI
section
variable {T:ej}{H:aq T.den}{v:SV T.den}{a:AV}
theorem aB{k:IntKind}{x:Int}(h:dI k v=some x)(hr:R T H v a):a=.lit (.int k x):=by
 unfold dI at h
 split at h
 ·simp_all[R]
 ·simp at h
theorem sM{x:Bool}(h:dB v=some x)(hr:R T H v a):a=.lit (.bool x):=by
 unfold dB at h
 split at h
 ·simp_all[R]
 ·simp at h
theorem YL{x:ByteArray}(h:dS v=some x)(hr:R T H v a):a=.lit (.string x):=by
 unfold dS at h
 split at h
 ·simp_all[R]
 ·simp at h
theorem O3{α:Type}{q:α→AV→Prop}{d:SV T.den→Option α}(hd:∀ v x a,d v=some x→R T H v a→q x a):∀ (vs:List (SV T.den)) (l:List α) (m:List AV),X1 d vs=some l→RL T H vs m→aE q l m
 |[],l,[],h,_=>by simp[X1]at h; subst h; trivial
 |v::vs,l,a::m,h,hr=>by
  simp only[RL]at hr
  simp only[X1,Option.bind_eq_some_iff,Option.map_eq_some_iff]at h
  obtain⟨x,h1,ys,h2,rfl⟩:=h
  exact⟨hd _ _ _ h1 hr.1,O3 hd vs ys m h2 hr.2⟩
 |[],_,_::_,_,h=>by simp[RL]at h
 |_::_,_,[],_,h=>by simp[RL]at h
theorem eV{e:Nat}{x:List (T.den e)}{d:SV T.den→Option (T.den e)}(hd:∀ v x a,d v=some x→R T H v a→T.rp e x a)(h:WJ e d v=some x)(hr:R T H v a):UW (T.rp e) x a:=by
 unfold WJ at h
 split at h
 ·rename_i t l
  split at h
  ·rename_i e
   subst e
   have e2:l=x:=Option.some.inj h
   subst e2
   simp only[R]at hr
   exact hr
  ·simp at h
 ·simp only[R]at hr
  obtain⟨m,rfl,hm,_⟩:=hr
  exact .inl ⟨m,rfl,O3 hd _ _ _ h hm⟩
 ·grind[R]
 ·simp at h
theorem sN{α:Type}{q:α→AV→Prop}{d:SV T.den→Option α}{x:α}(hd:∀ v a,d v=some x→R T H v a→q x a)(h:RB d v=some x)(hr:R T H v a):Qm q x a:=by
 unfold RB at h
 split at h
 ·grind[R]
 ·simp at h
theorem uL{l:Value}(h:a=.lit l):R T H (.lit l) a:=by simp only[R]; exact h
theorem uG{e:Nat}{x:List (T.den e)}(h:UW (T.rp e) x a):R T H (.jR e x) a:=by simp only[R]; exact h
theorem uP{α:Type}{q:α→AV→Prop}{u:α→SV T.den}{x:α}(hu:∀ b,q x b→R T H (u x) b)(hc:aM (u x)=true)(h:Qm q x a):R T H (.bq (u x) 0) a:=by
 grind[R]
theorem eI{k:IntKind}{x:Int}(h:a=.lit (.int k x)):aF false 1 a=true∧closed a=true∧bt a=true:=by subst h; exact⟨rfl,rfl,rfl⟩
theorem eB{x:Bool}(h:a=.lit (.bool x)):aF false 1 a=true∧closed a=true∧bt a=true:=by subst h; exact⟨rfl,rfl,rfl⟩
theorem eS{x:ByteArray}(h:a=.lit (.string x)):aF false 1 a=true∧closed a=true∧bt a=true:=by subst h; exact⟨rfl,rfl,rfl⟩
theorem eG{α:Type}{q:α→AV→Prop}{x:List α}(h:UW q x a):aF false 1 a=true∧closed a=true∧bt a=true:=by
 rcases h with ⟨l,rfl,_⟩|⟨_,rfl⟩<;>exact⟨rfl,rfl,rfl⟩
theorem eP{α:Type}{q:α→AV→Prop}{x:α}(h:Qm q x a):aF false 1 a=true∧closed a=true∧bt a=true:=by
 obtain⟨b,rfl,_⟩:=h
 exact⟨rfl,rfl,rfl⟩
theorem Hg{p q r:Prop}(h:p∧q∧r):p∧q:=⟨h.1,h.2.1⟩
theorem zz{α β:Type}{P:α→β→Prop}{x z:α}{y za:β}(h1:some x=some z)(h2:some y=some za)(h:P x y):P z za:=by
 simp_all
theorem zn{α:Type}{z:α}{p:Prop}(h:(none:Option α)=some z):p:=by cases h
end
end Go.PI
end
section
/- PS, part U: what is lacking of laws to compute by: appends and literal slices. -/
namespace Go.PI
variable {C:Ctx}{P:Program}{dst:Option Tmp}{type:TypeId}{pos:String}{after:Array Edge}{guard:Option (Nat×Bool)}{s:St}{hp:ak}{nm:Nat}{ev:Operand→AV}
theorem BQ[ah]{d:Tmp}(h:C.acc s.fn d=false):jv C ⟨some d,.assign (.const (.slice none 0 0)),type,pos,after,guard⟩ s=some (.norm { s with fr:=s.fr.set d (.lit cz) }):=by
 refine cM (nq C _ _) (by simp[iV]) fun k=>?_
 simp only[iV,h]
 rfl
theorem Jk{x y:Operand}{t u:TypeId}:(aV P nm ev ⟨dst,.call ⟨.builtin .append,#[x,y],#[t,u]⟩,type,pos,after,guard⟩).run hp=(fJ P nm t u (ev x) (ev y)).run hp:=rfl
theorem LS{t:TypeId}{r:bO}(y5:aU P t=some r)(hz:(cq r).isSome=true)(hr:0<r.size):
  (aV P nm ev ⟨dst,.buildSlice t 0 #[],type,pos,after,guard⟩).run hp=some ⟨.bw r.size nm 0 0 0 (some 0),[(nm,.arr false true false [])]⟩:=by
 obtain⟨z,hz⟩:=Option.isSome_iff_exists.1 hz
 simp only[aV,jD,y5,hz]
 simp[hr,bf,gO]
 rfl
theorem LU[ah]{t u:TypeId}{r:bO}(y5:aU P t=some r)(lQ:cf P u=true)(hz:(cq r).isSome=true)(hr:0<r.size){xs:List AV}{c n:Nat}(bK:xs.all (aF r.isAgg r.size)=true)
  (dP:xs≠[]) (Ed:(RM.arr n 0).run hp=some (false,true,false,[])) (h1:xs.length*r.bytes≤2^44) (h2:xs.length≤2^44) :
  (fJ P nm t u (.bw r.size n 0 0 0 (some 0)) (.mB xs c)).run hp=some ⟨.bw r.size nm xs.length 0 xs.length none,[(nm,.arr true true false xs)]⟩:=by
 have hn:xs.isEmpty=false:=by cases xs<;>simp_all
 have hl:0<xs.length:=List.length_pos_iff.2 dP
 simp only[fJ,y5,wS,lQ,gA,RM.run_bind,RM.run_pure,Option.bind_some,hz,hr,bK,decide_true,Bool.and_self,hn,Ed]
 simp[RM.run_pure,h1,h2,dP]
def Ps(d:Option eg):AV→Option eg
 |.lit (.slice none 0 0)=>some ⟨int 0,[]⟩
 |_=>d
theorem Pt{d:Option eg}:Ps d (.lit (.slice none 0 0))=some ⟨int 0,[]⟩:=rfl
theorem Sd{t:TypeId}{x:Operand}(h:cf P t=true):(aV P nm ev ⟨dst,.call ⟨.builtin .cap,#[x],#[t]⟩,type,pos,after,guard⟩).run hp =
  Ps (Na P nm ev ⟨dst,.call ⟨.builtin .cap,#[x],#[t]⟩,type,pos,after,guard⟩ hp) (ev x):=by
 unfold Ps
 split
 ·rename_i hx; simp[aV,eb,hx,h]; rfl
 ·rfl
theorem Se{t:TypeId}{x:Operand}(h:cf P t=true):(aV P nm ev ⟨dst,.call ⟨.builtin .len,#[x],#[t]⟩,type,pos,after,guard⟩).run hp =
  Ps (Na P nm ev ⟨dst,.call ⟨.builtin .len,#[x],#[t]⟩,type,pos,after,guard⟩ hp) (ev x):=by
 unfold Ps
 split
 ·rename_i hx; simp[aV,eb,hx,h,qi]; rfl
 ·rfl
theorem Sf[ah]{t:TypeId}{x:Operand}{lo hi mx:Option Operand}:(aV P nm ev ⟨dst,.slice t x lo hi mx,type,pos,after,guard⟩).run hp=(pt P t (ev x) (lo.map ev) (hi.map ev) (mx.map ev)).map fun x=>⟨x,[]⟩:=DY _ _
theorem Sg{t:TypeId}{r:bO}(y5:aU P t=some r):pt P t (.lit cz) none (some (int 0)) none=some (.lit cz):=by
 simp[pt,y5,bJ,asNat]
theorem Sh{t:TypeId}{r:bO}(y5:aU P t=some r){n ax len:Nat}(hv:0<ax):pt P t (.bw r.size n ax 0 len none) none (some (int 0)) none=some (.bw r.size n ax 0 0 none):=by
 simp[pt,y5,bJ,asNat,hv]
theorem Pu[ah]{t u:TypeId}{r:bO}{k:IntKind}{z:AV}{n:Nat}(y5:aU P t=some r)(lQ:cf P u=false)(hu:P.underlying u=some (.int k))(hz:cq r=some z)(hr:0<r.size)
  (ho:aF r.isAgg r.size z=true) (hn:0<n) (h1:n*r.bytes≤2^44) (h2:n≤2^44) :
  (fJ P nm t u (.lit cz) (int n)).run hp=some ⟨.bw r.size nm n 0 n none,[(nm,.arr true true false (List.replicate n z))]⟩:=by
 have dP:(List.replicate n z).isEmpty=false:=by cases n with
  |zero=>omega
  |succ n=>rfl
 have bK:(List.replicate n z).all (aF r.isAgg r.size)=true:=by simp[ho]
 simp only[fJ,y5,wS,lQ,hu,hz,uo,RM.run_bind,h1,h2,and_self,if_true,RM.run_pure,Option.bind_some,Option.isSome_some,hr,bK,decide_true,Bool.and_self,dP,List.length_replicate]
theorem Jl[ah]{k n:Nat}{xs:List AV}{esz:Nat}{cap:Option Nat}{g f:Bool}(h:(RM.arr n xs.length).run hp=some (g,true,f,xs)):(bn (k+1) (.bw esz n xs.length 0 xs.length cap)).run hp=some (.sl xs):=by
 simp[bn,RM.run_bind,h,RM.run_pure]
def yY:AV→AV
 |.lit (.slice none 0 0)=>.sl []
 |x=>x
theorem DC{E:Env}{o:Bool}{x:AV}{v:Value}(h:ar E o x v):ar E o (yY x) v:=by
 unfold yY
 split
 ·grind[ar]
 ·exact h
theorem BR[ah]{E:Env}{c:Array Value}{esz:Nat}:∀ {xs:List AV} {pos:Nat},eY E xs c pos esz→eY E (xs.map yY) c pos esz
 |[],_,_=>by simp[eY]
 |x::xs,pos,h=>by
  simp only[eY,List.map_cons]at h ⊢
  obtain⟨⟨v,h1,h2⟩,h3⟩:=h
  exact⟨⟨v,DC h1,h2⟩,BR h3⟩
theorem LV[ah]{E:Env}{o:Bool}{xs:List AV}{v:Value}(h:ar E o (.sl xs) v):ar E o (.sl (xs.map yY)) v:=by
 simp only[ar,List.length_map]at h ⊢
 obtain⟨a,cap,h1,h2,h3,h4⟩:=h
 refine⟨a,cap,h1,h2,h3,?_⟩
 rcases h4 with h4|⟨b,of,esz,c,h5,h6,h7⟩
 ·left; rw[h4]; rfl
 ·exact .inr ⟨b,of,esz,c,h5,h6,BR h7⟩
def yZ:List AV→Option (List (List AV))
 |[]=>some []
 |.sl l::xs=>(yZ xs).map fun r=>l::r
 |_::_=>none
theorem Ho:∀ {xs:List AV} {ls:List (List AV)},yZ xs=some ls→xs=ls.map .sl
 |[],ls,h=>by simp[yZ]at h; subst h; rfl
 |x::xs,ls,h=>by
  unfold yZ at h
  split at h
  ·rename_i hh; simp at hh
  ·rename_i l xs' hh
   simp only[List.cons.injEq]at hh
   obtain⟨rfl,rfl⟩:=hh
   simp only[Option.map_eq_some_iff]at h
   obtain⟨r,h1,rfl⟩:=h
   rw[Ho h1]; rfl
  ·simp at h
def aef(r:bO):List AV→Option AV
 |[.sl xs]=>if xs.all (aF r.isAgg r.size)=true∧xs.length*r.bytes≤2^44∧xs.length≤2^44 then some (.sl xs) else none
 |[.lit (.slice none 0 0)]=>some (.sl [])
 |_=>none
def oS(r:bO):List AV→Option AV
 |[.sl es]=>(match yZ (es.map yY) with
  |some ls=>if ls.length≤2^44∧ls.flatten.all (aF r.isAgg r.size)=true∧ls.flatten.length*r.bytes≤2^44∧ls.flatten.length≤2^44 then some (.sl ls.flatten) else none
  |none=>none)
 |[.lit (.slice none 0 0)]=>some (.sl [])
 |_=>none
theorem Hp[ah]{C0:Ctx}(cj:C0.Ok){g:FuncId}{xs:List AV}{r:AV}
  (h0:∃ res eX,jt C0 g [.sl xs] []=some (.val res,eX)∧(bn 1000 res).run eX=some r)
  (Ec:Env) (w:World) (vs:List Value) (hI:Inv Ec [] w) (ha:aw Ec false [.sl xs] vs):Calls C0.P g vs.toArray w (bD Ec w [] (.val r)):=by
 obtain⟨res,eX,he,h⟩:=h0
 have out:(iq [.sl xs] eX (.val res)).run []=some (.val r,[]):=by
  simp only[iq,h]
  split
  ·rfl
  ·simp[cS,names,eW,RM.run_bind,RM.run_pure]
 have ha2:aw Ec true [.sl xs] vs:=by
  match vs,ha with
  |[],ha=>simp[aw]at ha
  |_::_::_,ha=>simp[aw]at ha
  |[v],ha=>
   simp only[aw]at ha ⊢
   exact⟨ar.jF ha.1,trivial⟩
 obtain⟨k,hk⟩:=(bl (kV C0 g [.sl xs] [])).1 he
 have pV:(bg 1000 [.sl xs]).run []=some [.sl xs]:=rfl
 refine xk hI ha2 pV out fun Ec' mM P7=>?_
 refine(sound cj k).1 g [.sl xs] [] _ _ hk Ec' w vs mM ?_
 match vs,P7 with
 |[],ha=>simp[aw]at ha
 |_::_::_,ha=>simp[aw]at ha
 |[v],ha=>
  simp only[aw]at ha ⊢
  exact⟨ar.jF ha.1,trivial⟩
theorem LH[ah]{C0:Ctx}(cj:C0.Ok){g:FuncId}{r:bO}
  (h1:∀ ls:List (List AV),ls.length≤2^44→(∀ l∈ls,l.all (aF r.isAgg r.size)=true)→ls.flatten.length*r.bytes≤2^44→ls.flatten.length≤2^44 →
    ∃ res eX,jt C0 g [.sl (ls.map .sl)] []=some (.val res,eX)∧(bn 1000 res).run eX=some (.sl ls.flatten))
  {as:List AV} {a:AV} (h:oS r as=some a) (Ec:Env) (w:World) (vs:List Value) (hI:Inv Ec [] w) (ha:aw Ec false as vs):Calls C0.P g vs.toArray w (bD Ec w [] (.val a)):=by
 unfold oS at h
 split at h
 ·rename_i es
  split at h
  case h_2=>simp at h
  rename_i ls Rr
  split at h
  case isFalse=>simp at h
  rename_i hc
  simp only[Option.some.injEq]at h
  subst h
  have he:=Ho Rr
  refine Hp cj (xs:=ls.map .sl) (h1 ls hc.1 (fun l hl=>?_) hc.2.2.1 hc.2.2.2) Ec w vs hI ?_
  ·have:=hc.2.1
   rw[List.all_eq_true]at this ⊢
   exact fun x hx=>this x (List.mem_flatten.2 ⟨l,hl,hx⟩)
  ·rw[←he]
   match vs,ha with
   |[],ha=>simp[aw]at ha
   |_::_::_,ha=>simp[aw]at ha
   |[v],ha=>
    simp only[aw]at ha ⊢
    exact⟨LV ha.1,trivial⟩
 ·simp only[Option.some.injEq]at h
  subst h
  refine Hp cj (xs:=[]) (h1 [] (by simp) (by simp) (by simp) (by simp)) Ec w vs hI ?_
  match vs,ha with
  |[],ha=>simp[aw]at ha
  |_::_::_,ha=>simp[aw]at ha
  |[v],ha=>
   simp only[aw]at ha ⊢
   exact⟨DC ha.1,trivial⟩
 ·simp at h
end Go.PI
end
section
/- PS, part V: copies of lists and lists laid together, as models. -/
namespace Go.PI
def CZ(b n:Nat):Bool:=decide (n*b≤2^44)&&decide (n≤2^44)
def Ek{α:Type}(b:Nat)(x:List α):Option (List α):=bif CZ b x.length then some x else none
def zw{α:Type}(b:Nat)(x:List (List α)):Option (List α):=bif decide (x.length≤2^44)&&CZ b x.flatten.length then some x.flatten else none
def rps{α:Type}(rpe:α→AV→Prop)(x:List α)(a:AV):Prop:=(∃ l,a=.sl l∧aE rpe x l)∨(x=[]∧a=.lit cz)
theorem BS[ah]{α:Type}{rpe:α→AV→Prop}:∀ {x:List (List α)} {es:List AV},aE (rps rpe) x es→∃ ls,yZ (es.map yY)=some ls∧aE (aE rpe) x ls
 |[],es,h=>by
  have:=h.Gc
  subst this
  exact⟨[],rfl,trivial⟩
 |x::xs,[],h=>by simp[aE]at h
 |x::xs,e::es,h=>by
  simp only[aE]at h
  obtain⟨h1,h2⟩:=h
  obtain⟨ls,h3,h4⟩:=BS h2
  rcases h1 with ⟨l,rfl,h⟩|⟨rfl,rfl⟩
  ·refine⟨l::ls,?_,h,h4⟩
   simp only[List.map_cons,yY,yZ,h3,Option.map_some]
  ·refine⟨[]::ls,?_,trivial,h4⟩
   simp only[List.map_cons,yY,yZ,h3,Option.map_some]
theorem wO[ah]{α:Type}{rpe:α→AV→Prop}:∀ {x:List (List α)} {ls:List (List AV)},aE (aE rpe) x ls→aE rpe x.flatten ls.flatten
 |[],ls,h=>by
  have:=h.Gc
  subst this
  exact trivial
 |x::xs,[],h=>by simp[aE]at h
 |x::xs,e::es,h=>by
  simp only[aE]at h
  simp only[List.flatten_cons]
  exact h.1.append (wO h.2)
theorem Jc[ah]{α:Type}{rpe:α→AV→Prop}{r:bO}(cj:∀ x a,rpe x a→aF r.isAgg r.size a=true){x:List (List α)}{y:List α}{a:AV}(ha:rps (rps rpe) x a)(hy:zw r.bytes x=some y):
  ∃ l,oS r [a]=some (.sl l)∧aE rpe y l:=by
 unfold zw CZ at hy
 cases hq:decide (x.length≤2^44)&&(decide (x.flatten.length*r.bytes≤2^44)&&decide (x.flatten.length≤2^44))
 ·rw[hq]at hy; simp at hy
 rw[hq]at hy
 simp only[cond_true,Option.some.injEq]at hy
 subst hy
 simp only[Bool.and_eq_true,decide_eq_true_eq]at hq
 rcases ha with ⟨es,rfl,h⟩|⟨rfl,rfl⟩
 ·obtain⟨ls,h1,h2⟩:=BS h
  have h3:=wO h2
  rw[h3.length,h2.length]at hq
  refine⟨ls.flatten,?_,h3⟩
  unfold oS
  simp only
  rw[h1]
  simp only
  have bK:ls.flatten.all (aF r.isAgg r.size)=true:=by
   refine List.all_eq_true.2 fun z hz=>?_
   obtain⟨i,hi⟩:=List.getElem?_of_mem hz
   obtain⟨u,_,hu⟩:=h3.get' hi
   exact cj _ _ hu
  rw[if_pos ⟨hq.1,bK,hq.2.1,hq.2.2⟩]
 ·exact⟨[],rfl,trivial⟩
theorem Jb[ah]{C:Ctx}{T:ej}{g:FuncId}{t u:Nat}{I:List AV→Option AV}{F:T.den t→Option (T.den u)}(hk:C.kind g=.pure)(hi:C.kZ g=some I)
  (h:∀ x a y,T.rp t x a→F x=some y→∃ l,I [a]=some (.sl l)∧T.rp u y (.sl l)):wC C T g ⟨[t],[u],F⟩ where
 kind:=hk
 Vc:=by
  intro x as y hx hy
  match as,hx with
  |[],hx=>exact False.elim hx
  |_::_::_,hx=>exact False.elim hx.2
  |[a],hx=>
   obtain⟨l,h1,h2⟩:=h x a y hx.1 hy
   refine⟨.sl l,[],[.sl l],?_,rfl,rfl,?_⟩
   ·simp only[OF,hi,h1]; rfl
   ·exact⟨h2,trivial⟩
end Go.PI
end
section
/- PS, part W: a copy of a slice is the caller's own. -/
namespace Go.PI
theorem Si[ah]{Ec:Env}{w w':World}{en:Ending}(esz:Nat)(h:bD Ec w [] (.val (.lit cz)) en w'):
  bD Ec w [some (.arr true true false [])] (.val (.bw esz 0 0 0 0 none)) en w':=by
 obtain⟨E',hx,hI,hf,hr⟩:=h
 cases en with
 |panicked ch=>exact hr.elim
 |outgrown=>exact hr.elim
 |returned v=>
  simp only[Ae,ar]at hr
  obtain⟨E2,oY,xl,nB,Ns⟩:=Ea hI (esz:=esz)
  refine⟨E2,hx.trans oY,xl,hf.trans nB,?_⟩
  simp only[Ae]
  rw[hr]
  exact Ns
theorem LW[ah]{Ec:Env}{w w':World}{en:Ending}{eX:ak}{n esz:Nat}{cl:Bool}(hn:eX[n]?=some (some (.arr false cl false [])))
  (h:bD Ec w eX (.val (.bw esz n 0 0 0 (some 0))) en w'):bD Ec w (eX.set n (some (.arr true true false []))) (.val (.bw esz n 0 0 0 none)) en w':=by
 obtain⟨E',hx,hI,hf,hr⟩:=h
 cases en with
 |panicked ch=>exact hr.elim
 |outgrown=>exact hr.elim
 |returned v=>
  have nZ:∀ i o,(eX.set n (some (ba.arr true true false [])))[i]?=some (some o)→(i=n∧o=.arr true true false [])∨(i≠n∧eX[i]?=some (some o)):=by
   grind
  have fI:∀ i b,cG E' (eX.set n (some (ba.arr true true false []))) i b→cG E' eX i b:=by
   rintro i b ⟨o,l,ho,hl,hb⟩
   rcases nZ i o ho with ⟨rfl,rfl⟩|⟨_,ho⟩
   ·exact⟨_,l,hn,hl,hb⟩
   ·exact⟨o,l,ho,hl,hb⟩
  have Ed:=hI.objs n _ hn
  refine⟨E',hx,⟨by simpa using hI.len,?_,?_,fun n1 n2 b h1 h2=>hI.inj n1 n2 b (fI _ _ h1) (fI _ _ h2),hI.mem,hI.qk,hI.kL⟩,hf,?_⟩
  ·intro i o ho
   rcases nZ i o ho with ⟨rfl,rfl⟩|⟨_,ho⟩
   ·obtain⟨l,hl,hv,hm⟩:=Ed
    refine⟨l,hl,hv,?_⟩
    cases hb:l.mh with
    |none=>rw[hb]at hm; exact⟨rfl,rfl⟩
    |some b=>
     rw[hb]at hm
     obtain⟨c,T,a1,a2,a3,a4,a5,_,_⟩:=hm
     exact⟨c,T,a1,a2,a3,a4,a5,(fun h=>by cases h),fun i e he=>by simp at he⟩
   ·exact hI.objs i o ho
  ·intro i ax h
   by_cases e:i=n
   ·subst e; rw[cD hn]at h; simp at h
   ·rw[List.getElem?_set_ne (fun h=>e h.symm)]at h
    exact hI.free i ax h
  ·simp only[Ae,ar]at hr ⊢
   obtain⟨h1,h2,l,hl,pD,hv,hm⟩:=hr
   refine⟨h1,h2,l,hl,pD,hv,?_⟩
   obtain⟨l2,rK,_,CJ⟩:=Ed
   rw[show ([]:List AV).length=0 from rfl,hl]at rK
   cases rK
   cases hb:l.mh with
   |none=>rw[hb]at hm; simp at hm
   |some b=>
    rw[hb]at hm CJ
    obtain⟨c,T,_,_,_,_,_,hg,_⟩:=CJ
    obtain⟨a,ed,rfl,hk,_,h3,h4,h5,h6⟩:=hm
    have:=hk 0 rfl
    subst this
    have uh:=hg rfl
    exact⟨a,0,rfl,fun k Jz=>by simp at Jz,fun _=>by simp at uh; omega,h3,h4,h5,h6⟩
def sL(r:bO):List AV→Option (AV×ak)
 |[.sl xs]=>if xs.all (aF r.isAgg r.size)=true∧xs.length*r.bytes≤2^44∧xs.length≤2^44 then some (.bw r.size 0 xs.length 0 xs.length none,[some (.arr true true false xs)]) else none
 |[.lit (.slice none 0 0)]=>some (.bw r.size 0 0 0 0 none,[some (.arr true true false [])])
 |_=>none
theorem Hq{nm n m esz:Nat}{cl cl':Bool}{es:List AV}{eX y6:ak}(h:eX[n]?=some (some (.arr true cl false es)))(h':y6[m]?=some (some (.arr true cl' false es))):
  eh nm (.bw esz n es.length 0 es.length none) eX=eh nm (.bw esz m es.length 0 es.length none) y6:=by
 simp only[eh,h,h']
theorem LI[ah]{C0:Ctx}(cj:C0.Ok){g:FuncId}{r:bO}
  (h0:jt C0 g [.lit cz] []=some (.val (.lit cz),[]))
  (he:∀ cap,∃ n cl eX,jt C0 g [.mB [] cap] []=some (.val (.bw r.size n 0 0 0 (some 0)),eX)∧eX[n]?=some (some (.arr false cl false [])))
  (h1:∀ xs cap,xs≠[]→xs.all (aF r.isAgg r.size)=true→xs.length*r.bytes≤2^44→xs.length≤2^44 →
    ∃ n cl eX,jt C0 g [.mB xs cap] []=some (.val (.bw r.size n xs.length 0 xs.length none),eX)∧eX[n]?=some (some (.arr true cl false xs)))
  {as:List AV} {a:AV} {eX:ak} (h:sL r as=some (a,eX)) (Ec:Env) (w:World) (vs:List Value) (hI:Inv Ec [] w) (ha:aw Ec false as vs) :
  Calls C0.P g vs.toArray w (fun en w'=>∃ r' y6,bD Ec w y6 (.val r') en w'∧∀ nm,eh nm r' y6=eh nm a eX):=by
 have KC:∀ v,v=cz→Calls C0.P g #[v] w (fun en w'=>∃ r' y6,bD Ec w y6 (.val r') en w'∧∀ nm,eh nm r' y6=eh nm (.bw r.size 0 0 0 0 none) [some (.arr true true false [])]):=by
  intro v hv
  obtain⟨k,hk⟩:=(bl (kV C0 g [.lit cz] [])).1 h0
  refine((sound cj k).1 g [.lit cz] [] _ _ hk Ec w [v] hI (by simp only[aw,ar]; exact⟨hv,trivial⟩)).mono fun en w' hp=>?_
  exact⟨_,_,Si r.size hp,fun _=>rfl⟩
 unfold sL at h
 split at h
 ·rename_i xs
  split at h
  case isFalse=>simp at h
  rename_i hc
  simp only[Option.some.injEq,Prod.mk.injEq]at h
  obtain⟨rfl,rfl⟩:=h
  match vs,ha with
  |[],ha=>simp[aw]at ha
  |_::_::_,ha=>simp[aw]at ha
  |[v],ha=>
   have vK:=ha
   simp only[aw,ar]at vK
   obtain⟨⟨ad,cap,hv,hle,hn,hor⟩,_⟩:=vK
   cases ad with
   |none=>
    have hx:xs=[]:=by
     simp_all
    subst hx
    exact KC v (by rw[hv,hn rfl]; rfl)
   |some ad=>
    have Tl:aw Ec true [.mB xs cap] [v]:=by
     simp_all[aw,ar]
    by_cases hx:xs=[]
    ·subst hx
     obtain⟨n,cl,eX,hr,ya⟩:=he cap
     obtain⟨k,hk⟩:=(bl (kV C0 g [.mB [] cap] [])).1 hr
     refine((sound cj k).1 g [.mB [] cap] [] _ _ hk Ec w [v] hI Tl).mono fun en w' hp=>?_
     exact⟨_,_,LW ya hp,fun nm=>Hq (es:=[]) (cD ya) rfl⟩
    ·obtain⟨n,cl,eX,hr,ya⟩:=h1 xs cap hx hc.1 hc.2.1 hc.2.2
     obtain⟨k,hk⟩:=(bl (kV C0 g [.mB xs cap] [])).1 hr
     refine((sound cj k).1 g [.mB xs cap] [] _ _ hk Ec w [v] hI Tl).mono fun en w' hp=>?_
     exact⟨_,_,hp,fun nm=>Hq ya rfl⟩
 ·simp only[Option.some.injEq,Prod.mk.injEq]at h
  obtain⟨rfl,rfl⟩:=h
  match vs,ha with
  |[],ha=>simp[aw]at ha
  |_::_::_,ha=>simp[aw]at ha
  |[v],ha=>
   simp only[aw,ar]at ha
   exact KC v ha.1
 ·simp at h
theorem Ja{α:Type}{rpe:α→AV→Prop}{r:bO}(cj:∀ x a,rpe x a→aF r.isAgg r.size a=true){x y:List α}{a:AV}(ha:rps rpe x a)(hy:Ek r.bytes x=some y):
  ∃ l,sL r [a]=some (.bw r.size 0 l.length 0 l.length none,[some (.arr true true false l)])∧aE rpe y l:=by
 unfold Ek CZ at hy
 rcases ha with ⟨l,rfl,h⟩|⟨rfl,rfl⟩
 ·cases hq:decide (x.length*r.bytes≤2^44)&&decide (x.length≤2^44)
  ·rw[hq]at hy; simp at hy
  rw[hq]at hy
  simp only[cond_true,Option.some.injEq]at hy
  subst hy
  simp only[Bool.and_eq_true,decide_eq_true_eq]at hq
  rw[h.length]at hq
  refine⟨l,?_,h⟩
  unfold sL
  simp only
  have bK:l.all (aF r.isAgg r.size)=true:=by
   refine List.all_eq_true.2 fun z hz=>?_
   obtain⟨i,hi⟩:=List.getElem?_of_mem hz
   obtain⟨u,_,hu⟩:=h.get' hi
   exact cj u z hu
  rw[if_pos ⟨bK,hq.1,hq.2⟩]
 ·have:y=[]:=by
   simp_all
  subst this
  exact⟨[],rfl,trivial⟩
theorem I9[ah]{C:Ctx}{T:ej}{g:FuncId}{t el esz:Nat}{I:List AV→Option (AV×ak)}{F:T.den t→Option (List (T.den el))}(hi:C.gP g=some I)
  (Nf:∀ x a,T.rp el x a→flat a=true)
  (h:∀ x a y,T.rp t x a→F x=some y→∃ l,I [a]=some (.bw esz 0 l.length 0 l.length none,[some (.arr true true false l)])∧aE (T.rp el) y l):Dj C T g ⟨[t],el,esz,F⟩ where
 Vc:=by
  intro x as y hx hy
  match as,hx with
  |[],hx=>exact False.elim hx
  |_::_::_,hx=>exact False.elim hx.2
  |[a],hx=>
   obtain⟨l,h1,h2⟩:=h x a y hx.1 hy
   refine⟨0,true,l,[some (.arr true true false l)],?_,rfl,?_,h2⟩
   ·simp only[Vb,hi,h1]
   ·rw[List.all_eq_true]
    intro z hz
    obtain⟨i,hi⟩:=List.getElem?_of_mem hz
    obtain⟨u,_,hu⟩:=h2.get' hi
    exact Nf u z hu
end Go.PI
end
section
/- Plain laws: loops of models. -/
namespace Go.Pl
open Go.PI
theorem next[ah]{τ ω:Type}{f:τ→Option (τ ⊕ ω)}{x y:τ}(h:f x=some (.inl y)):aX f x=aX f y:=by
 rw[F5,h]; rfl
theorem out[ah]{τ ω:Type}{f:τ→Option (τ ⊕ ω)}{x:τ}{w:ω}(h:f x=some (.inr w)):aX f x=some w:=by
 rw[F5,h]; rfl
theorem A3(p:Nat→Bool)(n i:Nat)(hi:i<n):(List.range' i (n-i)).all p=(p i&&(List.range' (i+1) (n-(i+1))).all p):=by
 grind
theorem F2[ah]{τ ω:Type}{f:τ→Option (τ ⊕ ω)}(st:Nat→τ)(p:Nat→Bool)(bad:Nat→ω)(n:Nat)(e:ω)
  (h:∀ i,i<n→f (st i)=some (bif p i then .inl (st (i+1)) else .inr (bad i))) (he:f (st n)=some (.inr e)) :
  (List.range n).all p=true∧aX f (st 0)=some e∨(List.range n).all p=false∧∃ i,i<n∧p i=false∧aX f (st 0)=some (bad i):=by
 have key:∀ m i,m=n-i→i≤n→(List.range' i (n-i)).all p=true∧aX f (st i)=some e∨(List.range' i (n-i)).all p=false∧∃ j,j<n∧p j=false∧aX f (st i)=some (bad j):=by
  intro m
  induction m with
  |zero=>
   intro i hm hi
   have:i=n:=by omega
   subst this
   left
   rw[Nat.sub_self]
   exact⟨rfl,out he⟩
  |succ m ih=>
   intro i hm hi
   have cr:i<n:=by omega
   have hs:=h i cr
   rw[A3 p n i cr]
   cases hp:p i with
   |false=>
    rw[hp]at hs
    right
    exact⟨by simp,i,cr,hp,out hs⟩
   |true=>
    rw[hp]at hs
    rw[next hs]
    simpa using ih (i+1) (by omega) (by omega)
 have:=key n 0 rfl (Nat.zero_le _)
 rwa [Nat.sub_zero,←List.range_eq_range']at this
theorem C5{α:Type}{l:List α}{q:α→Bool}{p:Nat→Bool}(h:∀ i (hi:i<l.length),p i=q l[i]):(List.range l.length).all p=l.all q:=by
 rw[Bool.eq_iff_iff,List.all_eq_true,List.all_eq_true]
 constructor
 ·intro hp x hx
  obtain⟨i,hi,rfl⟩:=List.getElem_of_mem hx
  rw[←h i hi]; exact hp i (List.mem_range.2 hi)
 ·simp_all
theorem qb[ah]{α τ ω:Type}{f:τ→Option (τ ⊕ ω)}(l:List α)(st:Nat→τ)(q:α→Bool)(bad e:ω){x0:τ}
  (h:∀ i (hi:i<l.length),f (st i)=some (bif q l[i] then .inl (st (i+1)) else .inr bad)) (he:f (st l.length)=some (.inr e)) (hx:x0=st 0) :
  aX f x0=some (bif l.all q then e else bad):=by
 subst hx
 have hp:∀ i (hi:i<l.length),(fun i=>(l[i]?.map q).getD false) i=q l[i]:=by
  simp_all
 rcases F2 st (fun i=>(l[i]?.map q).getD false) (fun _=>bad) l.length e (fun i hi=>by have:=hp i hi; simp only at this; rw[this]; exact h i hi) he with ⟨h1,h2⟩|⟨h1,i,_,_,h2⟩
 ·rw[C5 hp]at h1; rw[h2,h1]; rfl
 ·rw[C5 hp]at h1; rw[h2,h1]; rfl
theorem m8{i n:Nat}(h:i<n)(hn:n≤2^63-1):IntKind.i64.wrap ((i:Int)+1)=((i+1:Nat):Int):=by
 rw[IntWalk.i64_in _ (by omega)]; omega
end Go.Pl
end
section
/- The types of this seat, as Lean's (printed by gen_tys.py out of the dump). -/
namespace Go.Proofs.YtpodhambaehlkaaGreatDoor
open Go.PI
instance:ah:=⟨fun g=>match Nat.beq g 0 with|true=>some #[.int .u64 30,.int .u64 13787848793156543929,.int .u64 27,.int .u64 10723151780598845931,.int .u64 31,.int .u64 1]|false=>none,fun f=>Nat.beq f 154⟩
structure A2(α:Type)where
 e0:α
 e1:α
structure A8(α:Type)where
 e0:α
 e1:α
 e2:α
 e3:α
 e4:α
 e5:α
 e6:α
 e7:α
structure af where
 Kind:Int
 A:Int
 B:Int
 C:Int
structure an where
 aG:Int
 Sub:Int
 Number:Int
 Data:Int
 aA:Int
 aQ:Int
 aI:Bool
 ay:Bool
structure ai where
 P:an
 At:Int
structure Queue where
 af:af
 Room:Int
 ag:List (List ai)
 ae:A8 Int
 aY:Int
structure bc where
 dq:Int
 di:Int
 Queue:Queue
 iX:Bool
 dr:an
 cO:Int
structure wK where
 dH:bc
 Kz:List an
structure oT where
 Queue:Queue
 dr:Int
structure lV where
 Q:Queue
 ag:A2 (List ai)
 dr:Int
 Td:List an
def den:Nat→Type
 |2=>Int
 |3=>Int
 |4=>Bool
 |9=>ByteArray
 |22=>af
 |23=>af
 |24=>List (List ai)
 |25=>A8 Int
 |26=>Int
 |27=>Queue
 |28=>Queue
 |29=>an
 |30=>an
 |31=>bc
 |32=>bc
 |36=>List an
 |37=>Int
 |57=>List ai
 |60=>wK
 |61=>wK
 |82=>ai
 |83=>ai
 |104=>Queue
 |105=>Queue
 |111=>Queue
 |116=>List Int
 |120=>oT
 |121=>oT
 |124=>Queue
 |135=>A2 (List ai)
 |136=>lV
 |137=>lV
 |59=>wK
 |110=>Queue
 |117=>oT
 |123=>Queue
 |132=>lV
 |1123=>Queue
 |1003=>Int
 |_=>Unit
abbrev V:=SV den
def up2(x:Int):V:=.lit (.int .i64 x)
def dn2(v:V):Option Int:=dI .i64 v
def rp2(x:Int)(a:AV):Prop:=a=.lit (.int .i64 x)
def up3(x:Int):V:=.lit (.int .i64 x)
def cX(v:V):Option Int:=dI .i64 v
def wP(x:Int)(a:AV):Prop:=a=.lit (.int .i64 x)
def up4(x:Bool):V:=.lit (.bool x)
def O4(v:V):Option Bool:=dB v
def YM(x:Bool)(a:AV):Prop:=a=.lit (.bool x)
def up9(x:ByteArray):V:=.lit (.string x)
def dn9(v:V):Option ByteArray:=dS v
def rp9(x:ByteArray)(a:AV):Prop:=a=.lit (.string x)
def R4(x:af):V:=.agg [.lit (.int .i64 x.Kind),.lit (.int .i64 x.A),.lit (.int .i64 x.B),.lit (.int .i64 x.C)]
def R5:V→Option af
 |.agg [a0,a1,a2,a3]=>(cX a0).bind fun b0=>(cX a1).bind fun b1=>(cX a2).bind fun b2=>(cX a3).bind fun b3=>some ⟨b0,b1,b2,b3⟩
 |_=>none
def Hh(x:af)(a:AV):Prop:=a=.agg [.lit (.int .i64 x.Kind),.lit (.int .i64 x.A),.lit (.int .i64 x.B),.lit (.int .i64 x.C)]
def R6(x:an):V:=.agg [.lit (.int .i64 x.aG),.lit (.int .i64 x.Sub),.lit (.int .i64 x.Number),.lit (.int .i64 x.Data),.lit (.int .i64 x.aA),.lit (.int .i64 x.aQ),.lit (.bool x.aI),.lit (.bool x.ay)]
def O5:V→Option an
 |.agg [a0,a1,a2,a3,a4,a5,a6,a7]=>(cX a0).bind fun b0=>(cX a1).bind fun b1=>(cX a2).bind fun b2=>(cX a3).bind fun b3=>(cX a4).bind fun b4=>(cX a5).bind fun b5=>(O4 a6).bind fun b6=>(O4 a7).bind fun b7=>some ⟨b0,b1,b2,b3,b4,b5,b6,b7⟩
 |_=>none
def EU(x:an)(a:AV):Prop:=a=.agg [.lit (.int .i64 x.aG),.lit (.int .i64 x.Sub),.lit (.int .i64 x.Number),.lit (.int .i64 x.Data),.lit (.int .i64 x.aA),.lit (.int .i64 x.aQ),.lit (.bool x.aI),.lit (.bool x.ay)]
def R7(x:ai):V:=.agg [.lit (.int .i64 x.P.aG),.lit (.int .i64 x.P.Sub),.lit (.int .i64 x.P.Number),.lit (.int .i64 x.P.Data),.lit (.int .i64 x.P.aA),.lit (.int .i64 x.P.aQ),.lit (.bool x.P.aI),.lit (.bool x.P.ay),.lit (.int .i64 x.At)]
def O6:V→Option ai
 |.agg [a0,a1,a2,a3,a4,a5,a6,a7,a8]=>(cX a0).bind fun b0=>(cX a1).bind fun b1=>(cX a2).bind fun b2=>(cX a3).bind fun b3=>(cX a4).bind fun b4=>(cX a5).bind fun b5=>(O4 a6).bind fun b6=>(O4 a7).bind fun b7=>(cX a8).bind fun b8=>some ⟨⟨b0,b1,b2,b3,b4,b5,b6,b7⟩,b8⟩
 |_=>none
def u3(x:ai)(a:AV):Prop:=a=.agg [.lit (.int .i64 x.P.aG),.lit (.int .i64 x.P.Sub),.lit (.int .i64 x.P.Number),.lit (.int .i64 x.P.Data),.lit (.int .i64 x.P.aA),.lit (.int .i64 x.P.aQ),.lit (.bool x.P.aI),.lit (.bool x.P.ay),.lit (.int .i64 x.At)]
def adr(x:List ai):V:=.jR 83 x
def LN(v:V):Option (List ai):=WJ (den:=den) 83 O6 v
def Hi(x:List ai)(a:AV):Prop:=UW u3 x a
def ads(x:List (List ai)):V:=.jR 57 x
def Jh(v:V):Option (List (List ai)):=WJ (den:=den) 57 LN v
def Hj(x:List (List ai))(a:AV):Prop:=UW Hi x a
def Vz(x:A8 Int):V:=.agg [.lit (.int .i64 x.e0),.lit (.int .i64 x.e1),.lit (.int .i64 x.e2),.lit (.int .i64 x.e3),.lit (.int .i64 x.e4),.lit (.int .i64 x.e5),.lit (.int .i64 x.e6),.lit (.int .i64 x.e7)]
def VA:V→Option (A8 Int)
 |.agg [a0,a1,a2,a3,a4,a5,a6,a7]=>(cX a0).bind fun b0=>(cX a1).bind fun b1=>(cX a2).bind fun b2=>(cX a3).bind fun b3=>(cX a4).bind fun b4=>(cX a5).bind fun b5=>(cX a6).bind fun b6=>(cX a7).bind fun b7=>some ⟨b0,b1,b2,b3,b4,b5,b6,b7⟩
 |_=>none
def Ji(x:A8 Int)(a:AV):Prop:=a=.agg [.lit (.int .i64 x.e0),.lit (.int .i64 x.e1),.lit (.int .i64 x.e2),.lit (.int .i64 x.e3),.lit (.int .i64 x.e4),.lit (.int .i64 x.e5),.lit (.int .i64 x.e6),.lit (.int .i64 x.e7)]
def adt(x:Int):V:=.lit (.int .u64 x)
def Jj(v:V):Option Int:=dI .u64 v
def VB(x:Int)(a:AV):Prop:=a=.lit (.int .u64 x)
def R8(x:Queue):V:=.agg [.lit (.int .i64 x.af.Kind),.lit (.int .i64 x.af.A),.lit (.int .i64 x.af.B),.lit (.int .i64 x.af.C),.lit (.int .i64 x.Room),.jR 57 x.ag,.lit (.int .i64 x.ae.e0),.lit (.int .i64 x.ae.e1),.lit (.int .i64 x.ae.e2),.lit (.int .i64 x.ae.e3),.lit (.int .i64 x.ae.e4),.lit (.int .i64 x.ae.e5),.lit (.int .i64 x.ae.e6),.lit (.int .i64 x.ae.e7),.lit (.int .u64 x.aY)]
def R9:V→Option Queue
 |.agg [a0,a1,a2,a3,a4,a5,a6,a7,a8,a9,a10,a11,a12,a13,a14]=>(cX a0).bind fun b0=>(cX a1).bind fun b1=>(cX a2).bind fun b2=>(cX a3).bind fun b3=>(cX a4).bind fun b4=>(Jh a5).bind fun b5=>(cX a6).bind fun b6=>(cX a7).bind fun b7=>(cX a8).bind fun b8=>(cX a9).bind fun b9=>(cX a10).bind fun yz=>(cX a11).bind fun vf=>(cX a12).bind fun EC=>(cX a13).bind fun uA=>(Jj a14).bind fun lA=>some ⟨⟨b0,b1,b2,b3⟩,b4,b5,⟨b6,b7,b8,b9,yz,vf,EC,uA⟩,lA⟩
 |_=>none
def LO(x:Queue)(a:AV):Prop:=∃ a5,Hj x.ag a5∧a=.agg [.lit (.int .i64 x.af.Kind),.lit (.int .i64 x.af.A),.lit (.int .i64 x.af.B),.lit (.int .i64 x.af.C),.lit (.int .i64 x.Room),a5,.lit (.int .i64 x.ae.e0),.lit (.int .i64 x.ae.e1),.lit (.int .i64 x.ae.e2),.lit (.int .i64 x.ae.e3),.lit (.int .i64 x.ae.e4),.lit (.int .i64 x.ae.e5),.lit (.int .i64 x.ae.e6),.lit (.int .i64 x.ae.e7),.lit (.int .u64 x.aY)]
def Sa(x:bc):V:=.agg [.lit (.int .i64 x.dq),.lit (.int .i64 x.di),.lit (.int .i64 x.Queue.af.Kind),.lit (.int .i64 x.Queue.af.A),.lit (.int .i64 x.Queue.af.B),.lit (.int .i64 x.Queue.af.C),.lit (.int .i64 x.Queue.Room),.jR 57 x.Queue.ag,.lit (.int .i64 x.Queue.ae.e0),.lit (.int .i64 x.Queue.ae.e1),.lit (.int .i64 x.Queue.ae.e2),.lit (.int .i64 x.Queue.ae.e3),.lit (.int .i64 x.Queue.ae.e4),.lit (.int .i64 x.Queue.ae.e5),.lit (.int .i64 x.Queue.ae.e6),.lit (.int .i64 x.Queue.ae.e7),.lit (.int .u64 x.Queue.aY),.lit (.bool x.iX),.lit (.int .i64 x.dr.aG),.lit (.int .i64 x.dr.Sub),.lit (.int .i64 x.dr.Number),.lit (.int .i64 x.dr.Data),.lit (.int .i64 x.dr.aA),.lit (.int .i64 x.dr.aQ),.lit (.bool x.dr.aI),.lit (.bool x.dr.ay),.lit (.int .i64 x.cO)]
def Sb:V→Option bc
 |.agg [a0,a1,a2,a3,a4,a5,a6,a7,a8,a9,a10,a11,a12,a13,a14,a15,a16,a17,a18,a19,a20,a21,a22,a23,a24,a25,a26]=>(cX a0).bind fun b0=>(cX a1).bind fun b1=>(cX a2).bind fun b2=>(cX a3).bind fun b3=>(cX a4).bind fun b4=>(cX a5).bind fun b5=>(cX a6).bind fun b6=>(Jh a7).bind fun b7=>(cX a8).bind fun b8=>(cX a9).bind fun b9=>(cX a10).bind fun yz=>(cX a11).bind fun vf=>(cX a12).bind fun EC=>(cX a13).bind fun uA=>(cX a14).bind fun lA=>(cX a15).bind fun Db=>(Jj a16).bind fun B7=>(O4 a17).bind fun Gg=>(cX a18).bind fun L9=>(cX a19).bind fun NW=>(cX a20).bind fun U1=>(cX a21).bind fun U2=>(cX a22).bind fun Kh=>(cX a23).bind fun Qq=>(O4 a24).bind fun YN=>(O4 a25).bind fun Ri=>(cX a26).bind fun UX=>some ⟨b0,b1,⟨⟨b2,b3,b4,b5⟩,b6,b7,⟨b8,b9,yz,vf,EC,uA,lA,Db⟩,B7⟩,Gg,⟨L9,NW,U1,U2,Kh,Qq,YN,Ri⟩,UX⟩
 |_=>none
def LP(x:bc)(a:AV):Prop:=∃ a7,Hj x.Queue.ag a7∧a=.agg [.lit (.int .i64 x.dq),.lit (.int .i64 x.di),.lit (.int .i64 x.Queue.af.Kind),.lit (.int .i64 x.Queue.af.A),.lit (.int .i64 x.Queue.af.B),.lit (.int .i64 x.Queue.af.C),.lit (.int .i64 x.Queue.Room),a7,.lit (.int .i64 x.Queue.ae.e0),.lit (.int .i64 x.Queue.ae.e1),.lit (.int .i64 x.Queue.ae.e2),.lit (.int .i64 x.Queue.ae.e3),.lit (.int .i64 x.Queue.ae.e4),.lit (.int .i64 x.Queue.ae.e5),.lit (.int .i64 x.Queue.ae.e6),.lit (.int .i64 x.Queue.ae.e7),.lit (.int .u64 x.Queue.aY),.lit (.bool x.iX),.lit (.int .i64 x.dr.aG),.lit (.int .i64 x.dr.Sub),.lit (.int .i64 x.dr.Number),.lit (.int .i64 x.dr.Data),.lit (.int .i64 x.dr.aA),.lit (.int .i64 x.dr.aQ),.lit (.bool x.dr.aI),.lit (.bool x.dr.ay),.lit (.int .i64 x.cO)]
def adu(x:List an):V:=.jR 30 x
def VC(v:V):Option (List an):=WJ (den:=den) 30 O5 v
def VG(x:List an)(a:AV):Prop:=UW EU x a
def O7(x:wK):V:=.agg [.lit (.int .i64 x.dH.dq),.lit (.int .i64 x.dH.di),.lit (.int .i64 x.dH.Queue.af.Kind),.lit (.int .i64 x.dH.Queue.af.A),.lit (.int .i64 x.dH.Queue.af.B),.lit (.int .i64 x.dH.Queue.af.C),.lit (.int .i64 x.dH.Queue.Room),.jR 57 x.dH.Queue.ag,.lit (.int .i64 x.dH.Queue.ae.e0),.lit (.int .i64 x.dH.Queue.ae.e1),.lit (.int .i64 x.dH.Queue.ae.e2),.lit (.int .i64 x.dH.Queue.ae.e3),.lit (.int .i64 x.dH.Queue.ae.e4),.lit (.int .i64 x.dH.Queue.ae.e5),.lit (.int .i64 x.dH.Queue.ae.e6),.lit (.int .i64 x.dH.Queue.ae.e7),.lit (.int .u64 x.dH.Queue.aY),.lit (.bool x.dH.iX),.lit (.int .i64 x.dH.dr.aG),.lit (.int .i64 x.dH.dr.Sub),.lit (.int .i64 x.dH.dr.Number),.lit (.int .i64 x.dH.dr.Data),.lit (.int .i64 x.dH.dr.aA),.lit (.int .i64 x.dH.dr.aQ),.lit (.bool x.dH.dr.aI),.lit (.bool x.dH.dr.ay),.lit (.int .i64 x.dH.cO),.jR 30 x.Kz]
def O8:V→Option wK
 |.agg [a0,a1,a2,a3,a4,a5,a6,a7,a8,a9,a10,a11,a12,a13,a14,a15,a16,a17,a18,a19,a20,a21,a22,a23,a24,a25,a26,a27]=>(cX a0).bind fun b0=>(cX a1).bind fun b1=>(cX a2).bind fun b2=>(cX a3).bind fun b3=>(cX a4).bind fun b4=>(cX a5).bind fun b5=>(cX a6).bind fun b6=>(Jh a7).bind fun b7=>(cX a8).bind fun b8=>(cX a9).bind fun b9=>(cX a10).bind fun yz=>(cX a11).bind fun vf=>(cX a12).bind fun EC=>(cX a13).bind fun uA=>(cX a14).bind fun lA=>(cX a15).bind fun Db=>(Jj a16).bind fun B7=>(O4 a17).bind fun Gg=>(cX a18).bind fun L9=>(cX a19).bind fun NW=>(cX a20).bind fun U1=>(cX a21).bind fun U2=>(cX a22).bind fun Kh=>(cX a23).bind fun Qq=>(O4 a24).bind fun YN=>(O4 a25).bind fun Ri=>(cX a26).bind fun UX=>(VC a27).bind fun Qo=>some ⟨⟨b0,b1,⟨⟨b2,b3,b4,b5⟩,b6,b7,⟨b8,b9,yz,vf,EC,uA,lA,Db⟩,B7⟩,Gg,⟨L9,NW,U1,U2,Kh,Qq,YN,Ri⟩,UX⟩,Qo⟩
 |_=>none
def LQ(x:wK)(a:AV):Prop:=∃ a7 a27,Hj x.dH.Queue.ag a7∧VG x.Kz a27∧a=.agg [.lit (.int .i64 x.dH.dq),.lit (.int .i64 x.dH.di),.lit (.int .i64 x.dH.Queue.af.Kind),.lit (.int .i64 x.dH.Queue.af.A),.lit (.int .i64 x.dH.Queue.af.B),.lit (.int .i64 x.dH.Queue.af.C),.lit (.int .i64 x.dH.Queue.Room),a7,.lit (.int .i64 x.dH.Queue.ae.e0),.lit (.int .i64 x.dH.Queue.ae.e1),.lit (.int .i64 x.dH.Queue.ae.e2),.lit (.int .i64 x.dH.Queue.ae.e3),.lit (.int .i64 x.dH.Queue.ae.e4),.lit (.int .i64 x.dH.Queue.ae.e5),.lit (.int .i64 x.dH.Queue.ae.e6),.lit (.int .i64 x.dH.Queue.ae.e7),.lit (.int .u64 x.dH.Queue.aY),.lit (.bool x.dH.iX),.lit (.int .i64 x.dH.dr.aG),.lit (.int .i64 x.dH.dr.Sub),.lit (.int .i64 x.dH.dr.Number),.lit (.int .i64 x.dH.dr.Data),.lit (.int .i64 x.dH.dr.aA),.lit (.int .i64 x.dH.dr.aQ),.lit (.bool x.dH.dr.aI),.lit (.bool x.dH.dr.ay),.lit (.int .i64 x.dH.cO),a27]
def yW(x:Queue):V:=.agg [.lit (.int .i64 x.af.Kind),.lit (.int .i64 x.af.A),.lit (.int .i64 x.af.B),.lit (.int .i64 x.af.C),.lit (.int .i64 x.Room),.jR 57 x.ag,.lit (.int .i64 x.ae.e0),.lit (.int .i64 x.ae.e1),.lit (.int .i64 x.ae.e2),.lit (.int .i64 x.ae.e3),.lit (.int .i64 x.ae.e4),.lit (.int .i64 x.ae.e5),.lit (.int .i64 x.ae.e6),.lit (.int .i64 x.ae.e7),.lit (.int .u64 x.aY)]
def yX:V→Option Queue
 |.agg [a0,a1,a2,a3,a4,a5,a6,a7,a8,a9,a10,a11,a12,a13,a14]=>(cX a0).bind fun b0=>(cX a1).bind fun b1=>(cX a2).bind fun b2=>(cX a3).bind fun b3=>(cX a4).bind fun b4=>(Jh a5).bind fun b5=>(cX a6).bind fun b6=>(cX a7).bind fun b7=>(cX a8).bind fun b8=>(cX a9).bind fun b9=>(cX a10).bind fun yz=>(cX a11).bind fun vf=>(cX a12).bind fun EC=>(cX a13).bind fun uA=>(Jj a14).bind fun lA=>some ⟨⟨b0,b1,b2,b3⟩,b4,b5,⟨b6,b7,b8,b9,yz,vf,EC,uA⟩,lA⟩
 |_=>none
def wL(x:Queue)(a:AV):Prop:=∃ a5,Hj x.ag a5∧a=.agg [.lit (.int .i64 x.af.Kind),.lit (.int .i64 x.af.A),.lit (.int .i64 x.af.B),.lit (.int .i64 x.af.C),.lit (.int .i64 x.Room),a5,.lit (.int .i64 x.ae.e0),.lit (.int .i64 x.ae.e1),.lit (.int .i64 x.ae.e2),.lit (.int .i64 x.ae.e3),.lit (.int .i64 x.ae.e4),.lit (.int .i64 x.ae.e5),.lit (.int .i64 x.ae.e6),.lit (.int .i64 x.ae.e7),.lit (.int .u64 x.aY)]
def YO(x:List Int):V:=.jR 3 x
def YP(v:V):Option (List Int):=WJ (den:=den) 3 cX v
def YQ(x:List Int)(a:AV):Prop:=UW wP x a
def Hk(x:oT):V:=.agg [.lit (.int .i64 x.Queue.af.Kind),.lit (.int .i64 x.Queue.af.A),.lit (.int .i64 x.Queue.af.B),.lit (.int .i64 x.Queue.af.C),.lit (.int .i64 x.Queue.Room),.jR 57 x.Queue.ag,.lit (.int .i64 x.Queue.ae.e0),.lit (.int .i64 x.Queue.ae.e1),.lit (.int .i64 x.Queue.ae.e2),.lit (.int .i64 x.Queue.ae.e3),.lit (.int .i64 x.Queue.ae.e4),.lit (.int .i64 x.Queue.ae.e5),.lit (.int .i64 x.Queue.ae.e6),.lit (.int .i64 x.Queue.ae.e7),.lit (.int .u64 x.Queue.aY),.lit (.int .i64 x.dr)]
def Hl:V→Option oT
 |.agg [a0,a1,a2,a3,a4,a5,a6,a7,a8,a9,a10,a11,a12,a13,a14,a15]=>(cX a0).bind fun b0=>(cX a1).bind fun b1=>(cX a2).bind fun b2=>(cX a3).bind fun b3=>(cX a4).bind fun b4=>(Jh a5).bind fun b5=>(cX a6).bind fun b6=>(cX a7).bind fun b7=>(cX a8).bind fun b8=>(cX a9).bind fun b9=>(cX a10).bind fun yz=>(cX a11).bind fun vf=>(cX a12).bind fun EC=>(cX a13).bind fun uA=>(Jj a14).bind fun lA=>(cX a15).bind fun Db=>some ⟨⟨⟨b0,b1,b2,b3⟩,b4,b5,⟨b6,b7,b8,b9,yz,vf,EC,uA⟩,lA⟩,Db⟩
 |_=>none
def DA(x:oT)(a:AV):Prop:=∃ a5,Hj x.Queue.ag a5∧a=.agg [.lit (.int .i64 x.Queue.af.Kind),.lit (.int .i64 x.Queue.af.A),.lit (.int .i64 x.Queue.af.B),.lit (.int .i64 x.Queue.af.C),.lit (.int .i64 x.Queue.Room),a5,.lit (.int .i64 x.Queue.ae.e0),.lit (.int .i64 x.Queue.ae.e1),.lit (.int .i64 x.Queue.ae.e2),.lit (.int .i64 x.Queue.ae.e3),.lit (.int .i64 x.Queue.ae.e4),.lit (.int .i64 x.Queue.ae.e5),.lit (.int .i64 x.Queue.ae.e6),.lit (.int .i64 x.Queue.ae.e7),.lit (.int .u64 x.Queue.aY),.lit (.int .i64 x.dr)]
def O9(x:A2 (List ai)):V:=.agg [.jR 83 x.e0,.jR 83 x.e1]
def Pa:V→Option (A2 (List ai))
 |.agg [a0,a1]=>(LN a0).bind fun b0=>(LN a1).bind fun b1=>some ⟨b0,b1⟩
 |_=>none
def KA(x:A2 (List ai))(a:AV):Prop:=∃ a0 a1,Hi x.e0 a0∧Hi x.e1 a1∧a=.agg [a0,a1]
def Hm(x:lV):V:=.agg [.lit (.int .i64 x.Q.af.Kind),.lit (.int .i64 x.Q.af.A),.lit (.int .i64 x.Q.af.B),.lit (.int .i64 x.Q.af.C),.lit (.int .i64 x.Q.Room),.jR 57 x.Q.ag,.lit (.int .i64 x.Q.ae.e0),.lit (.int .i64 x.Q.ae.e1),.lit (.int .i64 x.Q.ae.e2),.lit (.int .i64 x.Q.ae.e3),.lit (.int .i64 x.Q.ae.e4),.lit (.int .i64 x.Q.ae.e5),.lit (.int .i64 x.Q.ae.e6),.lit (.int .i64 x.Q.ae.e7),.lit (.int .u64 x.Q.aY),.jR 83 x.ag.e0,.jR 83 x.ag.e1,.lit (.int .i64 x.dr),.jR 30 x.Td]
def Hn:V→Option lV
 |.agg [a0,a1,a2,a3,a4,a5,a6,a7,a8,a9,a10,a11,a12,a13,a14,a15,a16,a17,a18]=>(cX a0).bind fun b0=>(cX a1).bind fun b1=>(cX a2).bind fun b2=>(cX a3).bind fun b3=>(cX a4).bind fun b4=>(Jh a5).bind fun b5=>(cX a6).bind fun b6=>(cX a7).bind fun b7=>(cX a8).bind fun b8=>(cX a9).bind fun b9=>(cX a10).bind fun yz=>(cX a11).bind fun vf=>(cX a12).bind fun EC=>(cX a13).bind fun uA=>(Jj a14).bind fun lA=>(LN a15).bind fun Db=>(LN a16).bind fun B7=>(cX a17).bind fun Gg=>(VC a18).bind fun L9=>some ⟨⟨⟨b0,b1,b2,b3⟩,b4,b5,⟨b6,b7,b8,b9,yz,vf,EC,uA⟩,lA⟩,⟨Db,B7⟩,Gg,L9⟩
 |_=>none
def DB(x:lV)(a:AV):Prop:=∃ a5 a15 a16 a18,Hj x.Q.ag a5∧Hi x.ag.e0 a15∧Hi x.ag.e1 a16∧VG x.Td a18∧a=.agg [.lit (.int .i64 x.Q.af.Kind),.lit (.int .i64 x.Q.af.A),.lit (.int .i64 x.Q.af.B),.lit (.int .i64 x.Q.af.C),.lit (.int .i64 x.Q.Room),a5,.lit (.int .i64 x.Q.ae.e0),.lit (.int .i64 x.Q.ae.e1),.lit (.int .i64 x.Q.ae.e2),.lit (.int .i64 x.Q.ae.e3),.lit (.int .i64 x.Q.ae.e4),.lit (.int .i64 x.Q.ae.e5),.lit (.int .i64 x.Q.ae.e6),.lit (.int .i64 x.Q.ae.e7),.lit (.int .u64 x.Q.aY),a15,a16,.lit (.int .i64 x.dr),a18]
def adv(x:wK):V:=.bq (O7 x) 0
def adw(v:V):Option wK:=RB O8 v
def adx(x:wK)(a:AV):Prop:=Qm LQ x a
def YR(x:Queue):V:=.bq (yW x) 0
def YS(v:V):Option Queue:=RB yX v
def YT(x:Queue)(a:AV):Prop:=Qm wL x a
def YU(x:oT):V:=.bq (Hk x) 0
def YV(v:V):Option oT:=RB Hl v
def YW(x:oT)(a:AV):Prop:=Qm DA x a
def Te(x:Queue):V:=.bq (yW x) 0
def Tf(v:V):Option Queue:=RB yX v
def Tg(x:Queue)(a:AV):Prop:=Qm wL x a
def YX(x:lV):V:=.bq (Hm x) 0
def YY(v:V):Option lV:=RB Hn v
def YZ(x:lV)(a:AV):Prop:=Qm DB x a
def VH(x:Queue):V:=.bq (Te x) 0
def VJ(v:V):Option Queue:=RB Tf v
def VK(x:Queue)(a:AV):Prop:=Qm Tg x a
def VM(x:Int):V:=.bq (up3 x) 0
def VN(v:V):Option Int:=RB cX v
def VO(x:Int)(a:AV):Prop:=Qm wP x a
def up:(t:Nat)→den t→V
 |2,x=>up2 x
 |3,x=>up3 x
 |4,x=>up4 x
 |9,x=>up9 x
 |22,x=>R4 x
 |23,x=>R4 x
 |24,x=>ads x
 |25,x=>Vz x
 |26,x=>adt x
 |27,x=>R8 x
 |28,x=>R8 x
 |29,x=>R6 x
 |30,x=>R6 x
 |31,x=>Sa x
 |32,x=>Sa x
 |36,x=>adu x
 |37,x=>up3 x
 |57,x=>adr x
 |60,x=>O7 x
 |61,x=>O7 x
 |82,x=>R7 x
 |83,x=>R7 x
 |104,x=>yW x
 |105,x=>yW x
 |111,x=>yW x
 |116,x=>YO x
 |120,x=>Hk x
 |121,x=>Hk x
 |124,x=>yW x
 |135,x=>O9 x
 |136,x=>Hm x
 |137,x=>Hm x
 |59,x=>adv x
 |110,x=>YR x
 |117,x=>YU x
 |123,x=>Te x
 |132,x=>YX x
 |1123,x=>VH x
 |1003,x=>VM x
 |_,_=>.dead
def dn:(t:Nat)→V→Option (den t)
 |2,v=>dn2 v
 |3,v=>cX v
 |4,v=>O4 v
 |9,v=>dn9 v
 |22,v=>R5 v
 |23,v=>R5 v
 |24,v=>Jh v
 |25,v=>VA v
 |26,v=>Jj v
 |27,v=>R9 v
 |28,v=>R9 v
 |29,v=>O5 v
 |30,v=>O5 v
 |31,v=>Sb v
 |32,v=>Sb v
 |36,v=>VC v
 |37,v=>cX v
 |57,v=>LN v
 |60,v=>O8 v
 |61,v=>O8 v
 |82,v=>O6 v
 |83,v=>O6 v
 |104,v=>yX v
 |105,v=>yX v
 |111,v=>yX v
 |116,v=>YP v
 |120,v=>Hl v
 |121,v=>Hl v
 |124,v=>yX v
 |135,v=>Pa v
 |136,v=>Hn v
 |137,v=>Hn v
 |59,v=>adw v
 |110,v=>YS v
 |117,v=>YV v
 |123,v=>Tf v
 |132,v=>YY v
 |1123,v=>VJ v
 |1003,v=>VN v
 |_,_=>none
def rp:(t:Nat)→den t→AV→Prop
 |2,x,a=>rp2 x a
 |3,x,a=>wP x a
 |4,x,a=>YM x a
 |9,x,a=>rp9 x a
 |22,x,a=>Hh x a
 |23,x,a=>Hh x a
 |24,x,a=>Hj x a
 |25,x,a=>Ji x a
 |26,x,a=>VB x a
 |27,x,a=>LO x a
 |28,x,a=>LO x a
 |29,x,a=>EU x a
 |30,x,a=>EU x a
 |31,x,a=>LP x a
 |32,x,a=>LP x a
 |36,x,a=>VG x a
 |37,x,a=>wP x a
 |57,x,a=>Hi x a
 |60,x,a=>LQ x a
 |61,x,a=>LQ x a
 |82,x,a=>u3 x a
 |83,x,a=>u3 x a
 |104,x,a=>wL x a
 |105,x,a=>wL x a
 |111,x,a=>wL x a
 |116,x,a=>YQ x a
 |120,x,a=>DA x a
 |121,x,a=>DA x a
 |124,x,a=>wL x a
 |135,x,a=>KA x a
 |136,x,a=>DB x a
 |137,x,a=>DB x a
 |59,x,a=>adx x a
 |110,x,a=>YT x a
 |117,x,a=>YW x a
 |123,x,a=>Tg x a
 |132,x,a=>YZ x a
 |1123,x,a=>VK x a
 |1003,x,a=>VO x a
 |_,_,_=>False
def Y0:Nat→Bool
 |22=>true
 |23=>true
 |25=>true
 |27=>true
 |28=>true
 |29=>true
 |30=>true
 |31=>true
 |32=>true
 |60=>true
 |61=>true
 |82=>true
 |83=>true
 |104=>true
 |105=>true
 |111=>true
 |120=>true
 |121=>true
 |124=>true
 |135=>true
 |136=>true
 |137=>true
 |_=>false
def Th:Nat→Nat
 |22=>4
 |23=>4
 |25=>8
 |27=>15
 |28=>15
 |29=>8
 |30=>8
 |31=>27
 |32=>27
 |60=>28
 |61=>28
 |82=>9
 |83=>9
 |104=>15
 |105=>15
 |111=>15
 |120=>16
 |121=>16
 |124=>15
 |135=>2
 |136=>19
 |137=>19
 |_=>1
def Ti:(t:Nat)→Option (den t)
 |2=>some (0:Int)
 |3=>some (0:Int)
 |4=>some (false:Bool)
 |9=>some (ByteArray.empty:ByteArray)
 |22=>some (⟨0,0,0,0⟩:af)
 |23=>some (⟨0,0,0,0⟩:af)
 |24=>some ([]:List (List ai))
 |25=>some (⟨0,0,0,0,0,0,0,0⟩:A8 Int)
 |26=>some (0:Int)
 |27=>some (⟨⟨0,0,0,0⟩,0,[],⟨0,0,0,0,0,0,0,0⟩,0⟩:Queue)
 |28=>some (⟨⟨0,0,0,0⟩,0,[],⟨0,0,0,0,0,0,0,0⟩,0⟩:Queue)
 |29=>some (⟨0,0,0,0,0,0,false,false⟩:an)
 |30=>some (⟨0,0,0,0,0,0,false,false⟩:an)
 |31=>some (⟨0,0,⟨⟨0,0,0,0⟩,0,[],⟨0,0,0,0,0,0,0,0⟩,0⟩,false,⟨0,0,0,0,0,0,false,false⟩,0⟩:bc)
 |32=>some (⟨0,0,⟨⟨0,0,0,0⟩,0,[],⟨0,0,0,0,0,0,0,0⟩,0⟩,false,⟨0,0,0,0,0,0,false,false⟩,0⟩:bc)
 |36=>some ([]:List an)
 |37=>some (0:Int)
 |57=>some ([]:List ai)
 |60=>some (⟨⟨0,0,⟨⟨0,0,0,0⟩,0,[],⟨0,0,0,0,0,0,0,0⟩,0⟩,false,⟨0,0,0,0,0,0,false,false⟩,0⟩,[]⟩:wK)
 |61=>some (⟨⟨0,0,⟨⟨0,0,0,0⟩,0,[],⟨0,0,0,0,0,0,0,0⟩,0⟩,false,⟨0,0,0,0,0,0,false,false⟩,0⟩,[]⟩:wK)
 |82=>some (⟨⟨0,0,0,0,0,0,false,false⟩,0⟩:ai)
 |83=>some (⟨⟨0,0,0,0,0,0,false,false⟩,0⟩:ai)
 |104=>some (⟨⟨0,0,0,0⟩,0,[],⟨0,0,0,0,0,0,0,0⟩,0⟩:Queue)
 |105=>some (⟨⟨0,0,0,0⟩,0,[],⟨0,0,0,0,0,0,0,0⟩,0⟩:Queue)
 |111=>some (⟨⟨0,0,0,0⟩,0,[],⟨0,0,0,0,0,0,0,0⟩,0⟩:Queue)
 |116=>some ([]:List Int)
 |120=>some (⟨⟨⟨0,0,0,0⟩,0,[],⟨0,0,0,0,0,0,0,0⟩,0⟩,0⟩:oT)
 |121=>some (⟨⟨⟨0,0,0,0⟩,0,[],⟨0,0,0,0,0,0,0,0⟩,0⟩,0⟩:oT)
 |124=>some (⟨⟨0,0,0,0⟩,0,[],⟨0,0,0,0,0,0,0,0⟩,0⟩:Queue)
 |135=>some (⟨[],[]⟩:A2 (List ai))
 |136=>some (⟨⟨⟨0,0,0,0⟩,0,[],⟨0,0,0,0,0,0,0,0⟩,0⟩,⟨[],[]⟩,0,[]⟩:lV)
 |137=>some (⟨⟨⟨0,0,0,0⟩,0,[],⟨0,0,0,0,0,0,0,0⟩,0⟩,⟨[],[]⟩,0,[]⟩:lV)
 |_=>none
def m5:jS:=⟨false,1,1,some (.lit (.int .u8 0)),.other,none,none⟩
def m7:jS:=⟨true,4,24,some (.agg [zI,zI,zB,.lit (.int .u8 0)]),.struct [(0,2),(1,3),(2,4),(3,6)],none,none⟩
def m12:jS:=⟨false,1,8,some (.lit (.int .u64 0)),.other,none,none⟩
def m13:jS:=⟨true,2,24,some (.agg [zS,.lit (.int .u64 0)]),.struct [(0,9),(1,12)],none,none⟩
def m18:jS:=⟨true,1,8,some (.agg [.lit (.pointer none)]),.struct [(0,17)],none,none⟩
def m21:jS:=⟨false,1,4,some (.lit (.int .i32 0)),.other,none,none⟩
def m22:jS:=⟨true,4,32,some (.agg [zI,zI,zI,zI]),.struct [(0,3),(1,3),(2,3),(3,3)],some [kI,kI,kI,kI],none⟩
def m27:jS:=⟨true,15,136,some (.agg [zI,zI,zI,zI,zI,zL,zI,zI,zI,zI,zI,zI,zI,zI,.lit (.int .u64 0)]),.struct [(0,23),(4,3),(5,24),(6,25),(14,26)],none,none⟩
def m29:jS:=⟨true,8,56,some (.agg [zI,zI,zI,zI,zI,zI,zB,zB]),.struct [(0,3),(1,3),(2,3),(3,3),(4,3),(5,3),(6,4),(7,4)],some [kI,kI,kI,kI,kI,kI,kB,kB],none⟩
def m31:jS:=⟨true,27,224,some (.agg [zI,zI,zI,zI,zI,zI,zI,zL,zI,zI,zI,zI,zI,zI,zI,zI,.lit (.int .u64 0),zB,zI,zI,zI,zI,zI,zI,zB,zB,zI]),.struct [(0,3),(1,3),(2,28),(17,4),(18,30),(26,3)],none,none⟩
def m60:jS:=⟨true,28,248,some (.agg [zI,zI,zI,zI,zI,zI,zI,zL,zI,zI,zI,zI,zI,zI,zI,zI,.lit (.int .u64 0),zB,zI,zI,zI,zI,zI,zI,zB,zB,zI,zL]),.struct [(0,32),(27,36)],none,none⟩
def m78:jS:=⟨true,4,32,some (.agg [zI,zF,zF,zF]),.struct [(0,3),(1,35),(2,66),(3,77)],none,none⟩
def m82:jS:=⟨true,9,64,some (.agg [zI,zI,zI,zI,zI,zI,zB,zB,zI]),.struct [(0,30),(8,3)],some [kI,kI,kI,kI,kI,kI,kB,kB,kI],none⟩
def Sc:jS:=⟨true,15,136,some (.agg [zI,zI,zI,zI,zI,zL,zI,zI,zI,zI,zI,zI,zI,zI,.lit (.int .u64 0)]),.struct [(0,28)],none,none⟩
def Y1:jS:=⟨true,16,144,some (.agg [zI,zI,zI,zI,zI,zL,zI,zI,zI,zI,zI,zI,zI,zI,.lit (.int .u64 0),zI]),.struct [(0,28),(15,3)],none,none⟩
def Y2:jS:=⟨true,19,216,some (.agg [zI,zI,zI,zI,zI,zL,zI,zI,zI,zI,zI,zI,zI,zI,.lit (.int .u64 0),zL,zL,zI,zL]),.struct [(0,28),(15,135),(17,3),(18,36)],none,none⟩
def Y3:jS:=⟨true,4,40,some (.agg [.lit (.pointer none),.lit (.pointer none),.lit (.pointer none),zS]),.struct [(0,17),(1,17),(2,17),(3,9)],none,none⟩
def Y4:jS:=⟨true,11,48,some (.agg [.lit (.int .u64 0),.lit (.int .u64 0),.lit (.int .u32 0),.lit (.int .u8 0),.lit (.int .u8 0),.lit (.int .u8 0),.lit (.int .u8 0),zF,.lit (.pointer none),.lit (.int .i32 0),.lit (.int .i32 0)]),.struct [(0,12),(1,12),(2,161),(3,162),(4,5),(5,5),(6,163),(7,164),(8,165),(9,166),(10,167)],none,none⟩
def Oo:List (Nat×jS):=[
 (1,mF),
 (2,mI),
 (3,mI),
 (4,⟨false,1,1,some zB,.other,none,none⟩),
 (5,m5),
 (6,m5),
 (7,m7),
 (8,m7),
 (9,mS),
 (10,mS),
 (11,mS),
 (12,m12),
 (13,m13),
 (14,m13),
 (15,mP),
 (16,mP),
 (17,mP),
 (18,m18),
 (19,m18),
 (20,⟨false,1,16,some (.lit .nilIface),.iface,none,none⟩),
 (21,m21),
 (22,m22),
 (23,m22),
 (24,mL 57),
 (25,⟨true,8,64,some (.agg [zI,zI,zI,zI,zI,zI,zI,zI]),.array 8 3,some [kI,kI,kI,kI,kI,kI,kI,kI],none⟩),
 (26,m12),
 (27,m27),
 (28,m27),
 (29,m29),
 (30,m29),
 (31,m31),
 (32,m31),
 (33,mF),
 (34,mF),
 (35,mF),
 (36,mL 30),
 (37,mI),
 (39,mF),
 (41,mF),
 (43,mF),
 (44,mF),
 (45,mF),
 (46,mF),
 (47,mF),
 (48,mF),
 (49,mF),
 (50,mF),
 (51,mF),
 (52,mF),
 (53,mF),
 (54,mF),
 (56,mF),
 (57,mL 83),
 (58,mF),
 (59,mP),
 (60,m60),
 (61,m60),
 (62,mF),
 (63,mP),
 (64,mF),
 (66,mF),
 (67,mF),
 (68,mF),
 (69,mF),
 (70,mF),
 (71,mF),
 (73,mF),
 (75,mF),
 (77,mF),
 (78,m78),
 (79,m78),
 (81,mF),
 (82,m82),
 (83,m82),
 (84,mF),
 (85,mF),
 (87,mF),
 (88,mF),
 (90,mF),
 (91,mF),
 (92,⟨true,28,224,some (.agg [zI,zF,zF,zF,zI,zF,zF,zF,zI,zF,zF,zF,zI,zF,zF,zF,zI,zF,zF,zF,zI,zF,zF,zF,zI,zF,zF,zF]),.array 7 79,none,none⟩),
 (93,mF),
 (94,mF),
 (95,mF),
 (96,mF),
 (97,mF),
 (98,mF),
 (99,mF),
 (101,mF),
 (102,mF),
 (103,mF),
 (104,Sc),
 (105,Sc),
 (106,mF),
 (107,mF),
 (108,mF),
 (109,mF),
 (110,mP),
 (111,Sc),
 (113,mF),
 (114,mF),
 (115,mF),
 (116,mL 3),
 (117,mP),
 (119,mF),
 (120,Y1),
 (121,Y1),
 (122,mF),
 (123,mP),
 (124,Sc),
 (126,mF),
 (127,mF),
 (128,mF),
 (129,mF),
 (130,mF),
 (131,mF),
 (132,mP),
 (134,mF),
 (135,⟨true,2,48,some (.agg [zL,zL]),.array 2 57,none,none⟩),
 (136,Y2),
 (137,Y2),
 (138,mF),
 (139,mF),
 (141,mF),
 (142,mF),
 (143,mF),
 (144,mP),
 (145,⟨true,4,32,some (.agg [zI,zI,zI,zI]),.array 4 3,some [kI,kI,kI,kI],none⟩),
 (146,mF),
 (147,mF),
 (148,m12),
 (149,mF),
 (150,mF),
 (151,mF),
 (152,mF),
 (153,⟨true,2,16,some (.agg [.lit (.int .u64 0),.lit (.int .u64 0)]),.struct [(0,148),(1,26)],none,none⟩),
 (154,⟨true,6,48,some (.agg [.lit (.int .u64 0),.lit (.int .u64 0),.lit (.int .u64 0),.lit (.int .u64 0),.lit (.int .u64 0),.lit (.int .u64 0)]),.array 3 153,some [.int .u64,.int .u64,.int .u64,.int .u64,.int .u64,.int .u64],none⟩),
 (155,mF),
 (156,Y3),
 (157,Y3),
 (161,⟨false,1,4,some (.lit (.int .u32 0)),.other,none,none⟩),
 (162,m5),
 (163,m5),
 (164,mF),
 (165,mP),
 (166,m21),
 (167,m21),
 (168,Y4),
 (169,Y4)]
abbrev T:ej:=⟨den,up,dn,rp,Y0,Th,Ti⟩
end Go.Proofs.YtpodhambaehlkaaGreatDoor
end
