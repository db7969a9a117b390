/- Part 2 of the proof: texts of this session laid one behind the other. -/
import Derived.OrdersIn
import Derived.TacticsIn
import Derived.RangeFuncLeaves
import Derived.RecoverIn
import Derived.SizedLaws
import Derived.ChangeSlices
import Derived.OpenShut
import Derived.ShutString
import Derived.IntWalk
import Derived.Below
import Derived.Test.YtedjbjphpnkpoaaX1
set_option linter.unusedVariables false
set_option linter.unusedSimpArgs false
section
/- PI, part V: a region whose order is drawn, in the world. -/
namespace Go.PI
def WF(r:Option Nat):Fence:={ Fence.wide with round:=r }
structure oz where
 n:Nat
 tl:List Deferred:=[]
 rg:Bool:=true
 lb:Option Nat:=none
def Marks(B:oz)(E:Env)(w:World)(ds:List Deferred):Prop:=
 ∃ rs:List Nat,ds=rs.map (fun r=>{ target:=.collected r,args:=#[] })++B.tl∧rs.Nodup∧((B.rg=false→rs=[])∧∀ b,B.lb=some b→∃ r0:Loop,w.heap[b]?=some (.loop r0))∧∀ r∈rs,B.n≤r∧¬E.own r∧w.heap[r]?=some (.deferred (some []))
theorem Marks.nil{n:Nat}{m:Bool}{E:Env}{w:World}:Marks ⟨n,[],m,none⟩ E w []:=⟨[],rfl,List.nodup_nil,⟨fun _=>rfl,fun _ h=>by cases h⟩,by simp⟩
theorem Marks.UA{n:Nat}{b:Nat}{r:Loop}{E:Env}{w:World}(h:w.heap[b]?=some (.loop r)):Marks ⟨n,[],true,some b⟩ E w []:=⟨[],rfl,List.nodup_nil,⟨fun _=>rfl,fun _ h'=>by cases h'; exact⟨r,h⟩⟩,by simp⟩
theorem Marks.mono{B:oz}{E E':Env}{w w':World}{ds:List Deferred}(h:Marks B E w ds)(hf:Fr E w E' w'):Marks B E' w' ds:=by
 obtain⟨rs,h1,h2,Tu,h3⟩:=h
 refine⟨rs,h1,h2,⟨Tu.1,fun b hb=>by obtain⟨r0,h⟩:=Tu.2 b hb; exact hf.lp b r0 h⟩,fun r hr=>?_⟩
 obtain⟨a,b,c⟩:=h3 r hr
 have bZ:r<w.heap.size:=(Array.getElem?_eq_some_iff.1 c).1
 refine⟨a,fun ho=>?_,by rw[hf.same r bZ b]; exact c⟩
 rcases hf.own r ho with h|h
 ·exact b h
 ·omega
structure cG[ab](B:oz)(E:Env)(s:St)(a:Act)(w:World):Prop where
 fr:an E true s.fr a.tmps.toList
 inv:Inv E s.hp w
 df:Marks B E w a.defers
 bs:B.n≤w.heap.size
theorem gh{E:Env}{fr:List AV}{a:Act}{dst:Option Tmp}{x:AV}{v:Value}(h:an E true fr a.tmps.toList)(hx:ai E true x v):
  an E true (bC fr dst x) (a.put dst v).tmps.toList:=by
 cases dst with
 |none=>exact h
 |some d=>
  simp only[bC,Act.put,Array.toList_setIfInBounds]
  exact h.set d hx
theorem put_defers(a:Act)(dst:Option Tmp)(v:Value):(a.put dst v).defers=a.defers:=by cases dst<;>rfl
theorem zy{E:Env}:∀ (c:List Value),(∀ x∈c,ij x=true)→aH E false (c.map .lit) c
 |[],_=>by simp[aH]
 |x::r,h=>by
  simp only[List.map_cons,aH]
  exact⟨by simp[ai],h x (by simp),zy r fun y hy=>h y (by simp[hy])⟩
theorem JB[ab]{E:Env}(hg:mw E)(g:Nat):ai E true (Bz g (ab.g g)) (.pointer (some ⟨g,0,none⟩)):=by
 cases h:ab.g g with
 |none=>simp[Bz,ai]
 |some c=>
  obtain⟨h1,h2⟩:=hg g c h
  simp only[Bz,ai]
  refine⟨g,0,c,.agg c,rfl,h1,⟨c.toList,by simp,zy _ h2⟩,?_⟩
  refine⟨rfl,fun q _=>by simp[Value.cells],fun x hx=>h2 x (by simpa[Value.cells] using hx)⟩
theorem gP[ab]{E:Env}{fr:List AV}{a:Act}(hg:mw E)(h:an E true fr a.tmps.toList)(x:Operand):ai E true (ay fr x) (a.eval x):=by
 cases x with
 |tmp t=>
  simp only[ay,Act.eval,List.getD]
  cases hq:fr[t]? with
  |none=>
   have hl:=h.length
   have:a.tmps[t]?=none:=by
    simp_all
   simp[Array.getD_eq_getD_getElem?,this,ai]
  |some y=>
   obtain⟨v,hv,hr⟩:=h.get hq
   have:a.tmps[t]?=some v:=by simpa using hv
   simpa[Array.getD_eq_getD_getElem?,this] using hr
 |const v=>
  simp only[ay,Act.eval]
  unfold nF
  split
  ·rename_i c
   split
   ·rename_i h; exact mW (.agg c) (fun c' hc=>by cases hc; exact h)
   ·simp[ai]
  ·rename_i dK
   exact mW v (fun c hc=>absurd hc (dK c))
 |global g=>exact JB hg g
 |func f=>simp[ay,Act.eval,ai]
def rE[ab](P:Program)(step:Nat→Oper→List AV→RM di):Prop:=
 ∀ (r:Option Nat) (x:Item) (B:oz) (E:Env) (s:St) (a:Act) (w:World) (e:di) (K:Act→World→Prop) (Q:Exit→Act→World→Prop),cG B E s a w →
   (au x.o.op=true→s.hp[x.nm]?=some none)→(step (x.at s.hp.length) x.o s.fr).run s.hp=some e →
   (∀ E' w' v,Ext E E'→Fr E w E' w'→Inv E' (ak s.hp e.wr) w'→ai E' true e.val v→K (a.put x.o.dst v) w')→x.o.wpIn (WF r) 0 P a w K Q
theorem kW{ops:Array Oper}{E:Env}{fr:List AV}{a:Act}(h:an E true fr a.tmps.toList){o:Oper}{b:Bool}(hw:cF ops fr o=some b):
  Region.wanted o (yielded ops a.tmps)=b:=by
 unfold cF at hw
 unfold Region.wanted
 cases hg:o.guard with
 |none=>rw[hg]at hw; simpa using hw
 |some g=>
  obtain⟨j,want⟩:=g
  rw[hg]at hw
  simp only at hw ⊢
  unfold yielded
  cases hd:(ops[j]?).bind (·.dst) with
  |none=>
   rw[hd]at hw
   simp only[Option.some.injEq]at hw; subst hw
   simp
  |some d=>
   rw[hd]at hw
   simp only[Option.bind_some]at hw ⊢
   cases hq:fr[d]? with
   |none=>
    rw[hq]at hw
    simp only[Option.some.injEq]at hw; subst hw
    have hl:=h.length
    have:a.tmps[d]?=none:=by
     simp_all
    simp[this]
   |some y=>
    rw[hq]at hw
    obtain⟨v,hv,hr⟩:=h.get hq
    have jM:a.tmps[d]?=some v:=by simpa using hv
    split at hw
    ·rename_i heq; simp at heq
    ·rename_i b' heq
     simp only[Option.some.injEq]at heq hw
     subst heq
     simp only[ai]at hr
     subst hr; subst hw
     simp[jM]
    ·rename_i c heq
     simp only[Option.some.injEq]at heq hw
     subst heq
     simp only[ai]at hr
     subst hr; subst hw
     simp[jM]
    ·simp at hw
section
variable {step:Nat→Oper→List AV→RM di}{ops:Array Oper}
theorem pv:∀ (l:List Oper) (acc:List Nat) (f:List Nat→Oper→List Nat),
  (f=fun acc o=>acc++[iP acc o.after.toList])→∀ i,i<acc.length→(l.foldl f acc).getD i 0=acc.getD i 0
 |[],acc,f,_,i,_=>rfl
 |o::r,acc,f,hf,i,hi=>by
  simp only[List.foldl_cons]
  rw[pv r (f acc o) f hf i (by subst hf; simp; omega)]
  subst hf
  simp[List.getD,List.getElem?_append_left hi]
theorem vp{a b:List Nat}:∀ {l:List Edge},(∀ e∈l,Region.binds .any e=true→a.getD e.on 0=b.getD e.on 0)→iP a l=iP b l
 |[],_=>rfl
 |e::l,h=>by
  have:=vp (l:=l) fun e he=>h e (by simp[he])
  unfold iP
  split
  ·rename_i hb
   rw[this,h e (by simp) hb]
  ·exact this
theorem qi{a:List Nat}{p:Nat}:∀ {l:List Edge},(iP a l).testBit p=true→∃ e∈l,Region.binds .any e=true∧(p=e.on∨rm a e.on p=true)
 |[],h=>by simp[iP]at h
 |e::l,h=>by
  unfold iP at h
  split at h
  ·rename_i hb
   simp only[Nat.testBit_or,Bool.or_eq_true]at h
   rcases h with (h|h)|h
   ·grind
   ·exact⟨e,by simp,hb,.inr h⟩
   ·obtain⟨e',he,h'⟩:=qi (l:=l) h
    exact⟨e',by simp[he],h'⟩
  ·obtain⟨e',he,h'⟩:=qi (l:=l) h
   exact⟨e',by simp[he],h'⟩
theorem zA{m:Region.Mode}{p:Nat}:∀ {l:List Edge},(∃ e∈l,Region.binds m e=true∧p=e.on)→(y4 m l).testBit p=true
 |[],h=>by simp at h
 |e::l,h=>by
  obtain⟨e',he,hb,rfl⟩:=h
  unfold y4
  cases he with
  |head=>simp[hb,Nat.testBit_or]
  |tail _ he=>
   have:=zA (l:=l) ⟨e',he,hb,rfl⟩
   split
   ·simp[Nat.testBit_or,this]
   ·exact this
theorem B7[ab]{m:Region.Mode}{T:Nat→Prop}:∀ (l:List Oper) (i M:Nat),(∀ j,M.testBit j=true→T j) →
  (∀ k o,l[k]?=some o→(∀ e∈o.after.toList,Region.binds m e=true→T e.on)→T (i+k))→∀ j,(Fz m i l M).testBit j=true→T j
 |[],i,M,hM,_,j,h=>hM j h
 |o::r,i,M,hM,hs,j,h=>by
  unfold Fz at h
  refine B7 r (i+1) _ ?_ (fun k o hk he=>by have:=hs (k+1) o (by simpa using hk) he; rwa [show i+1+k=i+(k+1) by omega]) j h
  intro j hj
  split at hj
  ·rename_i sT
   rw[Nat.testBit_or,Bool.or_eq_true]at hj
   rcases hj with hj|hj
   ·exact hM j hj
   ·rw[Nat.testBit_two_pow]at hj
    have LP:i=j:=by simpa using hj
    subst LP
    refine hs 0 o rfl fun e he hb=>hM _ ?_
    have h1:=zA (p:=e.on) ⟨e,he,hb,rfl⟩
    rw[←sT,Nat.testBit_and,Bool.and_eq_true]at h1
    exact h1.2
  ·exact hM j hj
theorem B8[ab]{m:Region.Mode}{T:Nat→Prop}{l:List Oper}(hs:∀ k o,l[k]?=some o→(∀ e∈o.after.toList,Region.binds m e=true→T e.on)→T k):
  ∀ (k M:Nat),(∀ j,M.testBit j=true→T j)→∀ j,(FA m l k M).testBit j=true→T j
 |0,M,hM,j,h=>hM j h
 |k+1,M,hM,j,h=>by
  unfold FA at h
  exact B8 hs k _ (B7 l 0 M hM (fun q o hq he=>by simpa using hs q o hq he)) j h
theorem Ev[ab]{m:Region.Mode}(h:oY m ops=true){T:Nat→Prop}(hs:∀ k o,ops[k]?=some o→(∀ e∈o.after.toList,Region.binds m e=true→T e.on)→T k):∀ i,i<ops.size→T i:=by
 intro i hi
 have h1:=List.all_eq_true.1 h i (List.mem_range.2 hi)
 exact B8 (l:=ops.toList) (fun k o hk he=>hs k o (by simpa using hk) he) 8 0 (by simp) i h1
theorem qj[ab]:∀ (l:List Oper) (acc:List Nat) (k:Nat) (o:Oper),l[k]?=some o→(∀ e∈o.after.toList,Region.binds .any e=true→e.on<acc.length+k) →
  (l.foldl (fun acc o=>acc++[iP acc o.after.toList]) acc).getD (acc.length+k) 0 =
    iP (l.foldl (fun acc o=>acc++[iP acc o.after.toList]) acc) o.after.toList
 |[],acc,k,o,h,_=>by simp at h
 |p::r,acc,0,o,h,he=>by
  simp only[List.getElem?_cons_zero,Option.some.injEq]at h
  subst h
  simp only[List.foldl_cons,Nat.add_zero]
  rw[pv r _ _ rfl acc.length (by simp)]
  have h1:(acc++[iP acc p.after.toList]).getD acc.length 0=iP acc p.after.toList:=by
   simp[List.getD]
  rw[h1]
  apply vp
  intro e UB hb
  have bZ:e.on<acc.length:=by simpa using he e UB hb
  rw[pv r _ _ rfl e.on (by simp; omega)]
  simp[List.getD,List.getElem?_append_left bZ]
 |p::r,acc,k+1,o,h,he=>by
  simp only[List.getElem?_cons_succ]at h
  simp only[List.foldl_cons]
  have:=qj r (acc++[iP acc p.after.toList]) k o h (fun e UB hb=>by have:=he e UB hb; simp; omega)
  simp only[List.length_append,List.length_cons,List.length_nil]at this
  have e1:acc.length+(0+1)+k=acc.length+(k+1):=by omega
  rw[e1]at this
  exact this
theorem gi:∀ (l:List Oper) (i:Nat),kE i l=true→∀ k o,l[k]?=some o→∀ e∈o.after.toList,Region.binds .any e=true→e.on<i+k
 |[],i,_,k,o,h=>by simp at h
 |p::r,i,h,0,o,hk=>by
  simp only[List.getElem?_cons_zero,Option.some.injEq]at hk
  subst hk
  simp only[kE,Bool.and_eq_true]at h
  intro e he hb
  have:=List.all_eq_true.1 h.1 e he
  simpa[hb] using this
 |p::r,i,h,k+1,o,hk=>by
  simp only[List.getElem?_cons_succ]at hk
  simp only[kE,Bool.and_eq_true]at h
  intro e he hb
  have:=gi r (i+1) h.2 k o hk e he hb
  omega
theorem tb{pr:List Nat}:∀ (l:List Oper) (i:Nat),sE ops pr i l=true→∀ j k o p,j<k→l[j]?=some o→l[k]?=some p →
  rm pr (i+k) (i+j)=true∨Oper.apart ops o p=true
 |[],i,_,j,k,o,p,_,h,_=>by simp at h
 |q::r,i,h,0,k+1,o,p,_,ho,hp=>by
  simp only[List.getElem?_cons_zero,Option.some.injEq]at ho
  subst ho
  simp only[List.getElem?_cons_succ]at hp
  simp only[sE,Bool.and_eq_true]at h
  have pt:(p,i+1+k)∈r.zipIdx (i+1):=by
   grind
  have:=List.all_eq_true.1 h.1 _ pt
  simp only[Bool.or_eq_true]at this
  have e1:i+1+k=i+(k+1):=by omega
  rw[e1]at this
  simpa using this
 |q::r,i,h,j+1,k+1,o,p,MI,ho,hp=>by
  simp only[List.getElem?_cons_succ]at ho hp
  simp only[sE,Bool.and_eq_true]at h
  have:=tb r (i+1) h.2 j k o p (by omega) ho hp
  have e1:i+1+j=i+(j+1):=by omega
  have e2:i+1+k=i+(k+1):=by omega
  rw[e1,e2]at this
  exact this
 |q::r,i,h,j,0,o,p,MI,_,_=>by omega
theorem kN[ab]:∀ (l:List Oper) (i n:Nat) (k:Nat) (x:Item),(bD i n l)[k]?=some x →
  x.idx=i+k∧l[k]?=some x.o∧n≤x.nm∧(au x.o.op=true→x.nm<n+(l.filter fun o=>au o.op).length)
 |[],i,n,k,x,h=>by simp[bD]at h
 |o::r,i,n,0,x,h=>by
  simp only[bD,List.getElem?_cons_zero,Option.some.injEq]at h
  subst h
  refine⟨rfl,rfl,Nat.le_refl _,fun ha=>?_⟩
  simp only at ha
  simp[ha]
 |o::r,i,n,k+1,x,h=>by
  simp only[bD,List.getElem?_cons_succ]at h
  obtain⟨h1,h2,h3,h4⟩:=kN r (i+1) _ k x h
  refine⟨by omega,by simpa using h2,?_,fun ha=>?_⟩
  ·split at h3<;>omega
  ·grind
theorem xq[ab]:∀ (l:List Oper) (i n:Nat) (j k:Nat) (x y:Item),j<k→(bD i n l)[j]?=some x→(bD i n l)[k]?=some y→au x.o.op=true→x.nm<y.nm
 |[],i,n,j,k,x,y,_,h,_,_=>by simp[bD]at h
 |o::r,i,n,0,k+1,x,y,_,hx,hy,ha=>by
  simp only[bD,List.getElem?_cons_zero,Option.some.injEq]at hx
  subst hx
  simp only[bD,List.getElem?_cons_succ]at hy
  simp only at ha
  have:=(kN r (i+1) _ k y hy).2.2.1
  rw[if_pos ha]at this
  exact this
 |o::r,i,n,j+1,k+1,x,y,MI,hx,hy,ha=>by
  simp only[bD,List.getElem?_cons_succ]at hx hy
  exact xq r (i+1) _ j k x y (by omega) hx hy ha
 |o::r,i,n,j,0,x,y,MI,_,_,_=>by omega
theorem lz[ab]:∀ (l:List Oper) (i n:Nat),(bD i n l).length=l.length
 |[],_,_=>rfl
 |o::r,i,n=>by simp[bD,lz r]
theorem pw[ab]:∀ (R:List Item) (s s':St) (fs:List fi),cr step ops R s=some (s',fs)→fs.map (·.idx)=R.map (·.idx)
 |[],s,s',fs,h=>by
  simp_all[cr]
 |x::r,s,s',fs,h=>by
  obtain⟨s1,f,DJ,h1,h2,rfl⟩:=kM h
  have ih:=pw r s1 s' DJ h2
  have:f.idx=x.idx:=by
   rcases lu h1 with ⟨_,_,rfl⟩|⟨_,_,_,_,_,rfl⟩<;>rfl
  simp[ih,this]
theorem tc{pr:List Nat}:∀ (fs:List fi),eL pr fs=true→∀ (j k:Nat) (f g:fi),j<k→fs[j]?=some f→fs[k]?=some g→rn pr f g=true
 |[],_,j,k,f,g,_,h,_=>by simp at h
 |q::r,h,0,k+1,f,g,_,hf,hg=>by
  grind[eL]
 |q::r,h,j+1,k+1,f,g,MI,hf,hg=>by
  simp only[List.getElem?_cons_succ]at hf hg
  simp only[eL,Bool.and_eq_true]at h
  exact tc r h.2 j k f g (by omega) hf hg
 |q::r,h,j,0,f,g,MI,_,_=>by omega
theorem zC{a b:List Nat}(h:DZ a b=true):∀ n∈a,n∉b:=by
 intro n hn hb
 have:=List.all_eq_true.1 h n hn
 simp[hb]at this
end
end Go.PI
end
section
/- PI, part W: a region whose order is drawn, in the world: the induction. -/
namespace Go.PI
section
variable {step:Nat→Oper→List AV→RM di}{ops:Array Oper}
structure Left[ab](ops:Array Oper)(pr:List Nat)(m:Nat)(R:List Item)(aJ:Array Bool):Prop where
 size:aJ.size=ops.size
 item:∀ x∈R,ops[x.idx]?=some x.o∧aJ.getD x.idx true=false∧x.idx<m
 sorted:R.Pairwise (fun x y=>x.idx<y.idx)
 all:∀ i,i<ops.size→aJ.getD i true=false→i<m→∃ x∈R,x.idx=i
 rest:∀ i,m≤i→i<ops.size→aJ.getD i true=false
 down:∀ i o,ops[i]?=some o→aJ.getD i true=true→∀ p,rm pr i p=true→aJ.getD p false=true
 names:R.Pairwise (fun x y=>au x.o.op=true→x.nm<y.nm)
theorem td{a:Array Bool}{i:Nat}(h:i<a.size)(x y:Bool):a.getD i x=a.getD i y:=by
 simp[Array.getD,h]
theorem Ha{m:Region.Mode}{e:Edge}(h:Region.binds .any e=true):Region.binds m e=true:=by
 grind[Region.binds]
theorem B9[ab]{md:Region.Mode}(vq:oY md ops=true){aJ:Array Bool}(dL:aJ.size=ops.size){i:Nat}(bZ:i<ops.size)(hi:aJ.getD i true=false):Region.ready md ops aJ≠[]:=by
 intro xr
 have bf:=Ev vq (T:=fun i=>i<ops.size∧aJ.getD i true=true) (fun k o hk he=>by
  have UC:k<ops.size:=(Array.getElem?_eq_some_iff.1 hk).1
  refine⟨UC,?_⟩
  cases hq:aJ.getD k true with
  |true=>rfl
  |false=>
   have pt:k∈Region.ready md ops aJ:=by
    unfold Region.ready
    rw[List.mem_filter]
    refine⟨List.mem_range.2 UC,?_⟩
    simp only[hq,Bool.not_false,Bool.true_and,hk,Option.map_some,Option.getD_some]
    rw[←Array.all_toList]
    refine List.all_eq_true.2 fun e hee=>?_
    cases hb:Region.binds md e with
    |false=>rfl
    |true=>
     grind
   rw[xr]at pt
   simp at pt) i bZ
 rw[hi]at bf
 simp at bf
theorem vt[ab]{md:Region.Mode}(mg:kE 0 ops.toList=true){aJ:Array Bool}(dL:aJ.size=ops.size)
  (zw:∀ i o,ops[i]?=some o→aJ.getD i true=true→∀ p,rm (bW ops.toList) i p=true→aJ.getD p false=true) {i:Nat} (hi:i∈Region.ready md ops aJ) :
  i<ops.size∧aJ.getD i true=false∧∀ p,rm (bW ops.toList) i p=true→aJ.getD p false=true:=by
 have AN:∀ i o,ops[i]?=some o→(bW ops.toList).getD i 0=iP (bW ops.toList) o.after.toList:=by
  intro i o ho
  have cZ:ops.toList[i]?=some o:=by simpa using ho
  have:=qj ops.toList [] i o cZ (fun e he hb=>by have:=gi ops.toList 0 mg i o cZ e he hb; simpa using this)
  simpa[bW] using this
 unfold Region.ready at hi
 rw[List.mem_filter]at hi
 obtain⟨DP,Ii⟩:=hi
 simp only[List.mem_range]at DP
 simp only[Bool.and_eq_true,Bool.not_eq_true']at Ii
 obtain⟨UD,Ew⟩:=Ii
 refine⟨DP,UD,fun p hp=>?_⟩
 obtain⟨o,Qx⟩:∃ o,ops[i]?=some o:=⟨ops[i],by simp[DP]⟩
 simp only[Qx,Option.map_some,Option.getD_some]at Ew
 rw[←Array.all_toList]at Ew
 unfold rm at hp
 rw[AN i o Qx]at hp
 obtain⟨e,he,Hb,hp⟩:=qi hp
 have hb:=(gi ops.toList 0 mg i o (by simpa using Qx) e he Hb)
 have h1:=List.all_eq_true.1 Ew e he
 simp only[Ha Hb,Bool.not_true,Bool.false_or]at h1
 rcases hp with rfl|hp
 ·exact h1
 ·have bZ:e.on<ops.size:=by omega
  have UE:aJ.getD e.on true=true:=by rw[td (by rw[dL]; exact bZ) true false]; exact h1
  obtain⟨o2,ui⟩:∃ o2,ops[e.on]?=some o2:=⟨ops[e.on],by simp[bZ]⟩
  exact zw e.on o2 ui UE p hp
theorem MJ[ab](mg:kE 0 ops.toList=true):∀ {k:Nat} {o:Oper},ops[k]?=some o→∀ {p:Nat},rm (bW ops.toList) k p=true→p<k:=by
 have AN:∀ i o,ops[i]?=some o→(bW ops.toList).getD i 0=iP (bW ops.toList) o.after.toList:=by
  intro i o ho
  have cZ:ops.toList[i]?=some o:=by simpa using ho
  have:=qj ops.toList [] i o cZ (fun e he hb=>by have:=gi ops.toList 0 mg i o cZ e he hb; simpa using this)
  simpa[bW] using this
 intro k
 induction k using Nat.strongRecOn with
 |ind k ih=>
  intro o hk p hp
  unfold rm at hp
  rw[AN k o hk]at hp
  obtain⟨e,he,Hb,hp⟩:=qi hp
  have hb:=(gi ops.toList 0 mg k o (by simpa using hk) e he Hb)
  rcases hp with rfl|hp
  ·omega
  ·grind
theorem vu{pr:List Nat}{n m:Nat}(h:mv pr n m=true){i j:Nat}(h1:m≤i)(h2:i<n)(h3:j<i):rm pr i j=true:=by
 have:=List.all_eq_true.1 h (i-m) (List.mem_range.2 (by omega))
 have:=List.all_eq_true.1 this j (List.mem_range.2 (by omega))
 have e:m+(i-m)=i:=by omega
 rw[e]at this
 exact this
theorem JC[ab]{P:Program}(ta:F6 step)(dF:rE P step)(mg:kE 0 ops.toList=true){md:Region.Mode}(vq:oY md ops=true){m:Nat}(hm:m≤ops.size)(vv:mv (bW ops.toList) ops.size m=true){s':St}{Q:Exit→Act→World→Prop}
  {E0:Env} {w0:World} {B:oz} {r:Option Nat}
  (hQ:∀ E a w (aJ:Array Bool),Ext E0 E→Fr E0 w0 E w→cG B E s' a w→aJ.size=ops.size→(∀ j,j<m→aJ.getD j true=true)→(∀ j,m≤j→j<ops.size→aJ.getD j true=false) →
    wpAnyIn (WF r) 0 P md ops Q (ops.size-m) aJ a w) :
  ∀ (fuel:Nat) (R:List Item) (aJ:Array Bool) (fs:List fi) (E:Env) (s:St) (a:Act) (w:World),R.length=fuel→Left ops (bW ops.toList) m R aJ →
    Ext E0 E→Fr E0 w0 E w→cG B E s a w→(∀ x∈R,au x.o.op=true→s.hp[x.nm]?=some none)→cr step ops R s=some (s',fs) →
    (∀ (j k:Nat) (x y:Item) (f g:fi),j<k→R[j]?=some x→R[k]?=some y→fs[j]?=some f→fs[k]?=some g →
      rm (bW ops.toList) y.idx x.idx=true∨Rb ops x f y g) →
    wpAnyIn (WF r) 0 P md ops Q (fuel+(ops.size-m)) aJ a w:=by
 have AN:∀ i o,ops[i]?=some o→(bW ops.toList).getD i 0=iP (bW ops.toList) o.after.toList:=by
  intro i o ho
  have cZ:ops.toList[i]?=some o:=by simpa using ho
  have:=qj ops.toList [] i o cZ (fun e he hb=>by have:=gi ops.toList 0 mg i o cZ e he hb; simpa using this)
  simpa[bW] using this
 intro fuel
 induction fuel with
 |zero=>
  intro R aJ fs E s a w hlen hL hx eO hs _ aU _
  have hR:R=[]:=List.eq_nil_of_length_eq_zero hlen
  subst hR
  simp only[cr,Option.some.injEq,Prod.mk.injEq]at aU
  obtain⟨rfl,_⟩:=aU
  rw[Nat.zero_add]
  refine hQ E a w aJ hx eO hs hL.size (fun j hj=>?_) hL.rest
  cases hq:aJ.getD j true with
  |true=>rfl
  |false=>
   obtain⟨x,hx,_⟩:=hL.all j (by omega) hq hj
   simp at hx
 |succ fuel ih=>
  intro R aJ fs E s a w hlen hL hx eO hs o9 aU N8
  rw[show fuel+1+(ops.size-m)=(fuel+(ops.size-m))+1 by omega]
  refine⟨fun xr=>?_,fun i hi=>?_⟩
  ·-- the first of what is left is ready
   exfalso
   cases R with
   |nil=>simp at hlen
   |cons x r=>
    obtain⟨Xe,Il,_⟩:=hL.item x (by simp)
    exact B9 vq hL.size (Array.getElem?_eq_some_iff.1 Xe).1 Il xr
  ·obtain⟨DP,UD,FH⟩:=vt mg hL.size hL.down hi
   have Xf:i<m:=by
    rcases Nat.lt_or_ge i m with h|h
    ·exact h
    ·exfalso
     cases R with
     |nil=>simp at hlen
     |cons x r=>
      obtain⟨Xe,Il,hxm⟩:=hL.item x (by simp)
      have:=FH x.idx (vu vv h DP (by omega))
      rw[td (by rw[hL.size]; omega) true false]at Il
      rw[this]at Il; cases Il
   obtain⟨y,hy,YC⟩:=hL.all i DP UD Xf
   subst YC
   obtain⟨Qx,_,hym⟩:=hL.item y hy
   obtain⟨A,B',rfl⟩:=List.append_of_mem hy
   have Rd:fs.length=(A++y::B').length:=by
    have:=congrArg List.length (pw _ _ _ _ aU)
    simpa using this
   have UF:A.length<fs.length:=by rw[Rd]; simp
   have Iu:fs=fs.take A.length++fs[A.length]::fs.drop (A.length+1):=by
    simp_all
   have MG:∀ p∈A.zip (fs.take A.length),Rb ops p.1 p.2 y fs[A.length]:=by
    intro p hp
    obtain⟨j,hj⟩:=List.mem_iff_getElem?.1 hp
    have YD:=(List.getElem?_zip_eq_some).1 hj
    obtain⟨h1,h2⟩:=YD
    have UG:=aI h1
    rw[List.getElem?_take_of_lt UG]at h2
    rcases N8 j A.length p.1 y p.2 fs[A.length] UG (by rw[List.getElem?_append_left UG]; exact h1) (by simp) h2 (by simp[UF]) with h|h
    ·exfalso
     have h3:=FH _ h
     have h4:=(hL.item p.1 (List.mem_append_left _ (List.mem_of_getElem? h1))).2.1
     have bZ:p.1.idx<ops.size:=(Array.getElem?_eq_some_iff.1 (hL.item p.1 (List.mem_append_left _ (List.mem_of_getElem? h1))).1).1
     rw[td (by rw[hL.size]; exact bZ) true false]at h4
     rw[h3]at h4; simp at h4
    ·exact h
   have Pb:=qX ta A s fs aU (fs.take A.length) fs[A.length] (fs.drop (A.length+1)) Iu (by simp; omega) MG
   obtain⟨s1,f,DJ,gG,N9,Xg⟩:=kM Pb
   simp only[List.cons.injEq]at Xg
   obtain⟨rfl,rfl⟩:=Xg
   have dK:∀ x∈A++B',x.idx≠y.idx:=by
    intro x hx
    have hp:=List.pairwise_append.1 hL.sorted
    rcases List.mem_append.1 hx with h|h
    ·have:=hp.2.2 x h y (by simp); omega
    ·have:=List.rel_of_pairwise_cons hp.2.1 h; omega
   have sT:(A++B').Sublist (A++y::B'):=List.Sublist.append (List.Sublist.refl A) (List.sublist_cons_self y B')
   have Xh:Left ops (bW ops.toList) m (A++B') (aJ.setIfInBounds y.idx true):=by
    have ee:∀ j d,j≠y.idx→(aJ.setIfInBounds y.idx true).getD j d=aJ.getD j d:=by
     intro j d hj
     simp[Array.getD_eq_getD_getElem?,Ne.symm hj]
    have Ca:∀ d,(aJ.setIfInBounds y.idx true).getD y.idx d=true:=by
     intro d
     have:y.idx<aJ.size:=by rw[hL.size]; exact DP
     simp[Array.getD_eq_getD_getElem?,this]
    refine⟨by simpa using hL.size,fun x hx=>?_,hL.sorted.sublist sT,fun j hj hu YE=>?_,fun j hj UH=>?_,fun j o ho hl p hp=>?_,hL.names.sublist sT⟩
    ·obtain⟨h1,h2,h3⟩:=hL.item x (sT.subset hx)
     exact⟨h1,by rw[ee _ _ (dK x hx)]; exact h2,h3⟩
    ·have Tz:j≠y.idx:=by intro e; subst e; rw[Ca]at hu; simp at hu
     rw[ee _ _ Tz]at hu
     obtain⟨x,hx,YF⟩:=hL.all j hj hu YE
     refine⟨x,?_,YF⟩
     rcases List.mem_append.1 hx with h|h
     ·exact List.mem_append_left _ h
     ·cases h with
      |head=>omega
      |tail _ h=>exact List.mem_append_right _ h
    ·rw[ee _ _ (by omega)]
     exact hL.rest j hj UH
    ·by_cases Tz:j=y.idx
     ·subst Tz
      rw[Qx]at ho; cases ho
      by_cases Re:p=y.idx
      ·subst Re; exact Ca _
      ·rw[ee _ _ Re]; exact FH p hp
     ·rw[ee _ _ Tz]at hl
      by_cases Re:p=y.idx
      ·subst Re; exact Ca _
      ·rw[ee _ _ Re]; exact hL.down j o ho hl p hp
   have BX:(A++B').length=fuel:=by simp at hlen ⊢; omega
   have JD:∀ (j k:Nat) (x z:Item) (f g:fi),j<k→(A++B')[j]?=some x→(A++B')[k]?=some z→(fs.take A.length++fs.drop (A.length+1))[j]?=some f →
     (fs.take A.length++fs.drop (A.length+1))[k]?=some g→rm (bW ops.toList) z.idx x.idx=true∨Rb ops x f z g:=by
    have tr:∀ (j:Nat) (x:Item) (f:fi),(A++B')[j]?=some x→(fs.take A.length++fs.drop (A.length+1))[j]?=some f →
      (A++y::B')[if j<A.length then j else j+1]?=some x∧fs[if j<A.length then j else j+1]?=some f:=by
     intro j x f h1 h2
     have YG:(fs.take A.length).length=A.length:=by simp; omega
     by_cases hj:j<A.length
     ·rw[if_pos hj]
      rw[List.getElem?_append_left hj]at h1
      rw[List.getElem?_append_left (by omega),List.getElem?_take_of_lt hj]at h2
      exact⟨by rw[List.getElem?_append_left hj]; exact h1,h2⟩
     ·rw[if_neg hj]
      rw[List.getElem?_append_right (by omega)]at h1
      rw[List.getElem?_append_right (by omega),YG,List.getElem?_drop]at h2
      refine⟨?_,?_⟩
      ·rw[List.getElem?_append_right (by omega)]
       have:j+1-A.length=(j-A.length)+1:=by omega
       rw[this]; simpa using h1
      ·have:A.length+1+(j-A.length)=j+1:=by omega
       rw[this]at h2; exact h2
    intro j k x z f g MI h1 h2 h3 h4
    obtain⟨a1,a2⟩:=tr j x f h1 h3
    obtain⟨b1,b2⟩:=tr k z g h2 h4
    refine N8 _ _ x z f g ?_ a1 b1 a2 b2
    split<;>split<;>omega
   unfold wpOpIn
   rw[Qx]
   simp only
   rcases lu gG with ⟨hw,rfl,_⟩|⟨hw,e,he,AB,rfl,_⟩
   ·rw[kW hs.fr hw]
    simp only[Bool.false_eq_true,if_false]
    refine⟨fun _ _=>trivial,?_⟩
    refine ih (A++B') _ _ E { s with fr:=bC s.fr y.o.dst .undef } _ w BX Xh hx eO ⟨gh hs.fr (by simp[ai]),hs.inv,by rw[put_defers]; exact hs.df,hs.bs⟩ (fun x hx=>o9 x (sT.subset hx)) N9 JD
   ·rw[kW hs.fr hw]
    simp only[if_true]
    refine dF r y B E s a w e _ Q hs (o9 y (by simp)) he fun E' w' v gb JE hY hr=>?_
    refine ih (A++B') _ _ E' { s with fr:=bC s.fr y.o.dst e.val,hp:=ak s.hp e.wr } _ w' BX Xh (hx.trans gb) (eO.trans JE) ⟨gh (hs.fr.mono gb) hr,hY,by rw[put_defers]; exact hs.df.mono JE,Nat.le_trans hs.bs JE.size⟩ (fun x hx ha=>?_) N9 JD
    have hn:=o9 x (sT.subset hx) ha
    have Et:x.nm∉e.wr.map (·.1):=by
     intro hm
     obtain⟨q,hq,Xi⟩:=List.mem_map.1 hm
     rcases (AB q hq).2 with h|⟨o,ho⟩
     ·have hxn:y.nm=x.nm:=by rw[←h.2]; exact Xi
      have hp:=List.pairwise_append.1 hL.names
      rcases List.mem_append.1 hx with h'|h'
      ·have:=hp.2.2 x h' y (by simp) ha; omega
      ·have:=List.rel_of_pairwise_cons hp.2.1 h' h.1; omega
     ·rw[Xi]at ho; rw[hn]at ho; simp at ho
    simp only
    rw[iv e.wr s.hp (fun q hq=>(AB q hq).1) x.nm Et]
    exact hn
end
end Go.PI
end
section
/- PI, part X: results, calls, what is dropped. -/
namespace Go.PI
theorem Cb{P:Program}{nm:Nat}{ev ML:Operand→AV}{o:Oper}(h:∀ x∈o.op.operands.toList,ev x=ML x):aK P nm ev o=aK P nm ML o:=by
 obtain⟨dst,op,type,pos,after,guard⟩:=o
 have Hd:∀ (l:List Operand),(∀ x∈l,x∈op.operands.toList)→l.map ev=l.map ML:=fun l hl=>List.map_congr_left fun x hx=>h x (hl x hx)
 unfold aK
 cases op with
 |build t parts=>
  have:(parts.toList.map fun p=>(p.1,ev p.2))=(parts.toList.map fun p=>(p.1,ML p.2)):=
   List.map_congr_left fun p hp=>by rw[h p.2 (by simp only[Op.operands]; exact List.mem_map.2 ⟨p,hp,rfl⟩)]
  simp only[this]
 |buildSlice t len parts=>
  have:(parts.toList.map fun p=>(p.1,ev p.2))=(parts.toList.map fun p=>(p.1,ML p.2)):=
   List.map_congr_left fun p hp=>by rw[h p.2 (by simp only[Op.operands]; exact List.mem_map.2 ⟨p,hp,rfl⟩)]
  simp only[this]
 |makeFunc fn first captured=>
  have h1:=Hd first.toList (fun x hx=>by simp only[Op.operands,Array.toList_append,List.mem_append]; exact .inl hx)
  have h2:=Hd captured.toList (fun x hx=>by simp only[Op.operands,Array.toList_append,List.mem_append]; exact .inr hx)
  simp only[h1,h2]
 |slice t x lo hi mx=>
  have h0:=h x (by simp[Op.operands])
  have h1:lo.map ev=lo.map ML:=by cases lo with|none=>rfl|some y=>simp[h y (by simp[Op.operands])]
  have h2:hi.map ev=hi.map ML:=by cases hi with|none=>rfl|some y=>simp[h y (by simp[Op.operands])]
  have h3:mx.map ev=mx.map ML:=by cases mx with|none=>rfl|some y=>simp[h y (by simp[Op.operands])]
  simp only[h0,h1,h2,h3]
 |call c=>
  obtain⟨callee,args,argTypes⟩:=c
  cases callee with
  |builtin b=>
   have h1:=Hd args.toList (fun x hx=>by simp[Op.operands,Call.operands]; simpa using hx)
   simp only[h1]
  |value f=>rfl
  |invoke r m=>rfl
 |move x=>simp only[h x (by simp[Op.operands])]
 |assign x=>simp only[h x (by simp[Op.operands])]
 |pick c a b=>simp_all[Op.operands]
 |box t x=>simp only[h x (by simp[Op.operands])]
 |load t a=>simp only[h a (by simp[Op.operands])]
 |store t a x=>simp_all[Op.operands]
 |nilCheck x=>simp only[h x (by simp[Op.operands])]
 |binOp b t x y yt=>simp_all[Op.operands]
 |unOp u t x=>simp only[h x (by simp[Op.operands])]
 |convert s d x=>simp only[h x (by simp[Op.operands])]
 |makeInterface t x=>simp only[h x (by simp[Op.operands])]
 |makeSlice t l c=>simp_all[Op.operands]
 |sliceToArrayPointer t x=>simp only[h x (by simp[Op.operands])]
 |fieldAddr s x f=>simp only[h x (by simp[Op.operands])]
 |field s x f=>simp only[h x (by simp[Op.operands])]
 |indexAddr t x i=>simp_all[Op.operands]
 |index t x i=>simp_all[Op.operands]
 |extract t i=>simp only[h t (by simp[Op.operands])]
 |makeMap t r=>
  have h1:r.map ev=r.map ML:=by cases r with|none=>rfl|some y=>simp[h y (by simp[Op.operands])]
  simp only[h1]
 |lookup t x i c=>simp_all[Op.operands]
 |mapUpdate t m k x=>simp_all[Op.operands]
 |_=>rfl
theorem JF[ab]{P:Program}{nm nm':Nat}{ev:Operand→AV}{o:Oper}(h:au o.op=false):aK P nm ev o=aK P nm' ev o:=by
 obtain⟨dst,op,type,pos,after,guard⟩:=o
 unfold aK
 cases op with
 |alloc _=>simp[au]at h
 |box _ _=>simp[au]at h
 |buildSlice _ _ _=>simp[au]at h
 |makeSlice _ _ _=>simp[au]at h
 |makeMap _ _=>simp[au]at h
 |call c=>
  obtain⟨callee,args,argTypes⟩:=c
  cases callee with
  |builtin b=>
   cases b with
   |append=>simp[au]at h
   |_=>rfl
  |_=>rfl
 |_=>rfl
theorem RM.xu{hp:af}{n:Nat}{g c f:Bool}{es:List AV}(h:hp[n]?=some (some (.arr g c f es))):(RM.arr n es.length).run hp=some (g,c,f,es):=by
 simp[RM.arr,RM.run,h]
theorem rF[ab]{P:Program}{E:Env}{hp:af}{w:World}(hI:Inv E hp w){fr:List AV}{a:Act}(eO:an E true fr a.tmps.toList){fn:Func}{l:List AV}
  (h:(aR P fr fn.results.toList).run hp=some l):∃ v,(results fn a.tmps).run P w=.ok v w∧ai E true (cB l) v:=by
 have one:∀ (r:ResultVar) (x:AV),(jK P fr r).run hp=some x →
   ∃ v,(match r with|.tmp t=>pure (a.tmps.getD t undef)|.cell ad t=>(do loadVar t (←asAddr (a.tmps.getD ad undef))):Sem Value).run P w=.ok v w∧ai E true x v:=by
  intro r x hx
  cases r with
  |tmp t=>
   simp only[jK,RM.run_pure,Option.some.injEq]at hx
   subst hx
   exact⟨_,rfl,gP hI.jk eO (.tmp t)⟩
  |cell ad t=>
   simp only[jK]at hx
   have hr:=gP hI.jk eO (.tmp ad)
   obtain⟨v,h1,h2⟩:=FF hI (va:=a.tmps.getD ad undef) hr hx
   refine⟨v,?_,h2⟩
   simp only[Instr.loadAt,Sem.run_bind]at h1
   simp only[Sem.run_bind]
   cases hq:a.tmps.getD ad undef with
   |pointer p=>
    cases p with
    |some p=>rw[hq]at h1; simpa[asAddr,Instr.sureAddr] using h1
    |none=>rw[hq]at h1; simp[Instr.sureAddr]at h1
   |_=>rw[hq]at h1; simp[Instr.sureAddr]at h1
 have many:∀ (rs:List ResultVar) (l:List AV),(aR P fr rs).run hp=some l →
   ∃ vs:List Value,(rs.mapM fun|.tmp t=>pure (a.tmps.getD t undef)|.cell ad t=>(do loadVar t (←asAddr (a.tmps.getD ad undef))):Sem (List Value)).run P w=.ok vs w ∧
     an E true l vs:=by
  intro rs
  induction rs with
  |nil=>
   intro l h
   simp only[aR,RM.run_pure,Option.some.injEq]at h
   subst h
   exact⟨[],by simp[List.mapM_nil],by simp[an]⟩
  |cons r rs ih=>
   intro l h
   simp only[aR,RM.run_bind]at h
   cases hq:(jK P fr r).run hp with
   |none=>rw[hq]at h; simp at h
   |some x=>
    rw[hq]at h
    simp only[Option.bind_some]at h
    cases dR:(aR P fr rs).run hp with
    |none=>rw[dR]at h; simp at h
    |some xs=>
     rw[dR]at h
     simp only[Option.bind_some,RM.run_pure,Option.some.injEq]at h
     subst h
     obtain⟨v,h1,h2⟩:=one r x hq
     obtain⟨vs,h3,h4⟩:=ih xs dR
     refine⟨v::vs,?_,by simp only[an]; exact⟨h2,h4⟩⟩
     rw[List.mapM_cons,Sem.run_bind,h1,Result.andThen_ok,Sem.run_bind,h3]
     rfl
 obtain⟨vs,h1,h2⟩:=many _ _ h
 have hm:(fn.results.mapM fun|.tmp t=>pure (a.tmps.getD t undef)|.cell ad t=>(do loadVar t (←asAddr (a.tmps.getD ad undef))):Sem (Array Value)).run P w=.ok vs.toArray w:=by
  rw[Array.mapM_eq_mapM_toList,Sem.run_map,h1]
  rfl
 refine⟨if h:vs.toArray.size=1 then vs.toArray[0] else .tuple vs.toArray,?_,?_⟩
 ·unfold results
  rw[Sem.run_bind]
  exact congrArg (fun (r:Result (Array Value))=>r.andThen fun vs w'=>(pure (if h:vs.size=1 then vs[0] else .tuple vs):Sem Value).run P w') hm
 ·have hlen:=h2.length
  match l,vs,h2,hlen with
  |[],[],_,_=>simp[cB,ai,an]
  |[x],[v],h2,_=>simp only[an]at h2; simpa[cB] using h2.1
  |x::y::r,v::u::s,h2,_=>
   simp only[cB,ai]
   exact⟨v::u::s,by simp,h2⟩
  |[],_::_,_,h=>simp at h
  |_::_,[],_,h=>simp at h
  |[_],_::_::_,_,h=>simp at h
  |_::_::_,[_],_,h=>simp at h
def Env.gk(E:Env)(k:Nat):Env where
 ρ:=fun n aq=>if n<E.L then E.ρ n aq else none
 m:=E.m
 L:=E.L+k
 own:=E.own
theorem Ex[ab]{E:Env}{hp:af}{w:World}(hI:Inv E hp w)(k:Nat):
  Ext E (E.gk k)∧Inv (E.gk k) (hp++List.replicate k none) w∧Fr E w (E.gk k) w:=by
 have hx:Ext E (E.gk k):=⟨fun _ _ h=>h,fun n hn aq l h=>by simp[Env.gk,hn,h],by simp[Env.gk]⟩
 have hold:∀ n o,(hp++List.replicate k none)[n]?=some (some o)→hp[n]?=some (some o)∧n<E.L:=by
  intro n o h
  rw[List.getElem?_append]at h
  split at h
  ·rename_i bZ; exact⟨h,by rw[←hI.len]; exact bZ⟩
  ·simp[List.getElem?_replicate]at h
 have db:∀ n,n<E.L→∀ aq,(E.gk k).ρ n aq=E.ρ n aq:=fun n hn aq=>by simp[Env.gk,hn]
 have eQ:∀ n b,cb (E.gk k) (hp++List.replicate k none) n b→cb E hp n b:=by
  rintro n b ⟨o,l,ho,hl,hb⟩
  obtain⟨h1,h2⟩:=hold n o ho
  refine⟨o,l,h1,?_,hb⟩
  cases o with
  |arr=>simpa only[db n h2] using hl
  |ga=>simpa only[db n h2] using hl
 refine⟨hx,⟨by simp[Env.gk,hI.len],?_,?_,fun n1 n2 b h1 h2=>hI.inj n1 n2 b (eQ _ _ h1) (eQ _ _ h2),hI.mem,hI.oI,hI.jk⟩,
  ⟨rfl,rfl,rfl,Nat.le_refl _,fun _ _ _=>rfl,fun _ h=>.inl h,fun _ _ h=>.inl h,fun _ r h=>⟨r,h⟩⟩⟩
 ·intro n o ho
  obtain⟨h1,h2⟩:=hold n o ho
  have h:=hI.objs n o h1
  cases o with
  |arr g cl fz es=>
   obtain⟨l,hl,hv,hm⟩:=h
   refine⟨l,by rw[db n h2]; exact hl,fun aq l' h=>hv aq l' (by rw[db n h2]at h; exact h),?_⟩
   cases hb:l.kB with
   |none=>rw[hb]at hm; exact hm
   |some b=>
    rw[hb]at hm
    obtain⟨c,T,a1,a2,a3,a4,a5,a6,a7⟩:=hm
    exact⟨c,T,a1,a2,a3,a4,a5,a6,fun i e he=>by obtain⟨v,jM,fj⟩:=a7 i e he; exact⟨v,jM.mono hx,fj⟩⟩
  |ga k L9=>
   obtain⟨l,b,es,clock,a1,a2,a3,a4,a5,a6,a7,a8⟩:=h
   exact⟨l,b,es,clock,by rw[db n h2]; exact a1,a2,a3,a4,a5,fun aq l' h=>a6 aq l' (by rw[db n h2]at h; exact h),a7,a8.mono hx⟩
 ·intro n aq h
  rw[List.getElem?_append]at h
  split at h
  ·rename_i bZ
   have:n<E.L:=by rw[←hI.len]; exact bZ
   rw[db n this]
   exact hI.free n aq h
  ·rename_i Ms
   have:¬n<E.L:=by rw[←hI.len]; exact Ms
   simp[Env.gk,this]
def Env.lower(E:Env)(n:Nat):Env:={ E with L:=n }
theorem te[ab]{E:Env}{hp:af}{w:World}(hI:Inv E hp w){n:Nat}(hn:n≤hp.length)(bf:(hp.take n).all (ki n)=true):
  Inv (E.lower n) (hp.take n) w∧Fr E w (E.lower n) w∧Down E (E.lower n):=by
 have Pc:Down E (E.lower n):=⟨fun _ _ h=>h,fun _ _ _ _ h=>h⟩
 have hold:∀ i o,(hp.take n)[i]?=some o→hp[i]?=some o∧i<n:=by
  grind
 have eQ:∀ i b,cb (E.lower n) (hp.take n) i b→cb E hp i b:=by
  rintro i b ⟨o,l,ho,hl,hb⟩
  exact⟨o,l,(hold i _ ho).1,hl,hb⟩
 refine⟨⟨by simp[Env.lower]; omega,?_,fun i aq h=>hI.free i aq (hold i _ h).1,fun n1 n2 b h1 h2=>hI.inj n1 n2 b (eQ _ _ h1) (eQ _ _ h2),hI.mem,hI.oI,hI.jk⟩,
  ⟨rfl,rfl,rfl,Nat.le_refl _,fun _ _ _=>rfl,fun _ h=>.inl h,fun _ _ h=>.inl h,fun _ r h=>⟨r,h⟩⟩,Pc⟩
 intro i o ho
 obtain⟨h1,h2⟩:=hold i _ ho
 have hb:=List.all_eq_true.1 bf _ (List.mem_of_getElem? ho)
 simp only[ki]at hb
 have h:=hI.objs i o h1
 cases o with
 |arr g cl fz es=>
  obtain⟨l,hl,hv,hm⟩:=h
  refine⟨l,hl,hv,?_⟩
  cases yA:l.kB with
  |none=>rw[yA]at hm; exact hm
  |some b=>
   rw[yA]at hm
   obtain⟨c,T,a1,a2,a3,a4,a5,a6,a7⟩:=hm
   refine⟨c,T,a1,a2,a3,a4,a5,a6,fun j e he=>?_⟩
   obtain⟨v,jM,fj⟩:=a7 j e he
   refine⟨v,?_,fj⟩
   cases cl with
   |true=>exact ai.dU ⟨Pc.m⟩ jM
   |false=>
    simp only[aL.below,Bool.false_or]at hb
    refine ai.down Pc ?_ jM
    have:∀ (l:List AV),cN n l=true→∀ x∈l,below n x=true:=by
     intro l
     induction l with
     |nil=>simp
     |cons y ys ih=>
      simp_all[cN]
    exact this es hb e (List.mem_of_getElem? he)
 |ga k L9=>
  obtain⟨l,b,es,clock,a1,a2,a3,a4,a5,a6,a7,a8⟩:=h
  refine⟨l,b,es,clock,a1,a2,a3,a4,a5,a6,a7,?_⟩
  simp only[aL.below]at hb
  exact an.down Pc hb a8
theorem rG[ab]{E:Env}{n:Nat}(Pc:Down E (E.lower n)):∀ {fr:List AV} {vs:List Value},an E true fr vs→an (E.lower n) true (fr.map (forget n)) vs
 |[],[],_=>by simp[an]
 |x::xs,v::vs,h=>by
  simp only[an]at h
  simp only[List.map_cons,an]
  refine⟨?_,rG Pc h.2⟩
  unfold forget
  split
  ·rename_i hb; exact ai.down Pc hb h.1
  ·simp[ai]
 |[],_::_,h=>by simp[an]at h
 |_::_,[],h=>by simp[an]at h
end Go.PI
end
section
/- PI, part Da: a function that is entered as a deferred call while the frame below returns: recover gives nil. -/
namespace Go.PI
theorem k9(o:Oper):(dD o).dst=o.dst∧(dD o).guard=o.guard∧(dD o).after=o.after:=by
 unfold dD; split
 ·split<;>exact⟨rfl,rfl,rfl⟩
 ·exact⟨rfl,rfl,rfl⟩
theorem y7(o:Oper):dD o=o∨(dD o={ o with op:=.move (.const .nilIface) }∧∃ lY,o.op=.call { callee:=.builtin .recover,args:=#[],argTypes:=lY }):=by
 unfold dD; split
 ·rename_i c hc
  split
  ·rename_i h1 h2
   refine .inr ⟨rfl,c.argTypes,?_⟩
   rw[hc]
   obtain⟨x,y,z⟩:=c
   simp only at h1 h2
   rw[h1,Array.toList_eq_nil_iff.1 h2]
  ·exact .inl rfl
 ·exact .inl rfl
theorem BD{ρ:Operand→Value}{o:Oper}{P:Program}{w:World}{lY:Array TypeId}(h:o.op=.call { callee:=.builtin .recover,args:=#[],argTypes:=lY }):(execOp ρ o).run P w=.ok .recover w:=by
 unfold execOp; rw[h]; rfl
theorem yB(ops:Array Oper)(tmps:Array Value):yielded (ops.map dD) tmps=yielded ops tmps:=by
 funext j
 simp only[yielded,Array.getElem?_map]
 cases ops[j]? with
 |none=>rfl
 |some o=>simp only[Option.map_some,Option.bind_some,(k9 o).1]
section
variable {F:Fence}{n:Nat}{P:Program}{ops:Array Oper}{Q:Exit→Act→World→Prop}
theorem FC(l:List Nat):∀ (a:Act) (w:World),wpOpsIn F n P (ops.map dD) Q l a w→∀ (b:Frame) (k:List Go.Item) (cs:List Frame),b.kind=.deferred→recoverD cs=none→F.round=none→b.roundOf=F.round→F.fn b.fn→F.room (cs.length+1+n) →
  ∃ e a' w',Q e a' w'∧ArrivesIn (Machine.fenced P F) P (lone (b.atR a (.inRegion ops l::k)) cs w) b k cs e a' w':=by
 induction l with
 |nil=>exact fun a w h b k cs _ _ _ _ hb hr=>⟨.normal,a,w,h,.one (fenced_calm hb hr rfl) stepR_region_end⟩
 |cons i rest ih=>
  intro a w h b k cs hk mT eO dA hb hr
  simp only[wpOpsIn,Array.getElem?_map,yB]at h
  cases ho:ops[i]? with
  |none=>
   simp only[ho,Option.map_none]at h
   obtain⟨e,a',w',hq,cJ⟩:=ih a w h b k cs hk mT eO dA hb hr
   have hs:=stepR_op_skip (P:=P) (b:=b) (a:=a) (k:=k) (cs:=cs) (w:=w) (ops:=ops) (i:=i) (rest:=rest) (by simp[ho])
   simp only[ho,Option.bind_none,Act.put]at hs
   exact⟨e,a',w',hq,.of_steps (.one (fenced_noOper hb hr ho) hs) cJ⟩
  |some o=>
   simp only[ho,Option.map_some]at h
   have Yd:Region.wanted (dD o) (yielded ops a.tmps)=Region.wanted o (yielded ops a.tmps):=by unfold Region.wanted; rw[(k9 o).2.1]
   rw[Yd,(k9 o).1]at h
   have BE:∀ v,(b.atR a (.inRegion ops (i::rest)::k)).finish v=b.atR (a.put o.dst v) (.inRegion ops rest::k):=by
    intro v; rw[Frame.finish_atR,ho]; rfl
   by_cases hw:Region.wanted o (yielded ops a.tmps)=true
   ·have hg:=stepGR_op (P:=P) (b:=b) (k:=k) (cs:=cs) (w:=w) (rest:=rest) ho hw
    simp only[hw,if_true,Oper.wpIn]at h
    rcases y7 o with he|⟨he,lY,DI⟩
    ·rw[he]at h
     rw[dA]at hg
     obtain⟨tS,h⟩:=h
     have h0:(lone (b.atR a (.inRegion ops (i::rest)::k)) cs w).fenced P F:=fenced_oper hb hr ho tS
     simp only[Oper.uponIn]at h
     split at h
     ·rename_i v w' ld
      obtain⟨e,a',wP,hq,cJ⟩:=ih _ _ h b k cs hk mT eO dA hb hr
      refine⟨e,a',wP,hq,.of_steps (.one h0 (step_lone_go ?_)) cJ⟩
      rw[hg,←BE]; simp[stepG.apply,ld]
     ·rename_i w' ld
      obtain⟨e,a',wP,hq,cJ⟩:=ih _ _ h b k cs hk mT eO dA hb hr
      refine⟨e,a',wP,hq,.of_steps (.one h0 (step_lone_go ?_)) cJ⟩
      rw[hg,←BE]; simp[stepG.apply,ld]
     ·rename_i d w' ld
      obtain⟨e,a',wP,hq,cJ⟩:=ih _ _ h b k cs hk mT eO dA hb hr
      refine⟨e,a',wP,hq,.of_steps (.one h0 (step_lone_go ?_)) cJ⟩
      have:=Frame.finish_atR b { a with defers:=d::a.defers } ops i rest k undef
      rw[ho]at this
      rw[hg]; simp only[stepG.apply,Sem.runT_eq,ld,GStep.bare_after]
      exact congrArg (fun fr=>GStep.go { frame:=fr,callers:=cs,status:=.running,dying:=none } w') this
     ·rename_i f args w' ld
      obtain⟨hn,hF,h⟩:=h
      have mU:F.room ((b.atR a (.inRegion ops (i::rest)::k)::cs).length+1+(n-1)):=Fence.room_enter hr hn
      obtain⟨e,wP,fr,hR,nH,qM,Al⟩:=h (b.atR a (.inRegion ops (i::rest)::k)::cs) mU
      have lf:step P (lone (b.atR a (.inRegion ops (i::rest)::k)) cs w)=.next (lone (Frame.enter P f args .normal) (b.atR a (.inRegion ops (i::rest)::k)::cs) w'):=
       step_lone_go (by rw[hg]; simp[stepG.apply,ld,Frame.atR])
      cases e with
      |returned v=>
       have hl:(lone fr (b.atR a (.inRegion ops (i::rest)::k)::cs) wP).fenced P F:=fenced_leaving (qM▸hF) mU Al
       obtain⟨e,a',w₃,hq,cJ⟩:=ih _ _ hR b k cs hk mT eO dA hb hr
       refine⟨e,a',w₃,hq,.of_steps (.head h0 lf (StepsIn.trans nH (.one hl ?_))) cJ⟩
       rw[←BE]; exact step_leave_returned Al
      |panicked chain=>
       have hl:(lone fr (b.atR a (.inRegion ops (i::rest)::k)::cs) wP).fenced P F:=fenced_leaving (qM▸hF) mU Al
       refine⟨.panic chain,a,wP,hR,.inRegion ops (i::rest)::k,.head h0 lf (StepsIn.trans nH (.one hl ?_))⟩
       rw[←Frame.raise_atR]; exact step_leave_panicked Al
      |outgrown=>
       obtain⟨a₀,w₀,hq⟩:=hR
       exact⟨.outgrown,a₀,w₀,hq,.inr (Outgrown.of_steps (.one lf) nH)⟩
     ·rename_i row args w' ld
      obtain⟨hn,h⟩:=h
      obtain⟨v,wP,hR,nH⟩:=h (b.atR a (.inRegion ops (i::rest)::k)) cs (Fence.room_enter hr hn)
      have lf:step P (lone (b.atR a (.inRegion ops (i::rest)::k)) cs w)=.next (lone (Frame.ofRow P row args .normal) (b.atR a (.inRegion ops (i::rest)::k)::cs) w'):=
       step_lone_go (by rw[hg]; simp[stepG.apply,ld,Frame.atR])
      obtain⟨e,a',w₃,hq,cJ⟩:=ih _ _ hR b k cs hk mT eO dA hb hr
      refine⟨e,a',w₃,hq,.of_steps (.head h0 lf ?_) cJ⟩
      rw[←BE]; exact nH
     ·rename_i l f tmps assign body w' ld
      obtain⟨hn,_,h⟩:=h
      obtain⟨e,wP,hR,nH⟩:=h (b.atR a (.inRegion ops (i::rest)::k)) cs (Fence.room_enter hr hn)
      have lf:step P (lone (b.atR a (.inRegion ops (i::rest)::k)) cs w)=.next (lone (Frame.round l f tmps assign body .normal) (b.atR a (.inRegion ops (i::rest)::k)::cs) w'):=
       step_lone_go (by rw[hg]; simp[stepG.apply,ld,Frame.atR])
      cases e with
      |returned v=>
       obtain⟨e,a',w₃,hq,cJ⟩:=ih _ _ hR b k cs hk mT eO dA hb hr
       refine⟨e,a',w₃,hq,.of_steps (.head h0 lf ?_) cJ⟩
       rw[←BE]; exact nH
      |panicked chain=>
       refine⟨.panic chain,a,wP,hR,.inRegion ops (i::rest)::k,.head h0 lf ?_⟩
       rw[←Frame.raise_atR]; exact nH
      |outgrown=>
       obtain⟨a₀,w₀,hq⟩:=hR
       exact⟨.outgrown,a₀,w₀,hq,.inr (Outgrown.of_steps (.one lf) nH)⟩
     ·rename_i v w' ld
      refine⟨_,a,w',h,.inRegion ops (i::rest)::k,.one h0 (step_lone_go ?_)⟩
      rw[hg,←Frame.raise_atR]; simp[stepG.apply,ld]
     ·exact h.elim
    ·-- recover
     rw[he]at h
     have tS:∀ f,o.about P w a.eval=some f→F.fn f:=by
      intro f hf
      unfold Oper.about at hf
      rw[DI]at hf
      cases hf
     have h0:(lone (b.atR a (.inRegion ops (i::rest)::k)) cs w).fenced P F:=fenced_oper hb hr ho tS
     have h2:wpOpsIn F n P (ops.map dD) Q rest (a.put o.dst .nilIface) w:=by
      have h3:=h.2
      rw[eO]at h3
      exact h3
     obtain⟨e,a',wP,hq,cJ⟩:=ih _ _ h2 b k cs hk mT eO dA hb hr
     refine⟨e,a',wP,hq,.of_steps (.one h0 (step_lone_go ?_)) cJ⟩
     have W1:b.roundOf=none:=dA.trans eO
     rw[W1,Oper.semAt_none]at hg
     have Qp:=tryRecover_deferred (fr:=b.atR a (.inRegion ops (i::rest)::k)) hk cs
     rw[hg,←BE]
     simp only[Frame.atR,W1]at Qp ⊢
     simp[stepG.apply,BD DI,Qp,mT]
   ·simp only[hw,if_false,Bool.false_eq_true]at h
    obtain⟨tS,h⟩:=h
    obtain⟨e,a',w',hq,cJ⟩:=ih _ _ h b k cs hk mT eO dA hb hr
    have hs:=stepR_op_skip (P:=P) (b:=b) (a:=a) (k:=k) (cs:=cs) (w:=w) (ops:=ops) (i:=i) (rest:=rest) (by simp[ho]; simpa using hw)
    simp only[ho,Option.bind_some]at hs
    have L7:∀ f,o.about P w a.eval=some f→F.fn f:=by
     rcases y7 o with he|⟨he,lY,DI⟩
     ·rw[he]at tS; exact tS
     ·intro f hf
      unfold Oper.about at hf
      rw[DI]at hf
      cases hf
    exact⟨e,a',w',hq,.of_steps (.one (fenced_oper hb hr ho L7) hs) cJ⟩
def GN(F:Fence)(n:Nat)(P:Program)(c:Code)(Q:Exit→Act→World→Prop)(a:Act)(w:World):Prop:=
 ∀ (b:Frame) (k:List Go.Item) (cs:List Frame),b.kind=.deferred→recoverD cs=none→F.round=none→b.roundOf=F.round→F.fn b.fn→F.room (cs.length+1+n) →
   ∃ e a' w',Q e a' w'∧ArrivesIn (Machine.fenced P F) P (lone (b.atR a (.code c::k)) cs w) b k cs e a' w'
variable {a:Act}{w:World}
theorem Iz{c:Code}(h:c.wpIn F n P Q a w):GN F n P c Q a w:=fun b k cs _ _ _ dA hb hr=>h b k cs dA hb hr
theorem L8{x y:Code}(h:GN F n P x (fun e a w=>match e with|.normal=>GN F n P y Q a w|e=>Q e a w) a w):GN F n P (.seq x y) Q a w:=by
 intro b k cs hk mT eO dA hb hr
 have i0:(lone (b.atR a (.code (.seq x y)::k)) cs w).fenced P F:=fenced_calm hb hr rfl
 obtain⟨e,a₁,w₁,hq,cJ⟩:=h b (.code y::k) cs hk mT eO dA hb hr
 cases e with
 |normal=>
  obtain⟨e₂,a₂,w₂,wQ,jL⟩:=hq b k cs hk mT eO dA hb hr
  exact⟨e₂,a₂,w₂,wQ,.of_steps (.head i0 stepR_seq cJ) jL⟩
 |exit id=>exact⟨_,a₁,w₁,hq,.of_steps (.one i0 stepR_seq) (.pass (x:=.code y) rfl (fun _ _=>.inl (by simp)) cJ)⟩
 |goto l=>exact⟨_,a₁,w₁,hq,.of_steps (.one i0 stepR_seq) (.pass (x:=.code y) rfl (fun _ _=>.inl (by simp)) cJ)⟩
 |ret=>exact⟨_,a₁,w₁,hq,.of_steps (.one i0 stepR_seq) (.pass (x:=.code y) rfl (fun _ _=>.inl (by simp)) cJ)⟩
 |panic ch=>exact⟨_,a₁,w₁,hq,.of_steps (.one i0 stepR_seq) (.pass (x:=.code y) rfl (fun _ _=>.inl (by simp)) cJ)⟩
 |outgrown=>exact⟨_,a₁,w₁,hq,.of_steps (.one i0 stepR_seq) (.pass (x:=.code y) rfl (fun _ _=>.inl (by simp)) cJ)⟩
theorem D1{id:Nat}(h:wpOpsIn F n P (ops.map dD) Q (List.range ops.size) a w):GN F n P (.region id ops false) Q a w:=
 fun b k cs hk mT eO dA hb hr=>let ⟨e,a',w',q,r⟩:=FC _ a w h b k cs hk mT eO dA hb hr; ⟨e,a',w',q,.of_steps (.one (fenced_calm hb hr rfl) stepR_region) r⟩
theorem IA{id:Nat}(h:∀ t,wpOpsIn F n P (ops.map dD) Q (Region.schedule (P.follows .mixedOrders) ops t) a { w with drawn:=w.drawn+1 }):GN F n P (.region id ops true) Q a w:=
 fun b k cs hk mT eO dA hb hr=>let ⟨e,a',w',q,r⟩:=FC _ a _ (h _) b k cs hk mT eO dA hb hr; ⟨e,a',w',q,.of_steps (.one (fenced_calm hb hr rfl) stepR_region_draw) r⟩
theorem yC{f:FuncId}{fn:Func}{c:Code}{args:Array Value}{R:Ending→World→Prop}(hf:P.funcs[f]?=some fn)(hb:fn.body=some c)(hF:F.fn f)
  (h:GN F n P c (bodyPost P fn R) { tmps:=args++Array.replicate (fn.ntmps-args.size) undef,defers:=[] } w) (dA:F.round=none:=by rfl) :
  CallsDIn F n P f args .returning w fun e u' w'=>u'=.returning∧R e w':=by
 refine⟨hF,fun c₀ cs hu hr=>?_⟩
 let b:Frame:={ (default:Frame) with fn:=f,kind:=.deferred,roundOf:=none }
 have lf:Frame.enter P f args .deferred=b.atR { tmps:=args++Array.replicate (fn.ntmps-args.size) undef,defers:=[] } [.code c]:=by
  simp[Frame.enter,Frame.atR,hf,hb,b]
 have hc:({ c₀ with mode:=.returning }:Frame)=c₀:=by cases c₀; simp only at hu; rw[hu]
 have mT:recoverD (c₀::cs)=none:=by simp only[recoverD,hu]
 obtain⟨e,a',w',hq,cJ⟩:=h b [] (c₀::cs) rfl mT dA dA.symm hF hr
 rw[←lf]at cJ
 cases e with
 |normal=>
  obtain⟨hd,v,ld,hR⟩:=hq
  exact⟨.returned v,.returning,w',_,⟨rfl,hR⟩,(by rw[hc]; exact StepsIn.trans cJ (.one (fenced_calm (fr:=b.atR a' []) hF hr rfl) (stepR_end rfl))),rfl,rfl,rfl,hd,fn,hf,ld⟩
 |ret=>
  obtain⟨hd,v,ld,hR⟩:=hq
  obtain⟨todo,hs⟩:=cJ.1 rfl
  exact⟨.returned v,.returning,w',_,⟨rfl,hR⟩,(by rw[hc]; exact hs),rfl,rfl,rfl,hd,fn,hf,ld⟩
 |panic chain=>
  obtain⟨hd,hR⟩:=hq
  obtain⟨todo,hs⟩:=cJ
  exact⟨.panicked chain,.returning,w',_,⟨rfl,hR⟩,(by rw[hc]; exact hs),rfl,rfl,rfl,hd,fn,hf⟩
 |exit id=>exact hq.elim
 |goto l=>exact hq.elim
 |outgrown=>exact⟨.outgrown,.returning,w',b,⟨rfl,hq⟩,cJ.resolve_left (by simp[b]),rfl,rfl,trivial⟩
end
end Go.PI
end
section
/- PI, part Y: the evaluator's answers are what the machine does, on every tape and in every order. -/
namespace Go.PI
def JG[ab](B:oz)(E:Env):Out→Exit→Act→World→Prop
 |.norm s,.normal,a,w=>cG B E s a w
 |.exit i s,.exit j,a,w=>i=j∧cG B E s a w
 |.ret s,.ret,a,w=>cG B E s a w
 |.jJ v s,.panic ch,a,w=>∃ u,ch=[{ v:=u,recovered:=false }]∧ai E true v u∧Inv E s.hp w∧Marks B E w a.defers
 |_,_,_,_=>False
def bn[ab](B:oz)(E:Env)(w:World)(o:Out)(e:Exit)(a':Act)(w':World):Prop:=
 ∃ E',Ext E E'∧Fr E w E' w'∧JG B E' o e a' w'
theorem bn.from[ab]{B:oz}{E E1:Env}{w w1:World}{o:Out}{e:Exit}{a:Act}{w':World}(hx:Ext E E1)(hf:Fr E w E1 w1)(h:bn B E1 w1 o e a w'):bn B E w o e a w':=by
 obtain⟨E',h1,h2,h3⟩:=h
 exact⟨E',hx.trans h1,hf.trans h2,h3⟩
structure Ctx.Ok[ab](C:Ctx):Prop where
 name : ∀ (f : FuncId) (fn : Func), C.P.funcs[f]? = some fn → fn.body.isSome = true → (fn.name == "runtime.NumGoroutine") = false
 kl:∀ (g:FuncId) (h:List AV→Option AV) (as:List AV) (r:AV),C.kl g=some h→h as=some r→∀ (Ec:Env) (w:World) (vs:List Value),Inv Ec [] w→an Ec false as vs →
  Calls C.P g vs.toArray w (bO Ec w [] (.val r))
 iM:∀ (g:FuncId) (h:List AV→Option (AV×af)) (as:List AV) (r:AV) (gX:af),C.iM g=some h→h as=some (r,gX) →
  ∀ (Ec:Env) (w:World) (vs:List Value),Inv Ec [] w→an Ec false as vs →
    Calls C.P g vs.toArray w (fun en w'=>∃ r' Pd,bO Ec w Pd (.val r') en w'∧∀ nm,fK nm r' Pd=fK nm r gX)
 AO:∀ (g:FuncId) (h:List AV→Option (AV×af)),C.iM g=some h→∃ fn:Func,C.P.funcs[g]?=some fn∧fn.body.isSome=true
 qT:∀ (g:FuncId) (h:List AV→RM di) (args:List AV) (hp:af) (e:di),C.qT g=some h→(h args).run hp=some e→(∃ fn:Func,C.P.funcs[g]?=some fn∧fn.body.isSome=true) ∧
  ∀ (E:Env) (w:World) (vs:List Value),Inv E hp w→an E true args vs→Calls C.P g vs.toArray w (bO E w (ak hp e.wr) (.val e.val))
 Ey:∀ (g:FuncId) (h:List AV→Option AV),C.kl g=some h→∃ fn:Func,C.P.funcs[g]?=some fn∧fn.body.isSome=true
def lA[ab](C:Ctx)(k:Nat):Prop:=
 ∀ f args hp res cq,lO C k f args hp=some (res,cq)→∀ (E:Env) (w:World) (vs:List Value),Inv E hp w→an E true args vs →
   Calls C.P f vs.toArray w (bO E w cq res)
def fo[ab](C:Ctx)(k:Nat):Prop:=
 ∀ c s o,bQ C k c s=some o→∀ (r:Option Nat) (B:oz),((r=B.lb∧B.rg=true)∨cx c=true)→∀ (E:Env) (a:Act) (w:World),cG B E s a w→c.wpIn (WF r) 0 C.P (bn B E w o) a w
def lB[ab](P:Program)(step:Oper→St→Option Out):Prop:=
 ∀ (o:Oper) (s:St) (r:Out),step o s=some r→∀ (rd:Option Nat) (B:oz) (E:Env) (a:Act) (w:World) (K:Act→World→Prop) (Q:Exit→Act→World→Prop),cG B E s a w →
   (∀ s',r=.norm s'→∀ E' a' w',Ext E E'→Fr E w E' w'→cG B E' s' a' w'→K a' w') →
   (∀ v s',r=.jJ v s'→∀ E' w' u,Ext E E'→Fr E w E' w'→Inv E' s'.hp w'→ai E' true v u→Q (.panic [{ v:=u,recovered:=false }]) a w') →
   o.wpIn (WF rd) 0 P a w K Q
def uj[ab](C:Ctx)(k:Nat):Prop:=
 ∀ g args hp res wr,(kT C k g args).run hp=some (res,wr)→∀ (E:Env) (w:World) (vs:List Value),Inv E hp w→an E true args vs →
   Calls C.P g vs.toArray w (bO E w (ak hp wr) res)
theorem qk[ab]{P:Program}{step:Oper→St→Option Out}(dF:lB P step)(tf:∀ o s r,step o s=some r→(∃ s',r=.norm s')∨∃ v s',r=.jJ v s')
  {ops:Array Oper} (rd:Option Nat) (B:oz):∀ (l:List Oper) (s:St) (o:Out),cE step ops l s=some o→∀ (E0 E:Env) (a:Act) (w0 w:World),Ext E0 E→Fr E0 w0 E w→cG B E s a w →
    wpListIn (WF rd) 0 P ops (bn B E0 w0 o) l a w
 |[],s,o,h,E0,E,a,w0,w,hx,hf,hs=>by
  simp only[cE,Option.some.injEq]at h
  subst h
  exact⟨E,hx,hf,hs⟩
 |p::r,s,o,h,E0,E,a,w0,w,hx,hf,hs=>by
  simp only[cE]at h
  unfold wpListIn
  split at h
  ·simp at h
  ·rename_i hw
   rw[kW hs.fr hw]
   simp only[Bool.false_eq_true,if_false]
   exact⟨fun _ _=>trivial,qk dF tf rd B r _ o h E0 E _ w0 w hx hf ⟨gh hs.fr (by simp[ai]),hs.inv,by rw[put_defers]; exact hs.df,hs.bs⟩⟩
  ·rename_i hw
   rw[kW hs.fr hw]
   simp only[if_true]
   cases hq:step p s with
   |none=>rw[hq]at h; simp at h
   |some q=>
    rw[hq]at h
    refine dF p s q hq rd B E a w _ _ hs (fun s' e E' a' w' gb FK eV=>?_) (fun v s' e E' w' u gb FK hY hr=>?_)
    ·subst e
     exact qk dF tf rd B r s' o h E0 E' a' w0 w' (hx.trans gb) (hf.trans FK) eV
    ·subst e
     simp only[Option.some.injEq]at h
     subst h
     exact⟨E',hx.trans gb,hf.trans FK,u,rfl,hr,hY,hs.df.mono FK⟩
theorem eT[ab]{P:Program}{E:Env}{w:World}{fv:AV}{f:Value}{args vw:List AV}{vs:List Value}{g:FuncId}(hf:ai E true fv f)(ha:an E true args vs)
  (h : bA fv args = some (g, vw)) (qM : ∃ fn : Func, P.funcs[g]? = some fn ∧ fn.body.isSome = true ∧ (fn.name == "runtime.NumGoroutine") = false) :
  ∃ vs':List Value,an E true vw vs'∧(do let d ←Deferred.ofValue f vs.toArray; invoke d.target d.args:Sem Next).run P w=.ok (.enter g vs'.toArray) w:=by
 obtain⟨fn,h1,h2,h3⟩:=qM
 have hb:fn.body.isNone=false:=by cases hq:fn.body<;>simp_all
 have run:∀ (first captured:List Value),f=.func (.func g) first.toArray captured.toArray →
   (do let d ←Deferred.ofValue f vs.toArray; invoke d.target d.args:Sem Next).run P w=.ok (.enter g (first++vs++captured).toArray) w:=by
  intro first captured hv
  subst hv
  simp only[Deferred.ofValue,Sem.run_bind,Sem.run_pure,Result.andThen_ok,invoke,callFunc,run_program,h1,h3,hb,Bool.false_eq_true,if_false]
  simp
 cases fv with
 |lit u=>
  cases u with
  |func UI first captured=>
   cases UI with
   |func g'=>
    simp only[bA,Option.some.injEq,Prod.mk.injEq]at h
    obtain⟨rfl,rfl⟩:=h
    simp only[ai]at hf
    exact⟨first.toList++vs++captured.toList,((an.lits _).append ha).append (an.lits _),run _ _ (by simpa using hf)⟩
   |_=>simp[bA]at h
  |_=>simp[bA]at h
 |iK UI first captured=>
  cases UI with
  |func g'=>
   simp only[bA,Option.some.injEq,Prod.mk.injEq]at h
   obtain⟨rfl,rfl⟩:=h
   simp only[ai]at hf
   obtain⟨fv,cv,hv,rH,iw⟩:=hf
   exact⟨fv++vs++cv,(rH.append ha).append iw,run _ _ hv⟩
  |_=>simp[bA]at h
 |_=>simp[bA]at h
theorem Ez[ab]{P:Program}{E:Env}{hp:af}{w:World}{o:Oper}{ρ:Operand→Value}{e:di}(h:Step P E hp w (execOp ρ o) e)(r:Option Nat):o.semAt r ρ=execOp ρ o:=by
 refine Oper.semAt_eq r ρ o fun c hc=>?_
 obtain⟨E',w',v,hr,_⟩:=h
 have hd:(execOp ρ o).run P w=(do pure (.defer (←resolve ρ c o.type)):Sem Next).run P w:=by
  obtain⟨dst,op,type,pos,after,guard⟩:=o
  simp only at hc
  subst hc
  rfl
 unfold QT at hr
 rw[hd,Sem.run_bind]at hr
 cases cy:(resolve ρ c o.type).run P w with
 |ok d w1=>simp_all
 |halt x w1=>simp_all
theorem wz[ab]{P:Program}{B:oz}{rd:Option Nat}{E:Env}{s:St}{a:Act}{w:World}(_:cG B E s a w){o:Oper}{e:di}(h:Step P E s.hp w (execOp a.eval o) e)
  {K:Act→World→Prop} {Q:Exit→Act→World→Prop}
  (hK:∀ E' w' v,Ext E E'→Fr E w E' w'→Inv E' (ak s.hp e.wr) w'→ai E' true e.val v→K (a.put o.dst v) w'):o.wpIn (WF rd) 0 P a w K Q:=by
 have Pe:=Ez h (WF rd).round
 obtain⟨E',w',v,hr,hx,hI,hf,hv⟩:=h
 refine⟨fun _ _=>trivial,?_⟩
 rw[Pe]
 rcases hr with hr|⟨hr,rfl⟩
 ·rw[hr,Oper.uponIn_value]
  exact hK E' w' v hx hf hI hv
 ·rw[hr,Oper.uponIn_skip]
  exact hK E' w' undef hx hf hI hv
theorem wA{P:Program}{g:FuncId}{vs:Array Value}{w:World}{R:Ending→World→Prop}(h:Calls P g vs w R)(rd:Option Nat)(n:Nat):CallsIn (WF rd) n P g vs w R:=
 (callsIn_wide (n:=n)).2 h
theorem xv{P:Program}{rd:Option Nat}{a:Act}{w:World}{o:Oper}{c:Call}(ho:o.op=.call c){g:FuncId}{vs':List Value}(aU:(execOp a.eval o).run P w=.ok (.enter g vs'.toArray) w)
  {R:Ending→World→Prop} (gO:Calls P g vs'.toArray w R) {K:Act→World→Prop} {Q:Exit→Act→World→Prop}
  (h1:∀ v w',R (.returned v) w'→K (a.put o.dst v) w') (h2:∀ ch w',R (.panicked ch) w'→Q (.panic ch) a w') (h3:∀ w',¬R .outgrown w'):o.wpIn (WF rd) 0 P a w K Q:=by
 refine⟨fun _ _=>trivial,?_⟩
 rw[Oper.semAt_eq _ _ _ (by rw[ho]; intro c h; cases h),aU,Oper.uponIn_enter]
 refine⟨fun h=>by simp[WF,Fence.wide]at h,(wA gO rd _).mono fun e w' hR=>?_⟩
 cases e with
 |returned v=>exact h1 v w' hR
 |panicked ch=>exact h2 ch w' hR
 |outgrown=>exact(h3 w' hR).elim
theorem AP[ab]{P:Program}{E:Env}{w:World}{a:Act}{o:Oper}{rv:Operand}{name:String}{cQ:Array Operand}{lY:Array TypeId}(ho:o.op=.call ⟨.invoke rv name,cQ,lY⟩){v:AV}(hv:ai E true v (a.eval rv)){g:FuncId}{x:AV}
  {args : List AV} (ha : an E true args (cQ.toList.map a.eval)) (h : oX P v name = some (g, x)) (qM : ∃ fn : Func, P.funcs[g]? = some fn ∧ fn.body.isSome = true ∧ (fn.name == "runtime.NumGoroutine") = false) :
  ∃ vs':List Value,an E true (x::args) vs'∧(execOp a.eval o).run P w=.ok (.enter g vs'.toArray) w:=by
 obtain⟨fn,f1,f2,f3⟩:=qM
 have hb:fn.body.isNone=false:=by cases hq:fn.body<;>simp_all
 cases v with
 |fZ t y=>
  simp only[oX,Option.map_eq_some_iff,Prod.mk.injEq]at h
  obtain⟨f,hm,rfl,rfl⟩:=h
  simp only[ai]at hv
  obtain⟨u,hv,hu⟩:=hv
  refine⟨u::cQ.toList.map a.eval,by simp only[an]; exact⟨hu,ha⟩,?_⟩
  unfold Ak at hm
  split at hm
  case h_2=>simp at hm
  rename_i i d hi hd
  split at hm
  ·simp at hm
  ·rename_i m Rf UJ
   split at hm
   ·rename_i f' hp hf
    simp only[Option.some.injEq]at hm
    subst hm
    have Rg:m.path.toList=[]:=by simpa using hp
    have YH:0<Made.depth:=by decide
    obtain⟨n,hn⟩:∃ n,P.types.size+Made.depth=n+1:=⟨P.types.size+Made.depth-1,by omega⟩
    have Rh:(Go.method (P.types.size+Made.depth) t u name).run P w=.ok (f',u) w:=by
     rw[hn]
     unfold Go.method
     simp only[typeInfo,Sem.run_bind,run_program,Result.andThen_ok,hi,Sem.run_pure,Rf,Rg,follow,hf,receiverAt,underlying,hd]
     rfl
    have Qt:(callMethod (.iface t u) name (cQ.map a.eval)).run P w=.ok (.enter f' (#[u]++cQ.map a.eval)) w:=by
     simp only[callMethod,Sem.run_bind,run_program,Result.andThen_ok,Rh,callFunc,f1,f3,hb,Bool.false_eq_true,if_false,Sem.run_pure]
    have h0:(#[Value.iface t u]++cQ.map a.eval)[0]?=some (Value.iface t u):=by rw[←Array.getElem?_toList]; simp
    have h1:(#[Value.iface t u]++cQ.map a.eval).extract 1 (#[Value.iface t u]++cQ.map a.eval).size=cQ.map a.eval:=by
     apply Array.ext'
     simp
     exact List.take_of_length_le (by simp)
    simp only[execOp,ho,resolve,Sem.run_bind,Sem.run_pure,Result.andThen_ok,hv,invoke,h0,h1,Qt]
    rw[show (#[u]++cQ.map a.eval)=(u::cQ.toList.map a.eval).toArray by apply Array.ext'; simp]
   ·simp at hm
  ·simp at hm
 |_=>simp[oX]at h
theorem ql{P:Program}{rd:Option Nat}{a:Act}{w:World}{o:Oper}{c:Call}{f:Operand}(ho:o.op=.call c)(hc:c.callee=.value f){g:FuncId}{vs':List Value}
  (aU:(do let d ←Deferred.ofValue (a.eval f) (c.args.toList.map a.eval).toArray; invoke d.target d.args:Sem Next).run P w=.ok (.enter g vs'.toArray) w)
  {R:Ending→World→Prop} (gO:Calls P g vs'.toArray w R) {K:Act→World→Prop} {Q:Exit→Act→World→Prop}
  (h1:∀ v w',R (.returned v) w'→K (a.put o.dst v) w') (h2:∀ ch w',R (.panicked ch) w'→Q (.panic ch) a w') (h3:∀ w',¬R .outgrown w'):o.wpIn (WF rd) 0 P a w K Q:=by
 refine⟨fun _ _=>trivial,?_⟩
 rw[Oper.semAt_eq _ _ _ (by rw[ho]; intro c h; cases h)]
 have:(execOp a.eval o).run P w=.ok (.enter g vs'.toArray) w:=by
  simp only[execOp,ho,resolve,hc]
  rw[←aU]
  congr 3
  rw[←Array.toList_map]
 rw[this,Oper.uponIn_enter]
 refine⟨fun h=>by simp[WF,Fence.wide]at h,(wA gO rd _).mono fun e w' hR=>?_⟩
 cases e with
 |returned v=>exact h1 v w' hR
 |panicked ch=>exact h2 ch w' hR
 |outgrown=>exact(h3 w' hR).elim
theorem JH[ab]{E:Env}{hp:af}{w w':World}(hI:Inv E hp w)(fD:∀ b,E.own b∨(E.m b).isSome=true→w'.heap[b]?=w.heap[b]?)(kF:w.heap.size≤w'.heap.size):Inv E hp w':=by
 have eQ:∀ n o,hp[n]?=some (some o)→∀ b,cb E hp n b→E.own b∨(E.m b).isSome=true:=by
  rintro n o ho b ⟨o',l,cZ,hl,hb⟩
  rw[ho]at cZ
  cases cZ
  have h:=hI.objs n o ho
  cases o with
  |arr g cl fz es=>
   obtain⟨l',jl,_,hm⟩:=h
   simp only at hl
   rw[hl]at jl; cases jl
   rw[hb]at hm
   obtain⟨c,T,_,hif,_⟩:=hm
   cases fz with
   |true=>simp_all
   |false=>simp_all
  |ga k vs=>
   obtain⟨l',b',Tp,us,h1,h2,h3,h4,h5,_⟩:=h
   simp only at hl
   rw[hl]at h1; cases h1
   rw[hb]at h2; cases h2
   exact .inl h5
 refine⟨hI.len,fun n o hn=>(hI.objs n o hn).other hn fun b hb=>fD b (eQ n o hn b hb),hI.free,hI.inj,fun b c h=>?_,fun b h=>Nat.lt_of_lt_of_le (hI.oI b h) kF,hI.jk⟩
 obtain⟨T,fz,hw⟩:=hI.mem b c h
 exact⟨T,fz,by rw[fD b (.inr (by rw[h]; rfl))]; exact hw⟩
theorem vz{F:Fence}{n:Nat}{P:Program}{fn:Func}{tmps:Array Value}{R:Ending→World→Prop}{u:FrameMode}{tl:List Deferred}(hu:u≠.run):∀ (rs:List Nat) (w:World),rs.Nodup→(∀ r∈rs,w.heap[r]?=some (.deferred (some []))) →
  (∀ w',w'.heap.size=w.heap.size→w'.os=w.os→w'.tape=w.tape→w'.output=w.output→(∀ b,b∉rs→w'.heap[b]?=w.heap[b]?)→LeavesInM F n P fn tmps R tl u w') →
  LeavesInM F n P fn tmps R ((rs.map fun r=>{ target:=.collected r,args:=#[] })++tl) u w
 |[],w,_,_,h=>h w rfl rfl rfl rfl (fun _ _=>rfl)
 |r::rs,w,hn,hr,h=>by
  rw[List.nodup_cons]at hn
  refine⟨hu,.inl ⟨r,w.putObj r (.deferred none),rfl,run_takeDeferred (hr r (by simp)),?_⟩⟩
  refine vz hu rs _ hn.2 (fun r' h'=>?_) fun w' h1 h2 h3 h4 h5=>?_
  ·have dK:r'≠r:=by rintro rfl; exact hn.1 h'
   rw[World.putObj_heap_other dK]
   exact hr r' (by simp[h'])
  ·refine h w' (by rw[h1]; simp) h2 h3 h4 fun b hb=>?_
   simp only[List.mem_cons,not_or]at hb
   rw[h5 b hb.2,World.putObj_heap_other hb.1]
theorem iX[ab]{P:Program}{fn:Func}{tmps:Array Value}{R:Ending→World→Prop}{E0 E:Env}{w0 w:World}{hp:af}{ds:List Deferred}{u:FrameMode}{B:oz}(hB:B.n=w0.heap.size)(hI:Inv E hp w)(hm:Marks B E w ds)
  (hf:Fr E0 w0 E w) (hu:u≠.run) (h:∀ w',Inv E hp w'→Fr E0 w0 E w'→LeavesInM Fence.wide 0 P fn tmps R B.tl u w'):LeavesInM Fence.wide 0 P fn tmps R ds u w:=by
 obtain⟨rs,rfl,zD,_,NY⟩:=hm
 refine vz hu rs w zD (fun r hr=>(NY r hr).2.2) fun w' h1 h2 h3 h4 h5=>h w' ?_ ?_
 ·refine JH hI (fun b hb=>h5 b fun hr=>?_) (by omega)
  obtain⟨_,a2,a3⟩:=NY b hr
  rcases hb with hb|hb
  ·exact a2 hb
  ·cases OY:E.m b with
   |none=>rw[OY]at hb; simp at hb
   |some c=>obtain⟨T,fz,h6⟩:=hI.mem b c OY; rw[a3]at h6; cases h6
 ·refine⟨h2.trans hf.os,h3.trans hf.tape,h4.trans hf.out,by rw[h1]; exact hf.size,fun b hb ho=>?_,hf.own,hf.m,fun b r hr=>?_⟩
  ·rw[h5 b fun hr=>?_]
   ·exact hf.same b hb ho
   ·have:=(NY b hr).1; omega
  ·obtain⟨r',ld⟩:=hf.lp b r hr
   exact⟨r',by rw[h5 b fun hm=>by rw[(NY b hm).2.2]at ld; cases ld]; exact ld⟩
theorem uk[ab]{C:Ctx}{k:Nat}{f:FuncId}{args:List AV}{hp:af}{r:nC×af}(h:lO C k f args hp=some r):
  ∃ fn:Func,C.P.funcs[f]?=some fn∧fn.body.isSome=true:=by
 cases k with
 |zero=>simp[lO]at h
 |succ k=>
  simp only[lO]at h
  split at h
  ·simp at h
  rename_i fn qM
  split at h
  ·simp at h
  rename_i c hc
  exact⟨fn,qM,by rw[hc]; rfl⟩
theorem AQ[ab]{C:Ctx}{k:Nat}(hC:fo C k){f:FuncId}{args:List AV}{hp:af}{res:nC}{cq:af}{fn:Func}{c:Code}(qM:C.P.funcs[f]?=some fn)(hc:fn.body=some c){E:Env}{w:World}{vs:List Value}(hI:Inv E hp w)(ha:an E true args vs)
  (h:(match bQ C k c ⟨f,args++List.replicate (fn.ntmps-args.length) .undef,hp⟩ with
    |some (.norm s)|some (.ret s)=>
     match (aR C.P s.fr fn.results.toList).run s.hp with
     |some l=>some (nC.val (cB l),s.hp)
     |none=>none
    |some (.jJ v s)=>some (.jJ v,s.hp)
    |_=>none)=some (res,cq)):Calls C.P f vs.toArray w (bO E w cq res):=by
 have hlen:=ha.length
 have hs:cG ⟨w.heap.size,[],true,none⟩ E ⟨f,args++List.replicate (fn.ntmps-args.length) .undef,hp⟩ { tmps:=vs.toArray++Array.replicate (fn.ntmps-vs.toArray.size) undef,defers:=[] } w:=by
  refine⟨?_,hI,Marks.nil,Nat.le_refl _⟩
  simp only[Array.toList_append,Array.toList_replicate,List.size_toArray,←hlen]
  refine ha.append ?_
  have:=an.lits (E:=E) (o:=true) (List.replicate (fn.ntmps-args.length) undef)
  simpa using this
 have ret:∀ s',((bQ C k c ⟨f,args++List.replicate (fn.ntmps-args.length) .undef,hp⟩=some (.norm s')) ∨
   (bQ C k c ⟨f,args++List.replicate (fn.ntmps-args.length) .undef,hp⟩=some (.ret s'))) →
   (match (aR C.P s'.fr fn.results.toList).run s'.hp with|some l=>some (nC.val (cB l),s'.hp)|none=>none)=some (res,cq) →
   Calls C.P f vs.toArray w (bO E w cq res):=by
  intro s' bE hr
  split at hr
  case h_2=>simp at hr
  rename_i l hl
  simp only[Option.some.injEq,Prod.mk.injEq]at hr
  obtain⟨rfl,rfl⟩:=hr
  have fin:∀ E' a' w',Ext E E'→Fr E w E' w'→cG ⟨w.heap.size,[],true,none⟩ E' s' a' w'→LeavesInM Fence.wide 0 C.P fn a'.tmps (bO E w s'.hp (.val (cB l))) a'.defers .returning w':=by
   intro E' a' w' hx hf eV
   refine iX rfl eV.inv eV.df hf (by simp) fun w2 qg iw=>?_
   obtain⟨v,h1,h2⟩:=rF qg eV.fr hl
   exact⟨v,h1,E',hx,qg,iw,h2⟩
  refine callsIn_wide.1 (callsIn_of_wp_marks (F:=Fence.wide) (n:=0) qM hc trivial ?_)
  rcases bE with bE|bE
  ·refine wpIn_mono (hC c _ _ bE none _ (.inl ⟨rfl,rfl⟩) E _ w hs) fun e a' w' cW=>?_
   obtain⟨E',hx,hf,ho⟩:=cW
   cases e with
   |normal=>exact fin E' a' w' hx hf ho
   |_=>exact ho.elim
  ·refine wpIn_mono (hC c _ _ bE none _ (.inl ⟨rfl,rfl⟩) E _ w hs) fun e a' w' cW=>?_
   obtain⟨E',hx,hf,ho⟩:=cW
   cases e with
   |ret=>exact fin E' a' w' hx hf ho
   |_=>exact ho.elim
 split at h
 ·grind
 ·grind
 ·rename_i v s' bE
  simp only[Option.some.injEq,Prod.mk.injEq]at h
  obtain⟨rfl,rfl⟩:=h
  refine callsIn_wide.1 (callsIn_of_wp_marks (F:=Fence.wide) (n:=0) qM hc trivial (wpIn_mono (hC c _ _ bE none _ (.inl ⟨rfl,rfl⟩) E _ w hs) fun e a' w' cW=>?_))
  obtain⟨E',hx,hf,ho⟩:=cW
  cases e with
  |panic ch=>
   obtain⟨u,h1,h2,h3,h4⟩:=ho
   exact iX rfl h3 h4 hf (by simp) fun w2 qg iw=>⟨E',hx,qg,iw,u,h1,h2⟩
  |_=>exact ho.elim
 ·simp at h
theorem Cc[ab]{C:Ctx}(bL:C.Ok){k:Nat}(hF:lA C k):uj C (k+1):=by
 intro g args hp res wr h E w vs hI ha
 simp only[kT,RM.run_bind]at h
 cases hq:(aM 1000 args).run hp with
 |none=>rw[hq]at h; simp at h
 |some as=>
  rw[hq]at h
  simp only[Option.bind_some]at h
  split at h
  ·rename_i hf hh
   split at h
   case h_2=>simp[RM.ae]at h
   rename_i r hr
   exact uh hI ha hq h fun Ec h1 h2=>bL.kl g hf as r hh hr Ec w vs h1 h2
  ·split at h
   case h_2=>simp[RM.ae]at h
   rename_i r gX hr
   exact uh hI ha hq h fun Ec h1 h2=>hF g as [] r gX hr Ec w vs h1 h2.ik
theorem zE[ab]{C:Ctx}(bL:C.Ok){k:Nat}{g:FuncId}{args:List AV}{hp:af}{nm:Nat}{e:di}(h:(gZ C (fun as=>lO C k g as []) nm g args).run hp=some e):
  ∃ fn : Func, C.P.funcs[g]? = some fn ∧ fn.body.isSome = true ∧ (fn.name == "runtime.NumGoroutine") = false := by
 unfold gZ at h
 rw[RM.run_bind]at h
 cases hs:(aM 1000 args).run hp with
 |none=>rw[hs]at h; simp at h
 |some as=>
  rw[hs]at h
  simp only[Option.bind_some]at h
  split at h
  ·rename_i hh hi
   obtain⟨fn,h1,h2⟩:=bL.AO g hh hi
   exact⟨fn,h1,h2,bL.name g fn h1 h2⟩
  ·split at h
   ·rename_i r gX hq
    obtain⟨fn,h1,h2⟩:=uk hq
    exact⟨fn,h1,h2,bL.name g fn h1 h2⟩
   ·simp[RM.ae]at h
theorem zG[ab]{C:Ctx}(bL:C.Ok){k:Nat}(hF:lA C k){E:Env}{hp:af}{w:World}(hI:Inv E hp w){nm:Nat}(nJ:nm=hp.length∨hp[nm]?=some none)
  {g:FuncId} {args:List AV} {vs:List Value} (ha:an E true args vs) {e:di} (h:(gZ C (fun as=>lO C k g as []) nm g args).run hp=some e) :
  Calls C.P g vs.toArray w (F4 E w hp e):=by
 unfold gZ at h
 rw[RM.run_bind]at h
 cases hs:(aM 1000 args).run hp with
 |none=>rw[hs]at h; simp at h
 |some as=>
  rw[hs]at h
  simp only[Option.bind_some]at h
  have ng:=(qe hI (N:=fun _=>True) 1000).2 args as vs wv hs ha
  split at h
  ·rename_i hh hi
   split at h
   ·rename_i q hq
    exact(bL.iM g hh as q.1 q.2 hi hq _ w vs (nd hI _) ng).mono fun en w' hp=>by
     obtain⟨r',Pd,h1,h2⟩:=hp
     rw[←h2]at h
     exact F5 hI nJ h (fun b hb=>hb) h1
   ·simp[RM.ae]at h
  ·split at h
   ·rename_i r gX hq
    exact(hF g as [] _ gX hq _ w vs (nd hI _) ng.ik).mono fun en w' hp=>F5 hI nJ h (fun b hb=>hb) hp
   ·simp[RM.ae]at h
theorem AR[ab]{C:Ctx}(bL:C.Ok){k:Nat}{g:FuncId}{args:List AV}{hp:af}{r:nC×List (Nat×aL)}(h:(kT C k g args).run hp=some r):
  ∃ fn : Func, C.P.funcs[g]? = some fn ∧ fn.body.isSome = true ∧ (fn.name == "runtime.NumGoroutine") = false := by
 have:∃ fn:Func,C.P.funcs[g]?=some fn∧fn.body.isSome=true:=by
  cases k with
  |zero=>simp[kT,RM.ae]at h
  |succ k=>
   simp only[kT,RM.run_bind]at h
   cases hq:(aM 1000 args).run hp with
   |none=>rw[hq]at h; simp at h
   |some as=>
    rw[hq]at h
    simp only[Option.bind_some]at h
    split at h
    ·rename_i hf hh; exact bL.Ey g hf hh
    ·split at h
     case h_2=>simp[RM.ae]at h
     rename_i r gX hr
     exact uk hr
 obtain⟨fn,h1,h2⟩:=this
 exact⟨fn,h1,h2,bL.name g fn h1 h2⟩
theorem pz[ab]{E E':Env}{hp cq:af}{w w':World}(hI:Inv E hp w)(hx:Ext E E')(hY:Inv E' cq w')(hf:Fr E w E' w'){r:AV}{v:Value}(hr:ai E' true r v):
  ∃ E2,Ext E E2∧Inv E2 (gE hp.length r cq) w'∧Fr E w E2 w'∧ai E2 true r v:=by
 unfold gE
 split
 ·rename_i hc
  simp only[Bool.and_eq_true]at hc
  have hle:hp.length≤cq.length:=by rw[hI.len,hY.len]; exact hx.L
  obtain⟨h1,h2,h3⟩:=te hY hle hc.2
  refine⟨E'.lower hp.length,⟨hx.m,fun n hn aq l h=>hx.ρ n hn aq l h,by simp[Env.lower,hI.len]⟩,h1,hf.trans h2,ai.down h3 hc.1 hr⟩
 ·exact⟨E',hx,hY,hf,hr⟩
theorem F7[ab]{E:Env}{hp:af}{w:World}(hI:Inv E hp w){esz:Nat}:
  ∃ E',Ext E E'∧Inv E' (hp++[some (.arr true true false [])]) w∧Fr E w E' w∧ai E' true (.bp esz hp.length 0 0 0 none) (.slice none 0 0):=by
 let E':Env:={ ρ:=fun n aq=>if n=hp.length then (if aq=0 then some ⟨none,esz,0⟩ else none) else E.ρ n aq,m:=E.m,L:=E.L+1,own:=E.own }
 have hx:Ext E E':=⟨fun _ _ h=>h,fun n hn aq l h=>by
  have:n≠hp.length:=by rw[hI.len]; omega
  simp[E',this,h],by simp[E']⟩
 have db:∀ n,n≠hp.length→∀ aq,E'.ρ n aq=E.ρ n aq:=fun n hn aq=>by simp[E',hn]
 have na:∀ n o,n≠hp.length→(hp++[some (.arr true true false [])])[n]?=some o→hp[n]?=some o:=by
  intro n o hn h
  rw[List.getElem?_append]at h
  split at h
  ·exact h
  ·rw[List.getElem?_eq_none (by simp; omega)]at h; simp at h
 have eQ:∀ n b,cb E' (hp++[some (.arr true true false [])]) n b→cb E hp n b:=by
  rintro n b ⟨o,l,ho,hl,hb⟩
  by_cases e:n=hp.length
  ·subst e
   simp at ho
   subst ho
   simp[E']at hl
   subst hl
   simp at hb
  ·refine⟨o,l,na n _ e ho,?_,hb⟩
   cases o with
   |arr=>simpa only[db n e] using hl
   |ga=>simpa only[db n e] using hl
 refine⟨E',hx,⟨by simp[E',hI.len],?_,?_,fun n1 n2 b h1 h2=>hI.inj n1 n2 b (eQ _ _ h1) (eQ _ _ h2),hI.mem,hI.oI,hI.jk⟩,
  ⟨rfl,rfl,rfl,Nat.le_refl _,fun _ _ _=>rfl,fun _ h=>.inl h,fun _ _ h=>.inl h,fun _ r h=>⟨r,h⟩⟩,?_⟩
 ·intro n o ho
  by_cases e:n=hp.length
  ·subst e
   simp at ho
   subst ho
   refine⟨⟨none,esz,0⟩,by simp[E'],fun aq l' h=>?_,rfl,rfl⟩
   simp[E']at h
   simp[h.1]
  ·have cZ:=na n _ e ho
   have h:=hI.objs n o cZ
   cases o with
   |arr g cl fz es=>
    obtain⟨l,hl,hv,hm⟩:=h
    refine⟨l,by rw[db n e]; exact hl,fun aq l' h=>hv aq l' (by rw[db n e]at h; exact h),?_⟩
    cases hb:l.kB with
    |none=>rw[hb]at hm; exact hm
    |some b=>
     rw[hb]at hm
     obtain⟨c,T,a1,a2,a3,a4,a5,a6,a7⟩:=hm
     exact⟨c,T,a1,a2,a3,a4,a5,a6,fun i x gb=>by obtain⟨v,jM,fj⟩:=a7 i x gb; exact⟨v,jM.mono hx,fj⟩⟩
   |ga k L9=>
    obtain⟨l,b,es,clock,a1,a2,a3,a4,a5,a6,a7,a8⟩:=h
    exact⟨l,b,es,clock,by rw[db n e]; exact a1,a2,a3,a4,a5,fun aq l' h=>a6 aq l' (by rw[db n e]at h; exact h),a7,a8.mono hx⟩
 ·intro n aq h
  by_cases e:n=hp.length
  ·subst e; simp at h
  ·rw[db n e]; exact hI.free n aq (na n _ e h)
 ·simp only[ai]
  refine⟨trivial,?_,⟨none,esz,0⟩,by simp[E'],rfl,by simp,?_⟩
  ·show hp.length<E.L+1
   rw[hI.len]; omega
  ·simp
theorem gQ{α:Type}{l:List α}{n:Nat}{x:α}(h:l[n]?=some x):l.set n x=l:=by
 apply List.ext_getElem?
 intro m
 by_cases hm:n=m
 ·grind
 ·rw[List.getElem?_set_ne hm]
theorem vA[ab]{E E':Env}(hx:Ext E E'){esz j nm:Nat}(nJ:ai E' true (.bp esz nm 0 0 0 none) (.slice none 0 0)){e e':AV}{v:Value}(hr:ai E true e v)(h:kD esz j nm e=some e'):ai E' true e' v:=by
 unfold kD at h
 split at h
 ·rename_i l
  split at h
  case h_2=>simp at h
  rename_i hl
  simp only[Option.some.injEq]at h
  subst h
  simp only[ai]at hr
  obtain⟨c,rfl,hc⟩:=hr
  obtain⟨v,hv,Xj,YI⟩:=hc.get hl
  simp only[ai]at Xj
  subst Xj
  have:=(hc.mono hx).set j nJ YI
  rw[gQ hv]at this
  simp only[ai]
  exact⟨c,rfl,this⟩
 ·grind[ai]
 ·simp at h
theorem rI[ab]{E:Env}{hp:af}{w:World}(hI:Inv E hp w){n i:Nat}{g c f:Bool}{es:List AV}{e e':AV}(ho:hp[n]?=some (some (.arr g c f es)))(hi:es[i]?=some e)
  (hr:∀ v,ai E true e v→ai E true e' v):Inv E (hp.set n (some (.arr g false f (es.set i e')))) w:=by
 have hn:=(List.getElem?_eq_some_iff.1 ho).1
 have na:∀ m o,(hp.set n (some (.arr g false f (es.set i e'))))[m]?=some o→m=n∧o=some (.arr g false f (es.set i e'))∨m≠n∧hp[m]?=some o:=by
  grind
 have eQ:∀ m b,cb E (hp.set n (some (.arr g false f (es.set i e')))) m b→cb E hp m b:=by
  rintro m b ⟨o,l,h1,h2,h3⟩
  rcases na m _ h1 with ⟨rfl,h5⟩|⟨_,h5⟩
  ·cases h5
   exact⟨_,l,ho,by simpa using h2,h3⟩
  ·exact⟨o,l,h5,h2,h3⟩
 refine⟨by rw[List.length_set]; exact hI.len,fun m o h=>?_,fun m aq h=>?_,fun m m' b h1 h2=>hI.inj m m' b (eQ _ _ h1) (eQ _ _ h2),hI.mem,hI.oI,hI.jk⟩
 ·rcases na m _ h with ⟨rfl,h5⟩|⟨_,h5⟩
  ·cases h5
   obtain⟨l,h1,h2,h3⟩:=hI.objs _ _ ho
   refine⟨l,by simpa using h1,fun aq l' h=>by simpa using h2 aq l' h,?_⟩
   cases hb:l.kB with
   |none=>
    rw[hb]at h3
    obtain⟨rfl,rfl⟩:=h3
    simp at hi
   |some b=>
    rw[hb]at h3
    obtain⟨c',T,a1,a2,a3,a4,a5,a6,a7⟩:=h3
    refine⟨c',T,a1,a2,a3,a4,by simpa using a5,fun h=>by simpa using a6 h,fun k x hx=>?_⟩
    by_cases hk:k=i
    ·subst hk
     rw[List.getElem?_set_self (List.getElem?_eq_some_iff.1 hi).1]at hx
     simp only[Option.some.injEq]at hx
     subst hx
     obtain⟨v,hv,fj⟩:=a7 _ _ hi
     exact⟨v,by simpa using hr v hv.An,fj⟩
    ·rw[List.getElem?_set_ne (Ne.symm hk)]at hx
     obtain⟨v,hv,fj⟩:=a7 _ _ hx
     exact⟨v,by simpa using hv.An,fj⟩
  ·exact hI.objs m o h5
 ·rcases na m _ h with ⟨rfl,h5⟩|⟨_,h5⟩
  ·cases h5
  ·exact hI.free m aq h5
theorem AU[ab]{E:Env}{j:Nat}{e e':AV}(h:sD j e=some e')(v:Value)(hr:ai E true e v):ai E true e' v:=by
 unfold sD at h
 split at h
 case h_2=>simp at h
 rename_i l
 split at h
 case h_2=>simp at h
 rename_i hj
 simp only[Option.some.injEq]at h
 subst h
 simp only[ai]at hr ⊢
 obtain⟨c,rfl,hc⟩:=hr
 refine⟨c,rfl,?_⟩
 have YJ:j<l.length:=by simpa using hj
 obtain⟨u,hu,_⟩:=hc.FB.get (List.getElem?_eq_getElem YJ)
 have:=hc.set j (x:=.any) (v:=u) (by simp[ai]) (hc.leaf u (List.mem_iff_getElem?.2 ⟨j,hu⟩))
 rw[gQ hu]at this
 exact this
theorem EA[ab]{B:oz}{E:Env}{s:St}{a:Act}{w:World}(hs:cG B E s a w)(d j:Nat):cG B E (lX s d j) a w:=by
 unfold lX
 split
 ·split
  ·rename_i ho
   split
   ·rename_i e' he
    obtain⟨e,LN,xw⟩:=Option.bind_eq_some_iff.1 he
    exact⟨hs.fr,rI hs.inv ho LN fun v hv=>AU xw v hv,hs.df,hs.bs⟩
   ·exact hs
  ·exact hs
 ·exact hs
theorem um[ab]{B:oz}{E:Env}{a:Act}{w:World}:∀ (l:List (Nat×Nat)) {s:St},cG B E s a w→cG B E (gC l s) a w
 |[],_,hs=>hs
 |(d,j)::r,_,hs=>um r (EA hs d j)
theorem Cd(s:St)(d j:Nat):(lX s d j).hp.length=s.hp.length:=by
 grind[lX]
theorem rJ:∀ (l:List (Nat×Nat)) (s:St),(gC l s).hp.length=s.hp.length
 |[],_=>rfl
 |(d,j)::r,s=>by
  simp only[gC]
  rw[rJ r,Cd]
theorem He[ab]{B:oz}{E:Env}{s:St}{a:Act}{w:World}(hs:cG B E s a w)(d:Tmp)(j esz:Nat):∃ E',Ext E E'∧Fr E w E' w∧cG B E' (oW d s j esz) a w:=by
 obtain⟨E',h1,h2,h3,h4⟩:=F7 (esz:=esz) hs.inv
 have same:∃ E',Ext E E'∧Fr E w E' w∧cG B E' s a w:=⟨E,Ext.refl E,Fr.refl E w,hs⟩
 unfold oW
 split
 ·rename_i n aq i k hd
  split
  ·rename_i g c f es ho
   split
   ·rename_i e' he
    obtain⟨e,LN,xw⟩:=Option.bind_eq_some_iff.1 he
    have hn:=(List.getElem?_eq_some_iff.1 ho).1
    have cZ:(s.hp++[some (aL.arr true true false [])])[n]?=some (some (.arr g c f es)):=by rw[List.getElem?_append_left hn]; exact ho
    obtain⟨l,sw,_,IP⟩:=hs.inv.objs _ _ ho
    cases hb:l.kB with
    |none=>
     simp_all
    |some b=>
     rw[hb]at IP
     obtain⟨c',T,a1,a2,a3,a4,a5,a6,a7⟩:=IP
     obtain⟨v0,Mh,_⟩:=a7 _ _ LN
     have UK:∀ v,ai E' true e v→ai E' true e' v:=fun v hv=>vA (Ext.refl E') h4 hv xw
     refine⟨E',h1,h3,⟨hs.fr.mono h1,?_,hs.df.mono h3,hs.bs⟩⟩
     have:=rI h2 cZ LN UK
     rw[List.set_append_left _ _ hn]at this
     exact this
   ·exact same
  ·exact same
 ·rename_i e _ hd
  split
  ·rename_i e' he
   obtain⟨v,hv,hr⟩:=hs.fr.get hd
   refine⟨E',h1,h3,⟨?_,h2,hs.df.mono h3,hs.bs⟩⟩
   have:=(hs.fr.mono h1).set d (vA h1 h4 hr he)
   rw[gQ hv]at this
   exact this
  ·exact same
 ·exact same
theorem F8[ab]{B:oz}{d:Tmp}{a:Act}{w:World}:∀ (l:List (Nat×Nat)) {E:Env} {s:St},cG B E s a w→∃ E',Ext E E'∧Fr E w E' w∧cG B E' (Iv d l s) a w
 |[],E,s,hs=>⟨E,Ext.refl E,Fr.refl E w,hs⟩
 |(j,esz)::r,E,s,hs=>by
  obtain⟨E1,h1,h2,h3⟩:=He hs d j esz
  obtain⟨E2,h4,h5,h6⟩:=F8 r h3
  exact⟨E2,h1.trans h4,h2.trans h5,h6⟩
theorem JI[ab]{B:oz}{l:Tmp→List (Nat×Nat)}{dst:Option Tmp}{a:Act}{w:World}{E:Env}{s:St}(hs:cG B E s a w):∃ E',Ext E E'∧Fr E w E' w∧cG B E' (BA l dst s) a w:=by
 cases dst with
 |none=>exact⟨E,Ext.refl E,Fr.refl E w,hs⟩
 |some d=>exact F8 _ hs
theorem iy{hp:af}{n:Nat}{st:kS}(h:hG hp n=some st):∃ fn ps as bd fr,hp[n]?=some (some (.ga (.loop fn ps as bd st) fr)):=by
 grind[hG]
theorem nS[ab]{E:Env}{hp:af}{w:World}(hI:Inv E hp w){n:Nat}{fn:FuncId}{ps:Array Tmp}{as bd:Code}{st:kS}{fr:List AV}(ho:hp[n]?=some (some (.ga (.loop fn ps as bd st) fr)))
  {l:Loc} {b:Nat} (hl:E.ρ n 0=some l) (hb:l.kB=some b) :
  ∃ r,w.heap[b]?=some (.loop r)∧r.params=ps∧r.assign=as∧r.body=bd∧st.is r.state r.pending∧an E true fr r.tmps.toList:=by
 obtain⟨l0,b0,ob,us,h1,h2,h3,h4,h5,h6,h7,h8⟩:=hI.objs n _ ho
 rw[hl]at h1; cases h1
 rw[hb]at h2; cases h2
 cases ob with
 |loop r=>
  obtain⟨a1,a2,a3,a4,a5⟩:=h7
  exact⟨r,h3,a1,a2,a3,a4,by rw[a5]; exact h8⟩
 |_=>exact h7.elim
theorem Ce[ab]{E:Env}{hp:af}{w:World}(hI:Inv E hp w){n:Nat}{fn:FuncId}{ps:Array Tmp}{as bd:Code}{st:kS}{fr:List AV}(ho:hp[n]?=some (some (.ga (.loop fn ps as bd st) fr)))
  {l:Loc} {b:Nat} (hl:E.ρ n 0=some l) (hb:l.kB=some b) {r:Loop} (hr:w.heap[b]?=some (.loop r)) {st':kS} {s':LoopState} {p':Option Code} (UL:st'.is s' p') :
  Inv E (ow hp n st') (w.putObj b (.loop { r with state:=s',pending:=p' }))∧Fr E w E (w.putObj b (.loop { r with state:=s',pending:=p' })):=by
 obtain⟨r',h1,h2,h3,h4,_,h6⟩:=nS hI ho hl hb
 rw[hr]at h1
 cases h1
 unfold ow
 rw[ho]
 exact wq hI ho hl hb (k':=.loop fn ps as bd st') (us':=r.tmps.toList) ⟨h2,h3,h4,UL,rfl⟩ h6 (fun _ _ _ _ _=>⟨_,rfl⟩)
theorem uo{E:Env}{u:List Nat}:∀ (i:Nat) (fr:List AV) (vs:List Value),an E true fr vs→an E true (mR u i fr) vs
 |_,[],[],h=>by simp[mR,an]
 |i,x::xs,v::vs,h=>by
  simp only[an]at h
  simp only[mR,an]
  refine⟨?_,uo (i+1) xs vs h.2⟩
  split
  ·exact h.1
  ·simp[ai]
 |_,[],_::_,h=>by simp[an]at h
 |_,_::_,[],h=>by simp[an]at h
theorem Cf{E:Env}:∀ (fr:List AV) (vs:List Value),an E true fr vs→an E true (fr.map fun _=>.any) vs
 |[],[],_=>by simp[an]
 |x::xs,v::vs,h=>by
  simp only[an]at h
  simp only[List.map_cons,an,ai]
  exact⟨trivial,Cf xs vs h.2⟩
 |[],_::_,h=>by simp[an]at h
 |_::_,[],h=>by simp[an]at h
theorem Cg[ab]{E:Env}{hp:af}{w:World}(hI:Inv E hp w){n:Nat}{fn:FuncId}{ps:Array Tmp}{as bd:Code}{st:kS}{fr:List AV}(ho:hp[n]?=some (some (.ga (.loop fn ps as bd st) fr)))
  {l:Loc} {b:Nat} (hl:E.ρ n 0=some l) (hb:l.kB=some b) {r:Loop} (hr:w.heap[b]?=some (.loop r)) {s':LoopState} {p':Option Code} :
  Inv E (qU hp n) (w.putObj b (.loop { r with state:=s',pending:=p' }))∧Fr E w E (w.putObj b (.loop { r with state:=s',pending:=p' })):=by
 obtain⟨r',h1,h2,h3,h4,_,h6⟩:=nS hI ho hl hb
 rw[hr]at h1
 cases h1
 unfold qU
 rw[ho]
 exact wq hI ho hl hb (k':=.loop fn ps as bd .gJ) (us':=r.tmps.toList) ⟨h2,h3,h4,trivial,rfl⟩ (Cf _ _ h6) (fun _ _ _ _ _=>⟨_,rfl⟩)
theorem vB{E:Env}:∀ (ps:List Tmp) (xs:List AV) (vs:List Value) (fr:List AV) (t:Array Value),an E true fr t.toList→an E true xs vs →
  an E true (fu fr ps xs) ((ps.zip vs).foldl (fun (t:Array Value) (q:Tmp×Value)=>t.setIfInBounds q.1 q.2) t).toList
 |[],xs,vs,fr,t,h,_=>by simpa[fu] using h
 |p::ps,[],[],fr,t,h,_=>by simpa[fu] using h
 |p::ps,x::xs,v::vs,fr,t,h,hx=>by
  simp only[an]at hx
  simp only[fu,List.zip_cons_cons,List.foldl_cons]
  refine vB ps xs vs _ _ ?_ hx.2
  rw[Array.toList_setIfInBounds]
  exact h.set p hx.1
 |p::ps,[],_::_,_,_,_,h=>by simp[an]at h
 |p::ps,_::_,[],_,_,_,h=>by simp[an]at h
theorem yL{P:Program}{a:Act}{w:World}{o:Oper}{c:Call}{f:Operand}(ho:o.op=.call c)(hc:c.callee=.value f){b:Nat}(hf:a.eval f=.func (.yield b) #[] #[])
  {r:Loop} (hr:w.heap[b]?=some (.loop r)) (hs:(c.args.map a.eval).size=r.params.size) :
  (execOp a.eval o).run P w=.ok (.round b r.fn ((r.params.zip (c.args.map a.eval)).foldl (fun tmps (t,a)=>tmps.setIfInBounds t a) r.tmps) r.assign r.body) w:=by
 have h1:(execOp a.eval o)=(do let d ←Deferred.ofValue (a.eval f) (c.args.map a.eval); invoke d.target d.args):=by
  simp only[execOp,ho,resolve,hc]
 rw[h1,hf]
 have h2:=run_yield (P:=P) (args:=c.args.map a.eval) hr hs
 simp only[Deferred.ofValue,Sem.run_bind,Sem.run_pure,Result.andThen_ok,invoke,Array.empty_append]
 exact h2
theorem JJ[ab]{C:Ctx}{k:Nat}(hC:fo C k){rd:Option Nat}{B:oz}{E:Env}{s:St}{a:Act}{w:World}(hs:cG B E s a w){n:Nat}{o:Oper}{c:Call}{f:Operand}(ho:o.op=.call c)(hc:c.callee=.value f)
  (hf:ay s.fr f=.mp true n) {r:Out} (aU:gF (fun c s=>bQ C k c s) n (c.args.toList.map (ay s.fr)) o.dst s=some r) {K:Act→World→Prop} {Q:Exit→Act→World→Prop}
  (hK:∀ s',r=.norm s'→∀ E' a' w',Ext E E'→Fr E w E' w'→cG B E' s' a' w'→K a' w'):o.wpIn (WF rd) 0 C.P a w K Q:=by
 unfold gF at aU
 split at aU
 case h_2=>simp at aU
 rename_i YK ps as bd fr EB
 split at aU
 case h_2=>simp at aU
 rename_i Hg
 have hlen:=of_decide_eq_true Hg
 have bE:=fun y=>gP hs.inv.jk hs.fr y
 have Ch:=bE f
 rw[hf]at Ch
 simp only[ai]at Ch
 obtain⟨_,G1,l,b,hl,hb,Ch⟩:=Ch
 obtain⟨r0,g1,g2,g3,g4,g5,g6⟩:=nS hs.inv EB hl hb
 have iV:=iU bE c.args.toList
 have kF:(c.args.map a.eval).size=r0.params.size:=by
  rw[g2,←hlen]
  simp
 refine⟨fun _ _=>trivial,?_⟩
 rw[Oper.semAt_eq _ _ _ (by rw[ho]; intro c h; cases h),yL ho hc Ch g1 kF,Oper.uponIn_round]
 refine⟨fun h=>by simp[WF,Fence.wide]at h,?_⟩
 rw[g3,g4]
 refine roundIn_of_wpIn trivial ?_
 have Ri:((r0.params.zip (c.args.map a.eval)).foldl (fun tmps (x:Tmp×Value)=>tmps.setIfInBounds x.1 x.2) r0.tmps)=((ps.toList.zip (c.args.toList.map a.eval)).foldl (fun (t:Array Value) (q:Tmp×Value)=>t.setIfInBounds q.1 q.2) r0.tmps):=by
  rw[←Array.foldl_toList,Array.toList_zip,g2,Array.toList_map]
 split at aU
 case h_2=>simp at aU
 rename_i s1 UM
 split at aU
 case h_2=>simp at aU
 rename_i UN
 have DQ:cG ⟨w.heap.size,[],true,some b⟩ E ⟨YK,fu fr ps.toList (c.args.toList.map (ay s.fr)),s.hp⟩ { tmps:=(r0.params.zip (c.args.map a.eval)).foldl (fun tmps (x:Tmp×Value)=>tmps.setIfInBounds x.1 x.2) r0.tmps,defers:=[] } w:=
  ⟨by rw[Ri]; exact vB _ _ _ _ _ g6 iV,hs.inv,Marks.UA g1,Nat.le_refl _⟩
 refine wpIn_mono (hC as _ _ UM (some b) _ (.inl ⟨rfl,rfl⟩) E _ w DQ) fun e a1 w1 hp=>?_
 obtain⟨E1,LU,rH,Hh⟩:=hp
 cases e with
 |normal=>
  have nh:cG ⟨w.heap.size,[],true,some b⟩ E1 s1 a1 w1:=Hh
  obtain⟨fn1,ps1,as1,bd1,fr1,Oa⟩:=iy UN
  have sw:=LU.ρ n G1 0 l hl
  obtain⟨r1,q1,q2,q3,q4,q5,q6⟩:=nS nh.inv Oa sw hb
  obtain⟨Qu,Jo⟩:=Ce nh.inv Oa sw hb q1 (st':=.busy) (s':=.busy) (p':=r1.pending) ⟨rfl,q5.2⟩
  refine⟨_,run_beginRound q1 q5.1,?_⟩
  have AE:cG ⟨w.heap.size,[],true,some b⟩ E1 { s1 with hp:=ow s1.hp n .busy } a1 (w1.putObj b (.loop { r1 with state:=.busy })):=
   ⟨nh.fr,Qu,nh.df.mono Jo,Nat.le_trans nh.bs Jo.size⟩
  have finish:∀ (s2:St) (bb:Bool) (st:kS) (j:Option Code) (E2:Env) (w2:World),bb=j.isNone→st.is (if j.isNone then .ready else .done) j→wO n o.dst s bb st s2.hp=some r→Ext E1 E2→Fr E1 (w1.putObj b (.loop { r1 with state:=.busy })) E2 w2→Inv E2 s2.hp w2 →
    ∃ v w',(Instr.endRound b j).run C.P w2=.ok v w'∧K (a.put o.dst v) w':=by
   intro s2 bb st j E2 w2 OP UL Ci ku iw qg
   unfold wO at Ci
   split at Ci
   case h_2=>simp at Ci
   rename_i UO
   simp only[Option.some.injEq]at Ci
   obtain⟨fn2,ps2,TA,bd2,fr2,Ob⟩:=iy UO
   have qV:=ku.ρ n (Nat.lt_of_lt_of_le G1 LU.L) 0 l sw
   obtain⟨r2,u1,_,_,_,u5,_⟩:=nS qg Ob qV hb
   obtain⟨c1,c2⟩:=Ce qg Ob qV hb u1 UL
   refine⟨_,_,run_endRound j u1,?_⟩
   have hx:=LU.trans ku
   have eO:=((rH.trans Jo).trans iw).trans c2
   obtain⟨E3,d1,d2,d3,d4⟩:=pz hs.inv hx c1 eO (r:=.lit (.bool bb)) (v:=.bool bb) (by simp[ai])
   subst OP
   exact hK _ Ci.symm E3 _ _ d1 d3 ⟨gh (hs.fr.mono d1) d4,d2,by rw[put_defers]; exact hs.df.mono d3,Nat.le_trans hs.bs d3.size⟩
  split at aU
  ·rename_i s2 JK
   refine wpIn_mono (hC bd _ _ JK (some b) _ (.inl ⟨rfl,rfl⟩) E1 _ _ AE) fun e a2 w2 hp=>?_
   obtain⟨E2,ku,iw,ui⟩:=hp
   cases e with
   |normal=>exact finish s2 true .ready none E2 w2 rfl ⟨rfl,rfl⟩ aU ku iw (cG.inv ui)
   |_=>exact ui.elim
  ·rename_i id s2 JK
   refine wpIn_mono (hC bd _ _ JK (some b) _ (.inl ⟨rfl,rfl⟩) E1 _ _ AE) fun e a2 w2 hp=>?_
   obtain⟨E2,ku,iw,ui⟩:=hp
   cases e with
   |exit j=>
    obtain⟨rfl,ui⟩:=ui
    exact finish s2 false (.jump (some id)) (some (.exit id)) E2 w2 rfl ⟨rfl,rfl⟩ aU ku iw ui.inv
   |_=>exact ui.elim
  ·rename_i s2 JK
   refine wpIn_mono (hC bd _ _ JK (some b) _ (.inl ⟨rfl,rfl⟩) E1 _ _ AE) fun e a2 w2 hp=>?_
   obtain⟨E2,ku,iw,ui⟩:=hp
   cases e with
   |ret=>exact finish s2 false (.jump none) (some .ret) E2 w2 rfl ⟨rfl,rfl⟩ aU ku iw (cG.inv ui)
   |_=>exact ui.elim
  ·simp at aU
 |_=>exact Hh.elim
theorem EC{run:Code→St→Option Out}{n:Nat}{args:List AV}{dst:Option Tmp}{s:St}{r:Out}(h:gF run n args dst s=some r):∃ s',r=.norm s':=by
 unfold gF at h
 repeat' split at h
 all_goals first
  |simp at h
  |(unfold wO at h
    split at h
    ·grind
    ·simp at h)
theorem Cj[ab]{C:Ctx}(bL:C.Ok){k:Nat}(hF:lA C k)(hP:uj C k)(hC:fo C k):lB C.P (fun o s=>fw C (k+1) o s):=by
 intro o s r h rd B E a w K Q hs hK hQ
 have bE:=fun x=>gP hs.inv.jk hs.fr x
 have TB:∀ (res:Option di),res=(aK C.P s.hp.length (ay s.fr) o).run s.hp →
   (match res with|some e=>some (Out.norm { s with fr:=bC s.fr o.dst e.val,hp:=ak s.hp e.wr })|none=>none)=some r→o.wpIn (WF rd) 0 C.P a w K Q:=by
  intro res cy h
  split at h
  case h_2=>simp at h
  rename_i e
  simp only[Option.some.injEq]at h
  refine wz hs (sS hs.inv (.inl rfl) bE cy.symm) fun E' w' v hx hf hY hv=>?_
  exact hK _ h.symm E' _ w' hx hf ⟨gh (hs.fr.mono hx) hv,hY,by rw[put_defers]; exact hs.df.mono hf,Nat.le_trans hs.bs hf.size⟩
 obtain⟨dst,op,type,pos,after,guard⟩:=o
 simp only[fw]at h
 split at h
 ·rename_i c
  split at h
  ·exact TB _ rfl h
  ·rename_i f yM
   split at h
   ·split at h
    ·rename_i n hn
     exact JJ hC hs rfl yM hn h hK
    ·simp at h
   rename_i g args cy
   have iV:=iU bE c.args.toList
   split at h
   ·-- a result of the caller's own
    split at h
    case h_2=>simp at h
    rename_i e hq
    simp only[Option.some.injEq]at h
    obtain⟨vs',lR,aU⟩:=eT (w:=w) (bE f) iV cy (zE bL hq)
    refine ql rfl yM aU (zG bL hF hs.inv (.inl rfl) lR hq) (fun v w' hp=>?_) (fun ch w' hp=>?_) (fun w' hp=>?_)
    ·obtain⟨v',jM,E',hx,hY,hf,hr⟩:=hp
     cases jM
     exact hK _ h.symm E' _ w' hx hf ⟨gh (hs.fr.mono hx) hr,hY,by rw[put_defers]; exact hs.df.mono hf,Nat.le_trans hs.bs hf.size⟩
    ·obtain⟨v',jM,_⟩:=hp
     cases jM
    ·obtain⟨v',jM,_⟩:=hp
     cases jM
   split at h
   ·-- by value
    rename_i tf
    cases hq:(kT C k g args).run s.hp with
    |none=>rw[hq]at h; simp at h
    |some q=>
     obtain⟨res,wr⟩:=q
     rw[hq]at h
     obtain⟨vs',lR,aU⟩:=eT (w:=w) (bE f) iV cy (AR bL hq)
     have gO:=hP g args s.hp res wr hq E w vs' hs.inv lR
     refine ql rfl yM aU gO (fun v w' hp=>?_) (fun ch w' hp=>?_) (fun w' hp=>?_)
     ·obtain⟨E',hx,hY,hf,hr⟩:=hp
      cases res with
      |jJ _=>exact hr.elim
      |val x=>
       simp only[Option.some.injEq]at h
       exact hK _ h.symm E' _ w' hx hf ⟨gh (hs.fr.mono hx) hr,hY,by rw[put_defers]; exact hs.df.mono hf,Nat.le_trans hs.bs hf.size⟩
     ·obtain⟨E',hx,hY,hf,hr⟩:=hp
      cases res with
      |val _=>exact hr.elim
      |jJ x=>
       simp only[Option.some.injEq]at h
       obtain⟨u,rfl,hu⟩:=hr
       exact hQ _ _ h.symm E' w' u hx hf hY hu
     ·obtain⟨E',hx,hY,hf,hr⟩:=hp
      cases res<;>exact hr.elim
   ·-- with the heap
    rename_i tf
    cases hq:lO C k g args s.hp with
    |none=>rw[hq]at h; simp at h
    |some q=>
     obtain⟨res,cq⟩:=q
     rw[hq]at h
     obtain⟨fn,rH,iw⟩:=uk hq
     obtain⟨vs',lR,aU⟩:=eT (w:=w) (bE f) iV cy ⟨fn,rH,iw,bL.name g fn rH iw⟩
     have gO:=hF g args s.hp res cq hq E w vs' hs.inv lR
     refine ql rfl yM aU gO (fun v w' hp=>?_) (fun ch w' hp=>?_) (fun w' hp=>?_)
     ·obtain⟨E',hx,hY,hf,hr⟩:=hp
      cases res with
      |jJ _=>exact hr.elim
      |val x=>
       simp only[Option.some.injEq]at h
       obtain⟨E2,ku,qg,iw,ED⟩:=pz hs.inv hx hY hf hr
       exact hK _ h.symm E2 _ w' ku iw ⟨gh (hs.fr.mono ku) ED,qg,by rw[put_defers]; exact hs.df.mono iw,Nat.le_trans hs.bs iw.size⟩
     ·obtain⟨E',hx,hY,hf,hr⟩:=hp
      cases res with
      |val _=>exact hr.elim
      |jJ x=>
       simp only[Option.some.injEq]at h
       obtain⟨u,rfl,hu⟩:=hr
       obtain⟨E2,ku,qg,iw,ED⟩:=pz hs.inv hx hY hf hu
       exact hQ _ _ h.symm E2 w' u ku iw qg ED
     ·obtain⟨E',hx,hY,hf,hr⟩:=hp
      cases res<;>exact hr.elim
  ·rename_i rv name yM
   obtain⟨cal,cQ,lY⟩:=c
   simp only at yM
   subst yM
   have iV:=iU bE cQ.toList
   split at h
   ·simp at h
   rename_i g x cy
   split at h
   ·cases hq:(kT C k g (x::cQ.toList.map (ay s.fr))).run s.hp with
    |none=>rw[hq]at h; simp at h
    |some q=>
     obtain⟨res,wr⟩:=q
     rw[hq]at h
     obtain⟨vs',lR,aU⟩:=AP (w:=w) (o:=⟨dst,.call ⟨.invoke rv name,cQ,lY⟩,type,pos,after,guard⟩) rfl (bE rv) iV cy (AR bL hq)
     have gO:=hP g _ s.hp res wr hq E w vs' hs.inv lR
     refine xv rfl aU gO (fun v w' hp=>?_) (fun ch w' hp=>?_) (fun w' hp=>?_)
     ·obtain⟨E',hx,hY,hf,hr⟩:=hp
      cases res with
      |jJ _=>exact hr.elim
      |val x=>
       simp only[Option.some.injEq]at h
       exact hK _ h.symm E' _ w' hx hf ⟨gh (hs.fr.mono hx) hr,hY,by rw[put_defers]; exact hs.df.mono hf,Nat.le_trans hs.bs hf.size⟩
     ·obtain⟨E',hx,hY,hf,hr⟩:=hp
      cases res with
      |val _=>exact hr.elim
      |jJ x=>
       simp only[Option.some.injEq]at h
       obtain⟨u,rfl,hu⟩:=hr
       exact hQ _ _ h.symm E' w' u hx hf hY hu
     ·obtain⟨E',hx,hY,hf,hr⟩:=hp
      cases res<;>exact hr.elim
   ·cases hq:lO C k g (x::cQ.toList.map (ay s.fr)) s.hp with
    |none=>rw[hq]at h; simp at h
    |some q=>
     obtain⟨res,cq⟩:=q
     rw[hq]at h
     obtain⟨fn,rH,iw⟩:=uk hq
     obtain⟨vs',lR,aU⟩:=AP (w:=w) (o:=⟨dst,.call ⟨.invoke rv name,cQ,lY⟩,type,pos,after,guard⟩) rfl (bE rv) iV cy ⟨fn,rH,iw,bL.name g fn rH iw⟩
     have gO:=hF g _ s.hp res cq hq E w vs' hs.inv lR
     refine xv rfl aU gO (fun v w' hp=>?_) (fun ch w' hp=>?_) (fun w' hp=>?_)
     ·obtain⟨E',hx,hY,hf,hr⟩:=hp
      cases res with
      |jJ _=>exact hr.elim
      |val x=>
       simp only[Option.some.injEq]at h
       obtain⟨E2,ku,qg,iw,ED⟩:=pz hs.inv hx hY hf hr
       exact hK _ h.symm E2 _ w' ku iw ⟨gh (hs.fr.mono ku) ED,qg,by rw[put_defers]; exact hs.df.mono iw,Nat.le_trans hs.bs iw.size⟩
     ·obtain⟨E',hx,hY,hf,hr⟩:=hp
      cases res with
      |val _=>exact hr.elim
      |jJ x=>
       simp only[Option.some.injEq]at h
       obtain⟨u,rfl,hu⟩:=hr
       obtain⟨E2,ku,qg,iw,ED⟩:=pz hs.inv hx hY hf hu
       exact hQ _ _ h.symm E2 w' u ku iw qg ED
     ·obtain⟨E',hx,hY,hf,hr⟩:=hp
      cases res<;>exact hr.elim
 ·-- a slice that begins as nil
  have aU:(execOp a.eval { dst,op:=.assign (.const (.slice none 0 0)),type,pos,after,guard }).run C.P w=.ok (.value (.slice none 0 0)) w:=rfl
  have next:∀ (x:AV) (E':Env) (cq:af),Ext E E'→Inv E' cq w→Fr E w E' w→ai E' true x (.slice none 0 0) →
    r=.norm { s with fr:=bC s.fr dst x,hp:=cq }→Oper.wpIn (WF rd) 0 C.P { dst,op:=.assign (.const (.slice none 0 0)),type,pos,after,guard } a w K Q:=by
   intro x E' cq hx hY hf hr he
   refine⟨fun _ _=>trivial,?_⟩
   rw[Oper.semAt_eq _ _ _ (by intro c h; cases h),aU,Oper.uponIn_value]
   exact hK _ he E' _ w hx hf ⟨gh (hs.fr.mono hx) hr,hY,by rw[put_defers]; exact hs.df.mono hf,Nat.le_trans hs.bs hf.size⟩
  split at h
  ·rename_i d
   split at h
   ·split at h
    case h_2=>simp at h
    rename_i q hq
    split at h
    case isFalse=>simp at h
    simp only[Option.some.injEq]at h
    obtain⟨E',h1,h2,h3,h4⟩:=F7 (esz:=q.size) hs.inv
    exact next _ E' _ h1 h2 h3 h4 h.symm
   ·simp only[Option.some.injEq]at h
    exact next (.lit cK) E s.hp (Ext.refl E) hs.inv (Fr.refl E w) (by simp[ai]) h.symm
  ·simp only[Option.some.injEq]at h
   exact next (.lit cK) E s.hp (Ext.refl E) hs.inv (Fr.refl E w) (by simp[ai]) h.symm
 ·-- any other operation; nil slices in what it gives may be named anew
  split at h
  case h_2=>simp at h
  rename_i e he
  simp only[Option.some.injEq]at h
  refine wz hs (sS hs.inv (.inl rfl) bE he) fun E' w' v hx hf hY hv=>?_
  obtain⟨E2,ku,iw,AE⟩:=JI (l:=C.qK s.fn) (dst:=dst) (s:={ s with fr:=bC s.fr dst e.val,hp:=ak s.hp e.wr }) (B:=B) (a:=a.put dst v)
   ⟨gh (hs.fr.mono hx) hv,hY,by rw[put_defers]; exact hs.df.mono hf,Nat.le_trans hs.bs hf.size⟩
  exact hK _ h.symm E2 _ w' (hx.trans ku) (hf.trans iw) AE
end Go.PI
end
section
/- PI, more fuel gives no other answer. -/
namespace Go.PI
def RM.Le{α:Type}(hp:af)(r r':RM α):Prop:=∀ x,r.run hp=some x→r'.run hp=some x∧r'.log hp=r.log hp
theorem RM.Le.rfl{α:Type}{hp:af}{r:RM α}:RM.Le hp r r:=fun _ h=>⟨h,by trivial⟩
theorem RM.ej{α β:Type}(hp:af)(x:RM α)(f:α→RM β):(x >>= f).log hp=x.log hp++(match x.run hp with|some a=>(f a).log hp|none=>[]):=by
 show (RM.bind x f).log hp=_
 induction x with
 |ret a=>simp[RM.bind,RM.log,RM.run]
 |fail=>simp[RM.bind,RM.log,RM.run]
 |get n k ih=>
  grind[RM.bind,RM.log,RM.run]
theorem RM.Le.bind[ab]{α β:Type}{hp:af}{x x':RM α}{f f':α→RM β}(h:RM.Le hp x x')(hf:∀ a,RM.Le hp (f a) (f' a)):RM.Le hp (x >>= f) (x' >>= f'):=by
 intro y hy
 rw[RM.run_bind]at hy
 cases hq:x.run hp with
 |none=>rw[hq]at hy; simp at hy
 |some a=>
  rw[hq]at hy
  simp only[Option.bind_some]at hy
  obtain⟨h1,h2⟩:=h a hq
  obtain⟨h3,h4⟩:=hf a y hy
  refine⟨by rw[RM.run_bind,h1]; exact h3,?_⟩
  rw[RM.ej,RM.ej,h1,hq,h2]
  simp only[h4]
theorem im{st st':Oper→St→Option Out}(h:∀ o s r,st o s=some r→st' o s=some r)(ops:Array Oper):∀ (l:List Oper) (s:St) (r:Out),cE st ops l s=some r→cE st' ops l s=some r
 |[],s,r,hr=>hr
 |o::l,s,r,hr=>by
  simp only[cE]at hr ⊢
  cases hw:cF ops s.fr o with
  |none=>rw[hw]at hr; simp at hr
  |some b=>
   rw[hw]at hr
   cases b with
   |false=>exact im h ops l _ r hr
   |true=>
    simp only at hr ⊢
    cases hs:st o s with
    |none=>rw[hs]at hr; simp at hr
    |some out=>
     rw[hs]at hr
     rw[h o s out hs]
     cases out with
     |norm s'=>exact im h ops l s' r hr
     |_=>exact hr
theorem wW[ab]{st st':Nat→Oper→List AV→RM di}(h:∀ nm o fr hp,RM.Le hp (st nm o fr) (st' nm o fr))(ops:Array Oper)(x:Item)(s:St)(r:St×fi)(hr:eX st ops x s=some r):eX st' ops x s=some r:=by
 simp only[eX]at hr ⊢
 cases hw:cF ops s.fr x.o with
 |none=>rw[hw]at hr; simp at hr
 |some b=>
  rw[hw]at hr
  cases b with
  |false=>exact hr
  |true=>
   simp only at hr ⊢
   cases hq:(st (x.at s.hp.length) x.o s.fr).run s.hp with
   |none=>rw[hq]at hr; simp at hr
   |some e=>
    obtain⟨h1,h2⟩:=h (x.at s.hp.length) x.o s.fr s.hp e hq
    rw[hq]at hr
    rw[h1,h2]
    exact hr
theorem nK[ab]{st st':Nat→Oper→List AV→RM di}(h:∀ nm o fr hp,RM.Le hp (st nm o fr) (st' nm o fr))(ops:Array Oper):∀ (l:List Item) (s:St) (r:St×List fi),cr st ops l s=some r→cr st' ops l s=some r
 |[],s,r,hr=>hr
 |x::l,s,r,hr=>by
  simp only[cr]at hr ⊢
  cases hs:eX st ops x s with
  |none=>rw[hs]at hr; simp at hr
  |some q=>
   obtain⟨s1,f⟩:=q
   rw[hs]at hr
   rw[wW h ops x s _ hs]
   simp only at hr ⊢
   cases hd:cr st ops l s1 with
   |none=>rw[hd]at hr; simp at hr
   |some q=>
    rw[hd]at hr
    rw[nK h ops l s1 q hd]
    exact hr
theorem Ea[ab]{C:Ctx}{k k':Nat}{o:Oper}{s:St}(h:∀ c,o.op≠.call c):fw C (k+1) o s=fw C (k'+1) o s:=by
 rw[fw,fw]
 split
 ·rename_i c hc; exact absurd hc (h c)
 ·rfl
 ·rfl
theorem vg[ab]{C:Ctx}{F F':List AV→Option (nC×af)}(h:∀ as r,F as=some r→F' as=some r){nm:Nat}{g:FuncId}{args:List AV}{hp:af}:
  RM.Le hp (gZ C F nm g args) (gZ C F' nm g args):=by
 unfold gZ
 refine RM.Le.bind .rfl fun as=>?_
 cases hi:C.iM g with
 |some q=>exact .rfl
 |none=>
  simp only
  intro x hx
  cases hq:F as with
  |none=>rw[hq]at hx; simp[RM.ae]at hx
  |some q=>
   rw[hq]at hx
   rw[h as q hq]
   exact⟨hx,rfl⟩
theorem vh{run run':Code→St→Option Out}(h:∀ c s r,run c s=some r→run' c s=some r){n:Nat}{args:List AV}{dst:Option Tmp}{s:St}{r:Out}
  (hy:gF run n args dst s=some r):gF run' n args dst s=some r:=by
 unfold gF at hy ⊢
 split at hy
 case h_2=>simp at hy
 rename_i fn ps as bd fr ho
 split at hy
 case h_2=>simp at hy
 rename_i hc
 try rw[hc]
 try simp only
 split at hy
 case h_2=>simp at hy
 rename_i s1 h1
 rw[h _ _ _ h1]
 simp only
 split at hy
 case h_2=>simp at hy
 rename_i h2
 try rw[h2]
 try simp only
 split at hy
 ·rename_i s2 h3; rw[h _ _ _ h3]; exact hy
 ·rename_i id s2 h3; rw[h _ _ _ h3]; exact hy
 ·rename_i s2 h3; rw[h _ _ _ h3]; exact hy
 ·simp at hy
theorem IX[ab]{ec Mo:Code→St→Option Out}{eo Q1:Oper→St→Option Out}(hc:∀ c s r,ec c s=some r→Mo c s=some r)(ho:∀ o s r,eo o s=some r→Q1 o s=some r):∀ c s r,y5 ec eo c s=some r→y5 Mo Q1 c s=some r:=by
 have leaf:∀ c s r,((ec c s).map fun o=>(o,(none:Option AV)))=some r→((Mo c s).map fun o=>(o,(none:Option AV)))=some r:=by
  intro c s r h
  cases hq:ec c s with
  |none=>rw[hq]at h; simp at h
  |some o=>rw[hc _ _ _ hq]; rw[hq]at h; exact h
 intro c
 induction c with
 |seq x y _ IY=>
  intro s r h
  simp only[y5]at h ⊢
  cases hd:sH x with
  |some q=>
   obtain⟨ops,v⟩:=q
   rw[hd]at h
   simp only at h ⊢
   cases hr:cE eo ops ops.toList.dropLast s with
   |none=>rw[hr]at h; simp at h
   |some o=>
    rw[hr]at h
    rw[im ho ops _ _ _ hr]
    cases o with
    |norm s1=>
     simp only at h ⊢
     split at h
     ·rename_i q cy
      cases hq:ec y s1 with
      |none=>rw[hq]at h; simp at h
      |some o=>rw[hc _ _ _ hq]; rw[hq]at h; exact h
     ·simp at h
    |_=>simp at h
  |none=>
   rw[hd]at h
   simp only at h ⊢
   cases hq:ec x s with
   |none=>rw[hq]at h; simp at h
   |some o=>
    rw[hq]at h; rw[hc _ _ _ hq]
    cases o with
    |norm s'=>exact IY _ _ h
    |_=>exact h
 |_=>intro s r h; simp only[y5]at h ⊢; exact leaf _ _ _ h
theorem zj[ab]{ec Mo:Code→St→Option Out}(hc:∀ c s r,ec c s=some r→Mo c s=some r){P:Program}{rs:List ResultVar}{fr:List AV}{hp:af}{d:Option AV}{r:nC×af}(h:tQ ec P rs fr hp d=some r):tQ Mo P rs fr hp d=some r:=by
 cases d with
 |none=>exact h
 |some v=>
  simp only[tQ]at h ⊢
  split at h
  ·simp at h
  rename_i g as cy
  split at h
  ·simp at h
  rename_i fg Mp
  split at h
  ·simp at h
  rename_i cg Mq
  cases hn:cx cg with
  |false=>rw[hn]at h; simp at h
  |true=>
   rw[hn]at h
   cases hq:ec (nG cg) ⟨g,as++List.replicate (fg.ntmps-as.length) .undef,hp⟩ with
   |none=>rw[hq]at h; simp at h
   |some o=>rw[hq]at h; simp only[cy,Mp,Mq,hn,hc _ _ _ hq]; exact h
theorem GV[ab]{ec Mo:Code→St→Option Out}{eo Q1:Oper→St→Option Out}(hc:∀ c s r,ec c s=some r→Mo c s=some r)(ho:∀ o s r,eo o s=some r→Q1 o s=some r){P:Program}{rs:List ResultVar}{c:Code}{s:St}{r:nC×af}(h:tR ec eo P rs c s=some r):tR Mo Q1 P rs c s=some r:=by
 unfold tR at h ⊢
 cases hn:cx c with
 |false=>rw[hn]at h; simp at h
 |true=>
  rw[hn]at h
  cases hq:y5 ec eo c s with
  |none=>rw[hq]at h; simp at h
  |some o=>
   rw[hq]at h
   rw[IX hc ho _ _ _ hq]
   obtain⟨o,d⟩:=o
   cases o with
   |norm s'=>exact zj hc h
   |ret s'=>exact zj hc h
   |exit i s'=>exact h
   |jJ v s'=>cases d<;>exact h
structure OV[ab](C:Ctx)(k k2:Nat):Prop where
 f:∀ g args hp r,lO C k g args hp=some r→lO C k2 g args hp=some r
 c:∀ c s r,bQ C k c s=some r→bQ C k2 c s=some r
 o:∀ o s r,fw C k o s=some r→fw C k2 o s=some r
 p:∀ g args hp,RM.Le hp (kT C k g args) (kT C k2 g args)
 e:∀ nm o fr hp,RM.Le hp (ig C k nm o fr) (ig C k2 nm o fr)
theorem GW[ab]{C:Ctx}{k k2:Nat}(ih:OV C k k2):OV C (k+1) (k2+1) where
 f:=by
  intro g args hp r h
  rw[lO]at h ⊢
  cases qM:C.P.funcs[g]? with
  |none=>rw[qM]at h; simp at h
  |some fn=>
   rw[qM]at h
   simp only at h ⊢
   cases hb:fn.body with
   |none=>rw[hb]at h; simp at h
   |some c=>
    rw[hb]at h
    simp only at h ⊢
    cases hD:BB c with
    |true=>rw[hD]at h; exact GV ih.c ih.o h
    |false=>
    rw[hD]at h
    simp only at h ⊢
    cases hc:bQ C k c ⟨g,args++List.replicate (fn.ntmps-args.length) .undef,hp⟩ with
    |none=>rw[hc]at h; simp at h
    |some out=>rw[hc]at h; rw[ih.c _ _ _ hc]; exact h
 c:=by
  intro c s r h
  cases c with
  |seq a b=>
   simp only[bQ]at h ⊢
   cases ha:bQ C k a s with
   |none=>rw[ha]at h; simp at h
   |some out=>
    rw[ha]at h; rw[ih.c _ _ _ ha]
    cases out with
    |norm s'=>exact ih.c _ _ _ h
    |_=>exact h
  |cond o a b=>
   simp only[bQ]at h ⊢
   split at h
   ·split at h
    ·exact ih.c _ _ _ h
    ·exact ih.c _ _ _ h
   ·simp at h
  |block id b=>
   simp only[bQ]at h ⊢
   cases ha:bQ C k b s with
   |none=>rw[ha]at h; simp at h
   |some out=>rw[ha]at h; rw[ih.c _ _ _ ha]; exact h
  |loop b=>
   simp only[bQ]at h ⊢
   cases ha:bQ C k b s with
   |none=>rw[ha]at h; simp at h
   |some out=>
    rw[ha]at h; rw[ih.c _ _ _ ha]
    cases out with
    |norm s'=>exact ih.c _ _ _ h
    |_=>exact h
  |region id ops draw=>
   simp only[bQ]at h ⊢
   cases draw with
   |false=>exact im ih.o ops _ _ r h
   |true=>
    simp only at h ⊢
    split at h
    case isFalse=>simp at h
    rename_i bL
    rw[if_pos bL]
    split at h
    ·rename_i s' fs hd
     rw[nK ih.e ops _ _ _ hd]
     simp only at h ⊢
     split at h
     case isFalse=>simp at h
     rename_i hc
     rw[if_pos hc]
     exact im ih.o ops _ _ r h
    ·simp at h
  |scope b=>
   simp only[bQ]at h ⊢
   split at h
   ·rename_i c hc
    exact ih.c _ _ _ h
   ·simp at h
  |rangeFunc f ps as bd=>
   simp only[bQ]at h ⊢
   split at h
   case h_2=>simp at h
   rename_i g args cy
   cases hq:lO C k g args (s.hp++[some (.ga (.loop s.fn ps as bd .ready) (tP as bd s.fr))]) with
   |none=>rw[hq]at h; simp at h
   |some q=>rw[hq]at h; rw[ih.f _ _ _ _ hq]; exact h
  |_=>simpa only[bQ] using h
 o:=by
  intro o s r h
  obtain⟨dst,op,type,pos,after,guard⟩:=o
  cases op with
  |call c=>
   obtain⟨callee,args,argTypes⟩:=c
   cases callee with
   |value f=>
    simp only[fw]at h ⊢
    cases cy:bA (ay s.fr f) (args.toList.map (ay s.fr)) with
    |none=>
     rw[cy]at h
     simp only at h ⊢
     split at h
     ·rename_i n hn
      exact vh (fun c s r h=>ih.c c s r h) h
     ·simp at h
    |some q=>
     obtain⟨g,as⟩:=q
     rw[cy]at h
     simp only at h ⊢
     cases pa:au (Op.call ⟨.value f,args,argTypes⟩) with
     |true=>
      rw[pa]at h
      simp only at h ⊢
      cases hq:(gZ C (fun as=>lO C k g as []) s.hp.length g as).run s.hp with
      |none=>rw[hq]at h; simp at h
      |some q=>rw[hq]at h; rw[(vg (fun as r h=>ih.f g as [] r h) _ hq).1]; exact h
     |false=>
     rw[pa]at h
     simp only at h ⊢
     cases hk:C.kind g with
     |pure=>
      rw[hk]at h
      simp only at h ⊢
      cases hq:(kT C k g as).run s.hp with
      |none=>rw[hq]at h; simp at h
      |some q=>rw[hq]at h; rw[(ih.p g as s.hp q hq).1]; exact h
     |imp=>
      rw[hk]at h
      simp only at h ⊢
      cases hq:lO C k g as s.hp with
      |none=>rw[hq]at h; simp at h
      |some q=>rw[hq]at h; rw[ih.f _ _ _ _ hq]; exact h
   |invoke rv name=>
    simp only[fw]at h ⊢
    cases cy:oX C.P (ay s.fr rv) name with
    |none=>rw[cy]at h; simp at h
    |some q=>
     obtain⟨g,x⟩:=q
     rw[cy]at h
     simp only at h ⊢
     cases hk:C.kind g with
     |pure=>
      rw[hk]at h
      simp only at h ⊢
      cases hq:(kT C k g (x::args.toList.map (ay s.fr))).run s.hp with
      |none=>rw[hq]at h; simp at h
      |some q=>rw[hq]at h; rw[(ih.p g _ s.hp q hq).1]; exact h
     |imp=>
      rw[hk]at h
      simp only at h ⊢
      cases hq:lO C k g (x::args.toList.map (ay s.fr)) s.hp with
      |none=>rw[hq]at h; simp at h
      |some q=>rw[hq]at h; rw[ih.f _ _ _ _ hq]; exact h
   |_=>simpa only[fw] using h
  |_=>rw[Ea (k':=k) (by intro c hc; cases hc)]; exact h
 p:=by
  intro g args hp
  rw[kT,kT]
  refine RM.Le.bind .rfl fun as=>?_
  cases hi:C.kl g with
  |some h=>exact .rfl
  |none=>
   simp only
   intro x hx
   cases hq:lO C k g as [] with
   |none=>rw[hq]at hx; simp[RM.ae]at hx
   |some q=>
    rw[hq]at hx
    rw[ih.f _ _ _ _ hq]
    exact⟨hx,rfl⟩
 e:=by
  intro nm o fr hp
  rw[ig,ig]
  obtain⟨dst,op,type,pos,after,guard⟩:=o
  cases op with
  |call c=>
   obtain⟨callee,args,argTypes⟩:=c
   cases callee with
   |value f=>
    simp only
    split
    ·exact .rfl
    ·rename_i g as cy
     cases pa:au (Op.call ⟨.value _,args,argTypes⟩) with
     |true=>exact vg fun as r h=>ih.f g as [] r h
     |false=>
     cases hk:C.kind g with
     |pure=>exact RM.Le.bind (ih.p g as hp) fun _=>.rfl
     |imp=>exact .rfl
   |invoke rv name=>
    simp only
    split
    ·exact .rfl
    ·rename_i g x cy
     cases hk:C.kind g with
     |pure=>exact RM.Le.bind (ih.p g _ hp) fun _=>.rfl
     |imp=>exact .rfl
   |_=>exact .rfl
  |_=>exact .rfl
theorem mono[ab](C:Ctx):∀ k,OV C k (k+1)
 |0=>{ f:=by intro g args hp r h; simp[lO]at h
       c:=by intro c s r h; simp[bQ]at h
       o:=by intro o s r h; simp[fw]at h
       p:=by intro g args hp x h; simp[kT,RM.ae]at h
       e:=by intro nm o fr hp x h; simp[ig,RM.ae]at h }
 |k+1=>GW (mono C k)
noncomputable def lP{α:Type}(g:Nat→Option α):Option α:=
 open Classical in if h : ∃ k, (g k).isSome then g (Classical.choose h) else none
def fC{α:Type}(g:Nat→Option α):Prop:=∀ k x,g k=some x→g (k+1)=some x
theorem fC.le{α:Type}{g:Nat→Option α}(h:fC g){k:Nat}{x:α}(hx:g k=some x):∀ d,g (k+d)=some x
 |0=>hx
 |d+1=>h _ _ (h.le hx d)
theorem bg[ab]{α:Type}{g:Nat→Option α}(hg:fC g){x:α}:lP g=some x↔∃ k,g k=some x:=by
 unfold lP
 constructor
 ·intro h
  split at h
  ·rename_i hq; exact⟨_,h⟩
  ·simp at h
 ·rintro⟨k,hk⟩
  have hq:∃ k,(g k).isSome:=⟨k,by simp[hk]⟩
  rw[dif_pos hq]
  obtain⟨y,hy⟩:=Option.isSome_iff_exists.1 (Classical.choose_spec hq)
  have h1:=hg.le hk (Classical.choose hq)
  have h2:=hg.le hy k
  rw[Nat.add_comm]at h2
  rw[h1]at h2
  rw[hy,h2]
theorem kJ[ab]{α:Type}{g:Nat→Option α}(hg:fC g){y:Option α}(h1:∀ k x,g k=some x→y=some x)(h2:∀ x,y=some x→∃ k,g k=some x):lP g=y:=by
 cases hl:lP g with
 |some x=>
  obtain⟨k,hk⟩:=(bg hg).1 hl
  exact(h1 k x hk).symm
 |none=>
  cases y with
  |none=>rfl
  |some x=>
   have:=(bg hg).2 (h2 x rfl)
   rw[hl]at this; simp at this
noncomputable def kn[ab](C:Ctx)(f:FuncId)(args:List AV)(hp:af):Option (nC×af):=lP fun k=>lO C k f args hp
noncomputable def cP[ab](C:Ctx)(c:Code)(s:St):Option Out:=lP fun k=>bQ C k c s
noncomputable def hX[ab](C:Ctx)(o:Oper)(s:St):Option Out:=lP fun k=>fw C k o s
noncomputable def IZ[ab](C:Ctx)(g:FuncId)(args:List AV)(hp:af):Option (nC×List (Nat×aL)):=lP fun k=>(kT C k g args).run hp
theorem mc[ab](C:Ctx)(f:FuncId)(args:List AV)(hp:af):fC fun k=>lO C k f args hp:=fun k x h=>(mono C k).f _ _ _ _ h
theorem dG[ab](C:Ctx)(c:Code)(s:St):fC fun k=>bQ C k c s:=fun k x h=>(mono C k).c _ _ _ h
theorem jo[ab](C:Ctx)(o:Oper)(s:St):fC fun k=>fw C k o s:=fun k x h=>(mono C k).o _ _ _ h
theorem BQ[ab](C:Ctx)(g:FuncId)(args:List AV)(hp:af):fC fun k=>(kT C k g args).run hp:=fun k x h=>((mono C k).p g args hp x h).1
end Go.PI
end
section
/- PI, part Za: a scope in which the run jumps back to one label. -/
namespace Go.PI
theorem nj[ab]{C:Ctx}{k:Nat}{o:Oper}{s:St}{r:Out}(h:fw C k o s=some r):(∃ s',r=.norm s')∨∃ v s',r=.jJ v s':=by
 cases k with
 |zero=>simp[fw]at h
 |succ k=>
  simp only[fw]at h
  repeat' split at h
  all_goals first
   |(simp only[Option.some.injEq]at h; subst h; first|exact .inl ⟨_,rfl⟩|exact .inr ⟨_,_,rfl⟩)
   |exact .inl (EC h)
   |simp at h
theorem kO{step:Oper→St→Option Out}(hs:∀ o s r,step o s=some r→(∃ s',r=.norm s')∨∃ v s',r=.jJ v s'){ops:Array Oper}:∀ {l:List Oper} {s:St} {r:Out},
  cE step ops l s=some r→(∃ s',r=.norm s')∨∃ v s',r=.jJ v s'
 |[],s,r,h=>by simp only[cE,Option.some.injEq]at h; exact .inl ⟨s,h.symm⟩
 |o::l,s,r,h=>by
  simp only[cE]at h
  split at h
  ·simp at h
  ·exact kO hs h
  ·split at h
   ·exact kO hs h
   ·rename_i dK
    exact hs o s r h
theorem ur:∀ {c:Code},c8 c=true→cx c=true:=by
 intro c
 induction c with
 |seq a b Ga DS=>simp_all[c8,cx]
 |cond c a b Ga DS=>simp_all[c8,cx]
 |block id b ih=>simp_all[c8,cx]
 |loop b ih=>simp_all[c8,cx]
 |scope b ih=>intro h; simp[c8]at h
 |rangeFunc f ps a b=>intro h; simp[c8]at h
 |_=>intro _; rfl
theorem EL[ab]{C:Ctx}:∀ (k:Nat) {c:Code} {s s':St} {i:Nat},c8 c=true→bQ C k c s=some (.exit i s')→i<1073741824:=by
 intro k
 induction k with
 |zero=>intro c s s' i _ h; simp[bQ]at h
 |succ k ih=>
  intro c s s' i hp h
  cases c with
  |seq a b=>
   grind[c8,bQ]
  |cond o a b=>
   grind[c8,bQ]
  |block id b=>
   grind[c8,bQ,Out.exit.injEq]
  |loop b=>
   grind[c8,bQ]
  |exit id=>
   simp_all[bQ,Out.exit.injEq,c8]
  |region id ops draw=>
   simp only[bQ]at h
   cases draw with
   |false=>
    rcases kO (fun o s r h=>nj h) h with ⟨_,e⟩|⟨_,_,e⟩<;>cases e
   |true=>
    simp only at h
    split at h
    case isFalse=>simp at h
    split at h
    case h_2=>simp at h
    split at h
    case isFalse=>simp at h
    rcases kO (fun o s r h=>nj h) h with ⟨_,e⟩|⟨_,_,e⟩<;>cases e
  |skip=>simp[bQ]at h
  |ret=>simp[bQ]at h
  |_=>simp[c8]at hp
def Y0[ab](l:Nat)(B:oz)(E:Env):Out→Exit→Act→World→Prop
 |.exit i s,.goto m,a,w=>i=1073741825∧m=l∧cG B E s a w
 |.exit i s,.exit j,a,w=>i=j∧i<1073741824∧cG B E s a w
 |o,e,a,w=>JG B E o e a w
def Hm[ab](l:Nat)(B:oz)(E:Env)(w:World)(o:Out)(e:Exit)(a':Act)(w':World):Prop:=
 ∃ E',Ext E E'∧Fr E w E' w'∧Y0 l B E' o e a' w'
theorem Hm.from[ab]{l:Nat}{B:oz}{E E1:Env}{w w1:World}{o:Out}{e:Exit}{a:Act}{w':World}(hx:Ext E E1)(hf:Fr E w E1 w1)(h:Hm l B E1 w1 o e a w'):Hm l B E w o e a w':=by
 obtain⟨E',h1,h2,h3⟩:=h
 exact⟨E',hx.trans h1,hf.trans h2,h3⟩
theorem JU[ab]{C:Ctx}{k:Nat}(hC:∀ j,j≤k→fo C j){l:Nat}{c:Code}(hp:c8 c=true){j:Nat}(hj:j≤k){s:St}{o:Out}(h:bQ C j c s=some o)
  (rd:Option Nat) {B:oz} {E:Env} {a:Act} {w:World} (hs:cG B E s a w):c.wpIn (WF rd) 0 C.P (Hm l B E w o) a w:=by
 refine wpIn_mono (hC j hj c s o h rd B (.inr (ur hp)) E a w hs) fun e a' w' hq=>?_
 obtain⟨E',h1,h2,h3⟩:=hq
 refine⟨E',h1,h2,?_⟩
 cases o with
 |exit i s'=>
  have hi:=EL j hp h
  cases e with
  |exit m=>exact⟨h3.1,hi,h3.2⟩
  |_=>exact h3.elim
 |_=>exact h3
theorem Pm[ab]{C:Ctx}{k:Nat}(hC:∀ j,j≤k→fo C j){l:Nat}:∀ (c:Code) {c':Code},qL l c=some c'→∀ (j:Nat),j≤k→∀ (s:St) (o:Out),bQ C j c' s=some o →
  ∀ (rd:Option Nat) (B:oz) (E:Env) (a:Act) (w:World),cG B E s a w→c.wpIn (WF rd) 0 C.P (Hm l B E w o) a w:=by
 intro c
 induction c with
 |seq x y UX IY=>
  intro c' hc j hj s o h rd B E a w hs
  simp only[qL]at hc
  cases hx:qL l x with
  |none=>rw[hx]at hc; simp at hc
  |some x'=>
   cases hy:qL l y with
   |none=>rw[hx,hy]at hc; simp at hc
   |some y'=>
    rw[hx,hy]at hc
    simp only[Option.bind_some,Option.map_some,Option.some.injEq]at hc
    subst hc
    cases j with
    |zero=>simp[bQ]at h
    |succ j=>
     have px:=UX hx
     have py:=IY hy
     simp only[bQ]at h
     refine wpIn_seq ?_
     split at h
     ·rename_i s' gb
      refine wpIn_mono (px j (by omega) s _ gb rd B E a w hs) fun e a' w' hp=>?_
      obtain⟨E',h1,h2,h3⟩:=hp
      cases e with
      |normal=>exact wpIn_mono (py j (by omega) s' o h rd B E' a' w' h3) fun e TE wP hp=>Hm.from h1 h2 hp
      |_=>exact h3.elim
     ·rename_i dK
      refine wpIn_mono (px j (by omega) s o h rd B E a w hs) fun e a' w' hp=>?_
      obtain⟨E',h1,h2,h3⟩:=hp
      cases e with
      |normal=>
       cases o with
       |norm s'=>exact absurd h (dK s')
       |_=>exact h3.elim
      |_=>exact⟨E',h1,h2,h3⟩
 |cond op x y UX IY=>
  intro c' hc j hj s o h rd B E a w hs
  simp only[qL]at hc
  cases hx:qL l x with
  |none=>rw[hx]at hc; simp at hc
  |some x'=>
   cases hy:qL l y with
   |none=>rw[hx,hy]at hc; simp at hc
   |some y'=>
    rw[hx,hy]at hc
    simp only[Option.bind_some,Option.map_some,Option.some.injEq]at hc
    subst hc
    cases j with
    |zero=>simp[bQ]at h
    |succ j=>
     have px:=UX hx
     have py:=IY hy
     simp only[bQ]at h
     split at h
     case h_2=>simp at h
     rename_i t ht
     have hv:=gP hs.inv.jk hs.fr op
     rw[ht]at hv
     simp only[ai]at hv
     cases t with
     |true=>exact wpIn_cond_true hv (px j (by omega) s o h rd B E a w hs)
     |false=>exact wpIn_cond_false hv (py j (by omega) s o h rd B E a w hs)
 |goto m=>
  intro c' hc j hj s o h rd B E a w hs
  simp only[qL]at hc
  split at hc
  case isFalse=>simp at hc
  rename_i hm
  simp only[Option.some.injEq]at hc
  subst hc
  cases j with
  |zero=>simp[bQ]at h
  |succ j=>
   simp only[bQ,Option.some.injEq]at h
   subst h
   exact wpIn_goto ⟨E,Ext.refl E,Fr.refl E w,rfl,hm,hs⟩
 |_=>
  intro c' hc
  simp only[qL]at hc
  split at hc
  case isFalse=>simp at hc
  rename_i hp
  simp only[Option.some.injEq]at hc
  subst hc
  intro j hj s o h rd B E a w hs
  exact JU hC hp hj h rd hs
section
variable {F:Fence}{n:Nat}{P:Program}{Q:Exit→Act→World→Prop}{a:Act}{w:World}
theorem Cs{b:Frame}{k:List Go.Item}{cs:List Frame}{c:Code}:step P (lone (b.atR a (.code (.scope c)::k)) cs w)=.next (lone (b.atR a (.code c::.inScope c::k)) cs w):=
 step_lone_go (by simp[stepG,stepG.exec,Frame.atR])
theorem qY{b:Frame}{k:List Go.Item}{cs:List Frame}{c:Code}:step P (lone (b.atR a (.inScope c::k)) cs w)=.next (lone (b.atR a k) cs w):=
 step_lone_go (by simp[stepG,stepG.exec,Frame.atR])
def mA(F:Fence)(n:Nat)(P:Program)(c r:Code)(Q:Exit→Act→World→Prop)(a:Act)(w:World):Prop:=
 ∀ (b:Frame) (k:List Go.Item) (cs:List Frame),b.roundOf=F.round→F.fn b.fn→F.room (cs.length+1+n) →
   ∃ e a' w',Q e a' w'∧ArrivesIn (Machine.fenced P F) P (lone (b.atR a (.code r::.inScope c::k)) cs w) b k cs e a' w'
def Ry(l:Nat)(N:Act→World→Prop)(Q:Exit→Act→World→Prop):Exit→Act→World→Prop
 |.goto m,a,w=>m=l∧N a w
 |e,a,w=>Q e a w
theorem zJ{c r rest:Code}{l:Nat}{N:Act→World→Prop}(hf:findLabel c l=some rest)(hN:∀ a w,N a w→mA F n P c rest Q a w)
  (h:r.wpIn F n P (Ry l N Q) a w):mA F n P c r Q a w:=by
 intro b k cs dA hb hr
 have hg:gotoIn l (.inScope c::k)=some (.code rest::.inScope c::k):=by simp[gotoIn,hf]
 obtain⟨e,a₁,w₁,hq,cJ⟩:=h b (.inScope c::k) cs dA hb hr
 cases e with
 |normal=>exact⟨.normal,a₁,w₁,hq,StepsIn.trans cJ (.one (fenced_calm hb hr rfl) qY)⟩
 |exit id=>
  have hx:exitTo id (.inScope c::k)=exitTo id k:=by simp[exitTo]
  exact⟨.exit id,a₁,w₁,hq,fun k' hk=>cJ.1 k' (by rw[hx]; exact hk),fun ld hk=>cJ.2 ld (by rw[hx]; exact hk)⟩
 |goto m=>
  obtain⟨rfl,Y1⟩:=hq
  obtain⟨e₂,a₂,w₂,wQ,jL⟩:=hN _ _ Y1 b k cs dA hb hr
  exact⟨e₂,a₂,w₂,wQ,.of_steps (cJ.1 _ hg) jL⟩
 |ret=>exact⟨_,a₁,w₁,hq,cJ⟩
 |panic ch=>exact⟨_,a₁,w₁,hq,cJ⟩
 |outgrown=>exact⟨_,a₁,w₁,hq,cJ⟩
theorem we{c r:Code}(h:r.wpIn F n P Q a w)(hQ:∀ m a w,¬Q (.goto m) a w):mA F n P c r Q a w:=by
 intro b k cs dA hb hr
 obtain⟨e,a₁,w₁,hq,cJ⟩:=h b (.inScope c::k) cs dA hb hr
 cases e with
 |normal=>exact⟨.normal,a₁,w₁,hq,StepsIn.trans cJ (.one (fenced_calm hb hr rfl) qY)⟩
 |exit id=>
  have hx:exitTo id (.inScope c::k)=exitTo id k:=by simp[exitTo]
  exact⟨.exit id,a₁,w₁,hq,fun k' hk=>cJ.1 k' (by rw[hx]; exact hk),fun ld hk=>cJ.2 ld (by rw[hx]; exact hk)⟩
 |goto m=>exact absurd hq (hQ _ _ _)
 |ret=>exact⟨_,a₁,w₁,hq,cJ⟩
 |panic ch=>exact⟨_,a₁,w₁,hq,cJ⟩
 |outgrown=>exact⟨_,a₁,w₁,hq,cJ⟩
theorem Ct{c:Code}(h:mA F n P c c Q a w):(Code.scope c).wpIn F n P Q a w:=by
 intro b k cs dA hb hr
 obtain⟨e,a₁,w₁,hq,cJ⟩:=h b k cs dA hb hr
 exact⟨e,a₁,w₁,hq,.of_steps (.one (fenced_calm hb hr rfl) Cs) cJ⟩
end
theorem Cu:∀ {c:Code} {l:Nat},c8 c=true→findLabel c l=none:=by
 intro c
 induction c with
 |seq a b Ga DS=>
  simp_all[c8,findLabel]
 |label m=>intro l h; simp[c8]at h
 |_=>intro l _; rfl
theorem JV{a b:Code}{l:Nat}(h:findLabel a l=none):findLabel (.seq a b) l=findLabel b l:=by
 simp only[findLabel,h]
theorem JW:∀ {c:Code} {l:Nat} {x r:Code},sI c=some (l,x,r)→findLabel c l=some (.seq .skip r):=by
 intro c
 induction c with
 |seq a b Ga DS=>
  intro l x r h
  cases a with
  |label m=>
   simp_all[sI,findLabel]
  |_=>
   simp only[sI]at h
   split at h
   case isFalse=>simp at h
   rename_i hp
   cases hb:sI b with
   |none=>rw[hb]at h; simp at h
   |some q=>
    obtain⟨l',x',r'⟩:=q
    rw[hb]at h
    simp only[Option.map_some,Option.some.injEq,Prod.mk.injEq]at h
    obtain⟨rfl,rfl,rfl⟩:=h
    exact(JV (Cu (l:=l') hp)).trans (DS hb)
 |_=>intro l x r h; simp[sI]at h
theorem Pn[ab]{C:Ctx}{k:Nat}(hC:∀ j,j≤k→fo C j){Q:Exit→Act→World→Prop}{rd:Option Nat}{B:oz}{l:Nat}{r:Code}:∀ (c:Code) {x:Code},sI c=some (l,x,r)→∀ (j:Nat),j≤k→∀ (s:St) (q:Out),bQ C j x s=some q →
  ∀ (E:Env) (a:Act) (w:World),cG B E s a w→(∀ s1 E1 a1 w1,q=.norm s1→Ext E E1→Fr E w E1 w1→cG B E1 s1 a1 w1→r.wpIn (WF rd) 0 C.P Q a1 w1) →
  (∀ e a' w',(∀ s1,q≠.norm s1)→bn B E w q e a' w'→Q e a' w')→c.wpIn (WF rd) 0 C.P Q a w:=by
 intro c
 induction c with
 |seq a b Ga DS=>
  intro x h j hj s q bE E ac w hs hn ho
  have step:∀ (hp:c8 a=true) (x':Code),sI b=some (l,x',r)→x=.seq a x'→(Code.seq a b).wpIn (WF rd) 0 C.P Q ac w:=by
   intro hp x' hb hx
   subst hx
   cases j with
   |zero=>simp[bQ]at bE
   |succ j=>
    simp only[bQ]at bE
    refine wpIn_seq ?_
    split at bE
    ·rename_i s1 h1
     refine wpIn_mono (hC j (by omega) _ _ _ h1 rd B (.inr (ur hp)) E ac w hs) fun e a' w' hq=>?_
     obtain⟨E',g1,g2,g3⟩:=hq
     cases e with
     |normal=>exact DS hb j (by omega) s1 q bE E' a' w' g3 (fun s2 E2 a2 w2 e1 e2 e3 e4=>hn s2 E2 a2 w2 e1 (g1.trans e2) (g2.trans e3) e4) (fun e a2 w2 e1 e2=>ho e a2 w2 e1 (bn.from g1 g2 e2))
     |_=>exact g3.elim
    ·rename_i dK
     refine wpIn_mono (hC j (by omega) _ _ _ bE rd B (.inr (ur hp)) E ac w hs) fun e a' w' hq=>?_
     cases e with
     |normal=>
      obtain⟨E',g1,g2,g3⟩:=hq
      cases q with
      |norm s1=>exact absurd bE (dK s1)
      |_=>exact g3.elim
     |_=>exact ho _ _ _ (fun s1 e=>dK s1 (e▸bE)) hq
  cases a with
  |label m=>
   simp only[sI,Option.some.injEq,Prod.mk.injEq]at h
   obtain⟨rfl,rfl,rfl⟩:=h
   cases j with
   |zero=>simp[bQ]at bE
   |succ j=>
    simp only[bQ,Option.some.injEq]at bE
    subst bE
    exact wpIn_seq (wpIn_label (hn s E ac w rfl (Ext.refl E) (Fr.refl E w) hs))
  |_=>
   simp only[sI]at h
   split at h
   case isFalse=>simp at h
   rename_i hp
   cases hb:sI b with
   |none=>rw[hb]at h; simp at h
   |some q'=>
    obtain⟨l',x',r'⟩:=q'
    rw[hb]at h
    simp only[Option.map_some,Option.some.injEq,Prod.mk.injEq]at h
    obtain⟨rfl,rfl,rfl⟩:=h
    exact step hp x' hb rfl
 |_=>intro x h; simp[sI]at h
def vD:Out→Out
 |.exit i s=>if i=1073741824 then .norm s else .exit i s
 |o=>o
theorem mA.mono{F:Fence}{n:Nat}{P:Program}{c r:Code}{Q Q':Exit→Act→World→Prop}{a:Act}{w:World}(h:mA F n P c r Q a w)(hq:∀ e a w,Q e a w→Q' e a w):mA F n P c r Q' a w:=
 fun b k cs dA hb hr=>let ⟨e,a',w',q,r⟩:=h b k cs dA hb hr; ⟨e,a',w',hq _ _ _ q,r⟩
theorem Ry.mono{l:Nat}{N N':Act→World→Prop}{Q Q':Exit→Act→World→Prop}(hn:∀ a w,N a w→N' a w)(hq:∀ e a w,Q e a w→Q' e a w){e:Exit}{a:Act}{w:World}(h:Ry l N Q e a w):Ry l N' Q' e a w:=by
 cases e with
 |goto m=>exact⟨h.1,hn _ _ h.2⟩
 |_=>exact hq _ _ _ h
theorem Hn[ab]{C:Ctx}{k:Nat}(hC:∀ j,j≤k→fo C j){rd:Option Nat}{l:Nat}{c r r':Code}(hf:findLabel c l=some (.seq .skip r))(hr:qL l r=some r'){B:oz}:∀ (j:Nat),j≤k→∀ (s:St) (o:Out),
  bQ C j (.loop (.block 1073741825 (.seq r' (.exit 1073741824)))) s=some o→∀ (E:Env) (a:Act) (w:World),cG B E s a w →
  r.wpIn (WF rd) 0 C.P (Ry l (fun a1 w1=>mA (WF rd) 0 C.P c (.seq .skip r) (bn B E w (vD o)) a1 w1) (bn B E w (vD o))) a w:=by
 intro j
 induction j with
 |zero=>intro _ s o h; simp[bQ]at h
 |succ j ih=>
  intro hj s o h E a w hs
  have Y2:=ih (by omega)
  simp only[bQ]at h
  cases hb:bQ C j (.block 1073741825 (.seq r' (.exit 1073741824))) s with
  |none=>rw[hb]at h; simp at h
  |some q=>
   rw[hb]at h
   cases j with
   |zero=>simp[bQ]at hb
   |succ j=>
    simp only[bQ]at hb
    cases j with
    |zero=>simp[bQ]at hb
    |succ j=>
     simp only[bQ]at hb
     cases hq:bQ C j r' s with
     |none=>rw[hq]at hb; simp at hb
     |some p=>
      rw[hq]at hb
      refine wpIn_mono (Pm hC r hr j (by omega) s p hq rd B E a w hs) fun e a' w' ho=>?_
      obtain⟨E',g1,g2,g3⟩:=ho
      cases p with
      |norm s1=>
       cases j with
       |zero=>simp[bQ]at hq
       |succ j=>
        simp only[bQ]at hb
        simp at hb
        subst hb
        simp only[Option.some.injEq]at h
        subst h
        cases e with
        |normal=>exact⟨E',g1,g2,g3⟩
        |_=>exact g3.elim
      |exit i s1=>
       simp only at hb
       cases e with
       |goto m=>
        obtain⟨hi,hm,nh⟩:=g3
        subst hi
        simp only[if_true,Option.some.injEq]at hb
        subst hb
        simp only at h
        refine⟨hm,?_⟩
        have:∃ E2,Ext E E2∧Fr E w E2 w'∧cG B E2 (gD s.hp.length s1) a' w':=by
         unfold gD
         split
         ·rename_i bf
          have hle:s.hp.length≤s1.hp.length:=by rw[hs.inv.len,nh.inv.len]; exact g1.L
          obtain⟨a1,a2,a3⟩:=te nh.inv hle bf
          exact⟨E'.lower s.hp.length,⟨g1.m,fun n hn aq l h=>g1.ρ n hn aq l h,by simp[Env.lower,hs.inv.len]⟩,g2.trans a2,rG a3 nh.fr,a1,nh.df.mono a2,nh.bs⟩
         ·exact⟨E',g1,g2,nh⟩
        obtain⟨E2,b1,b2,b3⟩:=this
        have hw:=Y2 _ o h E2 a' w' b3
        refine zJ hf (N:=fun a w2=>mA (WF rd) 0 C.P c (.seq .skip r) (bn B E w (vD o)) a w2) (fun _ _ h=>h) (wpIn_seq (wpIn_skip (wpIn_mono hw fun e a2 w2 hj=>?_)))
        exact hj.mono (fun _ _ hi=>hi.mono fun _ _ _ hp=>bn.from b1 b2 hp) fun _ _ _ hp=>bn.from b1 b2 hp
       |exit m=>
        obtain⟨hi,bZ,nh⟩:=g3
        subst hi
        rw[if_neg (by omega)]at hb
        simp only[Option.some.injEq]at hb
        subst hb
        simp only[Option.some.injEq]at h
        subst h
        have:vD (.exit i s1)=.exit i s1:=by simp only[vD]; rw[if_neg (by omega)]
        rw[this]
        exact⟨E',g1,g2,rfl,nh⟩
       |_=>exact g3.elim
      |ret s1=>
       simp only[Option.some.injEq]at hb
       subst hb
       simp only[Option.some.injEq]at h
       subst h
       cases e with
       |ret=>exact⟨E',g1,g2,g3⟩
       |_=>exact g3.elim
      |jJ v s1=>
       simp only[Option.some.injEq]at hb
       subst hb
       simp only[Option.some.injEq]at h
       subst h
       cases e with
       |panic ch=>exact⟨E',g1,g2,g3⟩
       |_=>exact g3.elim
theorem EM:∀ {c:Code},noGoto c=true→cx c=true:=by
 intro c
 induction c with
 |seq a b Ga DS=>simp_all[noGoto,cx]
 |cond o a b Ga DS=>simp_all[noGoto,cx]
 |block id b ih=>simp_all[noGoto,cx]
 |loop b ih=>simp_all[noGoto,cx]
 |scope b ih=>simp_all[noGoto,cx]
 |rangeFunc _ _ _ _ _ _=>intro h; simp[noGoto]at h
 |_=>intro _; rfl
theorem JQ[ab]{C:Ctx}{k:Nat}(hC:∀ j,j≤k→fo C j){rd:Option Nat}{B:oz}{E:Env}{s:St}{a:Act}{w:World}(hs:cG B E s a w){b c:Code}{o:Out}
  (hc:o5 b=some c) (h:bQ C k c s=some o):(Code.scope b).wpIn (WF rd) 0 C.P (bn B E w o) a w:=by
 cases JS:noGoto b with
 |true=>
  simp only[o5,JS,Option.some.injEq]at hc
  subst hc
  refine Ct (we (hC k (Nat.le_refl _) b s o h rd B (.inr (EM JS)) E a w hs) fun m a' w' hq=>?_)
  obtain⟨E',_,_,hq⟩:=hq
  cases o<;>exact hq.elim
 |false=>
 cases JX:sI b with
 |none=>simp only[o5,JS,JX]at hc; simp at hc
 |some q=>
  obtain⟨l,x,r⟩:=q
  cases hr:qL l r with
  |none=>simp only[o5,JS,JX,hr,Option.map_none]at hc; simp at hc
  |some r'=>
   simp only[o5,JS,JX,hr,Option.map_some,Option.some.injEq]at hc
   subst hc
   have hf:=JW JX
   cases k with
   |zero=>simp[bQ]at h
   |succ k=>
    simp only[bQ]at h
    refine Ct (zJ hf (N:=fun a w'=>mA (WF rd) 0 C.P b (.seq .skip r) (bn B E w o) a w') (fun _ _ h=>h) ?_)
    cases hx:bQ C k x s with
    |none=>rw[hx]at h; simp at h
    |some q=>
     rw[hx]at h
     refine Pn hC b JX k (by omega) s q hx E a w hs (fun s1 E1 a1 w1 hq g1 g2 nh=>?_) (fun e a' w' hq hp=>?_)
     ·subst hq
      simp only at h
      cases k with
      |zero=>simp[bQ]at h
      |succ k=>
       simp only[bQ]at h
       cases hl:bQ C k (.loop (.block 1073741825 (.seq r' (.exit 1073741824)))) s1 with
       |none=>rw[hl]at h; simp at h
       |some oL=>
        rw[hl]at h
        have ho:o=vD oL:=by
         cases oL with
         |exit i s2=>
          grind[vD]
         |_=>simpa[vD] using h.symm
        subst ho
        refine wpIn_mono (Hn hC hf hr k (by omega) s1 oL hl E1 a1 w1 nh) fun e a2 w2 hj=>?_
        exact hj.mono (fun _ _ hi=>hi.mono fun _ _ _ hp=>bn.from g1 g2 hp) fun _ _ _ hp=>bn.from g1 g2 hp
     ·have ho:o=q:=by
       simp_all
      subst ho
      cases e with
      |goto m=>obtain⟨_,_,_,h3⟩:=hp; cases o<;>exact h3.elim
      |_=>exact hp
end Go.PI
end
section
/- PI, part Zb: calls that only look, where the order is drawn. -/
namespace Go.PI
def JL[ab](P:Program):Prop:=∀ (g:FuncId) (args:List AV) (hp:af) (e:di),(yz P hp.length g args).run hp=some e→∀ (E:Env) (w:World) (vs:List Value),Inv E hp w→an E true args vs →
 e.wr=[]∧Calls P g vs.toArray w (bO E w hp (.val e.val))
theorem MM[ab]{C:Ctx}(bL:C.Ok){nm:Nat}{g:FuncId}{args:List AV}{hp:af}{e:di}(h:(yz C.P nm g args).run hp=some e):
  ∃ fn : Func, C.P.funcs[g]? = some fn ∧ fn.body.isSome = true ∧ (fn.name == "runtime.NumGoroutine") = false := by
 unfold yz at h
 split at h
 ·simp[RM.ae]at h
 rename_i fn hf
 split at h
 ·simp[RM.ae]at h
 rename_i c hc
 exact⟨fn,hf,by rw[hc]; rfl,bL.name g fn hf (by rw[hc]; rfl)⟩
def pC(hp:af):Option (Nat×aL)→af
 |none=>hp
 |some (m,o')=>match hp[m]? with
  |some (some _)=>hp.set m (some o')
  |_=>hp
theorem Cv{hp:af}{ov:Option (Nat×aL)}(n:Nat):(pC hp ov)[n]?=(hp[n]?).map fun o=>o.map fun o=>match ov with
  |some (m,o')=>(match Nat.beq m n with
   |true=>o'
   |false=>o)
  |none=>o:=by
 cases ov with
 |none=>cases h:hp[n]? with
  |none=>simp[pC,h]
  |some o=>cases o<;>simp[pC,h]
 |some q=>
  obtain⟨m,o'⟩:=q
  simp only[pC]
  by_cases hm:m=n
  ·subst hm
   have hb:Nat.beq m m=true:=Nat.beq_refl m
   split
   ·rename_i o ho
    rw[List.getElem?_set_self (List.getElem?_eq_some_iff.1 ho).1,ho]
    simp
   ·rename_i ho
    cases h:hp[m]? with
    |none=>simp
    |some o=>cases o with
     |none=>simp
     |some o=>exact absurd h (ho o)
  ·have hb:Nat.beq m n=false:=Bool.eq_false_iff.mpr fun h=>hm (Nat.eq_of_beq_eq_true h)
   have:(match hp[m]? with
    |some (some _)=>hp.set m (some o')
    |_=>hp)[n]?=hp[n]?:=by
    split
    ·rw[List.getElem?_set_ne hm]
    ·rfl
   rw[this]
   cases h:hp[n]? with
   |none=>simp
   |some o=>cases o<;>simp[hb]
theorem lD{hp:af}{ov:Option (Nat×aL)}:(pC hp ov).length=hp.length:=by
 unfold pC
 split
 ·rfl
 ·split<;>simp
def aP(hp:af)(ov:Option (Nat×aL))(nw:List aL):af:=pC hp ov++nw.map some
theorem nT{hp:af}{ov:Option (Nat×aL)}{nw:List aL}:(aP hp ov nw).length=hp.length+nw.length:=by
 simp[aP,lD]
theorem nk{α:Type}{hp:af}{ov:Option (Nat×aL)}{nw:List aL}(x:RM α):(x.gJ hp.length ov nw).run hp=x.run (aP hp ov nw) ∧
  (x.gJ hp.length ov nw).log hp=(x.log (aP hp ov nw)).filter (fun n=>Nat.blt n hp.length):=by
 induction x with
 |ret a=>exact⟨rfl,rfl⟩
 |fail=>exact⟨rfl,rfl⟩
 |get n k ih=>
  cases hb:Nat.ble hp.length n with
  |true=>
   have hle:=Nat.le_of_ble_eq_true hb
   have Jo:Nat.blt n hp.length=false:=Bool.eq_false_iff.mpr fun h=>by have:=Nat.le_of_ble_eq_true h; omega
   have e:(aP hp ov nw)[n]?=(nw[n-hp.length]?).map some:=by
    unfold aP
    rw[List.getElem?_append_right (by rw[lD]; exact hle),lD,List.getElem?_map]
   simp only[RM.gJ,RM.run,RM.log,hb,e,List.filter_cons,Jo,Bool.false_eq_true,if_false]
   cases h:nw[n-hp.length]? with
   |none=>exact⟨rfl,rfl⟩
   |some o=>exact ih o
  |false=>
   have bZ:n<hp.length:=by
    rcases Nat.lt_or_ge n hp.length with h|h
    ·exact h
    ·rw[Nat.ble_eq_true_of_le h]at hb; cases hb
   have Jo:Nat.blt n hp.length=true:=Nat.ble_eq_true_of_le bZ
   have e:(aP hp ov nw)[n]?=(pC hp ov)[n]?:=by
    unfold aP
    rw[List.getElem?_append_left (by rw[lD]; exact bZ)]
   simp only[RM.gJ,RM.run,RM.log,hb,e,Cv,List.filter_cons,Jo,if_true]
   cases h:hp[n]? with
   |none=>simp
   |some o=>cases o with
    |none=>simp
    |some o=>exact⟨(ih _).1,congrArg (n::·) (ih _).2⟩
def AX[ab](hp:af)(ov:Option (Nat×aL)):Prop:=∀ (E:Env) (w:World),Inv E (pC hp ov) w→Inv E hp w
theorem vE:∀ (xs l:List AV) (j q:Nat),(q<j∨j+xs.length≤q)→(setCells l j xs)[q]?=l[q]?
 |[],_,_,_,_=>rfl
 |x::xs,l,j,q,h=>by
  simp only[setCells]
  rw[vE xs _ _ q (by simp only[List.length_cons]at h; omega),List.getElem?_set_ne (by simp only[List.length_cons]at h; omega)]
theorem JY[ab]{E:Env}{l:List AV}{j s:Nat}{cs:List AV}(hs:cs.length=s)(ha:((l.drop j).take s).all isAny=true)(v:Value)(h:ai E true (.agg (setCells l j cs)) v):ai E true (.agg l) v:=by
 simp only[ai]at h ⊢
 obtain⟨c,rfl,hc⟩:=h
 refine⟨c,rfl,aH.of (an.dY ?_ ?_) hc.leaf⟩
 ·rw[←hc.FB.length,ox]
 ·intro q x u hx hu
  by_cases hq:q<j∨j+cs.length≤q
  ·obtain⟨u',LM,hr⟩:=hc.FB.get (i:=q) (x:=x) (by rw[vE _ _ _ _ hq]; exact hx)
   rw[hu]at LM
   cases LM
   exact hr
  ·have hm:x∈(l.drop j).take s:=by
    rw[List.mem_iff_getElem?]
    refine⟨q-j,?_⟩
    rw[List.getElem?_take_of_lt (by omega),List.getElem?_drop]
    have:j+(q-j)=q:=by omega
    rw[this]
    exact hx
   have:=List.all_eq_true.1 ha x hm
   unfold isAny at this
   split at this
   ·simp[ai]
   ·simp at this
theorem EN[ab]{P:Program}{hp H:af}{ev:Operand→AV}{nm n:Nat}{o:Oper}{o0 o':aL}{e:di}(h0:hp[n]?=some (some o0))(Y3:H[n]?=some (some o0))(hh:ru P ev o.op n o0=true)
  (he:(aK P nm ev o).run H=some e) (hw:e.wr=[(n,o')]):AX hp (some (n,o')):=by
 obtain⟨dst,op,type,pos,after,guard⟩:=o
 simp only[ru]at hh
 split at hh
 case h_2=>simp at hh
 rename_i t a x
 split at hh
 case h_2=>simp at hh
 rename_i r n' aq i j g f es ht ha
 split at hh
 case h_2=>simp at hh
 rename_i l hl
 simp only[Bool.and_eq_true]at hh
 obtain⟨⟨h1,h2⟩,h3⟩:=hh
 obtain rfl:=Nat.eq_of_beq_eq_true h1
 simp only[aK,oU,ht,ha,RM.run_bind]at he
 cases hq:(RM.arr n' aq).run H with
 |none=>rw[hq]at he; simp at he
 |some q=>
  obtain⟨g',c',f',es'⟩:=q
  have dR:=RM.kG hq
  rw[hq]at he
  simp only[Option.bind_some]at he
  obtain⟨gA,Gb⟩:=dR
  rw[Y3]at gA
  simp only[Option.some.injEq,aL.arr.injEq]at gA
  obtain⟨rfl,rfl,rfl,rfl⟩:=gA
  rw[hl]at he
  simp only[iL]at he
  split at he
  case h_2=>simp[RM.ae]at he
  rename_i e' yJ
  split at yJ
  case isFalse=>simp at yJ
  simp only[Option.some.injEq]at yJ
  subst yJ
  split at he
  case isFalse=>simp[RM.ae]at he
  rename_i hc
  simp only[RM.run_pure,Option.some.injEq]at he
  subst he
  simp only[List.cons.injEq,Prod.mk.injEq,true_and,and_true,Bool.false_and]at hw
  subst hw
  intro E w hI
  have hn:=(List.getElem?_eq_some_iff.1 h0).1
  have hi:=(List.getElem?_eq_some_iff.1 hl).1
  simp only[pC,h0]at hI
  have:=rI (e':=.agg l) hI (List.getElem?_set_self hn) (List.getElem?_set_self hi) (fun v hv=>JY hc.2.1 h3 v hv)
  rw[List.set_set,List.set_set,gQ hl,gQ h0]at this
  exact this
section
variable {C:Ctx}
theorem xA{hp:af}{n:Nat}{o0 o':aL}{nw:List aL}(h:hp[n]?=some (some o0)):ak (aP hp none nw) [(n,o')]=aP hp (some (n,o')) nw:=by
 have bZ:=(List.getElem?_eq_some_iff.1 h).1
 simp only[ak,aP,pC,h]
 rw[ir (by simp; omega),List.set_append_left _ _ bZ]
theorem EO{hp:af}{ov:Option (Nat×aL)}{nw:List aL}{n:Nat}{o':aL}(h:hp.length≤n):ak (aP hp ov nw) [(n,o')]=aP hp ov (Iw nw (n-hp.length) o'):=by
 have hl:=nT (hp:=hp) (ov:=ov) (nw:=nw)
 simp only[ak,setObj,hl,Iw]
 by_cases e:n=hp.length+nw.length
 ·simp_all[aP]
 ·rw[if_neg e,if_neg (by omega)]
  simp only[aP,List.map_set]
  rw[List.set_append_right _ _ (by rw[lD]; exact h),lD]
theorem pD{hp:af}{ov:Option (Nat×aL)}:∀ (wr:List (Nat×aL)) {nw:List aL},(∀ q∈wr,hp.length≤q.1)→ak (aP hp ov nw) wr=aP hp ov (oZ hp.length nw wr)
 |[],_,_=>rfl
 |(n,o)::r,nw,h=>by
  have h1:=EO (ov:=ov) (nw:=nw) (o':=o) (h (n,o) (by simp))
  simp only[ak]at h1
  simp only[ak,oZ,h1]
  exact pD r fun q hq=>h q (by simp[hq])
theorem zK[ab](ha:∀ f d,C.acc f d=false)(hn:∀ f d,C.qK f d=[]){ops:Array Oper}{f:FuncId}{hp:af}{r:List Oper}{dst:Option Tmp}{op:Op}{type:TypeId}{pos:String}
  {after:Array Edge} {guard:Option (Nat×Bool)} {q q':v9} (h1:∀ c,op≠.call c) (h2:op≠.assign (.const (.slice none 0 0)))
  (h:(do
      let e ←(aK C.P (hp.length+q.nw.length) (ay q.fr) ⟨dst,op,type,pos,after,guard⟩).gJ hp.length q.ov q.nw
      match e.wr.all fun q=>Nat.ble hp.length q.1 with
      |true=>iQ C.P hp.length ops r { q with fr:=bC q.fr dst e.val,nw:=oZ hp.length q.nw e.wr }
      |false=>(match q.ov,e.wr with
       |none,[(n,o')]=>.get n fun o0=>(match ru C.P (ay q.fr) op n o0 with
         |true=>iQ C.P hp.length ops r { q with fr:=bC q.fr dst e.val,ov:=some (n,o') }
         |false=>.fail)
       |_,_=>.fail):RM v9).run hp=some q') (k:Nat) :
  ∃ q1:v9,fw C (k+1) ⟨dst,op,type,pos,after,guard⟩ ⟨f,q.fr,aP hp q.ov q.nw⟩=some (.norm ⟨f,q1.fr,aP hp q1.ov q1.nw⟩)∧(AX hp q.ov→AX hp q1.ov)∧(iQ C.P hp.length ops r q1).run hp=some q':=by
 obtain⟨fr,ov,nw⟩:=q
 simp only[RM.run_bind,(nk _).1]at h
 cases he:(aK C.P (hp.length+nw.length) (ay fr) ⟨dst,op,type,pos,after,guard⟩).run (aP hp ov nw) with
 |none=>rw[he]at h; simp at h
 |some e=>
  rw[he]at h
  simp only[Option.bind_some]at h
  have D5:C.qK f=fun _=>[]:=funext fun d=>hn f d
  have bE:fw C (k+1) ⟨dst,op,type,pos,after,guard⟩ ⟨f,fr,aP hp ov nw⟩=some (.norm ⟨f,bC fr dst e.val,ak (aP hp ov nw) e.wr⟩):=by
   rw[fw]
   split
   ·rename_i c hc; exact absurd hc (h1 c)
   ·rename_i hc; exact absurd hc h2
   ·simp only[nT,he,D5]
    cases dst<;>rfl
  split at h
  ·rename_i hb
   refine⟨⟨bC fr dst e.val,ov,oZ hp.length nw e.wr⟩,bE.trans ?_,id,h⟩
   rw[pD e.wr fun q hq=>Nat.le_of_ble_eq_true (List.all_eq_true.1 hb q hq)]
  ·cases ov with
   |some _=>simp[RM.ae]at h
   |none=>
    split at h
    case h_2=>simp[RM.ae]at h
    rename_i n o' _ AB
    simp only[RM.run]at h
    split at h
    case h_2=>simp at h
    rename_i o0 ho
    split at h
    case h_2=>simp[RM.ae]at h
    rename_i hh
    have cZ:(aP hp none nw)[n]?=some (some o0):=by
     grind[aP,pC]
    refine⟨⟨bC fr dst e.val,some (n,o'),nw⟩,bE.trans ?_,fun _=>EN (o:=⟨dst,op,type,pos,after,guard⟩) ho cZ hh he AB,h⟩
    rw[AB,xA (o':=o') ho]
theorem np[ab](ha:∀ f d,C.acc f d=false)(hn:∀ f d,C.qK f d=[]){ops:Array Oper}{f:FuncId}{hp:af}:∀ (l:List Oper) (q q':v9),(iQ C.P hp.length ops l q).run hp=some q' →
  (AX hp q.ov→AX hp q'.ov)∧∀ k,cE (fun o s=>fw C (k+1) o s) ops l ⟨f,q.fr,aP hp q.ov q.nw⟩=some (.norm ⟨f,q'.fr,aP hp q'.ov q'.nw⟩)
 |[],q,q',h=>by
  simp only[iQ,RM.run_pure,Option.some.injEq]at h
  subst h
  exact⟨id,fun k=>rfl⟩
 |o::r,q,q',h=>by
  obtain⟨dst,op,type,pos,after,guard⟩:=o
  simp only[iQ]at h
  simp only[cE]
  cases hw:cF ops q.fr ⟨dst,op,type,pos,after,guard⟩ with
  |none=>rw[hw]at h; simp[RM.ae]at h
  |some b=>
   rw[hw]at h
   cases b with
   |false=>exact np ha hn r { q with fr:=bC q.fr dst .undef } _ h
   |true=>
    simp only at h ⊢
    split at h
    ·simp[RM.ae]at h
    ·cases dst with
     |none=>
      obtain⟨i1,i2⟩:=np ha hn (f:=f) r q _ h
      refine⟨i1,fun k=>?_⟩
      have bE:fw C (k+1) ⟨none,.assign (.const (.slice none 0 0)),type,pos,after,guard⟩ ⟨f,q.fr,aP hp q.ov q.nw⟩=some (.norm ⟨f,q.fr,aP hp q.ov q.nw⟩):=by
       rw[fw]; rfl
      rw[bE]
      exact i2 k
     |some d=>
      obtain⟨i1,i2⟩:=np ha hn (f:=f) r { q with fr:=q.fr.set d (.lit cK) } _ h
      refine⟨i1,fun k=>?_⟩
      have bE:fw C (k+1) ⟨some d,.assign (.const (.slice none 0 0)),type,pos,after,guard⟩ ⟨f,q.fr,aP hp q.ov q.nw⟩=some (.norm ⟨f,q.fr.set d (.lit cK),aP hp q.ov q.nw⟩):=by
       rw[fw]
       simp only[ha,Bool.false_eq_true,if_false]
      rw[bE]
      exact i2 k
    ·rename_i h1 h2
     obtain⟨q1,g1,g2,g3⟩:=zK ha hn (f:=f) h1 h2 h 0
     obtain⟨i1,i2⟩:=np ha hn (f:=f) r _ _ g3
     refine⟨fun hw=>i1 (g2 hw),fun k=>?_⟩
     obtain⟨q1',MV,_,Y4⟩:=zK ha hn (f:=f) h1 h2 h k
     rw[MV]
     exact(np ha hn (f:=f) r _ _ Y4).2 k
theorem JZ[ab](ha:∀ f d,C.acc f d=false)(hn:∀ f d,C.qK f d=[])(hh:∀ f d,C.ie f d=[]){f:FuncId}{hp:af}:∀ (c:Code) (q:v9) (q':v9×Bool),(gw C.P hp.length c q).run hp=some q' →
  (AX hp q.ov→AX hp q'.1.ov)∧∃ k,bQ C k c ⟨f,q.fr,aP hp q.ov q.nw⟩=some (match q'.2 with|true=>.ret ⟨f,q'.1.fr,aP hp q'.1.ov q'.1.nw⟩|false=>.norm ⟨f,q'.1.fr,aP hp q'.1.ov q'.1.nw⟩):=by
 intro c
 induction c with
 |skip=>intro q q' h; simp only[gw,RM.run_pure,Option.some.injEq]at h; subst h; exact⟨id,1,by simp[bQ]⟩
 |ret=>intro q q' h; simp only[gw,RM.run_pure,Option.some.injEq]at h; subst h; exact⟨id,1,by simp[bQ]⟩
 |seq a b Ga DS=>
  intro q q' h
  simp only[gw,RM.run_bind]at h
  cases hq:(gw C.P hp.length a q).run hp with
  |none=>rw[hq]at h; simp at h
  |some q1=>
   rw[hq]at h
   simp only[Option.bind_some]at h
   obtain⟨w1,k1,h1⟩:=Ga q q1 hq
   obtain⟨q1,r1⟩:=q1
   cases r1 with
   |true=>
    simp only[RM.run_pure,Option.some.injEq]at h
    subst h
    exact⟨w1,k1+1,by simp only[bQ,h1]⟩
   |false=>
    simp only at h h1 w1
    obtain⟨w2,k2,h2⟩:=DS q1 q' h
    refine⟨fun hw=>w2 (w1 hw),k1+k2+1,?_⟩
    have g1:=(dG C a ⟨f,q.fr,aP hp q.ov q.nw⟩).le h1 k2
    have g2:=(dG C b ⟨f,q1.fr,aP hp q1.ov q1.nw⟩).le h2 k1
    rw[Nat.add_comm]at g2
    simp only[bQ,g1,g2]
 |cond o a b Ga DS=>
  intro q q' h
  simp only[gw]at h
  split at h
  ·rename_i he
   obtain⟨w,k,hk⟩:=Ga q q' h
   exact⟨w,k+1,by simp only[bQ,he]; exact hk⟩
  ·rename_i he
   obtain⟨w,k,hk⟩:=DS q q' h
   exact⟨w,k+1,by simp only[bQ,he]; exact hk⟩
  ·simp[RM.ae]at h
 |region id ops draw=>
  intro q q' h
  cases draw with
  |true=>simp[gw,RM.ae]at h
  |false=>
   simp only[gw,RM.run_bind]at h
   cases hq:(iQ C.P hp.length ops ops.toList q).run hp with
   |none=>rw[hq]at h; simp at h
   |some q1=>
    rw[hq]at h
    simp only[Option.bind_some,RM.run_pure,Option.some.injEq]at h
    subst h
    obtain⟨w1,h1⟩:=np ha hn (f:=f) _ _ _ hq
    exact⟨w1,2,by simp only[bQ,hh,gC]; exact h1 0⟩
 |_=>intro q q' h; simp[gw,RM.ae]at h
def Gc(nm:Nat)(ov:Option (Nat×aL)):Prop:=∀ n o,ov=some (n,o)→o.below nm=true
theorem MU[ab]{g:FuncId}{args:List AV}{hp:af}{e:di}{P:Program}(hP:C.P=P)(ha:∀ f d,C.acc f d=false)(hn:∀ f d,C.qK f d=[])(Y5:∀ f d,C.ie f d=[])(h:(yz P hp.length g args).run hp=some e):
  e.wr=[]∧below hp.length e.val=true∧∃ ov nw,AX hp ov∧Gc hp.length ov∧∃ k,lO C k g args hp=some (.val e.val,aP hp ov nw):=by
 subst hP
 unfold yz at h
 split at h
 ·simp[RM.ae]at h
 rename_i fn hf
 split at h
 ·simp[RM.ae]at h
 rename_i c hc
 split at h
 ·simp[RM.ae]at h
 rename_i hD
 rw[RM.run_bind]at h
 cases hq:(gw C.P hp.length c ⟨args++List.replicate (fn.ntmps-args.length) .undef,none,[]⟩).run hp with
 |none=>rw[hq]at h; simp at h
 |some q=>
  rw[hq]at h
  simp only[Option.bind_some,RM.run_bind,(nk _).1]at h
  cases hl:(aR C.P q.1.fr fn.results.toList).run (aP hp q.1.ov q.1.nw) with
  |none=>rw[hl]at h; simp at h
  |some l=>
   rw[hl]at h
   simp only[Option.bind_some]at h
   split at h
   case h_2=>simp[RM.ae]at h
   rename_i hb
   simp only[RM.run_pure,Option.some.injEq]at h
   subst h
   simp only[Bool.and_eq_true]at hb
   obtain⟨Y6,k,hk⟩:=JZ ha hn Y5 (f:=g) c ⟨_,none,[]⟩ q hq
   refine⟨rfl,hb.1,q.1.ov,q.1.nw,Y6 (fun _ _ h=>h),?_,k+1,?_⟩
   ·intro n o ho
    have:=hb.2
    rw[ho]at this
    exact this
   have e:aP hp none []=hp:=by simp[aP,pC]
   simp only[e]at hk
   simp only[lO,hf,hc,hD,hk]
   cases q.2<;>simp only[hl]
mutual
theorem uu{E:Env}{n:Nat}(hn:E.L=n){o:Bool}:∀ {x:AV} {v:Value},ai E o x v→below n x=true
 |.lit _,v,_=>rfl
 |.agg l,v,h=>by
  simp only[ai]at h
  obtain⟨c,_,hc⟩:=h
  simp only[below]
  exact jA hn hc.FB
 |.jj l,v,h=>by
  simp only[ai]at h
  obtain⟨c,_,hc⟩:=h
  simp only[below]
  exact jA hn hc
 |.fZ t x,v,h=>by
  simp only[ai]at h
  obtain⟨y,_,hy⟩:=h
  simp only[below]
  exact uu hn hy
 |.iK fn f c,v,h=>by
  simp only[ai]at h
  obtain⟨_,_,_,h1,h2⟩:=h
  simp only[below,Bool.and_eq_true]
  exact⟨jA hn h1,jA hn h2⟩
 |.sl _,v,_=>rfl
 |.oT _ _,v,_=>rfl
 |.nz,v,_=>rfl
 |.bc _ _,v,_=>rfl
 |.ref m _ _ _,v,h=>by
  simp_all[ai,below]
 |.bp _ m _ _ _ _,v,h=>by
  simp_all[ai,below]
 |.iI m _ _ _ _ _,v,h=>by
  simp_all[ai,below]
 |.mp _ m,v,h=>by
  simp_all[ai,below]
 |.any,v,_=>rfl
theorem jA{E:Env}{n:Nat}(hn:E.L=n){o:Bool}:∀ {l:List AV} {c:List Value},an E o l c→cN n l=true
 |[],_,_=>rfl
 |x::xs,v::vs,h=>by
  simp only[an]at h
  simp only[cN,Bool.and_eq_true]
  exact⟨uu hn h.1,jA hn h.2⟩
 |_::_,[],h=>by simp[an]at h
end
theorem zM{n:Nat}:∀ {l:List AV},(∀ (i:Nat) (x:AV),l[i]?=some x→below n x=true)→cN n l=true
 |[],_=>rfl
 |x::xs,h=>by
  simp only[cN,Bool.and_eq_true]
  exact⟨h 0 x rfl,zM fun i y hy=>h (i+1) y hy⟩
theorem Ho[ab]{E:Env}{hp:af}{w:World}(hI:Inv E hp w){n:Nat}{o:aL}(ho:hp[n]?=some (some o)):o.below hp.length=true:=by
 have hl:=hI.len.symm
 cases o with
 |arr g c f es=>
  simp only[aL.below,Bool.or_eq_true]
  refine .inr (zM fun i x hx=>?_)
  obtain⟨l,_,_,h3⟩:=hI.objs _ _ ho
  cases hb:l.kB with
  |none=>
   simp_all
  |some b=>
   rw[hb]at h3
   obtain⟨_,_,_,_,_,_,_,_,a7⟩:=h3
   obtain⟨v,hv,_⟩:=a7 _ _ hx
   exact uu hl hv
 |ga k vs=>
  simp only[aL.below]
  obtain⟨_,_,_,us,_,_,_,_,_,_,_,h8⟩:=hI.objs _ _ ho
  exact jA hl h8
theorem Hl[ab]{E:Env}{hp:af}{w w':World}(hI:Inv E hp w){ov:Option (Nat×aL)}{nw:List aL}(hw:AX hp ov)(hb:Gc hp.length ov){r:AV}(hr:below hp.length r=true){en:Ending}
  (h:bO E w (aP hp ov nw) (.val r) en w'):bO E w hp (.val r) en w':=by
 obtain⟨E',hx,hY,hf,cy⟩:=h
 have Oe:(aP hp ov nw).take hp.length=pC hp ov:=by
  unfold aP
  rw[←lD (ov:=ov),List.take_left]
 have bf:((aP hp ov nw).take hp.length).all (ki hp.length)=true:=by
  rw[Oe,List.all_eq_true]
  intro o ho
  obtain⟨i,hi⟩:=List.mem_iff_getElem?.1 ho
  rw[Cv]at hi
  cases h:hp[i]? with
  |none=>rw[h]at hi; simp at hi
  |some o1=>
   rw[h]at hi
   cases o1 with
   |none=>
    simp only[Option.map_some,Option.map_none,Option.some.injEq]at hi
    subst hi
    rfl
   |some o1=>
    simp only[Option.map_some,Option.some.injEq]at hi
    subst hi
    simp only[ki]
    have h1:=Ho hI h
    cases ov with
    |none=>exact h1
    |some q=>
     obtain⟨m,o'⟩:=q
     simp only
     split
     ·exact hb _ _ rfl
     ·exact h1
 obtain⟨h1,h2,h3⟩:=te hY (by rw[nT]; omega) bf
 rw[Oe]at h1
 refine⟨E'.lower hp.length,⟨hx.m,fun n hn aq l h=>hx.ρ n hn aq l h,by simp[Env.lower,hI.len]⟩,hw _ _ h1,hf.trans h2,?_⟩
 cases en with
 |returned v=>exact ai.down h3 hr cy
 |panicked _=>exact cy.elim
 |outgrown=>exact cy.elim
end
end Go.PI
end
section
/- PI, part Z: the theorem: what the evaluator answers is what the machine does. -/
namespace Go.PI
theorem Hi[ab]{C:Ctx}{k:Nat}:F6 (fun nm o fr=>ig C k nm o fr):=by
 intro nm o fr yK h
 cases k with
 |zero=>rfl
 |succ k=>
  have DI:=Cb (P:=C.P) (nm:=nm) h
  obtain⟨dst,op,type,pos,after,guard⟩:=o
  cases op with
  |call c=>
   obtain⟨callee,args,argTypes⟩:=c
   cases callee with
   |builtin b=>simp only[ig]; exact DI
   |invoke r m=>
    have h1:ay fr r=ay yK r:=h r (by simp[Op.operands,Call.operands])
    have h2:args.toList.map (ay fr)=args.toList.map (ay yK):=List.map_congr_left fun x hx=>h x (by simp[Op.operands,Call.operands]; exact .inr (by simpa using hx))
    simp only[ig,h1,h2]
   |value f=>
    have h1:ay fr f=ay yK f:=h f (by simp[Op.operands,Call.operands])
    have h2:args.toList.map (ay fr)=args.toList.map (ay yK):=List.map_congr_left fun x hx=>h x (by simp[Op.operands,Call.operands]; exact .inr (by simpa using hx))
    simp only[ig,h1,h2]
  |_=>simp only[ig]; exact DI
theorem Ck[ab]{C:Ctx}(bL:C.Ok)(TC:∀ g,C.kind g=.imp→JL C.P){k:Nat}(hF:lA C k)(hP:uj C k):rE C.P (fun nm o fr=>ig C (k+1) nm o fr):=by
 intro rd x B E s a w e K Q hs nJ h hK
 have bE:=fun y=>gP hs.inv.jk hs.fr y
 have fj:au x.o.op=false→x.at s.hp.length=s.hp.length:=fun h=>by simp only[Item.at,h]
 have Rj:au x.o.op=true→s.hp[x.at s.hp.length]?=some none:=fun h=>by simp only[Item.at,h]; exact nJ h
 clear nJ
 have nJ:=Rj
 clear Rj
 obtain⟨idx,nm,o⟩:=x
 generalize Item.at ⟨idx,nm,o⟩ s.hp.length=nm at h nJ fj
 simp only at h nJ fj hK ⊢
 have TB:(aK C.P nm (ay s.fr) o).run s.hp=some e→o.wpIn (WF rd) 0 C.P a w K Q:=by
  intro h
  cases pa:au o.op with
  |true=>exact wz hs (sS hs.inv (.inr (nJ pa)) bE h) hK
  |false=>
   rw[JF (nm':=s.hp.length) pa]at h
   exact wz hs (sS hs.inv (.inl rfl) bE h) hK
 obtain⟨dst,op,type,pos,after,guard⟩:=o
 cases op with
 |call c=>
  obtain⟨callee,args,argTypes⟩:=c
  cases callee with
  |builtin b=>simp only[ig]at h; exact TB h
  |invoke rv m=>
   simp only[ig]at h
   split at h
   ·simp[RM.ae]at h
   rename_i g y cy
   have iV:=iU bE args.toList
   split at h
   case h_2=>simp[RM.ae]at h
   rw[RM.run_bind]at h
   cases hq:(kT C k g (y::args.toList.map (ay s.fr))).run s.hp with
   |none=>rw[hq]at h; simp at h
   |some q=>
    obtain⟨res,wr⟩:=q
    rw[hq]at h
    simp only[Option.bind_some]at h
    cases res with
    |jJ v=>simp[RM.ae]at h
    |val r=>
     simp only[RM.run_pure,Option.some.injEq]at h
     subst h
     obtain⟨vs',lR,aU⟩:=AP (w:=w) (o:=⟨dst,.call ⟨.invoke rv m,args,argTypes⟩,type,pos,after,guard⟩) rfl (bE rv) iV cy (AR bL hq)
     have gO:=hP g _ s.hp _ wr hq E w vs' hs.inv lR
     refine xv rfl aU gO (fun v w' hp=>?_) (fun ch w' hp=>?_) (fun w' hp=>?_)
     ·obtain⟨E',hx,hY,hf,hr⟩:=hp
      exact hK E' w' v hx hf hY hr
     ·obtain⟨E',hx,hY,hf,hr⟩:=hp
      exact hr.elim
     ·obtain⟨E',hx,hY,hf,hr⟩:=hp
      exact hr.elim
  |value f=>
   simp only[ig]at h
   split at h
   ·simp[RM.ae]at h
   rename_i g vw cy
   have iV:=iU bE args.toList
   split at h
   ·rename_i pa
    obtain⟨vs',lR,aU⟩:=eT (w:=w) (bE f) iV cy (zE bL h)
    refine ql (c:=⟨.value f,args,argTypes⟩) rfl rfl aU (zG bL hF hs.inv (.inr (nJ pa)) lR h) (fun v w' hp=>?_) (fun ch w' hp=>?_) (fun w' hp=>?_)
    ·obtain⟨v',jM,E',hx,hY,hf,hr⟩:=hp
     cases jM
     exact hK E' w' v hx hf hY hr
    ·obtain⟨v',jM,_⟩:=hp
     cases jM
    ·obtain⟨v',jM,_⟩:=hp
     cases jM
   split at h
   case h_2=>
    rename_i hk
    have fin : (∃ fn : Func, C.P.funcs[g]? = some fn ∧ fn.body.isSome = true ∧ (fn.name == "runtime.NumGoroutine") = false) ∧
      ∀ (vs:List Value),an E true vw vs→Calls C.P g vs.toArray w (bO E w (ak s.hp e.wr) (.val e.val)):=by
     split at h
     ·rename_i hh he
      obtain⟨⟨fn,h1,h2⟩,h3⟩:=bL.qT g hh vw s.hp e he h
      exact⟨⟨fn,h1,h2,bL.name g fn h1 h2⟩,fun vs hv=>h3 E w vs hs.inv hv⟩
     ·refine⟨MM bL h,fun vs hv=>?_⟩
      rw[fj (by assumption)]at h
      obtain⟨e0,gO⟩:=TC g hk g vw s.hp _ h E w vs hs.inv hv
      rw[e0]
      exact gO
    obtain⟨vs',lR,aU⟩:=eT (w:=w) (bE f) iV cy fin.1
    refine ql (c:=⟨.value f,args,argTypes⟩) rfl rfl aU (fin.2 vs' lR) (fun v w' hp=>?_) (fun ch w' hp=>?_) (fun w' hp=>?_)
    ·obtain⟨E',hx,hY,hf,hr⟩:=hp
     exact hK E' w' v hx hf hY hr
    ·obtain⟨E',hx,hY,hf,hr⟩:=hp
     exact hr.elim
    ·obtain⟨E',hx,hY,hf,hr⟩:=hp
     exact hr.elim
   rw[RM.run_bind]at h
   cases hq:(kT C k g vw).run s.hp with
   |none=>rw[hq]at h; simp at h
   |some q=>
    obtain⟨res,wr⟩:=q
    rw[hq]at h
    simp only[Option.bind_some]at h
    cases res with
    |jJ v=>simp[RM.ae]at h
    |val r=>
     simp only[RM.run_pure,Option.some.injEq]at h
     subst h
     obtain⟨vs',lR,aU⟩:=eT (w:=w) (bE f) iV cy (AR bL hq)
     have gO:=hP g vw s.hp _ wr hq E w vs' hs.inv lR
     refine ql (c:=⟨.value f,args,argTypes⟩) rfl rfl aU gO (fun v w' hp=>?_) (fun ch w' hp=>?_) (fun w' hp=>?_)
     ·obtain⟨E',hx,hY,hf,hr⟩:=hp
      exact hK E' w' v hx hf hY hr
     ·obtain⟨E',hx,hY,hf,hr⟩:=hp
      exact hr.elim
     ·obtain⟨E',hx,hY,hf,hr⟩:=hp
      exact hr.elim
 |_=>simp only[ig]at h; exact TB h
theorem ni{I:Machine→Prop}{P:Program}{m m1 m2:Machine}(h:StepsIn I P m m2)(dK:m≠m2)(hs:step P m=.next m1):StepsIn I P m1 m2:=by
 cases h with
 |refl=>exact absurd rfl dK
 |head _ eV hr=>
  rw[hs]at eV
  cases eV
  exact hr
theorem mz{id:Nat}:∀ {k k':List Go.Item},exitTo id k=some k'→k'.length<k.length
 |[],k',h=>by simp[exitTo]at h
 |x::r,k',h=>by
  cases x with
  |inBlock Ix=>
   simp only[exitTo]at h
   split at h
   ·simp_all
   ·have:=mz h; simp; omega
  |_=>simp only[exitTo]at h; have:=mz h; simp; omega
theorem F9{b b':Frame}{a a':Act}{k k':List Go.Item}{cs:List Frame}{w w':World}(h:k.length≠k'.length):lone (b.atR a k) cs w≠lone (b'.atR a' k') cs w':=by
 intro e
 have h1:=congrArg (fun m:Machine=>(m.gs[0]?).map fun g=>g.frame.todo.length) e
 have h2:some k.length=some k'.length:=h1
 simp only[Option.some.injEq]at h2
 exact h h2
def rK:Go.Item→Bool
 |.code (.loop _)=>true
 |_=>false
theorem Cl{b b':Frame}{a a':Act}{k k':List Go.Item}{cs:List Frame}{w w':World}{c:Code}{x:Go.Item}(hx:rK x=false):lone (b.atR a (.code (.loop c)::k)) cs w≠lone (b'.atR a' (x::k')) cs w':=by
 intro e
 have h1:=congrArg (fun m:Machine=>(m.gs[0]?).map fun g=>(g.frame.todo.head?).map rK) e
 have h2:some (some true)=some (some (rK x)):=h1
 rw[hx]at h2
 simp at h2
theorem yN{F:Fence}{n:Nat}{P:Program}{c:Code}{Q:Exit→Act→World→Prop}{a:Act}{w:World}(hg:∀ l a w,¬Q (.goto l) a w)(ho:∀ a w,¬Q .outgrown a w)
  (h:c.wpIn F n P (Exit.then (fun a w=>(Code.loop c).wpIn F n P Q a w) Q) a w):(Code.loop c).wpIn F n P Q a w:=by
 intro b k cs dA hb hr
 have h0:(lone (b.atR a (.code (.loop c)::k)) cs w).fenced P F:=fenced_calm hb hr rfl
 obtain⟨e,a₁,w₁,hq,cJ⟩:=h b (.inLoop c::k) cs dA hb hr
 cases e with
 |normal=>
  obtain⟨e₂,a₂,w₂,wQ,jL⟩:=hq b k cs dA hb hr
  have h1:(lone (b.atR a₁ (.inLoop c::k)) cs w₁).fenced P F:=fenced_calm hb hr rfl
  refine⟨e₂,a₂,w₂,wQ,ArrivesIn.of_steps (StepsIn.head h0 stepR_loop (StepsIn.trans cJ (.one h1 stepR_inLoop))) ?_⟩
  have hs:step P (lone (b.atR a₁ (.code (.loop c)::k)) cs w₁)=.next (lone (b.atR a₁ (.code c::.inLoop c::k)) cs w₁):=stepR_loop
  cases e₂ with
  |normal=>exact ni jL (F9 (k:=.code (.loop c)::k) (k':=k) (by simp)) hs
  |exit id=>
   exact⟨fun k' hk=>ni (jL.1 k' hk) (F9 (k:=.code (.loop c)::k) (k':=k') (by have:=mz hk; simp; omega)) hs,
    fun ld hk=>by
     obtain⟨k₁,e1,e2⟩:=jL.2 ld hk
     exact⟨k₁,e1,ni e2 (Cl rfl) hs⟩⟩
  |goto l=>exact absurd wQ (hg _ _ _)
  |ret=>
   refine⟨fun hn=>?_,fun hn=>?_⟩
   ·obtain⟨todo,h1⟩:=jL.1 hn
    refine⟨todo,ni h1 ?_ hs⟩
    intro e
    have h1:=congrArg (fun m:Machine=>(m.gs[0]?).map fun g=>(match g.frame.mode with|.run=>true|_=>false)) e
    have h2:some true=some false:=h1
    simp at h2
   ·obtain⟨k₁,h1⟩:=jL.2 hn
    exact⟨k₁,ni h1 (Cl rfl) hs⟩
  |panic ch=>
   obtain⟨todo,h1⟩:=jL
   refine⟨todo,ni h1 ?_ hs⟩
   intro e
   have h1:=congrArg (fun m:Machine=>(m.gs[0]?).map fun g=>(match g.frame.mode with|.run=>true|_=>false)) e
   have h2:some true=some false:=h1
   simp at h2
  |outgrown=>exact absurd wQ (ho _ _)
 |exit id=>exact⟨_,a₁,w₁,hq,.of_steps (.one h0 stepR_loop) (.pass (x:=.inLoop c) rfl (fun _ _=>.inl (by simp)) cJ)⟩
 |goto l=>exact⟨_,a₁,w₁,hq,.of_steps (.one h0 stepR_loop) (.pass (x:=.inLoop c) rfl (fun _ _=>.inl (by simp)) cJ)⟩
 |ret=>exact⟨_,a₁,w₁,hq,.of_steps (.one h0 stepR_loop) (.pass (x:=.inLoop c) rfl (fun _ _=>.inl (by simp)) cJ)⟩
 |panic ch=>exact⟨_,a₁,w₁,hq,.of_steps (.one h0 stepR_loop) (.pass (x:=.inLoop c) rfl (fun _ _=>.inl (by simp)) cJ)⟩
 |outgrown=>exact⟨_,a₁,w₁,hq,.of_steps (.one h0 stepR_loop) (.pass (x:=.inLoop c) rfl (fun _ _=>.inl (by simp)) cJ)⟩
theorem MN[ab]{B:oz}{E:Env}{w:World}{o:Out}:∀ l a w',¬bn B E w o (.goto l) a w':=by
 rintro l a w' ⟨E',_,_,h⟩
 cases o<;>exact h
theorem Pf[ab]{B:oz}{E:Env}{w:World}{o:Out}:∀ a w',¬bn B E w o .outgrown a w':=by
 rintro a w' ⟨E',_,_,h⟩
 cases o<;>exact h
theorem JM[ab]{C:Ctx}(bL:C.Ok){k:Nat}(hF:lA C k){B:oz}(Rk:B.rg=true)(Oc:B.lb=none){E:Env}{s:St}{a:Act}{w:World}(hs:cG B E s a w){f:Operand}{ps:Array Tmp}{as bd:Code}{o:Out}
  (h:bQ C (k+1) (.rangeFunc f ps as bd) s=some o):(Code.rangeFunc f ps as bd).wpIn (WF none) 0 C.P (bn B E w o) a w:=by
 simp only[bQ]at h
 split at h
 case h_2=>simp at h
 rename_i g args cy
 split at h
 case h_2=>simp at h
 rename_i x wa bE
 refine wpIn_rangeFunc fun fn _=>?_
 have LQ:Inv E s.hp (w.alloc (.deferred (some []))):=zx hs.inv (fun b hb=>by simp only[World.alloc,Array.getElem?_push,if_neg (by omega:¬b=w.heap.size)]) (by simp)
 have YL:Fr E w E (w.alloc (.deferred (some []))):=⟨rfl,rfl,rfl,by simp,fun b hb _=>by simp only[World.alloc,Array.getElem?_push,if_neg (by omega:¬b=w.heap.size)],fun _ h=>.inl h,fun _ _ h=>.inl h,fun b r hr=>⟨r,by have:=(Array.getElem?_eq_some_iff.1 hr).1; simp only[World.alloc,Array.getElem?_push,if_neg (by omega:¬b=w.heap.size)]; exact hr⟩⟩
 obtain⟨ku,qg,Od⟩:=Az LQ (n:=s.hp.length) (.inl rfl) (k:=.loop s.fn ps as bd .ready) (ob:=.loop { state:=.ready,pending:=none,fn,tmps:=a.tmps,params:=ps,assign:=as,body:=bd,defers:=w.heap.size }) (us:=a.tmps.toList)
  ⟨rfl,rfl,rfl,⟨rfl,rfl⟩,rfl⟩ (uo (u:=cV as++cV bd) 0 _ _ hs.fr)
 have ee:setObj s.hp s.hp.length (.ga (.loop s.fn ps as bd .ready) (mR (cV as++cV bd) 0 s.fr))=s.hp++[some (.ga (.loop s.fn ps as bd .ready) (tP as bd s.fr))]:=by simp[setObj,tP]
 rw[ee]at qg
 have kF:(w.alloc (.deferred (some []))).heap.size=w.heap.size+1:=by simp
 rw[kF]at ku qg Od
 generalize Qy:E.push s.hp.length 0 ⟨some (w.heap.size+1),1,0⟩=E2 at ku qg Od
 have db:E2.ρ s.hp.length 0=some ⟨some (w.heap.size+1),1,0⟩:=by rw[←Qy]; simp[Env.push]
 have hL:s.hp.length<E2.L:=by rw[←Qy]; simp only[Env.push]; omega
 have Rl:∀ b,E2.own b→E.own b∨b=w.heap.size+1:=by
  intro b hb
  rw[←Qy]at hb
  rcases hb with hb|hb
  ·exact .inl hb
  ·simp_all
 generalize hW:(w.alloc (.deferred (some []))).alloc (.loop { state:=.ready,pending:=none,fn,tmps:=a.tmps,params:=ps,assign:=as,body:=bd,defers:=w.heap.size })=w2 at qg Od
 have Ch:=(gP hs.inv.jk hs.fr f).mono ku
 have hy:an E2 true [.mp true s.hp.length] [Value.func (.yield (w.heap.size+1)) #[] #[]]:=by
  simp_all[an,ai]
 obtain⟨MO,rH,iw⟩:=uk bE
 obtain⟨vs',lR,aU⟩:=eT (w:=w2) Ch hy cy ⟨MO,rH,iw,bL.name g MO rH iw⟩
 rw[Sem.run_bind]at aU
 cases MP:(Deferred.ofValue (a.eval f) #[Value.func (.yield (w.heap.size+1)) #[] #[]]).run C.P w2 with
 |halt x' w'=>
  have EE:(Deferred.ofValue (a.eval f) [Value.func (.yield (w.heap.size+1)) #[] #[]].toArray).run C.P w2=.halt x' w':=MP
  rw[EE]at aU
  simp[Result.andThen]at aU
 |ok d Rm=>
  have EE:(Deferred.ofValue (a.eval f) [Value.func (.yield (w.heap.size+1)) #[] #[]].toArray).run C.P w2=.ok d Rm:=MP
  rw[EE]at aU
  simp only[Result.andThen]at aU
  refine⟨w.heap.size+1,[{ target:=.collected w.heap.size,args:=#[] }],w2,d,Rm,g,vs'.toArray,w2,?_,?_,fun _ _=>trivial,aU,fun h=>by simp[WF,Fence.wide]at h,?_⟩
  ·rw[←hW]
   exact run_enterLoop_outer fn a.tmps ps as bd
  ·simpa[resolve,rangeCall,Act.eval] using MP
  refine(wA (hF g args _ _ _ bE E2 w2 vs' qg lR) none _).mono fun e w3 cW=>?_
  cases e with
  |panicked ch=>obtain⟨_,_,_,_,hr⟩:=cW; exact hr.elim
  |outgrown=>obtain⟨_,_,_,_,hr⟩:=cW; exact hr.elim
  |returned v=>
   obtain⟨E3,LV,Rn,Ro,_⟩:=cW
   have Cm:=LV.ρ _ hL 0 _ db
   have after:∀ (st:kS) (j:Option Code),hG wa s.hp.length=some st→(∀ s' p',st.is s' p'→s'≠.busy∧p'=j) →
     ∃ w4,(Instr.endLoop (w.heap.size+1)).run C.P w3=.ok j w4∧∃ E4,Ext E E4∧Fr E w E4 w4 ∧
       cG B E4 { s with hp:=qU wa s.hp.length } { a with defers:=[{ target:=.collected w.heap.size,args:=#[] }]++a.defers } w4:=by
    intro st j gG hj
    obtain⟨YM,YN,YO,YP,YQ,EB⟩:=iy gG
    obtain⟨r3,u1,_,_,_,u5,_⟩:=nS Rn EB Cm rfl
    obtain⟨j1,j2⟩:=hj _ _ u5
    subst j2
    obtain⟨c1,c2⟩:=Cg Rn EB Cm rfl u1 (s':=.exhausted) (p':=r3.pending)
    have Pg:Fr E w E3 (w3.putObj (w.heap.size+1) (.loop { r3 with state:=.exhausted })):=((YL.trans Od).trans Ro).trans c2
    refine⟨_,run_endLoop u1 j1,E3,ku.trans LV,Pg,⟨hs.fr.mono (ku.trans LV),c1,?_,Nat.le_trans hs.bs Pg.size⟩⟩
    obtain⟨rs,Ph,UP,_,UQ⟩:=hs.df.mono Pg
    have MQ:¬E2.own w.heap.size:=fun ho=>by
     rcases Rl _ ho with h|h
     ·have:=hs.inv.oI _ h; omega
     ·omega
    have xx:w.heap.size<w2.heap.size:=by rw[←hW]; simp; omega
    have hold:∀ r∈rs,r<w.heap.size:=by
     intro r hr
     obtain⟨rs0,e1,_,_,e3⟩:=hs.df
     rw[e1]at Ph
     have hm:∀ (l l':List Nat),l.map (fun r=>({ target:=.collected r,args:=#[] }:Deferred))=l'.map (fun r=>{ target:=.collected r,args:=#[] })→l=l':=by
      intro l
      induction l with
      |nil=>simp_all
      |cons y ys ih=>
       intro l' h
       cases l' with
       |nil=>simp at h
       |cons z zs=>
        grind
     have:=hm _ _ (List.append_cancel_right Ph)
     subst this
     exact(Array.getElem?_eq_some_iff.1 (e3 r hr).2.2).1
    refine⟨w.heap.size::rs,by simp only[List.map_cons,List.cons_append,←Ph]; rfl,List.nodup_cons.2 ⟨fun hm=>?_,UP⟩,⟨fun h=>(by rw[Rk]at h; cases h),fun _ h=>(by rw[Oc]at h; cases h)⟩,fun r hr=>?_⟩
    ·have:=hold _ hm; omega
    ·rcases List.mem_cons.1 hr with rfl|hr
     ·refine⟨hs.bs,fun ho=>?_,?_⟩
      ·rcases Ro.own _ ho with h|h
       ·exact MQ h
       ·omega
      ·rw[World.putObj_heap_other (by omega),Ro.same _ xx MQ,←hW]
       show ((w.heap.push _).push _)[w.heap.size]?=_
       simp only[Array.getElem?_push,Array.size_push,if_true]
       rw[if_neg (by omega)]
     ·exact UQ r hr
   unfold u7 at h
   split at h
   ·rename_i gG
    simp only[Option.some.injEq]at h
    subst h
    obtain⟨w4,h1,E4,h2,h3,h4⟩:=after _ none gG (fun s' p' hp=>⟨by rw[hp.1]; simp,hp.2⟩)
    exact⟨none,w4,h1,E4,h2,h3,h4⟩
   ·rename_i gG
    simp only[Option.some.injEq]at h
    subst h
    obtain⟨w4,h1,E4,h2,h3,h4⟩:=after _ (some .ret) gG (fun s' p' hp=>⟨by rw[hp.1]; simp,hp.2⟩)
    exact⟨some .ret,w4,h1,wpIn_ret ⟨E4,h2,h3,h4⟩⟩
   ·rename_i id gG
    simp only[Option.some.injEq]at h
    subst h
    obtain⟨w4,h1,E4,h2,h3,h4⟩:=after _ (some (.exit id)) gG (fun s' p' hp=>⟨by rw[hp.1]; simp,hp.2⟩)
    exact⟨some (.exit id),w4,h1,wpIn_exit ⟨E4,h2,h3,rfl,h4⟩⟩
   ·simp at h
theorem AW{P:Program}{w:World}{l:Nat}{r:Loop}(h:w.heap[l]?=some (.loop r))(fn:FuncId)(tmps:Array Value)(ps:Array Tmp)(as bd:Code):(Instr.enterLoop fn tmps ps as bd (some l)).run P w =
  .ok (w.heap.size,[]) (w.alloc (.loop { state:=.ready,pending:=none,fn,tmps,params:=ps,assign:=as,body:=bd,defers:=r.defers })):=by
 unfold Instr.enterLoop
 simp only[Sem.run_bind,run_getLoop h,run_newObj_alloc,Result.andThen,Sem.run_pure]
theorem JN[ab]{C:Ctx}(bL:C.Ok){k:Nat}(hF:lA C k){B:oz}{bl:Nat}(Oc:B.lb=some bl){E:Env}{s:St}{a:Act}{w:World}(hs:cG B E s a w){f:Operand}{ps:Array Tmp}{as bd:Code}{o:Out}
  (h:bQ C (k+1) (.rangeFunc f ps as bd) s=some o):(Code.rangeFunc f ps as bd).wpIn (WF (some bl)) 0 C.P (bn B E w o) a w:=by
 simp only[bQ]at h
 split at h
 case h_2=>simp at h
 rename_i g args cy
 split at h
 case h_2=>simp at h
 rename_i x wa bE
 obtain⟨r0,DN⟩:∃ r0:Loop,w.heap[bl]?=some (.loop r0):=by
  obtain⟨_,_,_,⟨_,h2⟩,_⟩:=hs.df
  exact h2 bl Oc
 refine wpIn_rangeFunc fun fn _=>?_
 obtain⟨ku,qg,Od⟩:=Az hs.inv (n:=s.hp.length) (.inl rfl) (k:=.loop s.fn ps as bd .ready) (ob:=.loop { state:=.ready,pending:=none,fn,tmps:=a.tmps,params:=ps,assign:=as,body:=bd,defers:=r0.defers }) (us:=a.tmps.toList)
  ⟨rfl,rfl,rfl,⟨rfl,rfl⟩,rfl⟩ (uo (u:=cV as++cV bd) 0 _ _ hs.fr)
 have ee:setObj s.hp s.hp.length (.ga (.loop s.fn ps as bd .ready) (mR (cV as++cV bd) 0 s.fr))=s.hp++[some (.ga (.loop s.fn ps as bd .ready) (tP as bd s.fr))]:=by simp[setObj,tP]
 rw[ee]at qg
 generalize Qy:E.push s.hp.length 0 ⟨some w.heap.size,1,0⟩=E2 at ku qg Od
 have db:E2.ρ s.hp.length 0=some ⟨some w.heap.size,1,0⟩:=by rw[←Qy]; simp[Env.push]
 have hL:s.hp.length<E2.L:=by rw[←Qy]; simp only[Env.push]; omega
 generalize hW:w.alloc (.loop { state:=.ready,pending:=none,fn,tmps:=a.tmps,params:=ps,assign:=as,body:=bd,defers:=r0.defers })=w2 at qg Od
 have Ch:=(gP hs.inv.jk hs.fr f).mono ku
 have hy:an E2 true [.mp true s.hp.length] [Value.func (.yield w.heap.size) #[] #[]]:=by
  simp_all[an,ai]
 obtain⟨MO,rH,iw⟩:=uk bE
 obtain⟨vs',lR,aU⟩:=eT (w:=w2) Ch hy cy ⟨MO,rH,iw,bL.name g MO rH iw⟩
 rw[Sem.run_bind]at aU
 cases MP:(Deferred.ofValue (a.eval f) #[Value.func (.yield w.heap.size) #[] #[]]).run C.P w2 with
 |halt x' w'=>
  have EE:(Deferred.ofValue (a.eval f) [Value.func (.yield w.heap.size) #[] #[]].toArray).run C.P w2=.halt x' w':=MP
  rw[EE]at aU
  simp[Result.andThen]at aU
 |ok d Rm=>
  have EE:(Deferred.ofValue (a.eval f) [Value.func (.yield w.heap.size) #[] #[]].toArray).run C.P w2=.ok d Rm:=MP
  rw[EE]at aU
  simp only[Result.andThen]at aU
  refine⟨w.heap.size,[],w2,d,Rm,g,vs'.toArray,w2,?_,?_,fun _ _=>trivial,aU,fun h=>by simp[WF,Fence.wide]at h,?_⟩
  ·rw[←hW]
   exact AW DN fn a.tmps ps as bd
  ·simpa[resolve,rangeCall,Act.eval] using MP
  refine(wA (hF g args _ _ _ bE E2 w2 vs' qg lR) (some bl) _).mono fun e w3 cW=>?_
  cases e with
  |panicked ch=>obtain⟨_,_,_,_,hr⟩:=cW; exact hr.elim
  |outgrown=>obtain⟨_,_,_,_,hr⟩:=cW; exact hr.elim
  |returned v=>
   obtain⟨E3,LV,Rn,Ro,_⟩:=cW
   have Cm:=LV.ρ _ hL 0 _ db
   have after:∀ (st:kS) (j:Option Code),hG wa s.hp.length=some st→(∀ s' p',st.is s' p'→s'≠.busy∧p'=j) →
     ∃ w4,(Instr.endLoop w.heap.size).run C.P w3=.ok j w4∧∃ E4,Ext E E4∧Fr E w E4 w4 ∧
       cG B E4 { s with hp:=qU wa s.hp.length } { a with defers:=[]++a.defers } w4:=by
    intro st j gG hj
    obtain⟨YM,YN,YO,YP,YQ,EB⟩:=iy gG
    obtain⟨r3,u1,_,_,_,u5,_⟩:=nS Rn EB Cm rfl
    obtain⟨j1,j2⟩:=hj _ _ u5
    subst j2
    obtain⟨c1,c2⟩:=Cg Rn EB Cm rfl u1 (s':=.exhausted) (p':=r3.pending)
    have Pg:Fr E w E3 (w3.putObj w.heap.size (.loop { r3 with state:=.exhausted })):=(Od.trans Ro).trans c2
    exact⟨_,run_endLoop u1 j1,E3,ku.trans LV,Pg,⟨hs.fr.mono (ku.trans LV),c1,hs.df.mono Pg,Nat.le_trans hs.bs Pg.size⟩⟩
   unfold u7 at h
   split at h
   ·rename_i gG
    simp only[Option.some.injEq]at h
    subst h
    obtain⟨w4,h1,E4,h2,h3,h4⟩:=after _ none gG (fun s' p' hp=>⟨by rw[hp.1]; simp,hp.2⟩)
    exact⟨none,w4,h1,E4,h2,h3,h4⟩
   ·rename_i gG
    simp only[Option.some.injEq]at h
    subst h
    obtain⟨w4,h1,E4,h2,h3,h4⟩:=after _ (some .ret) gG (fun s' p' hp=>⟨by rw[hp.1]; simp,hp.2⟩)
    exact⟨some .ret,w4,h1,wpIn_ret ⟨E4,h2,h3,h4⟩⟩
   ·rename_i id gG
    simp only[Option.some.injEq]at h
    subst h
    obtain⟨w4,h1,E4,h2,h3,h4⟩:=after _ (some (.exit id)) gG (fun s' p' hp=>⟨by rw[hp.1]; simp,hp.2⟩)
    exact⟨some (.exit id),w4,h1,wpIn_exit ⟨E4,h2,h3,rfl,h4⟩⟩
   ·simp at h
section
variable {ops:Array Oper}
theorem MR[ab]{P:Program}{Cn:Oper→St→Option Out}(dF:lB P Cn)(tf:∀ o s r,Cn o s=some r→(∃ s',r=.norm s')∨∃ v s',r=.jJ v s')(mg:kE 0 ops.toList=true){md:Region.Mode}
  (vq:oY md ops=true) {m:Nat} (vv:mv (bW ops.toList) ops.size m=true) {Q:Exit→Act→World→Prop} {E0:Env} {w0:World} {B:oz} {r:Option Nat} {out:Out}
  (hQ:∀ s',out=.norm s'→∀ E a w,Ext E0 E→Fr E0 w0 E w→cG B E s' a w→Q .normal a w)
  (hP:∀ v s',out=.jJ v s'→∀ E a w u,Ext E0 E→Fr E0 w0 E w→Inv E s'.hp w→ai E true v u→Marks B E w a.defers→Q (.panic [{ v:=u,recovered:=false }]) a w) :
  ∀ (t i:Nat) (aJ:Array Bool) (E:Env) (s:St) (a:Act) (w:World),i+t=ops.size→m≤i→aJ.size=ops.size→(∀ j,j<i→aJ.getD j true=true)→(∀ j,i≤j→j<ops.size→aJ.getD j true=false) →
    Ext E0 E→Fr E0 w0 E w→cG B E s a w→cE Cn ops (ops.toList.drop i) s=some out→wpAnyIn (WF r) 0 P md ops Q t aJ a w:=by
 intro t
 induction t with
 |zero=>
  intro i aJ E s a w YR hm dL JO MS hx eO hs aU
  rw[List.drop_of_length_le (by simp; omega)]at aU
  simp only[cE,Option.some.injEq]at aU
  refine⟨?_,hQ s aU.symm E a w hx eO hs⟩
  unfold Region.ready
  rw[List.filter_eq_nil_iff]
  intro j hj hc
  simp only[List.mem_range]at hj
  rw[JO j (by omega)]at hc
  simp at hc
 |succ t ih=>
  intro i aJ E s a w YR hm dL JO MS hx eO hs aU
  have JP:i<ops.size:=by omega
  refine⟨fun xr=>absurd xr (B9 vq dL JP (MS i (Nat.le_refl _) JP)),fun j hj=>?_⟩
  have zw:∀ k o,ops[k]?=some o→aJ.getD k true=true→∀ p,rm (bW ops.toList) k p=true→aJ.getD p false=true:=by
   intro k o hk hl p hp
   have UC:k<ops.size:=(Array.getElem?_eq_some_iff.1 hk).1
   have GP:k<i:=by
    grind
   have TC:=MJ mg hk hp
   have:=JO p (by omega)
   rw[←td (a:=aJ) (by omega) true false]
   exact this
  obtain⟨Qq,Qr,YS⟩:=vt mg dL zw hj
  have YT:j=i:=by
   rcases Nat.lt_trichotomy j i with h|h|h
   ·rw[JO j h]at Qr; cases Qr
   ·exact h
   ·have:=YS i (vu vv (by omega) Qq h)
    have h2:=MS i (Nat.le_refl _) JP
    rw[td (by omega) true false]at h2
    rw[this]at h2; cases h2
  subst YT
  obtain⟨o,ho⟩:∃ o,ops[j]?=some o:=⟨ops[j],by simp[JP]⟩
  have Rp:ops.toList.drop j=o::ops.toList.drop (j+1):=by
   have hl:j<ops.toList.length:=by simpa using JP
   rw[List.drop_eq_getElem_cons hl]
   congr 1
   have:=(Array.getElem?_eq_some_iff.1 ho).2
   simpa using this
  rw[Rp]at aU
  have ee:∀ q d,q≠j→(aJ.setIfInBounds j true).getD q d=aJ.getD q d:=by
   intro q d hq
   simp[Array.getD_eq_getD_getElem?,Ne.symm hq]
  have Ca:∀ d,(aJ.setIfInBounds j true).getD j d=true:=by
   simp_all
  have next:∀ (E':Env) (s':St) (a':Act) (w':World),Ext E0 E'→Fr E0 w0 E' w'→cG B E' s' a' w'→cE Cn ops (ops.toList.drop (j+1)) s'=some out →
    wpAnyIn (WF r) 0 P md ops Q t (aJ.setIfInBounds j true) a' w':=by
   intro E' s' a' w' gb JE eV ld
   refine ih (j+1) _ E' s' a' w' (by omega) (by omega) (by simpa using dL) (fun q hq=>?_) (fun q hq YU=>?_) gb JE eV ld
   ·by_cases e:q=j
    ·subst e; exact Ca _
    ·rw[ee _ _ e]; exact JO q (by omega)
   ·rw[ee _ _ (by omega)]; exact MS q (by omega) YU
  unfold wpOpIn
  rw[ho]
  simp only
  simp only[cE]at aU
  split at aU
  ·simp at aU
  ·rename_i hw
   rw[kW hs.fr hw]
   simp only[Bool.false_eq_true,if_false]
   exact⟨fun _ _=>trivial,next E { s with fr:=bC s.fr o.dst .undef } _ w hx eO ⟨gh hs.fr (by simp[ai]),hs.inv,by rw[put_defers]; exact hs.df,hs.bs⟩ aU⟩
  ·rename_i hw
   rw[kW hs.fr hw]
   simp only[if_true]
   cases hq:Cn o s with
   |none=>rw[hq]at aU; simp at aU
   |some q=>
    rw[hq]at aU
    refine dF o s q hq r B E a w _ Q hs (fun s' e E' a' w' gb FK eV=>?_) (fun v s' e E' w' u gb FK hY hr=>?_)
    ·subst e
     exact next E' s' a' w' (hx.trans gb) (eO.trans FK) eV aU
    ·subst e
     simp only[Option.some.injEq]at aU
     exact hP v s' aU.symm E' a w' u (hx.trans gb) (eO.trans FK) hY hr (hs.df.mono FK)
end
def xy[ab](C:Ctx)(k:Nat):Prop:=
 ∀ id ops draw s o,bQ C k (.region id ops draw) s=some o→∀ (rd:Option Nat) (B:oz) (E:Env) (a:Act) (w:World),cG B E s a w →
   (draw=false→wpOpsIn (WF rd) 0 C.P ops (bn B E w o) (List.range ops.size) a w) ∧
   (draw=true→∀ t,wpOpsIn (WF rd) 0 C.P ops (bn B E w o) (Region.schedule (C.P.follows .mixedOrders) ops t) a { w with drawn:=w.drawn+1 })
theorem vC[ab]{C:Ctx}{k:Nat}(hO:lB C.P (fun o s=>fw C k o s))(hE:rE C.P (fun nm o fr=>ig C k nm o fr)):xy C (k+1):=by
 intro id ops draw s o h rd B E a w hs
 simp only[bQ]at h
 cases draw with
 |false=>
  refine⟨fun _=>?_,fun h=>by cases h⟩
  rw[List.range_eq_range',←Array.length_toList,wpOpsIn_eq_wpListIn ops.toList 0 (by simp)]
  exact qk hO (fun o s r h=>nj h) rd B ops.toList _ o h E E a w w (Ext.refl E) (Fr.refl E w) (um _ hs)
 |true=>
  simp only at h
  have Rq:C.head s.fn id ops≤ops.size:=Nat.sub_le _ _
  generalize C.head s.fn id ops=m at h Rq
  have nh:=um (C.ie s.fn id) hs
  rw[←rJ (C.ie s.fn id) s]at h
  clear hs
  generalize gC (C.ie s.fn id) s=s at h nh
  have hs:=nh
  split at h
  case isFalse=>simp at h
  rename_i MT
  simp only[sG,Bool.and_eq_true]at MT
  obtain⟨⟨⟨⟨mg,Hb⟩,Xk⟩,hgc⟩,Pj⟩:=MT
  split at h
  case h_2=>simp at h
  rename_i s' fs aU
  split at h
  case isFalse=>simp at h
  rename_i TD
  rw[Bool.and_eq_true]at TD
  obtain⟨Rr,vv⟩:=TD
  suffices key:∀ md:Region.Mode,oY md ops=true→∀ t,wpOpsIn (WF rd) 0 C.P ops (bn B E w o) (Region.linearise md ops t) a { w with drawn:=w.drawn+1 } by
   refine⟨fun h=>by (cases h),fun _ t=>?_⟩
   unfold Region.schedule
   split
   ·exact key .any Hb t
   ·grind
  intro md vq t
  refine wpAnyIn_sound _ _ _ _ _ ?_
  let s0:St:={ s with hp:=s.hp++List.replicate ((ops.toList.take m).filter fun o=>au o.op).length none }
  obtain⟨r1,r2,r3⟩:=Ex hs.inv ((ops.toList.take m).filter fun o=>au o.op).length
  have LQ:Inv (E.gk ((ops.toList.take m).filter fun o=>au o.op).length) s0.hp { w with drawn:=w.drawn+1 }:=r2.heap rfl
  have rH:Fr E w (E.gk ((ops.toList.take m).filter fun o=>au o.op).length) { w with drawn:=w.drawn+1 }:=r3.trans (Fr.drew _ w)
  have Rs:=pw _ _ _ _ aU
  have uq:∀ (k:Nat) (x:Item),(bD 0 s.hp.length (ops.toList.take m))[k]?=some x→x.idx=k∧ops[k]?=some x.o∧k<m:=by
   intro k x hk
   obtain⟨a1,a2,_,_⟩:=kN _ _ _ _ _ hk
   have Xl:k<m:=by
    grind
   rw[List.getElem?_take_of_lt Xl]at a2
   exact⟨by omega,by simpa using a2,Xl⟩
  have Rt:ops.size=m+(ops.size-m):=by omega
  refine Eq.mpr (congrArg (fun fl=>wpAnyIn (WF rd) 0 C.P md ops (bn B E w o) fl _ _ _) Rt) ?_
  refine JC (P:=C.P) Hi hE mg vq Rq vv (s':=s') (E0:=E) (w0:=w) (B:=B) (fun E' a' w' aJ b1 b2 b3 b4 b5 b6=>
   MR hO (fun o s r h=>nj h) mg vq vv (fun tL e E2 a2 w2 c1 c2 c3=>by subst e; exact⟨E2,c1,c2,c3⟩)
    (fun v tL e E2 a2 w2 u c1 c2 c3 c4 c5=>by subst e; exact⟨E2,c1,c2,u,rfl,c4,c3,c5⟩) (ops.size-m) m aJ E' s' a' w' (by omega) (Nat.le_refl _) b4 b5 b6 b1 b2 b3 h) m (bD 0 s.hp.length (ops.toList.take m))
   _ fs _ s0 a _ (by rw[lz]; simp; omega) ?_
   r1 rH ⟨hs.fr.mono r1,LQ,hs.df.mono rH,hs.bs⟩ ?_ aU ?_
  ·refine⟨by simp,fun x hx=>?_,?_,fun i hi _ Xf=>?_,fun i _ hi=>?_,fun i o ho hl=>?_,?_⟩
   ·obtain⟨k,hk⟩:=List.mem_iff_getElem?.1 hx
    obtain⟨a1,a2,a3⟩:=uq k x hk
    have bZ:k<ops.size:=(Array.getElem?_eq_some_iff.1 a2).1
    rw[a1]
    refine⟨a2,?_,a3⟩
    simp[Array.getD,bZ]
   ·rw[List.pairwise_iff_getElem]
    intro i j hi hj LP
    have a1:=(uq i _ (List.getElem?_eq_getElem hi)).1
    have a2:=(uq j _ (List.getElem?_eq_getElem hj)).1
    omega
   ·have p9:i<(bD 0 s.hp.length (ops.toList.take m)).length:=by rw[lz]; simp; omega
    exact⟨_,List.getElem_mem p9,(uq i _ (List.getElem?_eq_getElem p9)).1⟩
   ·simp[Array.getD,hi]
   ·have bZ:i<ops.size:=(Array.getElem?_eq_some_iff.1 ho).1
    simp[Array.getD,bZ]at hl
   ·rw[List.pairwise_iff_getElem]
    intro i j hi hj LP ha
    exact xq _ _ _ i j _ _ LP (List.getElem?_eq_getElem hi) (List.getElem?_eq_getElem hj) ha
  ·intro x hx ha
   obtain⟨k,hk⟩:=List.mem_iff_getElem?.1 hx
   obtain⟨_,_,a3,a4⟩:=kN _ _ _ _ _ hk
   have a5:=a4 ha
   simp only[s0]
   rw[List.getElem?_append_right a3,List.getElem?_replicate,if_pos (by omega)]
  ·intro j k x y f g MI hx hy hf hg
   obtain⟨a1,a2,_⟩:=uq j x hx
   obtain⟨b1,b2,_⟩:=uq k y hy
   have Xm:=tc fs Rr j k f g MI hf hg
   have Ij:f.idx=j:=by
    have:(fs.map (·.idx))[j]?=some f.idx:=by simp[hf]
    rw[Rs]at this
    simp[hx,a1]at this
    exact this.symm
   have YV:g.idx=k:=by
    have:(fs.map (·.idx))[k]?=some g.idx:=by simp[hg]
    rw[Rs]at this
    simp[hy,b1]at this
    exact this.symm
   rcases tb ops.toList 0 Pj j k x.o y.o MI (by simpa using a2) (by simpa using b2) with hp|hp
   ·left; rw[a1,b1]; simpa using hp
   ·simp only[rn,Bool.or_eq_true,Bool.and_eq_true]at Xm
    rcases Xm with hq|⟨h1,h2⟩
    ·left; rw[Ij,YV]at hq; rw[a1,b1]; exact hq
    ·right
     refine⟨hp,fun n hn=>?_,fun n hn=>zC h2 n hn⟩
     have:=zC h1 n hn
     simpa using this
theorem Co[ab]{C:Ctx}(bL:C.Ok){k:Nat}(hF:lA C k)(EF:∀ j,j≤k→fo C j)(hO:lB C.P (fun o s=>fw C k o s))(hE:rE C.P (fun nm o fr=>ig C k nm o fr)):fo C (k+1):=by
 have hC:=EF k (Nat.le_refl k)
 intro c s o h rd B LW E a w hs
 have self:bn B E w (.norm s) .normal a w:=⟨E,Ext.refl E,Fr.refl E w,hs⟩
 cases c with
 |skip=>simp only[bQ,Option.some.injEq]at h; subst h; exact wpIn_skip self
 |label l=>simp only[bQ,Option.some.injEq]at h; subst h; exact wpIn_label self
 |ret=>simp only[bQ,Option.some.injEq]at h; subst h; exact wpIn_ret ⟨E,Ext.refl E,Fr.refl E w,hs⟩
 |exit id=>simp only[bQ,Option.some.injEq]at h; subst h; exact wpIn_exit ⟨E,Ext.refl E,Fr.refl E w,rfl,hs⟩
 |seq x y=>
  simp only[bQ]at h
  have r1:(rd=B.lb∧B.rg=true)∨cx x=true:=LW.imp id fun h=>by simp only[cx,Bool.and_eq_true]at h; exact h.1
  have r2:(rd=B.lb∧B.rg=true)∨cx y=true:=LW.imp id fun h=>by simp only[cx,Bool.and_eq_true]at h; exact h.2
  refine wpIn_seq ?_
  split at h
  ·rename_i s' hx
   refine wpIn_mono (hC x s _ hx rd B r1 E a w hs) fun e a' w' hp=>?_
   obtain⟨E',h1,h2,h3⟩:=hp
   cases e with
   |normal=>exact wpIn_mono (hC y s' o h rd B r2 E' a' w' h3) fun e TE wP hp=>bn.from h1 h2 hp
   |_=>exact h3.elim
  ·rename_i dK
   refine wpIn_mono (hC x s o h rd B r1 E a w hs) fun e a' w' hp=>?_
   obtain⟨E',h1,h2,h3⟩:=hp
   cases e with
   |normal=>
    cases o with
    |norm s'=>exact absurd h (dK s')
    |_=>exact h3.elim
   |_=>exact⟨E',h1,h2,h3⟩
 |cond op x y=>
  simp only[bQ]at h
  have r1:(rd=B.lb∧B.rg=true)∨cx x=true:=LW.imp id fun h=>by simp only[cx,Bool.and_eq_true]at h; exact h.1
  have r2:(rd=B.lb∧B.rg=true)∨cx y=true:=LW.imp id fun h=>by simp only[cx,Bool.and_eq_true]at h; exact h.2
  split at h
  case h_2=>simp at h
  rename_i t ht
  have hv:=gP hs.inv.jk hs.fr op
  rw[ht]at hv
  simp only[ai]at hv
  cases t with
  |true=>exact wpIn_cond_true hv (hC x s o h rd B r1 E a w hs)
  |false=>exact wpIn_cond_false hv (hC y s o h rd B r2 E a w hs)
 |block id b=>
  simp only[bQ]at h
  have r1:(rd=B.lb∧B.rg=true)∨cx b=true:=LW.imp (fun h=>h) fun h=>by simpa only[cx] using h
  refine wpIn_block ?_
  split at h
  ·rename_i Ix s' hx
   refine wpIn_mono (hC b s _ hx rd B r1 E a w hs) fun e a' w' hp=>?_
   obtain⟨E',h1,h2,h3⟩:=hp
   cases e with
   |exit j=>
    obtain⟨rfl,h3⟩:=h3
    simp only[Exit.inBlock]
    split at h
    ·rename_i UR
     rw[if_pos UR]
     simp only[Option.some.injEq]at h; subst h
     exact⟨E',h1,h2,h3⟩
    ·rename_i UR
     rw[if_neg UR]
     simp only[Option.some.injEq]at h; subst h
     exact⟨E',h1,h2,rfl,h3⟩
   |_=>exact h3.elim
  ·rename_i dK
   refine wpIn_mono (hC b s o h rd B r1 E a w hs) fun e a' w' hp=>?_
   obtain⟨E',h1,h2,h3⟩:=hp
   cases e with
   |exit j=>
    cases o with
    |exit i s'=>exact absurd h (dK i s')
    |_=>exact h3.elim
   |_=>exact⟨E',h1,h2,h3⟩
 |loop b=>
  simp only[bQ]at h
  have r1:(rd=B.lb∧B.rg=true)∨cx b=true:=LW.imp (fun h=>h) fun h=>by simpa only[cx] using h
  refine yN MN Pf ?_
  split at h
  ·rename_i s' hx
   refine wpIn_mono (hC b s _ hx rd B r1 E a w hs) fun e a' w' hp=>?_
   obtain⟨E',h1,h2,h3⟩:=hp
   cases e with
   |normal=>
    have N6:cG B E' s' a' w':=h3
    have:∃ E2,Ext E E2∧Fr E w E2 w'∧cG B E2 (gD s.hp.length s') a' w':=by
     unfold gD
     split
     ·rename_i bf
      have hle:s.hp.length≤s'.hp.length:=by rw[hs.inv.len,N6.inv.len]; exact h1.L
      obtain⟨a1,a2,a3⟩:=te N6.inv hle bf
      exact⟨E'.lower s.hp.length,⟨h1.m,fun n hn aq l h=>h1.ρ n hn aq l h,by simp[Env.lower,hs.inv.len]⟩,h2.trans a2,rG a3 N6.fr,a1,N6.df.mono a2,N6.bs⟩
     ·exact⟨E',h1,h2,N6⟩
    obtain⟨E2,b1,b2,b3⟩:=this
    exact wpIn_mono (hC (.loop b) _ o h rd B LW E2 a' w' b3) fun e TE wP hp=>bn.from b1 b2 hp
   |_=>exact h3.elim
  ·rename_i dK
   refine wpIn_mono (hC b s o h rd B r1 E a w hs) fun e a' w' hp=>?_
   obtain⟨E',h1,h2,h3⟩:=hp
   cases e with
   |normal=>
    cases o with
    |norm s'=>exact absurd h (dK s')
    |_=>exact h3.elim
   |_=>exact⟨E',h1,h2,h3⟩
 |region id ops draw=>
  have hr:=vC hO hE id ops draw s o h rd B E a w hs
  cases draw with
  |false=>exact wpIn_region (hr.1 rfl)
  |true=>exact wpIn_region_draw fun t=>hr.2 rfl t
 |rangeFunc f ps as bd=>
  rcases LW with ⟨rfl,Ru⟩|LW
  ·cases Oc:B.lb with
   |none=>exact JM bL hF Ru Oc hs h
   |some b=>exact JN bL hF Oc hs h
  ·simp[cx]at LW
 |scope b=>
  simp only[bQ]at h
  split at h
  ·rename_i c hc
   exact JQ EF hs hc h
  ·simp at h
 |goto _=>simp[bQ]at h
 |refuse _=>simp[bQ]at h
theorem EG{F:Fence}{n:Nat}{P:Program}{o:Oper}{a:Act}{w:World}{K N:Act→World→Prop}{Q:Exit→Act→World→Prop}(h:o.wpIn F n P a w K (Exit.then N Q)):o.wpIn F n P a w K Q:=by
 unfold Oper.wpIn at *
 refine⟨h.1,?_⟩
 have h2:=h.2
 generalize (o.semAt F.round a.eval).run P w=r at *
 cases r with
 |ok x w'=>cases x<;>exact h2
 |halt x w'=>cases x<;>exact h2
theorem rL{F:Fence}{n:Nat}{P:Program}{ops:Array Oper}{Q:Exit→Act→World→Prop}{l2:List Oper}:∀ (l1:List Oper) (a:Act) (w:World),wpListIn F n P ops (Exit.then (wpListIn F n P ops Q l2) Q) l1 a w→wpListIn F n P ops Q (l1++l2) a w
 |[],a,w,h=>h
 |o::l1,a,w,h=>by
  simp only[List.cons_append]
  unfold wpListIn at h ⊢
  split at h
  ·rename_i hw
   rw[if_pos hw]
   exact EG (Oper.wpIn_mono (fun a w h=>rL l1 a w h) h)
  ·rename_i hw
   rw[if_neg hw]
   exact⟨h.1,rL l1 _ _ h.2⟩
theorem pA{F:Fence}{n:Nat}{P:Program}{ops:Array Oper}{Q Q':Exit→Act→World→Prop}(hq:∀ e a w,Q e a w→Q' e a w):∀ (l:List Oper) (a:Act) (w:World),wpListIn F n P ops Q l a w→wpListIn F n P ops Q' l a w
 |[],a,w,h=>hq _ _ _ h
 |o::l,a,w,h=>by
  unfold wpListIn at h ⊢
  split at h
  ·rename_i hw
   rw[if_pos hw]
   have h1:=Oper.wpIn_mono (fun a w h=>pA hq l a w h) h
   unfold Oper.wpIn at *
   refine⟨h1.1,?_⟩
   have h2:=h1.2
   generalize (o.semAt F.round a.eval).run P w=r at *
   cases r with
   |ok x w'=>
    cases x<;>simp only[Oper.uponIn]at h2 ⊢<;>first
     |exact h2
     |exact⟨h2.1,CallsIn.mono h2.2 (fun e wP he=>by cases e<;>first|exact he|exact hq _ _ _ he|exact(let ⟨a0,w0,h0⟩:=he; ⟨a0,w0,hq _ _ _ h0⟩))⟩
     |exact⟨h2.1,RoundIn.mono h2.2 (fun e wP he=>by cases e<;>first|exact he|exact hq _ _ _ he|exact(let ⟨a0,w0,h0⟩:=he; ⟨a0,w0,hq _ _ _ h0⟩))⟩
   |halt x w'=>cases x<;>simp only[Oper.uponIn]at h2 ⊢<;>first|exact h2|exact hq _ _ _ h2
  ·rename_i hw
   rw[if_neg hw]
   exact⟨h.1,pA hq l _ _ h.2⟩
theorem EH{c:Code}{ops:Array Oper}{v:Operand}(h:sH c=some (ops,v)):∃ (id:Nat) (o:Oper) (lY:Array TypeId),c=.region id ops false∧ops.toList=ops.toList.dropLast++[o]∧o.op=.defer { callee:=.value v,args:=#[],argTypes:=lY }∧o.guard=none∧o.dst=none:=by
 unfold sH at h
 split at h
 ·rename_i id US
  split at h
  ·rename_i o ho
   split at h
   ·rename_i cc DI hg Pk
    split at h
    ·rename_i x LU ku
     simp only[Option.some.injEq,Prod.mk.injEq]at h
     obtain⟨rfl,rfl⟩:=h
     obtain⟨c1,c2,c3⟩:=cc
     simp only at LU ku
     subst LU
     obtain rfl:=Array.toList_eq_nil_iff.1 ku
     refine⟨id,o,c3,rfl,?_,DI,hg,Pk⟩
     have dK:US.toList≠[]:=by intro e; rw[e]at ho; simp at ho
     rw[List.getLast?_eq_some_getLast dK,Option.some.injEq]at ho
     rw[←ho]
     exact(List.dropLast_concat_getLast dK).symm
    ·simp at h
   ·simp at h
  ·simp at h
 ·simp at h
def Rv[ab](C:Ctx)(E:Env)(v:AV)(d:Deferred):Prop:=∃ f:Value,ai E true v f∧∀ w,(Deferred.ofValue f #[]).run C.P w=.ok d w
def tg[ab](C:Ctx)(B:oz)(E:Env)(w:World)(o:Out):Option AV→Exit→Act→World→Prop
 |none,e,a',w'=>bn B E w o e a' w'
 |some v,e,a',w'=>∃ E1 E2 w1 d,Ext E E1∧Fr E w E1 w1∧Rv C E1 v d∧Ext E1 E2∧Fr E1 w1 E2 w'∧JG { B with tl:=d::B.tl } E2 o e a' w'
theorem pB{E:Env}{fv:AV}{f:Value}{g:FuncId}{as:List AV}(hf:ai E true fv f)(h:bA fv []=some (g,as)):∃ first cap,f=.func (.func g) first cap:=by
 cases fv with
 |lit u=>
  simp only[ai]at hf
  subst hf
  unfold bA at h
  split at h
  ·rename_i hq
   simp only[AV.lit.injEq]at hq
   simp only[Option.some.injEq,Prod.mk.injEq]at h
   obtain⟨rfl,_⟩:=h
   exact⟨_,_,hq⟩
  ·rename_i hq; cases hq
  ·simp at h
 |iK fn first cap=>
  unfold bA at h
  split at h
  ·rename_i hq; cases hq
  ·rename_i hq
   simp only[AV.iK.injEq]at hq
   obtain⟨rfl,rfl,rfl⟩:=hq
   simp only[Option.some.injEq,Prod.mk.injEq]at h
   obtain⟨rfl,_⟩:=h
   simp only[ai]at hf
   obtain⟨vs,ws,rfl,_⟩:=hf
   exact⟨_,_,rfl⟩
  ·simp at h
 |_=>simp[bA]at h
theorem tg.from[ab]{C:Ctx}{B:oz}{E E1:Env}{w w1:World}{o:Out}{d:Option AV}{e:Exit}{a:Act}{w':World}(hx:Ext E E1)(hf:Fr E w E1 w1)(h:tg C B E1 w1 o d e a w'):tg C B E w o d e a w':=by
 cases d with
 |none=>exact bn.from hx hf h
 |some v=>
  obtain⟨E2,E3,w2,d,h1,h2,h3⟩:=h
  exact⟨E2,E3,w2,d,hx.trans h1,hf.trans h2,h3⟩
theorem EI[ab]{C:Ctx}{k:Nat}(hC:fo C k)(hO:lB C.P (fun o s=>fw C k o s)):∀ (c:Code) (s:St) (o:Out) (d:Option AV),cx c=true→y5 (fun c s=>bQ C k c s) (fun o s=>fw C k o s) c s=some (o,d) →
  ∀ (B:oz) (E:Env) (a:Act) (w:World),B.rg=false→cG B E s a w→c.wpIn (WF none) 0 C.P (tg C B E w o d) a w:=by
 have leaf:∀ c s o d,cx c=true→((bQ C k c s).map fun o=>(o,(none:Option AV)))=some (o,d)→∀ (B:oz) (E:Env) (a:Act) (w:World),B.rg=false→cG B E s a w→c.wpIn (WF none) 0 C.P (tg C B E w o d) a w:=by
  intro c s o d hn h B E a w Rk hs
  cases hq:bQ C k c s with
  |none=>rw[hq]at h; simp at h
  |some o1=>
   rw[hq]at h
   simp only[Option.map_some,Option.some.injEq,Prod.mk.injEq]at h
   obtain⟨rfl,rfl⟩:=h
   exact hC c s o1 hq none B (.inr hn) E a w hs
 intro c
 induction c with
 |seq x y _ IY=>
  intro s o d hn h B E a w Rk hs
  simp only[cx,Bool.and_eq_true]at hn
  simp only[y5]at h
  refine wpIn_seq ?_
  cases hd:sH x with
  |some q=>
   obtain⟨ops,v⟩:=q
   rw[hd]at h
   simp only at h
   obtain⟨id,o0,lY,rfl,UT,DI,hg,Pk⟩:=EH hd
   split at h
   case h_2=>simp at h
   rename_i s1 hr
   split at h
   case h_2=>simp at h
   rename_i q cy
   obtain⟨g,as⟩:=q
   cases hq:bQ C k y s1 with
   |none=>rw[hq]at h; simp at h
   |some o1=>
    rw[hq]at h
    simp only[Option.map_some,Option.some.injEq,Prod.mk.injEq]at h
    obtain⟨rfl,rfl⟩:=h
    refine wpIn_region_list ?_
    rw[UT]
    refine rL _ _ _ (pA ?_ _ _ _ (qk hO (fun o s r h=>nj h) none B _ _ _ hr E E a w w (Ext.refl E) (Fr.refl E w) hs))
    intro e a1 w1 hp
    obtain⟨E1,LU,rH,Hh⟩:=hp
    cases e with
    |normal=>
     have nh:cG B E1 s1 a1 w1:=Hh
     have hv:=gP nh.inv.jk nh.fr v
     obtain⟨first,cap,Ch⟩:=pB hv cy
     have aU:∀ w,(Deferred.ofValue (a1.eval v) #[]).run C.P w=.ok { target:=.fn (.func g) cap,args:=first++#[] } w:=by
      intro w; rw[Ch]; rfl
     show wpListIn (WF none) 0 C.P ops _ [o0] a1 w1
     unfold wpListIn
     rw[if_pos (by unfold Region.wanted; rw[hg])]
     refine⟨fun _ _=>trivial,?_⟩
     have Pe:(o0.semAt (WF none).round a1.eval).run C.P w1=.ok (.defer { target:=.fn (.func g) cap,args:=first++#[] }) w1:=by
      show (execOp a1.eval o0).run C.P w1=_
      unfold execOp
      rw[DI]
      simp only[resolve,Sem.run_bind]
      rw[show (Array.map a1.eval #[]:Array Value)=#[] by simp,aU]
      rfl
     rw[Pe,Oper.uponIn_defer,Pk]
     have AE:cG { B with tl:={ target:=.fn (.func g) cap,args:=first++#[] }::B.tl } E1 s1 { a1 with defers:={ target:=.fn (.func g) cap,args:=first++#[] }::a1.defers } w1:=by
      refine⟨nh.fr,nh.inv,?_,nh.bs⟩
      obtain⟨rs,e1,e2,e3,e4⟩:=nh.df
      have:=e3.1 Rk
      subst this
      exact⟨[],by simp only[List.map_nil,List.nil_append]at e1 ⊢; rw[e1],List.nodup_nil,⟨fun _=>rfl,e3.2⟩,by simp⟩
     refine wpIn_mono (hC y s1 o1 hq none _ (.inr hn.2) E1 _ w1 AE) fun e a2 w2 hp=>?_
     obtain⟨E2,ku,iw,ui⟩:=hp
     exact⟨E1,E2,w1,_,LU,rH,⟨_,hv,aU⟩,ku,iw,ui⟩
    |_=>exact Hh.elim
  |none=>
   rw[hd]at h
   simp only at h
   split at h
   ·rename_i s' hx
    refine wpIn_mono (hC x s _ hx none B (.inr hn.1) E a w hs) fun e a' w' hp=>?_
    obtain⟨E',h1,h2,h3⟩:=hp
    cases e with
    |normal=>exact wpIn_mono (IY s' o d hn.2 h B E' a' w' Rk h3) fun e TE wP hp=>tg.from h1 h2 hp
    |_=>exact h3.elim
   ·rename_i o1 dK hx
    simp only[Option.some.injEq,Prod.mk.injEq]at h
    obtain⟨rfl,rfl⟩:=h
    refine wpIn_mono (hC x s o1 hx none B (.inr hn.1) E a w hs) fun e a' w' hp=>?_
    obtain⟨E',h1,h2,h3⟩:=hp
    cases e with
    |normal=>
     cases o1 with
     |norm s'=>exact(dK s' rfl).elim
     |_=>exact h3.elim
    |_=>exact⟨E',h1,h2,h3⟩
   ·simp at h
 |_=>intro s o d hn h; simp only[y5]at h; exact leaf _ s o d hn h
theorem lC{F:Fence}{n:Nat}{P:Program}{ops:Array Oper}{Q Q':Exit→Act→World→Prop}(hq:∀ e a w,Q e a w→Q' e a w):∀ (l:List Nat) (a:Act) (w:World),wpOpsIn F n P ops Q l a w→wpOpsIn F n P ops Q' l a w
 |[],a,w,h=>hq _ _ _ h
 |i::l,a,w,h=>by
  unfold wpOpsIn at h ⊢
  split at h
  ·exact lC hq l a w h
  rename_i o ho
  split at h
  ·rename_i hw
   simp only[if_pos hw]
   have h1:=Oper.wpIn_mono (fun a w h=>lC hq l a w h) h
   unfold Oper.wpIn at *
   refine⟨h1.1,?_⟩
   have h2:=h1.2
   generalize (o.semAt F.round a.eval).run P w=r at *
   cases r with
   |ok x w'=>
    cases x<;>simp only[Oper.uponIn]at h2 ⊢<;>first
     |exact h2
     |exact⟨h2.1,CallsIn.mono h2.2 (fun e wP he=>by cases e<;>first|exact he|exact hq _ _ _ he|exact(let ⟨a0,w0,h0⟩:=he; ⟨a0,w0,hq _ _ _ h0⟩))⟩
     |exact⟨h2.1,RoundIn.mono h2.2 (fun e wP he=>by cases e<;>first|exact he|exact hq _ _ _ he|exact(let ⟨a0,w0,h0⟩:=he; ⟨a0,w0,hq _ _ _ h0⟩))⟩
   |halt x w'=>cases x<;>simp only[Oper.uponIn]at h2 ⊢<;>first|exact h2|exact hq _ _ _ h2
  ·rename_i hw
   simp only[if_neg hw]
   exact⟨h.1,lC hq l _ _ h.2⟩
theorem Cp(ops:Array Oper)(i:Nat)(f:Array Edge→Bool):(((ops.map dD)[i]?).map fun o=>f o.after)=(ops[i]?).map fun o=>f o.after:=by
 rw[Array.getElem?_map]
 cases ops[i]? with
 |none=>rfl
 |some o=>simp only[Option.map_some,(k9 o).2.2]
theorem oA(md:Region.Mode)(ops:Array Oper)(t:Nat):Region.linearise md (ops.map dD) t=Region.linearise md ops t:=by
 unfold Region.linearise
 rw[Array.size_map]
 generalize Array.replicate ops.size false=aJ
 generalize ([]:List Nat)=acc
 generalize ops.size=fuel
 induction fuel generalizing t aJ acc with
 |zero=>rfl
 |succ fuel ih=>
  have hr:((List.range (ops.map dD).size).filter fun i=>!aJ.getD i true&&(((ops.map dD)[i]?).map (·.after.all fun e=>!Region.binds md e||aJ.getD e.on false)).getD false) =
    ((List.range ops.size).filter fun i=>!aJ.getD i true&&((ops[i]?).map (·.after.all fun e=>!Region.binds md e||aJ.getD e.on false)).getD false):=by
   rw[Array.size_map]
   congr 1
   funext i
   rw[Cp ops i (fun a=>a.all fun e=>!Region.binds md e||aJ.getD e.on false)]
  simp only[Region.linearise.go]
  rw[hr]
  split
  ·exact ih _ _ _
  ·rfl
theorem xz(m:Bool)(ops:Array Oper)(t:Nat):Region.schedule m (ops.map dD) t=Region.schedule m ops t:=by
 unfold Region.schedule
 have hd:Region.departs (ops.map dD)=Region.departs ops:=by
  unfold Region.departs
  rw[Array.any_map]
  congr 1
  funext o
  simp only[Function.comp,(k9 o).2.2]
 rw[hd,oA,oA]
theorem Hj[ab]{C:Ctx}{k:Nat}(hC:∀ j,j≤k→fo C j)(hR:∀ j,j≤k→xy C j){c:Code}(hn:cx c=true){s:St}{o:Out}(h:bQ C k (nG c) s=some o){B:oz}{E:Env}{a:Act}{w:World}(hs:cG B E s a w):
  GN (WF none) 0 C.P c (bn B E w o) a w:=by
 by_cases hc:∃ id ops d y,c=.seq (.region id ops d) y
 ·obtain⟨id,ops,d,y,rfl⟩:=hc
  have LS:cx y=true:=by simp only[cx,Bool.and_eq_true]at hn; exact hn.2
  cases k with
  |zero=>simp[bQ]at h
  |succ k=>
   have Hd:(ops.toList.map dD).toArray=ops.map dD:=by rw[←Array.toList_map]
   simp only[nG,bQ,Hd]at h
   refine L8 ?_
   have go:∀ o1,bQ C k (.region id (ops.map dD) d) s=some o1→(∀ e a' w',bn B E w o1 e a' w'→(match e with|.normal=>GN (WF none) 0 C.P y (bn B E w o) a' w'|e=>bn B E w o e a' w')) →
     GN (WF none) 0 C.P (.region id ops d) (fun e a w2=>match e with|.normal=>GN (WF none) 0 C.P y (bn B E w o) a w2|e=>bn B E w o e a w2) a w:=by
    intro o1 h1 hq
    have hr:=hR k (Nat.le_succ k) _ _ _ _ _ h1 none B E a w hs
    cases d with
    |false=>
     refine D1 ?_
     have:=lC hq _ _ _ (hr.1 rfl)
     rw[Array.size_map]at this
     exact this
    |true=>
     refine IA fun t=>?_
     have:=lC hq _ _ _ (hr.2 rfl t)
     rw[xz]at this
     exact this
   split at h
   ·rename_i s' hx
    refine go _ hx fun e a' w' hp=>?_
    obtain⟨E',h1,h2,h3⟩:=hp
    cases e with
    |normal=>exact Iz (wpIn_mono (hC k (Nat.le_succ k) y s' o h none B (.inr LS) E' a' w' h3) fun e TE wP hp=>bn.from h1 h2 hp)
    |_=>exact h3.elim
   ·rename_i dK
    refine go _ h fun e a' w' hp=>?_
    obtain⟨E',h1,h2,h3⟩:=hp
    cases e with
    |normal=>
     cases o with
     |norm s'=>exact absurd h (dK s')
     |_=>exact h3.elim
    |_=>exact⟨E',h1,h2,h3⟩
 ·have he:nG c=c:=by
   unfold nG
   split
   ·exact absurd ⟨_,_,_,_,rfl⟩ hc
   ·rfl
  rw[he]at h
  exact Iz (hC k (Nat.le_refl k) c s o h none B (.inr hn) E a w hs)
theorem JR{F:Fence}{n:Nat}{P:Program}{c:Code}{Q Q':Exit→Act→World→Prop}{a:Act}{w:World}(h:GN F n P c Q a w)(hq:∀ e a w,Q e a w→Q' e a w):GN F n P c Q' a w:=
 fun b k cs h1 h2 h3 h4 h5 h6=>let ⟨e,a',w',q,r⟩:=h b k cs h1 h2 h3 h4 h5 h6; ⟨e,a',w',hq _ _ _ q,r⟩
theorem zH[ab]{E:Env}{w:World}{hp:af}{args:List AV}{vs:List Value}(g:FuncId)(n:Nat)(m:Bool)(hI:Inv E hp w)(ha:an E true args vs):
  cG ⟨w.heap.size,[],m,none⟩ E ⟨g,args++List.replicate (n-args.length) .undef,hp⟩ { tmps:=vs.toArray++Array.replicate (n-vs.toArray.size) undef,defers:=[] } w:=by
 have hlen:=ha.length
 refine⟨?_,hI,Marks.nil,Nat.le_refl _⟩
 simp only[Array.toList_append,Array.toList_replicate,List.size_toArray,←hlen]
 refine ha.append ?_
 have:=an.lits (E:=E) (o:=true) (List.replicate (n-args.length) undef)
 simpa using this
theorem Hk{n:Nat}{E:Env}{w:World}{ds:List Deferred}(h:Marks ⟨n,[],false,none⟩ E w ds):ds=[]:=by
 obtain⟨rs,h1,_,h3,_⟩:=h
 have:=h3.1 rfl
 subst this
 simpa using h1
theorem EJ[ab]{C:Ctx}(bL:C.Ok){k:Nat}(EF:∀ j,j≤k→fo C j)(UU:∀ j,j≤k→xy C j)(hO:lB C.P (fun o s=>fw C k o s)){f:FuncId}{args:List AV}{hp:af}{res:nC}{cq:af}{fn:Func}{c:Code}
  (qM:C.P.funcs[f]?=some fn) (hc:fn.body=some c) {E:Env} {w:World} {vs:List Value} (hI:Inv E hp w) (ha:an E true args vs)
  (h:tR (fun c s=>bQ C k c s) (fun o s=>fw C k o s) C.P fn.results.toList c ⟨f,args++List.replicate (fn.ntmps-args.length) .undef,hp⟩=some (res,cq)):Calls C.P f vs.toArray w (bO E w cq res):=by
 have hs:=zH f fn.ntmps false hI ha
 have fin:∀ (s':St) (wa:af) E1 (a1:Act) w1,Ext E E1→Fr E w E1 w1→an E1 true s'.fr a1.tmps.toList→Inv E1 wa w1→D0 C.P fn.results.toList s'.fr wa=some (res,cq)→LeavesIn Fence.wide 0 C.P fn a1.tmps (bO E w cq res) [] .returning w1:=by
  intro s' wa E1 a1 w1 hx hf eO LQ hr
  unfold D0 at hr
  split at hr
  case h_2=>simp at hr
  rename_i l hl
  simp only[Option.some.injEq,Prod.mk.injEq]at hr
  obtain⟨rfl,rfl⟩:=hr
  obtain⟨v,h1,h2⟩:=rF LQ eO hl
  exact⟨v,h1,E1,hx,LQ,hf,h2⟩
 have leave:∀ (s':St) (d:Option AV) (e:Exit) a' w',tg C ⟨w.heap.size,[],false,none⟩ E w (.norm s') d .normal a' w'→tQ (fun c s=>bQ C k c s) C.P fn.results.toList s'.fr s'.hp d=some (res,cq) →
   LeavesInM Fence.wide 0 C.P fn a'.tmps (bO E w cq res) a'.defers .returning w':=by
  intro s' d e a' w' wa hd
  cases d with
  |none=>
   obtain⟨E',hx,hf,ho⟩:=wa
   have ho:cG ⟨w.heap.size,[],false,none⟩ E' s' a' w':=ho
   exact iX rfl ho.inv ho.df hf (by simp) fun w2 qg iw=>fin s' s'.hp E' a' w2 hx iw ho.fr qg hd
  |some v=>
   obtain⟨E1,E2,w1,dd,LU,rH,⟨fv,xe,aU⟩,ku,iw,ho⟩:=wa
   have ho:cG ⟨w.heap.size,[dd],false,none⟩ E2 s' a' w':=ho
   refine iX (B:=⟨w.heap.size,[dd],false,none⟩) rfl ho.inv ho.df (rH.trans iw) (by simp) fun w2 qg YW=>?_
   simp only[tQ]at hd
   split at hd
   ·simp at hd
   rename_i g as cy
   split at hd
   ·simp at hd
   rename_i fg Mp
   split at hd
   ·simp at hd
   rename_i cg Mq
   obtain⟨first,cap,Ch⟩:=pB xe cy
   have Xn:dd={ target:=.fn (.func g) cap,args:=first++#[] }:=by
    have h1:=aU w2
    rw[Ch]at h1
    have h2:(Deferred.ofValue (.func (.func g) first cap) #[]).run C.P w2=.ok { target:=.fn (.func g) cap,args:=first++#[] } w2:=rfl
    rw[h2]at h1
    cases h1
    rfl
   obtain⟨vs',UW,hinv⟩:=eT (P:=C.P) (w:=w2) (xe.mono ku) (args:=[]) (vs:=[]) trivial cy ⟨fg,Mp,by rw[Mq]; rfl,bL.name g fg Mp (by rw[Mq]; rfl)⟩
   rw[Sem.run_bind]at hinv
   have DN:=aU w2
   rw[show ([]:List Value).toArray=#[] from rfl,DN]at hinv
   have Rw:(invoke dd.target dd.args).run C.P w2=.ok (.enter g vs'.toArray) w2:=hinv
   have body:∀ (o:Out) (s2:St) (l2:List AV),(o=.norm s2∨o=.ret s2)→cx cg=true→bQ C k (nG cg) ⟨g,as++List.replicate (fg.ntmps-as.length) .undef,s'.hp⟩=some o→(aR C.P s2.fr fg.results.toList).run s2.hp=some l2→D0 C.P fn.results.toList s'.fr s2.hp=some (res,cq) →
     LeavesInM Fence.wide 0 C.P fn a'.tmps (bO E w cq res) [dd] .returning w2:=by
    intro o s2 l2 ui JS bE qV BE
    have AE:=zH g fg.ntmps false qg UW
    refine⟨by simp,.inr ⟨fun h=>(by cases h),.func g,cap,g,vs'.toArray,by rw[Xn],Rw,fun _ _=>trivial,?_⟩⟩
    refine CallsDIn.mono (yC (F:=Fence.wide) (n:=0) Mp Mq trivial (R:=fun e w'=>match e with|.returned _=>LeavesIn Fence.wide 0 C.P fn a'.tmps (bO E w cq res) [] .returning w'|_=>False) (JR (Hj EF UU JS bE AE) ?_)) ?_
    ·intro e a3 w3 YX
     obtain⟨E3,LV,LX,TF⟩:=YX
     have last:cG ⟨w2.heap.size,[],false,none⟩ E3 s2 a3 w3→a3.defers=[]∧∃ v,(results fg a3.tmps).run C.P w3=.ok v w3∧LeavesIn Fence.wide 0 C.P fn a'.tmps (bO E w cq res) [] .returning w3:=by
      intro TG
      obtain⟨v3,h1,h2⟩:=rF TG.inv TG.fr qV
      exact⟨Hk TG.df,v3,h1,fin s' s2.hp E3 a' w3 ((LU.trans ku).trans LV) (YW.trans LX) (ho.fr.mono LV) TG.inv BE⟩
     rcases ui with rfl|rfl
     ·cases e with
      |normal=>exact last TF
      |_=>exact TF.elim
     ·cases e with
      |ret=>exact last TF
      |_=>exact TF.elim
    ·intro e u' w3 hh
     obtain⟨rfl,hh⟩:=hh
     cases e with
     |returned v=>exact hh
     |_=>exact hh.elim
   split at hd
   ·rename_i s2 JS bE
    split at hd
    ·rename_i l2 qV; exact body _ s2 l2 (.inl rfl) JS bE qV hd
    ·simp at hd
   ·rename_i s2 JS bE
    split at hd
    ·rename_i l2 qV; exact body _ s2 l2 (.inr rfl) JS bE qV hd
    ·simp at hd
   ·simp at hd
 have YY:∀ (s':St) (d:Option AV) (o:Out) (e:Exit) a' w',(o=.norm s'∧e=.normal)∨(o=.ret s'∧e=.ret)→tg C ⟨w.heap.size,[],false,none⟩ E w o d e a' w'→tg C ⟨w.heap.size,[],false,none⟩ E w (.norm s') d .normal a' w':=by
  rintro s' d o e a' w' (⟨rfl,rfl⟩|⟨rfl,rfl⟩) wa
  ·exact wa
  ·cases d with
   |none=>exact wa
   |some v=>exact wa
 unfold tR at h
 split at h
 ·rename_i s' d hn bE
  refine callsIn_wide.1 (callsIn_of_wp_marks (F:=Fence.wide) (n:=0) qM hc trivial (wpIn_mono (EI (EF k (Nat.le_refl k)) hO c _ _ d hn bE _ E _ w rfl hs) fun e a' w' cW=>?_))
  cases e with
  |normal=>exact leave s' d .normal a' w' cW h
  |_=>cases d<;>first|exact(let ⟨_,_,_,ho⟩:=cW; ho.elim)|exact(let ⟨_,_,_,_,_,_,_,_,_,ho⟩:=cW; ho.elim)
 ·rename_i s' d hn bE
  refine callsIn_wide.1 (callsIn_of_wp_marks (F:=Fence.wide) (n:=0) qM hc trivial (wpIn_mono (EI (EF k (Nat.le_refl k)) hO c _ _ d hn bE _ E _ w rfl hs) fun e a' w' cW=>?_))
  cases e with
  |ret=>exact leave s' d .normal a' w' (YY s' d _ _ a' w' (.inr ⟨rfl,rfl⟩) cW) h
  |_=>cases d<;>first|exact(let ⟨_,_,_,ho⟩:=cW; ho.elim)|exact(let ⟨_,_,_,_,_,_,_,_,_,ho⟩:=cW; ho.elim)
 ·rename_i v s' hn bE
  simp only[Option.some.injEq,Prod.mk.injEq]at h
  obtain⟨rfl,rfl⟩:=h
  refine callsIn_wide.1 (callsIn_of_wp_marks (F:=Fence.wide) (n:=0) qM hc trivial (wpIn_mono (EI (EF k (Nat.le_refl k)) hO c _ _ none hn bE _ E _ w rfl hs) fun e a' w' cW=>?_))
  obtain⟨E',hx,hf,ho⟩:=cW
  cases e with
  |panic ch=>
   obtain⟨u,h1,h2,h3,h4⟩:=ho
   exact iX rfl h3 h4 hf (by simp) fun w2 qg iw=>⟨E',hx,qg,iw,u,h1,h2⟩
  |_=>exact ho.elim
 ·simp at h
theorem Cq[ab]{C:Ctx}(bL:C.Ok){k:Nat}(EF:∀ j,j≤k→fo C j)(UU:∀ j,j≤k→xy C j)(hO:lB C.P (fun o s=>fw C k o s)):lA C (k+1):=by
 intro f args hp res cq h E w vs hI ha
 simp only[lO]at h
 split at h
 ·simp at h
 rename_i fn qM
 split at h
 ·simp at h
 rename_i c hc
 split at h
 ·exact EJ bL EF UU hO qM hc hI ha h
 ·exact AQ (EF k (Nat.le_refl k)) qM hc hI ha h
theorem JT[ab]{C:Ctx}(bL:C.Ok)(TC:∀ g,C.kind g=.imp→JL C.P):∀ k,lA C k∧fo C k∧lB C.P (fun o s=>fw C k o s)∧uj C k∧rE C.P (fun nm o fr=>ig C k nm o fr):=by
 suffices key:∀ k,(lA C k∧fo C k∧lB C.P (fun o s=>fw C k o s)∧uj C k∧rE C.P (fun nm o fr=>ig C k nm o fr))∧∀ j,j≤k→fo C j∧xy C j from fun k=>(key k).1
 intro k
 induction k with
 |zero=>
  refine⟨?_,fun j hj=>by obtain rfl:j=0:=by omega
                         exact⟨fun _ _ _ h=>by simp[bQ]at h,fun _ _ _ _ _ h=>by simp[bQ]at h⟩⟩
  refine⟨fun _ _ _ _ _ h=>by simp[lO]at h,fun _ _ _ h=>by simp[bQ]at h,fun _ _ _ h=>by simp[fw]at h,fun _ _ _ _ _ h=>by simp[kT,RM.ae]at h,?_⟩
  intro rd x B E s a w e K Q _ _ h
  simp[ig,RM.ae]at h
 |succ k ih=>
  obtain⟨⟨hF,hC,hO,hP,hE⟩,EF⟩:=ih
  have Xo:=Co bL hF (fun j hj=>(EF j hj).1) hO hE
  refine⟨⟨Cq bL (fun j hj=>(EF j hj).1) (fun j hj=>(EF j hj).2) hO,Xo,Cj bL hF hP hC,Cc bL hF,Ck bL TC hF hP⟩,fun j hj=>?_⟩
  rcases Nat.lt_or_ge j (k+1) with h|h
  ·exact EF j (by omega)
  ·obtain rfl:j=k+1:=by omega
   exact⟨Xo,vC hO hE⟩
def Cr(P:Program):Ctx:={ P:=P,kind:=fun _=>.pure,kl:=fun _=>none,acc:=fun _ _=>false }
theorem Rx[ab]{C:Ctx}(bL:C.Ok):JL C.P:=by
 have YZ:(Cr C.P).Ok:=⟨bL.name,fun g h as r e=>(by cases e),fun g h as r gX e=>(by cases e),fun g h e=>(by cases e),fun g h as hp e h1=>(by cases h1),fun g h e=>(by cases e)⟩
 intro g args hp e h E w vs hI lR
 obtain⟨e0,hb,ov,nw,hw,ho,k,hk⟩:=MU (C:=Cr C.P) rfl (fun _ _=>rfl) (fun _ _=>rfl) (fun _ _=>rfl) h
 exact⟨e0,((JT YZ (fun g h=>by cases h) k).1 g args hp _ _ hk E w vs hI lR).mono fun en w' hp=>Hl hI hw ho hb hp⟩
theorem sound[ab]{C:Ctx}(bL:C.Ok):∀ k,lA C k∧fo C k∧lB C.P (fun o s=>fw C k o s)∧uj C k∧rE C.P (fun nm o fr=>ig C k nm o fr):=
 JT bL fun _ _=>Rx bL
end Go.PI
end
section
/- PI, the laws: arguments that read as data, as abstract values. -/
namespace Go.PI
open Go.ChangeShapes Go.WideShapes
def Env.all(w:World):Env where
 ρ:=fun _ _=>none
 m:=fun b=>match w.heap[b]? with|some (.cells c _ _)=>some c|_=>none
 L:=0
 own:=fun _=>False
theorem Mk[ab](w:World)(hg:mw (Env.all w)):Inv (Env.all w) [] w where
 len:=rfl
 objs:=by intro n o h; simp at h
 free:=by intro n aq h; simp at h
 inj:=by rintro n n' b ⟨o,l,h,_⟩; simp at h
 mem:=by
  grind[Env.all]
 oI:=by intro b h; exact h.elim
 jk:=hg
def Shape(P:Program):Nat→TypeId→List AV→Prop
 |0,_,_=>False
 |k+1,t,l=>
  match P.underlying t with
  |some .bool=>∃ b,l=[.lit (.bool b)]
  |some (.int i)=>∃ n,l=[.lit (.int i n)]∧(Lit.int i n).wf=true
  |some .string=>∃ s:ByteArray,l=[.lit (.string s)]∧s.size≤maxLen
  |some (.slice e)=>∃ xs,l=[.sl xs]∧xs.length≤maxLen∧∀ x∈xs,∃ cl,(match P.underlying e with
    |some d=>if eg d then x=.agg cl else cl=[x]
    |none=>False)∧Shape P k e cl
  |some (.struct fs)=>l.length=P.cellsOf t∧∀ f∈fs.toList,Shape P k f.type ((l.drop f.offset).take (P.cellsOf f.type))
  |some (.array n e)=>l.length=P.cellsOf t∧∀ i,i<n→Shape P k e ((l.drop (i*P.cellsOf e)).take (P.cellsOf e))
  |_=>False
def vf(P:Program):Nat→List Field→Option Nat
 |o,[]=>some o
 |o,f::r=>if f.offset=o then vf P (o+P.cellsOf f.type) r else none
def wV(P:Program):Nat→TypeId→Bool
 |0,_=>false
 |k+1,t=>
  match P.underlying t with
  |some .bool|some (.int _)|some .string=>decide (P.cellsOf t=1)
  |some (.slice e)=>decide (P.cellsOf t=1)&&decide (0<P.cellsOf e)&&wV P k e
  |some (.struct fs)=>decide (vf P 0 fs.toList=some (P.cellsOf t))&&fs.toList.all fun f=>wV P k f.type
  |some (.array n e)=>decide (n*P.cellsOf e=P.cellsOf t)&&wV P k e
  |_=>false
theorem mapM_some{α β:Type}{f:α→Option β}:∀ {l:List α} {r:List β},l.mapM f=some r→r.length=l.length∧∀ (i:Nat) (x:α),l[i]?=some x→∃ y,r[i]?=some y∧f x=some y
 |[],r,h=>by
  simp_all
 |a::l,r,h=>by
  simp only[List.mapM_cons,Option.pure_def,Option.bind_eq_bind]at h
  cases hq:f a with
  |none=>rw[hq]at h; simp at h
  |some b=>
   rw[hq]at h
   simp only[Option.bind_some]at h
   cases dR:l.mapM f with
   |none=>rw[dR]at h; simp at h
   |some bs=>
    rw[dR]at h
    simp only[Option.bind_some,Option.some.injEq]at h
    subst h
    obtain⟨h1,h2⟩:=mapM_some dR
    refine⟨by simp[h1],fun i x hx=>?_⟩
    cases i with
    |zero=>simp_all
    |succ i=>simp_all
theorem aH.append{E:Env}{o:Bool}{l l':List AV}{c c':List Value}(h:aH E o l c)(h':aH E o l' c'):aH E o (l++l') (c++c'):=
 aH.of (h.FB.append h'.FB) fun v hv=>by
  rcases List.mem_append.1 hv with h1|h1
  ·exact h.leaf v h1
  ·exact h'.leaf v h1
theorem GR[ab]{w:World}{base:Nat}{a:Addr}{n:Nat}{l:List Value}(h:w.cells? base a n=some l):l.length=n∧∀ q v,l[q]?=some v→w.cell? (a.add q)=some v:=by
 unfold World.cells? at h
 split at h
 case isFalse=>simp at h
 obtain⟨h1,h2⟩:=mapM_some h
 simp only[List.length_range]at h1
 refine⟨h1,fun q v hq=>?_⟩
 have bZ:=aI hq
 obtain⟨y,hy,hf⟩:=h2 q q (by rw[List.getElem?_range (by omega)])
 rw[hq]at hy
 cases hy
 exact hf
theorem zf{P:Program}:∀ (fs:List Field) (o n:Nat),vf P o fs=some n→o≤n
 |[],o,n,h=>by simp only[vf,Option.some.injEq]at h; omega
 |f::r,o,n,h=>by
  simp only[vf]at h
  split at h
  case isFalse=>simp at h
  have:=zf r _ n h; omega
theorem BM[ab]{E:Env}{P:Program}{S:Field→List AV→Prop}:∀ (fs:List Field) (o n:Nat) (cs:List Value),vf P o fs=some n→cs.length=n →
  (∀ f∈fs,∃ l,aH E false l ((cs.drop f.offset).take (P.cellsOf f.type))∧S f l) →
  ∃ l,aH E false l (cs.drop o)∧∀ f∈fs,o≤f.offset∧S f ((l.drop (f.offset-o)).take (P.cellsOf f.type))
 |[],o,n,cs,h,hl,_=>by
  simp only[vf,Option.some.injEq]at h
  refine⟨[],?_,by simp⟩
  rw[List.drop_eq_nil_of_le (by omega)]
  simp[aH]
 |f::r,o,n,cs,h,hl,hf=>by
  simp only[vf]at h
  split at h
  case isFalse=>simp at h
  rename_i ho
  have tX:=zf r _ n h
  obtain⟨l1,h1,h2⟩:=hf f (by simp)
  obtain⟨l2,h3,h4⟩:=BM r (o+P.cellsOf f.type) n cs h hl (fun g hg=>hf g (by simp[hg]))
  have FJ:l1.length=P.cellsOf f.type:=by rw[h1.length]; simp; omega
  refine⟨l1++l2,?_,fun g hg=>?_⟩
  ·have:cs.drop o=(cs.drop f.offset).take (P.cellsOf f.type)++cs.drop (o+P.cellsOf f.type):=by
    rw[ho,←List.drop_drop,List.take_append_drop]
   rw[this]
   exact h1.append h3
  ·cases hg with
   |head=>
    simp_all
   |tail _ hg=>
    obtain⟨h5,h6⟩:=h4 g hg
    refine⟨by omega,?_⟩
    have:(l1++l2).drop (g.offset-o)=l2.drop (g.offset-(o+P.cellsOf f.type)):=by
     rw[List.drop_append,List.drop_eq_nil_of_le (by omega),List.nil_append,FJ]
     congr 1; omega
    rw[this]
    exact h6
theorem BN[ab]{E:Env}{size:Nat}{S:List AV→Prop}:∀ (n:Nat) (cs:List Value),cs.length=n*size →
  (∀ i,i<n→∃ l,aH E false l ((cs.drop (i*size)).take size)∧S l)→∃ l,aH E false l cs∧∀ i,i<n→S ((l.drop (i*size)).take size)
 |0,cs,h,_=>by
  have:cs=[]:=List.eq_nil_of_length_eq_zero (by simpa using h)
  subst this
  exact⟨[],by simp[aH],by simp⟩
 |n+1,cs,h,hf=>by
  rw[Nat.succ_mul]at h
  obtain⟨l1,h1,h2⟩:=hf 0 (by omega)
  simp only[Nat.zero_mul,List.drop_zero]at h1
  obtain⟨l2,h3,h4⟩:=BN (size:=size) (S:=S) n (cs.drop size) (by rw[List.length_drop,h]; omega) (fun i hi=>by
   obtain⟨l,ha,hb⟩:=hf (i+1) (by omega)
   refine⟨l,?_,hb⟩
   rw[List.drop_drop]
   have:size+i*size=(i+1)*size:=by rw[Nat.succ_mul]; omega
   rw[this]; exact ha)
  have FJ:l1.length=size:=by rw[h1.length]; simp; omega
  refine⟨l1++l2,?_,fun i hi=>?_⟩
  ·have:cs=cs.take size++cs.drop size:=(List.take_append_drop size cs).symm
   rw[this]
   exact h1.append h3
  ·cases i with
   |zero=>simp_all
   |succ i=>
    have e1:(i+1)*size=size+i*size:=by rw[Nat.succ_mul]; omega
    rw[e1,List.drop_append,List.drop_eq_nil_of_le (by omega),List.nil_append,FJ]
    have e2:size+i*size-size=i*size:=by omega
    rw[e2]
    exact h4 i (by omega)
theorem BO{P:Program}{k:Nat}{t:TypeId}{d:TypeDesc}(hu:P.underlying t=some d)(bL:wV P k t=true)(ha:eg d=false):P.cellsOf t=1:=by
 cases k with
 |zero=>simp[wV]at bL
 |succ k=>
  simp only[wV,hu]at bL
  cases d with
  |bool=>simpa using bL
  |int _=>simpa using bL
  |string=>simpa using bL
  |slice e=>simp only[Bool.and_eq_true,decide_eq_true_eq]at bL; exact bL.1.1
  |struct _=>simp[eg]at ha
  |array _ _=>simp[eg]at ha
  |_=>simp at bL
theorem Ml[ab]{H:Type}{enc:TypeId×Value→H}{P:Program}{w:World}{base:Nat}{spare:Nat→Bool}{held:Bool}:∀ (fuel k:Nat) (t:TypeId) (cs:List Value) (r:DataW H×List MemPlace),
  wV P k t=true→DataW.trod enc P w base spare held fuel t cs=some r→∃ l,aH (Env.all w) false l cs∧Shape P k t l:=by
 intro fuel
 induction fuel with
 |zero=>intro k t cs r _ h; simp[DataW.trod]at h
 |succ fuel ih=>
  intro k t cs r bL h
  cases k with
  |zero=>simp[wV]at bL
  |succ k=>
   have Yn:=bL
   simp only[wV]at bL
   cases hu:P.underlying t with
   |none=>rw[hu]at bL; simp at bL
   |some d=>
    rw[hu]at bL
    cases d with
    |bool=>
     obtain⟨b,rfl,_⟩:=DataW.trod_bool hu h
     exact⟨[.lit (.bool b)],by simp[aH,ai,Value.oneCell'],by simp only[Shape,hu]; exact⟨b,rfl⟩⟩
    |int i=>
     obtain⟨n,rfl,_,hw⟩:=DataW.trod_int hu h
     exact⟨[.lit (.int i n)],by simp[aH,ai,Value.oneCell'],by simp only[Shape,hu]; exact⟨n,rfl,hw⟩⟩
    |string=>
     obtain⟨s,rfl,_,hw⟩:=DataW.trod_string hu h
     exact⟨[.lit (.string s)],by simp[aH,ai,Value.oneCell'],by simp only[Shape,hu]; exact⟨s,rfl,hw⟩⟩
    |slice e=>
     simp only[Bool.and_eq_true,decide_eq_true_eq]at bL
     obtain⟨⟨_,fk⟩,GS⟩:=bL
     obtain⟨de,W3⟩:∃ de,P.underlying e=some de:=by
      cases k with
      |zero=>simp[wV]at GS
      |succ k=>
       simp only[wV]at GS
       cases hq:P.underlying e with
       |none=>rw[hq]at GS; simp at GS
       |some de=>exact⟨de,rfl⟩
     rcases DataW.trod_slice hu h with ⟨rfl,_⟩|⟨a,len,cap,elems,rest,n,hn,rfl,_,hb,DM,Qt,wc,IW,_,_⟩
     ·refine⟨[.sl []],?_,?_⟩
      ·simp only[aH,ai]
       exact⟨⟨none,0,rfl,by simp,fun _=>rfl,.inl trivial⟩,rfl,trivial⟩
      ·simp only[Shape,hu]; exact⟨[],rfl,by simp,by simp⟩
     ·have Bs:n=fuel:=by omega
      subst Bs
      have one:∀ i,i<len→∃ x:AV,∃ v cl,ai (Env.all w) false x v∧v.cells.size=P.cellsOf e∧(∀ q u,v.cells.toList[q]?=some u→w.cell? ((a.add (i*P.cellsOf e)).add q)=some u) ∧
        (∀ u∈v.cells.toList,ij u=true)∧(if eg de then x=.agg cl else cl=[x])∧Shape P k e cl:=by
       intro i hi
       have h1:=IW i hi
       have h2:elems[i]?=some elems[i]:=by simp[wc,hi]
       rw[h2]at h1
       cases hc:w.cells? base (a.add (i*P.cellsOf e)) (P.cellsOf e) with
       |none=>rw[hc]at h1; simp at h1
       |some ce=>
        rw[hc]at h1
        simp only[Option.bind_some]at h1
        obtain⟨cl,h3,h4⟩:=ih k e ce _ GS h1
        obtain⟨h5,h6⟩:=GR hc
        cases oS:eg de with
        |true=>
         refine⟨.agg cl,.agg ce.toArray,cl,h3.toArray,by simp[Value.cells,h5],fun q u hq=>h6 q u (by simpa[Value.cells] using hq),?_,by simp,h4⟩
         intro u LM
         exact h3.leaf u (by simpa[Value.cells] using LM)
        |false=>
         have h7:=BO W3 GS oS
         rw[h7]at h5
         match ce,h5,h3 with
         |[v],_,h3=>
          match cl,h3 with
          |[x],h3=>
           simp only[aH]at h3
           have OU:=fL h3.2.1
           refine⟨x,v,[x],h3.1,by rw[OU,h7]; rfl,fun q u hq=>h6 q u (by rw[OU]at hq; simpa using hq),?_,by simp,h4⟩
           intro u LM
           rw[OU]at LM
           simp at LM
           subst LM
           exact h3.2.1
          |[],h3=>simp[aH]at h3
          |_::_::_,h3=>simp[aH]at h3
         |[],h5,_=>simp at h5
         |_::_::_,h5,_=>simp at h5
      let xs:List AV:=(List.range len).map fun i=>if hi:i<len then Classical.choose (one i hi) else .any
      have zg:∀ i x,xs[i]?=some x→∃ v cl,ai (Env.all w) false x v∧v.cells.size=P.cellsOf e ∧
        (∀ q u,v.cells.toList[q]?=some u→w.cell? ((a.add (i*P.cellsOf e)).add q)=some u) ∧
        (∀ u∈v.cells.toList,ij u=true)∧(if eg de then x=.agg cl else cl=[x])∧Shape P k e cl:=by
       intro i x hx
       have hi:=aI hx
       simp only[xs,List.length_map,List.length_range]at hi
       simp only[xs,List.getElem?_map,List.getElem?_range hi,Option.map_some,dif_pos hi,Option.some.injEq]at hx
       subst hx
       exact Classical.choose_spec (one i hi)
      have D2:xs.length=len:=by simp[xs]
      refine⟨[.sl xs],?_,?_⟩
      ·simp only[aH,ai]
       refine⟨⟨some a,cap,by rw[D2],by omega,by simp,?_⟩,rfl,trivial⟩
       by_cases h0:len=0
       ·left; exact List.eq_nil_of_length_eq_zero (by omega)
       ·right
        obtain⟨v,_,_,lR,OU,_,_,_⟩:=zg 0 xs[0] (by simp)
        have LO:=OU 0 v.cells[0] (by simp)
        simp only[Nat.zero_mul]at LO
        have QZ:(a.add 0).add 0=a:=rfl
        rw[QZ]at LO
        obtain⟨b,o,sp⟩:=a
        simp only[World.cell?]at LO
        split at LO
        case h_2=>simp at LO
        rename_i c T fz eQ
        split at LO
        ·simp at LO
        rename_i Q0
        have Uj:sp=none:=by cases sp<;>simp_all
        subst Uj
        refine⟨b,o,P.cellsOf e,c,rfl,by simp[Env.all,eQ],dM.dY fun i x hx=>?_⟩
        obtain⟨v,_,hr,lR,OU,Uk,_,_⟩:=zg i x hx
        refine⟨v,hr,lR,fun q hq=>?_,Uk⟩
        have h1:=OU q v.cells[q] (by simp)
        rw[dg,dg]at h1
        simp only[World.cell?,eQ]at h1
        simp only[Option.isSome_none,Bool.false_eq_true,if_false]at h1
        rw[h1]; simp
      ·simp only[Shape,hu]
       refine⟨xs,rfl,by omega,fun x hx=>?_⟩
       obtain⟨i,hi⟩:=List.mem_iff_getElem?.1 hx
       obtain⟨v,cl,_,_,_,_,h1,h2⟩:=zg i x hi
       exact⟨cl,by rw[W3]; exact h1,h2⟩
    |struct fs=>
     simp only[Bool.and_eq_true,decide_eq_true_eq]at bL
     obtain⟨xs,n,hn,_,hl,D2,hf⟩:=DataW.trod_struct hu h
     have Bs:n=fuel:=by omega
     subst Bs
     obtain⟨l,h1,h2⟩:=BM (E:=Env.all w) (S:=fun f l=>Shape P k f.type l) fs.toList 0 (P.cellsOf t) cs bL.1 hl (fun f FK=>by
      obtain⟨i,hi⟩:=List.mem_iff_getElem?.1 FK
      have p9:fs[i]?=some f:=by simpa using hi
      have h3:=hf i f p9
      have bZ:i<xs.length:=by rw[D2]; exact(Array.getElem?_eq_some_iff.1 p9).1
      rw[List.getElem?_eq_getElem bZ]at h3
      exact ih k f.type _ _ (List.all_eq_true.1 bL.2 f FK) h3)
     simp only[List.drop_zero]at h1
     refine⟨l,h1,?_⟩
     simp only[Shape,hu]
     exact⟨by rw[h1.length,hl],fun f FK=>by simpa using (h2 f FK).2⟩
    |array n e=>
     simp only[Bool.and_eq_true,decide_eq_true_eq]at bL
     obtain⟨xs,m,hm,_,hl,D2,hf⟩:=DataW.trod_array hu h
     have Au:m=fuel:=by omega
     subst Au
     obtain⟨l,h1,h2⟩:=BN (E:=Env.all w) (S:=fun l=>Shape P k e l) n cs (by rw[hl,bL.1]) (fun i hi=>by
      have h3:=hf i hi
      rw[List.getElem?_eq_getElem (by omega)]at h3
      exact ih k e _ _ bL.2 h3)
     refine⟨l,h1,?_⟩
     simp only[Shape,hu]
     exact⟨by rw[h1.length,hl],h2⟩
    |_=>simp at bL
end Go.PI
end
section
/- PI, the answers of code without fuel, by equations. -/
namespace Go.PI
theorem gg[ab]{α:Type}(y:Option α):lP (fun _=>y)=y:=
 kJ (g:=fun _=>y) (fun _ _ h=>h) (fun _ _ h=>h) fun _ h=>⟨0,h⟩
theorem sO[ab]{α β:Type}{g:Nat→Option β}{a:Nat→Option α}{b:α→Nat→Option β}(hg:fC g)(ha:fC a)(hb:∀ x,fC (b x))
  (h0:g 0=none) (h:∀ k,g (k+1)=(a k).bind fun x=>b x k):lP g=(lP a).bind fun x=>lP (b x):=by
 apply kJ hg
 ·intro k x hx
  cases k with
  |zero=>rw[h0]at hx; simp at hx
  |succ k=>
   rw[h]at hx
   cases hq:a k with
   |none=>rw[hq]at hx; simp at hx
   |some y=>
    rw[hq]at hx
    rw[(bg ha).2 ⟨k,hq⟩]
    exact(bg (hb y)).2 ⟨k,hx⟩
 ·intro x hx
  cases hq:lP a with
  |none=>rw[hq]at hx; simp at hx
  |some y=>
   rw[hq]at hx
   obtain⟨k1,h1⟩:=(bg ha).1 hq
   obtain⟨k2,h2⟩:=(bg (hb y)).1 hx
   refine⟨k1+k2+1,?_⟩
   rw[h,ha.le h1 k2]
   simp only[Option.bind_some]
   rw[Nat.add_comm]
   exact(hb y).le h2 k1
theorem mf{α:Type}(y:Option α):fC fun _=>y:=fun _ _ h=>h
theorem ek[ab]{α β:Type}{g:Nat→Option β}{a:Nat→Option α}{b:α→Option β}(hg:fC g)(ha:fC a)
  (h0:g 0=none) (h:∀ k,g (k+1)=(a k).bind b):lP g=(lP a).bind b:=by
 rw[sO hg ha (b:=fun x _=>b x) (fun x=>mf _) h0 h]
 congr 1; funext x; exact gg _
theorem bR[ab]{α:Type}{g:Nat→Option α}{y:Option α}(hg:fC g)(h0:g 0=none)(h:∀ k,g (k+1)=y):lP g=y:=by
 apply kJ hg
 ·intro k x hx
  cases k with
  |zero=>rw[h0]at hx; simp at hx
  |succ k=>rw[h]at hx; exact hx
 ·intro x hx; exact⟨1,by rw[h]; exact hx⟩
theorem tY[ab]{α:Type}{g a:Nat→Option α}(hg:fC g)(ha:fC a)(h0:g 0=none)(h:∀ k,g (k+1)=a k):lP g=lP a:=by
 have:=ek (b:=some) hg ha h0 (fun k=>by rw[h]; simp)
 rw[this]; simp
variable {C:Ctx}
theorem qa[ab](s:St):cP C .skip s=some (.norm s):=bR (dG C _ _) rfl fun _=>rfl
theorem Eb[ab](l:Nat)(s:St):cP C (.label l) s=some (.norm s):=bR (dG C _ _) rfl fun _=>rfl
theorem wX[ab](s:St):cP C .ret s=some (.ret s):=bR (dG C _ _) rfl fun _=>rfl
theorem tZ[ab](id:Nat)(s:St):cP C (.exit id) s=some (.exit id s):=bR (dG C _ _) rfl fun _=>rfl
theorem Ed[ab]{b c:Code}(hc:o5 b=some c){s:St}{o:Out}(h:cP C c s=some o):cP C (.scope b) s=some o:=by
 obtain⟨k,hk⟩:=(bg (dG C c s)).1 h
 exact(bg (dG C _ s)).2 ⟨k+1,by simp only[bQ,hc]; exact hk⟩
noncomputable def andThen[ab](C:Ctx)(b:Code):Out→Option Out
 |.norm s=>cP C b s
 |r=>some r
theorem gN[ab](a b:Code)(s:St):cP C (.seq a b) s=(cP C a s).bind (andThen C b):=by
 have h:=sO (dG C (.seq a b) s) (dG C a s) (b:=fun x k=>match x with|.norm s'=>bQ C k b s'|r=>some r)
  (fun x=>by cases x with
    |norm s'=>exact dG C b s'
    |_=>exact mf _) (by simp[bQ]) (fun k=>by
     simp only[bQ]
     cases hq:bQ C k a s with
     |none=>rfl
     |some r=>cases r<;>rfl)
 unfold cP at h ⊢
 rw[h]
 congr 1
 funext x
 cases x with
 |norm s'=>rfl
 |_=>exact gg _
noncomputable def To[ab](C:Ctx)(a b:Code)(s:St):AV→Option Out
 |.lit (.bool t)=>cond t (cP C a s) (cP C b s)
 |_=>none
theorem kU[ab](o:Operand)(a b:Code)(s:St):cP C (.cond o a b) s=To C a b s (ay s.fr o):=by
 unfold To
 split
 ·rename_i t ht
  cases t with
  |true=>exact tY (dG C _ _) (dG C _ _) (by simp[bQ]) fun k=>by simp only[bQ]; rw[ht]
  |false=>exact tY (dG C _ _) (dG C _ _) (by simp[bQ]) fun k=>by simp only[bQ]; rw[ht]
 ·rename_i hn
  refine bR (dG C _ _) (by simp[bQ]) fun k=>?_
  simp only[bQ]
def ua(id:Nat):Out→Option Out
 |.exit i s=>if i=id then some (.norm s) else some (.exit i s)
 |r=>some r
theorem ll[ab](id:Nat)(b:Code)(s:St):cP C (.block id b) s=(cP C b s).bind (ua id):=by
 refine ek (dG C _ _) (dG C _ _) (by simp[bQ]) fun k=>?_
 simp only[bQ]
 cases hq:bQ C k b s with
 |none=>rfl
 |some r=>cases r<;>rfl
noncomputable def I0[ab](C:Ctx)(b:Code)(n:Nat):Out→Option Out
 |.norm s=>cP C (.loop b) (gD n s)
 |r=>some r
theorem mY[ab](b:Code)(s:St):cP C (.loop b) s=(cP C b s).bind (I0 C b s.hp.length):=by
 have h:=sO (dG C (.loop b) s) (dG C b s) (b:=fun x k=>match x with|.norm s'=>bQ C k (.loop b) (gD s.hp.length s')|r=>some r)
  (fun x=>by cases x with
    |norm s'=>exact dG C (.loop b) (gD s.hp.length s')
    |_=>exact mf _) (by simp[bQ]) (fun k=>by
     rw[bQ]
     cases hq:bQ C k b s with
     |none=>rfl
     |some r=>cases r<;>rfl)
 unfold cP at h ⊢
 rw[h]
 congr 1
 funext x
 cases x with
 |norm s'=>rfl
 |_=>exact gg _
theorem dV[ab](ops:Array Oper)(l:List Oper)(s:St):fC fun k=>cE (fun o s=>fw C k o s) ops l s:=
 fun k x h=>im (fun o s r h=>(mono C k).o o s r h) ops l s x h
theorem jy[ab](ops:Array Oper):∀ (l:List Oper) (s:St),lP (fun k=>cE (fun o s=>fw C k o s) ops l s)=cE (hX C) ops l s
 |[],s=>gg _
 |o::l,s=>by
  simp only[cE]
  cases hw:cF ops s.fr o with
  |none=>exact gg _
  |some b=>
   cases b with
   |false=>exact jy ops l _
   |true=>
    simp only
    apply kJ
    ·intro k x hx
     have hm:=jo C o s
     simp only at hx ⊢
     cases hq:fw C k o s with
     |none=>rw[hq]at hx; simp at hx
     |some r=>
      rw[hq]at hx
      have ub:=hm k r hq
      simp only at hx ub ⊢
      rw[ub]
      cases r with
      |norm s'=>exact dV ops l s' k x hx
      |_=>exact hx
    ·intro k x hx
     cases hq:fw C k o s with
     |none=>rw[hq]at hx; simp at hx
     |some r=>
      rw[hq]at hx
      have h1:hX C o s=some r:=(bg (jo C o s)).2 ⟨k,hq⟩
      rw[h1]
      cases r with
      |norm s'=>
       simp only at hx ⊢
       rw[←jy ops l s']
       exact(bg (dV ops l s')).2 ⟨k,hx⟩
      |_=>exact hx
    ·intro x hx
     cases hq:hX C o s with
     |none=>rw[hq]at hx; simp at hx
     |some r=>
      rw[hq]at hx
      obtain⟨k1,h1⟩:=(bg (jo C o s)).1 hq
      cases r with
      |norm s'=>
       simp only at hx
       rw[←jy ops l s']at hx
       obtain⟨k2,h2⟩:=(bg (dV ops l s')).1 hx
       refine⟨k1+k2,?_⟩
       rw[(jo C o s).le h1 k2]
       simp only
       rw[Nat.add_comm]
       exact(dV ops l s').le h2 k1
      |_=>exact⟨k1,by rw[h1]; exact hx⟩
theorem BR[ab](id:Nat)(ops:Array Oper)(s:St):cP C (.region id ops false) s=cE (hX C) ops ops.toList (gC (C.ie s.fn id) s):=by
 rw[←jy]
 exact tY (dG C _ _) (dV ops _ _) (by simp[bQ]) fun k=>by simp only[bQ]
noncomputable def I3(C:Ctx)(rs:Array ResultVar):Out→Option (nC×af)
 |.norm s=>((aR C.P s.fr rs.toList).run s.hp).map fun l=>(.val (cB l),s.hp)
 |.ret s=>((aR C.P s.fr rs.toList).run s.hp).map fun l=>(.val (cB l),s.hp)
 |.jJ v s=>some (.jJ v,s.hp)
 |_=>none
theorem Aw[ab]{f:FuncId}{fn:Func}{c:Code}(hf:C.P.funcs[f]?=some fn)(hb:fn.body=some c)(args:List AV)(hp:af)(hD:BB c=false:=by rfl):
  kn C f args hp=(cP C c ⟨f,args++List.replicate (fn.ntmps-args.length) .undef,hp⟩).bind (I3 C fn.results):=by
 refine ek (mc C _ _ _) (dG C _ _) (by simp[lO]) fun k=>?_
 simp only[lO,hf,hb,hD]
 cases hq:bQ C k c ⟨f,args++List.replicate (fn.ntmps-args.length) .undef,hp⟩ with
 |none=>rfl
 |some r=>
  cases r with
  |norm s=>simp only[Option.bind_some,I3]; split<;>simp_all
  |ret s=>simp only[Option.bind_some,I3]; split<;>simp_all
  |_=>rfl
theorem mZ[ab]{c:Code}{s:St}{o:Out}(h:cP C c s=some o):∃ k,∀ d,bQ C (k+d) c s=some o:=by
 obtain⟨k,hk⟩:=(bg (dG C c s)).1 h
 exact⟨k,(dG C c s).le hk⟩
theorem Ax[ab]:∀ (c:Code) (s:St) (r:Out×Option AV),y5 (cP C) (hX C) c s=some r→∃ k,∀ d,y5 (fun c s=>bQ C (k+d) c s) (fun o s=>fw C (k+d) o s) c s=some r:=by
 have leaf:∀ c s (r:Out×Option AV),((cP C c s).map fun o=>(o,(none:Option AV)))=some r→∃ k,∀ d,((bQ C (k+d) c s).map fun o=>(o,(none:Option AV)))=some r:=by
  intro c s r h
  cases hq:cP C c s with
  |none=>rw[hq]at h; simp at h
  |some o=>
   obtain⟨k,hk⟩:=mZ hq
   exact⟨k,fun d=>by rw[hk d]; rw[hq]at h; exact h⟩
 intro c
 induction c with
 |seq x y _ IY=>
  intro s r h
  simp only[y5]at h ⊢
  cases hd:sH x with
  |some q=>
   obtain⟨ops,v⟩:=q
   rw[hd]at h
   simp only at h ⊢
   split at h
   case h_2=>simp at h
   rename_i s1 hr
   rw[←jy]at hr
   obtain⟨k1,OW⟩:=(bg (dV ops _ s)).1 hr
   have h1:=(dV (C:=C) ops _ s).le OW
   split at h
   case h_2=>simp at h
   rename_i q cy
   cases hq:cP C y s1 with
   |none=>rw[hq]at h; simp at h
   |some o=>
    obtain⟨k2,Ee⟩:=mZ hq
    refine⟨k1+k2,fun d=>?_⟩
    rw[show k1+k2+d=k1+(k2+d) by omega,h1]
    simp only[cy]
    rw[show k1+(k2+d)=k2+(k1+d) by omega,Ee]
    rw[hq]at h; exact h
  |none=>
   rw[hd]at h
   simp only at h ⊢
   split at h
   ·rename_i s' hx
    obtain⟨k1,OW⟩:=mZ hx
    obtain⟨k2,Ee⟩:=IY _ _ h
    refine⟨k1+k2,fun d=>?_⟩
    rw[show k1+k2+d=k1+(k2+d) by omega,OW]
    have:=Ee (k1+d)
    rw[show k2+(k1+d)=k1+(k2+d) by omega]at this
    exact this
   ·rename_i o dK hx
    obtain⟨k1,OW⟩:=mZ hx
    refine⟨k1,fun d=>?_⟩
    rw[OW d]
    cases o with
    |norm s'=>exact(dK s' rfl).elim
    |_=>exact h
   ·simp at h
 |_=>intro s r h; simp only[y5]at h ⊢; exact leaf _ _ _ h
theorem BS[ab]{P:Program}{rs:List ResultVar}{fr:List AV}{hp:af}{d:Option AV}{r:nC×af}(h:tQ (cP C) P rs fr hp d=some r):∃ k,∀ j,tQ (fun c s=>bQ C (k+j) c s) P rs fr hp d=some r:=by
 cases d with
 |none=>exact⟨0,fun _=>h⟩
 |some v=>
  simp only[tQ]at h ⊢
  split at h
  ·simp at h
  rename_i g as cy
  split at h
  ·simp at h
  rename_i fg Mp
  split at h
  ·simp at h
  rename_i cg Mq
  cases hn:cx cg with
  |false=>rw[hn]at h; simp at h
  |true=>
   rw[hn]at h
   cases hq:cP C (nG cg) ⟨g,as++List.replicate (fg.ntmps-as.length) .undef,hp⟩ with
   |none=>rw[hq]at h; simp at h
   |some o=>
    obtain⟨k,hk⟩:=mZ hq
    exact⟨k,fun j=>by simp only[Mp,Mq,hn,hk j]; rw[hq]at h; exact h⟩
theorem I4[ab]{f:FuncId}{fn:Func}{c:Code}(hf:C.P.funcs[f]?=some fn)(hb:fn.body=some c){args:List AV}{hp:af}(hD:BB c=true){r:nC×af}
  (h:tR (cP C) (hX C) C.P fn.results.toList c ⟨f,args++List.replicate (fn.ntmps-args.length) .undef,hp⟩=some r):kn C f args hp=some r:=by
 suffices hs:∃ k,tR (fun c s=>bQ C k c s) (fun o s=>fw C k o s) C.P fn.results.toList c ⟨f,args++List.replicate (fn.ntmps-args.length) .undef,hp⟩=some r by
  obtain⟨k,hk⟩:=hs
  exact(bg (mc C f args hp)).2 ⟨k+1,by simp only[lO,hf,hb,hD]; exact hk⟩
 unfold tR at h
 split at h
 ·rename_i s' d hn he
  obtain⟨k1,h1⟩:=Ax _ _ _ he
  obtain⟨k2,h2⟩:=BS h
  refine⟨k1+k2,?_⟩
  unfold tR
  rw[h1 k2,hn]
  have:=h2 k1
  rw[show k2+k1=k1+k2 by omega]at this
  exact this
 ·rename_i s' d hn he
  obtain⟨k1,h1⟩:=Ax _ _ _ he
  obtain⟨k2,h2⟩:=BS h
  refine⟨k1+k2,?_⟩
  unfold tR
  rw[h1 k2,hn]
  have:=h2 k1
  rw[show k2+k1=k1+k2 by omega]at this
  exact this
 ·rename_i v s' hn he
  obtain⟨k1,h1⟩:=Ax _ _ _ he
  refine⟨k1+0,?_⟩
  unfold tR
  rw[h1 0,hn]
  exact h
 ·simp at h
def m6(hp:af)(args:List AV)(q:nC×af):Option (nC×List (Nat×aL)):=(gd args q.2 q.1).run hp
theorem Mr[ab](g:FuncId)(hi:C.kl g=none)(args:List AV)(hp:af):
  IZ C g args hp=((aM 1000 args).run hp).bind fun as=>(kn C g as []).bind (m6 hp args):=by
 have h1:∀ k,(kT C (k+1) g args).run hp=((aM 1000 args).run hp).bind fun as=>(lO C k g as []).bind (m6 hp args):=by
  intro k
  rw[kT,RM.run_bind]
  congr 1
  funext as
  rw[hi]
  simp only
  cases hq:lO C k g as [] with
  |none=>rfl
  |some q=>rfl
 cases hs:(aM 1000 args).run hp with
 |none=>exact bR (BQ C _ _ _) (by simp[kT,RM.ae]) fun k=>by rw[h1,hs]; rfl
 |some as=>
  refine ek (BQ C _ _ _) (mc C g as []) (by simp[kT,RM.ae]) fun k=>?_
  rw[h1,hs]; rfl
theorem GX[ab](g:FuncId){h:List AV→Option AV}(hi:C.kl g=some h)(args:List AV)(hp:af):
  IZ C g args hp=((aM 1000 args).run hp).bind fun as=>(h as).bind fun r=>m6 hp args (.val r,[]):=by
 refine bR (BQ C _ _ _) (by simp[kT,RM.ae]) fun k=>?_
 rw[kT,RM.run_bind]
 congr 1
 funext as
 rw[hi]
 simp only
 cases hq:h as with
 |none=>rfl
 |some q=>rfl
def I5(o:Oper)(s:St):nC×List (Nat×aL)→Option Out
 |(.val r,wr)=>some (.norm { s with fr:=bC s.fr o.dst r,hp:=ak s.hp wr })
 |(.jJ v,wr)=>some (.jJ v { s with hp:=ak s.hp wr })
def FM(o:Oper)(s:St):nC×af→Option Out
 |(.val r,hp)=>some (.norm { s with fr:=bC s.fr o.dst r,hp:=gE s.hp.length r hp })
 |(.jJ v,hp)=>some (.jJ v { s with hp:=gE s.hp.length v hp })
def gz(o:Oper)(s:St)(e:di):Option Out:=some (.norm { s with fr:=bC s.fr o.dst e.val,hp:=ak s.hp e.wr })
def pb(nm:Nat)(lg:List Nat)(hp:af):nC×af→Option (di×List Nat)
 |(.val r,gX)=>((fK nm r gX).run hp).map fun e=>(e,lg)
 |_=>none
noncomputable def Ef[ab](C:Ctx)(nm:Nat)(g:FuncId)(args:List AV)(hp:af):Option (di×List Nat):=
 ((aM 1000 args).run hp).bind fun as=>match C.iM g with
   |some h=>(h as).bind fun q=>((fK nm q.1 q.2).run hp).map fun e=>(e,(aM 1000 args).log hp)
   |none=>(kn C g as []).bind (pb nm ((aM 1000 args).log hp) hp)
theorem wY{nm:Nat}{r:AV}{gX hp:af}:(fK nm r gX).log hp=[]:=by
 unfold fK
 split
 ·split
  ·split<;>rfl
  ·rfl
 ·rfl
theorem zk[ab]{F:List AV→Option (nC×af)}{nm:Nat}{g:FuncId}{args:List AV}{hp:af}:
  ((gZ C F nm g args).run hp).map (fun e=>(e,(gZ C F nm g args).log hp))=((aM 1000 args).run hp).bind fun as=>match C.iM g with
    |some h=>(h as).bind fun q=>((fK nm q.1 q.2).run hp).map fun e=>(e,(aM 1000 args).log hp)
    |none=>(F as).bind (pb nm ((aM 1000 args).log hp) hp):=by
 unfold gZ
 rw[RM.run_bind,RM.ej]
 cases hs:(aM 1000 args).run hp with
 |none=>rfl
 |some as=>
  simp only[Option.bind_some]
  cases hi:C.iM g with
  |some h=>
   simp only
   cases hh:h as with
   |none=>rfl
   |some q=>simp only[Option.bind_some,wY,List.append_nil]
  |none=>
   simp only
   cases hq:F as with
   |none=>rfl
   |some q=>
    obtain⟨r,gX⟩:=q
    cases r with
    |val v=>simp only[Option.bind_some,pb,wY,List.append_nil]
    |jJ v=>rfl
theorem Eg[ab]{F:List AV→Option (nC×af)}{nm:Nat}{g:FuncId}{args:List AV}{hp:af}:
  (gZ C F nm g args).run hp=(((aM 1000 args).run hp).bind fun as=>match C.iM g with
    |some h=>(h as).bind fun q=>((fK nm q.1 q.2).run hp).map fun e=>(e,(aM 1000 args).log hp)
    |none=>(F as).bind (pb nm ((aM 1000 args).log hp) hp)).map Prod.fst:=by
 rw[←zk]
 cases (gZ C F nm g args).run hp<;>rfl
noncomputable def qW[ab](C:Ctx)(o:Oper)(s:St):FuncId×List AV→Option Out
 |(g,args)=>match au o.op with
  |true=>(Ef C s.hp.length g args s.hp).bind fun q=>gz o s q.1
  |false=>match C.kind g with
   |.pure=>(IZ C g args s.hp).bind (I5 o s)
   |.imp=>(kn C g args s.hp).bind (FM o s)
theorem BT{run:Code→St→Option Out}{ev:Nat→Code→St→Option Out}(hg:∀ c s,fC fun k=>ev k c s)(hl:∀ c s r,run c s=some r→∃ k,ev k c s=some r)
  {n:Nat} {args:List AV} {dst:Option Tmp} {s:St} {r:Out} (hy:gF run n args dst s=some r):∃ k,gF (ev k) n args dst s=some r:=by
 unfold gF at hy ⊢
 split at hy
 case h_2=>simp at hy
 rename_i fn ps as bd fr ho
 split at hy
 case h_2=>simp at hy
 rename_i hc
 split at hy
 case h_2=>simp at hy
 rename_i s1 h1
 obtain⟨k1,e1⟩:=hl _ _ _ h1
 split at hy
 case h_2=>simp at hy
 rename_i h2
 have two:∀ o,run bd { s1 with hp:=ow s1.hp n .busy }=some o→∃ k,ev k as ⟨fn,fu fr ps.toList args,s.hp⟩=some (.norm s1)∧ev k bd { s1 with hp:=ow s1.hp n .busy }=some o:=by
  intro o h3
  obtain⟨k2,e2⟩:=hl _ _ _ h3
  exact⟨k1+k2,(hg _ _).le e1 k2,by rw[Nat.add_comm]; exact(hg _ _).le e2 k1⟩
 split at hy
 ·rename_i s2 h3
  obtain⟨k,a,b⟩:=two _ h3
  exact⟨k,by simp only[a,h2,b]; exact hy⟩
 ·rename_i id s2 h3
  obtain⟨k,a,b⟩:=two _ h3
  exact⟨k,by simp only[a,h2,b]; exact hy⟩
 ·rename_i s2 h3
  obtain⟨k,a,b⟩:=two _ h3
  exact⟨k,by simp only[a,h2,b]; exact hy⟩
 ·simp at hy
noncomputable def I6[ab](C:Ctx)(o:Oper)(s:St)(args:List AV):AV→Option Out
 |.mp true n=>gF (fun c s=>cP C c s) n args o.dst s
 |_=>none
noncomputable def nL[ab](C:Ctx)(o:Oper)(s:St)(args:List AV)(fv:AV):Option (FuncId×List AV)→Option Out
 |some q=>qW C o s q
 |none=>I6 C o s args fv
noncomputable def Q2[ab](s:St):nC×af→Option Out
 |(.val _,wa)=>u7 s s.hp.length wa
 |_=>none
theorem Eh[ab](f:Operand)(ps:Array Tmp)(as bd:Code)(s:St):cP C (.rangeFunc f ps as bd) s =
  (bA (ay s.fr f) [.mp true s.hp.length]).bind fun q=>(kn C q.1 q.2 (s.hp++[some (.ga (.loop s.fn ps as bd .ready) (tP as bd s.fr))])).bind (Q2 s):=by
 cases hr:bA (ay s.fr f) [.mp true s.hp.length] with
 |none=>exact bR (dG C _ _) (by simp[bQ]) fun k=>by simp only[bQ,hr]; rfl
 |some q=>
  obtain⟨g,args⟩:=q
  simp only[Option.bind_some]
  refine ek (dG C _ _) (mc C g args _) (by simp[bQ]) fun k=>?_
  simp only[bQ,hr]
  cases hq:lO C k g args (s.hp++[some (.ga (.loop s.fn ps as bd .ready) (tP as bd s.fr))]) with
  |none=>rfl
  |some q=>obtain⟨r,wa⟩:=q; cases r<;>rfl
theorem m8[ab]{dst:Option Tmp}{f:Operand}{args:Array Operand}{lY:Array TypeId}{type:TypeId}{pos:String}{after:Array Edge}{guard:Option (Nat×Bool)}(s:St):
  hX C ⟨dst,.call ⟨.value f,args,lY⟩,type,pos,after,guard⟩ s=nL C ⟨dst,.call ⟨.value f,args,lY⟩,type,pos,after,guard⟩ s (args.toList.map (ay s.fr)) (ay s.fr f)
   (bA (ay s.fr f) (args.toList.map (ay s.fr))):=by
 cases hr:bA (ay s.fr f) (args.toList.map (ay s.fr)) with
 |none=>
  simp only[nL,I6]
  split
  ·rename_i n hn
   have dF:∀ k,fw C (k+1) ⟨dst,.call ⟨.value f,args,lY⟩,type,pos,after,guard⟩ s=gF (fun c s=>bQ C k c s) n (args.toList.map (ay s.fr)) dst s:=fun k=>by simp only[fw,hr]; rw[hn]
   apply kJ (jo C _ _)
   ·intro k x hx
    cases k with
    |zero=>simp[fw]at hx
    |succ k=>
     rw[dF]at hx
     exact vh (fun c s r h=>(bg (dG C c s)).2 ⟨k,h⟩) hx
   ·intro x hx
    obtain⟨k,hk⟩:=BT (fun c s=>dG C c s) (fun c s r h=>(bg (dG C c s)).1 h) hx
    exact⟨k+1,by rw[dF]; exact hk⟩
  ·rename_i dK
   refine bR (jo C _ _) (by simp[fw]) fun k=>?_
   simp only[fw,hr]
 |some q=>
  obtain⟨g,as⟩:=q
  simp only[nL,qW]
  cases pa:au (Op.call ⟨.value f,args,lY⟩) with
  |true=>
   have dF:∀ k,fw C (k+1) ⟨dst,.call ⟨.value f,args,lY⟩,type,pos,after,guard⟩ s =
     (((aM 1000 as).run s.hp).bind fun nM=>match C.iM g with
       |some h=>(h nM).bind fun q=>((fK s.hp.length q.1 q.2).run s.hp).map fun e=>(e,(aM 1000 as).log s.hp)
       |none=>(lO C k g nM []).bind (pb s.hp.length ((aM 1000 as).log s.hp) s.hp)).bind fun q=>gz ⟨dst,.call ⟨.value f,args,lY⟩,type,pos,after,guard⟩ s q.1:=by
    intro k
    simp only[fw,hr,pa,Eg]
    cases (((aM 1000 as).run s.hp).bind fun nM=>match C.iM g with
      |some h=>(h nM).bind fun q=>((fK s.hp.length q.1 q.2).run s.hp).map fun e=>(e,(aM 1000 as).log s.hp)
      |none=>(lO C k g nM []).bind (pb s.hp.length ((aM 1000 as).log s.hp) s.hp))<;>rfl
   simp only[Ef]
   cases hs:(aM 1000 as).run s.hp with
   |none=>exact bR (jo C _ _) (by simp[fw]) fun k=>by rw[dF,hs]; rfl
   |some nM=>
    simp only[Option.bind_some]
    cases hi:C.iM g with
    |some h=>exact bR (jo C _ _) (by simp[fw]) fun k=>by rw[dF,hs]; simp only[Option.bind_some,hi]
    |none=>
     simp only[Option.bind_assoc]
     refine ek (jo C _ _) (mc C g nM []) (by simp[fw]) fun k=>?_
     rw[dF,hs]
     simp only[Option.bind_some,hi,Option.bind_assoc]
  |false=>
  simp only
  cases hk:C.kind g with
  |pure=>
   refine ek (jo C _ _) (BQ C g as s.hp) (by simp[fw]) fun k=>?_
   simp only[fw,hr,pa,hk]
   cases hq:(kT C k g as).run s.hp with
   |none=>rfl
   |some q=>obtain⟨r,wr⟩:=q; cases r<;>rfl
  |imp=>
   refine ek (jo C _ _) (mc C g as s.hp) (by simp[fw]) fun k=>?_
   simp only[fw,hr,pa,hk]
   cases hq:lO C k g as s.hp with
   |none=>rfl
   |some q=>obtain⟨r,wr⟩:=q; cases r<;>rfl
theorem zl[ab]{dst:Option Tmp}{rv:Operand}{name:String}{args:Array Operand}{lY:Array TypeId}{type:TypeId}{pos:String}{after:Array Edge}{guard:Option (Nat×Bool)}(s:St):
  hX C ⟨dst,.call ⟨.invoke rv name,args,lY⟩,type,pos,after,guard⟩ s=(oX C.P (ay s.fr rv) name).bind fun q=>qW C ⟨dst,.call ⟨.invoke rv name,args,lY⟩,type,pos,after,guard⟩ s (q.1,q.2::args.toList.map (ay s.fr)):=by
 cases hr:oX C.P (ay s.fr rv) name with
 |none=>exact bR (jo C _ _) (by simp[fw]) fun k=>by simp only[fw,hr]; rfl
 |some q=>
  obtain⟨g,x⟩:=q
  simp only[Option.bind_some,qW]
  have pa:au (Op.call ⟨.invoke rv name,args,lY⟩)=false:=rfl
  rw[pa]
  simp only
  cases hk:C.kind g with
  |pure=>
   refine ek (jo C _ _) (BQ C g _ s.hp) (by simp[fw]) fun k=>?_
   simp only[fw,hr,hk]
   cases hq:(kT C k g (x::args.toList.map (ay s.fr))).run s.hp with
   |none=>rfl
   |some q=>obtain⟨r,wr⟩:=q; cases r<;>rfl
  |imp=>
   refine ek (jo C _ _) (mc C g _ s.hp) (by simp[fw]) fun k=>?_
   simp only[fw,hr,hk]
   cases hq:lO C k g (x::args.toList.map (ay s.fr)) s.hp with
   |none=>rfl
   |some q=>obtain⟨r,wr⟩:=q; cases r<;>rfl
def qb:Op→Bool
 |.call c=>match c.callee with
  |.builtin _=>true
  |_=>false
 |.assign (.const (.slice none 0 0))=>false
 |_=>true
def FN(C:Ctx)(o:Oper)(s:St)(e:di):Option Out:=some (.norm (BA (match o.op with|.call _=>fun _=>[]|_=>C.qK s.fn) o.dst { s with fr:=bC s.fr o.dst e.val,hp:=ak s.hp e.wr }))
theorem wZ{dst:Option Tmp}{s:St}:BA (fun _=>[]) dst s=s:=by cases dst<;>rfl
theorem w8[ab]{o:Oper}(h:qb o.op=true)(s:St):hX C o s=((aK C.P s.hp.length (ay s.fr) o).run s.hp).bind (FN C o s):=by
 refine bR (jo C _ _) (by simp[fw]) fun k=>?_
 obtain⟨dst,op,type,pos,after,guard⟩:=o
 rw[fw]
 split
 ·grind[FN,wZ,qb]
 ·simp_all[qb]
 ·grind[FN]
class jz(C:Ctx):Prop where
 h:C.qK=fun _ _=>[]
 ie:C.ie=fun _ _=>[]
theorem eF[ab][jz C]{o:Oper}(h:qb o.op=true)(s:St):hX C o s=((aK C.P s.hp.length (ay s.fr) o).run s.hp).bind (gz o s):=by
 rw[w8 h]
 congr 1
 funext e
 have hl:(match o.op with|.call _=>fun _=>[]|_=>C.qK s.fn)=fun _=>[]:=by
  rw[jz.h (C:=C)]; cases o.op<;>rfl
 simp only[FN,hl,wZ,gz]
theorem I7[ab]{dst:Tmp}{type:TypeId}{pos:String}{after:Array Edge}{guard:Option (Nat×Bool)}(s:St):
  hX C ⟨some dst,.assign (.const (.slice none 0 0)),type,pos,after,guard⟩ s =
   cond (C.acc s.fn dst) ((aN C.P type).bind fun r=>if 0<r.size then some (.norm { s with fr:=s.fr.set dst (.bp r.size s.hp.length 0 0 0 none),hp:=s.hp++[some (.arr true true false [])] }) else none)
    (some (.norm { s with fr:=s.fr.set dst (.lit cK) })):=by
 refine bR (jo C _ _) (by simp[fw]) fun k=>?_
 simp only[fw]
 cases C.acc s.fn dst with
 |true=>
  simp only[if_true,cond_true]
  cases aN C.P type<;>rfl
 |false=>rfl
end Go.PI
end
section
/- PI, drawn regions without fuel. -/
namespace Go.PI
variable {C:Ctx}
noncomputable def BU[ab](C:Ctx)(nm:Nat)(o:Oper)(fr:List AV)(hp:af):Option (di×List Nat):=
 lP fun k=>((ig C k nm o fr).run hp).map fun e=>(e,(ig C k nm o fr).log hp)
theorem FO[ab](C:Ctx)(nm:Nat)(o:Oper)(fr:List AV)(hp:af):fC fun k=>((ig C k nm o fr).run hp).map fun e=>(e,(ig C k nm o fr).log hp):=by
 intro k x h
 simp only at h ⊢
 cases hq:(ig C k nm o fr).run hp with
 |none=>rw[hq]at h; simp at h
 |some e=>
  obtain⟨h1,h2⟩:=(mono C k).e nm o fr hp e hq
  rw[hq]at h
  rw[h1,h2]
  exact h
def OX[ab](x:Item)(s:St):di×List Nat→Option (St×fi)
 |(e,lg)=>
  if e.wr.all (fun q=>decide (q.1<s.hp.length)&&((au x.o.op&&decide (q.1=x.nm))||(match s.hp[q.1]? with|some (some _)=>true|_=>false)))=true then
   some ({ s with fr:=bC s.fr x.o.dst e.val,hp:=ak s.hp e.wr },⟨x.idx,lg,e.wr.map (·.1)⟩)
  else none
noncomputable def BV[ab](C:Ctx)(ops:Array Oper)(x:Item)(s:St):Option (St×fi):=
 match cF ops s.fr x.o with
 |none=>none
 |some false=>some ({ s with fr:=bC s.fr x.o.dst .undef },⟨x.idx,[],[]⟩)
 |some true=>(BU C (x.at s.hp.length) x.o s.fr s.hp).bind (OX x s)
noncomputable def sP[ab](C:Ctx)(ops:Array Oper):List Item→St→Option (St×List fi)
 |[],s=>some (s,[])
 |x::rest,s=>(BV C ops x s).bind fun q=>(sP C ops rest q.1).map fun q'=>(q'.1,q.2::q'.2)
theorem w9[ab](ops:Array Oper)(x:Item)(s:St):fC fun k=>eX (fun nm o fr=>ig C k nm o fr) ops x s:=
 fun k r h=>wW (fun nm o fr hp=>(mono C k).e nm o fr hp) ops x s r h
theorem pc[ab](ops:Array Oper)(l:List Item)(s:St):fC fun k=>cr (fun nm o fr=>ig C k nm o fr) ops l s:=
 fun k r h=>nK (fun nm o fr hp=>(mono C k).e nm o fr hp) ops l s r h
theorem FP[ab]{α β:Type}{a:Nat→Option α}(ha:fC a)(f:α→Option β):lP (fun k=>(a k).bind f)=(lP a).bind f:=by
 apply kJ
 ·intro k x h
  cases hq:a k with
  |none=>simp[hq]at h
  |some y=>
   have h2:=ha k y hq
   simp only[hq]at h
   simp only[h2]
   exact h
 ·intro k x h
  cases hq:a k with
  |none=>simp[hq]at h
  |some y=>simp only[hq]at h; rw[(bg ha).2 ⟨k,hq⟩]; exact h
 ·intro x h
  cases hq:lP a with
  |none=>rw[hq]at h; simp at h
  |some y=>
   rw[hq]at h
   obtain⟨k,hk⟩:=(bg ha).1 hq
   exact⟨k,by rw[hk]; exact h⟩
theorem GY[ab](ops:Array Oper)(x:Item)(s:St):lP (fun k=>eX (fun nm o fr=>ig C k nm o fr) ops x s)=BV C ops x s:=by
 unfold BV
 cases hw:cF ops s.fr x.o with
 |none=>simp only[eX,hw]; exact gg _
 |some b=>
  cases b with
  |false=>simp only[eX,hw]; exact gg _
  |true=>
   rw[show (fun k=>eX (fun nm o fr=>ig C k nm o fr) ops x s)=fun k=>(((ig C k (x.at s.hp.length) x.o s.fr).run s.hp).map fun e=>(e,(ig C k (x.at s.hp.length) x.o s.fr).log s.hp)).bind (OX x s) from ?_]
   ·exact FP (FO C (x.at s.hp.length) x.o s.fr s.hp) _
   ·funext k
    simp only[eX,hw]
    cases hq:(ig C k (x.at s.hp.length) x.o s.fr).run s.hp<;>rfl
theorem pd[ab](ops:Array Oper):∀ (l:List Item) (s:St),lP (fun k=>cr (fun nm o fr=>ig C k nm o fr) ops l s)=sP C ops l s
 |[],s=>gg _
 |x::l,s=>by
  simp only[sP]
  rw[←GY]
  apply kJ (pc ops (x::l) s)
  ·intro k r h
   simp only[cr]at h
   cases hq:eX (fun nm o fr=>ig C k nm o fr) ops x s with
   |none=>rw[hq]at h; simp at h
   |some q=>
    obtain⟨s1,f⟩:=q
    rw[hq]at h
    simp only at h
    rw[(bg (w9 ops x s)).2 ⟨k,hq⟩]
    cases hd:cr (fun nm o fr=>ig C k nm o fr) ops l s1 with
    |none=>rw[hd]at h; simp at h
    |some q2=>
     rw[hd]at h
     simp only[Option.bind_some]
     rw[←pd ops l s1,(bg (pc ops l s1)).2 ⟨k,hd⟩]
     exact h
  ·intro r h
   cases hq:lP (fun k=>eX (fun nm o fr=>ig C k nm o fr) ops x s) with
   |none=>rw[hq]at h; simp at h
   |some q=>
    obtain⟨s1,f⟩:=q
    rw[hq]at h
    simp only[Option.bind_some]at h
    rw[←pd ops l s1]at h
    cases hd:lP (fun k=>cr (fun nm o fr=>ig C k nm o fr) ops l s1) with
    |none=>rw[hd]at h; simp at h
    |some q2=>
     rw[hd]at h
     obtain⟨k1,h1⟩:=(bg (w9 ops x s)).1 hq
     obtain⟨k2,h2⟩:=(bg (pc ops l s1)).1 hd
     have h3:=(w9 ops x s).le h1 k2
     have h4:=(pc ops l s1).le h2 k1
     rw[Nat.add_comm]at h4
     refine⟨k1+k2,?_⟩
     simp only[cr]
     rw[h3]
     simp only
     rw[h4]
     exact h
noncomputable def FQ[ab](C:Ctx)(ops:Array Oper)(m:Nat)(q:St×List fi):Option Out:=
 if (eL (bW ops.toList) q.2&&mv (bW ops.toList) ops.size m)=true then cE (hX C) ops (ops.toList.drop m) q.1 else none
theorem GZ[ab](id:Nat)(ops:Array Oper)(h:sG ops=true)(s:St):cP C (.region id ops true) s =
  (sP C ops (bD 0 s.hp.length (ops.toList.take (C.head s.fn id ops))) { gC (C.ie s.fn id) s with hp:=(gC (C.ie s.fn id) s).hp++List.replicate ((ops.toList.take (C.head s.fn id ops)).filter fun o=>au o.op).length none }).bind (FQ C ops (C.head s.fn id ops)):=by
 rw[←pd]
 refine Eq.trans (sO (dG C (.region id ops true) s) (pc ops _ _) (b:=fun q k=>if (eL (bW ops.toList) q.2&&mv (bW ops.toList) ops.size (C.head s.fn id ops))=true then
   cE (fun o s=>fw C k o s) ops (ops.toList.drop (C.head s.fn id ops)) q.1 else none) (fun q=>by
    by_cases hc:(eL (bW ops.toList) q.2&&mv (bW ops.toList) ops.size (C.head s.fn id ops))=true
    ·simp only[hc,if_true]; exact dV ops _ _
    ·simp only[hc]; exact mf _) (by simp[bQ]) (fun k=>by
   simp only[bQ,h,if_true]
   cases hq:cr (fun nm o fr=>ig C k nm o fr) ops (bD 0 s.hp.length (ops.toList.take (C.head s.fn id ops))) { gC (C.ie s.fn id) s with hp:=(gC (C.ie s.fn id) s).hp++List.replicate ((ops.toList.take (C.head s.fn id ops)).filter fun o=>au o.op).length none } with
   |none=>rfl
   |some q=>rfl)) ?_
 congr 1
 funext q
 unfold FQ
 by_cases hc:(eL (bW ops.toList) q.2&&mv (bW ops.toList) ops.size (C.head s.fn id ops))=true
 ·simp only[hc,if_true]; exact jy ops _ _
 ·simp only[hc]; exact gg _
theorem Ei[ab]{o:Oper}(h:∀ c f,o.op=.call c→c.callee=.value f→False)(h2:∀ c m i,o.op=.call c→c.callee=.invoke m i→False)(nm:Nat)(fr:List AV)(hp:af):
  BU C nm o fr hp=((aK C.P nm (ay fr) o).run hp).map fun e=>(e,(aK C.P nm (ay fr) o).log hp):=by
 refine bR (FO C _ _ _ _) (by simp[ig,RM.ae]) fun k=>?_
 obtain⟨dst,op,type,pos,after,guard⟩:=o
 cases op with
 |call c=>
  obtain⟨callee,args,lY⟩:=c
  cases callee with
  |builtin b=>simp only[ig]
  |value f=>exact(h _ _ rfl rfl).elim
  |invoke m i=>exact(h2 _ _ _ rfl rfl).elim
 |_=>simp only[ig]
def I8(hp:af)(args:List AV)(q:nC×af):List Nat:=(aM 1000 args).log hp++(gd args q.2 q.1).log hp
def m9(hp:af)(args:List AV)(q:nC×af):Option (di×List Nat):=
 (m6 hp args q).bind fun r=>match r.1 with
   |.val v=>some (⟨v,r.2⟩,I8 hp args q)
   |.jJ _=>none
noncomputable def pe[ab](C:Ctx)(nm:Nat)(al:Bool)(hp:af):FuncId×List AV→Option (di×List Nat)
 |(g,args)=>match al with
  |true=>Ef C nm g args hp
  |false=>match C.kind g with
  |.pure=>match C.kl g with
   |some h=>((aM 1000 args).run hp).bind fun as=>(h as).bind fun r=>m9 hp args (.val r,[])
   |none=>((aM 1000 args).run hp).bind fun as=>(kn C g as []).bind (m9 hp args)
  |.imp=>(match C.qT g with
   |some h=>((h args).run hp).map fun e=>(e,(h args).log hp)
   |none=>((yz C.P nm g args).run hp).map fun e=>(e,(yz C.P nm g args).log hp))
theorem I9[ab]{hp:af}{args as:List AV}{g:FuncId}{k:Nat}(hs:(aM 1000 args).run hp=some as)(hi:C.kl g=none){q:nC×af}(hq:lO C k g as []=some q):
  (((kT C (k+1) g args >>= fun (x:nC×List (Nat×aL))=>match x.1 with|.val r=>(pure ⟨r,x.2⟩:RM di)|.jJ _=>RM.fail).run hp).map fun e=>(e,(kT C (k+1) g args >>= fun (x:nC×List (Nat×aL))=>match x.1 with|.val r=>(pure ⟨r,x.2⟩:RM di)|.jJ _=>RM.fail).log hp))=m9 hp args q:=by
 have h1:(kT C (k+1) g args).run hp=m6 hp args q:=by
  rw[kT,RM.run_bind,hs]
  simp only[Option.bind_some,hi,hq]
  rfl
 have h2:(kT C (k+1) g args).log hp=I8 hp args q:=by
  rw[kT,RM.ej,hs]
  simp only[hi,hq]
  rfl
 rw[RM.run_bind,RM.ej,h1,h2]
 unfold m9
 cases cq:m6 hp args q with
 |none=>rfl
 |some r=>
  obtain⟨r,wr⟩:=r
  cases r with
  |val v=>simp only[Option.bind_some,pure,RM.log,List.append_nil]; rfl
  |jJ v=>rfl
theorem xa[ab]{o:Oper}{nm:Nat}{fr:List AV}{hp:af}{g:FuncId}{as:List AV}(hk:C.kind g=.pure)
  (nN:∀ k,ig C (k+1) nm o fr=(kT C k g as >>= fun (x:nC×List (Nat×aL))=>match x.1 with|.val r=>(pure ⟨r,x.2⟩:RM di)|.jJ _=>RM.fail)) :
  BU C nm o fr hp=pe C nm false hp (g,as):=by
 have hg:=FO C nm o fr hp
 have hz:((ig C 0 nm o fr).run hp).map (fun e=>(e,(ig C 0 nm o fr).log hp))=none:=by
  simp[ig,RM.ae]
 simp only[pe,hk]
 cases hs:(aM 1000 as).run hp with
 |none=>
  have bf:∀ k,(kT C k g as).run hp=none:=by
   intro k
   cases k with
   |zero=>simp[kT,RM.ae]
   |succ k=>rw[kT,RM.run_bind,hs]; rfl
  have:(match C.kl g with
    |some h=>(none:Option (List AV)).bind fun nM=>(h nM).bind fun r=>m9 hp as (.val r,[])
    |none=>(none:Option (List AV)).bind fun nM=>(kn C g nM []).bind (m9 hp as))=none:=by cases C.kl g<;>rfl
  rw[this]
  refine bR hg hz fun k=>?_
  rw[nN,RM.run_bind,bf]; rfl
 |some nM=>
  cases hi:C.kl g with
  |some h=>
   simp only[Option.bind_some]
   have h1:∀ k,(kT C (k+1) g as).run hp=(h nM).bind fun r=>m6 hp as (.val r,[]):=by
    intro k
    rw[kT,RM.run_bind,hs]
    simp only[Option.bind_some,hi]
    cases h nM<;>rfl
   have h2:∀ k,(kT C (k+1) g as).log hp=(aM 1000 as).log hp++(match h nM with|some r=>(gd as [] (.val r)).log hp|none=>[]):=by
    intro k
    rw[kT,RM.ej,hs]
    simp only[hi]
    cases h nM<;>rfl
   have h3:∀ k,((ig C (k+1+1) nm o fr).run hp).map (fun e=>(e,(ig C (k+1+1) nm o fr).log hp))=(h nM).bind fun r=>m9 hp as (.val r,[]):=by
    intro k
    rw[nN,RM.run_bind,RM.ej,h1,h2]
    cases hh:h nM with
    |none=>rfl
    |some r=>
     simp only[Option.bind_some,m9]
     cases cq:m6 hp as (.val r,[]) with
     |none=>rfl
     |some r=>
      obtain⟨r,wr⟩:=r
      cases r with
      |val v=>simp only[Option.bind_some,pure,RM.log,List.append_nil]; rfl
      |jJ v=>rfl
   apply kJ hg
   ·intro k x hx
    match k with
    |0=>rw[hz]at hx; cases hx
    |1=>
     rw[nN,RM.run_bind]at hx
     simp[kT,RM.ae]at hx
    |k+2=>rw[←h3 k]; exact hx
   ·intro x hx
    exact⟨2,by rw[h3 0]; exact hx⟩
  |none=>
   simp only[Option.bind_some]
   have h3:∀ k,((ig C (k+1+1) nm o fr).run hp).map (fun e=>(e,(ig C (k+1+1) nm o fr).log hp))=(lO C k g nM []).bind (m9 hp as):=by
    intro k
    cases hq:lO C k g nM [] with
    |none=>
     rw[nN,RM.run_bind,kT,RM.run_bind,hs]
     simp only[Option.bind_some,hi,hq,RM.ae]
     rfl
    |some q=>
     rw[nN]
     exact I9 hs hi hq
   have hb:lP (fun k=>(lO C k g nM []).bind (m9 hp as))=(kn C g nM []).bind (m9 hp as):=FP (mc C g nM []) _
   rw[←hb]
   apply kJ hg
   ·intro k x hx
    match k with
    |0=>rw[hz]at hx; cases hx
    |1=>
     rw[nN,RM.run_bind]at hx
     simp[kT,RM.ae]at hx
    |k+2=>
     rw[h3 k]at hx
     rw[hb]
     cases hq:lO C k g nM [] with
     |none=>rw[hq]at hx; simp at hx
     |some q=>rw[hq]at hx; rw[show kn C g nM []=some q from (bg (mc C g nM [])).2 ⟨k,hq⟩]; exact hx
   ·intro x hx
    rw[hb]at hx
    cases hq:kn C g nM [] with
    |none=>rw[hq]at hx; simp at hx
    |some q=>
     rw[hq]at hx
     obtain⟨k,hk⟩:=(bg (mc C g nM [])).1 hq
     exact⟨k+1+1,by rw[h3 k,hk]; exact hx⟩
theorem G0[ab]{dst:Option Tmp}{rv:Operand}{name:String}{args:Array Operand}{lY:Array TypeId}{type:TypeId}{pos:String}{after:Array Edge}{guard:Option (Nat×Bool)}{nm:Nat}{fr:List AV}{hp:af}{g:FuncId}{x:AV}
  (hr:oX C.P (ay fr rv) name=some (g,x)) (hk:C.kind g=.pure):BU C nm ⟨dst,.call ⟨.invoke rv name,args,lY⟩,type,pos,after,guard⟩ fr hp=pe C nm false hp (g,x::args.toList.map (ay fr)):=by
 refine xa hk fun k=>?_
 simp only[ig,hr,hk]
 congr 1
theorem uc[ab]{dst:Option Tmp}{f:Operand}{args:Array Operand}{lY:Array TypeId}{type:TypeId}{pos:String}{after:Array Edge}{guard:Option (Nat×Bool)}(nm:Nat)(fr:List AV)(hp:af):
  BU C nm ⟨dst,.call ⟨.value f,args,lY⟩,type,pos,after,guard⟩ fr hp=(bA (ay fr f) (args.toList.map (ay fr))).bind (pe C nm (au (Op.call ⟨.value f,args,lY⟩)) hp):=by
 have hg:=FO C nm ⟨dst,.call ⟨.value f,args,lY⟩,type,pos,after,guard⟩ fr hp
 have hz:((ig C 0 nm ⟨dst,.call ⟨.value f,args,lY⟩,type,pos,after,guard⟩ fr).run hp).map (fun e=>(e,(ig C 0 nm ⟨dst,.call ⟨.value f,args,lY⟩,type,pos,after,guard⟩ fr).log hp))=none:=by
  simp[ig,RM.ae]
 cases hr:bA (ay fr f) (args.toList.map (ay fr)) with
 |none=>exact bR hg hz fun k=>by simp only[ig,hr,RM.ae]; rfl
 |some q=>
  obtain⟨g,as⟩:=q
  simp only[Option.bind_some,pe]
  cases pa:au (Op.call ⟨.value f,args,lY⟩) with
  |true=>
   have dF:∀ k,((ig C (k+1) nm ⟨dst,.call ⟨.value f,args,lY⟩,type,pos,after,guard⟩ fr).run hp).map (fun e=>(e,(ig C (k+1) nm ⟨dst,.call ⟨.value f,args,lY⟩,type,pos,after,guard⟩ fr).log hp)) =
     ((aM 1000 as).run hp).bind fun nM=>match C.iM g with
       |some h=>(h nM).bind fun q=>((fK nm q.1 q.2).run hp).map fun e=>(e,(aM 1000 as).log hp)
       |none=>(lO C k g nM []).bind (pb nm ((aM 1000 as).log hp) hp):=by
    intro k
    have:=zk (C:=C) (F:=fun as=>lO C k g as []) (nm:=nm) (g:=g) (args:=as) (hp:=hp)
    simp only[ig,hr,pa]
    exact this
   simp only[Ef]
   cases hs:(aM 1000 as).run hp with
   |none=>exact bR hg hz fun k=>by rw[dF,hs]; rfl
   |some nM=>
    simp only[Option.bind_some]
    cases hi:C.iM g with
    |some h=>exact bR hg hz fun k=>by rw[dF,hs]; simp only[Option.bind_some,hi]
    |none=>
     refine ek hg (mc C g nM []) hz fun k=>?_
     rw[dF,hs]
     simp only[Option.bind_some,hi]
  |false=>
  simp only
  cases hk:C.kind g with
  |imp=>
   cases hi:C.qT g with
   |some h=>exact bR hg hz fun k=>by simp only[ig,hr,pa,hk,hi]
   |none=>exact bR hg hz fun k=>by simp only[ig,hr,pa,hk,hi]
  |pure=>
   rw[xa (g:=g) (as:=as) hk fun k=>by
    simp only[ig,hr,pa,hk]
    congr 1]
   simp only[pe,hk]
end Go.PI
end
section
/- PI, guards resolved. -/
namespace Go.PI
inductive G where
 |always
 |never
 |on (d:Tmp) (w:Bool)
def eM(ops:Array Oper)(o:Oper):G:=
 match o.guard with
 |none=>.always
 |some (j,w)=>match (ops[j]?).bind (·.dst) with
  |none=>.never
  |some d=>.on d w
def QS(w:Bool):AV→Option Bool
 |.lit (.bool b)=>some (b==w)
 |.lit (.tuple _)=>some false
 |_=>none
def sJ(fr:List AV):G→Option Bool
 |.always=>some true
 |.never=>some false
 |.on d w=>QS w (fr.getD d .undef)
theorem BC(ops:Array Oper)(fr:List AV)(o:Oper):cF ops fr o=sJ fr (eM ops o):=by
 unfold cF eM
 cases o.guard with
 |none=>rfl
 |some q=>
  obtain⟨j,w⟩:=q
  simp only
  cases (ops[j]?).bind (·.dst) with
  |none=>rfl
  |some d=>
   simp only[sJ,List.getD]
   cases hq:fr[d]? with
   |none=>rfl
   |some v=>
    simp only[Option.getD_some]
    cases v with
    |lit v=>cases v<;>rfl
    |_=>rfl
end Go.PI
end
section
/- PI, looking up in written-out frames. -/
namespace Go.PI
section
variable {α:Type}{x u v:AV}{l:List AV}{n:Nat}
theorem Ma:(x::l).getD 0 u=x:=rfl
theorem Mb:(x::l).getD (n+1) u=l.getD n u:=rfl
theorem Mc:(x::l).set 0 v=v::l:=rfl
theorem Md:(x::l).set (n+1) v=x::l.set n v:=rfl
end
end Go.PI
end
section
/- PI, laws to compute by. -/
namespace Go.PI
abbrev int(n:Int):AV:=.lit (.int .i64 n)
abbrev bol(b:Bool):AV:=.lit (.bool b)
section
variable {P:Program}{t:TypeId}{xo yo:Operand}{k:IntKind}{a b:Int}
theorem ep{op:BinOp}{v w:Value}{α:Type}(K:Unit→Sem α)(h:∀ c,v≠.agg c)(h2:v≠.nilIface):
  bu P (eqGuard op t xo yo v w >>= K)=bu P (K ()):=by
 unfold eqGuard
 cases op<;>first
  |rfl
  |(cases v<;>first|rfl|exact absurd rfl (h _)|exact absurd rfl h2)
theorem qf[ab]:fh P .lss t xo yo (.lit (.int k a)) (.lit (.int k b))=some (bol (decide (a<b))):=by
 simp only[fh,eh,c7]; rw[ep _ (by simp) (by simp)]; simp[binOp,Op.intCmp]; rfl
theorem Mv[ab]:fh P .leq t xo yo (.lit (.int k a)) (.lit (.int k b))=some (bol (decide (a≤b))):=by
 simp only[fh,eh,c7]; rw[ep _ (by simp) (by simp)]; simp[binOp,Op.intCmp]; rfl
theorem FV[ab]:fh P .gtr t xo yo (.lit (.int k a)) (.lit (.int k b))=some (bol (decide (b<a))):=by
 simp only[fh,eh,c7]; rw[ep _ (by simp) (by simp)]; simp[binOp,Op.intCmp]; rfl
theorem Mw[ab]:fh P .geq t xo yo (.lit (.int k a)) (.lit (.int k b))=some (bol (decide (b≤a))):=by
 simp only[fh,eh,c7]; rw[ep _ (by simp) (by simp)]; simp[binOp,Op.intCmp]; rfl
theorem Mx[ab]:fh P .eql t xo yo (.lit (.int k a)) (.lit (.int k b))=some (bol (decide (a=b))):=by
 simp only[fh,eh,c7]; rw[ep _ (by simp) (by simp)]; simp[binOp,Op.intCmp]; rfl
theorem My[ab]:fh P .neq t xo yo (.lit (.int k a)) (.lit (.int k b))=some (bol (!decide (a=b))):=by
 simp only[fh,eh,c7]; rw[ep _ (by simp) (by simp)]; simp[binOp,Op.intCmp]; rfl
theorem AH[ab]:fh P .add t xo yo (.lit (.int k a)) (.lit (.int k b))=some (.lit (.int k (k.wrap (a+b)))):=by
 simp only[fh,eh,c7]; rw[ep _ (by simp) (by simp)]; simp[binOp,Op.intArith]; rfl
theorem FX[ab]:fh P .sub t xo yo (.lit (.int k a)) (.lit (.int k b))=some (.lit (.int k (k.wrap (a-b)))):=by
 simp only[fh,eh,c7]; rw[ep _ (by simp) (by simp)]; simp[binOp,Op.intArith]; rfl
theorem Mz[ab]:fh P .mul t xo yo (.lit (.int k a)) (.lit (.int k b))=some (.lit (.int k (k.wrap (a*b)))):=by
 simp only[fh,eh,c7]; rw[ep _ (by simp) (by simp)]; simp[binOp,Op.intArith]; rfl
end
variable {C:Ctx}
noncomputable def sU[ab](C:Ctx):List (G×Oper)→St→Option Out
 |[],s=>some (.norm s)
 |(g,o)::l,s=>
  match sJ s.fr g with
  |none=>none
  |some false=>sU C l { s with fr:=bC s.fr o.dst .undef }
  |some true=>(hX C o s).bind fun
   |.norm s'=>sU C l s'
   |r=>some r
def pj(ops:Array Oper):List (G×Oper):=ops.toList.map fun o=>(eM ops o,o)
theorem pk[ab](ops:Array Oper):∀ (l:List Oper) (s:St),cE (hX C) ops l s=sU C (l.map fun o=>(eM ops o,o)) s
 |[],s=>rfl
 |o::l,s=>by
  simp only[cE,List.map_cons,sU,BC]
  cases hq:sJ s.fr (eM ops o) with
  |none=>rfl
  |some b=>
   cases b with
   |false=>exact pk ops l _
   |true=>
    simp only
    cases hX C o s with
    |none=>rfl
    |some r=>
     cases r with
     |norm s'=>exact pk ops l s'
     |_=>rfl
theorem zq[ab](id:Nat)(ops:Array Oper)(s:St):cP C (.region id ops false) s=sU C (pj ops) (gC (C.ie s.fn id) s):=by
 rw[BR,pk]; rfl
theorem iW[ab][jz C](id:Nat)(ops:Array Oper)(s:St):cP C (.region id ops false) s=sU C (pj ops) s:=by
 rw[zq,jz.ie (C:=C)]; rfl
theorem jZ[ab](s:St):sU C [] s=some (.norm s):=rfl
noncomputable def N3[ab](C:Ctx)(l:List (G×Oper)):Out→Option Out
 |.norm s=>sU C l s
 |r=>some r
theorem dW[ab](o:Oper)(l:List (G×Oper))(s:St):sU C ((.always,o)::l) s=(hX C o s).bind (N3 C l):=by
 simp only[sU,sJ]
 congr 1
end Go.PI
namespace Go.PI
variable {C:Ctx}
theorem AI(hp:af)(x:Option AV):(match x with|some x=>(pure ⟨x,[]⟩:RM di)|none=>RM.fail).run hp=x.map fun x=>⟨x,[]⟩:=by
 cases x<;>rfl
section
variable {P:Program}{nm:Nat}{ev:Operand→AV}{dst:Option Tmp}{type:TypeId}{pos:String}{after:Array Edge}{guard:Option (Nat×Bool)}{hp:af}
theorem nQ{x:Operand}:(aK P nm ev ⟨dst,.move x,type,pos,after,guard⟩).run hp=some ⟨ev x,[]⟩:=rfl
theorem kV{x:Operand}:(aK P nm ev ⟨dst,.assign x,type,pos,after,guard⟩).run hp=some ⟨ev x,[]⟩:=rfl
theorem xn[ab]{op:BinOp}{t yt:TypeId}{x y:Operand}:(aK P nm ev ⟨dst,.binOp op t x y yt,type,pos,after,guard⟩).run hp=(fh P op t x y (ev x) (ev y)).map fun x=>⟨x,[]⟩:=AI _ _
end
section
variable {dst:Option Tmp}{type:TypeId}{pos:String}{after:Array Edge}{guard:Option (Nat×Bool)}{s:St}
theorem nR[ab][jz C]{x:Operand}:hX C ⟨dst,.move x,type,pos,after,guard⟩ s=((aK C.P s.hp.length (ay s.fr) ⟨dst,.move x,type,pos,after,guard⟩).run s.hp).bind (gz ⟨dst,.move x,type,pos,after,guard⟩ s):=eF rfl s
theorem FY[ab][jz C]{t:TypeId}{x:Operand}:hX C ⟨dst,.load t x,type,pos,after,guard⟩ s=((aK C.P s.hp.length (ay s.fr) ⟨dst,.load t x,type,pos,after,guard⟩).run s.hp).bind (gz ⟨dst,.load t x,type,pos,after,guard⟩ s):=eF rfl s
theorem pn[ab][jz C]{o:BinOp}{t u:TypeId}{x y:Operand}:hX C ⟨dst,.binOp o t x y u,type,pos,after,guard⟩ s=((aK C.P s.hp.length (ay s.fr) ⟨dst,.binOp o t x y u,type,pos,after,guard⟩).run s.hp).bind (gz ⟨dst,.binOp o t x y u,type,pos,after,guard⟩ s):=eF rfl s
theorem Jr[ab][jz C]{t:TypeId}{x:Operand}{a b c:Option Operand}:hX C ⟨dst,.slice t x a b c,type,pos,after,guard⟩ s=((aK C.P s.hp.length (ay s.fr) ⟨dst,.slice t x a b c,type,pos,after,guard⟩).run s.hp).bind (gz ⟨dst,.slice t x a b c,type,pos,after,guard⟩ s):=eF rfl s
theorem sV[ab][jz C]{t:TypeId}{x y:Operand}:hX C ⟨dst,.indexAddr t x y,type,pos,after,guard⟩ s=((aK C.P s.hp.length (ay s.fr) ⟨dst,.indexAddr t x y,type,pos,after,guard⟩).run s.hp).bind (gz ⟨dst,.indexAddr t x y,type,pos,after,guard⟩ s):=eF rfl s
theorem lr[ab][jz C]{b:Builtin}{as:Array Operand}{ts:Array TypeId}:hX C ⟨dst,.call ⟨.builtin b,as,ts⟩,type,pos,after,guard⟩ s=((aK C.P s.hp.length (ay s.fr) ⟨dst,.call ⟨.builtin b,as,ts⟩,type,pos,after,guard⟩).run s.hp).bind (gz ⟨dst,.call ⟨.builtin b,as,ts⟩,type,pos,after,guard⟩ s):=eF rfl s
theorem po[ab][jz C]{t:Tmp}:hX C ⟨dst,.assign (.tmp t),type,pos,after,guard⟩ s=((aK C.P s.hp.length (ay s.fr) ⟨dst,.assign (.tmp t),type,pos,after,guard⟩).run s.hp).bind (gz ⟨dst,.assign (.tmp t),type,pos,after,guard⟩ s):=eF rfl s
theorem Js[ab][jz C]{k:IntKind}{n:Int}:hX C ⟨dst,.assign (.const (.int k n)),type,pos,after,guard⟩ s=((aK C.P s.hp.length (ay s.fr) ⟨dst,.assign (.const (.int k n)),type,pos,after,guard⟩).run s.hp).bind (gz ⟨dst,.assign (.const (.int k n)),type,pos,after,guard⟩ s):=eF rfl s
end
end Go.PI
namespace Go.PI
variable {C:Ctx}
theorem FZ{x:AV}:cB [x]=x:=rfl
theorem F0{P:Program}{fr:List AV}{hp:af}:(aR P fr []).run hp=some []:=rfl
theorem F1[ab]{P:Program}{fr:List AV}{hp:af}{t:Tmp}{rs:List ResultVar}:(aR P fr (.tmp t::rs)).run hp=((aR P fr rs).run hp).map fun l=>fr.getD t .undef::l:=by
 simp only[aR,jK,RM.run_bind]
 show (some (fr.getD t .undef)).bind _=_
 simp only[Option.bind_some]
 cases (aR P fr rs).run hp<;>rfl
theorem kL{hp:af}:ak hp []=hp:=rfl
theorem Jt{hp:af}{n:Nat}{o:aL}{l:List (Nat×aL)}:ak hp ((n,o)::l)=ak (setObj hp n o) l:=rfl
theorem En{hp:af}{n:Nat}{o:aL}(h:n=hp.length):setObj hp n o=hp++[some o]:=by simp[setObj,h]
def O8:Option (Nat×bG)→AV→Option di
 |some (off,_),.ref n aq i j=>some ⟨.ref n aq i (j+off),[]⟩
 |some (off,_),.bc e j=>some ⟨.bc e (j+off),[]⟩
 |_,_=>none
def Ju(x:Option AV):Option di:=x.map fun x=>⟨x,[]⟩
def F2(r:bG)(hp:af):AV→Option AV
 |.ref n aq i j=>match hp[n]? with
  |some (some (.arr _ _ _ es))=>if es.length=aq then (match es[i]? with|some e=>eE r.isAgg r.size e j|none=>none) else none
  |_=>none
 |.bc e j=>eE r.isAgg r.size e j
 |_=>none
theorem Jv[ab]{P:Program}{t:TypeId}{r:bG}(ht:eW P t=some r){hp:af}{a:AV}:(kA P t a).run hp=F2 r hp a:=by
 unfold kA F2
 rw[ht]
 simp only
 cases a with
 |ref n aq i j=>
  simp only[RM.arr]
  show (RM.bind (.get n _) _).run hp=_
  simp only[RM.bind,RM.run]
  cases hp[n]? with
  |none=>rfl
  |some o=>
   cases o with
   |none=>rfl
   |some o=>
    cases o with
    |ga _ _=>rfl
    |arr g c f es=>
     simp only
     split
     ·simp only[RM.bind]
      cases es[i]? with
      |none=>rfl
      |some e=>simp only[RM.jv]
     ·rfl
 |bc e j=>simp only[RM.jv]
 |_=>rfl
section
variable {P:Program}{nm:Nat}{ev:Operand→AV}{dst:Option Tmp}{type:TypeId}{pos:String}{after:Array Edge}{guard:Option (Nat×Bool)}{hp:af}
theorem MA[ab]{t:TypeId}{x:Operand}{r:bG}(ht:eW P t=some r):(aK P nm ev ⟨dst,.load t x,type,pos,after,guard⟩).run hp=Ju (F2 r hp (ev x)):=by
 rw[←Jv (P:=P) (t:=t) ht]
 unfold aK
 simp only[RM.run_bind]
 cases (kA P t (ev x)).run hp<;>rfl
end
end Go.PI
namespace Go.PI
variable {C:Ctx}
def MB(hp:af)(args:List AV)(r':AV):Option (nC×List (Nat×aL)):=
 cond (flat r') (some (.val r',[])) (((dJ 1000 (ck args)).run hp).map fun w=>(.val r',w))
theorem zr[ab]{hp gX:af}{args:List AV}{r:AV}:m6 hp args (.val r,gX)=((aW 1000 r).run gX).bind (MB hp args):=by
 simp only[m6,gd]
 cases hq:(aW 1000 r).run gX with
 |none=>rfl
 |some r'=>
  simp only[Option.bind_some,MB]
  cases flat r' with
  |true=>rfl
  |false=>
   simp only[Bool.false_eq_true,if_false,RM.run_bind,cond_false]
   cases (dJ 1000 (ck args)).run hp<;>rfl
theorem Eo{f:FuncId}{args:List AV}:bA (.lit (.func (.func f) #[] #[])) args=some (f,args):=by
 simp[bA]
end Go.PI
namespace Go.PI
variable {C:Ctx}
theorem Ep[ab]{a b:Code}{s:St}:To C a b s (.lit (.bool true))=cP C a s:=rfl
theorem AJ[ab]{a b:Code}{s:St}:To C a b s (.lit (.bool false))=cP C b s:=rfl
end Go.PI
namespace Go.PI
variable {C:Ctx}
theorem Jw[ab]{b:Code}(Inv:Nat→St→Prop)(G4:Out→Prop)
  (step:∀ k s,Inv k s→(∃ s',cP C b s=some (.norm s')∧∃ k',k'<k∧Inv k' (gD s.hp.length s'))∨(∃ o,cP C b s=some o∧(∀ s',o≠.norm s')∧G4 o)) :
  ∀ k s,Inv k s→∃ o,cP C (.loop b) s=some o∧G4 o:=by
 intro k
 induction k using Nat.strongRecOn with
 |ind k ih=>
  intro s hs
  rcases step k s hs with ⟨s',h1,k',hk,hi⟩|⟨o,h1,h2,h3⟩
  ·obtain⟨o,h4,h5⟩:=ih k' hk _ hi
   refine⟨o,?_,h5⟩
   rw[mY,h1]
   exact h4
  ·refine⟨o,?_,h3⟩
   rw[mY,h1]
   cases o with
   |norm s'=>exact absurd rfl (h2 s')
   |_=>rfl
theorem zt[ab]{b:Code}{s:St}{β:Type}{K:Out→Option β}{r:Option β}(Inv:Nat→St→Prop)(G4:Out→Prop)(k0:Nat)(h0:Inv k0 s)
  (step:∀ k s,Inv k s→(∃ s',cP C b s=some (.norm s')∧∃ k',k'<k∧Inv k' (gD s.hp.length s'))∨(∃ o,cP C b s=some o∧(∀ s',o≠.norm s')∧G4 o))
  (fin:∀ o,G4 o→K o=r):(cP C (.loop b) s).bind K=r:=by
 obtain⟨o,h1,h2⟩:=Jw Inv G4 step k0 s h0
 rw[h1]
 exact fin o h2
def F3(agg:Bool)(size:Nat)(hp:af):AV→Option AV
 |.ref n aq i j=>match hp[n]? with
  |some (some (.arr _ _ _ es))=>if es.length=aq then (match es[i]? with|some e=>eE agg size e j|none=>none) else none
  |_=>none
 |.bc e j=>eE agg size e j
 |_=>none
theorem MC{r:bG}{agg:Bool}{size:Nat}(h1:r.isAgg=agg)(h2:r.size=size)(hp:af)(a:AV):F2 r hp a=F3 agg size hp a:=by
 subst h1 h2
 cases a<;>rfl
def nb(agg:Bool)(size:Nat)(i:Nat):AV→Option AV
 |.sl xs=>match xs[i]? with
  |some e=>if aG agg size e=true then some (.bc e 0) else none
  |none=>none
 |.oT xs _=>match xs[i]? with
  |some e=>if aG agg size e=true then some (.bc e 0) else none
  |none=>none
 |.bp esz n aq off len _=>if i<len∧0<size∧esz=size then some (.ref n aq (off+i) 0) else none
 |.iI n aq k j len _=>if i<len then some (.ref n aq k (j+i*size)) else none
 |_=>none
theorem rD{k:IntKind}{n:Nat}:asNat (.lit (.int k (n:Int)))=some n:=by simp[asNat]
def Jx(P:Program)(nm:Nat)(ev:Operand→AV)(o:Oper)(hp:af):Option di:=(aK P nm ev o).run hp
def G5(d:Option di):AV→Option di
 |.sl xs=>some ⟨int xs.length,[]⟩
 |.oT xs _=>some ⟨int xs.length,[]⟩
 |.bp _ _ _ _ len _=>some ⟨int len,[]⟩
 |.iI _ _ _ _ len _=>some ⟨int len,[]⟩
 |_=>d
theorem Jy{P:Program}{t:TypeId}{r:bG}(h:aN P t=some r)(ha:arrayElem P t=none)(x ix:AV):
  eK P t x ix=(asNat ix).bind fun i=>nb r.isAgg r.size i x:=by
 unfold eK
 cases asNat ix with
 |none=>rfl
 |some i=>
  simp only[Option.bind_some,h,ha]
  cases x with
  |sl xs=>simp only[nb]; cases xs[i]?<;>rfl
  |oT xs c=>simp only[nb]; cases xs[i]?<;>rfl
  |_=>rfl
section
variable {P:Program}{nm:Nat}{ev:Operand→AV}{dst:Option Tmp}{type:TypeId}{pos:String}{after:Array Edge}{guard:Option (Nat×Bool)}{hp:af}
theorem sW[ab]{t:TypeId}{x y:Operand}:(aK P nm ev ⟨dst,.indexAddr t x y,type,pos,after,guard⟩).run hp=Ju (eK P t (ev x) (ev y)):=AI _ _
theorem Er{t type:TypeId}{x:Operand}(h:bV P t=true):(aK P nm ev ⟨dst,.call ⟨.builtin .len,#[x],#[t]⟩,type,pos,after,guard⟩).run hp =
  G5 (Jx P nm ev ⟨dst,.call ⟨.builtin .len,#[x],#[t]⟩,type,pos,after,guard⟩ hp) (ev x):=by
 cases hx:ev x with
 |sl xs=>simp[aK,dc,hx,h,nE,G5]; rfl
 |oT xs c=>simp[aK,dc,hx,h,nE,G5]; rfl
 |bp a b c d e f=>simp[aK,dc,hx,h,nE,G5]; rfl
 |iI a b c d e f=>simp[aK,dc,hx,h,nE,G5]; rfl
 |_=>rfl
end
end Go.PI
namespace Go.PI
variable {C:Ctx}
theorem dk[ab]{b:Code}{s:St}:andThen C b (.norm s)=cP C b s:=rfl
theorem sX[ab]{b:Code}{s:St}{i:Nat}:andThen C b (.exit i s)=some (.exit i s):=rfl
theorem eR[ab]{l:List (G×Oper)}{s:St}:N3 C l (.norm s)=sU C l s:=rfl
theorem vn{i:Nat}{s:St}:ua i (.norm s)=some (.norm s):=rfl
theorem zu{i:Nat}{s:St}:ua i (.exit i s)=some (.norm s):=by simp[ua]
theorem B3{rs:Array ResultVar}{s:St}:I3 C rs (.ret s)=((aR C.P s.fr rs.toList).run s.hp).map fun l=>(.val (cB l),s.hp):=rfl
theorem B4{n:Nat}{s:St}(h:(s.hp.take n).all (ki n)=true):gD n s=⟨s.fn,s.fr.map (forget n),s.hp.take n⟩:=by
 simp[gD,h]
theorem G6{n:Nat}{v:AV}(h:below n v=true):forget n v=v:=by simp[forget,h]
end Go.PI
namespace Go.PI
theorem AK{d:Option di}{xs:List AV}:G5 d (.sl xs)=some ⟨int xs.length,[]⟩:=rfl
end Go.PI
namespace Go.PI
end Go.PI
end
section
/- PI, calls whose argument may be a nil slice or not: both are looked at. -/
namespace Go.PI
end Go.PI
end
section
/- PI, the laws: what a law's own call comes to. -/
namespace Go.PI
open Go.RowKit
theorem GU[ab]{C:Ctx}(bL:C.Ok){f:FuncId}{args:List AV}{cq:af}(h:kn C f args []=some (.val (.lit (.bool true)),cq))
  {W:World} (hg:mw (Env.all W)) {vs:List Value} (ha:an (Env.all W) false args vs) :
  Calls C.P f vs.toArray W fun e w'=>e=.returned (.bool true)∧Below W.heap.size W w':=by
 obtain⟨k,hk⟩:=(bg (mc C f args [])).1 h
 refine((sound bL k).1 f args [] _ _ hk (Env.all W) W vs (Mk W hg) ha.ik).mono fun e w' cW=>?_
 obtain⟨E',_,_,eO,cy⟩:=cW
 refine⟨?_,eO.os,eO.tape,eO.out,eO.size,fun b hb=>eO.same b hb (fun h=>h.elim)⟩
 cases e with
 |returned v=>simp only[FL,ai]at cy; rw[cy]
 |panicked ch=>exact cy.elim
 |outgrown=>exact cy.elim
end Go.PI
end
section
/- PS, part A: symbolic values over the abstract ones, with typed lists of open length, and the operations on them (definitions only). -/
namespace Go.PI
def aw{α β:Type}(P:α→β→Prop):List α→List β→Prop
 |[],[]=>True
 |x::xs,y::ys=>P x y∧aw P xs ys
 |_,_=>False
def zP{den:Nat→Type}{t t':Nat}(h:t=t')(l:List (den t)):List (den t'):=h▸l
def KK.D:KK→Type
 |.int _=>Int
 |.str=>ByteArray
 |.bool=>Bool
def KK.v:(kk:KK)→kk.D→Value
 |.int q,k=>.int q k
 |.str,k=>.string k
 |.bool,k=>.bool k
def KK.get:(kk:KK)→Value→Option kk.D
 |.int q,v=>(match v with
  |.int q' k=>if q=q' then some k else none
  |_=>none)
 |.str,v=>(match v with
  |.string k=>some k
  |_=>none)
 |.bool,v=>(match v with
  |.bool k=>some k
  |_=>none)
def KK.beq:(kk:KK)→kk.D→kk.D→Bool
 |.int _,(a:Int),(b:Int)=>a==b
 |.str,(a:ByteArray),(b:ByteArray)=>a==b
 |.bool,(a:Bool),(b:Bool)=>a==b
def kx(kk:KK){α:Type}:List (kk.D×α)→kk.D→Option α
 |[],_=>none
 |(k',v)::r,k=>cond (kk.beq k k') (some v) (kx kk r k)
def mC(kk:KK){α:Type}:List (kk.D×α)→kk.D→α→List (kk.D×α)
 |[],k,v=>[(k,v)]
 |(k',v')::r,k,v=>cond (kk.beq k k') ((k',v)::r) ((k',v')::mC kk r k v)
deriving instance DecidableEq for kS
inductive SV(den:Nat→Type):Type where
 |dead
 |hole
 |lit (v:Value)
 |agg (l:List (SV den))
 |jj (l:List (SV den))
 |sl (xs:List (SV den))
 |ji (t:Nat) (l:List (den t))
 |bc (e:SV den) (j:Nat)
 |ref (n c i j:Nat)
 |iI (n c i j len cap:Nat)
 |bp (esz n c:Nat) (rg:Option (Nat×Nat)) (cap:Option Nat)
 |iK (fn:Fn) (first captured:List (SV den))
 |fZ (t:TypeId) (v:SV den)
 |mp (y:Bool) (n:Nat)
 |sy (v:SV den) (aV len i:Nat)
 |wC (t:Nat) (l:List (den t)) (cap:Nat) (b:Bool)
 |nz
instance {den:Nat→Type}:Inhabited (SV den):=⟨.dead⟩
inductive aC(den:Nat→Type):Type where
 |arr (grow cl fz:Bool) (cur:Nat) (es:List (SV den))
 |bU (grow fz:Bool) (cur:Nat) (t:Nat) (l:List (den t))
 |gT
 |j0 (kk:KK) (t:Nat) (m:List (kk.D×den t))
 |oJ (fn:FuncId) (ps:Array Tmp) (as bd:Code) (fr:List (SV den))
abbrev ah(den:Nat→Type):=List (Option (aC den))
abbrev sz(den:Nat→Type):=List (Nat×SV den)
structure bx(den:Nat→Type)where
 fn:FuncId
 n:Nat
 fr:sz den
 hp:ah den
 wf:List Nat
 wh:List Nat
 js:List (Nat×kS)
inductive oK(den:Nat→Type)where
 |norm (s:bx den)
 |exit (id:Nat) (s:bx den)
 |ret (s:bx den)
inductive Tr:Type→Type 1 where
 |ret {ρ:Type} (r:ρ):Tr ρ
 |fail {ρ:Type}:Tr ρ
 |cond {ρ:Type} (b:Bool) (x y:Tr ρ):Tr ρ
 |bind {ρ α:Type} (e:Option α) (k:α→Tr ρ):Tr ρ
 |loop {ρ τ ω:Type} (f:τ→Tr (τ ⊕ ω)) (x:τ) (k:ω→Tr ρ):Tr ρ
 |sum {ρ α β:Type} (e:α ⊕ β) (k:α→Tr ρ) (l:β→Tr ρ):Tr ρ
 |no {ρ:Type} (why:String):Tr ρ
 |lT {ρ:Type} {den:Nat→Type} (s:bx den) (b:Code):Tr ρ
 |bad {ρ:Type} {den:Nat→Type} (key:Nat) (kind:Option (Option Nat)) (s0 s:bx den):Tr ρ
def kC{τ ω:Type}(f:τ→Option (τ ⊕ ω)):Nat→τ→Option ω
 |0,_=>none
 |n+1,x=>match f x with
  |some (.inl y)=>kC f n y
  |some (.inr w)=>some w
  |none=>none
noncomputable def aQ{τ ω:Type}(f:τ→Option (τ ⊕ ω))(x:τ):Option ω:=
 match kC f 4096 x with
 |some w=>some w
 |none=>lP fun n=>kC f n x
noncomputable def Tr.run{ρ:Type}:Tr ρ→Option ρ
 |.ret r=>some r
 |.fail|.no _|.lT _ _|.bad _ _ _ _=>none
 |.cond b x y=>_root_.cond b x.run y.run
 |.bind e k=>_root_.Option.bind e fun a=>(k a).run
 |.loop f x k=>_root_.Option.bind (aQ (fun x=>(f x).run) x) fun w=>(k w).run
 |.sum e k l=>Sum.elim (fun a=>(k a).run) (fun b=>(l b).run) e
structure dm where
 den:Nat→Type
 up:(t:Nat)→den t→SV den
 dn:(t:Nat)→SV den→Option (den t)
 rp:(t:Nat)→den t→AV→Prop
 agg:Nat→Bool
 size:Nat→Nat
 zero:(t:Nat)→Option (den t)
 alt:(t:Nat)→Option ((den t→Bool)×(den t→SV den)×(den t→SV den)):=fun _=>none
section
variable {den:Nat→Type}
def aC.cur:aC den→Nat
 |.arr _ _ _ c _=>c
 |.bU _ _ c _ _=>c
 |_=>0
def aC.len:aC den→Nat
 |.arr _ _ _ _ es=>es.length
 |.bU _ _ _ _ l=>l.length
 |_=>0
def Kj:Value→SV den
 |.agg c=>if c.toList.all (fun v=>a9 (.lit v))=true then .agg (c.toList.map .lit) else .dead
 |.tuple c=>.jj (c.toList.map .lit)
 |v=>.lit v
def cH:sz den→Nat→SV den
 |[],_=>.lit undef
 |(d,v)::r,t=>match Nat.beq d t with
  |true=>v
  |false=>cH r t
def cU[ab](fr:sz den):Operand→SV den
 |.tmp t=>cH fr t
 |.const v=>Kj v
 |.global g=>(match ab.g g with
  |none=>.lit (.pointer (some ⟨g,0,none⟩))
  |some c=>.bc (.agg (c.toList.map .lit)) 0)
 |.func f=>.lit (.func (.func f) #[] #[])
def tn(n:Nat)(fr:sz den)(d:Nat)(v:SV den):sz den:=
 match Nat.ble n d with
 |true=>fr
 |false=>(d,v)::fr
def Kk(n:Nat)(fr:sz den)(dst:Option Tmp)(v:SV den):sz den:=
 match dst with
 |some d=>tn n fr d v
 |none=>fr
def mh:Nat→List (SV den)→sz den
 |_,[]=>[]
 |d,v::r=>(d,v)::mh (d+1) r
def bJ(hp:ah den)(n:Nat)(o:aC den):ah den:=
 if n=hp.length then hp++[some o] else hp.set n (some o)
def ba(hp:ah den):List (Nat×aC den)→ah den
 |[]=>hp
 |(n,o)::r=>ba (bJ hp n o) r
def bN:SV den→Bool
 |.dead=>true
 |_=>false
def gn:SV den→Bool
 |.lit v=>match v with
  |.agg _|.tuple _=>false
  |_=>true
 |.agg _|.jj _|.dead|.hole=>false
 |_=>true
mutual
def aE:SV den→Bool
 |.lit _|.sl _|.ji _ _|.bc _ _|.wC _ _ _ _=>true
 |.agg l|.jj l=>av l
 |.fZ _ v=>aE v
 |.sy v _ _ _=>aE v
 |.iK _ f c=>av f&&av c
 |_=>false
def av:List (SV den)→Bool
 |[]=>true
 |x::xs=>aE x&&av xs
end
mutual
def vH:SV den→Bool
 |.lit _=>true
 |.agg l|.jj l=>A0 l
 |.fZ _ v=>vH v
 |_=>false
def A0:List (SV den)→Bool
 |[]=>true
 |x::xs=>vH x&&A0 xs
end
mutual
def bt(n:Nat):SV den→Bool
 |.lit _|.sl _|.ji _ _|.bc _ _|.wC _ _ _ _|.hole|.nz=>true
 |.agg l|.jj l=>gp n l
 |.fZ _ v=>bt n v
 |.iK _ f c=>gp n f&&gp n c
 |.sy v _ _ _=>bt n v
 |.ref m _ _ _|.iI m _ _ _ _ _|.bp _ m _ _ _|.mp _ m=>decide (m<n)
 |.dead=>false
def gp(n:Nat):List (SV den)→Bool
 |[]=>true
 |x::xs=>bt n x&&gp n xs
end
def jR(n:Nat):Option (aC den)→Bool
 |some (.arr _ cl _ _ es)=>cl||gp n es
 |some (.bU ..)=>true
 |some .gT=>true
 |some (.j0 ..)=>true
 |some (.oJ _ _ _ _ fr)=>fr.all fun v=>bN v||bt n v
 |none=>true
mutual
def mD:SV den→List Nat
 |.ref n _ _ _|.iI n _ _ _ _ _|.bp _ n _ _ _|.mp _ n=>[n]
 |.sy v _ _ _=>mD v
 |.agg l|.jj l=>mi l
 |.fZ _ v=>mD v
 |.iK _ f c=>mi f++mi c
 |_=>[]
def mi:List (SV den)→List Nat
 |[]=>[]
 |x::xs=>mD x++mi xs
end
def bI:SV den→List (SV den)
 |.agg l=>l
 |.lit v=>v.cells.toList.map .lit
 |x=>[x]
def mj:List (SV den)→Option (List Value)
 |[]=>some []
 |.lit v::r=>(mj r).map (v::·)
 |_=>none
def mE:SV den→Option AV
 |.lit v=>some (.lit v)
 |.agg l=>(mj l).map fun c=>.agg (c.map .lit)
 |_=>none
def nx(agg:Bool)(size:Nat)(e:SV den)(j:Nat):Option (SV den):=
 match e with
 |.agg l=>
  if agg then (if j+size≤l.length then some (.agg ((l.drop j).take size)) else none)
  else l[j]?
 |x=>if !agg&&gn x&&decide (j=0) then some x else none
def iB(l:List (SV den))(j:Nat):List (SV den)→List (SV den)
 |[]=>l
 |x::xs=>iB (l.set j x) (j+1) xs
def fP(e:SV den)(j:Nat)(cs:List (SV den)):Option (SV den):=
 match e with
 |.agg l=>if j+cs.length≤l.length then some (.agg (iB l j cs)) else none
 |x=>match cs with
  |[y]=>if gn x&&decide (j=0) then some y else none
  |_=>none
def zQ(place:Nat→Option (Nat×Nat))(cells:List (SV den)):List (Nat×SV den)→Option (List (SV den))
 |[]=>some cells
 |(i,v)::rest=>
  match place i with
  |none=>none
  |some (off,size)=>
   if (bI v).length=size∧off+size≤cells.length∧(bI v).all gn=true then
    zQ place (iB cells off (bI v)) rest
   else none
def kP(agg:Bool)(size:Nat)(e:SV den):Bool:=
 match e with
 |.agg l=>agg&&decide (l.length=size)&&l.all gn
 |x=>!agg&&decide (size=1)&&gn x
def gq:AV→Option (SV den)
 |.lit v=>some (.lit v)
 |.agg l=>(cS l).map fun c=>.agg (c.map .lit)
 |_=>none
def fe(es:List (SV den)):List (Nat×SV den)→List (SV den)
 |[]=>es
 |(i,v)::r=>fe (es.set i v) r
def Gj:SV den→Bool
 |.sl xs=>!xs.isEmpty
 |_=>false
def A1(P:Program)(op:BinOp)(t:TypeId)(x:SV den)(nil:Value):Option AV:=
 match nil with
 |.nilIface=>(match x with
  |.fZ _ (.agg _)|.fZ _ (.ref ..)=>if jq P t then k6 op false else none
  |_=>none)
 |.nilFunc=>(match x with
  |.iK _ _ _=>if sA P t then k6 op false else none
  |_=>none)
 |.slice none 0 0=>if bV P t&&Gj x then k6 op false else none
 |_=>none
end
inductive CK where
 |bool
 |int (k:IntKind)
 |str
 deriving DecidableEq
inductive MK where
 |slice (e:Nat)
 |array (n e:Nat)
 |struct (fs:List (Nat×Nat))
 |iface
 |other
 deriving DecidableEq
structure jS where
 agg:Bool
 size:Nat
 bytes:Nat
 zero:Option AV
 kind:MK
 Oi:Option (List CK)
 map:Option (KK×Nat)
structure gH where
 P:Program
 M:List (Nat×jS)
 tp:Nat→Bool
def cm{α:Type}:List (Nat×α)→Nat→Option α
 |[],_=>none
 |(m,a)::r,n=>match Nat.beq m n with
  |true=>some a
  |false=>cm r n
def Gk{α:Type}:List (Nat×Nat×α)→Nat→Nat→Option α
 |[],_,_=>none
 |(m,m',a)::r,n,n'=>match Nat.beq m n&&Nat.beq m' n' with
  |true=>some a
  |false=>Gk r n n'
namespace gH
def ty(Q:gH)(t:Nat):Option jS:=cm Q.M t
def elemOf(Q:gH)(t:Nat):Option (Nat×jS):=
 match Q.ty t with
 |some m=>match m.kind with
  |.slice e=>(Q.ty e).map fun r=>(e,r)
  |_=>none
 |none=>none
def elem(Q:gH)(t:Nat):Option jS:=(Q.elemOf t).map (·.2)
def arr(Q:gH)(t:Nat):Option (Nat×jS):=
 match Q.ty t with
 |some m=>match m.kind with
  |.array n e=>(Q.ty e).map fun r=>(n,r)
  |_=>none
 |none=>none
def TL(Q:gH)(t f:Nat):Option (Nat×jS):=
 match Q.ty t with
 |some m=>match m.kind with
  |.struct fs=>match fs[f]? with
   |some (off,e)=>match Q.ty e with
    |some r=>if r.size=0 then none else some (off,r)
    |none=>none
   |none=>none
  |_=>none
 |none=>none
def mapOf(Q:gH)(t:Nat):Option (KK×Nat):=(Q.ty t).bind (·.map)
def isSlice(Q:gH)(t:Nat):Option Bool:=
 match Q.ty t with
 |some m=>match m.kind with
  |.slice _=>some true
  |_=>some false
 |none=>none
def uz(Q:gH):List (Nat×Nat)→Option (List (Nat×Nat))
 |[]=>some []
 |(off,e)::r=>match Q.ty e,uz Q r with
  |some m,some l=>some ((off,m.size)::l)
  |_,_=>none
end gH
inductive VT where
 |v (t:Nat)
 |l (t:Nat)
 |m (kk:KK) (t:Nat)
 deriving DecidableEq
def VT.den(den:Nat→Type):VT→Type
 |.v t=>den t
 |.l t=>List (den t)
 |.m kk t=>List (kk.D×den t)
def HL(den:Nat→Type):List VT→Type
 |[]=>Unit
 |[t]=>t.den den
 |t::u::r=>t.den den×HL den (u::r)
structure TV(den:Nat→Type)where
 t:VT
 x:t.den den
section
variable {den:Nat→Type}
def TV.as(v:TV den)(t:VT):Option (t.den den):=if h:v.t=t then some (h▸v.x) else none
def uA:(ts:List VT)→List (TV den)→Option (HL den ts)
 |[],l=>(match l with
  |[]=>some ()
  |_::_=>none)
 |[t],l=>(match l with
  |[v]=>v.as t
  |_=>none)
 |t::u::r,l=>(match l with
  |v::l'=>(v.as t).bind fun x=>(uA (u::r) l').map fun y=>(x,y)
  |[]=>none)
def fQ:(ts:List VT)→HL den ts→List (TV den)
 |[],_=>[]
 |[t],x=>[⟨t,x⟩]
 |t::u::r,x=>⟨t,x.1⟩::fQ (u::r) x.2
end
section
variable (T:dm)
def Hw:(ts:List Nat)→List (SV T.den)→Option (List (TV T.den))
 |[],[]=>some []
 |t::ts,v::vs=>(T.dn t v).bind fun x=>(Hw ts vs).map fun l=>⟨.v t,x⟩::l
 |_,_=>none
def oC(t:Nat):List (SV T.den)→Option (List (T.den t))
 |[]=>some []
 |v::vs=>(T.dn t v).bind fun x=>(oC t vs).map fun l=>x::l
def RZ:TV T.den→SV T.den
 |⟨.v t,x⟩=>T.up t x
 |⟨.l t,x⟩=>.ji t x
 |⟨.m _ _,_⟩=>.dead
def Px(l:List (TV T.den)):List (SV T.den):=l.map (RZ T)
end
def qN{den:Nat→Type}:List (SV den)→SV den
 |[x]=>x
 |l=>.jj l
structure uB(T:dm)where
 args:List Nat
 res:List Nat
 fn:HL T.den (args.map .v)→Option (HL T.den (res.map .v))
inductive oM where
 |hole
 |Hx (esz n:Nat) (rg:Option (Nat×Nat)) (cap:Option Nat)
 |iI (n i j len cap:Nat)
 |val (t:Nat)
 |own (esz n:Nat)
 |QC (esz n t:Nat) (k:Bool)
inductive cO where
 |list (t:Nat)
 |fix (t:Nat)
 |one (p:oM)
 |agg (ps:List oM)
 |map (kk:KK) (t:Nat)
inductive oN where
 |gT
 |list (g f:Bool) (t:Nat)
structure A2 where
 kind:Option Nat
 az:List (Nat×oM)
 ext:List oN
 js:List (Nat×kS)
 more:List (Nat×cO)
structure Hint where
 az:List (Nat×oM)
 dead:List Nat
 objs:List (Nat×cO)
 outs:List A2
def oM.jB:oM→List VT
 |.hole|.Hx _ _ _ _|.iI _ _ _ _ _=>[]
 |.val t=>[.v t]
 |.own _ _=>[]
 |.QC _ _ t k=>(match k with
  |true=>[.v t,.v t,.v t]
  |false=>[.v t,.v t])
def cO.jB:cO→List VT
 |.list t|.fix t=>[.l t]
 |.one p=>p.jB
 |.agg ps=>ps.flatMap oM.jB
 |.map kk t=>[.m kk t]
def oN.jB:oN→List VT
 |.gT=>[]
 |.list _ _ t=>[.l t]
def iY(objs more:List (Nat×cO)):List (Nat×cO):=objs.filter (fun q=>!(more.map (·.1)).contains q.1)++more
def A2.jB(objs:List (Nat×cO))(o:A2):List VT:=o.az.flatMap (fun q=>q.2.jB)++((iY objs o.more).flatMap (fun q=>q.2.jB)++o.ext.flatMap oN.jB)
def Hint.jB(h:Hint):List VT:=h.az.flatMap (fun q=>q.2.jB)++h.objs.flatMap (fun q=>q.2.jB)
def yO(den:Nat→Type)(objs:List (Nat×cO)):List A2→Type
 |[]=>Empty
 |[o]=>HL den (o.jB objs)
 |o::p::r=>HL den (o.jB objs) ⊕ yO den objs (p::r)
end Go.PI
end
