/- Part 2 of the proof: texts of this session laid one behind the other. -/
import Derived.OrdersIn
import Derived.TacticsIn
import Derived.RangeFuncLeaves
import Derived.RecoverIn
import Derived.SizedLaws
import Derived.ChangeSlices
import Derived.OpenShut
import Derived.ShutString
import Derived.IntWalk
import Derived.Below
import Derived.Test.YtedjbjphpnkpoaaX1
set_option linter.unusedVariables false
set_option linter.unusedSimpArgs false
section
/- PI, part V: a region whose order is drawn, in the world. -/
namespace Go.PI
def WF(r:Option Nat):Fence:={ Fence.wide with round:=r }
structure oJ where
 n:Nat
 tl:List Deferred:=[]
 rg:Bool:=true
 lb:Option Nat:=none
def Marks(B:oJ)(E:Env)(w:World)(ds:List Deferred):Prop:=
 ∃ rs:List Nat,ds=rs.map (fun r=>{ target:=.collected r,args:=#[] })++B.tl∧rs.Nodup∧((B.rg=false→rs=[])∧∀ b,B.lb=some b→∃ r0:Loop,w.heap[b]?=some (.loop r0))∧∀ r∈rs,B.n≤r∧¬E.own r∧w.heap[r]?=some (.deferred (some []))
theorem Marks.nil{n:Nat}{m:Bool}{E:Env}{w:World}:Marks ⟨n,[],m,none⟩ E w []:=⟨[],rfl,List.nodup_nil,⟨fun _=>rfl,fun _ h=>by cases h⟩,by simp⟩
theorem Marks.Ve{n:Nat}{b:Nat}{r:Loop}{E:Env}{w:World}(h:w.heap[b]?=some (.loop r)):Marks ⟨n,[],true,some b⟩ E w []:=⟨[],rfl,List.nodup_nil,⟨fun _=>rfl,fun _ h'=>by cases h'; exact⟨r,h⟩⟩,by simp⟩
theorem Marks.mono{B:oJ}{E E':Env}{w w':World}{ds:List Deferred}(h:Marks B E w ds)(hf:Fr E w E' w'):Marks B E' w' ds:=by
 obtain⟨rs,h1,h2,T8,h3⟩:=h
 refine⟨rs,h1,h2,⟨T8.1,fun b hb=>by obtain⟨r0,h⟩:=T8.2 b hb; exact hf.lp b r0 h⟩,fun r hr=>?_⟩
 obtain⟨a,b,c⟩:=h3 r hr
 have bQ:r<w.heap.size:=(Array.getElem?_eq_some_iff.1 c).1
 refine⟨a,fun ho=>?_,by rw[hf.same r bQ b]; exact c⟩
 rcases hf.own r ho with h|h
 ·exact b h
 ·omega
structure cG[ab](B:oJ)(E:Env)(s:St)(a:Act)(w:World):Prop where
 fr:an E true s.fr a.tmps.toList
 inv:Inv E s.hp w
 df:Marks B E w a.defers
 bs:B.n≤w.heap.size
theorem gp{E:Env}{fr:List AV}{a:Act}{dst:Option Tmp}{x:AV}{v:Value}(h:an E true fr a.tmps.toList)(hx:ai E true x v):
  an E true (bC fr dst x) (a.put dst v).tmps.toList:=by
 cases dst with
 |none=>exact h
 |some d=>
  simp only[bC,Act.put,Array.toList_setIfInBounds]
  exact h.set d hx
theorem put_defers(a:Act)(dst:Option Tmp)(v:Value):(a.put dst v).defers=a.defers:=by cases dst<;>rfl
theorem zK{E:Env}:∀ (c:List Value),(∀ x∈c,ir x=true)→aF E false (c.map .lit) c
 |[],_=>by simp[aF]
 |x::r,h=>by
  simp only[List.map_cons,aF]
  exact⟨by simp[ai],h x (by simp),zK r fun y hy=>h y (by simp[hy])⟩
theorem JS[ab]{E:Env}(hg:mD E)(g:Nat):ai E true (BM g (ab.g g)) (.pointer (some ⟨g,0,none⟩)):=by
 cases h:ab.g g with
 |none=>simp[BM,ai]
 |some c=>
  obtain⟨h1,h2⟩:=hg g c h
  simp only[BM,ai]
  refine⟨g,0,c,.agg c,rfl,h1,⟨c.toList,by simp,zK _ h2⟩,?_⟩
  refine⟨rfl,fun q _=>by simp[Value.cells],fun x hx=>h2 x (by simpa[Value.cells] using hx)⟩
theorem gV[ab]{E:Env}{fr:List AV}{a:Act}(hg:mD E)(h:an E true fr a.tmps.toList)(x:Operand):ai E true (ay fr x) (a.eval x):=by
 cases x with
 |tmp t=>
  simp only[ay,Act.eval,List.getD]
  cases hq:fr[t]? with
  |none=>
   have hl:=h.length
   have:a.tmps[t]?=none:=by
    simp_all
   simp[Array.getD_eq_getD_getElem?,this,ai]
  |some y=>
   obtain⟨v,hv,hr⟩:=h.get hq
   have:a.tmps[t]?=some v:=by simpa using hv
   simpa[Array.getD_eq_getD_getElem?,this] using hr
 |const v=>
  simp only[ay,Act.eval]
  unfold nO
  split
  ·rename_i c
   split
   ·rename_i h; exact na (.agg c) (fun c' hc=>by cases hc; exact h)
   ·simp[ai]
  ·rename_i dN
   exact na v (fun c hc=>absurd hc (dN c))
 |global g=>exact JS hg g
 |func f=>simp[ay,Act.eval,ai]
def rN[ab](P:Program)(step:Nat→Oper→List AV→RM dm):Prop:=
 ∀ (r:Option Nat) (x:Item) (B:oJ) (E:Env) (s:St) (a:Act) (w:World) (e:dm) (K:Act→World→Prop) (Q:Exit→Act→World→Prop),cG B E s a w →
   (au x.o.op=true→s.hp[x.nm]?=some none)→(step (x.at s.hp.length) x.o s.fr).run s.hp=some e →
   (∀ E' w' v,Ext E E'→Fr E w E' w'→Inv E' (ak s.hp e.wr) w'→ai E' true e.val v→K (a.put x.o.dst v) w')→x.o.wpIn (WF r) 0 P a w K Q
theorem k6{ops:Array Oper}{E:Env}{fr:List AV}{a:Act}(h:an E true fr a.tmps.toList){o:Oper}{b:Bool}(hw:cF ops fr o=some b):
  Region.wanted o (yielded ops a.tmps)=b:=by
 unfold cF at hw
 unfold Region.wanted
 cases hg:o.guard with
 |none=>rw[hg]at hw; simpa using hw
 |some g=>
  obtain⟨j,want⟩:=g
  rw[hg]at hw
  simp only at hw ⊢
  unfold yielded
  cases hd:(ops[j]?).bind (·.dst) with
  |none=>
   rw[hd]at hw
   simp only[Option.some.injEq]at hw; subst hw
   simp
  |some d=>
   rw[hd]at hw
   simp only[Option.bind_some]at hw ⊢
   cases hq:fr[d]? with
   |none=>
    rw[hq]at hw
    simp only[Option.some.injEq]at hw; subst hw
    have hl:=h.length
    have:a.tmps[d]?=none:=by
     simp_all
    simp[this]
   |some y=>
    rw[hq]at hw
    obtain⟨v,hv,hr⟩:=h.get hq
    have jS:a.tmps[d]?=some v:=by simpa using hv
    split at hw
    ·rename_i heq; simp at heq
    ·rename_i b' heq
     simp only[Option.some.injEq]at heq hw
     subst heq
     simp only[ai]at hr
     subst hr; subst hw
     simp[jS]
    ·rename_i c heq
     simp only[Option.some.injEq]at heq hw
     subst heq
     simp only[ai]at hr
     subst hr; subst hw
     simp[jS]
    ·simp at hw
section
variable {step:Nat→Oper→List AV→RM dm}{ops:Array Oper}
theorem pE:∀ (l:List Oper) (acc:List Nat) (f:List Nat→Oper→List Nat),
  (f=fun acc o=>acc++[iW acc o.after.toList])→∀ i,i<acc.length→(l.foldl f acc).getD i 0=acc.getD i 0
 |[],acc,f,_,i,_=>rfl
 |o::r,acc,f,hf,i,hi=>by
  simp only[List.foldl_cons]
  rw[pE r (f acc o) f hf i (by subst hf; simp; omega)]
  subst hf
  simp[List.getD,List.getElem?_append_left hi]
theorem vB{a b:List Nat}:∀ {l:List Edge},(∀ e∈l,Region.binds .any e=true→a.getD e.on 0=b.getD e.on 0)→iW a l=iW b l
 |[],_=>rfl
 |e::l,h=>by
  have:=vB (l:=l) fun e he=>h e (by simp[he])
  unfold iW
  split
  ·rename_i hb
   rw[this,h e (by simp) hb]
  ·exact this
theorem qm{a:List Nat}{p:Nat}:∀ {l:List Edge},(iW a l).testBit p=true→∃ e∈l,Region.binds .any e=true∧(p=e.on∨rF a e.on p=true)
 |[],h=>by simp[iW]at h
 |e::l,h=>by
  unfold iW at h
  split at h
  ·rename_i hb
   simp only[Nat.testBit_or,Bool.or_eq_true]at h
   rcases h with (h|h)|h
   ·grind
   ·exact⟨e,by simp,hb,.inr h⟩
   ·obtain⟨e',he,h'⟩:=qm (l:=l) h
    exact⟨e',by simp[he],h'⟩
  ·obtain⟨e',he,h'⟩:=qm (l:=l) h
   exact⟨e',by simp[he],h'⟩
theorem zM{m:Region.Mode}{p:Nat}:∀ {l:List Edge},(∃ e∈l,Region.binds m e=true∧p=e.on)→(zd m l).testBit p=true
 |[],h=>by simp at h
 |e::l,h=>by
  obtain⟨e',he,hb,rfl⟩:=h
  unfold zd
  cases he with
  |head=>simp[hb,Nat.testBit_or]
  |tail _ he=>
   have:=zM (l:=l) ⟨e',he,hb,rfl⟩
   split
   ·simp[Nat.testBit_or,this]
   ·exact this
theorem Cl[ab]{m:Region.Mode}{T:Nat→Prop}:∀ (l:List Oper) (i M:Nat),(∀ j,M.testBit j=true→T j) →
  (∀ k o,l[k]?=some o→(∀ e∈o.after.toList,Region.binds m e=true→T e.on)→T (i+k))→∀ j,(FT m i l M).testBit j=true→T j
 |[],i,M,hM,_,j,h=>hM j h
 |o::r,i,M,hM,hs,j,h=>by
  unfold FT at h
  refine Cl r (i+1) _ ?_ (fun k o hk he=>by have:=hs (k+1) o (by simpa using hk) he; rwa [show i+1+k=i+(k+1) by omega]) j h
  intro j hj
  split at hj
  ·rename_i sY
   rw[Nat.testBit_or,Bool.or_eq_true]at hj
   rcases hj with hj|hj
   ·exact hM j hj
   ·rw[Nat.testBit_two_pow]at hj
    have Me:i=j:=by simpa using hj
    subst Me
    refine hs 0 o rfl fun e he hb=>hM _ ?_
    have h1:=zM (p:=e.on) ⟨e,he,hb,rfl⟩
    rw[←sY,Nat.testBit_and,Bool.and_eq_true]at h1
    exact h1.2
  ·exact hM j hj
theorem Cm[ab]{m:Region.Mode}{T:Nat→Prop}{l:List Oper}(hs:∀ k o,l[k]?=some o→(∀ e∈o.after.toList,Region.binds m e=true→T e.on)→T k):
  ∀ (k M:Nat),(∀ j,M.testBit j=true→T j)→∀ j,(FU m l k M).testBit j=true→T j
 |0,M,hM,j,h=>hM j h
 |k+1,M,hM,j,h=>by
  unfold FU at h
  exact Cm hs k _ (Cl l 0 M hM (fun q o hq he=>by simpa using hs q o hq he)) j h
theorem EO[ab]{m:Region.Mode}(h:pc m ops=true){T:Nat→Prop}(hs:∀ k o,ops[k]?=some o→(∀ e∈o.after.toList,Region.binds m e=true→T e.on)→T k):∀ i,i<ops.size→T i:=by
 intro i hi
 have h1:=List.all_eq_true.1 h i (List.mem_range.2 hi)
 exact Cm (l:=ops.toList) (fun k o hk he=>hs k o (by simpa using hk) he) 8 0 (by simp) i h1
theorem qn[ab]:∀ (l:List Oper) (acc:List Nat) (k:Nat) (o:Oper),l[k]?=some o→(∀ e∈o.after.toList,Region.binds .any e=true→e.on<acc.length+k) →
  (l.foldl (fun acc o=>acc++[iW acc o.after.toList]) acc).getD (acc.length+k) 0 =
    iW (l.foldl (fun acc o=>acc++[iW acc o.after.toList]) acc) o.after.toList
 |[],acc,k,o,h,_=>by simp at h
 |p::r,acc,0,o,h,he=>by
  simp only[List.getElem?_cons_zero,Option.some.injEq]at h
  subst h
  simp only[List.foldl_cons,Nat.add_zero]
  rw[pE r _ _ rfl acc.length (by simp)]
  have h1:(acc++[iW acc p.after.toList]).getD acc.length 0=iW acc p.after.toList:=by
   simp[List.getD]
  rw[h1]
  apply vB
  intro e Vf hb
  have bQ:e.on<acc.length:=by simpa using he e Vf hb
  rw[pE r _ _ rfl e.on (by simp; omega)]
  simp[List.getD,List.getElem?_append_left bQ]
 |p::r,acc,k+1,o,h,he=>by
  simp only[List.getElem?_cons_succ]at h
  simp only[List.foldl_cons]
  have:=qn r (acc++[iW acc p.after.toList]) k o h (fun e Vf hb=>by have:=he e Vf hb; simp; omega)
  simp only[List.length_append,List.length_cons,List.length_nil]at this
  have e1:acc.length+(0+1)+k=acc.length+(k+1):=by omega
  rw[e1]at this
  exact this
theorem gq:∀ (l:List Oper) (i:Nat),kJ i l=true→∀ k o,l[k]?=some o→∀ e∈o.after.toList,Region.binds .any e=true→e.on<i+k
 |[],i,_,k,o,h=>by simp at h
 |p::r,i,h,0,o,hk=>by
  simp only[List.getElem?_cons_zero,Option.some.injEq]at hk
  subst hk
  simp only[kJ,Bool.and_eq_true]at h
  intro e he hb
  have:=List.all_eq_true.1 h.1 e he
  simpa[hb] using this
 |p::r,i,h,k+1,o,hk=>by
  simp only[List.getElem?_cons_succ]at hk
  simp only[kJ,Bool.and_eq_true]at h
  intro e he hb
  have:=gq r (i+1) h.2 k o hk e he hb
  omega
theorem tg{pr:List Nat}:∀ (l:List Oper) (i:Nat),sK ops pr i l=true→∀ j k o p,j<k→l[j]?=some o→l[k]?=some p →
  rF pr (i+k) (i+j)=true∨Oper.apart ops o p=true
 |[],i,_,j,k,o,p,_,h,_=>by simp at h
 |q::r,i,h,0,k+1,o,p,_,ho,hp=>by
  simp only[List.getElem?_cons_zero,Option.some.injEq]at ho
  subst ho
  simp only[List.getElem?_cons_succ]at hp
  simp only[sK,Bool.and_eq_true]at h
  have mG:(p,i+1+k)∈r.zipIdx (i+1):=by
   grind
  have:=List.all_eq_true.1 h.1 _ mG
  simp only[Bool.or_eq_true]at this
  have e1:i+1+k=i+(k+1):=by omega
  rw[e1]at this
  simpa using this
 |q::r,i,h,j+1,k+1,o,p,M5,ho,hp=>by
  simp only[List.getElem?_cons_succ]at ho hp
  simp only[sK,Bool.and_eq_true]at h
  have:=tg r (i+1) h.2 j k o p (by omega) ho hp
  have e1:i+1+j=i+(j+1):=by omega
  have e2:i+1+k=i+(k+1):=by omega
  rw[e1,e2]at this
  exact this
 |q::r,i,h,j,0,o,p,M5,_,_=>by omega
theorem kR[ab]:∀ (l:List Oper) (i n:Nat) (k:Nat) (x:Item),(bD i n l)[k]?=some x →
  x.idx=i+k∧l[k]?=some x.o∧n≤x.nm∧(au x.o.op=true→x.nm<n+(l.filter fun o=>au o.op).length)
 |[],i,n,k,x,h=>by simp[bD]at h
 |o::r,i,n,0,x,h=>by
  simp only[bD,List.getElem?_cons_zero,Option.some.injEq]at h
  subst h
  refine⟨rfl,rfl,Nat.le_refl _,fun ha=>?_⟩
  simp only at ha
  simp[ha]
 |o::r,i,n,k+1,x,h=>by
  simp only[bD,List.getElem?_cons_succ]at h
  obtain⟨h1,h2,h3,h4⟩:=kR r (i+1) _ k x h
  refine⟨by omega,by simpa using h2,?_,fun ha=>?_⟩
  ·split at h3<;>omega
  ·grind
theorem xy[ab]:∀ (l:List Oper) (i n:Nat) (j k:Nat) (x y:Item),j<k→(bD i n l)[j]?=some x→(bD i n l)[k]?=some y→au x.o.op=true→x.nm<y.nm
 |[],i,n,j,k,x,y,_,h,_,_=>by simp[bD]at h
 |o::r,i,n,0,k+1,x,y,_,hx,hy,ha=>by
  simp only[bD,List.getElem?_cons_zero,Option.some.injEq]at hx
  subst hx
  simp only[bD,List.getElem?_cons_succ]at hy
  simp only at ha
  have:=(kR r (i+1) _ k y hy).2.2.1
  rw[if_pos ha]at this
  exact this
 |o::r,i,n,j+1,k+1,x,y,M5,hx,hy,ha=>by
  simp only[bD,List.getElem?_cons_succ]at hx hy
  exact xy r (i+1) _ j k x y (by omega) hx hy ha
 |o::r,i,n,j,0,x,y,M5,_,_,_=>by omega
theorem lD[ab]:∀ (l:List Oper) (i n:Nat),(bD i n l).length=l.length
 |[],_,_=>rfl
 |o::r,i,n=>by simp[bD,lD r]
theorem pG[ab]:∀ (R:List Item) (s s':St) (fs:List ft),cr step ops R s=some (s',fs)→fs.map (·.idx)=R.map (·.idx)
 |[],s,s',fs,h=>by
  simp_all[cr]
 |x::r,s,s',fs,h=>by
  obtain⟨s1,f,D1,h1,h2,rfl⟩:=kQ h
  have ih:=pG r s1 s' D1 h2
  have:f.idx=x.idx:=by
   rcases lC h1 with ⟨_,_,rfl⟩|⟨_,_,_,_,_,rfl⟩<;>rfl
  simp[ih,this]
theorem th{pr:List Nat}:∀ (fs:List ft),eU pr fs=true→∀ (j k:Nat) (f g:ft),j<k→fs[j]?=some f→fs[k]?=some g→rG pr f g=true
 |[],_,j,k,f,g,_,h,_=>by simp at h
 |q::r,h,0,k+1,f,g,_,hf,hg=>by
  grind[eU]
 |q::r,h,j+1,k+1,f,g,M5,hf,hg=>by
  simp only[List.getElem?_cons_succ]at hf hg
  simp only[eU,Bool.and_eq_true]at h
  exact th r h.2 j k f g (by omega) hf hg
 |q::r,h,j,0,f,g,M5,_,_=>by omega
theorem zN{a b:List Nat}(h:Eg a b=true):∀ n∈a,n∉b:=by
 intro n hn hb
 have:=List.all_eq_true.1 h n hn
 simp[hb]at this
end
end Go.PI
end
section
/- PI, part W: a region whose order is drawn, in the world: the induction. -/
namespace Go.PI
section
variable {step:Nat→Oper→List AV→RM dm}{ops:Array Oper}
structure Left[ab](ops:Array Oper)(pr:List Nat)(m:Nat)(R:List Item)(aJ:Array Bool):Prop where
 size:aJ.size=ops.size
 item:∀ x∈R,ops[x.idx]?=some x.o∧aJ.getD x.idx true=false∧x.idx<m
 sorted:R.Pairwise (fun x y=>x.idx<y.idx)
 all:∀ i,i<ops.size→aJ.getD i true=false→i<m→∃ x∈R,x.idx=i
 rest:∀ i,m≤i→i<ops.size→aJ.getD i true=false
 down:∀ i o,ops[i]?=some o→aJ.getD i true=true→∀ p,rF pr i p=true→aJ.getD p false=true
 names:R.Pairwise (fun x y=>au x.o.op=true→x.nm<y.nm)
theorem ti{a:Array Bool}{i:Nat}(h:i<a.size)(x y:Bool):a.getD i x=a.getD i y:=by
 simp[Array.getD,h]
theorem Hx{m:Region.Mode}{e:Edge}(h:Region.binds .any e=true):Region.binds m e=true:=by
 grind[Region.binds]
theorem Cn[ab]{md:Region.Mode}(vC:pc md ops=true){aJ:Array Bool}(dP:aJ.size=ops.size){i:Nat}(bQ:i<ops.size)(hi:aJ.getD i true=false):Region.ready md ops aJ≠[]:=by
 intro xz
 have bg:=EO vC (T:=fun i=>i<ops.size∧aJ.getD i true=true) (fun k o hk he=>by
  have Vg:k<ops.size:=(Array.getElem?_eq_some_iff.1 hk).1
  refine⟨Vg,?_⟩
  cases hq:aJ.getD k true with
  |true=>rfl
  |false=>
   have mG:k∈Region.ready md ops aJ:=by
    unfold Region.ready
    rw[List.mem_filter]
    refine⟨List.mem_range.2 Vg,?_⟩
    simp only[hq,Bool.not_false,Bool.true_and,hk,Option.map_some,Option.getD_some]
    rw[←Array.all_toList]
    refine List.all_eq_true.2 fun e hee=>?_
    cases hb:Region.binds md e with
    |false=>rfl
    |true=>
     grind
   rw[xz]at mG
   simp at mG) i bQ
 rw[hi]at bg
 simp at bg
theorem vD[ab]{md:Region.Mode}(mn:kJ 0 ops.toList=true){aJ:Array Bool}(dP:aJ.size=ops.size)
  (zH:∀ i o,ops[i]?=some o→aJ.getD i true=true→∀ p,rF (bX ops.toList) i p=true→aJ.getD p false=true) {i:Nat} (hi:i∈Region.ready md ops aJ) :
  i<ops.size∧aJ.getD i true=false∧∀ p,rF (bX ops.toList) i p=true→aJ.getD p false=true:=by
 have AX:∀ i o,ops[i]?=some o→(bX ops.toList).getD i 0=iW (bX ops.toList) o.after.toList:=by
  intro i o ho
  have c8:ops.toList[i]?=some o:=by simpa using ho
  have:=qn ops.toList [] i o c8 (fun e he hb=>by have:=gq ops.toList 0 mn i o c8 e he hb; simpa using this)
  simpa[bX] using this
 unfold Region.ready at hi
 rw[List.mem_filter]at hi
 obtain⟨D5,IC⟩:=hi
 simp only[List.mem_range]at D5
 simp only[Bool.and_eq_true,Bool.not_eq_true']at IC
 obtain⟨Vh,EP⟩:=IC
 refine⟨D5,Vh,fun p hp=>?_⟩
 obtain⟨o,Q2⟩:∃ o,ops[i]?=some o:=⟨ops[i],by simp[D5]⟩
 simp only[Q2,Option.map_some,Option.getD_some]at EP
 rw[←Array.all_toList]at EP
 unfold rF at hp
 rw[AX i o Q2]at hp
 obtain⟨e,he,Hy,hp⟩:=qm hp
 have hb:=(gq ops.toList 0 mn i o (by simpa using Q2) e he Hy)
 have h1:=List.all_eq_true.1 EP e he
 simp only[Hx Hy,Bool.not_true,Bool.false_or]at h1
 rcases hp with rfl|hp
 ·exact h1
 ·have bQ:e.on<ops.size:=by omega
  have Vi:aJ.getD e.on true=true:=by rw[ti (by rw[dP]; exact bQ) true false]; exact h1
  obtain⟨o2,ur⟩:∃ o2,ops[e.on]?=some o2:=⟨ops[e.on],by simp[bQ]⟩
  exact zH e.on o2 ur Vi p hp
theorem M6[ab](mn:kJ 0 ops.toList=true):∀ {k:Nat} {o:Oper},ops[k]?=some o→∀ {p:Nat},rF (bX ops.toList) k p=true→p<k:=by
 have AX:∀ i o,ops[i]?=some o→(bX ops.toList).getD i 0=iW (bX ops.toList) o.after.toList:=by
  intro i o ho
  have c8:ops.toList[i]?=some o:=by simpa using ho
  have:=qn ops.toList [] i o c8 (fun e he hb=>by have:=gq ops.toList 0 mn i o c8 e he hb; simpa using this)
  simpa[bX] using this
 intro k
 induction k using Nat.strongRecOn with
 |ind k ih=>
  intro o hk p hp
  unfold rF at hp
  rw[AX k o hk]at hp
  obtain⟨e,he,Hy,hp⟩:=qm hp
  have hb:=(gq ops.toList 0 mn k o (by simpa using hk) e he Hy)
  rcases hp with rfl|hp
  ·omega
  ·grind
theorem vE{pr:List Nat}{n m:Nat}(h:mC pr n m=true){i j:Nat}(h1:m≤i)(h2:i<n)(h3:j<i):rF pr i j=true:=by
 have:=List.all_eq_true.1 h (i-m) (List.mem_range.2 (by omega))
 have:=List.all_eq_true.1 this j (List.mem_range.2 (by omega))
 have e:m+(i-m)=i:=by omega
 rw[e]at this
 exact this
theorem JT[ab]{P:Program}(tf:Gr step)(dG:rN P step)(mn:kJ 0 ops.toList=true){md:Region.Mode}(vC:pc md ops=true){m:Nat}(hm:m≤ops.size)(vF:mC (bX ops.toList) ops.size m=true){s':St}{Q:Exit→Act→World→Prop}
  {E0:Env} {w0:World} {B:oJ} {r:Option Nat}
  (hQ:∀ E a w (aJ:Array Bool),Ext E0 E→Fr E0 w0 E w→cG B E s' a w→aJ.size=ops.size→(∀ j,j<m→aJ.getD j true=true)→(∀ j,m≤j→j<ops.size→aJ.getD j true=false) →
    wpAnyIn (WF r) 0 P md ops Q (ops.size-m) aJ a w) :
  ∀ (fuel:Nat) (R:List Item) (aJ:Array Bool) (fs:List ft) (E:Env) (s:St) (a:Act) (w:World),R.length=fuel→Left ops (bX ops.toList) m R aJ →
    Ext E0 E→Fr E0 w0 E w→cG B E s a w→(∀ x∈R,au x.o.op=true→s.hp[x.nm]?=some none)→cr step ops R s=some (s',fs) →
    (∀ (j k:Nat) (x y:Item) (f g:ft),j<k→R[j]?=some x→R[k]?=some y→fs[j]?=some f→fs[k]?=some g →
      rF (bX ops.toList) y.idx x.idx=true∨RG ops x f y g) →
    wpAnyIn (WF r) 0 P md ops Q (fuel+(ops.size-m)) aJ a w:=by
 have AX:∀ i o,ops[i]?=some o→(bX ops.toList).getD i 0=iW (bX ops.toList) o.after.toList:=by
  intro i o ho
  have c8:ops.toList[i]?=some o:=by simpa using ho
  have:=qn ops.toList [] i o c8 (fun e he hb=>by have:=gq ops.toList 0 mn i o c8 e he hb; simpa using this)
  simpa[bX] using this
 intro fuel
 induction fuel with
 |zero=>
  intro R aJ fs E s a w hlen hL hx eK hs _ aV _
  have hR:R=[]:=List.eq_nil_of_length_eq_zero hlen
  subst hR
  simp only[cr,Option.some.injEq,Prod.mk.injEq]at aV
  obtain⟨rfl,_⟩:=aV
  rw[Nat.zero_add]
  refine hQ E a w aJ hx eK hs hL.size (fun j hj=>?_) hL.rest
  cases hq:aJ.getD j true with
  |true=>rfl
  |false=>
   obtain⟨x,hx,_⟩:=hL.all j (by omega) hq hj
   simp at hx
 |succ fuel ih=>
  intro R aJ fs E s a w hlen hL hx eK hs pj aV OB
  rw[show fuel+1+(ops.size-m)=(fuel+(ops.size-m))+1 by omega]
  refine⟨fun xz=>?_,fun i hi=>?_⟩
  ·-- the first of what is left is ready
   exfalso
   cases R with
   |nil=>simp at hlen
   |cons x r=>
    obtain⟨X3,Hw,_⟩:=hL.item x (by simp)
    exact Cn vC hL.size (Array.getElem?_eq_some_iff.1 X3).1 Hw xz
  ·obtain⟨D5,Vh,F2⟩:=vD mn hL.size hL.down hi
   have X4:i<m:=by
    rcases Nat.lt_or_ge i m with h|h
    ·exact h
    ·exfalso
     cases R with
     |nil=>simp at hlen
     |cons x r=>
      obtain⟨X3,Hw,hxm⟩:=hL.item x (by simp)
      have:=F2 x.idx (vE vF h D5 (by omega))
      rw[ti (by rw[hL.size]; omega) true false]at Hw
      rw[this]at Hw; cases Hw
   obtain⟨y,hy,Zo⟩:=hL.all i D5 Vh X4
   subst Zo
   obtain⟨Q2,_,hym⟩:=hL.item y hy
   obtain⟨A,B',rfl⟩:=List.append_of_mem hy
   have RJ:fs.length=(A++y::B').length:=by
    have:=congrArg List.length (pG _ _ _ _ aV)
    simpa using this
   have Vj:A.length<fs.length:=by rw[RJ]; simp
   have IL:fs=fs.take A.length++fs[A.length]::fs.drop (A.length+1):=by
    simp_all
   have M3:∀ p∈A.zip (fs.take A.length),RG ops p.1 p.2 y fs[A.length]:=by
    intro p hp
    obtain⟨j,hj⟩:=List.mem_iff_getElem?.1 hp
    have Zp:=(List.getElem?_zip_eq_some).1 hj
    obtain⟨h1,h2⟩:=Zp
    have Vk:=aI h1
    rw[List.getElem?_take_of_lt Vk]at h2
    rcases OB j A.length p.1 y p.2 fs[A.length] Vk (by rw[List.getElem?_append_left Vk]; exact h1) (by simp) h2 (by simp[Vj]) with h|h
    ·exfalso
     have h3:=F2 _ h
     have h4:=(hL.item p.1 (List.mem_append_left _ (List.mem_of_getElem? h1))).2.1
     have bQ:p.1.idx<ops.size:=(Array.getElem?_eq_some_iff.1 (hL.item p.1 (List.mem_append_left _ (List.mem_of_getElem? h1))).1).1
     rw[ti (by rw[hL.size]; exact bQ) true false]at h4
     rw[h3]at h4; simp at h4
    ·exact h
   have PE:=ri tf A s fs aV (fs.take A.length) fs[A.length] (fs.drop (A.length+1)) IL (by simp; omega) M3
   obtain⟨s1,f,D1,gL,OC,Uc⟩:=kQ PE
   simp only[List.cons.injEq]at Uc
   obtain⟨rfl,rfl⟩:=Uc
   have dN:∀ x∈A++B',x.idx≠y.idx:=by
    intro x hx
    have hp:=List.pairwise_append.1 hL.sorted
    rcases List.mem_append.1 hx with h|h
    ·have:=hp.2.2 x h y (by simp); omega
    ·have:=List.rel_of_pairwise_cons hp.2.1 h; omega
   have sY:(A++B').Sublist (A++y::B'):=List.Sublist.append (List.Sublist.refl A) (List.sublist_cons_self y B')
   have X5:Left ops (bX ops.toList) m (A++B') (aJ.setIfInBounds y.idx true):=by
    have dD:∀ j d,j≠y.idx→(aJ.setIfInBounds y.idx true).getD j d=aJ.getD j d:=by
     intro j d hj
     simp[Array.getD_eq_getD_getElem?,Ne.symm hj]
    have Co:∀ d,(aJ.setIfInBounds y.idx true).getD y.idx d=true:=by
     intro d
     have:y.idx<aJ.size:=by rw[hL.size]; exact D5
     simp[Array.getD_eq_getD_getElem?,this]
    refine⟨by simpa using hL.size,fun x hx=>?_,hL.sorted.sublist sY,fun j hj hu Zq=>?_,fun j hj Vl=>?_,fun j o ho hl p hp=>?_,hL.names.sublist sY⟩
    ·obtain⟨h1,h2,h3⟩:=hL.item x (sY.subset hx)
     exact⟨h1,by rw[dD _ _ (dN x hx)]; exact h2,h3⟩
    ·have Ud:j≠y.idx:=by intro e; subst e; rw[Co]at hu; simp at hu
     rw[dD _ _ Ud]at hu
     obtain⟨x,hx,Zr⟩:=hL.all j hj hu Zq
     refine⟨x,?_,Zr⟩
     rcases List.mem_append.1 hx with h|h
     ·exact List.mem_append_left _ h
     ·cases h with
      |head=>omega
      |tail _ h=>exact List.mem_append_right _ h
    ·rw[dD _ _ (by omega)]
     exact hL.rest j hj Vl
    ·by_cases Ud:j=y.idx
     ·subst Ud
      rw[Q2]at ho; cases ho
      by_cases RK:p=y.idx
      ·subst RK; exact Co _
      ·rw[dD _ _ RK]; exact F2 p hp
     ·rw[dD _ _ Ud]at hl
      by_cases RK:p=y.idx
      ·subst RK; exact Co _
      ·rw[dD _ _ RK]; exact hL.down j o ho hl p hp
   have Cc:(A++B').length=fuel:=by simp at hlen ⊢; omega
   have JU:∀ (j k:Nat) (x z:Item) (f g:ft),j<k→(A++B')[j]?=some x→(A++B')[k]?=some z→(fs.take A.length++fs.drop (A.length+1))[j]?=some f →
     (fs.take A.length++fs.drop (A.length+1))[k]?=some g→rF (bX ops.toList) z.idx x.idx=true∨RG ops x f z g:=by
    have tr:∀ (j:Nat) (x:Item) (f:ft),(A++B')[j]?=some x→(fs.take A.length++fs.drop (A.length+1))[j]?=some f →
      (A++y::B')[if j<A.length then j else j+1]?=some x∧fs[if j<A.length then j else j+1]?=some f:=by
     intro j x f h1 h2
     have Zs:(fs.take A.length).length=A.length:=by simp; omega
     by_cases hj:j<A.length
     ·rw[if_pos hj]
      rw[List.getElem?_append_left hj]at h1
      rw[List.getElem?_append_left (by omega),List.getElem?_take_of_lt hj]at h2
      exact⟨by rw[List.getElem?_append_left hj]; exact h1,h2⟩
     ·rw[if_neg hj]
      rw[List.getElem?_append_right (by omega)]at h1
      rw[List.getElem?_append_right (by omega),Zs,List.getElem?_drop]at h2
      refine⟨?_,?_⟩
      ·rw[List.getElem?_append_right (by omega)]
       have:j+1-A.length=(j-A.length)+1:=by omega
       rw[this]; simpa using h1
      ·have:A.length+1+(j-A.length)=j+1:=by omega
       rw[this]at h2; exact h2
    intro j k x z f g M5 h1 h2 h3 h4
    obtain⟨a1,a2⟩:=tr j x f h1 h3
    obtain⟨b1,b2⟩:=tr k z g h2 h4
    refine OB _ _ x z f g ?_ a1 b1 a2 b2
    split<;>split<;>omega
   unfold wpOpIn
   rw[Q2]
   simp only
   rcases lC gL with ⟨hw,rfl,_⟩|⟨hw,e,he,D6,rfl,_⟩
   ·rw[k6 hs.fr hw]
    simp only[Bool.false_eq_true,if_false]
    refine⟨fun _ _=>trivial,?_⟩
    refine ih (A++B') _ _ E { s with fr:=bC s.fr y.o.dst .undef } _ w Cc X5 hx eK ⟨gp hs.fr (by simp[ai]),hs.inv,by rw[put_defers]; exact hs.df,hs.bs⟩ (fun x hx=>pj x (sY.subset hx)) OC JU
   ·rw[k6 hs.fr hw]
    simp only[if_true]
    refine dG r y B E s a w e _ Q hs (pj y (by simp)) he fun E' w' v gi JV ig hr=>?_
    refine ih (A++B') _ _ E' { s with fr:=bC s.fr y.o.dst e.val,hp:=ak s.hp e.wr } _ w' Cc X5 (hx.trans gi) (eK.trans JV) ⟨gp (hs.fr.mono gi) hr,ig,by rw[put_defers]; exact hs.df.mono JV,Nat.le_trans hs.bs JV.size⟩ (fun x hx ha=>?_) OC JU
    have hn:=pj x (sY.subset hx) ha
    have EM:x.nm∉e.wr.map (·.1):=by
     intro hm
     obtain⟨q,hq,X6⟩:=List.mem_map.1 hm
     rcases (D6 q hq).2 with h|⟨o,ho⟩
     ·have hxn:y.nm=x.nm:=by rw[←h.2]; exact X6
      have hp:=List.pairwise_append.1 hL.names
      rcases List.mem_append.1 hx with h'|h'
      ·have:=hp.2.2 x h' y (by simp) ha; omega
      ·have:=List.rel_of_pairwise_cons hp.2.1 h' h.1; omega
     ·rw[X6]at ho; rw[hn]at ho; simp at ho
    simp only
    rw[iB e.wr s.hp (fun q hq=>(D6 q hq).1) x.nm EM]
    exact hn
end
end Go.PI
end
section
/- PI, part X: results, calls, what is dropped. -/
namespace Go.PI
theorem Cp{P:Program}{nm:Nat}{ev M7:Operand→AV}{o:Oper}(h:∀ x∈o.op.operands.toList,ev x=M7 x):aK P nm ev o=aK P nm M7 o:=by
 obtain⟨dst,op,type,pos,after,guard⟩:=o
 have Hz:∀ (l:List Operand),(∀ x∈l,x∈op.operands.toList)→l.map ev=l.map M7:=fun l hl=>List.map_congr_left fun x hx=>h x (hl x hx)
 unfold aK
 cases op with
 |build t parts=>
  have:(parts.toList.map fun p=>(p.1,ev p.2))=(parts.toList.map fun p=>(p.1,M7 p.2)):=
   List.map_congr_left fun p hp=>by rw[h p.2 (by simp only[Op.operands]; exact List.mem_map.2 ⟨p,hp,rfl⟩)]
  simp only[this]
 |buildSlice t len parts=>
  have:(parts.toList.map fun p=>(p.1,ev p.2))=(parts.toList.map fun p=>(p.1,M7 p.2)):=
   List.map_congr_left fun p hp=>by rw[h p.2 (by simp only[Op.operands]; exact List.mem_map.2 ⟨p,hp,rfl⟩)]
  simp only[this]
 |makeFunc fn first captured=>
  have h1:=Hz first.toList (fun x hx=>by simp only[Op.operands,Array.toList_append,List.mem_append]; exact .inl hx)
  have h2:=Hz captured.toList (fun x hx=>by simp only[Op.operands,Array.toList_append,List.mem_append]; exact .inr hx)
  simp only[h1,h2]
 |slice t x lo hi mx=>
  have h0:=h x (by simp[Op.operands])
  have h1:lo.map ev=lo.map M7:=by cases lo with|none=>rfl|some y=>simp[h y (by simp[Op.operands])]
  have h2:hi.map ev=hi.map M7:=by cases hi with|none=>rfl|some y=>simp[h y (by simp[Op.operands])]
  have h3:mx.map ev=mx.map M7:=by cases mx with|none=>rfl|some y=>simp[h y (by simp[Op.operands])]
  simp only[h0,h1,h2,h3]
 |call c=>
  obtain⟨callee,args,argTypes⟩:=c
  cases callee with
  |builtin b=>
   have h1:=Hz args.toList (fun x hx=>by simp[Op.operands,Call.operands]; simpa using hx)
   simp only[h1]
  |value f=>rfl
  |invoke r m=>rfl
 |move x=>simp only[h x (by simp[Op.operands])]
 |assign x=>simp only[h x (by simp[Op.operands])]
 |pick c a b=>simp_all[Op.operands]
 |box t x=>simp only[h x (by simp[Op.operands])]
 |load t a=>simp only[h a (by simp[Op.operands])]
 |store t a x=>simp_all[Op.operands]
 |nilCheck x=>simp only[h x (by simp[Op.operands])]
 |binOp b t x y yt=>simp_all[Op.operands]
 |unOp u t x=>simp only[h x (by simp[Op.operands])]
 |convert s d x=>simp only[h x (by simp[Op.operands])]
 |makeInterface t x=>simp only[h x (by simp[Op.operands])]
 |makeSlice t l c=>simp_all[Op.operands]
 |sliceToArrayPointer t x=>simp only[h x (by simp[Op.operands])]
 |fieldAddr s x f=>simp only[h x (by simp[Op.operands])]
 |field s x f=>simp only[h x (by simp[Op.operands])]
 |indexAddr t x i=>simp_all[Op.operands]
 |index t x i=>simp_all[Op.operands]
 |extract t i=>simp only[h t (by simp[Op.operands])]
 |makeMap t r=>
  have h1:r.map ev=r.map M7:=by cases r with|none=>rfl|some y=>simp[h y (by simp[Op.operands])]
  simp only[h1]
 |lookup t x i c=>simp_all[Op.operands]
 |mapUpdate t m k x=>simp_all[Op.operands]
 |_=>rfl
theorem JW[ab]{P:Program}{nm nm':Nat}{ev:Operand→AV}{o:Oper}(h:au o.op=false):aK P nm ev o=aK P nm' ev o:=by
 obtain⟨dst,op,type,pos,after,guard⟩:=o
 unfold aK
 cases op with
 |alloc _=>simp[au]at h
 |box _ _=>simp[au]at h
 |buildSlice _ _ _=>simp[au]at h
 |makeSlice _ _ _=>simp[au]at h
 |makeMap _ _=>simp[au]at h
 |call c=>
  obtain⟨callee,args,argTypes⟩:=c
  cases callee with
  |builtin b=>
   cases b with
   |append=>simp[au]at h
   |_=>rfl
  |_=>rfl
 |_=>rfl
theorem RM.xA{hp:ag}{n:Nat}{g c f:Bool}{es:List AV}(h:hp[n]?=some (some (.arr g c f es))):(RM.arr n es.length).run hp=some (g,c,f,es):=by
 simp[RM.arr,RM.run,h]
theorem rO[ab]{P:Program}{E:Env}{hp:ag}{w:World}(hI:Inv E hp w){fr:List AV}{a:Act}(eK:an E true fr a.tmps.toList){fn:Func}{l:List AV}
  (h:(aU P fr fn.results.toList).run hp=some l):∃ v,(results fn a.tmps).run P w=.ok v w∧ai E true (cB l) v:=by
 have one:∀ (r:ResultVar) (x:AV),(jQ P fr r).run hp=some x →
   ∃ v,(match r with|.tmp t=>pure (a.tmps.getD t undef)|.cell ad t=>(do loadVar t (←asAddr (a.tmps.getD ad undef))):Sem Value).run P w=.ok v w∧ai E true x v:=by
  intro r x hx
  cases r with
  |tmp t=>
   simp only[jQ,RM.run_pure,Option.some.injEq]at hx
   subst hx
   exact⟨_,rfl,gV hI.ju eK (.tmp t)⟩
  |cell ad t=>
   simp only[jQ]at hx
   have hr:=gV hI.ju eK (.tmp ad)
   obtain⟨v,h1,h2⟩:=F0 hI (va:=a.tmps.getD ad undef) hr hx
   refine⟨v,?_,h2⟩
   simp only[Instr.loadAt,Sem.run_bind]at h1
   simp only[Sem.run_bind]
   cases hq:a.tmps.getD ad undef with
   |pointer p=>
    cases p with
    |some p=>rw[hq]at h1; simpa[asAddr,Instr.sureAddr] using h1
    |none=>rw[hq]at h1; simp[Instr.sureAddr]at h1
   |_=>rw[hq]at h1; simp[Instr.sureAddr]at h1
 have many:∀ (rs:List ResultVar) (l:List AV),(aU P fr rs).run hp=some l →
   ∃ vs:List Value,(rs.mapM fun|.tmp t=>pure (a.tmps.getD t undef)|.cell ad t=>(do loadVar t (←asAddr (a.tmps.getD ad undef))):Sem (List Value)).run P w=.ok vs w ∧
     an E true l vs:=by
  intro rs
  induction rs with
  |nil=>
   intro l h
   simp only[aU,RM.run_pure,Option.some.injEq]at h
   subst h
   exact⟨[],by simp[List.mapM_nil],by simp[an]⟩
  |cons r rs ih=>
   intro l h
   simp only[aU,RM.run_bind]at h
   cases hq:(jQ P fr r).run hp with
   |none=>rw[hq]at h; simp at h
   |some x=>
    rw[hq]at h
    simp only[Option.bind_some]at h
    cases dX:(aU P fr rs).run hp with
    |none=>rw[dX]at h; simp at h
    |some xs=>
     rw[dX]at h
     simp only[Option.bind_some,RM.run_pure,Option.some.injEq]at h
     subst h
     obtain⟨v,h1,h2⟩:=one r x hq
     obtain⟨vs,h3,h4⟩:=ih xs dX
     refine⟨v::vs,?_,by simp only[an]; exact⟨h2,h4⟩⟩
     rw[List.mapM_cons,Sem.run_bind,h1,Result.andThen_ok,Sem.run_bind,h3]
     rfl
 obtain⟨vs,h1,h2⟩:=many _ _ h
 have hm:(fn.results.mapM fun|.tmp t=>pure (a.tmps.getD t undef)|.cell ad t=>(do loadVar t (←asAddr (a.tmps.getD ad undef))):Sem (Array Value)).run P w=.ok vs.toArray w:=by
  rw[Array.mapM_eq_mapM_toList,Sem.run_map,h1]
  rfl
 refine⟨if h:vs.toArray.size=1 then vs.toArray[0] else .tuple vs.toArray,?_,?_⟩
 ·unfold results
  rw[Sem.run_bind]
  exact congrArg (fun (r:Result (Array Value))=>r.andThen fun vs w'=>(pure (if h:vs.size=1 then vs[0] else .tuple vs):Sem Value).run P w') hm
 ·have hlen:=h2.length
  match l,vs,h2,hlen with
  |[],[],_,_=>simp[cB,ai,an]
  |[x],[v],h2,_=>simp only[an]at h2; simpa[cB] using h2.1
  |x::y::r,v::u::s,h2,_=>
   simp only[cB,ai]
   exact⟨v::u::s,by simp,h2⟩
  |[],_::_,_,h=>simp at h
  |_::_,[],_,h=>simp at h
  |[_],_::_::_,_,h=>simp at h
  |_::_::_,[_],_,h=>simp at h
def Env.gr(E:Env)(k:Nat):Env where
 ρ:=fun n aq=>if n<E.L then E.ρ n aq else none
 m:=E.m
 L:=E.L+k
 own:=E.own
theorem ER[ab]{E:Env}{hp:ag}{w:World}(hI:Inv E hp w)(k:Nat):
  Ext E (E.gr k)∧Inv (E.gr k) (hp++List.replicate k none) w∧Fr E w (E.gr k) w:=by
 have hx:Ext E (E.gr k):=⟨fun _ _ h=>h,fun n hn aq l h=>by simp[Env.gr,hn,h],by simp[Env.gr]⟩
 have hold:∀ n o,(hp++List.replicate k none)[n]?=some (some o)→hp[n]?=some (some o)∧n<E.L:=by
  intro n o h
  rw[List.getElem?_append]at h
  split at h
  ·rename_i bQ; exact⟨h,by rw[←hI.len]; exact bQ⟩
  ·simp[List.getElem?_replicate]at h
 have dh:∀ n,n<E.L→∀ aq,(E.gr k).ρ n aq=E.ρ n aq:=fun n hn aq=>by simp[Env.gr,hn]
 have eW:∀ n b,cd (E.gr k) (hp++List.replicate k none) n b→cd E hp n b:=by
  rintro n b ⟨o,l,ho,hl,hb⟩
  obtain⟨h1,h2⟩:=hold n o ho
  refine⟨o,l,h1,?_,hb⟩
  cases o with
  |arr=>simpa only[dh n h2] using hl
  |gh=>simpa only[dh n h2] using hl
 refine⟨hx,⟨by simp[Env.gr,hI.len],?_,?_,fun n1 n2 b h1 h2=>hI.inj n1 n2 b (eW _ _ h1) (eW _ _ h2),hI.mem,hI.oT,hI.ju⟩,
  ⟨rfl,rfl,rfl,Nat.le_refl _,fun _ _ _=>rfl,fun _ h=>.inl h,fun _ _ h=>.inl h,fun _ r h=>⟨r,h⟩⟩⟩
 ·intro n o ho
  obtain⟨h1,h2⟩:=hold n o ho
  have h:=hI.objs n o h1
  cases o with
  |arr g cl fz es=>
   obtain⟨l,hl,hv,hm⟩:=h
   refine⟨l,by rw[dh n h2]; exact hl,fun aq l' h=>hv aq l' (by rw[dh n h2]at h; exact h),?_⟩
   cases hb:l.kF with
   |none=>rw[hb]at hm; exact hm
   |some b=>
    rw[hb]at hm
    obtain⟨c,T,a1,a2,a3,a4,a5,a6,a7⟩:=hm
    exact⟨c,T,a1,a2,a3,a4,a5,a6,fun i e he=>by obtain⟨v,jS,fu⟩:=a7 i e he; exact⟨v,jS.mono hx,fu⟩⟩
  |gh k Mw=>
   obtain⟨l,b,es,clock,a1,a2,a3,a4,a5,a6,a7,a8⟩:=h
   exact⟨l,b,es,clock,by rw[dh n h2]; exact a1,a2,a3,a4,a5,fun aq l' h=>a6 aq l' (by rw[dh n h2]at h; exact h),a7,a8.mono hx⟩
 ·intro n aq h
  rw[List.getElem?_append]at h
  split at h
  ·rename_i bQ
   have:n<E.L:=by rw[←hI.len]; exact bQ
   rw[dh n this]
   exact hI.free n aq h
  ·rename_i MO
   have:¬n<E.L:=by rw[←hI.len]; exact MO
   simp[Env.gr,this]
def Env.lower(E:Env)(n:Nat):Env:={ E with L:=n }
theorem tj[ab]{E:Env}{hp:ag}{w:World}(hI:Inv E hp w){n:Nat}(hn:n≤hp.length)(bg:(hp.take n).all (kn n)=true):
  Inv (E.lower n) (hp.take n) w∧Fr E w (E.lower n) w∧Down E (E.lower n):=by
 have PF:Down E (E.lower n):=⟨fun _ _ h=>h,fun _ _ _ _ h=>h⟩
 have hold:∀ i o,(hp.take n)[i]?=some o→hp[i]?=some o∧i<n:=by
  grind
 have eW:∀ i b,cd (E.lower n) (hp.take n) i b→cd E hp i b:=by
  rintro i b ⟨o,l,ho,hl,hb⟩
  exact⟨o,l,(hold i _ ho).1,hl,hb⟩
 refine⟨⟨by simp[Env.lower]; omega,?_,fun i aq h=>hI.free i aq (hold i _ h).1,fun n1 n2 b h1 h2=>hI.inj n1 n2 b (eW _ _ h1) (eW _ _ h2),hI.mem,hI.oT,hI.ju⟩,
  ⟨rfl,rfl,rfl,Nat.le_refl _,fun _ _ _=>rfl,fun _ h=>.inl h,fun _ _ h=>.inl h,fun _ r h=>⟨r,h⟩⟩,PF⟩
 intro i o ho
 obtain⟨h1,h2⟩:=hold i _ ho
 have hb:=List.all_eq_true.1 bg _ (List.mem_of_getElem? ho)
 simp only[kn]at hb
 have h:=hI.objs i o h1
 cases o with
 |arr g cl fz es=>
  obtain⟨l,hl,hv,hm⟩:=h
  refine⟨l,hl,hv,?_⟩
  cases yG:l.kF with
  |none=>rw[yG]at hm; exact hm
  |some b=>
   rw[yG]at hm
   obtain⟨c,T,a1,a2,a3,a4,a5,a6,a7⟩:=hm
   refine⟨c,T,a1,a2,a3,a4,a5,a6,fun j e he=>?_⟩
   obtain⟨v,jS,fu⟩:=a7 j e he
   refine⟨v,?_,fu⟩
   cases cl with
   |true=>exact ai.dY ⟨PF.m⟩ jS
   |false=>
    simp only[aM.below,Bool.false_or]at hb
    refine ai.down PF ?_ jS
    have:∀ (l:List AV),cO n l=true→∀ x∈l,below n x=true:=by
     intro l
     induction l with
     |nil=>simp
     |cons y ys ih=>
      simp_all[cO]
    exact this es hb e (List.mem_of_getElem? he)
 |gh k Mw=>
  obtain⟨l,b,es,clock,a1,a2,a3,a4,a5,a6,a7,a8⟩:=h
  refine⟨l,b,es,clock,a1,a2,a3,a4,a5,a6,a7,?_⟩
  simp only[aM.below]at hb
  exact an.down PF hb a8
theorem rP[ab]{E:Env}{n:Nat}(PF:Down E (E.lower n)):∀ {fr:List AV} {vs:List Value},an E true fr vs→an (E.lower n) true (fr.map (forget n)) vs
 |[],[],_=>by simp[an]
 |x::xs,v::vs,h=>by
  simp only[an]at h
  simp only[List.map_cons,an]
  refine⟨?_,rP PF h.2⟩
  unfold forget
  split
  ·rename_i hb; exact ai.down PF hb h.1
  ·simp[ai]
 |[],_::_,h=>by simp[an]at h
 |_::_,[],h=>by simp[an]at h
end Go.PI
end
section
/- PI, part Da: a function that is entered as a deferred call while the frame below returns: recover gives nil. -/
namespace Go.PI
theorem lj(o:Oper):(dE o).dst=o.dst∧(dE o).guard=o.guard∧(dE o).after=o.after:=by
 unfold dE; split
 ·split<;>exact⟨rfl,rfl,rfl⟩
 ·exact⟨rfl,rfl,rfl⟩
theorem zg(o:Oper):dE o=o∨(dE o={ o with op:=.move (.const .nilIface) }∧∃ mf,o.op=.call { callee:=.builtin .recover,args:=#[],argTypes:=mf }):=by
 unfold dE; split
 ·rename_i c hc
  split
  ·rename_i h1 h2
   refine .inr ⟨rfl,c.argTypes,?_⟩
   rw[hc]
   obtain⟨x,y,z⟩:=c
   simp only at h1 h2
   rw[h1,Array.toList_eq_nil_iff.1 h2]
  ·exact .inl rfl
 ·exact .inl rfl
theorem BQ{ρ:Operand→Value}{o:Oper}{P:Program}{w:World}{mf:Array TypeId}(h:o.op=.call { callee:=.builtin .recover,args:=#[],argTypes:=mf }):(execOp ρ o).run P w=.ok .recover w:=by
 unfold execOp; rw[h]; rfl
theorem yH(ops:Array Oper)(tmps:Array Value):yielded (ops.map dE) tmps=yielded ops tmps:=by
 funext j
 simp only[yielded,Array.getElem?_map]
 cases ops[j]? with
 |none=>rfl
 |some o=>simp only[Option.map_some,Option.bind_some,(lj o).1]
section
variable {F:Fence}{n:Nat}{P:Program}{ops:Array Oper}{Q:Exit→Act→World→Prop}
theorem FX(l:List Nat):∀ (a:Act) (w:World),wpOpsIn F n P (ops.map dE) Q l a w→∀ (b:Frame) (k:List Go.Item) (cs:List Frame),b.kind=.deferred→recoverD cs=none→F.round=none→b.roundOf=F.round→F.fn b.fn→F.room (cs.length+1+n) →
  ∃ e a' w',Q e a' w'∧ArrivesIn (Machine.fenced P F) P (lone (b.atR a (.inRegion ops l::k)) cs w) b k cs e a' w':=by
 induction l with
 |nil=>exact fun a w h b k cs _ _ _ _ hb hr=>⟨.normal,a,w,h,.one (fenced_calm hb hr rfl) stepR_region_end⟩
 |cons i rest ih=>
  intro a w h b k cs hk m6 eK dC hb hr
  simp only[wpOpsIn,Array.getElem?_map,yH]at h
  cases ho:ops[i]? with
  |none=>
   simp only[ho,Option.map_none]at h
   obtain⟨e,a',w',hq,cJ⟩:=ih a w h b k cs hk m6 eK dC hb hr
   have hs:=stepR_op_skip (P:=P) (b:=b) (a:=a) (k:=k) (cs:=cs) (w:=w) (ops:=ops) (i:=i) (rest:=rest) (by simp[ho])
   simp only[ho,Option.bind_none,Act.put]at hs
   exact⟨e,a',w',hq,.of_steps (.one (fenced_noOper hb hr ho) hs) cJ⟩
  |some o=>
   simp only[ho,Option.map_some]at h
   have YY:Region.wanted (dE o) (yielded ops a.tmps)=Region.wanted o (yielded ops a.tmps):=by unfold Region.wanted; rw[(lj o).2.1]
   rw[YY,(lj o).1]at h
   have BR:∀ v,(b.atR a (.inRegion ops (i::rest)::k)).finish v=b.atR (a.put o.dst v) (.inRegion ops rest::k):=by
    intro v; rw[Frame.finish_atR,ho]; rfl
   by_cases hw:Region.wanted o (yielded ops a.tmps)=true
   ·have hg:=stepGR_op (P:=P) (b:=b) (k:=k) (cs:=cs) (w:=w) (rest:=rest) ho hw
    simp only[hw,if_true,Oper.wpIn]at h
    rcases zg o with he|⟨he,mf,D0⟩
    ·rw[he]at h
     rw[dC]at hg
     obtain⟨ua,h⟩:=h
     have h0:(lone (b.atR a (.inRegion ops (i::rest)::k)) cs w).fenced P F:=fenced_oper hb hr ho ua
     simp only[Oper.uponIn]at h
     split at h
     ·rename_i v w' kq
      obtain⟨e,a',wV,hq,cJ⟩:=ih _ _ h b k cs hk m6 eK dC hb hr
      refine⟨e,a',wV,hq,.of_steps (.one h0 (step_lone_go ?_)) cJ⟩
      rw[hg,←BR]; simp[stepG.apply,kq]
     ·rename_i w' kq
      obtain⟨e,a',wV,hq,cJ⟩:=ih _ _ h b k cs hk m6 eK dC hb hr
      refine⟨e,a',wV,hq,.of_steps (.one h0 (step_lone_go ?_)) cJ⟩
      rw[hg,←BR]; simp[stepG.apply,kq]
     ·rename_i d w' kq
      obtain⟨e,a',wV,hq,cJ⟩:=ih _ _ h b k cs hk m6 eK dC hb hr
      refine⟨e,a',wV,hq,.of_steps (.one h0 (step_lone_go ?_)) cJ⟩
      have:=Frame.finish_atR b { a with defers:=d::a.defers } ops i rest k undef
      rw[ho]at this
      rw[hg]; simp only[stepG.apply,Sem.runT_eq,kq,GStep.bare_after]
      exact congrArg (fun fr=>GStep.go { frame:=fr,callers:=cs,status:=.running,dying:=none } w') this
     ·rename_i f args w' kq
      obtain⟨hn,hF,h⟩:=h
      have m8:F.room ((b.atR a (.inRegion ops (i::rest)::k)::cs).length+1+(n-1)):=Fence.room_enter hr hn
      obtain⟨e,wV,fr,hR,nQ,qP,Aw⟩:=h (b.atR a (.inRegion ops (i::rest)::k)::cs) m8
      have ll:step P (lone (b.atR a (.inRegion ops (i::rest)::k)) cs w)=.next (lone (Frame.enter P f args .normal) (b.atR a (.inRegion ops (i::rest)::k)::cs) w'):=
       step_lone_go (by rw[hg]; simp[stepG.apply,kq,Frame.atR])
      cases e with
      |returned v=>
       have hl:(lone fr (b.atR a (.inRegion ops (i::rest)::k)::cs) wV).fenced P F:=fenced_leaving (qP▸hF) m8 Aw
       obtain⟨e,a',w₃,hq,cJ⟩:=ih _ _ hR b k cs hk m6 eK dC hb hr
       refine⟨e,a',w₃,hq,.of_steps (.head h0 ll (StepsIn.trans nQ (.one hl ?_))) cJ⟩
       rw[←BR]; exact step_leave_returned Aw
      |panicked chain=>
       have hl:(lone fr (b.atR a (.inRegion ops (i::rest)::k)::cs) wV).fenced P F:=fenced_leaving (qP▸hF) m8 Aw
       refine⟨.panic chain,a,wV,hR,.inRegion ops (i::rest)::k,.head h0 ll (StepsIn.trans nQ (.one hl ?_))⟩
       rw[←Frame.raise_atR]; exact step_leave_panicked Aw
      |outgrown=>
       obtain⟨a₀,w₀,hq⟩:=hR
       exact⟨.outgrown,a₀,w₀,hq,.inr (Outgrown.of_steps (.one ll) nQ)⟩
     ·rename_i row args w' kq
      obtain⟨hn,h⟩:=h
      obtain⟨v,wV,hR,nQ⟩:=h (b.atR a (.inRegion ops (i::rest)::k)) cs (Fence.room_enter hr hn)
      have ll:step P (lone (b.atR a (.inRegion ops (i::rest)::k)) cs w)=.next (lone (Frame.ofRow P row args .normal) (b.atR a (.inRegion ops (i::rest)::k)::cs) w'):=
       step_lone_go (by rw[hg]; simp[stepG.apply,kq,Frame.atR])
      obtain⟨e,a',w₃,hq,cJ⟩:=ih _ _ hR b k cs hk m6 eK dC hb hr
      refine⟨e,a',w₃,hq,.of_steps (.head h0 ll ?_) cJ⟩
      rw[←BR]; exact nQ
     ·rename_i l f tmps assign body w' kq
      obtain⟨hn,_,h⟩:=h
      obtain⟨e,wV,hR,nQ⟩:=h (b.atR a (.inRegion ops (i::rest)::k)) cs (Fence.room_enter hr hn)
      have ll:step P (lone (b.atR a (.inRegion ops (i::rest)::k)) cs w)=.next (lone (Frame.round l f tmps assign body .normal) (b.atR a (.inRegion ops (i::rest)::k)::cs) w'):=
       step_lone_go (by rw[hg]; simp[stepG.apply,kq,Frame.atR])
      cases e with
      |returned v=>
       obtain⟨e,a',w₃,hq,cJ⟩:=ih _ _ hR b k cs hk m6 eK dC hb hr
       refine⟨e,a',w₃,hq,.of_steps (.head h0 ll ?_) cJ⟩
       rw[←BR]; exact nQ
      |panicked chain=>
       refine⟨.panic chain,a,wV,hR,.inRegion ops (i::rest)::k,.head h0 ll ?_⟩
       rw[←Frame.raise_atR]; exact nQ
      |outgrown=>
       obtain⟨a₀,w₀,hq⟩:=hR
       exact⟨.outgrown,a₀,w₀,hq,.inr (Outgrown.of_steps (.one ll) nQ)⟩
     ·rename_i v w' kq
      refine⟨_,a,w',h,.inRegion ops (i::rest)::k,.one h0 (step_lone_go ?_)⟩
      rw[hg,←Frame.raise_atR]; simp[stepG.apply,kq]
     ·exact h.elim
    ·-- recover
     rw[he]at h
     have ua:∀ f,o.about P w a.eval=some f→F.fn f:=by
      intro f hf
      unfold Oper.about at hf
      rw[D0]at hf
      cases hf
     have h0:(lone (b.atR a (.inRegion ops (i::rest)::k)) cs w).fenced P F:=fenced_oper hb hr ho ua
     have h2:wpOpsIn F n P (ops.map dE) Q rest (a.put o.dst .nilIface) w:=by
      have h3:=h.2
      rw[eK]at h3
      exact h3
     obtain⟨e,a',wV,hq,cJ⟩:=ih _ _ h2 b k cs hk m6 eK dC hb hr
     refine⟨e,a',wV,hq,.of_steps (.one h0 (step_lone_go ?_)) cJ⟩
     have XQ:b.roundOf=none:=dC.trans eK
     rw[XQ,Oper.semAt_none]at hg
     have QV:=tryRecover_deferred (fr:=b.atR a (.inRegion ops (i::rest)::k)) hk cs
     rw[hg,←BR]
     simp only[Frame.atR,XQ]at QV ⊢
     simp[stepG.apply,BQ D0,QV,m6]
   ·simp only[hw,if_false,Bool.false_eq_true]at h
    obtain⟨ua,h⟩:=h
    obtain⟨e,a',w',hq,cJ⟩:=ih _ _ h b k cs hk m6 eK dC hb hr
    have hs:=stepR_op_skip (P:=P) (b:=b) (a:=a) (k:=k) (cs:=cs) (w:=w) (ops:=ops) (i:=i) (rest:=rest) (by simp[ho]; simpa using hw)
    simp only[ho,Option.bind_some]at hs
    have Mu:∀ f,o.about P w a.eval=some f→F.fn f:=by
     rcases zg o with he|⟨he,mf,D0⟩
     ·rw[he]at ua; exact ua
     ·intro f hf
      unfold Oper.about at hf
      rw[D0]at hf
      cases hf
    exact⟨e,a',w',hq,.of_steps (.one (fenced_oper hb hr ho Mu) hs) cJ⟩
def G7(F:Fence)(n:Nat)(P:Program)(c:Code)(Q:Exit→Act→World→Prop)(a:Act)(w:World):Prop:=
 ∀ (b:Frame) (k:List Go.Item) (cs:List Frame),b.kind=.deferred→recoverD cs=none→F.round=none→b.roundOf=F.round→F.fn b.fn→F.room (cs.length+1+n) →
   ∃ e a' w',Q e a' w'∧ArrivesIn (Machine.fenced P F) P (lone (b.atR a (.code c::k)) cs w) b k cs e a' w'
variable {a:Act}{w:World}
theorem IU{c:Code}(h:c.wpIn F n P Q a w):G7 F n P c Q a w:=fun b k cs _ _ _ dC hb hr=>h b k cs dC hb hr
theorem Mv{x y:Code}(h:G7 F n P x (fun e a w=>match e with|.normal=>G7 F n P y Q a w|e=>Q e a w) a w):G7 F n P (.seq x y) Q a w:=by
 intro b k cs hk m6 eK dC hb hr
 have i0:(lone (b.atR a (.code (.seq x y)::k)) cs w).fenced P F:=fenced_calm hb hr rfl
 obtain⟨e,a₁,w₁,hq,cJ⟩:=h b (.code y::k) cs hk m6 eK dC hb hr
 cases e with
 |normal=>
  obtain⟨e₂,a₂,w₂,wW,jR⟩:=hq b k cs hk m6 eK dC hb hr
  exact⟨e₂,a₂,w₂,wW,.of_steps (.head i0 stepR_seq cJ) jR⟩
 |exit id=>exact⟨_,a₁,w₁,hq,.of_steps (.one i0 stepR_seq) (.pass (x:=.code y) rfl (fun _ _=>.inl (by simp)) cJ)⟩
 |goto l=>exact⟨_,a₁,w₁,hq,.of_steps (.one i0 stepR_seq) (.pass (x:=.code y) rfl (fun _ _=>.inl (by simp)) cJ)⟩
 |ret=>exact⟨_,a₁,w₁,hq,.of_steps (.one i0 stepR_seq) (.pass (x:=.code y) rfl (fun _ _=>.inl (by simp)) cJ)⟩
 |panic ch=>exact⟨_,a₁,w₁,hq,.of_steps (.one i0 stepR_seq) (.pass (x:=.code y) rfl (fun _ _=>.inl (by simp)) cJ)⟩
 |outgrown=>exact⟨_,a₁,w₁,hq,.of_steps (.one i0 stepR_seq) (.pass (x:=.code y) rfl (fun _ _=>.inl (by simp)) cJ)⟩
theorem Ei{id:Nat}(h:wpOpsIn F n P (ops.map dE) Q (List.range ops.size) a w):G7 F n P (.region id ops false) Q a w:=
 fun b k cs hk m6 eK dC hb hr=>let ⟨e,a',w',q,r⟩:=FX _ a w h b k cs hk m6 eK dC hb hr; ⟨e,a',w',q,.of_steps (.one (fenced_calm hb hr rfl) stepR_region) r⟩
theorem IV{id:Nat}(h:∀ t,wpOpsIn F n P (ops.map dE) Q (Region.schedule (P.follows .mixedOrders) ops t) a { w with drawn:=w.drawn+1 }):G7 F n P (.region id ops true) Q a w:=
 fun b k cs hk m6 eK dC hb hr=>let ⟨e,a',w',q,r⟩:=FX _ a _ (h _) b k cs hk m6 eK dC hb hr; ⟨e,a',w',q,.of_steps (.one (fenced_calm hb hr rfl) stepR_region_draw) r⟩
theorem yI{f:FuncId}{fn:Func}{c:Code}{args:Array Value}{R:Ending→World→Prop}(hf:P.funcs[f]?=some fn)(hb:fn.body=some c)(hF:F.fn f)
  (h:G7 F n P c (bodyPost P fn R) { tmps:=args++Array.replicate (fn.ntmps-args.size) undef,defers:=[] } w) (dC:F.round=none:=by rfl) :
  CallsDIn F n P f args .returning w fun e u' w'=>u'=.returning∧R e w':=by
 refine⟨hF,fun c₀ cs hu hr=>?_⟩
 let b:Frame:={ (default:Frame) with fn:=f,kind:=.deferred,roundOf:=none }
 have ll:Frame.enter P f args .deferred=b.atR { tmps:=args++Array.replicate (fn.ntmps-args.size) undef,defers:=[] } [.code c]:=by
  simp[Frame.enter,Frame.atR,hf,hb,b]
 have hc:({ c₀ with mode:=.returning }:Frame)=c₀:=by cases c₀; simp only at hu; rw[hu]
 have m6:recoverD (c₀::cs)=none:=by simp only[recoverD,hu]
 obtain⟨e,a',w',hq,cJ⟩:=h b [] (c₀::cs) rfl m6 dC dC.symm hF hr
 rw[←ll]at cJ
 cases e with
 |normal=>
  obtain⟨hd,v,kq,hR⟩:=hq
  exact⟨.returned v,.returning,w',_,⟨rfl,hR⟩,(by rw[hc]; exact StepsIn.trans cJ (.one (fenced_calm (fr:=b.atR a' []) hF hr rfl) (stepR_end rfl))),rfl,rfl,rfl,hd,fn,hf,kq⟩
 |ret=>
  obtain⟨hd,v,kq,hR⟩:=hq
  obtain⟨todo,hs⟩:=cJ.1 rfl
  exact⟨.returned v,.returning,w',_,⟨rfl,hR⟩,(by rw[hc]; exact hs),rfl,rfl,rfl,hd,fn,hf,kq⟩
 |panic chain=>
  obtain⟨hd,hR⟩:=hq
  obtain⟨todo,hs⟩:=cJ
  exact⟨.panicked chain,.returning,w',_,⟨rfl,hR⟩,(by rw[hc]; exact hs),rfl,rfl,rfl,hd,fn,hf⟩
 |exit id=>exact hq.elim
 |goto l=>exact hq.elim
 |outgrown=>exact⟨.outgrown,.returning,w',b,⟨rfl,hq⟩,cJ.resolve_left (by simp[b]),rfl,rfl,trivial⟩
end
end Go.PI
end
section
/- PI, part Y: the evaluator's answers are what the machine does, on every tape and in every order. -/
namespace Go.PI
def JX[ab](B:oJ)(E:Env):Out→Exit→Act→World→Prop
 |.norm s,.normal,a,w=>cG B E s a w
 |.exit i s,.exit j,a,w=>i=j∧cG B E s a w
 |.ret s,.ret,a,w=>cG B E s a w
 |.jP v s,.panic ch,a,w=>∃ u,ch=[{ v:=u,recovered:=false }]∧ai E true v u∧Inv E s.hp w∧Marks B E w a.defers
 |_,_,_,_=>False
def bo[ab](B:oJ)(E:Env)(w:World)(o:Out)(e:Exit)(a':Act)(w':World):Prop:=
 ∃ E',Ext E E'∧Fr E w E' w'∧JX B E' o e a' w'
theorem bo.from[ab]{B:oJ}{E E1:Env}{w w1:World}{o:Out}{e:Exit}{a:Act}{w':World}(hx:Ext E E1)(hf:Fr E w E1 w1)(h:bo B E1 w1 o e a w'):bo B E w o e a w':=by
 obtain⟨E',h1,h2,h3⟩:=h
 exact⟨E',hx.trans h1,hf.trans h2,h3⟩
structure Ctx.Ok[ab](C:Ctx):Prop where
 name : ∀ (f : FuncId) (fn : Func), C.P.funcs[f]? = some fn → fn.body.isSome = true → (fn.name == "runtime.NumGoroutine") = false
 kp:∀ (g:FuncId) (h:List AV→Option AV) (as:List AV) (r:AV),C.kp g=some h→h as=some r→∀ (Ec:Env) (w:World) (vs:List Value),Inv Ec [] w→an Ec false as vs →
  Calls C.P g vs.toArray w (bP Ec w [] (.val r))
 iV:∀ (g:FuncId) (h:List AV→Option (AV×ag)) (as:List AV) (r:AV) (hX:ag),C.iV g=some h→h as=some (r,hX) →
  ∀ (Ec:Env) (w:World) (vs:List Value),Inv Ec [] w→an Ec false as vs →
    Calls C.P g vs.toArray w (fun en w'=>∃ r' PG,bP Ec w PG (.val r') en w'∧∀ nm,fO nm r' PG=fO nm r hX)
 AY:∀ (g:FuncId) (h:List AV→Option (AV×ag)),C.iV g=some h→∃ fn:Func,C.P.funcs[g]?=some fn∧fn.body.isSome=true
 qX:∀ (g:FuncId) (h:List AV→RM dm) (args:List AV) (hp:ag) (e:dm),C.qX g=some h→(h args).run hp=some e→(∃ fn:Func,C.P.funcs[g]?=some fn∧fn.body.isSome=true) ∧
  ∀ (E:Env) (w:World) (vs:List Value),Inv E hp w→an E true args vs→Calls C.P g vs.toArray w (bP E w (ak hp e.wr) (.val e.val))
 ES:∀ (g:FuncId) (h:List AV→Option AV),C.kp g=some h→∃ fn:Func,C.P.funcs[g]?=some fn∧fn.body.isSome=true
def lE[ab](C:Ctx)(k:Nat):Prop:=
 ∀ f args hp res cq,lV C k f args hp=some (res,cq)→∀ (E:Env) (w:World) (vs:List Value),Inv E hp w→an E true args vs →
   Calls C.P f vs.toArray w (bP E w cq res)
def fw[ab](C:Ctx)(k:Nat):Prop:=
 ∀ c s o,bR C k c s=some o→∀ (r:Option Nat) (B:oJ),((r=B.lb∧B.rg=true)∨cx c=true)→∀ (E:Env) (a:Act) (w:World),cG B E s a w→c.wpIn (WF r) 0 C.P (bo B E w o) a w
def lF[ab](P:Program)(step:Oper→St→Option Out):Prop:=
 ∀ (o:Oper) (s:St) (r:Out),step o s=some r→∀ (rd:Option Nat) (B:oJ) (E:Env) (a:Act) (w:World) (K:Act→World→Prop) (Q:Exit→Act→World→Prop),cG B E s a w →
   (∀ s',r=.norm s'→∀ E' a' w',Ext E E'→Fr E w E' w'→cG B E' s' a' w'→K a' w') →
   (∀ v s',r=.jP v s'→∀ E' w' u,Ext E E'→Fr E w E' w'→Inv E' s'.hp w'→ai E' true v u→Q (.panic [{ v:=u,recovered:=false }]) a w') →
   o.wpIn (WF rd) 0 P a w K Q
def uu[ab](C:Ctx)(k:Nat):Prop:=
 ∀ g args hp res wr,(kX C k g args).run hp=some (res,wr)→∀ (E:Env) (w:World) (vs:List Value),Inv E hp w→an E true args vs →
   Calls C.P g vs.toArray w (bP E w (ak hp wr) res)
theorem qo[ab]{P:Program}{step:Oper→St→Option Out}(dG:lF P step)(tk:∀ o s r,step o s=some r→(∃ s',r=.norm s')∨∃ v s',r=.jP v s')
  {ops:Array Oper} (rd:Option Nat) (B:oJ):∀ (l:List Oper) (s:St) (o:Out),cE step ops l s=some o→∀ (E0 E:Env) (a:Act) (w0 w:World),Ext E0 E→Fr E0 w0 E w→cG B E s a w →
    wpListIn (WF rd) 0 P ops (bo B E0 w0 o) l a w
 |[],s,o,h,E0,E,a,w0,w,hx,hf,hs=>by
  simp only[cE,Option.some.injEq]at h
  subst h
  exact⟨E,hx,hf,hs⟩
 |p::r,s,o,h,E0,E,a,w0,w,hx,hf,hs=>by
  simp only[cE]at h
  unfold wpListIn
  split at h
  ·simp at h
  ·rename_i hw
   rw[k6 hs.fr hw]
   simp only[Bool.false_eq_true,if_false]
   exact⟨fun _ _=>trivial,qo dG tk rd B r _ o h E0 E _ w0 w hx hf ⟨gp hs.fr (by simp[ai]),hs.inv,by rw[put_defers]; exact hs.df,hs.bs⟩⟩
  ·rename_i hw
   rw[k6 hs.fr hw]
   simp only[if_true]
   cases hq:step p s with
   |none=>rw[hq]at h; simp at h
   |some q=>
    rw[hq]at h
    refine dG p s q hq rd B E a w _ _ hs (fun s' e E' a' w' gi F6 e9=>?_) (fun v s' e E' w' u gi F6 ig hr=>?_)
    ·subst e
     exact qo dG tk rd B r s' o h E0 E' a' w0 w' (hx.trans gi) (hf.trans F6) e9
    ·subst e
     simp only[Option.some.injEq]at h
     subst h
     exact⟨E',hx.trans gi,hf.trans F6,u,rfl,hr,ig,hs.df.mono F6⟩
theorem eY[ab]{P:Program}{E:Env}{w:World}{fv:AV}{f:Value}{args vG:List AV}{vs:List Value}{g:FuncId}(hf:ai E true fv f)(ha:an E true args vs)
  (h : bA fv args = some (g, vG)) (qP : ∃ fn : Func, P.funcs[g]? = some fn ∧ fn.body.isSome = true ∧ (fn.name == "runtime.NumGoroutine") = false) :
  ∃ vs':List Value,an E true vG vs'∧(do let d ←Deferred.ofValue f vs.toArray; invoke d.target d.args:Sem Next).run P w=.ok (.enter g vs'.toArray) w:=by
 obtain⟨fn,h1,h2,h3⟩:=qP
 have hb:fn.body.isNone=false:=by cases hq:fn.body<;>simp_all
 have run:∀ (first captured:List Value),f=.func (.func g) first.toArray captured.toArray →
   (do let d ←Deferred.ofValue f vs.toArray; invoke d.target d.args:Sem Next).run P w=.ok (.enter g (first++vs++captured).toArray) w:=by
  intro first captured hv
  subst hv
  simp only[Deferred.ofValue,Sem.run_bind,Sem.run_pure,Result.andThen_ok,invoke,callFunc,run_program,h1,h3,hb,Bool.false_eq_true,if_false]
  simp
 cases fv with
 |lit u=>
  cases u with
  |func Vm first captured=>
   cases Vm with
   |func g'=>
    simp only[bA,Option.some.injEq,Prod.mk.injEq]at h
    obtain⟨rfl,rfl⟩:=h
    simp only[ai]at hf
    exact⟨first.toList++vs++captured.toList,((an.lits _).append ha).append (an.lits _),run _ _ (by simpa using hf)⟩
   |_=>simp[bA]at h
  |_=>simp[bA]at h
 |iT Vm first captured=>
  cases Vm with
  |func g'=>
   simp only[bA,Option.some.injEq,Prod.mk.injEq]at h
   obtain⟨rfl,rfl⟩:=h
   simp only[ai]at hf
   obtain⟨fv,cv,hv,qQ,iC⟩:=hf
   exact⟨fv++vs++cv,(qQ.append ha).append iC,run _ _ hv⟩
  |_=>simp[bA]at h
 |_=>simp[bA]at h
theorem ET[ab]{P:Program}{E:Env}{hp:ag}{w:World}{o:Oper}{ρ:Operand→Value}{e:dm}(h:Step P E hp w (execOp ρ o) e)(r:Option Nat):o.semAt r ρ=execOp ρ o:=by
 refine Oper.semAt_eq r ρ o fun c hc=>?_
 obtain⟨E',w',v,hr,_⟩:=h
 have hd:(execOp ρ o).run P w=(do pure (.defer (←resolve ρ c o.type)):Sem Next).run P w:=by
  obtain⟨dst,op,type,pos,after,guard⟩:=o
  simp only at hc
  subst hc
  rfl
 unfold Ro at hr
 rw[hd,Sem.run_bind]at hr
 cases cy:(resolve ρ c o.type).run P w with
 |ok d w1=>simp_all
 |halt x w1=>simp_all
theorem wF[ab]{P:Program}{B:oJ}{rd:Option Nat}{E:Env}{s:St}{a:Act}{w:World}(_:cG B E s a w){o:Oper}{e:dm}(h:Step P E s.hp w (execOp a.eval o) e)
  {K:Act→World→Prop} {Q:Exit→Act→World→Prop}
  (hK:∀ E' w' v,Ext E E'→Fr E w E' w'→Inv E' (ak s.hp e.wr) w'→ai E' true e.val v→K (a.put o.dst v) w'):o.wpIn (WF rd) 0 P a w K Q:=by
 have PH:=ET h (WF rd).round
 obtain⟨E',w',v,hr,hx,hI,hf,hv⟩:=h
 refine⟨fun _ _=>trivial,?_⟩
 rw[PH]
 rcases hr with hr|⟨hr,rfl⟩
 ·rw[hr,Oper.uponIn_value]
  exact hK E' w' v hx hf hI hv
 ·rw[hr,Oper.uponIn_skip]
  exact hK E' w' undef hx hf hI hv
theorem wG{P:Program}{g:FuncId}{vs:Array Value}{w:World}{R:Ending→World→Prop}(h:Calls P g vs w R)(rd:Option Nat)(n:Nat):CallsIn (WF rd) n P g vs w R:=
 (callsIn_wide (n:=n)).2 h
theorem xB{P:Program}{rd:Option Nat}{a:Act}{w:World}{o:Oper}{c:Call}(ho:o.op=.call c){g:FuncId}{vs':List Value}(aV:(execOp a.eval o).run P w=.ok (.enter g vs'.toArray) w)
  {R:Ending→World→Prop} (gU:Calls P g vs'.toArray w R) {K:Act→World→Prop} {Q:Exit→Act→World→Prop}
  (h1:∀ v w',R (.returned v) w'→K (a.put o.dst v) w') (h2:∀ ch w',R (.panicked ch) w'→Q (.panic ch) a w') (h3:∀ w',¬R .outgrown w'):o.wpIn (WF rd) 0 P a w K Q:=by
 refine⟨fun _ _=>trivial,?_⟩
 rw[Oper.semAt_eq _ _ _ (by rw[ho]; intro c h; cases h),aV,Oper.uponIn_enter]
 refine⟨fun h=>by simp[WF,Fence.wide]at h,(wG gU rd _).mono fun e w' hR=>?_⟩
 cases e with
 |returned v=>exact h1 v w' hR
 |panicked ch=>exact h2 ch w' hR
 |outgrown=>exact(h3 w' hR).elim
theorem AZ[ab]{P:Program}{E:Env}{w:World}{a:Act}{o:Oper}{rv:Operand}{name:String}{cS:Array Operand}{mf:Array TypeId}(ho:o.op=.call ⟨.invoke rv name,cS,mf⟩){v:AV}(hv:ai E true v (a.eval rv)){g:FuncId}{x:AV}
  {args : List AV} (ha : an E true args (cS.toList.map a.eval)) (h : pb P v name = some (g, x)) (qP : ∃ fn : Func, P.funcs[g]? = some fn ∧ fn.body.isSome = true ∧ (fn.name == "runtime.NumGoroutine") = false) :
  ∃ vs':List Value,an E true (x::args) vs'∧(execOp a.eval o).run P w=.ok (.enter g vs'.toArray) w:=by
 obtain⟨fn,f1,f2,f3⟩:=qP
 have hb:fn.body.isNone=false:=by cases hq:fn.body<;>simp_all
 cases v with
 |gg t y=>
  simp only[pb,Option.map_eq_some_iff,Prod.mk.injEq]at h
  obtain⟨f,hm,rfl,rfl⟩:=h
  simp only[ai]at hv
  obtain⟨u,hv,hu⟩:=hv
  refine⟨u::cS.toList.map a.eval,by simp only[an]; exact⟨hu,ha⟩,?_⟩
  unfold Av at hm
  split at hm
  case h_2=>simp at hm
  rename_i i d hi hd
  split at hm
  ·simp at hm
  ·rename_i m RN Vn
   split at hm
   ·rename_i f' hp hf
    simp only[Option.some.injEq]at hm
    subst hm
    have RQ:m.path.toList=[]:=by simpa using hp
    have Zt:0<Made.depth:=by decide
    obtain⟨n,hn⟩:∃ n,P.types.size+Made.depth=n+1:=⟨P.types.size+Made.depth-1,by omega⟩
    have RR:(Go.method (P.types.size+Made.depth) t u name).run P w=.ok (f',u) w:=by
     rw[hn]
     unfold Go.method
     simp only[typeInfo,Sem.run_bind,run_program,Result.andThen_ok,hi,Sem.run_pure,RN,RQ,follow,hf,receiverAt,underlying,hd]
     rfl
    have QY:(callMethod (.iface t u) name (cS.map a.eval)).run P w=.ok (.enter f' (#[u]++cS.map a.eval)) w:=by
     simp only[callMethod,Sem.run_bind,run_program,Result.andThen_ok,RR,callFunc,f1,f3,hb,Bool.false_eq_true,if_false,Sem.run_pure]
    have h0:(#[Value.iface t u]++cS.map a.eval)[0]?=some (Value.iface t u):=by rw[←Array.getElem?_toList]; simp
    have h1:(#[Value.iface t u]++cS.map a.eval).extract 1 (#[Value.iface t u]++cS.map a.eval).size=cS.map a.eval:=by
     apply Array.ext'
     simp
     exact List.take_of_length_le (by simp)
    simp only[execOp,ho,resolve,Sem.run_bind,Sem.run_pure,Result.andThen_ok,hv,invoke,h0,h1,QY]
    rw[show (#[u]++cS.map a.eval)=(u::cS.toList.map a.eval).toArray by apply Array.ext'; simp]
   ·simp at hm
  ·simp at hm
 |_=>simp[pb]at h
theorem qp{P:Program}{rd:Option Nat}{a:Act}{w:World}{o:Oper}{c:Call}{f:Operand}(ho:o.op=.call c)(hc:c.callee=.value f){g:FuncId}{vs':List Value}
  (aV:(do let d ←Deferred.ofValue (a.eval f) (c.args.toList.map a.eval).toArray; invoke d.target d.args:Sem Next).run P w=.ok (.enter g vs'.toArray) w)
  {R:Ending→World→Prop} (gU:Calls P g vs'.toArray w R) {K:Act→World→Prop} {Q:Exit→Act→World→Prop}
  (h1:∀ v w',R (.returned v) w'→K (a.put o.dst v) w') (h2:∀ ch w',R (.panicked ch) w'→Q (.panic ch) a w') (h3:∀ w',¬R .outgrown w'):o.wpIn (WF rd) 0 P a w K Q:=by
 refine⟨fun _ _=>trivial,?_⟩
 rw[Oper.semAt_eq _ _ _ (by rw[ho]; intro c h; cases h)]
 have:(execOp a.eval o).run P w=.ok (.enter g vs'.toArray) w:=by
  simp only[execOp,ho,resolve,hc]
  rw[←aV]
  congr 3
  rw[←Array.toList_map]
 rw[this,Oper.uponIn_enter]
 refine⟨fun h=>by simp[WF,Fence.wide]at h,(wG gU rd _).mono fun e w' hR=>?_⟩
 cases e with
 |returned v=>exact h1 v w' hR
 |panicked ch=>exact h2 ch w' hR
 |outgrown=>exact(h3 w' hR).elim
theorem JY[ab]{E:Env}{hp:ag}{w w':World}(hI:Inv E hp w)(fI:∀ b,E.own b∨(E.m b).isSome=true→w'.heap[b]?=w.heap[b]?)(kK:w.heap.size≤w'.heap.size):Inv E hp w':=by
 have eW:∀ n o,hp[n]?=some (some o)→∀ b,cd E hp n b→E.own b∨(E.m b).isSome=true:=by
  rintro n o ho b ⟨o',l,c8,hl,hb⟩
  rw[ho]at c8
  cases c8
  have h:=hI.objs n o ho
  cases o with
  |arr g cl fz es=>
   obtain⟨l',iQ,_,hm⟩:=h
   simp only at hl
   rw[hl]at iQ; cases iQ
   rw[hb]at hm
   obtain⟨c,T,_,hif,_⟩:=hm
   cases fz with
   |true=>simp_all
   |false=>simp_all
  |gh k vs=>
   obtain⟨l',b',T5,us,h1,h2,h3,h4,h5,_⟩:=h
   simp only at hl
   rw[hl]at h1; cases h1
   rw[hb]at h2; cases h2
   exact .inl h5
 refine⟨hI.len,fun n o hn=>(hI.objs n o hn).other hn fun b hb=>fI b (eW n o hn b hb),hI.free,hI.inj,fun b c h=>?_,fun b h=>Nat.lt_of_lt_of_le (hI.oT b h) kK,hI.ju⟩
 obtain⟨T,fz,hw⟩:=hI.mem b c h
 exact⟨T,fz,by rw[fI b (.inr (by rw[h]; rfl))]; exact hw⟩
theorem vH{F:Fence}{n:Nat}{P:Program}{fn:Func}{tmps:Array Value}{R:Ending→World→Prop}{u:FrameMode}{tl:List Deferred}(hu:u≠.run):∀ (rs:List Nat) (w:World),rs.Nodup→(∀ r∈rs,w.heap[r]?=some (.deferred (some []))) →
  (∀ w',w'.heap.size=w.heap.size→w'.os=w.os→w'.tape=w.tape→w'.output=w.output→(∀ b,b∉rs→w'.heap[b]?=w.heap[b]?)→LeavesInM F n P fn tmps R tl u w') →
  LeavesInM F n P fn tmps R ((rs.map fun r=>{ target:=.collected r,args:=#[] })++tl) u w
 |[],w,_,_,h=>h w rfl rfl rfl rfl (fun _ _=>rfl)
 |r::rs,w,hn,hr,h=>by
  rw[List.nodup_cons]at hn
  refine⟨hu,.inl ⟨r,w.putObj r (.deferred none),rfl,run_takeDeferred (hr r (by simp)),?_⟩⟩
  refine vH hu rs _ hn.2 (fun r' h'=>?_) fun w' h1 h2 h3 h4 h5=>?_
  ·have dN:r'≠r:=by rintro rfl; exact hn.1 h'
   rw[World.putObj_heap_other dN]
   exact hr r' (by simp[h'])
  ·refine h w' (by rw[h1]; simp) h2 h3 h4 fun b hb=>?_
   simp only[List.mem_cons,not_or]at hb
   rw[h5 b hb.2,World.putObj_heap_other hb.1]
theorem jd[ab]{P:Program}{fn:Func}{tmps:Array Value}{R:Ending→World→Prop}{E0 E:Env}{w0 w:World}{hp:ag}{ds:List Deferred}{u:FrameMode}{B:oJ}(hB:B.n=w0.heap.size)(hI:Inv E hp w)(hm:Marks B E w ds)
  (hf:Fr E0 w0 E w) (hu:u≠.run) (h:∀ w',Inv E hp w'→Fr E0 w0 E w'→LeavesInM Fence.wide 0 P fn tmps R B.tl u w'):LeavesInM Fence.wide 0 P fn tmps R ds u w:=by
 obtain⟨rs,rfl,zO,_,Oo⟩:=hm
 refine vH hu rs w zO (fun r hr=>(Oo r hr).2.2) fun w' h1 h2 h3 h4 h5=>h w' ?_ ?_
 ·refine JY hI (fun b hb=>h5 b fun hr=>?_) (by omega)
  obtain⟨_,a2,a3⟩:=Oo b hr
  rcases hb with hb|hb
  ·exact a2 hb
  ·cases Pr:E.m b with
   |none=>rw[Pr]at hb; simp at hb
   |some c=>obtain⟨T,fz,h6⟩:=hI.mem b c Pr; rw[a3]at h6; cases h6
 ·refine⟨h2.trans hf.os,h3.trans hf.tape,h4.trans hf.out,by rw[h1]; exact hf.size,fun b hb ho=>?_,hf.own,hf.m,fun b r hr=>?_⟩
  ·rw[h5 b fun hr=>?_]
   ·exact hf.same b hb ho
   ·have:=(Oo b hr).1; omega
  ·obtain⟨r',kq⟩:=hf.lp b r hr
   exact⟨r',by rw[h5 b fun hm=>by rw[(Oo b hm).2.2]at kq; cases kq]; exact kq⟩
theorem uv[ab]{C:Ctx}{k:Nat}{f:FuncId}{args:List AV}{hp:ag}{r:nL×ag}(h:lV C k f args hp=some r):
  ∃ fn:Func,C.P.funcs[f]?=some fn∧fn.body.isSome=true:=by
 cases k with
 |zero=>simp[lV]at h
 |succ k=>
  simp only[lV]at h
  split at h
  ·simp at h
  rename_i fn qP
  split at h
  ·simp at h
  rename_i c hc
  exact⟨fn,qP,by rw[hc]; rfl⟩
theorem A0[ab]{C:Ctx}{k:Nat}(hC:fw C k){f:FuncId}{args:List AV}{hp:ag}{res:nL}{cq:ag}{fn:Func}{c:Code}(qP:C.P.funcs[f]?=some fn)(hc:fn.body=some c){E:Env}{w:World}{vs:List Value}(hI:Inv E hp w)(ha:an E true args vs)
  (h:(match bR C k c ⟨f,args++List.replicate (fn.ntmps-args.length) .undef,hp⟩ with
    |some (.norm s)|some (.ret s)=>
     match (aU C.P s.fr fn.results.toList).run s.hp with
     |some l=>some (nL.val (cB l),s.hp)
     |none=>none
    |some (.jP v s)=>some (.jP v,s.hp)
    |_=>none)=some (res,cq)):Calls C.P f vs.toArray w (bP E w cq res):=by
 have hlen:=ha.length
 have hs:cG ⟨w.heap.size,[],true,none⟩ E ⟨f,args++List.replicate (fn.ntmps-args.length) .undef,hp⟩ { tmps:=vs.toArray++Array.replicate (fn.ntmps-vs.toArray.size) undef,defers:=[] } w:=by
  refine⟨?_,hI,Marks.nil,Nat.le_refl _⟩
  simp only[Array.toList_append,Array.toList_replicate,List.size_toArray,←hlen]
  refine ha.append ?_
  have:=an.lits (E:=E) (o:=true) (List.replicate (fn.ntmps-args.length) undef)
  simpa using this
 have ret:∀ s',((bR C k c ⟨f,args++List.replicate (fn.ntmps-args.length) .undef,hp⟩=some (.norm s')) ∨
   (bR C k c ⟨f,args++List.replicate (fn.ntmps-args.length) .undef,hp⟩=some (.ret s'))) →
   (match (aU C.P s'.fr fn.results.toList).run s'.hp with|some l=>some (nL.val (cB l),s'.hp)|none=>none)=some (res,cq) →
   Calls C.P f vs.toArray w (bP E w cq res):=by
  intro s' bE hr
  split at hr
  case h_2=>simp at hr
  rename_i l hl
  simp only[Option.some.injEq,Prod.mk.injEq]at hr
  obtain⟨rfl,rfl⟩:=hr
  have fin:∀ E' a' w',Ext E E'→Fr E w E' w'→cG ⟨w.heap.size,[],true,none⟩ E' s' a' w'→LeavesInM Fence.wide 0 C.P fn a'.tmps (bP E w s'.hp (.val (cB l))) a'.defers .returning w':=by
   intro E' a' w' hx hf e9
   refine jd rfl e9.inv e9.df hf (by simp) fun w2 qk iC=>?_
   obtain⟨v,h1,h2⟩:=rO qk e9.fr hl
   exact⟨v,h1,E',hx,qk,iC,h2⟩
  refine callsIn_wide.1 (callsIn_of_wp_marks (F:=Fence.wide) (n:=0) qP hc trivial ?_)
  rcases bE with bE|bE
  ·refine wpIn_mono (hC c _ _ bE none _ (.inl ⟨rfl,rfl⟩) E _ w hs) fun e a' w' cY=>?_
   obtain⟨E',hx,hf,ho⟩:=cY
   cases e with
   |normal=>exact fin E' a' w' hx hf ho
   |_=>exact ho.elim
  ·refine wpIn_mono (hC c _ _ bE none _ (.inl ⟨rfl,rfl⟩) E _ w hs) fun e a' w' cY=>?_
   obtain⟨E',hx,hf,ho⟩:=cY
   cases e with
   |ret=>exact fin E' a' w' hx hf ho
   |_=>exact ho.elim
 split at h
 ·grind
 ·grind
 ·rename_i v s' bE
  simp only[Option.some.injEq,Prod.mk.injEq]at h
  obtain⟨rfl,rfl⟩:=h
  refine callsIn_wide.1 (callsIn_of_wp_marks (F:=Fence.wide) (n:=0) qP hc trivial (wpIn_mono (hC c _ _ bE none _ (.inl ⟨rfl,rfl⟩) E _ w hs) fun e a' w' cY=>?_))
  obtain⟨E',hx,hf,ho⟩:=cY
  cases e with
  |panic ch=>
   obtain⟨u,h1,h2,h3,h4⟩:=ho
   exact jd rfl h3 h4 hf (by simp) fun w2 qk iC=>⟨E',hx,qk,iC,u,h1,h2⟩
  |_=>exact ho.elim
 ·simp at h
theorem Cq[ab]{C:Ctx}(bL:C.Ok){k:Nat}(hF:lE C k):uu C (k+1):=by
 intro g args hp res wr h E w vs hI ha
 simp only[kX,RM.run_bind]at h
 cases hq:(aN 1000 args).run hp with
 |none=>rw[hq]at h; simp at h
 |some as=>
  rw[hq]at h
  simp only[Option.bind_some]at h
  split at h
  ·rename_i hf hh
   split at h
   case h_2=>simp[RM.ae]at h
   rename_i r hr
   exact uq hI ha hq h fun Ec h1 h2=>bL.kp g hf as r hh hr Ec w vs h1 h2
  ·split at h
   case h_2=>simp[RM.ae]at h
   rename_i r hX hr
   exact uq hI ha hq h fun Ec h1 h2=>hF g as [] r hX hr Ec w vs h1 h2.iu
theorem zP[ab]{C:Ctx}(bL:C.Ok){k:Nat}{g:FuncId}{args:List AV}{hp:ag}{nm:Nat}{e:dm}(h:(ia C (fun as=>lV C k g as []) nm g args).run hp=some e):
  ∃ fn : Func, C.P.funcs[g]? = some fn ∧ fn.body.isSome = true ∧ (fn.name == "runtime.NumGoroutine") = false := by
 unfold ia at h
 rw[RM.run_bind]at h
 cases hs:(aN 1000 args).run hp with
 |none=>rw[hs]at h; simp at h
 |some as=>
  rw[hs]at h
  simp only[Option.bind_some]at h
  split at h
  ·rename_i hh hi
   obtain⟨fn,h1,h2⟩:=bL.AY g hh hi
   exact⟨fn,h1,h2,bL.name g fn h1 h2⟩
  ·split at h
   ·rename_i r hX hq
    obtain⟨fn,h1,h2⟩:=uv hq
    exact⟨fn,h1,h2,bL.name g fn h1 h2⟩
   ·simp[RM.ae]at h
theorem zQ[ab]{C:Ctx}(bL:C.Ok){k:Nat}(hF:lE C k){E:Env}{hp:ag}{w:World}(hI:Inv E hp w){nm:Nat}(nS:nm=hp.length∨hp[nm]?=some none)
  {g:FuncId} {args:List AV} {vs:List Value} (ha:an E true args vs) {e:dm} (h:(ia C (fun as=>lV C k g as []) nm g args).run hp=some e) :
  Calls C.P g vs.toArray w (Gp E w hp e):=by
 unfold ia at h
 rw[RM.run_bind]at h
 cases hs:(aN 1000 args).run hp with
 |none=>rw[hs]at h; simp at h
 |some as=>
  rw[hs]at h
  simp only[Option.bind_some]at h
  have nt:=(qi hI (N:=fun _=>True) 1000).2 args as vs wE hs ha
  split at h
  ·rename_i hh hi
   split at h
   ·rename_i q hq
    exact(bL.iV g hh as q.1 q.2 hi hq _ w vs (nq hI _) nt).mono fun en w' hp=>by
     obtain⟨r',PG,h1,h2⟩:=hp
     rw[←h2]at h
     exact Gq hI nS h (fun b hb=>hb) h1
   ·simp[RM.ae]at h
  ·split at h
   ·rename_i r hX hq
    exact(hF g as [] _ hX hq _ w vs (nq hI _) nt.iu).mono fun en w' hp=>Gq hI nS h (fun b hb=>hb) hp
   ·simp[RM.ae]at h
theorem A1[ab]{C:Ctx}(bL:C.Ok){k:Nat}{g:FuncId}{args:List AV}{hp:ag}{r:nL×List (Nat×aM)}(h:(kX C k g args).run hp=some r):
  ∃ fn : Func, C.P.funcs[g]? = some fn ∧ fn.body.isSome = true ∧ (fn.name == "runtime.NumGoroutine") = false := by
 have:∃ fn:Func,C.P.funcs[g]?=some fn∧fn.body.isSome=true:=by
  cases k with
  |zero=>simp[kX,RM.ae]at h
  |succ k=>
   simp only[kX,RM.run_bind]at h
   cases hq:(aN 1000 args).run hp with
   |none=>rw[hq]at h; simp at h
   |some as=>
    rw[hq]at h
    simp only[Option.bind_some]at h
    split at h
    ·rename_i hf hh; exact bL.ES g hf hh
    ·split at h
     case h_2=>simp[RM.ae]at h
     rename_i r hX hr
     exact uv hr
 obtain⟨fn,h1,h2⟩:=this
 exact⟨fn,h1,h2,bL.name g fn h1 h2⟩
theorem pH[ab]{E E':Env}{hp cq:ag}{w w':World}(hI:Inv E hp w)(hx:Ext E E')(ig:Inv E' cq w')(hf:Fr E w E' w'){r:AV}{v:Value}(hr:ai E' true r v):
  ∃ E2,Ext E E2∧Inv E2 (gJ hp.length r cq) w'∧Fr E w E2 w'∧ai E2 true r v:=by
 unfold gJ
 split
 ·rename_i hc
  simp only[Bool.and_eq_true]at hc
  have hle:hp.length≤cq.length:=by rw[hI.len,ig.len]; exact hx.L
  obtain⟨h1,h2,h3⟩:=tj ig hle hc.2
  refine⟨E'.lower hp.length,⟨hx.m,fun n hn aq l h=>hx.ρ n hn aq l h,by simp[Env.lower,hI.len]⟩,h1,hf.trans h2,ai.down h3 hc.1 hr⟩
 ·exact⟨E',hx,ig,hf,hr⟩
theorem Gs[ab]{E:Env}{hp:ag}{w:World}(hI:Inv E hp w){esz:Nat}:
  ∃ E',Ext E E'∧Inv E' (hp++[some (.arr true true false [])]) w∧Fr E w E' w∧ai E' true (.bq esz hp.length 0 0 0 none) (.slice none 0 0):=by
 let E':Env:={ ρ:=fun n aq=>if n=hp.length then (if aq=0 then some ⟨none,esz,0⟩ else none) else E.ρ n aq,m:=E.m,L:=E.L+1,own:=E.own }
 have hx:Ext E E':=⟨fun _ _ h=>h,fun n hn aq l h=>by
  have:n≠hp.length:=by rw[hI.len]; omega
  simp[E',this,h],by simp[E']⟩
 have dh:∀ n,n≠hp.length→∀ aq,E'.ρ n aq=E.ρ n aq:=fun n hn aq=>by simp[E',hn]
 have nk:∀ n o,n≠hp.length→(hp++[some (.arr true true false [])])[n]?=some o→hp[n]?=some o:=by
  intro n o hn h
  rw[List.getElem?_append]at h
  split at h
  ·exact h
  ·rw[List.getElem?_eq_none (by simp; omega)]at h; simp at h
 have eW:∀ n b,cd E' (hp++[some (.arr true true false [])]) n b→cd E hp n b:=by
  rintro n b ⟨o,l,ho,hl,hb⟩
  by_cases e:n=hp.length
  ·subst e
   simp at ho
   subst ho
   simp[E']at hl
   subst hl
   simp at hb
  ·refine⟨o,l,nk n _ e ho,?_,hb⟩
   cases o with
   |arr=>simpa only[dh n e] using hl
   |gh=>simpa only[dh n e] using hl
 refine⟨E',hx,⟨by simp[E',hI.len],?_,?_,fun n1 n2 b h1 h2=>hI.inj n1 n2 b (eW _ _ h1) (eW _ _ h2),hI.mem,hI.oT,hI.ju⟩,
  ⟨rfl,rfl,rfl,Nat.le_refl _,fun _ _ _=>rfl,fun _ h=>.inl h,fun _ _ h=>.inl h,fun _ r h=>⟨r,h⟩⟩,?_⟩
 ·intro n o ho
  by_cases e:n=hp.length
  ·subst e
   simp at ho
   subst ho
   refine⟨⟨none,esz,0⟩,by simp[E'],fun aq l' h=>?_,rfl,rfl⟩
   simp[E']at h
   simp[h.1]
  ·have c8:=nk n _ e ho
   have h:=hI.objs n o c8
   cases o with
   |arr g cl fz es=>
    obtain⟨l,hl,hv,hm⟩:=h
    refine⟨l,by rw[dh n e]; exact hl,fun aq l' h=>hv aq l' (by rw[dh n e]at h; exact h),?_⟩
    cases hb:l.kF with
    |none=>rw[hb]at hm; exact hm
    |some b=>
     rw[hb]at hm
     obtain⟨c,T,a1,a2,a3,a4,a5,a6,a7⟩:=hm
     exact⟨c,T,a1,a2,a3,a4,a5,a6,fun i x gi=>by obtain⟨v,jS,fu⟩:=a7 i x gi; exact⟨v,jS.mono hx,fu⟩⟩
   |gh k Mw=>
    obtain⟨l,b,es,clock,a1,a2,a3,a4,a5,a6,a7,a8⟩:=h
    exact⟨l,b,es,clock,by rw[dh n e]; exact a1,a2,a3,a4,a5,fun aq l' h=>a6 aq l' (by rw[dh n e]at h; exact h),a7,a8.mono hx⟩
 ·intro n aq h
  by_cases e:n=hp.length
  ·subst e; simp at h
  ·rw[dh n e]; exact hI.free n aq (nk n _ e h)
 ·simp only[ai]
  refine⟨trivial,?_,⟨none,esz,0⟩,by simp[E'],rfl,by simp,?_⟩
  ·show hp.length<E.L+1
   rw[hI.len]; omega
  ·simp
theorem gW{α:Type}{l:List α}{n:Nat}{x:α}(h:l[n]?=some x):l.set n x=l:=by
 apply List.ext_getElem?
 intro m
 by_cases hm:n=m
 ·grind
 ·rw[List.getElem?_set_ne hm]
theorem vI[ab]{E E':Env}(hx:Ext E E'){esz j nm:Nat}(nS:ai E' true (.bq esz nm 0 0 0 none) (.slice none 0 0)){e e':AV}{v:Value}(hr:ai E true e v)(h:kH esz j nm e=some e'):ai E' true e' v:=by
 unfold kH at h
 split at h
 ·rename_i l
  split at h
  case h_2=>simp at h
  rename_i hl
  simp only[Option.some.injEq]at h
  subst h
  simp only[ai]at hr
  obtain⟨c,rfl,hc⟩:=hr
  obtain⟨v,hv,X7,Zu⟩:=hc.get hl
  simp only[ai]at X7
  subst X7
  have:=(hc.mono hx).set j nS Zu
  rw[gW hv]at this
  simp only[ai]
  exact⟨c,rfl,this⟩
 ·grind[ai]
 ·simp at h
theorem rQ[ab]{E:Env}{hp:ag}{w:World}(hI:Inv E hp w){n i:Nat}{g c f:Bool}{es:List AV}{e e':AV}(ho:hp[n]?=some (some (.arr g c f es)))(hi:es[i]?=some e)
  (hr:∀ v,ai E true e v→ai E true e' v):Inv E (hp.set n (some (.arr g false f (es.set i e')))) w:=by
 have hn:=(List.getElem?_eq_some_iff.1 ho).1
 have nk:∀ m o,(hp.set n (some (.arr g false f (es.set i e'))))[m]?=some o→m=n∧o=some (.arr g false f (es.set i e'))∨m≠n∧hp[m]?=some o:=by
  grind
 have eW:∀ m b,cd E (hp.set n (some (.arr g false f (es.set i e')))) m b→cd E hp m b:=by
  rintro m b ⟨o,l,h1,h2,h3⟩
  rcases nk m _ h1 with ⟨rfl,h5⟩|⟨_,h5⟩
  ·cases h5
   exact⟨_,l,ho,by simpa using h2,h3⟩
  ·exact⟨o,l,h5,h2,h3⟩
 refine⟨by rw[List.length_set]; exact hI.len,fun m o h=>?_,fun m aq h=>?_,fun m m' b h1 h2=>hI.inj m m' b (eW _ _ h1) (eW _ _ h2),hI.mem,hI.oT,hI.ju⟩
 ·rcases nk m _ h with ⟨rfl,h5⟩|⟨_,h5⟩
  ·cases h5
   obtain⟨l,h1,h2,h3⟩:=hI.objs _ _ ho
   refine⟨l,by simpa using h1,fun aq l' h=>by simpa using h2 aq l' h,?_⟩
   cases hb:l.kF with
   |none=>
    rw[hb]at h3
    obtain⟨rfl,rfl⟩:=h3
    simp at hi
   |some b=>
    rw[hb]at h3
    obtain⟨c',T,a1,a2,a3,a4,a5,a6,a7⟩:=h3
    refine⟨c',T,a1,a2,a3,a4,by simpa using a5,fun h=>by simpa using a6 h,fun k x hx=>?_⟩
    by_cases hk:k=i
    ·subst hk
     rw[List.getElem?_set_self (List.getElem?_eq_some_iff.1 hi).1]at hx
     simp only[Option.some.injEq]at hx
     subst hx
     obtain⟨v,hv,fu⟩:=a7 _ _ hi
     exact⟨v,by simpa using hr v hv.Ay,fu⟩
    ·rw[List.getElem?_set_ne (Ne.symm hk)]at hx
     obtain⟨v,hv,fu⟩:=a7 _ _ hx
     exact⟨v,by simpa using hv.Ay,fu⟩
  ·exact hI.objs m o h5
 ·rcases nk m _ h with ⟨rfl,h5⟩|⟨_,h5⟩
  ·cases h5
  ·exact hI.free m aq h5
theorem A2[ab]{E:Env}{j:Nat}{e e':AV}(h:sJ j e=some e')(v:Value)(hr:ai E true e v):ai E true e' v:=by
 unfold sJ at h
 split at h
 case h_2=>simp at h
 rename_i l
 split at h
 case h_2=>simp at h
 rename_i hj
 simp only[Option.some.injEq]at h
 subst h
 simp only[ai]at hr ⊢
 obtain⟨c,rfl,hc⟩:=hr
 refine⟨c,rfl,?_⟩
 have Zv:j<l.length:=by simpa using hj
 obtain⟨u,hu,_⟩:=hc.FV.get (List.getElem?_eq_getElem Zv)
 have:=hc.set j (x:=.any) (v:=u) (by simp[ai]) (hc.leaf u (List.mem_iff_getElem?.2 ⟨j,hu⟩))
 rw[gW hu]at this
 exact this
theorem EU[ab]{B:oJ}{E:Env}{s:St}{a:Act}{w:World}(hs:cG B E s a w)(d j:Nat):cG B E (me s d j) a w:=by
 unfold me
 split
 ·split
  ·rename_i ho
   split
   ·rename_i e' he
    obtain⟨e,Ma,xC⟩:=Option.bind_eq_some_iff.1 he
    exact⟨hs.fr,rQ hs.inv ho Ma fun v hv=>A2 xC v hv,hs.df,hs.bs⟩
   ·exact hs
  ·exact hs
 ·exact hs
theorem uw[ab]{B:oJ}{E:Env}{a:Act}{w:World}:∀ (l:List (Nat×Nat)) {s:St},cG B E s a w→cG B E (gH l s) a w
 |[],_,hs=>hs
 |(d,j)::r,_,hs=>uw r (EU hs d j)
theorem Cr(s:St)(d j:Nat):(me s d j).hp.length=s.hp.length:=by
 grind[me]
theorem rR:∀ (l:List (Nat×Nat)) (s:St),(gH l s).hp.length=s.hp.length
 |[],_=>rfl
 |(d,j)::r,s=>by
  simp only[gH]
  rw[rR r,Cr]
theorem HA[ab]{B:oJ}{E:Env}{s:St}{a:Act}{w:World}(hs:cG B E s a w)(d:Tmp)(j esz:Nat):∃ E',Ext E E'∧Fr E w E' w∧cG B E' (pa d s j esz) a w:=by
 obtain⟨E',h1,h2,h3,h4⟩:=Gs (esz:=esz) hs.inv
 have same:∃ E',Ext E E'∧Fr E w E' w∧cG B E' s a w:=⟨E,Ext.refl E,Fr.refl E w,hs⟩
 unfold pa
 split
 ·rename_i n aq i k hd
  split
  ·rename_i g c f es ho
   split
   ·rename_i e' he
    obtain⟨e,Ma,xC⟩:=Option.bind_eq_some_iff.1 he
    have hn:=(List.getElem?_eq_some_iff.1 ho).1
    have c8:(s.hp++[some (aM.arr true true false [])])[n]?=some (some (.arr g c f es)):=by rw[List.getElem?_append_left hn]; exact ho
    obtain⟨l,rb,_,I9⟩:=hs.inv.objs _ _ ho
    cases hb:l.kF with
    |none=>
     simp_all
    |some b=>
     rw[hb]at I9
     obtain⟨c',T,a1,a2,a3,a4,a5,a6,a7⟩:=I9
     obtain⟨v0,Ja,_⟩:=a7 _ _ Ma
     have Vo:∀ v,ai E' true e v→ai E' true e' v:=fun v hv=>vI (Ext.refl E') h4 hv xC
     refine⟨E',h1,h3,⟨hs.fr.mono h1,?_,hs.df.mono h3,hs.bs⟩⟩
     have:=rQ h2 c8 Ma Vo
     rw[List.set_append_left _ _ hn]at this
     exact this
   ·exact same
  ·exact same
 ·rename_i e _ hd
  split
  ·rename_i e' he
   obtain⟨v,hv,hr⟩:=hs.fr.get hd
   refine⟨E',h1,h3,⟨?_,h2,hs.df.mono h3,hs.bs⟩⟩
   have:=(hs.fr.mono h1).set d (vI h1 h4 hr he)
   rw[gW hv]at this
   exact this
  ·exact same
 ·exact same
theorem Gt[ab]{B:oJ}{d:Tmp}{a:Act}{w:World}:∀ (l:List (Nat×Nat)) {E:Env} {s:St},cG B E s a w→∃ E',Ext E E'∧Fr E w E' w∧cG B E' (IM d l s) a w
 |[],E,s,hs=>⟨E,Ext.refl E,Fr.refl E w,hs⟩
 |(j,esz)::r,E,s,hs=>by
  obtain⟨E1,h1,h2,h3⟩:=HA hs d j esz
  obtain⟨E2,h4,h5,h6⟩:=Gt r h3
  exact⟨E2,h1.trans h4,h2.trans h5,h6⟩
theorem JZ[ab]{B:oJ}{l:Tmp→List (Nat×Nat)}{dst:Option Tmp}{a:Act}{w:World}{E:Env}{s:St}(hs:cG B E s a w):∃ E',Ext E E'∧Fr E w E' w∧cG B E' (BN l dst s) a w:=by
 cases dst with
 |none=>exact⟨E,Ext.refl E,Fr.refl E w,hs⟩
 |some d=>exact Gt _ hs
theorem iD{hp:ag}{n:Nat}{st:kW}(h:ib hp n=some st):∃ fn ps as bd fr,hp[n]?=some (some (.gh (.loop fn ps as bd st) fr)):=by
 grind[ib]
theorem n5[ab]{E:Env}{hp:ag}{w:World}(hI:Inv E hp w){n:Nat}{fn:FuncId}{ps:Array Tmp}{as bd:Code}{st:kW}{fr:List AV}(ho:hp[n]?=some (some (.gh (.loop fn ps as bd st) fr)))
  {l:Loc} {b:Nat} (hl:E.ρ n 0=some l) (hb:l.kF=some b) :
  ∃ r,w.heap[b]?=some (.loop r)∧r.params=ps∧r.assign=as∧r.body=bd∧st.is r.state r.pending∧an E true fr r.tmps.toList:=by
 obtain⟨l0,b0,ob,us,h1,h2,h3,h4,h5,h6,h7,h8⟩:=hI.objs n _ ho
 rw[hl]at h1; cases h1
 rw[hb]at h2; cases h2
 cases ob with
 |loop r=>
  obtain⟨a1,a2,a3,a4,a5⟩:=h7
  exact⟨r,h3,a1,a2,a3,a4,by rw[a5]; exact h8⟩
 |_=>exact h7.elim
theorem Cs[ab]{E:Env}{hp:ag}{w:World}(hI:Inv E hp w){n:Nat}{fn:FuncId}{ps:Array Tmp}{as bd:Code}{st:kW}{fr:List AV}(ho:hp[n]?=some (some (.gh (.loop fn ps as bd st) fr)))
  {l:Loc} {b:Nat} (hl:E.ρ n 0=some l) (hb:l.kF=some b) {r:Loop} (hr:w.heap[b]?=some (.loop r)) {st':kW} {s':LoopState} {p':Option Code} (Vp:st'.is s' p') :
  Inv E (oF hp n st') (w.putObj b (.loop { r with state:=s',pending:=p' }))∧Fr E w E (w.putObj b (.loop { r with state:=s',pending:=p' })):=by
 obtain⟨r',h1,h2,h3,h4,_,h6⟩:=n5 hI ho hl hb
 rw[hr]at h1
 cases h1
 unfold oF
 rw[ho]
 exact wC hI ho hl hb (k':=.loop fn ps as bd st') (us':=r.tmps.toList) ⟨h2,h3,h4,Vp,rfl⟩ h6 (fun _ _ _ _ _=>⟨_,rfl⟩)
theorem ux{E:Env}{u:List Nat}:∀ (i:Nat) (fr:List AV) (vs:List Value),an E true fr vs→an E true (mZ u i fr) vs
 |_,[],[],h=>by simp[mZ,an]
 |i,x::xs,v::vs,h=>by
  simp only[an]at h
  simp only[mZ,an]
  refine⟨?_,ux (i+1) xs vs h.2⟩
  split
  ·exact h.1
  ·simp[ai]
 |_,[],_::_,h=>by simp[an]at h
 |_,_::_,[],h=>by simp[an]at h
theorem Ct{E:Env}:∀ (fr:List AV) (vs:List Value),an E true fr vs→an E true (fr.map fun _=>.any) vs
 |[],[],_=>by simp[an]
 |x::xs,v::vs,h=>by
  simp only[an]at h
  simp only[List.map_cons,an,ai]
  exact⟨trivial,Ct xs vs h.2⟩
 |[],_::_,h=>by simp[an]at h
 |_::_,[],h=>by simp[an]at h
theorem Cu[ab]{E:Env}{hp:ag}{w:World}(hI:Inv E hp w){n:Nat}{fn:FuncId}{ps:Array Tmp}{as bd:Code}{st:kW}{fr:List AV}(ho:hp[n]?=some (some (.gh (.loop fn ps as bd st) fr)))
  {l:Loc} {b:Nat} (hl:E.ρ n 0=some l) (hb:l.kF=some b) {r:Loop} (hr:w.heap[b]?=some (.loop r)) {s':LoopState} {p':Option Code} :
  Inv E (qY hp n) (w.putObj b (.loop { r with state:=s',pending:=p' }))∧Fr E w E (w.putObj b (.loop { r with state:=s',pending:=p' })):=by
 obtain⟨r',h1,h2,h3,h4,_,h6⟩:=n5 hI ho hl hb
 rw[hr]at h1
 cases h1
 unfold qY
 rw[ho]
 exact wC hI ho hl hb (k':=.loop fn ps as bd .gO) (us':=r.tmps.toList) ⟨h2,h3,h4,trivial,rfl⟩ (Ct _ _ h6) (fun _ _ _ _ _=>⟨_,rfl⟩)
theorem vJ{E:Env}:∀ (ps:List Tmp) (xs:List AV) (vs:List Value) (fr:List AV) (t:Array Value),an E true fr t.toList→an E true xs vs →
  an E true (fF fr ps xs) ((ps.zip vs).foldl (fun (t:Array Value) (q:Tmp×Value)=>t.setIfInBounds q.1 q.2) t).toList
 |[],xs,vs,fr,t,h,_=>by simpa[fF] using h
 |p::ps,[],[],fr,t,h,_=>by simpa[fF] using h
 |p::ps,x::xs,v::vs,fr,t,h,hx=>by
  simp only[an]at hx
  simp only[fF,List.zip_cons_cons,List.foldl_cons]
  refine vJ ps xs vs _ _ ?_ hx.2
  rw[Array.toList_setIfInBounds]
  exact h.set p hx.1
 |p::ps,[],_::_,_,_,_,h=>by simp[an]at h
 |p::ps,_::_,[],_,_,_,h=>by simp[an]at h
theorem yR{P:Program}{a:Act}{w:World}{o:Oper}{c:Call}{f:Operand}(ho:o.op=.call c)(hc:c.callee=.value f){b:Nat}(hf:a.eval f=.func (.yield b) #[] #[])
  {r:Loop} (hr:w.heap[b]?=some (.loop r)) (hs:(c.args.map a.eval).size=r.params.size) :
  (execOp a.eval o).run P w=.ok (.round b r.fn ((r.params.zip (c.args.map a.eval)).foldl (fun tmps (t,a)=>tmps.setIfInBounds t a) r.tmps) r.assign r.body) w:=by
 have h1:(execOp a.eval o)=(do let d ←Deferred.ofValue (a.eval f) (c.args.map a.eval); invoke d.target d.args):=by
  simp only[execOp,ho,resolve,hc]
 rw[h1,hf]
 have h2:=run_yield (P:=P) (args:=c.args.map a.eval) hr hs
 simp only[Deferred.ofValue,Sem.run_bind,Sem.run_pure,Result.andThen_ok,invoke,Array.empty_append]
 exact h2
theorem J0[ab]{C:Ctx}{k:Nat}(hC:fw C k){rd:Option Nat}{B:oJ}{E:Env}{s:St}{a:Act}{w:World}(hs:cG B E s a w){n:Nat}{o:Oper}{c:Call}{f:Operand}(ho:o.op=.call c)(hc:c.callee=.value f)
  (hf:ay s.fr f=.mp true n) {r:Out} (aV:gK (fun c s=>bR C k c s) n (c.args.toList.map (ay s.fr)) o.dst s=some r) {K:Act→World→Prop} {Q:Exit→Act→World→Prop}
  (hK:∀ s',r=.norm s'→∀ E' a' w',Ext E E'→Fr E w E' w'→cG B E' s' a' w'→K a' w'):o.wpIn (WF rd) 0 C.P a w K Q:=by
 unfold gK at aV
 split at aV
 case h_2=>simp at aV
 rename_i Zw ps as bd fr EV
 split at aV
 case h_2=>simp at aV
 rename_i HB
 have hlen:=of_decide_eq_true HB
 have bE:=fun y=>gV hs.inv.ju hs.fr y
 have Cv:=bE f
 rw[hf]at Cv
 simp only[ai]at Cv
 obtain⟨_,Hm,l,b,hl,hb,Cv⟩:=Cv
 obtain⟨r0,g1,g2,g3,g4,g5,g6⟩:=n5 hs.inv EV hl hb
 have jb:=ja bE c.args.toList
 have kK:(c.args.map a.eval).size=r0.params.size:=by
  rw[g2,←hlen]
  simp
 refine⟨fun _ _=>trivial,?_⟩
 rw[Oper.semAt_eq _ _ _ (by rw[ho]; intro c h; cases h),yR ho hc Cv g1 kK,Oper.uponIn_round]
 refine⟨fun h=>by simp[WF,Fence.wide]at h,?_⟩
 rw[g3,g4]
 refine roundIn_of_wpIn trivial ?_
 have RT:((r0.params.zip (c.args.map a.eval)).foldl (fun tmps (x:Tmp×Value)=>tmps.setIfInBounds x.1 x.2) r0.tmps)=((ps.toList.zip (c.args.toList.map a.eval)).foldl (fun (t:Array Value) (q:Tmp×Value)=>t.setIfInBounds q.1 q.2) r0.tmps):=by
  rw[←Array.foldl_toList,Array.toList_zip,g2,Array.toList_map]
 split at aV
 case h_2=>simp at aV
 rename_i s1 Vq
 split at aV
 case h_2=>simp at aV
 rename_i Vr
 have D8:cG ⟨w.heap.size,[],true,some b⟩ E ⟨Zw,fF fr ps.toList (c.args.toList.map (ay s.fr)),s.hp⟩ { tmps:=(r0.params.zip (c.args.map a.eval)).foldl (fun tmps (x:Tmp×Value)=>tmps.setIfInBounds x.1 x.2) r0.tmps,defers:=[] } w:=
  ⟨by rw[RT]; exact vJ _ _ _ _ _ g6 jb,hs.inv,Marks.Ve g1,Nat.le_refl _⟩
 refine wpIn_mono (hC as _ _ Vq (some b) _ (.inl ⟨rfl,rfl⟩) E _ w D8) fun e a1 w1 hp=>?_
 obtain⟨E1,Mh,qQ,HC⟩:=hp
 cases e with
 |normal=>
  have nu:cG ⟨w.heap.size,[],true,some b⟩ E1 s1 a1 w1:=HC
  obtain⟨fn1,ps1,as1,bd1,fr1,OD⟩:=iD Vr
  have rb:=Mh.ρ n Hm 0 l hl
  obtain⟨r1,q1,q2,q3,q4,q5,q6⟩:=n5 nu.inv OD rb hb
  obtain⟨QZ,JF⟩:=Cs nu.inv OD rb hb q1 (st':=.busy) (s':=.busy) (p':=r1.pending) ⟨rfl,q5.2⟩
  refine⟨_,run_beginRound q1 q5.1,?_⟩
  have AL:cG ⟨w.heap.size,[],true,some b⟩ E1 { s1 with hp:=oF s1.hp n .busy } a1 (w1.putObj b (.loop { r1 with state:=.busy })):=
   ⟨nu.fr,QZ,nu.df.mono JF,Nat.le_trans nu.bs JF.size⟩
  have finish:∀ (s2:St) (bb:Bool) (st:kW) (j:Option Code) (E2:Env) (w2:World),bb=j.isNone→st.is (if j.isNone then .ready else .done) j→wU n o.dst s bb st s2.hp=some r→Ext E1 E2→Fr E1 (w1.putObj b (.loop { r1 with state:=.busy })) E2 w2→Inv E2 s2.hp w2 →
    ∃ v w',(Instr.endRound b j).run C.P w2=.ok v w'∧K (a.put o.dst v) w':=by
   intro s2 bb st j E2 w2 Ph Vp Cw kA iC qk
   unfold wU at Cw
   split at Cw
   case h_2=>simp at Cw
   rename_i Vs
   simp only[Option.some.injEq]at Cw
   obtain⟨fn2,ps2,Ue,bd2,fr2,OE⟩:=iD Vs
   have ra:=kA.ρ n (Nat.lt_of_lt_of_le Hm Mh.L) 0 l rb
   obtain⟨r2,u1,_,_,_,u5,_⟩:=n5 qk OE ra hb
   obtain⟨c1,c2⟩:=Cs qk OE ra hb u1 Vp
   refine⟨_,_,run_endRound j u1,?_⟩
   have hx:=Mh.trans kA
   have eK:=((qQ.trans JF).trans iC).trans c2
   obtain⟨E3,d1,d2,d3,d4⟩:=pH hs.inv hx c1 eK (r:=.lit (.bool bb)) (v:=.bool bb) (by simp[ai])
   subst Ph
   exact hK _ Cw.symm E3 _ _ d1 d3 ⟨gp (hs.fr.mono d1) d4,d2,by rw[put_defers]; exact hs.df.mono d3,Nat.le_trans hs.bs d3.size⟩
  split at aV
  ·rename_i s2 J1
   refine wpIn_mono (hC bd _ _ J1 (some b) _ (.inl ⟨rfl,rfl⟩) E1 _ _ AL) fun e a2 w2 hp=>?_
   obtain⟨E2,kA,iC,ur⟩:=hp
   cases e with
   |normal=>exact finish s2 true .ready none E2 w2 rfl ⟨rfl,rfl⟩ aV kA iC (cG.inv ur)
   |_=>exact ur.elim
  ·rename_i id s2 J1
   refine wpIn_mono (hC bd _ _ J1 (some b) _ (.inl ⟨rfl,rfl⟩) E1 _ _ AL) fun e a2 w2 hp=>?_
   obtain⟨E2,kA,iC,ur⟩:=hp
   cases e with
   |exit j=>
    obtain⟨rfl,ur⟩:=ur
    exact finish s2 false (.jump (some id)) (some (.exit id)) E2 w2 rfl ⟨rfl,rfl⟩ aV kA iC ur.inv
   |_=>exact ur.elim
  ·rename_i s2 J1
   refine wpIn_mono (hC bd _ _ J1 (some b) _ (.inl ⟨rfl,rfl⟩) E1 _ _ AL) fun e a2 w2 hp=>?_
   obtain⟨E2,kA,iC,ur⟩:=hp
   cases e with
   |ret=>exact finish s2 false (.jump none) (some .ret) E2 w2 rfl ⟨rfl,rfl⟩ aV kA iC (cG.inv ur)
   |_=>exact ur.elim
  ·simp at aV
 |_=>exact HC.elim
theorem EW{run:Code→St→Option Out}{n:Nat}{args:List AV}{dst:Option Tmp}{s:St}{r:Out}(h:gK run n args dst s=some r):∃ s',r=.norm s':=by
 unfold gK at h
 repeat' split at h
 all_goals first
  |simp at h
  |(unfold wU at h
    split at h
    ·grind
    ·simp at h)
theorem Cx[ab]{C:Ctx}(bL:C.Ok){k:Nat}(hF:lE C k)(hP:uu C k)(hC:fw C k):lF C.P (fun o s=>fG C (k+1) o s):=by
 intro o s r h rd B E a w K Q hs hK hQ
 have bE:=fun x=>gV hs.inv.ju hs.fr x
 have Uf:∀ (res:Option dm),res=(aK C.P s.hp.length (ay s.fr) o).run s.hp →
   (match res with|some e=>some (Out.norm { s with fr:=bC s.fr o.dst e.val,hp:=ak s.hp e.wr })|none=>none)=some r→o.wpIn (WF rd) 0 C.P a w K Q:=by
  intro res cy h
  split at h
  case h_2=>simp at h
  rename_i e
  simp only[Option.some.injEq]at h
  refine wF hs (sX hs.inv (.inl rfl) bE cy.symm) fun E' w' v hx hf ig hv=>?_
  exact hK _ h.symm E' _ w' hx hf ⟨gp (hs.fr.mono hx) hv,ig,by rw[put_defers]; exact hs.df.mono hf,Nat.le_trans hs.bs hf.size⟩
 obtain⟨dst,op,type,pos,after,guard⟩:=o
 simp only[fG]at h
 split at h
 ·rename_i c
  split at h
  ·exact Uf _ rfl h
  ·rename_i f yS
   split at h
   ·split at h
    ·rename_i n hn
     exact J0 hC hs rfl yS hn h hK
    ·simp at h
   rename_i g args cy
   have jb:=ja bE c.args.toList
   split at h
   ·-- a result of the caller's own
    split at h
    case h_2=>simp at h
    rename_i e hq
    simp only[Option.some.injEq]at h
    obtain⟨vs',lY,aV⟩:=eY (w:=w) (bE f) jb cy (zP bL hq)
    refine qp rfl yS aV (zQ bL hF hs.inv (.inl rfl) lY hq) (fun v w' hp=>?_) (fun ch w' hp=>?_) (fun w' hp=>?_)
    ·obtain⟨v',jS,E',hx,ig,hf,hr⟩:=hp
     cases jS
     exact hK _ h.symm E' _ w' hx hf ⟨gp (hs.fr.mono hx) hr,ig,by rw[put_defers]; exact hs.df.mono hf,Nat.le_trans hs.bs hf.size⟩
    ·obtain⟨v',jS,_⟩:=hp
     cases jS
    ·obtain⟨v',jS,_⟩:=hp
     cases jS
   split at h
   ·-- by value
    rename_i tk
    cases hq:(kX C k g args).run s.hp with
    |none=>rw[hq]at h; simp at h
    |some q=>
     obtain⟨res,wr⟩:=q
     rw[hq]at h
     obtain⟨vs',lY,aV⟩:=eY (w:=w) (bE f) jb cy (A1 bL hq)
     have gU:=hP g args s.hp res wr hq E w vs' hs.inv lY
     refine qp rfl yS aV gU (fun v w' hp=>?_) (fun ch w' hp=>?_) (fun w' hp=>?_)
     ·obtain⟨E',hx,ig,hf,hr⟩:=hp
      cases res with
      |jP _=>exact hr.elim
      |val x=>
       simp only[Option.some.injEq]at h
       exact hK _ h.symm E' _ w' hx hf ⟨gp (hs.fr.mono hx) hr,ig,by rw[put_defers]; exact hs.df.mono hf,Nat.le_trans hs.bs hf.size⟩
     ·obtain⟨E',hx,ig,hf,hr⟩:=hp
      cases res with
      |val _=>exact hr.elim
      |jP x=>
       simp only[Option.some.injEq]at h
       obtain⟨u,rfl,hu⟩:=hr
       exact hQ _ _ h.symm E' w' u hx hf ig hu
     ·obtain⟨E',hx,ig,hf,hr⟩:=hp
      cases res<;>exact hr.elim
   ·-- with the heap
    rename_i tk
    cases hq:lV C k g args s.hp with
    |none=>rw[hq]at h; simp at h
    |some q=>
     obtain⟨res,cq⟩:=q
     rw[hq]at h
     obtain⟨fn,qQ,iC⟩:=uv hq
     obtain⟨vs',lY,aV⟩:=eY (w:=w) (bE f) jb cy ⟨fn,qQ,iC,bL.name g fn qQ iC⟩
     have gU:=hF g args s.hp res cq hq E w vs' hs.inv lY
     refine qp rfl yS aV gU (fun v w' hp=>?_) (fun ch w' hp=>?_) (fun w' hp=>?_)
     ·obtain⟨E',hx,ig,hf,hr⟩:=hp
      cases res with
      |jP _=>exact hr.elim
      |val x=>
       simp only[Option.some.injEq]at h
       obtain⟨E2,kA,qk,iC,EX⟩:=pH hs.inv hx ig hf hr
       exact hK _ h.symm E2 _ w' kA iC ⟨gp (hs.fr.mono kA) EX,qk,by rw[put_defers]; exact hs.df.mono iC,Nat.le_trans hs.bs iC.size⟩
     ·obtain⟨E',hx,ig,hf,hr⟩:=hp
      cases res with
      |val _=>exact hr.elim
      |jP x=>
       simp only[Option.some.injEq]at h
       obtain⟨u,rfl,hu⟩:=hr
       obtain⟨E2,kA,qk,iC,EX⟩:=pH hs.inv hx ig hf hu
       exact hQ _ _ h.symm E2 w' u kA iC qk EX
     ·obtain⟨E',hx,ig,hf,hr⟩:=hp
      cases res<;>exact hr.elim
  ·rename_i rv name yS
   obtain⟨cal,cS,mf⟩:=c
   simp only at yS
   subst yS
   have jb:=ja bE cS.toList
   split at h
   ·simp at h
   rename_i g x cy
   split at h
   ·cases hq:(kX C k g (x::cS.toList.map (ay s.fr))).run s.hp with
    |none=>rw[hq]at h; simp at h
    |some q=>
     obtain⟨res,wr⟩:=q
     rw[hq]at h
     obtain⟨vs',lY,aV⟩:=AZ (w:=w) (o:=⟨dst,.call ⟨.invoke rv name,cS,mf⟩,type,pos,after,guard⟩) rfl (bE rv) jb cy (A1 bL hq)
     have gU:=hP g _ s.hp res wr hq E w vs' hs.inv lY
     refine xB rfl aV gU (fun v w' hp=>?_) (fun ch w' hp=>?_) (fun w' hp=>?_)
     ·obtain⟨E',hx,ig,hf,hr⟩:=hp
      cases res with
      |jP _=>exact hr.elim
      |val x=>
       simp only[Option.some.injEq]at h
       exact hK _ h.symm E' _ w' hx hf ⟨gp (hs.fr.mono hx) hr,ig,by rw[put_defers]; exact hs.df.mono hf,Nat.le_trans hs.bs hf.size⟩
     ·obtain⟨E',hx,ig,hf,hr⟩:=hp
      cases res with
      |val _=>exact hr.elim
      |jP x=>
       simp only[Option.some.injEq]at h
       obtain⟨u,rfl,hu⟩:=hr
       exact hQ _ _ h.symm E' w' u hx hf ig hu
     ·obtain⟨E',hx,ig,hf,hr⟩:=hp
      cases res<;>exact hr.elim
   ·cases hq:lV C k g (x::cS.toList.map (ay s.fr)) s.hp with
    |none=>rw[hq]at h; simp at h
    |some q=>
     obtain⟨res,cq⟩:=q
     rw[hq]at h
     obtain⟨fn,qQ,iC⟩:=uv hq
     obtain⟨vs',lY,aV⟩:=AZ (w:=w) (o:=⟨dst,.call ⟨.invoke rv name,cS,mf⟩,type,pos,after,guard⟩) rfl (bE rv) jb cy ⟨fn,qQ,iC,bL.name g fn qQ iC⟩
     have gU:=hF g _ s.hp res cq hq E w vs' hs.inv lY
     refine xB rfl aV gU (fun v w' hp=>?_) (fun ch w' hp=>?_) (fun w' hp=>?_)
     ·obtain⟨E',hx,ig,hf,hr⟩:=hp
      cases res with
      |jP _=>exact hr.elim
      |val x=>
       simp only[Option.some.injEq]at h
       obtain⟨E2,kA,qk,iC,EX⟩:=pH hs.inv hx ig hf hr
       exact hK _ h.symm E2 _ w' kA iC ⟨gp (hs.fr.mono kA) EX,qk,by rw[put_defers]; exact hs.df.mono iC,Nat.le_trans hs.bs iC.size⟩
     ·obtain⟨E',hx,ig,hf,hr⟩:=hp
      cases res with
      |val _=>exact hr.elim
      |jP x=>
       simp only[Option.some.injEq]at h
       obtain⟨u,rfl,hu⟩:=hr
       obtain⟨E2,kA,qk,iC,EX⟩:=pH hs.inv hx ig hf hu
       exact hQ _ _ h.symm E2 w' u kA iC qk EX
     ·obtain⟨E',hx,ig,hf,hr⟩:=hp
      cases res<;>exact hr.elim
 ·-- a slice that begins as nil
  have aV:(execOp a.eval { dst,op:=.assign (.const (.slice none 0 0)),type,pos,after,guard }).run C.P w=.ok (.value (.slice none 0 0)) w:=rfl
  have next:∀ (x:AV) (E':Env) (cq:ag),Ext E E'→Inv E' cq w→Fr E w E' w→ai E' true x (.slice none 0 0) →
    r=.norm { s with fr:=bC s.fr dst x,hp:=cq }→Oper.wpIn (WF rd) 0 C.P { dst,op:=.assign (.const (.slice none 0 0)),type,pos,after,guard } a w K Q:=by
   intro x E' cq hx ig hf hr he
   refine⟨fun _ _=>trivial,?_⟩
   rw[Oper.semAt_eq _ _ _ (by intro c h; cases h),aV,Oper.uponIn_value]
   exact hK _ he E' _ w hx hf ⟨gp (hs.fr.mono hx) hr,ig,by rw[put_defers]; exact hs.df.mono hf,Nat.le_trans hs.bs hf.size⟩
  split at h
  ·rename_i d
   split at h
   ·split at h
    case h_2=>simp at h
    rename_i q hq
    split at h
    case isFalse=>simp at h
    simp only[Option.some.injEq]at h
    obtain⟨E',h1,h2,h3,h4⟩:=Gs (esz:=q.size) hs.inv
    exact next _ E' _ h1 h2 h3 h4 h.symm
   ·simp only[Option.some.injEq]at h
    exact next (.lit cK) E s.hp (Ext.refl E) hs.inv (Fr.refl E w) (by simp[ai]) h.symm
  ·simp only[Option.some.injEq]at h
   exact next (.lit cK) E s.hp (Ext.refl E) hs.inv (Fr.refl E w) (by simp[ai]) h.symm
 ·-- any other operation; nil slices in what it gives may be named anew
  split at h
  case h_2=>simp at h
  rename_i e he
  simp only[Option.some.injEq]at h
  refine wF hs (sX hs.inv (.inl rfl) bE he) fun E' w' v hx hf ig hv=>?_
  obtain⟨E2,kA,iC,AL⟩:=JZ (l:=C.qN s.fn) (dst:=dst) (s:={ s with fr:=bC s.fr dst e.val,hp:=ak s.hp e.wr }) (B:=B) (a:=a.put dst v)
   ⟨gp (hs.fr.mono hx) hv,ig,by rw[put_defers]; exact hs.df.mono hf,Nat.le_trans hs.bs hf.size⟩
  exact hK _ h.symm E2 _ w' (hx.trans kA) (hf.trans iC) AL
end Go.PI
end
section
/- PI, more fuel gives no other answer. -/
namespace Go.PI
def RM.Le{α:Type}(hp:ag)(r r':RM α):Prop:=∀ x,r.run hp=some x→r'.run hp=some x∧r'.log hp=r.log hp
theorem RM.Le.rfl{α:Type}{hp:ag}{r:RM α}:RM.Le hp r r:=fun _ h=>⟨h,by trivial⟩
theorem RM.eu{α β:Type}(hp:ag)(x:RM α)(f:α→RM β):(x >>= f).log hp=x.log hp++(match x.run hp with|some a=>(f a).log hp|none=>[]):=by
 show (RM.bind x f).log hp=_
 induction x with
 |ret a=>simp[RM.bind,RM.log,RM.run]
 |fail=>simp[RM.bind,RM.log,RM.run]
 |get n k ih=>
  grind[RM.bind,RM.log,RM.run]
theorem RM.Le.bind[ab]{α β:Type}{hp:ag}{x x':RM α}{f f':α→RM β}(h:RM.Le hp x x')(hf:∀ a,RM.Le hp (f a) (f' a)):RM.Le hp (x >>= f) (x' >>= f'):=by
 intro y hy
 rw[RM.run_bind]at hy
 cases hq:x.run hp with
 |none=>rw[hq]at hy; simp at hy
 |some a=>
  rw[hq]at hy
  simp only[Option.bind_some]at hy
  obtain⟨h1,h2⟩:=h a hq
  obtain⟨h3,h4⟩:=hf a y hy
  refine⟨by rw[RM.run_bind,h1]; exact h3,?_⟩
  rw[RM.eu,RM.eu,h1,hq,h2]
  simp only[h4]
theorem iw{st st':Oper→St→Option Out}(h:∀ o s r,st o s=some r→st' o s=some r)(ops:Array Oper):∀ (l:List Oper) (s:St) (r:Out),cE st ops l s=some r→cE st' ops l s=some r
 |[],s,r,hr=>hr
 |o::l,s,r,hr=>by
  simp only[cE]at hr ⊢
  cases hw:cF ops s.fr o with
  |none=>rw[hw]at hr; simp at hr
  |some b=>
   rw[hw]at hr
   cases b with
   |false=>exact iw h ops l _ r hr
   |true=>
    simp only at hr ⊢
    cases hs:st o s with
    |none=>rw[hs]at hr; simp at hr
    |some out=>
     rw[hs]at hr
     rw[h o s out hs]
     cases out with
     |norm s'=>exact iw h ops l s' r hr
     |_=>exact hr
theorem xa[ab]{st st':Nat→Oper→List AV→RM dm}(h:∀ nm o fr hp,RM.Le hp (st nm o fr) (st' nm o fr))(ops:Array Oper)(x:Item)(s:St)(r:St×ft)(hr:fc st ops x s=some r):fc st' ops x s=some r:=by
 simp only[fc]at hr ⊢
 cases hw:cF ops s.fr x.o with
 |none=>rw[hw]at hr; simp at hr
 |some b=>
  rw[hw]at hr
  cases b with
  |false=>exact hr
  |true=>
   simp only at hr ⊢
   cases hq:(st (x.at s.hp.length) x.o s.fr).run s.hp with
   |none=>rw[hq]at hr; simp at hr
   |some e=>
    obtain⟨h1,h2⟩:=h (x.at s.hp.length) x.o s.fr s.hp e hq
    rw[hq]at hr
    rw[h1,h2]
    exact hr
theorem nT[ab]{st st':Nat→Oper→List AV→RM dm}(h:∀ nm o fr hp,RM.Le hp (st nm o fr) (st' nm o fr))(ops:Array Oper):∀ (l:List Item) (s:St) (r:St×List ft),cr st ops l s=some r→cr st' ops l s=some r
 |[],s,r,hr=>hr
 |x::l,s,r,hr=>by
  simp only[cr]at hr ⊢
  cases hs:fc st ops x s with
  |none=>rw[hs]at hr; simp at hr
  |some q=>
   obtain⟨s1,f⟩:=q
   rw[hs]at hr
   rw[xa h ops x s _ hs]
   simp only at hr ⊢
   cases hd:cr st ops l s1 with
   |none=>rw[hd]at hr; simp at hr
   |some q=>
    rw[hd]at hr
    rw[nT h ops l s1 q hd]
    exact hr
theorem Eu[ab]{C:Ctx}{k k':Nat}{o:Oper}{s:St}(h:∀ c,o.op≠.call c):fG C (k+1) o s=fG C (k'+1) o s:=by
 rw[fG,fG]
 split
 ·rename_i c hc; exact absurd hc (h c)
 ·rfl
 ·rfl
theorem vp[ab]{C:Ctx}{F F':List AV→Option (nL×ag)}(h:∀ as r,F as=some r→F' as=some r){nm:Nat}{g:FuncId}{args:List AV}{hp:ag}:
  RM.Le hp (ia C F nm g args) (ia C F' nm g args):=by
 unfold ia
 refine RM.Le.bind .rfl fun as=>?_
 cases hi:C.iV g with
 |some q=>exact .rfl
 |none=>
  simp only
  intro x hx
  cases hq:F as with
  |none=>rw[hq]at hx; simp[RM.ae]at hx
  |some q=>
   rw[hq]at hx
   rw[h as q hq]
   exact⟨hx,rfl⟩
theorem vq{run run':Code→St→Option Out}(h:∀ c s r,run c s=some r→run' c s=some r){n:Nat}{args:List AV}{dst:Option Tmp}{s:St}{r:Out}
  (hy:gK run n args dst s=some r):gK run' n args dst s=some r:=by
 unfold gK at hy ⊢
 split at hy
 case h_2=>simp at hy
 rename_i fn ps as bd fr ho
 split at hy
 case h_2=>simp at hy
 rename_i hc
 try rw[hc]
 try simp only
 split at hy
 case h_2=>simp at hy
 rename_i s1 h1
 rw[h _ _ _ h1]
 simp only
 split at hy
 case h_2=>simp at hy
 rename_i h2
 try rw[h2]
 try simp only
 split at hy
 ·rename_i s2 h3; rw[h _ _ _ h3]; exact hy
 ·rename_i id s2 h3; rw[h _ _ _ h3]; exact hy
 ·rename_i s2 h3; rw[h _ _ _ h3]; exact hy
 ·simp at hy
theorem Jg[ab]{ec MJ:Code→St→Option Out}{eo Rv:Oper→St→Option Out}(hc:∀ c s r,ec c s=some r→MJ c s=some r)(ho:∀ o s r,eo o s=some r→Rv o s=some r):∀ c s r,ze ec eo c s=some r→ze MJ Rv c s=some r:=by
 have leaf:∀ c s r,((ec c s).map fun o=>(o,(none:Option AV)))=some r→((MJ c s).map fun o=>(o,(none:Option AV)))=some r:=by
  intro c s r h
  cases hq:ec c s with
  |none=>rw[hq]at h; simp at h
  |some o=>rw[hc _ _ _ hq]; rw[hq]at h; exact h
 intro c
 induction c with
 |seq x y _ Jh=>
  intro s r h
  simp only[ze]at h ⊢
  cases hd:sM x with
  |some q=>
   obtain⟨ops,v⟩:=q
   rw[hd]at h
   simp only at h ⊢
   cases hr:cE eo ops ops.toList.dropLast s with
   |none=>rw[hr]at h; simp at h
   |some o=>
    rw[hr]at h
    rw[iw ho ops _ _ _ hr]
    cases o with
    |norm s1=>
     simp only at h ⊢
     split at h
     ·rename_i q cy
      cases hq:ec y s1 with
      |none=>rw[hq]at h; simp at h
      |some o=>rw[hc _ _ _ hq]; rw[hq]at h; exact h
     ·simp at h
    |_=>simp at h
  |none=>
   rw[hd]at h
   simp only at h ⊢
   cases hq:ec x s with
   |none=>rw[hq]at h; simp at h
   |some o=>
    rw[hq]at h; rw[hc _ _ _ hq]
    cases o with
    |norm s'=>exact Jh _ _ h
    |_=>exact h
 |_=>intro s r h; simp only[ze]at h ⊢; exact leaf _ _ _ h
theorem zt[ab]{ec MJ:Code→St→Option Out}(hc:∀ c s r,ec c s=some r→MJ c s=some r){P:Program}{rs:List ResultVar}{fr:List AV}{hp:ag}{d:Option AV}{r:nL×ag}(h:tY ec P rs fr hp d=some r):tY MJ P rs fr hp d=some r:=by
 cases d with
 |none=>exact h
 |some v=>
  simp only[tY]at h ⊢
  split at h
  ·simp at h
  rename_i g as cy
  split at h
  ·simp at h
  rename_i fg ML
  split at h
  ·simp at h
  rename_i cg MM
  cases hn:cx cg with
  |false=>rw[hn]at h; simp at h
  |true=>
   rw[hn]at h
   cases hq:ec (nP cg) ⟨g,as++List.replicate (fg.ntmps-as.length) .undef,hp⟩ with
   |none=>rw[hq]at h; simp at h
   |some o=>rw[hq]at h; simp only[cy,ML,MM,hn,hc _ _ _ hq]; exact h
theorem Hg[ab]{ec MJ:Code→St→Option Out}{eo Rv:Oper→St→Option Out}(hc:∀ c s r,ec c s=some r→MJ c s=some r)(ho:∀ o s r,eo o s=some r→Rv o s=some r){P:Program}{rs:List ResultVar}{c:Code}{s:St}{r:nL×ag}(h:tZ ec eo P rs c s=some r):tZ MJ Rv P rs c s=some r:=by
 unfold tZ at h ⊢
 cases hn:cx c with
 |false=>rw[hn]at h; simp at h
 |true=>
  rw[hn]at h
  cases hq:ze ec eo c s with
  |none=>rw[hq]at h; simp at h
  |some o=>
   rw[hq]at h
   rw[Jg hc ho _ _ _ hq]
   obtain⟨o,d⟩:=o
   cases o with
   |norm s'=>exact zt hc h
   |ret s'=>exact zt hc h
   |exit i s'=>exact h
   |jP v s'=>cases d<;>exact h
structure Po[ab](C:Ctx)(k k2:Nat):Prop where
 f:∀ g args hp r,lV C k g args hp=some r→lV C k2 g args hp=some r
 c:∀ c s r,bR C k c s=some r→bR C k2 c s=some r
 o:∀ o s r,fG C k o s=some r→fG C k2 o s=some r
 p:∀ g args hp,RM.Le hp (kX C k g args) (kX C k2 g args)
 e:∀ nm o fr hp,RM.Le hp (iq C k nm o fr) (iq C k2 nm o fr)
theorem Hh[ab]{C:Ctx}{k k2:Nat}(ih:Po C k k2):Po C (k+1) (k2+1) where
 f:=by
  intro g args hp r h
  rw[lV]at h ⊢
  cases qP:C.P.funcs[g]? with
  |none=>rw[qP]at h; simp at h
  |some fn=>
   rw[qP]at h
   simp only at h ⊢
   cases hb:fn.body with
   |none=>rw[hb]at h; simp at h
   |some c=>
    rw[hb]at h
    simp only at h ⊢
    cases hD:BO c with
    |true=>rw[hD]at h; exact Hg ih.c ih.o h
    |false=>
    rw[hD]at h
    simp only at h ⊢
    cases hc:bR C k c ⟨g,args++List.replicate (fn.ntmps-args.length) .undef,hp⟩ with
    |none=>rw[hc]at h; simp at h
    |some out=>rw[hc]at h; rw[ih.c _ _ _ hc]; exact h
 c:=by
  intro c s r h
  cases c with
  |seq a b=>
   simp only[bR]at h ⊢
   cases ha:bR C k a s with
   |none=>rw[ha]at h; simp at h
   |some out=>
    rw[ha]at h; rw[ih.c _ _ _ ha]
    cases out with
    |norm s'=>exact ih.c _ _ _ h
    |_=>exact h
  |cond o a b=>
   simp only[bR]at h ⊢
   split at h
   ·split at h
    ·exact ih.c _ _ _ h
    ·exact ih.c _ _ _ h
   ·simp at h
  |block id b=>
   simp only[bR]at h ⊢
   cases ha:bR C k b s with
   |none=>rw[ha]at h; simp at h
   |some out=>rw[ha]at h; rw[ih.c _ _ _ ha]; exact h
  |loop b=>
   simp only[bR]at h ⊢
   cases ha:bR C k b s with
   |none=>rw[ha]at h; simp at h
   |some out=>
    rw[ha]at h; rw[ih.c _ _ _ ha]
    cases out with
    |norm s'=>exact ih.c _ _ _ h
    |_=>exact h
  |region id ops draw=>
   simp only[bR]at h ⊢
   cases draw with
   |false=>exact iw ih.o ops _ _ r h
   |true=>
    simp only at h ⊢
    split at h
    case isFalse=>simp at h
    rename_i bL
    rw[if_pos bL]
    split at h
    ·rename_i s' fs hd
     rw[nT ih.e ops _ _ _ hd]
     simp only at h ⊢
     split at h
     case isFalse=>simp at h
     rename_i hc
     rw[if_pos hc]
     exact iw ih.o ops _ _ r h
    ·simp at h
  |scope b=>
   simp only[bR]at h ⊢
   split at h
   ·rename_i c hc
    exact ih.c _ _ _ h
   ·simp at h
  |rangeFunc f ps as bd=>
   simp only[bR]at h ⊢
   split at h
   case h_2=>simp at h
   rename_i g args cy
   cases hq:lV C k g args (s.hp++[some (.gh (.loop s.fn ps as bd .ready) (tX as bd s.fr))]) with
   |none=>rw[hq]at h; simp at h
   |some q=>rw[hq]at h; rw[ih.f _ _ _ _ hq]; exact h
  |_=>simpa only[bR] using h
 o:=by
  intro o s r h
  obtain⟨dst,op,type,pos,after,guard⟩:=o
  cases op with
  |call c=>
   obtain⟨callee,args,argTypes⟩:=c
   cases callee with
   |value f=>
    simp only[fG]at h ⊢
    cases cy:bA (ay s.fr f) (args.toList.map (ay s.fr)) with
    |none=>
     rw[cy]at h
     simp only at h ⊢
     split at h
     ·rename_i n hn
      exact vq (fun c s r h=>ih.c c s r h) h
     ·simp at h
    |some q=>
     obtain⟨g,as⟩:=q
     rw[cy]at h
     simp only at h ⊢
     cases pk:au (Op.call ⟨.value f,args,argTypes⟩) with
     |true=>
      rw[pk]at h
      simp only at h ⊢
      cases hq:(ia C (fun as=>lV C k g as []) s.hp.length g as).run s.hp with
      |none=>rw[hq]at h; simp at h
      |some q=>rw[hq]at h; rw[(vp (fun as r h=>ih.f g as [] r h) _ hq).1]; exact h
     |false=>
     rw[pk]at h
     simp only at h ⊢
     cases hk:C.kind g with
     |pure=>
      rw[hk]at h
      simp only at h ⊢
      cases hq:(kX C k g as).run s.hp with
      |none=>rw[hq]at h; simp at h
      |some q=>rw[hq]at h; rw[(ih.p g as s.hp q hq).1]; exact h
     |imp=>
      rw[hk]at h
      simp only at h ⊢
      cases hq:lV C k g as s.hp with
      |none=>rw[hq]at h; simp at h
      |some q=>rw[hq]at h; rw[ih.f _ _ _ _ hq]; exact h
   |invoke rv name=>
    simp only[fG]at h ⊢
    cases cy:pb C.P (ay s.fr rv) name with
    |none=>rw[cy]at h; simp at h
    |some q=>
     obtain⟨g,x⟩:=q
     rw[cy]at h
     simp only at h ⊢
     cases hk:C.kind g with
     |pure=>
      rw[hk]at h
      simp only at h ⊢
      cases hq:(kX C k g (x::args.toList.map (ay s.fr))).run s.hp with
      |none=>rw[hq]at h; simp at h
      |some q=>rw[hq]at h; rw[(ih.p g _ s.hp q hq).1]; exact h
     |imp=>
      rw[hk]at h
      simp only at h ⊢
      cases hq:lV C k g (x::args.toList.map (ay s.fr)) s.hp with
      |none=>rw[hq]at h; simp at h
      |some q=>rw[hq]at h; rw[ih.f _ _ _ _ hq]; exact h
   |_=>simpa only[fG] using h
  |_=>rw[Eu (k':=k) (by intro c hc; cases hc)]; exact h
 p:=by
  intro g args hp
  rw[kX,kX]
  refine RM.Le.bind .rfl fun as=>?_
  cases hi:C.kp g with
  |some h=>exact .rfl
  |none=>
   simp only
   intro x hx
   cases hq:lV C k g as [] with
   |none=>rw[hq]at hx; simp[RM.ae]at hx
   |some q=>
    rw[hq]at hx
    rw[ih.f _ _ _ _ hq]
    exact⟨hx,rfl⟩
 e:=by
  intro nm o fr hp
  rw[iq,iq]
  obtain⟨dst,op,type,pos,after,guard⟩:=o
  cases op with
  |call c=>
   obtain⟨callee,args,argTypes⟩:=c
   cases callee with
   |value f=>
    simp only
    split
    ·exact .rfl
    ·rename_i g as cy
     cases pk:au (Op.call ⟨.value _,args,argTypes⟩) with
     |true=>exact vp fun as r h=>ih.f g as [] r h
     |false=>
     cases hk:C.kind g with
     |pure=>exact RM.Le.bind (ih.p g as hp) fun _=>.rfl
     |imp=>exact .rfl
   |invoke rv name=>
    simp only
    split
    ·exact .rfl
    ·rename_i g x cy
     cases hk:C.kind g with
     |pure=>exact RM.Le.bind (ih.p g _ hp) fun _=>.rfl
     |imp=>exact .rfl
   |_=>exact .rfl
  |_=>exact .rfl
theorem mono[ab](C:Ctx):∀ k,Po C k (k+1)
 |0=>{ f:=by intro g args hp r h; simp[lV]at h
       c:=by intro c s r h; simp[bR]at h
       o:=by intro o s r h; simp[fG]at h
       p:=by intro g args hp x h; simp[kX,RM.ae]at h
       e:=by intro nm o fr hp x h; simp[iq,RM.ae]at h }
 |k+1=>Hh (mono C k)
noncomputable def lu{α:Type}(g:Nat→Option α):Option α:=
 open Classical in if h : ∃ k, (g k).isSome then g (Classical.choose h) else none
def fH{α:Type}(g:Nat→Option α):Prop:=∀ k x,g k=some x→g (k+1)=some x
theorem fH.le{α:Type}{g:Nat→Option α}(h:fH g){k:Nat}{x:α}(hx:g k=some x):∀ d,g (k+d)=some x
 |0=>hx
 |d+1=>h _ _ (h.le hx d)
theorem bh[ab]{α:Type}{g:Nat→Option α}(hg:fH g){x:α}:lu g=some x↔∃ k,g k=some x:=by
 unfold lu
 constructor
 ·intro h
  split at h
  ·rename_i hq; exact⟨_,h⟩
  ·simp at h
 ·rintro⟨k,hk⟩
  have hq:∃ k,(g k).isSome:=⟨k,by simp[hk]⟩
  rw[dif_pos hq]
  obtain⟨y,hy⟩:=Option.isSome_iff_exists.1 (Classical.choose_spec hq)
  have h1:=hg.le hk (Classical.choose hq)
  have h2:=hg.le hy k
  rw[Nat.add_comm]at h2
  rw[h1]at h2
  rw[hy,h2]
theorem kN[ab]{α:Type}{g:Nat→Option α}(hg:fH g){y:Option α}(h1:∀ k x,g k=some x→y=some x)(h2:∀ x,y=some x→∃ k,g k=some x):lu g=y:=by
 cases hl:lu g with
 |some x=>
  obtain⟨k,hk⟩:=(bh hg).1 hl
  exact(h1 k x hk).symm
 |none=>
  cases y with
  |none=>rfl
  |some x=>
   have:=(bh hg).2 (h2 x rfl)
   rw[hl]at this; simp at this
noncomputable def kv[ab](C:Ctx)(f:FuncId)(args:List AV)(hp:ag):Option (nL×ag):=lu fun k=>lV C k f args hp
noncomputable def cR[ab](C:Ctx)(c:Code)(s:St):Option Out:=lu fun k=>bR C k c s
noncomputable def ie[ab](C:Ctx)(o:Oper)(s:St):Option Out:=lu fun k=>fG C k o s
noncomputable def Ji[ab](C:Ctx)(g:FuncId)(args:List AV)(hp:ag):Option (nL×List (Nat×aM)):=lu fun k=>(kX C k g args).run hp
theorem mi[ab](C:Ctx)(f:FuncId)(args:List AV)(hp:ag):fH fun k=>lV C k f args hp:=fun k x h=>(mono C k).f _ _ _ _ h
theorem dH[ab](C:Ctx)(c:Code)(s:St):fH fun k=>bR C k c s:=fun k x h=>(mono C k).c _ _ _ h
theorem jx[ab](C:Ctx)(o:Oper)(s:St):fH fun k=>fG C k o s:=fun k x h=>(mono C k).o _ _ _ h
theorem B5[ab](C:Ctx)(g:FuncId)(args:List AV)(hp:ag):fH fun k=>(kX C k g args).run hp:=fun k x h=>((mono C k).p g args hp x h).1
end Go.PI
end
section
/- PI, part Za: a scope in which the run jumps back to one label. -/
namespace Go.PI
theorem nx[ab]{C:Ctx}{k:Nat}{o:Oper}{s:St}{r:Out}(h:fG C k o s=some r):(∃ s',r=.norm s')∨∃ v s',r=.jP v s':=by
 cases k with
 |zero=>simp[fG]at h
 |succ k=>
  simp only[fG]at h
  repeat' split at h
  all_goals first
   |(simp only[Option.some.injEq]at h; subst h; first|exact .inl ⟨_,rfl⟩|exact .inr ⟨_,_,rfl⟩)
   |exact .inl (EW h)
   |simp at h
theorem kS{step:Oper→St→Option Out}(hs:∀ o s r,step o s=some r→(∃ s',r=.norm s')∨∃ v s',r=.jP v s'){ops:Array Oper}:∀ {l:List Oper} {s:St} {r:Out},
  cE step ops l s=some r→(∃ s',r=.norm s')∨∃ v s',r=.jP v s'
 |[],s,r,h=>by simp only[cE,Option.some.injEq]at h; exact .inl ⟨s,h.symm⟩
 |o::l,s,r,h=>by
  simp only[cE]at h
  split at h
  ·simp at h
  ·exact kS hs h
  ·split at h
   ·exact kS hs h
   ·rename_i dN
    exact hs o s r h
theorem uz:∀ {c:Code},dc c=true→cx c=true:=by
 intro c
 induction c with
 |seq a b Gv D9=>simp_all[dc,cx]
 |cond c a b Gv D9=>simp_all[dc,cx]
 |block id b ih=>simp_all[dc,cx]
 |loop b ih=>simp_all[dc,cx]
 |scope b ih=>intro h; simp[dc]at h
 |rangeFunc f ps a b=>intro h; simp[dc]at h
 |_=>intro _; rfl
theorem E9[ab]{C:Ctx}:∀ (k:Nat) {c:Code} {s s':St} {i:Nat},dc c=true→bR C k c s=some (.exit i s')→i<1073741824:=by
 intro k
 induction k with
 |zero=>intro c s s' i _ h; simp[bR]at h
 |succ k ih=>
  intro c s s' i hp h
  cases c with
  |seq a b=>
   grind[dc,bR]
  |cond o a b=>
   grind[dc,bR]
  |block id b=>
   grind[dc,bR,Out.exit.injEq]
  |loop b=>
   grind[dc,bR]
  |exit id=>
   simp_all[bR,Out.exit.injEq,dc]
  |region id ops draw=>
   simp only[bR]at h
   cases draw with
   |false=>
    rcases kS (fun o s r h=>nx h) h with ⟨_,e⟩|⟨_,_,e⟩<;>cases e
   |true=>
    simp only at h
    split at h
    case isFalse=>simp at h
    split at h
    case h_2=>simp at h
    split at h
    case isFalse=>simp at h
    rcases kS (fun o s r h=>nx h) h with ⟨_,e⟩|⟨_,_,e⟩<;>cases e
  |skip=>simp[bR]at h
  |ret=>simp[bR]at h
  |_=>simp[dc]at hp
def ZM[ab](l:Nat)(B:oJ)(E:Env):Out→Exit→Act→World→Prop
 |.exit i s,.goto m,a,w=>i=1073741825∧m=l∧cG B E s a w
 |.exit i s,.exit j,a,w=>i=j∧i<1073741824∧cG B E s a w
 |o,e,a,w=>JX B E o e a w
def HH[ab](l:Nat)(B:oJ)(E:Env)(w:World)(o:Out)(e:Exit)(a':Act)(w':World):Prop:=
 ∃ E',Ext E E'∧Fr E w E' w'∧ZM l B E' o e a' w'
theorem HH.from[ab]{l:Nat}{B:oJ}{E E1:Env}{w w1:World}{o:Out}{e:Exit}{a:Act}{w':World}(hx:Ext E E1)(hf:Fr E w E1 w1)(h:HH l B E1 w1 o e a w'):HH l B E w o e a w':=by
 obtain⟨E',h1,h2,h3⟩:=h
 exact⟨E',hx.trans h1,hf.trans h2,h3⟩
theorem Kb[ab]{C:Ctx}{k:Nat}(hC:∀ j,j≤k→fw C j){l:Nat}{c:Code}(hp:dc c=true){j:Nat}(hj:j≤k){s:St}{o:Out}(h:bR C j c s=some o)
  (rd:Option Nat) {B:oJ} {E:Env} {a:Act} {w:World} (hs:cG B E s a w):c.wpIn (WF rd) 0 C.P (HH l B E w o) a w:=by
 refine wpIn_mono (hC j hj c s o h rd B (.inr (uz hp)) E a w hs) fun e a' w' hq=>?_
 obtain⟨E',h1,h2,h3⟩:=hq
 refine⟨E',h1,h2,?_⟩
 cases o with
 |exit i s'=>
  have hi:=E9 j hp h
  cases e with
  |exit m=>exact⟨h3.1,hi,h3.2⟩
  |_=>exact h3.elim
 |_=>exact h3
theorem PO[ab]{C:Ctx}{k:Nat}(hC:∀ j,j≤k→fw C j){l:Nat}:∀ (c:Code) {c':Code},qO l c=some c'→∀ (j:Nat),j≤k→∀ (s:St) (o:Out),bR C j c' s=some o →
  ∀ (rd:Option Nat) (B:oJ) (E:Env) (a:Act) (w:World),cG B E s a w→c.wpIn (WF rd) 0 C.P (HH l B E w o) a w:=by
 intro c
 induction c with
 |seq x y VA Jh=>
  intro c' hc j hj s o h rd B E a w hs
  simp only[qO]at hc
  cases hx:qO l x with
  |none=>rw[hx]at hc; simp at hc
  |some x'=>
   cases hy:qO l y with
   |none=>rw[hx,hy]at hc; simp at hc
   |some y'=>
    rw[hx,hy]at hc
    simp only[Option.bind_some,Option.map_some,Option.some.injEq]at hc
    subst hc
    cases j with
    |zero=>simp[bR]at h
    |succ j=>
     have px:=VA hx
     have py:=Jh hy
     simp only[bR]at h
     refine wpIn_seq ?_
     split at h
     ·rename_i s' gi
      refine wpIn_mono (px j (by omega) s _ gi rd B E a w hs) fun e a' w' hp=>?_
      obtain⟨E',h1,h2,h3⟩:=hp
      cases e with
      |normal=>exact wpIn_mono (py j (by omega) s' o h rd B E' a' w' h3) fun e Ui wV hp=>HH.from h1 h2 hp
      |_=>exact h3.elim
     ·rename_i dN
      refine wpIn_mono (px j (by omega) s o h rd B E a w hs) fun e a' w' hp=>?_
      obtain⟨E',h1,h2,h3⟩:=hp
      cases e with
      |normal=>
       cases o with
       |norm s'=>exact absurd h (dN s')
       |_=>exact h3.elim
      |_=>exact⟨E',h1,h2,h3⟩
 |cond op x y VA Jh=>
  intro c' hc j hj s o h rd B E a w hs
  simp only[qO]at hc
  cases hx:qO l x with
  |none=>rw[hx]at hc; simp at hc
  |some x'=>
   cases hy:qO l y with
   |none=>rw[hx,hy]at hc; simp at hc
   |some y'=>
    rw[hx,hy]at hc
    simp only[Option.bind_some,Option.map_some,Option.some.injEq]at hc
    subst hc
    cases j with
    |zero=>simp[bR]at h
    |succ j=>
     have px:=VA hx
     have py:=Jh hy
     simp only[bR]at h
     split at h
     case h_2=>simp at h
     rename_i t ht
     have hv:=gV hs.inv.ju hs.fr op
     rw[ht]at hv
     simp only[ai]at hv
     cases t with
     |true=>exact wpIn_cond_true hv (px j (by omega) s o h rd B E a w hs)
     |false=>exact wpIn_cond_false hv (py j (by omega) s o h rd B E a w hs)
 |goto m=>
  intro c' hc j hj s o h rd B E a w hs
  simp only[qO]at hc
  split at hc
  case isFalse=>simp at hc
  rename_i hm
  simp only[Option.some.injEq]at hc
  subst hc
  cases j with
  |zero=>simp[bR]at h
  |succ j=>
   simp only[bR,Option.some.injEq]at h
   subst h
   exact wpIn_goto ⟨E,Ext.refl E,Fr.refl E w,rfl,hm,hs⟩
 |_=>
  intro c' hc
  simp only[qO]at hc
  split at hc
  case isFalse=>simp at hc
  rename_i hp
  simp only[Option.some.injEq]at hc
  subst hc
  intro j hj s o h rd B E a w hs
  exact Kb hC hp hj h rd hs
section
variable {F:Fence}{n:Nat}{P:Program}{Q:Exit→Act→World→Prop}{a:Act}{w:World}
theorem CG{b:Frame}{k:List Go.Item}{cs:List Frame}{c:Code}:step P (lone (b.atR a (.code (.scope c)::k)) cs w)=.next (lone (b.atR a (.code c::.inScope c::k)) cs w):=
 step_lone_go (by simp[stepG,stepG.exec,Frame.atR])
theorem rj{b:Frame}{k:List Go.Item}{cs:List Frame}{c:Code}:step P (lone (b.atR a (.inScope c::k)) cs w)=.next (lone (b.atR a k) cs w):=
 step_lone_go (by simp[stepG,stepG.exec,Frame.atR])
def mJ(F:Fence)(n:Nat)(P:Program)(c r:Code)(Q:Exit→Act→World→Prop)(a:Act)(w:World):Prop:=
 ∀ (b:Frame) (k:List Go.Item) (cs:List Frame),b.roundOf=F.round→F.fn b.fn→F.room (cs.length+1+n) →
   ∃ e a' w',Q e a' w'∧ArrivesIn (Machine.fenced P F) P (lone (b.atR a (.code r::.inScope c::k)) cs w) b k cs e a' w'
def Sa(l:Nat)(N:Act→World→Prop)(Q:Exit→Act→World→Prop):Exit→Act→World→Prop
 |.goto m,a,w=>m=l∧N a w
 |e,a,w=>Q e a w
theorem zT{c r rest:Code}{l:Nat}{N:Act→World→Prop}(hf:findLabel c l=some rest)(hN:∀ a w,N a w→mJ F n P c rest Q a w)
  (h:r.wpIn F n P (Sa l N Q) a w):mJ F n P c r Q a w:=by
 intro b k cs dC hb hr
 have hg:gotoIn l (.inScope c::k)=some (.code rest::.inScope c::k):=by simp[gotoIn,hf]
 obtain⟨e,a₁,w₁,hq,cJ⟩:=h b (.inScope c::k) cs dC hb hr
 cases e with
 |normal=>exact⟨.normal,a₁,w₁,hq,StepsIn.trans cJ (.one (fenced_calm hb hr rfl) rj)⟩
 |exit id=>
  have hx:exitTo id (.inScope c::k)=exitTo id k:=by simp[exitTo]
  exact⟨.exit id,a₁,w₁,hq,fun k' hk=>cJ.1 k' (by rw[hx]; exact hk),fun kq hk=>cJ.2 kq (by rw[hx]; exact hk)⟩
 |goto m=>
  obtain⟨rfl,ZN⟩:=hq
  obtain⟨e₂,a₂,w₂,wW,jR⟩:=hN _ _ ZN b k cs dC hb hr
  exact⟨e₂,a₂,w₂,wW,.of_steps (cJ.1 _ hg) jR⟩
 |ret=>exact⟨_,a₁,w₁,hq,cJ⟩
 |panic ch=>exact⟨_,a₁,w₁,hq,cJ⟩
 |outgrown=>exact⟨_,a₁,w₁,hq,cJ⟩
theorem wq{c r:Code}(h:r.wpIn F n P Q a w)(hQ:∀ m a w,¬Q (.goto m) a w):mJ F n P c r Q a w:=by
 intro b k cs dC hb hr
 obtain⟨e,a₁,w₁,hq,cJ⟩:=h b (.inScope c::k) cs dC hb hr
 cases e with
 |normal=>exact⟨.normal,a₁,w₁,hq,StepsIn.trans cJ (.one (fenced_calm hb hr rfl) rj)⟩
 |exit id=>
  have hx:exitTo id (.inScope c::k)=exitTo id k:=by simp[exitTo]
  exact⟨.exit id,a₁,w₁,hq,fun k' hk=>cJ.1 k' (by rw[hx]; exact hk),fun kq hk=>cJ.2 kq (by rw[hx]; exact hk)⟩
 |goto m=>exact absurd hq (hQ _ _ _)
 |ret=>exact⟨_,a₁,w₁,hq,cJ⟩
 |panic ch=>exact⟨_,a₁,w₁,hq,cJ⟩
 |outgrown=>exact⟨_,a₁,w₁,hq,cJ⟩
theorem CH{c:Code}(h:mJ F n P c c Q a w):(Code.scope c).wpIn F n P Q a w:=by
 intro b k cs dC hb hr
 obtain⟨e,a₁,w₁,hq,cJ⟩:=h b k cs dC hb hr
 exact⟨e,a₁,w₁,hq,.of_steps (.one (fenced_calm hb hr rfl) CG) cJ⟩
end
theorem CI:∀ {c:Code} {l:Nat},dc c=true→findLabel c l=none:=by
 intro c
 induction c with
 |seq a b Gv D9=>
  simp_all[dc,findLabel]
 |label m=>intro l h; simp[dc]at h
 |_=>intro l _; rfl
theorem Kc{a b:Code}{l:Nat}(h:findLabel a l=none):findLabel (.seq a b) l=findLabel b l:=by
 simp only[findLabel,h]
theorem Kd:∀ {c:Code} {l:Nat} {x r:Code},sN c=some (l,x,r)→findLabel c l=some (.seq .skip r):=by
 intro c
 induction c with
 |seq a b Gv D9=>
  intro l x r h
  cases a with
  |label m=>
   simp_all[sN,findLabel]
  |_=>
   simp only[sN]at h
   split at h
   case isFalse=>simp at h
   rename_i hp
   cases hb:sN b with
   |none=>rw[hb]at h; simp at h
   |some q=>
    obtain⟨l',x',r'⟩:=q
    rw[hb]at h
    simp only[Option.map_some,Option.some.injEq,Prod.mk.injEq]at h
    obtain⟨rfl,rfl,rfl⟩:=h
    exact(Kc (CI (l:=l') hp)).trans (D9 hb)
 |_=>intro l x r h; simp[sN]at h
theorem PQ[ab]{C:Ctx}{k:Nat}(hC:∀ j,j≤k→fw C j){Q:Exit→Act→World→Prop}{rd:Option Nat}{B:oJ}{l:Nat}{r:Code}:∀ (c:Code) {x:Code},sN c=some (l,x,r)→∀ (j:Nat),j≤k→∀ (s:St) (q:Out),bR C j x s=some q →
  ∀ (E:Env) (a:Act) (w:World),cG B E s a w→(∀ s1 E1 a1 w1,q=.norm s1→Ext E E1→Fr E w E1 w1→cG B E1 s1 a1 w1→r.wpIn (WF rd) 0 C.P Q a1 w1) →
  (∀ e a' w',(∀ s1,q≠.norm s1)→bo B E w q e a' w'→Q e a' w')→c.wpIn (WF rd) 0 C.P Q a w:=by
 intro c
 induction c with
 |seq a b Gv D9=>
  intro x h j hj s q bE E ac w hs hn ho
  have step:∀ (hp:dc a=true) (x':Code),sN b=some (l,x',r)→x=.seq a x'→(Code.seq a b).wpIn (WF rd) 0 C.P Q ac w:=by
   intro hp x' hb hx
   subst hx
   cases j with
   |zero=>simp[bR]at bE
   |succ j=>
    simp only[bR]at bE
    refine wpIn_seq ?_
    split at bE
    ·rename_i s1 h1
     refine wpIn_mono (hC j (by omega) _ _ _ h1 rd B (.inr (uz hp)) E ac w hs) fun e a' w' hq=>?_
     obtain⟨E',g1,g2,g3⟩:=hq
     cases e with
     |normal=>exact D9 hb j (by omega) s1 q bE E' a' w' g3 (fun s2 E2 a2 w2 e1 e2 e3 e4=>hn s2 E2 a2 w2 e1 (g1.trans e2) (g2.trans e3) e4) (fun e a2 w2 e1 e2=>ho e a2 w2 e1 (bo.from g1 g2 e2))
     |_=>exact g3.elim
    ·rename_i dN
     refine wpIn_mono (hC j (by omega) _ _ _ bE rd B (.inr (uz hp)) E ac w hs) fun e a' w' hq=>?_
     cases e with
     |normal=>
      obtain⟨E',g1,g2,g3⟩:=hq
      cases q with
      |norm s1=>exact absurd bE (dN s1)
      |_=>exact g3.elim
     |_=>exact ho _ _ _ (fun s1 e=>dN s1 (e▸bE)) hq
  cases a with
  |label m=>
   simp only[sN,Option.some.injEq,Prod.mk.injEq]at h
   obtain⟨rfl,rfl,rfl⟩:=h
   cases j with
   |zero=>simp[bR]at bE
   |succ j=>
    simp only[bR,Option.some.injEq]at bE
    subst bE
    exact wpIn_seq (wpIn_label (hn s E ac w rfl (Ext.refl E) (Fr.refl E w) hs))
  |_=>
   simp only[sN]at h
   split at h
   case isFalse=>simp at h
   rename_i hp
   cases hb:sN b with
   |none=>rw[hb]at h; simp at h
   |some q'=>
    obtain⟨l',x',r'⟩:=q'
    rw[hb]at h
    simp only[Option.map_some,Option.some.injEq,Prod.mk.injEq]at h
    obtain⟨rfl,rfl,rfl⟩:=h
    exact step hp x' hb rfl
 |_=>intro x h; simp[sN]at h
def vL:Out→Out
 |.exit i s=>if i=1073741824 then .norm s else .exit i s
 |o=>o
theorem mJ.mono{F:Fence}{n:Nat}{P:Program}{c r:Code}{Q Q':Exit→Act→World→Prop}{a:Act}{w:World}(h:mJ F n P c r Q a w)(hq:∀ e a w,Q e a w→Q' e a w):mJ F n P c r Q' a w:=
 fun b k cs dC hb hr=>let ⟨e,a',w',q,r⟩:=h b k cs dC hb hr; ⟨e,a',w',hq _ _ _ q,r⟩
theorem Sa.mono{l:Nat}{N N':Act→World→Prop}{Q Q':Exit→Act→World→Prop}(hn:∀ a w,N a w→N' a w)(hq:∀ e a w,Q e a w→Q' e a w){e:Exit}{a:Act}{w:World}(h:Sa l N Q e a w):Sa l N' Q' e a w:=by
 cases e with
 |goto m=>exact⟨h.1,hn _ _ h.2⟩
 |_=>exact hq _ _ _ h
theorem HI[ab]{C:Ctx}{k:Nat}(hC:∀ j,j≤k→fw C j){rd:Option Nat}{l:Nat}{c r r':Code}(hf:findLabel c l=some (.seq .skip r))(hr:qO l r=some r'){B:oJ}:∀ (j:Nat),j≤k→∀ (s:St) (o:Out),
  bR C j (.loop (.block 1073741825 (.seq r' (.exit 1073741824)))) s=some o→∀ (E:Env) (a:Act) (w:World),cG B E s a w →
  r.wpIn (WF rd) 0 C.P (Sa l (fun a1 w1=>mJ (WF rd) 0 C.P c (.seq .skip r) (bo B E w (vL o)) a1 w1) (bo B E w (vL o))) a w:=by
 intro j
 induction j with
 |zero=>intro _ s o h; simp[bR]at h
 |succ j ih=>
  intro hj s o h E a w hs
  have ZO:=ih (by omega)
  simp only[bR]at h
  cases hb:bR C j (.block 1073741825 (.seq r' (.exit 1073741824))) s with
  |none=>rw[hb]at h; simp at h
  |some q=>
   rw[hb]at h
   cases j with
   |zero=>simp[bR]at hb
   |succ j=>
    simp only[bR]at hb
    cases j with
    |zero=>simp[bR]at hb
    |succ j=>
     simp only[bR]at hb
     cases hq:bR C j r' s with
     |none=>rw[hq]at hb; simp at hb
     |some p=>
      rw[hq]at hb
      refine wpIn_mono (PO hC r hr j (by omega) s p hq rd B E a w hs) fun e a' w' ho=>?_
      obtain⟨E',g1,g2,g3⟩:=ho
      cases p with
      |norm s1=>
       cases j with
       |zero=>simp[bR]at hq
       |succ j=>
        simp only[bR]at hb
        simp at hb
        subst hb
        simp only[Option.some.injEq]at h
        subst h
        cases e with
        |normal=>exact⟨E',g1,g2,g3⟩
        |_=>exact g3.elim
      |exit i s1=>
       simp only at hb
       cases e with
       |goto m=>
        obtain⟨hi,hm,nu⟩:=g3
        subst hi
        simp only[if_true,Option.some.injEq]at hb
        subst hb
        simp only at h
        refine⟨hm,?_⟩
        have:∃ E2,Ext E E2∧Fr E w E2 w'∧cG B E2 (gI s.hp.length s1) a' w':=by
         unfold gI
         split
         ·rename_i bg
          have hle:s.hp.length≤s1.hp.length:=by rw[hs.inv.len,nu.inv.len]; exact g1.L
          obtain⟨a1,a2,a3⟩:=tj nu.inv hle bg
          exact⟨E'.lower s.hp.length,⟨g1.m,fun n hn aq l h=>g1.ρ n hn aq l h,by simp[Env.lower,hs.inv.len]⟩,g2.trans a2,rP a3 nu.fr,a1,nu.df.mono a2,nu.bs⟩
         ·exact⟨E',g1,g2,nu⟩
        obtain⟨E2,b1,b2,b3⟩:=this
        have hw:=ZO _ o h E2 a' w' b3
        refine zT hf (N:=fun a w2=>mJ (WF rd) 0 C.P c (.seq .skip r) (bo B E w (vL o)) a w2) (fun _ _ h=>h) (wpIn_seq (wpIn_skip (wpIn_mono hw fun e a2 w2 hj=>?_)))
        exact hj.mono (fun _ _ hi=>hi.mono fun _ _ _ hp=>bo.from b1 b2 hp) fun _ _ _ hp=>bo.from b1 b2 hp
       |exit m=>
        obtain⟨hi,bQ,nu⟩:=g3
        subst hi
        rw[if_neg (by omega)]at hb
        simp only[Option.some.injEq]at hb
        subst hb
        simp only[Option.some.injEq]at h
        subst h
        have:vL (.exit i s1)=.exit i s1:=by simp only[vL]; rw[if_neg (by omega)]
        rw[this]
        exact⟨E',g1,g2,rfl,nu⟩
       |_=>exact g3.elim
      |ret s1=>
       simp only[Option.some.injEq]at hb
       subst hb
       simp only[Option.some.injEq]at h
       subst h
       cases e with
       |ret=>exact⟨E',g1,g2,g3⟩
       |_=>exact g3.elim
      |jP v s1=>
       simp only[Option.some.injEq]at hb
       subst hb
       simp only[Option.some.injEq]at h
       subst h
       cases e with
       |panic ch=>exact⟨E',g1,g2,g3⟩
       |_=>exact g3.elim
theorem Fa:∀ {c:Code},noGoto c=true→cx c=true:=by
 intro c
 induction c with
 |seq a b Gv D9=>simp_all[noGoto,cx]
 |cond o a b Gv D9=>simp_all[noGoto,cx]
 |block id b ih=>simp_all[noGoto,cx]
 |loop b ih=>simp_all[noGoto,cx]
 |scope b ih=>simp_all[noGoto,cx]
 |rangeFunc _ _ _ _ _ _=>intro h; simp[noGoto]at h
 |_=>intro _; rfl
theorem J7[ab]{C:Ctx}{k:Nat}(hC:∀ j,j≤k→fw C j){rd:Option Nat}{B:oJ}{E:Env}{s:St}{a:Act}{w:World}(hs:cG B E s a w){b c:Code}{o:Out}
  (hc:pe b=some c) (h:bR C k c s=some o):(Code.scope b).wpIn (WF rd) 0 C.P (bo B E w o) a w:=by
 cases J9:noGoto b with
 |true=>
  simp only[pe,J9,Option.some.injEq]at hc
  subst hc
  refine CH (wq (hC k (Nat.le_refl _) b s o h rd B (.inr (Fa J9)) E a w hs) fun m a' w' hq=>?_)
  obtain⟨E',_,_,hq⟩:=hq
  cases o<;>exact hq.elim
 |false=>
 cases Ke:sN b with
 |none=>simp only[pe,J9,Ke]at hc; simp at hc
 |some q=>
  obtain⟨l,x,r⟩:=q
  cases hr:qO l r with
  |none=>simp only[pe,J9,Ke,hr,Option.map_none]at hc; simp at hc
  |some r'=>
   simp only[pe,J9,Ke,hr,Option.map_some,Option.some.injEq]at hc
   subst hc
   have hf:=Kd Ke
   cases k with
   |zero=>simp[bR]at h
   |succ k=>
    simp only[bR]at h
    refine CH (zT hf (N:=fun a w'=>mJ (WF rd) 0 C.P b (.seq .skip r) (bo B E w o) a w') (fun _ _ h=>h) ?_)
    cases hx:bR C k x s with
    |none=>rw[hx]at h; simp at h
    |some q=>
     rw[hx]at h
     refine PQ hC b Ke k (by omega) s q hx E a w hs (fun s1 E1 a1 w1 hq g1 g2 nu=>?_) (fun e a' w' hq hp=>?_)
     ·subst hq
      simp only at h
      cases k with
      |zero=>simp[bR]at h
      |succ k=>
       simp only[bR]at h
       cases hl:bR C k (.loop (.block 1073741825 (.seq r' (.exit 1073741824)))) s1 with
       |none=>rw[hl]at h; simp at h
       |some oL=>
        rw[hl]at h
        have ho:o=vL oL:=by
         cases oL with
         |exit i s2=>
          grind[vL]
         |_=>simpa[vL] using h.symm
        subst ho
        refine wpIn_mono (HI hC hf hr k (by omega) s1 oL hl E1 a1 w1 nu) fun e a2 w2 hj=>?_
        exact hj.mono (fun _ _ hi=>hi.mono fun _ _ _ hp=>bo.from g1 g2 hp) fun _ _ _ hp=>bo.from g1 g2 hp
     ·have ho:o=q:=by
       simp_all
      subst ho
      cases e with
      |goto m=>obtain⟨_,_,_,h3⟩:=hp; cases o<;>exact h3.elim
      |_=>exact hp
end Go.PI
end
section
/- PI, part Zb: calls that only look, where the order is drawn. -/
namespace Go.PI
def J2[ab](P:Program):Prop:=∀ (g:FuncId) (args:List AV) (hp:ag) (e:dm),(yF P hp.length g args).run hp=some e→∀ (E:Env) (w:World) (vs:List Value),Inv E hp w→an E true args vs →
 e.wr=[]∧Calls P g vs.toArray w (bP E w hp (.val e.val))
theorem M8[ab]{C:Ctx}(bL:C.Ok){nm:Nat}{g:FuncId}{args:List AV}{hp:ag}{e:dm}(h:(yF C.P nm g args).run hp=some e):
  ∃ fn : Func, C.P.funcs[g]? = some fn ∧ fn.body.isSome = true ∧ (fn.name == "runtime.NumGoroutine") = false := by
 unfold yF at h
 split at h
 ·simp[RM.ae]at h
 rename_i fn hf
 split at h
 ·simp[RM.ae]at h
 rename_i c hc
 exact⟨fn,hf,by rw[hc]; rfl,bL.name g fn hf (by rw[hc]; rfl)⟩
def pK(hp:ag):Option (Nat×aM)→ag
 |none=>hp
 |some (m,o')=>match hp[m]? with
  |some (some _)=>hp.set m (some o')
  |_=>hp
theorem CJ{hp:ag}{ov:Option (Nat×aM)}(n:Nat):(pK hp ov)[n]?=(hp[n]?).map fun o=>o.map fun o=>match ov with
  |some (m,o')=>(match Nat.beq m n with
   |true=>o'
   |false=>o)
  |none=>o:=by
 cases ov with
 |none=>cases h:hp[n]? with
  |none=>simp[pK,h]
  |some o=>cases o<;>simp[pK,h]
 |some q=>
  obtain⟨m,o'⟩:=q
  simp only[pK]
  by_cases hm:m=n
  ·subst hm
   have hb:Nat.beq m m=true:=Nat.beq_refl m
   split
   ·rename_i o ho
    rw[List.getElem?_set_self (List.getElem?_eq_some_iff.1 ho).1,ho]
    simp
   ·rename_i ho
    cases h:hp[m]? with
    |none=>simp
    |some o=>cases o with
     |none=>simp
     |some o=>exact absurd h (ho o)
  ·have hb:Nat.beq m n=false:=Bool.eq_false_iff.mpr fun h=>hm (Nat.eq_of_beq_eq_true h)
   have:(match hp[m]? with
    |some (some _)=>hp.set m (some o')
    |_=>hp)[n]?=hp[n]?:=by
    split
    ·rw[List.getElem?_set_ne hm]
    ·rfl
   rw[this]
   cases h:hp[n]? with
   |none=>simp
   |some o=>cases o<;>simp[hb]
theorem lH{hp:ag}{ov:Option (Nat×aM)}:(pK hp ov).length=hp.length:=by
 unfold pK
 split
 ·rfl
 ·split<;>simp
def aR(hp:ag)(ov:Option (Nat×aM))(nw:List aM):ag:=pK hp ov++nw.map some
theorem n6{hp:ag}{ov:Option (Nat×aM)}{nw:List aM}:(aR hp ov nw).length=hp.length+nw.length:=by
 simp[aR,lH]
theorem ny{α:Type}{hp:ag}{ov:Option (Nat×aM)}{nw:List aM}(x:RM α):(x.gO hp.length ov nw).run hp=x.run (aR hp ov nw) ∧
  (x.gO hp.length ov nw).log hp=(x.log (aR hp ov nw)).filter (fun n=>Nat.blt n hp.length):=by
 induction x with
 |ret a=>exact⟨rfl,rfl⟩
 |fail=>exact⟨rfl,rfl⟩
 |get n k ih=>
  cases hb:Nat.ble hp.length n with
  |true=>
   have hle:=Nat.le_of_ble_eq_true hb
   have JF:Nat.blt n hp.length=false:=Bool.eq_false_iff.mpr fun h=>by have:=Nat.le_of_ble_eq_true h; omega
   have e:(aR hp ov nw)[n]?=(nw[n-hp.length]?).map some:=by
    unfold aR
    rw[List.getElem?_append_right (by rw[lH]; exact hle),lH,List.getElem?_map]
   simp only[RM.gO,RM.run,RM.log,hb,e,List.filter_cons,JF,Bool.false_eq_true,if_false]
   cases h:nw[n-hp.length]? with
   |none=>exact⟨rfl,rfl⟩
   |some o=>exact ih o
  |false=>
   have bQ:n<hp.length:=by
    rcases Nat.lt_or_ge n hp.length with h|h
    ·exact h
    ·rw[Nat.ble_eq_true_of_le h]at hb; cases hb
   have JF:Nat.blt n hp.length=true:=Nat.ble_eq_true_of_le bQ
   have e:(aR hp ov nw)[n]?=(pK hp ov)[n]?:=by
    unfold aR
    rw[List.getElem?_append_left (by rw[lH]; exact bQ)]
   simp only[RM.gO,RM.run,RM.log,hb,e,CJ,List.filter_cons,JF,if_true]
   cases h:hp[n]? with
   |none=>simp
   |some o=>cases o with
    |none=>simp
    |some o=>exact⟨(ih _).1,congrArg (n::·) (ih _).2⟩
def A4[ab](hp:ag)(ov:Option (Nat×aM)):Prop:=∀ (E:Env) (w:World),Inv E (pK hp ov) w→Inv E hp w
theorem vM:∀ (xs l:List AV) (j q:Nat),(q<j∨j+xs.length≤q)→(setCells l j xs)[q]?=l[q]?
 |[],_,_,_,_=>rfl
 |x::xs,l,j,q,h=>by
  simp only[setCells]
  rw[vM xs _ _ q (by simp only[List.length_cons]at h; omega),List.getElem?_set_ne (by simp only[List.length_cons]at h; omega)]
theorem Kf[ab]{E:Env}{l:List AV}{j s:Nat}{cs:List AV}(hs:cs.length=s)(ha:((l.drop j).take s).all isAny=true)(v:Value)(h:ai E true (.agg (setCells l j cs)) v):ai E true (.agg l) v:=by
 simp only[ai]at h ⊢
 obtain⟨c,rfl,hc⟩:=h
 refine⟨c,rfl,aF.of (an.ee ?_ ?_) hc.leaf⟩
 ·rw[←hc.FV.length,oG]
 ·intro q x u hx hu
  by_cases hq:q<j∨j+cs.length≤q
  ·obtain⟨u',L9,hr⟩:=hc.FV.get (i:=q) (x:=x) (by rw[vM _ _ _ _ hq]; exact hx)
   rw[hu]at L9
   cases L9
   exact hr
  ·have hm:x∈(l.drop j).take s:=by
    rw[List.mem_iff_getElem?]
    refine⟨q-j,?_⟩
    rw[List.getElem?_take_of_lt (by omega),List.getElem?_drop]
    have:j+(q-j)=q:=by omega
    rw[this]
    exact hx
   have:=List.all_eq_true.1 ha x hm
   unfold isAny at this
   split at this
   ·simp[ai]
   ·simp at this
theorem Fb[ab]{P:Program}{hp H:ag}{ev:Operand→AV}{nm n:Nat}{o:Oper}{o0 o':aM}{e:dm}(h0:hp[n]?=some (some o0))(ZQ:H[n]?=some (some o0))(hh:rH P ev o.op n o0=true)
  (he:(aK P nm ev o).run H=some e) (hw:e.wr=[(n,o')]):A4 hp (some (n,o')):=by
 obtain⟨dst,op,type,pos,after,guard⟩:=o
 simp only[rH]at hh
 split at hh
 case h_2=>simp at hh
 rename_i t a x
 split at hh
 case h_2=>simp at hh
 rename_i r n' aq i j g f es ht ha
 split at hh
 case h_2=>simp at hh
 rename_i l hl
 simp only[Bool.and_eq_true]at hh
 obtain⟨⟨h1,h2⟩,h3⟩:=hh
 obtain rfl:=Nat.eq_of_beq_eq_true h1
 simp only[aK,o8,ht,ha,RM.run_bind]at he
 cases hq:(RM.arr n' aq).run H with
 |none=>rw[hq]at he; simp at he
 |some q=>
  obtain⟨g',c',f',es'⟩:=q
  have dX:=RM.kL hq
  rw[hq]at he
  simp only[Option.bind_some]at he
  obtain⟨gE,Gw⟩:=dX
  rw[ZQ]at gE
  simp only[Option.some.injEq,aM.arr.injEq]at gE
  obtain⟨rfl,rfl,rfl,rfl⟩:=gE
  rw[hl]at he
  simp only[iU]at he
  split at he
  case h_2=>simp[RM.ae]at he
  rename_i e' yP
  split at yP
  case isFalse=>simp at yP
  simp only[Option.some.injEq]at yP
  subst yP
  split at he
  case isFalse=>simp[RM.ae]at he
  rename_i hc
  simp only[RM.run_pure,Option.some.injEq]at he
  subst he
  simp only[List.cons.injEq,Prod.mk.injEq,true_and,and_true,Bool.false_and]at hw
  subst hw
  intro E w hI
  have hn:=(List.getElem?_eq_some_iff.1 h0).1
  have hi:=(List.getElem?_eq_some_iff.1 hl).1
  simp only[pK,h0]at hI
  have:=rQ (e':=.agg l) hI (List.getElem?_set_self hn) (List.getElem?_set_self hi) (fun v hv=>Kf hc.2.1 h3 v hv)
  rw[List.set_set,List.set_set,gW hl,gW h0]at this
  exact this
section
variable {C:Ctx}
theorem xG{hp:ag}{n:Nat}{o0 o':aM}{nw:List aM}(h:hp[n]?=some (some o0)):ak (aR hp none nw) [(n,o')]=aR hp (some (n,o')) nw:=by
 have bQ:=(List.getElem?_eq_some_iff.1 h).1
 simp only[ak,aR,pK,h]
 rw[iz (by simp; omega),List.set_append_left _ _ bQ]
theorem Fc{hp:ag}{ov:Option (Nat×aM)}{nw:List aM}{n:Nat}{o':aM}(h:hp.length≤n):ak (aR hp ov nw) [(n,o')]=aR hp ov (IP nw (n-hp.length) o'):=by
 have hl:=n6 (hp:=hp) (ov:=ov) (nw:=nw)
 simp only[ak,setObj,hl,IP]
 by_cases e:n=hp.length+nw.length
 ·simp_all[aR]
 ·rw[if_neg e,if_neg (by omega)]
  simp only[aR,List.map_set]
  rw[List.set_append_right _ _ (by rw[lH]; exact h),lH]
theorem pL{hp:ag}{ov:Option (Nat×aM)}:∀ (wr:List (Nat×aM)) {nw:List aM},(∀ q∈wr,hp.length≤q.1)→ak (aR hp ov nw) wr=aR hp ov (pd hp.length nw wr)
 |[],_,_=>rfl
 |(n,o)::r,nw,h=>by
  have h1:=Fc (ov:=ov) (nw:=nw) (o':=o) (h (n,o) (by simp))
  simp only[ak]at h1
  simp only[ak,pd,h1]
  exact pL r fun q hq=>h q (by simp[hq])
theorem zU[ab](ha:∀ f d,C.acc f d=false)(hn:∀ f d,C.qN f d=[]){ops:Array Oper}{f:FuncId}{hp:ag}{r:List Oper}{dst:Option Tmp}{op:Op}{type:TypeId}{pos:String}
  {after:Array Edge} {guard:Option (Nat×Bool)} {q q':wj} (h1:∀ c,op≠.call c) (h2:op≠.assign (.const (.slice none 0 0)))
  (h:(do
      let e ←(aK C.P (hp.length+q.nw.length) (ay q.fr) ⟨dst,op,type,pos,after,guard⟩).gO hp.length q.ov q.nw
      match e.wr.all fun q=>Nat.ble hp.length q.1 with
      |true=>iX C.P hp.length ops r { q with fr:=bC q.fr dst e.val,nw:=pd hp.length q.nw e.wr }
      |false=>(match q.ov,e.wr with
       |none,[(n,o')]=>.get n fun o0=>(match rH C.P (ay q.fr) op n o0 with
         |true=>iX C.P hp.length ops r { q with fr:=bC q.fr dst e.val,ov:=some (n,o') }
         |false=>.fail)
       |_,_=>.fail):RM wj).run hp=some q') (k:Nat) :
  ∃ q1:wj,fG C (k+1) ⟨dst,op,type,pos,after,guard⟩ ⟨f,q.fr,aR hp q.ov q.nw⟩=some (.norm ⟨f,q1.fr,aR hp q1.ov q1.nw⟩)∧(A4 hp q.ov→A4 hp q1.ov)∧(iX C.P hp.length ops r q1).run hp=some q':=by
 obtain⟨fr,ov,nw⟩:=q
 simp only[RM.run_bind,(ny _).1]at h
 cases he:(aK C.P (hp.length+nw.length) (ay fr) ⟨dst,op,type,pos,after,guard⟩).run (aR hp ov nw) with
 |none=>rw[he]at h; simp at h
 |some e=>
  rw[he]at h
  simp only[Option.bind_some]at h
  have Em:C.qN f=fun _=>[]:=funext fun d=>hn f d
  have bE:fG C (k+1) ⟨dst,op,type,pos,after,guard⟩ ⟨f,fr,aR hp ov nw⟩=some (.norm ⟨f,bC fr dst e.val,ak (aR hp ov nw) e.wr⟩):=by
   rw[fG]
   split
   ·rename_i c hc; exact absurd hc (h1 c)
   ·rename_i hc; exact absurd hc h2
   ·simp only[n6,he,Em]
    cases dst<;>rfl
  split at h
  ·rename_i hb
   refine⟨⟨bC fr dst e.val,ov,pd hp.length nw e.wr⟩,bE.trans ?_,id,h⟩
   rw[pL e.wr fun q hq=>Nat.le_of_ble_eq_true (List.all_eq_true.1 hb q hq)]
  ·cases ov with
   |some _=>simp[RM.ae]at h
   |none=>
    split at h
    case h_2=>simp[RM.ae]at h
    rename_i n o' _ D6
    simp only[RM.run]at h
    split at h
    case h_2=>simp at h
    rename_i o0 ho
    split at h
    case h_2=>simp[RM.ae]at h
    rename_i hh
    have c8:(aR hp none nw)[n]?=some (some o0):=by
     grind[aR,pK]
    refine⟨⟨bC fr dst e.val,some (n,o'),nw⟩,bE.trans ?_,fun _=>Fb (o:=⟨dst,op,type,pos,after,guard⟩) ho c8 hh he D6,h⟩
    rw[D6,xG (o':=o') ho]
theorem nA[ab](ha:∀ f d,C.acc f d=false)(hn:∀ f d,C.qN f d=[]){ops:Array Oper}{f:FuncId}{hp:ag}:∀ (l:List Oper) (q q':wj),(iX C.P hp.length ops l q).run hp=some q' →
  (A4 hp q.ov→A4 hp q'.ov)∧∀ k,cE (fun o s=>fG C (k+1) o s) ops l ⟨f,q.fr,aR hp q.ov q.nw⟩=some (.norm ⟨f,q'.fr,aR hp q'.ov q'.nw⟩)
 |[],q,q',h=>by
  simp only[iX,RM.run_pure,Option.some.injEq]at h
  subst h
  exact⟨id,fun k=>rfl⟩
 |o::r,q,q',h=>by
  obtain⟨dst,op,type,pos,after,guard⟩:=o
  simp only[iX]at h
  simp only[cE]
  cases hw:cF ops q.fr ⟨dst,op,type,pos,after,guard⟩ with
  |none=>rw[hw]at h; simp[RM.ae]at h
  |some b=>
   rw[hw]at h
   cases b with
   |false=>exact nA ha hn r { q with fr:=bC q.fr dst .undef } _ h
   |true=>
    simp only at h ⊢
    split at h
    ·simp[RM.ae]at h
    ·cases dst with
     |none=>
      obtain⟨i1,i2⟩:=nA ha hn (f:=f) r q _ h
      refine⟨i1,fun k=>?_⟩
      have bE:fG C (k+1) ⟨none,.assign (.const (.slice none 0 0)),type,pos,after,guard⟩ ⟨f,q.fr,aR hp q.ov q.nw⟩=some (.norm ⟨f,q.fr,aR hp q.ov q.nw⟩):=by
       rw[fG]; rfl
      rw[bE]
      exact i2 k
     |some d=>
      obtain⟨i1,i2⟩:=nA ha hn (f:=f) r { q with fr:=q.fr.set d (.lit cK) } _ h
      refine⟨i1,fun k=>?_⟩
      have bE:fG C (k+1) ⟨some d,.assign (.const (.slice none 0 0)),type,pos,after,guard⟩ ⟨f,q.fr,aR hp q.ov q.nw⟩=some (.norm ⟨f,q.fr.set d (.lit cK),aR hp q.ov q.nw⟩):=by
       rw[fG]
       simp only[ha,Bool.false_eq_true,if_false]
      rw[bE]
      exact i2 k
    ·rename_i h1 h2
     obtain⟨q1,g1,g2,g3⟩:=zU ha hn (f:=f) h1 h2 h 0
     obtain⟨i1,i2⟩:=nA ha hn (f:=f) r _ _ g3
     refine⟨fun hw=>i1 (g2 hw),fun k=>?_⟩
     obtain⟨q1',Ni,_,ZR⟩:=zU ha hn (f:=f) h1 h2 h k
     rw[Ni]
     exact(nA ha hn (f:=f) r _ _ ZR).2 k
theorem Kg[ab](ha:∀ f d,C.acc f d=false)(hn:∀ f d,C.qN f d=[])(hh:∀ f d,C.im f d=[]){f:FuncId}{hp:ag}:∀ (c:Code) (q:wj) (q':wj×Bool),(gC C.P hp.length c q).run hp=some q' →
  (A4 hp q.ov→A4 hp q'.1.ov)∧∃ k,bR C k c ⟨f,q.fr,aR hp q.ov q.nw⟩=some (match q'.2 with|true=>.ret ⟨f,q'.1.fr,aR hp q'.1.ov q'.1.nw⟩|false=>.norm ⟨f,q'.1.fr,aR hp q'.1.ov q'.1.nw⟩):=by
 intro c
 induction c with
 |skip=>intro q q' h; simp only[gC,RM.run_pure,Option.some.injEq]at h; subst h; exact⟨id,1,by simp[bR]⟩
 |ret=>intro q q' h; simp only[gC,RM.run_pure,Option.some.injEq]at h; subst h; exact⟨id,1,by simp[bR]⟩
 |seq a b Gv D9=>
  intro q q' h
  simp only[gC,RM.run_bind]at h
  cases hq:(gC C.P hp.length a q).run hp with
  |none=>rw[hq]at h; simp at h
  |some q1=>
   rw[hq]at h
   simp only[Option.bind_some]at h
   obtain⟨w1,k1,h1⟩:=Gv q q1 hq
   obtain⟨q1,r1⟩:=q1
   cases r1 with
   |true=>
    simp only[RM.run_pure,Option.some.injEq]at h
    subst h
    exact⟨w1,k1+1,by simp only[bR,h1]⟩
   |false=>
    simp only at h h1 w1
    obtain⟨w2,k2,h2⟩:=D9 q1 q' h
    refine⟨fun hw=>w2 (w1 hw),k1+k2+1,?_⟩
    have g1:=(dH C a ⟨f,q.fr,aR hp q.ov q.nw⟩).le h1 k2
    have g2:=(dH C b ⟨f,q1.fr,aR hp q1.ov q1.nw⟩).le h2 k1
    rw[Nat.add_comm]at g2
    simp only[bR,g1,g2]
 |cond o a b Gv D9=>
  intro q q' h
  simp only[gC]at h
  split at h
  ·rename_i he
   obtain⟨w,k,hk⟩:=Gv q q' h
   exact⟨w,k+1,by simp only[bR,he]; exact hk⟩
  ·rename_i he
   obtain⟨w,k,hk⟩:=D9 q q' h
   exact⟨w,k+1,by simp only[bR,he]; exact hk⟩
  ·simp[RM.ae]at h
 |region id ops draw=>
  intro q q' h
  cases draw with
  |true=>simp[gC,RM.ae]at h
  |false=>
   simp only[gC,RM.run_bind]at h
   cases hq:(iX C.P hp.length ops ops.toList q).run hp with
   |none=>rw[hq]at h; simp at h
   |some q1=>
    rw[hq]at h
    simp only[Option.bind_some,RM.run_pure,Option.some.injEq]at h
    subst h
    obtain⟨w1,h1⟩:=nA ha hn (f:=f) _ _ _ hq
    exact⟨w1,2,by simp only[bR,hh,gH]; exact h1 0⟩
 |_=>intro q q' h; simp[gC,RM.ae]at h
def Gx(nm:Nat)(ov:Option (Nat×aM)):Prop:=∀ n o,ov=some (n,o)→o.below nm=true
theorem Nh[ab]{g:FuncId}{args:List AV}{hp:ag}{e:dm}{P:Program}(hP:C.P=P)(ha:∀ f d,C.acc f d=false)(hn:∀ f d,C.qN f d=[])(ZS:∀ f d,C.im f d=[])(h:(yF P hp.length g args).run hp=some e):
  e.wr=[]∧below hp.length e.val=true∧∃ ov nw,A4 hp ov∧Gx hp.length ov∧∃ k,lV C k g args hp=some (.val e.val,aR hp ov nw):=by
 subst hP
 unfold yF at h
 split at h
 ·simp[RM.ae]at h
 rename_i fn hf
 split at h
 ·simp[RM.ae]at h
 rename_i c hc
 split at h
 ·simp[RM.ae]at h
 rename_i hD
 rw[RM.run_bind]at h
 cases hq:(gC C.P hp.length c ⟨args++List.replicate (fn.ntmps-args.length) .undef,none,[]⟩).run hp with
 |none=>rw[hq]at h; simp at h
 |some q=>
  rw[hq]at h
  simp only[Option.bind_some,RM.run_bind,(ny _).1]at h
  cases hl:(aU C.P q.1.fr fn.results.toList).run (aR hp q.1.ov q.1.nw) with
  |none=>rw[hl]at h; simp at h
  |some l=>
   rw[hl]at h
   simp only[Option.bind_some]at h
   split at h
   case h_2=>simp[RM.ae]at h
   rename_i hb
   simp only[RM.run_pure,Option.some.injEq]at h
   subst h
   simp only[Bool.and_eq_true]at hb
   obtain⟨ZT,k,hk⟩:=Kg ha hn ZS (f:=g) c ⟨_,none,[]⟩ q hq
   refine⟨rfl,hb.1,q.1.ov,q.1.nw,ZT (fun _ _ h=>h),?_,k+1,?_⟩
   ·intro n o ho
    have:=hb.2
    rw[ho]at this
    exact this
   have e:aR hp none []=hp:=by simp[aR,pK]
   simp only[e]at hk
   simp only[lV,hf,hc,hD,hk]
   cases q.2<;>simp only[hl]
mutual
theorem uA{E:Env}{n:Nat}(hn:E.L=n){o:Bool}:∀ {x:AV} {v:Value},ai E o x v→below n x=true
 |.lit _,v,_=>rfl
 |.agg l,v,h=>by
  simp only[ai]at h
  obtain⟨c,_,hc⟩:=h
  simp only[below]
  exact jH hn hc.FV
 |.jt l,v,h=>by
  simp only[ai]at h
  obtain⟨c,_,hc⟩:=h
  simp only[below]
  exact jH hn hc
 |.gg t x,v,h=>by
  simp only[ai]at h
  obtain⟨y,_,hy⟩:=h
  simp only[below]
  exact uA hn hy
 |.iT fn f c,v,h=>by
  simp only[ai]at h
  obtain⟨_,_,_,h1,h2⟩:=h
  simp only[below,Bool.and_eq_true]
  exact⟨jH hn h1,jH hn h2⟩
 |.sl _,v,_=>rfl
 |.o7 _ _,v,_=>rfl
 |.nz,v,_=>rfl
 |.bf _ _,v,_=>rfl
 |.ref m _ _ _,v,h=>by
  simp_all[ai,below]
 |.bq _ m _ _ _ _,v,h=>by
  simp_all[ai,below]
 |.iM m _ _ _ _ _,v,h=>by
  simp_all[ai,below]
 |.mp _ m,v,h=>by
  simp_all[ai,below]
 |.any,v,_=>rfl
theorem jH{E:Env}{n:Nat}(hn:E.L=n){o:Bool}:∀ {l:List AV} {c:List Value},an E o l c→cO n l=true
 |[],_,_=>rfl
 |x::xs,v::vs,h=>by
  simp only[an]at h
  simp only[cO,Bool.and_eq_true]
  exact⟨uA hn h.1,jH hn h.2⟩
 |_::_,[],h=>by simp[an]at h
end
theorem zV{n:Nat}:∀ {l:List AV},(∀ (i:Nat) (x:AV),l[i]?=some x→below n x=true)→cO n l=true
 |[],_=>rfl
 |x::xs,h=>by
  simp only[cO,Bool.and_eq_true]
  exact⟨h 0 x rfl,zV fun i y hy=>h (i+1) y hy⟩
theorem HJ[ab]{E:Env}{hp:ag}{w:World}(hI:Inv E hp w){n:Nat}{o:aM}(ho:hp[n]?=some (some o)):o.below hp.length=true:=by
 have hl:=hI.len.symm
 cases o with
 |arr g c f es=>
  simp only[aM.below,Bool.or_eq_true]
  refine .inr (zV fun i x hx=>?_)
  obtain⟨l,_,_,h3⟩:=hI.objs _ _ ho
  cases hb:l.kF with
  |none=>
   simp_all
  |some b=>
   rw[hb]at h3
   obtain⟨_,_,_,_,_,_,_,_,a7⟩:=h3
   obtain⟨v,hv,_⟩:=a7 _ _ hx
   exact uA hl hv
 |gh k vs=>
  simp only[aM.below]
  obtain⟨_,_,_,us,_,_,_,_,_,_,_,h8⟩:=hI.objs _ _ ho
  exact jH hl h8
theorem HG[ab]{E:Env}{hp:ag}{w w':World}(hI:Inv E hp w){ov:Option (Nat×aM)}{nw:List aM}(hw:A4 hp ov)(hb:Gx hp.length ov){r:AV}(hr:below hp.length r=true){en:Ending}
  (h:bP E w (aR hp ov nw) (.val r) en w'):bP E w hp (.val r) en w':=by
 obtain⟨E',hx,ig,hf,cy⟩:=h
 have OH:(aR hp ov nw).take hp.length=pK hp ov:=by
  unfold aR
  rw[←lH (ov:=ov),List.take_left]
 have bg:((aR hp ov nw).take hp.length).all (kn hp.length)=true:=by
  rw[OH,List.all_eq_true]
  intro o ho
  obtain⟨i,hi⟩:=List.mem_iff_getElem?.1 ho
  rw[CJ]at hi
  cases h:hp[i]? with
  |none=>rw[h]at hi; simp at hi
  |some o1=>
   rw[h]at hi
   cases o1 with
   |none=>
    simp only[Option.map_some,Option.map_none,Option.some.injEq]at hi
    subst hi
    rfl
   |some o1=>
    simp only[Option.map_some,Option.some.injEq]at hi
    subst hi
    simp only[kn]
    have h1:=HJ hI h
    cases ov with
    |none=>exact h1
    |some q=>
     obtain⟨m,o'⟩:=q
     simp only
     split
     ·exact hb _ _ rfl
     ·exact h1
 obtain⟨h1,h2,h3⟩:=tj ig (by rw[n6]; omega) bg
 rw[OH]at h1
 refine⟨E'.lower hp.length,⟨hx.m,fun n hn aq l h=>hx.ρ n hn aq l h,by simp[Env.lower,hI.len]⟩,hw _ _ h1,hf.trans h2,?_⟩
 cases en with
 |returned v=>exact ai.down h3 hr cy
 |panicked _=>exact cy.elim
 |outgrown=>exact cy.elim
end
end Go.PI
end
section
/- PI, part Z: the theorem: what the evaluator answers is what the machine does. -/
namespace Go.PI
theorem HD[ab]{C:Ctx}{k:Nat}:Gr (fun nm o fr=>iq C k nm o fr):=by
 intro nm o fr yQ h
 cases k with
 |zero=>rfl
 |succ k=>
  have D0:=Cp (P:=C.P) (nm:=nm) h
  obtain⟨dst,op,type,pos,after,guard⟩:=o
  cases op with
  |call c=>
   obtain⟨callee,args,argTypes⟩:=c
   cases callee with
   |builtin b=>simp only[iq]; exact D0
   |invoke r m=>
    have h1:ay fr r=ay yQ r:=h r (by simp[Op.operands,Call.operands])
    have h2:args.toList.map (ay fr)=args.toList.map (ay yQ):=List.map_congr_left fun x hx=>h x (by simp[Op.operands,Call.operands]; exact .inr (by simpa using hx))
    simp only[iq,h1,h2]
   |value f=>
    have h1:ay fr f=ay yQ f:=h f (by simp[Op.operands,Call.operands])
    have h2:args.toList.map (ay fr)=args.toList.map (ay yQ):=List.map_congr_left fun x hx=>h x (by simp[Op.operands,Call.operands]; exact .inr (by simpa using hx))
    simp only[iq,h1,h2]
  |_=>simp only[iq]; exact D0
theorem Cy[ab]{C:Ctx}(bL:C.Ok)(Ug:∀ g,C.kind g=.imp→J2 C.P){k:Nat}(hF:lE C k)(hP:uu C k):rN C.P (fun nm o fr=>iq C (k+1) nm o fr):=by
 intro rd x B E s a w e K Q hs nS h hK
 have bE:=fun y=>gV hs.inv.ju hs.fr y
 have fu:au x.o.op=false→x.at s.hp.length=s.hp.length:=fun h=>by simp only[Item.at,h]
 have RU:au x.o.op=true→s.hp[x.at s.hp.length]?=some none:=fun h=>by simp only[Item.at,h]; exact nS h
 clear nS
 have nS:=RU
 clear RU
 obtain⟨idx,nm,o⟩:=x
 generalize Item.at ⟨idx,nm,o⟩ s.hp.length=nm at h nS fu
 simp only at h nS fu hK ⊢
 have Uf:(aK C.P nm (ay s.fr) o).run s.hp=some e→o.wpIn (WF rd) 0 C.P a w K Q:=by
  intro h
  cases pk:au o.op with
  |true=>exact wF hs (sX hs.inv (.inr (nS pk)) bE h) hK
  |false=>
   rw[JW (nm':=s.hp.length) pk]at h
   exact wF hs (sX hs.inv (.inl rfl) bE h) hK
 obtain⟨dst,op,type,pos,after,guard⟩:=o
 cases op with
 |call c=>
  obtain⟨callee,args,argTypes⟩:=c
  cases callee with
  |builtin b=>simp only[iq]at h; exact Uf h
  |invoke rv m=>
   simp only[iq]at h
   split at h
   ·simp[RM.ae]at h
   rename_i g y cy
   have jb:=ja bE args.toList
   split at h
   case h_2=>simp[RM.ae]at h
   rw[RM.run_bind]at h
   cases hq:(kX C k g (y::args.toList.map (ay s.fr))).run s.hp with
   |none=>rw[hq]at h; simp at h
   |some q=>
    obtain⟨res,wr⟩:=q
    rw[hq]at h
    simp only[Option.bind_some]at h
    cases res with
    |jP v=>simp[RM.ae]at h
    |val r=>
     simp only[RM.run_pure,Option.some.injEq]at h
     subst h
     obtain⟨vs',lY,aV⟩:=AZ (w:=w) (o:=⟨dst,.call ⟨.invoke rv m,args,argTypes⟩,type,pos,after,guard⟩) rfl (bE rv) jb cy (A1 bL hq)
     have gU:=hP g _ s.hp _ wr hq E w vs' hs.inv lY
     refine xB rfl aV gU (fun v w' hp=>?_) (fun ch w' hp=>?_) (fun w' hp=>?_)
     ·obtain⟨E',hx,ig,hf,hr⟩:=hp
      exact hK E' w' v hx hf ig hr
     ·obtain⟨E',hx,ig,hf,hr⟩:=hp
      exact hr.elim
     ·obtain⟨E',hx,ig,hf,hr⟩:=hp
      exact hr.elim
  |value f=>
   simp only[iq]at h
   split at h
   ·simp[RM.ae]at h
   rename_i g vG cy
   have jb:=ja bE args.toList
   split at h
   ·rename_i pk
    obtain⟨vs',lY,aV⟩:=eY (w:=w) (bE f) jb cy (zP bL h)
    refine qp (c:=⟨.value f,args,argTypes⟩) rfl rfl aV (zQ bL hF hs.inv (.inr (nS pk)) lY h) (fun v w' hp=>?_) (fun ch w' hp=>?_) (fun w' hp=>?_)
    ·obtain⟨v',jS,E',hx,ig,hf,hr⟩:=hp
     cases jS
     exact hK E' w' v hx hf ig hr
    ·obtain⟨v',jS,_⟩:=hp
     cases jS
    ·obtain⟨v',jS,_⟩:=hp
     cases jS
   split at h
   case h_2=>
    rename_i hk
    have fin : (∃ fn : Func, C.P.funcs[g]? = some fn ∧ fn.body.isSome = true ∧ (fn.name == "runtime.NumGoroutine") = false) ∧
      ∀ (vs:List Value),an E true vG vs→Calls C.P g vs.toArray w (bP E w (ak s.hp e.wr) (.val e.val)):=by
     split at h
     ·rename_i hh he
      obtain⟨⟨fn,h1,h2⟩,h3⟩:=bL.qX g hh vG s.hp e he h
      exact⟨⟨fn,h1,h2,bL.name g fn h1 h2⟩,fun vs hv=>h3 E w vs hs.inv hv⟩
     ·refine⟨M8 bL h,fun vs hv=>?_⟩
      rw[fu (by assumption)]at h
      obtain⟨e0,gU⟩:=Ug g hk g vG s.hp _ h E w vs hs.inv hv
      rw[e0]
      exact gU
    obtain⟨vs',lY,aV⟩:=eY (w:=w) (bE f) jb cy fin.1
    refine qp (c:=⟨.value f,args,argTypes⟩) rfl rfl aV (fin.2 vs' lY) (fun v w' hp=>?_) (fun ch w' hp=>?_) (fun w' hp=>?_)
    ·obtain⟨E',hx,ig,hf,hr⟩:=hp
     exact hK E' w' v hx hf ig hr
    ·obtain⟨E',hx,ig,hf,hr⟩:=hp
     exact hr.elim
    ·obtain⟨E',hx,ig,hf,hr⟩:=hp
     exact hr.elim
   rw[RM.run_bind]at h
   cases hq:(kX C k g vG).run s.hp with
   |none=>rw[hq]at h; simp at h
   |some q=>
    obtain⟨res,wr⟩:=q
    rw[hq]at h
    simp only[Option.bind_some]at h
    cases res with
    |jP v=>simp[RM.ae]at h
    |val r=>
     simp only[RM.run_pure,Option.some.injEq]at h
     subst h
     obtain⟨vs',lY,aV⟩:=eY (w:=w) (bE f) jb cy (A1 bL hq)
     have gU:=hP g vG s.hp _ wr hq E w vs' hs.inv lY
     refine qp (c:=⟨.value f,args,argTypes⟩) rfl rfl aV gU (fun v w' hp=>?_) (fun ch w' hp=>?_) (fun w' hp=>?_)
     ·obtain⟨E',hx,ig,hf,hr⟩:=hp
      exact hK E' w' v hx hf ig hr
     ·obtain⟨E',hx,ig,hf,hr⟩:=hp
      exact hr.elim
     ·obtain⟨E',hx,ig,hf,hr⟩:=hp
      exact hr.elim
 |_=>simp only[iq]at h; exact Uf h
theorem nv{I:Machine→Prop}{P:Program}{m m1 m2:Machine}(h:StepsIn I P m m2)(dN:m≠m2)(hs:step P m=.next m1):StepsIn I P m1 m2:=by
 cases h with
 |refl=>exact absurd rfl dN
 |head _ e9 hr=>
  rw[hs]at e9
  cases e9
  exact hr
theorem mH{id:Nat}:∀ {k k':List Go.Item},exitTo id k=some k'→k'.length<k.length
 |[],k',h=>by simp[exitTo]at h
 |x::r,k',h=>by
  cases x with
  |inBlock IQ=>
   simp only[exitTo]at h
   split at h
   ·simp_all
   ·have:=mH h; simp; omega
  |_=>simp only[exitTo]at h; have:=mH h; simp; omega
theorem Gu{b b':Frame}{a a':Act}{k k':List Go.Item}{cs:List Frame}{w w':World}(h:k.length≠k'.length):lone (b.atR a k) cs w≠lone (b'.atR a' k') cs w':=by
 intro e
 have h1:=congrArg (fun m:Machine=>(m.gs[0]?).map fun g=>g.frame.todo.length) e
 have h2:some k.length=some k'.length:=h1
 simp only[Option.some.injEq]at h2
 exact h h2
def rS:Go.Item→Bool
 |.code (.loop _)=>true
 |_=>false
theorem Cz{b b':Frame}{a a':Act}{k k':List Go.Item}{cs:List Frame}{w w':World}{c:Code}{x:Go.Item}(hx:rS x=false):lone (b.atR a (.code (.loop c)::k)) cs w≠lone (b'.atR a' (x::k')) cs w':=by
 intro e
 have h1:=congrArg (fun m:Machine=>(m.gs[0]?).map fun g=>(g.frame.todo.head?).map rS) e
 have h2:some (some true)=some (some (rS x)):=h1
 rw[hx]at h2
 simp at h2
theorem yT{F:Fence}{n:Nat}{P:Program}{c:Code}{Q:Exit→Act→World→Prop}{a:Act}{w:World}(hg:∀ l a w,¬Q (.goto l) a w)(ho:∀ a w,¬Q .outgrown a w)
  (h:c.wpIn F n P (Exit.then (fun a w=>(Code.loop c).wpIn F n P Q a w) Q) a w):(Code.loop c).wpIn F n P Q a w:=by
 intro b k cs dC hb hr
 have h0:(lone (b.atR a (.code (.loop c)::k)) cs w).fenced P F:=fenced_calm hb hr rfl
 obtain⟨e,a₁,w₁,hq,cJ⟩:=h b (.inLoop c::k) cs dC hb hr
 cases e with
 |normal=>
  obtain⟨e₂,a₂,w₂,wW,jR⟩:=hq b k cs dC hb hr
  have h1:(lone (b.atR a₁ (.inLoop c::k)) cs w₁).fenced P F:=fenced_calm hb hr rfl
  refine⟨e₂,a₂,w₂,wW,ArrivesIn.of_steps (StepsIn.head h0 stepR_loop (StepsIn.trans cJ (.one h1 stepR_inLoop))) ?_⟩
  have hs:step P (lone (b.atR a₁ (.code (.loop c)::k)) cs w₁)=.next (lone (b.atR a₁ (.code c::.inLoop c::k)) cs w₁):=stepR_loop
  cases e₂ with
  |normal=>exact nv jR (Gu (k:=.code (.loop c)::k) (k':=k) (by simp)) hs
  |exit id=>
   exact⟨fun k' hk=>nv (jR.1 k' hk) (Gu (k:=.code (.loop c)::k) (k':=k') (by have:=mH hk; simp; omega)) hs,
    fun kq hk=>by
     obtain⟨k₁,e1,e2⟩:=jR.2 kq hk
     exact⟨k₁,e1,nv e2 (Cz rfl) hs⟩⟩
  |goto l=>exact absurd wW (hg _ _ _)
  |ret=>
   refine⟨fun hn=>?_,fun hn=>?_⟩
   ·obtain⟨todo,h1⟩:=jR.1 hn
    refine⟨todo,nv h1 ?_ hs⟩
    intro e
    have h1:=congrArg (fun m:Machine=>(m.gs[0]?).map fun g=>(match g.frame.mode with|.run=>true|_=>false)) e
    have h2:some true=some false:=h1
    simp at h2
   ·obtain⟨k₁,h1⟩:=jR.2 hn
    exact⟨k₁,nv h1 (Cz rfl) hs⟩
  |panic ch=>
   obtain⟨todo,h1⟩:=jR
   refine⟨todo,nv h1 ?_ hs⟩
   intro e
   have h1:=congrArg (fun m:Machine=>(m.gs[0]?).map fun g=>(match g.frame.mode with|.run=>true|_=>false)) e
   have h2:some true=some false:=h1
   simp at h2
  |outgrown=>exact absurd wW (ho _ _)
 |exit id=>exact⟨_,a₁,w₁,hq,.of_steps (.one h0 stepR_loop) (.pass (x:=.inLoop c) rfl (fun _ _=>.inl (by simp)) cJ)⟩
 |goto l=>exact⟨_,a₁,w₁,hq,.of_steps (.one h0 stepR_loop) (.pass (x:=.inLoop c) rfl (fun _ _=>.inl (by simp)) cJ)⟩
 |ret=>exact⟨_,a₁,w₁,hq,.of_steps (.one h0 stepR_loop) (.pass (x:=.inLoop c) rfl (fun _ _=>.inl (by simp)) cJ)⟩
 |panic ch=>exact⟨_,a₁,w₁,hq,.of_steps (.one h0 stepR_loop) (.pass (x:=.inLoop c) rfl (fun _ _=>.inl (by simp)) cJ)⟩
 |outgrown=>exact⟨_,a₁,w₁,hq,.of_steps (.one h0 stepR_loop) (.pass (x:=.inLoop c) rfl (fun _ _=>.inl (by simp)) cJ)⟩
theorem M9[ab]{B:oJ}{E:Env}{w:World}{o:Out}:∀ l a w',¬bo B E w o (.goto l) a w':=by
 rintro l a w' ⟨E',_,_,h⟩
 cases o<;>exact h
theorem PJ[ab]{B:oJ}{E:Env}{w:World}{o:Out}:∀ a w',¬bo B E w o .outgrown a w':=by
 rintro a w' ⟨E',_,_,h⟩
 cases o<;>exact h
theorem J3[ab]{C:Ctx}(bL:C.Ok){k:Nat}(hF:lE C k){B:oJ}(RW:B.rg=true)(OF:B.lb=none){E:Env}{s:St}{a:Act}{w:World}(hs:cG B E s a w){f:Operand}{ps:Array Tmp}{as bd:Code}{o:Out}
  (h:bR C (k+1) (.rangeFunc f ps as bd) s=some o):(Code.rangeFunc f ps as bd).wpIn (WF none) 0 C.P (bo B E w o) a w:=by
 simp only[bR]at h
 split at h
 case h_2=>simp at h
 rename_i g args cy
 split at h
 case h_2=>simp at h
 rename_i x wk bE
 refine wpIn_rangeFunc fun fn _=>?_
 have Mf:Inv E s.hp (w.alloc (.deferred (some []))):=zJ hs.inv (fun b hb=>by simp only[World.alloc,Array.getElem?_push,if_neg (by omega:¬b=w.heap.size)]) (by simp)
 have Zx:Fr E w E (w.alloc (.deferred (some []))):=⟨rfl,rfl,rfl,by simp,fun b hb _=>by simp only[World.alloc,Array.getElem?_push,if_neg (by omega:¬b=w.heap.size)],fun _ h=>.inl h,fun _ _ h=>.inl h,fun b r hr=>⟨r,by have:=(Array.getElem?_eq_some_iff.1 hr).1; simp only[World.alloc,Array.getElem?_push,if_neg (by omega:¬b=w.heap.size)]; exact hr⟩⟩
 obtain⟨kA,qk,OG⟩:=AI Mf (n:=s.hp.length) (.inl rfl) (k:=.loop s.fn ps as bd .ready) (ob:=.loop { state:=.ready,pending:=none,fn,tmps:=a.tmps,params:=ps,assign:=as,body:=bd,defers:=w.heap.size }) (us:=a.tmps.toList)
  ⟨rfl,rfl,rfl,⟨rfl,rfl⟩,rfl⟩ (ux (u:=cX as++cX bd) 0 _ _ hs.fr)
 have dD:setObj s.hp s.hp.length (.gh (.loop s.fn ps as bd .ready) (mZ (cX as++cX bd) 0 s.fr))=s.hp++[some (.gh (.loop s.fn ps as bd .ready) (tX as bd s.fr))]:=by simp[setObj,tX]
 rw[dD]at qk
 have kK:(w.alloc (.deferred (some []))).heap.size=w.heap.size+1:=by simp
 rw[kK]at kA qk OG
 generalize Q3:E.push s.hp.length 0 ⟨some (w.heap.size+1),1,0⟩=E2 at kA qk OG
 have dh:E2.ρ s.hp.length 0=some ⟨some (w.heap.size+1),1,0⟩:=by rw[←Q3]; simp[Env.push]
 have hL:s.hp.length<E2.L:=by rw[←Q3]; simp only[Env.push]; omega
 have RX:∀ b,E2.own b→E.own b∨b=w.heap.size+1:=by
  intro b hb
  rw[←Q3]at hb
  rcases hb with hb|hb
  ·exact .inl hb
  ·simp_all
 generalize hW:(w.alloc (.deferred (some []))).alloc (.loop { state:=.ready,pending:=none,fn,tmps:=a.tmps,params:=ps,assign:=as,body:=bd,defers:=w.heap.size })=w2 at qk OG
 have Cv:=(gV hs.inv.ju hs.fr f).mono kA
 have hy:an E2 true [.mp true s.hp.length] [Value.func (.yield (w.heap.size+1)) #[] #[]]:=by
  simp_all[an,ai]
 obtain⟨Na,qQ,iC⟩:=uv bE
 obtain⟨vs',lY,aV⟩:=eY (w:=w2) Cv hy cy ⟨Na,qQ,iC,bL.name g Na qQ iC⟩
 rw[Sem.run_bind]at aV
 cases Nb:(Deferred.ofValue (a.eval f) #[Value.func (.yield (w.heap.size+1)) #[] #[]]).run C.P w2 with
 |halt x' w'=>
  have EY:(Deferred.ofValue (a.eval f) [Value.func (.yield (w.heap.size+1)) #[] #[]].toArray).run C.P w2=.halt x' w':=Nb
  rw[EY]at aV
  simp[Result.andThen]at aV
 |ok d RY=>
  have EY:(Deferred.ofValue (a.eval f) [Value.func (.yield (w.heap.size+1)) #[] #[]].toArray).run C.P w2=.ok d RY:=Nb
  rw[EY]at aV
  simp only[Result.andThen]at aV
  refine⟨w.heap.size+1,[{ target:=.collected w.heap.size,args:=#[] }],w2,d,RY,g,vs'.toArray,w2,?_,?_,fun _ _=>trivial,aV,fun h=>by simp[WF,Fence.wide]at h,?_⟩
  ·rw[←hW]
   exact run_enterLoop_outer fn a.tmps ps as bd
  ·simpa[resolve,rangeCall,Act.eval] using Nb
  refine(wG (hF g args _ _ _ bE E2 w2 vs' qk lY) none _).mono fun e w3 cY=>?_
  cases e with
  |panicked ch=>obtain⟨_,_,_,_,hr⟩:=cY; exact hr.elim
  |outgrown=>obtain⟨_,_,_,_,hr⟩:=cY; exact hr.elim
  |returned v=>
   obtain⟨E3,Mi,RZ,R0,_⟩:=cY
   have CA:=Mi.ρ _ hL 0 _ dh
   have after:∀ (st:kW) (j:Option Code),ib wk s.hp.length=some st→(∀ s' p',st.is s' p'→s'≠.busy∧p'=j) →
     ∃ w4,(Instr.endLoop (w.heap.size+1)).run C.P w3=.ok j w4∧∃ E4,Ext E E4∧Fr E w E4 w4 ∧
       cG B E4 { s with hp:=qY wk s.hp.length } { a with defers:=[{ target:=.collected w.heap.size,args:=#[] }]++a.defers } w4:=by
    intro st j gL hj
    obtain⟨Zy,Zz,ZA,ZB,ZC,EV⟩:=iD gL
    obtain⟨r3,u1,_,_,_,u5,_⟩:=n5 RZ EV CA rfl
    obtain⟨j1,j2⟩:=hj _ _ u5
    subst j2
    obtain⟨c1,c2⟩:=Cu RZ EV CA rfl u1 (s':=.exhausted) (p':=r3.pending)
    have PK:Fr E w E3 (w3.putObj (w.heap.size+1) (.loop { r3 with state:=.exhausted })):=((Zx.trans OG).trans R0).trans c2
    refine⟨_,run_endLoop u1 j1,E3,kA.trans Mi,PK,⟨hs.fr.mono (kA.trans Mi),c1,?_,Nat.le_trans hs.bs PK.size⟩⟩
    obtain⟨rs,PL,Vt,_,Vu⟩:=hs.df.mono PK
    have Nc:¬E2.own w.heap.size:=fun ho=>by
     rcases RX _ ho with h|h
     ·have:=hs.inv.oT _ h; omega
     ·omega
    have xD:w.heap.size<w2.heap.size:=by rw[←hW]; simp; omega
    have hold:∀ r∈rs,r<w.heap.size:=by
     intro r hr
     obtain⟨rs0,e1,_,_,e3⟩:=hs.df
     rw[e1]at PL
     have hm:∀ (l l':List Nat),l.map (fun r=>({ target:=.collected r,args:=#[] }:Deferred))=l'.map (fun r=>{ target:=.collected r,args:=#[] })→l=l':=by
      intro l
      induction l with
      |nil=>simp_all
      |cons y ys ih=>
       intro l' h
       cases l' with
       |nil=>simp at h
       |cons z zs=>
        grind
     have:=hm _ _ (List.append_cancel_right PL)
     subst this
     exact(Array.getElem?_eq_some_iff.1 (e3 r hr).2.2).1
    refine⟨w.heap.size::rs,by simp only[List.map_cons,List.cons_append,←PL]; rfl,List.nodup_cons.2 ⟨fun hm=>?_,Vt⟩,⟨fun h=>(by rw[RW]at h; cases h),fun _ h=>(by rw[OF]at h; cases h)⟩,fun r hr=>?_⟩
    ·have:=hold _ hm; omega
    ·rcases List.mem_cons.1 hr with rfl|hr
     ·refine⟨hs.bs,fun ho=>?_,?_⟩
      ·rcases R0.own _ ho with h|h
       ·exact Nc h
       ·omega
      ·rw[World.putObj_heap_other (by omega),R0.same _ xD Nc,←hW]
       show ((w.heap.push _).push _)[w.heap.size]?=_
       simp only[Array.getElem?_push,Array.size_push,if_true]
       rw[if_neg (by omega)]
     ·exact Vu r hr
   unfold vk at h
   split at h
   ·rename_i gL
    simp only[Option.some.injEq]at h
    subst h
    obtain⟨w4,h1,E4,h2,h3,h4⟩:=after _ none gL (fun s' p' hp=>⟨by rw[hp.1]; simp,hp.2⟩)
    exact⟨none,w4,h1,E4,h2,h3,h4⟩
   ·rename_i gL
    simp only[Option.some.injEq]at h
    subst h
    obtain⟨w4,h1,E4,h2,h3,h4⟩:=after _ (some .ret) gL (fun s' p' hp=>⟨by rw[hp.1]; simp,hp.2⟩)
    exact⟨some .ret,w4,h1,wpIn_ret ⟨E4,h2,h3,h4⟩⟩
   ·rename_i id gL
    simp only[Option.some.injEq]at h
    subst h
    obtain⟨w4,h1,E4,h2,h3,h4⟩:=after _ (some (.exit id)) gL (fun s' p' hp=>⟨by rw[hp.1]; simp,hp.2⟩)
    exact⟨some (.exit id),w4,h1,wpIn_exit ⟨E4,h2,h3,rfl,h4⟩⟩
   ·simp at h
theorem A3{P:Program}{w:World}{l:Nat}{r:Loop}(h:w.heap[l]?=some (.loop r))(fn:FuncId)(tmps:Array Value)(ps:Array Tmp)(as bd:Code):(Instr.enterLoop fn tmps ps as bd (some l)).run P w =
  .ok (w.heap.size,[]) (w.alloc (.loop { state:=.ready,pending:=none,fn,tmps,params:=ps,assign:=as,body:=bd,defers:=r.defers })):=by
 unfold Instr.enterLoop
 simp only[Sem.run_bind,run_getLoop h,run_newObj_alloc,Result.andThen,Sem.run_pure]
theorem J4[ab]{C:Ctx}(bL:C.Ok){k:Nat}(hF:lE C k){B:oJ}{bl:Nat}(OF:B.lb=some bl){E:Env}{s:St}{a:Act}{w:World}(hs:cG B E s a w){f:Operand}{ps:Array Tmp}{as bd:Code}{o:Out}
  (h:bR C (k+1) (.rangeFunc f ps as bd) s=some o):(Code.rangeFunc f ps as bd).wpIn (WF (some bl)) 0 C.P (bo B E w o) a w:=by
 simp only[bR]at h
 split at h
 case h_2=>simp at h
 rename_i g args cy
 split at h
 case h_2=>simp at h
 rename_i x wk bE
 obtain⟨r0,BZ⟩:∃ r0:Loop,w.heap[bl]?=some (.loop r0):=by
  obtain⟨_,_,_,⟨_,h2⟩,_⟩:=hs.df
  exact h2 bl OF
 refine wpIn_rangeFunc fun fn _=>?_
 obtain⟨kA,qk,OG⟩:=AI hs.inv (n:=s.hp.length) (.inl rfl) (k:=.loop s.fn ps as bd .ready) (ob:=.loop { state:=.ready,pending:=none,fn,tmps:=a.tmps,params:=ps,assign:=as,body:=bd,defers:=r0.defers }) (us:=a.tmps.toList)
  ⟨rfl,rfl,rfl,⟨rfl,rfl⟩,rfl⟩ (ux (u:=cX as++cX bd) 0 _ _ hs.fr)
 have dD:setObj s.hp s.hp.length (.gh (.loop s.fn ps as bd .ready) (mZ (cX as++cX bd) 0 s.fr))=s.hp++[some (.gh (.loop s.fn ps as bd .ready) (tX as bd s.fr))]:=by simp[setObj,tX]
 rw[dD]at qk
 generalize Q3:E.push s.hp.length 0 ⟨some w.heap.size,1,0⟩=E2 at kA qk OG
 have dh:E2.ρ s.hp.length 0=some ⟨some w.heap.size,1,0⟩:=by rw[←Q3]; simp[Env.push]
 have hL:s.hp.length<E2.L:=by rw[←Q3]; simp only[Env.push]; omega
 generalize hW:w.alloc (.loop { state:=.ready,pending:=none,fn,tmps:=a.tmps,params:=ps,assign:=as,body:=bd,defers:=r0.defers })=w2 at qk OG
 have Cv:=(gV hs.inv.ju hs.fr f).mono kA
 have hy:an E2 true [.mp true s.hp.length] [Value.func (.yield w.heap.size) #[] #[]]:=by
  simp_all[an,ai]
 obtain⟨Na,qQ,iC⟩:=uv bE
 obtain⟨vs',lY,aV⟩:=eY (w:=w2) Cv hy cy ⟨Na,qQ,iC,bL.name g Na qQ iC⟩
 rw[Sem.run_bind]at aV
 cases Nb:(Deferred.ofValue (a.eval f) #[Value.func (.yield w.heap.size) #[] #[]]).run C.P w2 with
 |halt x' w'=>
  have EY:(Deferred.ofValue (a.eval f) [Value.func (.yield w.heap.size) #[] #[]].toArray).run C.P w2=.halt x' w':=Nb
  rw[EY]at aV
  simp[Result.andThen]at aV
 |ok d RY=>
  have EY:(Deferred.ofValue (a.eval f) [Value.func (.yield w.heap.size) #[] #[]].toArray).run C.P w2=.ok d RY:=Nb
  rw[EY]at aV
  simp only[Result.andThen]at aV
  refine⟨w.heap.size,[],w2,d,RY,g,vs'.toArray,w2,?_,?_,fun _ _=>trivial,aV,fun h=>by simp[WF,Fence.wide]at h,?_⟩
  ·rw[←hW]
   exact A3 BZ fn a.tmps ps as bd
  ·simpa[resolve,rangeCall,Act.eval] using Nb
  refine(wG (hF g args _ _ _ bE E2 w2 vs' qk lY) (some bl) _).mono fun e w3 cY=>?_
  cases e with
  |panicked ch=>obtain⟨_,_,_,_,hr⟩:=cY; exact hr.elim
  |outgrown=>obtain⟨_,_,_,_,hr⟩:=cY; exact hr.elim
  |returned v=>
   obtain⟨E3,Mi,RZ,R0,_⟩:=cY
   have CA:=Mi.ρ _ hL 0 _ dh
   have after:∀ (st:kW) (j:Option Code),ib wk s.hp.length=some st→(∀ s' p',st.is s' p'→s'≠.busy∧p'=j) →
     ∃ w4,(Instr.endLoop w.heap.size).run C.P w3=.ok j w4∧∃ E4,Ext E E4∧Fr E w E4 w4 ∧
       cG B E4 { s with hp:=qY wk s.hp.length } { a with defers:=[]++a.defers } w4:=by
    intro st j gL hj
    obtain⟨Zy,Zz,ZA,ZB,ZC,EV⟩:=iD gL
    obtain⟨r3,u1,_,_,_,u5,_⟩:=n5 RZ EV CA rfl
    obtain⟨j1,j2⟩:=hj _ _ u5
    subst j2
    obtain⟨c1,c2⟩:=Cu RZ EV CA rfl u1 (s':=.exhausted) (p':=r3.pending)
    have PK:Fr E w E3 (w3.putObj w.heap.size (.loop { r3 with state:=.exhausted })):=(OG.trans R0).trans c2
    exact⟨_,run_endLoop u1 j1,E3,kA.trans Mi,PK,⟨hs.fr.mono (kA.trans Mi),c1,hs.df.mono PK,Nat.le_trans hs.bs PK.size⟩⟩
   unfold vk at h
   split at h
   ·rename_i gL
    simp only[Option.some.injEq]at h
    subst h
    obtain⟨w4,h1,E4,h2,h3,h4⟩:=after _ none gL (fun s' p' hp=>⟨by rw[hp.1]; simp,hp.2⟩)
    exact⟨none,w4,h1,E4,h2,h3,h4⟩
   ·rename_i gL
    simp only[Option.some.injEq]at h
    subst h
    obtain⟨w4,h1,E4,h2,h3,h4⟩:=after _ (some .ret) gL (fun s' p' hp=>⟨by rw[hp.1]; simp,hp.2⟩)
    exact⟨some .ret,w4,h1,wpIn_ret ⟨E4,h2,h3,h4⟩⟩
   ·rename_i id gL
    simp only[Option.some.injEq]at h
    subst h
    obtain⟨w4,h1,E4,h2,h3,h4⟩:=after _ (some (.exit id)) gL (fun s' p' hp=>⟨by rw[hp.1]; simp,hp.2⟩)
    exact⟨some (.exit id),w4,h1,wpIn_exit ⟨E4,h2,h3,rfl,h4⟩⟩
   ·simp at h
section
variable {ops:Array Oper}
theorem Nd[ab]{P:Program}{CB:Oper→St→Option Out}(dG:lF P CB)(tk:∀ o s r,CB o s=some r→(∃ s',r=.norm s')∨∃ v s',r=.jP v s')(mn:kJ 0 ops.toList=true){md:Region.Mode}
  (vC:pc md ops=true) {m:Nat} (vF:mC (bX ops.toList) ops.size m=true) {Q:Exit→Act→World→Prop} {E0:Env} {w0:World} {B:oJ} {r:Option Nat} {out:Out}
  (hQ:∀ s',out=.norm s'→∀ E a w,Ext E0 E→Fr E0 w0 E w→cG B E s' a w→Q .normal a w)
  (hP:∀ v s',out=.jP v s'→∀ E a w u,Ext E0 E→Fr E0 w0 E w→Inv E s'.hp w→ai E true v u→Marks B E w a.defers→Q (.panic [{ v:=u,recovered:=false }]) a w) :
  ∀ (t i:Nat) (aJ:Array Bool) (E:Env) (s:St) (a:Act) (w:World),i+t=ops.size→m≤i→aJ.size=ops.size→(∀ j,j<i→aJ.getD j true=true)→(∀ j,i≤j→j<ops.size→aJ.getD j true=false) →
    Ext E0 E→Fr E0 w0 E w→cG B E s a w→cE CB ops (ops.toList.drop i) s=some out→wpAnyIn (WF r) 0 P md ops Q t aJ a w:=by
 intro t
 induction t with
 |zero=>
  intro i aJ E s a w ZD hm dP J5 Nf hx eK hs aV
  rw[List.drop_of_length_le (by simp; omega)]at aV
  simp only[cE,Option.some.injEq]at aV
  refine⟨?_,hQ s aV.symm E a w hx eK hs⟩
  unfold Region.ready
  rw[List.filter_eq_nil_iff]
  intro j hj hc
  simp only[List.mem_range]at hj
  rw[J5 j (by omega)]at hc
  simp at hc
 |succ t ih=>
  intro i aJ E s a w ZD hm dP J5 Nf hx eK hs aV
  have J6:i<ops.size:=by omega
  refine⟨fun xz=>absurd xz (Cn vC dP J6 (Nf i (Nat.le_refl _) J6)),fun j hj=>?_⟩
  have zH:∀ k o,ops[k]?=some o→aJ.getD k true=true→∀ p,rF (bX ops.toList) k p=true→aJ.getD p false=true:=by
   intro k o hk hl p hp
   have Vg:k<ops.size:=(Array.getElem?_eq_some_iff.1 hk).1
   have G9:k<i:=by
    grind
   have Ug:=M6 mn hk hp
   have:=J5 p (by omega)
   rw[←ti (a:=aJ) (by omega) true false]
   exact this
  obtain⟨MD,Mb,ZE⟩:=vD mn dP zH hj
  have ZF:j=i:=by
   rcases Nat.lt_trichotomy j i with h|h|h
   ·rw[J5 j h]at Mb; cases Mb
   ·exact h
   ·have:=ZE i (vE vF (by omega) MD h)
    have h2:=Nf i (Nat.le_refl _) J6
    rw[ti (by omega) true false]at h2
    rw[this]at h2; cases h2
  subst ZF
  obtain⟨o,ho⟩:∃ o,ops[j]?=some o:=⟨ops[j],by simp[J6]⟩
  have R1:ops.toList.drop j=o::ops.toList.drop (j+1):=by
   have hl:j<ops.toList.length:=by simpa using J6
   rw[List.drop_eq_getElem_cons hl]
   congr 1
   have:=(Array.getElem?_eq_some_iff.1 ho).2
   simpa using this
  rw[R1]at aV
  have dD:∀ q d,q≠j→(aJ.setIfInBounds j true).getD q d=aJ.getD q d:=by
   intro q d hq
   simp[Array.getD_eq_getD_getElem?,Ne.symm hq]
  have Co:∀ d,(aJ.setIfInBounds j true).getD j d=true:=by
   simp_all
  have next:∀ (E':Env) (s':St) (a':Act) (w':World),Ext E0 E'→Fr E0 w0 E' w'→cG B E' s' a' w'→cE CB ops (ops.toList.drop (j+1)) s'=some out →
    wpAnyIn (WF r) 0 P md ops Q t (aJ.setIfInBounds j true) a' w':=by
   intro E' s' a' w' gi JV e9 kq
   refine ih (j+1) _ E' s' a' w' (by omega) (by omega) (by simpa using dP) (fun q hq=>?_) (fun q hq ZG=>?_) gi JV e9 kq
   ·by_cases e:q=j
    ·subst e; exact Co _
    ·rw[dD _ _ e]; exact J5 q (by omega)
   ·rw[dD _ _ (by omega)]; exact Nf q (by omega) ZG
  unfold wpOpIn
  rw[ho]
  simp only
  simp only[cE]at aV
  split at aV
  ·simp at aV
  ·rename_i hw
   rw[k6 hs.fr hw]
   simp only[Bool.false_eq_true,if_false]
   exact⟨fun _ _=>trivial,next E { s with fr:=bC s.fr o.dst .undef } _ w hx eK ⟨gp hs.fr (by simp[ai]),hs.inv,by rw[put_defers]; exact hs.df,hs.bs⟩ aV⟩
  ·rename_i hw
   rw[k6 hs.fr hw]
   simp only[if_true]
   cases hq:CB o s with
   |none=>rw[hq]at aV; simp at aV
   |some q=>
    rw[hq]at aV
    refine dG o s q hq r B E a w _ Q hs (fun s' e E' a' w' gi F6 e9=>?_) (fun v s' e E' w' u gi F6 ig hr=>?_)
    ·subst e
     exact next E' s' a' w' (hx.trans gi) (eK.trans F6) e9 aV
    ·subst e
     simp only[Option.some.injEq]at aV
     exact hP v s' aV.symm E' a w' u (hx.trans gi) (eK.trans F6) ig hr (hs.df.mono F6)
end
def xE[ab](C:Ctx)(k:Nat):Prop:=
 ∀ id ops draw s o,bR C k (.region id ops draw) s=some o→∀ (rd:Option Nat) (B:oJ) (E:Env) (a:Act) (w:World),cG B E s a w →
   (draw=false→wpOpsIn (WF rd) 0 C.P ops (bo B E w o) (List.range ops.size) a w) ∧
   (draw=true→∀ t,wpOpsIn (WF rd) 0 C.P ops (bo B E w o) (Region.schedule (C.P.follows .mixedOrders) ops t) a { w with drawn:=w.drawn+1 })
theorem vK[ab]{C:Ctx}{k:Nat}(hO:lF C.P (fun o s=>fG C k o s))(hE:rN C.P (fun nm o fr=>iq C k nm o fr)):xE C (k+1):=by
 intro id ops draw s o h rd B E a w hs
 simp only[bR]at h
 cases draw with
 |false=>
  refine⟨fun _=>?_,fun h=>by cases h⟩
  rw[List.range_eq_range',←Array.length_toList,wpOpsIn_eq_wpListIn ops.toList 0 (by simp)]
  exact qo hO (fun o s r h=>nx h) rd B ops.toList _ o h E E a w w (Ext.refl E) (Fr.refl E w) (uw _ hs)
 |true=>
  simp only at h
  have R2:C.head s.fn id ops≤ops.size:=Nat.sub_le _ _
  generalize C.head s.fn id ops=m at h R2
  have nu:=uw (C.im s.fn id) hs
  rw[←rR (C.im s.fn id) s]at h
  clear hs
  generalize gH (C.im s.fn id) s=s at h nu
  have hs:=nu
  split at h
  case isFalse=>simp at h
  rename_i Ng
  simp only[sL,Bool.and_eq_true]at Ng
  obtain⟨⟨⟨⟨mn,Hy⟩,X8⟩,hgc⟩,PM⟩:=Ng
  split at h
  case h_2=>simp at h
  rename_i s' fs aV
  split at h
  case isFalse=>simp at h
  rename_i Uh
  rw[Bool.and_eq_true]at Uh
  obtain⟨R3,vF⟩:=Uh
  suffices key:∀ md:Region.Mode,pc md ops=true→∀ t,wpOpsIn (WF rd) 0 C.P ops (bo B E w o) (Region.linearise md ops t) a { w with drawn:=w.drawn+1 } by
   refine⟨fun h=>by (cases h),fun _ t=>?_⟩
   unfold Region.schedule
   split
   ·exact key .any Hy t
   ·grind
  intro md vC t
  refine wpAnyIn_sound _ _ _ _ _ ?_
  let s0:St:={ s with hp:=s.hp++List.replicate ((ops.toList.take m).filter fun o=>au o.op).length none }
  obtain⟨r1,r2,r3⟩:=ER hs.inv ((ops.toList.take m).filter fun o=>au o.op).length
  have Mf:Inv (E.gr ((ops.toList.take m).filter fun o=>au o.op).length) s0.hp { w with drawn:=w.drawn+1 }:=r2.heap rfl
  have qQ:Fr E w (E.gr ((ops.toList.take m).filter fun o=>au o.op).length) { w with drawn:=w.drawn+1 }:=r3.trans (Fr.drew _ w)
  have R4:=pG _ _ _ _ aV
  have uy:∀ (k:Nat) (x:Item),(bD 0 s.hp.length (ops.toList.take m))[k]?=some x→x.idx=k∧ops[k]?=some x.o∧k<m:=by
   intro k x hk
   obtain⟨a1,a2,_,_⟩:=kR _ _ _ _ _ hk
   have X9:k<m:=by
    grind
   rw[List.getElem?_take_of_lt X9]at a2
   exact⟨by omega,by simpa using a2,X9⟩
  have R5:ops.size=m+(ops.size-m):=by omega
  refine Eq.mpr (congrArg (fun fl=>wpAnyIn (WF rd) 0 C.P md ops (bo B E w o) fl _ _ _) R5) ?_
  refine JT (P:=C.P) HD hE mn vC R2 vF (s':=s') (E0:=E) (w0:=w) (B:=B) (fun E' a' w' aJ b1 b2 b3 b4 b5 b6=>
   Nd hO (fun o s r h=>nx h) mn vC vF (fun tT e E2 a2 w2 c1 c2 c3=>by subst e; exact⟨E2,c1,c2,c3⟩)
    (fun v tT e E2 a2 w2 u c1 c2 c3 c4 c5=>by subst e; exact⟨E2,c1,c2,u,rfl,c4,c3,c5⟩) (ops.size-m) m aJ E' s' a' w' (by omega) (Nat.le_refl _) b4 b5 b6 b1 b2 b3 h) m (bD 0 s.hp.length (ops.toList.take m))
   _ fs _ s0 a _ (by rw[lD]; simp; omega) ?_
   r1 qQ ⟨hs.fr.mono r1,Mf,hs.df.mono qQ,hs.bs⟩ ?_ aV ?_
  ·refine⟨by simp,fun x hx=>?_,?_,fun i hi _ X4=>?_,fun i _ hi=>?_,fun i o ho hl=>?_,?_⟩
   ·obtain⟨k,hk⟩:=List.mem_iff_getElem?.1 hx
    obtain⟨a1,a2,a3⟩:=uy k x hk
    have bQ:k<ops.size:=(Array.getElem?_eq_some_iff.1 a2).1
    rw[a1]
    refine⟨a2,?_,a3⟩
    simp[Array.getD,bQ]
   ·rw[List.pairwise_iff_getElem]
    intro i j hi hj Me
    have a1:=(uy i _ (List.getElem?_eq_getElem hi)).1
    have a2:=(uy j _ (List.getElem?_eq_getElem hj)).1
    omega
   ·have qZ:i<(bD 0 s.hp.length (ops.toList.take m)).length:=by rw[lD]; simp; omega
    exact⟨_,List.getElem_mem qZ,(uy i _ (List.getElem?_eq_getElem qZ)).1⟩
   ·simp[Array.getD,hi]
   ·have bQ:i<ops.size:=(Array.getElem?_eq_some_iff.1 ho).1
    simp[Array.getD,bQ]at hl
   ·rw[List.pairwise_iff_getElem]
    intro i j hi hj Me ha
    exact xy _ _ _ i j _ _ Me (List.getElem?_eq_getElem hi) (List.getElem?_eq_getElem hj) ha
  ·intro x hx ha
   obtain⟨k,hk⟩:=List.mem_iff_getElem?.1 hx
   obtain⟨_,_,a3,a4⟩:=kR _ _ _ _ _ hk
   have a5:=a4 ha
   simp only[s0]
   rw[List.getElem?_append_right a3,List.getElem?_replicate,if_pos (by omega)]
  ·intro j k x y f g M5 hx hy hf hg
   obtain⟨a1,a2,_⟩:=uy j x hx
   obtain⟨b1,b2,_⟩:=uy k y hy
   have Ya:=th fs R3 j k f g M5 hf hg
   have ID:f.idx=j:=by
    have:(fs.map (·.idx))[j]?=some f.idx:=by simp[hf]
    rw[R4]at this
    simp[hx,a1]at this
    exact this.symm
   have ZH:g.idx=k:=by
    have:(fs.map (·.idx))[k]?=some g.idx:=by simp[hg]
    rw[R4]at this
    simp[hy,b1]at this
    exact this.symm
   rcases tg ops.toList 0 PM j k x.o y.o M5 (by simpa using a2) (by simpa using b2) with hp|hp
   ·left; rw[a1,b1]; simpa using hp
   ·simp only[rG,Bool.or_eq_true,Bool.and_eq_true]at Ya
    rcases Ya with hq|⟨h1,h2⟩
    ·left; rw[ID,ZH]at hq; rw[a1,b1]; exact hq
    ·right
     refine⟨hp,fun n hn=>?_,fun n hn=>zN h2 n hn⟩
     have:=zN h1 n hn
     simpa using this
theorem CC[ab]{C:Ctx}(bL:C.Ok){k:Nat}(hF:lE C k)(EZ:∀ j,j≤k→fw C j)(hO:lF C.P (fun o s=>fG C k o s))(hE:rN C.P (fun nm o fr=>iq C k nm o fr)):fw C (k+1):=by
 have hC:=EZ k (Nat.le_refl k)
 intro c s o h rd B Mj E a w hs
 have self:bo B E w (.norm s) .normal a w:=⟨E,Ext.refl E,Fr.refl E w,hs⟩
 cases c with
 |skip=>simp only[bR,Option.some.injEq]at h; subst h; exact wpIn_skip self
 |label l=>simp only[bR,Option.some.injEq]at h; subst h; exact wpIn_label self
 |ret=>simp only[bR,Option.some.injEq]at h; subst h; exact wpIn_ret ⟨E,Ext.refl E,Fr.refl E w,hs⟩
 |exit id=>simp only[bR,Option.some.injEq]at h; subst h; exact wpIn_exit ⟨E,Ext.refl E,Fr.refl E w,rfl,hs⟩
 |seq x y=>
  simp only[bR]at h
  have r1:(rd=B.lb∧B.rg=true)∨cx x=true:=Mj.imp id fun h=>by simp only[cx,Bool.and_eq_true]at h; exact h.1
  have r2:(rd=B.lb∧B.rg=true)∨cx y=true:=Mj.imp id fun h=>by simp only[cx,Bool.and_eq_true]at h; exact h.2
  refine wpIn_seq ?_
  split at h
  ·rename_i s' hx
   refine wpIn_mono (hC x s _ hx rd B r1 E a w hs) fun e a' w' hp=>?_
   obtain⟨E',h1,h2,h3⟩:=hp
   cases e with
   |normal=>exact wpIn_mono (hC y s' o h rd B r2 E' a' w' h3) fun e Ui wV hp=>bo.from h1 h2 hp
   |_=>exact h3.elim
  ·rename_i dN
   refine wpIn_mono (hC x s o h rd B r1 E a w hs) fun e a' w' hp=>?_
   obtain⟨E',h1,h2,h3⟩:=hp
   cases e with
   |normal=>
    cases o with
    |norm s'=>exact absurd h (dN s')
    |_=>exact h3.elim
   |_=>exact⟨E',h1,h2,h3⟩
 |cond op x y=>
  simp only[bR]at h
  have r1:(rd=B.lb∧B.rg=true)∨cx x=true:=Mj.imp id fun h=>by simp only[cx,Bool.and_eq_true]at h; exact h.1
  have r2:(rd=B.lb∧B.rg=true)∨cx y=true:=Mj.imp id fun h=>by simp only[cx,Bool.and_eq_true]at h; exact h.2
  split at h
  case h_2=>simp at h
  rename_i t ht
  have hv:=gV hs.inv.ju hs.fr op
  rw[ht]at hv
  simp only[ai]at hv
  cases t with
  |true=>exact wpIn_cond_true hv (hC x s o h rd B r1 E a w hs)
  |false=>exact wpIn_cond_false hv (hC y s o h rd B r2 E a w hs)
 |block id b=>
  simp only[bR]at h
  have r1:(rd=B.lb∧B.rg=true)∨cx b=true:=Mj.imp (fun h=>h) fun h=>by simpa only[cx] using h
  refine wpIn_block ?_
  split at h
  ·rename_i IQ s' hx
   refine wpIn_mono (hC b s _ hx rd B r1 E a w hs) fun e a' w' hp=>?_
   obtain⟨E',h1,h2,h3⟩:=hp
   cases e with
   |exit j=>
    obtain⟨rfl,h3⟩:=h3
    simp only[Exit.inBlock]
    split at h
    ·rename_i Vv
     rw[if_pos Vv]
     simp only[Option.some.injEq]at h; subst h
     exact⟨E',h1,h2,h3⟩
    ·rename_i Vv
     rw[if_neg Vv]
     simp only[Option.some.injEq]at h; subst h
     exact⟨E',h1,h2,rfl,h3⟩
   |_=>exact h3.elim
  ·rename_i dN
   refine wpIn_mono (hC b s o h rd B r1 E a w hs) fun e a' w' hp=>?_
   obtain⟨E',h1,h2,h3⟩:=hp
   cases e with
   |exit j=>
    cases o with
    |exit i s'=>exact absurd h (dN i s')
    |_=>exact h3.elim
   |_=>exact⟨E',h1,h2,h3⟩
 |loop b=>
  simp only[bR]at h
  have r1:(rd=B.lb∧B.rg=true)∨cx b=true:=Mj.imp (fun h=>h) fun h=>by simpa only[cx] using h
  refine yT M9 PJ ?_
  split at h
  ·rename_i s' hx
   refine wpIn_mono (hC b s _ hx rd B r1 E a w hs) fun e a' w' hp=>?_
   obtain⟨E',h1,h2,h3⟩:=hp
   cases e with
   |normal=>
    have Oz:cG B E' s' a' w':=h3
    have:∃ E2,Ext E E2∧Fr E w E2 w'∧cG B E2 (gI s.hp.length s') a' w':=by
     unfold gI
     split
     ·rename_i bg
      have hle:s.hp.length≤s'.hp.length:=by rw[hs.inv.len,Oz.inv.len]; exact h1.L
      obtain⟨a1,a2,a3⟩:=tj Oz.inv hle bg
      exact⟨E'.lower s.hp.length,⟨h1.m,fun n hn aq l h=>h1.ρ n hn aq l h,by simp[Env.lower,hs.inv.len]⟩,h2.trans a2,rP a3 Oz.fr,a1,Oz.df.mono a2,Oz.bs⟩
     ·exact⟨E',h1,h2,Oz⟩
    obtain⟨E2,b1,b2,b3⟩:=this
    exact wpIn_mono (hC (.loop b) _ o h rd B Mj E2 a' w' b3) fun e Ui wV hp=>bo.from b1 b2 hp
   |_=>exact h3.elim
  ·rename_i dN
   refine wpIn_mono (hC b s o h rd B r1 E a w hs) fun e a' w' hp=>?_
   obtain⟨E',h1,h2,h3⟩:=hp
   cases e with
   |normal=>
    cases o with
    |norm s'=>exact absurd h (dN s')
    |_=>exact h3.elim
   |_=>exact⟨E',h1,h2,h3⟩
 |region id ops draw=>
  have hr:=vK hO hE id ops draw s o h rd B E a w hs
  cases draw with
  |false=>exact wpIn_region (hr.1 rfl)
  |true=>exact wpIn_region_draw fun t=>hr.2 rfl t
 |rangeFunc f ps as bd=>
  rcases Mj with ⟨rfl,R6⟩|Mj
  ·cases OF:B.lb with
   |none=>exact J3 bL hF R6 OF hs h
   |some b=>exact J4 bL hF OF hs h
  ·simp[cx]at Mj
 |scope b=>
  simp only[bR]at h
  split at h
  ·rename_i c hc
   exact J7 EZ hs hc h
  ·simp at h
 |goto _=>simp[bR]at h
 |refuse _=>simp[bR]at h
theorem E5{F:Fence}{n:Nat}{P:Program}{o:Oper}{a:Act}{w:World}{K N:Act→World→Prop}{Q:Exit→Act→World→Prop}(h:o.wpIn F n P a w K (Exit.then N Q)):o.wpIn F n P a w K Q:=by
 unfold Oper.wpIn at *
 refine⟨h.1,?_⟩
 have h2:=h.2
 generalize (o.semAt F.round a.eval).run P w=r at *
 cases r with
 |ok x w'=>cases x<;>exact h2
 |halt x w'=>cases x<;>exact h2
theorem rT{F:Fence}{n:Nat}{P:Program}{ops:Array Oper}{Q:Exit→Act→World→Prop}{l2:List Oper}:∀ (l1:List Oper) (a:Act) (w:World),wpListIn F n P ops (Exit.then (wpListIn F n P ops Q l2) Q) l1 a w→wpListIn F n P ops Q (l1++l2) a w
 |[],a,w,h=>h
 |o::l1,a,w,h=>by
  simp only[List.cons_append]
  unfold wpListIn at h ⊢
  split at h
  ·rename_i hw
   rw[if_pos hw]
   exact E5 (Oper.wpIn_mono (fun a w h=>rT l1 a w h) h)
  ·rename_i hw
   rw[if_neg hw]
   exact⟨h.1,rT l1 _ _ h.2⟩
theorem pI{F:Fence}{n:Nat}{P:Program}{ops:Array Oper}{Q Q':Exit→Act→World→Prop}(hq:∀ e a w,Q e a w→Q' e a w):∀ (l:List Oper) (a:Act) (w:World),wpListIn F n P ops Q l a w→wpListIn F n P ops Q' l a w
 |[],a,w,h=>hq _ _ _ h
 |o::l,a,w,h=>by
  unfold wpListIn at h ⊢
  split at h
  ·rename_i hw
   rw[if_pos hw]
   have h1:=Oper.wpIn_mono (fun a w h=>pI hq l a w h) h
   unfold Oper.wpIn at *
   refine⟨h1.1,?_⟩
   have h2:=h1.2
   generalize (o.semAt F.round a.eval).run P w=r at *
   cases r with
   |ok x w'=>
    cases x<;>simp only[Oper.uponIn]at h2 ⊢<;>first
     |exact h2
     |exact⟨h2.1,CallsIn.mono h2.2 (fun e wV he=>by cases e<;>first|exact he|exact hq _ _ _ he|exact(let ⟨a0,w0,h0⟩:=he; ⟨a0,w0,hq _ _ _ h0⟩))⟩
     |exact⟨h2.1,RoundIn.mono h2.2 (fun e wV he=>by cases e<;>first|exact he|exact hq _ _ _ he|exact(let ⟨a0,w0,h0⟩:=he; ⟨a0,w0,hq _ _ _ h0⟩))⟩
   |halt x w'=>cases x<;>simp only[Oper.uponIn]at h2 ⊢<;>first|exact h2|exact hq _ _ _ h2
  ·rename_i hw
   rw[if_neg hw]
   exact⟨h.1,pI hq l _ _ h.2⟩
theorem E6{c:Code}{ops:Array Oper}{v:Operand}(h:sM c=some (ops,v)):∃ (id:Nat) (o:Oper) (mf:Array TypeId),c=.region id ops false∧ops.toList=ops.toList.dropLast++[o]∧o.op=.defer { callee:=.value v,args:=#[],argTypes:=mf }∧o.guard=none∧o.dst=none:=by
 unfold sM at h
 split at h
 ·rename_i id Vw
  split at h
  ·rename_i o ho
   split at h
   ·rename_i cc D0 hg PN
    split at h
    ·rename_i x Mh kA
     simp only[Option.some.injEq,Prod.mk.injEq]at h
     obtain⟨rfl,rfl⟩:=h
     obtain⟨c1,c2,c3⟩:=cc
     simp only at Mh kA
     subst Mh
     obtain rfl:=Array.toList_eq_nil_iff.1 kA
     refine⟨id,o,c3,rfl,?_,D0,hg,PN⟩
     have dN:Vw.toList≠[]:=by intro e; rw[e]at ho; simp at ho
     rw[List.getLast?_eq_some_getLast dN,Option.some.injEq]at ho
     rw[←ho]
     exact(List.dropLast_concat_getLast dN).symm
    ·simp at h
   ·simp at h
  ·simp at h
 ·simp at h
def R7[ab](C:Ctx)(E:Env)(v:AV)(d:Deferred):Prop:=∃ f:Value,ai E true v f∧∀ w,(Deferred.ofValue f #[]).run C.P w=.ok d w
def tm[ab](C:Ctx)(B:oJ)(E:Env)(w:World)(o:Out):Option AV→Exit→Act→World→Prop
 |none,e,a',w'=>bo B E w o e a' w'
 |some v,e,a',w'=>∃ E1 E2 w1 d,Ext E E1∧Fr E w E1 w1∧R7 C E1 v d∧Ext E1 E2∧Fr E1 w1 E2 w'∧JX { B with tl:=d::B.tl } E2 o e a' w'
theorem pJ{E:Env}{fv:AV}{f:Value}{g:FuncId}{as:List AV}(hf:ai E true fv f)(h:bA fv []=some (g,as)):∃ first cap,f=.func (.func g) first cap:=by
 cases fv with
 |lit u=>
  simp only[ai]at hf
  subst hf
  unfold bA at h
  split at h
  ·rename_i hq
   simp only[AV.lit.injEq]at hq
   simp only[Option.some.injEq,Prod.mk.injEq]at h
   obtain⟨rfl,_⟩:=h
   exact⟨_,_,hq⟩
  ·rename_i hq; cases hq
  ·simp at h
 |iT fn first cap=>
  unfold bA at h
  split at h
  ·rename_i hq; cases hq
  ·rename_i hq
   simp only[AV.iT.injEq]at hq
   obtain⟨rfl,rfl,rfl⟩:=hq
   simp only[Option.some.injEq,Prod.mk.injEq]at h
   obtain⟨rfl,_⟩:=h
   simp only[ai]at hf
   obtain⟨vs,ws,rfl,_⟩:=hf
   exact⟨_,_,rfl⟩
  ·simp at h
 |_=>simp[bA]at h
theorem tm.from[ab]{C:Ctx}{B:oJ}{E E1:Env}{w w1:World}{o:Out}{d:Option AV}{e:Exit}{a:Act}{w':World}(hx:Ext E E1)(hf:Fr E w E1 w1)(h:tm C B E1 w1 o d e a w'):tm C B E w o d e a w':=by
 cases d with
 |none=>exact bo.from hx hf h
 |some v=>
  obtain⟨E2,E3,w2,d,h1,h2,h3⟩:=h
  exact⟨E2,E3,w2,d,hx.trans h1,hf.trans h2,h3⟩
theorem E7[ab]{C:Ctx}{k:Nat}(hC:fw C k)(hO:lF C.P (fun o s=>fG C k o s)):∀ (c:Code) (s:St) (o:Out) (d:Option AV),cx c=true→ze (fun c s=>bR C k c s) (fun o s=>fG C k o s) c s=some (o,d) →
  ∀ (B:oJ) (E:Env) (a:Act) (w:World),B.rg=false→cG B E s a w→c.wpIn (WF none) 0 C.P (tm C B E w o d) a w:=by
 have leaf:∀ c s o d,cx c=true→((bR C k c s).map fun o=>(o,(none:Option AV)))=some (o,d)→∀ (B:oJ) (E:Env) (a:Act) (w:World),B.rg=false→cG B E s a w→c.wpIn (WF none) 0 C.P (tm C B E w o d) a w:=by
  intro c s o d hn h B E a w RW hs
  cases hq:bR C k c s with
  |none=>rw[hq]at h; simp at h
  |some o1=>
   rw[hq]at h
   simp only[Option.map_some,Option.some.injEq,Prod.mk.injEq]at h
   obtain⟨rfl,rfl⟩:=h
   exact hC c s o1 hq none B (.inr hn) E a w hs
 intro c
 induction c with
 |seq x y _ Jh=>
  intro s o d hn h B E a w RW hs
  simp only[cx,Bool.and_eq_true]at hn
  simp only[ze]at h
  refine wpIn_seq ?_
  cases hd:sM x with
  |some q=>
   obtain⟨ops,v⟩:=q
   rw[hd]at h
   simp only at h
   obtain⟨id,o0,mf,rfl,Vx,D0,hg,PN⟩:=E6 hd
   split at h
   case h_2=>simp at h
   rename_i s1 hr
   split at h
   case h_2=>simp at h
   rename_i q cy
   obtain⟨g,as⟩:=q
   cases hq:bR C k y s1 with
   |none=>rw[hq]at h; simp at h
   |some o1=>
    rw[hq]at h
    simp only[Option.map_some,Option.some.injEq,Prod.mk.injEq]at h
    obtain⟨rfl,rfl⟩:=h
    refine wpIn_region_list ?_
    rw[Vx]
    refine rT _ _ _ (pI ?_ _ _ _ (qo hO (fun o s r h=>nx h) none B _ _ _ hr E E a w w (Ext.refl E) (Fr.refl E w) hs))
    intro e a1 w1 hp
    obtain⟨E1,Mh,qQ,HC⟩:=hp
    cases e with
    |normal=>
     have nu:cG B E1 s1 a1 w1:=HC
     have hv:=gV nu.inv.ju nu.fr v
     obtain⟨first,cap,Cv⟩:=pJ hv cy
     have aV:∀ w,(Deferred.ofValue (a1.eval v) #[]).run C.P w=.ok { target:=.fn (.func g) cap,args:=first++#[] } w:=by
      intro w; rw[Cv]; rfl
     show wpListIn (WF none) 0 C.P ops _ [o0] a1 w1
     unfold wpListIn
     rw[if_pos (by unfold Region.wanted; rw[hg])]
     refine⟨fun _ _=>trivial,?_⟩
     have PH:(o0.semAt (WF none).round a1.eval).run C.P w1=.ok (.defer { target:=.fn (.func g) cap,args:=first++#[] }) w1:=by
      show (execOp a1.eval o0).run C.P w1=_
      unfold execOp
      rw[D0]
      simp only[resolve,Sem.run_bind]
      rw[show (Array.map a1.eval #[]:Array Value)=#[] by simp,aV]
      rfl
     rw[PH,Oper.uponIn_defer,PN]
     have AL:cG { B with tl:={ target:=.fn (.func g) cap,args:=first++#[] }::B.tl } E1 s1 { a1 with defers:={ target:=.fn (.func g) cap,args:=first++#[] }::a1.defers } w1:=by
      refine⟨nu.fr,nu.inv,?_,nu.bs⟩
      obtain⟨rs,e1,e2,e3,e4⟩:=nu.df
      have:=e3.1 RW
      subst this
      exact⟨[],by simp only[List.map_nil,List.nil_append]at e1 ⊢; rw[e1],List.nodup_nil,⟨fun _=>rfl,e3.2⟩,by simp⟩
     refine wpIn_mono (hC y s1 o1 hq none _ (.inr hn.2) E1 _ w1 AL) fun e a2 w2 hp=>?_
     obtain⟨E2,kA,iC,ur⟩:=hp
     exact⟨E1,E2,w1,_,Mh,qQ,⟨_,hv,aV⟩,kA,iC,ur⟩
    |_=>exact HC.elim
  |none=>
   rw[hd]at h
   simp only at h
   split at h
   ·rename_i s' hx
    refine wpIn_mono (hC x s _ hx none B (.inr hn.1) E a w hs) fun e a' w' hp=>?_
    obtain⟨E',h1,h2,h3⟩:=hp
    cases e with
    |normal=>exact wpIn_mono (Jh s' o d hn.2 h B E' a' w' RW h3) fun e Ui wV hp=>tm.from h1 h2 hp
    |_=>exact h3.elim
   ·rename_i o1 dN hx
    simp only[Option.some.injEq,Prod.mk.injEq]at h
    obtain⟨rfl,rfl⟩:=h
    refine wpIn_mono (hC x s o1 hx none B (.inr hn.1) E a w hs) fun e a' w' hp=>?_
    obtain⟨E',h1,h2,h3⟩:=hp
    cases e with
    |normal=>
     cases o1 with
     |norm s'=>exact(dN s' rfl).elim
     |_=>exact h3.elim
    |_=>exact⟨E',h1,h2,h3⟩
   ·simp at h
 |_=>intro s o d hn h; simp only[ze]at h; exact leaf _ s o d hn h
theorem lG{F:Fence}{n:Nat}{P:Program}{ops:Array Oper}{Q Q':Exit→Act→World→Prop}(hq:∀ e a w,Q e a w→Q' e a w):∀ (l:List Nat) (a:Act) (w:World),wpOpsIn F n P ops Q l a w→wpOpsIn F n P ops Q' l a w
 |[],a,w,h=>hq _ _ _ h
 |i::l,a,w,h=>by
  unfold wpOpsIn at h ⊢
  split at h
  ·exact lG hq l a w h
  rename_i o ho
  split at h
  ·rename_i hw
   simp only[if_pos hw]
   have h1:=Oper.wpIn_mono (fun a w h=>lG hq l a w h) h
   unfold Oper.wpIn at *
   refine⟨h1.1,?_⟩
   have h2:=h1.2
   generalize (o.semAt F.round a.eval).run P w=r at *
   cases r with
   |ok x w'=>
    cases x<;>simp only[Oper.uponIn]at h2 ⊢<;>first
     |exact h2
     |exact⟨h2.1,CallsIn.mono h2.2 (fun e wV he=>by cases e<;>first|exact he|exact hq _ _ _ he|exact(let ⟨a0,w0,h0⟩:=he; ⟨a0,w0,hq _ _ _ h0⟩))⟩
     |exact⟨h2.1,RoundIn.mono h2.2 (fun e wV he=>by cases e<;>first|exact he|exact hq _ _ _ he|exact(let ⟨a0,w0,h0⟩:=he; ⟨a0,w0,hq _ _ _ h0⟩))⟩
   |halt x w'=>cases x<;>simp only[Oper.uponIn]at h2 ⊢<;>first|exact h2|exact hq _ _ _ h2
  ·rename_i hw
   simp only[if_neg hw]
   exact⟨h.1,lG hq l _ _ h.2⟩
theorem CD(ops:Array Oper)(i:Nat)(f:Array Edge→Bool):(((ops.map dE)[i]?).map fun o=>f o.after)=(ops[i]?).map fun o=>f o.after:=by
 rw[Array.getElem?_map]
 cases ops[i]? with
 |none=>rfl
 |some o=>simp only[Option.map_some,(lj o).2.2]
theorem oK(md:Region.Mode)(ops:Array Oper)(t:Nat):Region.linearise md (ops.map dE) t=Region.linearise md ops t:=by
 unfold Region.linearise
 rw[Array.size_map]
 generalize Array.replicate ops.size false=aJ
 generalize ([]:List Nat)=acc
 generalize ops.size=fuel
 induction fuel generalizing t aJ acc with
 |zero=>rfl
 |succ fuel ih=>
  have hr:((List.range (ops.map dE).size).filter fun i=>!aJ.getD i true&&(((ops.map dE)[i]?).map (·.after.all fun e=>!Region.binds md e||aJ.getD e.on false)).getD false) =
    ((List.range ops.size).filter fun i=>!aJ.getD i true&&((ops[i]?).map (·.after.all fun e=>!Region.binds md e||aJ.getD e.on false)).getD false):=by
   rw[Array.size_map]
   congr 1
   funext i
   rw[CD ops i (fun a=>a.all fun e=>!Region.binds md e||aJ.getD e.on false)]
  simp only[Region.linearise.go]
  rw[hr]
  split
  ·exact ih _ _ _
  ·rfl
theorem xF(m:Bool)(ops:Array Oper)(t:Nat):Region.schedule m (ops.map dE) t=Region.schedule m ops t:=by
 unfold Region.schedule
 have hd:Region.departs (ops.map dE)=Region.departs ops:=by
  unfold Region.departs
  rw[Array.any_map]
  congr 1
  funext o
  simp only[Function.comp,(lj o).2.2]
 rw[hd,oK,oK]
theorem HE[ab]{C:Ctx}{k:Nat}(hC:∀ j,j≤k→fw C j)(hR:∀ j,j≤k→xE C j){c:Code}(hn:cx c=true){s:St}{o:Out}(h:bR C k (nP c) s=some o){B:oJ}{E:Env}{a:Act}{w:World}(hs:cG B E s a w):
  G7 (WF none) 0 C.P c (bo B E w o) a w:=by
 by_cases hc:∃ id ops d y,c=.seq (.region id ops d) y
 ·obtain⟨id,ops,d,y,rfl⟩:=hc
  have Mg:cx y=true:=by simp only[cx,Bool.and_eq_true]at hn; exact hn.2
  cases k with
  |zero=>simp[bR]at h
  |succ k=>
   have Hz:(ops.toList.map dE).toArray=ops.map dE:=by rw[←Array.toList_map]
   simp only[nP,bR,Hz]at h
   refine Mv ?_
   have go:∀ o1,bR C k (.region id (ops.map dE) d) s=some o1→(∀ e a' w',bo B E w o1 e a' w'→(match e with|.normal=>G7 (WF none) 0 C.P y (bo B E w o) a' w'|e=>bo B E w o e a' w')) →
     G7 (WF none) 0 C.P (.region id ops d) (fun e a w2=>match e with|.normal=>G7 (WF none) 0 C.P y (bo B E w o) a w2|e=>bo B E w o e a w2) a w:=by
    intro o1 h1 hq
    have hr:=hR k (Nat.le_succ k) _ _ _ _ _ h1 none B E a w hs
    cases d with
    |false=>
     refine Ei ?_
     have:=lG hq _ _ _ (hr.1 rfl)
     rw[Array.size_map]at this
     exact this
    |true=>
     refine IV fun t=>?_
     have:=lG hq _ _ _ (hr.2 rfl t)
     rw[xF]at this
     exact this
   split at h
   ·rename_i s' hx
    refine go _ hx fun e a' w' hp=>?_
    obtain⟨E',h1,h2,h3⟩:=hp
    cases e with
    |normal=>exact IU (wpIn_mono (hC k (Nat.le_succ k) y s' o h none B (.inr Mg) E' a' w' h3) fun e Ui wV hp=>bo.from h1 h2 hp)
    |_=>exact h3.elim
   ·rename_i dN
    refine go _ h fun e a' w' hp=>?_
    obtain⟨E',h1,h2,h3⟩:=hp
    cases e with
    |normal=>
     cases o with
     |norm s'=>exact absurd h (dN s')
     |_=>exact h3.elim
    |_=>exact⟨E',h1,h2,h3⟩
 ·have he:nP c=c:=by
   unfold nP
   split
   ·exact absurd ⟨_,_,_,_,rfl⟩ hc
   ·rfl
  rw[he]at h
  exact IU (hC k (Nat.le_refl k) c s o h none B (.inr hn) E a w hs)
theorem J8{F:Fence}{n:Nat}{P:Program}{c:Code}{Q Q':Exit→Act→World→Prop}{a:Act}{w:World}(h:G7 F n P c Q a w)(hq:∀ e a w,Q e a w→Q' e a w):G7 F n P c Q' a w:=
 fun b k cs h1 h2 h3 h4 h5 h6=>let ⟨e,a',w',q,r⟩:=h b k cs h1 h2 h3 h4 h5 h6; ⟨e,a',w',hq _ _ _ q,r⟩
theorem zR[ab]{E:Env}{w:World}{hp:ag}{args:List AV}{vs:List Value}(g:FuncId)(n:Nat)(m:Bool)(hI:Inv E hp w)(ha:an E true args vs):
  cG ⟨w.heap.size,[],m,none⟩ E ⟨g,args++List.replicate (n-args.length) .undef,hp⟩ { tmps:=vs.toArray++Array.replicate (n-vs.toArray.size) undef,defers:=[] } w:=by
 have hlen:=ha.length
 refine⟨?_,hI,Marks.nil,Nat.le_refl _⟩
 simp only[Array.toList_append,Array.toList_replicate,List.size_toArray,←hlen]
 refine ha.append ?_
 have:=an.lits (E:=E) (o:=true) (List.replicate (n-args.length) undef)
 simpa using this
theorem HF{n:Nat}{E:Env}{w:World}{ds:List Deferred}(h:Marks ⟨n,[],false,none⟩ E w ds):ds=[]:=by
 obtain⟨rs,h1,_,h3,_⟩:=h
 have:=h3.1 rfl
 subst this
 simpa using h1
theorem E8[ab]{C:Ctx}(bL:C.Ok){k:Nat}(EZ:∀ j,j≤k→fw C j)(Vy:∀ j,j≤k→xE C j)(hO:lF C.P (fun o s=>fG C k o s)){f:FuncId}{args:List AV}{hp:ag}{res:nL}{cq:ag}{fn:Func}{c:Code}
  (qP:C.P.funcs[f]?=some fn) (hc:fn.body=some c) {E:Env} {w:World} {vs:List Value} (hI:Inv E hp w) (ha:an E true args vs)
  (h:tZ (fun c s=>bR C k c s) (fun o s=>fG C k o s) C.P fn.results.toList c ⟨f,args++List.replicate (fn.ntmps-args.length) .undef,hp⟩=some (res,cq)):Calls C.P f vs.toArray w (bP E w cq res):=by
 have hs:=zR f fn.ntmps false hI ha
 have fin:∀ (s':St) (wk:ag) E1 (a1:Act) w1,Ext E E1→Fr E w E1 w1→an E1 true s'.fr a1.tmps.toList→Inv E1 wk w1→Eh C.P fn.results.toList s'.fr wk=some (res,cq)→LeavesIn Fence.wide 0 C.P fn a1.tmps (bP E w cq res) [] .returning w1:=by
  intro s' wk E1 a1 w1 hx hf eK Mf hr
  unfold Eh at hr
  split at hr
  case h_2=>simp at hr
  rename_i l hl
  simp only[Option.some.injEq,Prod.mk.injEq]at hr
  obtain⟨rfl,rfl⟩:=hr
  obtain⟨v,h1,h2⟩:=rO Mf eK hl
  exact⟨v,h1,E1,hx,Mf,hf,h2⟩
 have leave:∀ (s':St) (d:Option AV) (e:Exit) a' w',tm C ⟨w.heap.size,[],false,none⟩ E w (.norm s') d .normal a' w'→tY (fun c s=>bR C k c s) C.P fn.results.toList s'.fr s'.hp d=some (res,cq) →
   LeavesInM Fence.wide 0 C.P fn a'.tmps (bP E w cq res) a'.defers .returning w':=by
  intro s' d e a' w' wk hd
  cases d with
  |none=>
   obtain⟨E',hx,hf,ho⟩:=wk
   have ho:cG ⟨w.heap.size,[],false,none⟩ E' s' a' w':=ho
   exact jd rfl ho.inv ho.df hf (by simp) fun w2 qk iC=>fin s' s'.hp E' a' w2 hx iC ho.fr qk hd
  |some v=>
   obtain⟨E1,E2,w1,dd,Mh,qQ,⟨fv,xk,aV⟩,kA,iC,ho⟩:=wk
   have ho:cG ⟨w.heap.size,[dd],false,none⟩ E2 s' a' w':=ho
   refine jd (B:=⟨w.heap.size,[dd],false,none⟩) rfl ho.inv ho.df (qQ.trans iC) (by simp) fun w2 qk ZI=>?_
   simp only[tY]at hd
   split at hd
   ·simp at hd
   rename_i g as cy
   split at hd
   ·simp at hd
   rename_i fg ML
   split at hd
   ·simp at hd
   rename_i cg MM
   obtain⟨first,cap,Cv⟩:=pJ xk cy
   have Yb:dd={ target:=.fn (.func g) cap,args:=first++#[] }:=by
    have h1:=aV w2
    rw[Cv]at h1
    have h2:(Deferred.ofValue (.func (.func g) first cap) #[]).run C.P w2=.ok { target:=.fn (.func g) cap,args:=first++#[] } w2:=rfl
    rw[h2]at h1
    cases h1
    rfl
   obtain⟨vs',Vz,hinv⟩:=eY (P:=C.P) (w:=w2) (xk.mono kA) (args:=[]) (vs:=[]) trivial cy ⟨fg,ML,by rw[MM]; rfl,bL.name g fg ML (by rw[MM]; rfl)⟩
   rw[Sem.run_bind]at hinv
   have BZ:=aV w2
   rw[show ([]:List Value).toArray=#[] from rfl,BZ]at hinv
   have R8:(invoke dd.target dd.args).run C.P w2=.ok (.enter g vs'.toArray) w2:=hinv
   have body:∀ (o:Out) (s2:St) (l2:List AV),(o=.norm s2∨o=.ret s2)→cx cg=true→bR C k (nP cg) ⟨g,as++List.replicate (fg.ntmps-as.length) .undef,s'.hp⟩=some o→(aU C.P s2.fr fg.results.toList).run s2.hp=some l2→Eh C.P fn.results.toList s'.fr s2.hp=some (res,cq) →
     LeavesInM Fence.wide 0 C.P fn a'.tmps (bP E w cq res) [dd] .returning w2:=by
    intro o s2 l2 ur J9 bE ra BR
    have AL:=zR g fg.ntmps false qk Vz
    refine⟨by simp,.inr ⟨fun h=>(by cases h),.func g,cap,g,vs'.toArray,by rw[Yb],R8,fun _ _=>trivial,?_⟩⟩
    refine CallsDIn.mono (yI (F:=Fence.wide) (n:=0) ML MM trivial (R:=fun e w'=>match e with|.returned _=>LeavesIn Fence.wide 0 C.P fn a'.tmps (bP E w cq res) [] .returning w'|_=>False) (J8 (HE EZ Vy J9 bE AL) ?_)) ?_
    ·intro e a3 w3 ZJ
     obtain⟨E3,Mi,Mk,Uj⟩:=ZJ
     have last:cG ⟨w2.heap.size,[],false,none⟩ E3 s2 a3 w3→a3.defers=[]∧∃ v,(results fg a3.tmps).run C.P w3=.ok v w3∧LeavesIn Fence.wide 0 C.P fn a'.tmps (bP E w cq res) [] .returning w3:=by
      intro Uk
      obtain⟨v3,h1,h2⟩:=rO Uk.inv Uk.fr ra
      exact⟨HF Uk.df,v3,h1,fin s' s2.hp E3 a' w3 ((Mh.trans kA).trans Mi) (ZI.trans Mk) (ho.fr.mono Mi) Uk.inv BR⟩
     rcases ur with rfl|rfl
     ·cases e with
      |normal=>exact last Uj
      |_=>exact Uj.elim
     ·cases e with
      |ret=>exact last Uj
      |_=>exact Uj.elim
    ·intro e u' w3 hh
     obtain⟨rfl,hh⟩:=hh
     cases e with
     |returned v=>exact hh
     |_=>exact hh.elim
   split at hd
   ·rename_i s2 J9 bE
    split at hd
    ·rename_i l2 ra; exact body _ s2 l2 (.inl rfl) J9 bE ra hd
    ·simp at hd
   ·rename_i s2 J9 bE
    split at hd
    ·rename_i l2 ra; exact body _ s2 l2 (.inr rfl) J9 bE ra hd
    ·simp at hd
   ·simp at hd
 have ZK:∀ (s':St) (d:Option AV) (o:Out) (e:Exit) a' w',(o=.norm s'∧e=.normal)∨(o=.ret s'∧e=.ret)→tm C ⟨w.heap.size,[],false,none⟩ E w o d e a' w'→tm C ⟨w.heap.size,[],false,none⟩ E w (.norm s') d .normal a' w':=by
  rintro s' d o e a' w' (⟨rfl,rfl⟩|⟨rfl,rfl⟩) wk
  ·exact wk
  ·cases d with
   |none=>exact wk
   |some v=>exact wk
 unfold tZ at h
 split at h
 ·rename_i s' d hn bE
  refine callsIn_wide.1 (callsIn_of_wp_marks (F:=Fence.wide) (n:=0) qP hc trivial (wpIn_mono (E7 (EZ k (Nat.le_refl k)) hO c _ _ d hn bE _ E _ w rfl hs) fun e a' w' cY=>?_))
  cases e with
  |normal=>exact leave s' d .normal a' w' cY h
  |_=>cases d<;>first|exact(let ⟨_,_,_,ho⟩:=cY; ho.elim)|exact(let ⟨_,_,_,_,_,_,_,_,_,ho⟩:=cY; ho.elim)
 ·rename_i s' d hn bE
  refine callsIn_wide.1 (callsIn_of_wp_marks (F:=Fence.wide) (n:=0) qP hc trivial (wpIn_mono (E7 (EZ k (Nat.le_refl k)) hO c _ _ d hn bE _ E _ w rfl hs) fun e a' w' cY=>?_))
  cases e with
  |ret=>exact leave s' d .normal a' w' (ZK s' d _ _ a' w' (.inr ⟨rfl,rfl⟩) cY) h
  |_=>cases d<;>first|exact(let ⟨_,_,_,ho⟩:=cY; ho.elim)|exact(let ⟨_,_,_,_,_,_,_,_,_,ho⟩:=cY; ho.elim)
 ·rename_i v s' hn bE
  simp only[Option.some.injEq,Prod.mk.injEq]at h
  obtain⟨rfl,rfl⟩:=h
  refine callsIn_wide.1 (callsIn_of_wp_marks (F:=Fence.wide) (n:=0) qP hc trivial (wpIn_mono (E7 (EZ k (Nat.le_refl k)) hO c _ _ none hn bE _ E _ w rfl hs) fun e a' w' cY=>?_))
  obtain⟨E',hx,hf,ho⟩:=cY
  cases e with
  |panic ch=>
   obtain⟨u,h1,h2,h3,h4⟩:=ho
   exact jd rfl h3 h4 hf (by simp) fun w2 qk iC=>⟨E',hx,qk,iC,u,h1,h2⟩
  |_=>exact ho.elim
 ·simp at h
theorem CE[ab]{C:Ctx}(bL:C.Ok){k:Nat}(EZ:∀ j,j≤k→fw C j)(Vy:∀ j,j≤k→xE C j)(hO:lF C.P (fun o s=>fG C k o s)):lE C (k+1):=by
 intro f args hp res cq h E w vs hI ha
 simp only[lV]at h
 split at h
 ·simp at h
 rename_i fn qP
 split at h
 ·simp at h
 rename_i c hc
 split at h
 ·exact E8 bL EZ Vy hO qP hc hI ha h
 ·exact A0 (EZ k (Nat.le_refl k)) qP hc hI ha h
theorem Ka[ab]{C:Ctx}(bL:C.Ok)(Ug:∀ g,C.kind g=.imp→J2 C.P):∀ k,lE C k∧fw C k∧lF C.P (fun o s=>fG C k o s)∧uu C k∧rN C.P (fun nm o fr=>iq C k nm o fr):=by
 suffices key:∀ k,(lE C k∧fw C k∧lF C.P (fun o s=>fG C k o s)∧uu C k∧rN C.P (fun nm o fr=>iq C k nm o fr))∧∀ j,j≤k→fw C j∧xE C j from fun k=>(key k).1
 intro k
 induction k with
 |zero=>
  refine⟨?_,fun j hj=>by obtain rfl:j=0:=by omega
                         exact⟨fun _ _ _ h=>by simp[bR]at h,fun _ _ _ _ _ h=>by simp[bR]at h⟩⟩
  refine⟨fun _ _ _ _ _ h=>by simp[lV]at h,fun _ _ _ h=>by simp[bR]at h,fun _ _ _ h=>by simp[fG]at h,fun _ _ _ _ _ h=>by simp[kX,RM.ae]at h,?_⟩
  intro rd x B E s a w e K Q _ _ h
  simp[iq,RM.ae]at h
 |succ k ih=>
  obtain⟨⟨hF,hC,hO,hP,hE⟩,EZ⟩:=ih
  have Yc:=CC bL hF (fun j hj=>(EZ j hj).1) hO hE
  refine⟨⟨CE bL (fun j hj=>(EZ j hj).1) (fun j hj=>(EZ j hj).2) hO,Yc,Cx bL hF hP hC,Cq bL hF,Cy bL Ug hF hP⟩,fun j hj=>?_⟩
  rcases Nat.lt_or_ge j (k+1) with h|h
  ·exact EZ j (by omega)
  ·obtain rfl:j=k+1:=by omega
   exact⟨Yc,vK hO hE⟩
def CF(P:Program):Ctx:={ P:=P,kind:=fun _=>.pure,kp:=fun _=>none,acc:=fun _ _=>false }
theorem R9[ab]{C:Ctx}(bL:C.Ok):J2 C.P:=by
 have ZL:(CF C.P).Ok:=⟨bL.name,fun g h as r e=>(by cases e),fun g h as r hX e=>(by cases e),fun g h e=>(by cases e),fun g h as hp e h1=>(by cases h1),fun g h e=>(by cases e)⟩
 intro g args hp e h E w vs hI lY
 obtain⟨e0,hb,ov,nw,hw,ho,k,hk⟩:=Nh (C:=CF C.P) rfl (fun _ _=>rfl) (fun _ _=>rfl) (fun _ _=>rfl) h
 exact⟨e0,((Ka ZL (fun g h=>by cases h) k).1 g args hp _ _ hk E w vs hI lY).mono fun en w' hp=>HG hI hw ho hb hp⟩
theorem sound[ab]{C:Ctx}(bL:C.Ok):∀ k,lE C k∧fw C k∧lF C.P (fun o s=>fG C k o s)∧uu C k∧rN C.P (fun nm o fr=>iq C k nm o fr):=
 Ka bL fun _ _=>R9 bL
end Go.PI
end
section
/- PI, the laws: arguments that read as data, as abstract values. -/
namespace Go.PI
open Go.ChangeShapes Go.WideShapes
def Env.all(w:World):Env where
 ρ:=fun _ _=>none
 m:=fun b=>match w.heap[b]? with|some (.cells c _ _)=>some c|_=>none
 L:=0
 own:=fun _=>False
theorem MH[ab](w:World)(hg:mD (Env.all w)):Inv (Env.all w) [] w where
 len:=rfl
 objs:=by intro n o h; simp at h
 free:=by intro n aq h; simp at h
 inj:=by rintro n n' b ⟨o,l,h,_⟩; simp at h
 mem:=by
  grind[Env.all]
 oT:=by intro b h; exact h.elim
 ju:=hg
def Shape(P:Program):Nat→TypeId→List AV→Prop
 |0,_,_=>False
 |k+1,t,l=>
  match P.underlying t with
  |some .bool=>∃ b,l=[.lit (.bool b)]
  |some (.int i)=>∃ n,l=[.lit (.int i n)]∧(Lit.int i n).wf=true
  |some .string=>∃ s:ByteArray,l=[.lit (.string s)]∧s.size≤maxLen
  |some (.slice e)=>∃ xs,l=[.sl xs]∧xs.length≤maxLen∧∀ x∈xs,∃ cl,(match P.underlying e with
    |some d=>if dQ d then x=.agg cl else cl=[x]
    |none=>False)∧Shape P k e cl
  |some (.struct fs)=>l.length=P.cellsOf t∧∀ f∈fs.toList,Shape P k f.type ((l.drop f.offset).take (P.cellsOf f.type))
  |some (.array n e)=>l.length=P.cellsOf t∧∀ i,i<n→Shape P k e ((l.drop (i*P.cellsOf e)).take (P.cellsOf e))
  |_=>False
def vo(P:Program):Nat→List Field→Option Nat
 |o,[]=>some o
 |o,f::r=>if f.offset=o then vo P (o+P.cellsOf f.type) r else none
def w9(P:Program):Nat→TypeId→Bool
 |0,_=>false
 |k+1,t=>
  match P.underlying t with
  |some .bool|some (.int _)|some .string=>decide (P.cellsOf t=1)
  |some (.slice e)=>decide (P.cellsOf t=1)&&decide (0<P.cellsOf e)&&w9 P k e
  |some (.struct fs)=>decide (vo P 0 fs.toList=some (P.cellsOf t))&&fs.toList.all fun f=>w9 P k f.type
  |some (.array n e)=>decide (n*P.cellsOf e=P.cellsOf t)&&w9 P k e
  |_=>false
theorem mapM_some{α β:Type}{f:α→Option β}:∀ {l:List α} {r:List β},l.mapM f=some r→r.length=l.length∧∀ (i:Nat) (x:α),l[i]?=some x→∃ y,r[i]?=some y∧f x=some y
 |[],r,h=>by
  simp_all
 |a::l,r,h=>by
  simp only[List.mapM_cons,Option.pure_def,Option.bind_eq_bind]at h
  cases hq:f a with
  |none=>rw[hq]at h; simp at h
  |some b=>
   rw[hq]at h
   simp only[Option.bind_some]at h
   cases dX:l.mapM f with
   |none=>rw[dX]at h; simp at h
   |some bs=>
    rw[dX]at h
    simp only[Option.bind_some,Option.some.injEq]at h
    subst h
    obtain⟨h1,h2⟩:=mapM_some dX
    refine⟨by simp[h1],fun i x hx=>?_⟩
    cases i with
    |zero=>simp_all
    |succ i=>simp_all
theorem aF.append{E:Env}{o:Bool}{l l':List AV}{c c':List Value}(h:aF E o l c)(h':aF E o l' c'):aF E o (l++l') (c++c'):=
 aF.of (h.FV.append h'.FV) fun v hv=>by
  rcases List.mem_append.1 hv with h1|h1
  ·exact h.leaf v h1
  ·exact h'.leaf v h1
theorem Hb[ab]{w:World}{base:Nat}{a:Addr}{n:Nat}{l:List Value}(h:w.cells? base a n=some l):l.length=n∧∀ q v,l[q]?=some v→w.cell? (a.add q)=some v:=by
 unfold World.cells? at h
 split at h
 case isFalse=>simp at h
 obtain⟨h1,h2⟩:=mapM_some h
 simp only[List.length_range]at h1
 refine⟨h1,fun q v hq=>?_⟩
 have bQ:=aI hq
 obtain⟨y,hy,hf⟩:=h2 q q (by rw[List.getElem?_range (by omega)])
 rw[hq]at hy
 cases hy
 exact hf
theorem zo{P:Program}:∀ (fs:List Field) (o n:Nat),vo P o fs=some n→o≤n
 |[],o,n,h=>by simp only[vo,Option.some.injEq]at h; omega
 |f::r,o,n,h=>by
  simp only[vo]at h
  split at h
  case isFalse=>simp at h
  have:=zo r _ n h; omega
theorem B1[ab]{E:Env}{P:Program}{S:Field→List AV→Prop}:∀ (fs:List Field) (o n:Nat) (cs:List Value),vo P o fs=some n→cs.length=n →
  (∀ f∈fs,∃ l,aF E false l ((cs.drop f.offset).take (P.cellsOf f.type))∧S f l) →
  ∃ l,aF E false l (cs.drop o)∧∀ f∈fs,o≤f.offset∧S f ((l.drop (f.offset-o)).take (P.cellsOf f.type))
 |[],o,n,cs,h,hl,_=>by
  simp only[vo,Option.some.injEq]at h
  refine⟨[],?_,by simp⟩
  rw[List.drop_eq_nil_of_le (by omega)]
  simp[aF]
 |f::r,o,n,cs,h,hl,hf=>by
  simp only[vo]at h
  split at h
  case isFalse=>simp at h
  rename_i ho
  have uf:=zo r _ n h
  obtain⟨l1,h1,h2⟩:=hf f (by simp)
  obtain⟨l2,h3,h4⟩:=B1 r (o+P.cellsOf f.type) n cs h hl (fun g hg=>hf g (by simp[hg]))
  have F4:l1.length=P.cellsOf f.type:=by rw[h1.length]; simp; omega
  refine⟨l1++l2,?_,fun g hg=>?_⟩
  ·have:cs.drop o=(cs.drop f.offset).take (P.cellsOf f.type)++cs.drop (o+P.cellsOf f.type):=by
    rw[ho,←List.drop_drop,List.take_append_drop]
   rw[this]
   exact h1.append h3
  ·cases hg with
   |head=>
    simp_all
   |tail _ hg=>
    obtain⟨h5,h6⟩:=h4 g hg
    refine⟨by omega,?_⟩
    have:(l1++l2).drop (g.offset-o)=l2.drop (g.offset-(o+P.cellsOf f.type)):=by
     rw[List.drop_append,List.drop_eq_nil_of_le (by omega),List.nil_append,F4]
     congr 1; omega
    rw[this]
    exact h6
theorem B2[ab]{E:Env}{size:Nat}{S:List AV→Prop}:∀ (n:Nat) (cs:List Value),cs.length=n*size →
  (∀ i,i<n→∃ l,aF E false l ((cs.drop (i*size)).take size)∧S l)→∃ l,aF E false l cs∧∀ i,i<n→S ((l.drop (i*size)).take size)
 |0,cs,h,_=>by
  have:cs=[]:=List.eq_nil_of_length_eq_zero (by simpa using h)
  subst this
  exact⟨[],by simp[aF],by simp⟩
 |n+1,cs,h,hf=>by
  rw[Nat.succ_mul]at h
  obtain⟨l1,h1,h2⟩:=hf 0 (by omega)
  simp only[Nat.zero_mul,List.drop_zero]at h1
  obtain⟨l2,h3,h4⟩:=B2 (size:=size) (S:=S) n (cs.drop size) (by rw[List.length_drop,h]; omega) (fun i hi=>by
   obtain⟨l,ha,hb⟩:=hf (i+1) (by omega)
   refine⟨l,?_,hb⟩
   rw[List.drop_drop]
   have:size+i*size=(i+1)*size:=by rw[Nat.succ_mul]; omega
   rw[this]; exact ha)
  have F4:l1.length=size:=by rw[h1.length]; simp; omega
  refine⟨l1++l2,?_,fun i hi=>?_⟩
  ·have:cs=cs.take size++cs.drop size:=(List.take_append_drop size cs).symm
   rw[this]
   exact h1.append h3
  ·cases i with
   |zero=>simp_all
   |succ i=>
    have e1:(i+1)*size=size+i*size:=by rw[Nat.succ_mul]; omega
    rw[e1,List.drop_append,List.drop_eq_nil_of_le (by omega),List.nil_append,F4]
    have e2:size+i*size-size=i*size:=by omega
    rw[e2]
    exact h4 i (by omega)
theorem B3{P:Program}{k:Nat}{t:TypeId}{d:TypeDesc}(hu:P.underlying t=some d)(bL:w9 P k t=true)(ha:dQ d=false):P.cellsOf t=1:=by
 cases k with
 |zero=>simp[w9]at bL
 |succ k=>
  simp only[w9,hu]at bL
  cases d with
  |bool=>simpa using bL
  |int _=>simpa using bL
  |string=>simpa using bL
  |slice e=>simp only[Bool.and_eq_true,decide_eq_true_eq]at bL; exact bL.1.1
  |struct _=>simp[dQ]at ha
  |array _ _=>simp[dQ]at ha
  |_=>simp at bL
theorem F5[ab]{H:Type}{enc:TypeId×Value→H}{P:Program}{w:World}{base:Nat}{spare:Nat→Bool}{held:Bool}:∀ (fuel k:Nat) (t:TypeId) (cs:List Value) (r:DataW H×List MemPlace),
  w9 P k t=true→DataW.trod enc P w base spare held fuel t cs=some r→∃ l,aF (Env.all w) false l cs∧Shape P k t l:=by
 intro fuel
 induction fuel with
 |zero=>intro k t cs r _ h; simp[DataW.trod]at h
 |succ fuel ih=>
  intro k t cs r bL h
  cases k with
  |zero=>simp[w9]at bL
  |succ k=>
   have Y8:=bL
   simp only[w9]at bL
   cases hu:P.underlying t with
   |none=>rw[hu]at bL; simp at bL
   |some d=>
    rw[hu]at bL
    cases d with
    |bool=>
     obtain⟨b,rfl,_⟩:=DataW.trod_bool hu h
     exact⟨[.lit (.bool b)],by simp[aF,ai,Value.oneCell'],by simp only[Shape,hu]; exact⟨b,rfl⟩⟩
    |int i=>
     obtain⟨n,rfl,_,hw⟩:=DataW.trod_int hu h
     exact⟨[.lit (.int i n)],by simp[aF,ai,Value.oneCell'],by simp only[Shape,hu]; exact⟨n,rfl,hw⟩⟩
    |string=>
     obtain⟨s,rfl,_,hw⟩:=DataW.trod_string hu h
     exact⟨[.lit (.string s)],by simp[aF,ai,Value.oneCell'],by simp only[Shape,hu]; exact⟨s,rfl,hw⟩⟩
    |slice e=>
     simp only[Bool.and_eq_true,decide_eq_true_eq]at bL
     obtain⟨⟨_,dT⟩,Hd⟩:=bL
     obtain⟨de,XS⟩:∃ de,P.underlying e=some de:=by
      cases k with
      |zero=>simp[w9]at Hd
      |succ k=>
       simp only[w9]at Hd
       cases hq:P.underlying e with
       |none=>rw[hq]at Hd; simp at Hd
       |some de=>exact⟨de,rfl⟩
     rcases DataW.trod_slice hu h with ⟨rfl,_⟩|⟨a,len,cap,elems,rest,n,hn,rfl,_,hb,D4,QY,wo,Jf,_,_⟩
     ·refine⟨[.sl []],?_,?_⟩
      ·simp only[aF,ai]
       exact⟨⟨none,0,rfl,by simp,fun _=>rfl,.inl trivial⟩,rfl,trivial⟩
      ·simp only[Shape,hu]; exact⟨[],rfl,by simp,by simp⟩
     ·have BD:n=fuel:=by omega
      subst BD
      have one:∀ i,i<len→∃ x:AV,∃ v cl,ai (Env.all w) false x v∧v.cells.size=P.cellsOf e∧(∀ q u,v.cells.toList[q]?=some u→w.cell? ((a.add (i*P.cellsOf e)).add q)=some u) ∧
        (∀ u∈v.cells.toList,ir u=true)∧(if dQ de then x=.agg cl else cl=[x])∧Shape P k e cl:=by
       intro i hi
       have h1:=Jf i hi
       have h2:elems[i]?=some elems[i]:=by simp[wo,hi]
       rw[h2]at h1
       cases hc:w.cells? base (a.add (i*P.cellsOf e)) (P.cellsOf e) with
       |none=>rw[hc]at h1; simp at h1
       |some ce=>
        rw[hc]at h1
        simp only[Option.bind_some]at h1
        obtain⟨cl,h3,h4⟩:=ih k e ce _ Hd h1
        obtain⟨h5,h6⟩:=Hb hc
        cases oI:dQ de with
        |true=>
         refine⟨.agg cl,.agg ce.toArray,cl,h3.toArray,by simp[Value.cells,h5],fun q u hq=>h6 q u (by simpa[Value.cells] using hq),?_,by simp,h4⟩
         intro u L9
         exact h3.leaf u (by simpa[Value.cells] using L9)
        |false=>
         have h7:=B3 XS Hd oI
         rw[h7]at h5
         match ce,h5,h3 with
         |[v],_,h3=>
          match cl,h3 with
          |[x],h3=>
           simp only[aF]at h3
           have Pn:=fP h3.2.1
           refine⟨x,v,[x],h3.1,by rw[Pn,h7]; rfl,fun q u hq=>h6 q u (by rw[Pn]at hq; simpa using hq),?_,by simp,h4⟩
           intro u L9
           rw[Pn]at L9
           simp at L9
           subst L9
           exact h3.2.1
          |[],h3=>simp[aF]at h3
          |_::_::_,h3=>simp[aF]at h3
         |[],h5,_=>simp at h5
         |_::_::_,h5,_=>simp at h5
      let xs:List AV:=(List.range len).map fun i=>if hi:i<len then Classical.choose (one i hi) else .any
      have zp:∀ i x,xs[i]?=some x→∃ v cl,ai (Env.all w) false x v∧v.cells.size=P.cellsOf e ∧
        (∀ q u,v.cells.toList[q]?=some u→w.cell? ((a.add (i*P.cellsOf e)).add q)=some u) ∧
        (∀ u∈v.cells.toList,ir u=true)∧(if dQ de then x=.agg cl else cl=[x])∧Shape P k e cl:=by
       intro i x hx
       have hi:=aI hx
       simp only[xs,List.length_map,List.length_range]at hi
       simp only[xs,List.getElem?_map,List.getElem?_range hi,Option.map_some,dif_pos hi,Option.some.injEq]at hx
       subst hx
       exact Classical.choose_spec (one i hi)
      have BE:xs.length=len:=by simp[xs]
      refine⟨[.sl xs],?_,?_⟩
      ·simp only[aF,ai]
       refine⟨⟨some a,cap,by rw[BE],by omega,by simp,?_⟩,rfl,trivial⟩
       by_cases h0:len=0
       ·left; exact List.eq_nil_of_length_eq_zero (by omega)
       ·right
        obtain⟨v,_,_,lY,Pn,_,_,_⟩:=zp 0 xs[0] (by simp)
        have Md:=Pn 0 v.cells[0] (by simp)
        simp only[Nat.zero_mul]at Md
        have Rt:(a.add 0).add 0=a:=rfl
        rw[Rt]at Md
        obtain⟨b,o,sp⟩:=a
        simp only[World.cell?]at Md
        split at Md
        case h_2=>simp at Md
        rename_i c T fz eW
        split at Md
        ·simp at Md
        rename_i Ru
        have UX:sp=none:=by cases sp<;>simp_all
        subst UX
        refine⟨b,o,P.cellsOf e,c,rfl,by simp[Env.all,eW],dR.ee fun i x hx=>?_⟩
        obtain⟨v,_,hr,lY,Pn,UY,_,_⟩:=zp i x hx
        refine⟨v,hr,lY,fun q hq=>?_,UY⟩
        have h1:=Pn q v.cells[q] (by simp)
        rw[dj,dj]at h1
        simp only[World.cell?,eW]at h1
        simp only[Option.isSome_none,Bool.false_eq_true,if_false]at h1
        rw[h1]; simp
      ·simp only[Shape,hu]
       refine⟨xs,rfl,by omega,fun x hx=>?_⟩
       obtain⟨i,hi⟩:=List.mem_iff_getElem?.1 hx
       obtain⟨v,cl,_,_,_,_,h1,h2⟩:=zp i x hi
       exact⟨cl,by rw[XS]; exact h1,h2⟩
    |struct fs=>
     simp only[Bool.and_eq_true,decide_eq_true_eq]at bL
     obtain⟨xs,n,hn,_,hl,BE,hf⟩:=DataW.trod_struct hu h
     have BD:n=fuel:=by omega
     subst BD
     obtain⟨l,h1,h2⟩:=B1 (E:=Env.all w) (S:=fun f l=>Shape P k f.type l) fs.toList 0 (P.cellsOf t) cs bL.1 hl (fun f F6=>by
      obtain⟨i,hi⟩:=List.mem_iff_getElem?.1 F6
      have qZ:fs[i]?=some f:=by simpa using hi
      have h3:=hf i f qZ
      have bQ:i<xs.length:=by rw[BE]; exact(Array.getElem?_eq_some_iff.1 qZ).1
      rw[List.getElem?_eq_getElem bQ]at h3
      exact ih k f.type _ _ (List.all_eq_true.1 bL.2 f F6) h3)
     simp only[List.drop_zero]at h1
     refine⟨l,h1,?_⟩
     simp only[Shape,hu]
     exact⟨by rw[h1.length,hl],fun f F6=>by simpa using (h2 f F6).2⟩
    |array n e=>
     simp only[Bool.and_eq_true,decide_eq_true_eq]at bL
     obtain⟨xs,m,hm,_,hl,BE,hf⟩:=DataW.trod_array hu h
     have AE:m=fuel:=by omega
     subst AE
     obtain⟨l,h1,h2⟩:=B2 (E:=Env.all w) (S:=fun l=>Shape P k e l) n cs (by rw[hl,bL.1]) (fun i hi=>by
      have h3:=hf i hi
      rw[List.getElem?_eq_getElem (by omega)]at h3
      exact ih k e _ _ bL.2 h3)
     refine⟨l,h1,?_⟩
     simp only[Shape,hu]
     exact⟨by rw[h1.length,hl],h2⟩
    |_=>simp at bL
end Go.PI
end
section
/- PI, the answers of code without fuel, by equations. -/
namespace Go.PI
theorem gn[ab]{α:Type}(y:Option α):lu (fun _=>y)=y:=
 kN (g:=fun _=>y) (fun _ _ h=>h) (fun _ _ h=>h) fun _ h=>⟨0,h⟩
theorem sT[ab]{α β:Type}{g:Nat→Option β}{a:Nat→Option α}{b:α→Nat→Option β}(hg:fH g)(ha:fH a)(hb:∀ x,fH (b x))
  (h0:g 0=none) (h:∀ k,g (k+1)=(a k).bind fun x=>b x k):lu g=(lu a).bind fun x=>lu (b x):=by
 apply kN hg
 ·intro k x hx
  cases k with
  |zero=>rw[h0]at hx; simp at hx
  |succ k=>
   rw[h]at hx
   cases hq:a k with
   |none=>rw[hq]at hx; simp at hx
   |some y=>
    rw[hq]at hx
    rw[(bh ha).2 ⟨k,hq⟩]
    exact(bh (hb y)).2 ⟨k,hx⟩
 ·intro x hx
  cases hq:lu a with
  |none=>rw[hq]at hx; simp at hx
  |some y=>
   rw[hq]at hx
   obtain⟨k1,h1⟩:=(bh ha).1 hq
   obtain⟨k2,h2⟩:=(bh (hb y)).1 hx
   refine⟨k1+k2+1,?_⟩
   rw[h,ha.le h1 k2]
   simp only[Option.bind_some]
   rw[Nat.add_comm]
   exact(hb y).le h2 k1
theorem ml{α:Type}(y:Option α):fH fun _=>y:=fun _ _ h=>h
theorem eA[ab]{α β:Type}{g:Nat→Option β}{a:Nat→Option α}{b:α→Option β}(hg:fH g)(ha:fH a)
  (h0:g 0=none) (h:∀ k,g (k+1)=(a k).bind b):lu g=(lu a).bind b:=by
 rw[sT hg ha (b:=fun x _=>b x) (fun x=>ml _) h0 h]
 congr 1; funext x; exact gn _
theorem bS[ab]{α:Type}{g:Nat→Option α}{y:Option α}(hg:fH g)(h0:g 0=none)(h:∀ k,g (k+1)=y):lu g=y:=by
 apply kN hg
 ·intro k x hx
  cases k with
  |zero=>rw[h0]at hx; simp at hx
  |succ k=>rw[h]at hx; exact hx
 ·intro x hx; exact⟨1,by rw[h]; exact hx⟩
theorem ug[ab]{α:Type}{g a:Nat→Option α}(hg:fH g)(ha:fH a)(h0:g 0=none)(h:∀ k,g (k+1)=a k):lu g=lu a:=by
 have:=eA (b:=some) hg ha h0 (fun k=>by rw[h]; simp)
 rw[this]; simp
variable {C:Ctx}
theorem qe[ab](s:St):cR C .skip s=some (.norm s):=bS (dH C _ _) rfl fun _=>rfl
theorem Ev[ab](l:Nat)(s:St):cR C (.label l) s=some (.norm s):=bS (dH C _ _) rfl fun _=>rfl
theorem xb[ab](s:St):cR C .ret s=some (.ret s):=bS (dH C _ _) rfl fun _=>rfl
theorem uh[ab](id:Nat)(s:St):cR C (.exit id) s=some (.exit id s):=bS (dH C _ _) rfl fun _=>rfl
theorem Ew[ab]{b c:Code}(hc:pe b=some c){s:St}{o:Out}(h:cR C c s=some o):cR C (.scope b) s=some o:=by
 obtain⟨k,hk⟩:=(bh (dH C c s)).1 h
 exact(bh (dH C _ s)).2 ⟨k+1,by simp only[bR,hc]; exact hk⟩
noncomputable def andThen[ab](C:Ctx)(b:Code):Out→Option Out
 |.norm s=>cR C b s
 |r=>some r
theorem gT[ab](a b:Code)(s:St):cR C (.seq a b) s=(cR C a s).bind (andThen C b):=by
 have h:=sT (dH C (.seq a b) s) (dH C a s) (b:=fun x k=>match x with|.norm s'=>bR C k b s'|r=>some r)
  (fun x=>by cases x with
    |norm s'=>exact dH C b s'
    |_=>exact ml _) (by simp[bR]) (fun k=>by
     simp only[bR]
     cases hq:bR C k a s with
     |none=>rfl
     |some r=>cases r<;>rfl)
 unfold cR at h ⊢
 rw[h]
 congr 1
 funext x
 cases x with
 |norm s'=>rfl
 |_=>exact gn _
noncomputable def T3[ab](C:Ctx)(a b:Code)(s:St):AV→Option Out
 |.lit (.bool t)=>cond t (cR C a s) (cR C b s)
 |_=>none
theorem kY[ab](o:Operand)(a b:Code)(s:St):cR C (.cond o a b) s=T3 C a b s (ay s.fr o):=by
 unfold T3
 split
 ·rename_i t ht
  cases t with
  |true=>exact ug (dH C _ _) (dH C _ _) (by simp[bR]) fun k=>by simp only[bR]; rw[ht]
  |false=>exact ug (dH C _ _) (dH C _ _) (by simp[bR]) fun k=>by simp only[bR]; rw[ht]
 ·rename_i hn
  refine bS (dH C _ _) (by simp[bR]) fun k=>?_
  simp only[bR]
def ui(id:Nat):Out→Option Out
 |.exit i s=>if i=id then some (.norm s) else some (.exit i s)
 |r=>some r
theorem lz[ab](id:Nat)(b:Code)(s:St):cR C (.block id b) s=(cR C b s).bind (ui id):=by
 refine eA (dH C _ _) (dH C _ _) (by simp[bR]) fun k=>?_
 simp only[bR]
 cases hq:bR C k b s with
 |none=>rfl
 |some r=>cases r<;>rfl
noncomputable def Jj[ab](C:Ctx)(b:Code)(n:Nat):Out→Option Out
 |.norm s=>cR C (.loop b) (gI n s)
 |r=>some r
theorem nd[ab](b:Code)(s:St):cR C (.loop b) s=(cR C b s).bind (Jj C b s.hp.length):=by
 have h:=sT (dH C (.loop b) s) (dH C b s) (b:=fun x k=>match x with|.norm s'=>bR C k (.loop b) (gI s.hp.length s')|r=>some r)
  (fun x=>by cases x with
    |norm s'=>exact dH C (.loop b) (gI s.hp.length s')
    |_=>exact ml _) (by simp[bR]) (fun k=>by
     rw[bR]
     cases hq:bR C k b s with
     |none=>rfl
     |some r=>cases r<;>rfl)
 unfold cR at h ⊢
 rw[h]
 congr 1
 funext x
 cases x with
 |norm s'=>rfl
 |_=>exact gn _
theorem dZ[ab](ops:Array Oper)(l:List Oper)(s:St):fH fun k=>cE (fun o s=>fG C k o s) ops l s:=
 fun k x h=>iw (fun o s r h=>(mono C k).o o s r h) ops l s x h
theorem jF[ab](ops:Array Oper):∀ (l:List Oper) (s:St),lu (fun k=>cE (fun o s=>fG C k o s) ops l s)=cE (ie C) ops l s
 |[],s=>gn _
 |o::l,s=>by
  simp only[cE]
  cases hw:cF ops s.fr o with
  |none=>exact gn _
  |some b=>
   cases b with
   |false=>exact jF ops l _
   |true=>
    simp only
    apply kN
    ·intro k x hx
     have hm:=jx C o s
     simp only at hx ⊢
     cases hq:fG C k o s with
     |none=>rw[hq]at hx; simp at hx
     |some r=>
      rw[hq]at hx
      have rf:=hm k r hq
      simp only at hx rf ⊢
      rw[rf]
      cases r with
      |norm s'=>exact dZ ops l s' k x hx
      |_=>exact hx
    ·intro k x hx
     cases hq:fG C k o s with
     |none=>rw[hq]at hx; simp at hx
     |some r=>
      rw[hq]at hx
      have h1:ie C o s=some r:=(bh (jx C o s)).2 ⟨k,hq⟩
      rw[h1]
      cases r with
      |norm s'=>
       simp only at hx ⊢
       rw[←jF ops l s']
       exact(bh (dZ ops l s')).2 ⟨k,hx⟩
      |_=>exact hx
    ·intro x hx
     cases hq:ie C o s with
     |none=>rw[hq]at hx; simp at hx
     |some r=>
      rw[hq]at hx
      obtain⟨k1,h1⟩:=(bh (jx C o s)).1 hq
      cases r with
      |norm s'=>
       simp only at hx
       rw[←jF ops l s']at hx
       obtain⟨k2,h2⟩:=(bh (dZ ops l s')).1 hx
       refine⟨k1+k2,?_⟩
       rw[(jx C o s).le h1 k2]
       simp only
       rw[Nat.add_comm]
       exact(dZ ops l s').le h2 k1
      |_=>exact⟨k1,by rw[h1]; exact hx⟩
theorem B6[ab](id:Nat)(ops:Array Oper)(s:St):cR C (.region id ops false) s=cE (ie C) ops ops.toList (gH (C.im s.fn id) s):=by
 rw[←jF]
 exact ug (dH C _ _) (dZ ops _ _) (by simp[bR]) fun k=>by simp only[bR]
noncomputable def Jk(C:Ctx)(rs:Array ResultVar):Out→Option (nL×ag)
 |.norm s=>((aU C.P s.fr rs.toList).run s.hp).map fun l=>(.val (cB l),s.hp)
 |.ret s=>((aU C.P s.fr rs.toList).run s.hp).map fun l=>(.val (cB l),s.hp)
 |.jP v s=>some (.jP v,s.hp)
 |_=>none
theorem AF[ab]{f:FuncId}{fn:Func}{c:Code}(hf:C.P.funcs[f]?=some fn)(hb:fn.body=some c)(args:List AV)(hp:ag)(hD:BO c=false:=by rfl):
  kv C f args hp=(cR C c ⟨f,args++List.replicate (fn.ntmps-args.length) .undef,hp⟩).bind (Jk C fn.results):=by
 refine eA (mi C _ _ _) (dH C _ _) (by simp[lV]) fun k=>?_
 simp only[lV,hf,hb,hD]
 cases hq:bR C k c ⟨f,args++List.replicate (fn.ntmps-args.length) .undef,hp⟩ with
 |none=>rfl
 |some r=>
  cases r with
  |norm s=>simp only[Option.bind_some,Jk]; split<;>simp_all
  |ret s=>simp only[Option.bind_some,Jk]; split<;>simp_all
  |_=>rfl
theorem ng[ab]{c:Code}{s:St}{o:Out}(h:cR C c s=some o):∃ k,∀ d,bR C (k+d) c s=some o:=by
 obtain⟨k,hk⟩:=(bh (dH C c s)).1 h
 exact⟨k,(dH C c s).le hk⟩
theorem AG[ab]:∀ (c:Code) (s:St) (r:Out×Option AV),ze (cR C) (ie C) c s=some r→∃ k,∀ d,ze (fun c s=>bR C (k+d) c s) (fun o s=>fG C (k+d) o s) c s=some r:=by
 have leaf:∀ c s (r:Out×Option AV),((cR C c s).map fun o=>(o,(none:Option AV)))=some r→∃ k,∀ d,((bR C (k+d) c s).map fun o=>(o,(none:Option AV)))=some r:=by
  intro c s r h
  cases hq:cR C c s with
  |none=>rw[hq]at h; simp at h
  |some o=>
   obtain⟨k,hk⟩:=ng hq
   exact⟨k,fun d=>by rw[hk d]; rw[hq]at h; exact h⟩
 intro c
 induction c with
 |seq x y _ Jh=>
  intro s r h
  simp only[ze]at h ⊢
  cases hd:sM x with
  |some q=>
   obtain⟨ops,v⟩:=q
   rw[hd]at h
   simp only at h ⊢
   split at h
   case h_2=>simp at h
   rename_i s1 hr
   rw[←jF]at hr
   obtain⟨k1,Pp⟩:=(bh (dZ ops _ s)).1 hr
   have h1:=(dZ (C:=C) ops _ s).le Pp
   split at h
   case h_2=>simp at h
   rename_i q cy
   cases hq:cR C y s1 with
   |none=>rw[hq]at h; simp at h
   |some o=>
    obtain⟨k2,Ex⟩:=ng hq
    refine⟨k1+k2,fun d=>?_⟩
    rw[show k1+k2+d=k1+(k2+d) by omega,h1]
    simp only[cy]
    rw[show k1+(k2+d)=k2+(k1+d) by omega,Ex]
    rw[hq]at h; exact h
  |none=>
   rw[hd]at h
   simp only at h ⊢
   split at h
   ·rename_i s' hx
    obtain⟨k1,Pp⟩:=ng hx
    obtain⟨k2,Ex⟩:=Jh _ _ h
    refine⟨k1+k2,fun d=>?_⟩
    rw[show k1+k2+d=k1+(k2+d) by omega,Pp]
    have:=Ex (k1+d)
    rw[show k2+(k1+d)=k1+(k2+d) by omega]at this
    exact this
   ·rename_i o dN hx
    obtain⟨k1,Pp⟩:=ng hx
    refine⟨k1,fun d=>?_⟩
    rw[Pp d]
    cases o with
    |norm s'=>exact(dN s' rfl).elim
    |_=>exact h
   ·simp at h
 |_=>intro s r h; simp only[ze]at h ⊢; exact leaf _ _ _ h
theorem B7[ab]{P:Program}{rs:List ResultVar}{fr:List AV}{hp:ag}{d:Option AV}{r:nL×ag}(h:tY (cR C) P rs fr hp d=some r):∃ k,∀ j,tY (fun c s=>bR C (k+j) c s) P rs fr hp d=some r:=by
 cases d with
 |none=>exact⟨0,fun _=>h⟩
 |some v=>
  simp only[tY]at h ⊢
  split at h
  ·simp at h
  rename_i g as cy
  split at h
  ·simp at h
  rename_i fg ML
  split at h
  ·simp at h
  rename_i cg MM
  cases hn:cx cg with
  |false=>rw[hn]at h; simp at h
  |true=>
   rw[hn]at h
   cases hq:cR C (nP cg) ⟨g,as++List.replicate (fg.ntmps-as.length) .undef,hp⟩ with
   |none=>rw[hq]at h; simp at h
   |some o=>
    obtain⟨k,hk⟩:=ng hq
    exact⟨k,fun j=>by simp only[ML,MM,hn,hk j]; rw[hq]at h; exact h⟩
theorem Jl[ab]{f:FuncId}{fn:Func}{c:Code}(hf:C.P.funcs[f]?=some fn)(hb:fn.body=some c){args:List AV}{hp:ag}(hD:BO c=true){r:nL×ag}
  (h:tZ (cR C) (ie C) C.P fn.results.toList c ⟨f,args++List.replicate (fn.ntmps-args.length) .undef,hp⟩=some r):kv C f args hp=some r:=by
 suffices hs:∃ k,tZ (fun c s=>bR C k c s) (fun o s=>fG C k o s) C.P fn.results.toList c ⟨f,args++List.replicate (fn.ntmps-args.length) .undef,hp⟩=some r by
  obtain⟨k,hk⟩:=hs
  exact(bh (mi C f args hp)).2 ⟨k+1,by simp only[lV,hf,hb,hD]; exact hk⟩
 unfold tZ at h
 split at h
 ·rename_i s' d hn he
  obtain⟨k1,h1⟩:=AG _ _ _ he
  obtain⟨k2,h2⟩:=B7 h
  refine⟨k1+k2,?_⟩
  unfold tZ
  rw[h1 k2,hn]
  have:=h2 k1
  rw[show k2+k1=k1+k2 by omega]at this
  exact this
 ·rename_i s' d hn he
  obtain⟨k1,h1⟩:=AG _ _ _ he
  obtain⟨k2,h2⟩:=B7 h
  refine⟨k1+k2,?_⟩
  unfold tZ
  rw[h1 k2,hn]
  have:=h2 k1
  rw[show k2+k1=k1+k2 by omega]at this
  exact this
 ·rename_i v s' hn he
  obtain⟨k1,h1⟩:=AG _ _ _ he
  refine⟨k1+0,?_⟩
  unfold tZ
  rw[h1 0,hn]
  exact h
 ·simp at h
def nh(hp:ag)(args:List AV)(q:nL×ag):Option (nL×List (Nat×aM)):=(gl args q.2 q.1).run hp
theorem MN[ab](g:FuncId)(hi:C.kp g=none)(args:List AV)(hp:ag):
  Ji C g args hp=((aN 1000 args).run hp).bind fun as=>(kv C g as []).bind (nh hp args):=by
 have h1:∀ k,(kX C (k+1) g args).run hp=((aN 1000 args).run hp).bind fun as=>(lV C k g as []).bind (nh hp args):=by
  intro k
  rw[kX,RM.run_bind]
  congr 1
  funext as
  rw[hi]
  simp only
  cases hq:lV C k g as [] with
  |none=>rfl
  |some q=>rfl
 cases hs:(aN 1000 args).run hp with
 |none=>exact bS (B5 C _ _ _) (by simp[kX,RM.ae]) fun k=>by rw[h1,hs]; rfl
 |some as=>
  refine eA (B5 C _ _ _) (mi C g as []) (by simp[kX,RM.ae]) fun k=>?_
  rw[h1,hs]; rfl
theorem Hi[ab](g:FuncId){h:List AV→Option AV}(hi:C.kp g=some h)(args:List AV)(hp:ag):
  Ji C g args hp=((aN 1000 args).run hp).bind fun as=>(h as).bind fun r=>nh hp args (.val r,[]):=by
 refine bS (B5 C _ _ _) (by simp[kX,RM.ae]) fun k=>?_
 rw[kX,RM.run_bind]
 congr 1
 funext as
 rw[hi]
 simp only
 cases hq:h as with
 |none=>rfl
 |some q=>rfl
def Jm(o:Oper)(s:St):nL×List (Nat×aM)→Option Out
 |(.val r,wr)=>some (.norm { s with fr:=bC s.fr o.dst r,hp:=ak s.hp wr })
 |(.jP v,wr)=>some (.jP v { s with hp:=ak s.hp wr })
def F8(o:Oper)(s:St):nL×ag→Option Out
 |(.val r,hp)=>some (.norm { s with fr:=bC s.fr o.dst r,hp:=gJ s.hp.length r hp })
 |(.jP v,hp)=>some (.jP v { s with hp:=gJ s.hp.length v hp })
def gD(o:Oper)(s:St)(e:dm):Option Out:=some (.norm { s with fr:=bC s.fr o.dst e.val,hp:=ak s.hp e.wr })
def pn(nm:Nat)(lg:List Nat)(hp:ag):nL×ag→Option (dm×List Nat)
 |(.val r,hX)=>((fO nm r hX).run hp).map fun e=>(e,lg)
 |_=>none
noncomputable def Ey[ab](C:Ctx)(nm:Nat)(g:FuncId)(args:List AV)(hp:ag):Option (dm×List Nat):=
 ((aN 1000 args).run hp).bind fun as=>match C.iV g with
   |some h=>(h as).bind fun q=>((fO nm q.1 q.2).run hp).map fun e=>(e,(aN 1000 args).log hp)
   |none=>(kv C g as []).bind (pn nm ((aN 1000 args).log hp) hp)
theorem xd{nm:Nat}{r:AV}{hX hp:ag}:(fO nm r hX).log hp=[]:=by
 unfold fO
 split
 ·split
  ·split<;>rfl
  ·rfl
 ·rfl
theorem zu[ab]{F:List AV→Option (nL×ag)}{nm:Nat}{g:FuncId}{args:List AV}{hp:ag}:
  ((ia C F nm g args).run hp).map (fun e=>(e,(ia C F nm g args).log hp))=((aN 1000 args).run hp).bind fun as=>match C.iV g with
    |some h=>(h as).bind fun q=>((fO nm q.1 q.2).run hp).map fun e=>(e,(aN 1000 args).log hp)
    |none=>(F as).bind (pn nm ((aN 1000 args).log hp) hp):=by
 unfold ia
 rw[RM.run_bind,RM.eu]
 cases hs:(aN 1000 args).run hp with
 |none=>rfl
 |some as=>
  simp only[Option.bind_some]
  cases hi:C.iV g with
  |some h=>
   simp only
   cases hh:h as with
   |none=>rfl
   |some q=>simp only[Option.bind_some,xd,List.append_nil]
  |none=>
   simp only
   cases hq:F as with
   |none=>rfl
   |some q=>
    obtain⟨r,hX⟩:=q
    cases r with
    |val v=>simp only[Option.bind_some,pn,xd,List.append_nil]
    |jP v=>rfl
theorem Ez[ab]{F:List AV→Option (nL×ag)}{nm:Nat}{g:FuncId}{args:List AV}{hp:ag}:
  (ia C F nm g args).run hp=(((aN 1000 args).run hp).bind fun as=>match C.iV g with
    |some h=>(h as).bind fun q=>((fO nm q.1 q.2).run hp).map fun e=>(e,(aN 1000 args).log hp)
    |none=>(F as).bind (pn nm ((aN 1000 args).log hp) hp)).map Prod.fst:=by
 rw[←zu]
 cases (ia C F nm g args).run hp<;>rfl
noncomputable def rh[ab](C:Ctx)(o:Oper)(s:St):FuncId×List AV→Option Out
 |(g,args)=>match au o.op with
  |true=>(Ey C s.hp.length g args s.hp).bind fun q=>gD o s q.1
  |false=>match C.kind g with
   |.pure=>(Ji C g args s.hp).bind (Jm o s)
   |.imp=>(kv C g args s.hp).bind (F8 o s)
theorem B8{run:Code→St→Option Out}{ev:Nat→Code→St→Option Out}(hg:∀ c s,fH fun k=>ev k c s)(hl:∀ c s r,run c s=some r→∃ k,ev k c s=some r)
  {n:Nat} {args:List AV} {dst:Option Tmp} {s:St} {r:Out} (hy:gK run n args dst s=some r):∃ k,gK (ev k) n args dst s=some r:=by
 unfold gK at hy ⊢
 split at hy
 case h_2=>simp at hy
 rename_i fn ps as bd fr ho
 split at hy
 case h_2=>simp at hy
 rename_i hc
 split at hy
 case h_2=>simp at hy
 rename_i s1 h1
 obtain⟨k1,e1⟩:=hl _ _ _ h1
 split at hy
 case h_2=>simp at hy
 rename_i h2
 have two:∀ o,run bd { s1 with hp:=oF s1.hp n .busy }=some o→∃ k,ev k as ⟨fn,fF fr ps.toList args,s.hp⟩=some (.norm s1)∧ev k bd { s1 with hp:=oF s1.hp n .busy }=some o:=by
  intro o h3
  obtain⟨k2,e2⟩:=hl _ _ _ h3
  exact⟨k1+k2,(hg _ _).le e1 k2,by rw[Nat.add_comm]; exact(hg _ _).le e2 k1⟩
 split at hy
 ·rename_i s2 h3
  obtain⟨k,a,b⟩:=two _ h3
  exact⟨k,by simp only[a,h2,b]; exact hy⟩
 ·rename_i id s2 h3
  obtain⟨k,a,b⟩:=two _ h3
  exact⟨k,by simp only[a,h2,b]; exact hy⟩
 ·rename_i s2 h3
  obtain⟨k,a,b⟩:=two _ h3
  exact⟨k,by simp only[a,h2,b]; exact hy⟩
 ·simp at hy
noncomputable def Jn[ab](C:Ctx)(o:Oper)(s:St)(args:List AV):AV→Option Out
 |.mp true n=>gK (fun c s=>cR C c s) n args o.dst s
 |_=>none
noncomputable def nU[ab](C:Ctx)(o:Oper)(s:St)(args:List AV)(fv:AV):Option (FuncId×List AV)→Option Out
 |some q=>rh C o s q
 |none=>Jn C o s args fv
noncomputable def Rw[ab](s:St):nL×ag→Option Out
 |(.val _,wk)=>vk s s.hp.length wk
 |_=>none
theorem EA[ab](f:Operand)(ps:Array Tmp)(as bd:Code)(s:St):cR C (.rangeFunc f ps as bd) s =
  (bA (ay s.fr f) [.mp true s.hp.length]).bind fun q=>(kv C q.1 q.2 (s.hp++[some (.gh (.loop s.fn ps as bd .ready) (tX as bd s.fr))])).bind (Rw s):=by
 cases hr:bA (ay s.fr f) [.mp true s.hp.length] with
 |none=>exact bS (dH C _ _) (by simp[bR]) fun k=>by simp only[bR,hr]; rfl
 |some q=>
  obtain⟨g,args⟩:=q
  simp only[Option.bind_some]
  refine eA (dH C _ _) (mi C g args _) (by simp[bR]) fun k=>?_
  simp only[bR,hr]
  cases hq:lV C k g args (s.hp++[some (.gh (.loop s.fn ps as bd .ready) (tX as bd s.fr))]) with
  |none=>rfl
  |some q=>obtain⟨r,wk⟩:=q; cases r<;>rfl
theorem ni[ab]{dst:Option Tmp}{f:Operand}{args:Array Operand}{mf:Array TypeId}{type:TypeId}{pos:String}{after:Array Edge}{guard:Option (Nat×Bool)}(s:St):
  ie C ⟨dst,.call ⟨.value f,args,mf⟩,type,pos,after,guard⟩ s=nU C ⟨dst,.call ⟨.value f,args,mf⟩,type,pos,after,guard⟩ s (args.toList.map (ay s.fr)) (ay s.fr f)
   (bA (ay s.fr f) (args.toList.map (ay s.fr))):=by
 cases hr:bA (ay s.fr f) (args.toList.map (ay s.fr)) with
 |none=>
  simp only[nU,Jn]
  split
  ·rename_i n hn
   have dG:∀ k,fG C (k+1) ⟨dst,.call ⟨.value f,args,mf⟩,type,pos,after,guard⟩ s=gK (fun c s=>bR C k c s) n (args.toList.map (ay s.fr)) dst s:=fun k=>by simp only[fG,hr]; rw[hn]
   apply kN (jx C _ _)
   ·intro k x hx
    cases k with
    |zero=>simp[fG]at hx
    |succ k=>
     rw[dG]at hx
     exact vq (fun c s r h=>(bh (dH C c s)).2 ⟨k,h⟩) hx
   ·intro x hx
    obtain⟨k,hk⟩:=B8 (fun c s=>dH C c s) (fun c s r h=>(bh (dH C c s)).1 h) hx
    exact⟨k+1,by rw[dG]; exact hk⟩
  ·rename_i dN
   refine bS (jx C _ _) (by simp[fG]) fun k=>?_
   simp only[fG,hr]
 |some q=>
  obtain⟨g,as⟩:=q
  simp only[nU,rh]
  cases pk:au (Op.call ⟨.value f,args,mf⟩) with
  |true=>
   have dG:∀ k,fG C (k+1) ⟨dst,.call ⟨.value f,args,mf⟩,type,pos,after,guard⟩ s =
     (((aN 1000 as).run s.hp).bind fun nV=>match C.iV g with
       |some h=>(h nV).bind fun q=>((fO s.hp.length q.1 q.2).run s.hp).map fun e=>(e,(aN 1000 as).log s.hp)
       |none=>(lV C k g nV []).bind (pn s.hp.length ((aN 1000 as).log s.hp) s.hp)).bind fun q=>gD ⟨dst,.call ⟨.value f,args,mf⟩,type,pos,after,guard⟩ s q.1:=by
    intro k
    simp only[fG,hr,pk,Ez]
    cases (((aN 1000 as).run s.hp).bind fun nV=>match C.iV g with
      |some h=>(h nV).bind fun q=>((fO s.hp.length q.1 q.2).run s.hp).map fun e=>(e,(aN 1000 as).log s.hp)
      |none=>(lV C k g nV []).bind (pn s.hp.length ((aN 1000 as).log s.hp) s.hp))<;>rfl
   simp only[Ey]
   cases hs:(aN 1000 as).run s.hp with
   |none=>exact bS (jx C _ _) (by simp[fG]) fun k=>by rw[dG,hs]; rfl
   |some nV=>
    simp only[Option.bind_some]
    cases hi:C.iV g with
    |some h=>exact bS (jx C _ _) (by simp[fG]) fun k=>by rw[dG,hs]; simp only[Option.bind_some,hi]
    |none=>
     simp only[Option.bind_assoc]
     refine eA (jx C _ _) (mi C g nV []) (by simp[fG]) fun k=>?_
     rw[dG,hs]
     simp only[Option.bind_some,hi,Option.bind_assoc]
  |false=>
  simp only
  cases hk:C.kind g with
  |pure=>
   refine eA (jx C _ _) (B5 C g as s.hp) (by simp[fG]) fun k=>?_
   simp only[fG,hr,pk,hk]
   cases hq:(kX C k g as).run s.hp with
   |none=>rfl
   |some q=>obtain⟨r,wr⟩:=q; cases r<;>rfl
  |imp=>
   refine eA (jx C _ _) (mi C g as s.hp) (by simp[fG]) fun k=>?_
   simp only[fG,hr,pk,hk]
   cases hq:lV C k g as s.hp with
   |none=>rfl
   |some q=>obtain⟨r,wr⟩:=q; cases r<;>rfl
theorem zw[ab]{dst:Option Tmp}{rv:Operand}{name:String}{args:Array Operand}{mf:Array TypeId}{type:TypeId}{pos:String}{after:Array Edge}{guard:Option (Nat×Bool)}(s:St):
  ie C ⟨dst,.call ⟨.invoke rv name,args,mf⟩,type,pos,after,guard⟩ s=(pb C.P (ay s.fr rv) name).bind fun q=>rh C ⟨dst,.call ⟨.invoke rv name,args,mf⟩,type,pos,after,guard⟩ s (q.1,q.2::args.toList.map (ay s.fr)):=by
 cases hr:pb C.P (ay s.fr rv) name with
 |none=>exact bS (jx C _ _) (by simp[fG]) fun k=>by simp only[fG,hr]; rfl
 |some q=>
  obtain⟨g,x⟩:=q
  simp only[Option.bind_some,rh]
  have pk:au (Op.call ⟨.invoke rv name,args,mf⟩)=false:=rfl
  rw[pk]
  simp only
  cases hk:C.kind g with
  |pure=>
   refine eA (jx C _ _) (B5 C g _ s.hp) (by simp[fG]) fun k=>?_
   simp only[fG,hr,hk]
   cases hq:(kX C k g (x::args.toList.map (ay s.fr))).run s.hp with
   |none=>rfl
   |some q=>obtain⟨r,wr⟩:=q; cases r<;>rfl
  |imp=>
   refine eA (jx C _ _) (mi C g _ s.hp) (by simp[fG]) fun k=>?_
   simp only[fG,hr,hk]
   cases hq:lV C k g (x::args.toList.map (ay s.fr)) s.hp with
   |none=>rfl
   |some q=>obtain⟨r,wr⟩:=q; cases r<;>rfl
def qf:Op→Bool
 |.call c=>match c.callee with
  |.builtin _=>true
  |_=>false
 |.assign (.const (.slice none 0 0))=>false
 |_=>true
def F9(C:Ctx)(o:Oper)(s:St)(e:dm):Option Out:=some (.norm (BN (match o.op with|.call _=>fun _=>[]|_=>C.qN s.fn) o.dst { s with fr:=bC s.fr o.dst e.val,hp:=ak s.hp e.wr }))
theorem xe{dst:Option Tmp}{s:St}:BN (fun _=>[]) dst s=s:=by cases dst<;>rfl
theorem xf[ab]{o:Oper}(h:qf o.op=true)(s:St):ie C o s=((aK C.P s.hp.length (ay s.fr) o).run s.hp).bind (F9 C o s):=by
 refine bS (jx C _ _) (by simp[fG]) fun k=>?_
 obtain⟨dst,op,type,pos,after,guard⟩:=o
 rw[fG]
 split
 ·grind[F9,xe,qf]
 ·simp_all[qf]
 ·grind[F9]
class jG(C:Ctx):Prop where
 h:C.qN=fun _ _=>[]
 im:C.im=fun _ _=>[]
theorem eO[ab][jG C]{o:Oper}(h:qf o.op=true)(s:St):ie C o s=((aK C.P s.hp.length (ay s.fr) o).run s.hp).bind (gD o s):=by
 rw[xf h]
 congr 1
 funext e
 have hl:(match o.op with|.call _=>fun _=>[]|_=>C.qN s.fn)=fun _=>[]:=by
  rw[jG.h (C:=C)]; cases o.op<;>rfl
 simp only[F9,hl,xe,gD]
theorem Jo[ab]{dst:Tmp}{type:TypeId}{pos:String}{after:Array Edge}{guard:Option (Nat×Bool)}(s:St):
  ie C ⟨some dst,.assign (.const (.slice none 0 0)),type,pos,after,guard⟩ s =
   cond (C.acc s.fn dst) ((aO C.P type).bind fun r=>if 0<r.size then some (.norm { s with fr:=s.fr.set dst (.bq r.size s.hp.length 0 0 0 none),hp:=s.hp++[some (.arr true true false [])] }) else none)
    (some (.norm { s with fr:=s.fr.set dst (.lit cK) })):=by
 refine bS (jx C _ _) (by simp[fG]) fun k=>?_
 simp only[fG]
 cases C.acc s.fn dst with
 |true=>
  simp only[if_true,cond_true]
  cases aO C.P type<;>rfl
 |false=>rfl
end Go.PI
end
section
/- PI, drawn regions without fuel. -/
namespace Go.PI
variable {C:Ctx}
noncomputable def B9[ab](C:Ctx)(nm:Nat)(o:Oper)(fr:List AV)(hp:ag):Option (dm×List Nat):=
 lu fun k=>((iq C k nm o fr).run hp).map fun e=>(e,(iq C k nm o fr).log hp)
theorem Ga[ab](C:Ctx)(nm:Nat)(o:Oper)(fr:List AV)(hp:ag):fH fun k=>((iq C k nm o fr).run hp).map fun e=>(e,(iq C k nm o fr).log hp):=by
 intro k x h
 simp only at h ⊢
 cases hq:(iq C k nm o fr).run hp with
 |none=>rw[hq]at h; simp at h
 |some e=>
  obtain⟨h1,h2⟩:=(mono C k).e nm o fr hp e hq
  rw[hq]at h
  rw[h1,h2]
  exact h
def Pq[ab](x:Item)(s:St):dm×List Nat→Option (St×ft)
 |(e,lg)=>
  if e.wr.all (fun q=>decide (q.1<s.hp.length)&&((au x.o.op&&decide (q.1=x.nm))||(match s.hp[q.1]? with|some (some _)=>true|_=>false)))=true then
   some ({ s with fr:=bC s.fr x.o.dst e.val,hp:=ak s.hp e.wr },⟨x.idx,lg,e.wr.map (·.1)⟩)
  else none
noncomputable def Ca[ab](C:Ctx)(ops:Array Oper)(x:Item)(s:St):Option (St×ft):=
 match cF ops s.fr x.o with
 |none=>none
 |some false=>some ({ s with fr:=bC s.fr x.o.dst .undef },⟨x.idx,[],[]⟩)
 |some true=>(B9 C (x.at s.hp.length) x.o s.fr s.hp).bind (Pq x s)
noncomputable def sU[ab](C:Ctx)(ops:Array Oper):List Item→St→Option (St×List ft)
 |[],s=>some (s,[])
 |x::rest,s=>(Ca C ops x s).bind fun q=>(sU C ops rest q.1).map fun q'=>(q'.1,q.2::q'.2)
theorem xg[ab](ops:Array Oper)(x:Item)(s:St):fH fun k=>fc (fun nm o fr=>iq C k nm o fr) ops x s:=
 fun k r h=>xa (fun nm o fr hp=>(mono C k).e nm o fr hp) ops x s r h
theorem po[ab](ops:Array Oper)(l:List Item)(s:St):fH fun k=>cr (fun nm o fr=>iq C k nm o fr) ops l s:=
 fun k r h=>nT (fun nm o fr hp=>(mono C k).e nm o fr hp) ops l s r h
theorem Gb[ab]{α β:Type}{a:Nat→Option α}(ha:fH a)(f:α→Option β):lu (fun k=>(a k).bind f)=(lu a).bind f:=by
 apply kN
 ·intro k x h
  cases hq:a k with
  |none=>simp[hq]at h
  |some y=>
   have h2:=ha k y hq
   simp only[hq]at h
   simp only[h2]
   exact h
 ·intro k x h
  cases hq:a k with
  |none=>simp[hq]at h
  |some y=>simp only[hq]at h; rw[(bh ha).2 ⟨k,hq⟩]; exact h
 ·intro x h
  cases hq:lu a with
  |none=>rw[hq]at h; simp at h
  |some y=>
   rw[hq]at h
   obtain⟨k,hk⟩:=(bh ha).1 hq
   exact⟨k,by rw[hk]; exact h⟩
theorem Hj[ab](ops:Array Oper)(x:Item)(s:St):lu (fun k=>fc (fun nm o fr=>iq C k nm o fr) ops x s)=Ca C ops x s:=by
 unfold Ca
 cases hw:cF ops s.fr x.o with
 |none=>simp only[fc,hw]; exact gn _
 |some b=>
  cases b with
  |false=>simp only[fc,hw]; exact gn _
  |true=>
   rw[show (fun k=>fc (fun nm o fr=>iq C k nm o fr) ops x s)=fun k=>(((iq C k (x.at s.hp.length) x.o s.fr).run s.hp).map fun e=>(e,(iq C k (x.at s.hp.length) x.o s.fr).log s.hp)).bind (Pq x s) from ?_]
   ·exact Gb (Ga C (x.at s.hp.length) x.o s.fr s.hp) _
   ·funext k
    simp only[fc,hw]
    cases hq:(iq C k (x.at s.hp.length) x.o s.fr).run s.hp<;>rfl
theorem pq[ab](ops:Array Oper):∀ (l:List Item) (s:St),lu (fun k=>cr (fun nm o fr=>iq C k nm o fr) ops l s)=sU C ops l s
 |[],s=>gn _
 |x::l,s=>by
  simp only[sU]
  rw[←Hj]
  apply kN (po ops (x::l) s)
  ·intro k r h
   simp only[cr]at h
   cases hq:fc (fun nm o fr=>iq C k nm o fr) ops x s with
   |none=>rw[hq]at h; simp at h
   |some q=>
    obtain⟨s1,f⟩:=q
    rw[hq]at h
    simp only at h
    rw[(bh (xg ops x s)).2 ⟨k,hq⟩]
    cases hd:cr (fun nm o fr=>iq C k nm o fr) ops l s1 with
    |none=>rw[hd]at h; simp at h
    |some q2=>
     rw[hd]at h
     simp only[Option.bind_some]
     rw[←pq ops l s1,(bh (po ops l s1)).2 ⟨k,hd⟩]
     exact h
  ·intro r h
   cases hq:lu (fun k=>fc (fun nm o fr=>iq C k nm o fr) ops x s) with
   |none=>rw[hq]at h; simp at h
   |some q=>
    obtain⟨s1,f⟩:=q
    rw[hq]at h
    simp only[Option.bind_some]at h
    rw[←pq ops l s1]at h
    cases hd:lu (fun k=>cr (fun nm o fr=>iq C k nm o fr) ops l s1) with
    |none=>rw[hd]at h; simp at h
    |some q2=>
     rw[hd]at h
     obtain⟨k1,h1⟩:=(bh (xg ops x s)).1 hq
     obtain⟨k2,h2⟩:=(bh (po ops l s1)).1 hd
     have h3:=(xg ops x s).le h1 k2
     have h4:=(po ops l s1).le h2 k1
     rw[Nat.add_comm]at h4
     refine⟨k1+k2,?_⟩
     simp only[cr]
     rw[h3]
     simp only
     rw[h4]
     exact h
noncomputable def Gc[ab](C:Ctx)(ops:Array Oper)(m:Nat)(q:St×List ft):Option Out:=
 if (eU (bX ops.toList) q.2&&mC (bX ops.toList) ops.size m)=true then cE (ie C) ops (ops.toList.drop m) q.1 else none
theorem Hk[ab](id:Nat)(ops:Array Oper)(h:sL ops=true)(s:St):cR C (.region id ops true) s =
  (sU C ops (bD 0 s.hp.length (ops.toList.take (C.head s.fn id ops))) { gH (C.im s.fn id) s with hp:=(gH (C.im s.fn id) s).hp++List.replicate ((ops.toList.take (C.head s.fn id ops)).filter fun o=>au o.op).length none }).bind (Gc C ops (C.head s.fn id ops)):=by
 rw[←pq]
 refine Eq.trans (sT (dH C (.region id ops true) s) (po ops _ _) (b:=fun q k=>if (eU (bX ops.toList) q.2&&mC (bX ops.toList) ops.size (C.head s.fn id ops))=true then
   cE (fun o s=>fG C k o s) ops (ops.toList.drop (C.head s.fn id ops)) q.1 else none) (fun q=>by
    by_cases hc:(eU (bX ops.toList) q.2&&mC (bX ops.toList) ops.size (C.head s.fn id ops))=true
    ·simp only[hc,if_true]; exact dZ ops _ _
    ·simp only[hc]; exact ml _) (by simp[bR]) (fun k=>by
   simp only[bR,h,if_true]
   cases hq:cr (fun nm o fr=>iq C k nm o fr) ops (bD 0 s.hp.length (ops.toList.take (C.head s.fn id ops))) { gH (C.im s.fn id) s with hp:=(gH (C.im s.fn id) s).hp++List.replicate ((ops.toList.take (C.head s.fn id ops)).filter fun o=>au o.op).length none } with
   |none=>rfl
   |some q=>rfl)) ?_
 congr 1
 funext q
 unfold Gc
 by_cases hc:(eU (bX ops.toList) q.2&&mC (bX ops.toList) ops.size (C.head s.fn id ops))=true
 ·simp only[hc,if_true]; exact jF ops _ _
 ·simp only[hc]; exact gn _
theorem EB[ab]{o:Oper}(h:∀ c f,o.op=.call c→c.callee=.value f→False)(h2:∀ c m i,o.op=.call c→c.callee=.invoke m i→False)(nm:Nat)(fr:List AV)(hp:ag):
  B9 C nm o fr hp=((aK C.P nm (ay fr) o).run hp).map fun e=>(e,(aK C.P nm (ay fr) o).log hp):=by
 refine bS (Ga C _ _ _ _) (by simp[iq,RM.ae]) fun k=>?_
 obtain⟨dst,op,type,pos,after,guard⟩:=o
 cases op with
 |call c=>
  obtain⟨callee,args,mf⟩:=c
  cases callee with
  |builtin b=>simp only[iq]
  |value f=>exact(h _ _ rfl rfl).elim
  |invoke m i=>exact(h2 _ _ _ rfl rfl).elim
 |_=>simp only[iq]
def Jp(hp:ag)(args:List AV)(q:nL×ag):List Nat:=(aN 1000 args).log hp++(gl args q.2 q.1).log hp
def nj(hp:ag)(args:List AV)(q:nL×ag):Option (dm×List Nat):=
 (nh hp args q).bind fun r=>match r.1 with
   |.val v=>some (⟨v,r.2⟩,Jp hp args q)
   |.jP _=>none
noncomputable def pt[ab](C:Ctx)(nm:Nat)(al:Bool)(hp:ag):FuncId×List AV→Option (dm×List Nat)
 |(g,args)=>match al with
  |true=>Ey C nm g args hp
  |false=>match C.kind g with
  |.pure=>match C.kp g with
   |some h=>((aN 1000 args).run hp).bind fun as=>(h as).bind fun r=>nj hp args (.val r,[])
   |none=>((aN 1000 args).run hp).bind fun as=>(kv C g as []).bind (nj hp args)
  |.imp=>(match C.qX g with
   |some h=>((h args).run hp).map fun e=>(e,(h args).log hp)
   |none=>((yF C.P nm g args).run hp).map fun e=>(e,(yF C.P nm g args).log hp))
theorem Jq[ab]{hp:ag}{args as:List AV}{g:FuncId}{k:Nat}(hs:(aN 1000 args).run hp=some as)(hi:C.kp g=none){q:nL×ag}(hq:lV C k g as []=some q):
  (((kX C (k+1) g args >>= fun (x:nL×List (Nat×aM))=>match x.1 with|.val r=>(pure ⟨r,x.2⟩:RM dm)|.jP _=>RM.fail).run hp).map fun e=>(e,(kX C (k+1) g args >>= fun (x:nL×List (Nat×aM))=>match x.1 with|.val r=>(pure ⟨r,x.2⟩:RM dm)|.jP _=>RM.fail).log hp))=nj hp args q:=by
 have h1:(kX C (k+1) g args).run hp=nh hp args q:=by
  rw[kX,RM.run_bind,hs]
  simp only[Option.bind_some,hi,hq]
  rfl
 have h2:(kX C (k+1) g args).log hp=Jp hp args q:=by
  rw[kX,RM.eu,hs]
  simp only[hi,hq]
  rfl
 rw[RM.run_bind,RM.eu,h1,h2]
 unfold nj
 cases cq:nh hp args q with
 |none=>rfl
 |some r=>
  obtain⟨r,wr⟩:=r
  cases r with
  |val v=>simp only[Option.bind_some,pure,RM.log,List.append_nil]; rfl
  |jP v=>rfl
theorem xh[ab]{o:Oper}{nm:Nat}{fr:List AV}{hp:ag}{g:FuncId}{as:List AV}(hk:C.kind g=.pure)
  (nW:∀ k,iq C (k+1) nm o fr=(kX C k g as >>= fun (x:nL×List (Nat×aM))=>match x.1 with|.val r=>(pure ⟨r,x.2⟩:RM dm)|.jP _=>RM.fail)) :
  B9 C nm o fr hp=pt C nm false hp (g,as):=by
 have hg:=Ga C nm o fr hp
 have hz:((iq C 0 nm o fr).run hp).map (fun e=>(e,(iq C 0 nm o fr).log hp))=none:=by
  simp[iq,RM.ae]
 simp only[pt,hk]
 cases hs:(aN 1000 as).run hp with
 |none=>
  have bg:∀ k,(kX C k g as).run hp=none:=by
   intro k
   cases k with
   |zero=>simp[kX,RM.ae]
   |succ k=>rw[kX,RM.run_bind,hs]; rfl
  have:(match C.kp g with
    |some h=>(none:Option (List AV)).bind fun nV=>(h nV).bind fun r=>nj hp as (.val r,[])
    |none=>(none:Option (List AV)).bind fun nV=>(kv C g nV []).bind (nj hp as))=none:=by cases C.kp g<;>rfl
  rw[this]
  refine bS hg hz fun k=>?_
  rw[nW,RM.run_bind,bg]; rfl
 |some nV=>
  cases hi:C.kp g with
  |some h=>
   simp only[Option.bind_some]
   have h1:∀ k,(kX C (k+1) g as).run hp=(h nV).bind fun r=>nh hp as (.val r,[]):=by
    intro k
    rw[kX,RM.run_bind,hs]
    simp only[Option.bind_some,hi]
    cases h nV<;>rfl
   have h2:∀ k,(kX C (k+1) g as).log hp=(aN 1000 as).log hp++(match h nV with|some r=>(gl as [] (.val r)).log hp|none=>[]):=by
    intro k
    rw[kX,RM.eu,hs]
    simp only[hi]
    cases h nV<;>rfl
   have h3:∀ k,((iq C (k+1+1) nm o fr).run hp).map (fun e=>(e,(iq C (k+1+1) nm o fr).log hp))=(h nV).bind fun r=>nj hp as (.val r,[]):=by
    intro k
    rw[nW,RM.run_bind,RM.eu,h1,h2]
    cases hh:h nV with
    |none=>rfl
    |some r=>
     simp only[Option.bind_some,nj]
     cases cq:nh hp as (.val r,[]) with
     |none=>rfl
     |some r=>
      obtain⟨r,wr⟩:=r
      cases r with
      |val v=>simp only[Option.bind_some,pure,RM.log,List.append_nil]; rfl
      |jP v=>rfl
   apply kN hg
   ·intro k x hx
    match k with
    |0=>rw[hz]at hx; cases hx
    |1=>
     rw[nW,RM.run_bind]at hx
     simp[kX,RM.ae]at hx
    |k+2=>rw[←h3 k]; exact hx
   ·intro x hx
    exact⟨2,by rw[h3 0]; exact hx⟩
  |none=>
   simp only[Option.bind_some]
   have h3:∀ k,((iq C (k+1+1) nm o fr).run hp).map (fun e=>(e,(iq C (k+1+1) nm o fr).log hp))=(lV C k g nV []).bind (nj hp as):=by
    intro k
    cases hq:lV C k g nV [] with
    |none=>
     rw[nW,RM.run_bind,kX,RM.run_bind,hs]
     simp only[Option.bind_some,hi,hq,RM.ae]
     rfl
    |some q=>
     rw[nW]
     exact Jq hs hi hq
   have hb:lu (fun k=>(lV C k g nV []).bind (nj hp as))=(kv C g nV []).bind (nj hp as):=Gb (mi C g nV []) _
   rw[←hb]
   apply kN hg
   ·intro k x hx
    match k with
    |0=>rw[hz]at hx; cases hx
    |1=>
     rw[nW,RM.run_bind]at hx
     simp[kX,RM.ae]at hx
    |k+2=>
     rw[h3 k]at hx
     rw[hb]
     cases hq:lV C k g nV [] with
     |none=>rw[hq]at hx; simp at hx
     |some q=>rw[hq]at hx; rw[show kv C g nV []=some q from (bh (mi C g nV [])).2 ⟨k,hq⟩]; exact hx
   ·intro x hx
    rw[hb]at hx
    cases hq:kv C g nV [] with
    |none=>rw[hq]at hx; simp at hx
    |some q=>
     rw[hq]at hx
     obtain⟨k,hk⟩:=(bh (mi C g nV [])).1 hq
     exact⟨k+1+1,by rw[h3 k,hk]; exact hx⟩
theorem Hl[ab]{dst:Option Tmp}{rv:Operand}{name:String}{args:Array Operand}{mf:Array TypeId}{type:TypeId}{pos:String}{after:Array Edge}{guard:Option (Nat×Bool)}{nm:Nat}{fr:List AV}{hp:ag}{g:FuncId}{x:AV}
  (hr:pb C.P (ay fr rv) name=some (g,x)) (hk:C.kind g=.pure):B9 C nm ⟨dst,.call ⟨.invoke rv name,args,mf⟩,type,pos,after,guard⟩ fr hp=pt C nm false hp (g,x::args.toList.map (ay fr)):=by
 refine xh hk fun k=>?_
 simp only[iq,hr,hk]
 congr 1
theorem uj[ab]{dst:Option Tmp}{f:Operand}{args:Array Operand}{mf:Array TypeId}{type:TypeId}{pos:String}{after:Array Edge}{guard:Option (Nat×Bool)}(nm:Nat)(fr:List AV)(hp:ag):
  B9 C nm ⟨dst,.call ⟨.value f,args,mf⟩,type,pos,after,guard⟩ fr hp=(bA (ay fr f) (args.toList.map (ay fr))).bind (pt C nm (au (Op.call ⟨.value f,args,mf⟩)) hp):=by
 have hg:=Ga C nm ⟨dst,.call ⟨.value f,args,mf⟩,type,pos,after,guard⟩ fr hp
 have hz:((iq C 0 nm ⟨dst,.call ⟨.value f,args,mf⟩,type,pos,after,guard⟩ fr).run hp).map (fun e=>(e,(iq C 0 nm ⟨dst,.call ⟨.value f,args,mf⟩,type,pos,after,guard⟩ fr).log hp))=none:=by
  simp[iq,RM.ae]
 cases hr:bA (ay fr f) (args.toList.map (ay fr)) with
 |none=>exact bS hg hz fun k=>by simp only[iq,hr,RM.ae]; rfl
 |some q=>
  obtain⟨g,as⟩:=q
  simp only[Option.bind_some,pt]
  cases pk:au (Op.call ⟨.value f,args,mf⟩) with
  |true=>
   have dG:∀ k,((iq C (k+1) nm ⟨dst,.call ⟨.value f,args,mf⟩,type,pos,after,guard⟩ fr).run hp).map (fun e=>(e,(iq C (k+1) nm ⟨dst,.call ⟨.value f,args,mf⟩,type,pos,after,guard⟩ fr).log hp)) =
     ((aN 1000 as).run hp).bind fun nV=>match C.iV g with
       |some h=>(h nV).bind fun q=>((fO nm q.1 q.2).run hp).map fun e=>(e,(aN 1000 as).log hp)
       |none=>(lV C k g nV []).bind (pn nm ((aN 1000 as).log hp) hp):=by
    intro k
    have:=zu (C:=C) (F:=fun as=>lV C k g as []) (nm:=nm) (g:=g) (args:=as) (hp:=hp)
    simp only[iq,hr,pk]
    exact this
   simp only[Ey]
   cases hs:(aN 1000 as).run hp with
   |none=>exact bS hg hz fun k=>by rw[dG,hs]; rfl
   |some nV=>
    simp only[Option.bind_some]
    cases hi:C.iV g with
    |some h=>exact bS hg hz fun k=>by rw[dG,hs]; simp only[Option.bind_some,hi]
    |none=>
     refine eA hg (mi C g nV []) hz fun k=>?_
     rw[dG,hs]
     simp only[Option.bind_some,hi]
  |false=>
  simp only
  cases hk:C.kind g with
  |imp=>
   cases hi:C.qX g with
   |some h=>exact bS hg hz fun k=>by simp only[iq,hr,pk,hk,hi]
   |none=>exact bS hg hz fun k=>by simp only[iq,hr,pk,hk,hi]
  |pure=>
   rw[xh (g:=g) (as:=as) hk fun k=>by
    simp only[iq,hr,pk,hk]
    congr 1]
   simp only[pt,hk]
end Go.PI
end
section
/- PI, guards resolved. -/
namespace Go.PI
inductive G where
 |always
 |never
 |on (d:Tmp) (w:Bool)
def eV(ops:Array Oper)(o:Oper):G:=
 match o.guard with
 |none=>.always
 |some (j,w)=>match (ops[j]?).bind (·.dst) with
  |none=>.never
  |some d=>.on d w
def Rn(w:Bool):AV→Option Bool
 |.lit (.bool b)=>some (b==w)
 |.lit (.tuple _)=>some false
 |_=>none
def sO(fr:List AV):G→Option Bool
 |.always=>some true
 |.never=>some false
 |.on d w=>Rn w (fr.getD d .undef)
theorem BP(ops:Array Oper)(fr:List AV)(o:Oper):cF ops fr o=sO fr (eV ops o):=by
 unfold cF eV
 cases o.guard with
 |none=>rfl
 |some q=>
  obtain⟨j,w⟩:=q
  simp only
  cases (ops[j]?).bind (·.dst) with
  |none=>rfl
  |some d=>
   simp only[sO,List.getD]
   cases hq:fr[d]? with
   |none=>rfl
   |some v=>
    simp only[Option.getD_some]
    cases v with
    |lit v=>cases v<;>rfl
    |_=>rfl
end Go.PI
end
section
/- PI, looking up in written-out frames. -/
namespace Go.PI
section
variable {α:Type}{x u v:AV}{l:List AV}{n:Nat}
theorem Mx:(x::l).getD 0 u=x:=rfl
theorem My:(x::l).getD (n+1) u=l.getD n u:=rfl
theorem Mz:(x::l).set 0 v=v::l:=rfl
theorem MA:(x::l).set (n+1) v=x::l.set n v:=rfl
end
end Go.PI
end
section
/- PI, laws to compute by. -/
namespace Go.PI
abbrev int(n:Int):AV:=.lit (.int .i64 n)
abbrev bol(b:Bool):AV:=.lit (.bool b)
section
variable {P:Program}{t:TypeId}{xo yo:Operand}{k:IntKind}{a b:Int}
theorem eC{op:BinOp}{v w:Value}{α:Type}(K:Unit→Sem α)(h:∀ c,v≠.agg c)(h2:v≠.nilIface):
  bu P (eqGuard op t xo yo v w >>= K)=bu P (K ()):=by
 unfold eqGuard
 cases op<;>first
  |rfl
  |(cases v<;>first|rfl|exact absurd rfl (h _)|exact absurd rfl h2)
theorem qj[ab]:fq P .lss t xo yo (.lit (.int k a)) (.lit (.int k b))=some (bol (decide (a<b))):=by
 simp only[fq,ej,db]; rw[eC _ (by simp) (by simp)]; simp[binOp,Op.intCmp]; rfl
theorem MR[ab]:fq P .leq t xo yo (.lit (.int k a)) (.lit (.int k b))=some (bol (decide (a≤b))):=by
 simp only[fq,ej,db]; rw[eC _ (by simp) (by simp)]; simp[binOp,Op.intCmp]; rfl
theorem Gg[ab]:fq P .gtr t xo yo (.lit (.int k a)) (.lit (.int k b))=some (bol (decide (b<a))):=by
 simp only[fq,ej,db]; rw[eC _ (by simp) (by simp)]; simp[binOp,Op.intCmp]; rfl
theorem MS[ab]:fq P .geq t xo yo (.lit (.int k a)) (.lit (.int k b))=some (bol (decide (b≤a))):=by
 simp only[fq,ej,db]; rw[eC _ (by simp) (by simp)]; simp[binOp,Op.intCmp]; rfl
theorem MT[ab]:fq P .eql t xo yo (.lit (.int k a)) (.lit (.int k b))=some (bol (decide (a=b))):=by
 simp only[fq,ej,db]; rw[eC _ (by simp) (by simp)]; simp[binOp,Op.intCmp]; rfl
theorem MU[ab]:fq P .neq t xo yo (.lit (.int k a)) (.lit (.int k b))=some (bol (!decide (a=b))):=by
 simp only[fq,ej,db]; rw[eC _ (by simp) (by simp)]; simp[binOp,Op.intCmp]; rfl
theorem AO[ab]:fq P .add t xo yo (.lit (.int k a)) (.lit (.int k b))=some (.lit (.int k (k.wrap (a+b)))):=by
 simp only[fq,ej,db]; rw[eC _ (by simp) (by simp)]; simp[binOp,Op.intArith]; rfl
theorem Gh[ab]:fq P .sub t xo yo (.lit (.int k a)) (.lit (.int k b))=some (.lit (.int k (k.wrap (a-b)))):=by
 simp only[fq,ej,db]; rw[eC _ (by simp) (by simp)]; simp[binOp,Op.intArith]; rfl
theorem MV[ab]:fq P .mul t xo yo (.lit (.int k a)) (.lit (.int k b))=some (.lit (.int k (k.wrap (a*b)))):=by
 simp only[fq,ej,db]; rw[eC _ (by simp) (by simp)]; simp[binOp,Op.intArith]; rfl
end
variable {C:Ctx}
noncomputable def sZ[ab](C:Ctx):List (G×Oper)→St→Option Out
 |[],s=>some (.norm s)
 |(g,o)::l,s=>
  match sO s.fr g with
  |none=>none
  |some false=>sZ C l { s with fr:=bC s.fr o.dst .undef }
  |some true=>(ie C o s).bind fun
   |.norm s'=>sZ C l s'
   |r=>some r
def pz(ops:Array Oper):List (G×Oper):=ops.toList.map fun o=>(eV ops o,o)
theorem pA[ab](ops:Array Oper):∀ (l:List Oper) (s:St),cE (ie C) ops l s=sZ C (l.map fun o=>(eV ops o,o)) s
 |[],s=>rfl
 |o::l,s=>by
  simp only[cE,List.map_cons,sZ,BP]
  cases hq:sO s.fr (eV ops o) with
  |none=>rfl
  |some b=>
   cases b with
   |false=>exact pA ops l _
   |true=>
    simp only
    cases ie C o s with
    |none=>rfl
    |some r=>
     cases r with
     |norm s'=>exact pA ops l s'
     |_=>rfl
theorem zC[ab](id:Nat)(ops:Array Oper)(s:St):cR C (.region id ops false) s=sZ C (pz ops) (gH (C.im s.fn id) s):=by
 rw[B6,pA]; rfl
theorem jc[ab][jG C](id:Nat)(ops:Array Oper)(s:St):cR C (.region id ops false) s=sZ C (pz ops) s:=by
 rw[zC,jG.im (C:=C)]; rfl
theorem kc[ab](s:St):sZ C [] s=some (.norm s):=rfl
noncomputable def Ow[ab](C:Ctx)(l:List (G×Oper)):Out→Option Out
 |.norm s=>sZ C l s
 |r=>some r
theorem eb[ab](o:Oper)(l:List (G×Oper))(s:St):sZ C ((.always,o)::l) s=(ie C o s).bind (Ow C l):=by
 simp only[sZ,sO]
 congr 1
end Go.PI
namespace Go.PI
variable {C:Ctx}
theorem AP(hp:ag)(x:Option AV):(match x with|some x=>(pure ⟨x,[]⟩:RM dm)|none=>RM.fail).run hp=x.map fun x=>⟨x,[]⟩:=by
 cases x<;>rfl
section
variable {P:Program}{nm:Nat}{ev:Operand→AV}{dst:Option Tmp}{type:TypeId}{pos:String}{after:Array Edge}{guard:Option (Nat×Bool)}{hp:ag}
theorem nZ{x:Operand}:(aK P nm ev ⟨dst,.move x,type,pos,after,guard⟩).run hp=some ⟨ev x,[]⟩:=rfl
theorem kZ{x:Operand}:(aK P nm ev ⟨dst,.assign x,type,pos,after,guard⟩).run hp=some ⟨ev x,[]⟩:=rfl
theorem xw[ab]{op:BinOp}{t yt:TypeId}{x y:Operand}:(aK P nm ev ⟨dst,.binOp op t x y yt,type,pos,after,guard⟩).run hp=(fq P op t x y (ev x) (ev y)).map fun x=>⟨x,[]⟩:=AP _ _
end
section
variable {dst:Option Tmp}{type:TypeId}{pos:String}{after:Array Edge}{guard:Option (Nat×Bool)}{s:St}
theorem n4[ab][jG C]{x:Operand}:ie C ⟨dst,.move x,type,pos,after,guard⟩ s=((aK C.P s.hp.length (ay s.fr) ⟨dst,.move x,type,pos,after,guard⟩).run s.hp).bind (gD ⟨dst,.move x,type,pos,after,guard⟩ s):=eO rfl s
theorem Gi[ab][jG C]{t:TypeId}{x:Operand}:ie C ⟨dst,.load t x,type,pos,after,guard⟩ s=((aK C.P s.hp.length (ay s.fr) ⟨dst,.load t x,type,pos,after,guard⟩).run s.hp).bind (gD ⟨dst,.load t x,type,pos,after,guard⟩ s):=eO rfl s
theorem pB[ab][jG C]{o:BinOp}{t u:TypeId}{x y:Operand}:ie C ⟨dst,.binOp o t x y u,type,pos,after,guard⟩ s=((aK C.P s.hp.length (ay s.fr) ⟨dst,.binOp o t x y u,type,pos,after,guard⟩).run s.hp).bind (gD ⟨dst,.binOp o t x y u,type,pos,after,guard⟩ s):=eO rfl s
theorem JI[ab][jG C]{t:TypeId}{x:Operand}{a b c:Option Operand}:ie C ⟨dst,.slice t x a b c,type,pos,after,guard⟩ s=((aK C.P s.hp.length (ay s.fr) ⟨dst,.slice t x a b c,type,pos,after,guard⟩).run s.hp).bind (gD ⟨dst,.slice t x a b c,type,pos,after,guard⟩ s):=eO rfl s
theorem ta[ab][jG C]{t:TypeId}{x y:Operand}:ie C ⟨dst,.indexAddr t x y,type,pos,after,guard⟩ s=((aK C.P s.hp.length (ay s.fr) ⟨dst,.indexAddr t x y,type,pos,after,guard⟩).run s.hp).bind (gD ⟨dst,.indexAddr t x y,type,pos,after,guard⟩ s):=eO rfl s
theorem lB[ab][jG C]{b:Builtin}{as:Array Operand}{ts:Array TypeId}:ie C ⟨dst,.call ⟨.builtin b,as,ts⟩,type,pos,after,guard⟩ s=((aK C.P s.hp.length (ay s.fr) ⟨dst,.call ⟨.builtin b,as,ts⟩,type,pos,after,guard⟩).run s.hp).bind (gD ⟨dst,.call ⟨.builtin b,as,ts⟩,type,pos,after,guard⟩ s):=eO rfl s
theorem pC[ab][jG C]{t:Tmp}:ie C ⟨dst,.assign (.tmp t),type,pos,after,guard⟩ s=((aK C.P s.hp.length (ay s.fr) ⟨dst,.assign (.tmp t),type,pos,after,guard⟩).run s.hp).bind (gD ⟨dst,.assign (.tmp t),type,pos,after,guard⟩ s):=eO rfl s
theorem JJ[ab][jG C]{k:IntKind}{n:Int}:ie C ⟨dst,.assign (.const (.int k n)),type,pos,after,guard⟩ s=((aK C.P s.hp.length (ay s.fr) ⟨dst,.assign (.const (.int k n)),type,pos,after,guard⟩).run s.hp).bind (gD ⟨dst,.assign (.const (.int k n)),type,pos,after,guard⟩ s):=eO rfl s
end
end Go.PI
namespace Go.PI
variable {C:Ctx}
theorem Gj{x:AV}:cB [x]=x:=rfl
theorem Gk{P:Program}{fr:List AV}{hp:ag}:(aU P fr []).run hp=some []:=rfl
theorem Gl[ab]{P:Program}{fr:List AV}{hp:ag}{t:Tmp}{rs:List ResultVar}:(aU P fr (.tmp t::rs)).run hp=((aU P fr rs).run hp).map fun l=>fr.getD t .undef::l:=by
 simp only[aU,jQ,RM.run_bind]
 show (some (fr.getD t .undef)).bind _=_
 simp only[Option.bind_some]
 cases (aU P fr rs).run hp<;>rfl
theorem kP{hp:ag}:ak hp []=hp:=rfl
theorem JK{hp:ag}{n:Nat}{o:aM}{l:List (Nat×aM)}:ak hp ((n,o)::l)=ak (setObj hp n o) l:=rfl
theorem EH{hp:ag}{n:Nat}{o:aM}(h:n=hp.length):setObj hp n o=hp++[some o]:=by simp[setObj,h]
def PB:Option (Nat×bG)→AV→Option dm
 |some (off,_),.ref n aq i j=>some ⟨.ref n aq i (j+off),[]⟩
 |some (off,_),.bf e j=>some ⟨.bf e (j+off),[]⟩
 |_,_=>none
def JL(x:Option AV):Option dm:=x.map fun x=>⟨x,[]⟩
def Gm(r:bG)(hp:ag):AV→Option AV
 |.ref n aq i j=>match hp[n]? with
  |some (some (.arr _ _ _ es))=>if es.length=aq then (match es[i]? with|some e=>eM r.isAgg r.size e j|none=>none) else none
  |_=>none
 |.bf e j=>eM r.isAgg r.size e j
 |_=>none
theorem JM[ab]{P:Program}{t:TypeId}{r:bG}(ht:fb P t=some r){hp:ag}{a:AV}:(kE P t a).run hp=Gm r hp a:=by
 unfold kE Gm
 rw[ht]
 simp only
 cases a with
 |ref n aq i j=>
  simp only[RM.arr]
  show (RM.bind (.get n _) _).run hp=_
  simp only[RM.bind,RM.run]
  cases hp[n]? with
  |none=>rfl
  |some o=>
   cases o with
   |none=>rfl
   |some o=>
    cases o with
    |gh _ _=>rfl
    |arr g c f es=>
     simp only
     split
     ·simp only[RM.bind]
      cases es[i]? with
      |none=>rfl
      |some e=>simp only[RM.jC]
     ·rfl
 |bf e j=>simp only[RM.jC]
 |_=>rfl
section
variable {P:Program}{nm:Nat}{ev:Operand→AV}{dst:Option Tmp}{type:TypeId}{pos:String}{after:Array Edge}{guard:Option (Nat×Bool)}{hp:ag}
theorem MW[ab]{t:TypeId}{x:Operand}{r:bG}(ht:fb P t=some r):(aK P nm ev ⟨dst,.load t x,type,pos,after,guard⟩).run hp=JL (Gm r hp (ev x)):=by
 rw[←JM (P:=P) (t:=t) ht]
 unfold aK
 simp only[RM.run_bind]
 cases (kE P t (ev x)).run hp<;>rfl
end
end Go.PI
namespace Go.PI
variable {C:Ctx}
def MX(hp:ag)(args:List AV)(r':AV):Option (nL×List (Nat×aM)):=
 cond (flat r') (some (.val r',[])) (((dM 1000 (ck args)).run hp).map fun w=>(.val r',w))
theorem zD[ab]{hp hX:ag}{args:List AV}{r:AV}:nh hp args (.val r,hX)=((aX 1000 r).run hX).bind (MX hp args):=by
 simp only[nh,gl]
 cases hq:(aX 1000 r).run hX with
 |none=>rfl
 |some r'=>
  simp only[Option.bind_some,MX]
  cases flat r' with
  |true=>rfl
  |false=>
   simp only[Bool.false_eq_true,if_false,RM.run_bind,cond_false]
   cases (dM 1000 (ck args)).run hp<;>rfl
theorem EI{f:FuncId}{args:List AV}:bA (.lit (.func (.func f) #[] #[])) args=some (f,args):=by
 simp[bA]
end Go.PI
namespace Go.PI
variable {C:Ctx}
theorem EJ[ab]{a b:Code}{s:St}:T3 C a b s (.lit (.bool true))=cR C a s:=rfl
theorem AQ[ab]{a b:Code}{s:St}:T3 C a b s (.lit (.bool false))=cR C b s:=rfl
end Go.PI
namespace Go.PI
variable {C:Ctx}
theorem JN[ab]{b:Code}(Inv:Nat→St→Prop)(Hp:Out→Prop)
  (step:∀ k s,Inv k s→(∃ s',cR C b s=some (.norm s')∧∃ k',k'<k∧Inv k' (gI s.hp.length s'))∨(∃ o,cR C b s=some o∧(∀ s',o≠.norm s')∧Hp o)) :
  ∀ k s,Inv k s→∃ o,cR C (.loop b) s=some o∧Hp o:=by
 intro k
 induction k using Nat.strongRecOn with
 |ind k ih=>
  intro s hs
  rcases step k s hs with ⟨s',h1,k',hk,hi⟩|⟨o,h1,h2,h3⟩
  ·obtain⟨o,h4,h5⟩:=ih k' hk _ hi
   refine⟨o,?_,h5⟩
   rw[nd,h1]
   exact h4
  ·refine⟨o,?_,h3⟩
   rw[nd,h1]
   cases o with
   |norm s'=>exact absurd rfl (h2 s')
   |_=>rfl
theorem zE[ab]{b:Code}{s:St}{β:Type}{K:Out→Option β}{r:Option β}(Inv:Nat→St→Prop)(Hp:Out→Prop)(k0:Nat)(h0:Inv k0 s)
  (step:∀ k s,Inv k s→(∃ s',cR C b s=some (.norm s')∧∃ k',k'<k∧Inv k' (gI s.hp.length s'))∨(∃ o,cR C b s=some o∧(∀ s',o≠.norm s')∧Hp o))
  (fin:∀ o,Hp o→K o=r):(cR C (.loop b) s).bind K=r:=by
 obtain⟨o,h1,h2⟩:=JN Inv Hp step k0 s h0
 rw[h1]
 exact fin o h2
def Gn(agg:Bool)(size:Nat)(hp:ag):AV→Option AV
 |.ref n aq i j=>match hp[n]? with
  |some (some (.arr _ _ _ es))=>if es.length=aq then (match es[i]? with|some e=>eM agg size e j|none=>none) else none
  |_=>none
 |.bf e j=>eM agg size e j
 |_=>none
theorem MY{r:bG}{agg:Bool}{size:Nat}(h1:r.isAgg=agg)(h2:r.size=size)(hp:ag)(a:AV):Gm r hp a=Gn agg size hp a:=by
 subst h1 h2
 cases a<;>rfl
def np(agg:Bool)(size:Nat)(i:Nat):AV→Option AV
 |.sl xs=>match xs[i]? with
  |some e=>if aG agg size e=true then some (.bf e 0) else none
  |none=>none
 |.o7 xs _=>match xs[i]? with
  |some e=>if aG agg size e=true then some (.bf e 0) else none
  |none=>none
 |.bq esz n aq off len _=>if i<len∧0<size∧esz=size then some (.ref n aq (off+i) 0) else none
 |.iM n aq k j len _=>if i<len then some (.ref n aq k (j+i*size)) else none
 |_=>none
theorem rM{k:IntKind}{n:Nat}:asNat (.lit (.int k (n:Int)))=some n:=by simp[asNat]
def JO(P:Program)(nm:Nat)(ev:Operand→AV)(o:Oper)(hp:ag):Option dm:=(aK P nm ev o).run hp
def Hq(d:Option dm):AV→Option dm
 |.sl xs=>some ⟨int xs.length,[]⟩
 |.o7 xs _=>some ⟨int xs.length,[]⟩
 |.bq _ _ _ _ len _=>some ⟨int len,[]⟩
 |.iM _ _ _ _ len _=>some ⟨int len,[]⟩
 |_=>d
theorem JP{P:Program}{t:TypeId}{r:bG}(h:aO P t=some r)(ha:arrayElem P t=none)(x ix:AV):
  eT P t x ix=(asNat ix).bind fun i=>np r.isAgg r.size i x:=by
 unfold eT
 cases asNat ix with
 |none=>rfl
 |some i=>
  simp only[Option.bind_some,h,ha]
  cases x with
  |sl xs=>simp only[np]; cases xs[i]?<;>rfl
  |o7 xs c=>simp only[np]; cases xs[i]?<;>rfl
  |_=>rfl
section
variable {P:Program}{nm:Nat}{ev:Operand→AV}{dst:Option Tmp}{type:TypeId}{pos:String}{after:Array Edge}{guard:Option (Nat×Bool)}{hp:ag}
theorem tb[ab]{t:TypeId}{x y:Operand}:(aK P nm ev ⟨dst,.indexAddr t x y,type,pos,after,guard⟩).run hp=JL (eT P t (ev x) (ev y)):=AP _ _
theorem EL{t type:TypeId}{x:Operand}(h:bW P t=true):(aK P nm ev ⟨dst,.call ⟨.builtin .len,#[x],#[t]⟩,type,pos,after,guard⟩).run hp =
  Hq (JO P nm ev ⟨dst,.call ⟨.builtin .len,#[x],#[t]⟩,type,pos,after,guard⟩ hp) (ev x):=by
 cases hx:ev x with
 |sl xs=>simp[aK,di,hx,h,nN,Hq]; rfl
 |o7 xs c=>simp[aK,di,hx,h,nN,Hq]; rfl
 |bq a b c d e f=>simp[aK,di,hx,h,nN,Hq]; rfl
 |iM a b c d e f=>simp[aK,di,hx,h,nN,Hq]; rfl
 |_=>rfl
end
end Go.PI
namespace Go.PI
variable {C:Ctx}
theorem dt[ab]{b:Code}{s:St}:andThen C b (.norm s)=cR C b s:=rfl
theorem tc[ab]{b:Code}{s:St}{i:Nat}:andThen C b (.exit i s)=some (.exit i s):=rfl
theorem eX[ab]{l:List (G×Oper)}{s:St}:Ow C l (.norm s)=sZ C l s:=rfl
theorem vz{i:Nat}{s:St}:ui i (.norm s)=some (.norm s):=rfl
theorem zG{i:Nat}{s:St}:ui i (.exit i s)=some (.norm s):=by simp[ui]
theorem Ch{rs:Array ResultVar}{s:St}:Jk C rs (.ret s)=((aU C.P s.fr rs.toList).run s.hp).map fun l=>(.val (cB l),s.hp):=rfl
theorem Ci{n:Nat}{s:St}(h:(s.hp.take n).all (kn n)=true):gI n s=⟨s.fn,s.fr.map (forget n),s.hp.take n⟩:=by
 simp[gI,h]
theorem Hr{n:Nat}{v:AV}(h:below n v=true):forget n v=v:=by simp[forget,h]
end Go.PI
namespace Go.PI
theorem AR{d:Option dm}{xs:List AV}:Hq d (.sl xs)=some ⟨int xs.length,[]⟩:=rfl
end Go.PI
namespace Go.PI
end Go.PI
end
section
/- PI, calls whose argument may be a nil slice or not: both are looked at. -/
namespace Go.PI
end Go.PI
end
section
/- PI, the laws: what a law's own call comes to. -/
namespace Go.PI
open Go.RowKit
theorem He[ab]{C:Ctx}(bL:C.Ok){f:FuncId}{args:List AV}{cq:ag}(h:kv C f args []=some (.val (.lit (.bool true)),cq))
  {W:World} (hg:mD (Env.all W)) {vs:List Value} (ha:an (Env.all W) false args vs) :
  Calls C.P f vs.toArray W fun e w'=>e=.returned (.bool true)∧Below W.heap.size W w':=by
 obtain⟨k,hk⟩:=(bh (mi C f args [])).1 h
 refine((sound bL k).1 f args [] _ _ hk (Env.all W) W vs (MH W hg) ha.iu).mono fun e w' cY=>?_
 obtain⟨E',_,_,eK,cy⟩:=cY
 refine⟨?_,eK.os,eK.tape,eK.out,eK.size,fun b hb=>eK.same b hb (fun h=>h.elim)⟩
 cases e with
 |returned v=>simp only[F7,ai]at cy; rw[cy]
 |panicked ch=>exact cy.elim
 |outgrown=>exact cy.elim
end Go.PI
end
section
/- PS, part A: symbolic values over the abstract ones, with typed lists of open length, and the operations on them (definitions only). -/
namespace Go.PI
def aw{α β:Type}(P:α→β→Prop):List α→List β→Prop
 |[],[]=>True
 |x::xs,y::ys=>P x y∧aw P xs ys
 |_,_=>False
def zY{den:Nat→Type}{t t':Nat}(h:t=t')(l:List (den t)):List (den t'):=h▸l
def KK.D:KK→Type
 |.int _=>Int
 |.str=>ByteArray
 |.bool=>Bool
def KK.v:(kk:KK)→kk.D→Value
 |.int q,k=>.int q k
 |.str,k=>.string k
 |.bool,k=>.bool k
def KK.get:(kk:KK)→Value→Option kk.D
 |.int q,v=>(match v with
  |.int q' k=>if q=q' then some k else none
  |_=>none)
 |.str,v=>(match v with
  |.string k=>some k
  |_=>none)
 |.bool,v=>(match v with
  |.bool k=>some k
  |_=>none)
def KK.beq:(kk:KK)→kk.D→kk.D→Bool
 |.int _,(a:Int),(b:Int)=>a==b
 |.str,(a:ByteArray),(b:ByteArray)=>a==b
 |.bool,(a:Bool),(b:Bool)=>a==b
def kB(kk:KK){α:Type}:List (kk.D×α)→kk.D→Option α
 |[],_=>none
 |(k',v)::r,k=>cond (kk.beq k k') (some v) (kB kk r k)
def mM(kk:KK){α:Type}:List (kk.D×α)→kk.D→α→List (kk.D×α)
 |[],k,v=>[(k,v)]
 |(k',v')::r,k,v=>cond (kk.beq k k') ((k',v)::r) ((k',v')::mM kk r k v)
deriving instance DecidableEq for kW
inductive SV(den:Nat→Type):Type where
 |dead
 |hole
 |lit (v:Value)
 |agg (l:List (SV den))
 |jt (l:List (SV den))
 |sl (xs:List (SV den))
 |jr (t:Nat) (l:List (den t))
 |bf (e:SV den) (j:Nat)
 |ref (n c i j:Nat)
 |iM (n c i j len cap:Nat)
 |bq (esz n c:Nat) (rg:Option (Nat×Nat)) (cap:Option Nat)
 |iT (fn:Fn) (first captured:List (SV den))
 |gg (t:TypeId) (v:SV den)
 |mp (y:Bool) (n:Nat)
 |sD (v:SV den) (aW len i:Nat)
 |wI (t:Nat) (l:List (den t)) (cap:Nat) (b:Bool)
 |nz
instance {den:Nat→Type}:Inhabited (SV den):=⟨.dead⟩
inductive aB(den:Nat→Type):Type where
 |arr (grow cl fz:Bool) (cur:Nat) (es:List (SV den))
 |bV (grow fz:Bool) (cur:Nat) (t:Nat) (l:List (den t))
 |gY
 |ke (kk:KK) (t:Nat) (m:List (kk.D×den t))
 |oU (fn:FuncId) (ps:Array Tmp) (as bd:Code) (fr:List (SV den))
abbrev ah(den:Nat→Type):=List (Option (aB den))
abbrev sE(den:Nat→Type):=List (Nat×SV den)
structure bx(den:Nat→Type)where
 fn:FuncId
 n:Nat
 fr:sE den
 hp:ah den
 wf:List Nat
 wh:List Nat
 js:List (Nat×kW)
inductive oV(den:Nat→Type)where
 |norm (s:bx den)
 |exit (id:Nat) (s:bx den)
 |ret (s:bx den)
inductive Tr:Type→Type 1 where
 |ret {ρ:Type} (r:ρ):Tr ρ
 |fail {ρ:Type}:Tr ρ
 |cond {ρ:Type} (b:Bool) (x y:Tr ρ):Tr ρ
 |bind {ρ α:Type} (e:Option α) (k:α→Tr ρ):Tr ρ
 |loop {ρ τ ω:Type} (f:τ→Tr (τ ⊕ ω)) (x:τ) (k:ω→Tr ρ):Tr ρ
 |sum {ρ α β:Type} (e:α ⊕ β) (k:α→Tr ρ) (l:β→Tr ρ):Tr ρ
 |no {ρ:Type} (why:String):Tr ρ
 |lZ {ρ:Type} {den:Nat→Type} (s:bx den) (b:Code):Tr ρ
 |bad {ρ:Type} {den:Nat→Type} (key:Nat) (kind:Option (Option Nat)) (s0 s:bx den):Tr ρ
def kG{τ ω:Type}(f:τ→Option (τ ⊕ ω)):Nat→τ→Option ω
 |0,_=>none
 |n+1,x=>match f x with
  |some (.inl y)=>kG f n y
  |some (.inr w)=>some w
  |none=>none
noncomputable def aL{τ ω:Type}(f:τ→Option (τ ⊕ ω))(x:τ):Option ω:=
 match kG f 4096 x with
 |some w=>some w
 |none=>lu fun n=>kG f n x
noncomputable def Tr.run{ρ:Type}:Tr ρ→Option ρ
 |.ret r=>some r
 |.fail|.no _|.lZ _ _|.bad _ _ _ _=>none
 |.cond b x y=>_root_.cond b x.run y.run
 |.bind e k=>_root_.Option.bind e fun a=>(k a).run
 |.loop f x k=>_root_.Option.bind (aL (fun x=>(f x).run) x) fun w=>(k w).run
 |.sum e k l=>Sum.elim (fun a=>(k a).run) (fun b=>(l b).run) e
structure dw where
 den:Nat→Type
 up:(t:Nat)→den t→SV den
 dn:(t:Nat)→SV den→Option (den t)
 rp:(t:Nat)→den t→AV→Prop
 agg:Nat→Bool
 size:Nat→Nat
 zero:(t:Nat)→Option (den t)
 alt:(t:Nat)→Option ((den t→Bool)×(den t→SV den)×(den t→SV den)):=fun _=>none
section
variable {den:Nat→Type}
def aB.cur:aB den→Nat
 |.arr _ _ _ c _=>c
 |.bV _ _ c _ _=>c
 |_=>0
def aB.len:aB den→Nat
 |.arr _ _ _ _ es=>es.length
 |.bV _ _ _ _ l=>l.length
 |_=>0
def KD:Value→SV den
 |.agg c=>if c.toList.all (fun v=>ba (.lit v))=true then .agg (c.toList.map .lit) else .dead
 |.tuple c=>.jt (c.toList.map .lit)
 |v=>.lit v
def cH:sE den→Nat→SV den
 |[],_=>.lit undef
 |(d,v)::r,t=>match Nat.beq d t with
  |true=>v
  |false=>cH r t
def cW[ab](fr:sE den):Operand→SV den
 |.tmp t=>cH fr t
 |.const v=>KD v
 |.global g=>(match ab.g g with
  |none=>.lit (.pointer (some ⟨g,0,none⟩))
  |some c=>.bf (.agg (c.toList.map .lit)) 0)
 |.func f=>.lit (.func (.func f) #[] #[])
def tz(n:Nat)(fr:sE den)(d:Nat)(v:SV den):sE den:=
 match Nat.ble n d with
 |true=>fr
 |false=>(d,v)::fr
def KE(n:Nat)(fr:sE den)(dst:Option Tmp)(v:SV den):sE den:=
 match dst with
 |some d=>tz n fr d v
 |none=>fr
def mq:Nat→List (SV den)→sE den
 |_,[]=>[]
 |d,v::r=>(d,v)::mq (d+1) r
def bJ(hp:ah den)(n:Nat)(o:aB den):ah den:=
 if n=hp.length then hp++[some o] else hp.set n (some o)
def bc(hp:ah den):List (Nat×aB den)→ah den
 |[]=>hp
 |(n,o)::r=>bc (bJ hp n o) r
def bO:SV den→Bool
 |.dead=>true
 |_=>false
def gw:SV den→Bool
 |.lit v=>match v with
  |.agg _|.tuple _=>false
  |_=>true
 |.agg _|.jt _|.dead|.hole=>false
 |_=>true
mutual
def aD:SV den→Bool
 |.lit _|.sl _|.jr _ _|.bf _ _|.wI _ _ _ _=>true
 |.agg l|.jt l=>av l
 |.gg _ v=>aD v
 |.sD v _ _ _=>aD v
 |.iT _ f c=>av f&&av c
 |_=>false
def av:List (SV den)→Bool
 |[]=>true
 |x::xs=>aD x&&av xs
end
mutual
def vS:SV den→Bool
 |.lit _=>true
 |.agg l|.jt l=>Ba l
 |.gg _ v=>vS v
 |_=>false
def Ba:List (SV den)→Bool
 |[]=>true
 |x::xs=>vS x&&Ba xs
end
mutual
def bt(n:Nat):SV den→Bool
 |.lit _|.sl _|.jr _ _|.bf _ _|.wI _ _ _ _|.hole|.nz=>true
 |.agg l|.jt l=>gx n l
 |.gg _ v=>bt n v
 |.iT _ f c=>gx n f&&gx n c
 |.sD v _ _ _=>bt n v
 |.ref m _ _ _|.iM m _ _ _ _ _|.bq _ m _ _ _|.mp _ m=>decide (m<n)
 |.dead=>false
def gx(n:Nat):List (SV den)→Bool
 |[]=>true
 |x::xs=>bt n x&&gx n xs
end
def jW(n:Nat):Option (aB den)→Bool
 |some (.arr _ cl _ _ es)=>cl||gx n es
 |some (.bV ..)=>true
 |some .gY=>true
 |some (.ke ..)=>true
 |some (.oU _ _ _ _ fr)=>fr.all fun v=>bO v||bt n v
 |none=>true
mutual
def mN:SV den→List Nat
 |.ref n _ _ _|.iM n _ _ _ _ _|.bq _ n _ _ _|.mp _ n=>[n]
 |.sD v _ _ _=>mN v
 |.agg l|.jt l=>mr l
 |.gg _ v=>mN v
 |.iT _ f c=>mr f++mr c
 |_=>[]
def mr:List (SV den)→List Nat
 |[]=>[]
 |x::xs=>mN x++mr xs
end
def bI:SV den→List (SV den)
 |.agg l=>l
 |.lit v=>v.cells.toList.map .lit
 |x=>[x]
def mu:List (SV den)→Option (List Value)
 |[]=>some []
 |.lit v::r=>(mu r).map (v::·)
 |_=>none
def mO:SV den→Option AV
 |.lit v=>some (.lit v)
 |.agg l=>(mu l).map fun c=>.agg (c.map .lit)
 |_=>none
def nH(agg:Bool)(size:Nat)(e:SV den)(j:Nat):Option (SV den):=
 match e with
 |.agg l=>
  if agg then (if j+size≤l.length then some (.agg ((l.drop j).take size)) else none)
  else l[j]?
 |x=>if !agg&&gw x&&decide (j=0) then some x else none
def iH(l:List (SV den))(j:Nat):List (SV den)→List (SV den)
 |[]=>l
 |x::xs=>iH (l.set j x) (j+1) xs
def fU(e:SV den)(j:Nat)(cs:List (SV den)):Option (SV den):=
 match e with
 |.agg l=>if j+cs.length≤l.length then some (.agg (iH l j cs)) else none
 |x=>match cs with
  |[y]=>if gw x&&decide (j=0) then some y else none
  |_=>none
def zZ(place:Nat→Option (Nat×Nat))(cells:List (SV den)):List (Nat×SV den)→Option (List (SV den))
 |[]=>some cells
 |(i,v)::rest=>
  match place i with
  |none=>none
  |some (off,size)=>
   if (bI v).length=size∧off+size≤cells.length∧(bI v).all gw=true then
    zZ place (iH cells off (bI v)) rest
   else none
def kT(agg:Bool)(size:Nat)(e:SV den):Bool:=
 match e with
 |.agg l=>agg&&decide (l.length=size)&&l.all gw
 |x=>!agg&&decide (size=1)&&gw x
def gy:AV→Option (SV den)
 |.lit v=>some (.lit v)
 |.agg l=>(cU l).map fun c=>.agg (c.map .lit)
 |_=>none
def fo(es:List (SV den)):List (Nat×SV den)→List (SV den)
 |[]=>es
 |(i,v)::r=>fo (es.set i v) r
def GG:SV den→Bool
 |.sl xs=>!xs.isEmpty
 |_=>false
def Bb(P:Program)(op:BinOp)(t:TypeId)(x:SV den)(nil:Value):Option AV:=
 match nil with
 |.nilIface=>(match x with
  |.gg _ (.agg _)|.gg _ (.ref ..)=>if jy P t then ld op false else none
  |_=>none)
 |.nilFunc=>(match x with
  |.iT _ _ _=>if sG P t then ld op false else none
  |_=>none)
 |.slice none 0 0=>if bW P t&&GG x then ld op false else none
 |_=>none
end
inductive CK where
 |bool
 |int (k:IntKind)
 |str
 deriving DecidableEq
inductive MK where
 |slice (e:Nat)
 |array (n e:Nat)
 |struct (fs:List (Nat×Nat))
 |iface
 |other
 deriving DecidableEq
structure jX where
 agg:Bool
 size:Nat
 bytes:Nat
 zero:Option AV
 kind:MK
 ON:Option (List CK)
 map:Option (KK×Nat)
structure gM where
 P:Program
 M:List (Nat×jX)
 tA:Nat→Bool
def cm{α:Type}:List (Nat×α)→Nat→Option α
 |[],_=>none
 |(m,a)::r,n=>match Nat.beq m n with
  |true=>some a
  |false=>cm r n
def GH{α:Type}:List (Nat×Nat×α)→Nat→Nat→Option α
 |[],_,_=>none
 |(m,m',a)::r,n,n'=>match Nat.beq m n&&Nat.beq m' n' with
  |true=>some a
  |false=>GH r n n'
namespace gM
def ty(Q:gM)(t:Nat):Option jX:=cm Q.M t
def elemOf(Q:gM)(t:Nat):Option (Nat×jX):=
 match Q.ty t with
 |some m=>match m.kind with
  |.slice e=>(Q.ty e).map fun r=>(e,r)
  |_=>none
 |none=>none
def elem(Q:gM)(t:Nat):Option jX:=(Q.elemOf t).map (·.2)
def arr(Q:gM)(t:Nat):Option (Nat×jX):=
 match Q.ty t with
 |some m=>match m.kind with
  |.array n e=>(Q.ty e).map fun r=>(n,r)
  |_=>none
 |none=>none
def Ur(Q:gM)(t f:Nat):Option (Nat×jX):=
 match Q.ty t with
 |some m=>match m.kind with
  |.struct fs=>match fs[f]? with
   |some (off,e)=>match Q.ty e with
    |some r=>if r.size=0 then none else some (off,r)
    |none=>none
   |none=>none
  |_=>none
 |none=>none
def mapOf(Q:gM)(t:Nat):Option (KK×Nat):=(Q.ty t).bind (·.map)
def isSlice(Q:gM)(t:Nat):Option Bool:=
 match Q.ty t with
 |some m=>match m.kind with
  |.slice _=>some true
  |_=>some false
 |none=>none
def uH(Q:gM):List (Nat×Nat)→Option (List (Nat×Nat))
 |[]=>some []
 |(off,e)::r=>match Q.ty e,uH Q r with
  |some m,some l=>some ((off,m.size)::l)
  |_,_=>none
end gM
inductive VT where
 |v (t:Nat)
 |l (t:Nat)
 |m (kk:KK) (t:Nat)
 deriving DecidableEq
def VT.den(den:Nat→Type):VT→Type
 |.v t=>den t
 |.l t=>List (den t)
 |.m kk t=>List (kk.D×den t)
def HL(den:Nat→Type):List VT→Type
 |[]=>Unit
 |[t]=>t.den den
 |t::u::r=>t.den den×HL den (u::r)
structure TV(den:Nat→Type)where
 t:VT
 x:t.den den
section
variable {den:Nat→Type}
def TV.as(v:TV den)(t:VT):Option (t.den den):=if h:v.t=t then some (h▸v.x) else none
def uI:(ts:List VT)→List (TV den)→Option (HL den ts)
 |[],l=>(match l with
  |[]=>some ()
  |_::_=>none)
 |[t],l=>(match l with
  |[v]=>v.as t
  |_=>none)
 |t::u::r,l=>(match l with
  |v::l'=>(v.as t).bind fun x=>(uI (u::r) l').map fun y=>(x,y)
  |[]=>none)
def fV:(ts:List VT)→HL den ts→List (TV den)
 |[],_=>[]
 |[t],x=>[⟨t,x⟩]
 |t::u::r,x=>⟨t,x.1⟩::fV (u::r) x.2
end
section
variable (T:dw)
def HR:(ts:List Nat)→List (SV T.den)→Option (List (TV T.den))
 |[],[]=>some []
 |t::ts,v::vs=>(T.dn t v).bind fun x=>(HR ts vs).map fun l=>⟨.v t,x⟩::l
 |_,_=>none
def oM(t:Nat):List (SV T.den)→Option (List (T.den t))
 |[]=>some []
 |v::vs=>(T.dn t v).bind fun x=>(oM t vs).map fun l=>x::l
def SB:TV T.den→SV T.den
 |⟨.v t,x⟩=>T.up t x
 |⟨.l t,x⟩=>.jr t x
 |⟨.m _ _,_⟩=>.dead
def P7(l:List (TV T.den)):List (SV T.den):=l.map (SB T)
end
def qR{den:Nat→Type}:List (SV den)→SV den
 |[x]=>x
 |l=>.jt l
structure uJ(T:dw)where
 args:List Nat
 res:List Nat
 fn:HL T.den (args.map .v)→Option (HL T.den (res.map .v))
inductive oW where
 |hole
 |HS (esz n:Nat) (rg:Option (Nat×Nat)) (cap:Option Nat)
 |iM (n i j len cap:Nat)
 |val (t:Nat)
 |own (esz n:Nat)
 |Q8 (esz n t:Nat) (k:Bool)
inductive cQ where
 |list (t:Nat)
 |fix (t:Nat)
 |one (p:oW)
 |agg (ps:List oW)
 |map (kk:KK) (t:Nat)
inductive oX where
 |gY
 |list (g f:Bool) (t:Nat)
structure Bc where
 kind:Option Nat
 az:List (Nat×oW)
 ext:List oX
 js:List (Nat×kW)
 more:List (Nat×cQ)
structure Hint where
 az:List (Nat×oW)
 dead:List Nat
 objs:List (Nat×cQ)
 outs:List Bc
def oW.jI:oW→List VT
 |.hole|.HS _ _ _ _|.iM _ _ _ _ _=>[]
 |.val t=>[.v t]
 |.own _ _=>[]
 |.Q8 _ _ t k=>(match k with
  |true=>[.v t,.v t,.v t]
  |false=>[.v t,.v t])
def cQ.jI:cQ→List VT
 |.list t|.fix t=>[.l t]
 |.one p=>p.jI
 |.agg ps=>ps.flatMap oW.jI
 |.map kk t=>[.m kk t]
def oX.jI:oX→List VT
 |.gY=>[]
 |.list _ _ t=>[.l t]
def jg(objs more:List (Nat×cQ)):List (Nat×cQ):=objs.filter (fun q=>!(more.map (·.1)).contains q.1)++more
def Bc.jI(objs:List (Nat×cQ))(o:Bc):List VT:=o.az.flatMap (fun q=>q.2.jI)++((jg objs o.more).flatMap (fun q=>q.2.jI)++o.ext.flatMap oX.jI)
def Hint.jI(h:Hint):List VT:=h.az.flatMap (fun q=>q.2.jI)++h.objs.flatMap (fun q=>q.2.jI)
def yW(den:Nat→Type)(objs:List (Nat×cQ)):List Bc→Type
 |[]=>Empty
 |[o]=>HL den (o.jI objs)
 |o::p::r=>HL den (o.jI objs) ⊕ yW den objs (p::r)
end Go.PI
end
