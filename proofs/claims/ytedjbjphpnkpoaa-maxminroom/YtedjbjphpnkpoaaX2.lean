/- Part 2 of the proof: texts of this session laid one behind the other. -/
import Derived.OrdersIn
import Derived.TacticsIn
import Derived.RangeFuncLeaves
import Derived.RecoverIn
import Derived.SizedLaws
import Derived.ChangeSlices
import Derived.OpenShut
import Derived.ShutString
import Derived.IntWalk
import Derived.Below
import Derived.Test.YtedjbjphpnkpoaaX1
set_option linter.unusedVariables false
set_option linter.unusedSimpArgs false
section
/- PI, part V: a region whose order is drawn, in the world. -/
namespace Go.PI
def WF(r:Option Nat):Fence:={ Fence.wide with round:=r }
structure oK where
 n:Nat
 tl:List Deferred:=[]
 rg:Bool:=true
 lb:Option Nat:=none
def Marks(B:oK)(E:Env)(w:World)(ds:List Deferred):Prop:=
 ∃ rs:List Nat,ds=rs.map (fun r=>{ target:=.collected r,args:=#[] })++B.tl∧rs.Nodup∧((B.rg=false→rs=[])∧∀ b,B.lb=some b→∃ r0:Loop,w.heap[b]?=some (.loop r0))∧∀ r∈rs,B.n≤r∧¬E.own r∧w.heap[r]?=some (.deferred (some []))
theorem Marks.nil{n:Nat}{m:Bool}{E:Env}{w:World}:Marks ⟨n,[],m,none⟩ E w []:=⟨[],rfl,List.nodup_nil,⟨fun _=>rfl,fun _ h=>by cases h⟩,by simp⟩
theorem Marks.UT{n:Nat}{b:Nat}{r:Loop}{E:Env}{w:World}(h:w.heap[b]?=some (.loop r)):Marks ⟨n,[],true,some b⟩ E w []:=⟨[],rfl,List.nodup_nil,⟨fun _=>rfl,fun _ h'=>by cases h'; exact⟨r,h⟩⟩,by simp⟩
theorem Marks.mono{B:oK}{E E':Env}{w w':World}{ds:List Deferred}(h:Marks B E w ds)(hf:Fr E w E' w'):Marks B E' w' ds:=by
 obtain⟨rs,h1,h2,TQ,h3⟩:=h
 refine⟨rs,h1,h2,⟨TQ.1,fun b hb=>by obtain⟨r0,h⟩:=TQ.2 b hb; exact hf.lp b r0 h⟩,fun r hr=>?_⟩
 obtain⟨a,b,c⟩:=h3 r hr
 have bS:r<w.heap.size:=(Array.getElem?_eq_some_iff.1 c).1
 refine⟨a,fun ho=>?_,by rw[hf.same r bS b]; exact c⟩
 rcases hf.own r ho with h|h
 ·exact b h
 ·omega
structure cG[ab](B:oK)(E:Env)(s:St)(a:Act)(w:World):Prop where
 fr:an E true s.fr a.tmps.toList
 inv:Inv E s.hp w
 df:Marks B E w a.defers
 bs:B.n≤w.heap.size
theorem gl{E:Env}{fr:List AV}{a:Act}{dst:Option Tmp}{x:AV}{v:Value}(h:an E true fr a.tmps.toList)(hx:aj E true x v):
  an E true (bC fr dst x) (a.put dst v).tmps.toList:=by
 cases dst with
 |none=>exact h
 |some d=>
  simp only[bC,Act.put,Array.toList_setIfInBounds]
  exact h.set d hx
theorem put_defers(a:Act)(dst:Option Tmp)(v:Value):(a.put dst v).defers=a.defers:=by cases dst<;>rfl
theorem zK{E:Env}:∀ (c:List Value),(∀ x∈c,iu x=true)→aH E false (c.map .lit) c
 |[],_=>by simp[aH]
 |x::r,h=>by
  simp only[List.map_cons,aH]
  exact⟨by simp[aj],h x (by simp),zK r fun y hy=>h y (by simp[hy])⟩
theorem JM[ab]{E:Env}(hg:mJ E)(g:Nat):aj E true (BG g (ab.g g)) (.pointer (some ⟨g,0,none⟩)):=by
 cases h:ab.g g with
 |none=>simp[BG,aj]
 |some c=>
  obtain⟨h1,h2⟩:=hg g c h
  simp only[BG,aj]
  refine⟨g,0,c,.agg c,rfl,h1,⟨c.toList,by simp,zK _ h2⟩,?_⟩
  refine⟨rfl,fun q _=>by simp[Value.cells],fun x hx=>h2 x (by simpa[Value.cells] using hx)⟩
theorem gU[ab]{E:Env}{fr:List AV}{a:Act}(hg:mJ E)(h:an E true fr a.tmps.toList)(x:Operand):aj E true (az fr x) (a.eval x):=by
 cases x with
 |tmp t=>
  simp only[az,Act.eval,List.getD]
  cases hq:fr[t]? with
  |none=>
   have hl:=h.length
   have:a.tmps[t]?=none:=by
    simp_all
   simp[Array.getD_eq_getD_getElem?,this,aj]
  |some y=>
   obtain⟨v,hv,hr⟩:=h.get hq
   have:a.tmps[t]?=some v:=by simpa using hv
   simpa[Array.getD_eq_getD_getElem?,this] using hr
 |const v=>
  simp only[az,Act.eval]
  unfold nP
  split
  ·rename_i c
   split
   ·rename_i h; exact nd (.agg c) (fun c' hc=>by cases hc; exact h)
   ·simp[aj]
  ·rename_i dK
   exact nd v (fun c hc=>absurd hc (dK c))
 |global g=>exact JM hg g
 |func f=>simp[az,Act.eval,aj]
def rM[ab](P:Program)(step:Nat→Oper→List AV→RM dm):Prop:=
 ∀ (r:Option Nat) (x:Item) (B:oK) (E:Env) (s:St) (a:Act) (w:World) (e:dm) (K:Act→World→Prop) (Q:Exit→Act→World→Prop),cG B E s a w →
   (au x.o.op=true→s.hp[x.nm]?=some none)→(step (x.at s.hp.length) x.o s.fr).run s.hp=some e →
   (∀ E' w' v,Ext E E'→Fr E w E' w'→Inv E' (ak s.hp e.wr) w'→aj E' true e.val v→K (a.put x.o.dst v) w')→x.o.wpIn (WF r) 0 P a w K Q
theorem k9{ops:Array Oper}{E:Env}{fr:List AV}{a:Act}(h:an E true fr a.tmps.toList){o:Oper}{b:Bool}(hw:cF ops fr o=some b):
  Region.wanted o (yielded ops a.tmps)=b:=by
 unfold cF at hw
 unfold Region.wanted
 cases hg:o.guard with
 |none=>rw[hg]at hw; simpa using hw
 |some g=>
  obtain⟨j,want⟩:=g
  rw[hg]at hw
  simp only at hw ⊢
  unfold yielded
  cases hd:(ops[j]?).bind (·.dst) with
  |none=>
   rw[hd]at hw
   simp only[Option.some.injEq]at hw; subst hw
   simp
  |some d=>
   rw[hd]at hw
   simp only[Option.bind_some]at hw ⊢
   cases hq:fr[d]? with
   |none=>
    rw[hq]at hw
    simp only[Option.some.injEq]at hw; subst hw
    have hl:=h.length
    have:a.tmps[d]?=none:=by
     simp_all
    simp[this]
   |some y=>
    rw[hq]at hw
    obtain⟨v,hv,hr⟩:=h.get hq
    have jV:a.tmps[d]?=some v:=by simpa using hv
    split at hw
    ·rename_i heq; simp at heq
    ·rename_i b' heq
     simp only[Option.some.injEq]at heq hw
     subst heq
     simp only[aj]at hr
     subst hr; subst hw
     simp[jV]
    ·rename_i c heq
     simp only[Option.some.injEq]at heq hw
     subst heq
     simp only[aj]at hr
     subst hr; subst hw
     simp[jV]
    ·simp at hw
section
variable {step:Nat→Oper→List AV→RM dm}{ops:Array Oper}
theorem pE:∀ (l:List Oper) (acc:List Nat) (f:List Nat→Oper→List Nat),
  (f=fun acc o=>acc++[iV acc o.after.toList])→∀ i,i<acc.length→(l.foldl f acc).getD i 0=acc.getD i 0
 |[],acc,f,_,i,_=>rfl
 |o::r,acc,f,hf,i,hi=>by
  simp only[List.foldl_cons]
  rw[pE r (f acc o) f hf i (by subst hf; simp; omega)]
  subst hf
  simp[List.getD,List.getElem?_append_left hi]
theorem vA{a b:List Nat}:∀ {l:List Edge},(∀ e∈l,Region.binds .any e=true→a.getD e.on 0=b.getD e.on 0)→iV a l=iV b l
 |[],_=>rfl
 |e::l,h=>by
  have:=vA (l:=l) fun e he=>h e (by simp[he])
  unfold iV
  split
  ·rename_i hb
   rw[this,h e (by simp) hb]
  ·exact this
theorem qp{a:List Nat}{p:Nat}:∀ {l:List Edge},(iV a l).testBit p=true→∃ e∈l,Region.binds .any e=true∧(p=e.on∨rE a e.on p=true)
 |[],h=>by simp[iV]at h
 |e::l,h=>by
  unfold iV at h
  split at h
  ·rename_i hb
   simp only[Nat.testBit_or,Bool.or_eq_true]at h
   rcases h with (h|h)|h
   ·grind
   ·exact⟨e,by simp,hb,.inr h⟩
   ·obtain⟨e',he,h'⟩:=qp (l:=l) h
    exact⟨e',by simp[he],h'⟩
  ·obtain⟨e',he,h'⟩:=qp (l:=l) h
   exact⟨e',by simp[he],h'⟩
theorem zM{m:Region.Mode}{p:Nat}:∀ {l:List Edge},(∃ e∈l,Region.binds m e=true∧p=e.on)→(zd m l).testBit p=true
 |[],h=>by simp at h
 |e::l,h=>by
  obtain⟨e',he,hb,rfl⟩:=h
  unfold zd
  cases he with
  |head=>simp[hb,Nat.testBit_or]
  |tail _ he=>
   have:=zM (l:=l) ⟨e',he,hb,rfl⟩
   split
   ·simp[Nat.testBit_or,this]
   ·exact this
theorem Cf[ab]{m:Region.Mode}{T:Nat→Prop}:∀ (l:List Oper) (i M:Nat),(∀ j,M.testBit j=true→T j) →
  (∀ k o,l[k]?=some o→(∀ e∈o.after.toList,Region.binds m e=true→T e.on)→T (i+k))→∀ j,(FI m i l M).testBit j=true→T j
 |[],i,M,hM,_,j,h=>hM j h
 |o::r,i,M,hM,hs,j,h=>by
  unfold FI at h
  refine Cf r (i+1) _ ?_ (fun k o hk he=>by have:=hs (k+1) o (by simpa using hk) he; rwa [show i+1+k=i+(k+1) by omega]) j h
  intro j hj
  split at hj
  ·rename_i tb
   rw[Nat.testBit_or,Bool.or_eq_true]at hj
   rcases hj with hj|hj
   ·exact hM j hj
   ·rw[Nat.testBit_two_pow]at hj
    have L1:i=j:=by simpa using hj
    subst L1
    refine hs 0 o rfl fun e he hb=>hM _ ?_
    have h1:=zM (p:=e.on) ⟨e,he,hb,rfl⟩
    rw[←tb,Nat.testBit_and,Bool.and_eq_true]at h1
    exact h1.2
  ·exact hM j hj
theorem Cg[ab]{m:Region.Mode}{T:Nat→Prop}{l:List Oper}(hs:∀ k o,l[k]?=some o→(∀ e∈o.after.toList,Region.binds m e=true→T e.on)→T k):
  ∀ (k M:Nat),(∀ j,M.testBit j=true→T j)→∀ j,(FJ m l k M).testBit j=true→T j
 |0,M,hM,j,h=>hM j h
 |k+1,M,hM,j,h=>by
  unfold FJ at h
  exact Cg hs k _ (Cf l 0 M hM (fun q o hq he=>by simpa using hs q o hq he)) j h
theorem EB[ab]{m:Region.Mode}(h:pb m ops=true){T:Nat→Prop}(hs:∀ k o,ops[k]?=some o→(∀ e∈o.after.toList,Region.binds m e=true→T e.on)→T k):∀ i,i<ops.size→T i:=by
 intro i hi
 have h1:=List.all_eq_true.1 h i (List.mem_range.2 hi)
 exact Cg (l:=ops.toList) (fun k o hk he=>hs k o (by simpa using hk) he) 8 0 (by simp) i h1
theorem qt[ab]:∀ (l:List Oper) (acc:List Nat) (k:Nat) (o:Oper),l[k]?=some o→(∀ e∈o.after.toList,Region.binds .any e=true→e.on<acc.length+k) →
  (l.foldl (fun acc o=>acc++[iV acc o.after.toList]) acc).getD (acc.length+k) 0 =
    iV (l.foldl (fun acc o=>acc++[iV acc o.after.toList]) acc) o.after.toList
 |[],acc,k,o,h,_=>by simp at h
 |p::r,acc,0,o,h,he=>by
  simp only[List.getElem?_cons_zero,Option.some.injEq]at h
  subst h
  simp only[List.foldl_cons,Nat.add_zero]
  rw[pE r _ _ rfl acc.length (by simp)]
  have h1:(acc++[iV acc p.after.toList]).getD acc.length 0=iV acc p.after.toList:=by
   simp[List.getD]
  rw[h1]
  apply vA
  intro e UU hb
  have bS:e.on<acc.length:=by simpa using he e UU hb
  rw[pE r _ _ rfl e.on (by simp; omega)]
  simp[List.getD,List.getElem?_append_left bS]
 |p::r,acc,k+1,o,h,he=>by
  simp only[List.getElem?_cons_succ]at h
  simp only[List.foldl_cons]
  have:=qt r (acc++[iV acc p.after.toList]) k o h (fun e UU hb=>by have:=he e UU hb; simp; omega)
  simp only[List.length_append,List.length_cons,List.length_nil]at this
  have e1:acc.length+(0+1)+k=acc.length+(k+1):=by omega
  rw[e1]at this
  exact this
theorem gm:∀ (l:List Oper) (i:Nat),kM i l=true→∀ k o,l[k]?=some o→∀ e∈o.after.toList,Region.binds .any e=true→e.on<i+k
 |[],i,_,k,o,h=>by simp at h
 |p::r,i,h,0,o,hk=>by
  simp only[List.getElem?_cons_zero,Option.some.injEq]at hk
  subst hk
  simp only[kM,Bool.and_eq_true]at h
  intro e he hb
  have:=List.all_eq_true.1 h.1 e he
  simpa[hb] using this
 |p::r,i,h,k+1,o,hk=>by
  simp only[List.getElem?_cons_succ]at hk
  simp only[kM,Bool.and_eq_true]at h
  intro e he hb
  have:=gm r (i+1) h.2 k o hk e he hb
  omega
theorem tj{pr:List Nat}:∀ (l:List Oper) (i:Nat),sN ops pr i l=true→∀ j k o p,j<k→l[j]?=some o→l[k]?=some p →
  rE pr (i+k) (i+j)=true∨Oper.apart ops o p=true
 |[],i,_,j,k,o,p,_,h,_=>by simp at h
 |q::r,i,h,0,k+1,o,p,_,ho,hp=>by
  simp only[List.getElem?_cons_zero,Option.some.injEq]at ho
  subst ho
  simp only[List.getElem?_cons_succ]at hp
  simp only[sN,Bool.and_eq_true]at h
  have pD:(p,i+1+k)∈r.zipIdx (i+1):=by
   grind
  have:=List.all_eq_true.1 h.1 _ pD
  simp only[Bool.or_eq_true]at this
  have e1:i+1+k=i+(k+1):=by omega
  rw[e1]at this
  simpa using this
 |q::r,i,h,j+1,k+1,o,p,MS,ho,hp=>by
  simp only[List.getElem?_cons_succ]at ho hp
  simp only[sN,Bool.and_eq_true]at h
  have:=tj r (i+1) h.2 j k o p (by omega) ho hp
  have e1:i+1+j=i+(j+1):=by omega
  have e2:i+1+k=i+(k+1):=by omega
  rw[e1,e2]at this
  exact this
 |q::r,i,h,j,0,o,p,MS,_,_=>by omega
theorem kU[ab]:∀ (l:List Oper) (i n:Nat) (k:Nat) (x:Item),(bD i n l)[k]?=some x →
  x.idx=i+k∧l[k]?=some x.o∧n≤x.nm∧(au x.o.op=true→x.nm<n+(l.filter fun o=>au o.op).length)
 |[],i,n,k,x,h=>by simp[bD]at h
 |o::r,i,n,0,x,h=>by
  simp only[bD,List.getElem?_cons_zero,Option.some.injEq]at h
  subst h
  refine⟨rfl,rfl,Nat.le_refl _,fun ha=>?_⟩
  simp only at ha
  simp[ha]
 |o::r,i,n,k+1,x,h=>by
  simp only[bD,List.getElem?_cons_succ]at h
  obtain⟨h1,h2,h3,h4⟩:=kU r (i+1) _ k x h
  refine⟨by omega,by simpa using h2,?_,fun ha=>?_⟩
  ·split at h3<;>omega
  ·grind
theorem xA[ab]:∀ (l:List Oper) (i n:Nat) (j k:Nat) (x y:Item),j<k→(bD i n l)[j]?=some x→(bD i n l)[k]?=some y→au x.o.op=true→x.nm<y.nm
 |[],i,n,j,k,x,y,_,h,_,_=>by simp[bD]at h
 |o::r,i,n,0,k+1,x,y,_,hx,hy,ha=>by
  simp only[bD,List.getElem?_cons_zero,Option.some.injEq]at hx
  subst hx
  simp only[bD,List.getElem?_cons_succ]at hy
  simp only at ha
  have:=(kU r (i+1) _ k y hy).2.2.1
  rw[if_pos ha]at this
  exact this
 |o::r,i,n,j+1,k+1,x,y,MS,hx,hy,ha=>by
  simp only[bD,List.getElem?_cons_succ]at hx hy
  exact xA r (i+1) _ j k x y (by omega) hx hy ha
 |o::r,i,n,j,0,x,y,MS,_,_,_=>by omega
theorem lH[ab]:∀ (l:List Oper) (i n:Nat),(bD i n l).length=l.length
 |[],_,_=>rfl
 |o::r,i,n=>by simp[bD,lH r]
theorem pG[ab]:∀ (R:List Item) (s s':St) (fs:List fq),cr step ops R s=some (s',fs)→fs.map (·.idx)=R.map (·.idx)
 |[],s,s',fs,h=>by
  simp_all[cr]
 |x::r,s,s',fs,h=>by
  obtain⟨s1,f,DP,h1,h2,rfl⟩:=kT h
  have ih:=pG r s1 s' DP h2
  have:f.idx=x.idx:=by
   rcases lG h1 with ⟨_,_,rfl⟩|⟨_,_,_,_,_,rfl⟩<;>rfl
  simp[ih,this]
theorem tk{pr:List Nat}:∀ (fs:List fq),eQ pr fs=true→∀ (j k:Nat) (f g:fq),j<k→fs[j]?=some f→fs[k]?=some g→rF pr f g=true
 |[],_,j,k,f,g,_,h,_=>by simp at h
 |q::r,h,0,k+1,f,g,_,hf,hg=>by
  grind[eQ]
 |q::r,h,j+1,k+1,f,g,MS,hf,hg=>by
  simp only[List.getElem?_cons_succ]at hf hg
  simp only[eQ,Bool.and_eq_true]at h
  exact tk r h.2 j k f g (by omega) hf hg
 |q::r,h,j,0,f,g,MS,_,_=>by omega
theorem zN{a b:List Nat}(h:D5 a b=true):∀ n∈a,n∉b:=by
 intro n hn hb
 have:=List.all_eq_true.1 h n hn
 simp[hb]at this
end
end Go.PI
end
section
/- PI, part W: a region whose order is drawn, in the world: the induction. -/
namespace Go.PI
section
variable {step:Nat→Oper→List AV→RM dm}{ops:Array Oper}
structure Left[ab](ops:Array Oper)(pr:List Nat)(m:Nat)(R:List Item)(aJ:Array Bool):Prop where
 size:aJ.size=ops.size
 item:∀ x∈R,ops[x.idx]?=some x.o∧aJ.getD x.idx true=false∧x.idx<m
 sorted:R.Pairwise (fun x y=>x.idx<y.idx)
 all:∀ i,i<ops.size→aJ.getD i true=false→i<m→∃ x∈R,x.idx=i
 rest:∀ i,m≤i→i<ops.size→aJ.getD i true=false
 down:∀ i o,ops[i]?=some o→aJ.getD i true=true→∀ p,rE pr i p=true→aJ.getD p false=true
 names:R.Pairwise (fun x y=>au x.o.op=true→x.nm<y.nm)
theorem tm{a:Array Bool}{i:Nat}(h:i<a.size)(x y:Bool):a.getD i x=a.getD i y:=by
 simp[Array.getD,h]
theorem Hm{m:Region.Mode}{e:Edge}(h:Region.binds .any e=true):Region.binds m e=true:=by
 grind[Region.binds]
theorem Ch[ab]{md:Region.Mode}(vB:pb md ops=true){aJ:Array Bool}(dL:aJ.size=ops.size){i:Nat}(bS:i<ops.size)(hi:aJ.getD i true=false):Region.ready md ops aJ≠[]:=by
 intro xB
 have bg:=EB vB (T:=fun i=>i<ops.size∧aJ.getD i true=true) (fun k o hk he=>by
  have UW:k<ops.size:=(Array.getElem?_eq_some_iff.1 hk).1
  refine⟨UW,?_⟩
  cases hq:aJ.getD k true with
  |true=>rfl
  |false=>
   have pD:k∈Region.ready md ops aJ:=by
    unfold Region.ready
    rw[List.mem_filter]
    refine⟨List.mem_range.2 UW,?_⟩
    simp only[hq,Bool.not_false,Bool.true_and,hk,Option.map_some,Option.getD_some]
    rw[←Array.all_toList]
    refine List.all_eq_true.2 fun e hee=>?_
    cases hb:Region.binds md e with
    |false=>rfl
    |true=>
     grind
   rw[xB]at pD
   simp at pD) i bS
 rw[hi]at bg
 simp at bg
theorem vC[ab]{md:Region.Mode}(mu:kM 0 ops.toList=true){aJ:Array Bool}(dL:aJ.size=ops.size)
  (zH:∀ i o,ops[i]?=some o→aJ.getD i true=true→∀ p,rE (bZ ops.toList) i p=true→aJ.getD p false=true) {i:Nat} (hi:i∈Region.ready md ops aJ) :
  i<ops.size∧aJ.getD i true=false∧∀ p,rE (bZ ops.toList) i p=true→aJ.getD p false=true:=by
 have AU:∀ i o,ops[i]?=some o→(bZ ops.toList).getD i 0=iV (bZ ops.toList) o.after.toList:=by
  intro i o ho
  have c6:ops.toList[i]?=some o:=by simpa using ho
  have:=qt ops.toList [] i o c6 (fun e he hb=>by have:=gm ops.toList 0 mu i o c6 e he hb; simpa using this)
  simpa[bZ] using this
 unfold Region.ready at hi
 rw[List.mem_filter]at hi
 obtain⟨DV,Ix⟩:=hi
 simp only[List.mem_range]at DV
 simp only[Bool.and_eq_true,Bool.not_eq_true']at Ix
 obtain⟨UX,EC⟩:=Ix
 refine⟨DV,UX,fun p hp=>?_⟩
 obtain⟨o,QU⟩:∃ o,ops[i]?=some o:=⟨ops[i],by simp[DV]⟩
 simp only[QU,Option.map_some,Option.getD_some]at EC
 rw[←Array.all_toList]at EC
 unfold rE at hp
 rw[AU i o QU]at hp
 obtain⟨e,he,Hn,hp⟩:=qp hp
 have hb:=(gm ops.toList 0 mu i o (by simpa using QU) e he Hn)
 have h1:=List.all_eq_true.1 EC e he
 simp only[Hm Hn,Bool.not_true,Bool.false_or]at h1
 rcases hp with rfl|hp
 ·exact h1
 ·have bS:e.on<ops.size:=by omega
  have UY:aJ.getD e.on true=true:=by rw[tm (by rw[dL]; exact bS) true false]; exact h1
  obtain⟨o2,uv⟩:∃ o2,ops[e.on]?=some o2:=⟨ops[e.on],by simp[bS]⟩
  exact zH e.on o2 uv UY p hp
theorem MT[ab](mu:kM 0 ops.toList=true):∀ {k:Nat} {o:Oper},ops[k]?=some o→∀ {p:Nat},rE (bZ ops.toList) k p=true→p<k:=by
 have AU:∀ i o,ops[i]?=some o→(bZ ops.toList).getD i 0=iV (bZ ops.toList) o.after.toList:=by
  intro i o ho
  have c6:ops.toList[i]?=some o:=by simpa using ho
  have:=qt ops.toList [] i o c6 (fun e he hb=>by have:=gm ops.toList 0 mu i o c6 e he hb; simpa using this)
  simpa[bZ] using this
 intro k
 induction k using Nat.strongRecOn with
 |ind k ih=>
  intro o hk p hp
  unfold rE at hp
  rw[AU k o hk]at hp
  obtain⟨e,he,Hn,hp⟩:=qp hp
  have hb:=(gm ops.toList 0 mu k o (by simpa using hk) e he Hn)
  rcases hp with rfl|hp
  ·omega
  ·grind
theorem vD{pr:List Nat}{n m:Nat}(h:mH pr n m=true){i j:Nat}(h1:m≤i)(h2:i<n)(h3:j<i):rE pr i j=true:=by
 have:=List.all_eq_true.1 h (i-m) (List.mem_range.2 (by omega))
 have:=List.all_eq_true.1 this j (List.mem_range.2 (by omega))
 have e:m+(i-m)=i:=by omega
 rw[e]at this
 exact this
theorem JN[ab]{P:Program}(ti:Gg step)(dF:rM P step)(mu:kM 0 ops.toList=true){md:Region.Mode}(vB:pb md ops=true){m:Nat}(hm:m≤ops.size)(vE:mH (bZ ops.toList) ops.size m=true){s':St}{Q:Exit→Act→World→Prop}
  {E0:Env} {w0:World} {B:oK} {r:Option Nat}
  (hQ:∀ E a w (aJ:Array Bool),Ext E0 E→Fr E0 w0 E w→cG B E s' a w→aJ.size=ops.size→(∀ j,j<m→aJ.getD j true=true)→(∀ j,m≤j→j<ops.size→aJ.getD j true=false) →
    wpAnyIn (WF r) 0 P md ops Q (ops.size-m) aJ a w) :
  ∀ (fuel:Nat) (R:List Item) (aJ:Array Bool) (fs:List fq) (E:Env) (s:St) (a:Act) (w:World),R.length=fuel→Left ops (bZ ops.toList) m R aJ →
    Ext E0 E→Fr E0 w0 E w→cG B E s a w→(∀ x∈R,au x.o.op=true→s.hp[x.nm]?=some none)→cr step ops R s=some (s',fs) →
    (∀ (j k:Nat) (x y:Item) (f g:fq),j<k→R[j]?=some x→R[k]?=some y→fs[j]?=some f→fs[k]?=some g →
      rE (bZ ops.toList) y.idx x.idx=true∨Ru ops x f y g) →
    wpAnyIn (WF r) 0 P md ops Q (fuel+(ops.size-m)) aJ a w:=by
 have AU:∀ i o,ops[i]?=some o→(bZ ops.toList).getD i 0=iV (bZ ops.toList) o.after.toList:=by
  intro i o ho
  have c6:ops.toList[i]?=some o:=by simpa using ho
  have:=qt ops.toList [] i o c6 (fun e he hb=>by have:=gm ops.toList 0 mu i o c6 e he hb; simpa using this)
  simpa[bZ] using this
 intro fuel
 induction fuel with
 |zero=>
  intro R aJ fs E s a w hlen hL hx eT hs _ aU _
  have hR:R=[]:=List.eq_nil_of_length_eq_zero hlen
  subst hR
  simp only[cr,Option.some.injEq,Prod.mk.injEq]at aU
  obtain⟨rfl,_⟩:=aU
  rw[Nat.zero_add]
  refine hQ E a w aJ hx eT hs hL.size (fun j hj=>?_) hL.rest
  cases hq:aJ.getD j true with
  |true=>rfl
  |false=>
   obtain⟨x,hx,_⟩:=hL.all j (by omega) hq hj
   simp at hx
 |succ fuel ih=>
  intro R aJ fs E s a w hlen hL hx eT hs ph aU On
  rw[show fuel+1+(ops.size-m)=(fuel+(ops.size-m))+1 by omega]
  refine⟨fun xB=>?_,fun i hi=>?_⟩
  ·-- the first of what is left is ready
   exfalso
   cases R with
   |nil=>simp at hlen
   |cons x r=>
    obtain⟨Xw,Hl,_⟩:=hL.item x (by simp)
    exact Ch vB hL.size (Array.getElem?_eq_some_iff.1 Xw).1 Hl xB
  ·obtain⟨DV,UX,FR⟩:=vC mu hL.size hL.down hi
   have Xx:i<m:=by
    rcases Nat.lt_or_ge i m with h|h
    ·exact h
    ·exfalso
     cases R with
     |nil=>simp at hlen
     |cons x r=>
      obtain⟨Xw,Hl,hxm⟩:=hL.item x (by simp)
      have:=FR x.idx (vD vE h DV (by omega))
      rw[tm (by rw[hL.size]; omega) true false]at Hl
      rw[this]at Hl; cases Hl
   obtain⟨y,hy,YX⟩:=hL.all i DV UX Xx
   subst YX
   obtain⟨QU,_,hym⟩:=hL.item y hy
   obtain⟨A,B',rfl⟩:=List.append_of_mem hy
   have Rw:fs.length=(A++y::B').length:=by
    have:=congrArg List.length (pG _ _ _ _ aU)
    simpa using this
   have UZ:A.length<fs.length:=by rw[Rw]; simp
   have IG:fs=fs.take A.length++fs[A.length]::fs.drop (A.length+1):=by
    simp_all
   have MQ:∀ p∈A.zip (fs.take A.length),Ru ops p.1 p.2 y fs[A.length]:=by
    intro p hp
    obtain⟨j,hj⟩:=List.mem_iff_getElem?.1 hp
    have YY:=(List.getElem?_zip_eq_some).1 hj
    obtain⟨h1,h2⟩:=YY
    have U0:=aI h1
    rw[List.getElem?_take_of_lt U0]at h2
    rcases On j A.length p.1 y p.2 fs[A.length] U0 (by rw[List.getElem?_append_left U0]; exact h1) (by simp) h2 (by simp[UZ]) with h|h
    ·exfalso
     have h3:=FR _ h
     have h4:=(hL.item p.1 (List.mem_append_left _ (List.mem_of_getElem? h1))).2.1
     have bS:p.1.idx<ops.size:=(Array.getElem?_eq_some_iff.1 (hL.item p.1 (List.mem_append_left _ (List.mem_of_getElem? h1))).1).1
     rw[tm (by rw[hL.size]; exact bS) true false]at h4
     rw[h3]at h4; simp at h4
    ·exact h
   have Pu:=rj ti A s fs aU (fs.take A.length) fs[A.length] (fs.drop (A.length+1)) IG (by simp; omega) MQ
   obtain⟨s1,f,DP,gJ,Oo,Xy⟩:=kT Pu
   simp only[List.cons.injEq]at Xy
   obtain⟨rfl,rfl⟩:=Xy
   have dK:∀ x∈A++B',x.idx≠y.idx:=by
    intro x hx
    have hp:=List.pairwise_append.1 hL.sorted
    rcases List.mem_append.1 hx with h|h
    ·have:=hp.2.2 x h y (by simp); omega
    ·have:=List.rel_of_pairwise_cons hp.2.1 h; omega
   have tb:(A++B').Sublist (A++y::B'):=List.Sublist.append (List.Sublist.refl A) (List.sublist_cons_self y B')
   have Xz:Left ops (bZ ops.toList) m (A++B') (aJ.setIfInBounds y.idx true):=by
    have dU:∀ j d,j≠y.idx→(aJ.setIfInBounds y.idx true).getD j d=aJ.getD j d:=by
     intro j d hj
     simp[Array.getD_eq_getD_getElem?,Ne.symm hj]
    have Ci:∀ d,(aJ.setIfInBounds y.idx true).getD y.idx d=true:=by
     intro d
     have:y.idx<aJ.size:=by rw[hL.size]; exact DV
     simp[Array.getD_eq_getD_getElem?,this]
    refine⟨by simpa using hL.size,fun x hx=>?_,hL.sorted.sublist tb,fun j hj hu YZ=>?_,fun j hj U1=>?_,fun j o ho hl p hp=>?_,hL.names.sublist tb⟩
    ·obtain⟨h1,h2,h3⟩:=hL.item x (tb.subset hx)
     exact⟨h1,by rw[dU _ _ (dK x hx)]; exact h2,h3⟩
    ·have TU:j≠y.idx:=by intro e; subst e; rw[Ci]at hu; simp at hu
     rw[dU _ _ TU]at hu
     obtain⟨x,hx,Y0⟩:=hL.all j hj hu YZ
     refine⟨x,?_,Y0⟩
     rcases List.mem_append.1 hx with h|h
     ·exact List.mem_append_left _ h
     ·cases h with
      |head=>omega
      |tail _ h=>exact List.mem_append_right _ h
    ·rw[dU _ _ (by omega)]
     exact hL.rest j hj U1
    ·by_cases TU:j=y.idx
     ·subst TU
      rw[QU]at ho; cases ho
      by_cases Rx:p=y.idx
      ·subst Rx; exact Ci _
      ·rw[dU _ _ Rx]; exact FR p hp
     ·rw[dU _ _ TU]at hl
      by_cases Rx:p=y.idx
      ·subst Rx; exact Ci _
      ·rw[dU _ _ Rx]; exact hL.down j o ho hl p hp
   have B5:(A++B').length=fuel:=by simp at hlen ⊢; omega
   have JO:∀ (j k:Nat) (x z:Item) (f g:fq),j<k→(A++B')[j]?=some x→(A++B')[k]?=some z→(fs.take A.length++fs.drop (A.length+1))[j]?=some f →
     (fs.take A.length++fs.drop (A.length+1))[k]?=some g→rE (bZ ops.toList) z.idx x.idx=true∨Ru ops x f z g:=by
    have tr:∀ (j:Nat) (x:Item) (f:fq),(A++B')[j]?=some x→(fs.take A.length++fs.drop (A.length+1))[j]?=some f →
      (A++y::B')[if j<A.length then j else j+1]?=some x∧fs[if j<A.length then j else j+1]?=some f:=by
     intro j x f h1 h2
     have Y1:(fs.take A.length).length=A.length:=by simp; omega
     by_cases hj:j<A.length
     ·rw[if_pos hj]
      rw[List.getElem?_append_left hj]at h1
      rw[List.getElem?_append_left (by omega),List.getElem?_take_of_lt hj]at h2
      exact⟨by rw[List.getElem?_append_left hj]; exact h1,h2⟩
     ·rw[if_neg hj]
      rw[List.getElem?_append_right (by omega)]at h1
      rw[List.getElem?_append_right (by omega),Y1,List.getElem?_drop]at h2
      refine⟨?_,?_⟩
      ·rw[List.getElem?_append_right (by omega)]
       have:j+1-A.length=(j-A.length)+1:=by omega
       rw[this]; simpa using h1
      ·have:A.length+1+(j-A.length)=j+1:=by omega
       rw[this]at h2; exact h2
    intro j k x z f g MS h1 h2 h3 h4
    obtain⟨a1,a2⟩:=tr j x f h1 h3
    obtain⟨b1,b2⟩:=tr k z g h2 h4
    refine On _ _ x z f g ?_ a1 b1 a2 b2
    split<;>split<;>omega
   unfold wpOpIn
   rw[QU]
   simp only
   rcases lG gJ with ⟨hw,rfl,_⟩|⟨hw,e,he,DW,rfl,_⟩
   ·rw[k9 hs.fr hw]
    simp only[Bool.false_eq_true,if_false]
    refine⟨fun _ _=>trivial,?_⟩
    refine ih (A++B') _ _ E { s with fr:=bC s.fr y.o.dst .undef } _ w B5 Xz hx eT ⟨gl hs.fr (by simp[aj]),hs.inv,by rw[put_defers]; exact hs.df,hs.bs⟩ (fun x hx=>ph x (tb.subset hx)) Oo JO
   ·rw[k9 hs.fr hw]
    simp only[if_true]
    refine dF r y B E s a w e _ Q hs (ph y (by simp)) he fun E' w' v gg JP ig hr=>?_
    refine ih (A++B') _ _ E' { s with fr:=bC s.fr y.o.dst e.val,hp:=ak s.hp e.wr } _ w' B5 Xz (hx.trans gg) (eT.trans JP) ⟨gl (hs.fr.mono gg) hr,ig,by rw[put_defers]; exact hs.df.mono JP,Nat.le_trans hs.bs JP.size⟩ (fun x hx ha=>?_) Oo JO
    have hn:=ph x (tb.subset hx) ha
    have Ez:x.nm∉e.wr.map (·.1):=by
     intro hm
     obtain⟨q,hq,XA⟩:=List.mem_map.1 hm
     rcases (DW q hq).2 with h|⟨o,ho⟩
     ·have hxn:y.nm=x.nm:=by rw[←h.2]; exact XA
      have hp:=List.pairwise_append.1 hL.names
      rcases List.mem_append.1 hx with h'|h'
      ·have:=hp.2.2 x h' y (by simp) ha; omega
      ·have:=List.rel_of_pairwise_cons hp.2.1 h' h.1; omega
     ·rw[XA]at ho; rw[hn]at ho; simp at ho
    simp only
    rw[iC e.wr s.hp (fun q hq=>(DW q hq).1) x.nm Ez]
    exact hn
end
end Go.PI
end
section
/- PI, part X: results, calls, what is dropped. -/
namespace Go.PI
theorem Cj{P:Program}{nm:Nat}{ev MU:Operand→AV}{o:Oper}(h:∀ x∈o.op.operands.toList,ev x=MU x):aK P nm ev o=aK P nm MU o:=by
 obtain⟨dst,op,type,pos,after,guard⟩:=o
 have Ho:∀ (l:List Operand),(∀ x∈l,x∈op.operands.toList)→l.map ev=l.map MU:=fun l hl=>List.map_congr_left fun x hx=>h x (hl x hx)
 unfold aK
 cases op with
 |build t parts=>
  have:(parts.toList.map fun p=>(p.1,ev p.2))=(parts.toList.map fun p=>(p.1,MU p.2)):=
   List.map_congr_left fun p hp=>by rw[h p.2 (by simp only[Op.operands]; exact List.mem_map.2 ⟨p,hp,rfl⟩)]
  simp only[this]
 |buildSlice t len parts=>
  have:(parts.toList.map fun p=>(p.1,ev p.2))=(parts.toList.map fun p=>(p.1,MU p.2)):=
   List.map_congr_left fun p hp=>by rw[h p.2 (by simp only[Op.operands]; exact List.mem_map.2 ⟨p,hp,rfl⟩)]
  simp only[this]
 |makeFunc fn first captured=>
  have h1:=Ho first.toList (fun x hx=>by simp only[Op.operands,Array.toList_append,List.mem_append]; exact .inl hx)
  have h2:=Ho captured.toList (fun x hx=>by simp only[Op.operands,Array.toList_append,List.mem_append]; exact .inr hx)
  simp only[h1,h2]
 |slice t x lo hi mx=>
  have h0:=h x (by simp[Op.operands])
  have h1:lo.map ev=lo.map MU:=by cases lo with|none=>rfl|some y=>simp[h y (by simp[Op.operands])]
  have h2:hi.map ev=hi.map MU:=by cases hi with|none=>rfl|some y=>simp[h y (by simp[Op.operands])]
  have h3:mx.map ev=mx.map MU:=by cases mx with|none=>rfl|some y=>simp[h y (by simp[Op.operands])]
  simp only[h0,h1,h2,h3]
 |call c=>
  obtain⟨callee,args,argTypes⟩:=c
  cases callee with
  |builtin b=>
   have h1:=Ho args.toList (fun x hx=>by simp[Op.operands,Call.operands]; simpa using hx)
   simp only[h1]
  |value f=>rfl
  |invoke r m=>rfl
 |move x=>simp only[h x (by simp[Op.operands])]
 |assign x=>simp only[h x (by simp[Op.operands])]
 |pick c a b=>simp_all[Op.operands]
 |box t x=>simp only[h x (by simp[Op.operands])]
 |load t a=>simp only[h a (by simp[Op.operands])]
 |store t a x=>simp_all[Op.operands]
 |nilCheck x=>simp only[h x (by simp[Op.operands])]
 |binOp b t x y yt=>simp_all[Op.operands]
 |unOp u t x=>simp only[h x (by simp[Op.operands])]
 |convert s d x=>simp only[h x (by simp[Op.operands])]
 |makeInterface t x=>simp only[h x (by simp[Op.operands])]
 |makeSlice t l c=>simp_all[Op.operands]
 |sliceToArrayPointer t x=>simp only[h x (by simp[Op.operands])]
 |fieldAddr s x f=>simp only[h x (by simp[Op.operands])]
 |field s x f=>simp only[h x (by simp[Op.operands])]
 |indexAddr t x i=>simp_all[Op.operands]
 |index t x i=>simp_all[Op.operands]
 |extract t i=>simp only[h t (by simp[Op.operands])]
 |makeMap t r=>
  have h1:r.map ev=r.map MU:=by cases r with|none=>rfl|some y=>simp[h y (by simp[Op.operands])]
  simp only[h1]
 |lookup t x i c=>simp_all[Op.operands]
 |mapUpdate t m k x=>simp_all[Op.operands]
 |_=>rfl
theorem JQ[ab]{P:Program}{nm nm':Nat}{ev:Operand→AV}{o:Oper}(h:au o.op=false):aK P nm ev o=aK P nm' ev o:=by
 obtain⟨dst,op,type,pos,after,guard⟩:=o
 unfold aK
 cases op with
 |alloc _=>simp[au]at h
 |box _ _=>simp[au]at h
 |buildSlice _ _ _=>simp[au]at h
 |makeSlice _ _ _=>simp[au]at h
 |makeMap _ _=>simp[au]at h
 |call c=>
  obtain⟨callee,args,argTypes⟩:=c
  cases callee with
  |builtin b=>
   cases b with
   |append=>simp[au]at h
   |_=>rfl
  |_=>rfl
 |_=>rfl
theorem RM.xC{hp:ag}{n:Nat}{g c f:Bool}{es:List AV}(h:hp[n]?=some (some (.arr g c f es))):(RM.arr n es.length).run hp=some (g,c,f,es):=by
 simp[RM.arr,RM.run,h]
theorem rN[ab]{P:Program}{E:Env}{hp:ag}{w:World}(hI:Inv E hp w){fr:List AV}{a:Act}(eT:an E true fr a.tmps.toList){fn:Func}{l:List AV}
  (h:(aR P fr fn.results.toList).run hp=some l):∃ v,(results fn a.tmps).run P w=.ok v w∧aj E true (cB l) v:=by
 have one:∀ (r:ResultVar) (x:AV),(jT P fr r).run hp=some x →
   ∃ v,(match r with|.tmp t=>pure (a.tmps.getD t undef)|.cell ad t=>(do loadVar t (←asAddr (a.tmps.getD ad undef))):Sem Value).run P w=.ok v w∧aj E true x v:=by
  intro r x hx
  cases r with
  |tmp t=>
   simp only[jT,RM.run_pure,Option.some.injEq]at hx
   subst hx
   exact⟨_,rfl,gU hI.jv eT (.tmp t)⟩
  |cell ad t=>
   simp only[jT]at hx
   have hr:=gU hI.jv eT (.tmp ad)
   obtain⟨v,h1,h2⟩:=FP hI (va:=a.tmps.getD ad undef) hr hx
   refine⟨v,?_,h2⟩
   simp only[Instr.loadAt,Sem.run_bind]at h1
   simp only[Sem.run_bind]
   cases hq:a.tmps.getD ad undef with
   |pointer p=>
    cases p with
    |some p=>rw[hq]at h1; simpa[asAddr,Instr.sureAddr] using h1
    |none=>rw[hq]at h1; simp[Instr.sureAddr]at h1
   |_=>rw[hq]at h1; simp[Instr.sureAddr]at h1
 have many:∀ (rs:List ResultVar) (l:List AV),(aR P fr rs).run hp=some l →
   ∃ vs:List Value,(rs.mapM fun|.tmp t=>pure (a.tmps.getD t undef)|.cell ad t=>(do loadVar t (←asAddr (a.tmps.getD ad undef))):Sem (List Value)).run P w=.ok vs w ∧
     an E true l vs:=by
  intro rs
  induction rs with
  |nil=>
   intro l h
   simp only[aR,RM.run_pure,Option.some.injEq]at h
   subst h
   exact⟨[],by simp[List.mapM_nil],by simp[an]⟩
  |cons r rs ih=>
   intro l h
   simp only[aR,RM.run_bind]at h
   cases hq:(jT P fr r).run hp with
   |none=>rw[hq]at h; simp at h
   |some x=>
    rw[hq]at h
    simp only[Option.bind_some]at h
    cases dR:(aR P fr rs).run hp with
    |none=>rw[dR]at h; simp at h
    |some xs=>
     rw[dR]at h
     simp only[Option.bind_some,RM.run_pure,Option.some.injEq]at h
     subst h
     obtain⟨v,h1,h2⟩:=one r x hq
     obtain⟨vs,h3,h4⟩:=ih xs dR
     refine⟨v::vs,?_,by simp only[an]; exact⟨h2,h4⟩⟩
     rw[List.mapM_cons,Sem.run_bind,h1,Result.andThen_ok,Sem.run_bind,h3]
     rfl
 obtain⟨vs,h1,h2⟩:=many _ _ h
 have hm:(fn.results.mapM fun|.tmp t=>pure (a.tmps.getD t undef)|.cell ad t=>(do loadVar t (←asAddr (a.tmps.getD ad undef))):Sem (Array Value)).run P w=.ok vs.toArray w:=by
  rw[Array.mapM_eq_mapM_toList,Sem.run_map,h1]
  rfl
 refine⟨if h:vs.toArray.size=1 then vs.toArray[0] else .tuple vs.toArray,?_,?_⟩
 ·unfold results
  rw[Sem.run_bind]
  exact congrArg (fun (r:Result (Array Value))=>r.andThen fun vs w'=>(pure (if h:vs.size=1 then vs[0] else .tuple vs):Sem Value).run P w') hm
 ·have hlen:=h2.length
  match l,vs,h2,hlen with
  |[],[],_,_=>simp[cB,aj,an]
  |[x],[v],h2,_=>simp only[an]at h2; simpa[cB] using h2.1
  |x::y::r,v::u::s,h2,_=>
   simp only[cB,aj]
   exact⟨v::u::s,by simp,h2⟩
  |[],_::_,_,h=>simp at h
  |_::_,[],_,h=>simp at h
  |[_],_::_::_,_,h=>simp at h
  |_::_::_,[_],_,h=>simp at h
def Env.gn(E:Env)(k:Nat):Env where
 ρ:=fun n aq=>if n<E.L then E.ρ n aq else none
 m:=E.m
 L:=E.L+k
 own:=E.own
theorem ED[ab]{E:Env}{hp:ag}{w:World}(hI:Inv E hp w)(k:Nat):
  Ext E (E.gn k)∧Inv (E.gn k) (hp++List.replicate k none) w∧Fr E w (E.gn k) w:=by
 have hx:Ext E (E.gn k):=⟨fun _ _ h=>h,fun n hn aq l h=>by simp[Env.gn,hn,h],by simp[Env.gn]⟩
 have hold:∀ n o,(hp++List.replicate k none)[n]?=some (some o)→hp[n]?=some (some o)∧n<E.L:=by
  intro n o h
  rw[List.getElem?_append]at h
  split at h
  ·rename_i bS; exact⟨h,by rw[←hI.len]; exact bS⟩
  ·simp[List.getElem?_replicate]at h
 have dc:∀ n,n<E.L→∀ aq,(E.gn k).ρ n aq=E.ρ n aq:=fun n hn aq=>by simp[Env.gn,hn]
 have eU:∀ n b,cd (E.gn k) (hp++List.replicate k none) n b→cd E hp n b:=by
  rintro n b ⟨o,l,ho,hl,hb⟩
  obtain⟨h1,h2⟩:=hold n o ho
  refine⟨o,l,h1,?_,hb⟩
  cases o with
  |arr=>simpa only[dc n h2] using hl
  |gf=>simpa only[dc n h2] using hl
 refine⟨hx,⟨by simp[Env.gn,hI.len],?_,?_,fun n1 n2 b h1 h2=>hI.inj n1 n2 b (eU _ _ h1) (eU _ _ h2),hI.mem,hI.oT,hI.jv⟩,
  ⟨rfl,rfl,rfl,Nat.le_refl _,fun _ _ _=>rfl,fun _ h=>.inl h,fun _ _ h=>.inl h,fun _ r h=>⟨r,h⟩⟩⟩
 ·intro n o ho
  obtain⟨h1,h2⟩:=hold n o ho
  have h:=hI.objs n o h1
  cases o with
  |arr g cl fz es=>
   obtain⟨l,hl,hv,hm⟩:=h
   refine⟨l,by rw[dc n h2]; exact hl,fun aq l' h=>hv aq l' (by rw[dc n h2]at h; exact h),?_⟩
   cases hb:l.kJ with
   |none=>rw[hb]at hm; exact hm
   |some b=>
    rw[hb]at hm
    obtain⟨c,T,a1,a2,a3,a4,a5,a6,a7⟩:=hm
    exact⟨c,T,a1,a2,a3,a4,a5,a6,fun i e he=>by obtain⟨v,jV,ft⟩:=a7 i e he; exact⟨v,jV.mono hx,ft⟩⟩
  |gf k Mj=>
   obtain⟨l,b,es,clock,a1,a2,a3,a4,a5,a6,a7,a8⟩:=h
   exact⟨l,b,es,clock,by rw[dc n h2]; exact a1,a2,a3,a4,a5,fun aq l' h=>a6 aq l' (by rw[dc n h2]at h; exact h),a7,a8.mono hx⟩
 ·intro n aq h
  rw[List.getElem?_append]at h
  split at h
  ·rename_i bS
   have:n<E.L:=by rw[←hI.len]; exact bS
   rw[dc n this]
   exact hI.free n aq h
  ·rename_i MB
   have:¬n<E.L:=by rw[←hI.len]; exact MB
   simp[Env.gn,this]
def Env.lower(E:Env)(n:Nat):Env:={ E with L:=n }
theorem tn[ab]{E:Env}{hp:ag}{w:World}(hI:Inv E hp w){n:Nat}(hn:n≤hp.length)(bg:(hp.take n).all (kq n)=true):
  Inv (E.lower n) (hp.take n) w∧Fr E w (E.lower n) w∧Down E (E.lower n):=by
 have Pv:Down E (E.lower n):=⟨fun _ _ h=>h,fun _ _ _ _ h=>h⟩
 have hold:∀ i o,(hp.take n)[i]?=some o→hp[i]?=some o∧i<n:=by
  grind
 have eU:∀ i b,cd (E.lower n) (hp.take n) i b→cd E hp i b:=by
  rintro i b ⟨o,l,ho,hl,hb⟩
  exact⟨o,l,(hold i _ ho).1,hl,hb⟩
 refine⟨⟨by simp[Env.lower]; omega,?_,fun i aq h=>hI.free i aq (hold i _ h).1,fun n1 n2 b h1 h2=>hI.inj n1 n2 b (eU _ _ h1) (eU _ _ h2),hI.mem,hI.oT,hI.jv⟩,
  ⟨rfl,rfl,rfl,Nat.le_refl _,fun _ _ _=>rfl,fun _ h=>.inl h,fun _ _ h=>.inl h,fun _ r h=>⟨r,h⟩⟩,Pv⟩
 intro i o ho
 obtain⟨h1,h2⟩:=hold i _ ho
 have hb:=List.all_eq_true.1 bg _ (List.mem_of_getElem? ho)
 simp only[kq]at hb
 have h:=hI.objs i o h1
 cases o with
 |arr g cl fz es=>
  obtain⟨l,hl,hv,hm⟩:=h
  refine⟨l,hl,hv,?_⟩
  cases yH:l.kJ with
  |none=>rw[yH]at hm; exact hm
  |some b=>
   rw[yH]at hm
   obtain⟨c,T,a1,a2,a3,a4,a5,a6,a7⟩:=hm
   refine⟨c,T,a1,a2,a3,a4,a5,a6,fun j e he=>?_⟩
   obtain⟨v,jV,ft⟩:=a7 j e he
   refine⟨v,?_,ft⟩
   cases cl with
   |true=>exact aj.dT ⟨Pv.m⟩ jV
   |false=>
    simp only[aL.below,Bool.false_or]at hb
    refine aj.down Pv ?_ jV
    have:∀ (l:List AV),cO n l=true→∀ x∈l,below n x=true:=by
     intro l
     induction l with
     |nil=>simp
     |cons y ys ih=>
      simp_all[cO]
    exact this es hb e (List.mem_of_getElem? he)
 |gf k Mj=>
  obtain⟨l,b,es,clock,a1,a2,a3,a4,a5,a6,a7,a8⟩:=h
  refine⟨l,b,es,clock,a1,a2,a3,a4,a5,a6,a7,?_⟩
  simp only[aL.below]at hb
  exact an.down Pv hb a8
theorem rO[ab]{E:Env}{n:Nat}(Pv:Down E (E.lower n)):∀ {fr:List AV} {vs:List Value},an E true fr vs→an (E.lower n) true (fr.map (forget n)) vs
 |[],[],_=>by simp[an]
 |x::xs,v::vs,h=>by
  simp only[an]at h
  simp only[List.map_cons,an]
  refine⟨?_,rO Pv h.2⟩
  unfold forget
  split
  ·rename_i hb; exact aj.down Pv hb h.1
  ·simp[aj]
 |[],_::_,h=>by simp[an]at h
 |_::_,[],h=>by simp[an]at h
end Go.PI
end
section
/- PI, part Da: a function that is entered as a deferred call while the frame below returns: recover gives nil. -/
namespace Go.PI
theorem lu(o:Oper):(dD o).dst=o.dst∧(dD o).guard=o.guard∧(dD o).after=o.after:=by
 unfold dD; split
 ·split<;>exact⟨rfl,rfl,rfl⟩
 ·exact⟨rfl,rfl,rfl⟩
theorem zg(o:Oper):dD o=o∨(dD o={ o with op:=.move (.const .nilIface) }∧∃ mh,o.op=.call { callee:=.builtin .recover,args:=#[],argTypes:=mh }):=by
 unfold dD; split
 ·rename_i c hc
  split
  ·rename_i h1 h2
   refine .inr ⟨rfl,c.argTypes,?_⟩
   rw[hc]
   obtain⟨x,y,z⟩:=c
   simp only at h1 h2
   rw[h1,Array.toList_eq_nil_iff.1 h2]
  ·exact .inl rfl
 ·exact .inl rfl
theorem BK{ρ:Operand→Value}{o:Oper}{P:Program}{w:World}{mh:Array TypeId}(h:o.op=.call { callee:=.builtin .recover,args:=#[],argTypes:=mh }):(execOp ρ o).run P w=.ok .recover w:=by
 unfold execOp; rw[h]; rfl
theorem yI(ops:Array Oper)(tmps:Array Value):yielded (ops.map dD) tmps=yielded ops tmps:=by
 funext j
 simp only[yielded,Array.getElem?_map]
 cases ops[j]? with
 |none=>rfl
 |some o=>simp only[Option.map_some,Option.bind_some,(lu o).1]
section
variable {F:Fence}{n:Nat}{P:Program}{ops:Array Oper}{Q:Exit→Act→World→Prop}
theorem FL(l:List Nat):∀ (a:Act) (w:World),wpOpsIn F n P (ops.map dD) Q l a w→∀ (b:Frame) (k:List Go.Item) (cs:List Frame),b.kind=.deferred→recoverD cs=none→F.round=none→b.roundOf=F.round→F.fn b.fn→F.room (cs.length+1+n) →
  ∃ e a' w',Q e a' w'∧ArrivesIn (Machine.fenced P F) P (lone (b.atR a (.inRegion ops l::k)) cs w) b k cs e a' w':=by
 induction l with
 |nil=>exact fun a w h b k cs _ _ _ _ hb hr=>⟨.normal,a,w,h,.one (fenced_calm hb hr rfl) stepR_region_end⟩
 |cons i rest ih=>
  intro a w h b k cs hk na eT dC hb hr
  simp only[wpOpsIn,Array.getElem?_map,yI]at h
  cases ho:ops[i]? with
  |none=>
   simp only[ho,Option.map_none]at h
   obtain⟨e,a',w',hq,cJ⟩:=ih a w h b k cs hk na eT dC hb hr
   have hs:=stepR_op_skip (P:=P) (b:=b) (a:=a) (k:=k) (cs:=cs) (w:=w) (ops:=ops) (i:=i) (rest:=rest) (by simp[ho])
   simp only[ho,Option.bind_none,Act.put]at hs
   exact⟨e,a',w',hq,.of_steps (.one (fenced_noOper hb hr ho) hs) cJ⟩
  |some o=>
   simp only[ho,Option.map_some]at h
   have Yx:Region.wanted (dD o) (yielded ops a.tmps)=Region.wanted o (yielded ops a.tmps):=by unfold Region.wanted; rw[(lu o).2.1]
   rw[Yx,(lu o).1]at h
   have BL:∀ v,(b.atR a (.inRegion ops (i::rest)::k)).finish v=b.atR (a.put o.dst v) (.inRegion ops rest::k):=by
    intro v; rw[Frame.finish_atR,ho]; rfl
   by_cases hw:Region.wanted o (yielded ops a.tmps)=true
   ·have hg:=stepGR_op (P:=P) (b:=b) (k:=k) (cs:=cs) (w:=w) (rest:=rest) ho hw
    simp only[hw,if_true,Oper.wpIn]at h
    rcases zg o with he|⟨he,mh,DN⟩
    ·rw[he]at h
     rw[dC]at hg
     obtain⟨ub,h⟩:=h
     have h0:(lone (b.atR a (.inRegion ops (i::rest)::k)) cs w).fenced P F:=fenced_oper hb hr ho ub
     simp only[Oper.uponIn]at h
     split at h
     ·rename_i v w' lz
      obtain⟨e,a',wX,hq,cJ⟩:=ih _ _ h b k cs hk na eT dC hb hr
      refine⟨e,a',wX,hq,.of_steps (.one h0 (step_lone_go ?_)) cJ⟩
      rw[hg,←BL]; simp[stepG.apply,lz]
     ·rename_i w' lz
      obtain⟨e,a',wX,hq,cJ⟩:=ih _ _ h b k cs hk na eT dC hb hr
      refine⟨e,a',wX,hq,.of_steps (.one h0 (step_lone_go ?_)) cJ⟩
      rw[hg,←BL]; simp[stepG.apply,lz]
     ·rename_i d w' lz
      obtain⟨e,a',wX,hq,cJ⟩:=ih _ _ h b k cs hk na eT dC hb hr
      refine⟨e,a',wX,hq,.of_steps (.one h0 (step_lone_go ?_)) cJ⟩
      have:=Frame.finish_atR b { a with defers:=d::a.defers } ops i rest k undef
      rw[ho]at this
      rw[hg]; simp only[stepG.apply,Sem.runT_eq,lz,GStep.bare_after]
      exact congrArg (fun fr=>GStep.go { frame:=fr,callers:=cs,status:=.running,dying:=none } w') this
     ·rename_i f args w' lz
      obtain⟨hn,hF,h⟩:=h
      have mi:F.room ((b.atR a (.inRegion ops (i::rest)::k)::cs).length+1+(n-1)):=Fence.room_enter hr hn
      obtain⟨e,wX,fr,hR,nR,qT,Au⟩:=h (b.atR a (.inRegion ops (i::rest)::k)::cs) mi
      have lA:step P (lone (b.atR a (.inRegion ops (i::rest)::k)) cs w)=.next (lone (Frame.enter P f args .normal) (b.atR a (.inRegion ops (i::rest)::k)::cs) w'):=
       step_lone_go (by rw[hg]; simp[stepG.apply,lz,Frame.atR])
      cases e with
      |returned v=>
       have hl:(lone fr (b.atR a (.inRegion ops (i::rest)::k)::cs) wX).fenced P F:=fenced_leaving (qT▸hF) mi Au
       obtain⟨e,a',w₃,hq,cJ⟩:=ih _ _ hR b k cs hk na eT dC hb hr
       refine⟨e,a',w₃,hq,.of_steps (.head h0 lA (StepsIn.trans nR (.one hl ?_))) cJ⟩
       rw[←BL]; exact step_leave_returned Au
      |panicked chain=>
       have hl:(lone fr (b.atR a (.inRegion ops (i::rest)::k)::cs) wX).fenced P F:=fenced_leaving (qT▸hF) mi Au
       refine⟨.panic chain,a,wX,hR,.inRegion ops (i::rest)::k,.head h0 lA (StepsIn.trans nR (.one hl ?_))⟩
       rw[←Frame.raise_atR]; exact step_leave_panicked Au
      |outgrown=>
       obtain⟨a₀,w₀,hq⟩:=hR
       exact⟨.outgrown,a₀,w₀,hq,.inr (Outgrown.of_steps (.one lA) nR)⟩
     ·rename_i row args w' lz
      obtain⟨hn,h⟩:=h
      obtain⟨v,wX,hR,nR⟩:=h (b.atR a (.inRegion ops (i::rest)::k)) cs (Fence.room_enter hr hn)
      have lA:step P (lone (b.atR a (.inRegion ops (i::rest)::k)) cs w)=.next (lone (Frame.ofRow P row args .normal) (b.atR a (.inRegion ops (i::rest)::k)::cs) w'):=
       step_lone_go (by rw[hg]; simp[stepG.apply,lz,Frame.atR])
      obtain⟨e,a',w₃,hq,cJ⟩:=ih _ _ hR b k cs hk na eT dC hb hr
      refine⟨e,a',w₃,hq,.of_steps (.head h0 lA ?_) cJ⟩
      rw[←BL]; exact nR
     ·rename_i l f tmps assign body w' lz
      obtain⟨hn,_,h⟩:=h
      obtain⟨e,wX,hR,nR⟩:=h (b.atR a (.inRegion ops (i::rest)::k)) cs (Fence.room_enter hr hn)
      have lA:step P (lone (b.atR a (.inRegion ops (i::rest)::k)) cs w)=.next (lone (Frame.round l f tmps assign body .normal) (b.atR a (.inRegion ops (i::rest)::k)::cs) w'):=
       step_lone_go (by rw[hg]; simp[stepG.apply,lz,Frame.atR])
      cases e with
      |returned v=>
       obtain⟨e,a',w₃,hq,cJ⟩:=ih _ _ hR b k cs hk na eT dC hb hr
       refine⟨e,a',w₃,hq,.of_steps (.head h0 lA ?_) cJ⟩
       rw[←BL]; exact nR
      |panicked chain=>
       refine⟨.panic chain,a,wX,hR,.inRegion ops (i::rest)::k,.head h0 lA ?_⟩
       rw[←Frame.raise_atR]; exact nR
      |outgrown=>
       obtain⟨a₀,w₀,hq⟩:=hR
       exact⟨.outgrown,a₀,w₀,hq,.inr (Outgrown.of_steps (.one lA) nR)⟩
     ·rename_i v w' lz
      refine⟨_,a,w',h,.inRegion ops (i::rest)::k,.one h0 (step_lone_go ?_)⟩
      rw[hg,←Frame.raise_atR]; simp[stepG.apply,lz]
     ·exact h.elim
    ·-- recover
     rw[he]at h
     have ub:∀ f,o.about P w a.eval=some f→F.fn f:=by
      intro f hf
      unfold Oper.about at hf
      rw[DN]at hf
      cases hf
     have h0:(lone (b.atR a (.inRegion ops (i::rest)::k)) cs w).fenced P F:=fenced_oper hb hr ho ub
     have h2:wpOpsIn F n P (ops.map dD) Q rest (a.put o.dst .nilIface) w:=by
      have h3:=h.2
      rw[eT]at h3
      exact h3
     obtain⟨e,a',wX,hq,cJ⟩:=ih _ _ h2 b k cs hk na eT dC hb hr
     refine⟨e,a',wX,hq,.of_steps (.one h0 (step_lone_go ?_)) cJ⟩
     have Xj:b.roundOf=none:=dC.trans eT
     rw[Xj,Oper.semAt_none]at hg
     have QM:=tryRecover_deferred (fr:=b.atR a (.inRegion ops (i::rest)::k)) hk cs
     rw[hg,←BL]
     simp only[Frame.atR,Xj]at QM ⊢
     simp[stepG.apply,BK DN,QM,na]
   ·simp only[hw,if_false,Bool.false_eq_true]at h
    obtain⟨ub,h⟩:=h
    obtain⟨e,a',w',hq,cJ⟩:=ih _ _ h b k cs hk na eT dC hb hr
    have hs:=stepR_op_skip (P:=P) (b:=b) (a:=a) (k:=k) (cs:=cs) (w:=w) (ops:=ops) (i:=i) (rest:=rest) (by simp[ho]; simpa using hw)
    simp only[ho,Option.bind_some]at hs
    have Mh:∀ f,o.about P w a.eval=some f→F.fn f:=by
     rcases zg o with he|⟨he,mh,DN⟩
     ·rw[he]at ub; exact ub
     ·intro f hf
      unfold Oper.about at hf
      rw[DN]at hf
      cases hf
    exact⟨e,a',w',hq,.of_steps (.one (fenced_oper hb hr ho Mh) hs) cJ⟩
def GX(F:Fence)(n:Nat)(P:Program)(c:Code)(Q:Exit→Act→World→Prop)(a:Act)(w:World):Prop:=
 ∀ (b:Frame) (k:List Go.Item) (cs:List Frame),b.kind=.deferred→recoverD cs=none→F.round=none→b.roundOf=F.round→F.fn b.fn→F.room (cs.length+1+n) →
   ∃ e a' w',Q e a' w'∧ArrivesIn (Machine.fenced P F) P (lone (b.atR a (.code c::k)) cs w) b k cs e a' w'
variable {a:Act}{w:World}
theorem IM{c:Code}(h:c.wpIn F n P Q a w):GX F n P c Q a w:=fun b k cs _ _ _ dC hb hr=>h b k cs dC hb hr
theorem Mi{x y:Code}(h:GX F n P x (fun e a w=>match e with|.normal=>GX F n P y Q a w|e=>Q e a w) a w):GX F n P (.seq x y) Q a w:=by
 intro b k cs hk na eT dC hb hr
 have i0:(lone (b.atR a (.code (.seq x y)::k)) cs w).fenced P F:=fenced_calm hb hr rfl
 obtain⟨e,a₁,w₁,hq,cJ⟩:=h b (.code y::k) cs hk na eT dC hb hr
 cases e with
 |normal=>
  obtain⟨e₂,a₂,w₂,wY,jU⟩:=hq b k cs hk na eT dC hb hr
  exact⟨e₂,a₂,w₂,wY,.of_steps (.head i0 stepR_seq cJ) jU⟩
 |exit id=>exact⟨_,a₁,w₁,hq,.of_steps (.one i0 stepR_seq) (.pass (x:=.code y) rfl (fun _ _=>.inl (by simp)) cJ)⟩
 |goto l=>exact⟨_,a₁,w₁,hq,.of_steps (.one i0 stepR_seq) (.pass (x:=.code y) rfl (fun _ _=>.inl (by simp)) cJ)⟩
 |ret=>exact⟨_,a₁,w₁,hq,.of_steps (.one i0 stepR_seq) (.pass (x:=.code y) rfl (fun _ _=>.inl (by simp)) cJ)⟩
 |panic ch=>exact⟨_,a₁,w₁,hq,.of_steps (.one i0 stepR_seq) (.pass (x:=.code y) rfl (fun _ _=>.inl (by simp)) cJ)⟩
 |outgrown=>exact⟨_,a₁,w₁,hq,.of_steps (.one i0 stepR_seq) (.pass (x:=.code y) rfl (fun _ _=>.inl (by simp)) cJ)⟩
theorem D7{id:Nat}(h:wpOpsIn F n P (ops.map dD) Q (List.range ops.size) a w):GX F n P (.region id ops false) Q a w:=
 fun b k cs hk na eT dC hb hr=>let ⟨e,a',w',q,r⟩:=FL _ a w h b k cs hk na eT dC hb hr; ⟨e,a',w',q,.of_steps (.one (fenced_calm hb hr rfl) stepR_region) r⟩
theorem IP{id:Nat}(h:∀ t,wpOpsIn F n P (ops.map dD) Q (Region.schedule (P.follows .mixedOrders) ops t) a { w with drawn:=w.drawn+1 }):GX F n P (.region id ops true) Q a w:=
 fun b k cs hk na eT dC hb hr=>let ⟨e,a',w',q,r⟩:=FL _ a _ (h _) b k cs hk na eT dC hb hr; ⟨e,a',w',q,.of_steps (.one (fenced_calm hb hr rfl) stepR_region_draw) r⟩
theorem yJ{f:FuncId}{fn:Func}{c:Code}{args:Array Value}{R:Ending→World→Prop}(hf:P.funcs[f]?=some fn)(hb:fn.body=some c)(hF:F.fn f)
  (h:GX F n P c (bodyPost P fn R) { tmps:=args++Array.replicate (fn.ntmps-args.size) undef,defers:=[] } w) (dC:F.round=none:=by rfl) :
  CallsDIn F n P f args .returning w fun e u' w'=>u'=.returning∧R e w':=by
 refine⟨hF,fun c₀ cs hu hr=>?_⟩
 let b:Frame:={ (default:Frame) with fn:=f,kind:=.deferred,roundOf:=none }
 have lA:Frame.enter P f args .deferred=b.atR { tmps:=args++Array.replicate (fn.ntmps-args.size) undef,defers:=[] } [.code c]:=by
  simp[Frame.enter,Frame.atR,hf,hb,b]
 have hc:({ c₀ with mode:=.returning }:Frame)=c₀:=by cases c₀; simp only at hu; rw[hu]
 have na:recoverD (c₀::cs)=none:=by simp only[recoverD,hu]
 obtain⟨e,a',w',hq,cJ⟩:=h b [] (c₀::cs) rfl na dC dC.symm hF hr
 rw[←lA]at cJ
 cases e with
 |normal=>
  obtain⟨hd,v,lz,hR⟩:=hq
  exact⟨.returned v,.returning,w',_,⟨rfl,hR⟩,(by rw[hc]; exact StepsIn.trans cJ (.one (fenced_calm (fr:=b.atR a' []) hF hr rfl) (stepR_end rfl))),rfl,rfl,rfl,hd,fn,hf,lz⟩
 |ret=>
  obtain⟨hd,v,lz,hR⟩:=hq
  obtain⟨todo,hs⟩:=cJ.1 rfl
  exact⟨.returned v,.returning,w',_,⟨rfl,hR⟩,(by rw[hc]; exact hs),rfl,rfl,rfl,hd,fn,hf,lz⟩
 |panic chain=>
  obtain⟨hd,hR⟩:=hq
  obtain⟨todo,hs⟩:=cJ
  exact⟨.panicked chain,.returning,w',_,⟨rfl,hR⟩,(by rw[hc]; exact hs),rfl,rfl,rfl,hd,fn,hf⟩
 |exit id=>exact hq.elim
 |goto l=>exact hq.elim
 |outgrown=>exact⟨.outgrown,.returning,w',b,⟨rfl,hq⟩,cJ.resolve_left (by simp[b]),rfl,rfl,trivial⟩
end
end Go.PI
end
section
/- PI, part Y: the evaluator's answers are what the machine does, on every tape and in every order. -/
namespace Go.PI
def JR[ab](B:oK)(E:Env):Out→Exit→Act→World→Prop
 |.norm s,.normal,a,w=>cG B E s a w
 |.exit i s,.exit j,a,w=>i=j∧cG B E s a w
 |.ret s,.ret,a,w=>cG B E s a w
 |.jS v s,.panic ch,a,w=>∃ u,ch=[{ v:=u,recovered:=false }]∧aj E true v u∧Inv E s.hp w∧Marks B E w a.defers
 |_,_,_,_=>False
def bo[ab](B:oK)(E:Env)(w:World)(o:Out)(e:Exit)(a':Act)(w':World):Prop:=
 ∃ E',Ext E E'∧Fr E w E' w'∧JR B E' o e a' w'
theorem bo.from[ab]{B:oK}{E E1:Env}{w w1:World}{o:Out}{e:Exit}{a:Act}{w':World}(hx:Ext E E1)(hf:Fr E w E1 w1)(h:bo B E1 w1 o e a w'):bo B E w o e a w':=by
 obtain⟨E',h1,h2,h3⟩:=h
 exact⟨E',hx.trans h1,hf.trans h2,h3⟩
structure Ctx.Ok[ab](C:Ctx):Prop where
 name : ∀ (f : FuncId) (fn : Func), C.P.funcs[f]? = some fn → fn.body.isSome = true → (fn.name == "runtime.NumGoroutine") = false
 kv:∀ (g:FuncId) (h:List AV→Option AV) (as:List AV) (r:AV),C.kv g=some h→h as=some r→∀ (Ec:Env) (w:World) (vs:List Value),Inv Ec [] w→an Ec false as vs →
  Calls C.P g vs.toArray w (bO Ec w [] (.val r))
 iU:∀ (g:FuncId) (h:List AV→Option (AV×ag)) (as:List AV) (r:AV) (hJ:ag),C.iU g=some h→h as=some (r,hJ) →
  ∀ (Ec:Env) (w:World) (vs:List Value),Inv Ec [] w→an Ec false as vs →
    Calls C.P g vs.toArray w (fun en w'=>∃ r' Pw,bO Ec w Pw (.val r') en w'∧∀ nm,fN nm r' Pw=fN nm r hJ)
 AW:∀ (g:FuncId) (h:List AV→Option (AV×ag)),C.iU g=some h→∃ fn:Func,C.P.funcs[g]?=some fn∧fn.body.isSome=true
 rb:∀ (g:FuncId) (h:List AV→RM dm) (args:List AV) (hp:ag) (e:dm),C.rb g=some h→(h args).run hp=some e→(∃ fn:Func,C.P.funcs[g]?=some fn∧fn.body.isSome=true) ∧
  ∀ (E:Env) (w:World) (vs:List Value),Inv E hp w→an E true args vs→Calls C.P g vs.toArray w (bO E w (ak hp e.wr) (.val e.val))
 EE:∀ (g:FuncId) (h:List AV→Option AV),C.kv g=some h→∃ fn:Func,C.P.funcs[g]?=some fn∧fn.body.isSome=true
def lI[ab](C:Ctx)(k:Nat):Prop:=
 ∀ f args hp res cq,lX C k f args hp=some (res,cq)→∀ (E:Env) (w:World) (vs:List Value),Inv E hp w→an E true args vs →
   Calls C.P f vs.toArray w (bO E w cq res)
def fu[ab](C:Ctx)(k:Nat):Prop:=
 ∀ c s o,bQ C k c s=some o→∀ (r:Option Nat) (B:oK),((r=B.lb∧B.rg=true)∨cx c=true)→∀ (E:Env) (a:Act) (w:World),cG B E s a w→c.wpIn (WF r) 0 C.P (bo B E w o) a w
def lJ[ab](P:Program)(step:Oper→St→Option Out):Prop:=
 ∀ (o:Oper) (s:St) (r:Out),step o s=some r→∀ (rd:Option Nat) (B:oK) (E:Env) (a:Act) (w:World) (K:Act→World→Prop) (Q:Exit→Act→World→Prop),cG B E s a w →
   (∀ s',r=.norm s'→∀ E' a' w',Ext E E'→Fr E w E' w'→cG B E' s' a' w'→K a' w') →
   (∀ v s',r=.jS v s'→∀ E' w' u,Ext E E'→Fr E w E' w'→Inv E' s'.hp w'→aj E' true v u→Q (.panic [{ v:=u,recovered:=false }]) a w') →
   o.wpIn (WF rd) 0 P a w K Q
def uw[ab](C:Ctx)(k:Nat):Prop:=
 ∀ g args hp res wr,(k6 C k g args).run hp=some (res,wr)→∀ (E:Env) (w:World) (vs:List Value),Inv E hp w→an E true args vs →
   Calls C.P g vs.toArray w (bO E w (ak hp wr) res)
theorem qu[ab]{P:Program}{step:Oper→St→Option Out}(dF:lJ P step)(tp:∀ o s r,step o s=some r→(∃ s',r=.norm s')∨∃ v s',r=.jS v s')
  {ops:Array Oper} (rd:Option Nat) (B:oK):∀ (l:List Oper) (s:St) (o:Out),cE step ops l s=some o→∀ (E0 E:Env) (a:Act) (w0 w:World),Ext E0 E→Fr E0 w0 E w→cG B E s a w →
    wpListIn (WF rd) 0 P ops (bo B E0 w0 o) l a w
 |[],s,o,h,E0,E,a,w0,w,hx,hf,hs=>by
  simp only[cE,Option.some.injEq]at h
  subst h
  exact⟨E,hx,hf,hs⟩
 |p::r,s,o,h,E0,E,a,w0,w,hx,hf,hs=>by
  simp only[cE]at h
  unfold wpListIn
  split at h
  ·simp at h
  ·rename_i hw
   rw[k9 hs.fr hw]
   simp only[Bool.false_eq_true,if_false]
   exact⟨fun _ _=>trivial,qu dF tp rd B r _ o h E0 E _ w0 w hx hf ⟨gl hs.fr (by simp[aj]),hs.inv,by rw[put_defers]; exact hs.df,hs.bs⟩⟩
  ·rename_i hw
   rw[k9 hs.fr hw]
   simp only[if_true]
   cases hq:step p s with
   |none=>rw[hq]at h; simp at h
   |some q=>
    rw[hq]at h
    refine dF p s q hq rd B E a w _ _ hs (fun s' e E' a' w' gg FV eV=>?_) (fun v s' e E' w' u gg FV ig hr=>?_)
    ·subst e
     exact qu dF tp rd B r s' o h E0 E' a' w0 w' (hx.trans gg) (hf.trans FV) eV
    ·subst e
     simp only[Option.some.injEq]at h
     subst h
     exact⟨E',hx.trans gg,hf.trans FV,u,rfl,hr,ig,hs.df.mono FV⟩
theorem eX[ab]{P:Program}{E:Env}{w:World}{fv:AV}{f:Value}{args vF:List AV}{vs:List Value}{g:FuncId}(hf:aj E true fv f)(ha:an E true args vs)
  (h : bA fv args = some (g, vF)) (qT : ∃ fn : Func, P.funcs[g]? = some fn ∧ fn.body.isSome = true ∧ (fn.name == "runtime.NumGoroutine") = false) :
  ∃ vs':List Value,an E true vF vs'∧(do let d ←Deferred.ofValue f vs.toArray; invoke d.target d.args:Sem Next).run P w=.ok (.enter g vs'.toArray) w:=by
 obtain⟨fn,h1,h2,h3⟩:=qT
 have hb:fn.body.isNone=false:=by cases hq:fn.body<;>simp_all
 have run:∀ (first captured:List Value),f=.func (.func g) first.toArray captured.toArray →
   (do let d ←Deferred.ofValue f vs.toArray; invoke d.target d.args:Sem Next).run P w=.ok (.enter g (first++vs++captured).toArray) w:=by
  intro first captured hv
  subst hv
  simp only[Deferred.ofValue,Sem.run_bind,Sem.run_pure,Result.andThen_ok,invoke,callFunc,run_program,h1,h3,hb,Bool.false_eq_true,if_false]
  simp
 cases fv with
 |lit u=>
  cases u with
  |func U2 first captured=>
   cases U2 with
   |func g'=>
    simp only[bA,Option.some.injEq,Prod.mk.injEq]at h
    obtain⟨rfl,rfl⟩:=h
    simp only[aj]at hf
    exact⟨first.toList++vs++captured.toList,((an.lits _).append ha).append (an.lits _),run _ _ (by simpa using hf)⟩
   |_=>simp[bA]at h
  |_=>simp[bA]at h
 |iR U2 first captured=>
  cases U2 with
  |func g'=>
   simp only[bA,Option.some.injEq,Prod.mk.injEq]at h
   obtain⟨rfl,rfl⟩:=h
   simp only[aj]at hf
   obtain⟨fv,cv,hv,rP,iD⟩:=hf
   exact⟨fv++vs++cv,(rP.append ha).append iD,run _ _ hv⟩
  |_=>simp[bA]at h
 |_=>simp[bA]at h
theorem EF[ab]{P:Program}{E:Env}{hp:ag}{w:World}{o:Oper}{ρ:Operand→Value}{e:dm}(h:Step P E hp w (execOp ρ o) e)(r:Option Nat):o.semAt r ρ=execOp ρ o:=by
 refine Oper.semAt_eq r ρ o fun c hc=>?_
 obtain⟨E',w',v,hr,_⟩:=h
 have hd:(execOp ρ o).run P w=(do pure (.defer (←resolve ρ c o.type)):Sem Next).run P w:=by
  obtain⟨dst,op,type,pos,after,guard⟩:=o
  simp only at hc
  subst hc
  rfl
 unfold Rd at hr
 rw[hd,Sem.run_bind]at hr
 cases cy:(resolve ρ c o.type).run P w with
 |ok d w1=>simp_all
 |halt x w1=>simp_all
theorem wH[ab]{P:Program}{B:oK}{rd:Option Nat}{E:Env}{s:St}{a:Act}{w:World}(_:cG B E s a w){o:Oper}{e:dm}(h:Step P E s.hp w (execOp a.eval o) e)
  {K:Act→World→Prop} {Q:Exit→Act→World→Prop}
  (hK:∀ E' w' v,Ext E E'→Fr E w E' w'→Inv E' (ak s.hp e.wr) w'→aj E' true e.val v→K (a.put o.dst v) w'):o.wpIn (WF rd) 0 P a w K Q:=by
 have Px:=EF h (WF rd).round
 obtain⟨E',w',v,hr,hx,hI,hf,hv⟩:=h
 refine⟨fun _ _=>trivial,?_⟩
 rw[Px]
 rcases hr with hr|⟨hr,rfl⟩
 ·rw[hr,Oper.uponIn_value]
  exact hK E' w' v hx hf hI hv
 ·rw[hr,Oper.uponIn_skip]
  exact hK E' w' undef hx hf hI hv
theorem wI{P:Program}{g:FuncId}{vs:Array Value}{w:World}{R:Ending→World→Prop}(h:Calls P g vs w R)(rd:Option Nat)(n:Nat):CallsIn (WF rd) n P g vs w R:=
 (callsIn_wide (n:=n)).2 h
theorem xD{P:Program}{rd:Option Nat}{a:Act}{w:World}{o:Oper}{c:Call}(ho:o.op=.call c){g:FuncId}{vs':List Value}(aU:(execOp a.eval o).run P w=.ok (.enter g vs'.toArray) w)
  {R:Ending→World→Prop} (gT:Calls P g vs'.toArray w R) {K:Act→World→Prop} {Q:Exit→Act→World→Prop}
  (h1:∀ v w',R (.returned v) w'→K (a.put o.dst v) w') (h2:∀ ch w',R (.panicked ch) w'→Q (.panic ch) a w') (h3:∀ w',¬R .outgrown w'):o.wpIn (WF rd) 0 P a w K Q:=by
 refine⟨fun _ _=>trivial,?_⟩
 rw[Oper.semAt_eq _ _ _ (by rw[ho]; intro c h; cases h),aU,Oper.uponIn_enter]
 refine⟨fun h=>by simp[WF,Fence.wide]at h,(wI gT rd _).mono fun e w' hR=>?_⟩
 cases e with
 |returned v=>exact h1 v w' hR
 |panicked ch=>exact h2 ch w' hR
 |outgrown=>exact(h3 w' hR).elim
theorem AX[ab]{P:Program}{E:Env}{w:World}{a:Act}{o:Oper}{rv:Operand}{name:String}{cR:Array Operand}{mh:Array TypeId}(ho:o.op=.call ⟨.invoke rv name,cR,mh⟩){v:AV}(hv:aj E true v (a.eval rv)){g:FuncId}{x:AV}
  {args : List AV} (ha : an E true args (cR.toList.map a.eval)) (h : pa P v name = some (g, x)) (qT : ∃ fn : Func, P.funcs[g]? = some fn ∧ fn.body.isSome = true ∧ (fn.name == "runtime.NumGoroutine") = false) :
  ∃ vs':List Value,an E true (x::args) vs'∧(execOp a.eval o).run P w=.ok (.enter g vs'.toArray) w:=by
 obtain⟨fn,f1,f2,f3⟩:=qT
 have hb:fn.body.isNone=false:=by cases hq:fn.body<;>simp_all
 cases v with
 |gd t y=>
  simp only[pa,Option.map_eq_some_iff,Prod.mk.injEq]at h
  obtain⟨f,hm,rfl,rfl⟩:=h
  simp only[aj]at hv
  obtain⟨u,hv,hu⟩:=hv
  refine⟨u::cR.toList.map a.eval,by simp only[an]; exact⟨hu,ha⟩,?_⟩
  unfold Ar at hm
  split at hm
  case h_2=>simp at hm
  rename_i i d hi hd
  split at hm
  ·simp at hm
  ·rename_i m Ry U3
   split at hm
   ·rename_i f' hp hf
    simp only[Option.some.injEq]at hm
    subst hm
    have Rz:m.path.toList=[]:=by simpa using hp
    have Y2:0<Made.depth:=by decide
    obtain⟨n,hn⟩:∃ n,P.types.size+Made.depth=n+1:=⟨P.types.size+Made.depth-1,by omega⟩
    have RA:(Go.method (P.types.size+Made.depth) t u name).run P w=.ok (f',u) w:=by
     rw[hn]
     unfold Go.method
     simp only[typeInfo,Sem.run_bind,run_program,Result.andThen_ok,hi,Sem.run_pure,Ry,Rz,follow,hf,receiverAt,underlying,hd]
     rfl
    have QQ:(callMethod (.iface t u) name (cR.map a.eval)).run P w=.ok (.enter f' (#[u]++cR.map a.eval)) w:=by
     simp only[callMethod,Sem.run_bind,run_program,Result.andThen_ok,RA,callFunc,f1,f3,hb,Bool.false_eq_true,if_false,Sem.run_pure]
    have h0:(#[Value.iface t u]++cR.map a.eval)[0]?=some (Value.iface t u):=by rw[←Array.getElem?_toList]; simp
    have h1:(#[Value.iface t u]++cR.map a.eval).extract 1 (#[Value.iface t u]++cR.map a.eval).size=cR.map a.eval:=by
     apply Array.ext'
     simp
     exact List.take_of_length_le (by simp)
    simp only[execOp,ho,resolve,Sem.run_bind,Sem.run_pure,Result.andThen_ok,hv,invoke,h0,h1,QQ]
    rw[show (#[u]++cR.map a.eval)=(u::cR.toList.map a.eval).toArray by apply Array.ext'; simp]
   ·simp at hm
  ·simp at hm
 |_=>simp[pa]at h
theorem qv{P:Program}{rd:Option Nat}{a:Act}{w:World}{o:Oper}{c:Call}{f:Operand}(ho:o.op=.call c)(hc:c.callee=.value f){g:FuncId}{vs':List Value}
  (aU:(do let d ←Deferred.ofValue (a.eval f) (c.args.toList.map a.eval).toArray; invoke d.target d.args:Sem Next).run P w=.ok (.enter g vs'.toArray) w)
  {R:Ending→World→Prop} (gT:Calls P g vs'.toArray w R) {K:Act→World→Prop} {Q:Exit→Act→World→Prop}
  (h1:∀ v w',R (.returned v) w'→K (a.put o.dst v) w') (h2:∀ ch w',R (.panicked ch) w'→Q (.panic ch) a w') (h3:∀ w',¬R .outgrown w'):o.wpIn (WF rd) 0 P a w K Q:=by
 refine⟨fun _ _=>trivial,?_⟩
 rw[Oper.semAt_eq _ _ _ (by rw[ho]; intro c h; cases h)]
 have:(execOp a.eval o).run P w=.ok (.enter g vs'.toArray) w:=by
  simp only[execOp,ho,resolve,hc]
  rw[←aU]
  congr 3
  rw[←Array.toList_map]
 rw[this,Oper.uponIn_enter]
 refine⟨fun h=>by simp[WF,Fence.wide]at h,(wI gT rd _).mono fun e w' hR=>?_⟩
 cases e with
 |returned v=>exact h1 v w' hR
 |panicked ch=>exact h2 ch w' hR
 |outgrown=>exact(h3 w' hR).elim
theorem JS[ab]{E:Env}{hp:ag}{w w':World}(hI:Inv E hp w)(fH:∀ b,E.own b∨(E.m b).isSome=true→w'.heap[b]?=w.heap[b]?)(kN:w.heap.size≤w'.heap.size):Inv E hp w':=by
 have eU:∀ n o,hp[n]?=some (some o)→∀ b,cd E hp n b→E.own b∨(E.m b).isSome=true:=by
  rintro n o ho b ⟨o',l,c6,hl,hb⟩
  rw[ho]at c6
  cases c6
  have h:=hI.objs n o ho
  cases o with
  |arr g cl fz es=>
   obtain⟨l',iQ,_,hm⟩:=h
   simp only at hl
   rw[hl]at iQ; cases iQ
   rw[hb]at hm
   obtain⟨c,T,_,hif,_⟩:=hm
   cases fz with
   |true=>simp_all
   |false=>simp_all
  |gf k vs=>
   obtain⟨l',b',TN,us,h1,h2,h3,h4,h5,_⟩:=h
   simp only at hl
   rw[hl]at h1; cases h1
   rw[hb]at h2; cases h2
   exact .inl h5
 refine⟨hI.len,fun n o hn=>(hI.objs n o hn).other hn fun b hb=>fH b (eU n o hn b hb),hI.free,hI.inj,fun b c h=>?_,fun b h=>Nat.lt_of_lt_of_le (hI.oT b h) kN,hI.jv⟩
 obtain⟨T,fz,hw⟩:=hI.mem b c h
 exact⟨T,fz,by rw[fH b (.inr (by rw[h]; rfl))]; exact hw⟩
theorem vG{F:Fence}{n:Nat}{P:Program}{fn:Func}{tmps:Array Value}{R:Ending→World→Prop}{u:FrameMode}{tl:List Deferred}(hu:u≠.run):∀ (rs:List Nat) (w:World),rs.Nodup→(∀ r∈rs,w.heap[r]?=some (.deferred (some []))) →
  (∀ w',w'.heap.size=w.heap.size→w'.os=w.os→w'.tape=w.tape→w'.output=w.output→(∀ b,b∉rs→w'.heap[b]?=w.heap[b]?)→LeavesInM F n P fn tmps R tl u w') →
  LeavesInM F n P fn tmps R ((rs.map fun r=>{ target:=.collected r,args:=#[] })++tl) u w
 |[],w,_,_,h=>h w rfl rfl rfl rfl (fun _ _=>rfl)
 |r::rs,w,hn,hr,h=>by
  rw[List.nodup_cons]at hn
  refine⟨hu,.inl ⟨r,w.putObj r (.deferred none),rfl,run_takeDeferred (hr r (by simp)),?_⟩⟩
  refine vG hu rs _ hn.2 (fun r' h'=>?_) fun w' h1 h2 h3 h4 h5=>?_
  ·have dK:r'≠r:=by rintro rfl; exact hn.1 h'
   rw[World.putObj_heap_other dK]
   exact hr r' (by simp[h'])
  ·refine h w' (by rw[h1]; simp) h2 h3 h4 fun b hb=>?_
   simp only[List.mem_cons,not_or]at hb
   rw[h5 b hb.2,World.putObj_heap_other hb.1]
theorem je[ab]{P:Program}{fn:Func}{tmps:Array Value}{R:Ending→World→Prop}{E0 E:Env}{w0 w:World}{hp:ag}{ds:List Deferred}{u:FrameMode}{B:oK}(hB:B.n=w0.heap.size)(hI:Inv E hp w)(hm:Marks B E w ds)
  (hf:Fr E0 w0 E w) (hu:u≠.run) (h:∀ w',Inv E hp w'→Fr E0 w0 E w'→LeavesInM Fence.wide 0 P fn tmps R B.tl u w'):LeavesInM Fence.wide 0 P fn tmps R ds u w:=by
 obtain⟨rs,rfl,zO,_,Oc⟩:=hm
 refine vG hu rs w zO (fun r hr=>(Oc r hr).2.2) fun w' h1 h2 h3 h4 h5=>h w' ?_ ?_
 ·refine JS hI (fun b hb=>h5 b fun hr=>?_) (by omega)
  obtain⟨_,a2,a3⟩:=Oc b hr
  rcases hb with hb|hb
  ·exact a2 hb
  ·cases Pf:E.m b with
   |none=>rw[Pf]at hb; simp at hb
   |some c=>obtain⟨T,fz,h6⟩:=hI.mem b c Pf; rw[a3]at h6; cases h6
 ·refine⟨h2.trans hf.os,h3.trans hf.tape,h4.trans hf.out,by rw[h1]; exact hf.size,fun b hb ho=>?_,hf.own,hf.m,fun b r hr=>?_⟩
  ·rw[h5 b fun hr=>?_]
   ·exact hf.same b hb ho
   ·have:=(Oc b hr).1; omega
  ·obtain⟨r',lz⟩:=hf.lp b r hr
   exact⟨r',by rw[h5 b fun hm=>by rw[(Oc b hm).2.2]at lz; cases lz]; exact lz⟩
theorem ux[ab]{C:Ctx}{k:Nat}{f:FuncId}{args:List AV}{hp:ag}{r:nM×ag}(h:lX C k f args hp=some r):
  ∃ fn:Func,C.P.funcs[f]?=some fn∧fn.body.isSome=true:=by
 cases k with
 |zero=>simp[lX]at h
 |succ k=>
  simp only[lX]at h
  split at h
  ·simp at h
  rename_i fn qT
  split at h
  ·simp at h
  rename_i c hc
  exact⟨fn,qT,by rw[hc]; rfl⟩
theorem AY[ab]{C:Ctx}{k:Nat}(hC:fu C k){f:FuncId}{args:List AV}{hp:ag}{res:nM}{cq:ag}{fn:Func}{c:Code}(qT:C.P.funcs[f]?=some fn)(hc:fn.body=some c){E:Env}{w:World}{vs:List Value}(hI:Inv E hp w)(ha:an E true args vs)
  (h:(match bQ C k c ⟨f,args++List.replicate (fn.ntmps-args.length) .undef,hp⟩ with
    |some (.norm s)|some (.ret s)=>
     match (aR C.P s.fr fn.results.toList).run s.hp with
     |some l=>some (nM.val (cB l),s.hp)
     |none=>none
    |some (.jS v s)=>some (.jS v,s.hp)
    |_=>none)=some (res,cq)):Calls C.P f vs.toArray w (bO E w cq res):=by
 have hlen:=ha.length
 have hs:cG ⟨w.heap.size,[],true,none⟩ E ⟨f,args++List.replicate (fn.ntmps-args.length) .undef,hp⟩ { tmps:=vs.toArray++Array.replicate (fn.ntmps-vs.toArray.size) undef,defers:=[] } w:=by
  refine⟨?_,hI,Marks.nil,Nat.le_refl _⟩
  simp only[Array.toList_append,Array.toList_replicate,List.size_toArray,←hlen]
  refine ha.append ?_
  have:=an.lits (E:=E) (o:=true) (List.replicate (fn.ntmps-args.length) undef)
  simpa using this
 have ret:∀ s',((bQ C k c ⟨f,args++List.replicate (fn.ntmps-args.length) .undef,hp⟩=some (.norm s')) ∨
   (bQ C k c ⟨f,args++List.replicate (fn.ntmps-args.length) .undef,hp⟩=some (.ret s'))) →
   (match (aR C.P s'.fr fn.results.toList).run s'.hp with|some l=>some (nM.val (cB l),s'.hp)|none=>none)=some (res,cq) →
   Calls C.P f vs.toArray w (bO E w cq res):=by
  intro s' bE hr
  split at hr
  case h_2=>simp at hr
  rename_i l hl
  simp only[Option.some.injEq,Prod.mk.injEq]at hr
  obtain⟨rfl,rfl⟩:=hr
  have fin:∀ E' a' w',Ext E E'→Fr E w E' w'→cG ⟨w.heap.size,[],true,none⟩ E' s' a' w'→LeavesInM Fence.wide 0 C.P fn a'.tmps (bO E w s'.hp (.val (cB l))) a'.defers .returning w':=by
   intro E' a' w' hx hf eV
   refine je rfl eV.inv eV.df hf (by simp) fun w2 qn iD=>?_
   obtain⟨v,h1,h2⟩:=rN qn eV.fr hl
   exact⟨v,h1,E',hx,qn,iD,h2⟩
  refine callsIn_wide.1 (callsIn_of_wp_marks (F:=Fence.wide) (n:=0) qT hc trivial ?_)
  rcases bE with bE|bE
  ·refine wpIn_mono (hC c _ _ bE none _ (.inl ⟨rfl,rfl⟩) E _ w hs) fun e a' w' cX=>?_
   obtain⟨E',hx,hf,ho⟩:=cX
   cases e with
   |normal=>exact fin E' a' w' hx hf ho
   |_=>exact ho.elim
  ·refine wpIn_mono (hC c _ _ bE none _ (.inl ⟨rfl,rfl⟩) E _ w hs) fun e a' w' cX=>?_
   obtain⟨E',hx,hf,ho⟩:=cX
   cases e with
   |ret=>exact fin E' a' w' hx hf ho
   |_=>exact ho.elim
 split at h
 ·grind
 ·grind
 ·rename_i v s' bE
  simp only[Option.some.injEq,Prod.mk.injEq]at h
  obtain⟨rfl,rfl⟩:=h
  refine callsIn_wide.1 (callsIn_of_wp_marks (F:=Fence.wide) (n:=0) qT hc trivial (wpIn_mono (hC c _ _ bE none _ (.inl ⟨rfl,rfl⟩) E _ w hs) fun e a' w' cX=>?_))
  obtain⟨E',hx,hf,ho⟩:=cX
  cases e with
  |panic ch=>
   obtain⟨u,h1,h2,h3,h4⟩:=ho
   exact je rfl h3 h4 hf (by simp) fun w2 qn iD=>⟨E',hx,qn,iD,u,h1,h2⟩
  |_=>exact ho.elim
 ·simp at h
theorem Ck[ab]{C:Ctx}(bL:C.Ok){k:Nat}(hF:lI C k):uw C (k+1):=by
 intro g args hp res wr h E w vs hI ha
 simp only[k6,RM.run_bind]at h
 cases hq:(aM 1000 args).run hp with
 |none=>rw[hq]at h; simp at h
 |some as=>
  rw[hq]at h
  simp only[Option.bind_some]at h
  split at h
  ·rename_i hf hh
   split at h
   case h_2=>simp[RM.ae]at h
   rename_i r hr
   exact uu hI ha hq h fun Ec h1 h2=>bL.kv g hf as r hh hr Ec w vs h1 h2
  ·split at h
   case h_2=>simp[RM.ae]at h
   rename_i r hJ hr
   exact uu hI ha hq h fun Ec h1 h2=>hF g as [] r hJ hr Ec w vs h1 h2.iv
theorem zP[ab]{C:Ctx}(bL:C.Ok){k:Nat}{g:FuncId}{args:List AV}{hp:ag}{nm:Nat}{e:dm}(h:(ia C (fun as=>lX C k g as []) nm g args).run hp=some e):
  ∃ fn : Func, C.P.funcs[g]? = some fn ∧ fn.body.isSome = true ∧ (fn.name == "runtime.NumGoroutine") = false := by
 unfold ia at h
 rw[RM.run_bind]at h
 cases hs:(aM 1000 args).run hp with
 |none=>rw[hs]at h; simp at h
 |some as=>
  rw[hs]at h
  simp only[Option.bind_some]at h
  split at h
  ·rename_i hh hi
   obtain⟨fn,h1,h2⟩:=bL.AW g hh hi
   exact⟨fn,h1,h2,bL.name g fn h1 h2⟩
  ·split at h
   ·rename_i r hJ hq
    obtain⟨fn,h1,h2⟩:=ux hq
    exact⟨fn,h1,h2,bL.name g fn h1 h2⟩
   ·simp[RM.ae]at h
theorem zQ[ab]{C:Ctx}(bL:C.Ok){k:Nat}(hF:lI C k){E:Env}{hp:ag}{w:World}(hI:Inv E hp w){nm:Nat}(nT:nm=hp.length∨hp[nm]?=some none)
  {g:FuncId} {args:List AV} {vs:List Value} (ha:an E true args vs) {e:dm} (h:(ia C (fun as=>lX C k g as []) nm g args).run hp=some e) :
  Calls C.P g vs.toArray w (Ge E w hp e):=by
 unfold ia at h
 rw[RM.run_bind]at h
 cases hs:(aM 1000 args).run hp with
 |none=>rw[hs]at h; simp at h
 |some as=>
  rw[hs]at h
  simp only[Option.bind_some]at h
  have nx:=(ql hI (N:=fun _=>True) 1000).2 args as vs wG hs ha
  split at h
  ·rename_i hh hi
   split at h
   ·rename_i q hq
    exact(bL.iU g hh as q.1 q.2 hi hq _ w vs (nv hI _) nx).mono fun en w' hp=>by
     obtain⟨r',Pw,h1,h2⟩:=hp
     rw[←h2]at h
     exact Gf hI nT h (fun b hb=>hb) h1
   ·simp[RM.ae]at h
  ·split at h
   ·rename_i r hJ hq
    exact(hF g as [] _ hJ hq _ w vs (nv hI _) nx.iv).mono fun en w' hp=>Gf hI nT h (fun b hb=>hb) hp
   ·simp[RM.ae]at h
theorem AZ[ab]{C:Ctx}(bL:C.Ok){k:Nat}{g:FuncId}{args:List AV}{hp:ag}{r:nM×List (Nat×aL)}(h:(k6 C k g args).run hp=some r):
  ∃ fn : Func, C.P.funcs[g]? = some fn ∧ fn.body.isSome = true ∧ (fn.name == "runtime.NumGoroutine") = false := by
 have:∃ fn:Func,C.P.funcs[g]?=some fn∧fn.body.isSome=true:=by
  cases k with
  |zero=>simp[k6,RM.ae]at h
  |succ k=>
   simp only[k6,RM.run_bind]at h
   cases hq:(aM 1000 args).run hp with
   |none=>rw[hq]at h; simp at h
   |some as=>
    rw[hq]at h
    simp only[Option.bind_some]at h
    split at h
    ·rename_i hf hh; exact bL.EE g hf hh
    ·split at h
     case h_2=>simp[RM.ae]at h
     rename_i r hJ hr
     exact ux hr
 obtain⟨fn,h1,h2⟩:=this
 exact⟨fn,h1,h2,bL.name g fn h1 h2⟩
theorem pH[ab]{E E':Env}{hp cq:ag}{w w':World}(hI:Inv E hp w)(hx:Ext E E')(ig:Inv E' cq w')(hf:Fr E w E' w'){r:AV}{v:Value}(hr:aj E' true r v):
  ∃ E2,Ext E E2∧Inv E2 (gH hp.length r cq) w'∧Fr E w E2 w'∧aj E2 true r v:=by
 unfold gH
 split
 ·rename_i hc
  simp only[Bool.and_eq_true]at hc
  have hle:hp.length≤cq.length:=by rw[hI.len,ig.len]; exact hx.L
  obtain⟨h1,h2,h3⟩:=tn ig hle hc.2
  refine⟨E'.lower hp.length,⟨hx.m,fun n hn aq l h=>hx.ρ n hn aq l h,by simp[Env.lower,hI.len]⟩,h1,hf.trans h2,aj.down h3 hc.1 hr⟩
 ·exact⟨E',hx,ig,hf,hr⟩
theorem Gh[ab]{E:Env}{hp:ag}{w:World}(hI:Inv E hp w){esz:Nat}:
  ∃ E',Ext E E'∧Inv E' (hp++[some (.arr true true false [])]) w∧Fr E w E' w∧aj E' true (.bq esz hp.length 0 0 0 none) (.slice none 0 0):=by
 let E':Env:={ ρ:=fun n aq=>if n=hp.length then (if aq=0 then some ⟨none,esz,0⟩ else none) else E.ρ n aq,m:=E.m,L:=E.L+1,own:=E.own }
 have hx:Ext E E':=⟨fun _ _ h=>h,fun n hn aq l h=>by
  have:n≠hp.length:=by rw[hI.len]; omega
  simp[E',this,h],by simp[E']⟩
 have dc:∀ n,n≠hp.length→∀ aq,E'.ρ n aq=E.ρ n aq:=fun n hn aq=>by simp[E',hn]
 have nq:∀ n o,n≠hp.length→(hp++[some (.arr true true false [])])[n]?=some o→hp[n]?=some o:=by
  intro n o hn h
  rw[List.getElem?_append]at h
  split at h
  ·exact h
  ·rw[List.getElem?_eq_none (by simp; omega)]at h; simp at h
 have eU:∀ n b,cd E' (hp++[some (.arr true true false [])]) n b→cd E hp n b:=by
  rintro n b ⟨o,l,ho,hl,hb⟩
  by_cases e:n=hp.length
  ·subst e
   simp at ho
   subst ho
   simp[E']at hl
   subst hl
   simp at hb
  ·refine⟨o,l,nq n _ e ho,?_,hb⟩
   cases o with
   |arr=>simpa only[dc n e] using hl
   |gf=>simpa only[dc n e] using hl
 refine⟨E',hx,⟨by simp[E',hI.len],?_,?_,fun n1 n2 b h1 h2=>hI.inj n1 n2 b (eU _ _ h1) (eU _ _ h2),hI.mem,hI.oT,hI.jv⟩,
  ⟨rfl,rfl,rfl,Nat.le_refl _,fun _ _ _=>rfl,fun _ h=>.inl h,fun _ _ h=>.inl h,fun _ r h=>⟨r,h⟩⟩,?_⟩
 ·intro n o ho
  by_cases e:n=hp.length
  ·subst e
   simp at ho
   subst ho
   refine⟨⟨none,esz,0⟩,by simp[E'],fun aq l' h=>?_,rfl,rfl⟩
   simp[E']at h
   simp[h.1]
  ·have c6:=nq n _ e ho
   have h:=hI.objs n o c6
   cases o with
   |arr g cl fz es=>
    obtain⟨l,hl,hv,hm⟩:=h
    refine⟨l,by rw[dc n e]; exact hl,fun aq l' h=>hv aq l' (by rw[dc n e]at h; exact h),?_⟩
    cases hb:l.kJ with
    |none=>rw[hb]at hm; exact hm
    |some b=>
     rw[hb]at hm
     obtain⟨c,T,a1,a2,a3,a4,a5,a6,a7⟩:=hm
     exact⟨c,T,a1,a2,a3,a4,a5,a6,fun i x gg=>by obtain⟨v,jV,ft⟩:=a7 i x gg; exact⟨v,jV.mono hx,ft⟩⟩
   |gf k Mj=>
    obtain⟨l,b,es,clock,a1,a2,a3,a4,a5,a6,a7,a8⟩:=h
    exact⟨l,b,es,clock,by rw[dc n e]; exact a1,a2,a3,a4,a5,fun aq l' h=>a6 aq l' (by rw[dc n e]at h; exact h),a7,a8.mono hx⟩
 ·intro n aq h
  by_cases e:n=hp.length
  ·subst e; simp at h
  ·rw[dc n e]; exact hI.free n aq (nq n _ e h)
 ·simp only[aj]
  refine⟨trivial,?_,⟨none,esz,0⟩,by simp[E'],rfl,by simp,?_⟩
  ·show hp.length<E.L+1
   rw[hI.len]; omega
  ·simp
theorem gV{α:Type}{l:List α}{n:Nat}{x:α}(h:l[n]?=some x):l.set n x=l:=by
 apply List.ext_getElem?
 intro m
 by_cases hm:n=m
 ·grind
 ·rw[List.getElem?_set_ne hm]
theorem vH[ab]{E E':Env}(hx:Ext E E'){esz j nm:Nat}(nT:aj E' true (.bq esz nm 0 0 0 none) (.slice none 0 0)){e e':AV}{v:Value}(hr:aj E true e v)(h:kL esz j nm e=some e'):aj E' true e' v:=by
 unfold kL at h
 split at h
 ·rename_i l
  split at h
  case h_2=>simp at h
  rename_i hl
  simp only[Option.some.injEq]at h
  subst h
  simp only[aj]at hr
  obtain⟨c,rfl,hc⟩:=hr
  obtain⟨v,hv,XB,Y3⟩:=hc.get hl
  simp only[aj]at XB
  subst XB
  have:=(hc.mono hx).set j nT Y3
  rw[gV hv]at this
  simp only[aj]
  exact⟨c,rfl,this⟩
 ·grind[aj]
 ·simp at h
theorem rQ[ab]{E:Env}{hp:ag}{w:World}(hI:Inv E hp w){n i:Nat}{g c f:Bool}{es:List AV}{e e':AV}(ho:hp[n]?=some (some (.arr g c f es)))(hi:es[i]?=some e)
  (hr:∀ v,aj E true e v→aj E true e' v):Inv E (hp.set n (some (.arr g false f (es.set i e')))) w:=by
 have hn:=(List.getElem?_eq_some_iff.1 ho).1
 have nq:∀ m o,(hp.set n (some (.arr g false f (es.set i e'))))[m]?=some o→m=n∧o=some (.arr g false f (es.set i e'))∨m≠n∧hp[m]?=some o:=by
  grind
 have eU:∀ m b,cd E (hp.set n (some (.arr g false f (es.set i e')))) m b→cd E hp m b:=by
  rintro m b ⟨o,l,h1,h2,h3⟩
  rcases nq m _ h1 with ⟨rfl,h5⟩|⟨_,h5⟩
  ·cases h5
   exact⟨_,l,ho,by simpa using h2,h3⟩
  ·exact⟨o,l,h5,h2,h3⟩
 refine⟨by rw[List.length_set]; exact hI.len,fun m o h=>?_,fun m aq h=>?_,fun m m' b h1 h2=>hI.inj m m' b (eU _ _ h1) (eU _ _ h2),hI.mem,hI.oT,hI.jv⟩
 ·rcases nq m _ h with ⟨rfl,h5⟩|⟨_,h5⟩
  ·cases h5
   obtain⟨l,h1,h2,h3⟩:=hI.objs _ _ ho
   refine⟨l,by simpa using h1,fun aq l' h=>by simpa using h2 aq l' h,?_⟩
   cases hb:l.kJ with
   |none=>
    rw[hb]at h3
    obtain⟨rfl,rfl⟩:=h3
    simp at hi
   |some b=>
    rw[hb]at h3
    obtain⟨c',T,a1,a2,a3,a4,a5,a6,a7⟩:=h3
    refine⟨c',T,a1,a2,a3,a4,by simpa using a5,fun h=>by simpa using a6 h,fun k x hx=>?_⟩
    by_cases hk:k=i
    ·subst hk
     rw[List.getElem?_set_self (List.getElem?_eq_some_iff.1 hi).1]at hx
     simp only[Option.some.injEq]at hx
     subst hx
     obtain⟨v,hv,ft⟩:=a7 _ _ hi
     exact⟨v,by simpa using hr v hv.Aw,ft⟩
    ·rw[List.getElem?_set_ne (Ne.symm hk)]at hx
     obtain⟨v,hv,ft⟩:=a7 _ _ hx
     exact⟨v,by simpa using hv.Aw,ft⟩
  ·exact hI.objs m o h5
 ·rcases nq m _ h with ⟨rfl,h5⟩|⟨_,h5⟩
  ·cases h5
  ·exact hI.free m aq h5
theorem A0[ab]{E:Env}{j:Nat}{e e':AV}(h:sM j e=some e')(v:Value)(hr:aj E true e v):aj E true e' v:=by
 unfold sM at h
 split at h
 case h_2=>simp at h
 rename_i l
 split at h
 case h_2=>simp at h
 rename_i hj
 simp only[Option.some.injEq]at h
 subst h
 simp only[aj]at hr ⊢
 obtain⟨c,rfl,hc⟩:=hr
 refine⟨c,rfl,?_⟩
 have Y4:j<l.length:=by simpa using hj
 obtain⟨u,hu,_⟩:=hc.FK.get (List.getElem?_eq_getElem Y4)
 have:=hc.set j (x:=.any) (v:=u) (by simp[aj]) (hc.leaf u (List.mem_iff_getElem?.2 ⟨j,hu⟩))
 rw[gV hu]at this
 exact this
theorem EG[ab]{B:oK}{E:Env}{s:St}{a:Act}{w:World}(hs:cG B E s a w)(d j:Nat):cG B E (mg s d j) a w:=by
 unfold mg
 split
 ·split
  ·rename_i ho
   split
   ·rename_i e' he
    obtain⟨e,LZ,xE⟩:=Option.bind_eq_some_iff.1 he
    exact⟨hs.fr,rQ hs.inv ho LZ fun v hv=>A0 xE v hv,hs.df,hs.bs⟩
   ·exact hs
  ·exact hs
 ·exact hs
theorem uy[ab]{B:oK}{E:Env}{a:Act}{w:World}:∀ (l:List (Nat×Nat)) {s:St},cG B E s a w→cG B E (gF l s) a w
 |[],_,hs=>hs
 |(d,j)::r,_,hs=>uy r (EG hs d j)
theorem Cl(s:St)(d j:Nat):(mg s d j).hp.length=s.hp.length:=by
 grind[mg]
theorem rR:∀ (l:List (Nat×Nat)) (s:St),(gF l s).hp.length=s.hp.length
 |[],_=>rfl
 |(d,j)::r,s=>by
  simp only[gF]
  rw[rR r,Cl]
theorem Hp[ab]{B:oK}{E:Env}{s:St}{a:Act}{w:World}(hs:cG B E s a w)(d:Tmp)(j esz:Nat):∃ E',Ext E E'∧Fr E w E' w∧cG B E' (o9 d s j esz) a w:=by
 obtain⟨E',h1,h2,h3,h4⟩:=Gh (esz:=esz) hs.inv
 have same:∃ E',Ext E E'∧Fr E w E' w∧cG B E' s a w:=⟨E,Ext.refl E,Fr.refl E w,hs⟩
 unfold o9
 split
 ·rename_i n aq i k hd
  split
  ·rename_i g c f es ho
   split
   ·rename_i e' he
    obtain⟨e,LZ,xE⟩:=Option.bind_eq_some_iff.1 he
    have hn:=(List.getElem?_eq_some_iff.1 ho).1
    have c6:(s.hp++[some (aL.arr true true false [])])[n]?=some (some (.arr g c f es)):=by rw[List.getElem?_append_left hn]; exact ho
    obtain⟨l,sG,_,I5⟩:=hs.inv.objs _ _ ho
    cases hb:l.kJ with
    |none=>
     simp_all
    |some b=>
     rw[hb]at I5
     obtain⟨c',T,a1,a2,a3,a4,a5,a6,a7⟩:=I5
     obtain⟨v0,Mr,_⟩:=a7 _ _ LZ
     have U4:∀ v,aj E' true e v→aj E' true e' v:=fun v hv=>vH (Ext.refl E') h4 hv xE
     refine⟨E',h1,h3,⟨hs.fr.mono h1,?_,hs.df.mono h3,hs.bs⟩⟩
     have:=rQ h2 c6 LZ U4
     rw[List.set_append_left _ _ hn]at this
     exact this
   ·exact same
  ·exact same
 ·rename_i e _ hd
  split
  ·rename_i e' he
   obtain⟨v,hv,hr⟩:=hs.fr.get hd
   refine⟨E',h1,h3,⟨?_,h2,hs.df.mono h3,hs.bs⟩⟩
   have:=(hs.fr.mono h1).set d (vH h1 h4 hr he)
   rw[gV hv]at this
   exact this
  ·exact same
 ·exact same
theorem Gi[ab]{B:oK}{d:Tmp}{a:Act}{w:World}:∀ (l:List (Nat×Nat)) {E:Env} {s:St},cG B E s a w→∃ E',Ext E E'∧Fr E w E' w∧cG B E' (II d l s) a w
 |[],E,s,hs=>⟨E,Ext.refl E,Fr.refl E w,hs⟩
 |(j,esz)::r,E,s,hs=>by
  obtain⟨E1,h1,h2,h3⟩:=Hp hs d j esz
  obtain⟨E2,h4,h5,h6⟩:=Gi r h3
  exact⟨E2,h1.trans h4,h2.trans h5,h6⟩
theorem JT[ab]{B:oK}{l:Tmp→List (Nat×Nat)}{dst:Option Tmp}{a:Act}{w:World}{E:Env}{s:St}(hs:cG B E s a w):∃ E',Ext E E'∧Fr E w E' w∧cG B E' (BH l dst s) a w:=by
 cases dst with
 |none=>exact⟨E,Ext.refl E,Fr.refl E w,hs⟩
 |some d=>exact Gi _ hs
theorem iE{hp:ag}{n:Nat}{st:kZ}(h:ib hp n=some st):∃ fn ps as bd fr,hp[n]?=some (some (.gf (.loop fn ps as bd st) fr)):=by
 grind[ib]
theorem n6[ab]{E:Env}{hp:ag}{w:World}(hI:Inv E hp w){n:Nat}{fn:FuncId}{ps:Array Tmp}{as bd:Code}{st:kZ}{fr:List AV}(ho:hp[n]?=some (some (.gf (.loop fn ps as bd st) fr)))
  {l:Loc} {b:Nat} (hl:E.ρ n 0=some l) (hb:l.kJ=some b) :
  ∃ r,w.heap[b]?=some (.loop r)∧r.params=ps∧r.assign=as∧r.body=bd∧st.is r.state r.pending∧an E true fr r.tmps.toList:=by
 obtain⟨l0,b0,ob,us,h1,h2,h3,h4,h5,h6,h7,h8⟩:=hI.objs n _ ho
 rw[hl]at h1; cases h1
 rw[hb]at h2; cases h2
 cases ob with
 |loop r=>
  obtain⟨a1,a2,a3,a4,a5⟩:=h7
  exact⟨r,h3,a1,a2,a3,a4,by rw[a5]; exact h8⟩
 |_=>exact h7.elim
theorem Cm[ab]{E:Env}{hp:ag}{w:World}(hI:Inv E hp w){n:Nat}{fn:FuncId}{ps:Array Tmp}{as bd:Code}{st:kZ}{fr:List AV}(ho:hp[n]?=some (some (.gf (.loop fn ps as bd st) fr)))
  {l:Loc} {b:Nat} (hl:E.ρ n 0=some l) (hb:l.kJ=some b) {r:Loop} (hr:w.heap[b]?=some (.loop r)) {st':kZ} {s':LoopState} {p':Option Code} (U5:st'.is s' p') :
  Inv E (oF hp n st') (w.putObj b (.loop { r with state:=s',pending:=p' }))∧Fr E w E (w.putObj b (.loop { r with state:=s',pending:=p' })):=by
 obtain⟨r',h1,h2,h3,h4,_,h6⟩:=n6 hI ho hl hb
 rw[hr]at h1
 cases h1
 unfold oF
 rw[ho]
 exact wE hI ho hl hb (k':=.loop fn ps as bd st') (us':=r.tmps.toList) ⟨h2,h3,h4,U5,rfl⟩ h6 (fun _ _ _ _ _=>⟨_,rfl⟩)
theorem uz{E:Env}{u:List Nat}:∀ (i:Nat) (fr:List AV) (vs:List Value),an E true fr vs→an E true (m9 u i fr) vs
 |_,[],[],h=>by simp[m9,an]
 |i,x::xs,v::vs,h=>by
  simp only[an]at h
  simp only[m9,an]
  refine⟨?_,uz (i+1) xs vs h.2⟩
  split
  ·exact h.1
  ·simp[aj]
 |_,[],_::_,h=>by simp[an]at h
 |_,_::_,[],h=>by simp[an]at h
theorem Cn{E:Env}:∀ (fr:List AV) (vs:List Value),an E true fr vs→an E true (fr.map fun _=>.any) vs
 |[],[],_=>by simp[an]
 |x::xs,v::vs,h=>by
  simp only[an]at h
  simp only[List.map_cons,an,aj]
  exact⟨trivial,Cn xs vs h.2⟩
 |[],_::_,h=>by simp[an]at h
 |_::_,[],h=>by simp[an]at h
theorem Co[ab]{E:Env}{hp:ag}{w:World}(hI:Inv E hp w){n:Nat}{fn:FuncId}{ps:Array Tmp}{as bd:Code}{st:kZ}{fr:List AV}(ho:hp[n]?=some (some (.gf (.loop fn ps as bd st) fr)))
  {l:Loc} {b:Nat} (hl:E.ρ n 0=some l) (hb:l.kJ=some b) {r:Loop} (hr:w.heap[b]?=some (.loop r)) {s':LoopState} {p':Option Code} :
  Inv E (rf hp n) (w.putObj b (.loop { r with state:=s',pending:=p' }))∧Fr E w E (w.putObj b (.loop { r with state:=s',pending:=p' })):=by
 obtain⟨r',h1,h2,h3,h4,_,h6⟩:=n6 hI ho hl hb
 rw[hr]at h1
 cases h1
 unfold rf
 rw[ho]
 exact wE hI ho hl hb (k':=.loop fn ps as bd .gM) (us':=r.tmps.toList) ⟨h2,h3,h4,trivial,rfl⟩ (Cn _ _ h6) (fun _ _ _ _ _=>⟨_,rfl⟩)
theorem vI{E:Env}:∀ (ps:List Tmp) (xs:List AV) (vs:List Value) (fr:List AV) (t:Array Value),an E true fr t.toList→an E true xs vs →
  an E true (fE fr ps xs) ((ps.zip vs).foldl (fun (t:Array Value) (q:Tmp×Value)=>t.setIfInBounds q.1 q.2) t).toList
 |[],xs,vs,fr,t,h,_=>by simpa[fE] using h
 |p::ps,[],[],fr,t,h,_=>by simpa[fE] using h
 |p::ps,x::xs,v::vs,fr,t,h,hx=>by
  simp only[an]at hx
  simp only[fE,List.zip_cons_cons,List.foldl_cons]
  refine vI ps xs vs _ _ ?_ hx.2
  rw[Array.toList_setIfInBounds]
  exact h.set p hx.1
 |p::ps,[],_::_,_,_,_,h=>by simp[an]at h
 |p::ps,_::_,[],_,_,_,h=>by simp[an]at h
theorem yT{P:Program}{a:Act}{w:World}{o:Oper}{c:Call}{f:Operand}(ho:o.op=.call c)(hc:c.callee=.value f){b:Nat}(hf:a.eval f=.func (.yield b) #[] #[])
  {r:Loop} (hr:w.heap[b]?=some (.loop r)) (hs:(c.args.map a.eval).size=r.params.size) :
  (execOp a.eval o).run P w=.ok (.round b r.fn ((r.params.zip (c.args.map a.eval)).foldl (fun tmps (t,a)=>tmps.setIfInBounds t a) r.tmps) r.assign r.body) w:=by
 have h1:(execOp a.eval o)=(do let d ←Deferred.ofValue (a.eval f) (c.args.map a.eval); invoke d.target d.args):=by
  simp only[execOp,ho,resolve,hc]
 rw[h1,hf]
 have h2:=run_yield (P:=P) (args:=c.args.map a.eval) hr hs
 simp only[Deferred.ofValue,Sem.run_bind,Sem.run_pure,Result.andThen_ok,invoke,Array.empty_append]
 exact h2
theorem JU[ab]{C:Ctx}{k:Nat}(hC:fu C k){rd:Option Nat}{B:oK}{E:Env}{s:St}{a:Act}{w:World}(hs:cG B E s a w){n:Nat}{o:Oper}{c:Call}{f:Operand}(ho:o.op=.call c)(hc:c.callee=.value f)
  (hf:az s.fr f=.mp true n) {r:Out} (aU:gI (fun c s=>bQ C k c s) n (c.args.toList.map (az s.fr)) o.dst s=some r) {K:Act→World→Prop} {Q:Exit→Act→World→Prop}
  (hK:∀ s',r=.norm s'→∀ E' a' w',Ext E E'→Fr E w E' w'→cG B E' s' a' w'→K a' w'):o.wpIn (WF rd) 0 C.P a w K Q:=by
 unfold gI at aU
 split at aU
 case h_2=>simp at aU
 rename_i Y5 ps as bd fr EH
 split at aU
 case h_2=>simp at aU
 rename_i Hq
 have hlen:=of_decide_eq_true Hq
 have bE:=fun y=>gU hs.inv.jv hs.fr y
 have Cp:=bE f
 rw[hf]at Cp
 simp only[aj]at Cp
 obtain⟨_,Ha,l,b,hl,hb,Cp⟩:=Cp
 obtain⟨r0,g1,g2,g3,g4,g5,g6⟩:=n6 hs.inv EH hl hb
 have jc:=iZ bE c.args.toList
 have kN:(c.args.map a.eval).size=r0.params.size:=by
  rw[g2,←hlen]
  simp
 refine⟨fun _ _=>trivial,?_⟩
 rw[Oper.semAt_eq _ _ _ (by rw[ho]; intro c h; cases h),yT ho hc Cp g1 kN,Oper.uponIn_round]
 refine⟨fun h=>by simp[WF,Fence.wide]at h,?_⟩
 rw[g3,g4]
 refine roundIn_of_wpIn trivial ?_
 have RB:((r0.params.zip (c.args.map a.eval)).foldl (fun tmps (x:Tmp×Value)=>tmps.setIfInBounds x.1 x.2) r0.tmps)=((ps.toList.zip (c.args.toList.map a.eval)).foldl (fun (t:Array Value) (q:Tmp×Value)=>t.setIfInBounds q.1 q.2) r0.tmps):=by
  rw[←Array.foldl_toList,Array.toList_zip,g2,Array.toList_map]
 split at aU
 case h_2=>simp at aU
 rename_i s1 U6
 split at aU
 case h_2=>simp at aU
 rename_i U7
 have DX:cG ⟨w.heap.size,[],true,some b⟩ E ⟨Y5,fE fr ps.toList (c.args.toList.map (az s.fr)),s.hp⟩ { tmps:=(r0.params.zip (c.args.map a.eval)).foldl (fun tmps (x:Tmp×Value)=>tmps.setIfInBounds x.1 x.2) r0.tmps,defers:=[] } w:=
  ⟨by rw[RB]; exact vI _ _ _ _ _ g6 jc,hs.inv,Marks.UT g1,Nat.le_refl _⟩
 refine wpIn_mono (hC as _ _ U6 (some b) _ (.inl ⟨rfl,rfl⟩) E _ w DX) fun e a1 w1 hp=>?_
 obtain⟨E1,L5,rP,Hr⟩:=hp
 cases e with
 |normal=>
  have ny:cG ⟨w.heap.size,[],true,some b⟩ E1 s1 a1 w1:=Hr
  obtain⟨fn1,ps1,as1,bd1,fr1,Oq⟩:=iE U7
  have sG:=L5.ρ n Ha 0 l hl
  obtain⟨r1,q1,q2,q3,q4,q5,q6⟩:=n6 ny.inv Oq sG hb
  obtain⟨QR,B6⟩:=Cm ny.inv Oq sG hb q1 (st':=.busy) (s':=.busy) (p':=r1.pending) ⟨rfl,q5.2⟩
  refine⟨_,run_beginRound q1 q5.1,?_⟩
  have AJ:cG ⟨w.heap.size,[],true,some b⟩ E1 { s1 with hp:=oF s1.hp n .busy } a1 (w1.putObj b (.loop { r1 with state:=.busy })):=
   ⟨ny.fr,QR,ny.df.mono B6,Nat.le_trans ny.bs B6.size⟩
  have finish:∀ (s2:St) (bb:Bool) (st:kZ) (j:Option Code) (E2:Env) (w2:World),bb=j.isNone→st.is (if j.isNone then .ready else .done) j→wW n o.dst s bb st s2.hp=some r→Ext E1 E2→Fr E1 (w1.putObj b (.loop { r1 with state:=.busy })) E2 w2→Inv E2 s2.hp w2 →
    ∃ v w',(Instr.endRound b j).run C.P w2=.ok v w'∧K (a.put o.dst v) w':=by
   intro s2 bb st j E2 w2 O7 U5 Cq kC iD qn
   unfold wW at Cq
   split at Cq
   case h_2=>simp at Cq
   rename_i U8
   simp only[Option.some.injEq]at Cq
   obtain⟨fn2,ps2,TW,bd2,fr2,Ot⟩:=iE U8
   have rh:=kC.ρ n (Nat.lt_of_lt_of_le Ha L5.L) 0 l sG
   obtain⟨r2,u1,_,_,_,u5,_⟩:=n6 qn Ot rh hb
   obtain⟨c1,c2⟩:=Cm qn Ot rh hb u1 U5
   refine⟨_,_,run_endRound j u1,?_⟩
   have hx:=L5.trans kC
   have eT:=((rP.trans B6).trans iD).trans c2
   obtain⟨E3,d1,d2,d3,d4⟩:=pH hs.inv hx c1 eT (r:=.lit (.bool bb)) (v:=.bool bb) (by simp[aj])
   subst O7
   exact hK _ Cq.symm E3 _ _ d1 d3 ⟨gl (hs.fr.mono d1) d4,d2,by rw[put_defers]; exact hs.df.mono d3,Nat.le_trans hs.bs d3.size⟩
  split at aU
  ·rename_i s2 JV
   refine wpIn_mono (hC bd _ _ JV (some b) _ (.inl ⟨rfl,rfl⟩) E1 _ _ AJ) fun e a2 w2 hp=>?_
   obtain⟨E2,kC,iD,uv⟩:=hp
   cases e with
   |normal=>exact finish s2 true .ready none E2 w2 rfl ⟨rfl,rfl⟩ aU kC iD (cG.inv uv)
   |_=>exact uv.elim
  ·rename_i id s2 JV
   refine wpIn_mono (hC bd _ _ JV (some b) _ (.inl ⟨rfl,rfl⟩) E1 _ _ AJ) fun e a2 w2 hp=>?_
   obtain⟨E2,kC,iD,uv⟩:=hp
   cases e with
   |exit j=>
    obtain⟨rfl,uv⟩:=uv
    exact finish s2 false (.jump (some id)) (some (.exit id)) E2 w2 rfl ⟨rfl,rfl⟩ aU kC iD uv.inv
   |_=>exact uv.elim
  ·rename_i s2 JV
   refine wpIn_mono (hC bd _ _ JV (some b) _ (.inl ⟨rfl,rfl⟩) E1 _ _ AJ) fun e a2 w2 hp=>?_
   obtain⟨E2,kC,iD,uv⟩:=hp
   cases e with
   |ret=>exact finish s2 false (.jump none) (some .ret) E2 w2 rfl ⟨rfl,rfl⟩ aU kC iD (cG.inv uv)
   |_=>exact uv.elim
  ·simp at aU
 |_=>exact Hr.elim
theorem EI{run:Code→St→Option Out}{n:Nat}{args:List AV}{dst:Option Tmp}{s:St}{r:Out}(h:gI run n args dst s=some r):∃ s',r=.norm s':=by
 unfold gI at h
 repeat' split at h
 all_goals first
  |simp at h
  |(unfold wW at h
    split at h
    ·grind
    ·simp at h)
theorem Cr[ab]{C:Ctx}(bL:C.Ok){k:Nat}(hF:lI C k)(hP:uw C k)(hC:fu C k):lJ C.P (fun o s=>fF C (k+1) o s):=by
 intro o s r h rd B E a w K Q hs hK hQ
 have bE:=fun x=>gU hs.inv.jv hs.fr x
 have TX:∀ (res:Option dm),res=(aK C.P s.hp.length (az s.fr) o).run s.hp →
   (match res with|some e=>some (Out.norm { s with fr:=bC s.fr o.dst e.val,hp:=ak s.hp e.wr })|none=>none)=some r→o.wpIn (WF rd) 0 C.P a w K Q:=by
  intro res cy h
  split at h
  case h_2=>simp at h
  rename_i e
  simp only[Option.some.injEq]at h
  refine wH hs (ta hs.inv (.inl rfl) bE cy.symm) fun E' w' v hx hf ig hv=>?_
  exact hK _ h.symm E' _ w' hx hf ⟨gl (hs.fr.mono hx) hv,ig,by rw[put_defers]; exact hs.df.mono hf,Nat.le_trans hs.bs hf.size⟩
 obtain⟨dst,op,type,pos,after,guard⟩:=o
 simp only[fF]at h
 split at h
 ·rename_i c
  split at h
  ·exact TX _ rfl h
  ·rename_i f yU
   split at h
   ·split at h
    ·rename_i n hn
     exact JU hC hs rfl yU hn h hK
    ·simp at h
   rename_i g args cy
   have jc:=iZ bE c.args.toList
   split at h
   ·-- a result of the caller's own
    split at h
    case h_2=>simp at h
    rename_i e hq
    simp only[Option.some.injEq]at h
    obtain⟨vs',ma,aU⟩:=eX (w:=w) (bE f) jc cy (zP bL hq)
    refine qv rfl yU aU (zQ bL hF hs.inv (.inl rfl) ma hq) (fun v w' hp=>?_) (fun ch w' hp=>?_) (fun w' hp=>?_)
    ·obtain⟨v',jV,E',hx,ig,hf,hr⟩:=hp
     cases jV
     exact hK _ h.symm E' _ w' hx hf ⟨gl (hs.fr.mono hx) hr,ig,by rw[put_defers]; exact hs.df.mono hf,Nat.le_trans hs.bs hf.size⟩
    ·obtain⟨v',jV,_⟩:=hp
     cases jV
    ·obtain⟨v',jV,_⟩:=hp
     cases jV
   split at h
   ·-- by value
    rename_i tp
    cases hq:(k6 C k g args).run s.hp with
    |none=>rw[hq]at h; simp at h
    |some q=>
     obtain⟨res,wr⟩:=q
     rw[hq]at h
     obtain⟨vs',ma,aU⟩:=eX (w:=w) (bE f) jc cy (AZ bL hq)
     have gT:=hP g args s.hp res wr hq E w vs' hs.inv ma
     refine qv rfl yU aU gT (fun v w' hp=>?_) (fun ch w' hp=>?_) (fun w' hp=>?_)
     ·obtain⟨E',hx,ig,hf,hr⟩:=hp
      cases res with
      |jS _=>exact hr.elim
      |val x=>
       simp only[Option.some.injEq]at h
       exact hK _ h.symm E' _ w' hx hf ⟨gl (hs.fr.mono hx) hr,ig,by rw[put_defers]; exact hs.df.mono hf,Nat.le_trans hs.bs hf.size⟩
     ·obtain⟨E',hx,ig,hf,hr⟩:=hp
      cases res with
      |val _=>exact hr.elim
      |jS x=>
       simp only[Option.some.injEq]at h
       obtain⟨u,rfl,hu⟩:=hr
       exact hQ _ _ h.symm E' w' u hx hf ig hu
     ·obtain⟨E',hx,ig,hf,hr⟩:=hp
      cases res<;>exact hr.elim
   ·-- with the heap
    rename_i tp
    cases hq:lX C k g args s.hp with
    |none=>rw[hq]at h; simp at h
    |some q=>
     obtain⟨res,cq⟩:=q
     rw[hq]at h
     obtain⟨fn,rP,iD⟩:=ux hq
     obtain⟨vs',ma,aU⟩:=eX (w:=w) (bE f) jc cy ⟨fn,rP,iD,bL.name g fn rP iD⟩
     have gT:=hF g args s.hp res cq hq E w vs' hs.inv ma
     refine qv rfl yU aU gT (fun v w' hp=>?_) (fun ch w' hp=>?_) (fun w' hp=>?_)
     ·obtain⟨E',hx,ig,hf,hr⟩:=hp
      cases res with
      |jS _=>exact hr.elim
      |val x=>
       simp only[Option.some.injEq]at h
       obtain⟨E2,kC,qn,iD,EJ⟩:=pH hs.inv hx ig hf hr
       exact hK _ h.symm E2 _ w' kC iD ⟨gl (hs.fr.mono kC) EJ,qn,by rw[put_defers]; exact hs.df.mono iD,Nat.le_trans hs.bs iD.size⟩
     ·obtain⟨E',hx,ig,hf,hr⟩:=hp
      cases res with
      |val _=>exact hr.elim
      |jS x=>
       simp only[Option.some.injEq]at h
       obtain⟨u,rfl,hu⟩:=hr
       obtain⟨E2,kC,qn,iD,EJ⟩:=pH hs.inv hx ig hf hu
       exact hQ _ _ h.symm E2 w' u kC iD qn EJ
     ·obtain⟨E',hx,ig,hf,hr⟩:=hp
      cases res<;>exact hr.elim
  ·rename_i rv name yU
   obtain⟨cal,cR,mh⟩:=c
   simp only at yU
   subst yU
   have jc:=iZ bE cR.toList
   split at h
   ·simp at h
   rename_i g x cy
   split at h
   ·cases hq:(k6 C k g (x::cR.toList.map (az s.fr))).run s.hp with
    |none=>rw[hq]at h; simp at h
    |some q=>
     obtain⟨res,wr⟩:=q
     rw[hq]at h
     obtain⟨vs',ma,aU⟩:=AX (w:=w) (o:=⟨dst,.call ⟨.invoke rv name,cR,mh⟩,type,pos,after,guard⟩) rfl (bE rv) jc cy (AZ bL hq)
     have gT:=hP g _ s.hp res wr hq E w vs' hs.inv ma
     refine xD rfl aU gT (fun v w' hp=>?_) (fun ch w' hp=>?_) (fun w' hp=>?_)
     ·obtain⟨E',hx,ig,hf,hr⟩:=hp
      cases res with
      |jS _=>exact hr.elim
      |val x=>
       simp only[Option.some.injEq]at h
       exact hK _ h.symm E' _ w' hx hf ⟨gl (hs.fr.mono hx) hr,ig,by rw[put_defers]; exact hs.df.mono hf,Nat.le_trans hs.bs hf.size⟩
     ·obtain⟨E',hx,ig,hf,hr⟩:=hp
      cases res with
      |val _=>exact hr.elim
      |jS x=>
       simp only[Option.some.injEq]at h
       obtain⟨u,rfl,hu⟩:=hr
       exact hQ _ _ h.symm E' w' u hx hf ig hu
     ·obtain⟨E',hx,ig,hf,hr⟩:=hp
      cases res<;>exact hr.elim
   ·cases hq:lX C k g (x::cR.toList.map (az s.fr)) s.hp with
    |none=>rw[hq]at h; simp at h
    |some q=>
     obtain⟨res,cq⟩:=q
     rw[hq]at h
     obtain⟨fn,rP,iD⟩:=ux hq
     obtain⟨vs',ma,aU⟩:=AX (w:=w) (o:=⟨dst,.call ⟨.invoke rv name,cR,mh⟩,type,pos,after,guard⟩) rfl (bE rv) jc cy ⟨fn,rP,iD,bL.name g fn rP iD⟩
     have gT:=hF g _ s.hp res cq hq E w vs' hs.inv ma
     refine xD rfl aU gT (fun v w' hp=>?_) (fun ch w' hp=>?_) (fun w' hp=>?_)
     ·obtain⟨E',hx,ig,hf,hr⟩:=hp
      cases res with
      |jS _=>exact hr.elim
      |val x=>
       simp only[Option.some.injEq]at h
       obtain⟨E2,kC,qn,iD,EJ⟩:=pH hs.inv hx ig hf hr
       exact hK _ h.symm E2 _ w' kC iD ⟨gl (hs.fr.mono kC) EJ,qn,by rw[put_defers]; exact hs.df.mono iD,Nat.le_trans hs.bs iD.size⟩
     ·obtain⟨E',hx,ig,hf,hr⟩:=hp
      cases res with
      |val _=>exact hr.elim
      |jS x=>
       simp only[Option.some.injEq]at h
       obtain⟨u,rfl,hu⟩:=hr
       obtain⟨E2,kC,qn,iD,EJ⟩:=pH hs.inv hx ig hf hu
       exact hQ _ _ h.symm E2 w' u kC iD qn EJ
     ·obtain⟨E',hx,ig,hf,hr⟩:=hp
      cases res<;>exact hr.elim
 ·-- a slice that begins as nil
  have aU:(execOp a.eval { dst,op:=.assign (.const (.slice none 0 0)),type,pos,after,guard }).run C.P w=.ok (.value (.slice none 0 0)) w:=rfl
  have next:∀ (x:AV) (E':Env) (cq:ag),Ext E E'→Inv E' cq w→Fr E w E' w→aj E' true x (.slice none 0 0) →
    r=.norm { s with fr:=bC s.fr dst x,hp:=cq }→Oper.wpIn (WF rd) 0 C.P { dst,op:=.assign (.const (.slice none 0 0)),type,pos,after,guard } a w K Q:=by
   intro x E' cq hx ig hf hr he
   refine⟨fun _ _=>trivial,?_⟩
   rw[Oper.semAt_eq _ _ _ (by intro c h; cases h),aU,Oper.uponIn_value]
   exact hK _ he E' _ w hx hf ⟨gl (hs.fr.mono hx) hr,ig,by rw[put_defers]; exact hs.df.mono hf,Nat.le_trans hs.bs hf.size⟩
  split at h
  ·rename_i d
   split at h
   ·split at h
    case h_2=>simp at h
    rename_i q hq
    split at h
    case isFalse=>simp at h
    simp only[Option.some.injEq]at h
    obtain⟨E',h1,h2,h3,h4⟩:=Gh (esz:=q.size) hs.inv
    exact next _ E' _ h1 h2 h3 h4 h.symm
   ·simp only[Option.some.injEq]at h
    exact next (.lit cK) E s.hp (Ext.refl E) hs.inv (Fr.refl E w) (by simp[aj]) h.symm
  ·simp only[Option.some.injEq]at h
   exact next (.lit cK) E s.hp (Ext.refl E) hs.inv (Fr.refl E w) (by simp[aj]) h.symm
 ·-- any other operation; nil slices in what it gives may be named anew
  split at h
  case h_2=>simp at h
  rename_i e he
  simp only[Option.some.injEq]at h
  refine wH hs (ta hs.inv (.inl rfl) bE he) fun E' w' v hx hf ig hv=>?_
  obtain⟨E2,kC,iD,AJ⟩:=JT (l:=C.qR s.fn) (dst:=dst) (s:={ s with fr:=bC s.fr dst e.val,hp:=ak s.hp e.wr }) (B:=B) (a:=a.put dst v)
   ⟨gl (hs.fr.mono hx) hv,ig,by rw[put_defers]; exact hs.df.mono hf,Nat.le_trans hs.bs hf.size⟩
  exact hK _ h.symm E2 _ w' (hx.trans kC) (hf.trans iD) AJ
end Go.PI
end
section
/- PI, more fuel gives no other answer. -/
namespace Go.PI
def RM.Le{α:Type}(hp:ag)(r r':RM α):Prop:=∀ x,r.run hp=some x→r'.run hp=some x∧r'.log hp=r.log hp
theorem RM.Le.rfl{α:Type}{hp:ag}{r:RM α}:RM.Le hp r r:=fun _ h=>⟨h,by trivial⟩
theorem RM.ek{α β:Type}(hp:ag)(x:RM α)(f:α→RM β):(x >>= f).log hp=x.log hp++(match x.run hp with|some a=>(f a).log hp|none=>[]):=by
 show (RM.bind x f).log hp=_
 induction x with
 |ret a=>simp[RM.bind,RM.log,RM.run]
 |fail=>simp[RM.bind,RM.log,RM.run]
 |get n k ih=>
  grind[RM.bind,RM.log,RM.run]
theorem RM.Le.bind[ab]{α β:Type}{hp:ag}{x x':RM α}{f f':α→RM β}(h:RM.Le hp x x')(hf:∀ a,RM.Le hp (f a) (f' a)):RM.Le hp (x >>= f) (x' >>= f'):=by
 intro y hy
 rw[RM.run_bind]at hy
 cases hq:x.run hp with
 |none=>rw[hq]at hy; simp at hy
 |some a=>
  rw[hq]at hy
  simp only[Option.bind_some]at hy
  obtain⟨h1,h2⟩:=h a hq
  obtain⟨h3,h4⟩:=hf a y hy
  refine⟨by rw[RM.run_bind,h1]; exact h3,?_⟩
  rw[RM.ek,RM.ek,h1,hq,h2]
  simp only[h4]
theorem iy{st st':Oper→St→Option Out}(h:∀ o s r,st o s=some r→st' o s=some r)(ops:Array Oper):∀ (l:List Oper) (s:St) (r:Out),cE st ops l s=some r→cE st' ops l s=some r
 |[],s,r,hr=>hr
 |o::l,s,r,hr=>by
  simp only[cE]at hr ⊢
  cases hw:cF ops s.fr o with
  |none=>rw[hw]at hr; simp at hr
  |some b=>
   rw[hw]at hr
   cases b with
   |false=>exact iy h ops l _ r hr
   |true=>
    simp only at hr ⊢
    cases hs:st o s with
    |none=>rw[hs]at hr; simp at hr
    |some out=>
     rw[hs]at hr
     rw[h o s out hs]
     cases out with
     |norm s'=>exact iy h ops l s' r hr
     |_=>exact hr
theorem xd[ab]{st st':Nat→Oper→List AV→RM dm}(h:∀ nm o fr hp,RM.Le hp (st nm o fr) (st' nm o fr))(ops:Array Oper)(x:Item)(s:St)(r:St×fq)(hr:eZ st ops x s=some r):eZ st' ops x s=some r:=by
 simp only[eZ]at hr ⊢
 cases hw:cF ops s.fr x.o with
 |none=>rw[hw]at hr; simp at hr
 |some b=>
  rw[hw]at hr
  cases b with
  |false=>exact hr
  |true=>
   simp only at hr ⊢
   cases hq:(st (x.at s.hp.length) x.o s.fr).run s.hp with
   |none=>rw[hq]at hr; simp at hr
   |some e=>
    obtain⟨h1,h2⟩:=h (x.at s.hp.length) x.o s.fr s.hp e hq
    rw[hq]at hr
    rw[h1,h2]
    exact hr
theorem nU[ab]{st st':Nat→Oper→List AV→RM dm}(h:∀ nm o fr hp,RM.Le hp (st nm o fr) (st' nm o fr))(ops:Array Oper):∀ (l:List Item) (s:St) (r:St×List fq),cr st ops l s=some r→cr st' ops l s=some r
 |[],s,r,hr=>hr
 |x::l,s,r,hr=>by
  simp only[cr]at hr ⊢
  cases hs:eZ st ops x s with
  |none=>rw[hs]at hr; simp at hr
  |some q=>
   obtain⟨s1,f⟩:=q
   rw[hs]at hr
   rw[xd h ops x s _ hs]
   simp only at hr ⊢
   cases hd:cr st ops l s1 with
   |none=>rw[hd]at hr; simp at hr
   |some q=>
    rw[hd]at hr
    rw[nU h ops l s1 q hd]
    exact hr
theorem Eh[ab]{C:Ctx}{k k':Nat}{o:Oper}{s:St}(h:∀ c,o.op≠.call c):fF C (k+1) o s=fF C (k'+1) o s:=by
 rw[fF,fF]
 split
 ·rename_i c hc; exact absurd hc (h c)
 ·rfl
 ·rfl
theorem vp[ab]{C:Ctx}{F F':List AV→Option (nM×ag)}(h:∀ as r,F as=some r→F' as=some r){nm:Nat}{g:FuncId}{args:List AV}{hp:ag}:
  RM.Le hp (ia C F nm g args) (ia C F' nm g args):=by
 unfold ia
 refine RM.Le.bind .rfl fun as=>?_
 cases hi:C.iU g with
 |some q=>exact .rfl
 |none=>
  simp only
  intro x hx
  cases hq:F as with
  |none=>rw[hq]at hx; simp[RM.ae]at hx
  |some q=>
   rw[hq]at hx
   rw[h as q hq]
   exact⟨hx,rfl⟩
theorem vq{run run':Code→St→Option Out}(h:∀ c s r,run c s=some r→run' c s=some r){n:Nat}{args:List AV}{dst:Option Tmp}{s:St}{r:Out}
  (hy:gI run n args dst s=some r):gI run' n args dst s=some r:=by
 unfold gI at hy ⊢
 split at hy
 case h_2=>simp at hy
 rename_i fn ps as bd fr ho
 split at hy
 case h_2=>simp at hy
 rename_i hc
 try rw[hc]
 try simp only
 split at hy
 case h_2=>simp at hy
 rename_i s1 h1
 rw[h _ _ _ h1]
 simp only
 split at hy
 case h_2=>simp at hy
 rename_i h2
 try rw[h2]
 try simp only
 split at hy
 ·rename_i s2 h3; rw[h _ _ _ h3]; exact hy
 ·rename_i id s2 h3; rw[h _ _ _ h3]; exact hy
 ·rename_i s2 h3; rw[h _ _ _ h3]; exact hy
 ·simp at hy
theorem Jb[ab]{ec Mx:Code→St→Option Out}{eo Rl:Oper→St→Option Out}(hc:∀ c s r,ec c s=some r→Mx c s=some r)(ho:∀ o s r,eo o s=some r→Rl o s=some r):∀ c s r,ze ec eo c s=some r→ze Mx Rl c s=some r:=by
 have leaf:∀ c s r,((ec c s).map fun o=>(o,(none:Option AV)))=some r→((Mx c s).map fun o=>(o,(none:Option AV)))=some r:=by
  intro c s r h
  cases hq:ec c s with
  |none=>rw[hq]at h; simp at h
  |some o=>rw[hc _ _ _ hq]; rw[hq]at h; exact h
 intro c
 induction c with
 |seq x y _ Jc=>
  intro s r h
  simp only[ze]at h ⊢
  cases hd:sP x with
  |some q=>
   obtain⟨ops,v⟩:=q
   rw[hd]at h
   simp only at h ⊢
   cases hr:cE eo ops ops.toList.dropLast s with
   |none=>rw[hr]at h; simp at h
   |some o=>
    rw[hr]at h
    rw[iy ho ops _ _ _ hr]
    cases o with
    |norm s1=>
     simp only at h ⊢
     split at h
     ·rename_i q cy
      cases hq:ec y s1 with
      |none=>rw[hq]at h; simp at h
      |some o=>rw[hc _ _ _ hq]; rw[hq]at h; exact h
     ·simp at h
    |_=>simp at h
  |none=>
   rw[hd]at h
   simp only at h ⊢
   cases hq:ec x s with
   |none=>rw[hq]at h; simp at h
   |some o=>
    rw[hq]at h; rw[hc _ _ _ hq]
    cases o with
    |norm s'=>exact Jc _ _ h
    |_=>exact h
 |_=>intro s r h; simp only[ze]at h ⊢; exact leaf _ _ _ h
theorem zt[ab]{ec Mx:Code→St→Option Out}(hc:∀ c s r,ec c s=some r→Mx c s=some r){P:Program}{rs:List ResultVar}{fr:List AV}{hp:ag}{d:Option AV}{r:nM×ag}(h:tZ ec P rs fr hp d=some r):tZ Mx P rs fr hp d=some r:=by
 cases d with
 |none=>exact h
 |some v=>
  simp only[tZ]at h ⊢
  split at h
  ·simp at h
  rename_i g as cy
  split at h
  ·simp at h
  rename_i fg My
  split at h
  ·simp at h
  rename_i cg Mz
  cases hn:cx cg with
  |false=>rw[hn]at h; simp at h
  |true=>
   rw[hn]at h
   cases hq:ec (nQ cg) ⟨g,as++List.replicate (fg.ntmps-as.length) .undef,hp⟩ with
   |none=>rw[hq]at h; simp at h
   |some o=>rw[hq]at h; simp only[cy,My,Mz,hn,hc _ _ _ hq]; exact h
theorem G4[ab]{ec Mx:Code→St→Option Out}{eo Rl:Oper→St→Option Out}(hc:∀ c s r,ec c s=some r→Mx c s=some r)(ho:∀ o s r,eo o s=some r→Rl o s=some r){P:Program}{rs:List ResultVar}{c:Code}{s:St}{r:nM×ag}(h:ua ec eo P rs c s=some r):ua Mx Rl P rs c s=some r:=by
 unfold ua at h ⊢
 cases hn:cx c with
 |false=>rw[hn]at h; simp at h
 |true=>
  rw[hn]at h
  cases hq:ze ec eo c s with
  |none=>rw[hq]at h; simp at h
  |some o=>
   rw[hq]at h
   rw[Jb hc ho _ _ _ hq]
   obtain⟨o,d⟩:=o
   cases o with
   |norm s'=>exact zt hc h
   |ret s'=>exact zt hc h
   |exit i s'=>exact h
   |jS v s'=>cases d<;>exact h
structure Pc[ab](C:Ctx)(k k2:Nat):Prop where
 f:∀ g args hp r,lX C k g args hp=some r→lX C k2 g args hp=some r
 c:∀ c s r,bQ C k c s=some r→bQ C k2 c s=some r
 o:∀ o s r,fF C k o s=some r→fF C k2 o s=some r
 p:∀ g args hp,RM.Le hp (k6 C k g args) (k6 C k2 g args)
 e:∀ nm o fr hp,RM.Le hp (ir C k nm o fr) (ir C k2 nm o fr)
theorem G5[ab]{C:Ctx}{k k2:Nat}(ih:Pc C k k2):Pc C (k+1) (k2+1) where
 f:=by
  intro g args hp r h
  rw[lX]at h ⊢
  cases qT:C.P.funcs[g]? with
  |none=>rw[qT]at h; simp at h
  |some fn=>
   rw[qT]at h
   simp only at h ⊢
   cases hb:fn.body with
   |none=>rw[hb]at h; simp at h
   |some c=>
    rw[hb]at h
    simp only at h ⊢
    cases hD:BI c with
    |true=>rw[hD]at h; exact G4 ih.c ih.o h
    |false=>
    rw[hD]at h
    simp only at h ⊢
    cases hc:bQ C k c ⟨g,args++List.replicate (fn.ntmps-args.length) .undef,hp⟩ with
    |none=>rw[hc]at h; simp at h
    |some out=>rw[hc]at h; rw[ih.c _ _ _ hc]; exact h
 c:=by
  intro c s r h
  cases c with
  |seq a b=>
   simp only[bQ]at h ⊢
   cases ha:bQ C k a s with
   |none=>rw[ha]at h; simp at h
   |some out=>
    rw[ha]at h; rw[ih.c _ _ _ ha]
    cases out with
    |norm s'=>exact ih.c _ _ _ h
    |_=>exact h
  |cond o a b=>
   simp only[bQ]at h ⊢
   split at h
   ·split at h
    ·exact ih.c _ _ _ h
    ·exact ih.c _ _ _ h
   ·simp at h
  |block id b=>
   simp only[bQ]at h ⊢
   cases ha:bQ C k b s with
   |none=>rw[ha]at h; simp at h
   |some out=>rw[ha]at h; rw[ih.c _ _ _ ha]; exact h
  |loop b=>
   simp only[bQ]at h ⊢
   cases ha:bQ C k b s with
   |none=>rw[ha]at h; simp at h
   |some out=>
    rw[ha]at h; rw[ih.c _ _ _ ha]
    cases out with
    |norm s'=>exact ih.c _ _ _ h
    |_=>exact h
  |region id ops draw=>
   simp only[bQ]at h ⊢
   cases draw with
   |false=>exact iy ih.o ops _ _ r h
   |true=>
    simp only at h ⊢
    split at h
    case isFalse=>simp at h
    rename_i bL
    rw[if_pos bL]
    split at h
    ·rename_i s' fs hd
     rw[nU ih.e ops _ _ _ hd]
     simp only at h ⊢
     split at h
     case isFalse=>simp at h
     rename_i hc
     rw[if_pos hc]
     exact iy ih.o ops _ _ r h
    ·simp at h
  |scope b=>
   simp only[bQ]at h ⊢
   split at h
   ·rename_i c hc
    exact ih.c _ _ _ h
   ·simp at h
  |rangeFunc f ps as bd=>
   simp only[bQ]at h ⊢
   split at h
   case h_2=>simp at h
   rename_i g args cy
   cases hq:lX C k g args (s.hp++[some (.gf (.loop s.fn ps as bd .ready) (tY as bd s.fr))]) with
   |none=>rw[hq]at h; simp at h
   |some q=>rw[hq]at h; rw[ih.f _ _ _ _ hq]; exact h
  |_=>simpa only[bQ] using h
 o:=by
  intro o s r h
  obtain⟨dst,op,type,pos,after,guard⟩:=o
  cases op with
  |call c=>
   obtain⟨callee,args,argTypes⟩:=c
   cases callee with
   |value f=>
    simp only[fF]at h ⊢
    cases cy:bA (az s.fr f) (args.toList.map (az s.fr)) with
    |none=>
     rw[cy]at h
     simp only at h ⊢
     split at h
     ·rename_i n hn
      exact vq (fun c s r h=>ih.c c s r h) h
     ·simp at h
    |some q=>
     obtain⟨g,as⟩:=q
     rw[cy]at h
     simp only at h ⊢
     cases pj:au (Op.call ⟨.value f,args,argTypes⟩) with
     |true=>
      rw[pj]at h
      simp only at h ⊢
      cases hq:(ia C (fun as=>lX C k g as []) s.hp.length g as).run s.hp with
      |none=>rw[hq]at h; simp at h
      |some q=>rw[hq]at h; rw[(vp (fun as r h=>ih.f g as [] r h) _ hq).1]; exact h
     |false=>
     rw[pj]at h
     simp only at h ⊢
     cases hk:C.kind g with
     |pure=>
      rw[hk]at h
      simp only at h ⊢
      cases hq:(k6 C k g as).run s.hp with
      |none=>rw[hq]at h; simp at h
      |some q=>rw[hq]at h; rw[(ih.p g as s.hp q hq).1]; exact h
     |imp=>
      rw[hk]at h
      simp only at h ⊢
      cases hq:lX C k g as s.hp with
      |none=>rw[hq]at h; simp at h
      |some q=>rw[hq]at h; rw[ih.f _ _ _ _ hq]; exact h
   |invoke rv name=>
    simp only[fF]at h ⊢
    cases cy:pa C.P (az s.fr rv) name with
    |none=>rw[cy]at h; simp at h
    |some q=>
     obtain⟨g,x⟩:=q
     rw[cy]at h
     simp only at h ⊢
     cases hk:C.kind g with
     |pure=>
      rw[hk]at h
      simp only at h ⊢
      cases hq:(k6 C k g (x::args.toList.map (az s.fr))).run s.hp with
      |none=>rw[hq]at h; simp at h
      |some q=>rw[hq]at h; rw[(ih.p g _ s.hp q hq).1]; exact h
     |imp=>
      rw[hk]at h
      simp only at h ⊢
      cases hq:lX C k g (x::args.toList.map (az s.fr)) s.hp with
      |none=>rw[hq]at h; simp at h
      |some q=>rw[hq]at h; rw[ih.f _ _ _ _ hq]; exact h
   |_=>simpa only[fF] using h
  |_=>rw[Eh (k':=k) (by intro c hc; cases hc)]; exact h
 p:=by
  intro g args hp
  rw[k6,k6]
  refine RM.Le.bind .rfl fun as=>?_
  cases hi:C.kv g with
  |some h=>exact .rfl
  |none=>
   simp only
   intro x hx
   cases hq:lX C k g as [] with
   |none=>rw[hq]at hx; simp[RM.ae]at hx
   |some q=>
    rw[hq]at hx
    rw[ih.f _ _ _ _ hq]
    exact⟨hx,rfl⟩
 e:=by
  intro nm o fr hp
  rw[ir,ir]
  obtain⟨dst,op,type,pos,after,guard⟩:=o
  cases op with
  |call c=>
   obtain⟨callee,args,argTypes⟩:=c
   cases callee with
   |value f=>
    simp only
    split
    ·exact .rfl
    ·rename_i g as cy
     cases pj:au (Op.call ⟨.value _,args,argTypes⟩) with
     |true=>exact vp fun as r h=>ih.f g as [] r h
     |false=>
     cases hk:C.kind g with
     |pure=>exact RM.Le.bind (ih.p g as hp) fun _=>.rfl
     |imp=>exact .rfl
   |invoke rv name=>
    simp only
    split
    ·exact .rfl
    ·rename_i g x cy
     cases hk:C.kind g with
     |pure=>exact RM.Le.bind (ih.p g _ hp) fun _=>.rfl
     |imp=>exact .rfl
   |_=>exact .rfl
  |_=>exact .rfl
theorem mono[ab](C:Ctx):∀ k,Pc C k (k+1)
 |0=>{ f:=by intro g args hp r h; simp[lX]at h
       c:=by intro c s r h; simp[bQ]at h
       o:=by intro o s r h; simp[fF]at h
       p:=by intro g args hp x h; simp[k6,RM.ae]at h
       e:=by intro nm o fr hp x h; simp[ir,RM.ae]at h }
 |k+1=>G5 (mono C k)
noncomputable def lY{α:Type}(g:Nat→Option α):Option α:=
 open Classical in if h : ∃ k, (g k).isSome then g (Classical.choose h) else none
def fG{α:Type}(g:Nat→Option α):Prop:=∀ k x,g k=some x→g (k+1)=some x
theorem fG.le{α:Type}{g:Nat→Option α}(h:fG g){k:Nat}{x:α}(hx:g k=some x):∀ d,g (k+d)=some x
 |0=>hx
 |d+1=>h _ _ (h.le hx d)
theorem bh[ab]{α:Type}{g:Nat→Option α}(hg:fG g){x:α}:lY g=some x↔∃ k,g k=some x:=by
 unfold lY
 constructor
 ·intro h
  split at h
  ·rename_i hq; exact⟨_,h⟩
  ·simp at h
 ·rintro⟨k,hk⟩
  have hq:∃ k,(g k).isSome:=⟨k,by simp[hk]⟩
  rw[dif_pos hq]
  obtain⟨y,hy⟩:=Option.isSome_iff_exists.1 (Classical.choose_spec hq)
  have h1:=hg.le hk (Classical.choose hq)
  have h2:=hg.le hy k
  rw[Nat.add_comm]at h2
  rw[h1]at h2
  rw[hy,h2]
theorem kQ[ab]{α:Type}{g:Nat→Option α}(hg:fG g){y:Option α}(h1:∀ k x,g k=some x→y=some x)(h2:∀ x,y=some x→∃ k,g k=some x):lY g=y:=by
 cases hl:lY g with
 |some x=>
  obtain⟨k,hk⟩:=(bh hg).1 hl
  exact(h1 k x hk).symm
 |none=>
  cases y with
  |none=>rfl
  |some x=>
   have:=(bh hg).2 (h2 x rfl)
   rw[hl]at this; simp at this
noncomputable def ky[ab](C:Ctx)(f:FuncId)(args:List AV)(hp:ag):Option (nM×ag):=lY fun k=>lX C k f args hp
noncomputable def cQ[ab](C:Ctx)(c:Code)(s:St):Option Out:=lY fun k=>bQ C k c s
noncomputable def ie[ab](C:Ctx)(o:Oper)(s:St):Option Out:=lY fun k=>fF C k o s
noncomputable def Jd[ab](C:Ctx)(g:FuncId)(args:List AV)(hp:ag):Option (nM×List (Nat×aL)):=lY fun k=>(k6 C k g args).run hp
theorem mo[ab](C:Ctx)(f:FuncId)(args:List AV)(hp:ag):fG fun k=>lX C k f args hp:=fun k x h=>(mono C k).f _ _ _ _ h
theorem dG[ab](C:Ctx)(c:Code)(s:St):fG fun k=>bQ C k c s:=fun k x h=>(mono C k).c _ _ _ h
theorem jy[ab](C:Ctx)(o:Oper)(s:St):fG fun k=>fF C k o s:=fun k x h=>(mono C k).o _ _ _ h
theorem BX[ab](C:Ctx)(g:FuncId)(args:List AV)(hp:ag):fG fun k=>(k6 C k g args).run hp:=fun k x h=>((mono C k).p g args hp x h).1
end Go.PI
end
section
/- PI, part Za: a scope in which the run jumps back to one label. -/
namespace Go.PI
theorem nB[ab]{C:Ctx}{k:Nat}{o:Oper}{s:St}{r:Out}(h:fF C k o s=some r):(∃ s',r=.norm s')∨∃ v s',r=.jS v s':=by
 cases k with
 |zero=>simp[fF]at h
 |succ k=>
  simp only[fF]at h
  repeat' split at h
  all_goals first
   |(simp only[Option.some.injEq]at h; subst h; first|exact .inl ⟨_,rfl⟩|exact .inr ⟨_,_,rfl⟩)
   |exact .inl (EI h)
   |simp at h
theorem kV{step:Oper→St→Option Out}(hs:∀ o s r,step o s=some r→(∃ s',r=.norm s')∨∃ v s',r=.jS v s'){ops:Array Oper}:∀ {l:List Oper} {s:St} {r:Out},
  cE step ops l s=some r→(∃ s',r=.norm s')∨∃ v s',r=.jS v s'
 |[],s,r,h=>by simp only[cE,Option.some.injEq]at h; exact .inl ⟨s,h.symm⟩
 |o::l,s,r,h=>by
  simp only[cE]at h
  split at h
  ·simp at h
  ·exact kV hs h
  ·split at h
   ·exact kV hs h
   ·rename_i dK
    exact hs o s r h
theorem uB:∀ {c:Code},c9 c=true→cx c=true:=by
 intro c
 induction c with
 |seq a b Gk DY=>simp_all[c9,cx]
 |cond c a b Gk DY=>simp_all[c9,cx]
 |block id b ih=>simp_all[c9,cx]
 |loop b ih=>simp_all[c9,cx]
 |scope b ih=>intro h; simp[c9]at h
 |rangeFunc f ps a b=>intro h; simp[c9]at h
 |_=>intro _; rfl
theorem ES[ab]{C:Ctx}:∀ (k:Nat) {c:Code} {s s':St} {i:Nat},c9 c=true→bQ C k c s=some (.exit i s')→i<1073741824:=by
 intro k
 induction k with
 |zero=>intro c s s' i _ h; simp[bQ]at h
 |succ k ih=>
  intro c s s' i hp h
  cases c with
  |seq a b=>
   grind[c9,bQ]
  |cond o a b=>
   grind[c9,bQ]
  |block id b=>
   grind[c9,bQ,Out.exit.injEq]
  |loop b=>
   grind[c9,bQ]
  |exit id=>
   simp_all[bQ,Out.exit.injEq,c9]
  |region id ops draw=>
   simp only[bQ]at h
   cases draw with
   |false=>
    rcases kV (fun o s r h=>nB h) h with ⟨_,e⟩|⟨_,_,e⟩<;>cases e
   |true=>
    simp only at h
    split at h
    case isFalse=>simp at h
    split at h
    case h_2=>simp at h
    split at h
    case isFalse=>simp at h
    rcases kV (fun o s r h=>nB h) h with ⟨_,e⟩|⟨_,_,e⟩<;>cases e
  |skip=>simp[bQ]at h
  |ret=>simp[bQ]at h
  |_=>simp[c9]at hp
def Zl[ab](l:Nat)(B:oK)(E:Env):Out→Exit→Act→World→Prop
 |.exit i s,.goto m,a,w=>i=1073741825∧m=l∧cG B E s a w
 |.exit i s,.exit j,a,w=>i=j∧i<1073741824∧cG B E s a w
 |o,e,a,w=>JR B E o e a w
def Hx[ab](l:Nat)(B:oK)(E:Env)(w:World)(o:Out)(e:Exit)(a':Act)(w':World):Prop:=
 ∃ E',Ext E E'∧Fr E w E' w'∧Zl l B E' o e a' w'
theorem Hx.from[ab]{l:Nat}{B:oK}{E E1:Env}{w w1:World}{o:Out}{e:Exit}{a:Act}{w':World}(hx:Ext E E1)(hf:Fr E w E1 w1)(h:Hx l B E1 w1 o e a w'):Hx l B E w o e a w':=by
 obtain⟨E',h1,h2,h3⟩:=h
 exact⟨E',hx.trans h1,hf.trans h2,h3⟩
theorem J5[ab]{C:Ctx}{k:Nat}(hC:∀ j,j≤k→fu C j){l:Nat}{c:Code}(hp:c9 c=true){j:Nat}(hj:j≤k){s:St}{o:Out}(h:bQ C j c s=some o)
  (rd:Option Nat) {B:oK} {E:Env} {a:Act} {w:World} (hs:cG B E s a w):c.wpIn (WF rd) 0 C.P (Hx l B E w o) a w:=by
 refine wpIn_mono (hC j hj c s o h rd B (.inr (uB hp)) E a w hs) fun e a' w' hq=>?_
 obtain⟨E',h1,h2,h3⟩:=hq
 refine⟨E',h1,h2,?_⟩
 cases o with
 |exit i s'=>
  have hi:=ES j hp h
  cases e with
  |exit m=>exact⟨h3.1,hi,h3.2⟩
  |_=>exact h3.elim
 |_=>exact h3
theorem PD[ab]{C:Ctx}{k:Nat}(hC:∀ j,j≤k→fu C j){l:Nat}:∀ (c:Code) {c':Code},qS l c=some c'→∀ (j:Nat),j≤k→∀ (s:St) (o:Out),bQ C j c' s=some o →
  ∀ (rd:Option Nat) (B:oK) (E:Env) (a:Act) (w:World),cG B E s a w→c.wpIn (WF rd) 0 C.P (Hx l B E w o) a w:=by
 intro c
 induction c with
 |seq x y Vg Jc=>
  intro c' hc j hj s o h rd B E a w hs
  simp only[qS]at hc
  cases hx:qS l x with
  |none=>rw[hx]at hc; simp at hc
  |some x'=>
   cases hy:qS l y with
   |none=>rw[hx,hy]at hc; simp at hc
   |some y'=>
    rw[hx,hy]at hc
    simp only[Option.bind_some,Option.map_some,Option.some.injEq]at hc
    subst hc
    cases j with
    |zero=>simp[bQ]at h
    |succ j=>
     have px:=Vg hx
     have py:=Jc hy
     simp only[bQ]at h
     refine wpIn_seq ?_
     split at h
     ·rename_i s' gg
      refine wpIn_mono (px j (by omega) s _ gg rd B E a w hs) fun e a' w' hp=>?_
      obtain⟨E',h1,h2,h3⟩:=hp
      cases e with
      |normal=>exact wpIn_mono (py j (by omega) s' o h rd B E' a' w' h3) fun e T2 wX hp=>Hx.from h1 h2 hp
      |_=>exact h3.elim
     ·rename_i dK
      refine wpIn_mono (px j (by omega) s o h rd B E a w hs) fun e a' w' hp=>?_
      obtain⟨E',h1,h2,h3⟩:=hp
      cases e with
      |normal=>
       cases o with
       |norm s'=>exact absurd h (dK s')
       |_=>exact h3.elim
      |_=>exact⟨E',h1,h2,h3⟩
 |cond op x y Vg Jc=>
  intro c' hc j hj s o h rd B E a w hs
  simp only[qS]at hc
  cases hx:qS l x with
  |none=>rw[hx]at hc; simp at hc
  |some x'=>
   cases hy:qS l y with
   |none=>rw[hx,hy]at hc; simp at hc
   |some y'=>
    rw[hx,hy]at hc
    simp only[Option.bind_some,Option.map_some,Option.some.injEq]at hc
    subst hc
    cases j with
    |zero=>simp[bQ]at h
    |succ j=>
     have px:=Vg hx
     have py:=Jc hy
     simp only[bQ]at h
     split at h
     case h_2=>simp at h
     rename_i t ht
     have hv:=gU hs.inv.jv hs.fr op
     rw[ht]at hv
     simp only[aj]at hv
     cases t with
     |true=>exact wpIn_cond_true hv (px j (by omega) s o h rd B E a w hs)
     |false=>exact wpIn_cond_false hv (py j (by omega) s o h rd B E a w hs)
 |goto m=>
  intro c' hc j hj s o h rd B E a w hs
  simp only[qS]at hc
  split at hc
  case isFalse=>simp at hc
  rename_i hm
  simp only[Option.some.injEq]at hc
  subst hc
  cases j with
  |zero=>simp[bQ]at h
  |succ j=>
   simp only[bQ,Option.some.injEq]at h
   subst h
   exact wpIn_goto ⟨E,Ext.refl E,Fr.refl E w,rfl,hm,hs⟩
 |_=>
  intro c' hc
  simp only[qS]at hc
  split at hc
  case isFalse=>simp at hc
  rename_i hp
  simp only[Option.some.injEq]at hc
  subst hc
  intro j hj s o h rd B E a w hs
  exact J5 hC hp hj h rd hs
section
variable {F:Fence}{n:Nat}{P:Program}{Q:Exit→Act→World→Prop}{a:Act}{w:World}
theorem CA{b:Frame}{k:List Go.Item}{cs:List Frame}{c:Code}:step P (lone (b.atR a (.code (.scope c)::k)) cs w)=.next (lone (b.atR a (.code c::.inScope c::k)) cs w):=
 step_lone_go (by simp[stepG,stepG.exec,Frame.atR])
theorem rk{b:Frame}{k:List Go.Item}{cs:List Frame}{c:Code}:step P (lone (b.atR a (.inScope c::k)) cs w)=.next (lone (b.atR a k) cs w):=
 step_lone_go (by simp[stepG,stepG.exec,Frame.atR])
def mN(F:Fence)(n:Nat)(P:Program)(c r:Code)(Q:Exit→Act→World→Prop)(a:Act)(w:World):Prop:=
 ∀ (b:Frame) (k:List Go.Item) (cs:List Frame),b.roundOf=F.round→F.fn b.fn→F.room (cs.length+1+n) →
   ∃ e a' w',Q e a' w'∧ArrivesIn (Machine.fenced P F) P (lone (b.atR a (.code r::.inScope c::k)) cs w) b k cs e a' w'
def R0(l:Nat)(N:Act→World→Prop)(Q:Exit→Act→World→Prop):Exit→Act→World→Prop
 |.goto m,a,w=>m=l∧N a w
 |e,a,w=>Q e a w
theorem zT{c r rest:Code}{l:Nat}{N:Act→World→Prop}(hf:findLabel c l=some rest)(hN:∀ a w,N a w→mN F n P c rest Q a w)
  (h:r.wpIn F n P (R0 l N Q) a w):mN F n P c r Q a w:=by
 intro b k cs dC hb hr
 have hg:gotoIn l (.inScope c::k)=some (.code rest::.inScope c::k):=by simp[gotoIn,hf]
 obtain⟨e,a₁,w₁,hq,cJ⟩:=h b (.inScope c::k) cs dC hb hr
 cases e with
 |normal=>exact⟨.normal,a₁,w₁,hq,StepsIn.trans cJ (.one (fenced_calm hb hr rfl) rk)⟩
 |exit id=>
  have hx:exitTo id (.inScope c::k)=exitTo id k:=by simp[exitTo]
  exact⟨.exit id,a₁,w₁,hq,fun k' hk=>cJ.1 k' (by rw[hx]; exact hk),fun lz hk=>cJ.2 lz (by rw[hx]; exact hk)⟩
 |goto m=>
  obtain⟨rfl,Zm⟩:=hq
  obtain⟨e₂,a₂,w₂,wY,jU⟩:=hN _ _ Zm b k cs dC hb hr
  exact⟨e₂,a₂,w₂,wY,.of_steps (cJ.1 _ hg) jU⟩
 |ret=>exact⟨_,a₁,w₁,hq,cJ⟩
 |panic ch=>exact⟨_,a₁,w₁,hq,cJ⟩
 |outgrown=>exact⟨_,a₁,w₁,hq,cJ⟩
theorem wu{c r:Code}(h:r.wpIn F n P Q a w)(hQ:∀ m a w,¬Q (.goto m) a w):mN F n P c r Q a w:=by
 intro b k cs dC hb hr
 obtain⟨e,a₁,w₁,hq,cJ⟩:=h b (.inScope c::k) cs dC hb hr
 cases e with
 |normal=>exact⟨.normal,a₁,w₁,hq,StepsIn.trans cJ (.one (fenced_calm hb hr rfl) rk)⟩
 |exit id=>
  have hx:exitTo id (.inScope c::k)=exitTo id k:=by simp[exitTo]
  exact⟨.exit id,a₁,w₁,hq,fun k' hk=>cJ.1 k' (by rw[hx]; exact hk),fun lz hk=>cJ.2 lz (by rw[hx]; exact hk)⟩
 |goto m=>exact absurd hq (hQ _ _ _)
 |ret=>exact⟨_,a₁,w₁,hq,cJ⟩
 |panic ch=>exact⟨_,a₁,w₁,hq,cJ⟩
 |outgrown=>exact⟨_,a₁,w₁,hq,cJ⟩
theorem CB{c:Code}(h:mN F n P c c Q a w):(Code.scope c).wpIn F n P Q a w:=by
 intro b k cs dC hb hr
 obtain⟨e,a₁,w₁,hq,cJ⟩:=h b k cs dC hb hr
 exact⟨e,a₁,w₁,hq,.of_steps (.one (fenced_calm hb hr rfl) CA) cJ⟩
end
theorem CC:∀ {c:Code} {l:Nat},c9 c=true→findLabel c l=none:=by
 intro c
 induction c with
 |seq a b Gk DY=>
  simp_all[c9,findLabel]
 |label m=>intro l h; simp[c9]at h
 |_=>intro l _; rfl
theorem J6{a b:Code}{l:Nat}(h:findLabel a l=none):findLabel (.seq a b) l=findLabel b l:=by
 simp only[findLabel,h]
theorem J7:∀ {c:Code} {l:Nat} {x r:Code},sQ c=some (l,x,r)→findLabel c l=some (.seq .skip r):=by
 intro c
 induction c with
 |seq a b Gk DY=>
  intro l x r h
  cases a with
  |label m=>
   simp_all[sQ,findLabel]
  |_=>
   simp only[sQ]at h
   split at h
   case isFalse=>simp at h
   rename_i hp
   cases hb:sQ b with
   |none=>rw[hb]at h; simp at h
   |some q=>
    obtain⟨l',x',r'⟩:=q
    rw[hb]at h
    simp only[Option.map_some,Option.some.injEq,Prod.mk.injEq]at h
    obtain⟨rfl,rfl,rfl⟩:=h
    exact(J6 (CC (l:=l') hp)).trans (DY hb)
 |_=>intro l x r h; simp[sQ]at h
theorem PE[ab]{C:Ctx}{k:Nat}(hC:∀ j,j≤k→fu C j){Q:Exit→Act→World→Prop}{rd:Option Nat}{B:oK}{l:Nat}{r:Code}:∀ (c:Code) {x:Code},sQ c=some (l,x,r)→∀ (j:Nat),j≤k→∀ (s:St) (q:Out),bQ C j x s=some q →
  ∀ (E:Env) (a:Act) (w:World),cG B E s a w→(∀ s1 E1 a1 w1,q=.norm s1→Ext E E1→Fr E w E1 w1→cG B E1 s1 a1 w1→r.wpIn (WF rd) 0 C.P Q a1 w1) →
  (∀ e a' w',(∀ s1,q≠.norm s1)→bo B E w q e a' w'→Q e a' w')→c.wpIn (WF rd) 0 C.P Q a w:=by
 intro c
 induction c with
 |seq a b Gk DY=>
  intro x h j hj s q bE E ac w hs hn ho
  have step:∀ (hp:c9 a=true) (x':Code),sQ b=some (l,x',r)→x=.seq a x'→(Code.seq a b).wpIn (WF rd) 0 C.P Q ac w:=by
   intro hp x' hb hx
   subst hx
   cases j with
   |zero=>simp[bQ]at bE
   |succ j=>
    simp only[bQ]at bE
    refine wpIn_seq ?_
    split at bE
    ·rename_i s1 h1
     refine wpIn_mono (hC j (by omega) _ _ _ h1 rd B (.inr (uB hp)) E ac w hs) fun e a' w' hq=>?_
     obtain⟨E',g1,g2,g3⟩:=hq
     cases e with
     |normal=>exact DY hb j (by omega) s1 q bE E' a' w' g3 (fun s2 E2 a2 w2 e1 e2 e3 e4=>hn s2 E2 a2 w2 e1 (g1.trans e2) (g2.trans e3) e4) (fun e a2 w2 e1 e2=>ho e a2 w2 e1 (bo.from g1 g2 e2))
     |_=>exact g3.elim
    ·rename_i dK
     refine wpIn_mono (hC j (by omega) _ _ _ bE rd B (.inr (uB hp)) E ac w hs) fun e a' w' hq=>?_
     cases e with
     |normal=>
      obtain⟨E',g1,g2,g3⟩:=hq
      cases q with
      |norm s1=>exact absurd bE (dK s1)
      |_=>exact g3.elim
     |_=>exact ho _ _ _ (fun s1 e=>dK s1 (e▸bE)) hq
  cases a with
  |label m=>
   simp only[sQ,Option.some.injEq,Prod.mk.injEq]at h
   obtain⟨rfl,rfl,rfl⟩:=h
   cases j with
   |zero=>simp[bQ]at bE
   |succ j=>
    simp only[bQ,Option.some.injEq]at bE
    subst bE
    exact wpIn_seq (wpIn_label (hn s E ac w rfl (Ext.refl E) (Fr.refl E w) hs))
  |_=>
   simp only[sQ]at h
   split at h
   case isFalse=>simp at h
   rename_i hp
   cases hb:sQ b with
   |none=>rw[hb]at h; simp at h
   |some q'=>
    obtain⟨l',x',r'⟩:=q'
    rw[hb]at h
    simp only[Option.map_some,Option.some.injEq,Prod.mk.injEq]at h
    obtain⟨rfl,rfl,rfl⟩:=h
    exact step hp x' hb rfl
 |_=>intro x h; simp[sQ]at h
def vK:Out→Out
 |.exit i s=>if i=1073741824 then .norm s else .exit i s
 |o=>o
theorem mN.mono{F:Fence}{n:Nat}{P:Program}{c r:Code}{Q Q':Exit→Act→World→Prop}{a:Act}{w:World}(h:mN F n P c r Q a w)(hq:∀ e a w,Q e a w→Q' e a w):mN F n P c r Q' a w:=
 fun b k cs dC hb hr=>let ⟨e,a',w',q,r⟩:=h b k cs dC hb hr; ⟨e,a',w',hq _ _ _ q,r⟩
theorem R0.mono{l:Nat}{N N':Act→World→Prop}{Q Q':Exit→Act→World→Prop}(hn:∀ a w,N a w→N' a w)(hq:∀ e a w,Q e a w→Q' e a w){e:Exit}{a:Act}{w:World}(h:R0 l N Q e a w):R0 l N' Q' e a w:=by
 cases e with
 |goto m=>exact⟨h.1,hn _ _ h.2⟩
 |_=>exact hq _ _ _ h
theorem Hy[ab]{C:Ctx}{k:Nat}(hC:∀ j,j≤k→fu C j){rd:Option Nat}{l:Nat}{c r r':Code}(hf:findLabel c l=some (.seq .skip r))(hr:qS l r=some r'){B:oK}:∀ (j:Nat),j≤k→∀ (s:St) (o:Out),
  bQ C j (.loop (.block 1073741825 (.seq r' (.exit 1073741824)))) s=some o→∀ (E:Env) (a:Act) (w:World),cG B E s a w →
  r.wpIn (WF rd) 0 C.P (R0 l (fun a1 w1=>mN (WF rd) 0 C.P c (.seq .skip r) (bo B E w (vK o)) a1 w1) (bo B E w (vK o))) a w:=by
 intro j
 induction j with
 |zero=>intro _ s o h; simp[bQ]at h
 |succ j ih=>
  intro hj s o h E a w hs
  have Zn:=ih (by omega)
  simp only[bQ]at h
  cases hb:bQ C j (.block 1073741825 (.seq r' (.exit 1073741824))) s with
  |none=>rw[hb]at h; simp at h
  |some q=>
   rw[hb]at h
   cases j with
   |zero=>simp[bQ]at hb
   |succ j=>
    simp only[bQ]at hb
    cases j with
    |zero=>simp[bQ]at hb
    |succ j=>
     simp only[bQ]at hb
     cases hq:bQ C j r' s with
     |none=>rw[hq]at hb; simp at hb
     |some p=>
      rw[hq]at hb
      refine wpIn_mono (PD hC r hr j (by omega) s p hq rd B E a w hs) fun e a' w' ho=>?_
      obtain⟨E',g1,g2,g3⟩:=ho
      cases p with
      |norm s1=>
       cases j with
       |zero=>simp[bQ]at hq
       |succ j=>
        simp only[bQ]at hb
        simp at hb
        subst hb
        simp only[Option.some.injEq]at h
        subst h
        cases e with
        |normal=>exact⟨E',g1,g2,g3⟩
        |_=>exact g3.elim
      |exit i s1=>
       simp only at hb
       cases e with
       |goto m=>
        obtain⟨hi,hm,ny⟩:=g3
        subst hi
        simp only[if_true,Option.some.injEq]at hb
        subst hb
        simp only at h
        refine⟨hm,?_⟩
        have:∃ E2,Ext E E2∧Fr E w E2 w'∧cG B E2 (gG s.hp.length s1) a' w':=by
         unfold gG
         split
         ·rename_i bg
          have hle:s.hp.length≤s1.hp.length:=by rw[hs.inv.len,ny.inv.len]; exact g1.L
          obtain⟨a1,a2,a3⟩:=tn ny.inv hle bg
          exact⟨E'.lower s.hp.length,⟨g1.m,fun n hn aq l h=>g1.ρ n hn aq l h,by simp[Env.lower,hs.inv.len]⟩,g2.trans a2,rO a3 ny.fr,a1,ny.df.mono a2,ny.bs⟩
         ·exact⟨E',g1,g2,ny⟩
        obtain⟨E2,b1,b2,b3⟩:=this
        have hw:=Zn _ o h E2 a' w' b3
        refine zT hf (N:=fun a w2=>mN (WF rd) 0 C.P c (.seq .skip r) (bo B E w (vK o)) a w2) (fun _ _ h=>h) (wpIn_seq (wpIn_skip (wpIn_mono hw fun e a2 w2 hj=>?_)))
        exact hj.mono (fun _ _ hi=>hi.mono fun _ _ _ hp=>bo.from b1 b2 hp) fun _ _ _ hp=>bo.from b1 b2 hp
       |exit m=>
        obtain⟨hi,bS,ny⟩:=g3
        subst hi
        rw[if_neg (by omega)]at hb
        simp only[Option.some.injEq]at hb
        subst hb
        simp only[Option.some.injEq]at h
        subst h
        have:vK (.exit i s1)=.exit i s1:=by simp only[vK]; rw[if_neg (by omega)]
        rw[this]
        exact⟨E',g1,g2,rfl,ny⟩
       |_=>exact g3.elim
      |ret s1=>
       simp only[Option.some.injEq]at hb
       subst hb
       simp only[Option.some.injEq]at h
       subst h
       cases e with
       |ret=>exact⟨E',g1,g2,g3⟩
       |_=>exact g3.elim
      |jS v s1=>
       simp only[Option.some.injEq]at hb
       subst hb
       simp only[Option.some.injEq]at h
       subst h
       cases e with
       |panic ch=>exact⟨E',g1,g2,g3⟩
       |_=>exact g3.elim
theorem ET:∀ {c:Code},noGoto c=true→cx c=true:=by
 intro c
 induction c with
 |seq a b Gk DY=>simp_all[noGoto,cx]
 |cond o a b Gk DY=>simp_all[noGoto,cx]
 |block id b ih=>simp_all[noGoto,cx]
 |loop b ih=>simp_all[noGoto,cx]
 |scope b ih=>simp_all[noGoto,cx]
 |rangeFunc _ _ _ _ _ _=>intro h; simp[noGoto]at h
 |_=>intro _; rfl
theorem J1[ab]{C:Ctx}{k:Nat}(hC:∀ j,j≤k→fu C j){rd:Option Nat}{B:oK}{E:Env}{s:St}{a:Act}{w:World}(hs:cG B E s a w){b c:Code}{o:Out}
  (hc:pd b=some c) (h:bQ C k c s=some o):(Code.scope b).wpIn (WF rd) 0 C.P (bo B E w o) a w:=by
 cases J3:noGoto b with
 |true=>
  simp only[pd,J3,Option.some.injEq]at hc
  subst hc
  refine CB (wu (hC k (Nat.le_refl _) b s o h rd B (.inr (ET J3)) E a w hs) fun m a' w' hq=>?_)
  obtain⟨E',_,_,hq⟩:=hq
  cases o<;>exact hq.elim
 |false=>
 cases J8:sQ b with
 |none=>simp only[pd,J3,J8]at hc; simp at hc
 |some q=>
  obtain⟨l,x,r⟩:=q
  cases hr:qS l r with
  |none=>simp only[pd,J3,J8,hr,Option.map_none]at hc; simp at hc
  |some r'=>
   simp only[pd,J3,J8,hr,Option.map_some,Option.some.injEq]at hc
   subst hc
   have hf:=J7 J8
   cases k with
   |zero=>simp[bQ]at h
   |succ k=>
    simp only[bQ]at h
    refine CB (zT hf (N:=fun a w'=>mN (WF rd) 0 C.P b (.seq .skip r) (bo B E w o) a w') (fun _ _ h=>h) ?_)
    cases hx:bQ C k x s with
    |none=>rw[hx]at h; simp at h
    |some q=>
     rw[hx]at h
     refine PE hC b J8 k (by omega) s q hx E a w hs (fun s1 E1 a1 w1 hq g1 g2 ny=>?_) (fun e a' w' hq hp=>?_)
     ·subst hq
      simp only at h
      cases k with
      |zero=>simp[bQ]at h
      |succ k=>
       simp only[bQ]at h
       cases hl:bQ C k (.loop (.block 1073741825 (.seq r' (.exit 1073741824)))) s1 with
       |none=>rw[hl]at h; simp at h
       |some oL=>
        rw[hl]at h
        have ho:o=vK oL:=by
         cases oL with
         |exit i s2=>
          grind[vK]
         |_=>simpa[vK] using h.symm
        subst ho
        refine wpIn_mono (Hy hC hf hr k (by omega) s1 oL hl E1 a1 w1 ny) fun e a2 w2 hj=>?_
        exact hj.mono (fun _ _ hi=>hi.mono fun _ _ _ hp=>bo.from g1 g2 hp) fun _ _ _ hp=>bo.from g1 g2 hp
     ·have ho:o=q:=by
       simp_all
      subst ho
      cases e with
      |goto m=>obtain⟨_,_,_,h3⟩:=hp; cases o<;>exact h3.elim
      |_=>exact hp
end Go.PI
end
section
/- PI, part Zb: calls that only look, where the order is drawn. -/
namespace Go.PI
def JW[ab](P:Program):Prop:=∀ (g:FuncId) (args:List AV) (hp:ag) (e:dm),(yG P hp.length g args).run hp=some e→∀ (E:Env) (w:World) (vs:List Value),Inv E hp w→an E true args vs →
 e.wr=[]∧Calls P g vs.toArray w (bO E w hp (.val e.val))
theorem MV[ab]{C:Ctx}(bL:C.Ok){nm:Nat}{g:FuncId}{args:List AV}{hp:ag}{e:dm}(h:(yG C.P nm g args).run hp=some e):
  ∃ fn : Func, C.P.funcs[g]? = some fn ∧ fn.body.isSome = true ∧ (fn.name == "runtime.NumGoroutine") = false := by
 unfold yG at h
 split at h
 ·simp[RM.ae]at h
 rename_i fn hf
 split at h
 ·simp[RM.ae]at h
 rename_i c hc
 exact⟨fn,hf,by rw[hc]; rfl,bL.name g fn hf (by rw[hc]; rfl)⟩
def pK(hp:ag):Option (Nat×aL)→ag
 |none=>hp
 |some (m,o')=>match hp[m]? with
  |some (some _)=>hp.set m (some o')
  |_=>hp
theorem CD{hp:ag}{ov:Option (Nat×aL)}(n:Nat):(pK hp ov)[n]?=(hp[n]?).map fun o=>o.map fun o=>match ov with
  |some (m,o')=>(match Nat.beq m n with
   |true=>o'
   |false=>o)
  |none=>o:=by
 cases ov with
 |none=>cases h:hp[n]? with
  |none=>simp[pK,h]
  |some o=>cases o<;>simp[pK,h]
 |some q=>
  obtain⟨m,o'⟩:=q
  simp only[pK]
  by_cases hm:m=n
  ·subst hm
   have hb:Nat.beq m m=true:=Nat.beq_refl m
   split
   ·rename_i o ho
    rw[List.getElem?_set_self (List.getElem?_eq_some_iff.1 ho).1,ho]
    simp
   ·rename_i ho
    cases h:hp[m]? with
    |none=>simp
    |some o=>cases o with
     |none=>simp
     |some o=>exact absurd h (ho o)
  ·have hb:Nat.beq m n=false:=Bool.eq_false_iff.mpr fun h=>hm (Nat.eq_of_beq_eq_true h)
   have:(match hp[m]? with
    |some (some _)=>hp.set m (some o')
    |_=>hp)[n]?=hp[n]?:=by
    split
    ·rw[List.getElem?_set_ne hm]
    ·rfl
   rw[this]
   cases h:hp[n]? with
   |none=>simp
   |some o=>cases o<;>simp[hb]
theorem lL{hp:ag}{ov:Option (Nat×aL)}:(pK hp ov).length=hp.length:=by
 unfold pK
 split
 ·rfl
 ·split<;>simp
def aQ(hp:ag)(ov:Option (Nat×aL))(nw:List aL):ag:=pK hp ov++nw.map some
theorem n7{hp:ag}{ov:Option (Nat×aL)}{nw:List aL}:(aQ hp ov nw).length=hp.length+nw.length:=by
 simp[aQ,lL]
theorem nC{α:Type}{hp:ag}{ov:Option (Nat×aL)}{nw:List aL}(x:RM α):(x.gM hp.length ov nw).run hp=x.run (aQ hp ov nw) ∧
  (x.gM hp.length ov nw).log hp=(x.log (aQ hp ov nw)).filter (fun n=>Nat.blt n hp.length):=by
 induction x with
 |ret a=>exact⟨rfl,rfl⟩
 |fail=>exact⟨rfl,rfl⟩
 |get n k ih=>
  cases hb:Nat.ble hp.length n with
  |true=>
   have hle:=Nat.le_of_ble_eq_true hb
   have B6:Nat.blt n hp.length=false:=Bool.eq_false_iff.mpr fun h=>by have:=Nat.le_of_ble_eq_true h; omega
   have e:(aQ hp ov nw)[n]?=(nw[n-hp.length]?).map some:=by
    unfold aQ
    rw[List.getElem?_append_right (by rw[lL]; exact hle),lL,List.getElem?_map]
   simp only[RM.gM,RM.run,RM.log,hb,e,List.filter_cons,B6,Bool.false_eq_true,if_false]
   cases h:nw[n-hp.length]? with
   |none=>exact⟨rfl,rfl⟩
   |some o=>exact ih o
  |false=>
   have bS:n<hp.length:=by
    rcases Nat.lt_or_ge n hp.length with h|h
    ·exact h
    ·rw[Nat.ble_eq_true_of_le h]at hb; cases hb
   have B6:Nat.blt n hp.length=true:=Nat.ble_eq_true_of_le bS
   have e:(aQ hp ov nw)[n]?=(pK hp ov)[n]?:=by
    unfold aQ
    rw[List.getElem?_append_left (by rw[lL]; exact bS)]
   simp only[RM.gM,RM.run,RM.log,hb,e,CD,List.filter_cons,B6,if_true]
   cases h:hp[n]? with
   |none=>simp
   |some o=>cases o with
    |none=>simp
    |some o=>exact⟨(ih _).1,congrArg (n::·) (ih _).2⟩
def A2[ab](hp:ag)(ov:Option (Nat×aL)):Prop:=∀ (E:Env) (w:World),Inv E (pK hp ov) w→Inv E hp w
theorem vL:∀ (xs l:List AV) (j q:Nat),(q<j∨j+xs.length≤q)→(setCells l j xs)[q]?=l[q]?
 |[],_,_,_,_=>rfl
 |x::xs,l,j,q,h=>by
  simp only[setCells]
  rw[vL xs _ _ q (by simp only[List.length_cons]at h; omega),List.getElem?_set_ne (by simp only[List.length_cons]at h; omega)]
theorem J9[ab]{E:Env}{l:List AV}{j s:Nat}{cs:List AV}(hs:cs.length=s)(ha:((l.drop j).take s).all isAny=true)(v:Value)(h:aj E true (.agg (setCells l j cs)) v):aj E true (.agg l) v:=by
 simp only[aj]at h ⊢
 obtain⟨c,rfl,hc⟩:=h
 refine⟨c,rfl,aH.of (an.dY ?_ ?_) hc.leaf⟩
 ·rw[←hc.FK.length,oH]
 ·intro q x u hx hu
  by_cases hq:q<j∨j+cs.length≤q
  ·obtain⟨u',LY,hr⟩:=hc.FK.get (i:=q) (x:=x) (by rw[vL _ _ _ _ hq]; exact hx)
   rw[hu]at LY
   cases LY
   exact hr
  ·have hm:x∈(l.drop j).take s:=by
    rw[List.mem_iff_getElem?]
    refine⟨q-j,?_⟩
    rw[List.getElem?_take_of_lt (by omega),List.getElem?_drop]
    have:j+(q-j)=q:=by omega
    rw[this]
    exact hx
   have:=List.all_eq_true.1 ha x hm
   unfold isAny at this
   split at this
   ·simp[aj]
   ·simp at this
theorem EU[ab]{P:Program}{hp H:ag}{ev:Operand→AV}{nm n:Nat}{o:Oper}{o0 o':aL}{e:dm}(h0:hp[n]?=some (some o0))(Zo:H[n]?=some (some o0))(hh:rG P ev o.op n o0=true)
  (he:(aK P nm ev o).run H=some e) (hw:e.wr=[(n,o')]):A2 hp (some (n,o')):=by
 obtain⟨dst,op,type,pos,after,guard⟩:=o
 simp only[rG]at hh
 split at hh
 case h_2=>simp at hh
 rename_i t a x
 split at hh
 case h_2=>simp at hh
 rename_i r n' aq i j g f es ht ha
 split at hh
 case h_2=>simp at hh
 rename_i l hl
 simp only[Bool.and_eq_true]at hh
 obtain⟨⟨h1,h2⟩,h3⟩:=hh
 obtain rfl:=Nat.eq_of_beq_eq_true h1
 simp only[aK,o7,ht,ha,RM.run_bind]at he
 cases hq:(RM.arr n' aq).run H with
 |none=>rw[hq]at he; simp at he
 |some q=>
  obtain⟨g',c',f',es'⟩:=q
  have dR:=RM.kO hq
  rw[hq]at he
  simp only[Option.bind_some]at he
  obtain⟨gD,Gl⟩:=dR
  rw[Zo]at gD
  simp only[Option.some.injEq,aL.arr.injEq]at gD
  obtain⟨rfl,rfl,rfl,rfl⟩:=gD
  rw[hl]at he
  simp only[iT]at he
  split at he
  case h_2=>simp[RM.ae]at he
  rename_i e' yR
  split at yR
  case isFalse=>simp at yR
  simp only[Option.some.injEq]at yR
  subst yR
  split at he
  case isFalse=>simp[RM.ae]at he
  rename_i hc
  simp only[RM.run_pure,Option.some.injEq]at he
  subst he
  simp only[List.cons.injEq,Prod.mk.injEq,true_and,and_true,Bool.false_and]at hw
  subst hw
  intro E w hI
  have hn:=(List.getElem?_eq_some_iff.1 h0).1
  have hi:=(List.getElem?_eq_some_iff.1 hl).1
  simp only[pK,h0]at hI
  have:=rQ (e':=.agg l) hI (List.getElem?_set_self hn) (List.getElem?_set_self hi) (fun v hv=>J9 hc.2.1 h3 v hv)
  rw[List.set_set,List.set_set,gV hl,gV h0]at this
  exact this
section
variable {C:Ctx}
theorem xH{hp:ag}{n:Nat}{o0 o':aL}{nw:List aL}(h:hp[n]?=some (some o0)):ak (aQ hp none nw) [(n,o')]=aQ hp (some (n,o')) nw:=by
 have bS:=(List.getElem?_eq_some_iff.1 h).1
 simp only[ak,aQ,pK,h]
 rw[iA (by simp; omega),List.set_append_left _ _ bS]
theorem EV{hp:ag}{ov:Option (Nat×aL)}{nw:List aL}{n:Nat}{o':aL}(h:hp.length≤n):ak (aQ hp ov nw) [(n,o')]=aQ hp ov (IJ nw (n-hp.length) o'):=by
 have hl:=n7 (hp:=hp) (ov:=ov) (nw:=nw)
 simp only[ak,setObj,hl,IJ]
 by_cases e:n=hp.length+nw.length
 ·simp_all[aQ]
 ·rw[if_neg e,if_neg (by omega)]
  simp only[aQ,List.map_set]
  rw[List.set_append_right _ _ (by rw[lL]; exact h),lL]
theorem pL{hp:ag}{ov:Option (Nat×aL)}:∀ (wr:List (Nat×aL)) {nw:List aL},(∀ q∈wr,hp.length≤q.1)→ak (aQ hp ov nw) wr=aQ hp ov (pc hp.length nw wr)
 |[],_,_=>rfl
 |(n,o)::r,nw,h=>by
  have h1:=EV (ov:=ov) (nw:=nw) (o':=o) (h (n,o) (by simp))
  simp only[ak]at h1
  simp only[ak,pc,h1]
  exact pL r fun q hq=>h q (by simp[hq])
theorem zU[ab](ha:∀ f d,C.acc f d=false)(hn:∀ f d,C.qR f d=[]){ops:Array Oper}{f:FuncId}{hp:ag}{r:List Oper}{dst:Option Tmp}{op:Op}{type:TypeId}{pos:String}
  {after:Array Edge} {guard:Option (Nat×Bool)} {q q':wi} (h1:∀ c,op≠.call c) (h2:op≠.assign (.const (.slice none 0 0)))
  (h:(do
      let e ←(aK C.P (hp.length+q.nw.length) (az q.fr) ⟨dst,op,type,pos,after,guard⟩).gM hp.length q.ov q.nw
      match e.wr.all fun q=>Nat.ble hp.length q.1 with
      |true=>iW C.P hp.length ops r { q with fr:=bC q.fr dst e.val,nw:=pc hp.length q.nw e.wr }
      |false=>(match q.ov,e.wr with
       |none,[(n,o')]=>.get n fun o0=>(match rG C.P (az q.fr) op n o0 with
         |true=>iW C.P hp.length ops r { q with fr:=bC q.fr dst e.val,ov:=some (n,o') }
         |false=>.fail)
       |_,_=>.fail):RM wi).run hp=some q') (k:Nat) :
  ∃ q1:wi,fF C (k+1) ⟨dst,op,type,pos,after,guard⟩ ⟨f,q.fr,aQ hp q.ov q.nw⟩=some (.norm ⟨f,q1.fr,aQ hp q1.ov q1.nw⟩)∧(A2 hp q.ov→A2 hp q1.ov)∧(iW C.P hp.length ops r q1).run hp=some q':=by
 obtain⟨fr,ov,nw⟩:=q
 simp only[RM.run_bind,(nC _).1]at h
 cases he:(aK C.P (hp.length+nw.length) (az fr) ⟨dst,op,type,pos,after,guard⟩).run (aQ hp ov nw) with
 |none=>rw[he]at h; simp at h
 |some e=>
  rw[he]at h
  simp only[Option.bind_some]at h
  have Eb:C.qR f=fun _=>[]:=funext fun d=>hn f d
  have bE:fF C (k+1) ⟨dst,op,type,pos,after,guard⟩ ⟨f,fr,aQ hp ov nw⟩=some (.norm ⟨f,bC fr dst e.val,ak (aQ hp ov nw) e.wr⟩):=by
   rw[fF]
   split
   ·rename_i c hc; exact absurd hc (h1 c)
   ·rename_i hc; exact absurd hc h2
   ·simp only[n7,he,Eb]
    cases dst<;>rfl
  split at h
  ·rename_i hb
   refine⟨⟨bC fr dst e.val,ov,pc hp.length nw e.wr⟩,bE.trans ?_,id,h⟩
   rw[pL e.wr fun q hq=>Nat.le_of_ble_eq_true (List.all_eq_true.1 hb q hq)]
  ·cases ov with
   |some _=>simp[RM.ae]at h
   |none=>
    split at h
    case h_2=>simp[RM.ae]at h
    rename_i n o' _ DW
    simp only[RM.run]at h
    split at h
    case h_2=>simp at h
    rename_i o0 ho
    split at h
    case h_2=>simp[RM.ae]at h
    rename_i hh
    have c6:(aQ hp none nw)[n]?=some (some o0):=by
     grind[aQ,pK]
    refine⟨⟨bC fr dst e.val,some (n,o'),nw⟩,bE.trans ?_,fun _=>EU (o:=⟨dst,op,type,pos,after,guard⟩) ho c6 hh he DW,h⟩
    rw[DW,xH (o':=o') ho]
theorem nD[ab](ha:∀ f d,C.acc f d=false)(hn:∀ f d,C.qR f d=[]){ops:Array Oper}{f:FuncId}{hp:ag}:∀ (l:List Oper) (q q':wi),(iW C.P hp.length ops l q).run hp=some q' →
  (A2 hp q.ov→A2 hp q'.ov)∧∀ k,cE (fun o s=>fF C (k+1) o s) ops l ⟨f,q.fr,aQ hp q.ov q.nw⟩=some (.norm ⟨f,q'.fr,aQ hp q'.ov q'.nw⟩)
 |[],q,q',h=>by
  simp only[iW,RM.run_pure,Option.some.injEq]at h
  subst h
  exact⟨id,fun k=>rfl⟩
 |o::r,q,q',h=>by
  obtain⟨dst,op,type,pos,after,guard⟩:=o
  simp only[iW]at h
  simp only[cE]
  cases hw:cF ops q.fr ⟨dst,op,type,pos,after,guard⟩ with
  |none=>rw[hw]at h; simp[RM.ae]at h
  |some b=>
   rw[hw]at h
   cases b with
   |false=>exact nD ha hn r { q with fr:=bC q.fr dst .undef } _ h
   |true=>
    simp only at h ⊢
    split at h
    ·simp[RM.ae]at h
    ·cases dst with
     |none=>
      obtain⟨i1,i2⟩:=nD ha hn (f:=f) r q _ h
      refine⟨i1,fun k=>?_⟩
      have bE:fF C (k+1) ⟨none,.assign (.const (.slice none 0 0)),type,pos,after,guard⟩ ⟨f,q.fr,aQ hp q.ov q.nw⟩=some (.norm ⟨f,q.fr,aQ hp q.ov q.nw⟩):=by
       rw[fF]; rfl
      rw[bE]
      exact i2 k
     |some d=>
      obtain⟨i1,i2⟩:=nD ha hn (f:=f) r { q with fr:=q.fr.set d (.lit cK) } _ h
      refine⟨i1,fun k=>?_⟩
      have bE:fF C (k+1) ⟨some d,.assign (.const (.slice none 0 0)),type,pos,after,guard⟩ ⟨f,q.fr,aQ hp q.ov q.nw⟩=some (.norm ⟨f,q.fr.set d (.lit cK),aQ hp q.ov q.nw⟩):=by
       rw[fF]
       simp only[ha,Bool.false_eq_true,if_false]
      rw[bE]
      exact i2 k
    ·rename_i h1 h2
     obtain⟨q1,g1,g2,g3⟩:=zU ha hn (f:=f) h1 h2 h 0
     obtain⟨i1,i2⟩:=nD ha hn (f:=f) r _ _ g3
     refine⟨fun hw=>i1 (g2 hw),fun k=>?_⟩
     obtain⟨q1',M5,_,Zp⟩:=zU ha hn (f:=f) h1 h2 h k
     rw[M5]
     exact(nD ha hn (f:=f) r _ _ Zp).2 k
theorem Ka[ab](ha:∀ f d,C.acc f d=false)(hn:∀ f d,C.qR f d=[])(hh:∀ f d,C.iq f d=[]){f:FuncId}{hp:ag}:∀ (c:Code) (q:wi) (q':wi×Bool),(gB C.P hp.length c q).run hp=some q' →
  (A2 hp q.ov→A2 hp q'.1.ov)∧∃ k,bQ C k c ⟨f,q.fr,aQ hp q.ov q.nw⟩=some (match q'.2 with|true=>.ret ⟨f,q'.1.fr,aQ hp q'.1.ov q'.1.nw⟩|false=>.norm ⟨f,q'.1.fr,aQ hp q'.1.ov q'.1.nw⟩):=by
 intro c
 induction c with
 |skip=>intro q q' h; simp only[gB,RM.run_pure,Option.some.injEq]at h; subst h; exact⟨id,1,by simp[bQ]⟩
 |ret=>intro q q' h; simp only[gB,RM.run_pure,Option.some.injEq]at h; subst h; exact⟨id,1,by simp[bQ]⟩
 |seq a b Gk DY=>
  intro q q' h
  simp only[gB,RM.run_bind]at h
  cases hq:(gB C.P hp.length a q).run hp with
  |none=>rw[hq]at h; simp at h
  |some q1=>
   rw[hq]at h
   simp only[Option.bind_some]at h
   obtain⟨w1,k1,h1⟩:=Gk q q1 hq
   obtain⟨q1,r1⟩:=q1
   cases r1 with
   |true=>
    simp only[RM.run_pure,Option.some.injEq]at h
    subst h
    exact⟨w1,k1+1,by simp only[bQ,h1]⟩
   |false=>
    simp only at h h1 w1
    obtain⟨w2,k2,h2⟩:=DY q1 q' h
    refine⟨fun hw=>w2 (w1 hw),k1+k2+1,?_⟩
    have g1:=(dG C a ⟨f,q.fr,aQ hp q.ov q.nw⟩).le h1 k2
    have g2:=(dG C b ⟨f,q1.fr,aQ hp q1.ov q1.nw⟩).le h2 k1
    rw[Nat.add_comm]at g2
    simp only[bQ,g1,g2]
 |cond o a b Gk DY=>
  intro q q' h
  simp only[gB]at h
  split at h
  ·rename_i he
   obtain⟨w,k,hk⟩:=Gk q q' h
   exact⟨w,k+1,by simp only[bQ,he]; exact hk⟩
  ·rename_i he
   obtain⟨w,k,hk⟩:=DY q q' h
   exact⟨w,k+1,by simp only[bQ,he]; exact hk⟩
  ·simp[RM.ae]at h
 |region id ops draw=>
  intro q q' h
  cases draw with
  |true=>simp[gB,RM.ae]at h
  |false=>
   simp only[gB,RM.run_bind]at h
   cases hq:(iW C.P hp.length ops ops.toList q).run hp with
   |none=>rw[hq]at h; simp at h
   |some q1=>
    rw[hq]at h
    simp only[Option.bind_some,RM.run_pure,Option.some.injEq]at h
    subst h
    obtain⟨w1,h1⟩:=nD ha hn (f:=f) _ _ _ hq
    exact⟨w1,2,by simp only[bQ,hh,gF]; exact h1 0⟩
 |_=>intro q q' h; simp[gB,RM.ae]at h
def Gm(nm:Nat)(ov:Option (Nat×aL)):Prop:=∀ n o,ov=some (n,o)→o.below nm=true
theorem M4[ab]{g:FuncId}{args:List AV}{hp:ag}{e:dm}{P:Program}(hP:C.P=P)(ha:∀ f d,C.acc f d=false)(hn:∀ f d,C.qR f d=[])(Zq:∀ f d,C.iq f d=[])(h:(yG P hp.length g args).run hp=some e):
  e.wr=[]∧below hp.length e.val=true∧∃ ov nw,A2 hp ov∧Gm hp.length ov∧∃ k,lX C k g args hp=some (.val e.val,aQ hp ov nw):=by
 subst hP
 unfold yG at h
 split at h
 ·simp[RM.ae]at h
 rename_i fn hf
 split at h
 ·simp[RM.ae]at h
 rename_i c hc
 split at h
 ·simp[RM.ae]at h
 rename_i hD
 rw[RM.run_bind]at h
 cases hq:(gB C.P hp.length c ⟨args++List.replicate (fn.ntmps-args.length) .undef,none,[]⟩).run hp with
 |none=>rw[hq]at h; simp at h
 |some q=>
  rw[hq]at h
  simp only[Option.bind_some,RM.run_bind,(nC _).1]at h
  cases hl:(aR C.P q.1.fr fn.results.toList).run (aQ hp q.1.ov q.1.nw) with
  |none=>rw[hl]at h; simp at h
  |some l=>
   rw[hl]at h
   simp only[Option.bind_some]at h
   split at h
   case h_2=>simp[RM.ae]at h
   rename_i hb
   simp only[RM.run_pure,Option.some.injEq]at h
   subst h
   simp only[Bool.and_eq_true]at hb
   obtain⟨Zr,k,hk⟩:=Ka ha hn Zq (f:=g) c ⟨_,none,[]⟩ q hq
   refine⟨rfl,hb.1,q.1.ov,q.1.nw,Zr (fun _ _ h=>h),?_,k+1,?_⟩
   ·intro n o ho
    have:=hb.2
    rw[ho]at this
    exact this
   have e:aQ hp none []=hp:=by simp[aQ,pK]
   simp only[e]at hk
   simp only[lX,hf,hc,hD,hk]
   cases q.2<;>simp only[hl]
mutual
theorem uC{E:Env}{n:Nat}(hn:E.L=n){o:Bool}:∀ {x:AV} {v:Value},aj E o x v→below n x=true
 |.lit _,v,_=>rfl
 |.agg l,v,h=>by
  simp only[aj]at h
  obtain⟨c,_,hc⟩:=h
  simp only[below]
  exact jI hn hc.FK
 |.ju l,v,h=>by
  simp only[aj]at h
  obtain⟨c,_,hc⟩:=h
  simp only[below]
  exact jI hn hc
 |.gd t x,v,h=>by
  simp only[aj]at h
  obtain⟨y,_,hy⟩:=h
  simp only[below]
  exact uC hn hy
 |.iR fn f c,v,h=>by
  simp only[aj]at h
  obtain⟨_,_,_,h1,h2⟩:=h
  simp only[below,Bool.and_eq_true]
  exact⟨jI hn h1,jI hn h2⟩
 |.sl _,v,_=>rfl
 |.o6 _ _,v,_=>rfl
 |.nz,v,_=>rfl
 |.bf _ _,v,_=>rfl
 |.ref m _ _ _,v,h=>by
  simp_all[aj,below]
 |.bq _ m _ _ _ _,v,h=>by
  simp_all[aj,below]
 |.iP m _ _ _ _ _,v,h=>by
  simp_all[aj,below]
 |.mp _ m,v,h=>by
  simp_all[aj,below]
 |.any,v,_=>rfl
theorem jI{E:Env}{n:Nat}(hn:E.L=n){o:Bool}:∀ {l:List AV} {c:List Value},an E o l c→cO n l=true
 |[],_,_=>rfl
 |x::xs,v::vs,h=>by
  simp only[an]at h
  simp only[cO,Bool.and_eq_true]
  exact⟨uC hn h.1,jI hn h.2⟩
 |_::_,[],h=>by simp[an]at h
end
theorem zV{n:Nat}:∀ {l:List AV},(∀ (i:Nat) (x:AV),l[i]?=some x→below n x=true)→cO n l=true
 |[],_=>rfl
 |x::xs,h=>by
  simp only[cO,Bool.and_eq_true]
  exact⟨h 0 x rfl,zV fun i y hy=>h (i+1) y hy⟩
theorem Hz[ab]{E:Env}{hp:ag}{w:World}(hI:Inv E hp w){n:Nat}{o:aL}(ho:hp[n]?=some (some o)):o.below hp.length=true:=by
 have hl:=hI.len.symm
 cases o with
 |arr g c f es=>
  simp only[aL.below,Bool.or_eq_true]
  refine .inr (zV fun i x hx=>?_)
  obtain⟨l,_,_,h3⟩:=hI.objs _ _ ho
  cases hb:l.kJ with
  |none=>
   simp_all
  |some b=>
   rw[hb]at h3
   obtain⟨_,_,_,_,_,_,_,_,a7⟩:=h3
   obtain⟨v,hv,_⟩:=a7 _ _ hx
   exact uC hl hv
 |gf k vs=>
  simp only[aL.below]
  obtain⟨_,_,_,us,_,_,_,_,_,_,_,h8⟩:=hI.objs _ _ ho
  exact jI hl h8
theorem Hw[ab]{E:Env}{hp:ag}{w w':World}(hI:Inv E hp w){ov:Option (Nat×aL)}{nw:List aL}(hw:A2 hp ov)(hb:Gm hp.length ov){r:AV}(hr:below hp.length r=true){en:Ending}
  (h:bO E w (aQ hp ov nw) (.val r) en w'):bO E w hp (.val r) en w':=by
 obtain⟨E',hx,ig,hf,cy⟩:=h
 have Ow:(aQ hp ov nw).take hp.length=pK hp ov:=by
  unfold aQ
  rw[←lL (ov:=ov),List.take_left]
 have bg:((aQ hp ov nw).take hp.length).all (kq hp.length)=true:=by
  rw[Ow,List.all_eq_true]
  intro o ho
  obtain⟨i,hi⟩:=List.mem_iff_getElem?.1 ho
  rw[CD]at hi
  cases h:hp[i]? with
  |none=>rw[h]at hi; simp at hi
  |some o1=>
   rw[h]at hi
   cases o1 with
   |none=>
    simp only[Option.map_some,Option.map_none,Option.some.injEq]at hi
    subst hi
    rfl
   |some o1=>
    simp only[Option.map_some,Option.some.injEq]at hi
    subst hi
    simp only[kq]
    have h1:=Hz hI h
    cases ov with
    |none=>exact h1
    |some q=>
     obtain⟨m,o'⟩:=q
     simp only
     split
     ·exact hb _ _ rfl
     ·exact h1
 obtain⟨h1,h2,h3⟩:=tn ig (by rw[n7]; omega) bg
 rw[Ow]at h1
 refine⟨E'.lower hp.length,⟨hx.m,fun n hn aq l h=>hx.ρ n hn aq l h,by simp[Env.lower,hI.len]⟩,hw _ _ h1,hf.trans h2,?_⟩
 cases en with
 |returned v=>exact aj.down h3 hr cy
 |panicked _=>exact cy.elim
 |outgrown=>exact cy.elim
end
end Go.PI
end
section
/- PI, part Z: the theorem: what the evaluator answers is what the machine does. -/
namespace Go.PI
theorem Ht[ab]{C:Ctx}{k:Nat}:Gg (fun nm o fr=>ir C k nm o fr):=by
 intro nm o fr yS h
 cases k with
 |zero=>rfl
 |succ k=>
  have DN:=Cj (P:=C.P) (nm:=nm) h
  obtain⟨dst,op,type,pos,after,guard⟩:=o
  cases op with
  |call c=>
   obtain⟨callee,args,argTypes⟩:=c
   cases callee with
   |builtin b=>simp only[ir]; exact DN
   |invoke r m=>
    have h1:az fr r=az yS r:=h r (by simp[Op.operands,Call.operands])
    have h2:args.toList.map (az fr)=args.toList.map (az yS):=List.map_congr_left fun x hx=>h x (by simp[Op.operands,Call.operands]; exact .inr (by simpa using hx))
    simp only[ir,h1,h2]
   |value f=>
    have h1:az fr f=az yS f:=h f (by simp[Op.operands,Call.operands])
    have h2:args.toList.map (az fr)=args.toList.map (az yS):=List.map_congr_left fun x hx=>h x (by simp[Op.operands,Call.operands]; exact .inr (by simpa using hx))
    simp only[ir,h1,h2]
  |_=>simp only[ir]; exact DN
theorem Cs[ab]{C:Ctx}(bL:C.Ok)(TY:∀ g,C.kind g=.imp→JW C.P){k:Nat}(hF:lI C k)(hP:uw C k):rM C.P (fun nm o fr=>ir C (k+1) nm o fr):=by
 intro rd x B E s a w e K Q hs nT h hK
 have bE:=fun y=>gU hs.inv.jv hs.fr y
 have ft:au x.o.op=false→x.at s.hp.length=s.hp.length:=fun h=>by simp only[Item.at,h]
 have RC:au x.o.op=true→s.hp[x.at s.hp.length]?=some none:=fun h=>by simp only[Item.at,h]; exact nT h
 clear nT
 have nT:=RC
 clear RC
 obtain⟨idx,nm,o⟩:=x
 generalize Item.at ⟨idx,nm,o⟩ s.hp.length=nm at h nT ft
 simp only at h nT ft hK ⊢
 have TX:(aK C.P nm (az s.fr) o).run s.hp=some e→o.wpIn (WF rd) 0 C.P a w K Q:=by
  intro h
  cases pj:au o.op with
  |true=>exact wH hs (ta hs.inv (.inr (nT pj)) bE h) hK
  |false=>
   rw[JQ (nm':=s.hp.length) pj]at h
   exact wH hs (ta hs.inv (.inl rfl) bE h) hK
 obtain⟨dst,op,type,pos,after,guard⟩:=o
 cases op with
 |call c=>
  obtain⟨callee,args,argTypes⟩:=c
  cases callee with
  |builtin b=>simp only[ir]at h; exact TX h
  |invoke rv m=>
   simp only[ir]at h
   split at h
   ·simp[RM.ae]at h
   rename_i g y cy
   have jc:=iZ bE args.toList
   split at h
   case h_2=>simp[RM.ae]at h
   rw[RM.run_bind]at h
   cases hq:(k6 C k g (y::args.toList.map (az s.fr))).run s.hp with
   |none=>rw[hq]at h; simp at h
   |some q=>
    obtain⟨res,wr⟩:=q
    rw[hq]at h
    simp only[Option.bind_some]at h
    cases res with
    |jS v=>simp[RM.ae]at h
    |val r=>
     simp only[RM.run_pure,Option.some.injEq]at h
     subst h
     obtain⟨vs',ma,aU⟩:=AX (w:=w) (o:=⟨dst,.call ⟨.invoke rv m,args,argTypes⟩,type,pos,after,guard⟩) rfl (bE rv) jc cy (AZ bL hq)
     have gT:=hP g _ s.hp _ wr hq E w vs' hs.inv ma
     refine xD rfl aU gT (fun v w' hp=>?_) (fun ch w' hp=>?_) (fun w' hp=>?_)
     ·obtain⟨E',hx,ig,hf,hr⟩:=hp
      exact hK E' w' v hx hf ig hr
     ·obtain⟨E',hx,ig,hf,hr⟩:=hp
      exact hr.elim
     ·obtain⟨E',hx,ig,hf,hr⟩:=hp
      exact hr.elim
  |value f=>
   simp only[ir]at h
   split at h
   ·simp[RM.ae]at h
   rename_i g vF cy
   have jc:=iZ bE args.toList
   split at h
   ·rename_i pj
    obtain⟨vs',ma,aU⟩:=eX (w:=w) (bE f) jc cy (zP bL h)
    refine qv (c:=⟨.value f,args,argTypes⟩) rfl rfl aU (zQ bL hF hs.inv (.inr (nT pj)) ma h) (fun v w' hp=>?_) (fun ch w' hp=>?_) (fun w' hp=>?_)
    ·obtain⟨v',jV,E',hx,ig,hf,hr⟩:=hp
     cases jV
     exact hK E' w' v hx hf ig hr
    ·obtain⟨v',jV,_⟩:=hp
     cases jV
    ·obtain⟨v',jV,_⟩:=hp
     cases jV
   split at h
   case h_2=>
    rename_i hk
    have fin : (∃ fn : Func, C.P.funcs[g]? = some fn ∧ fn.body.isSome = true ∧ (fn.name == "runtime.NumGoroutine") = false) ∧
      ∀ (vs:List Value),an E true vF vs→Calls C.P g vs.toArray w (bO E w (ak s.hp e.wr) (.val e.val)):=by
     split at h
     ·rename_i hh he
      obtain⟨⟨fn,h1,h2⟩,h3⟩:=bL.rb g hh vF s.hp e he h
      exact⟨⟨fn,h1,h2,bL.name g fn h1 h2⟩,fun vs hv=>h3 E w vs hs.inv hv⟩
     ·refine⟨MV bL h,fun vs hv=>?_⟩
      rw[ft (by assumption)]at h
      obtain⟨e0,gT⟩:=TY g hk g vF s.hp _ h E w vs hs.inv hv
      rw[e0]
      exact gT
    obtain⟨vs',ma,aU⟩:=eX (w:=w) (bE f) jc cy fin.1
    refine qv (c:=⟨.value f,args,argTypes⟩) rfl rfl aU (fin.2 vs' ma) (fun v w' hp=>?_) (fun ch w' hp=>?_) (fun w' hp=>?_)
    ·obtain⟨E',hx,ig,hf,hr⟩:=hp
     exact hK E' w' v hx hf ig hr
    ·obtain⟨E',hx,ig,hf,hr⟩:=hp
     exact hr.elim
    ·obtain⟨E',hx,ig,hf,hr⟩:=hp
     exact hr.elim
   rw[RM.run_bind]at h
   cases hq:(k6 C k g vF).run s.hp with
   |none=>rw[hq]at h; simp at h
   |some q=>
    obtain⟨res,wr⟩:=q
    rw[hq]at h
    simp only[Option.bind_some]at h
    cases res with
    |jS v=>simp[RM.ae]at h
    |val r=>
     simp only[RM.run_pure,Option.some.injEq]at h
     subst h
     obtain⟨vs',ma,aU⟩:=eX (w:=w) (bE f) jc cy (AZ bL hq)
     have gT:=hP g vF s.hp _ wr hq E w vs' hs.inv ma
     refine qv (c:=⟨.value f,args,argTypes⟩) rfl rfl aU gT (fun v w' hp=>?_) (fun ch w' hp=>?_) (fun w' hp=>?_)
     ·obtain⟨E',hx,ig,hf,hr⟩:=hp
      exact hK E' w' v hx hf ig hr
     ·obtain⟨E',hx,ig,hf,hr⟩:=hp
      exact hr.elim
     ·obtain⟨E',hx,ig,hf,hr⟩:=hp
      exact hr.elim
 |_=>simp only[ir]at h; exact TX h
theorem nA{I:Machine→Prop}{P:Program}{m m1 m2:Machine}(h:StepsIn I P m m2)(dK:m≠m2)(hs:step P m=.next m1):StepsIn I P m1 m2:=by
 cases h with
 |refl=>exact absurd rfl dK
 |head _ eV hr=>
  rw[hs]at eV
  cases eV
  exact hr
theorem mM{id:Nat}:∀ {k k':List Go.Item},exitTo id k=some k'→k'.length<k.length
 |[],k',h=>by simp[exitTo]at h
 |x::r,k',h=>by
  cases x with
  |inBlock IK=>
   simp only[exitTo]at h
   split at h
   ·simp_all
   ·have:=mM h; simp; omega
  |_=>simp only[exitTo]at h; have:=mM h; simp; omega
theorem Gj{b b':Frame}{a a':Act}{k k':List Go.Item}{cs:List Frame}{w w':World}(h:k.length≠k'.length):lone (b.atR a k) cs w≠lone (b'.atR a' k') cs w':=by
 intro e
 have h1:=congrArg (fun m:Machine=>(m.gs[0]?).map fun g=>g.frame.todo.length) e
 have h2:some k.length=some k'.length:=h1
 simp only[Option.some.injEq]at h2
 exact h h2
def rS:Go.Item→Bool
 |.code (.loop _)=>true
 |_=>false
theorem Ct{b b':Frame}{a a':Act}{k k':List Go.Item}{cs:List Frame}{w w':World}{c:Code}{x:Go.Item}(hx:rS x=false):lone (b.atR a (.code (.loop c)::k)) cs w≠lone (b'.atR a' (x::k')) cs w':=by
 intro e
 have h1:=congrArg (fun m:Machine=>(m.gs[0]?).map fun g=>(g.frame.todo.head?).map rS) e
 have h2:some (some true)=some (some (rS x)):=h1
 rw[hx]at h2
 simp at h2
theorem yV{F:Fence}{n:Nat}{P:Program}{c:Code}{Q:Exit→Act→World→Prop}{a:Act}{w:World}(hg:∀ l a w,¬Q (.goto l) a w)(ho:∀ a w,¬Q .outgrown a w)
  (h:c.wpIn F n P (Exit.then (fun a w=>(Code.loop c).wpIn F n P Q a w) Q) a w):(Code.loop c).wpIn F n P Q a w:=by
 intro b k cs dC hb hr
 have h0:(lone (b.atR a (.code (.loop c)::k)) cs w).fenced P F:=fenced_calm hb hr rfl
 obtain⟨e,a₁,w₁,hq,cJ⟩:=h b (.inLoop c::k) cs dC hb hr
 cases e with
 |normal=>
  obtain⟨e₂,a₂,w₂,wY,jU⟩:=hq b k cs dC hb hr
  have h1:(lone (b.atR a₁ (.inLoop c::k)) cs w₁).fenced P F:=fenced_calm hb hr rfl
  refine⟨e₂,a₂,w₂,wY,ArrivesIn.of_steps (StepsIn.head h0 stepR_loop (StepsIn.trans cJ (.one h1 stepR_inLoop))) ?_⟩
  have hs:step P (lone (b.atR a₁ (.code (.loop c)::k)) cs w₁)=.next (lone (b.atR a₁ (.code c::.inLoop c::k)) cs w₁):=stepR_loop
  cases e₂ with
  |normal=>exact nA jU (Gj (k:=.code (.loop c)::k) (k':=k) (by simp)) hs
  |exit id=>
   exact⟨fun k' hk=>nA (jU.1 k' hk) (Gj (k:=.code (.loop c)::k) (k':=k') (by have:=mM hk; simp; omega)) hs,
    fun lz hk=>by
     obtain⟨k₁,e1,e2⟩:=jU.2 lz hk
     exact⟨k₁,e1,nA e2 (Ct rfl) hs⟩⟩
  |goto l=>exact absurd wY (hg _ _ _)
  |ret=>
   refine⟨fun hn=>?_,fun hn=>?_⟩
   ·obtain⟨todo,h1⟩:=jU.1 hn
    refine⟨todo,nA h1 ?_ hs⟩
    intro e
    have h1:=congrArg (fun m:Machine=>(m.gs[0]?).map fun g=>(match g.frame.mode with|.run=>true|_=>false)) e
    have h2:some true=some false:=h1
    simp at h2
   ·obtain⟨k₁,h1⟩:=jU.2 hn
    exact⟨k₁,nA h1 (Ct rfl) hs⟩
  |panic ch=>
   obtain⟨todo,h1⟩:=jU
   refine⟨todo,nA h1 ?_ hs⟩
   intro e
   have h1:=congrArg (fun m:Machine=>(m.gs[0]?).map fun g=>(match g.frame.mode with|.run=>true|_=>false)) e
   have h2:some true=some false:=h1
   simp at h2
  |outgrown=>exact absurd wY (ho _ _)
 |exit id=>exact⟨_,a₁,w₁,hq,.of_steps (.one h0 stepR_loop) (.pass (x:=.inLoop c) rfl (fun _ _=>.inl (by simp)) cJ)⟩
 |goto l=>exact⟨_,a₁,w₁,hq,.of_steps (.one h0 stepR_loop) (.pass (x:=.inLoop c) rfl (fun _ _=>.inl (by simp)) cJ)⟩
 |ret=>exact⟨_,a₁,w₁,hq,.of_steps (.one h0 stepR_loop) (.pass (x:=.inLoop c) rfl (fun _ _=>.inl (by simp)) cJ)⟩
 |panic ch=>exact⟨_,a₁,w₁,hq,.of_steps (.one h0 stepR_loop) (.pass (x:=.inLoop c) rfl (fun _ _=>.inl (by simp)) cJ)⟩
 |outgrown=>exact⟨_,a₁,w₁,hq,.of_steps (.one h0 stepR_loop) (.pass (x:=.inLoop c) rfl (fun _ _=>.inl (by simp)) cJ)⟩
theorem MW[ab]{B:oK}{E:Env}{w:World}{o:Out}:∀ l a w',¬bo B E w o (.goto l) a w':=by
 rintro l a w' ⟨E',_,_,h⟩
 cases o<;>exact h
theorem Py[ab]{B:oK}{E:Env}{w:World}{o:Out}:∀ a w',¬bo B E w o .outgrown a w':=by
 rintro a w' ⟨E',_,_,h⟩
 cases o<;>exact h
theorem JX[ab]{C:Ctx}(bL:C.Ok){k:Nat}(hF:lI C k){B:oK}(RF:B.rg=true)(Ou:B.lb=none){E:Env}{s:St}{a:Act}{w:World}(hs:cG B E s a w){f:Operand}{ps:Array Tmp}{as bd:Code}{o:Out}
  (h:bQ C (k+1) (.rangeFunc f ps as bd) s=some o):(Code.rangeFunc f ps as bd).wpIn (WF none) 0 C.P (bo B E w o) a w:=by
 simp only[bQ]at h
 split at h
 case h_2=>simp at h
 rename_i g args cy
 split at h
 case h_2=>simp at h
 rename_i x wj bE
 refine wpIn_rangeFunc fun fn _=>?_
 have L2:Inv E s.hp (w.alloc (.deferred (some []))):=zJ hs.inv (fun b hb=>by simp only[World.alloc,Array.getElem?_push,if_neg (by omega:¬b=w.heap.size)]) (by simp)
 have Y6:Fr E w E (w.alloc (.deferred (some []))):=⟨rfl,rfl,rfl,by simp,fun b hb _=>by simp only[World.alloc,Array.getElem?_push,if_neg (by omega:¬b=w.heap.size)],fun _ h=>.inl h,fun _ _ h=>.inl h,fun b r hr=>⟨r,by have:=(Array.getElem?_eq_some_iff.1 hr).1; simp only[World.alloc,Array.getElem?_push,if_neg (by omega:¬b=w.heap.size)]; exact hr⟩⟩
 obtain⟨kC,qn,Ov⟩:=AG L2 (n:=s.hp.length) (.inl rfl) (k:=.loop s.fn ps as bd .ready) (ob:=.loop { state:=.ready,pending:=none,fn,tmps:=a.tmps,params:=ps,assign:=as,body:=bd,defers:=w.heap.size }) (us:=a.tmps.toList)
  ⟨rfl,rfl,rfl,⟨rfl,rfl⟩,rfl⟩ (uz (u:=cW as++cW bd) 0 _ _ hs.fr)
 have dU:setObj s.hp s.hp.length (.gf (.loop s.fn ps as bd .ready) (m9 (cW as++cW bd) 0 s.fr))=s.hp++[some (.gf (.loop s.fn ps as bd .ready) (tY as bd s.fr))]:=by simp[setObj,tY]
 rw[dU]at qn
 have kN:(w.alloc (.deferred (some []))).heap.size=w.heap.size+1:=by simp
 rw[kN]at kC qn Ov
 generalize QV:E.push s.hp.length 0 ⟨some (w.heap.size+1),1,0⟩=E2 at kC qn Ov
 have dc:E2.ρ s.hp.length 0=some ⟨some (w.heap.size+1),1,0⟩:=by rw[←QV]; simp[Env.push]
 have hL:s.hp.length<E2.L:=by rw[←QV]; simp only[Env.push]; omega
 have RG:∀ b,E2.own b→E.own b∨b=w.heap.size+1:=by
  intro b hb
  rw[←QV]at hb
  rcases hb with hb|hb
  ·exact .inl hb
  ·simp_all
 generalize hW:(w.alloc (.deferred (some []))).alloc (.loop { state:=.ready,pending:=none,fn,tmps:=a.tmps,params:=ps,assign:=as,body:=bd,defers:=w.heap.size })=w2 at qn Ov
 have Cp:=(gU hs.inv.jv hs.fr f).mono kC
 have hy:an E2 true [.mp true s.hp.length] [Value.func (.yield (w.heap.size+1)) #[] #[]]:=by
  simp_all[an,aj]
 obtain⟨MX,rP,iD⟩:=ux bE
 obtain⟨vs',ma,aU⟩:=eX (w:=w2) Cp hy cy ⟨MX,rP,iD,bL.name g MX rP iD⟩
 rw[Sem.run_bind]at aU
 cases MY:(Deferred.ofValue (a.eval f) #[Value.func (.yield (w.heap.size+1)) #[] #[]]).run C.P w2 with
 |halt x' w'=>
  have EL:(Deferred.ofValue (a.eval f) [Value.func (.yield (w.heap.size+1)) #[] #[]].toArray).run C.P w2=.halt x' w':=MY
  rw[EL]at aU
  simp[Result.andThen]at aU
 |ok d RI=>
  have EL:(Deferred.ofValue (a.eval f) [Value.func (.yield (w.heap.size+1)) #[] #[]].toArray).run C.P w2=.ok d RI:=MY
  rw[EL]at aU
  simp only[Result.andThen]at aU
  refine⟨w.heap.size+1,[{ target:=.collected w.heap.size,args:=#[] }],w2,d,RI,g,vs'.toArray,w2,?_,?_,fun _ _=>trivial,aU,fun h=>by simp[WF,Fence.wide]at h,?_⟩
  ·rw[←hW]
   exact run_enterLoop_outer fn a.tmps ps as bd
  ·simpa[resolve,rangeCall,Act.eval] using MY
  refine(wI (hF g args _ _ _ bE E2 w2 vs' qn ma) none _).mono fun e w3 cX=>?_
  cases e with
  |panicked ch=>obtain⟨_,_,_,_,hr⟩:=cX; exact hr.elim
  |outgrown=>obtain⟨_,_,_,_,hr⟩:=cX; exact hr.elim
  |returned v=>
   obtain⟨E3,L6,RJ,RK,_⟩:=cX
   have Cu:=L6.ρ _ hL 0 _ dc
   have after:∀ (st:kZ) (j:Option Code),ib wj s.hp.length=some st→(∀ s' p',st.is s' p'→s'≠.busy∧p'=j) →
     ∃ w4,(Instr.endLoop (w.heap.size+1)).run C.P w3=.ok j w4∧∃ E4,Ext E E4∧Fr E w E4 w4 ∧
       cG B E4 { s with hp:=rf wj s.hp.length } { a with defers:=[{ target:=.collected w.heap.size,args:=#[] }]++a.defers } w4:=by
    intro st j gJ hj
    obtain⟨Y7,Y8,Y9,Za,Zb,EH⟩:=iE gJ
    obtain⟨r3,u1,_,_,_,u5,_⟩:=n6 RJ EH Cu rfl
    obtain⟨j1,j2⟩:=hj _ _ u5
    subst j2
    obtain⟨c1,c2⟩:=Co RJ EH Cu rfl u1 (s':=.exhausted) (p':=r3.pending)
    have Pz:Fr E w E3 (w3.putObj (w.heap.size+1) (.loop { r3 with state:=.exhausted })):=((Y6.trans Ov).trans RK).trans c2
    refine⟨_,run_endLoop u1 j1,E3,kC.trans L6,Pz,⟨hs.fr.mono (kC.trans L6),c1,?_,Nat.le_trans hs.bs Pz.size⟩⟩
    obtain⟨rs,PA,U9,_,Va⟩:=hs.df.mono Pz
    have MZ:¬E2.own w.heap.size:=fun ho=>by
     rcases RG _ ho with h|h
     ·have:=hs.inv.oT _ h; omega
     ·omega
    have rT:w.heap.size<w2.heap.size:=by rw[←hW]; simp; omega
    have hold:∀ r∈rs,r<w.heap.size:=by
     intro r hr
     obtain⟨rs0,e1,_,_,e3⟩:=hs.df
     rw[e1]at PA
     have hm:∀ (l l':List Nat),l.map (fun r=>({ target:=.collected r,args:=#[] }:Deferred))=l'.map (fun r=>{ target:=.collected r,args:=#[] })→l=l':=by
      intro l
      induction l with
      |nil=>simp_all
      |cons y ys ih=>
       intro l' h
       cases l' with
       |nil=>simp at h
       |cons z zs=>
        grind
     have:=hm _ _ (List.append_cancel_right PA)
     subst this
     exact(Array.getElem?_eq_some_iff.1 (e3 r hr).2.2).1
    refine⟨w.heap.size::rs,by simp only[List.map_cons,List.cons_append,←PA]; rfl,List.nodup_cons.2 ⟨fun hm=>?_,U9⟩,⟨fun h=>(by rw[RF]at h; cases h),fun _ h=>(by rw[Ou]at h; cases h)⟩,fun r hr=>?_⟩
    ·have:=hold _ hm; omega
    ·rcases List.mem_cons.1 hr with rfl|hr
     ·refine⟨hs.bs,fun ho=>?_,?_⟩
      ·rcases RK.own _ ho with h|h
       ·exact MZ h
       ·omega
      ·rw[World.putObj_heap_other (by omega),RK.same _ rT MZ,←hW]
       show ((w.heap.push _).push _)[w.heap.size]?=_
       simp only[Array.getElem?_push,Array.size_push,if_true]
       rw[if_neg (by omega)]
     ·exact Va r hr
   unfold vk at h
   split at h
   ·rename_i gJ
    simp only[Option.some.injEq]at h
    subst h
    obtain⟨w4,h1,E4,h2,h3,h4⟩:=after _ none gJ (fun s' p' hp=>⟨by rw[hp.1]; simp,hp.2⟩)
    exact⟨none,w4,h1,E4,h2,h3,h4⟩
   ·rename_i gJ
    simp only[Option.some.injEq]at h
    subst h
    obtain⟨w4,h1,E4,h2,h3,h4⟩:=after _ (some .ret) gJ (fun s' p' hp=>⟨by rw[hp.1]; simp,hp.2⟩)
    exact⟨some .ret,w4,h1,wpIn_ret ⟨E4,h2,h3,h4⟩⟩
   ·rename_i id gJ
    simp only[Option.some.injEq]at h
    subst h
    obtain⟨w4,h1,E4,h2,h3,h4⟩:=after _ (some (.exit id)) gJ (fun s' p' hp=>⟨by rw[hp.1]; simp,hp.2⟩)
    exact⟨some (.exit id),w4,h1,wpIn_exit ⟨E4,h2,h3,rfl,h4⟩⟩
   ·simp at h
theorem A1{P:Program}{w:World}{l:Nat}{r:Loop}(h:w.heap[l]?=some (.loop r))(fn:FuncId)(tmps:Array Value)(ps:Array Tmp)(as bd:Code):(Instr.enterLoop fn tmps ps as bd (some l)).run P w =
  .ok (w.heap.size,[]) (w.alloc (.loop { state:=.ready,pending:=none,fn,tmps,params:=ps,assign:=as,body:=bd,defers:=r.defers })):=by
 unfold Instr.enterLoop
 simp only[Sem.run_bind,run_getLoop h,run_newObj_alloc,Result.andThen,Sem.run_pure]
theorem JY[ab]{C:Ctx}(bL:C.Ok){k:Nat}(hF:lI C k){B:oK}{bl:Nat}(Ou:B.lb=some bl){E:Env}{s:St}{a:Act}{w:World}(hs:cG B E s a w){f:Operand}{ps:Array Tmp}{as bd:Code}{o:Out}
  (h:bQ C (k+1) (.rangeFunc f ps as bd) s=some o):(Code.rangeFunc f ps as bd).wpIn (WF (some bl)) 0 C.P (bo B E w o) a w:=by
 simp only[bQ]at h
 split at h
 case h_2=>simp at h
 rename_i g args cy
 split at h
 case h_2=>simp at h
 rename_i x wj bE
 obtain⟨r0,DU⟩:∃ r0:Loop,w.heap[bl]?=some (.loop r0):=by
  obtain⟨_,_,_,⟨_,h2⟩,_⟩:=hs.df
  exact h2 bl Ou
 refine wpIn_rangeFunc fun fn _=>?_
 obtain⟨kC,qn,Ov⟩:=AG hs.inv (n:=s.hp.length) (.inl rfl) (k:=.loop s.fn ps as bd .ready) (ob:=.loop { state:=.ready,pending:=none,fn,tmps:=a.tmps,params:=ps,assign:=as,body:=bd,defers:=r0.defers }) (us:=a.tmps.toList)
  ⟨rfl,rfl,rfl,⟨rfl,rfl⟩,rfl⟩ (uz (u:=cW as++cW bd) 0 _ _ hs.fr)
 have dU:setObj s.hp s.hp.length (.gf (.loop s.fn ps as bd .ready) (m9 (cW as++cW bd) 0 s.fr))=s.hp++[some (.gf (.loop s.fn ps as bd .ready) (tY as bd s.fr))]:=by simp[setObj,tY]
 rw[dU]at qn
 generalize QV:E.push s.hp.length 0 ⟨some w.heap.size,1,0⟩=E2 at kC qn Ov
 have dc:E2.ρ s.hp.length 0=some ⟨some w.heap.size,1,0⟩:=by rw[←QV]; simp[Env.push]
 have hL:s.hp.length<E2.L:=by rw[←QV]; simp only[Env.push]; omega
 generalize hW:w.alloc (.loop { state:=.ready,pending:=none,fn,tmps:=a.tmps,params:=ps,assign:=as,body:=bd,defers:=r0.defers })=w2 at qn Ov
 have Cp:=(gU hs.inv.jv hs.fr f).mono kC
 have hy:an E2 true [.mp true s.hp.length] [Value.func (.yield w.heap.size) #[] #[]]:=by
  simp_all[an,aj]
 obtain⟨MX,rP,iD⟩:=ux bE
 obtain⟨vs',ma,aU⟩:=eX (w:=w2) Cp hy cy ⟨MX,rP,iD,bL.name g MX rP iD⟩
 rw[Sem.run_bind]at aU
 cases MY:(Deferred.ofValue (a.eval f) #[Value.func (.yield w.heap.size) #[] #[]]).run C.P w2 with
 |halt x' w'=>
  have EL:(Deferred.ofValue (a.eval f) [Value.func (.yield w.heap.size) #[] #[]].toArray).run C.P w2=.halt x' w':=MY
  rw[EL]at aU
  simp[Result.andThen]at aU
 |ok d RI=>
  have EL:(Deferred.ofValue (a.eval f) [Value.func (.yield w.heap.size) #[] #[]].toArray).run C.P w2=.ok d RI:=MY
  rw[EL]at aU
  simp only[Result.andThen]at aU
  refine⟨w.heap.size,[],w2,d,RI,g,vs'.toArray,w2,?_,?_,fun _ _=>trivial,aU,fun h=>by simp[WF,Fence.wide]at h,?_⟩
  ·rw[←hW]
   exact A1 DU fn a.tmps ps as bd
  ·simpa[resolve,rangeCall,Act.eval] using MY
  refine(wI (hF g args _ _ _ bE E2 w2 vs' qn ma) (some bl) _).mono fun e w3 cX=>?_
  cases e with
  |panicked ch=>obtain⟨_,_,_,_,hr⟩:=cX; exact hr.elim
  |outgrown=>obtain⟨_,_,_,_,hr⟩:=cX; exact hr.elim
  |returned v=>
   obtain⟨E3,L6,RJ,RK,_⟩:=cX
   have Cu:=L6.ρ _ hL 0 _ dc
   have after:∀ (st:kZ) (j:Option Code),ib wj s.hp.length=some st→(∀ s' p',st.is s' p'→s'≠.busy∧p'=j) →
     ∃ w4,(Instr.endLoop w.heap.size).run C.P w3=.ok j w4∧∃ E4,Ext E E4∧Fr E w E4 w4 ∧
       cG B E4 { s with hp:=rf wj s.hp.length } { a with defers:=[]++a.defers } w4:=by
    intro st j gJ hj
    obtain⟨Y7,Y8,Y9,Za,Zb,EH⟩:=iE gJ
    obtain⟨r3,u1,_,_,_,u5,_⟩:=n6 RJ EH Cu rfl
    obtain⟨j1,j2⟩:=hj _ _ u5
    subst j2
    obtain⟨c1,c2⟩:=Co RJ EH Cu rfl u1 (s':=.exhausted) (p':=r3.pending)
    have Pz:Fr E w E3 (w3.putObj w.heap.size (.loop { r3 with state:=.exhausted })):=(Ov.trans RK).trans c2
    exact⟨_,run_endLoop u1 j1,E3,kC.trans L6,Pz,⟨hs.fr.mono (kC.trans L6),c1,hs.df.mono Pz,Nat.le_trans hs.bs Pz.size⟩⟩
   unfold vk at h
   split at h
   ·rename_i gJ
    simp only[Option.some.injEq]at h
    subst h
    obtain⟨w4,h1,E4,h2,h3,h4⟩:=after _ none gJ (fun s' p' hp=>⟨by rw[hp.1]; simp,hp.2⟩)
    exact⟨none,w4,h1,E4,h2,h3,h4⟩
   ·rename_i gJ
    simp only[Option.some.injEq]at h
    subst h
    obtain⟨w4,h1,E4,h2,h3,h4⟩:=after _ (some .ret) gJ (fun s' p' hp=>⟨by rw[hp.1]; simp,hp.2⟩)
    exact⟨some .ret,w4,h1,wpIn_ret ⟨E4,h2,h3,h4⟩⟩
   ·rename_i id gJ
    simp only[Option.some.injEq]at h
    subst h
    obtain⟨w4,h1,E4,h2,h3,h4⟩:=after _ (some (.exit id)) gJ (fun s' p' hp=>⟨by rw[hp.1]; simp,hp.2⟩)
    exact⟨some (.exit id),w4,h1,wpIn_exit ⟨E4,h2,h3,rfl,h4⟩⟩
   ·simp at h
section
variable {ops:Array Oper}
theorem M0[ab]{P:Program}{Cv:Oper→St→Option Out}(dF:lJ P Cv)(tp:∀ o s r,Cv o s=some r→(∃ s',r=.norm s')∨∃ v s',r=.jS v s')(mu:kM 0 ops.toList=true){md:Region.Mode}
  (vB:pb md ops=true) {m:Nat} (vE:mH (bZ ops.toList) ops.size m=true) {Q:Exit→Act→World→Prop} {E0:Env} {w0:World} {B:oK} {r:Option Nat} {out:Out}
  (hQ:∀ s',out=.norm s'→∀ E a w,Ext E0 E→Fr E0 w0 E w→cG B E s' a w→Q .normal a w)
  (hP:∀ v s',out=.jS v s'→∀ E a w u,Ext E0 E→Fr E0 w0 E w→Inv E s'.hp w→aj E true v u→Marks B E w a.defers→Q (.panic [{ v:=u,recovered:=false }]) a w) :
  ∀ (t i:Nat) (aJ:Array Bool) (E:Env) (s:St) (a:Act) (w:World),i+t=ops.size→m≤i→aJ.size=ops.size→(∀ j,j<i→aJ.getD j true=true)→(∀ j,i≤j→j<ops.size→aJ.getD j true=false) →
    Ext E0 E→Fr E0 w0 E w→cG B E s a w→cE Cv ops (ops.toList.drop i) s=some out→wpAnyIn (WF r) 0 P md ops Q t aJ a w:=by
 intro t
 induction t with
 |zero=>
  intro i aJ E s a w Zc hm dL JZ M1 hx eT hs aU
  rw[List.drop_of_length_le (by simp; omega)]at aU
  simp only[cE,Option.some.injEq]at aU
  refine⟨?_,hQ s aU.symm E a w hx eT hs⟩
  unfold Region.ready
  rw[List.filter_eq_nil_iff]
  intro j hj hc
  simp only[List.mem_range]at hj
  rw[JZ j (by omega)]at hc
  simp at hc
 |succ t ih=>
  intro i aJ E s a w Zc hm dL JZ M1 hx eT hs aU
  have J0:i<ops.size:=by omega
  refine⟨fun xB=>absurd xB (Ch vB dL J0 (M1 i (Nat.le_refl _) J0)),fun j hj=>?_⟩
  have zH:∀ k o,ops[k]?=some o→aJ.getD k true=true→∀ p,rE (bZ ops.toList) k p=true→aJ.getD p false=true:=by
   intro k o hk hl p hp
   have UW:k<ops.size:=(Array.getElem?_eq_some_iff.1 hk).1
   have GZ:k<i:=by
    grind
   have TY:=MT mu hk hp
   have:=JZ p (by omega)
   rw[←tm (a:=aJ) (by omega) true false]
   exact this
  obtain⟨QN,QO,Zd⟩:=vC mu dL zH hj
  have Ze:j=i:=by
   rcases Nat.lt_trichotomy j i with h|h|h
   ·rw[JZ j h]at QO; cases QO
   ·exact h
   ·have:=Zd i (vD vE (by omega) QN h)
    have h2:=M1 i (Nat.le_refl _) J0
    rw[tm (by omega) true false]at h2
    rw[this]at h2; cases h2
  subst Ze
  obtain⟨o,ho⟩:∃ o,ops[j]?=some o:=⟨ops[j],by simp[J0]⟩
  have RN:ops.toList.drop j=o::ops.toList.drop (j+1):=by
   have hl:j<ops.toList.length:=by simpa using J0
   rw[List.drop_eq_getElem_cons hl]
   congr 1
   have:=(Array.getElem?_eq_some_iff.1 ho).2
   simpa using this
  rw[RN]at aU
  have dU:∀ q d,q≠j→(aJ.setIfInBounds j true).getD q d=aJ.getD q d:=by
   intro q d hq
   simp[Array.getD_eq_getD_getElem?,Ne.symm hq]
  have Ci:∀ d,(aJ.setIfInBounds j true).getD j d=true:=by
   simp_all
  have next:∀ (E':Env) (s':St) (a':Act) (w':World),Ext E0 E'→Fr E0 w0 E' w'→cG B E' s' a' w'→cE Cv ops (ops.toList.drop (j+1)) s'=some out →
    wpAnyIn (WF r) 0 P md ops Q t (aJ.setIfInBounds j true) a' w':=by
   intro E' s' a' w' gg JP eV lz
   refine ih (j+1) _ E' s' a' w' (by omega) (by omega) (by simpa using dL) (fun q hq=>?_) (fun q hq Zf=>?_) gg JP eV lz
   ·by_cases e:q=j
    ·subst e; exact Ci _
    ·rw[dU _ _ e]; exact JZ q (by omega)
   ·rw[dU _ _ (by omega)]; exact M1 q (by omega) Zf
  unfold wpOpIn
  rw[ho]
  simp only
  simp only[cE]at aU
  split at aU
  ·simp at aU
  ·rename_i hw
   rw[k9 hs.fr hw]
   simp only[Bool.false_eq_true,if_false]
   exact⟨fun _ _=>trivial,next E { s with fr:=bC s.fr o.dst .undef } _ w hx eT ⟨gl hs.fr (by simp[aj]),hs.inv,by rw[put_defers]; exact hs.df,hs.bs⟩ aU⟩
  ·rename_i hw
   rw[k9 hs.fr hw]
   simp only[if_true]
   cases hq:Cv o s with
   |none=>rw[hq]at aU; simp at aU
   |some q=>
    rw[hq]at aU
    refine dF o s q hq r B E a w _ Q hs (fun s' e E' a' w' gg FV eV=>?_) (fun v s' e E' w' u gg FV ig hr=>?_)
    ·subst e
     exact next E' s' a' w' (hx.trans gg) (eT.trans FV) eV aU
    ·subst e
     simp only[Option.some.injEq]at aU
     exact hP v s' aU.symm E' a w' u (hx.trans gg) (eT.trans FV) ig hr (hs.df.mono FV)
end
def xF[ab](C:Ctx)(k:Nat):Prop:=
 ∀ id ops draw s o,bQ C k (.region id ops draw) s=some o→∀ (rd:Option Nat) (B:oK) (E:Env) (a:Act) (w:World),cG B E s a w →
   (draw=false→wpOpsIn (WF rd) 0 C.P ops (bo B E w o) (List.range ops.size) a w) ∧
   (draw=true→∀ t,wpOpsIn (WF rd) 0 C.P ops (bo B E w o) (Region.schedule (C.P.follows .mixedOrders) ops t) a { w with drawn:=w.drawn+1 })
theorem vJ[ab]{C:Ctx}{k:Nat}(hO:lJ C.P (fun o s=>fF C k o s))(hE:rM C.P (fun nm o fr=>ir C k nm o fr)):xF C (k+1):=by
 intro id ops draw s o h rd B E a w hs
 simp only[bQ]at h
 cases draw with
 |false=>
  refine⟨fun _=>?_,fun h=>by cases h⟩
  rw[List.range_eq_range',←Array.length_toList,wpOpsIn_eq_wpListIn ops.toList 0 (by simp)]
  exact qu hO (fun o s r h=>nB h) rd B ops.toList _ o h E E a w w (Ext.refl E) (Fr.refl E w) (uy _ hs)
 |true=>
  simp only at h
  have RQ:C.head s.fn id ops≤ops.size:=Nat.sub_le _ _
  generalize C.head s.fn id ops=m at h RQ
  have ny:=uy (C.iq s.fn id) hs
  rw[←rR (C.iq s.fn id) s]at h
  clear hs
  generalize gF (C.iq s.fn id) s=s at h ny
  have hs:=ny
  split at h
  case isFalse=>simp at h
  rename_i M3
  simp only[sO,Bool.and_eq_true]at M3
  obtain⟨⟨⟨⟨mu,Hn⟩,XC⟩,hgc⟩,PB⟩:=M3
  split at h
  case h_2=>simp at h
  rename_i s' fs aU
  split at h
  case isFalse=>simp at h
  rename_i TZ
  rw[Bool.and_eq_true]at TZ
  obtain⟨RR,vE⟩:=TZ
  suffices key:∀ md:Region.Mode,pb md ops=true→∀ t,wpOpsIn (WF rd) 0 C.P ops (bo B E w o) (Region.linearise md ops t) a { w with drawn:=w.drawn+1 } by
   refine⟨fun h=>by (cases h),fun _ t=>?_⟩
   unfold Region.schedule
   split
   ·exact key .any Hn t
   ·grind
  intro md vB t
  refine wpAnyIn_sound _ _ _ _ _ ?_
  let s0:St:={ s with hp:=s.hp++List.replicate ((ops.toList.take m).filter fun o=>au o.op).length none }
  obtain⟨r1,r2,r3⟩:=ED hs.inv ((ops.toList.take m).filter fun o=>au o.op).length
  have L2:Inv (E.gn ((ops.toList.take m).filter fun o=>au o.op).length) s0.hp { w with drawn:=w.drawn+1 }:=r2.heap rfl
  have rP:Fr E w (E.gn ((ops.toList.take m).filter fun o=>au o.op).length) { w with drawn:=w.drawn+1 }:=r3.trans (Fr.drew _ w)
  have RT:=pG _ _ _ _ aU
  have uA:∀ (k:Nat) (x:Item),(bD 0 s.hp.length (ops.toList.take m))[k]?=some x→x.idx=k∧ops[k]?=some x.o∧k<m:=by
   intro k x hk
   obtain⟨a1,a2,_,_⟩:=kU _ _ _ _ _ hk
   have XD:k<m:=by
    grind
   rw[List.getElem?_take_of_lt XD]at a2
   exact⟨by omega,by simpa using a2,XD⟩
  have RU:ops.size=m+(ops.size-m):=by omega
  refine Eq.mpr (congrArg (fun fl=>wpAnyIn (WF rd) 0 C.P md ops (bo B E w o) fl _ _ _) RU) ?_
  refine JN (P:=C.P) Ht hE mu vB RQ vE (s':=s') (E0:=E) (w0:=w) (B:=B) (fun E' a' w' aJ b1 b2 b3 b4 b5 b6=>
   M0 hO (fun o s r h=>nB h) mu vB vE (fun tV e E2 a2 w2 c1 c2 c3=>by subst e; exact⟨E2,c1,c2,c3⟩)
    (fun v tV e E2 a2 w2 u c1 c2 c3 c4 c5=>by subst e; exact⟨E2,c1,c2,u,rfl,c4,c3,c5⟩) (ops.size-m) m aJ E' s' a' w' (by omega) (Nat.le_refl _) b4 b5 b6 b1 b2 b3 h) m (bD 0 s.hp.length (ops.toList.take m))
   _ fs _ s0 a _ (by rw[lH]; simp; omega) ?_
   r1 rP ⟨hs.fr.mono r1,L2,hs.df.mono rP,hs.bs⟩ ?_ aU ?_
  ·refine⟨by simp,fun x hx=>?_,?_,fun i hi _ Xx=>?_,fun i _ hi=>?_,fun i o ho hl=>?_,?_⟩
   ·obtain⟨k,hk⟩:=List.mem_iff_getElem?.1 hx
    obtain⟨a1,a2,a3⟩:=uA k x hk
    have bS:k<ops.size:=(Array.getElem?_eq_some_iff.1 a2).1
    rw[a1]
    refine⟨a2,?_,a3⟩
    simp[Array.getD,bS]
   ·rw[List.pairwise_iff_getElem]
    intro i j hi hj L1
    have a1:=(uA i _ (List.getElem?_eq_getElem hi)).1
    have a2:=(uA j _ (List.getElem?_eq_getElem hj)).1
    omega
   ·have wk:i<(bD 0 s.hp.length (ops.toList.take m)).length:=by rw[lH]; simp; omega
    exact⟨_,List.getElem_mem wk,(uA i _ (List.getElem?_eq_getElem wk)).1⟩
   ·simp[Array.getD,hi]
   ·have bS:i<ops.size:=(Array.getElem?_eq_some_iff.1 ho).1
    simp[Array.getD,bS]at hl
   ·rw[List.pairwise_iff_getElem]
    intro i j hi hj L1 ha
    exact xA _ _ _ i j _ _ L1 (List.getElem?_eq_getElem hi) (List.getElem?_eq_getElem hj) ha
  ·intro x hx ha
   obtain⟨k,hk⟩:=List.mem_iff_getElem?.1 hx
   obtain⟨_,_,a3,a4⟩:=kU _ _ _ _ _ hk
   have a5:=a4 ha
   simp only[s0]
   rw[List.getElem?_append_right a3,List.getElem?_replicate,if_pos (by omega)]
  ·intro j k x y f g MS hx hy hf hg
   obtain⟨a1,a2,_⟩:=uA j x hx
   obtain⟨b1,b2,_⟩:=uA k y hy
   have XE:=tk fs RR j k f g MS hf hg
   have Iy:f.idx=j:=by
    have:(fs.map (·.idx))[j]?=some f.idx:=by simp[hf]
    rw[RT]at this
    simp[hx,a1]at this
    exact this.symm
   have Zg:g.idx=k:=by
    have:(fs.map (·.idx))[k]?=some g.idx:=by simp[hg]
    rw[RT]at this
    simp[hy,b1]at this
    exact this.symm
   rcases tj ops.toList 0 PB j k x.o y.o MS (by simpa using a2) (by simpa using b2) with hp|hp
   ·left; rw[a1,b1]; simpa using hp
   ·simp only[rF,Bool.or_eq_true,Bool.and_eq_true]at XE
    rcases XE with hq|⟨h1,h2⟩
    ·left; rw[Iy,Zg]at hq; rw[a1,b1]; exact hq
    ·right
     refine⟨hp,fun n hn=>?_,fun n hn=>zN h2 n hn⟩
     have:=zN h1 n hn
     simpa using this
theorem Cw[ab]{C:Ctx}(bL:C.Ok){k:Nat}(hF:lI C k)(EM:∀ j,j≤k→fu C j)(hO:lJ C.P (fun o s=>fF C k o s))(hE:rM C.P (fun nm o fr=>ir C k nm o fr)):fu C (k+1):=by
 have hC:=EM k (Nat.le_refl k)
 intro c s o h rd B L7 E a w hs
 have self:bo B E w (.norm s) .normal a w:=⟨E,Ext.refl E,Fr.refl E w,hs⟩
 cases c with
 |skip=>simp only[bQ,Option.some.injEq]at h; subst h; exact wpIn_skip self
 |label l=>simp only[bQ,Option.some.injEq]at h; subst h; exact wpIn_label self
 |ret=>simp only[bQ,Option.some.injEq]at h; subst h; exact wpIn_ret ⟨E,Ext.refl E,Fr.refl E w,hs⟩
 |exit id=>simp only[bQ,Option.some.injEq]at h; subst h; exact wpIn_exit ⟨E,Ext.refl E,Fr.refl E w,rfl,hs⟩
 |seq x y=>
  simp only[bQ]at h
  have r1:(rd=B.lb∧B.rg=true)∨cx x=true:=L7.imp id fun h=>by simp only[cx,Bool.and_eq_true]at h; exact h.1
  have r2:(rd=B.lb∧B.rg=true)∨cx y=true:=L7.imp id fun h=>by simp only[cx,Bool.and_eq_true]at h; exact h.2
  refine wpIn_seq ?_
  split at h
  ·rename_i s' hx
   refine wpIn_mono (hC x s _ hx rd B r1 E a w hs) fun e a' w' hp=>?_
   obtain⟨E',h1,h2,h3⟩:=hp
   cases e with
   |normal=>exact wpIn_mono (hC y s' o h rd B r2 E' a' w' h3) fun e T2 wX hp=>bo.from h1 h2 hp
   |_=>exact h3.elim
  ·rename_i dK
   refine wpIn_mono (hC x s o h rd B r1 E a w hs) fun e a' w' hp=>?_
   obtain⟨E',h1,h2,h3⟩:=hp
   cases e with
   |normal=>
    cases o with
    |norm s'=>exact absurd h (dK s')
    |_=>exact h3.elim
   |_=>exact⟨E',h1,h2,h3⟩
 |cond op x y=>
  simp only[bQ]at h
  have r1:(rd=B.lb∧B.rg=true)∨cx x=true:=L7.imp id fun h=>by simp only[cx,Bool.and_eq_true]at h; exact h.1
  have r2:(rd=B.lb∧B.rg=true)∨cx y=true:=L7.imp id fun h=>by simp only[cx,Bool.and_eq_true]at h; exact h.2
  split at h
  case h_2=>simp at h
  rename_i t ht
  have hv:=gU hs.inv.jv hs.fr op
  rw[ht]at hv
  simp only[aj]at hv
  cases t with
  |true=>exact wpIn_cond_true hv (hC x s o h rd B r1 E a w hs)
  |false=>exact wpIn_cond_false hv (hC y s o h rd B r2 E a w hs)
 |block id b=>
  simp only[bQ]at h
  have r1:(rd=B.lb∧B.rg=true)∨cx b=true:=L7.imp (fun h=>h) fun h=>by simpa only[cx] using h
  refine wpIn_block ?_
  split at h
  ·rename_i IK s' hx
   refine wpIn_mono (hC b s _ hx rd B r1 E a w hs) fun e a' w' hp=>?_
   obtain⟨E',h1,h2,h3⟩:=hp
   cases e with
   |exit j=>
    obtain⟨rfl,h3⟩:=h3
    simp only[Exit.inBlock]
    split at h
    ·rename_i Vb
     rw[if_pos Vb]
     simp only[Option.some.injEq]at h; subst h
     exact⟨E',h1,h2,h3⟩
    ·rename_i Vb
     rw[if_neg Vb]
     simp only[Option.some.injEq]at h; subst h
     exact⟨E',h1,h2,rfl,h3⟩
   |_=>exact h3.elim
  ·rename_i dK
   refine wpIn_mono (hC b s o h rd B r1 E a w hs) fun e a' w' hp=>?_
   obtain⟨E',h1,h2,h3⟩:=hp
   cases e with
   |exit j=>
    cases o with
    |exit i s'=>exact absurd h (dK i s')
    |_=>exact h3.elim
   |_=>exact⟨E',h1,h2,h3⟩
 |loop b=>
  simp only[bQ]at h
  have r1:(rd=B.lb∧B.rg=true)∨cx b=true:=L7.imp (fun h=>h) fun h=>by simpa only[cx] using h
  refine yV MW Py ?_
  split at h
  ·rename_i s' hx
   refine wpIn_mono (hC b s _ hx rd B r1 E a w hs) fun e a' w' hp=>?_
   obtain⟨E',h1,h2,h3⟩:=hp
   cases e with
   |normal=>
    have Ol:cG B E' s' a' w':=h3
    have:∃ E2,Ext E E2∧Fr E w E2 w'∧cG B E2 (gG s.hp.length s') a' w':=by
     unfold gG
     split
     ·rename_i bg
      have hle:s.hp.length≤s'.hp.length:=by rw[hs.inv.len,Ol.inv.len]; exact h1.L
      obtain⟨a1,a2,a3⟩:=tn Ol.inv hle bg
      exact⟨E'.lower s.hp.length,⟨h1.m,fun n hn aq l h=>h1.ρ n hn aq l h,by simp[Env.lower,hs.inv.len]⟩,h2.trans a2,rO a3 Ol.fr,a1,Ol.df.mono a2,Ol.bs⟩
     ·exact⟨E',h1,h2,Ol⟩
    obtain⟨E2,b1,b2,b3⟩:=this
    exact wpIn_mono (hC (.loop b) _ o h rd B L7 E2 a' w' b3) fun e T2 wX hp=>bo.from b1 b2 hp
   |_=>exact h3.elim
  ·rename_i dK
   refine wpIn_mono (hC b s o h rd B r1 E a w hs) fun e a' w' hp=>?_
   obtain⟨E',h1,h2,h3⟩:=hp
   cases e with
   |normal=>
    cases o with
    |norm s'=>exact absurd h (dK s')
    |_=>exact h3.elim
   |_=>exact⟨E',h1,h2,h3⟩
 |region id ops draw=>
  have hr:=vJ hO hE id ops draw s o h rd B E a w hs
  cases draw with
  |false=>exact wpIn_region (hr.1 rfl)
  |true=>exact wpIn_region_draw fun t=>hr.2 rfl t
 |rangeFunc f ps as bd=>
  rcases L7 with ⟨rfl,RW⟩|L7
  ·cases Ou:B.lb with
   |none=>exact JX bL hF RW Ou hs h
   |some b=>exact JY bL hF Ou hs h
  ·simp[cx]at L7
 |scope b=>
  simp only[bQ]at h
  split at h
  ·rename_i c hc
   exact J1 EM hs hc h
  ·simp at h
 |goto _=>simp[bQ]at h
 |refuse _=>simp[bQ]at h
theorem EN{F:Fence}{n:Nat}{P:Program}{o:Oper}{a:Act}{w:World}{K N:Act→World→Prop}{Q:Exit→Act→World→Prop}(h:o.wpIn F n P a w K (Exit.then N Q)):o.wpIn F n P a w K Q:=by
 unfold Oper.wpIn at *
 refine⟨h.1,?_⟩
 have h2:=h.2
 generalize (o.semAt F.round a.eval).run P w=r at *
 cases r with
 |ok x w'=>cases x<;>exact h2
 |halt x w'=>cases x<;>exact h2
theorem rU{F:Fence}{n:Nat}{P:Program}{ops:Array Oper}{Q:Exit→Act→World→Prop}{l2:List Oper}:∀ (l1:List Oper) (a:Act) (w:World),wpListIn F n P ops (Exit.then (wpListIn F n P ops Q l2) Q) l1 a w→wpListIn F n P ops Q (l1++l2) a w
 |[],a,w,h=>h
 |o::l1,a,w,h=>by
  simp only[List.cons_append]
  unfold wpListIn at h ⊢
  split at h
  ·rename_i hw
   rw[if_pos hw]
   exact EN (Oper.wpIn_mono (fun a w h=>rU l1 a w h) h)
  ·rename_i hw
   rw[if_neg hw]
   exact⟨h.1,rU l1 _ _ h.2⟩
theorem pI{F:Fence}{n:Nat}{P:Program}{ops:Array Oper}{Q Q':Exit→Act→World→Prop}(hq:∀ e a w,Q e a w→Q' e a w):∀ (l:List Oper) (a:Act) (w:World),wpListIn F n P ops Q l a w→wpListIn F n P ops Q' l a w
 |[],a,w,h=>hq _ _ _ h
 |o::l,a,w,h=>by
  unfold wpListIn at h ⊢
  split at h
  ·rename_i hw
   rw[if_pos hw]
   have h1:=Oper.wpIn_mono (fun a w h=>pI hq l a w h) h
   unfold Oper.wpIn at *
   refine⟨h1.1,?_⟩
   have h2:=h1.2
   generalize (o.semAt F.round a.eval).run P w=r at *
   cases r with
   |ok x w'=>
    cases x<;>simp only[Oper.uponIn]at h2 ⊢<;>first
     |exact h2
     |exact⟨h2.1,CallsIn.mono h2.2 (fun e wX he=>by cases e<;>first|exact he|exact hq _ _ _ he|exact(let ⟨a0,w0,h0⟩:=he; ⟨a0,w0,hq _ _ _ h0⟩))⟩
     |exact⟨h2.1,RoundIn.mono h2.2 (fun e wX he=>by cases e<;>first|exact he|exact hq _ _ _ he|exact(let ⟨a0,w0,h0⟩:=he; ⟨a0,w0,hq _ _ _ h0⟩))⟩
   |halt x w'=>cases x<;>simp only[Oper.uponIn]at h2 ⊢<;>first|exact h2|exact hq _ _ _ h2
  ·rename_i hw
   rw[if_neg hw]
   exact⟨h.1,pI hq l _ _ h.2⟩
theorem EO{c:Code}{ops:Array Oper}{v:Operand}(h:sP c=some (ops,v)):∃ (id:Nat) (o:Oper) (mh:Array TypeId),c=.region id ops false∧ops.toList=ops.toList.dropLast++[o]∧o.op=.defer { callee:=.value v,args:=#[],argTypes:=mh }∧o.guard=none∧o.dst=none:=by
 unfold sP at h
 split at h
 ·rename_i id Vc
  split at h
  ·rename_i o ho
   split at h
   ·rename_i cc DN hg PC
    split at h
    ·rename_i x L5 kC
     simp only[Option.some.injEq,Prod.mk.injEq]at h
     obtain⟨rfl,rfl⟩:=h
     obtain⟨c1,c2,c3⟩:=cc
     simp only at L5 kC
     subst L5
     obtain rfl:=Array.toList_eq_nil_iff.1 kC
     refine⟨id,o,c3,rfl,?_,DN,hg,PC⟩
     have dK:Vc.toList≠[]:=by intro e; rw[e]at ho; simp at ho
     rw[List.getLast?_eq_some_getLast dK,Option.some.injEq]at ho
     rw[←ho]
     exact(List.dropLast_concat_getLast dK).symm
    ·simp at h
   ·simp at h
  ·simp at h
 ·simp at h
def RX[ab](C:Ctx)(E:Env)(v:AV)(d:Deferred):Prop:=∃ f:Value,aj E true v f∧∀ w,(Deferred.ofValue f #[]).run C.P w=.ok d w
def tq[ab](C:Ctx)(B:oK)(E:Env)(w:World)(o:Out):Option AV→Exit→Act→World→Prop
 |none,e,a',w'=>bo B E w o e a' w'
 |some v,e,a',w'=>∃ E1 E2 w1 d,Ext E E1∧Fr E w E1 w1∧RX C E1 v d∧Ext E1 E2∧Fr E1 w1 E2 w'∧JR { B with tl:=d::B.tl } E2 o e a' w'
theorem pJ{E:Env}{fv:AV}{f:Value}{g:FuncId}{as:List AV}(hf:aj E true fv f)(h:bA fv []=some (g,as)):∃ first cap,f=.func (.func g) first cap:=by
 cases fv with
 |lit u=>
  simp only[aj]at hf
  subst hf
  unfold bA at h
  split at h
  ·rename_i hq
   simp only[AV.lit.injEq]at hq
   simp only[Option.some.injEq,Prod.mk.injEq]at h
   obtain⟨rfl,_⟩:=h
   exact⟨_,_,hq⟩
  ·rename_i hq; cases hq
  ·simp at h
 |iR fn first cap=>
  unfold bA at h
  split at h
  ·rename_i hq; cases hq
  ·rename_i hq
   simp only[AV.iR.injEq]at hq
   obtain⟨rfl,rfl,rfl⟩:=hq
   simp only[Option.some.injEq,Prod.mk.injEq]at h
   obtain⟨rfl,_⟩:=h
   simp only[aj]at hf
   obtain⟨vs,ws,rfl,_⟩:=hf
   exact⟨_,_,rfl⟩
  ·simp at h
 |_=>simp[bA]at h
theorem tq.from[ab]{C:Ctx}{B:oK}{E E1:Env}{w w1:World}{o:Out}{d:Option AV}{e:Exit}{a:Act}{w':World}(hx:Ext E E1)(hf:Fr E w E1 w1)(h:tq C B E1 w1 o d e a w'):tq C B E w o d e a w':=by
 cases d with
 |none=>exact bo.from hx hf h
 |some v=>
  obtain⟨E2,E3,w2,d,h1,h2,h3⟩:=h
  exact⟨E2,E3,w2,d,hx.trans h1,hf.trans h2,h3⟩
theorem EP[ab]{C:Ctx}{k:Nat}(hC:fu C k)(hO:lJ C.P (fun o s=>fF C k o s)):∀ (c:Code) (s:St) (o:Out) (d:Option AV),cx c=true→ze (fun c s=>bQ C k c s) (fun o s=>fF C k o s) c s=some (o,d) →
  ∀ (B:oK) (E:Env) (a:Act) (w:World),B.rg=false→cG B E s a w→c.wpIn (WF none) 0 C.P (tq C B E w o d) a w:=by
 have leaf:∀ c s o d,cx c=true→((bQ C k c s).map fun o=>(o,(none:Option AV)))=some (o,d)→∀ (B:oK) (E:Env) (a:Act) (w:World),B.rg=false→cG B E s a w→c.wpIn (WF none) 0 C.P (tq C B E w o d) a w:=by
  intro c s o d hn h B E a w RF hs
  cases hq:bQ C k c s with
  |none=>rw[hq]at h; simp at h
  |some o1=>
   rw[hq]at h
   simp only[Option.map_some,Option.some.injEq,Prod.mk.injEq]at h
   obtain⟨rfl,rfl⟩:=h
   exact hC c s o1 hq none B (.inr hn) E a w hs
 intro c
 induction c with
 |seq x y _ Jc=>
  intro s o d hn h B E a w RF hs
  simp only[cx,Bool.and_eq_true]at hn
  simp only[ze]at h
  refine wpIn_seq ?_
  cases hd:sP x with
  |some q=>
   obtain⟨ops,v⟩:=q
   rw[hd]at h
   simp only at h
   obtain⟨id,o0,mh,rfl,Vd,DN,hg,PC⟩:=EO hd
   split at h
   case h_2=>simp at h
   rename_i s1 hr
   split at h
   case h_2=>simp at h
   rename_i q cy
   obtain⟨g,as⟩:=q
   cases hq:bQ C k y s1 with
   |none=>rw[hq]at h; simp at h
   |some o1=>
    rw[hq]at h
    simp only[Option.map_some,Option.some.injEq,Prod.mk.injEq]at h
    obtain⟨rfl,rfl⟩:=h
    refine wpIn_region_list ?_
    rw[Vd]
    refine rU _ _ _ (pI ?_ _ _ _ (qu hO (fun o s r h=>nB h) none B _ _ _ hr E E a w w (Ext.refl E) (Fr.refl E w) hs))
    intro e a1 w1 hp
    obtain⟨E1,L5,rP,Hr⟩:=hp
    cases e with
    |normal=>
     have ny:cG B E1 s1 a1 w1:=Hr
     have hv:=gU ny.inv.jv ny.fr v
     obtain⟨first,cap,Cp⟩:=pJ hv cy
     have aU:∀ w,(Deferred.ofValue (a1.eval v) #[]).run C.P w=.ok { target:=.fn (.func g) cap,args:=first++#[] } w:=by
      intro w; rw[Cp]; rfl
     show wpListIn (WF none) 0 C.P ops _ [o0] a1 w1
     unfold wpListIn
     rw[if_pos (by unfold Region.wanted; rw[hg])]
     refine⟨fun _ _=>trivial,?_⟩
     have Px:(o0.semAt (WF none).round a1.eval).run C.P w1=.ok (.defer { target:=.fn (.func g) cap,args:=first++#[] }) w1:=by
      show (execOp a1.eval o0).run C.P w1=_
      unfold execOp
      rw[DN]
      simp only[resolve,Sem.run_bind]
      rw[show (Array.map a1.eval #[]:Array Value)=#[] by simp,aU]
      rfl
     rw[Px,Oper.uponIn_defer,PC]
     have AJ:cG { B with tl:={ target:=.fn (.func g) cap,args:=first++#[] }::B.tl } E1 s1 { a1 with defers:={ target:=.fn (.func g) cap,args:=first++#[] }::a1.defers } w1:=by
      refine⟨ny.fr,ny.inv,?_,ny.bs⟩
      obtain⟨rs,e1,e2,e3,e4⟩:=ny.df
      have:=e3.1 RF
      subst this
      exact⟨[],by simp only[List.map_nil,List.nil_append]at e1 ⊢; rw[e1],List.nodup_nil,⟨fun _=>rfl,e3.2⟩,by simp⟩
     refine wpIn_mono (hC y s1 o1 hq none _ (.inr hn.2) E1 _ w1 AJ) fun e a2 w2 hp=>?_
     obtain⟨E2,kC,iD,uv⟩:=hp
     exact⟨E1,E2,w1,_,L5,rP,⟨_,hv,aU⟩,kC,iD,uv⟩
    |_=>exact Hr.elim
  |none=>
   rw[hd]at h
   simp only at h
   split at h
   ·rename_i s' hx
    refine wpIn_mono (hC x s _ hx none B (.inr hn.1) E a w hs) fun e a' w' hp=>?_
    obtain⟨E',h1,h2,h3⟩:=hp
    cases e with
    |normal=>exact wpIn_mono (Jc s' o d hn.2 h B E' a' w' RF h3) fun e T2 wX hp=>tq.from h1 h2 hp
    |_=>exact h3.elim
   ·rename_i o1 dK hx
    simp only[Option.some.injEq,Prod.mk.injEq]at h
    obtain⟨rfl,rfl⟩:=h
    refine wpIn_mono (hC x s o1 hx none B (.inr hn.1) E a w hs) fun e a' w' hp=>?_
    obtain⟨E',h1,h2,h3⟩:=hp
    cases e with
    |normal=>
     cases o1 with
     |norm s'=>exact(dK s' rfl).elim
     |_=>exact h3.elim
    |_=>exact⟨E',h1,h2,h3⟩
   ·simp at h
 |_=>intro s o d hn h; simp only[ze]at h; exact leaf _ s o d hn h
theorem lK{F:Fence}{n:Nat}{P:Program}{ops:Array Oper}{Q Q':Exit→Act→World→Prop}(hq:∀ e a w,Q e a w→Q' e a w):∀ (l:List Nat) (a:Act) (w:World),wpOpsIn F n P ops Q l a w→wpOpsIn F n P ops Q' l a w
 |[],a,w,h=>hq _ _ _ h
 |i::l,a,w,h=>by
  unfold wpOpsIn at h ⊢
  split at h
  ·exact lK hq l a w h
  rename_i o ho
  split at h
  ·rename_i hw
   simp only[if_pos hw]
   have h1:=Oper.wpIn_mono (fun a w h=>lK hq l a w h) h
   unfold Oper.wpIn at *
   refine⟨h1.1,?_⟩
   have h2:=h1.2
   generalize (o.semAt F.round a.eval).run P w=r at *
   cases r with
   |ok x w'=>
    cases x<;>simp only[Oper.uponIn]at h2 ⊢<;>first
     |exact h2
     |exact⟨h2.1,CallsIn.mono h2.2 (fun e wX he=>by cases e<;>first|exact he|exact hq _ _ _ he|exact(let ⟨a0,w0,h0⟩:=he; ⟨a0,w0,hq _ _ _ h0⟩))⟩
     |exact⟨h2.1,RoundIn.mono h2.2 (fun e wX he=>by cases e<;>first|exact he|exact hq _ _ _ he|exact(let ⟨a0,w0,h0⟩:=he; ⟨a0,w0,hq _ _ _ h0⟩))⟩
   |halt x w'=>cases x<;>simp only[Oper.uponIn]at h2 ⊢<;>first|exact h2|exact hq _ _ _ h2
  ·rename_i hw
   simp only[if_neg hw]
   exact⟨h.1,lK hq l _ _ h.2⟩
theorem Cx(ops:Array Oper)(i:Nat)(f:Array Edge→Bool):(((ops.map dD)[i]?).map fun o=>f o.after)=(ops[i]?).map fun o=>f o.after:=by
 rw[Array.getElem?_map]
 cases ops[i]? with
 |none=>rfl
 |some o=>simp only[Option.map_some,(lu o).2.2]
theorem oM(md:Region.Mode)(ops:Array Oper)(t:Nat):Region.linearise md (ops.map dD) t=Region.linearise md ops t:=by
 unfold Region.linearise
 rw[Array.size_map]
 generalize Array.replicate ops.size false=aJ
 generalize ([]:List Nat)=acc
 generalize ops.size=fuel
 induction fuel generalizing t aJ acc with
 |zero=>rfl
 |succ fuel ih=>
  have hr:((List.range (ops.map dD).size).filter fun i=>!aJ.getD i true&&(((ops.map dD)[i]?).map (·.after.all fun e=>!Region.binds md e||aJ.getD e.on false)).getD false) =
    ((List.range ops.size).filter fun i=>!aJ.getD i true&&((ops[i]?).map (·.after.all fun e=>!Region.binds md e||aJ.getD e.on false)).getD false):=by
   rw[Array.size_map]
   congr 1
   funext i
   rw[Cx ops i (fun a=>a.all fun e=>!Region.binds md e||aJ.getD e.on false)]
  simp only[Region.linearise.go]
  rw[hr]
  split
  ·exact ih _ _ _
  ·rfl
theorem xG(m:Bool)(ops:Array Oper)(t:Nat):Region.schedule m (ops.map dD) t=Region.schedule m ops t:=by
 unfold Region.schedule
 have hd:Region.departs (ops.map dD)=Region.departs ops:=by
  unfold Region.departs
  rw[Array.any_map]
  congr 1
  funext o
  simp only[Function.comp,(lu o).2.2]
 rw[hd,oM,oM]
theorem Hu[ab]{C:Ctx}{k:Nat}(hC:∀ j,j≤k→fu C j)(hR:∀ j,j≤k→xF C j){c:Code}(hn:cx c=true){s:St}{o:Out}(h:bQ C k (nQ c) s=some o){B:oK}{E:Env}{a:Act}{w:World}(hs:cG B E s a w):
  GX (WF none) 0 C.P c (bo B E w o) a w:=by
 by_cases hc:∃ id ops d y,c=.seq (.region id ops d) y
 ·obtain⟨id,ops,d,y,rfl⟩:=hc
  have L4:cx y=true:=by simp only[cx,Bool.and_eq_true]at hn; exact hn.2
  cases k with
  |zero=>simp[bQ]at h
  |succ k=>
   have Ho:(ops.toList.map dD).toArray=ops.map dD:=by rw[←Array.toList_map]
   simp only[nQ,bQ,Ho]at h
   refine Mi ?_
   have go:∀ o1,bQ C k (.region id (ops.map dD) d) s=some o1→(∀ e a' w',bo B E w o1 e a' w'→(match e with|.normal=>GX (WF none) 0 C.P y (bo B E w o) a' w'|e=>bo B E w o e a' w')) →
     GX (WF none) 0 C.P (.region id ops d) (fun e a w2=>match e with|.normal=>GX (WF none) 0 C.P y (bo B E w o) a w2|e=>bo B E w o e a w2) a w:=by
    intro o1 h1 hq
    have hr:=hR k (Nat.le_succ k) _ _ _ _ _ h1 none B E a w hs
    cases d with
    |false=>
     refine D7 ?_
     have:=lK hq _ _ _ (hr.1 rfl)
     rw[Array.size_map]at this
     exact this
    |true=>
     refine IP fun t=>?_
     have:=lK hq _ _ _ (hr.2 rfl t)
     rw[xG]at this
     exact this
   split at h
   ·rename_i s' hx
    refine go _ hx fun e a' w' hp=>?_
    obtain⟨E',h1,h2,h3⟩:=hp
    cases e with
    |normal=>exact IM (wpIn_mono (hC k (Nat.le_succ k) y s' o h none B (.inr L4) E' a' w' h3) fun e T2 wX hp=>bo.from h1 h2 hp)
    |_=>exact h3.elim
   ·rename_i dK
    refine go _ h fun e a' w' hp=>?_
    obtain⟨E',h1,h2,h3⟩:=hp
    cases e with
    |normal=>
     cases o with
     |norm s'=>exact absurd h (dK s')
     |_=>exact h3.elim
    |_=>exact⟨E',h1,h2,h3⟩
 ·have he:nQ c=c:=by
   unfold nQ
   split
   ·exact absurd ⟨_,_,_,_,rfl⟩ hc
   ·rfl
  rw[he]at h
  exact IM (hC k (Nat.le_refl k) c s o h none B (.inr hn) E a w hs)
theorem J2{F:Fence}{n:Nat}{P:Program}{c:Code}{Q Q':Exit→Act→World→Prop}{a:Act}{w:World}(h:GX F n P c Q a w)(hq:∀ e a w,Q e a w→Q' e a w):GX F n P c Q' a w:=
 fun b k cs h1 h2 h3 h4 h5 h6=>let ⟨e,a',w',q,r⟩:=h b k cs h1 h2 h3 h4 h5 h6; ⟨e,a',w',hq _ _ _ q,r⟩
theorem zR[ab]{E:Env}{w:World}{hp:ag}{args:List AV}{vs:List Value}(g:FuncId)(n:Nat)(m:Bool)(hI:Inv E hp w)(ha:an E true args vs):
  cG ⟨w.heap.size,[],m,none⟩ E ⟨g,args++List.replicate (n-args.length) .undef,hp⟩ { tmps:=vs.toArray++Array.replicate (n-vs.toArray.size) undef,defers:=[] } w:=by
 have hlen:=ha.length
 refine⟨?_,hI,Marks.nil,Nat.le_refl _⟩
 simp only[Array.toList_append,Array.toList_replicate,List.size_toArray,←hlen]
 refine ha.append ?_
 have:=an.lits (E:=E) (o:=true) (List.replicate (n-args.length) undef)
 simpa using this
theorem Hv{n:Nat}{E:Env}{w:World}{ds:List Deferred}(h:Marks ⟨n,[],false,none⟩ E w ds):ds=[]:=by
 obtain⟨rs,h1,_,h3,_⟩:=h
 have:=h3.1 rfl
 subst this
 simpa using h1
theorem ER[ab]{C:Ctx}(bL:C.Ok){k:Nat}(EM:∀ j,j≤k→fu C j)(Ve:∀ j,j≤k→xF C j)(hO:lJ C.P (fun o s=>fF C k o s)){f:FuncId}{args:List AV}{hp:ag}{res:nM}{cq:ag}{fn:Func}{c:Code}
  (qT:C.P.funcs[f]?=some fn) (hc:fn.body=some c) {E:Env} {w:World} {vs:List Value} (hI:Inv E hp w) (ha:an E true args vs)
  (h:ua (fun c s=>bQ C k c s) (fun o s=>fF C k o s) C.P fn.results.toList c ⟨f,args++List.replicate (fn.ntmps-args.length) .undef,hp⟩=some (res,cq)):Calls C.P f vs.toArray w (bO E w cq res):=by
 have hs:=zR f fn.ntmps false hI ha
 have fin:∀ (s':St) (wj:ag) E1 (a1:Act) w1,Ext E E1→Fr E w E1 w1→an E1 true s'.fr a1.tmps.toList→Inv E1 wj w1→D6 C.P fn.results.toList s'.fr wj=some (res,cq)→LeavesIn Fence.wide 0 C.P fn a1.tmps (bO E w cq res) [] .returning w1:=by
  intro s' wj E1 a1 w1 hx hf eT L2 hr
  unfold D6 at hr
  split at hr
  case h_2=>simp at hr
  rename_i l hl
  simp only[Option.some.injEq,Prod.mk.injEq]at hr
  obtain⟨rfl,rfl⟩:=hr
  obtain⟨v,h1,h2⟩:=rN L2 eT hl
  exact⟨v,h1,E1,hx,L2,hf,h2⟩
 have leave:∀ (s':St) (d:Option AV) (e:Exit) a' w',tq C ⟨w.heap.size,[],false,none⟩ E w (.norm s') d .normal a' w'→tZ (fun c s=>bQ C k c s) C.P fn.results.toList s'.fr s'.hp d=some (res,cq) →
   LeavesInM Fence.wide 0 C.P fn a'.tmps (bO E w cq res) a'.defers .returning w':=by
  intro s' d e a' w' wj hd
  cases d with
  |none=>
   obtain⟨E',hx,hf,ho⟩:=wj
   have ho:cG ⟨w.heap.size,[],false,none⟩ E' s' a' w':=ho
   exact je rfl ho.inv ho.df hf (by simp) fun w2 qn iD=>fin s' s'.hp E' a' w2 hx iD ho.fr qn hd
  |some v=>
   obtain⟨E1,E2,w1,dd,L5,rP,⟨fv,xm,aU⟩,kC,iD,ho⟩:=wj
   have ho:cG ⟨w.heap.size,[dd],false,none⟩ E2 s' a' w':=ho
   refine je (B:=⟨w.heap.size,[dd],false,none⟩) rfl ho.inv ho.df (rP.trans iD) (by simp) fun w2 qn Zh=>?_
   simp only[tZ]at hd
   split at hd
   ·simp at hd
   rename_i g as cy
   split at hd
   ·simp at hd
   rename_i fg My
   split at hd
   ·simp at hd
   rename_i cg Mz
   obtain⟨first,cap,Cp⟩:=pJ xm cy
   have XF:dd={ target:=.fn (.func g) cap,args:=first++#[] }:=by
    have h1:=aU w2
    rw[Cp]at h1
    have h2:(Deferred.ofValue (.func (.func g) first cap) #[]).run C.P w2=.ok { target:=.fn (.func g) cap,args:=first++#[] } w2:=rfl
    rw[h2]at h1
    cases h1
    rfl
   obtain⟨vs',Vf,hinv⟩:=eX (P:=C.P) (w:=w2) (xm.mono kC) (args:=[]) (vs:=[]) trivial cy ⟨fg,My,by rw[Mz]; rfl,bL.name g fg My (by rw[Mz]; rfl)⟩
   rw[Sem.run_bind]at hinv
   have DU:=aU w2
   rw[show ([]:List Value).toArray=#[] from rfl,DU]at hinv
   have RY:(invoke dd.target dd.args).run C.P w2=.ok (.enter g vs'.toArray) w2:=hinv
   have body:∀ (o:Out) (s2:St) (l2:List AV),(o=.norm s2∨o=.ret s2)→cx cg=true→bQ C k (nQ cg) ⟨g,as++List.replicate (fg.ntmps-as.length) .undef,s'.hp⟩=some o→(aR C.P s2.fr fg.results.toList).run s2.hp=some l2→D6 C.P fn.results.toList s'.fr s2.hp=some (res,cq) →
     LeavesInM Fence.wide 0 C.P fn a'.tmps (bO E w cq res) [dd] .returning w2:=by
    intro o s2 l2 uv J3 bE rh BL
    have AJ:=zR g fg.ntmps false qn Vf
    refine⟨by simp,.inr ⟨fun h=>(by cases h),.func g,cap,g,vs'.toArray,by rw[XF],RY,fun _ _=>trivial,?_⟩⟩
    refine CallsDIn.mono (yJ (F:=Fence.wide) (n:=0) My Mz trivial (R:=fun e w'=>match e with|.returned _=>LeavesIn Fence.wide 0 C.P fn a'.tmps (bO E w cq res) [] .returning w'|_=>False) (J2 (Hu EM Ve J3 bE AJ) ?_)) ?_
    ·intro e a3 w3 Zi
     obtain⟨E3,L6,L8,T3⟩:=Zi
     have last:cG ⟨w2.heap.size,[],false,none⟩ E3 s2 a3 w3→a3.defers=[]∧∃ v,(results fg a3.tmps).run C.P w3=.ok v w3∧LeavesIn Fence.wide 0 C.P fn a'.tmps (bO E w cq res) [] .returning w3:=by
      intro T4
      obtain⟨v3,h1,h2⟩:=rN T4.inv T4.fr rh
      exact⟨Hv T4.df,v3,h1,fin s' s2.hp E3 a' w3 ((L5.trans kC).trans L6) (Zh.trans L8) (ho.fr.mono L6) T4.inv BL⟩
     rcases uv with rfl|rfl
     ·cases e with
      |normal=>exact last T3
      |_=>exact T3.elim
     ·cases e with
      |ret=>exact last T3
      |_=>exact T3.elim
    ·intro e u' w3 hh
     obtain⟨rfl,hh⟩:=hh
     cases e with
     |returned v=>exact hh
     |_=>exact hh.elim
   split at hd
   ·rename_i s2 J3 bE
    split at hd
    ·rename_i l2 rh; exact body _ s2 l2 (.inl rfl) J3 bE rh hd
    ·simp at hd
   ·rename_i s2 J3 bE
    split at hd
    ·rename_i l2 rh; exact body _ s2 l2 (.inr rfl) J3 bE rh hd
    ·simp at hd
   ·simp at hd
 have Zj:∀ (s':St) (d:Option AV) (o:Out) (e:Exit) a' w',(o=.norm s'∧e=.normal)∨(o=.ret s'∧e=.ret)→tq C ⟨w.heap.size,[],false,none⟩ E w o d e a' w'→tq C ⟨w.heap.size,[],false,none⟩ E w (.norm s') d .normal a' w':=by
  rintro s' d o e a' w' (⟨rfl,rfl⟩|⟨rfl,rfl⟩) wj
  ·exact wj
  ·cases d with
   |none=>exact wj
   |some v=>exact wj
 unfold ua at h
 split at h
 ·rename_i s' d hn bE
  refine callsIn_wide.1 (callsIn_of_wp_marks (F:=Fence.wide) (n:=0) qT hc trivial (wpIn_mono (EP (EM k (Nat.le_refl k)) hO c _ _ d hn bE _ E _ w rfl hs) fun e a' w' cX=>?_))
  cases e with
  |normal=>exact leave s' d .normal a' w' cX h
  |_=>cases d<;>first|exact(let ⟨_,_,_,ho⟩:=cX; ho.elim)|exact(let ⟨_,_,_,_,_,_,_,_,_,ho⟩:=cX; ho.elim)
 ·rename_i s' d hn bE
  refine callsIn_wide.1 (callsIn_of_wp_marks (F:=Fence.wide) (n:=0) qT hc trivial (wpIn_mono (EP (EM k (Nat.le_refl k)) hO c _ _ d hn bE _ E _ w rfl hs) fun e a' w' cX=>?_))
  cases e with
  |ret=>exact leave s' d .normal a' w' (Zj s' d _ _ a' w' (.inr ⟨rfl,rfl⟩) cX) h
  |_=>cases d<;>first|exact(let ⟨_,_,_,ho⟩:=cX; ho.elim)|exact(let ⟨_,_,_,_,_,_,_,_,_,ho⟩:=cX; ho.elim)
 ·rename_i v s' hn bE
  simp only[Option.some.injEq,Prod.mk.injEq]at h
  obtain⟨rfl,rfl⟩:=h
  refine callsIn_wide.1 (callsIn_of_wp_marks (F:=Fence.wide) (n:=0) qT hc trivial (wpIn_mono (EP (EM k (Nat.le_refl k)) hO c _ _ none hn bE _ E _ w rfl hs) fun e a' w' cX=>?_))
  obtain⟨E',hx,hf,ho⟩:=cX
  cases e with
  |panic ch=>
   obtain⟨u,h1,h2,h3,h4⟩:=ho
   exact je rfl h3 h4 hf (by simp) fun w2 qn iD=>⟨E',hx,qn,iD,u,h1,h2⟩
  |_=>exact ho.elim
 ·simp at h
theorem Cy[ab]{C:Ctx}(bL:C.Ok){k:Nat}(EM:∀ j,j≤k→fu C j)(Ve:∀ j,j≤k→xF C j)(hO:lJ C.P (fun o s=>fF C k o s)):lI C (k+1):=by
 intro f args hp res cq h E w vs hI ha
 simp only[lX]at h
 split at h
 ·simp at h
 rename_i fn qT
 split at h
 ·simp at h
 rename_i c hc
 split at h
 ·exact ER bL EM Ve hO qT hc hI ha h
 ·exact AY (EM k (Nat.le_refl k)) qT hc hI ha h
theorem J4[ab]{C:Ctx}(bL:C.Ok)(TY:∀ g,C.kind g=.imp→JW C.P):∀ k,lI C k∧fu C k∧lJ C.P (fun o s=>fF C k o s)∧uw C k∧rM C.P (fun nm o fr=>ir C k nm o fr):=by
 suffices key:∀ k,(lI C k∧fu C k∧lJ C.P (fun o s=>fF C k o s)∧uw C k∧rM C.P (fun nm o fr=>ir C k nm o fr))∧∀ j,j≤k→fu C j∧xF C j from fun k=>(key k).1
 intro k
 induction k with
 |zero=>
  refine⟨?_,fun j hj=>by obtain rfl:j=0:=by omega
                         exact⟨fun _ _ _ h=>by simp[bQ]at h,fun _ _ _ _ _ h=>by simp[bQ]at h⟩⟩
  refine⟨fun _ _ _ _ _ h=>by simp[lX]at h,fun _ _ _ h=>by simp[bQ]at h,fun _ _ _ h=>by simp[fF]at h,fun _ _ _ _ _ h=>by simp[k6,RM.ae]at h,?_⟩
  intro rd x B E s a w e K Q _ _ h
  simp[ir,RM.ae]at h
 |succ k ih=>
  obtain⟨⟨hF,hC,hO,hP,hE⟩,EM⟩:=ih
  have XG:=Cw bL hF (fun j hj=>(EM j hj).1) hO hE
  refine⟨⟨Cy bL (fun j hj=>(EM j hj).1) (fun j hj=>(EM j hj).2) hO,XG,Cr bL hF hP hC,Ck bL hF,Cs bL TY hF hP⟩,fun j hj=>?_⟩
  rcases Nat.lt_or_ge j (k+1) with h|h
  ·exact EM j (by omega)
  ·obtain rfl:j=k+1:=by omega
   exact⟨XG,vJ hO hE⟩
def Cz(P:Program):Ctx:={ P:=P,kind:=fun _=>.pure,kv:=fun _=>none,acc:=fun _ _=>false }
theorem RZ[ab]{C:Ctx}(bL:C.Ok):JW C.P:=by
 have Zk:(Cz C.P).Ok:=⟨bL.name,fun g h as r e=>(by cases e),fun g h as r hJ e=>(by cases e),fun g h e=>(by cases e),fun g h as hp e h1=>(by cases h1),fun g h e=>(by cases e)⟩
 intro g args hp e h E w vs hI ma
 obtain⟨e0,hb,ov,nw,hw,ho,k,hk⟩:=M4 (C:=Cz C.P) rfl (fun _ _=>rfl) (fun _ _=>rfl) (fun _ _=>rfl) h
 exact⟨e0,((J4 Zk (fun g h=>by cases h) k).1 g args hp _ _ hk E w vs hI ma).mono fun en w' hp=>Hw hI hw ho hb hp⟩
theorem sound[ab]{C:Ctx}(bL:C.Ok):∀ k,lI C k∧fu C k∧lJ C.P (fun o s=>fF C k o s)∧uw C k∧rM C.P (fun nm o fr=>ir C k nm o fr):=
 J4 bL fun _ _=>RZ bL
end Go.PI
end
section
/- PI, the laws: arguments that read as data, as abstract values. -/
namespace Go.PI
open Go.ChangeShapes Go.WideShapes
def Env.all(w:World):Env where
 ρ:=fun _ _=>none
 m:=fun b=>match w.heap[b]? with|some (.cells c _ _)=>some c|_=>none
 L:=0
 own:=fun _=>False
theorem Mu[ab](w:World)(hg:mJ (Env.all w)):Inv (Env.all w) [] w where
 len:=rfl
 objs:=by intro n o h; simp at h
 free:=by intro n aq h; simp at h
 inj:=by rintro n n' b ⟨o,l,h,_⟩; simp at h
 mem:=by
  grind[Env.all]
 oT:=by intro b h; exact h.elim
 jv:=hg
def Shape(P:Program):Nat→TypeId→List AV→Prop
 |0,_,_=>False
 |k+1,t,l=>
  match P.underlying t with
  |some .bool=>∃ b,l=[.lit (.bool b)]
  |some (.int i)=>∃ n,l=[.lit (.int i n)]∧(Lit.int i n).wf=true
  |some .string=>∃ s:ByteArray,l=[.lit (.string s)]∧s.size≤maxLen
  |some (.slice e)=>∃ xs,l=[.sl xs]∧xs.length≤maxLen∧∀ x∈xs,∃ cl,(match P.underlying e with
    |some d=>if eh d then x=.agg cl else cl=[x]
    |none=>False)∧Shape P k e cl
  |some (.struct fs)=>l.length=P.cellsOf t∧∀ f∈fs.toList,Shape P k f.type ((l.drop f.offset).take (P.cellsOf f.type))
  |some (.array n e)=>l.length=P.cellsOf t∧∀ i,i<n→Shape P k e ((l.drop (i*P.cellsOf e)).take (P.cellsOf e))
  |_=>False
def vo(P:Program):Nat→List Field→Option Nat
 |o,[]=>some o
 |o,f::r=>if f.offset=o then vo P (o+P.cellsOf f.type) r else none
def xb(P:Program):Nat→TypeId→Bool
 |0,_=>false
 |k+1,t=>
  match P.underlying t with
  |some .bool|some (.int _)|some .string=>decide (P.cellsOf t=1)
  |some (.slice e)=>decide (P.cellsOf t=1)&&decide (0<P.cellsOf e)&&xb P k e
  |some (.struct fs)=>decide (vo P 0 fs.toList=some (P.cellsOf t))&&fs.toList.all fun f=>xb P k f.type
  |some (.array n e)=>decide (n*P.cellsOf e=P.cellsOf t)&&xb P k e
  |_=>false
theorem mapM_some{α β:Type}{f:α→Option β}:∀ {l:List α} {r:List β},l.mapM f=some r→r.length=l.length∧∀ (i:Nat) (x:α),l[i]?=some x→∃ y,r[i]?=some y∧f x=some y
 |[],r,h=>by
  simp_all
 |a::l,r,h=>by
  simp only[List.mapM_cons,Option.pure_def,Option.bind_eq_bind]at h
  cases hq:f a with
  |none=>rw[hq]at h; simp at h
  |some b=>
   rw[hq]at h
   simp only[Option.bind_some]at h
   cases dR:l.mapM f with
   |none=>rw[dR]at h; simp at h
   |some bs=>
    rw[dR]at h
    simp only[Option.bind_some,Option.some.injEq]at h
    subst h
    obtain⟨h1,h2⟩:=mapM_some dR
    refine⟨by simp[h1],fun i x hx=>?_⟩
    cases i with
    |zero=>simp_all
    |succ i=>simp_all
theorem aH.append{E:Env}{o:Bool}{l l':List AV}{c c':List Value}(h:aH E o l c)(h':aH E o l' c'):aH E o (l++l') (c++c'):=
 aH.of (h.FK.append h'.FK) fun v hv=>by
  rcases List.mem_append.1 hv with h1|h1
  ·exact h.leaf v h1
  ·exact h'.leaf v h1
theorem G1[ab]{w:World}{base:Nat}{a:Addr}{n:Nat}{l:List Value}(h:w.cells? base a n=some l):l.length=n∧∀ q v,l[q]?=some v→w.cell? (a.add q)=some v:=by
 unfold World.cells? at h
 split at h
 case isFalse=>simp at h
 obtain⟨h1,h2⟩:=mapM_some h
 simp only[List.length_range]at h1
 refine⟨h1,fun q v hq=>?_⟩
 have bS:=aI hq
 obtain⟨y,hy,hf⟩:=h2 q q (by rw[List.getElem?_range (by omega)])
 rw[hq]at hy
 cases hy
 exact hf
theorem zo{P:Program}:∀ (fs:List Field) (o n:Nat),vo P o fs=some n→o≤n
 |[],o,n,h=>by simp only[vo,Option.some.injEq]at h; omega
 |f::r,o,n,h=>by
  simp only[vo]at h
  split at h
  case isFalse=>simp at h
  have:=zo r _ n h; omega
theorem BT[ab]{E:Env}{P:Program}{S:Field→List AV→Prop}:∀ (fs:List Field) (o n:Nat) (cs:List Value),vo P o fs=some n→cs.length=n →
  (∀ f∈fs,∃ l,aH E false l ((cs.drop f.offset).take (P.cellsOf f.type))∧S f l) →
  ∃ l,aH E false l (cs.drop o)∧∀ f∈fs,o≤f.offset∧S f ((l.drop (f.offset-o)).take (P.cellsOf f.type))
 |[],o,n,cs,h,hl,_=>by
  simp only[vo,Option.some.injEq]at h
  refine⟨[],?_,by simp⟩
  rw[List.drop_eq_nil_of_le (by omega)]
  simp[aH]
 |f::r,o,n,cs,h,hl,hf=>by
  simp only[vo]at h
  split at h
  case isFalse=>simp at h
  rename_i ho
  have ug:=zo r _ n h
  obtain⟨l1,h1,h2⟩:=hf f (by simp)
  obtain⟨l2,h3,h4⟩:=BT r (o+P.cellsOf f.type) n cs h hl (fun g hg=>hf g (by simp[hg]))
  have FU:l1.length=P.cellsOf f.type:=by rw[h1.length]; simp; omega
  refine⟨l1++l2,?_,fun g hg=>?_⟩
  ·have:cs.drop o=(cs.drop f.offset).take (P.cellsOf f.type)++cs.drop (o+P.cellsOf f.type):=by
    rw[ho,←List.drop_drop,List.take_append_drop]
   rw[this]
   exact h1.append h3
  ·cases hg with
   |head=>
    simp_all
   |tail _ hg=>
    obtain⟨h5,h6⟩:=h4 g hg
    refine⟨by omega,?_⟩
    have:(l1++l2).drop (g.offset-o)=l2.drop (g.offset-(o+P.cellsOf f.type)):=by
     rw[List.drop_append,List.drop_eq_nil_of_le (by omega),List.nil_append,FU]
     congr 1; omega
    rw[this]
    exact h6
theorem BU[ab]{E:Env}{size:Nat}{S:List AV→Prop}:∀ (n:Nat) (cs:List Value),cs.length=n*size →
  (∀ i,i<n→∃ l,aH E false l ((cs.drop (i*size)).take size)∧S l)→∃ l,aH E false l cs∧∀ i,i<n→S ((l.drop (i*size)).take size)
 |0,cs,h,_=>by
  have:cs=[]:=List.eq_nil_of_length_eq_zero (by simpa using h)
  subst this
  exact⟨[],by simp[aH],by simp⟩
 |n+1,cs,h,hf=>by
  rw[Nat.succ_mul]at h
  obtain⟨l1,h1,h2⟩:=hf 0 (by omega)
  simp only[Nat.zero_mul,List.drop_zero]at h1
  obtain⟨l2,h3,h4⟩:=BU (size:=size) (S:=S) n (cs.drop size) (by rw[List.length_drop,h]; omega) (fun i hi=>by
   obtain⟨l,ha,hb⟩:=hf (i+1) (by omega)
   refine⟨l,?_,hb⟩
   rw[List.drop_drop]
   have:size+i*size=(i+1)*size:=by rw[Nat.succ_mul]; omega
   rw[this]; exact ha)
  have FU:l1.length=size:=by rw[h1.length]; simp; omega
  refine⟨l1++l2,?_,fun i hi=>?_⟩
  ·have:cs=cs.take size++cs.drop size:=(List.take_append_drop size cs).symm
   rw[this]
   exact h1.append h3
  ·cases i with
   |zero=>simp_all
   |succ i=>
    have e1:(i+1)*size=size+i*size:=by rw[Nat.succ_mul]; omega
    rw[e1,List.drop_append,List.drop_eq_nil_of_le (by omega),List.nil_append,FU]
    have e2:size+i*size-size=i*size:=by omega
    rw[e2]
    exact h4 i (by omega)
theorem BV{P:Program}{k:Nat}{t:TypeId}{d:TypeDesc}(hu:P.underlying t=some d)(bL:xb P k t=true)(ha:eh d=false):P.cellsOf t=1:=by
 cases k with
 |zero=>simp[xb]at bL
 |succ k=>
  simp only[xb,hu]at bL
  cases d with
  |bool=>simpa using bL
  |int _=>simpa using bL
  |string=>simpa using bL
  |slice e=>simp only[Bool.and_eq_true,decide_eq_true_eq]at bL; exact bL.1.1
  |struct _=>simp[eh]at ha
  |array _ _=>simp[eh]at ha
  |_=>simp at bL
theorem Mv[ab]{H:Type}{enc:TypeId×Value→H}{P:Program}{w:World}{base:Nat}{spare:Nat→Bool}{held:Bool}:∀ (fuel k:Nat) (t:TypeId) (cs:List Value) (r:DataW H×List MemPlace),
  xb P k t=true→DataW.trod enc P w base spare held fuel t cs=some r→∃ l,aH (Env.all w) false l cs∧Shape P k t l:=by
 intro fuel
 induction fuel with
 |zero=>intro k t cs r _ h; simp[DataW.trod]at h
 |succ fuel ih=>
  intro k t cs r bL h
  cases k with
  |zero=>simp[xb]at bL
  |succ k=>
   have YH:=bL
   simp only[xb]at bL
   cases hu:P.underlying t with
   |none=>rw[hu]at bL; simp at bL
   |some d=>
    rw[hu]at bL
    cases d with
    |bool=>
     obtain⟨b,rfl,_⟩:=DataW.trod_bool hu h
     exact⟨[.lit (.bool b)],by simp[aH,aj,Value.oneCell'],by simp only[Shape,hu]; exact⟨b,rfl⟩⟩
    |int i=>
     obtain⟨n,rfl,_,hw⟩:=DataW.trod_int hu h
     exact⟨[.lit (.int i n)],by simp[aH,aj,Value.oneCell'],by simp only[Shape,hu]; exact⟨n,rfl,hw⟩⟩
    |string=>
     obtain⟨s,rfl,_,hw⟩:=DataW.trod_string hu h
     exact⟨[.lit (.string s)],by simp[aH,aj,Value.oneCell'],by simp only[Shape,hu]; exact⟨s,rfl,hw⟩⟩
    |slice e=>
     simp only[Bool.and_eq_true,decide_eq_true_eq]at bL
     obtain⟨⟨_,e9⟩,G2⟩:=bL
     obtain⟨de,Xl⟩:∃ de,P.underlying e=some de:=by
      cases k with
      |zero=>simp[xb]at G2
      |succ k=>
       simp only[xb]at G2
       cases hq:P.underlying e with
       |none=>rw[hq]at G2; simp at G2
       |some de=>exact⟨de,rfl⟩
     rcases DataW.trod_slice hu h with ⟨rfl,_⟩|⟨a,len,cap,elems,rest,n,hn,rfl,_,hb,DT,QQ,wq,Ja,_,_⟩
     ·refine⟨[.sl []],?_,?_⟩
      ·simp only[aH,aj]
       exact⟨⟨none,0,rfl,by simp,fun _=>rfl,.inl trivial⟩,rfl,trivial⟩
      ·simp only[Shape,hu]; exact⟨[],rfl,by simp,by simp⟩
     ·have BA:n=fuel:=by omega
      subst BA
      have one:∀ i,i<len→∃ x:AV,∃ v cl,aj (Env.all w) false x v∧v.cells.size=P.cellsOf e∧(∀ q u,v.cells.toList[q]?=some u→w.cell? ((a.add (i*P.cellsOf e)).add q)=some u) ∧
        (∀ u∈v.cells.toList,iu u=true)∧(if eh de then x=.agg cl else cl=[x])∧Shape P k e cl:=by
       intro i hi
       have h1:=Ja i hi
       have h2:elems[i]?=some elems[i]:=by simp[wq,hi]
       rw[h2]at h1
       cases hc:w.cells? base (a.add (i*P.cellsOf e)) (P.cellsOf e) with
       |none=>rw[hc]at h1; simp at h1
       |some ce=>
        rw[hc]at h1
        simp only[Option.bind_some]at h1
        obtain⟨cl,h3,h4⟩:=ih k e ce _ G2 h1
        obtain⟨h5,h6⟩:=G1 hc
        cases o5:eh de with
        |true=>
         refine⟨.agg cl,.agg ce.toArray,cl,h3.toArray,by simp[Value.cells,h5],fun q u hq=>h6 q u (by simpa[Value.cells] using hq),?_,by simp,h4⟩
         intro u LY
         exact h3.leaf u (by simpa[Value.cells] using LY)
        |false=>
         have h7:=BV Xl G2 o5
         rw[h7]at h5
         match ce,h5,h3 with
         |[v],_,h3=>
          match cl,h3 with
          |[x],h3=>
           simp only[aH]at h3
           have Pb:=fO h3.2.1
           refine⟨x,v,[x],h3.1,by rw[Pb,h7]; rfl,fun q u hq=>h6 q u (by rw[Pb]at hq; simpa using hq),?_,by simp,h4⟩
           intro u LY
           rw[Pb]at LY
           simp at LY
           subst LY
           exact h3.2.1
          |[],h3=>simp[aH]at h3
          |_::_::_,h3=>simp[aH]at h3
         |[],h5,_=>simp at h5
         |_::_::_,h5,_=>simp at h5
      let xs:List AV:=(List.range len).map fun i=>if hi:i<len then Classical.choose (one i hi) else .any
      have zp:∀ i x,xs[i]?=some x→∃ v cl,aj (Env.all w) false x v∧v.cells.size=P.cellsOf e ∧
        (∀ q u,v.cells.toList[q]?=some u→w.cell? ((a.add (i*P.cellsOf e)).add q)=some u) ∧
        (∀ u∈v.cells.toList,iu u=true)∧(if eh de then x=.agg cl else cl=[x])∧Shape P k e cl:=by
       intro i x hx
       have hi:=aI hx
       simp only[xs,List.length_map,List.length_range]at hi
       simp only[xs,List.getElem?_map,List.getElem?_range hi,Option.map_some,dif_pos hi,Option.some.injEq]at hx
       subst hx
       exact Classical.choose_spec (one i hi)
      have D8:xs.length=len:=by simp[xs]
      refine⟨[.sl xs],?_,?_⟩
      ·simp only[aH,aj]
       refine⟨⟨some a,cap,by rw[D8],by omega,by simp,?_⟩,rfl,trivial⟩
       by_cases h0:len=0
       ·left; exact List.eq_nil_of_length_eq_zero (by omega)
       ·right
        obtain⟨v,_,_,ma,Pb,_,_,_⟩:=zp 0 xs[0] (by simp)
        have L0:=Pb 0 v.cells[0] (by simp)
        simp only[Nat.zero_mul]at L0
        have Rj:(a.add 0).add 0=a:=rfl
        rw[Rj]at L0
        obtain⟨b,o,sp⟩:=a
        simp only[World.cell?]at L0
        split at L0
        case h_2=>simp at L0
        rename_i c T fz eU
        split at L0
        ·simp at L0
        rename_i Rk
        have UC:sp=none:=by cases sp<;>simp_all
        subst UC
        refine⟨b,o,P.cellsOf e,c,rfl,by simp[Env.all,eU],dM.dY fun i x hx=>?_⟩
        obtain⟨v,_,hr,ma,Pb,UD,_,_⟩:=zp i x hx
        refine⟨v,hr,ma,fun q hq=>?_,UD⟩
        have h1:=Pb q v.cells[q] (by simp)
        rw[di,di]at h1
        simp only[World.cell?,eU]at h1
        simp only[Option.isSome_none,Bool.false_eq_true,if_false]at h1
        rw[h1]; simp
      ·simp only[Shape,hu]
       refine⟨xs,rfl,by omega,fun x hx=>?_⟩
       obtain⟨i,hi⟩:=List.mem_iff_getElem?.1 hx
       obtain⟨v,cl,_,_,_,_,h1,h2⟩:=zp i x hi
       exact⟨cl,by rw[Xl]; exact h1,h2⟩
    |struct fs=>
     simp only[Bool.and_eq_true,decide_eq_true_eq]at bL
     obtain⟨xs,n,hn,_,hl,D8,hf⟩:=DataW.trod_struct hu h
     have BA:n=fuel:=by omega
     subst BA
     obtain⟨l,h1,h2⟩:=BT (E:=Env.all w) (S:=fun f l=>Shape P k f.type l) fs.toList 0 (P.cellsOf t) cs bL.1 hl (fun f FV=>by
      obtain⟨i,hi⟩:=List.mem_iff_getElem?.1 FV
      have wk:fs[i]?=some f:=by simpa using hi
      have h3:=hf i f wk
      have bS:i<xs.length:=by rw[D8]; exact(Array.getElem?_eq_some_iff.1 wk).1
      rw[List.getElem?_eq_getElem bS]at h3
      exact ih k f.type _ _ (List.all_eq_true.1 bL.2 f FV) h3)
     simp only[List.drop_zero]at h1
     refine⟨l,h1,?_⟩
     simp only[Shape,hu]
     exact⟨by rw[h1.length,hl],fun f FV=>by simpa using (h2 f FV).2⟩
    |array n e=>
     simp only[Bool.and_eq_true,decide_eq_true_eq]at bL
     obtain⟨xs,m,hm,_,hl,D8,hf⟩:=DataW.trod_array hu h
     have AA:m=fuel:=by omega
     subst AA
     obtain⟨l,h1,h2⟩:=BU (E:=Env.all w) (S:=fun l=>Shape P k e l) n cs (by rw[hl,bL.1]) (fun i hi=>by
      have h3:=hf i hi
      rw[List.getElem?_eq_getElem (by omega)]at h3
      exact ih k e _ _ bL.2 h3)
     refine⟨l,h1,?_⟩
     simp only[Shape,hu]
     exact⟨by rw[h1.length,hl],h2⟩
    |_=>simp at bL
end Go.PI
end
section
/- PI, the answers of code without fuel, by equations. -/
namespace Go.PI
theorem gk[ab]{α:Type}(y:Option α):lY (fun _=>y)=y:=
 kQ (g:=fun _=>y) (fun _ _ h=>h) (fun _ _ h=>h) fun _ h=>⟨0,h⟩
theorem sW[ab]{α β:Type}{g:Nat→Option β}{a:Nat→Option α}{b:α→Nat→Option β}(hg:fG g)(ha:fG a)(hb:∀ x,fG (b x))
  (h0:g 0=none) (h:∀ k,g (k+1)=(a k).bind fun x=>b x k):lY g=(lY a).bind fun x=>lY (b x):=by
 apply kQ hg
 ·intro k x hx
  cases k with
  |zero=>rw[h0]at hx; simp at hx
  |succ k=>
   rw[h]at hx
   cases hq:a k with
   |none=>rw[hq]at hx; simp at hx
   |some y=>
    rw[hq]at hx
    rw[(bh ha).2 ⟨k,hq⟩]
    exact(bh (hb y)).2 ⟨k,hx⟩
 ·intro x hx
  cases hq:lY a with
  |none=>rw[hq]at hx; simp at hx
  |some y=>
   rw[hq]at hx
   obtain⟨k1,h1⟩:=(bh ha).1 hq
   obtain⟨k2,h2⟩:=(bh (hb y)).1 hx
   refine⟨k1+k2+1,?_⟩
   rw[h,ha.le h1 k2]
   simp only[Option.bind_some]
   rw[Nat.add_comm]
   exact(hb y).le h2 k1
theorem mr{α:Type}(y:Option α):fG fun _=>y:=fun _ _ h=>h
theorem ep[ab]{α β:Type}{g:Nat→Option β}{a:Nat→Option α}{b:α→Option β}(hg:fG g)(ha:fG a)
  (h0:g 0=none) (h:∀ k,g (k+1)=(a k).bind b):lY g=(lY a).bind b:=by
 rw[sW hg ha (b:=fun x _=>b x) (fun x=>mr _) h0 h]
 congr 1; funext x; exact gk _
theorem bU[ab]{α:Type}{g:Nat→Option α}{y:Option α}(hg:fG g)(h0:g 0=none)(h:∀ k,g (k+1)=y):lY g=y:=by
 apply kQ hg
 ·intro k x hx
  cases k with
  |zero=>rw[h0]at hx; simp at hx
  |succ k=>rw[h]at hx; exact hx
 ·intro x hx; exact⟨1,by rw[h]; exact hx⟩
theorem uh[ab]{α:Type}{g a:Nat→Option α}(hg:fG g)(ha:fG a)(h0:g 0=none)(h:∀ k,g (k+1)=a k):lY g=lY a:=by
 have:=ep (b:=some) hg ha h0 (fun k=>by rw[h]; simp)
 rw[this]; simp
variable {C:Ctx}
theorem qh[ab](s:St):cQ C .skip s=some (.norm s):=bU (dG C _ _) rfl fun _=>rfl
theorem Ei[ab](l:Nat)(s:St):cQ C (.label l) s=some (.norm s):=bU (dG C _ _) rfl fun _=>rfl
theorem xe[ab](s:St):cQ C .ret s=some (.ret s):=bU (dG C _ _) rfl fun _=>rfl
theorem ui[ab](id:Nat)(s:St):cQ C (.exit id) s=some (.exit id s):=bU (dG C _ _) rfl fun _=>rfl
theorem Ej[ab]{b c:Code}(hc:pd b=some c){s:St}{o:Out}(h:cQ C c s=some o):cQ C (.scope b) s=some o:=by
 obtain⟨k,hk⟩:=(bh (dG C c s)).1 h
 exact(bh (dG C _ s)).2 ⟨k+1,by simp only[bQ,hc]; exact hk⟩
noncomputable def andThen[ab](C:Ctx)(b:Code):Out→Option Out
 |.norm s=>cQ C b s
 |r=>some r
theorem gR[ab](a b:Code)(s:St):cQ C (.seq a b) s=(cQ C a s).bind (andThen C b):=by
 have h:=sW (dG C (.seq a b) s) (dG C a s) (b:=fun x k=>match x with|.norm s'=>bQ C k b s'|r=>some r)
  (fun x=>by cases x with
    |norm s'=>exact dG C b s'
    |_=>exact mr _) (by simp[bQ]) (fun k=>by
     simp only[bQ]
     cases hq:bQ C k a s with
     |none=>rfl
     |some r=>cases r<;>rfl)
 unfold cQ at h ⊢
 rw[h]
 congr 1
 funext x
 cases x with
 |norm s'=>rfl
 |_=>exact gk _
noncomputable def TL[ab](C:Ctx)(a b:Code)(s:St):AV→Option Out
 |.lit (.bool t)=>cond t (cQ C a s) (cQ C b s)
 |_=>none
theorem k7[ab](o:Operand)(a b:Code)(s:St):cQ C (.cond o a b) s=TL C a b s (az s.fr o):=by
 unfold TL
 split
 ·rename_i t ht
  cases t with
  |true=>exact uh (dG C _ _) (dG C _ _) (by simp[bQ]) fun k=>by simp only[bQ]; rw[ht]
  |false=>exact uh (dG C _ _) (dG C _ _) (by simp[bQ]) fun k=>by simp only[bQ]; rw[ht]
 ·rename_i hn
  refine bU (dG C _ _) (by simp[bQ]) fun k=>?_
  simp only[bQ]
def uj(id:Nat):Out→Option Out
 |.exit i s=>if i=id then some (.norm s) else some (.exit i s)
 |r=>some r
theorem lD[ab](id:Nat)(b:Code)(s:St):cQ C (.block id b) s=(cQ C b s).bind (uj id):=by
 refine ep (dG C _ _) (dG C _ _) (by simp[bQ]) fun k=>?_
 simp only[bQ]
 cases hq:bQ C k b s with
 |none=>rfl
 |some r=>cases r<;>rfl
noncomputable def Je[ab](C:Ctx)(b:Code)(n:Nat):Out→Option Out
 |.norm s=>cQ C (.loop b) (gG n s)
 |r=>some r
theorem nh[ab](b:Code)(s:St):cQ C (.loop b) s=(cQ C b s).bind (Je C b s.hp.length):=by
 have h:=sW (dG C (.loop b) s) (dG C b s) (b:=fun x k=>match x with|.norm s'=>bQ C k (.loop b) (gG s.hp.length s')|r=>some r)
  (fun x=>by cases x with
    |norm s'=>exact dG C (.loop b) (gG s.hp.length s')
    |_=>exact mr _) (by simp[bQ]) (fun k=>by
     rw[bQ]
     cases hq:bQ C k b s with
     |none=>rfl
     |some r=>cases r<;>rfl)
 unfold cQ at h ⊢
 rw[h]
 congr 1
 funext x
 cases x with
 |norm s'=>rfl
 |_=>exact gk _
theorem dV[ab](ops:Array Oper)(l:List Oper)(s:St):fG fun k=>cE (fun o s=>fF C k o s) ops l s:=
 fun k x h=>iy (fun o s r h=>(mono C k).o o s r h) ops l s x h
theorem jG[ab](ops:Array Oper):∀ (l:List Oper) (s:St),lY (fun k=>cE (fun o s=>fF C k o s) ops l s)=cE (ie C) ops l s
 |[],s=>gk _
 |o::l,s=>by
  simp only[cE]
  cases hw:cF ops s.fr o with
  |none=>exact gk _
  |some b=>
   cases b with
   |false=>exact jG ops l _
   |true=>
    simp only
    apply kQ
    ·intro k x hx
     have hm:=jy C o s
     simp only at hx ⊢
     cases hq:fF C k o s with
     |none=>rw[hq]at hx; simp at hx
     |some r=>
      rw[hq]at hx
      have uk:=hm k r hq
      simp only at hx uk ⊢
      rw[uk]
      cases r with
      |norm s'=>exact dV ops l s' k x hx
      |_=>exact hx
    ·intro k x hx
     cases hq:fF C k o s with
     |none=>rw[hq]at hx; simp at hx
     |some r=>
      rw[hq]at hx
      have h1:ie C o s=some r:=(bh (jy C o s)).2 ⟨k,hq⟩
      rw[h1]
      cases r with
      |norm s'=>
       simp only at hx ⊢
       rw[←jG ops l s']
       exact(bh (dV ops l s')).2 ⟨k,hx⟩
      |_=>exact hx
    ·intro x hx
     cases hq:ie C o s with
     |none=>rw[hq]at hx; simp at hx
     |some r=>
      rw[hq]at hx
      obtain⟨k1,h1⟩:=(bh (jy C o s)).1 hq
      cases r with
      |norm s'=>
       simp only at hx
       rw[←jG ops l s']at hx
       obtain⟨k2,h2⟩:=(bh (dV ops l s')).1 hx
       refine⟨k1+k2,?_⟩
       rw[(jy C o s).le h1 k2]
       simp only
       rw[Nat.add_comm]
       exact(dV ops l s').le h2 k1
      |_=>exact⟨k1,by rw[h1]; exact hx⟩
theorem BZ[ab](id:Nat)(ops:Array Oper)(s:St):cQ C (.region id ops false) s=cE (ie C) ops ops.toList (gF (C.iq s.fn id) s):=by
 rw[←jG]
 exact uh (dG C _ _) (dV ops _ _) (by simp[bQ]) fun k=>by simp only[bQ]
noncomputable def Jf(C:Ctx)(rs:Array ResultVar):Out→Option (nM×ag)
 |.norm s=>((aR C.P s.fr rs.toList).run s.hp).map fun l=>(.val (cB l),s.hp)
 |.ret s=>((aR C.P s.fr rs.toList).run s.hp).map fun l=>(.val (cB l),s.hp)
 |.jS v s=>some (.jS v,s.hp)
 |_=>none
theorem AD[ab]{f:FuncId}{fn:Func}{c:Code}(hf:C.P.funcs[f]?=some fn)(hb:fn.body=some c)(args:List AV)(hp:ag)(hD:BI c=false:=by rfl):
  ky C f args hp=(cQ C c ⟨f,args++List.replicate (fn.ntmps-args.length) .undef,hp⟩).bind (Jf C fn.results):=by
 refine ep (mo C _ _ _) (dG C _ _) (by simp[lX]) fun k=>?_
 simp only[lX,hf,hb,hD]
 cases hq:bQ C k c ⟨f,args++List.replicate (fn.ntmps-args.length) .undef,hp⟩ with
 |none=>rfl
 |some r=>
  cases r with
  |norm s=>simp only[Option.bind_some,Jf]; split<;>simp_all
  |ret s=>simp only[Option.bind_some,Jf]; split<;>simp_all
  |_=>rfl
theorem ni[ab]{c:Code}{s:St}{o:Out}(h:cQ C c s=some o):∃ k,∀ d,bQ C (k+d) c s=some o:=by
 obtain⟨k,hk⟩:=(bh (dG C c s)).1 h
 exact⟨k,(dG C c s).le hk⟩
theorem AE[ab]:∀ (c:Code) (s:St) (r:Out×Option AV),ze (cQ C) (ie C) c s=some r→∃ k,∀ d,ze (fun c s=>bQ C (k+d) c s) (fun o s=>fF C (k+d) o s) c s=some r:=by
 have leaf:∀ c s (r:Out×Option AV),((cQ C c s).map fun o=>(o,(none:Option AV)))=some r→∃ k,∀ d,((bQ C (k+d) c s).map fun o=>(o,(none:Option AV)))=some r:=by
  intro c s r h
  cases hq:cQ C c s with
  |none=>rw[hq]at h; simp at h
  |some o=>
   obtain⟨k,hk⟩:=ni hq
   exact⟨k,fun d=>by rw[hk d]; rw[hq]at h; exact h⟩
 intro c
 induction c with
 |seq x y _ Jc=>
  intro s r h
  simp only[ze]at h ⊢
  cases hd:sP x with
  |some q=>
   obtain⟨ops,v⟩:=q
   rw[hd]at h
   simp only at h ⊢
   split at h
   case h_2=>simp at h
   rename_i s1 hr
   rw[←jG]at hr
   obtain⟨k1,Pd⟩:=(bh (dV ops _ s)).1 hr
   have h1:=(dV (C:=C) ops _ s).le Pd
   split at h
   case h_2=>simp at h
   rename_i q cy
   cases hq:cQ C y s1 with
   |none=>rw[hq]at h; simp at h
   |some o=>
    obtain⟨k2,Ek⟩:=ni hq
    refine⟨k1+k2,fun d=>?_⟩
    rw[show k1+k2+d=k1+(k2+d) by omega,h1]
    simp only[cy]
    rw[show k1+(k2+d)=k2+(k1+d) by omega,Ek]
    rw[hq]at h; exact h
  |none=>
   rw[hd]at h
   simp only at h ⊢
   split at h
   ·rename_i s' hx
    obtain⟨k1,Pd⟩:=ni hx
    obtain⟨k2,Ek⟩:=Jc _ _ h
    refine⟨k1+k2,fun d=>?_⟩
    rw[show k1+k2+d=k1+(k2+d) by omega,Pd]
    have:=Ek (k1+d)
    rw[show k2+(k1+d)=k1+(k2+d) by omega]at this
    exact this
   ·rename_i o dK hx
    obtain⟨k1,Pd⟩:=ni hx
    refine⟨k1,fun d=>?_⟩
    rw[Pd d]
    cases o with
    |norm s'=>exact(dK s' rfl).elim
    |_=>exact h
   ·simp at h
 |_=>intro s r h; simp only[ze]at h ⊢; exact leaf _ _ _ h
theorem B0[ab]{P:Program}{rs:List ResultVar}{fr:List AV}{hp:ag}{d:Option AV}{r:nM×ag}(h:tZ (cQ C) P rs fr hp d=some r):∃ k,∀ j,tZ (fun c s=>bQ C (k+j) c s) P rs fr hp d=some r:=by
 cases d with
 |none=>exact⟨0,fun _=>h⟩
 |some v=>
  simp only[tZ]at h ⊢
  split at h
  ·simp at h
  rename_i g as cy
  split at h
  ·simp at h
  rename_i fg My
  split at h
  ·simp at h
  rename_i cg Mz
  cases hn:cx cg with
  |false=>rw[hn]at h; simp at h
  |true=>
   rw[hn]at h
   cases hq:cQ C (nQ cg) ⟨g,as++List.replicate (fg.ntmps-as.length) .undef,hp⟩ with
   |none=>rw[hq]at h; simp at h
   |some o=>
    obtain⟨k,hk⟩:=ni hq
    exact⟨k,fun j=>by simp only[My,Mz,hn,hk j]; rw[hq]at h; exact h⟩
theorem Jg[ab]{f:FuncId}{fn:Func}{c:Code}(hf:C.P.funcs[f]?=some fn)(hb:fn.body=some c){args:List AV}{hp:ag}(hD:BI c=true){r:nM×ag}
  (h:ua (cQ C) (ie C) C.P fn.results.toList c ⟨f,args++List.replicate (fn.ntmps-args.length) .undef,hp⟩=some r):ky C f args hp=some r:=by
 suffices hs:∃ k,ua (fun c s=>bQ C k c s) (fun o s=>fF C k o s) C.P fn.results.toList c ⟨f,args++List.replicate (fn.ntmps-args.length) .undef,hp⟩=some r by
  obtain⟨k,hk⟩:=hs
  exact(bh (mo C f args hp)).2 ⟨k+1,by simp only[lX,hf,hb,hD]; exact hk⟩
 unfold ua at h
 split at h
 ·rename_i s' d hn he
  obtain⟨k1,h1⟩:=AE _ _ _ he
  obtain⟨k2,h2⟩:=B0 h
  refine⟨k1+k2,?_⟩
  unfold ua
  rw[h1 k2,hn]
  have:=h2 k1
  rw[show k2+k1=k1+k2 by omega]at this
  exact this
 ·rename_i s' d hn he
  obtain⟨k1,h1⟩:=AE _ _ _ he
  obtain⟨k2,h2⟩:=B0 h
  refine⟨k1+k2,?_⟩
  unfold ua
  rw[h1 k2,hn]
  have:=h2 k1
  rw[show k2+k1=k1+k2 by omega]at this
  exact this
 ·rename_i v s' hn he
  obtain⟨k1,h1⟩:=AE _ _ _ he
  refine⟨k1+0,?_⟩
  unfold ua
  rw[h1 0,hn]
  exact h
 ·simp at h
def nj(hp:ag)(args:List AV)(q:nM×ag):Option (nM×List (Nat×aL)):=(gh args q.2 q.1).run hp
theorem MA[ab](g:FuncId)(hi:C.kv g=none)(args:List AV)(hp:ag):
  Jd C g args hp=((aM 1000 args).run hp).bind fun as=>(ky C g as []).bind (nj hp args):=by
 have h1:∀ k,(k6 C (k+1) g args).run hp=((aM 1000 args).run hp).bind fun as=>(lX C k g as []).bind (nj hp args):=by
  intro k
  rw[k6,RM.run_bind]
  congr 1
  funext as
  rw[hi]
  simp only
  cases hq:lX C k g as [] with
  |none=>rfl
  |some q=>rfl
 cases hs:(aM 1000 args).run hp with
 |none=>exact bU (BX C _ _ _) (by simp[k6,RM.ae]) fun k=>by rw[h1,hs]; rfl
 |some as=>
  refine ep (BX C _ _ _) (mo C g as []) (by simp[k6,RM.ae]) fun k=>?_
  rw[h1,hs]; rfl
theorem G6[ab](g:FuncId){h:List AV→Option AV}(hi:C.kv g=some h)(args:List AV)(hp:ag):
  Jd C g args hp=((aM 1000 args).run hp).bind fun as=>(h as).bind fun r=>nj hp args (.val r,[]):=by
 refine bU (BX C _ _ _) (by simp[k6,RM.ae]) fun k=>?_
 rw[k6,RM.run_bind]
 congr 1
 funext as
 rw[hi]
 simp only
 cases hq:h as with
 |none=>rfl
 |some q=>rfl
def Jh(o:Oper)(s:St):nM×List (Nat×aL)→Option Out
 |(.val r,wr)=>some (.norm { s with fr:=bC s.fr o.dst r,hp:=ak s.hp wr })
 |(.jS v,wr)=>some (.jS v { s with hp:=ak s.hp wr })
def FY(o:Oper)(s:St):nM×ag→Option Out
 |(.val r,hp)=>some (.norm { s with fr:=bC s.fr o.dst r,hp:=gH s.hp.length r hp })
 |(.jS v,hp)=>some (.jS v { s with hp:=gH s.hp.length v hp })
def gC(o:Oper)(s:St)(e:dm):Option Out:=some (.norm { s with fr:=bC s.fr o.dst e.val,hp:=ak s.hp e.wr })
def pk(nm:Nat)(lg:List Nat)(hp:ag):nM×ag→Option (dm×List Nat)
 |(.val r,hJ)=>((fN nm r hJ).run hp).map fun e=>(e,lg)
 |_=>none
noncomputable def El[ab](C:Ctx)(nm:Nat)(g:FuncId)(args:List AV)(hp:ag):Option (dm×List Nat):=
 ((aM 1000 args).run hp).bind fun as=>match C.iU g with
   |some h=>(h as).bind fun q=>((fN nm q.1 q.2).run hp).map fun e=>(e,(aM 1000 args).log hp)
   |none=>(ky C g as []).bind (pk nm ((aM 1000 args).log hp) hp)
theorem xf{nm:Nat}{r:AV}{hJ hp:ag}:(fN nm r hJ).log hp=[]:=by
 unfold fN
 split
 ·split
  ·split<;>rfl
  ·rfl
 ·rfl
theorem zu[ab]{F:List AV→Option (nM×ag)}{nm:Nat}{g:FuncId}{args:List AV}{hp:ag}:
  ((ia C F nm g args).run hp).map (fun e=>(e,(ia C F nm g args).log hp))=((aM 1000 args).run hp).bind fun as=>match C.iU g with
    |some h=>(h as).bind fun q=>((fN nm q.1 q.2).run hp).map fun e=>(e,(aM 1000 args).log hp)
    |none=>(F as).bind (pk nm ((aM 1000 args).log hp) hp):=by
 unfold ia
 rw[RM.run_bind,RM.ek]
 cases hs:(aM 1000 args).run hp with
 |none=>rfl
 |some as=>
  simp only[Option.bind_some]
  cases hi:C.iU g with
  |some h=>
   simp only
   cases hh:h as with
   |none=>rfl
   |some q=>simp only[Option.bind_some,xf,List.append_nil]
  |none=>
   simp only
   cases hq:F as with
   |none=>rfl
   |some q=>
    obtain⟨r,hJ⟩:=q
    cases r with
    |val v=>simp only[Option.bind_some,pk,xf,List.append_nil]
    |jS v=>rfl
theorem Em[ab]{F:List AV→Option (nM×ag)}{nm:Nat}{g:FuncId}{args:List AV}{hp:ag}:
  (ia C F nm g args).run hp=(((aM 1000 args).run hp).bind fun as=>match C.iU g with
    |some h=>(h as).bind fun q=>((fN nm q.1 q.2).run hp).map fun e=>(e,(aM 1000 args).log hp)
    |none=>(F as).bind (pk nm ((aM 1000 args).log hp) hp)).map Prod.fst:=by
 rw[←zu]
 cases (ia C F nm g args).run hp<;>rfl
noncomputable def ri[ab](C:Ctx)(o:Oper)(s:St):FuncId×List AV→Option Out
 |(g,args)=>match au o.op with
  |true=>(El C s.hp.length g args s.hp).bind fun q=>gC o s q.1
  |false=>match C.kind g with
   |.pure=>(Jd C g args s.hp).bind (Jh o s)
   |.imp=>(ky C g args s.hp).bind (FY o s)
theorem B1{run:Code→St→Option Out}{ev:Nat→Code→St→Option Out}(hg:∀ c s,fG fun k=>ev k c s)(hl:∀ c s r,run c s=some r→∃ k,ev k c s=some r)
  {n:Nat} {args:List AV} {dst:Option Tmp} {s:St} {r:Out} (hy:gI run n args dst s=some r):∃ k,gI (ev k) n args dst s=some r:=by
 unfold gI at hy ⊢
 split at hy
 case h_2=>simp at hy
 rename_i fn ps as bd fr ho
 split at hy
 case h_2=>simp at hy
 rename_i hc
 split at hy
 case h_2=>simp at hy
 rename_i s1 h1
 obtain⟨k1,e1⟩:=hl _ _ _ h1
 split at hy
 case h_2=>simp at hy
 rename_i h2
 have two:∀ o,run bd { s1 with hp:=oF s1.hp n .busy }=some o→∃ k,ev k as ⟨fn,fE fr ps.toList args,s.hp⟩=some (.norm s1)∧ev k bd { s1 with hp:=oF s1.hp n .busy }=some o:=by
  intro o h3
  obtain⟨k2,e2⟩:=hl _ _ _ h3
  exact⟨k1+k2,(hg _ _).le e1 k2,by rw[Nat.add_comm]; exact(hg _ _).le e2 k1⟩
 split at hy
 ·rename_i s2 h3
  obtain⟨k,a,b⟩:=two _ h3
  exact⟨k,by simp only[a,h2,b]; exact hy⟩
 ·rename_i id s2 h3
  obtain⟨k,a,b⟩:=two _ h3
  exact⟨k,by simp only[a,h2,b]; exact hy⟩
 ·rename_i s2 h3
  obtain⟨k,a,b⟩:=two _ h3
  exact⟨k,by simp only[a,h2,b]; exact hy⟩
 ·simp at hy
noncomputable def Ji[ab](C:Ctx)(o:Oper)(s:St)(args:List AV):AV→Option Out
 |.mp true n=>gI (fun c s=>cQ C c s) n args o.dst s
 |_=>none
noncomputable def nV[ab](C:Ctx)(o:Oper)(s:St)(args:List AV)(fv:AV):Option (FuncId×List AV)→Option Out
 |some q=>ri C o s q
 |none=>Ji C o s args fv
noncomputable def Rm[ab](s:St):nM×ag→Option Out
 |(.val _,wj)=>vk s s.hp.length wj
 |_=>none
theorem En[ab](f:Operand)(ps:Array Tmp)(as bd:Code)(s:St):cQ C (.rangeFunc f ps as bd) s =
  (bA (az s.fr f) [.mp true s.hp.length]).bind fun q=>(ky C q.1 q.2 (s.hp++[some (.gf (.loop s.fn ps as bd .ready) (tY as bd s.fr))])).bind (Rm s):=by
 cases hr:bA (az s.fr f) [.mp true s.hp.length] with
 |none=>exact bU (dG C _ _) (by simp[bQ]) fun k=>by simp only[bQ,hr]; rfl
 |some q=>
  obtain⟨g,args⟩:=q
  simp only[Option.bind_some]
  refine ep (dG C _ _) (mo C g args _) (by simp[bQ]) fun k=>?_
  simp only[bQ,hr]
  cases hq:lX C k g args (s.hp++[some (.gf (.loop s.fn ps as bd .ready) (tY as bd s.fr))]) with
  |none=>rfl
  |some q=>obtain⟨r,wj⟩:=q; cases r<;>rfl
theorem nk[ab]{dst:Option Tmp}{f:Operand}{args:Array Operand}{mh:Array TypeId}{type:TypeId}{pos:String}{after:Array Edge}{guard:Option (Nat×Bool)}(s:St):
  ie C ⟨dst,.call ⟨.value f,args,mh⟩,type,pos,after,guard⟩ s=nV C ⟨dst,.call ⟨.value f,args,mh⟩,type,pos,after,guard⟩ s (args.toList.map (az s.fr)) (az s.fr f)
   (bA (az s.fr f) (args.toList.map (az s.fr))):=by
 cases hr:bA (az s.fr f) (args.toList.map (az s.fr)) with
 |none=>
  simp only[nV,Ji]
  split
  ·rename_i n hn
   have dF:∀ k,fF C (k+1) ⟨dst,.call ⟨.value f,args,mh⟩,type,pos,after,guard⟩ s=gI (fun c s=>bQ C k c s) n (args.toList.map (az s.fr)) dst s:=fun k=>by simp only[fF,hr]; rw[hn]
   apply kQ (jy C _ _)
   ·intro k x hx
    cases k with
    |zero=>simp[fF]at hx
    |succ k=>
     rw[dF]at hx
     exact vq (fun c s r h=>(bh (dG C c s)).2 ⟨k,h⟩) hx
   ·intro x hx
    obtain⟨k,hk⟩:=B1 (fun c s=>dG C c s) (fun c s r h=>(bh (dG C c s)).1 h) hx
    exact⟨k+1,by rw[dF]; exact hk⟩
  ·rename_i dK
   refine bU (jy C _ _) (by simp[fF]) fun k=>?_
   simp only[fF,hr]
 |some q=>
  obtain⟨g,as⟩:=q
  simp only[nV,ri]
  cases pj:au (Op.call ⟨.value f,args,mh⟩) with
  |true=>
   have dF:∀ k,fF C (k+1) ⟨dst,.call ⟨.value f,args,mh⟩,type,pos,after,guard⟩ s =
     (((aM 1000 as).run s.hp).bind fun nW=>match C.iU g with
       |some h=>(h nW).bind fun q=>((fN s.hp.length q.1 q.2).run s.hp).map fun e=>(e,(aM 1000 as).log s.hp)
       |none=>(lX C k g nW []).bind (pk s.hp.length ((aM 1000 as).log s.hp) s.hp)).bind fun q=>gC ⟨dst,.call ⟨.value f,args,mh⟩,type,pos,after,guard⟩ s q.1:=by
    intro k
    simp only[fF,hr,pj,Em]
    cases (((aM 1000 as).run s.hp).bind fun nW=>match C.iU g with
      |some h=>(h nW).bind fun q=>((fN s.hp.length q.1 q.2).run s.hp).map fun e=>(e,(aM 1000 as).log s.hp)
      |none=>(lX C k g nW []).bind (pk s.hp.length ((aM 1000 as).log s.hp) s.hp))<;>rfl
   simp only[El]
   cases hs:(aM 1000 as).run s.hp with
   |none=>exact bU (jy C _ _) (by simp[fF]) fun k=>by rw[dF,hs]; rfl
   |some nW=>
    simp only[Option.bind_some]
    cases hi:C.iU g with
    |some h=>exact bU (jy C _ _) (by simp[fF]) fun k=>by rw[dF,hs]; simp only[Option.bind_some,hi]
    |none=>
     simp only[Option.bind_assoc]
     refine ep (jy C _ _) (mo C g nW []) (by simp[fF]) fun k=>?_
     rw[dF,hs]
     simp only[Option.bind_some,hi,Option.bind_assoc]
  |false=>
  simp only
  cases hk:C.kind g with
  |pure=>
   refine ep (jy C _ _) (BX C g as s.hp) (by simp[fF]) fun k=>?_
   simp only[fF,hr,pj,hk]
   cases hq:(k6 C k g as).run s.hp with
   |none=>rfl
   |some q=>obtain⟨r,wr⟩:=q; cases r<;>rfl
  |imp=>
   refine ep (jy C _ _) (mo C g as s.hp) (by simp[fF]) fun k=>?_
   simp only[fF,hr,pj,hk]
   cases hq:lX C k g as s.hp with
   |none=>rfl
   |some q=>obtain⟨r,wr⟩:=q; cases r<;>rfl
theorem zw[ab]{dst:Option Tmp}{rv:Operand}{name:String}{args:Array Operand}{mh:Array TypeId}{type:TypeId}{pos:String}{after:Array Edge}{guard:Option (Nat×Bool)}(s:St):
  ie C ⟨dst,.call ⟨.invoke rv name,args,mh⟩,type,pos,after,guard⟩ s=(pa C.P (az s.fr rv) name).bind fun q=>ri C ⟨dst,.call ⟨.invoke rv name,args,mh⟩,type,pos,after,guard⟩ s (q.1,q.2::args.toList.map (az s.fr)):=by
 cases hr:pa C.P (az s.fr rv) name with
 |none=>exact bU (jy C _ _) (by simp[fF]) fun k=>by simp only[fF,hr]; rfl
 |some q=>
  obtain⟨g,x⟩:=q
  simp only[Option.bind_some,ri]
  have pj:au (Op.call ⟨.invoke rv name,args,mh⟩)=false:=rfl
  rw[pj]
  simp only
  cases hk:C.kind g with
  |pure=>
   refine ep (jy C _ _) (BX C g _ s.hp) (by simp[fF]) fun k=>?_
   simp only[fF,hr,hk]
   cases hq:(k6 C k g (x::args.toList.map (az s.fr))).run s.hp with
   |none=>rfl
   |some q=>obtain⟨r,wr⟩:=q; cases r<;>rfl
  |imp=>
   refine ep (jy C _ _) (mo C g _ s.hp) (by simp[fF]) fun k=>?_
   simp only[fF,hr,hk]
   cases hq:lX C k g (x::args.toList.map (az s.fr)) s.hp with
   |none=>rfl
   |some q=>obtain⟨r,wr⟩:=q; cases r<;>rfl
def qi:Op→Bool
 |.call c=>match c.callee with
  |.builtin _=>true
  |_=>false
 |.assign (.const (.slice none 0 0))=>false
 |_=>true
def FZ(C:Ctx)(o:Oper)(s:St)(e:dm):Option Out:=some (.norm (BH (match o.op with|.call _=>fun _=>[]|_=>C.qR s.fn) o.dst { s with fr:=bC s.fr o.dst e.val,hp:=ak s.hp e.wr }))
theorem xg{dst:Option Tmp}{s:St}:BH (fun _=>[]) dst s=s:=by cases dst<;>rfl
theorem xh[ab]{o:Oper}(h:qi o.op=true)(s:St):ie C o s=((aK C.P s.hp.length (az s.fr) o).run s.hp).bind (FZ C o s):=by
 refine bU (jy C _ _) (by simp[fF]) fun k=>?_
 obtain⟨dst,op,type,pos,after,guard⟩:=o
 rw[fF]
 split
 ·grind[FZ,xg,qi]
 ·simp_all[qi]
 ·grind[FZ]
class jH(C:Ctx):Prop where
 h:C.qR=fun _ _=>[]
 iq:C.iq=fun _ _=>[]
theorem eJ[ab][jH C]{o:Oper}(h:qi o.op=true)(s:St):ie C o s=((aK C.P s.hp.length (az s.fr) o).run s.hp).bind (gC o s):=by
 rw[xh h]
 congr 1
 funext e
 have hl:(match o.op with|.call _=>fun _=>[]|_=>C.qR s.fn)=fun _=>[]:=by
  rw[jH.h (C:=C)]; cases o.op<;>rfl
 simp only[FZ,hl,xg,gC]
theorem Jj[ab]{dst:Tmp}{type:TypeId}{pos:String}{after:Array Edge}{guard:Option (Nat×Bool)}(s:St):
  ie C ⟨some dst,.assign (.const (.slice none 0 0)),type,pos,after,guard⟩ s =
   cond (C.acc s.fn dst) ((aN C.P type).bind fun r=>if 0<r.size then some (.norm { s with fr:=s.fr.set dst (.bq r.size s.hp.length 0 0 0 none),hp:=s.hp++[some (.arr true true false [])] }) else none)
    (some (.norm { s with fr:=s.fr.set dst (.lit cK) })):=by
 refine bU (jy C _ _) (by simp[fF]) fun k=>?_
 simp only[fF]
 cases C.acc s.fn dst with
 |true=>
  simp only[if_true,cond_true]
  cases aN C.P type<;>rfl
 |false=>rfl
end Go.PI
end
section
/- PI, drawn regions without fuel. -/
namespace Go.PI
variable {C:Ctx}
noncomputable def B2[ab](C:Ctx)(nm:Nat)(o:Oper)(fr:List AV)(hp:ag):Option (dm×List Nat):=
 lY fun k=>((ir C k nm o fr).run hp).map fun e=>(e,(ir C k nm o fr).log hp)
theorem F0[ab](C:Ctx)(nm:Nat)(o:Oper)(fr:List AV)(hp:ag):fG fun k=>((ir C k nm o fr).run hp).map fun e=>(e,(ir C k nm o fr).log hp):=by
 intro k x h
 simp only at h ⊢
 cases hq:(ir C k nm o fr).run hp with
 |none=>rw[hq]at h; simp at h
 |some e=>
  obtain⟨h1,h2⟩:=(mono C k).e nm o fr hp e hq
  rw[hq]at h
  rw[h1,h2]
  exact h
def Pe[ab](x:Item)(s:St):dm×List Nat→Option (St×fq)
 |(e,lg)=>
  if e.wr.all (fun q=>decide (q.1<s.hp.length)&&((au x.o.op&&decide (q.1=x.nm))||(match s.hp[q.1]? with|some (some _)=>true|_=>false)))=true then
   some ({ s with fr:=bC s.fr x.o.dst e.val,hp:=ak s.hp e.wr },⟨x.idx,lg,e.wr.map (·.1)⟩)
  else none
noncomputable def B3[ab](C:Ctx)(ops:Array Oper)(x:Item)(s:St):Option (St×fq):=
 match cF ops s.fr x.o with
 |none=>none
 |some false=>some ({ s with fr:=bC s.fr x.o.dst .undef },⟨x.idx,[],[]⟩)
 |some true=>(B2 C (x.at s.hp.length) x.o s.fr s.hp).bind (Pe x s)
noncomputable def sX[ab](C:Ctx)(ops:Array Oper):List Item→St→Option (St×List fq)
 |[],s=>some (s,[])
 |x::rest,s=>(B3 C ops x s).bind fun q=>(sX C ops rest q.1).map fun q'=>(q'.1,q.2::q'.2)
theorem xi[ab](ops:Array Oper)(x:Item)(s:St):fG fun k=>eZ (fun nm o fr=>ir C k nm o fr) ops x s:=
 fun k r h=>xd (fun nm o fr hp=>(mono C k).e nm o fr hp) ops x s r h
theorem pn[ab](ops:Array Oper)(l:List Item)(s:St):fG fun k=>cr (fun nm o fr=>ir C k nm o fr) ops l s:=
 fun k r h=>nU (fun nm o fr hp=>(mono C k).e nm o fr hp) ops l s r h
theorem F1[ab]{α β:Type}{a:Nat→Option α}(ha:fG a)(f:α→Option β):lY (fun k=>(a k).bind f)=(lY a).bind f:=by
 apply kQ
 ·intro k x h
  cases hq:a k with
  |none=>simp[hq]at h
  |some y=>
   have h2:=ha k y hq
   simp only[hq]at h
   simp only[h2]
   exact h
 ·intro k x h
  cases hq:a k with
  |none=>simp[hq]at h
  |some y=>simp only[hq]at h; rw[(bh ha).2 ⟨k,hq⟩]; exact h
 ·intro x h
  cases hq:lY a with
  |none=>rw[hq]at h; simp at h
  |some y=>
   rw[hq]at h
   obtain⟨k,hk⟩:=(bh ha).1 hq
   exact⟨k,by rw[hk]; exact h⟩
theorem G7[ab](ops:Array Oper)(x:Item)(s:St):lY (fun k=>eZ (fun nm o fr=>ir C k nm o fr) ops x s)=B3 C ops x s:=by
 unfold B3
 cases hw:cF ops s.fr x.o with
 |none=>simp only[eZ,hw]; exact gk _
 |some b=>
  cases b with
  |false=>simp only[eZ,hw]; exact gk _
  |true=>
   rw[show (fun k=>eZ (fun nm o fr=>ir C k nm o fr) ops x s)=fun k=>(((ir C k (x.at s.hp.length) x.o s.fr).run s.hp).map fun e=>(e,(ir C k (x.at s.hp.length) x.o s.fr).log s.hp)).bind (Pe x s) from ?_]
   ·exact F1 (F0 C (x.at s.hp.length) x.o s.fr s.hp) _
   ·funext k
    simp only[eZ,hw]
    cases hq:(ir C k (x.at s.hp.length) x.o s.fr).run s.hp<;>rfl
theorem po[ab](ops:Array Oper):∀ (l:List Item) (s:St),lY (fun k=>cr (fun nm o fr=>ir C k nm o fr) ops l s)=sX C ops l s
 |[],s=>gk _
 |x::l,s=>by
  simp only[sX]
  rw[←G7]
  apply kQ (pn ops (x::l) s)
  ·intro k r h
   simp only[cr]at h
   cases hq:eZ (fun nm o fr=>ir C k nm o fr) ops x s with
   |none=>rw[hq]at h; simp at h
   |some q=>
    obtain⟨s1,f⟩:=q
    rw[hq]at h
    simp only at h
    rw[(bh (xi ops x s)).2 ⟨k,hq⟩]
    cases hd:cr (fun nm o fr=>ir C k nm o fr) ops l s1 with
    |none=>rw[hd]at h; simp at h
    |some q2=>
     rw[hd]at h
     simp only[Option.bind_some]
     rw[←po ops l s1,(bh (pn ops l s1)).2 ⟨k,hd⟩]
     exact h
  ·intro r h
   cases hq:lY (fun k=>eZ (fun nm o fr=>ir C k nm o fr) ops x s) with
   |none=>rw[hq]at h; simp at h
   |some q=>
    obtain⟨s1,f⟩:=q
    rw[hq]at h
    simp only[Option.bind_some]at h
    rw[←po ops l s1]at h
    cases hd:lY (fun k=>cr (fun nm o fr=>ir C k nm o fr) ops l s1) with
    |none=>rw[hd]at h; simp at h
    |some q2=>
     rw[hd]at h
     obtain⟨k1,h1⟩:=(bh (xi ops x s)).1 hq
     obtain⟨k2,h2⟩:=(bh (pn ops l s1)).1 hd
     have h3:=(xi ops x s).le h1 k2
     have h4:=(pn ops l s1).le h2 k1
     rw[Nat.add_comm]at h4
     refine⟨k1+k2,?_⟩
     simp only[cr]
     rw[h3]
     simp only
     rw[h4]
     exact h
noncomputable def F2[ab](C:Ctx)(ops:Array Oper)(m:Nat)(q:St×List fq):Option Out:=
 if (eQ (bZ ops.toList) q.2&&mH (bZ ops.toList) ops.size m)=true then cE (ie C) ops (ops.toList.drop m) q.1 else none
theorem G8[ab](id:Nat)(ops:Array Oper)(h:sO ops=true)(s:St):cQ C (.region id ops true) s =
  (sX C ops (bD 0 s.hp.length (ops.toList.take (C.head s.fn id ops))) { gF (C.iq s.fn id) s with hp:=(gF (C.iq s.fn id) s).hp++List.replicate ((ops.toList.take (C.head s.fn id ops)).filter fun o=>au o.op).length none }).bind (F2 C ops (C.head s.fn id ops)):=by
 rw[←po]
 refine Eq.trans (sW (dG C (.region id ops true) s) (pn ops _ _) (b:=fun q k=>if (eQ (bZ ops.toList) q.2&&mH (bZ ops.toList) ops.size (C.head s.fn id ops))=true then
   cE (fun o s=>fF C k o s) ops (ops.toList.drop (C.head s.fn id ops)) q.1 else none) (fun q=>by
    by_cases hc:(eQ (bZ ops.toList) q.2&&mH (bZ ops.toList) ops.size (C.head s.fn id ops))=true
    ·simp only[hc,if_true]; exact dV ops _ _
    ·simp only[hc]; exact mr _) (by simp[bQ]) (fun k=>by
   simp only[bQ,h,if_true]
   cases hq:cr (fun nm o fr=>ir C k nm o fr) ops (bD 0 s.hp.length (ops.toList.take (C.head s.fn id ops))) { gF (C.iq s.fn id) s with hp:=(gF (C.iq s.fn id) s).hp++List.replicate ((ops.toList.take (C.head s.fn id ops)).filter fun o=>au o.op).length none } with
   |none=>rfl
   |some q=>rfl)) ?_
 congr 1
 funext q
 unfold F2
 by_cases hc:(eQ (bZ ops.toList) q.2&&mH (bZ ops.toList) ops.size (C.head s.fn id ops))=true
 ·simp only[hc,if_true]; exact jG ops _ _
 ·simp only[hc]; exact gk _
theorem Eo[ab]{o:Oper}(h:∀ c f,o.op=.call c→c.callee=.value f→False)(h2:∀ c m i,o.op=.call c→c.callee=.invoke m i→False)(nm:Nat)(fr:List AV)(hp:ag):
  B2 C nm o fr hp=((aK C.P nm (az fr) o).run hp).map fun e=>(e,(aK C.P nm (az fr) o).log hp):=by
 refine bU (F0 C _ _ _ _) (by simp[ir,RM.ae]) fun k=>?_
 obtain⟨dst,op,type,pos,after,guard⟩:=o
 cases op with
 |call c=>
  obtain⟨callee,args,mh⟩:=c
  cases callee with
  |builtin b=>simp only[ir]
  |value f=>exact(h _ _ rfl rfl).elim
  |invoke m i=>exact(h2 _ _ _ rfl rfl).elim
 |_=>simp only[ir]
def Jk(hp:ag)(args:List AV)(q:nM×ag):List Nat:=(aM 1000 args).log hp++(gh args q.2 q.1).log hp
def np(hp:ag)(args:List AV)(q:nM×ag):Option (dm×List Nat):=
 (nj hp args q).bind fun r=>match r.1 with
   |.val v=>some (⟨v,r.2⟩,Jk hp args q)
   |.jS _=>none
noncomputable def pq[ab](C:Ctx)(nm:Nat)(al:Bool)(hp:ag):FuncId×List AV→Option (dm×List Nat)
 |(g,args)=>match al with
  |true=>El C nm g args hp
  |false=>match C.kind g with
  |.pure=>match C.kv g with
   |some h=>((aM 1000 args).run hp).bind fun as=>(h as).bind fun r=>np hp args (.val r,[])
   |none=>((aM 1000 args).run hp).bind fun as=>(ky C g as []).bind (np hp args)
  |.imp=>(match C.rb g with
   |some h=>((h args).run hp).map fun e=>(e,(h args).log hp)
   |none=>((yG C.P nm g args).run hp).map fun e=>(e,(yG C.P nm g args).log hp))
theorem Jl[ab]{hp:ag}{args as:List AV}{g:FuncId}{k:Nat}(hs:(aM 1000 args).run hp=some as)(hi:C.kv g=none){q:nM×ag}(hq:lX C k g as []=some q):
  (((k6 C (k+1) g args >>= fun (x:nM×List (Nat×aL))=>match x.1 with|.val r=>(pure ⟨r,x.2⟩:RM dm)|.jS _=>RM.fail).run hp).map fun e=>(e,(k6 C (k+1) g args >>= fun (x:nM×List (Nat×aL))=>match x.1 with|.val r=>(pure ⟨r,x.2⟩:RM dm)|.jS _=>RM.fail).log hp))=np hp args q:=by
 have h1:(k6 C (k+1) g args).run hp=nj hp args q:=by
  rw[k6,RM.run_bind,hs]
  simp only[Option.bind_some,hi,hq]
  rfl
 have h2:(k6 C (k+1) g args).log hp=Jk hp args q:=by
  rw[k6,RM.ek,hs]
  simp only[hi,hq]
  rfl
 rw[RM.run_bind,RM.ek,h1,h2]
 unfold np
 cases cq:nj hp args q with
 |none=>rfl
 |some r=>
  obtain⟨r,wr⟩:=r
  cases r with
  |val v=>simp only[Option.bind_some,pure,RM.log,List.append_nil]; rfl
  |jS v=>rfl
theorem xj[ab]{o:Oper}{nm:Nat}{fr:List AV}{hp:ag}{g:FuncId}{as:List AV}(hk:C.kind g=.pure)
  (nX:∀ k,ir C (k+1) nm o fr=(k6 C k g as >>= fun (x:nM×List (Nat×aL))=>match x.1 with|.val r=>(pure ⟨r,x.2⟩:RM dm)|.jS _=>RM.fail)) :
  B2 C nm o fr hp=pq C nm false hp (g,as):=by
 have hg:=F0 C nm o fr hp
 have hz:((ir C 0 nm o fr).run hp).map (fun e=>(e,(ir C 0 nm o fr).log hp))=none:=by
  simp[ir,RM.ae]
 simp only[pq,hk]
 cases hs:(aM 1000 as).run hp with
 |none=>
  have bg:∀ k,(k6 C k g as).run hp=none:=by
   intro k
   cases k with
   |zero=>simp[k6,RM.ae]
   |succ k=>rw[k6,RM.run_bind,hs]; rfl
  have:(match C.kv g with
    |some h=>(none:Option (List AV)).bind fun nW=>(h nW).bind fun r=>np hp as (.val r,[])
    |none=>(none:Option (List AV)).bind fun nW=>(ky C g nW []).bind (np hp as))=none:=by cases C.kv g<;>rfl
  rw[this]
  refine bU hg hz fun k=>?_
  rw[nX,RM.run_bind,bg]; rfl
 |some nW=>
  cases hi:C.kv g with
  |some h=>
   simp only[Option.bind_some]
   have h1:∀ k,(k6 C (k+1) g as).run hp=(h nW).bind fun r=>nj hp as (.val r,[]):=by
    intro k
    rw[k6,RM.run_bind,hs]
    simp only[Option.bind_some,hi]
    cases h nW<;>rfl
   have h2:∀ k,(k6 C (k+1) g as).log hp=(aM 1000 as).log hp++(match h nW with|some r=>(gh as [] (.val r)).log hp|none=>[]):=by
    intro k
    rw[k6,RM.ek,hs]
    simp only[hi]
    cases h nW<;>rfl
   have h3:∀ k,((ir C (k+1+1) nm o fr).run hp).map (fun e=>(e,(ir C (k+1+1) nm o fr).log hp))=(h nW).bind fun r=>np hp as (.val r,[]):=by
    intro k
    rw[nX,RM.run_bind,RM.ek,h1,h2]
    cases hh:h nW with
    |none=>rfl
    |some r=>
     simp only[Option.bind_some,np]
     cases cq:nj hp as (.val r,[]) with
     |none=>rfl
     |some r=>
      obtain⟨r,wr⟩:=r
      cases r with
      |val v=>simp only[Option.bind_some,pure,RM.log,List.append_nil]; rfl
      |jS v=>rfl
   apply kQ hg
   ·intro k x hx
    match k with
    |0=>rw[hz]at hx; cases hx
    |1=>
     rw[nX,RM.run_bind]at hx
     simp[k6,RM.ae]at hx
    |k+2=>rw[←h3 k]; exact hx
   ·intro x hx
    exact⟨2,by rw[h3 0]; exact hx⟩
  |none=>
   simp only[Option.bind_some]
   have h3:∀ k,((ir C (k+1+1) nm o fr).run hp).map (fun e=>(e,(ir C (k+1+1) nm o fr).log hp))=(lX C k g nW []).bind (np hp as):=by
    intro k
    cases hq:lX C k g nW [] with
    |none=>
     rw[nX,RM.run_bind,k6,RM.run_bind,hs]
     simp only[Option.bind_some,hi,hq,RM.ae]
     rfl
    |some q=>
     rw[nX]
     exact Jl hs hi hq
   have hb:lY (fun k=>(lX C k g nW []).bind (np hp as))=(ky C g nW []).bind (np hp as):=F1 (mo C g nW []) _
   rw[←hb]
   apply kQ hg
   ·intro k x hx
    match k with
    |0=>rw[hz]at hx; cases hx
    |1=>
     rw[nX,RM.run_bind]at hx
     simp[k6,RM.ae]at hx
    |k+2=>
     rw[h3 k]at hx
     rw[hb]
     cases hq:lX C k g nW [] with
     |none=>rw[hq]at hx; simp at hx
     |some q=>rw[hq]at hx; rw[show ky C g nW []=some q from (bh (mo C g nW [])).2 ⟨k,hq⟩]; exact hx
   ·intro x hx
    rw[hb]at hx
    cases hq:ky C g nW [] with
    |none=>rw[hq]at hx; simp at hx
    |some q=>
     rw[hq]at hx
     obtain⟨k,hk⟩:=(bh (mo C g nW [])).1 hq
     exact⟨k+1+1,by rw[h3 k,hk]; exact hx⟩
theorem G9[ab]{dst:Option Tmp}{rv:Operand}{name:String}{args:Array Operand}{mh:Array TypeId}{type:TypeId}{pos:String}{after:Array Edge}{guard:Option (Nat×Bool)}{nm:Nat}{fr:List AV}{hp:ag}{g:FuncId}{x:AV}
  (hr:pa C.P (az fr rv) name=some (g,x)) (hk:C.kind g=.pure):B2 C nm ⟨dst,.call ⟨.invoke rv name,args,mh⟩,type,pos,after,guard⟩ fr hp=pq C nm false hp (g,x::args.toList.map (az fr)):=by
 refine xj hk fun k=>?_
 simp only[ir,hr,hk]
 congr 1
theorem um[ab]{dst:Option Tmp}{f:Operand}{args:Array Operand}{mh:Array TypeId}{type:TypeId}{pos:String}{after:Array Edge}{guard:Option (Nat×Bool)}(nm:Nat)(fr:List AV)(hp:ag):
  B2 C nm ⟨dst,.call ⟨.value f,args,mh⟩,type,pos,after,guard⟩ fr hp=(bA (az fr f) (args.toList.map (az fr))).bind (pq C nm (au (Op.call ⟨.value f,args,mh⟩)) hp):=by
 have hg:=F0 C nm ⟨dst,.call ⟨.value f,args,mh⟩,type,pos,after,guard⟩ fr hp
 have hz:((ir C 0 nm ⟨dst,.call ⟨.value f,args,mh⟩,type,pos,after,guard⟩ fr).run hp).map (fun e=>(e,(ir C 0 nm ⟨dst,.call ⟨.value f,args,mh⟩,type,pos,after,guard⟩ fr).log hp))=none:=by
  simp[ir,RM.ae]
 cases hr:bA (az fr f) (args.toList.map (az fr)) with
 |none=>exact bU hg hz fun k=>by simp only[ir,hr,RM.ae]; rfl
 |some q=>
  obtain⟨g,as⟩:=q
  simp only[Option.bind_some,pq]
  cases pj:au (Op.call ⟨.value f,args,mh⟩) with
  |true=>
   have dF:∀ k,((ir C (k+1) nm ⟨dst,.call ⟨.value f,args,mh⟩,type,pos,after,guard⟩ fr).run hp).map (fun e=>(e,(ir C (k+1) nm ⟨dst,.call ⟨.value f,args,mh⟩,type,pos,after,guard⟩ fr).log hp)) =
     ((aM 1000 as).run hp).bind fun nW=>match C.iU g with
       |some h=>(h nW).bind fun q=>((fN nm q.1 q.2).run hp).map fun e=>(e,(aM 1000 as).log hp)
       |none=>(lX C k g nW []).bind (pk nm ((aM 1000 as).log hp) hp):=by
    intro k
    have:=zu (C:=C) (F:=fun as=>lX C k g as []) (nm:=nm) (g:=g) (args:=as) (hp:=hp)
    simp only[ir,hr,pj]
    exact this
   simp only[El]
   cases hs:(aM 1000 as).run hp with
   |none=>exact bU hg hz fun k=>by rw[dF,hs]; rfl
   |some nW=>
    simp only[Option.bind_some]
    cases hi:C.iU g with
    |some h=>exact bU hg hz fun k=>by rw[dF,hs]; simp only[Option.bind_some,hi]
    |none=>
     refine ep hg (mo C g nW []) hz fun k=>?_
     rw[dF,hs]
     simp only[Option.bind_some,hi]
  |false=>
  simp only
  cases hk:C.kind g with
  |imp=>
   cases hi:C.rb g with
   |some h=>exact bU hg hz fun k=>by simp only[ir,hr,pj,hk,hi]
   |none=>exact bU hg hz fun k=>by simp only[ir,hr,pj,hk,hi]
  |pure=>
   rw[xj (g:=g) (as:=as) hk fun k=>by
    simp only[ir,hr,pj,hk]
    congr 1]
   simp only[pq,hk]
end Go.PI
end
section
/- PI, guards resolved. -/
namespace Go.PI
inductive G where
 |always
 |never
 |on (d:Tmp) (w:Bool)
def eR(ops:Array Oper)(o:Oper):G:=
 match o.guard with
 |none=>.always
 |some (j,w)=>match (ops[j]?).bind (·.dst) with
  |none=>.never
  |some d=>.on d w
def Rc(w:Bool):AV→Option Bool
 |.lit (.bool b)=>some (b==w)
 |.lit (.tuple _)=>some false
 |_=>none
def sR(fr:List AV):G→Option Bool
 |.always=>some true
 |.never=>some false
 |.on d w=>Rc w (fr.getD d .undef)
theorem BJ(ops:Array Oper)(fr:List AV)(o:Oper):cF ops fr o=sR fr (eR ops o):=by
 unfold cF eR
 cases o.guard with
 |none=>rfl
 |some q=>
  obtain⟨j,w⟩:=q
  simp only
  cases (ops[j]?).bind (·.dst) with
  |none=>rfl
  |some d=>
   simp only[sR,List.getD]
   cases hq:fr[d]? with
   |none=>rfl
   |some v=>
    simp only[Option.getD_some]
    cases v with
    |lit v=>cases v<;>rfl
    |_=>rfl
end Go.PI
end
section
/- PI, looking up in written-out frames. -/
namespace Go.PI
section
variable {α:Type}{x u v:AV}{l:List AV}{n:Nat}
theorem Mk:(x::l).getD 0 u=x:=rfl
theorem Ml:(x::l).getD (n+1) u=l.getD n u:=rfl
theorem Mn:(x::l).set 0 v=v::l:=rfl
theorem Mo:(x::l).set (n+1) v=x::l.set n v:=rfl
end
end Go.PI
end
section
/- PI, laws to compute by. -/
namespace Go.PI
abbrev int(n:Int):AV:=.lit (.int .i64 n)
abbrev bol(b:Bool):AV:=.lit (.bool b)
section
variable {P:Program}{t:TypeId}{xo yo:Operand}{k:IntKind}{a b:Int}
theorem eu{op:BinOp}{v w:Value}{α:Type}(K:Unit→Sem α)(h:∀ c,v≠.agg c)(h2:v≠.nilIface):
  bu P (eqGuard op t xo yo v w >>= K)=bu P (K ()):=by
 unfold eqGuard
 cases op<;>first
  |rfl
  |(cases v<;>first|rfl|exact absurd rfl (h _)|exact absurd rfl h2)
theorem qm[ab]:fp P .lss t xo yo (.lit (.int k a)) (.lit (.int k b))=some (bol (decide (a<b))):=by
 simp only[fp,ei,c8]; rw[eu _ (by simp) (by simp)]; simp[binOp,Op.intCmp]; rfl
theorem ME[ab]:fp P .leq t xo yo (.lit (.int k a)) (.lit (.int k b))=some (bol (decide (a≤b))):=by
 simp only[fp,ei,c8]; rw[eu _ (by simp) (by simp)]; simp[binOp,Op.intCmp]; rfl
theorem F6[ab]:fp P .gtr t xo yo (.lit (.int k a)) (.lit (.int k b))=some (bol (decide (b<a))):=by
 simp only[fp,ei,c8]; rw[eu _ (by simp) (by simp)]; simp[binOp,Op.intCmp]; rfl
theorem MF[ab]:fp P .geq t xo yo (.lit (.int k a)) (.lit (.int k b))=some (bol (decide (b≤a))):=by
 simp only[fp,ei,c8]; rw[eu _ (by simp) (by simp)]; simp[binOp,Op.intCmp]; rfl
theorem MG[ab]:fp P .eql t xo yo (.lit (.int k a)) (.lit (.int k b))=some (bol (decide (a=b))):=by
 simp only[fp,ei,c8]; rw[eu _ (by simp) (by simp)]; simp[binOp,Op.intCmp]; rfl
theorem MH[ab]:fp P .neq t xo yo (.lit (.int k a)) (.lit (.int k b))=some (bol (!decide (a=b))):=by
 simp only[fp,ei,c8]; rw[eu _ (by simp) (by simp)]; simp[binOp,Op.intCmp]; rfl
theorem AM[ab]:fp P .add t xo yo (.lit (.int k a)) (.lit (.int k b))=some (.lit (.int k (k.wrap (a+b)))):=by
 simp only[fp,ei,c8]; rw[eu _ (by simp) (by simp)]; simp[binOp,Op.intArith]; rfl
theorem F7[ab]:fp P .sub t xo yo (.lit (.int k a)) (.lit (.int k b))=some (.lit (.int k (k.wrap (a-b)))):=by
 simp only[fp,ei,c8]; rw[eu _ (by simp) (by simp)]; simp[binOp,Op.intArith]; rfl
theorem MI[ab]:fp P .mul t xo yo (.lit (.int k a)) (.lit (.int k b))=some (.lit (.int k (k.wrap (a*b)))):=by
 simp only[fp,ei,c8]; rw[eu _ (by simp) (by simp)]; simp[binOp,Op.intArith]; rfl
end
variable {C:Ctx}
noncomputable def tc[ab](C:Ctx):List (G×Oper)→St→Option Out
 |[],s=>some (.norm s)
 |(g,o)::l,s=>
  match sR s.fr g with
  |none=>none
  |some false=>tc C l { s with fr:=bC s.fr o.dst .undef }
  |some true=>(ie C o s).bind fun
   |.norm s'=>tc C l s'
   |r=>some r
def pw(ops:Array Oper):List (G×Oper):=ops.toList.map fun o=>(eR ops o,o)
theorem pz[ab](ops:Array Oper):∀ (l:List Oper) (s:St),cE (ie C) ops l s=tc C (l.map fun o=>(eR ops o,o)) s
 |[],s=>rfl
 |o::l,s=>by
  simp only[cE,List.map_cons,tc,BJ]
  cases hq:sR s.fr (eR ops o) with
  |none=>rfl
  |some b=>
   cases b with
   |false=>exact pz ops l _
   |true=>
    simp only
    cases ie C o s with
    |none=>rfl
    |some r=>
     cases r with
     |norm s'=>exact pz ops l s'
     |_=>rfl
theorem zC[ab](id:Nat)(ops:Array Oper)(s:St):cQ C (.region id ops false) s=tc C (pw ops) (gF (C.iq s.fn id) s):=by
 rw[BZ,pz]; rfl
theorem jd[ab][jH C](id:Nat)(ops:Array Oper)(s:St):cQ C (.region id ops false) s=tc C (pw ops) s:=by
 rw[zC,jH.iq (C:=C)]; rfl
theorem kf[ab](s:St):tc C [] s=some (.norm s):=rfl
noncomputable def Oh[ab](C:Ctx)(l:List (G×Oper)):Out→Option Out
 |.norm s=>tc C l s
 |r=>some r
theorem dW[ab](o:Oper)(l:List (G×Oper))(s:St):tc C ((.always,o)::l) s=(ie C o s).bind (Oh C l):=by
 simp only[tc,sR]
 congr 1
end Go.PI
namespace Go.PI
variable {C:Ctx}
theorem AN(hp:ag)(x:Option AV):(match x with|some x=>(pure ⟨x,[]⟩:RM dm)|none=>RM.fail).run hp=x.map fun x=>⟨x,[]⟩:=by
 cases x<;>rfl
section
variable {P:Program}{nm:Nat}{ev:Operand→AV}{dst:Option Tmp}{type:TypeId}{pos:String}{after:Array Edge}{guard:Option (Nat×Bool)}{hp:ag}
theorem n4{x:Operand}:(aK P nm ev ⟨dst,.move x,type,pos,after,guard⟩).run hp=some ⟨ev x,[]⟩:=rfl
theorem k8{x:Operand}:(aK P nm ev ⟨dst,.assign x,type,pos,after,guard⟩).run hp=some ⟨ev x,[]⟩:=rfl
theorem xy[ab]{op:BinOp}{t yt:TypeId}{x y:Operand}:(aK P nm ev ⟨dst,.binOp op t x y yt,type,pos,after,guard⟩).run hp=(fp P op t x y (ev x) (ev y)).map fun x=>⟨x,[]⟩:=AN _ _
end
section
variable {dst:Option Tmp}{type:TypeId}{pos:String}{after:Array Edge}{guard:Option (Nat×Bool)}{s:St}
theorem n5[ab][jH C]{x:Operand}:ie C ⟨dst,.move x,type,pos,after,guard⟩ s=((aK C.P s.hp.length (az s.fr) ⟨dst,.move x,type,pos,after,guard⟩).run s.hp).bind (gC ⟨dst,.move x,type,pos,after,guard⟩ s):=eJ rfl s
theorem F8[ab][jH C]{t:TypeId}{x:Operand}:ie C ⟨dst,.load t x,type,pos,after,guard⟩ s=((aK C.P s.hp.length (az s.fr) ⟨dst,.load t x,type,pos,after,guard⟩).run s.hp).bind (gC ⟨dst,.load t x,type,pos,after,guard⟩ s):=eJ rfl s
theorem pA[ab][jH C]{o:BinOp}{t u:TypeId}{x y:Operand}:ie C ⟨dst,.binOp o t x y u,type,pos,after,guard⟩ s=((aK C.P s.hp.length (az s.fr) ⟨dst,.binOp o t x y u,type,pos,after,guard⟩).run s.hp).bind (gC ⟨dst,.binOp o t x y u,type,pos,after,guard⟩ s):=eJ rfl s
theorem JC[ab][jH C]{t:TypeId}{x:Operand}{a b c:Option Operand}:ie C ⟨dst,.slice t x a b c,type,pos,after,guard⟩ s=((aK C.P s.hp.length (az s.fr) ⟨dst,.slice t x a b c,type,pos,after,guard⟩).run s.hp).bind (gC ⟨dst,.slice t x a b c,type,pos,after,guard⟩ s):=eJ rfl s
theorem td[ab][jH C]{t:TypeId}{x y:Operand}:ie C ⟨dst,.indexAddr t x y,type,pos,after,guard⟩ s=((aK C.P s.hp.length (az s.fr) ⟨dst,.indexAddr t x y,type,pos,after,guard⟩).run s.hp).bind (gC ⟨dst,.indexAddr t x y,type,pos,after,guard⟩ s):=eJ rfl s
theorem lF[ab][jH C]{b:Builtin}{as:Array Operand}{ts:Array TypeId}:ie C ⟨dst,.call ⟨.builtin b,as,ts⟩,type,pos,after,guard⟩ s=((aK C.P s.hp.length (az s.fr) ⟨dst,.call ⟨.builtin b,as,ts⟩,type,pos,after,guard⟩).run s.hp).bind (gC ⟨dst,.call ⟨.builtin b,as,ts⟩,type,pos,after,guard⟩ s):=eJ rfl s
theorem pB[ab][jH C]{t:Tmp}:ie C ⟨dst,.assign (.tmp t),type,pos,after,guard⟩ s=((aK C.P s.hp.length (az s.fr) ⟨dst,.assign (.tmp t),type,pos,after,guard⟩).run s.hp).bind (gC ⟨dst,.assign (.tmp t),type,pos,after,guard⟩ s):=eJ rfl s
theorem JD[ab][jH C]{k:IntKind}{n:Int}:ie C ⟨dst,.assign (.const (.int k n)),type,pos,after,guard⟩ s=((aK C.P s.hp.length (az s.fr) ⟨dst,.assign (.const (.int k n)),type,pos,after,guard⟩).run s.hp).bind (gC ⟨dst,.assign (.const (.int k n)),type,pos,after,guard⟩ s):=eJ rfl s
end
end Go.PI
namespace Go.PI
variable {C:Ctx}
theorem F9{x:AV}:cB [x]=x:=rfl
theorem Ga{P:Program}{fr:List AV}{hp:ag}:(aR P fr []).run hp=some []:=rfl
theorem Gb[ab]{P:Program}{fr:List AV}{hp:ag}{t:Tmp}{rs:List ResultVar}:(aR P fr (.tmp t::rs)).run hp=((aR P fr rs).run hp).map fun l=>fr.getD t .undef::l:=by
 simp only[aR,jT,RM.run_bind]
 show (some (fr.getD t .undef)).bind _=_
 simp only[Option.bind_some]
 cases (aR P fr rs).run hp<;>rfl
theorem kS{hp:ag}:ak hp []=hp:=rfl
theorem JE{hp:ag}{n:Nat}{o:aL}{l:List (Nat×aL)}:ak hp ((n,o)::l)=ak (setObj hp n o) l:=rfl
theorem Ev{hp:ag}{n:Nat}{o:aL}(h:n=hp.length):setObj hp n o=hp++[some o]:=by simp[setObj,h]
def Pr:Option (Nat×bG)→AV→Option dm
 |some (off,_),.ref n aq i j=>some ⟨.ref n aq i (j+off),[]⟩
 |some (off,_),.bf e j=>some ⟨.bf e (j+off),[]⟩
 |_,_=>none
def JF(x:Option AV):Option dm:=x.map fun x=>⟨x,[]⟩
def Gc(r:bG)(hp:ag):AV→Option AV
 |.ref n aq i j=>match hp[n]? with
  |some (some (.arr _ _ _ es))=>if es.length=aq then (match es[i]? with|some e=>eH r.isAgg r.size e j|none=>none) else none
  |_=>none
 |.bf e j=>eH r.isAgg r.size e j
 |_=>none
theorem JG[ab]{P:Program}{t:TypeId}{r:bG}(ht:eY P t=some r){hp:ag}{a:AV}:(kH P t a).run hp=Gc r hp a:=by
 unfold kH Gc
 rw[ht]
 simp only
 cases a with
 |ref n aq i j=>
  simp only[RM.arr]
  show (RM.bind (.get n _) _).run hp=_
  simp only[RM.bind,RM.run]
  cases hp[n]? with
  |none=>rfl
  |some o=>
   cases o with
   |none=>rfl
   |some o=>
    cases o with
    |gf _ _=>rfl
    |arr g c f es=>
     simp only
     split
     ·simp only[RM.bind]
      cases es[i]? with
      |none=>rfl
      |some e=>simp only[RM.jD]
     ·rfl
 |bf e j=>simp only[RM.jD]
 |_=>rfl
section
variable {P:Program}{nm:Nat}{ev:Operand→AV}{dst:Option Tmp}{type:TypeId}{pos:String}{after:Array Edge}{guard:Option (Nat×Bool)}{hp:ag}
theorem MJ[ab]{t:TypeId}{x:Operand}{r:bG}(ht:eY P t=some r):(aK P nm ev ⟨dst,.load t x,type,pos,after,guard⟩).run hp=JF (Gc r hp (ev x)):=by
 rw[←JG (P:=P) (t:=t) ht]
 unfold aK
 simp only[RM.run_bind]
 cases (kH P t (ev x)).run hp<;>rfl
end
end Go.PI
namespace Go.PI
variable {C:Ctx}
def ML(hp:ag)(args:List AV)(r':AV):Option (nM×List (Nat×aL)):=
 cond (flat r') (some (.val r',[])) (((dJ 1000 (ck args)).run hp).map fun w=>(.val r',w))
theorem zD[ab]{hp hJ:ag}{args:List AV}{r:AV}:nj hp args (.val r,hJ)=((aW 1000 r).run hJ).bind (ML hp args):=by
 simp only[nj,gh]
 cases hq:(aW 1000 r).run hJ with
 |none=>rfl
 |some r'=>
  simp only[Option.bind_some,ML]
  cases flat r' with
  |true=>rfl
  |false=>
   simp only[Bool.false_eq_true,if_false,RM.run_bind,cond_false]
   cases (dJ 1000 (ck args)).run hp<;>rfl
theorem Ew{f:FuncId}{args:List AV}:bA (.lit (.func (.func f) #[] #[])) args=some (f,args):=by
 simp[bA]
end Go.PI
namespace Go.PI
variable {C:Ctx}
theorem Ex[ab]{a b:Code}{s:St}:TL C a b s (.lit (.bool true))=cQ C a s:=rfl
theorem AO[ab]{a b:Code}{s:St}:TL C a b s (.lit (.bool false))=cQ C b s:=rfl
end Go.PI
namespace Go.PI
variable {C:Ctx}
theorem JH[ab]{b:Code}(Inv:Nat→St→Prop)(He:Out→Prop)
  (step:∀ k s,Inv k s→(∃ s',cQ C b s=some (.norm s')∧∃ k',k'<k∧Inv k' (gG s.hp.length s'))∨(∃ o,cQ C b s=some o∧(∀ s',o≠.norm s')∧He o)) :
  ∀ k s,Inv k s→∃ o,cQ C (.loop b) s=some o∧He o:=by
 intro k
 induction k using Nat.strongRecOn with
 |ind k ih=>
  intro s hs
  rcases step k s hs with ⟨s',h1,k',hk,hi⟩|⟨o,h1,h2,h3⟩
  ·obtain⟨o,h4,h5⟩:=ih k' hk _ hi
   refine⟨o,?_,h5⟩
   rw[nh,h1]
   exact h4
  ·refine⟨o,?_,h3⟩
   rw[nh,h1]
   cases o with
   |norm s'=>exact absurd rfl (h2 s')
   |_=>rfl
theorem zE[ab]{b:Code}{s:St}{β:Type}{K:Out→Option β}{r:Option β}(Inv:Nat→St→Prop)(He:Out→Prop)(k0:Nat)(h0:Inv k0 s)
  (step:∀ k s,Inv k s→(∃ s',cQ C b s=some (.norm s')∧∃ k',k'<k∧Inv k' (gG s.hp.length s'))∨(∃ o,cQ C b s=some o∧(∀ s',o≠.norm s')∧He o))
  (fin:∀ o,He o→K o=r):(cQ C (.loop b) s).bind K=r:=by
 obtain⟨o,h1,h2⟩:=JH Inv He step k0 s h0
 rw[h1]
 exact fin o h2
def Gd(agg:Bool)(size:Nat)(hp:ag):AV→Option AV
 |.ref n aq i j=>match hp[n]? with
  |some (some (.arr _ _ _ es))=>if es.length=aq then (match es[i]? with|some e=>eH agg size e j|none=>none) else none
  |_=>none
 |.bf e j=>eH agg size e j
 |_=>none
theorem MM{r:bG}{agg:Bool}{size:Nat}(h1:r.isAgg=agg)(h2:r.size=size)(hp:ag)(a:AV):Gc r hp a=Gd agg size hp a:=by
 subst h1 h2
 cases a<;>rfl
def nu(agg:Bool)(size:Nat)(i:Nat):AV→Option AV
 |.sl xs=>match xs[i]? with
  |some e=>if aG agg size e=true then some (.bf e 0) else none
  |none=>none
 |.o6 xs _=>match xs[i]? with
  |some e=>if aG agg size e=true then some (.bf e 0) else none
  |none=>none
 |.bq esz n aq off len _=>if i<len∧0<size∧esz=size then some (.ref n aq (off+i) 0) else none
 |.iP n aq k j len _=>if i<len then some (.ref n aq k (j+i*size)) else none
 |_=>none
theorem rL{k:IntKind}{n:Nat}:asNat (.lit (.int k (n:Int)))=some n:=by simp[asNat]
def JI(P:Program)(nm:Nat)(ev:Operand→AV)(o:Oper)(hp:ag):Option dm:=(aK P nm ev o).run hp
def Hg(d:Option dm):AV→Option dm
 |.sl xs=>some ⟨int xs.length,[]⟩
 |.o6 xs _=>some ⟨int xs.length,[]⟩
 |.bq _ _ _ _ len _=>some ⟨int len,[]⟩
 |.iP _ _ _ _ len _=>some ⟨int len,[]⟩
 |_=>d
theorem JJ{P:Program}{t:TypeId}{r:bG}(h:aN P t=some r)(ha:arrayElem P t=none)(x ix:AV):
  eO P t x ix=(asNat ix).bind fun i=>nu r.isAgg r.size i x:=by
 unfold eO
 cases asNat ix with
 |none=>rfl
 |some i=>
  simp only[Option.bind_some,h,ha]
  cases x with
  |sl xs=>simp only[nu]; cases xs[i]?<;>rfl
  |o6 xs c=>simp only[nu]; cases xs[i]?<;>rfl
  |_=>rfl
section
variable {P:Program}{nm:Nat}{ev:Operand→AV}{dst:Option Tmp}{type:TypeId}{pos:String}{after:Array Edge}{guard:Option (Nat×Bool)}{hp:ag}
theorem te[ab]{t:TypeId}{x y:Operand}:(aK P nm ev ⟨dst,.indexAddr t x y,type,pos,after,guard⟩).run hp=JF (eO P t (ev x) (ev y)):=AN _ _
theorem Ey{t type:TypeId}{x:Operand}(h:bX P t=true):(aK P nm ev ⟨dst,.call ⟨.builtin .len,#[x],#[t]⟩,type,pos,after,guard⟩).run hp =
  Hg (JI P nm ev ⟨dst,.call ⟨.builtin .len,#[x],#[t]⟩,type,pos,after,guard⟩ hp) (ev x):=by
 cases hx:ev x with
 |sl xs=>simp[aK,dh,hx,h,nO,Hg]; rfl
 |o6 xs c=>simp[aK,dh,hx,h,nO,Hg]; rfl
 |bq a b c d e f=>simp[aK,dh,hx,h,nO,Hg]; rfl
 |iP a b c d e f=>simp[aK,dh,hx,h,nO,Hg]; rfl
 |_=>rfl
end
end Go.PI
namespace Go.PI
variable {C:Ctx}
theorem dt[ab]{b:Code}{s:St}:andThen C b (.norm s)=cQ C b s:=rfl
theorem tf[ab]{b:Code}{s:St}{i:Nat}:andThen C b (.exit i s)=some (.exit i s):=rfl
theorem eW[ab]{l:List (G×Oper)}{s:St}:Oh C l (.norm s)=tc C l s:=rfl
theorem vw{i:Nat}{s:St}:uj i (.norm s)=some (.norm s):=rfl
theorem zG{i:Nat}{s:St}:uj i (.exit i s)=some (.norm s):=by simp[uj]
theorem Cb{rs:Array ResultVar}{s:St}:Jf C rs (.ret s)=((aR C.P s.fr rs.toList).run s.hp).map fun l=>(.val (cB l),s.hp):=rfl
theorem Cc{n:Nat}{s:St}(h:(s.hp.take n).all (kq n)=true):gG n s=⟨s.fn,s.fr.map (forget n),s.hp.take n⟩:=by
 simp[gG,h]
theorem Hh{n:Nat}{v:AV}(h:below n v=true):forget n v=v:=by simp[forget,h]
end Go.PI
namespace Go.PI
theorem AP{d:Option dm}{xs:List AV}:Hg d (.sl xs)=some ⟨int xs.length,[]⟩:=rfl
end Go.PI
namespace Go.PI
end Go.PI
end
section
/- PI, calls whose argument may be a nil slice or not: both are looked at. -/
namespace Go.PI
end Go.PI
end
section
/- PI, the laws: what a law's own call comes to. -/
namespace Go.PI
open Go.RowKit
theorem G3[ab]{C:Ctx}(bL:C.Ok){f:FuncId}{args:List AV}{cq:ag}(h:ky C f args []=some (.val (.lit (.bool true)),cq))
  {W:World} (hg:mJ (Env.all W)) {vs:List Value} (ha:an (Env.all W) false args vs) :
  Calls C.P f vs.toArray W fun e w'=>e=.returned (.bool true)∧Below W.heap.size W w':=by
 obtain⟨k,hk⟩:=(bh (mo C f args [])).1 h
 refine((sound bL k).1 f args [] _ _ hk (Env.all W) W vs (Mu W hg) ha.iv).mono fun e w' cX=>?_
 obtain⟨E',_,_,eT,cy⟩:=cX
 refine⟨?_,eT.os,eT.tape,eT.out,eT.size,fun b hb=>eT.same b hb (fun h=>h.elim)⟩
 cases e with
 |returned v=>simp only[FX,aj]at cy; rw[cy]
 |panicked ch=>exact cy.elim
 |outgrown=>exact cy.elim
end Go.PI
end
section
/- PS, part A: symbolic values over the abstract ones, with typed lists of open length, and the operations on them (definitions only). -/
namespace Go.PI
def aw{α β:Type}(P:α→β→Prop):List α→List β→Prop
 |[],[]=>True
 |x::xs,y::ys=>P x y∧aw P xs ys
 |_,_=>False
def zY{den:Nat→Type}{t t':Nat}(h:t=t')(l:List (den t)):List (den t'):=h▸l
def KK.D:KK→Type
 |.int _=>Int
 |.str=>ByteArray
 |.bool=>Bool
def KK.v:(kk:KK)→kk.D→Value
 |.int q,k=>.int q k
 |.str,k=>.string k
 |.bool,k=>.bool k
def KK.get:(kk:KK)→Value→Option kk.D
 |.int q,v=>(match v with
  |.int q' k=>if q=q' then some k else none
  |_=>none)
 |.str,v=>(match v with
  |.string k=>some k
  |_=>none)
 |.bool,v=>(match v with
  |.bool k=>some k
  |_=>none)
def KK.beq:(kk:KK)→kk.D→kk.D→Bool
 |.int _,(a:Int),(b:Int)=>a==b
 |.str,(a:ByteArray),(b:ByteArray)=>a==b
 |.bool,(a:Bool),(b:Bool)=>a==b
def kE(kk:KK){α:Type}:List (kk.D×α)→kk.D→Option α
 |[],_=>none
 |(k',v)::r,k=>cond (kk.beq k k') (some v) (kE kk r k)
def mQ(kk:KK){α:Type}:List (kk.D×α)→kk.D→α→List (kk.D×α)
 |[],k,v=>[(k,v)]
 |(k',v')::r,k,v=>cond (kk.beq k k') ((k',v)::r) ((k',v')::mQ kk r k v)
deriving instance DecidableEq for kZ
inductive SV(den:Nat→Type):Type where
 |dead
 |hole
 |lit (v:Value)
 |agg (l:List (SV den))
 |ju (l:List (SV den))
 |sl (xs:List (SV den))
 |jt (t:Nat) (l:List (den t))
 |bf (e:SV den) (j:Nat)
 |ref (n c i j:Nat)
 |iP (n c i j len cap:Nat)
 |bq (esz n c:Nat) (rg:Option (Nat×Nat)) (cap:Option Nat)
 |iR (fn:Fn) (first captured:List (SV den))
 |gd (t:TypeId) (v:SV den)
 |mp (y:Bool) (n:Nat)
 |sH (v:SV den) (aV len i:Nat)
 |wK (t:Nat) (l:List (den t)) (cap:Nat) (b:Bool)
 |nz
instance {den:Nat→Type}:Inhabited (SV den):=⟨.dead⟩
inductive aC(den:Nat→Type):Type where
 |arr (grow cl fz:Bool) (cur:Nat) (es:List (SV den))
 |bW (grow fz:Bool) (cur:Nat) (t:Nat) (l:List (den t))
 |gX
 |kh (kk:KK) (t:Nat) (m:List (kk.D×den t))
 |oU (fn:FuncId) (ps:Array Tmp) (as bd:Code) (fr:List (SV den))
abbrev ah(den:Nat→Type):=List (Option (aC den))
abbrev sI(den:Nat→Type):=List (Nat×SV den)
structure bx(den:Nat→Type)where
 fn:FuncId
 n:Nat
 fr:sI den
 hp:ah den
 wf:List Nat
 wh:List Nat
 js:List (Nat×kZ)
inductive oV(den:Nat→Type)where
 |norm (s:bx den)
 |exit (id:Nat) (s:bx den)
 |ret (s:bx den)
inductive Tr:Type→Type 1 where
 |ret {ρ:Type} (r:ρ):Tr ρ
 |fail {ρ:Type}:Tr ρ
 |cond {ρ:Type} (b:Bool) (x y:Tr ρ):Tr ρ
 |bind {ρ α:Type} (e:Option α) (k:α→Tr ρ):Tr ρ
 |loop {ρ τ ω:Type} (f:τ→Tr (τ ⊕ ω)) (x:τ) (k:ω→Tr ρ):Tr ρ
 |sum {ρ α β:Type} (e:α ⊕ β) (k:α→Tr ρ) (l:β→Tr ρ):Tr ρ
 |no {ρ:Type} (why:String):Tr ρ
 |mb {ρ:Type} {den:Nat→Type} (s:bx den) (b:Code):Tr ρ
 |bad {ρ:Type} {den:Nat→Type} (key:Nat) (kind:Option (Option Nat)) (s0 s:bx den):Tr ρ
def kK{τ ω:Type}(f:τ→Option (τ ⊕ ω)):Nat→τ→Option ω
 |0,_=>none
 |n+1,x=>match f x with
  |some (.inl y)=>kK f n y
  |some (.inr w)=>some w
  |none=>none
noncomputable def aO{τ ω:Type}(f:τ→Option (τ ⊕ ω))(x:τ):Option ω:=
 match kK f 4096 x with
 |some w=>some w
 |none=>lY fun n=>kK f n x
noncomputable def Tr.run{ρ:Type}:Tr ρ→Option ρ
 |.ret r=>some r
 |.fail|.no _|.mb _ _|.bad _ _ _ _=>none
 |.cond b x y=>_root_.cond b x.run y.run
 |.bind e k=>_root_.Option.bind e fun a=>(k a).run
 |.loop f x k=>_root_.Option.bind (aO (fun x=>(f x).run) x) fun w=>(k w).run
 |.sum e k l=>Sum.elim (fun a=>(k a).run) (fun b=>(l b).run) e
structure dw where
 den:Nat→Type
 up:(t:Nat)→den t→SV den
 dn:(t:Nat)→SV den→Option (den t)
 rp:(t:Nat)→den t→AV→Prop
 agg:Nat→Bool
 size:Nat→Nat
 zero:(t:Nat)→Option (den t)
 alt:(t:Nat)→Option ((den t→Bool)×(den t→SV den)×(den t→SV den)):=fun _=>none
section
variable {den:Nat→Type}
def aC.cur:aC den→Nat
 |.arr _ _ _ c _=>c
 |.bW _ _ c _ _=>c
 |_=>0
def aC.len:aC den→Nat
 |.arr _ _ _ _ es=>es.length
 |.bW _ _ _ _ l=>l.length
 |_=>0
def Kv:Value→SV den
 |.agg c=>if c.toList.all (fun v=>a9 (.lit v))=true then .agg (c.toList.map .lit) else .dead
 |.tuple c=>.ju (c.toList.map .lit)
 |v=>.lit v
def cH:sI den→Nat→SV den
 |[],_=>.lit undef
 |(d,v)::r,t=>match Nat.beq d t with
  |true=>v
  |false=>cH r t
def cV[ab](fr:sI den):Operand→SV den
 |.tmp t=>cH fr t
 |.const v=>Kv v
 |.global g=>(match ab.g g with
  |none=>.lit (.pointer (some ⟨g,0,none⟩))
  |some c=>.bf (.agg (c.toList.map .lit)) 0)
 |.func f=>.lit (.func (.func f) #[] #[])
def tC(n:Nat)(fr:sI den)(d:Nat)(v:SV den):sI den:=
 match Nat.ble n d with
 |true=>fr
 |false=>(d,v)::fr
def Kw(n:Nat)(fr:sI den)(dst:Option Tmp)(v:SV den):sI den:=
 match dst with
 |some d=>tC n fr d v
 |none=>fr
def mw:Nat→List (SV den)→sI den
 |_,[]=>[]
 |d,v::r=>(d,v)::mw (d+1) r
def bJ(hp:ah den)(n:Nat)(o:aC den):ah den:=
 if n=hp.length then hp++[some o] else hp.set n (some o)
def bc(hp:ah den):List (Nat×aC den)→ah den
 |[]=>hp
 |(n,o)::r=>bc (bJ hp n o) r
def bN:SV den→Bool
 |.dead=>true
 |_=>false
def gu:SV den→Bool
 |.lit v=>match v with
  |.agg _|.tuple _=>false
  |_=>true
 |.agg _|.ju _|.dead|.hole=>false
 |_=>true
mutual
def aE:SV den→Bool
 |.lit _|.sl _|.jt _ _|.bf _ _|.wK _ _ _ _=>true
 |.agg l|.ju l=>av l
 |.gd _ v=>aE v
 |.sH v _ _ _=>aE v
 |.iR _ f c=>av f&&av c
 |_=>false
def av:List (SV den)→Bool
 |[]=>true
 |x::xs=>aE x&&av xs
end
mutual
def vP:SV den→Bool
 |.lit _=>true
 |.agg l|.ju l=>A7 l
 |.gd _ v=>vP v
 |_=>false
def A7:List (SV den)→Bool
 |[]=>true
 |x::xs=>vP x&&A7 xs
end
mutual
def bt(n:Nat):SV den→Bool
 |.lit _|.sl _|.jt _ _|.bf _ _|.wK _ _ _ _|.hole|.nz=>true
 |.agg l|.ju l=>gv n l
 |.gd _ v=>bt n v
 |.iR _ f c=>gv n f&&gv n c
 |.sH v _ _ _=>bt n v
 |.ref m _ _ _|.iP m _ _ _ _ _|.bq _ m _ _ _|.mp _ m=>decide (m<n)
 |.dead=>false
def gv(n:Nat):List (SV den)→Bool
 |[]=>true
 |x::xs=>bt n x&&gv n xs
end
def jZ(n:Nat):Option (aC den)→Bool
 |some (.arr _ cl _ _ es)=>cl||gv n es
 |some (.bW ..)=>true
 |some .gX=>true
 |some (.kh ..)=>true
 |some (.oU _ _ _ _ fr)=>fr.all fun v=>bN v||bt n v
 |none=>true
mutual
def mR:SV den→List Nat
 |.ref n _ _ _|.iP n _ _ _ _ _|.bq _ n _ _ _|.mp _ n=>[n]
 |.sH v _ _ _=>mR v
 |.agg l|.ju l=>my l
 |.gd _ v=>mR v
 |.iR _ f c=>my f++my c
 |_=>[]
def my:List (SV den)→List Nat
 |[]=>[]
 |x::xs=>mR x++my xs
end
def bI:SV den→List (SV den)
 |.agg l=>l
 |.lit v=>v.cells.toList.map .lit
 |x=>[x]
def mz:List (SV den)→Option (List Value)
 |[]=>some []
 |.lit v::r=>(mz r).map (v::·)
 |_=>none
def mT:SV den→Option AV
 |.lit v=>some (.lit v)
 |.agg l=>(mz l).map fun c=>.agg (c.map .lit)
 |_=>none
def nI(agg:Bool)(size:Nat)(e:SV den)(j:Nat):Option (SV den):=
 match e with
 |.agg l=>
  if agg then (if j+size≤l.length then some (.agg ((l.drop j).take size)) else none)
  else l[j]?
 |x=>if !agg&&gu x&&decide (j=0) then some x else none
def iI(l:List (SV den))(j:Nat):List (SV den)→List (SV den)
 |[]=>l
 |x::xs=>iI (l.set j x) (j+1) xs
def fS(e:SV den)(j:Nat)(cs:List (SV den)):Option (SV den):=
 match e with
 |.agg l=>if j+cs.length≤l.length then some (.agg (iI l j cs)) else none
 |x=>match cs with
  |[y]=>if gu x&&decide (j=0) then some y else none
  |_=>none
def zZ(place:Nat→Option (Nat×Nat))(cells:List (SV den)):List (Nat×SV den)→Option (List (SV den))
 |[]=>some cells
 |(i,v)::rest=>
  match place i with
  |none=>none
  |some (off,size)=>
   if (bI v).length=size∧off+size≤cells.length∧(bI v).all gu=true then
    zZ place (iI cells off (bI v)) rest
   else none
def kW(agg:Bool)(size:Nat)(e:SV den):Bool:=
 match e with
 |.agg l=>agg&&decide (l.length=size)&&l.all gu
 |x=>!agg&&decide (size=1)&&gu x
def gw:AV→Option (SV den)
 |.lit v=>some (.lit v)
 |.agg l=>(cT l).map fun c=>.agg (c.map .lit)
 |_=>none
def fk(es:List (SV den)):List (Nat×SV den)→List (SV den)
 |[]=>es
 |(i,v)::r=>fk (es.set i v) r
def Gt:SV den→Bool
 |.sl xs=>!xs.isEmpty
 |_=>false
def A8(P:Program)(op:BinOp)(t:TypeId)(x:SV den)(nil:Value):Option AV:=
 match nil with
 |.nilIface=>(match x with
  |.gd _ (.agg _)|.gd _ (.ref ..)=>if jz P t then ll op false else none
  |_=>none)
 |.nilFunc=>(match x with
  |.iR _ _ _=>if sJ P t then ll op false else none
  |_=>none)
 |.slice none 0 0=>if bX P t&&Gt x then ll op false else none
 |_=>none
end
inductive CK where
 |bool
 |int (k:IntKind)
 |str
 deriving DecidableEq
inductive MK where
 |slice (e:Nat)
 |array (n e:Nat)
 |struct (fs:List (Nat×Nat))
 |iface
 |other
 deriving DecidableEq
structure j0 where
 agg:Bool
 size:Nat
 bytes:Nat
 zero:Option AV
 kind:MK
 OD:Option (List CK)
 map:Option (KK×Nat)
structure gK where
 P:Program
 M:List (Nat×j0)
 tD:Nat→Bool
def cm{α:Type}:List (Nat×α)→Nat→Option α
 |[],_=>none
 |(m,a)::r,n=>match Nat.beq m n with
  |true=>some a
  |false=>cm r n
def Gu{α:Type}:List (Nat×Nat×α)→Nat→Nat→Option α
 |[],_,_=>none
 |(m,m',a)::r,n,n'=>match Nat.beq m n&&Nat.beq m' n' with
  |true=>some a
  |false=>Gu r n n'
namespace gK
def ty(Q:gK)(t:Nat):Option j0:=cm Q.M t
def elemOf(Q:gK)(t:Nat):Option (Nat×j0):=
 match Q.ty t with
 |some m=>match m.kind with
  |.slice e=>(Q.ty e).map fun r=>(e,r)
  |_=>none
 |none=>none
def elem(Q:gK)(t:Nat):Option j0:=(Q.elemOf t).map (·.2)
def arr(Q:gK)(t:Nat):Option (Nat×j0):=
 match Q.ty t with
 |some m=>match m.kind with
  |.array n e=>(Q.ty e).map fun r=>(n,r)
  |_=>none
 |none=>none
def T7(Q:gK)(t f:Nat):Option (Nat×j0):=
 match Q.ty t with
 |some m=>match m.kind with
  |.struct fs=>match fs[f]? with
   |some (off,e)=>match Q.ty e with
    |some r=>if r.size=0 then none else some (off,r)
    |none=>none
   |none=>none
  |_=>none
 |none=>none
def mapOf(Q:gK)(t:Nat):Option (KK×Nat):=(Q.ty t).bind (·.map)
def isSlice(Q:gK)(t:Nat):Option Bool:=
 match Q.ty t with
 |some m=>match m.kind with
  |.slice _=>some true
  |_=>some false
 |none=>none
def uI(Q:gK):List (Nat×Nat)→Option (List (Nat×Nat))
 |[]=>some []
 |(off,e)::r=>match Q.ty e,uI Q r with
  |some m,some l=>some ((off,m.size)::l)
  |_,_=>none
end gK
inductive VT where
 |v (t:Nat)
 |l (t:Nat)
 |m (kk:KK) (t:Nat)
 deriving DecidableEq
def VT.den(den:Nat→Type):VT→Type
 |.v t=>den t
 |.l t=>List (den t)
 |.m kk t=>List (kk.D×den t)
def HL(den:Nat→Type):List VT→Type
 |[]=>Unit
 |[t]=>t.den den
 |t::u::r=>t.den den×HL den (u::r)
structure TV(den:Nat→Type)where
 t:VT
 x:t.den den
section
variable {den:Nat→Type}
def TV.as(v:TV den)(t:VT):Option (t.den den):=if h:v.t=t then some (h▸v.x) else none
def uJ:(ts:List VT)→List (TV den)→Option (HL den ts)
 |[],l=>(match l with
  |[]=>some ()
  |_::_=>none)
 |[t],l=>(match l with
  |[v]=>v.as t
  |_=>none)
 |t::u::r,l=>(match l with
  |v::l'=>(v.as t).bind fun x=>(uJ (u::r) l').map fun y=>(x,y)
  |[]=>none)
def fT:(ts:List VT)→HL den ts→List (TV den)
 |[],_=>[]
 |[t],x=>[⟨t,x⟩]
 |t::u::r,x=>⟨t,x.1⟩::fT (u::r) x.2
end
section
variable (T:dw)
def HJ:(ts:List Nat)→List (SV T.den)→Option (List (TV T.den))
 |[],[]=>some []
 |t::ts,v::vs=>(T.dn t v).bind fun x=>(HJ ts vs).map fun l=>⟨.v t,x⟩::l
 |_,_=>none
def oN(t:Nat):List (SV T.den)→Option (List (T.den t))
 |[]=>some []
 |v::vs=>(T.dn t v).bind fun x=>(oN t vs).map fun l=>x::l
def Sl:TV T.den→SV T.den
 |⟨.v t,x⟩=>T.up t x
 |⟨.l t,x⟩=>.jt t x
 |⟨.m _ _,_⟩=>.dead
def PX(l:List (TV T.den)):List (SV T.den):=l.map (Sl T)
end
def qV{den:Nat→Type}:List (SV den)→SV den
 |[x]=>x
 |l=>.ju l
structure uK(T:dw)where
 args:List Nat
 res:List Nat
 fn:HL T.den (args.map .v)→Option (HL T.den (res.map .v))
inductive oW where
 |hole
 |HK (esz n:Nat) (rg:Option (Nat×Nat)) (cap:Option Nat)
 |iP (n i j len cap:Nat)
 |val (t:Nat)
 |own (esz n:Nat)
 |QW (esz n t:Nat) (k:Bool)
inductive cP where
 |list (t:Nat)
 |fix (t:Nat)
 |one (p:oW)
 |agg (ps:List oW)
 |map (kk:KK) (t:Nat)
inductive oX where
 |gX
 |list (g f:Bool) (t:Nat)
structure A9 where
 kind:Option Nat
 aA:List (Nat×oW)
 ext:List oX
 js:List (Nat×kZ)
 more:List (Nat×cP)
structure Hint where
 aA:List (Nat×oW)
 dead:List Nat
 objs:List (Nat×cP)
 outs:List A9
def oW.jK:oW→List VT
 |.hole|.HK _ _ _ _|.iP _ _ _ _ _=>[]
 |.val t=>[.v t]
 |.own _ _=>[]
 |.QW _ _ t k=>(match k with
  |true=>[.v t,.v t,.v t]
  |false=>[.v t,.v t])
def cP.jK:cP→List VT
 |.list t|.fix t=>[.l t]
 |.one p=>p.jK
 |.agg ps=>ps.flatMap oW.jK
 |.map kk t=>[.m kk t]
def oX.jK:oX→List VT
 |.gX=>[]
 |.list _ _ t=>[.l t]
def jh(objs more:List (Nat×cP)):List (Nat×cP):=objs.filter (fun q=>!(more.map (·.1)).contains q.1)++more
def A9.jK(objs:List (Nat×cP))(o:A9):List VT:=o.aA.flatMap (fun q=>q.2.jK)++((jh objs o.more).flatMap (fun q=>q.2.jK)++o.ext.flatMap oX.jK)
def Hint.jK(h:Hint):List VT:=h.aA.flatMap (fun q=>q.2.jK)++h.objs.flatMap (fun q=>q.2.jK)
def yW(den:Nat→Type)(objs:List (Nat×cP)):List A9→Type
 |[]=>Empty
 |[o]=>HL den (o.jK objs)
 |o::p::r=>HL den (o.jK objs) ⊕ yW den objs (p::r)
end Go.PI
end
