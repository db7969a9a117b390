/- Part 2 of the proof: texts of this session laid one behind the other. -/
import Derived.OrdersIn
import Derived.TacticsIn
import Derived.RangeFuncLeaves
import Derived.RecoverIn
import Derived.SizedLaws
import Derived.ChangeSlices
import Derived.OpenShut
import Derived.ShutString
import Derived.IntWalk
import Derived.Below
import Derived.Test.YtpodhambaehlkaaGreatDoorX1
set_option linter.unusedVariables false
set_option linter.unusedSimpArgs false
section
/- PI, part V: a region whose order is drawn, in the world. -/
namespace Go.PI
def WF(r:Option Nat):Fence:={ Fence.wide with round:=r }
structure rf where
 n:Nat
 tl:List Deferred:=[]
 rg:Bool:=true
def Marks(B:rf)(E:Env)(w:World)(ds:List Deferred):Prop:=
 ∃ rs:List Nat,ds=rs.map (fun r=>{ target:=.collected r,args:=#[] })++B.tl∧rs.Nodup∧(B.rg=false→rs=[])∧∀ r∈rs,B.n≤r∧¬E.own r∧w.heap[r]?=some (.deferred (some []))
theorem Marks.nil{n:Nat}{m:Bool}{E:Env}{w:World}:Marks ⟨n,[],m⟩ E w []:=⟨[],rfl,List.nodup_nil,fun _=>rfl,by simp⟩
theorem Marks.mono{B:rf}{E E':Env}{w w':World}{ds:List Deferred}(h:Marks B E w ds)(hf:Fr E w E' w'):Marks B E' w' ds:=by
 obtain⟨rs,h1,h2,h2',h3⟩:=h
 refine⟨rs,h1,h2,h2',fun r hr=>?_⟩
 obtain⟨a,b,c⟩:=h3 r hr
 have cr:r<w.heap.size:=(Array.getElem?_eq_some_iff.1 c).1
 refine⟨a,fun ho=>?_,by rw[hf.same r cr b]; exact c⟩
 rcases hf.own r ho with h|h
 ·exact b h
 ·omega
structure du[ah](B:rf)(E:Env)(s:St)(a:Act)(w:World):Prop where
 fr:aw E true s.fr a.tmps.toList
 inv:Inv E s.hp w
 df:Marks B E w a.defers
 bs:B.n≤w.heap.size
theorem ke{E:Env}{fr:List AV}{a:Act}{dst:Option Tmp}{x:AV}{v:Value}(h:aw E true fr a.tmps.toList)(hx:ar E true x v):
  aw E true (bZ fr dst x) (a.put dst v).tmps.toList:=by
 cases dst with
 |none=>exact h
 |some d=>
  simp only[bZ,Act.put,Array.toList_setIfInBounds]
  exact h.set d hx
theorem put_defers(a:Act)(dst:Option Tmp)(v:Value):(a.put dst v).defers=a.defers:=by cases dst<;>rfl
theorem CO{E:Env}:∀ (c:List Value),(∀ x∈c,jE x=true)→aO E false (c.map .lit) c
 |[],_=>by simp[aO]
 |x::r,h=>by
  simp only[List.map_cons,aO]
  exact⟨by simp[ar],h x (by simp),CO r fun y hy=>h y (by simp[hy])⟩
theorem Ng[ah]{E:Env}(hg:mn E)(g:Nat):ar E true (E5 g (ah.g g)) (.pointer (some ⟨g,0,none⟩)):=by
 cases h:ah.g g with
 |none=>simp[E5,ar]
 |some c=>
  obtain⟨h1,h2⟩:=hg g c h
  simp only[E5,ar]
  refine⟨g,0,c,.agg c,rfl,h1,⟨c.toList,by simp,CO _ h2⟩,?_⟩
  refine⟨rfl,fun q _=>by simp[Value.cells],fun x hx=>h2 x (by simpa[Value.cells] using hx)⟩
theorem kf[ah]{E:Env}{fr:List AV}{a:Act}(hg:mn E)(h:aw E true fr a.tmps.toList)(x:Operand):ar E true (aP fr x) (a.eval x):=by
 cases x with
 |tmp t=>
  simp only[aP,Act.eval,List.getD]
  cases hq:fr[t]? with
  |none=>
   have hl:=h.length
   have:a.tmps[t]?=none:=by
    simp_all
   simp[Array.getD_eq_getD_getElem?,this,ar]
  |some y=>
   obtain⟨v,hv,hr⟩:=h.get hq
   have:a.tmps[t]?=some v:=by simpa using hv
   simpa[Array.getD_eq_getD_getElem?,this] using hr
 |const v=>
  simp only[aP,Act.eval]
  unfold oV
  split
  ·rename_i c
   split
   ·rename_i h; exact pH (.agg c) (fun c' hc=>by cases hc; exact h)
   ·simp[ar]
  ·rename_i dP
   exact pH v (fun c hc=>absurd hc (dP c))
 |global g=>exact Ng hg g
 |func f=>simp[aP,Act.eval,ar]
def uq[ah](P:Program)(step:Nat→Oper→List AV→RM eg):Prop:=
 ∀ (r:Option Nat) (x:Item) (B:rf) (E:Env) (s:St) (a:Act) (w:World) (e:eg) (K:Act→World→Prop) (Q:Exit→Act→World→Prop),du B E s a w →
   (aC x.o.op=true→s.hp[x.nm]?=some none)→(step (x.at s.hp.length) x.o s.fr).run s.hp=some e →
   (∀ E' w' v,Ext E E'→Fr E w E' w'→Inv E' (av s.hp e.wr) w'→ar E' true e.val v→K (a.put x.o.dst v) w')→x.o.wpIn (WF r) 0 P a w K Q
theorem mZ{ops:Array Oper}{E:Env}{fr:List AV}{a:Act}(h:aw E true fr a.tmps.toList){o:Oper}{b:Bool}(hw:dg ops fr o=some b):
  Region.wanted o (yielded ops a.tmps)=b:=by
 unfold dg at hw
 unfold Region.wanted
 cases hg:o.guard with
 |none=>rw[hg]at hw; simpa using hw
 |some g=>
  obtain⟨j,want⟩:=g
  rw[hg]at hw
  simp only at hw ⊢
  unfold yielded
  cases hd:(ops[j]?).bind (·.dst) with
  |none=>
   rw[hd]at hw
   simp only[Option.some.injEq]at hw; subst hw
   simp
  |some d=>
   rw[hd]at hw
   simp only[Option.bind_some]at hw ⊢
   cases hq:fr[d]? with
   |none=>
    rw[hq]at hw
    simp only[Option.some.injEq]at hw; subst hw
    have hl:=h.length
    have:a.tmps[d]?=none:=by
     simp_all
    simp[this]
   |some y=>
    rw[hq]at hw
    obtain⟨v,hv,hr⟩:=h.get hq
    have lK:a.tmps[d]?=some v:=by simpa using hv
    split at hw
    ·rename_i heq; simp at heq
    ·rename_i b' heq
     simp only[Option.some.injEq]at heq hw
     subst heq
     simp only[ar]at hr
     subst hr; subst hw
     simp[lK]
    ·rename_i c heq
     simp only[Option.some.injEq]at heq hw
     subst heq
     simp only[ar]at hr
     subst hr; subst hw
     simp[lK]
    ·simp at hw
section
variable {step:Nat→Oper→List AV→RM eg}{ops:Array Oper}
theorem rZ:∀ (l:List Oper) (acc:List Nat) (f:List Nat→Oper→List Nat),
  (f=fun acc o=>acc++[jX acc o.after.toList])→∀ i,i<acc.length→(l.foldl f acc).getD i 0=acc.getD i 0
 |[],acc,f,_,i,_=>rfl
 |o::r,acc,f,hf,i,hi=>by
  simp only[List.foldl_cons]
  rw[rZ r (f acc o) f hf i (by subst hf; simp; omega)]
  subst hf
  simp[List.getD,List.getElem?_append_left hi]
theorem yk{a b:List Nat}:∀ {l:List Edge},(∀ e∈l,Region.binds .any e=true→a.getD e.on 0=b.getD e.on 0)→jX a l=jX b l
 |[],_=>rfl
 |e::l,h=>by
  have:=yk (l:=l) fun e he=>h e (by simp[he])
  unfold jX
  split
  ·rename_i hb
   rw[this,h e (by simp) hb]
  ·exact this
theorem sX{a:List Nat}{p:Nat}:∀ {l:List Edge},(jX a l).testBit p=true→∃ e∈l,Region.binds .any e=true∧(p=e.on∨ub a e.on p=true)
 |[],h=>by simp[jX]at h
 |e::l,h=>by
  unfold jX at h
  split at h
  ·rename_i hb
   simp only[Nat.testBit_or,Bool.or_eq_true]at h
   rcases h with (h|h)|h
   ·grind
   ·exact⟨e,by simp,hb,.inr h⟩
   ·obtain⟨e',he,h'⟩:=sX (l:=l) h
    exact⟨e',by simp[he],h'⟩
  ·obtain⟨e',he,h'⟩:=sX (l:=l) h
   exact⟨e',by simp[he],h'⟩
theorem CP{m:Region.Mode}{p:Nat}:∀ {l:List Edge},(∃ e∈l,Region.binds m e=true∧p=e.on)→(Cj m l).testBit p=true
 |[],h=>by simp at h
 |e::l,h=>by
  obtain⟨e',he,hb,rfl⟩:=h
  unfold Cj
  cases he with
  |head=>simp[hb,Nat.testBit_or]
  |tail _ he=>
   have:=CP (l:=l) ⟨e',he,hb,rfl⟩
   split
   ·simp[Nat.testBit_or,this]
   ·exact this
theorem FD[ah]{m:Region.Mode}{T:Nat→Prop}:∀ (l:List Oper) (i M:Nat),(∀ j,M.testBit j=true→T j) →
  (∀ k o,l[k]?=some o→(∀ e∈o.after.toList,Region.binds m e=true→T e.on)→T (i+k))→∀ j,(Jo m i l M).testBit j=true→T j
 |[],i,M,hM,_,j,h=>hM j h
 |o::r,i,M,hM,hs,j,h=>by
  unfold Jo at h
  refine FD r (i+1) _ ?_ (fun k o hk he=>by have:=hs (k+1) o (by simpa using hk) he; rwa [show i+1+k=i+(k+1) by omega]) j h
  intro j hj
  split at hj
  ·rename_i Ax
   rw[Nat.testBit_or,Bool.or_eq_true]at hj
   rcases hj with hj|hj
   ·exact hM j hj
   ·rw[Nat.testBit_two_pow]at hj
    have Sp:i=j:=by simpa using hj
    subst Sp
    refine hs 0 o rfl fun e he hb=>hM _ ?_
    have h1:=CP (p:=e.on) ⟨e,he,hb,rfl⟩
    rw[←Ax,Nat.testBit_and,Bool.and_eq_true]at h1
    exact h1.2
  ·exact hM j hj
theorem FE[ah]{m:Region.Mode}{T:Nat→Prop}{l:List Oper}(hs:∀ k o,l[k]?=some o→(∀ e∈o.after.toList,Region.binds m e=true→T e.on)→T k):
  ∀ (k M:Nat),(∀ j,M.testBit j=true→T j)→∀ j,(Jp m l k M).testBit j=true→T j
 |0,M,hM,j,h=>hM j h
 |k+1,M,hM,j,h=>by
  unfold Jp at h
  exact FE hs k _ (FD l 0 M hM (fun q o hq he=>by simpa using hs q o hq he)) j h
theorem Ic[ah]{m:Region.Mode}(h:rG m ops=true){T:Nat→Prop}(hs:∀ k o,ops[k]?=some o→(∀ e∈o.after.toList,Region.binds m e=true→T e.on)→T k):∀ i,i<ops.size→T i:=by
 intro i hi
 have h1:=List.all_eq_true.1 h i (List.mem_range.2 hi)
 exact FE (l:=ops.toList) (fun k o hk he=>hs k o (by simpa using hk) he) 8 0 (by simp) i h1
theorem sY[ah]:∀ (l:List Oper) (acc:List Nat) (k:Nat) (o:Oper),l[k]?=some o→(∀ e∈o.after.toList,Region.binds .any e=true→e.on<acc.length+k) →
  (l.foldl (fun acc o=>acc++[jX acc o.after.toList]) acc).getD (acc.length+k) 0 =
    jX (l.foldl (fun acc o=>acc++[jX acc o.after.toList]) acc) o.after.toList
 |[],acc,k,o,h,_=>by simp at h
 |p::r,acc,0,o,h,he=>by
  simp only[List.getElem?_cons_zero,Option.some.injEq]at h
  subst h
  simp only[List.foldl_cons,Nat.add_zero]
  rw[rZ r _ _ rfl acc.length (by simp)]
  have h1:(acc++[jX acc p.after.toList]).getD acc.length 0=jX acc p.after.toList:=by
   simp[List.getD]
  rw[h1]
  apply yk
  intro e hem hb
  have cr:e.on<acc.length:=by simpa using he e hem hb
  rw[rZ r _ _ rfl e.on (by simp; omega)]
  simp[List.getD,List.getElem?_append_left cr]
 |p::r,acc,k+1,o,h,he=>by
  simp only[List.getElem?_cons_succ]at h
  simp only[List.foldl_cons]
  have:=sY r (acc++[jX acc p.after.toList]) k o h (fun e hem hb=>by have:=he e hem hb; simp; omega)
  simp only[List.length_append,List.length_cons,List.length_nil]at this
  have e1:acc.length+(0+1)+k=acc.length+(k+1):=by omega
  rw[e1]at this
  exact this
theorem iy:∀ (l:List Oper) (i:Nat),mD i l=true→∀ k o,l[k]?=some o→∀ e∈o.after.toList,Region.binds .any e=true→e.on<i+k
 |[],i,_,k,o,h=>by simp at h
 |p::r,i,h,0,o,hk=>by
  simp only[List.getElem?_cons_zero,Option.some.injEq]at hk
  subst hk
  simp only[mD,Bool.and_eq_true]at h
  intro e he hb
  have:=List.all_eq_true.1 h.1 e he
  simpa[hb] using this
 |p::r,i,h,k+1,o,hk=>by
  simp only[List.getElem?_cons_succ]at hk
  simp only[mD,Bool.and_eq_true]at h
  intro e he hb
  have:=iy r (i+1) h.2 k o hk e he hb
  omega
theorem vX{pr:List Nat}:∀ (l:List Oper) (i:Nat),vp ops pr i l=true→∀ j k o p,j<k→l[j]?=some o→l[k]?=some p →
  ub pr (i+k) (i+j)=true∨Oper.apart ops o p=true
 |[],i,_,j,k,o,p,_,h,_=>by simp at h
 |q::r,i,h,0,k+1,o,p,_,ho,hp=>by
  simp only[List.getElem?_cons_zero,Option.some.injEq]at ho
  subst ho
  simp only[List.getElem?_cons_succ]at hp
  simp only[vp,Bool.and_eq_true]at h
  have n4:(p,i+1+k)∈r.zipIdx (i+1):=by
   grind
  have:=List.all_eq_true.1 h.1 _ n4
  simp only[Bool.or_eq_true]at this
  have e1:i+1+k=i+(k+1):=by omega
  rw[e1]at this
  simpa using this
 |q::r,i,h,j+1,k+1,o,p,QZ,ho,hp=>by
  simp only[List.getElem?_cons_succ]at ho hp
  simp only[vp,Bool.and_eq_true]at h
  have:=vX r (i+1) h.2 j k o p (by omega) ho hp
  have e1:i+1+j=i+(j+1):=by omega
  have e2:i+1+k=i+(k+1):=by omega
  rw[e1,e2]at this
  exact this
 |q::r,i,h,j,0,o,p,QZ,_,_=>by omega
theorem mO[ah]:∀ (l:List Oper) (i n:Nat) (k:Nat) (x:Item),(bW i n l)[k]?=some x →
  x.idx=i+k∧l[k]?=some x.o∧n≤x.nm∧(aC x.o.op=true→x.nm<n+(l.filter fun o=>aC o.op).length)
 |[],i,n,k,x,h=>by simp[bW]at h
 |o::r,i,n,0,x,h=>by
  simp only[bW,List.getElem?_cons_zero,Option.some.injEq]at h
  subst h
  refine⟨rfl,rfl,Nat.le_refl _,fun ha=>?_⟩
  simp only at ha
  simp[ha]
 |o::r,i,n,k+1,x,h=>by
  simp only[bW,List.getElem?_cons_succ]at h
  obtain⟨h1,h2,h3,h4⟩:=mO r (i+1) _ k x h
  refine⟨by omega,by simpa using h2,?_,fun ha=>?_⟩
  ·split at h3<;>omega
  ·grind
theorem AD[ah]:∀ (l:List Oper) (i n:Nat) (j k:Nat) (x y:Item),j<k→(bW i n l)[j]?=some x→(bW i n l)[k]?=some y→aC x.o.op=true→x.nm<y.nm
 |[],i,n,j,k,x,y,_,h,_,_=>by simp[bW]at h
 |o::r,i,n,0,k+1,x,y,_,hx,hy,ha=>by
  simp only[bW,List.getElem?_cons_zero,Option.some.injEq]at hx
  subst hx
  simp only[bW,List.getElem?_cons_succ]at hy
  simp only at ha
  have:=(mO r (i+1) _ k y hy).2.2.1
  rw[if_pos ha]at this
  exact this
 |o::r,i,n,j+1,k+1,x,y,QZ,hx,hy,ha=>by
  simp only[bW,List.getElem?_cons_succ]at hx hy
  exact AD r (i+1) _ j k x y (by omega) hx hy ha
 |o::r,i,n,j,0,x,y,QZ,_,_,_=>by omega
theorem ny[ah]:∀ (l:List Oper) (i n:Nat),(bW i n l).length=l.length
 |[],_,_=>rfl
 |o::r,i,n=>by simp[bW,ny r]
theorem sa[ah]:∀ (R:List Item) (s s':St) (fs:List gB),cV step ops R s=some (s',fs)→fs.map (·.idx)=R.map (·.idx)
 |[],s,s',fs,h=>by
  simp_all[cV]
 |x::r,s,s',fs,h=>by
  obtain⟨s1,f,Hu,h1,h2,rfl⟩:=mN h
  have ih:=sa r s1 s' Hu h2
  have:f.idx=x.idx:=by
   rcases nx h1 with ⟨_,_,rfl⟩|⟨_,_,_,_,_,rfl⟩<;>rfl
  simp[ih,this]
theorem vY{pr:List Nat}:∀ (fs:List gB),gi pr fs=true→∀ (j k:Nat) (f g:gB),j<k→fs[j]?=some f→fs[k]?=some g→uc pr f g=true
 |[],_,j,k,f,g,_,h,_=>by simp at h
 |q::r,h,0,k+1,f,g,_,hf,hg=>by
  grind[gi]
 |q::r,h,j+1,k+1,f,g,QZ,hf,hg=>by
  simp only[List.getElem?_cons_succ]at hf hg
  simp only[gi,Bool.and_eq_true]at h
  exact vY r h.2 j k f g (by omega) hf hg
 |q::r,h,j,0,f,g,QZ,_,_=>by omega
theorem CQ{a b:List Nat}(h:HH a b=true):∀ n∈a,n∉b:=by
 intro n hn hb
 have:=List.all_eq_true.1 h n hn
 simp[hb]at this
end
end Go.PI
end
section
/- PI, part W: a region whose order is drawn, in the world: the induction. -/
namespace Go.PI
section
variable {step:Nat→Oper→List AV→RM eg}{ops:Array Oper}
structure Left[ah](ops:Array Oper)(pr:List Nat)(m:Nat)(R:List Item)(listed:Array Bool):Prop where
 size:listed.size=ops.size
 item:∀ x∈R,ops[x.idx]?=some x.o∧listed.getD x.idx true=false∧x.idx<m
 sorted:R.Pairwise (fun x y=>x.idx<y.idx)
 all:∀ i,i<ops.size→listed.getD i true=false→i<m→∃ x∈R,x.idx=i
 rest:∀ i,m≤i→i<ops.size→listed.getD i true=false
 down:∀ i o,ops[i]?=some o→listed.getD i true=true→∀ p,ub pr i p=true→listed.getD p false=true
 names:R.Pairwise (fun x y=>aC x.o.op=true→x.nm<y.nm)
theorem vZ{a:Array Bool}{i:Nat}(h:i<a.size)(x y:Bool):a.getD i x=a.getD i y:=by
 simp[Array.getD,h]
theorem K1{m:Region.Mode}{e:Edge}(h:Region.binds .any e=true):Region.binds m e=true:=by
 grind[Region.binds]
theorem FF[ah]{md:Region.Mode}(yl:rG md ops=true){listed:Array Bool}(eu:listed.size=ops.size){i:Nat}(cr:i<ops.size)(hi:listed.getD i true=false):Region.ready md ops listed≠[]:=by
 intro AE
 have bK:=Ic yl (T:=fun i=>i<ops.size∧listed.getD i true=true) (fun k o hk he=>by
  have hkl:k<ops.size:=(Array.getElem?_eq_some_iff.1 hk).1
  refine⟨hkl,?_⟩
  cases hq:listed.getD k true with
  |true=>rfl
  |false=>
   have n4:k∈Region.ready md ops listed:=by
    unfold Region.ready
    rw[List.mem_filter]
    refine⟨List.mem_range.2 hkl,?_⟩
    simp only[hq,Bool.not_false,Bool.true_and,hk,Option.map_some,Option.getD_some]
    rw[←Array.all_toList]
    refine List.all_eq_true.2 fun e hee=>?_
    cases hb:Region.binds md e with
    |false=>rfl
    |true=>
     grind
   rw[AE]at n4
   simp at n4) i cr
 rw[hi]at bK
 simp at bK
theorem ym[ah]{md:Region.Mode}(ox:mD 0 ops.toList=true){listed:Array Bool}(eu:listed.size=ops.size)
  (CL:∀ i o,ops[i]?=some o→listed.getD i true=true→∀ p,ub (cH ops.toList) i p=true→listed.getD p false=true) {i:Nat} (hi:i∈Region.ready md ops listed) :
  i<ops.size∧listed.getD i true=false∧∀ p,ub (cH ops.toList) i p=true→listed.getD p false=true:=by
 have D6:∀ i o,ops[i]?=some o→(cH ops.toList).getD i 0=jX (cH ops.toList) o.after.toList:=by
  intro i o ho
  have dM:ops.toList[i]?=some o:=by simpa using ho
  have:=sY ops.toList [] i o dM (fun e he hb=>by have:=iy ops.toList 0 ox i o dM e he hb; simpa using this)
  simpa[cH] using this
 unfold Region.ready at hi
 rw[List.mem_filter]at hi
 obtain⟨P8,Sm⟩:=hi
 simp only[List.mem_range]at P8
 simp only[Bool.and_eq_true,Bool.not_eq_true']at Sm
 obtain⟨hun,Ie⟩:=Sm
 refine⟨P8,hun,fun p hp=>?_⟩
 obtain⟨o,WD⟩:∃ o,ops[i]?=some o:=⟨ops[i],by simp[P8]⟩
 simp only[WD,Option.map_some,Option.getD_some]at Ie
 rw[←Array.all_toList]at Ie
 unfold ub at hp
 rw[D6 i o WD]at hp
 obtain⟨e,he,K2,hp⟩:=sX hp
 have hb:=(iy ops.toList 0 ox i o (by simpa using WD) e he K2)
 have h1:=List.all_eq_true.1 Ie e he
 simp only[K1 K2,Bool.not_true,Bool.false_or]at h1
 rcases hp with rfl|hp
 ·exact h1
 ·have cr:e.on<ops.size:=by omega
  have ZZ:listed.getD e.on true=true:=by rw[vZ (by rw[eu]; exact cr) true false]; exact h1
  obtain⟨o2,xm⟩:∃ o2,ops[e.on]?=some o2:=⟨ops[e.on],by simp[cr]⟩
  exact CL e.on o2 xm ZZ p hp
theorem Q0[ah](ox:mD 0 ops.toList=true):∀ {k:Nat} {o:Oper},ops[k]?=some o→∀ {p:Nat},ub (cH ops.toList) k p=true→p<k:=by
 have D6:∀ i o,ops[i]?=some o→(cH ops.toList).getD i 0=jX (cH ops.toList) o.after.toList:=by
  intro i o ho
  have dM:ops.toList[i]?=some o:=by simpa using ho
  have:=sY ops.toList [] i o dM (fun e he hb=>by have:=iy ops.toList 0 ox i o dM e he hb; simpa using this)
  simpa[cH] using this
 intro k
 induction k using Nat.strongRecOn with
 |ind k ih=>
  intro o hk p hp
  unfold ub at hp
  rw[D6 k o hk]at hp
  obtain⟨e,he,K2,hp⟩:=sX hp
  have hb:=(iy ops.toList 0 ox k o (by simpa using hk) e he K2)
  rcases hp with rfl|hp
  ·omega
  ·grind
theorem yn{pr:List Nat}{n m:Nat}(h:oW pr n m=true){i j:Nat}(h1:m≤i)(h2:i<n)(h3:j<i):ub pr i j=true:=by
 have:=List.all_eq_true.1 h (i-m) (List.mem_range.2 (by omega))
 have:=List.all_eq_true.1 this j (List.mem_range.2 (by omega))
 have e:m+(i-m)=i:=by omega
 rw[e]at this
 exact this
theorem Nh[ah]{P:Program}(vW:Looks step)(ft:uq P step)(ox:mD 0 ops.toList=true){md:Region.Mode}(yl:rG md ops=true){m:Nat}(hm:m≤ops.size)(yp:oW (cH ops.toList) ops.size m=true){s':St}{Q:Exit→Act→World→Prop}
  {E0:Env} {w0:World} {B:rf} {r:Option Nat}
  (hQ:∀ E a w (listed:Array Bool),Ext E0 E→Fr E0 w0 E w→du B E s' a w→listed.size=ops.size→(∀ j,j<m→listed.getD j true=true)→(∀ j,m≤j→j<ops.size→listed.getD j true=false) →
    wpAnyIn (WF r) 0 P md ops Q (ops.size-m) listed a w) :
  ∀ (fuel:Nat) (R:List Item) (listed:Array Bool) (fs:List gB) (E:Env) (s:St) (a:Act) (w:World),R.length=fuel→Left ops (cH ops.toList) m R listed →
    Ext E0 E→Fr E0 w0 E w→du B E s a w→(∀ x∈R,aC x.o.op=true→s.hp[x.nm]?=some none)→cV step ops R s=some (s',fs) →
    (∀ (j k:Nat) (x y:Item) (f g:gB),j<k→R[j]?=some x→R[k]?=some y→fs[j]?=some f→fs[k]?=some g →
      ub (cH ops.toList) y.idx x.idx=true∨Xd ops x f y g) →
    wpAnyIn (WF r) 0 P md ops Q (fuel+(ops.size-m)) listed a w:=by
 have D6:∀ i o,ops[i]?=some o→(cH ops.toList).getD i 0=jX (cH ops.toList) o.after.toList:=by
  intro i o ho
  have dM:ops.toList[i]?=some o:=by simpa using ho
  have:=sY ops.toList [] i o dM (fun e he hb=>by have:=iy ops.toList 0 ox i o dM e he hb; simpa using this)
  simpa[cH] using this
 intro fuel
 induction fuel with
 |zero=>
  intro R listed fs E s a w hlen hL hx gk hs _ bz _
  have hR:R=[]:=List.eq_nil_of_length_eq_zero hlen
  subst hR
  simp only[cV,Option.some.injEq,Prod.mk.injEq]at bz
  obtain⟨rfl,_⟩:=bz
  rw[Nat.zero_add]
  refine hQ E a w listed hx gk hs hL.size (fun j hj=>?_) hL.rest
  cases hq:listed.getD j true with
  |true=>rfl
  |false=>
   obtain⟨x,hx,_⟩:=hL.all j (by omega) hq hj
   simp at hx
 |succ fuel ih=>
  intro R listed fs E s a w hlen hL hx gk hs rO bz Sz
  rw[show fuel+1+(ops.size-m)=(fuel+(ops.size-m))+1 by omega]
  refine⟨fun AE=>?_,fun i hi=>?_⟩
  ·-- the first of what is left is ready
   exfalso
   cases R with
   |nil=>simp at hlen
   |cons x r=>
    obtain⟨Xf,Qh,_⟩:=hL.item x (by simp)
    exact FF yl hL.size (Array.getElem?_eq_some_iff.1 Xf).1 Qh AE
  ·obtain⟨P8,hun,Jw⟩:=ym ox hL.size hL.down hi
   have him:i<m:=by
    rcases Nat.lt_or_ge i m with h|h
    ·exact h
    ·exfalso
     cases R with
     |nil=>simp at hlen
     |cons x r=>
      obtain⟨Xf,Qh,hxm⟩:=hL.item x (by simp)
      have:=Jw x.idx (yn yp h P8 (by omega))
      rw[vZ (by rw[hL.size]; omega) true false]at Qh
      rw[this]at Qh; cases Qh
   obtain⟨y,hy,hyi⟩:=hL.all i P8 hun him
   subst hyi
   obtain⟨WD,_,hym⟩:=hL.item y hy
   obtain⟨A,B',rfl⟩:=List.append_of_mem hy
   have Xg:fs.length=(A++y::B').length:=by
    have:=congrArg List.length (sa _ _ _ _ bz)
    simpa using this
   have aaT:A.length<fs.length:=by rw[Xg]; simp
   have Mc:fs=fs.take A.length++fs[A.length]::fs.drop (A.length+1):=by
    simp_all
   have QX:∀ p∈A.zip (fs.take A.length),Xd ops p.1 p.2 y fs[A.length]:=by
    intro p hp
    obtain⟨j,hj⟩:=List.mem_iff_getElem?.1 hp
    have Z0:=(List.getElem?_zip_eq_some).1 hj
    obtain⟨h1,h2⟩:=Z0
    have hjA:=aW h1
    rw[List.getElem?_take_of_lt hjA]at h2
    rcases Sz j A.length p.1 y p.2 fs[A.length] hjA (by rw[List.getElem?_append_left hjA]; exact h1) (by simp) h2 (by simp[aaT]) with h|h
    ·exfalso
     have h3:=Jw _ h
     have h4:=(hL.item p.1 (List.mem_append_left _ (List.mem_of_getElem? h1))).2.1
     have cr:p.1.idx<ops.size:=(Array.getElem?_eq_some_iff.1 (hL.item p.1 (List.mem_append_left _ (List.mem_of_getElem? h1))).1).1
     rw[vZ (by rw[hL.size]; exact cr) true false]at h4
     rw[h3]at h4; simp at h4
    ·exact h
   have TW:=tN vW A s fs bz (fs.take A.length) fs[A.length] (fs.drop (A.length+1)) Mc (by simp; omega) QX
   obtain⟨s1,f,Hu,lQ,SA,hfe⟩:=mN TW
   simp only[List.cons.injEq]at hfe
   obtain⟨rfl,rfl⟩:=hfe
   have dP:∀ x∈A++B',x.idx≠y.idx:=by
    intro x hx
    have hp:=List.pairwise_append.1 hL.sorted
    rcases List.mem_append.1 hx with h|h
    ·have:=hp.2.2 x h y (by simp); omega
    ·have:=List.rel_of_pairwise_cons hp.2.1 h; omega
   have Ax:(A++B').Sublist (A++y::B'):=List.Sublist.append (List.Sublist.refl A) (List.sublist_cons_self y B')
   have hL':Left ops (cH ops.toList) m (A++B') (listed.setIfInBounds y.idx true):=by
    have fW:∀ j d,j≠y.idx→(listed.setIfInBounds y.idx true).getD j d=listed.getD j d:=by
     intro j d hj
     simp[Array.getD_eq_getD_getElem?,Ne.symm hj]
    have FG:∀ d,(listed.setIfInBounds y.idx true).getD y.idx d=true:=by
     intro d
     have:y.idx<listed.size:=by rw[hL.size]; exact P8
     simp[Array.getD_eq_getD_getElem?,this]
    refine⟨by simpa using hL.size,fun x hx=>?_,hL.sorted.sublist Ax,fun j hj hu hjm=>?_,fun j hj hjl=>?_,fun j o ho hl p hp=>?_,hL.names.sublist Ax⟩
    ·obtain⟨h1,h2,h3⟩:=hL.item x (Ax.subset hx)
     exact⟨h1,by rw[fW _ _ (dP x hx)]; exact h2,h3⟩
    ·have Z1:j≠y.idx:=by intro e; subst e; rw[FG]at hu; simp at hu
     rw[fW _ _ Z1]at hu
     obtain⟨x,hx,hxi⟩:=hL.all j hj hu hjm
     refine⟨x,?_,hxi⟩
     rcases List.mem_append.1 hx with h|h
     ·exact List.mem_append_left _ h
     ·cases h with
      |head=>omega
      |tail _ h=>exact List.mem_append_right _ h
    ·rw[fW _ _ (by omega)]
     exact hL.rest j hj hjl
    ·by_cases Z1:j=y.idx
     ·subst Z1
      rw[WD]at ho; cases ho
      by_cases Xh:p=y.idx
      ·subst Xh; exact FG _
      ·rw[fW _ _ Xh]; exact Jw p hp
     ·rw[fW _ _ Z1]at hl
      by_cases Xh:p=y.idx
      ·subst Xh; exact FG _
      ·rw[fW _ _ Xh]; exact hL.down j o ho hl p hp
   have Fv:(A++B').length=fuel:=by simp at hlen ⊢; omega
   have Ni:∀ (j k:Nat) (x z:Item) (f g:gB),j<k→(A++B')[j]?=some x→(A++B')[k]?=some z→(fs.take A.length++fs.drop (A.length+1))[j]?=some f →
     (fs.take A.length++fs.drop (A.length+1))[k]?=some g→ub (cH ops.toList) z.idx x.idx=true∨Xd ops x f z g:=by
    have tr:∀ (j:Nat) (x:Item) (f:gB),(A++B')[j]?=some x→(fs.take A.length++fs.drop (A.length+1))[j]?=some f →
      (A++y::B')[if j<A.length then j else j+1]?=some x∧fs[if j<A.length then j else j+1]?=some f:=by
     intro j x f h1 h2
     have htl:(fs.take A.length).length=A.length:=by simp; omega
     by_cases hj:j<A.length
     ·rw[if_pos hj]
      rw[List.getElem?_append_left hj]at h1
      rw[List.getElem?_append_left (by omega),List.getElem?_take_of_lt hj]at h2
      exact⟨by rw[List.getElem?_append_left hj]; exact h1,h2⟩
     ·rw[if_neg hj]
      rw[List.getElem?_append_right (by omega)]at h1
      rw[List.getElem?_append_right (by omega),htl,List.getElem?_drop]at h2
      refine⟨?_,?_⟩
      ·rw[List.getElem?_append_right (by omega)]
       have:j+1-A.length=(j-A.length)+1:=by omega
       rw[this]; simpa using h1
      ·have:A.length+1+(j-A.length)=j+1:=by omega
       rw[this]at h2; exact h2
    intro j k x z f g QZ h1 h2 h3 h4
    obtain⟨a1,a2⟩:=tr j x f h1 h3
    obtain⟨b1,b2⟩:=tr k z g h2 h4
    refine Sz _ _ x z f g ?_ a1 b1 a2 b2
    split<;>split<;>omega
   unfold wpOpIn
   rw[WD]
   simp only
   rcases nx lQ with ⟨hw,rfl,_⟩|⟨hw,e,he,Hz,rfl,_⟩
   ·rw[mZ hs.fr hw]
    simp only[Bool.false_eq_true,if_false]
    refine⟨fun _ _=>trivial,?_⟩
    refine ih (A++B') _ _ E { s with fr:=bZ s.fr y.o.dst .undef } _ w Fv hL' hx gk ⟨ke hs.fr (by simp[ar]),hs.inv,by rw[put_defers]; exact hs.df,hs.bs⟩ (fun x hx=>rO x (Ax.subset hx)) SA Ni
   ·rw[mZ hs.fr hw]
    simp only[if_true]
    refine ft r y B E s a w e _ Q hs (rO y (by simp)) he fun E' w' v im Nj mM hr=>?_
    refine ih (A++B') _ _ E' { s with fr:=bZ s.fr y.o.dst e.val,hp:=av s.hp e.wr } _ w' Fv hL' (hx.trans im) (gk.trans Nj) ⟨ke (hs.fr.mono im) hr,mM,by rw[put_defers]; exact hs.df.mono Nj,Nat.le_trans hs.bs Nj.size⟩ (fun x hx ha=>?_) SA Ni
    have hn:=rO x (Ax.subset hx) ha
    have Ia:x.nm∉e.wr.map (·.1):=by
     intro hm
     obtain⟨q,hq,hqn⟩:=List.mem_map.1 hm
     rcases (Hz q hq).2 with h|⟨o,ho⟩
     ·have hxn:y.nm=x.nm:=by rw[←h.2]; exact hqn
      have hp:=List.pairwise_append.1 hL.names
      rcases List.mem_append.1 hx with h'|h'
      ·have:=hp.2.2 x h' y (by simp) ha; omega
      ·have:=List.rel_of_pairwise_cons hp.2.1 h' h.1; omega
     ·rw[hqn]at ho; rw[hn]at ho; simp at ho
    simp only
    rw[jM e.wr s.hp (fun q hq=>(Hz q hq).1) x.nm Ia]
    exact hn
end
end Go.PI
end
section
/- PI, part X: results, calls, what is dropped. -/
namespace Go.PI
theorem FH{P:Program}{nm:Nat}{ev Q1:Operand→AV}{o:Oper}(h:∀ x∈o.op.operands.toList,ev x=Q1 x):aV P nm ev o=aV P nm Q1 o:=by
 obtain⟨dst,op,type,pos,after,guard⟩:=o
 have K3:∀ (l:List Operand),(∀ x∈l,x∈op.operands.toList)→l.map ev=l.map Q1:=fun l hl=>List.map_congr_left fun x hx=>h x (hl x hx)
 unfold aV
 cases op with
 |build t parts=>
  have:(parts.toList.map fun p=>(p.1,ev p.2))=(parts.toList.map fun p=>(p.1,Q1 p.2)):=
   List.map_congr_left fun p hp=>by rw[h p.2 (by simp only[Op.operands]; exact List.mem_map.2 ⟨p,hp,rfl⟩)]
  simp only[this]
 |buildSlice t len parts=>
  have:(parts.toList.map fun p=>(p.1,ev p.2))=(parts.toList.map fun p=>(p.1,Q1 p.2)):=
   List.map_congr_left fun p hp=>by rw[h p.2 (by simp only[Op.operands]; exact List.mem_map.2 ⟨p,hp,rfl⟩)]
  simp only[this]
 |makeFunc fn first captured=>
  have h1:=K3 first.toList (fun x hx=>by simp only[Op.operands,Array.toList_append,List.mem_append]; exact .inl hx)
  have h2:=K3 captured.toList (fun x hx=>by simp only[Op.operands,Array.toList_append,List.mem_append]; exact .inr hx)
  simp only[h1,h2]
 |slice t x lo hi mx=>
  have h0:=h x (by simp[Op.operands])
  have h1:lo.map ev=lo.map Q1:=by cases lo with|none=>rfl|some y=>simp[h y (by simp[Op.operands])]
  have h2:hi.map ev=hi.map Q1:=by cases hi with|none=>rfl|some y=>simp[h y (by simp[Op.operands])]
  have h3:mx.map ev=mx.map Q1:=by cases mx with|none=>rfl|some y=>simp[h y (by simp[Op.operands])]
  simp only[h0,h1,h2,h3]
 |call c=>
  obtain⟨callee,args,argTypes⟩:=c
  cases callee with
  |builtin b=>
   have h1:=K3 args.toList (fun x hx=>by simp[Op.operands,Call.operands]; simpa using hx)
   simp only[h1]
  |value f=>rfl
  |invoke r m=>rfl
 |move x=>simp only[h x (by simp[Op.operands])]
 |assign x=>simp only[h x (by simp[Op.operands])]
 |pick c a b=>simp_all[Op.operands]
 |box t x=>simp only[h x (by simp[Op.operands])]
 |load t a=>simp only[h a (by simp[Op.operands])]
 |store t a x=>simp_all[Op.operands]
 |nilCheck x=>simp only[h x (by simp[Op.operands])]
 |binOp b t x y yt=>simp_all[Op.operands]
 |unOp u t x=>simp only[h x (by simp[Op.operands])]
 |convert s d x=>simp only[h x (by simp[Op.operands])]
 |makeInterface t x=>simp only[h x (by simp[Op.operands])]
 |makeSlice t l c=>simp_all[Op.operands]
 |sliceToArrayPointer t x=>simp only[h x (by simp[Op.operands])]
 |fieldAddr s x f=>simp only[h x (by simp[Op.operands])]
 |field s x f=>simp only[h x (by simp[Op.operands])]
 |indexAddr t x i=>simp_all[Op.operands]
 |index t x i=>simp_all[Op.operands]
 |extract t i=>simp only[h t (by simp[Op.operands])]
 |makeMap t r=>
  have h1:r.map ev=r.map Q1:=by cases r with|none=>rfl|some y=>simp[h y (by simp[Op.operands])]
  simp only[h1]
 |lookup t x i c=>simp_all[Op.operands]
 |mapUpdate t m k x=>simp_all[Op.operands]
 |_=>rfl
theorem Nk[ah]{P:Program}{nm nm':Nat}{ev:Operand→AV}{o:Oper}(h:aC o.op=false):aV P nm ev o=aV P nm' ev o:=by
 obtain⟨dst,op,type,pos,after,guard⟩:=o
 unfold aV
 cases op with
 |alloc _=>simp[aC]at h
 |box _ _=>simp[aC]at h
 |buildSlice _ _ _=>simp[aC]at h
 |makeSlice _ _ _=>simp[aC]at h
 |makeMap _ _=>simp[aC]at h
 |call c=>
  obtain⟨callee,args,argTypes⟩:=c
  cases callee with
  |builtin b=>
   cases b with
   |append=>simp[aC]at h
   |_=>rfl
  |_=>rfl
 |_=>rfl
theorem RM.AF{hp:ak}{n:Nat}{g c f:Bool}{es:List AV}(h:hp[n]?=some (some (.arr g c f es))):(RM.arr n es.length).run hp=some (g,c,f,es):=by
 simp[RM.arr,RM.run,h]
theorem ur[ah]{P:Program}{E:Env}{hp:ak}{w:World}(hI:Inv E hp w){fr:List AV}{a:Act}(gk:aw E true fr a.tmps.toList){fn:Func}{l:List AV}
  (h:(bk P fr fn.results.toList).run hp=some l):∃ v,(results fn a.tmps).run P w=.ok v w∧ar E true (cY l) v:=by
 have one:∀ (r:ResultVar) (x:AV),(lI P fr r).run hp=some x →
   ∃ v,(match r with|.tmp t=>pure (a.tmps.getD t undef)|.cell ad t=>(do loadVar t (←asAddr (a.tmps.getD ad undef))):Sem Value).run P w=.ok v w∧ar E true x v:=by
  intro r x hx
  cases r with
  |tmp t=>
   simp only[lI,RM.run_pure,Option.some.injEq]at hx
   subst hx
   exact⟨_,rfl,kf hI.kL gk (.tmp t)⟩
  |cell ad t=>
   simp only[lI]at hx
   have hr:=kf hI.kL gk (.tmp ad)
   obtain⟨v,h1,h2⟩:=Ju hI (va:=a.tmps.getD ad undef) hr hx
   refine⟨v,?_,h2⟩
   simp only[Instr.loadAt,Sem.run_bind]at h1
   simp only[Sem.run_bind]
   cases hq:a.tmps.getD ad undef with
   |pointer p=>
    cases p with
    |some p=>rw[hq]at h1; simpa[asAddr,Instr.sureAddr] using h1
    |none=>rw[hq]at h1; simp[Instr.sureAddr]at h1
   |_=>rw[hq]at h1; simp[Instr.sureAddr]at h1
 have many:∀ (rs:List ResultVar) (l:List AV),(bk P fr rs).run hp=some l →
   ∃ vs:List Value,(rs.mapM fun|.tmp t=>pure (a.tmps.getD t undef)|.cell ad t=>(do loadVar t (←asAddr (a.tmps.getD ad undef))):Sem (List Value)).run P w=.ok vs w ∧
     aw E true l vs:=by
  intro rs
  induction rs with
  |nil=>
   intro l h
   simp only[bk,RM.run_pure,Option.some.injEq]at h
   subst h
   exact⟨[],by simp[List.mapM_nil],by simp[aw]⟩
  |cons r rs ih=>
   intro l h
   simp only[bk,RM.run_bind]at h
   cases hq:(lI P fr r).run hp with
   |none=>rw[hq]at h; simp at h
   |some x=>
    rw[hq]at h
    simp only[Option.bind_some]at h
    cases fc:(bk P fr rs).run hp with
    |none=>rw[fc]at h; simp at h
    |some xs=>
     rw[fc]at h
     simp only[Option.bind_some,RM.run_pure,Option.some.injEq]at h
     subst h
     obtain⟨v,h1,h2⟩:=one r x hq
     obtain⟨vs,h3,h4⟩:=ih xs fc
     refine⟨v::vs,?_,by simp only[aw]; exact⟨h2,h4⟩⟩
     rw[List.mapM_cons,Sem.run_bind,h1,Result.andThen_ok,Sem.run_bind,h3]
     rfl
 obtain⟨vs,h1,h2⟩:=many _ _ h
 have hm:(fn.results.mapM fun|.tmp t=>pure (a.tmps.getD t undef)|.cell ad t=>(do loadVar t (←asAddr (a.tmps.getD ad undef))):Sem (Array Value)).run P w=.ok vs.toArray w:=by
  rw[Array.mapM_eq_mapM_toList,Sem.run_map,h1]
  rfl
 refine⟨if h:vs.toArray.size=1 then vs.toArray[0] else .tuple vs.toArray,?_,?_⟩
 ·unfold results
  rw[Sem.run_bind]
  exact congrArg (fun (r:Result (Array Value))=>r.andThen fun vs w'=>(pure (if h:vs.size=1 then vs[0] else .tuple vs):Sem Value).run P w') hm
 ·have hlen:=h2.length
  match l,vs,h2,hlen with
  |[],[],_,_=>simp[cY,ar,aw]
  |[x],[v],h2,_=>simp only[aw]at h2; simpa[cY] using h2.1
  |x::y::r,v::u::s,h2,_=>
   simp only[cY,ar]
   exact⟨v::u::s,by simp,h2⟩
  |[],_::_,_,h=>simp at h
  |_::_,[],_,h=>simp at h
  |[_],_::_::_,_,h=>simp at h
  |_::_::_,[_],_,h=>simp at h
def Env.iz(E:Env)(k:Nat):Env where
 ρ:=fun n ax=>if n<E.L then E.ρ n ax else none
 m:=E.m
 L:=E.L+k
 own:=E.own
theorem Ig[ah]{E:Env}{hp:ak}{w:World}(hI:Inv E hp w)(k:Nat):
  Ext E (E.iz k)∧Inv (E.iz k) (hp++List.replicate k none) w∧Fr E w (E.iz k) w:=by
 have hx:Ext E (E.iz k):=⟨fun _ _ h=>h,fun n hn ax l h=>by simp[Env.iz,hn,h],by simp[Env.iz]⟩
 have hold:∀ n o,(hp++List.replicate k none)[n]?=some (some o)→hp[n]?=some (some o)∧n<E.L:=by
  intro n o h
  rw[List.getElem?_append]at h
  split at h
  ·rename_i cr; exact⟨h,by rw[←hI.len]; exact cr⟩
  ·simp[List.getElem?_replicate]at h
 have ei:∀ n,n<E.L→∀ ax,(E.iz k).ρ n ax=E.ρ n ax:=fun n hn ax=>by simp[Env.iz,hn]
 have fI:∀ n b,cG (E.iz k) (hp++List.replicate k none) n b→cG E hp n b:=by
  rintro n b ⟨o,l,ho,hl,hb⟩
  obtain⟨h1,h2⟩:=hold n o ho
  refine⟨o,l,h1,?_,hb⟩
  cases o with
  |arr=>simpa only[ei n h2] using hl
  |iI=>simpa only[ei n h2] using hl
 refine⟨hx,⟨by simp[Env.iz,hI.len],?_,?_,fun n1 n2 b h1 h2=>hI.inj n1 n2 b (fI _ _ h1) (fI _ _ h2),hI.mem,hI.qk,hI.kL⟩,
  ⟨rfl,rfl,rfl,Nat.le_refl _,fun _ _ _=>rfl,fun _ h=>.inl h,fun _ _ h=>.inl h⟩⟩
 ·intro n o ho
  obtain⟨h1,h2⟩:=hold n o ho
  have h:=hI.objs n o h1
  cases o with
  |arr g cl fz es=>
   obtain⟨l,hl,hv,hm⟩:=h
   refine⟨l,by rw[ei n h2]; exact hl,fun ax l' h=>hv ax l' (by rw[ei n h2]at h; exact h),?_⟩
   cases hb:l.mh with
   |none=>rw[hb]at hm; exact hm
   |some b=>
    rw[hb]at hm
    obtain⟨c,T,a1,a2,a3,a4,a5,a6,a7⟩:=hm
    exact⟨c,T,a1,a2,a3,a4,a5,a6,fun i e he=>by obtain⟨v,lK,gC⟩:=a7 i e he; exact⟨v,lK.mono hx,gC⟩⟩
  |iI k Qv=>
   obtain⟨l,b,es,clock,a1,a2,a3,a4,a5,a6,a7,a8⟩:=h
   exact⟨l,b,es,clock,by rw[ei n h2]; exact a1,a2,a3,a4,a5,fun ax l' h=>a6 ax l' (by rw[ei n h2]at h; exact h),a7,a8.mono hx⟩
 ·intro n ax h
  rw[List.getElem?_append]at h
  split at h
  ·rename_i cr
   have:n<E.L:=by rw[←hI.len]; exact cr
   rw[ei n this]
   exact hI.free n ax h
  ·rename_i QH
   have:¬n<E.L:=by rw[←hI.len]; exact QH
   simp[Env.iz,this]
def Env.lower(E:Env)(n:Nat):Env:={ E with L:=n }
theorem v5[ah]{E:Env}{hp:ak}{w:World}(hI:Inv E hp w){n:Nat}(hn:n≤hp.length)(bK:(hp.take n).all (mj n)=true):
  Inv (E.lower n) (hp.take n) w∧Fr E w (E.lower n) w∧Down E (E.lower n):=by
 have TX:Down E (E.lower n):=⟨fun _ _ h=>h,fun _ _ _ _ h=>h⟩
 have hold:∀ i o,(hp.take n)[i]?=some o→hp[i]?=some o∧i<n:=by
  grind
 have fI:∀ i b,cG (E.lower n) (hp.take n) i b→cG E hp i b:=by
  rintro i b ⟨o,l,ho,hl,hb⟩
  exact⟨o,l,(hold i _ ho).1,hl,hb⟩
 refine⟨⟨by simp[Env.lower]; omega,?_,fun i ax h=>hI.free i ax (hold i _ h).1,fun n1 n2 b h1 h2=>hI.inj n1 n2 b (fI _ _ h1) (fI _ _ h2),hI.mem,hI.qk,hI.kL⟩,
  ⟨rfl,rfl,rfl,Nat.le_refl _,fun _ _ _=>rfl,fun _ h=>.inl h,fun _ _ h=>.inl h⟩,TX⟩
 intro i o ho
 obtain⟨h1,h2⟩:=hold i _ ho
 have hb:=List.all_eq_true.1 bK _ (List.mem_of_getElem? ho)
 simp only[mj]at hb
 have h:=hI.objs i o h1
 cases o with
 |arr g cl fz es=>
  obtain⟨l,hl,hv,hm⟩:=h
  refine⟨l,hl,hv,?_⟩
  cases zY:l.mh with
  |none=>rw[zY]at hm; exact hm
  |some b=>
   rw[zY]at hm
   obtain⟨c,T,a1,a2,a3,a4,a5,a6,a7⟩:=hm
   refine⟨c,T,a1,a2,a3,a4,a5,a6,fun j e he=>?_⟩
   obtain⟨v,lK,gC⟩:=a7 j e he
   refine⟨v,?_,gC⟩
   cases cl with
   |true=>exact ar.e9 ⟨TX.m⟩ lK
   |false=>
    simp only[ba.below,Bool.false_or]at hb
    refine ar.down TX ?_ lK
    have:∀ (l:List AV),dt n l=true→∀ x∈l,below n x=true:=by
     intro l
     induction l with
     |nil=>simp
     |cons y ys ih=>
      simp_all[dt]
    exact this es hb e (List.mem_of_getElem? he)
 |iI k Qv=>
  obtain⟨l,b,es,clock,a1,a2,a3,a4,a5,a6,a7,a8⟩:=h
  refine⟨l,b,es,clock,a1,a2,a3,a4,a5,a6,a7,?_⟩
  simp only[ba.below]at hb
  exact aw.down TX hb a8
theorem uu[ah]{E:Env}{n:Nat}(TX:Down E (E.lower n)):∀ {fr:List AV} {vs:List Value},aw E true fr vs→aw (E.lower n) true (fr.map (forget n)) vs
 |[],[],_=>by simp[aw]
 |x::xs,v::vs,h=>by
  simp only[aw]at h
  simp only[List.map_cons,aw]
  refine⟨?_,uu TX h.2⟩
  unfold forget
  split
  ·rename_i hb; exact ar.down TX hb h.1
  ·simp[ar]
 |[],_::_,h=>by simp[aw]at h
 |_::_,[],h=>by simp[aw]at h
end Go.PI
end
section
/- PI, part Da: a function that is entered as a deferred call while the frame below returns: recover gives nil. -/
namespace Go.PI
theorem nj(o:Oper):(eL o).dst=o.dst∧(eL o).guard=o.guard∧(eL o).after=o.after:=by
 unfold eL; split
 ·split<;>exact⟨rfl,rfl,rfl⟩
 ·exact⟨rfl,rfl,rfl⟩
theorem Cm(o:Oper):eL o=o∨(eL o={ o with op:=.move (.const .nilIface) }∧∃ ru,o.op=.call { callee:=.builtin .recover,args:=#[],argTypes:=ru }):=by
 unfold eL; split
 ·rename_i c hc
  split
  ·rename_i h1 h2
   refine .inr ⟨rfl,c.argTypes,?_⟩
   rw[hc]
   obtain⟨x,y,z⟩:=c
   simp only at h1 h2
   rw[h1,Array.toList_eq_nil_iff.1 h2]
  ·exact .inl rfl
 ·exact .inl rfl
theorem E9{ρ:Operand→Value}{o:Oper}{P:Program}{w:World}{ru:Array TypeId}(h:o.op=.call { callee:=.builtin .recover,args:=#[],argTypes:=ru }):(execOp ρ o).run P w=.ok .recover w:=by
 unfold execOp; rw[h]; rfl
theorem BW(ops:Array Oper)(tmps:Array Value):yielded (ops.map eL) tmps=yielded ops tmps:=by
 funext j
 simp only[yielded,Array.getElem?_map]
 cases ops[j]? with
 |none=>rfl
 |some o=>simp only[Option.map_some,Option.bind_some,(nj o).1]
section
variable {F:Fence}{n:Nat}{P:Program}{ops:Array Oper}{Q:Exit→Act→World→Prop}
theorem Jr(l:List Nat):∀ (a:Act) (w:World),wpOpsIn F n P (ops.map eL) Q l a w→∀ (b:Frame) (k:List Go.Item) (cs:List Frame),b.kind=.deferred→recoverD cs=none→F.round=none→b.roundOf=F.round→F.fn b.fn→F.room (cs.length+1+n) →
  ∃ e a' w',Q e a' w'∧ArrivesIn (Machine.fenced P F) P (lone (b.atR a (.inRegion ops l::k)) cs w) b k cs e a' w':=by
 induction l with
 |nil=>exact fun a w h b k cs _ _ _ _ hb hr=>⟨.normal,a,w,h,.one (fenced_calm hb hr rfl) stepR_region_end⟩
 |cons i rest ih=>
  intro a w h b k cs hk pv gk eF hb hr
  simp only[wpOpsIn,Array.getElem?_map,BW]at h
  cases ho:ops[i]? with
  |none=>
   simp only[ho,Option.map_none]at h
   obtain⟨e,a',w',hq,dp⟩:=ih a w h b k cs hk pv gk eF hb hr
   have hs:=stepR_op_skip (P:=P) (b:=b) (a:=a) (k:=k) (cs:=cs) (w:=w) (ops:=ops) (i:=i) (rest:=rest) (by simp[ho])
   simp only[ho,Option.bind_none,Act.put]at hs
   exact⟨e,a',w',hq,.of_steps (.one (fenced_noOper hb hr ho) hs) dp⟩
  |some o=>
   simp only[ho,Option.map_some]at h
   have hwd:Region.wanted (eL o) (yielded ops a.tmps)=Region.wanted o (yielded ops a.tmps):=by unfold Region.wanted; rw[(nj o).2.1]
   rw[hwd,(nj o).1]at h
   have zZ:∀ v,(b.atR a (.inRegion ops (i::rest)::k)).finish v=b.atR (a.put o.dst v) (.inRegion ops rest::k):=by
    intro v; rw[Frame.finish_atR,ho]; rfl
   by_cases hw:Region.wanted o (yielded ops a.tmps)=true
   ·have hg:=stepGR_op (P:=P) (b:=b) (k:=k) (cs:=cs) (w:=w) (rest:=rest) ho hw
    simp only[hw,if_true,Oper.wpIn]at h
    rcases Cm o with he|⟨he,ru,Ht⟩
    ·rw[he]at h
     rw[eF]at hg
     obtain⟨wV,h⟩:=h
     have h0:(lone (b.atR a (.inRegion ops (i::rest)::k)) cs w).fenced P F:=fenced_oper hb hr ho wV
     simp only[Oper.uponIn]at h
     split at h
     ·rename_i v w' pw
      obtain⟨e,a',z7,hq,dp⟩:=ih _ _ h b k cs hk pv gk eF hb hr
      refine⟨e,a',z7,hq,.of_steps (.one h0 (step_lone_go ?_)) dp⟩
      rw[hg,←zZ]; simp[stepG.apply,pw]
     ·rename_i w' pw
      obtain⟨e,a',z7,hq,dp⟩:=ih _ _ h b k cs hk pv gk eF hb hr
      refine⟨e,a',z7,hq,.of_steps (.one h0 (step_lone_go ?_)) dp⟩
      rw[hg,←zZ]; simp[stepG.apply,pw]
     ·rename_i d w' pw
      obtain⟨e,a',z7,hq,dp⟩:=ih _ _ h b k cs hk pv gk eF hb hr
      refine⟨e,a',z7,hq,.of_steps (.one h0 (step_lone_go ?_)) dp⟩
      have:=Frame.finish_atR b { a with defers:=d::a.defers } ops i rest k undef
      rw[ho]at this
      rw[hg]; simp only[stepG.apply,Sem.runT_eq,pw,GStep.bare_after]
      exact congrArg (fun fr=>GStep.go { frame:=fr,callers:=cs,status:=.running,dying:=none } w') this
     ·rename_i f args w' pw
      obtain⟨hn,hF,h⟩:=h
      have pA:F.room ((b.atR a (.inRegion ops (i::rest)::k)::cs).length+1+(n-1)):=Fence.room_enter hr hn
      obtain⟨e,z7,fr,hR,ql,tD,DG⟩:=h (b.atR a (.inRegion ops (i::rest)::k)::cs) pA
      have nk:step P (lone (b.atR a (.inRegion ops (i::rest)::k)) cs w)=.next (lone (Frame.enter P f args .normal) (b.atR a (.inRegion ops (i::rest)::k)::cs) w'):=
       step_lone_go (by rw[hg]; simp[stepG.apply,pw,Frame.atR])
      cases e with
      |returned v=>
       have hl:(lone fr (b.atR a (.inRegion ops (i::rest)::k)::cs) z7).fenced P F:=fenced_leaving (tD▸hF) pA DG
       obtain⟨e,a',w₃,hq,dp⟩:=ih _ _ hR b k cs hk pv gk eF hb hr
       refine⟨e,a',w₃,hq,.of_steps (.head h0 nk (StepsIn.trans ql (.one hl ?_))) dp⟩
       rw[←zZ]; exact step_leave_returned DG
      |panicked chain=>
       have hl:(lone fr (b.atR a (.inRegion ops (i::rest)::k)::cs) z7).fenced P F:=fenced_leaving (tD▸hF) pA DG
       refine⟨.panic chain,a,z7,hR,.inRegion ops (i::rest)::k,.head h0 nk (StepsIn.trans ql (.one hl ?_))⟩
       rw[←Frame.raise_atR]; exact step_leave_panicked DG
      |outgrown=>
       obtain⟨a₀,w₀,hq⟩:=hR
       exact⟨.outgrown,a₀,w₀,hq,.inr (Outgrown.of_steps (.one nk) ql)⟩
     ·rename_i row args w' pw
      obtain⟨hn,h⟩:=h
      obtain⟨v,z7,hR,ql⟩:=h (b.atR a (.inRegion ops (i::rest)::k)) cs (Fence.room_enter hr hn)
      have nk:step P (lone (b.atR a (.inRegion ops (i::rest)::k)) cs w)=.next (lone (Frame.ofRow P row args .normal) (b.atR a (.inRegion ops (i::rest)::k)::cs) w'):=
       step_lone_go (by rw[hg]; simp[stepG.apply,pw,Frame.atR])
      obtain⟨e,a',w₃,hq,dp⟩:=ih _ _ hR b k cs hk pv gk eF hb hr
      refine⟨e,a',w₃,hq,.of_steps (.head h0 nk ?_) dp⟩
      rw[←zZ]; exact ql
     ·rename_i l f tmps assign body w' pw
      obtain⟨hn,_,h⟩:=h
      obtain⟨e,z7,hR,ql⟩:=h (b.atR a (.inRegion ops (i::rest)::k)) cs (Fence.room_enter hr hn)
      have nk:step P (lone (b.atR a (.inRegion ops (i::rest)::k)) cs w)=.next (lone (Frame.round l f tmps assign body .normal) (b.atR a (.inRegion ops (i::rest)::k)::cs) w'):=
       step_lone_go (by rw[hg]; simp[stepG.apply,pw,Frame.atR])
      cases e with
      |returned v=>
       obtain⟨e,a',w₃,hq,dp⟩:=ih _ _ hR b k cs hk pv gk eF hb hr
       refine⟨e,a',w₃,hq,.of_steps (.head h0 nk ?_) dp⟩
       rw[←zZ]; exact ql
      |panicked chain=>
       refine⟨.panic chain,a,z7,hR,.inRegion ops (i::rest)::k,.head h0 nk ?_⟩
       rw[←Frame.raise_atR]; exact ql
      |outgrown=>
       obtain⟨a₀,w₀,hq⟩:=hR
       exact⟨.outgrown,a₀,w₀,hq,.inr (Outgrown.of_steps (.one nk) ql)⟩
     ·rename_i v w' pw
      refine⟨_,a,w',h,.inRegion ops (i::rest)::k,.one h0 (step_lone_go ?_)⟩
      rw[hg,←Frame.raise_atR]; simp[stepG.apply,pw]
     ·exact h.elim
    ·-- recover
     rw[he]at h
     have wV:∀ f,o.about P w a.eval=some f→F.fn f:=by
      intro f hf
      unfold Oper.about at hf
      rw[Ht]at hf
      cases hf
     have h0:(lone (b.atR a (.inRegion ops (i::rest)::k)) cs w).fenced P F:=fenced_oper hb hr ho wV
     have h2:wpOpsIn F n P (ops.map eL) Q rest (a.put o.dst .nilIface) w:=by
      have h3:=h.2
      rw[gk]at h3
      exact h3
     obtain⟨e,a',z7,hq,dp⟩:=ih _ _ h2 b k cs hk pv gk eF hb hr
     refine⟨e,a',z7,hq,.of_steps (.one h0 (step_lone_go ?_)) dp⟩
     have hbr:b.roundOf=none:=eF.trans gk
     rw[hbr,Oper.semAt_none]at hg
     have Ww:=tryRecover_deferred (fr:=b.atR a (.inRegion ops (i::rest)::k)) hk cs
     rw[hg,←zZ]
     simp only[Frame.atR,hbr]at Ww ⊢
     simp[stepG.apply,E9 Ht,Ww,pv]
   ·simp only[hw,if_false,Bool.false_eq_true]at h
    obtain⟨wV,h⟩:=h
    obtain⟨e,a',w',hq,dp⟩:=ih _ _ h b k cs hk pv gk eF hb hr
    have hs:=stepR_op_skip (P:=P) (b:=b) (a:=a) (k:=k) (cs:=cs) (w:=w) (ops:=ops) (i:=i) (rest:=rest) (by simp[ho]; simpa using hw)
    simp only[ho,Option.bind_some]at hs
    have Qt:∀ f,o.about P w a.eval=some f→F.fn f:=by
     rcases Cm o with he|⟨he,ru,Ht⟩
     ·rw[he]at wV; exact wV
     ·intro f hf
      unfold Oper.about at hf
      rw[Ht]at hf
      cases hf
    exact⟨e,a',w',hq,.of_steps (.one (fenced_oper hb hr ho Qt) hs) dp⟩
def KF(F:Fence)(n:Nat)(P:Program)(c:Code)(Q:Exit→Act→World→Prop)(a:Act)(w:World):Prop:=
 ∀ (b:Frame) (k:List Go.Item) (cs:List Frame),b.kind=.deferred→recoverD cs=none→F.round=none→b.roundOf=F.round→F.fn b.fn→F.room (cs.length+1+n) →
   ∃ e a' w',Q e a' w'∧ArrivesIn (Machine.fenced P F) P (lone (b.atR a (.code c::k)) cs w) b k cs e a' w'
variable {a:Act}{w:World}
theorem Mh{c:Code}(h:c.wpIn F n P Q a w):KF F n P c Q a w:=fun b k cs _ _ _ eF hb hr=>h b k cs eF hb hr
theorem Qu{x y:Code}(h:KF F n P x (fun e a w=>match e with|.normal=>KF F n P y Q a w|e=>Q e a w) a w):KF F n P (.seq x y) Q a w:=by
 intro b k cs hk pv gk eF hb hr
 have i0:(lone (b.atR a (.code (.seq x y)::k)) cs w).fenced P F:=fenced_calm hb hr rfl
 obtain⟨e,a₁,w₁,hq,dp⟩:=h b (.code y::k) cs hk pv gk eF hb hr
 cases e with
 |normal=>
  obtain⟨e₂,a₂,w₂,z8,lJ⟩:=hq b k cs hk pv gk eF hb hr
  exact⟨e₂,a₂,w₂,z8,.of_steps (.head i0 stepR_seq dp) lJ⟩
 |exit id=>exact⟨_,a₁,w₁,hq,.of_steps (.one i0 stepR_seq) (.pass (x:=.code y) rfl (fun _ _=>.inl (by simp)) dp)⟩
 |goto l=>exact⟨_,a₁,w₁,hq,.of_steps (.one i0 stepR_seq) (.pass (x:=.code y) rfl (fun _ _=>.inl (by simp)) dp)⟩
 |ret=>exact⟨_,a₁,w₁,hq,.of_steps (.one i0 stepR_seq) (.pass (x:=.code y) rfl (fun _ _=>.inl (by simp)) dp)⟩
 |panic ch=>exact⟨_,a₁,w₁,hq,.of_steps (.one i0 stepR_seq) (.pass (x:=.code y) rfl (fun _ _=>.inl (by simp)) dp)⟩
 |outgrown=>exact⟨_,a₁,w₁,hq,.of_steps (.one i0 stepR_seq) (.pass (x:=.code y) rfl (fun _ _=>.inl (by simp)) dp)⟩
theorem HJ{id:Nat}(h:wpOpsIn F n P (ops.map eL) Q (List.range ops.size) a w):KF F n P (.region id ops false) Q a w:=
 fun b k cs hk pv gk eF hb hr=>let ⟨e,a',w',q,r⟩:=Jr _ a w h b k cs hk pv gk eF hb hr; ⟨e,a',w',q,.of_steps (.one (fenced_calm hb hr rfl) stepR_region) r⟩
theorem Mi{id:Nat}(h:∀ t,wpOpsIn F n P (ops.map eL) Q (Region.schedule (P.follows .mixedOrders) ops t) a { w with drawn:=w.drawn+1 }):KF F n P (.region id ops true) Q a w:=
 fun b k cs hk pv gk eF hb hr=>let ⟨e,a',w',q,r⟩:=Jr _ a _ (h _) b k cs hk pv gk eF hb hr; ⟨e,a',w',q,.of_steps (.one (fenced_calm hb hr rfl) stepR_region_draw) r⟩
theorem BX{f:FuncId}{fn:Func}{c:Code}{args:Array Value}{R:Ending→World→Prop}(hf:P.funcs[f]?=some fn)(hb:fn.body=some c)(hF:F.fn f)
  (h:KF F n P c (bodyPost P fn R) { tmps:=args++Array.replicate (fn.ntmps-args.size) undef,defers:=[] } w) (eF:F.round=none:=by rfl) :
  CallsDIn F n P f args .returning w fun e u' w'=>u'=.returning∧R e w':=by
 refine⟨hF,fun c₀ cs hu hr=>?_⟩
 let b:Frame:={ (default:Frame) with fn:=f,kind:=.deferred,roundOf:=none }
 have nk:Frame.enter P f args .deferred=b.atR { tmps:=args++Array.replicate (fn.ntmps-args.size) undef,defers:=[] } [.code c]:=by
  simp[Frame.enter,Frame.atR,hf,hb,b]
 have hc:({ c₀ with mode:=.returning }:Frame)=c₀:=by cases c₀; simp only at hu; rw[hu]
 have pv:recoverD (c₀::cs)=none:=by simp only[recoverD,hu]
 obtain⟨e,a',w',hq,dp⟩:=h b [] (c₀::cs) rfl pv eF eF.symm hF hr
 rw[←nk]at dp
 cases e with
 |normal=>
  obtain⟨hd,v,pw,hR⟩:=hq
  exact⟨.returned v,.returning,w',_,⟨rfl,hR⟩,(by rw[hc]; exact StepsIn.trans dp (.one (fenced_calm (fr:=b.atR a' []) hF hr rfl) (stepR_end rfl))),rfl,rfl,rfl,hd,fn,hf,pw⟩
 |ret=>
  obtain⟨hd,v,pw,hR⟩:=hq
  obtain⟨todo,hs⟩:=dp.1 rfl
  exact⟨.returned v,.returning,w',_,⟨rfl,hR⟩,(by rw[hc]; exact hs),rfl,rfl,rfl,hd,fn,hf,pw⟩
 |panic chain=>
  obtain⟨hd,hR⟩:=hq
  obtain⟨todo,hs⟩:=dp
  exact⟨.panicked chain,.returning,w',_,⟨rfl,hR⟩,(by rw[hc]; exact hs),rfl,rfl,rfl,hd,fn,hf⟩
 |exit id=>exact hq.elim
 |goto l=>exact hq.elim
 |outgrown=>exact⟨.outgrown,.returning,w',b,⟨rfl,hq⟩,dp.resolve_left (by simp[b]),rfl,rfl,trivial⟩
end
end Go.PI
end
section
/- PI, part Y: the evaluator's answers are what the machine does, on every tape and in every order. -/
namespace Go.PI
def Nl[ah](B:rf)(E:Env):Out→Exit→Act→World→Prop
 |.norm s,.normal,a,w=>du B E s a w
 |.exit i s,.exit j,a,w=>i=j∧du B E s a w
 |.ret s,.ret,a,w=>du B E s a w
 |.od v s,.panic ch,a,w=>∃ u,ch=[{ v:=u,recovered:=false }]∧ar E true v u∧Inv E s.hp w∧Marks B E w a.defers
 |_,_,_,_=>False
def bG[ah](B:rf)(E:Env)(w:World)(o:Out)(e:Exit)(a':Act)(w':World):Prop:=
 ∃ E',Ext E E'∧Fr E w E' w'∧Nl B E' o e a' w'
theorem bG.from[ah]{B:rf}{E E1:Env}{w w1:World}{o:Out}{e:Exit}{a:Act}{w':World}(hx:Ext E E1)(hf:Fr E w E1 w1)(h:bG B E1 w1 o e a w'):bG B E w o e a w':=by
 obtain⟨E',h1,h2,h3⟩:=h
 exact⟨E',hx.trans h1,hf.trans h2,h3⟩
structure Ctx.Ok[ah](C:Ctx):Prop where
 name : ∀ (f : FuncId) (fn : Func), C.P.funcs[f]? = some fn → fn.body.isSome = true → (fn.name == "runtime.NumGoroutine") = false
 kZ:∀ (g:FuncId) (h:List AV→Option AV) (as:List AV) (r:AV),C.kZ g=some h→h as=some r→∀ (Ec:Env) (w:World) (vs:List Value),Inv Ec [] w→aw Ec false as vs →
  Calls C.P g vs.toArray w (bD Ec w [] (.val r))
 gP:∀ (g:FuncId) (h:List AV→Option (AV×ak)) (as:List AV) (r:AV) (eX:ak),C.gP g=some h→h as=some (r,eX) →
  ∀ (Ec:Env) (w:World) (vs:List Value),Inv Ec [] w→aw Ec false as vs →
    Calls C.P g vs.toArray w (fun en w'=>∃ r' y6,bD Ec w y6 (.val r') en w'∧∀ nm,eh nm r' y6=eh nm r eX)
 zr:∀ (g:FuncId) (h:List AV→Option (AV×ak)),C.gP g=some h→∃ fn:Func,C.P.funcs[g]?=some fn∧fn.body.isSome=true
 rB:∀ (g:FuncId) (h:List AV→RM eg) (args:List AV) (hp:ak) (e:eg),C.rB g=some h→(h args).run hp=some e→(∃ fn:Func,C.P.funcs[g]?=some fn∧fn.body.isSome=true) ∧
  ∀ (E:Env) (w:World) (vs:List Value),Inv E hp w→aw E true args vs→Calls C.P g vs.toArray w (bD E w (av hp e.wr) (.val e.val))
 D7:∀ (g:FuncId) (h:List AV→Option AV),C.kZ g=some h→∃ fn:Func,C.P.funcs[g]?=some fn∧fn.body.isSome=true
def oZ[ah](C:Ctx)(k:Nat):Prop:=
 ∀ f args hp res cU,pn C k f args hp=some (res,cU)→∀ (E:Env) (w:World) (vs:List Value),Inv E hp w→aw E true args vs →
   Calls C.P f vs.toArray w (bD E w cU res)
def gD[ah](C:Ctx)(k:Nat):Prop:=
 ∀ c s o,cx C k c s=some o→∀ (r:Option Nat) (B:rf),((r=none∧B.rg=true)∨cw c=true)→∀ (E:Env) (a:Act) (w:World),du B E s a w→c.wpIn (WF r) 0 C.P (bG B E w o) a w
def nA[ah](P:Program)(step:Oper→St→Option Out):Prop:=
 ∀ (o:Oper) (s:St) (r:Out),step o s=some r→∀ (rd:Option Nat) (B:rf) (E:Env) (a:Act) (w:World) (K:Act→World→Prop) (Q:Exit→Act→World→Prop),du B E s a w →
   (∀ s',r=.norm s'→∀ E' a' w',Ext E E'→Fr E w E' w'→du B E' s' a' w'→K a' w') →
   (∀ v s',r=.od v s'→∀ E' w' u,Ext E E'→Fr E w E' w'→Inv E' s'.hp w'→ar E' true v u→Q (.panic [{ v:=u,recovered:=false }]) a w') →
   o.wpIn (WF rd) 0 P a w K Q
def xn[ah](C:Ctx)(k:Nat):Prop:=
 ∀ g args hp res wr,(po C k g args).run hp=some (res,wr)→∀ (E:Env) (w:World) (vs:List Value),Inv E hp w→aw E true args vs →
   Calls C.P g vs.toArray w (bD E w (av hp wr) res)
theorem sZ[ah]{P:Program}{step:Oper→St→Option Out}(ft:nA P step)(AG:∀ o s r,step o s=some r→(∃ s',r=.norm s')∨∃ v s',r=.od v s')
  {ops:Array Oper} (rd:Option Nat) (B:rf):∀ (l:List Oper) (s:St) (o:Out),dc step ops l s=some o→∀ (E0 E:Env) (a:Act) (w0 w:World),Ext E0 E→Fr E0 w0 E w→du B E s a w →
    wpListIn (WF rd) 0 P ops (bG B E0 w0 o) l a w
 |[],s,o,h,E0,E,a,w0,w,hx,hf,hs=>by
  simp only[dc,Option.some.injEq]at h
  subst h
  exact⟨E,hx,hf,hs⟩
 |p::r,s,o,h,E0,E,a,w0,w,hx,hf,hs=>by
  simp only[dc]at h
  unfold wpListIn
  split at h
  ·simp at h
  ·rename_i hw
   rw[mZ hs.fr hw]
   simp only[Bool.false_eq_true,if_false]
   exact⟨fun _ _=>trivial,sZ ft AG rd B r _ o h E0 E _ w0 w hx hf ⟨ke hs.fr (by simp[ar]),hs.inv,by rw[put_defers]; exact hs.df,hs.bs⟩⟩
  ·rename_i hw
   rw[mZ hs.fr hw]
   simp only[if_true]
   cases hq:step p s with
   |none=>rw[hq]at h; simp at h
   |some q=>
    rw[hq]at h
    refine ft p s q hq rd B E a w _ _ hs (fun s' e E' a' w' im JC gn=>?_) (fun v s' e E' w' u im JC mM hr=>?_)
    ·subst e
     exact sZ ft AG rd B r s' o h E0 E' a' w0 w' (hx.trans im) (hf.trans JC) gn
    ·subst e
     simp only[Option.some.injEq]at h
     subst h
     exact⟨E',hx.trans im,hf.trans JC,u,rfl,hr,mM,hs.df.mono JC⟩
theorem gU[ah]{P:Program}{E:Env}{w:World}{fv:AV}{f:Value}{args yq:List AV}{vs:List Value}{g:FuncId}(hf:ar E true fv f)(ha:aw E true args vs)
  (h : bV fv args = some (g, yq)) (tD : ∃ fn : Func, P.funcs[g]? = some fn ∧ fn.body.isSome = true ∧ (fn.name == "runtime.NumGoroutine") = false) :
  ∃ vs':List Value,aw E true yq vs'∧(do let d ←Deferred.ofValue f vs.toArray; invoke d.target d.args:Sem Next).run P w=.ok (.enter g vs'.toArray) w:=by
 obtain⟨fn,h1,h2,h3⟩:=tD
 have hb:fn.body.isNone=false:=by cases hq:fn.body<;>simp_all
 have run:∀ (first captured:List Value),f=.func (.func g) first.toArray captured.toArray →
   (do let d ←Deferred.ofValue f vs.toArray; invoke d.target d.args:Sem Next).run P w=.ok (.enter g (first++vs++captured).toArray) w:=by
  intro first captured hv
  subst hv
  simp only[Deferred.ofValue,Sem.run_bind,Sem.run_pure,Result.andThen_ok,invoke,callFunc,run_program,h1,h3,hb,Bool.false_eq_true,if_false]
  simp
 cases fv with
 |lit u=>
  cases u with
  |func fnv first captured=>
   cases fnv with
   |func g'=>
    simp only[bV,Option.some.injEq,Prod.mk.injEq]at h
    obtain⟨rfl,rfl⟩:=h
    simp only[ar]at hf
    exact⟨first.toList++vs++captured.toList,((aw.lits _).append ha).append (aw.lits _),run _ _ (by simpa using hf)⟩
   |_=>simp[bV]at h
  |_=>simp[bV]at h
 |jT fnv first captured=>
  cases fnv with
  |func g'=>
   simp only[bV,Option.some.injEq,Prod.mk.injEq]at h
   obtain⟨rfl,rfl⟩:=h
   simp only[ar]at hf
   obtain⟨fv,cv,hv,xp,nB⟩:=hf
   exact⟨fv++vs++cv,(xp.append ha).append nB,run _ _ hv⟩
  |_=>simp[bV]at h
 |_=>simp[bV]at h
theorem Ih[ah]{P:Program}{E:Env}{hp:ak}{w:World}{o:Oper}{ρ:Operand→Value}{e:eg}(h:Step P E hp w (execOp ρ o) e)(r:Option Nat):o.semAt r ρ=execOp ρ o:=by
 refine Oper.semAt_eq r ρ o fun c hc=>?_
 obtain⟨E',w',v,hr,_⟩:=h
 have hd:(execOp ρ o).run P w=(do pure (.defer (←resolve ρ c o.type)):Sem Next).run P w:=by
  obtain⟨dst,op,type,pos,after,guard⟩:=o
  simp only at hc
  subst hc
  rfl
 unfold WX at hr
 rw[hd,Sem.run_bind]at hr
 cases dR:(resolve ρ c o.type).run P w with
 |ok d w1=>simp_all
 |halt x w1=>simp_all
theorem zt[ah]{P:Program}{B:rf}{rd:Option Nat}{E:Env}{s:St}{a:Act}{w:World}(_:du B E s a w){o:Oper}{e:eg}(h:Step P E s.hp w (execOp a.eval o) e)
  {K:Act→World→Prop} {Q:Exit→Act→World→Prop}
  (hK:∀ E' w' v,Ext E E'→Fr E w E' w'→Inv E' (av s.hp e.wr) w'→ar E' true e.val v→K (a.put o.dst v) w'):o.wpIn (WF rd) 0 P a w K Q:=by
 have TY:=Ih h (WF rd).round
 obtain⟨E',w',v,hr,hx,hI,hf,hv⟩:=h
 refine⟨fun _ _=>trivial,?_⟩
 rw[TY]
 rcases hr with hr|⟨hr,rfl⟩
 ·rw[hr,Oper.uponIn_value]
  exact hK E' w' v hx hf hI hv
 ·rw[hr,Oper.uponIn_skip]
  exact hK E' w' undef hx hf hI hv
theorem JS{P:Program}{g:FuncId}{vs:Array Value}{w:World}{R:Ending→World→Prop}(h:Calls P g vs w R)(rd:Option Nat)(n:Nat):CallsIn (WF rd) n P g vs w R:=
 (callsIn_wide (n:=n)).2 h
theorem ta{P:Program}{rd:Option Nat}{a:Act}{w:World}{o:Oper}{c:Call}{f:Operand}(ho:o.op=.call c)(hc:c.callee=.value f){g:FuncId}{vs':List Value}
  (bz:(do let d ←Deferred.ofValue (a.eval f) (c.args.toList.map a.eval).toArray; invoke d.target d.args:Sem Next).run P w=.ok (.enter g vs'.toArray) w)
  {R:Ending→World→Prop} (pU:Calls P g vs'.toArray w R) {K:Act→World→Prop} {Q:Exit→Act→World→Prop}
  (h1:∀ v w',R (.returned v) w'→K (a.put o.dst v) w') (h2:∀ ch w',R (.panicked ch) w'→Q (.panic ch) a w') (h3:∀ w',¬R .outgrown w'):o.wpIn (WF rd) 0 P a w K Q:=by
 refine⟨fun _ _=>trivial,?_⟩
 rw[Oper.semAt_eq _ _ _ (by rw[ho]; intro c h; cases h)]
 have:(execOp a.eval o).run P w=.ok (.enter g vs'.toArray) w:=by
  simp only[execOp,ho,resolve,hc]
  rw[←bz]
  congr 3
  rw[←Array.toList_map]
 rw[this,Oper.uponIn_enter]
 refine⟨fun h=>by simp[WF,Fence.wide]at h,(JS pU rd _).mono fun e w' hR=>?_⟩
 cases e with
 |returned v=>exact h1 v w' hR
 |panicked ch=>exact h2 ch w' hR
 |outgrown=>exact(h3 w' hR).elim
theorem Nm[ah]{E:Env}{hp:ak}{w w':World}(hI:Inv E hp w)(jI:∀ b,E.own b∨(E.m b).isSome=true→w'.heap[b]?=w.heap[b]?)(mE:w.heap.size≤w'.heap.size):Inv E hp w':=by
 have fI:∀ n o,hp[n]?=some (some o)→∀ b,cG E hp n b→E.own b∨(E.m b).isSome=true:=by
  rintro n o ho b ⟨o',l,dM,hl,hb⟩
  rw[ho]at dM
  cases dM
  have h:=hI.objs n o ho
  cases o with
  |arr g cl fz es=>
   obtain⟨l',ld,_,hm⟩:=h
   simp only at hl
   rw[hl]at ld; cases ld
   rw[hb]at hm
   obtain⟨c,T,_,hif,_⟩:=hm
   cases fz with
   |true=>simp_all
   |false=>simp_all
  |iI k vs=>
   obtain⟨l',b',ZT,us,h1,h2,h3,h4,h5,_⟩:=h
   simp only at hl
   rw[hl]at h1; cases h1
   rw[hb]at h2; cases h2
   exact .inl h5
 refine⟨hI.len,fun n o hn=>(hI.objs n o hn).other hn fun b hb=>jI b (fI n o hn b hb),hI.free,hI.inj,fun b c h=>?_,fun b h=>Nat.lt_of_lt_of_le (hI.qk b h) mE,hI.kL⟩
 obtain⟨T,fz,hw⟩:=hI.mem b c h
 exact⟨T,fz,by rw[jI b (.inr (by rw[h]; rfl))]; exact hw⟩
theorem yr{F:Fence}{n:Nat}{P:Program}{fn:Func}{tmps:Array Value}{R:Ending→World→Prop}{u:FrameMode}{tl:List Deferred}(hu:u≠.run):∀ (rs:List Nat) (w:World),rs.Nodup→(∀ r∈rs,w.heap[r]?=some (.deferred (some []))) →
  (∀ w',w'.heap.size=w.heap.size→w'.os=w.os→w'.tape=w.tape→w'.output=w.output→(∀ b,b∉rs→w'.heap[b]?=w.heap[b]?)→LeavesInM F n P fn tmps R tl u w') →
  LeavesInM F n P fn tmps R ((rs.map fun r=>{ target:=.collected r,args:=#[] })++tl) u w
 |[],w,_,_,h=>h w rfl rfl rfl rfl (fun _ _=>rfl)
 |r::rs,w,hn,hr,h=>by
  rw[List.nodup_cons]at hn
  refine⟨hu,.inl ⟨r,w.putObj r (.deferred none),rfl,run_takeDeferred (hr r (by simp)),?_⟩⟩
  refine yr hu rs _ hn.2 (fun r' h'=>?_) fun w' h1 h2 h3 h4 h5=>?_
  ·have dP:r'≠r:=by rintro rfl; exact hn.1 h'
   rw[World.putObj_heap_other dP]
   exact hr r' (by simp[h'])
  ·refine h w' (by rw[h1]; simp) h2 h3 h4 fun b hb=>?_
   simp only[List.mem_cons,not_or]at hb
   rw[h5 b hb.2,World.putObj_heap_other hb.1]
theorem kg[ah]{P:Program}{fn:Func}{tmps:Array Value}{R:Ending→World→Prop}{E0 E:Env}{w0 w:World}{hp:ak}{ds:List Deferred}{u:FrameMode}{B:rf}(hB:B.n=w0.heap.size)(hI:Inv E hp w)(hm:Marks B E w ds)
  (hf:Fr E0 w0 E w) (hu:u≠.run) (h:∀ w',Inv E hp w'→Fr E0 w0 E w'→LeavesInM Fence.wide 0 P fn tmps R B.tl u w'):LeavesInM Fence.wide 0 P fn tmps R ds u w:=by
 obtain⟨rs,rfl,CR,_,TG⟩:=hm
 refine yr hu rs w CR (fun r hr=>(TG r hr).2.2) fun w' h1 h2 h3 h4 h5=>h w' ?_ ?_
 ·refine Nm hI (fun b hb=>h5 b fun hr=>?_) (by omega)
  obtain⟨_,a2,a3⟩:=TG b hr
  rcases hb with hb|hb
  ·exact a2 hb
  ·cases TB:E.m b with
   |none=>rw[TB]at hb; simp at hb
   |some c=>obtain⟨T,fz,h6⟩:=hI.mem b c TB; rw[a3]at h6; cases h6
 ·refine⟨h2.trans hf.os,h3.trans hf.tape,h4.trans hf.out,by rw[h1]; exact hf.size,fun b hb ho=>?_,hf.own,hf.m⟩
  rw[h5 b fun hr=>?_]
  ·exact hf.same b hb ho
  ·have:=(TG b hr).1; omega
theorem D8[ah]{C:Ctx}{k:Nat}{f:FuncId}{args:List AV}{hp:ak}{r:qh×ak}(h:pn C k f args hp=some r):
  ∃ fn:Func,C.P.funcs[f]?=some fn∧fn.body.isSome=true:=by
 cases k with
 |zero=>simp[pn]at h
 |succ k=>
  simp only[pn]at h
  split at h
  ·simp at h
  rename_i fn tD
  split at h
  ·simp at h
  rename_i c hc
  exact⟨fn,tD,by rw[hc]; rfl⟩
theorem D9[ah]{C:Ctx}{k:Nat}(hC:gD C k){f:FuncId}{args:List AV}{hp:ak}{res:qh}{cU:ak}{fn:Func}{c:Code}(tD:C.P.funcs[f]?=some fn)(hc:fn.body=some c){E:Env}{w:World}{vs:List Value}(hI:Inv E hp w)(ha:aw E true args vs)
  (h:(match cx C k c ⟨f,args++List.replicate (fn.ntmps-args.length) .undef,hp⟩ with
    |some (.norm s)|some (.ret s)=>
     match (bk C.P s.fr fn.results.toList).run s.hp with
     |some l=>some (qh.val (cY l),s.hp)
     |none=>none
    |some (.od v s)=>some (.od v,s.hp)
    |_=>none)=some (res,cU)):Calls C.P f vs.toArray w (bD E w cU res):=by
 have hlen:=ha.length
 have hs:du ⟨w.heap.size,[],true⟩ E ⟨f,args++List.replicate (fn.ntmps-args.length) .undef,hp⟩ { tmps:=vs.toArray++Array.replicate (fn.ntmps-vs.toArray.size) undef,defers:=[] } w:=by
  refine⟨?_,hI,Marks.nil,Nat.le_refl _⟩
  simp only[Array.toList_append,Array.toList_replicate,List.size_toArray,←hlen]
  refine ha.append ?_
  have:=aw.lits (E:=E) (o:=true) (List.replicate (fn.ntmps-args.length) undef)
  simpa using this
 have ret:∀ s',((cx C k c ⟨f,args++List.replicate (fn.ntmps-args.length) .undef,hp⟩=some (.norm s')) ∨
   (cx C k c ⟨f,args++List.replicate (fn.ntmps-args.length) .undef,hp⟩=some (.ret s'))) →
   (match (bk C.P s'.fr fn.results.toList).run s'.hp with|some l=>some (qh.val (cY l),s'.hp)|none=>none)=some (res,cU) →
   Calls C.P f vs.toArray w (bD E w cU res):=by
  intro s' ck hr
  split at hr
  case h_2=>simp at hr
  rename_i l hl
  simp only[Option.some.injEq,Prod.mk.injEq]at hr
  obtain⟨rfl,rfl⟩:=hr
  have fin:∀ E' a' w',Ext E E'→Fr E w E' w'→du ⟨w.heap.size,[],true⟩ E' s' a' w'→LeavesInM Fence.wide 0 C.P fn a'.tmps (bD E w s'.hp (.val (cY l))) a'.defers .returning w':=by
   intro E' a' w' hx hf gn
   refine kg rfl gn.inv gn.df hf (by simp) fun w2 xl nB=>?_
   obtain⟨v,h1,h2⟩:=ur xl gn.fr hl
   exact⟨v,h1,E',hx,xl,nB,h2⟩
  refine callsIn_wide.1 (callsIn_of_wp_marks (F:=Fence.wide) (n:=0) tD hc trivial ?_)
  rcases ck with ck|ck
  ·refine wpIn_mono (hC c _ _ ck none _ (.inl ⟨rfl,rfl⟩) E _ w hs) fun e a' w' eN=>?_
   obtain⟨E',hx,hf,ho⟩:=eN
   cases e with
   |normal=>exact fin E' a' w' hx hf ho
   |_=>exact ho.elim
  ·refine wpIn_mono (hC c _ _ ck none _ (.inl ⟨rfl,rfl⟩) E _ w hs) fun e a' w' eN=>?_
   obtain⟨E',hx,hf,ho⟩:=eN
   cases e with
   |ret=>exact fin E' a' w' hx hf ho
   |_=>exact ho.elim
 split at h
 ·grind
 ·grind
 ·rename_i v s' ck
  simp only[Option.some.injEq,Prod.mk.injEq]at h
  obtain⟨rfl,rfl⟩:=h
  refine callsIn_wide.1 (callsIn_of_wp_marks (F:=Fence.wide) (n:=0) tD hc trivial (wpIn_mono (hC c _ _ ck none _ (.inl ⟨rfl,rfl⟩) E _ w hs) fun e a' w' eN=>?_))
  obtain⟨E',hx,hf,ho⟩:=eN
  cases e with
  |panic ch=>
   obtain⟨u,h1,h2,h3,h4⟩:=ho
   exact kg rfl h3 h4 hf (by simp) fun w2 xl nB=>⟨E',hx,xl,nB,u,h1,h2⟩
  |_=>exact ho.elim
 ·simp at h
theorem FI[ah]{C:Ctx}(cj:C.Ok){k:Nat}(hF:oZ C k):xn C (k+1):=by
 intro g args hp res wr h E w vs hI ha
 simp only[po,RM.run_bind]at h
 cases hq:(bg 1000 args).run hp with
 |none=>rw[hq]at h; simp at h
 |some as=>
  rw[hq]at h
  simp only[Option.bind_some]at h
  split at h
  ·rename_i hf hh
   split at h
   case h_2=>simp[RM.aj]at h
   rename_i r hr
   exact xk hI ha hq h fun Ec h1 h2=>cj.kZ g hf as r hh hr Ec w vs h1 h2
  ·split at h
   case h_2=>simp[RM.aj]at h
   rename_i r eX hr
   exact xk hI ha hq h fun Ec h1 h2=>hF g as [] r eX hr Ec w vs h1 h2.jF
theorem CS[ah]{C:Ctx}(cj:C.Ok){k:Nat}{g:FuncId}{args:List AV}{hp:ak}{nm:Nat}{e:eg}(h:(jr C (fun as=>pn C k g as []) nm g args).run hp=some e):
  ∃ fn : Func, C.P.funcs[g]? = some fn ∧ fn.body.isSome = true ∧ (fn.name == "runtime.NumGoroutine") = false := by
 unfold jr at h
 rw[RM.run_bind]at h
 cases hs:(bg 1000 args).run hp with
 |none=>rw[hs]at h; simp at h
 |some as=>
  rw[hs]at h
  simp only[Option.bind_some]at h
  split at h
  ·rename_i hh hi
   obtain⟨fn,h1,h2⟩:=cj.zr g hh hi
   exact⟨fn,h1,h2,cj.name g fn h1 h2⟩
  ·split at h
   ·rename_i r eX hq
    obtain⟨fn,h1,h2⟩:=D8 hq
    exact⟨fn,h1,h2,cj.name g fn h1 h2⟩
   ·simp[RM.aj]at h
theorem CT[ah]{C:Ctx}(cj:C.Ok){k:Nat}(hF:oZ C k){E:Env}{hp:ak}{w:World}(hI:Inv E hp w){nm:Nat}(qm:nm=hp.length∨hp[nm]?=some none)
  {g:FuncId} {args:List AV} {vs:List Value} (ha:aw E true args vs) {e:eg} (h:(jr C (fun as=>pn C k g as []) nm g args).run hp=some e) :
  Calls C.P g vs.toArray w (JQ E w hp e):=by
 unfold jr at h
 rw[RM.run_bind]at h
 cases hs:(bg 1000 args).run hp with
 |none=>rw[hs]at h; simp at h
 |some as=>
  rw[hs]at h
  simp only[Option.bind_some]at h
  have pV:=(sU hI (N:=fun _=>True) 1000).2 args as vs zq hs ha
  split at h
  ·rename_i hh hi
   split at h
   ·rename_i q hq
    exact(cj.gP g hh as q.1 q.2 hi hq _ w vs (pS hI _) pV).mono fun en w' hp=>by
     obtain⟨r',y6,h1,h2⟩:=hp
     rw[←h2]at h
     exact JR hI qm h (fun b hb=>hb) h1
   ·simp[RM.aj]at h
  ·split at h
   ·rename_i r eX hq
    exact(hF g as [] _ eX hq _ w vs (pS hI _) pV.jF).mono fun en w' hp=>JR hI qm h (fun b hb=>hb) hp
   ·simp[RM.aj]at h
theorem Nn[ah]{C:Ctx}(cj:C.Ok){k:Nat}{g:FuncId}{args:List AV}{hp:ak}{r:qh×List (Nat×ba)}(h:(po C k g args).run hp=some r):
  ∃ fn : Func, C.P.funcs[g]? = some fn ∧ fn.body.isSome = true ∧ (fn.name == "runtime.NumGoroutine") = false := by
 have:∃ fn:Func,C.P.funcs[g]?=some fn∧fn.body.isSome=true:=by
  cases k with
  |zero=>simp[po,RM.aj]at h
  |succ k=>
   simp only[po,RM.run_bind]at h
   cases hq:(bg 1000 args).run hp with
   |none=>rw[hq]at h; simp at h
   |some as=>
    rw[hq]at h
    simp only[Option.bind_some]at h
    split at h
    ·rename_i hf hh; exact cj.D7 g hf hh
    ·split at h
     case h_2=>simp[RM.aj]at h
     rename_i r eX hr
     exact D8 hr
 obtain⟨fn,h1,h2⟩:=this
 exact⟨fn,h1,h2,cj.name g fn h1 h2⟩
theorem AH[ah]{E E':Env}{hp cU:ak}{w w':World}(hI:Inv E hp w)(hx:Ext E E')(mM:Inv E' cU w')(hf:Fr E w E' w'){r:AV}{v:Value}(hr:ar E' true r v):
  ∃ E2,Ext E E2∧Inv E2 (jW hp.length r cU) w'∧Fr E w E2 w'∧ar E2 true r v:=by
 unfold jW
 split
 ·rename_i hc
  simp only[Bool.and_eq_true]at hc
  have hle:hp.length≤cU.length:=by rw[hI.len,mM.len]; exact hx.L
  obtain⟨h1,h2,h3⟩:=v5 mM hle hc.2
  refine⟨E'.lower hp.length,⟨hx.m,fun n hn ax l h=>hx.ρ n hn ax l h,by simp[Env.lower,hI.len]⟩,h1,hf.trans h2,ar.down h3 hc.1 hr⟩
 ·exact⟨E',hx,mM,hf,hr⟩
theorem Ea[ah]{E:Env}{hp:ak}{w:World}(hI:Inv E hp w){esz:Nat}:
  ∃ E',Ext E E'∧Inv E' (hp++[some (.arr true true false [])]) w∧Fr E w E' w∧ar E' true (.bw esz hp.length 0 0 0 none) (.slice none 0 0):=by
 let E':Env:={ ρ:=fun n ax=>if n=hp.length then (if ax=0 then some ⟨none,esz,0⟩ else none) else E.ρ n ax,m:=E.m,L:=E.L+1,own:=E.own }
 have hx:Ext E E':=⟨fun _ _ h=>h,fun n hn ax l h=>by
  have:n≠hp.length:=by rw[hI.len]; omega
  simp[E',this,h],by simp[E']⟩
 have ei:∀ n,n≠hp.length→∀ ax,E'.ρ n ax=E.ρ n ax:=fun n hn ax=>by simp[E',hn]
 have nZ:∀ n o,n≠hp.length→(hp++[some (.arr true true false [])])[n]?=some o→hp[n]?=some o:=by
  intro n o hn h
  rw[List.getElem?_append]at h
  split at h
  ·exact h
  ·rw[List.getElem?_eq_none (by simp; omega)]at h; simp at h
 have fI:∀ n b,cG E' (hp++[some (.arr true true false [])]) n b→cG E hp n b:=by
  rintro n b ⟨o,l,ho,hl,hb⟩
  by_cases e:n=hp.length
  ·subst e
   simp at ho
   subst ho
   simp[E']at hl
   subst hl
   simp at hb
  ·refine⟨o,l,nZ n _ e ho,?_,hb⟩
   cases o with
   |arr=>simpa only[ei n e] using hl
   |iI=>simpa only[ei n e] using hl
 refine⟨E',hx,⟨by simp[E',hI.len],?_,?_,fun n1 n2 b h1 h2=>hI.inj n1 n2 b (fI _ _ h1) (fI _ _ h2),hI.mem,hI.qk,hI.kL⟩,
  ⟨rfl,rfl,rfl,Nat.le_refl _,fun _ _ _=>rfl,fun _ h=>.inl h,fun _ _ h=>.inl h⟩,?_⟩
 ·intro n o ho
  by_cases e:n=hp.length
  ·subst e
   simp at ho
   subst ho
   refine⟨⟨none,esz,0⟩,by simp[E'],fun ax l' h=>?_,rfl,rfl⟩
   simp[E']at h
   simp[h.1]
  ·have dM:=nZ n _ e ho
   have h:=hI.objs n o dM
   cases o with
   |arr g cl fz es=>
    obtain⟨l,hl,hv,hm⟩:=h
    refine⟨l,by rw[ei n e]; exact hl,fun ax l' h=>hv ax l' (by rw[ei n e]at h; exact h),?_⟩
    cases hb:l.mh with
    |none=>rw[hb]at hm; exact hm
    |some b=>
     rw[hb]at hm
     obtain⟨c,T,a1,a2,a3,a4,a5,a6,a7⟩:=hm
     exact⟨c,T,a1,a2,a3,a4,a5,a6,fun i x im=>by obtain⟨v,lK,gC⟩:=a7 i x im; exact⟨v,lK.mono hx,gC⟩⟩
   |iI k Qv=>
    obtain⟨l,b,es,clock,a1,a2,a3,a4,a5,a6,a7,a8⟩:=h
    exact⟨l,b,es,clock,by rw[ei n e]; exact a1,a2,a3,a4,a5,fun ax l' h=>a6 ax l' (by rw[ei n e]at h; exact h),a7,a8.mono hx⟩
 ·intro n ax h
  by_cases e:n=hp.length
  ·subst e; simp at h
  ·rw[ei n e]; exact hI.free n ax (nZ n _ e h)
 ·simp only[ar]
  refine⟨trivial,?_,⟨none,esz,0⟩,by simp[E'],rfl,by simp,?_⟩
  ·show hp.length<E.L+1
   rw[hI.len]; omega
  ·simp
theorem jd{α:Type}{l:List α}{n:Nat}{x:α}(h:l[n]?=some x):l.set n x=l:=by
 apply List.ext_getElem?
 intro m
 by_cases hm:n=m
 ·grind
 ·rw[List.getElem?_set_ne hm]
theorem yu[ah]{E E':Env}(hx:Ext E E'){esz j nm:Nat}(qm:ar E' true (.bw esz nm 0 0 0 none) (.slice none 0 0)){e e':AV}{v:Value}(hr:ar E true e v)(h:mC esz j nm e=some e'):ar E' true e' v:=by
 unfold mC at h
 split at h
 ·rename_i l
  split at h
  case h_2=>simp at h
  rename_i hl
  simp only[Option.some.injEq]at h
  subst h
  simp only[ar]at hr
  obtain⟨c,rfl,hc⟩:=hr
  obtain⟨v,hv,hrv,hlv⟩:=hc.get hl
  simp only[ar]at hrv
  subst hrv
  have:=(hc.mono hx).set j qm hlv
  rw[jd hv]at this
  simp only[ar]
  exact⟨c,rfl,this⟩
 ·grind[ar]
 ·simp at h
theorem uv[ah]{E:Env}{hp:ak}{w:World}(hI:Inv E hp w){n i:Nat}{g c f:Bool}{es:List AV}{e e':AV}(ho:hp[n]?=some (some (.arr g c f es)))(hi:es[i]?=some e)
  (hr:∀ v,ar E true e v→ar E true e' v):Inv E (hp.set n (some (.arr g false f (es.set i e')))) w:=by
 have hn:=(List.getElem?_eq_some_iff.1 ho).1
 have nZ:∀ m o,(hp.set n (some (.arr g false f (es.set i e'))))[m]?=some o→m=n∧o=some (.arr g false f (es.set i e'))∨m≠n∧hp[m]?=some o:=by
  grind
 have fI:∀ m b,cG E (hp.set n (some (.arr g false f (es.set i e')))) m b→cG E hp m b:=by
  rintro m b ⟨o,l,h1,h2,h3⟩
  rcases nZ m _ h1 with ⟨rfl,h5⟩|⟨_,h5⟩
  ·cases h5
   exact⟨_,l,ho,by simpa using h2,h3⟩
  ·exact⟨o,l,h5,h2,h3⟩
 refine⟨by rw[List.length_set]; exact hI.len,fun m o h=>?_,fun m ax h=>?_,fun m m' b h1 h2=>hI.inj m m' b (fI _ _ h1) (fI _ _ h2),hI.mem,hI.qk,hI.kL⟩
 ·rcases nZ m _ h with ⟨rfl,h5⟩|⟨_,h5⟩
  ·cases h5
   obtain⟨l,h1,h2,h3⟩:=hI.objs _ _ ho
   refine⟨l,by simpa using h1,fun ax l' h=>by simpa using h2 ax l' h,?_⟩
   cases hb:l.mh with
   |none=>
    rw[hb]at h3
    obtain⟨rfl,rfl⟩:=h3
    simp at hi
   |some b=>
    rw[hb]at h3
    obtain⟨c',T,a1,a2,a3,a4,a5,a6,a7⟩:=h3
    refine⟨c',T,a1,a2,a3,a4,by simpa using a5,fun h=>by simpa using a6 h,fun k x hx=>?_⟩
    by_cases hk:k=i
    ·subst hk
     rw[List.getElem?_set_self (List.getElem?_eq_some_iff.1 hi).1]at hx
     simp only[Option.some.injEq]at hx
     subst hx
     obtain⟨v,hv,gC⟩:=a7 _ _ hi
     exact⟨v,by simpa using hr v hv.DI,gC⟩
    ·rw[List.getElem?_set_ne (Ne.symm hk)]at hx
     obtain⟨v,hv,gC⟩:=a7 _ _ hx
     exact⟨v,by simpa using hv.DI,gC⟩
  ·exact hI.objs m o h5
 ·rcases nZ m _ h with ⟨rfl,h5⟩|⟨_,h5⟩
  ·cases h5
  ·exact hI.free m ax h5
theorem Eb[ah]{E:Env}{j:Nat}{e e':AV}(h:vo j e=some e')(v:Value)(hr:ar E true e v):ar E true e' v:=by
 unfold vo at h
 split at h
 case h_2=>simp at h
 rename_i l
 split at h
 case h_2=>simp at h
 rename_i hj
 simp only[Option.some.injEq]at h
 subst h
 simp only[ar]at hr ⊢
 obtain⟨c,rfl,hc⟩:=hr
 refine⟨c,rfl,?_⟩
 have hj':j<l.length:=by simpa using hj
 obtain⟨u,hu,_⟩:=hc.Jq.get (List.getElem?_eq_getElem hj')
 have:=hc.set j (x:=.any) (v:=u) (by simp[ar]) (hc.leaf u (List.mem_iff_getElem?.2 ⟨j,hu⟩))
 rw[jd hu]at this
 exact this
theorem Ii[ah]{B:rf}{E:Env}{s:St}{a:Act}{w:World}(hs:du B E s a w)(d j:Nat):du B E (oe s d j) a w:=by
 unfold oe
 split
 ·split
  ·rename_i ho
   split
   ·rename_i e' he
    obtain⟨e,Mq,AI⟩:=Option.bind_eq_some_iff.1 he
    exact⟨hs.fr,uv hs.inv ho Mq fun v hv=>Eb AI v hv,hs.df,hs.bs⟩
   ·exact hs
  ·exact hs
 ·exact hs
theorem xq[ah]{B:rf}{E:Env}{a:Act}{w:World}:∀ (l:List (Nat×Nat)) {s:St},du B E s a w→du B E (iR l s) a w
 |[],_,hs=>hs
 |(d,j)::r,_,hs=>xq r (Ii hs d j)
theorem FJ(s:St)(d j:Nat):(oe s d j).hp.length=s.hp.length:=by
 grind[oe]
theorem uw:∀ (l:List (Nat×Nat)) (s:St),(iR l s).hp.length=s.hp.length
 |[],_=>rfl
 |(d,j)::r,s=>by
  simp only[iR]
  rw[uw r,FJ]
theorem K4[ah]{B:rf}{E:Env}{s:St}{a:Act}{w:World}(hs:du B E s a w)(d:Tmp)(j esz:Nat):∃ E',Ext E E'∧Fr E w E' w∧du B E' (rC d s j esz) a w:=by
 obtain⟨E',h1,h2,h3,h4⟩:=Ea (esz:=esz) hs.inv
 have same:∃ E',Ext E E'∧Fr E w E' w∧du B E' s a w:=⟨E,Ext.refl E,Fr.refl E w,hs⟩
 unfold rC
 split
 ·rename_i n ax i k hd
  split
  ·rename_i g c f es ho
   split
   ·rename_i e' he
    obtain⟨e,Mq,AI⟩:=Option.bind_eq_some_iff.1 he
    have hn:=(List.getElem?_eq_some_iff.1 ho).1
    have dM:(s.hp++[some (ba.arr true true false [])])[n]?=some (some (.arr g c f es)):=by rw[List.getElem?_append_left hn]; exact ho
    obtain⟨l,u7,_,Mv⟩:=hs.inv.objs _ _ ho
    cases hb:l.mh with
    |none=>
     simp_all
    |some b=>
     rw[hb]at Mv
     obtain⟨c',T,a1,a2,a3,a4,a5,a6,a7⟩:=Mv
     obtain⟨v0,Jy,_⟩:=a7 _ _ Mq
     have aaX:∀ v,ar E' true e v→ar E' true e' v:=fun v hv=>yu (Ext.refl E') h4 hv AI
     refine⟨E',h1,h3,⟨hs.fr.mono h1,?_,hs.df.mono h3,hs.bs⟩⟩
     have:=uv h2 dM Mq aaX
     rw[List.set_append_left _ _ hn]at this
     exact this
   ·exact same
  ·exact same
 ·rename_i e _ hd
  split
  ·rename_i e' he
   obtain⟨v,hv,hr⟩:=hs.fr.get hd
   refine⟨E',h1,h3,⟨?_,h2,hs.df.mono h3,hs.bs⟩⟩
   have:=(hs.fr.mono h1).set d (yu h1 h4 hr he)
   rw[jd hv]at this
   exact this
  ·exact same
 ·exact same
theorem JT[ah]{B:rf}{d:Tmp}{a:Act}{w:World}:∀ (l:List (Nat×Nat)) {E:Env} {s:St},du B E s a w→∃ E',Ext E E'∧Fr E w E' w∧du B E' (Md d l s) a w
 |[],E,s,hs=>⟨E,Ext.refl E,Fr.refl E w,hs⟩
 |(j,esz)::r,E,s,hs=>by
  obtain⟨E1,h1,h2,h3⟩:=K4 hs d j esz
  obtain⟨E2,h4,h5,h6⟩:=JT r h3
  exact⟨E2,h1.trans h4,h2.trans h5,h6⟩
theorem No[ah]{B:rf}{l:Tmp→List (Nat×Nat)}{dst:Option Tmp}{a:Act}{w:World}{E:Env}{s:St}(hs:du B E s a w):∃ E',Ext E E'∧Fr E w E' w∧du B E' (E6 l dst s) a w:=by
 cases dst with
 |none=>exact⟨E,Ext.refl E,Fr.refl E w,hs⟩
 |some d=>exact JT _ hs
theorem lR{hp:ak}{n:Nat}{st:nf}(h:jZ hp n=some st):∃ fn ps as bd fr,hp[n]?=some (some (.iI (.loop fn ps as bd st) fr)):=by
 grind[jZ]
theorem tb[ah]{E:Env}{hp:ak}{w:World}(hI:Inv E hp w){n:Nat}{fn:FuncId}{ps:Array Tmp}{as bd:Code}{st:nf}{fr:List AV}(ho:hp[n]?=some (some (.iI (.loop fn ps as bd st) fr)))
  {l:Loc} {b:Nat} (hl:E.ρ n 0=some l) (hb:l.mh=some b) :
  ∃ r,w.heap[b]?=some (.loop r)∧r.params=ps∧r.assign=as∧r.body=bd∧st.is r.state r.pending∧aw E true fr r.tmps.toList:=by
 obtain⟨l0,b0,ob,us,h1,h2,h3,h4,h5,h6,h7,h8⟩:=hI.objs n _ ho
 rw[hl]at h1; cases h1
 rw[hb]at h2; cases h2
 cases ob with
 |loop r=>
  obtain⟨a1,a2,a3,a4,a5⟩:=h7
  exact⟨r,h3,a1,a2,a3,a4,by rw[a5]; exact h8⟩
 |_=>exact h7.elim
theorem FK[ah]{E:Env}{hp:ak}{w:World}(hI:Inv E hp w){n:Nat}{fn:FuncId}{ps:Array Tmp}{as bd:Code}{st:nf}{fr:List AV}(ho:hp[n]?=some (some (.iI (.loop fn ps as bd st) fr)))
  {l:Loc} {b:Nat} (hl:E.ρ n 0=some l) (hb:l.mh=some b) {r:Loop} (hr:w.heap[b]?=some (.loop r)) {st':nf} {s':LoopState} {p':Option Code} (his:st'.is s' p') :
  Inv E (qQ hp n st') (w.putObj b (.loop { r with state:=s',pending:=p' }))∧Fr E w E (w.putObj b (.loop { r with state:=s',pending:=p' })):=by
 obtain⟨r',h1,h2,h3,h4,_,h6⟩:=tb hI ho hl hb
 rw[hr]at h1
 cases h1
 unfold qQ
 rw[ho]
 exact zo hI ho hl hb (k':=.loop fn ps as bd st') (us':=r.tmps.toList) ⟨h2,h3,h4,his,rfl⟩ h6
theorem CU{E:Env}{u:List Nat}:∀ (i:Nat) (fr:List AV) (vs:List Value),aw E true fr vs→aw E true (qP u i fr) vs
 |_,[],[],h=>by simp[qP,aw]
 |i,x::xs,v::vs,h=>by
  simp only[aw]at h
  simp only[qP,aw]
  refine⟨?_,CU (i+1) xs vs h.2⟩
  split
  ·exact h.1
  ·simp[ar]
 |_,[],_::_,h=>by simp[aw]at h
 |_,_::_,[],h=>by simp[aw]at h
theorem FL{E:Env}:∀ (fr:List AV) (vs:List Value),aw E true fr vs→aw E true (fr.map fun _=>.any) vs
 |[],[],_=>by simp[aw]
 |x::xs,v::vs,h=>by
  simp only[aw]at h
  simp only[List.map_cons,aw,ar]
  exact⟨trivial,FL xs vs h.2⟩
 |[],_::_,h=>by simp[aw]at h
 |_::_,[],h=>by simp[aw]at h
theorem Np[ah]{E:Env}{hp:ak}{w:World}(hI:Inv E hp w){n:Nat}{fn:FuncId}{ps:Array Tmp}{as bd:Code}{st:nf}{fr:List AV}(ho:hp[n]?=some (some (.iI (.loop fn ps as bd st) fr)))
  {l:Loc} {b:Nat} (hl:E.ρ n 0=some l) (hb:l.mh=some b) {r:Loop} (hr:w.heap[b]?=some (.loop r)) {s':LoopState} {p':Option Code} :
  Inv E (vv hp n) (w.putObj b (.loop { r with state:=s',pending:=p' }))∧Fr E w E (w.putObj b (.loop { r with state:=s',pending:=p' })):=by
 obtain⟨r',h1,h2,h3,h4,_,h6⟩:=tb hI ho hl hb
 rw[hr]at h1
 cases h1
 unfold vv
 rw[ho]
 exact zo hI ho hl hb (k':=.loop fn ps as bd .over) (us':=r.tmps.toList) ⟨h2,h3,h4,trivial,rfl⟩ (FL _ _ h6)
theorem yv{E:Env}:∀ (ps:List Tmp) (xs:List AV) (vs:List Value) (fr:List AV) (t:Array Value),aw E true fr t.toList→aw E true xs vs →
  aw E true (gG fr ps xs) ((ps.zip vs).foldl (fun (t:Array Value) (q:Tmp×Value)=>t.setIfInBounds q.1 q.2) t).toList
 |[],xs,vs,fr,t,h,_=>by simpa[gG] using h
 |p::ps,[],[],fr,t,h,_=>by simpa[gG] using h
 |p::ps,x::xs,v::vs,fr,t,h,hx=>by
  simp only[aw]at hx
  simp only[gG,List.zip_cons_cons,List.foldl_cons]
  refine yv ps xs vs _ _ ?_ hx.2
  rw[Array.toList_setIfInBounds]
  exact h.set p hx.1
 |p::ps,[],_::_,_,_,_,h=>by simp[aw]at h
 |p::ps,_::_,[],_,_,_,h=>by simp[aw]at h
theorem B5{P:Program}{a:Act}{w:World}{o:Oper}{c:Call}{f:Operand}(ho:o.op=.call c)(hc:c.callee=.value f){b:Nat}(hf:a.eval f=.func (.yield b) #[] #[])
  {r:Loop} (hr:w.heap[b]?=some (.loop r)) (hs:(c.args.map a.eval).size=r.params.size) :
  (execOp a.eval o).run P w=.ok (.round b r.fn ((r.params.zip (c.args.map a.eval)).foldl (fun tmps (t,a)=>tmps.setIfInBounds t a) r.tmps) r.assign r.body) w:=by
 have h1:(execOp a.eval o)=(do let d ←Deferred.ofValue (a.eval f) (c.args.map a.eval); invoke d.target d.args):=by
  simp only[execOp,ho,resolve,hc]
 rw[h1,hf]
 have h2:=run_yield (P:=P) (args:=c.args.map a.eval) hr hs
 simp only[Deferred.ofValue,Sem.run_bind,Sem.run_pure,Result.andThen_ok,invoke,Array.empty_append]
 exact h2
theorem Nq[ah]{C:Ctx}{k:Nat}(hC:gD C k){rd:Option Nat}{B:rf}{E:Env}{s:St}{a:Act}{w:World}(hs:du B E s a w){n:Nat}{o:Oper}{c:Call}{f:Operand}(ho:o.op=.call c)(hc:c.callee=.value f)
  (hf:aP s.fr f=.mp true n) {r:Out} (bz:iU (fun c s=>cx C k c s) n (c.args.toList.map (aP s.fr)) o.dst s=some r) {K:Act→World→Prop} {Q:Exit→Act→World→Prop}
  (hK:∀ s',r=.norm s'→∀ E' a' w',Ext E E'→Fr E w E' w'→du B E' s' a' w'→K a' w'):o.wpIn (WF rd) 0 C.P a w K Q:=by
 unfold iU at bz
 split at bz
 case h_2=>simp at bz
 rename_i fn0 ps as bd fr Ed
 split at bz
 case h_2=>simp at bz
 rename_i Ij
 simp only[Bool.and_eq_true,decide_eq_true_eq]at Ij
 obtain⟨⟨hlen,hna⟩,Qg⟩:=Ij
 have ck:=fun y=>kf hs.inv.kL hs.fr y
 have Ik:=ck f
 rw[hf]at Ik
 simp only[ar]at Ik
 obtain⟨_,KS,l,b,hl,hb,Ik⟩:=Ik
 obtain⟨r0,g1,g2,g3,g4,g5,g6⟩:=tb hs.inv Ed hl hb
 have ot:=nt ck c.args.toList
 have mE:(c.args.map a.eval).size=r0.params.size:=by
  rw[g2,←hlen]
  simp
 refine⟨fun _ _=>trivial,?_⟩
 rw[Oper.semAt_eq _ _ _ (by rw[ho]; intro c h; cases h),B5 ho hc Ik g1 mE,Oper.uponIn_round]
 refine⟨fun h=>by simp[WF,Fence.wide]at h,?_⟩
 rw[g3,g4]
 refine roundIn_of_wpIn trivial ?_
 have Xi:((r0.params.zip (c.args.map a.eval)).foldl (fun tmps (x:Tmp×Value)=>tmps.setIfInBounds x.1 x.2) r0.tmps)=((ps.toList.zip (c.args.toList.map a.eval)).foldl (fun (t:Array Value) (q:Tmp×Value)=>t.setIfInBounds q.1 q.2) r0.tmps):=by
  rw[←Array.foldl_toList,Array.toList_zip,g2,Array.toList_map]
 split at bz
 case h_2=>simp at bz
 rename_i s1 aaZ
 split at bz
 case h_2=>simp at bz
 rename_i aa0
 have Q2:du ⟨w.heap.size,[],true⟩ E ⟨fn0,gG fr ps.toList (c.args.toList.map (aP s.fr)),s.hp⟩ { tmps:=(r0.params.zip (c.args.map a.eval)).foldl (fun tmps (x:Tmp×Value)=>tmps.setIfInBounds x.1 x.2) r0.tmps,defers:=[] } w:=
  ⟨by rw[Xi]; exact yv _ _ _ _ _ g6 ot,hs.inv,Marks.nil,Nat.le_refl _⟩
 refine wpIn_mono (hC as _ _ aaZ (some b) _ (.inr hna) E _ w Q2) fun e a1 w1 hp=>?_
 obtain⟨E1,Qi,xp,K5⟩:=hp
 cases e with
 |normal=>
  have qV:du ⟨w.heap.size,[],true⟩ E1 s1 a1 w1:=K5
  obtain⟨fn1,ps1,as1,bd1,fr1,SB⟩:=lR aa0
  have u7:=Qi.ρ n KS 0 l hl
  obtain⟨r1,q1,q2,q3,q4,q5,q6⟩:=tb qV.inv SB u7 hb
  obtain⟨Qa,H5⟩:=FK qV.inv SB u7 hb q1 (st':=.busy) (s':=.busy) (p':=r1.pending) ⟨rfl,q5.2⟩
  refine⟨_,run_beginRound q1 q5.1,?_⟩
  have DU:du ⟨w.heap.size,[],true⟩ E1 { s1 with hp:=qQ s1.hp n .busy } a1 (w1.putObj b (.loop { r1 with state:=.busy })):=
   ⟨qV.fr,Qa,qV.df.mono H5,Nat.le_trans qV.bs H5.size⟩
  have finish:∀ (s2:St) (bb:Bool) (st:nf) (j:Option Code) (E2:Env) (w2:World),bb=j.isNone→st.is (if j.isNone then .ready else .done) j→zV n o.dst s bb st s2.hp=some r→Ext E1 E2→Fr E1 (w1.putObj b (.loop { r1 with state:=.busy })) E2 w2→Inv E2 s2.hp w2 →
    ∃ v w',(Instr.endRound b j).run C.P w2=.ok v w'∧K (a.put o.dst v) w':=by
   intro s2 bb st j E2 w2 Tt his FM oY nB xl
   unfold zV at FM
   split at FM
   case h_2=>simp at FM
   rename_i aa1
   simp only[Option.some.injEq]at FM
   obtain⟨fn2,ps2,Z2,bd2,fr2,SC⟩:=lR aa1
   have rK:=oY.ρ n (Nat.lt_of_lt_of_le KS Qi.L) 0 l u7
   obtain⟨r2,u1,_,_,_,u5,_⟩:=tb xl SC rK hb
   obtain⟨c1,c2⟩:=FK xl SC rK hb u1 his
   refine⟨_,_,run_endRound j u1,?_⟩
   have hx:=Qi.trans oY
   have gk:=((xp.trans H5).trans nB).trans c2
   obtain⟨E3,d1,d2,d3,d4⟩:=AH hs.inv hx c1 gk (r:=.lit (.bool bb)) (v:=.bool bb) (by simp[ar])
   subst Tt
   exact hK _ FM.symm E3 _ _ d1 d3 ⟨ke (hs.fr.mono d1) d4,d2,by rw[put_defers]; exact hs.df.mono d3,Nat.le_trans hs.bs d3.size⟩
  split at bz
  ·rename_i s2 Nr
   refine wpIn_mono (hC bd _ _ Nr (some b) _ (.inr Qg) E1 _ _ DU) fun e a2 w2 hp=>?_
   obtain⟨E2,oY,nB,xm⟩:=hp
   cases e with
   |normal=>exact finish s2 true .ready none E2 w2 rfl ⟨rfl,rfl⟩ bz oY nB (du.inv xm)
   |_=>exact xm.elim
  ·rename_i id s2 Nr
   refine wpIn_mono (hC bd _ _ Nr (some b) _ (.inr Qg) E1 _ _ DU) fun e a2 w2 hp=>?_
   obtain⟨E2,oY,nB,xm⟩:=hp
   cases e with
   |exit j=>
    obtain⟨rfl,xm⟩:=xm
    exact finish s2 false (.jump (some id)) (some (.exit id)) E2 w2 rfl ⟨rfl,rfl⟩ bz oY nB xm.inv
   |_=>exact xm.elim
  ·rename_i s2 Nr
   refine wpIn_mono (hC bd _ _ Nr (some b) _ (.inr Qg) E1 _ _ DU) fun e a2 w2 hp=>?_
   obtain⟨E2,oY,nB,xm⟩:=hp
   cases e with
   |ret=>exact finish s2 false (.jump none) (some .ret) E2 w2 rfl ⟨rfl,rfl⟩ bz oY nB (du.inv xm)
   |_=>exact xm.elim
  ·simp at bz
 |_=>exact K5.elim
theorem Il{run:Code→St→Option Out}{n:Nat}{args:List AV}{dst:Option Tmp}{s:St}{r:Out}(h:iU run n args dst s=some r):∃ s',r=.norm s':=by
 unfold iU at h
 repeat' split at h
 all_goals first
  |simp at h
  |(unfold zV at h
    split at h
    ·grind
    ·simp at h)
theorem FN[ah]{C:Ctx}(cj:C.Ok){k:Nat}(hF:oZ C k)(hP:xn C k)(hC:gD C k):nA C.P (fun o s=>iV C (k+1) o s):=by
 intro o s r h rd B E a w K Q hs hK hQ
 have ck:=fun x=>kf hs.inv.kL hs.fr x
 have Z3:∀ (res:Option eg),res=(aV C.P s.hp.length (aP s.fr) o).run s.hp →
   (match res with|some e=>some (Out.norm { s with fr:=bZ s.fr o.dst e.val,hp:=av s.hp e.wr })|none=>none)=some r→o.wpIn (WF rd) 0 C.P a w K Q:=by
  intro res dR h
  split at h
  case h_2=>simp at h
  rename_i e
  simp only[Option.some.injEq]at h
  refine zt hs (vN hs.inv (.inl rfl) ck dR.symm) fun E' w' v hx hf mM hv=>?_
  exact hK _ h.symm E' _ w' hx hf ⟨ke (hs.fr.mono hx) hv,mM,by rw[put_defers]; exact hs.df.mono hf,Nat.le_trans hs.bs hf.size⟩
 obtain⟨dst,op,type,pos,after,guard⟩:=o
 simp only[iV]at h
 split at h
 ·rename_i c
  split at h
  ·exact Z3 _ rfl h
  ·rename_i f Q3
   split at h
   ·split at h
    ·rename_i n hn
     exact Nq hC hs rfl Q3 hn h hK
    ·simp at h
   rename_i g args dR
   have ot:=nt ck c.args.toList
   split at h
   ·-- a result of the caller's own
    split at h
    case h_2=>simp at h
    rename_i e hq
    simp only[Option.some.injEq]at h
    obtain⟨vs',rb,bz⟩:=gU (w:=w) (ck f) ot dR (CS cj hq)
    refine ta rfl Q3 bz (CT cj hF hs.inv (.inl rfl) rb hq) (fun v w' hp=>?_) (fun ch w' hp=>?_) (fun w' hp=>?_)
    ·obtain⟨v',lK,E',hx,mM,hf,hr⟩:=hp
     cases lK
     exact hK _ h.symm E' _ w' hx hf ⟨ke (hs.fr.mono hx) hr,mM,by rw[put_defers]; exact hs.df.mono hf,Nat.le_trans hs.bs hf.size⟩
    ·obtain⟨v',lK,_⟩:=hp
     cases lK
    ·obtain⟨v',lK,_⟩:=hp
     cases lK
   split at h
   ·-- by value
    rename_i AG
    cases hq:(po C k g args).run s.hp with
    |none=>rw[hq]at h; simp at h
    |some q=>
     obtain⟨res,wr⟩:=q
     rw[hq]at h
     obtain⟨vs',rb,bz⟩:=gU (w:=w) (ck f) ot dR (Nn cj hq)
     have pU:=hP g args s.hp res wr hq E w vs' hs.inv rb
     refine ta rfl Q3 bz pU (fun v w' hp=>?_) (fun ch w' hp=>?_) (fun w' hp=>?_)
     ·obtain⟨E',hx,mM,hf,hr⟩:=hp
      cases res with
      |od _=>exact hr.elim
      |val x=>
       simp only[Option.some.injEq]at h
       exact hK _ h.symm E' _ w' hx hf ⟨ke (hs.fr.mono hx) hr,mM,by rw[put_defers]; exact hs.df.mono hf,Nat.le_trans hs.bs hf.size⟩
     ·obtain⟨E',hx,mM,hf,hr⟩:=hp
      cases res with
      |val _=>exact hr.elim
      |od x=>
       simp only[Option.some.injEq]at h
       obtain⟨u,rfl,hu⟩:=hr
       exact hQ _ _ h.symm E' w' u hx hf mM hu
     ·obtain⟨E',hx,mM,hf,hr⟩:=hp
      cases res<;>exact hr.elim
   ·-- with the heap
    rename_i AG
    cases hq:pn C k g args s.hp with
    |none=>rw[hq]at h; simp at h
    |some q=>
     obtain⟨res,cU⟩:=q
     rw[hq]at h
     obtain⟨fn,xp,nB⟩:=D8 hq
     obtain⟨vs',rb,bz⟩:=gU (w:=w) (ck f) ot dR ⟨fn,xp,nB,cj.name g fn xp nB⟩
     have pU:=hF g args s.hp res cU hq E w vs' hs.inv rb
     refine ta rfl Q3 bz pU (fun v w' hp=>?_) (fun ch w' hp=>?_) (fun w' hp=>?_)
     ·obtain⟨E',hx,mM,hf,hr⟩:=hp
      cases res with
      |od _=>exact hr.elim
      |val x=>
       simp only[Option.some.injEq]at h
       obtain⟨E2,oY,xl,nB,Ns⟩:=AH hs.inv hx mM hf hr
       exact hK _ h.symm E2 _ w' oY nB ⟨ke (hs.fr.mono oY) Ns,xl,by rw[put_defers]; exact hs.df.mono nB,Nat.le_trans hs.bs nB.size⟩
     ·obtain⟨E',hx,mM,hf,hr⟩:=hp
      cases res with
      |val _=>exact hr.elim
      |od x=>
       simp only[Option.some.injEq]at h
       obtain⟨u,rfl,hu⟩:=hr
       obtain⟨E2,oY,xl,nB,Ns⟩:=AH hs.inv hx mM hf hu
       exact hQ _ _ h.symm E2 w' u oY nB xl Ns
     ·obtain⟨E',hx,mM,hf,hr⟩:=hp
      cases res<;>exact hr.elim
  ·simp at h
 ·-- a slice that begins as nil
  have bz:(execOp a.eval { dst,op:=.assign (.const (.slice none 0 0)),type,pos,after,guard }).run C.P w=.ok (.value (.slice none 0 0)) w:=rfl
  have next:∀ (x:AV) (E':Env) (cU:ak),Ext E E'→Inv E' cU w→Fr E w E' w→ar E' true x (.slice none 0 0) →
    r=.norm { s with fr:=bZ s.fr dst x,hp:=cU }→Oper.wpIn (WF rd) 0 C.P { dst,op:=.assign (.const (.slice none 0 0)),type,pos,after,guard } a w K Q:=by
   intro x E' cU hx mM hf hr he
   refine⟨fun _ _=>trivial,?_⟩
   rw[Oper.semAt_eq _ _ _ (by intro c h; cases h),bz,Oper.uponIn_value]
   exact hK _ he E' _ w hx hf ⟨ke (hs.fr.mono hx) hr,mM,by rw[put_defers]; exact hs.df.mono hf,Nat.le_trans hs.bs hf.size⟩
  split at h
  ·rename_i d
   split at h
   ·split at h
    case h_2=>simp at h
    rename_i q hq
    split at h
    case isFalse=>simp at h
    simp only[Option.some.injEq]at h
    obtain⟨E',h1,h2,h3,h4⟩:=Ea (esz:=q.size) hs.inv
    exact next _ E' _ h1 h2 h3 h4 h.symm
   ·simp only[Option.some.injEq]at h
    exact next (.lit cz) E s.hp (Ext.refl E) hs.inv (Fr.refl E w) (by simp[ar]) h.symm
  ·simp only[Option.some.injEq]at h
   exact next (.lit cz) E s.hp (Ext.refl E) hs.inv (Fr.refl E w) (by simp[ar]) h.symm
 ·-- any other operation; nil slices in what it gives may be named anew
  split at h
  case h_2=>simp at h
  rename_i e he
  simp only[Option.some.injEq]at h
  refine zt hs (vN hs.inv (.inl rfl) ck he) fun E' w' v hx hf mM hv=>?_
  obtain⟨E2,oY,nB,DU⟩:=No (l:=C.tB s.fn) (dst:=dst) (s:={ s with fr:=bZ s.fr dst e.val,hp:=av s.hp e.wr }) (B:=B) (a:=a.put dst v)
   ⟨ke (hs.fr.mono hx) hv,mM,by rw[put_defers]; exact hs.df.mono hf,Nat.le_trans hs.bs hf.size⟩
  exact hK _ h.symm E2 _ w' (hx.trans oY) (hf.trans nB) DU
end Go.PI
end
section
/- PI, more fuel gives no other answer. -/
namespace Go.PI
def RM.Le{α:Type}(hp:ak)(r r':RM α):Prop:=∀ x,r.run hp=some x→r'.run hp=some x∧r'.log hp=r.log hp
theorem RM.Le.rfl{α:Type}{hp:ak}{r:RM α}:RM.Le hp r r:=fun _ h=>⟨h,by trivial⟩
theorem RM.fN{α β:Type}(hp:ak)(x:RM α)(f:α→RM β):(x >>= f).log hp=x.log hp++(match x.run hp with|some a=>(f a).log hp|none=>[]):=by
 show (RM.bind x f).log hp=_
 induction x with
 |ret a=>simp[RM.bind,RM.log,RM.run]
 |fail=>simp[RM.bind,RM.log,RM.run]
 |get n k ih=>
  grind[RM.bind,RM.log,RM.run]
theorem RM.Le.bind[ah]{α β:Type}{hp:ak}{x x':RM α}{f f':α→RM β}(h:RM.Le hp x x')(hf:∀ a,RM.Le hp (f a) (f' a)):RM.Le hp (x >>= f) (x' >>= f'):=by
 intro y hy
 rw[RM.run_bind]at hy
 cases hq:x.run hp with
 |none=>rw[hq]at hy; simp at hy
 |some a=>
  rw[hq]at hy
  simp only[Option.bind_some]at hy
  obtain⟨h1,h2⟩:=h a hq
  obtain⟨h3,h4⟩:=hf a y hy
  refine⟨by rw[RM.run_bind,h1]; exact h3,?_⟩
  rw[RM.fN,RM.fN,h1,hq,h2]
  simp only[h4]
theorem jH{st st':Oper→St→Option Out}(h:∀ o s r,st o s=some r→st' o s=some r)(ops:Array Oper):∀ (l:List Oper) (s:St) (r:Out),dc st ops l s=some r→dc st' ops l s=some r
 |[],s,r,hr=>hr
 |o::l,s,r,hr=>by
  simp only[dc]at hr ⊢
  cases hw:dg ops s.fr o with
  |none=>rw[hw]at hr; simp at hr
  |some b=>
   rw[hw]at hr
   cases b with
   |false=>exact jH h ops l _ r hr
   |true=>
    simp only at hr ⊢
    cases hs:st o s with
    |none=>rw[hs]at hr; simp at hr
    |some out=>
     rw[hs]at hr
     rw[h o s out hs]
     cases out with
     |norm s'=>exact jH h ops l s' r hr
     |_=>exact hr
theorem Af[ah]{st st':Nat→Oper→List AV→RM eg}(h:∀ nm o fr hp,RM.Le hp (st nm o fr) (st' nm o fr))(ops:Array Oper)(x:Item)(s:St)(r:St×gB)(hr:gp st ops x s=some r):gp st' ops x s=some r:=by
 simp only[gp]at hr ⊢
 cases hw:dg ops s.fr x.o with
 |none=>rw[hw]at hr; simp at hr
 |some b=>
  rw[hw]at hr
  cases b with
  |false=>exact hr
  |true=>
   simp only at hr ⊢
   cases hq:(st (x.at s.hp.length) x.o s.fr).run s.hp with
   |none=>rw[hq]at hr; simp at hr
   |some e=>
    obtain⟨h1,h2⟩:=h (x.at s.hp.length) x.o s.fr s.hp e hq
    rw[hq]at hr
    rw[h1,h2]
    exact hr
theorem qn[ah]{st st':Nat→Oper→List AV→RM eg}(h:∀ nm o fr hp,RM.Le hp (st nm o fr) (st' nm o fr))(ops:Array Oper):∀ (l:List Item) (s:St) (r:St×List gB),cV st ops l s=some r→cV st' ops l s=some r
 |[],s,r,hr=>hr
 |x::l,s,r,hr=>by
  simp only[cV]at hr ⊢
  cases hs:gp st ops x s with
  |none=>rw[hs]at hr; simp at hr
  |some q=>
   obtain⟨s1,f⟩:=q
   rw[hs]at hr
   rw[Af h ops x s _ hs]
   simp only at hr ⊢
   cases hd:cV st ops l s1 with
   |none=>rw[hd]at hr; simp at hr
   |some q=>
    rw[hd]at hr
    rw[qn h ops l s1 q hd]
    exact hr
theorem HT[ah]{C:Ctx}{k k':Nat}{o:Oper}{s:St}(h:∀ c,o.op≠.call c):iV C (k+1) o s=iV C (k'+1) o s:=by
 rw[iV,iV]
 split
 ·rename_i c hc; exact absurd hc (h c)
 ·rfl
 ·rfl
theorem ye[ah]{C:Ctx}{F F':List AV→Option (qh×ak)}(h:∀ as r,F as=some r→F' as=some r){nm:Nat}{g:FuncId}{args:List AV}{hp:ak}:
  RM.Le hp (jr C F nm g args) (jr C F' nm g args):=by
 unfold jr
 refine RM.Le.bind .rfl fun as=>?_
 cases hi:C.gP g with
 |some q=>exact .rfl
 |none=>
  simp only
  intro x hx
  cases hq:F as with
  |none=>rw[hq]at hx; simp[RM.aj]at hx
  |some q=>
   rw[hq]at hx
   rw[h as q hq]
   exact⟨hx,rfl⟩
theorem yf{run run':Code→St→Option Out}(h:∀ c s r,run c s=some r→run' c s=some r){n:Nat}{args:List AV}{dst:Option Tmp}{s:St}{r:Out}
  (hy:iU run n args dst s=some r):iU run' n args dst s=some r:=by
 unfold iU at hy ⊢
 split at hy
 case h_2=>simp at hy
 rename_i fn ps as bd fr ho
 split at hy
 case h_2=>simp at hy
 rename_i hc
 try rw[hc]
 try simp only
 split at hy
 case h_2=>simp at hy
 rename_i s1 h1
 rw[h _ _ _ h1]
 simp only
 split at hy
 case h_2=>simp at hy
 rename_i h2
 try rw[h2]
 try simp only
 split at hy
 ·rename_i s2 h3; rw[h _ _ _ h3]; exact hy
 ·rename_i id s2 h3; rw[h _ _ _ h3]; exact hy
 ·rename_i s2 h3; rw[h _ _ _ h3]; exact hy
 ·simp at hy
theorem MC[ah]{ec QD:Code→St→Option Out}{eo W4:Oper→St→Option Out}(hc:∀ c s r,ec c s=some r→QD c s=some r)(ho:∀ o s r,eo o s=some r→W4 o s=some r):∀ c s r,Ck ec eo c s=some r→Ck QD W4 c s=some r:=by
 have leaf:∀ c s r,((ec c s).map fun o=>(o,(none:Option AV)))=some r→((QD c s).map fun o=>(o,(none:Option AV)))=some r:=by
  intro c s r h
  cases hq:ec c s with
  |none=>rw[hq]at h; simp at h
  |some o=>rw[hc _ _ _ hq]; rw[hq]at h; exact h
 intro c
 induction c with
 |seq x y _ MD=>
  intro s r h
  simp only[Ck]at h ⊢
  cases hd:vt x with
  |some q=>
   obtain⟨ops,v⟩:=q
   rw[hd]at h
   simp only at h ⊢
   cases hr:dc eo ops ops.toList.dropLast s with
   |none=>rw[hr]at h; simp at h
   |some o=>
    rw[hr]at h
    rw[jH ho ops _ _ _ hr]
    cases o with
    |norm s1=>
     simp only at h ⊢
     split at h
     ·rename_i q dR
      cases hq:ec y s1 with
      |none=>rw[hq]at h; simp at h
      |some o=>rw[hc _ _ _ hq]; rw[hq]at h; exact h
     ·simp at h
    |_=>simp at h
  |none=>
   rw[hd]at h
   simp only at h ⊢
   cases hq:ec x s with
   |none=>rw[hq]at h; simp at h
   |some o=>
    rw[hq]at h; rw[hc _ _ _ hq]
    cases o with
    |norm s'=>exact MD _ _ h
    |_=>exact h
 |_=>intro s r h; simp only[Ck]at h ⊢; exact leaf _ _ _ h
theorem Cz[ah]{ec QD:Code→St→Option Out}(hc:∀ c s r,ec c s=some r→QD c s=some r){P:Program}{rs:List ResultVar}{fr:List AV}{hp:ak}{d:Option AV}{r:qh×ak}(h:wT ec P rs fr hp d=some r):wT QD P rs fr hp d=some r:=by
 cases d with
 |none=>exact h
 |some v=>
  simp only[wT]at h ⊢
  split at h
  ·simp at h
  rename_i g as dR
  split at h
  ·simp at h
  rename_i fg QE
  split at h
  ·simp at h
  rename_i cg QF
  cases hn:cw cg with
  |false=>rw[hn]at h; simp at h
  |true=>
   rw[hn]at h
   cases hq:ec (qj cg) ⟨g,as++List.replicate (fg.ntmps-as.length) .undef,hp⟩ with
   |none=>rw[hq]at h; simp at h
   |some o=>rw[hq]at h; simp only[dR,QE,QF,hn,hc _ _ _ hq]; exact h
theorem KM[ah]{ec QD:Code→St→Option Out}{eo W4:Oper→St→Option Out}(hc:∀ c s r,ec c s=some r→QD c s=some r)(ho:∀ o s r,eo o s=some r→W4 o s=some r){P:Program}{rs:List ResultVar}{c:Code}{s:St}{r:qh×ak}(h:wU ec eo P rs c s=some r):wU QD W4 P rs c s=some r:=by
 unfold wU at h ⊢
 cases hn:cw c with
 |false=>rw[hn]at h; simp at h
 |true=>
  rw[hn]at h
  cases hq:Ck ec eo c s with
  |none=>rw[hq]at h; simp at h
  |some o=>
   rw[hq]at h
   rw[MC hc ho _ _ _ hq]
   obtain⟨o,d⟩:=o
   cases o with
   |norm s'=>exact Cz hc h
   |ret s'=>exact Cz hc h
   |exit i s'=>exact h
   |od v s'=>cases d<;>exact h
structure Tz[ah](C:Ctx)(k k2:Nat):Prop where
 f:∀ g args hp r,pn C k g args hp=some r→pn C k2 g args hp=some r
 c:∀ c s r,cx C k c s=some r→cx C k2 c s=some r
 o:∀ o s r,iV C k o s=some r→iV C k2 o s=some r
 p:∀ g args hp,RM.Le hp (po C k g args) (po C k2 g args)
 e:∀ nm o fr hp,RM.Le hp (kK C k nm o fr) (kK C k2 nm o fr)
theorem KN[ah]{C:Ctx}{k k2:Nat}(ih:Tz C k k2):Tz C (k+1) (k2+1) where
 f:=by
  intro g args hp r h
  rw[pn]at h ⊢
  cases tD:C.P.funcs[g]? with
  |none=>rw[tD]at h; simp at h
  |some fn=>
   rw[tD]at h
   simp only at h ⊢
   cases hb:fn.body with
   |none=>rw[hb]at h; simp at h
   |some c=>
    rw[hb]at h
    simp only at h ⊢
    cases hD:E7 c with
    |true=>rw[hD]at h; exact KM ih.c ih.o h
    |false=>
    rw[hD]at h
    simp only at h ⊢
    cases hc:cx C k c ⟨g,args++List.replicate (fn.ntmps-args.length) .undef,hp⟩ with
    |none=>rw[hc]at h; simp at h
    |some out=>rw[hc]at h; rw[ih.c _ _ _ hc]; exact h
 c:=by
  intro c s r h
  cases c with
  |seq a b=>
   simp only[cx]at h ⊢
   cases ha:cx C k a s with
   |none=>rw[ha]at h; simp at h
   |some out=>
    rw[ha]at h; rw[ih.c _ _ _ ha]
    cases out with
    |norm s'=>exact ih.c _ _ _ h
    |_=>exact h
  |cond o a b=>
   simp only[cx]at h ⊢
   split at h
   ·split at h
    ·exact ih.c _ _ _ h
    ·exact ih.c _ _ _ h
   ·simp at h
  |block id b=>
   simp only[cx]at h ⊢
   cases ha:cx C k b s with
   |none=>rw[ha]at h; simp at h
   |some out=>rw[ha]at h; rw[ih.c _ _ _ ha]; exact h
  |loop b=>
   simp only[cx]at h ⊢
   cases ha:cx C k b s with
   |none=>rw[ha]at h; simp at h
   |some out=>
    rw[ha]at h; rw[ih.c _ _ _ ha]
    cases out with
    |norm s'=>exact ih.c _ _ _ h
    |_=>exact h
  |region id ops draw=>
   simp only[cx]at h ⊢
   cases draw with
   |false=>exact jH ih.o ops _ _ r h
   |true=>
    simp only at h ⊢
    split at h
    case isFalse=>simp at h
    rename_i cj
    rw[if_pos cj]
    split at h
    ·rename_i s' fs hd
     rw[qn ih.e ops _ _ _ hd]
     simp only at h ⊢
     split at h
     case isFalse=>simp at h
     rename_i hc
     rw[if_pos hc]
     exact jH ih.o ops _ _ r h
    ·simp at h
  |scope b=>
   simp only[cx]at h ⊢
   split at h
   ·rename_i c hc
    exact ih.c _ _ _ h
   ·simp at h
  |rangeFunc f ps as bd=>
   simp only[cx]at h ⊢
   split at h
   case h_2=>simp at h
   rename_i g args dR
   cases hq:pn C k g args (s.hp++[some (.iI (.loop s.fn ps as bd .ready) (zU as bd s.fr))]) with
   |none=>rw[hq]at h; simp at h
   |some q=>rw[hq]at h; rw[ih.f _ _ _ _ hq]; exact h
  |_=>simpa only[cx] using h
 o:=by
  intro o s r h
  obtain⟨dst,op,type,pos,after,guard⟩:=o
  cases op with
  |call c=>
   obtain⟨callee,args,argTypes⟩:=c
   cases callee with
   |value f=>
    simp only[iV]at h ⊢
    cases dR:bV (aP s.fr f) (args.toList.map (aP s.fr)) with
    |none=>
     rw[dR]at h
     simp only at h ⊢
     split at h
     ·rename_i n hn
      exact yf (fun c s r h=>ih.c c s r h) h
     ·simp at h
    |some q=>
     obtain⟨g,as⟩:=q
     rw[dR]at h
     simp only at h ⊢
     cases ui:aC (Op.call ⟨.value f,args,argTypes⟩) with
     |true=>
      rw[ui]at h
      simp only at h ⊢
      cases hq:(jr C (fun as=>pn C k g as []) s.hp.length g as).run s.hp with
      |none=>rw[hq]at h; simp at h
      |some q=>rw[hq]at h; rw[(ye (fun as r h=>ih.f g as [] r h) _ hq).1]; exact h
     |false=>
     rw[ui]at h
     simp only at h ⊢
     cases hk:C.kind g with
     |pure=>
      rw[hk]at h
      simp only at h ⊢
      cases hq:(po C k g as).run s.hp with
      |none=>rw[hq]at h; simp at h
      |some q=>rw[hq]at h; rw[(ih.p g as s.hp q hq).1]; exact h
     |imp=>
      rw[hk]at h
      simp only at h ⊢
      cases hq:pn C k g as s.hp with
      |none=>rw[hq]at h; simp at h
      |some q=>rw[hq]at h; rw[ih.f _ _ _ _ hq]; exact h
   |_=>simpa only[iV] using h
  |_=>rw[HT (k':=k) (by intro c hc; cases hc)]; exact h
 p:=by
  intro g args hp
  rw[po,po]
  refine RM.Le.bind .rfl fun as=>?_
  cases hi:C.kZ g with
  |some h=>exact .rfl
  |none=>
   simp only
   intro x hx
   cases hq:pn C k g as [] with
   |none=>rw[hq]at hx; simp[RM.aj]at hx
   |some q=>
    rw[hq]at hx
    rw[ih.f _ _ _ _ hq]
    exact⟨hx,rfl⟩
 e:=by
  intro nm o fr hp
  rw[kK,kK]
  obtain⟨dst,op,type,pos,after,guard⟩:=o
  cases op with
  |call c=>
   obtain⟨callee,args,argTypes⟩:=c
   cases callee with
   |value f=>
    simp only
    split
    ·exact .rfl
    ·rename_i g as dR
     cases ui:aC (Op.call ⟨.value _,args,argTypes⟩) with
     |true=>exact ye fun as r h=>ih.f g as [] r h
     |false=>
     cases hk:C.kind g with
     |pure=>exact RM.Le.bind (ih.p g as hp) fun _=>.rfl
     |imp=>exact .rfl
   |_=>exact .rfl
  |_=>exact .rfl
theorem mono[ah](C:Ctx):∀ k,Tz C k (k+1)
 |0=>{ f:=by intro g args hp r h; simp[pn]at h
       c:=by intro c s r h; simp[cx]at h
       o:=by intro o s r h; simp[iV]at h
       p:=by intro g args hp x h; simp[po,RM.aj]at h
       e:=by intro nm o fr hp x h; simp[kK,RM.aj]at h }
 |k+1=>KN (mono C k)
noncomputable def uj{α:Type}(g:Nat→Option α):Option α:=
 open Classical in if h : ∃ k, (g k).isSome then g (Classical.choose h) else none
def gH{α:Type}(g:Nat→Option α):Prop:=∀ k x,g k=some x→g (k+1)=some x
theorem gH.le{α:Type}{g:Nat→Option α}(h:gH g){k:Nat}{x:α}(hx:g k=some x):∀ d,g (k+d)=some x
 |0=>hx
 |d+1=>h _ _ (h.le hx d)
theorem bl[ah]{α:Type}{g:Nat→Option α}(hg:gH g){x:α}:uj g=some x↔∃ k,g k=some x:=by
 unfold uj
 constructor
 ·intro h
  split at h
  ·rename_i hq; exact⟨_,h⟩
  ·simp at h
 ·rintro⟨k,hk⟩
  have hq:∃ k,(g k).isSome:=⟨k,by simp[hk]⟩
  rw[dif_pos hq]
  obtain⟨y,hy⟩:=Option.isSome_iff_exists.1 (Classical.choose_spec hq)
  have h1:=hg.le hk (Classical.choose hq)
  have h2:=hg.le hy k
  rw[Nat.add_comm]at h2
  rw[h1]at h2
  rw[hy,h2]
theorem mJ[ah]{α:Type}{g:Nat→Option α}(hg:gH g){y:Option α}(h1:∀ k x,g k=some x→y=some x)(h2:∀ x,y=some x→∃ k,g k=some x):uj g=y:=by
 cases hl:uj g with
 |some x=>
  obtain⟨k,hk⟩:=(bl hg).1 hl
  exact(h1 k x hk).symm
 |none=>
  cases y with
  |none=>rfl
  |some x=>
   have:=(bl hg).2 (h2 x rfl)
   rw[hl]at this; simp at this
noncomputable def jt[ah](C:Ctx)(f:FuncId)(args:List AV)(hp:ak):Option (qh×ak):=uj fun k=>pn C k f args hp
noncomputable def dw[ah](C:Ctx)(c:Code)(s:St):Option Out:=uj fun k=>cx C k c s
noncomputable def jv[ah](C:Ctx)(o:Oper)(s:St):Option Out:=uj fun k=>iV C k o s
noncomputable def ME[ah](C:Ctx)(g:FuncId)(args:List AV)(hp:ak):Option (qh×List (Nat×ba)):=uj fun k=>(po C k g args).run hp
theorem kV[ah](C:Ctx)(f:FuncId)(args:List AV)(hp:ak):gH fun k=>pn C k f args hp:=fun k x h=>(mono C k).f _ _ _ _ h
theorem eO[ah](C:Ctx)(c:Code)(s:St):gH fun k=>cx C k c s:=fun k x h=>(mono C k).c _ _ _ h
theorem nq[ah](C:Ctx)(o:Oper)(s:St):gH fun k=>iV C k o s:=fun k x h=>(mono C k).o _ _ _ h
theorem JD[ah](C:Ctx)(g:FuncId)(args:List AV)(hp:ak):gH fun k=>(po C k g args).run hp:=fun k x h=>((mono C k).p g args hp x h).1
end Go.PI
end
section
/- PI, part Za: a scope in which the run jumps back to one label. -/
namespace Go.PI
theorem pX[ah]{C:Ctx}{k:Nat}{o:Oper}{s:St}{r:Out}(h:iV C k o s=some r):(∃ s',r=.norm s')∨∃ v s',r=.od v s':=by
 cases k with
 |zero=>simp[iV]at h
 |succ k=>
  simp only[iV]at h
  repeat' split at h
  all_goals first
   |(simp only[Option.some.injEq]at h; subst h; first|exact .inl ⟨_,rfl⟩|exact .inr ⟨_,_,rfl⟩)
   |exact .inl (Il h)
   |simp at h
theorem mQ{step:Oper→St→Option Out}(hs:∀ o s r,step o s=some r→(∃ s',r=.norm s')∨∃ v s',r=.od v s'){ops:Array Oper}:∀ {l:List Oper} {s:St} {r:Out},
  dc step ops l s=some r→(∃ s',r=.norm s')∨∃ v s',r=.od v s'
 |[],s,r,h=>by simp only[dc,Option.some.injEq]at h; exact .inl ⟨s,h.symm⟩
 |o::l,s,r,h=>by
  simp only[dc]at h
  split at h
  ·simp at h
  ·exact mQ hs h
  ·split at h
   ·exact mQ hs h
   ·rename_i dP
    exact hs o s r h
theorem xu:∀ {c:Code},dX c=true→cw c=true:=by
 intro c
 induction c with
 |seq a b JV HA=>simp_all[dX,cw]
 |cond c a b JV HA=>simp_all[dX,cw]
 |block id b ih=>simp_all[dX,cw]
 |loop b ih=>simp_all[dX,cw]
 |scope b ih=>intro h; simp[dX]at h
 |rangeFunc f ps a b=>intro h; simp[dX]at h
 |_=>intro _; rfl
theorem Iu[ah]{C:Ctx}:∀ (k:Nat) {c:Code} {s s':St} {i:Nat},dX c=true→cx C k c s=some (.exit i s')→i<1073741824:=by
 intro k
 induction k with
 |zero=>intro c s s' i _ h; simp[cx]at h
 |succ k ih=>
  intro c s s' i hp h
  cases c with
  |seq a b=>
   grind[dX,cx]
  |cond o a b=>
   grind[dX,cx]
  |block id b=>
   grind[dX,cx,Out.exit.injEq]
  |loop b=>
   grind[dX,cx]
  |exit id=>
   simp_all[cx,Out.exit.injEq,dX]
  |region id ops draw=>
   simp only[cx]at h
   cases draw with
   |false=>
    rcases mQ (fun o s r h=>pX h) h with ⟨_,e⟩|⟨_,_,e⟩<;>cases e
   |true=>
    simp only at h
    split at h
    case isFalse=>simp at h
    split at h
    case h_2=>simp at h
    split at h
    case isFalse=>simp at h
    rcases mQ (fun o s r h=>pX h) h with ⟨_,e⟩|⟨_,_,e⟩<;>cases e
  |skip=>simp[cx]at h
  |ret=>simp[cx]at h
  |_=>simp[dX]at hp
def OkJ[ah](l:Nat)(B:rf)(E:Env):Out→Exit→Act→World→Prop
 |.exit i s,.goto m,a,w=>i=1073741825∧m=l∧du B E s a w
 |.exit i s,.exit j,a,w=>i=j∧i<1073741824∧du B E s a w
 |o,e,a,w=>Nl B E o e a w
def La[ah](l:Nat)(B:rf)(E:Env)(w:World)(o:Out)(e:Exit)(a':Act)(w':World):Prop:=
 ∃ E',Ext E E'∧Fr E w E' w'∧OkJ l B E' o e a' w'
theorem La.from[ah]{l:Nat}{B:rf}{E E1:Env}{w w1:World}{o:Out}{e:Exit}{a:Act}{w':World}(hx:Ext E E1)(hf:Fr E w E1 w1)(h:La l B E1 w1 o e a w'):La l B E w o e a w':=by
 obtain⟨E',h1,h2,h3⟩:=h
 exact⟨E',hx.trans h1,hf.trans h2,h3⟩
theorem NC[ah]{C:Ctx}{k:Nat}(hC:∀ j,j≤k→gD C j){l:Nat}{c:Code}(hp:dX c=true){j:Nat}(hj:j≤k){s:St}{o:Out}(h:cx C j c s=some o)
  (rd:Option Nat) {B:rf} {E:Env} {a:Act} {w:World} (hs:du B E s a w):c.wpIn (WF rd) 0 C.P (La l B E w o) a w:=by
 refine wpIn_mono (hC j hj c s o h rd B (.inr (xu hp)) E a w hs) fun e a' w' hq=>?_
 obtain⟨E',h1,h2,h3⟩:=hq
 refine⟨E',h1,h2,?_⟩
 cases o with
 |exit i s'=>
  have hi:=Iu j hp h
  cases e with
  |exit m=>exact⟨h3.1,hi,h3.2⟩
  |_=>exact h3.elim
 |_=>exact h3
theorem T6[ah]{C:Ctx}{k:Nat}(hC:∀ j,j≤k→gD C j){l:Nat}:∀ (c:Code) {c':Code},tC l c=some c'→∀ (j:Nat),j≤k→∀ (s:St) (o:Out),cx C j c' s=some o →
  ∀ (rd:Option Nat) (B:rf) (E:Env) (a:Act) (w:World),du B E s a w→c.wpIn (WF rd) 0 C.P (La l B E w o) a w:=by
 intro c
 induction c with
 |seq x y ihx MD=>
  intro c' hc j hj s o h rd B E a w hs
  simp only[tC]at hc
  cases hx:tC l x with
  |none=>rw[hx]at hc; simp at hc
  |some x'=>
   cases hy:tC l y with
   |none=>rw[hx,hy]at hc; simp at hc
   |some y'=>
    rw[hx,hy]at hc
    simp only[Option.bind_some,Option.map_some,Option.some.injEq]at hc
    subst hc
    cases j with
    |zero=>simp[cx]at h
    |succ j=>
     have px:=ihx hx
     have py:=MD hy
     simp only[cx]at h
     refine wpIn_seq ?_
     split at h
     ·rename_i s' im
      refine wpIn_mono (px j (by omega) s _ im rd B E a w hs) fun e a' w' hp=>?_
      obtain⟨E',h1,h2,h3⟩:=hp
      cases e with
      |normal=>exact wpIn_mono (py j (by omega) s' o h rd B E' a' w' h3) fun e Z6 z7 hp=>La.from h1 h2 hp
      |_=>exact h3.elim
     ·rename_i dP
      refine wpIn_mono (px j (by omega) s o h rd B E a w hs) fun e a' w' hp=>?_
      obtain⟨E',h1,h2,h3⟩:=hp
      cases e with
      |normal=>
       cases o with
       |norm s'=>exact absurd h (dP s')
       |_=>exact h3.elim
      |_=>exact⟨E',h1,h2,h3⟩
 |cond op x y ihx MD=>
  intro c' hc j hj s o h rd B E a w hs
  simp only[tC]at hc
  cases hx:tC l x with
  |none=>rw[hx]at hc; simp at hc
  |some x'=>
   cases hy:tC l y with
   |none=>rw[hx,hy]at hc; simp at hc
   |some y'=>
    rw[hx,hy]at hc
    simp only[Option.bind_some,Option.map_some,Option.some.injEq]at hc
    subst hc
    cases j with
    |zero=>simp[cx]at h
    |succ j=>
     have px:=ihx hx
     have py:=MD hy
     simp only[cx]at h
     split at h
     case h_2=>simp at h
     rename_i t ht
     have hv:=kf hs.inv.kL hs.fr op
     rw[ht]at hv
     simp only[ar]at hv
     cases t with
     |true=>exact wpIn_cond_true hv (px j (by omega) s o h rd B E a w hs)
     |false=>exact wpIn_cond_false hv (py j (by omega) s o h rd B E a w hs)
 |goto m=>
  intro c' hc j hj s o h rd B E a w hs
  simp only[tC]at hc
  split at hc
  case isFalse=>simp at hc
  rename_i hm
  simp only[Option.some.injEq]at hc
  subst hc
  cases j with
  |zero=>simp[cx]at h
  |succ j=>
   simp only[cx,Option.some.injEq]at h
   subst h
   exact wpIn_goto ⟨E,Ext.refl E,Fr.refl E w,rfl,hm,hs⟩
 |_=>
  intro c' hc
  simp only[tC]at hc
  split at hc
  case isFalse=>simp at hc
  rename_i hp
  simp only[Option.some.injEq]at hc
  subst hc
  intro j hj s o h rd B E a w hs
  exact NC hC hp hj h rd hs
section
variable {F:Fence}{n:Nat}{P:Program}{Q:Exit→Act→World→Prop}{a:Act}{w:World}
theorem FX{b:Frame}{k:List Go.Item}{cs:List Frame}{c:Code}:step P (lone (b.atR a (.code (.scope c)::k)) cs w)=.next (lone (b.atR a (.code c::.inScope c::k)) cs w):=
 step_lone_go (by simp[stepG,stepG.exec,Frame.atR])
theorem tO{b:Frame}{k:List Go.Item}{cs:List Frame}{c:Code}:step P (lone (b.atR a (.inScope c::k)) cs w)=.next (lone (b.atR a k) cs w):=
 step_lone_go (by simp[stepG,stepG.exec,Frame.atR])
def o6(F:Fence)(n:Nat)(P:Program)(c r:Code)(Q:Exit→Act→World→Prop)(a:Act)(w:World):Prop:=
 ∀ (b:Frame) (k:List Go.Item) (cs:List Frame),b.roundOf=F.round→F.fn b.fn→F.room (cs.length+1+n) →
   ∃ e a' w',Q e a' w'∧ArrivesIn (Machine.fenced P F) P (lone (b.atR a (.code r::.inScope c::k)) cs w) b k cs e a' w'
def Xw(l:Nat)(N:Act→World→Prop)(Q:Exit→Act→World→Prop):Exit→Act→World→Prop
 |.goto m,a,w=>m=l∧N a w
 |e,a,w=>Q e a w
theorem CW{c r rest:Code}{l:Nat}{N:Act→World→Prop}(hf:findLabel c l=some rest)(hN:∀ a w,N a w→o6 F n P c rest Q a w)
  (h:r.wpIn F n P (Xw l N Q) a w):o6 F n P c r Q a w:=by
 intro b k cs eF hb hr
 have hg:gotoIn l (.inScope c::k)=some (.code rest::.inScope c::k):=by simp[gotoIn,hf]
 obtain⟨e,a₁,w₁,hq,dp⟩:=h b (.inScope c::k) cs eF hb hr
 cases e with
 |normal=>exact⟨.normal,a₁,w₁,hq,StepsIn.trans dp (.one (fenced_calm hb hr rfl) tO)⟩
 |exit id=>
  have hx:exitTo id (.inScope c::k)=exitTo id k:=by simp[exitTo]
  exact⟨.exit id,a₁,w₁,hq,fun k' hk=>dp.1 k' (by rw[hx]; exact hk),fun pw hk=>dp.2 pw (by rw[hx]; exact hk)⟩
 |goto m=>
  obtain⟨rfl,hN'⟩:=hq
  obtain⟨e₂,a₂,w₂,z8,lJ⟩:=hN _ _ hN' b k cs eF hb hr
  exact⟨e₂,a₂,w₂,z8,.of_steps (dp.1 _ hg) lJ⟩
 |ret=>exact⟨_,a₁,w₁,hq,dp⟩
 |panic ch=>exact⟨_,a₁,w₁,hq,dp⟩
 |outgrown=>exact⟨_,a₁,w₁,hq,dp⟩
theorem y7{c r:Code}(h:r.wpIn F n P Q a w)(hQ:∀ m a w,¬Q (.goto m) a w):o6 F n P c r Q a w:=by
 intro b k cs eF hb hr
 obtain⟨e,a₁,w₁,hq,dp⟩:=h b (.inScope c::k) cs eF hb hr
 cases e with
 |normal=>exact⟨.normal,a₁,w₁,hq,StepsIn.trans dp (.one (fenced_calm hb hr rfl) tO)⟩
 |exit id=>
  have hx:exitTo id (.inScope c::k)=exitTo id k:=by simp[exitTo]
  exact⟨.exit id,a₁,w₁,hq,fun k' hk=>dp.1 k' (by rw[hx]; exact hk),fun pw hk=>dp.2 pw (by rw[hx]; exact hk)⟩
 |goto m=>exact absurd hq (hQ _ _ _)
 |ret=>exact⟨_,a₁,w₁,hq,dp⟩
 |panic ch=>exact⟨_,a₁,w₁,hq,dp⟩
 |outgrown=>exact⟨_,a₁,w₁,hq,dp⟩
theorem FY{c:Code}(h:o6 F n P c c Q a w):(Code.scope c).wpIn F n P Q a w:=by
 intro b k cs eF hb hr
 obtain⟨e,a₁,w₁,hq,dp⟩:=h b k cs eF hb hr
 exact⟨e,a₁,w₁,hq,.of_steps (.one (fenced_calm hb hr rfl) FX) dp⟩
end
theorem FZ:∀ {c:Code} {l:Nat},dX c=true→findLabel c l=none:=by
 intro c
 induction c with
 |seq a b JV HA=>
  simp_all[dX,findLabel]
 |label m=>intro l h; simp[dX]at h
 |_=>intro l _; rfl
theorem ND{a b:Code}{l:Nat}(h:findLabel a l=none):findLabel (.seq a b) l=findLabel b l:=by
 simp only[findLabel,h]
theorem NF:∀ {c:Code} {l:Nat} {x r:Code},vu c=some (l,x,r)→findLabel c l=some (.seq .skip r):=by
 intro c
 induction c with
 |seq a b JV HA=>
  intro l x r h
  cases a with
  |label m=>
   simp_all[vu,findLabel]
  |_=>
   simp only[vu]at h
   split at h
   case isFalse=>simp at h
   rename_i hp
   cases hb:vu b with
   |none=>rw[hb]at h; simp at h
   |some q=>
    obtain⟨l',x',r'⟩:=q
    rw[hb]at h
    simp only[Option.map_some,Option.some.injEq,Prod.mk.injEq]at h
    obtain⟨rfl,rfl,rfl⟩:=h
    exact(ND (FZ (l:=l') hp)).trans (HA hb)
 |_=>intro l x r h; simp[vu]at h
theorem T7[ah]{C:Ctx}{k:Nat}(hC:∀ j,j≤k→gD C j){Q:Exit→Act→World→Prop}{rd:Option Nat}{B:rf}{l:Nat}{r:Code}:∀ (c:Code) {x:Code},vu c=some (l,x,r)→∀ (j:Nat),j≤k→∀ (s:St) (q:Out),cx C j x s=some q →
  ∀ (E:Env) (a:Act) (w:World),du B E s a w→(∀ s1 E1 a1 w1,q=.norm s1→Ext E E1→Fr E w E1 w1→du B E1 s1 a1 w1→r.wpIn (WF rd) 0 C.P Q a1 w1) →
  (∀ e a' w',(∀ s1,q≠.norm s1)→bG B E w q e a' w'→Q e a' w')→c.wpIn (WF rd) 0 C.P Q a w:=by
 intro c
 induction c with
 |seq a b JV HA=>
  intro x h j hj s q ck E ac w hs hn ho
  have step:∀ (hp:dX a=true) (x':Code),vu b=some (l,x',r)→x=.seq a x'→(Code.seq a b).wpIn (WF rd) 0 C.P Q ac w:=by
   intro hp x' hb hx
   subst hx
   cases j with
   |zero=>simp[cx]at ck
   |succ j=>
    simp only[cx]at ck
    refine wpIn_seq ?_
    split at ck
    ·rename_i s1 h1
     refine wpIn_mono (hC j (by omega) _ _ _ h1 rd B (.inr (xu hp)) E ac w hs) fun e a' w' hq=>?_
     obtain⟨E',g1,g2,g3⟩:=hq
     cases e with
     |normal=>exact HA hb j (by omega) s1 q ck E' a' w' g3 (fun s2 E2 a2 w2 e1 e2 e3 e4=>hn s2 E2 a2 w2 e1 (g1.trans e2) (g2.trans e3) e4) (fun e a2 w2 e1 e2=>ho e a2 w2 e1 (bG.from g1 g2 e2))
     |_=>exact g3.elim
    ·rename_i dP
     refine wpIn_mono (hC j (by omega) _ _ _ ck rd B (.inr (xu hp)) E ac w hs) fun e a' w' hq=>?_
     cases e with
     |normal=>
      obtain⟨E',g1,g2,g3⟩:=hq
      cases q with
      |norm s1=>exact absurd ck (dP s1)
      |_=>exact g3.elim
     |_=>exact ho _ _ _ (fun s1 e=>dP s1 (e▸ck)) hq
  cases a with
  |label m=>
   simp only[vu,Option.some.injEq,Prod.mk.injEq]at h
   obtain⟨rfl,rfl,rfl⟩:=h
   cases j with
   |zero=>simp[cx]at ck
   |succ j=>
    simp only[cx,Option.some.injEq]at ck
    subst ck
    exact wpIn_seq (wpIn_label (hn s E ac w rfl (Ext.refl E) (Fr.refl E w) hs))
  |_=>
   simp only[vu]at h
   split at h
   case isFalse=>simp at h
   rename_i hp
   cases hb:vu b with
   |none=>rw[hb]at h; simp at h
   |some q'=>
    obtain⟨l',x',r'⟩:=q'
    rw[hb]at h
    simp only[Option.map_some,Option.some.injEq,Prod.mk.injEq]at h
    obtain⟨rfl,rfl,rfl⟩:=h
    exact step hp x' hb rfl
 |_=>intro x h; simp[vu]at h
def yx:Out→Out
 |.exit i s=>if i=1073741824 then .norm s else .exit i s
 |o=>o
theorem o6.mono{F:Fence}{n:Nat}{P:Program}{c r:Code}{Q Q':Exit→Act→World→Prop}{a:Act}{w:World}(h:o6 F n P c r Q a w)(hq:∀ e a w,Q e a w→Q' e a w):o6 F n P c r Q' a w:=
 fun b k cs eF hb hr=>let ⟨e,a',w',q,r⟩:=h b k cs eF hb hr; ⟨e,a',w',hq _ _ _ q,r⟩
theorem Xw.mono{l:Nat}{N N':Act→World→Prop}{Q Q':Exit→Act→World→Prop}(hn:∀ a w,N a w→N' a w)(hq:∀ e a w,Q e a w→Q' e a w){e:Exit}{a:Act}{w:World}(h:Xw l N Q e a w):Xw l N' Q' e a w:=by
 cases e with
 |goto m=>exact⟨h.1,hn _ _ h.2⟩
 |_=>exact hq _ _ _ h
theorem Lb[ah]{C:Ctx}{k:Nat}(hC:∀ j,j≤k→gD C j){rd:Option Nat}{l:Nat}{c r r':Code}(hf:findLabel c l=some (.seq .skip r))(hr:tC l r=some r'){B:rf}:∀ (j:Nat),j≤k→∀ (s:St) (o:Out),
  cx C j (.loop (.block 1073741825 (.seq r' (.exit 1073741824)))) s=some o→∀ (E:Env) (a:Act) (w:World),du B E s a w →
  r.wpIn (WF rd) 0 C.P (Xw l (fun a1 w1=>o6 (WF rd) 0 C.P c (.seq .skip r) (bG B E w (yx o)) a1 w1) (bG B E w (yx o))) a w:=by
 intro j
 induction j with
 |zero=>intro _ s o h; simp[cx]at h
 |succ j ih=>
  intro hj s o h E a w hs
  have ih':=ih (by omega)
  simp only[cx]at h
  cases hb:cx C j (.block 1073741825 (.seq r' (.exit 1073741824))) s with
  |none=>rw[hb]at h; simp at h
  |some q=>
   rw[hb]at h
   cases j with
   |zero=>simp[cx]at hb
   |succ j=>
    simp only[cx]at hb
    cases j with
    |zero=>simp[cx]at hb
    |succ j=>
     simp only[cx]at hb
     cases hq:cx C j r' s with
     |none=>rw[hq]at hb; simp at hb
     |some p=>
      rw[hq]at hb
      refine wpIn_mono (T6 hC r hr j (by omega) s p hq rd B E a w hs) fun e a' w' ho=>?_
      obtain⟨E',g1,g2,g3⟩:=ho
      cases p with
      |norm s1=>
       cases j with
       |zero=>simp[cx]at hq
       |succ j=>
        simp only[cx]at hb
        simp at hb
        subst hb
        simp only[Option.some.injEq]at h
        subst h
        cases e with
        |normal=>exact⟨E',g1,g2,g3⟩
        |_=>exact g3.elim
      |exit i s1=>
       simp only at hb
       cases e with
       |goto m=>
        obtain⟨hi,hm,qV⟩:=g3
        subst hi
        simp only[if_true,Option.some.injEq]at hb
        subst hb
        simp only at h
        refine⟨hm,?_⟩
        have:∃ E2,Ext E E2∧Fr E w E2 w'∧du B E2 (iT s.hp.length s1) a' w':=by
         unfold iT
         split
         ·rename_i bK
          have hle:s.hp.length≤s1.hp.length:=by rw[hs.inv.len,qV.inv.len]; exact g1.L
          obtain⟨a1,a2,a3⟩:=v5 qV.inv hle bK
          exact⟨E'.lower s.hp.length,⟨g1.m,fun n hn ax l h=>g1.ρ n hn ax l h,by simp[Env.lower,hs.inv.len]⟩,g2.trans a2,uu a3 qV.fr,a1,qV.df.mono a2,qV.bs⟩
         ·exact⟨E',g1,g2,qV⟩
        obtain⟨E2,b1,b2,b3⟩:=this
        have hw:=ih' _ o h E2 a' w' b3
        refine CW hf (N:=fun a w2=>o6 (WF rd) 0 C.P c (.seq .skip r) (bG B E w (yx o)) a w2) (fun _ _ h=>h) (wpIn_seq (wpIn_skip (wpIn_mono hw fun e a2 w2 hj=>?_)))
        exact hj.mono (fun _ _ hi=>hi.mono fun _ _ _ hp=>bG.from b1 b2 hp) fun _ _ _ hp=>bG.from b1 b2 hp
       |exit m=>
        obtain⟨hi,cr,qV⟩:=g3
        subst hi
        rw[if_neg (by omega)]at hb
        simp only[Option.some.injEq]at hb
        subst hb
        simp only[Option.some.injEq]at h
        subst h
        have:yx (.exit i s1)=.exit i s1:=by simp only[yx]; rw[if_neg (by omega)]
        rw[this]
        exact⟨E',g1,g2,rfl,qV⟩
       |_=>exact g3.elim
      |ret s1=>
       simp only[Option.some.injEq]at hb
       subst hb
       simp only[Option.some.injEq]at h
       subst h
       cases e with
       |ret=>exact⟨E',g1,g2,g3⟩
       |_=>exact g3.elim
      |od v s1=>
       simp only[Option.some.injEq]at hb
       subst hb
       simp only[Option.some.injEq]at h
       subst h
       cases e with
       |panic ch=>exact⟨E',g1,g2,g3⟩
       |_=>exact g3.elim
theorem Iv:∀ {c:Code},noGoto c=true→cw c=true:=by
 intro c
 induction c with
 |seq a b JV HA=>simp_all[noGoto,cw]
 |cond o a b JV HA=>simp_all[noGoto,cw]
 |block id b ih=>simp_all[noGoto,cw]
 |loop b ih=>simp_all[noGoto,cw]
 |scope b ih=>simp_all[noGoto,cw]
 |rangeFunc _ _ _ _ _ _=>intro h; simp[noGoto]at h
 |_=>intro _; rfl
theorem Ny[ah]{C:Ctx}{k:Nat}(hC:∀ j,j≤k→gD C j){rd:Option Nat}{B:rf}{E:Env}{s:St}{a:Act}{w:World}(hs:du B E s a w){b c:Code}{o:Out}
  (hc:rJ b=some c) (h:cx C k c s=some o):(Code.scope b).wpIn (WF rd) 0 C.P (bG B E w o) a w:=by
 cases NA:noGoto b with
 |true=>
  simp only[rJ,NA,Option.some.injEq]at hc
  subst hc
  refine FY (y7 (hC k (Nat.le_refl _) b s o h rd B (.inr (Iv NA)) E a w hs) fun m a' w' hq=>?_)
  obtain⟨E',_,_,hq⟩:=hq
  cases o<;>exact hq.elim
 |false=>
 cases NG:vu b with
 |none=>simp only[rJ,NA,NG]at hc; simp at hc
 |some q=>
  obtain⟨l,x,r⟩:=q
  cases hr:tC l r with
  |none=>simp only[rJ,NA,NG,hr,Option.map_none]at hc; simp at hc
  |some r'=>
   simp only[rJ,NA,NG,hr,Option.map_some,Option.some.injEq]at hc
   subst hc
   have hf:=NF NG
   cases k with
   |zero=>simp[cx]at h
   |succ k=>
    simp only[cx]at h
    refine FY (CW hf (N:=fun a w'=>o6 (WF rd) 0 C.P b (.seq .skip r) (bG B E w o) a w') (fun _ _ h=>h) ?_)
    cases hx:cx C k x s with
    |none=>rw[hx]at h; simp at h
    |some q=>
     rw[hx]at h
     refine T7 hC b NG k (by omega) s q hx E a w hs (fun s1 E1 a1 w1 hq g1 g2 qV=>?_) (fun e a' w' hq hp=>?_)
     ·subst hq
      simp only at h
      cases k with
      |zero=>simp[cx]at h
      |succ k=>
       simp only[cx]at h
       cases hl:cx C k (.loop (.block 1073741825 (.seq r' (.exit 1073741824)))) s1 with
       |none=>rw[hl]at h; simp at h
       |some oL=>
        rw[hl]at h
        have ho:o=yx oL:=by
         cases oL with
         |exit i s2=>
          grind[yx]
         |_=>simpa[yx] using h.symm
        subst ho
        refine wpIn_mono (Lb hC hf hr k (by omega) s1 oL hl E1 a1 w1 qV) fun e a2 w2 hj=>?_
        exact hj.mono (fun _ _ hi=>hi.mono fun _ _ _ hp=>bG.from g1 g2 hp) fun _ _ _ hp=>bG.from g1 g2 hp
     ·have ho:o=q:=by
       simp_all
      subst ho
      cases e with
      |goto m=>obtain⟨_,_,_,h3⟩:=hp; cases o<;>exact h3.elim
      |_=>exact hp
end Go.PI
end
section
/- PI, part Zb: calls that only look, where the order is drawn. -/
namespace Go.PI
def Nt[ah](P:Program):Prop:=∀ (g:FuncId) (args:List AV) (hp:ak) (e:eg),(BV P hp.length g args).run hp=some e→∀ (E:Env) (w:World) (vs:List Value),Inv E hp w→aw E true args vs →
 e.wr=[]∧Calls P g vs.toArray w (bD E w hp (.val e.val))
theorem Q4[ah]{C:Ctx}(cj:C.Ok){nm:Nat}{g:FuncId}{args:List AV}{hp:ak}{e:eg}(h:(BV C.P nm g args).run hp=some e):
  ∃ fn : Func, C.P.funcs[g]? = some fn ∧ fn.body.isSome = true ∧ (fn.name == "runtime.NumGoroutine") = false := by
 unfold BV at h
 split at h
 ·simp[RM.aj]at h
 rename_i fn hf
 split at h
 ·simp[RM.aj]at h
 rename_i c hc
 exact⟨fn,hf,by rw[hc]; rfl,cj.name g fn hf (by rw[hc]; rfl)⟩
def sg(hp:ak):Option (Nat×ba)→ak
 |none=>hp
 |some (m,o')=>match hp[m]? with
  |some (some _)=>hp.set m (some o')
  |_=>hp
theorem F0{hp:ak}{ov:Option (Nat×ba)}(n:Nat):(sg hp ov)[n]?=(hp[n]?).map fun o=>o.map fun o=>match ov with
  |some (m,o')=>(match Nat.beq m n with
   |true=>o'
   |false=>o)
  |none=>o:=by
 cases ov with
 |none=>cases h:hp[n]? with
  |none=>simp[sg,h]
  |some o=>cases o<;>simp[sg,h]
 |some q=>
  obtain⟨m,o'⟩:=q
  simp only[sg]
  by_cases hm:m=n
  ·subst hm
   have hb:Nat.beq m m=true:=Nat.beq_refl m
   split
   ·rename_i o ho
    rw[List.getElem?_set_self (List.getElem?_eq_some_iff.1 ho).1,ho]
    simp
   ·rename_i ho
    cases h:hp[m]? with
    |none=>simp
    |some o=>cases o with
     |none=>simp
     |some o=>exact absurd h (ho o)
  ·have hb:Nat.beq m n=false:=Bool.eq_false_iff.mpr fun h=>hm (Nat.eq_of_beq_eq_true h)
   have:(match hp[m]? with
    |some (some _)=>hp.set m (some o')
    |_=>hp)[n]?=hp[n]?:=by
    split
    ·rw[List.getElem?_set_ne hm]
    ·rfl
   rw[this]
   cases h:hp[n]? with
   |none=>simp
   |some o=>cases o<;>simp[hb]
theorem nD{hp:ak}{ov:Option (Nat×ba)}:(sg hp ov).length=hp.length:=by
 unfold sg
 split
 ·rfl
 ·split<;>simp
def bj(hp:ak)(ov:Option (Nat×ba))(nw:List ba):ak:=sg hp ov++nw.map some
theorem qw{hp:ak}{ov:Option (Nat×ba)}{nw:List ba}:(bj hp ov nw).length=hp.length+nw.length:=by
 simp[bj,nD]
theorem pY{α:Type}{hp:ak}{ov:Option (Nat×ba)}{nw:List ba}(x:RM α):(x.over hp.length ov nw).run hp=x.run (bj hp ov nw) ∧
  (x.over hp.length ov nw).log hp=(x.log (bj hp ov nw)).filter (fun n=>Nat.blt n hp.length):=by
 induction x with
 |ret a=>exact⟨rfl,rfl⟩
 |fail=>exact⟨rfl,rfl⟩
 |get n k ih=>
  cases hb:Nat.ble hp.length n with
  |true=>
   have hle:=Nat.le_of_ble_eq_true hb
   have H5:Nat.blt n hp.length=false:=Bool.eq_false_iff.mpr fun h=>by have:=Nat.le_of_ble_eq_true h; omega
   have e:(bj hp ov nw)[n]?=(nw[n-hp.length]?).map some:=by
    unfold bj
    rw[List.getElem?_append_right (by rw[nD]; exact hle),nD,List.getElem?_map]
   simp only[RM.over,RM.run,RM.log,hb,e,List.filter_cons,H5,Bool.false_eq_true,if_false]
   cases h:nw[n-hp.length]? with
   |none=>exact⟨rfl,rfl⟩
   |some o=>exact ih o
  |false=>
   have cr:n<hp.length:=by
    rcases Nat.lt_or_ge n hp.length with h|h
    ·exact h
    ·rw[Nat.ble_eq_true_of_le h]at hb; cases hb
   have H5:Nat.blt n hp.length=true:=Nat.ble_eq_true_of_le cr
   have e:(bj hp ov nw)[n]?=(sg hp ov)[n]?:=by
    unfold bj
    rw[List.getElem?_append_left (by rw[nD]; exact cr)]
   simp only[RM.over,RM.run,RM.log,hb,e,F0,List.filter_cons,H5,if_true]
   cases h:hp[n]? with
   |none=>simp
   |some o=>cases o with
    |none=>simp
    |some o=>exact⟨(ih _).1,congrArg (n::·) (ih _).2⟩
def Ef[ah](hp:ak)(ov:Option (Nat×ba)):Prop:=∀ (E:Env) (w:World),Inv E (sg hp ov) w→Inv E hp w
theorem yy:∀ (xs l:List AV) (j q:Nat),(q<j∨j+xs.length≤q)→(setCells l j xs)[q]?=l[q]?
 |[],_,_,_,_=>rfl
 |x::xs,l,j,q,h=>by
  simp only[setCells]
  rw[yy xs _ _ q (by simp only[List.length_cons]at h; omega),List.getElem?_set_ne (by simp only[List.length_cons]at h; omega)]
theorem NH[ah]{E:Env}{l:List AV}{j s:Nat}{cs:List AV}(hs:cs.length=s)(ha:((l.drop j).take s).all isAny=true)(v:Value)(h:ar E true (.agg (setCells l j cs)) v):ar E true (.agg l) v:=by
 simp only[ar]at h ⊢
 obtain⟨c,rfl,hc⟩:=h
 refine⟨c,rfl,aO.of (aw.fk ?_ ?_) hc.leaf⟩
 ·rw[←hc.Jq.length,qS]
 ·intro q x u hx hu
  by_cases hq:q<j∨j+cs.length≤q
  ·obtain⟨u',P6,hr⟩:=hc.Jq.get (i:=q) (x:=x) (by rw[yy _ _ _ _ hq]; exact hx)
   rw[hu]at P6
   cases P6
   exact hr
  ·have hm:x∈(l.drop j).take s:=by
    rw[List.mem_iff_getElem?]
    refine⟨q-j,?_⟩
    rw[List.getElem?_take_of_lt (by omega),List.getElem?_drop]
    have:j+(q-j)=q:=by omega
    rw[this]
    exact hx
   have:=List.all_eq_true.1 ha x hm
   unfold isAny at this
   split at this
   ·simp[ar]
   ·simp at this
theorem Iw[ah]{P:Program}{hp H:ak}{ev:Operand→AV}{nm n:Nat}{o:Oper}{o0 o':ba}{e:eg}(h0:hp[n]?=some (some o0))(Z9:H[n]?=some (some o0))(hh:ud P ev o.op n o0=true)
  (he:(aV P nm ev o).run H=some e) (hw:e.wr=[(n,o')]):Ef hp (some (n,o')):=by
 obtain⟨dst,op,type,pos,after,guard⟩:=o
 simp only[ud]at hh
 split at hh
 case h_2=>simp at hh
 rename_i t a x
 split at hh
 case h_2=>simp at hh
 rename_i r n' ax i j g f es ht ha
 split at hh
 case h_2=>simp at hh
 rename_i l hl
 simp only[Bool.and_eq_true]at hh
 obtain⟨⟨h1,h2⟩,h3⟩:=hh
 obtain rfl:=Nat.eq_of_beq_eq_true h1
 simp only[aV,rz,ht,ha,RM.run_bind]at he
 cases hq:(RM.arr n' ax).run H with
 |none=>rw[hq]at he; simp at he
 |some q=>
  obtain⟨g',c',f',es'⟩:=q
  have fc:=RM.mG hq
  rw[hq]at he
  simp only[Option.bind_some]at he
  obtain⟨iL,JW⟩:=fc
  rw[Z9]at iL
  simp only[Option.some.injEq,ba.arr.injEq]at iL
  obtain⟨rfl,rfl,rfl,rfl⟩:=iL
  rw[hl]at he
  simp only[jV]at he
  split at he
  case h_2=>simp[RM.aj]at he
  rename_i e' y5
  split at y5
  case isFalse=>simp at y5
  simp only[Option.some.injEq]at y5
  subst y5
  split at he
  case isFalse=>simp[RM.aj]at he
  rename_i hc
  simp only[RM.run_pure,Option.some.injEq]at he
  subst he
  simp only[List.cons.injEq,Prod.mk.injEq,true_and,and_true,Bool.false_and]at hw
  subst hw
  intro E w hI
  have hn:=(List.getElem?_eq_some_iff.1 h0).1
  have hi:=(List.getElem?_eq_some_iff.1 hl).1
  simp only[sg,h0]at hI
  have:=uv (e':=.agg l) hI (List.getElem?_set_self hn) (List.getElem?_set_self hi) (fun v hv=>NH hc.2.1 h3 v hv)
  rw[List.set_set,List.set_set,jd hl,jd h0]at this
  exact this
section
variable {C:Ctx}
theorem AL{hp:ak}{n:Nat}{o0 o':ba}{nw:List ba}(h:hp[n]?=some (some o0)):av (bj hp none nw) [(n,o')]=bj hp (some (n,o')) nw:=by
 have cr:=(List.getElem?_eq_some_iff.1 h).1
 simp only[av,bj,sg,h]
 rw[jK (by simp; omega),List.set_append_left _ _ cr]
theorem Ix{hp:ak}{ov:Option (Nat×ba)}{nw:List ba}{n:Nat}{o':ba}(h:hp.length≤n):av (bj hp ov nw) [(n,o')]=bj hp ov (Me nw (n-hp.length) o'):=by
 have hl:=qw (hp:=hp) (ov:=ov) (nw:=nw)
 simp only[av,setObj,hl,Me]
 by_cases e:n=hp.length+nw.length
 ·simp_all[bj]
 ·rw[if_neg e,if_neg (by omega)]
  simp only[bj,List.map_set]
  rw[List.set_append_right _ _ (by rw[nD]; exact h),nD]
theorem sh{hp:ak}{ov:Option (Nat×ba)}:∀ (wr:List (Nat×ba)) {nw:List ba},(∀ q∈wr,hp.length≤q.1)→av (bj hp ov nw) wr=bj hp ov (rH hp.length nw wr)
 |[],_,_=>rfl
 |(n,o)::r,nw,h=>by
  have h1:=Ix (ov:=ov) (nw:=nw) (o':=o) (h (n,o) (by simp))
  simp only[av]at h1
  simp only[av,rH,h1]
  exact sh r fun q hq=>h q (by simp[hq])
theorem CX[ah](ha:∀ f d,C.acc f d=false)(hn:∀ f d,C.tB f d=[]){ops:Array Oper}{f:FuncId}{hp:ak}{r:List Oper}{dst:Option Tmp}{op:Op}{type:TypeId}{pos:String}
  {after:Array Edge} {guard:Option (Nat×Bool)} {q q':y4} (h1:∀ c,op≠.call c) (h2:op≠.assign (.const (.slice none 0 0)))
  (h:(do
      let e ←(aV C.P (hp.length+q.nw.length) (aP q.fr) ⟨dst,op,type,pos,after,guard⟩).over hp.length q.ov q.nw
      match e.wr.all fun q=>Nat.ble hp.length q.1 with
      |true=>jY C.P hp.length ops r { q with fr:=bZ q.fr dst e.val,nw:=rH hp.length q.nw e.wr }
      |false=>(match q.ov,e.wr with
       |none,[(n,o')]=>.get n fun o0=>(match ud C.P (aP q.fr) op n o0 with
         |true=>jY C.P hp.length ops r { q with fr:=bZ q.fr dst e.val,ov:=some (n,o') }
         |false=>.fail)
       |_,_=>.fail):RM y4).run hp=some q') (k:Nat) :
  ∃ q1:y4,iV C (k+1) ⟨dst,op,type,pos,after,guard⟩ ⟨f,q.fr,bj hp q.ov q.nw⟩=some (.norm ⟨f,q1.fr,bj hp q1.ov q1.nw⟩)∧(Ef hp q.ov→Ef hp q1.ov)∧(jY C.P hp.length ops r q1).run hp=some q':=by
 obtain⟨fr,ov,nw⟩:=q
 simp only[RM.run_bind,(pY _).1]at h
 cases he:(aV C.P (hp.length+nw.length) (aP fr) ⟨dst,op,type,pos,after,guard⟩).run (bj hp ov nw) with
 |none=>rw[he]at h; simp at h
 |some e=>
  rw[he]at h
  simp only[Option.bind_some]at h
  have HO:C.tB f=fun _=>[]:=funext fun d=>hn f d
  have ck:iV C (k+1) ⟨dst,op,type,pos,after,guard⟩ ⟨f,fr,bj hp ov nw⟩=some (.norm ⟨f,bZ fr dst e.val,av (bj hp ov nw) e.wr⟩):=by
   rw[iV]
   split
   ·rename_i c hc; exact absurd hc (h1 c)
   ·rename_i hc; exact absurd hc h2
   ·simp only[qw,he,HO]
    cases dst<;>rfl
  split at h
  ·rename_i hb
   refine⟨⟨bZ fr dst e.val,ov,rH hp.length nw e.wr⟩,ck.trans ?_,id,h⟩
   rw[sh e.wr fun q hq=>Nat.le_of_ble_eq_true (List.all_eq_true.1 hb q hq)]
  ·cases ov with
   |some _=>simp[RM.aj]at h
   |none=>
    split at h
    case h_2=>simp[RM.aj]at h
    rename_i n o' _ Hz
    simp only[RM.run]at h
    split at h
    case h_2=>simp at h
    rename_i o0 ho
    split at h
    case h_2=>simp[RM.aj]at h
    rename_i hh
    have dM:(bj hp none nw)[n]?=some (some o0):=by
     grind[bj,sg]
    refine⟨⟨bZ fr dst e.val,some (n,o'),nw⟩,ck.trans ?_,fun _=>Iw (o:=⟨dst,op,type,pos,after,guard⟩) ho dM hh he Hz,h⟩
    rw[Hz,AL (o':=o') ho]
theorem pZ[ah](ha:∀ f d,C.acc f d=false)(hn:∀ f d,C.tB f d=[]){ops:Array Oper}{f:FuncId}{hp:ak}:∀ (l:List Oper) (q q':y4),(jY C.P hp.length ops l q).run hp=some q' →
  (Ef hp q.ov→Ef hp q'.ov)∧∀ k,dc (fun o s=>iV C (k+1) o s) ops l ⟨f,q.fr,bj hp q.ov q.nw⟩=some (.norm ⟨f,q'.fr,bj hp q'.ov q'.nw⟩)
 |[],q,q',h=>by
  simp only[jY,RM.run_pure,Option.some.injEq]at h
  subst h
  exact⟨id,fun k=>rfl⟩
 |o::r,q,q',h=>by
  obtain⟨dst,op,type,pos,after,guard⟩:=o
  simp only[jY]at h
  simp only[dc]
  cases hw:dg ops q.fr ⟨dst,op,type,pos,after,guard⟩ with
  |none=>rw[hw]at h; simp[RM.aj]at h
  |some b=>
   rw[hw]at h
   cases b with
   |false=>exact pZ ha hn r { q with fr:=bZ q.fr dst .undef } _ h
   |true=>
    simp only at h ⊢
    split at h
    ·simp[RM.aj]at h
    ·cases dst with
     |none=>
      obtain⟨i1,i2⟩:=pZ ha hn (f:=f) r q _ h
      refine⟨i1,fun k=>?_⟩
      have ck:iV C (k+1) ⟨none,.assign (.const (.slice none 0 0)),type,pos,after,guard⟩ ⟨f,q.fr,bj hp q.ov q.nw⟩=some (.norm ⟨f,q.fr,bj hp q.ov q.nw⟩):=by
       rw[iV]; rfl
      rw[ck]
      exact i2 k
     |some d=>
      obtain⟨i1,i2⟩:=pZ ha hn (f:=f) r { q with fr:=q.fr.set d (.lit cz) } _ h
      refine⟨i1,fun k=>?_⟩
      have ck:iV C (k+1) ⟨some d,.assign (.const (.slice none 0 0)),type,pos,after,guard⟩ ⟨f,q.fr,bj hp q.ov q.nw⟩=some (.norm ⟨f,q.fr.set d (.lit cz),bj hp q.ov q.nw⟩):=by
       rw[iV]
       simp only[ha,Bool.false_eq_true,if_false]
      rw[ck]
      exact i2 k
    ·rename_i h1 h2
     obtain⟨q1,g1,g2,g3⟩:=CX ha hn (f:=f) h1 h2 h 0
     obtain⟨i1,i2⟩:=pZ ha hn (f:=f) r _ _ g3
     refine⟨fun hw=>i1 (g2 hw),fun k=>?_⟩
     obtain⟨q1',Rb,_,g3'⟩:=CX ha hn (f:=f) h1 h2 h k
     rw[Rb]
     exact(pZ ha hn (f:=f) r _ _ g3').2 k
theorem NI[ah](ha:∀ f d,C.acc f d=false)(hn:∀ f d,C.tB f d=[])(hh:∀ f d,C.ja f d=[]){f:FuncId}{hp:ak}:∀ (c:Code) (q:y4) (q':y4×Bool),(iK C.P hp.length c q).run hp=some q' →
  (Ef hp q.ov→Ef hp q'.1.ov)∧∃ k,cx C k c ⟨f,q.fr,bj hp q.ov q.nw⟩=some (match q'.2 with|true=>.ret ⟨f,q'.1.fr,bj hp q'.1.ov q'.1.nw⟩|false=>.norm ⟨f,q'.1.fr,bj hp q'.1.ov q'.1.nw⟩):=by
 intro c
 induction c with
 |skip=>intro q q' h; simp only[iK,RM.run_pure,Option.some.injEq]at h; subst h; exact⟨id,1,by simp[cx]⟩
 |ret=>intro q q' h; simp only[iK,RM.run_pure,Option.some.injEq]at h; subst h; exact⟨id,1,by simp[cx]⟩
 |seq a b JV HA=>
  intro q q' h
  simp only[iK,RM.run_bind]at h
  cases hq:(iK C.P hp.length a q).run hp with
  |none=>rw[hq]at h; simp at h
  |some q1=>
   rw[hq]at h
   simp only[Option.bind_some]at h
   obtain⟨w1,k1,h1⟩:=JV q q1 hq
   obtain⟨q1,r1⟩:=q1
   cases r1 with
   |true=>
    simp only[RM.run_pure,Option.some.injEq]at h
    subst h
    exact⟨w1,k1+1,by simp only[cx,h1]⟩
   |false=>
    simp only at h h1 w1
    obtain⟨w2,k2,h2⟩:=HA q1 q' h
    refine⟨fun hw=>w2 (w1 hw),k1+k2+1,?_⟩
    have g1:=(eO C a ⟨f,q.fr,bj hp q.ov q.nw⟩).le h1 k2
    have g2:=(eO C b ⟨f,q1.fr,bj hp q1.ov q1.nw⟩).le h2 k1
    rw[Nat.add_comm]at g2
    simp only[cx,g1,g2]
 |cond o a b JV HA=>
  intro q q' h
  simp only[iK]at h
  split at h
  ·rename_i he
   obtain⟨w,k,hk⟩:=JV q q' h
   exact⟨w,k+1,by simp only[cx,he]; exact hk⟩
  ·rename_i he
   obtain⟨w,k,hk⟩:=HA q q' h
   exact⟨w,k+1,by simp only[cx,he]; exact hk⟩
  ·simp[RM.aj]at h
 |region id ops draw=>
  intro q q' h
  cases draw with
  |true=>simp[iK,RM.aj]at h
  |false=>
   simp only[iK,RM.run_bind]at h
   cases hq:(jY C.P hp.length ops ops.toList q).run hp with
   |none=>rw[hq]at h; simp at h
   |some q1=>
    rw[hq]at h
    simp only[Option.bind_some,RM.run_pure,Option.some.injEq]at h
    subst h
    obtain⟨w1,h1⟩:=pZ ha hn (f:=f) _ _ _ hq
    exact⟨w1,2,by simp only[cx,hh,iR]; exact h1 0⟩
 |_=>intro q q' h; simp[iK,RM.aj]at h
def JX(nm:Nat)(ov:Option (Nat×ba)):Prop:=∀ n o,ov=some (n,o)→o.below nm=true
theorem Ra[ah]{g:FuncId}{args:List AV}{hp:ak}{e:eg}{P:Program}(hP:C.P=P)(ha:∀ f d,C.acc f d=false)(hn:∀ f d,C.tB f d=[])(hho:∀ f d,C.ja f d=[])(h:(BV P hp.length g args).run hp=some e):
  e.wr=[]∧below hp.length e.val=true∧∃ ov nw,Ef hp ov∧JX hp.length ov∧∃ k,pn C k g args hp=some (.val e.val,bj hp ov nw):=by
 subst hP
 unfold BV at h
 split at h
 ·simp[RM.aj]at h
 rename_i fn hf
 split at h
 ·simp[RM.aj]at h
 rename_i c hc
 split at h
 ·simp[RM.aj]at h
 rename_i hD
 rw[RM.run_bind]at h
 cases hq:(iK C.P hp.length c ⟨args++List.replicate (fn.ntmps-args.length) .undef,none,[]⟩).run hp with
 |none=>rw[hq]at h; simp at h
 |some q=>
  rw[hq]at h
  simp only[Option.bind_some,RM.run_bind,(pY _).1]at h
  cases hl:(bk C.P q.1.fr fn.results.toList).run (bj hp q.1.ov q.1.nw) with
  |none=>rw[hl]at h; simp at h
  |some l=>
   rw[hl]at h
   simp only[Option.bind_some]at h
   split at h
   case h_2=>simp[RM.aj]at h
   rename_i hb
   simp only[RM.run_pure,Option.some.injEq]at h
   subst h
   simp only[Bool.and_eq_true]at hb
   obtain⟨hwk,k,hk⟩:=NI ha hn hho (f:=g) c ⟨_,none,[]⟩ q hq
   refine⟨rfl,hb.1,q.1.ov,q.1.nw,hwk (fun _ _ h=>h),?_,k+1,?_⟩
   ·intro n o ho
    have:=hb.2
    rw[ho]at this
    exact this
   have e:bj hp none []=hp:=by simp[bj,sg]
   simp only[e]at hk
   simp only[pn,hf,hc,hD,hk]
   cases q.2<;>simp only[hl]
mutual
theorem xv{E:Env}{n:Nat}(hn:E.L=n){o:Bool}:∀ {x:AV} {v:Value},ar E o x v→below n x=true
 |.lit _,v,_=>rfl
 |.agg l,v,h=>by
  simp only[ar]at h
  obtain⟨c,_,hc⟩:=h
  simp only[below]
  exact lv hn hc.Jq
 |.kJ l,v,h=>by
  simp only[ar]at h
  obtain⟨c,_,hc⟩:=h
  simp only[below]
  exact lv hn hc
 |.jU t x,v,h=>by
  simp only[ar]at h
  obtain⟨y,_,hy⟩:=h
  simp only[below]
  exact xv hn hy
 |.jT fn f c,v,h=>by
  simp only[ar]at h
  obtain⟨_,_,_,h1,h2⟩:=h
  simp only[below,Bool.and_eq_true]
  exact⟨lv hn h1,lv hn h2⟩
 |.sl _,v,_=>rfl
 |.mB _ _,v,_=>rfl
 |.nz,v,_=>rfl
 |.bq _ _,v,_=>rfl
 |.ref m _ _ _,v,h=>by
  simp_all[ar,below]
 |.bw _ m _ _ _ _,v,h=>by
  simp_all[ar,below]
 |.jC m _ _ _ _ _,v,h=>by
  simp_all[ar,below]
 |.mp _ m,v,h=>by
  simp_all[ar,below]
 |.any,v,_=>rfl
theorem lv{E:Env}{n:Nat}(hn:E.L=n){o:Bool}:∀ {l:List AV} {c:List Value},aw E o l c→dt n l=true
 |[],_,_=>rfl
 |x::xs,v::vs,h=>by
  simp only[aw]at h
  simp only[dt,Bool.and_eq_true]
  exact⟨xv hn h.1,lv hn h.2⟩
 |_::_,[],h=>by simp[aw]at h
end
theorem CY{n:Nat}:∀ {l:List AV},(∀ (i:Nat) (x:AV),l[i]?=some x→below n x=true)→dt n l=true
 |[],_=>rfl
 |x::xs,h=>by
  simp only[dt,Bool.and_eq_true]
  exact⟨h 0 x rfl,CY fun i y hy=>h (i+1) y hy⟩
theorem Lc[ah]{E:Env}{hp:ak}{w:World}(hI:Inv E hp w){n:Nat}{o:ba}(ho:hp[n]?=some (some o)):o.below hp.length=true:=by
 have hl:=hI.len.symm
 cases o with
 |arr g c f es=>
  simp only[ba.below,Bool.or_eq_true]
  refine .inr (CY fun i x hx=>?_)
  obtain⟨l,_,_,h3⟩:=hI.objs _ _ ho
  cases hb:l.mh with
  |none=>
   simp_all
  |some b=>
   rw[hb]at h3
   obtain⟨_,_,_,_,_,_,_,_,a7⟩:=h3
   obtain⟨v,hv,_⟩:=a7 _ _ hx
   exact xv hl hv
 |iI k vs=>
  simp only[ba.below]
  obtain⟨_,_,_,us,_,_,_,_,_,_,_,h8⟩:=hI.objs _ _ ho
  exact lv hl h8
theorem K9[ah]{E:Env}{hp:ak}{w w':World}(hI:Inv E hp w){ov:Option (Nat×ba)}{nw:List ba}(hw:Ef hp ov)(hb:JX hp.length ov){r:AV}(hr:below hp.length r=true){en:Ending}
  (h:bD E w (bj hp ov nw) (.val r) en w'):bD E w hp (.val r) en w':=by
 obtain⟨E',hx,mM,hf,dR⟩:=h
 have SF:(bj hp ov nw).take hp.length=sg hp ov:=by
  unfold bj
  rw[←nD (ov:=ov),List.take_left]
 have bK:((bj hp ov nw).take hp.length).all (mj hp.length)=true:=by
  rw[SF,List.all_eq_true]
  intro o ho
  obtain⟨i,hi⟩:=List.mem_iff_getElem?.1 ho
  rw[F0]at hi
  cases h:hp[i]? with
  |none=>rw[h]at hi; simp at hi
  |some o1=>
   rw[h]at hi
   cases o1 with
   |none=>
    simp only[Option.map_some,Option.map_none,Option.some.injEq]at hi
    subst hi
    rfl
   |some o1=>
    simp only[Option.map_some,Option.some.injEq]at hi
    subst hi
    simp only[mj]
    have h1:=Lc hI h
    cases ov with
    |none=>exact h1
    |some q=>
     obtain⟨m,o'⟩:=q
     simp only
     split
     ·exact hb _ _ rfl
     ·exact h1
 obtain⟨h1,h2,h3⟩:=v5 mM (by rw[qw]; omega) bK
 rw[SF]at h1
 refine⟨E'.lower hp.length,⟨hx.m,fun n hn ax l h=>hx.ρ n hn ax l h,by simp[Env.lower,hI.len]⟩,hw _ _ h1,hf.trans h2,?_⟩
 cases en with
 |returned v=>exact ar.down h3 hr dR
 |panicked _=>exact dR.elim
 |outgrown=>exact dR.elim
end
end Go.PI
end
section
/- PI, part Z: the theorem: what the evaluator answers is what the machine does. -/
namespace Go.PI
theorem K6[ah]{C:Ctx}{k:Nat}:Looks (fun nm o fr=>kK C k nm o fr):=by
 intro nm o fr D4 h
 cases k with
 |zero=>rfl
 |succ k=>
  have Ht:=FH (P:=C.P) (nm:=nm) h
  obtain⟨dst,op,type,pos,after,guard⟩:=o
  cases op with
  |call c=>
   obtain⟨callee,args,argTypes⟩:=c
   cases callee with
   |builtin b=>simp only[kK]; exact Ht
   |invoke r m=>rfl
   |value f=>
    have h1:aP fr f=aP D4 f:=h f (by simp[Op.operands,Call.operands])
    have h2:args.toList.map (aP fr)=args.toList.map (aP D4):=List.map_congr_left fun x hx=>h x (by simp[Op.operands,Call.operands]; exact .inr (by simpa using hx))
    simp only[kK,h1,h2]
  |_=>simp only[kK]; exact Ht
theorem FO[ah]{C:Ctx}(cj:C.Ok)(Z4:∀ g,C.kind g=.imp→Nt C.P){k:Nat}(hF:oZ C k)(hP:xn C k):uq C.P (fun nm o fr=>kK C (k+1) nm o fr):=by
 intro rd x B E s a w e K Q hs qm h hK
 have ck:=fun y=>kf hs.inv.kL hs.fr y
 have gC:aC x.o.op=false→x.at s.hp.length=s.hp.length:=fun h=>by simp only[Item.at,h]
 have Xj:aC x.o.op=true→s.hp[x.at s.hp.length]?=some none:=fun h=>by simp only[Item.at,h]; exact qm h
 clear qm
 have qm:=Xj
 clear Xj
 obtain⟨idx,nm,o⟩:=x
 generalize Item.at ⟨idx,nm,o⟩ s.hp.length=nm at h qm gC
 simp only at h qm gC hK ⊢
 have Z3:(aV C.P nm (aP s.fr) o).run s.hp=some e→o.wpIn (WF rd) 0 C.P a w K Q:=by
  intro h
  cases ui:aC o.op with
  |true=>exact zt hs (vN hs.inv (.inr (qm ui)) ck h) hK
  |false=>
   rw[Nk (nm':=s.hp.length) ui]at h
   exact zt hs (vN hs.inv (.inl rfl) ck h) hK
 obtain⟨dst,op,type,pos,after,guard⟩:=o
 cases op with
 |call c=>
  obtain⟨callee,args,argTypes⟩:=c
  cases callee with
  |builtin b=>simp only[kK]at h; exact Z3 h
  |invoke r m=>simp[kK,RM.aj]at h
  |value f=>
   simp only[kK]at h
   split at h
   ·simp[RM.aj]at h
   rename_i g yq dR
   have ot:=nt ck args.toList
   split at h
   ·rename_i ui
    obtain⟨vs',rb,bz⟩:=gU (w:=w) (ck f) ot dR (CS cj h)
    refine ta (c:=⟨.value f,args,argTypes⟩) rfl rfl bz (CT cj hF hs.inv (.inr (qm ui)) rb h) (fun v w' hp=>?_) (fun ch w' hp=>?_) (fun w' hp=>?_)
    ·obtain⟨v',lK,E',hx,mM,hf,hr⟩:=hp
     cases lK
     exact hK E' w' v hx hf mM hr
    ·obtain⟨v',lK,_⟩:=hp
     cases lK
    ·obtain⟨v',lK,_⟩:=hp
     cases lK
   split at h
   case h_2=>
    rename_i hk
    have fin : (∃ fn : Func, C.P.funcs[g]? = some fn ∧ fn.body.isSome = true ∧ (fn.name == "runtime.NumGoroutine") = false) ∧
      ∀ (vs:List Value),aw E true yq vs→Calls C.P g vs.toArray w (bD E w (av s.hp e.wr) (.val e.val)):=by
     split at h
     ·rename_i hh he
      obtain⟨⟨fn,h1,h2⟩,h3⟩:=cj.rB g hh yq s.hp e he h
      exact⟨⟨fn,h1,h2,cj.name g fn h1 h2⟩,fun vs hv=>h3 E w vs hs.inv hv⟩
     ·refine⟨Q4 cj h,fun vs hv=>?_⟩
      rw[gC (by assumption)]at h
      obtain⟨e0,pU⟩:=Z4 g hk g yq s.hp _ h E w vs hs.inv hv
      rw[e0]
      exact pU
    obtain⟨vs',rb,bz⟩:=gU (w:=w) (ck f) ot dR fin.1
    refine ta (c:=⟨.value f,args,argTypes⟩) rfl rfl bz (fin.2 vs' rb) (fun v w' hp=>?_) (fun ch w' hp=>?_) (fun w' hp=>?_)
    ·obtain⟨E',hx,mM,hf,hr⟩:=hp
     exact hK E' w' v hx hf mM hr
    ·obtain⟨E',hx,mM,hf,hr⟩:=hp
     exact hr.elim
    ·obtain⟨E',hx,mM,hf,hr⟩:=hp
     exact hr.elim
   rw[RM.run_bind]at h
   cases hq:(po C k g yq).run s.hp with
   |none=>rw[hq]at h; simp at h
   |some q=>
    obtain⟨res,wr⟩:=q
    rw[hq]at h
    simp only[Option.bind_some]at h
    cases res with
    |od v=>simp[RM.aj]at h
    |val r=>
     simp only[RM.run_pure,Option.some.injEq]at h
     subst h
     obtain⟨vs',rb,bz⟩:=gU (w:=w) (ck f) ot dR (Nn cj hq)
     have pU:=hP g yq s.hp _ wr hq E w vs' hs.inv rb
     refine ta (c:=⟨.value f,args,argTypes⟩) rfl rfl bz pU (fun v w' hp=>?_) (fun ch w' hp=>?_) (fun w' hp=>?_)
     ·obtain⟨E',hx,mM,hf,hr⟩:=hp
      exact hK E' w' v hx hf mM hr
     ·obtain⟨E',hx,mM,hf,hr⟩:=hp
      exact hr.elim
     ·obtain⟨E',hx,mM,hf,hr⟩:=hp
      exact hr.elim
 |_=>simp only[kK]at h; exact Z3 h
theorem pW{I:Machine→Prop}{P:Program}{m m1 m2:Machine}(h:StepsIn I P m m2)(dP:m≠m2)(hs:step P m=.next m1):StepsIn I P m1 m2:=by
 cases h with
 |refl=>exact absurd rfl dP
 |head _ gn hr=>
  rw[hs]at gn
  cases gn
  exact hr
theorem o5{id:Nat}:∀ {k k':List Go.Item},exitTo id k=some k'→k'.length<k.length
 |[],k',h=>by simp[exitTo]at h
 |x::r,k',h=>by
  cases x with
  |inBlock Mf=>
   simp only[exitTo]at h
   split at h
   ·simp_all
   ·have:=o5 h; simp; omega
  |_=>simp only[exitTo]at h; have:=o5 h; simp; omega
theorem JU{b b':Frame}{a a':Act}{k k':List Go.Item}{cs:List Frame}{w w':World}(h:k.length≠k'.length):lone (b.atR a k) cs w≠lone (b'.atR a' k') cs w':=by
 intro e
 have h1:=congrArg (fun m:Machine=>(m.gs[0]?).map fun g=>g.frame.todo.length) e
 have h2:some k.length=some k'.length:=h1
 simp only[Option.some.injEq]at h2
 exact h h2
def ux:Go.Item→Bool
 |.code (.loop _)=>true
 |_=>false
theorem FP{b b':Frame}{a a':Act}{k k':List Go.Item}{cs:List Frame}{w w':World}{c:Code}{x:Go.Item}(hx:ux x=false):lone (b.atR a (.code (.loop c)::k)) cs w≠lone (b'.atR a' (x::k')) cs w':=by
 intro e
 have h1:=congrArg (fun m:Machine=>(m.gs[0]?).map fun g=>(g.frame.todo.head?).map ux) e
 have h2:some (some true)=some (some (ux x)):=h1
 rw[hx]at h2
 simp at h2
theorem B6{F:Fence}{n:Nat}{P:Program}{c:Code}{Q:Exit→Act→World→Prop}{a:Act}{w:World}(hg:∀ l a w,¬Q (.goto l) a w)(ho:∀ a w,¬Q .outgrown a w)
  (h:c.wpIn F n P (Exit.then (fun a w=>(Code.loop c).wpIn F n P Q a w) Q) a w):(Code.loop c).wpIn F n P Q a w:=by
 intro b k cs eF hb hr
 have h0:(lone (b.atR a (.code (.loop c)::k)) cs w).fenced P F:=fenced_calm hb hr rfl
 obtain⟨e,a₁,w₁,hq,dp⟩:=h b (.inLoop c::k) cs eF hb hr
 cases e with
 |normal=>
  obtain⟨e₂,a₂,w₂,z8,lJ⟩:=hq b k cs eF hb hr
  have h1:(lone (b.atR a₁ (.inLoop c::k)) cs w₁).fenced P F:=fenced_calm hb hr rfl
  refine⟨e₂,a₂,w₂,z8,ArrivesIn.of_steps (StepsIn.head h0 stepR_loop (StepsIn.trans dp (.one h1 stepR_inLoop))) ?_⟩
  have hs:step P (lone (b.atR a₁ (.code (.loop c)::k)) cs w₁)=.next (lone (b.atR a₁ (.code c::.inLoop c::k)) cs w₁):=stepR_loop
  cases e₂ with
  |normal=>exact pW lJ (JU (k:=.code (.loop c)::k) (k':=k) (by simp)) hs
  |exit id=>
   exact⟨fun k' hk=>pW (lJ.1 k' hk) (JU (k:=.code (.loop c)::k) (k':=k') (by have:=o5 hk; simp; omega)) hs,
    fun pw hk=>by
     obtain⟨k₁,e1,e2⟩:=lJ.2 pw hk
     exact⟨k₁,e1,pW e2 (FP rfl) hs⟩⟩
  |goto l=>exact absurd z8 (hg _ _ _)
  |ret=>
   refine⟨fun hn=>?_,fun hn=>?_⟩
   ·obtain⟨todo,h1⟩:=lJ.1 hn
    refine⟨todo,pW h1 ?_ hs⟩
    intro e
    have h1:=congrArg (fun m:Machine=>(m.gs[0]?).map fun g=>(match g.frame.mode with|.run=>true|_=>false)) e
    have h2:some true=some false:=h1
    simp at h2
   ·obtain⟨k₁,h1⟩:=lJ.2 hn
    exact⟨k₁,pW h1 (FP rfl) hs⟩
  |panic ch=>
   obtain⟨todo,h1⟩:=lJ
   refine⟨todo,pW h1 ?_ hs⟩
   intro e
   have h1:=congrArg (fun m:Machine=>(m.gs[0]?).map fun g=>(match g.frame.mode with|.run=>true|_=>false)) e
   have h2:some true=some false:=h1
   simp at h2
  |outgrown=>exact absurd z8 (ho _ _)
 |exit id=>exact⟨_,a₁,w₁,hq,.of_steps (.one h0 stepR_loop) (.pass (x:=.inLoop c) rfl (fun _ _=>.inl (by simp)) dp)⟩
 |goto l=>exact⟨_,a₁,w₁,hq,.of_steps (.one h0 stepR_loop) (.pass (x:=.inLoop c) rfl (fun _ _=>.inl (by simp)) dp)⟩
 |ret=>exact⟨_,a₁,w₁,hq,.of_steps (.one h0 stepR_loop) (.pass (x:=.inLoop c) rfl (fun _ _=>.inl (by simp)) dp)⟩
 |panic ch=>exact⟨_,a₁,w₁,hq,.of_steps (.one h0 stepR_loop) (.pass (x:=.inLoop c) rfl (fun _ _=>.inl (by simp)) dp)⟩
 |outgrown=>exact⟨_,a₁,w₁,hq,.of_steps (.one h0 stepR_loop) (.pass (x:=.inLoop c) rfl (fun _ _=>.inl (by simp)) dp)⟩
theorem Q5[ah]{B:rf}{E:Env}{w:World}{o:Out}:∀ l a w',¬bG B E w o (.goto l) a w':=by
 rintro l a w' ⟨E',_,_,h⟩
 cases o<;>exact h
theorem TZ[ah]{B:rf}{E:Env}{w:World}{o:Out}:∀ a w',¬bG B E w o .outgrown a w':=by
 rintro a w' ⟨E',_,_,h⟩
 cases o<;>exact h
theorem Nu[ah]{C:Ctx}(cj:C.Ok){k:Nat}(hF:oZ C k){B:rf}(Xk:B.rg=true){E:Env}{s:St}{a:Act}{w:World}(hs:du B E s a w){f:Operand}{ps:Array Tmp}{as bd:Code}{o:Out}
  (h:cx C (k+1) (.rangeFunc f ps as bd) s=some o):(Code.rangeFunc f ps as bd).wpIn (WF none) 0 C.P (bG B E w o) a w:=by
 simp only[cx]at h
 split at h
 case h_2=>simp at h
 rename_i g args dR
 split at h
 case h_2=>simp at h
 rename_i x BT ck
 refine wpIn_rangeFunc fun fn _=>?_
 have Qc:Inv E s.hp (w.alloc (.deferred (some []))):=CM hs.inv (fun b hb=>by simp only[World.alloc,Array.getElem?_push,if_neg (by omega:¬b=w.heap.size)]) (by simp)
 have hF1:Fr E w E (w.alloc (.deferred (some []))):=⟨rfl,rfl,rfl,by simp,fun b hb _=>by simp only[World.alloc,Array.getElem?_push,if_neg (by omega:¬b=w.heap.size)],fun _ h=>.inl h,fun _ _ h=>.inl h⟩
 obtain⟨oY,xl,Z5⟩:=JI Qc (n:=s.hp.length) (.inl rfl) (k:=.loop s.fn ps as bd .ready) (ob:=.loop { state:=.ready,pending:=none,fn,tmps:=a.tmps,params:=ps,assign:=as,body:=bd,defers:=w.heap.size }) (us:=a.tmps.toList)
  ⟨rfl,rfl,rfl,⟨rfl,rfl⟩,rfl⟩ (CU (u:=eK as++eK bd) 0 _ _ hs.fr)
 have fW:setObj s.hp s.hp.length (.iI (.loop s.fn ps as bd .ready) (qP (eK as++eK bd) 0 s.fr))=s.hp++[some (.iI (.loop s.fn ps as bd .ready) (zU as bd s.fr))]:=by simp[setObj,zU]
 rw[fW]at xl
 have mE:(w.alloc (.deferred (some []))).heap.size=w.heap.size+1:=by simp
 rw[mE]at oY xl Z5
 generalize hE2:E.push s.hp.length 0 ⟨some (w.heap.size+1),1,0⟩=E2 at oY xl Z5
 have ei:E2.ρ s.hp.length 0=some ⟨some (w.heap.size+1),1,0⟩:=by rw[←hE2]; simp[Env.push]
 have hL:s.hp.length<E2.L:=by rw[←hE2]; simp only[Env.push]; omega
 have Xl:∀ b,E2.own b→E.own b∨b=w.heap.size+1:=by
  intro b hb
  rw[←hE2]at hb
  rcases hb with hb|hb
  ·exact .inl hb
  ·simp_all
 generalize hW:(w.alloc (.deferred (some []))).alloc (.loop { state:=.ready,pending:=none,fn,tmps:=a.tmps,params:=ps,assign:=as,body:=bd,defers:=w.heap.size })=w2 at xl Z5
 have Ik:=(kf hs.inv.kL hs.fr f).mono oY
 have hy:aw E2 true [.mp true s.hp.length] [Value.func (.yield (w.heap.size+1)) #[] #[]]:=by
  simp_all[aw,ar]
 obtain⟨WE,xp,nB⟩:=D8 ck
 obtain⟨vs',rb,bz⟩:=gU (w:=w2) Ik hy dR ⟨WE,xp,nB,cj.name g WE xp nB⟩
 rw[Sem.run_bind]at bz
 cases Xm:(Deferred.ofValue (a.eval f) #[Value.func (.yield (w.heap.size+1)) #[] #[]]).run C.P w2 with
 |halt x' w'=>
  have T2:(Deferred.ofValue (a.eval f) [Value.func (.yield (w.heap.size+1)) #[] #[]].toArray).run C.P w2=.halt x' w':=Xm
  rw[T2]at bz
  simp[Result.andThen]at bz
 |ok d w2'=>
  have T2:(Deferred.ofValue (a.eval f) [Value.func (.yield (w.heap.size+1)) #[] #[]].toArray).run C.P w2=.ok d w2':=Xm
  rw[T2]at bz
  simp only[Result.andThen]at bz
  refine⟨w.heap.size+1,[{ target:=.collected w.heap.size,args:=#[] }],w2,d,w2',g,vs'.toArray,w2,?_,?_,fun _ _=>trivial,bz,fun h=>by simp[WF,Fence.wide]at h,?_⟩
  ·rw[←hW]
   exact run_enterLoop_outer fn a.tmps ps as bd
  ·simpa[resolve,rangeCall,Act.eval] using Xm
  refine(JS (hF g args _ _ _ ck E2 w2 vs' xl rb) none _).mono fun e w3 eN=>?_
  cases e with
  |panicked ch=>obtain⟨_,_,_,_,hr⟩:=eN; exact hr.elim
  |outgrown=>obtain⟨_,_,_,_,hr⟩:=eN; exact hr.elim
  |returned v=>
   obtain⟨E3,WG,hI3,hF3,_⟩:=eN
   have SD:=WG.ρ _ hL 0 _ ei
   have after:∀ (st:nf) (j:Option Code),jZ BT s.hp.length=some st→(∀ s' p',st.is s' p'→s'≠.busy∧p'=j) →
     ∃ w4,(Instr.endLoop (w.heap.size+1)).run C.P w3=.ok j w4∧∃ E4,Ext E E4∧Fr E w E4 w4 ∧
       du B E4 { s with hp:=vv BT s.hp.length } { a with defers:=[{ target:=.collected w.heap.size,args:=#[] }]++a.defers } w4:=by
    intro st j lQ hj
    obtain⟨fn3,ps3,as3,bd3,fr3,Ed⟩:=lR lQ
    obtain⟨r3,u1,_,_,_,u5,_⟩:=tb hI3 Ed SD rfl
    obtain⟨j1,j2⟩:=hj _ _ u5
    subst j2
    obtain⟨c1,c2⟩:=Np hI3 Ed SD rfl u1 (s':=.exhausted) (p':=r3.pending)
    have hFa:Fr E w E3 (w3.putObj (w.heap.size+1) (.loop { r3 with state:=.exhausted })):=((hF1.trans Z5).trans hF3).trans c2
    refine⟨_,run_endLoop u1 j1,E3,oY.trans WG,hFa,⟨hs.fr.mono (oY.trans WG),c1,?_,Nat.le_trans hs.bs hFa.size⟩⟩
    obtain⟨rs,T3,aa5,_,aa6⟩:=hs.df.mono hFa
    have Q6:¬E2.own w.heap.size:=fun ho=>by
     rcases Xl _ ho with h|h
     ·have:=hs.inv.qk _ h; omega
     ·omega
    have Ee:w.heap.size<w2.heap.size:=by rw[←hW]; simp; omega
    have hold:∀ r∈rs,r<w.heap.size:=by
     intro r hr
     obtain⟨rs0,e1,_,_,e3⟩:=hs.df
     rw[e1]at T3
     have hm:∀ (l l':List Nat),l.map (fun r=>({ target:=.collected r,args:=#[] }:Deferred))=l'.map (fun r=>{ target:=.collected r,args:=#[] })→l=l':=by
      intro l
      induction l with
      |nil=>simp_all
      |cons y ys ih=>
       intro l' h
       cases l' with
       |nil=>simp at h
       |cons z zs=>
        grind
     have:=hm _ _ (List.append_cancel_right T3)
     subst this
     exact(Array.getElem?_eq_some_iff.1 (e3 r hr).2.2).1
    refine⟨w.heap.size::rs,by simp only[List.map_cons,List.cons_append,←T3]; rfl,List.nodup_cons.2 ⟨fun hm=>?_,aa5⟩,fun h=>(by rw[Xk]at h; cases h),fun r hr=>?_⟩
    ·have:=hold _ hm; omega
    ·rcases List.mem_cons.1 hr with rfl|hr
     ·refine⟨hs.bs,fun ho=>?_,?_⟩
      ·rcases hF3.own _ ho with h|h
       ·exact Q6 h
       ·omega
      ·rw[World.putObj_heap_other (by omega),hF3.same _ Ee Q6,←hW]
       show ((w.heap.push _).push _)[w.heap.size]?=_
       simp only[Array.getElem?_push,Array.size_push,if_true]
       rw[if_neg (by omega)]
     ·exact aa6 r hr
   unfold zX at h
   split at h
   ·rename_i lQ
    simp only[Option.some.injEq]at h
    subst h
    obtain⟨w4,h1,E4,h2,h3,h4⟩:=after _ none lQ (fun s' p' hp=>⟨by rw[hp.1]; simp,hp.2⟩)
    exact⟨none,w4,h1,E4,h2,h3,h4⟩
   ·rename_i lQ
    simp only[Option.some.injEq]at h
    subst h
    obtain⟨w4,h1,E4,h2,h3,h4⟩:=after _ (some .ret) lQ (fun s' p' hp=>⟨by rw[hp.1]; simp,hp.2⟩)
    exact⟨some .ret,w4,h1,wpIn_ret ⟨E4,h2,h3,h4⟩⟩
   ·rename_i id lQ
    simp only[Option.some.injEq]at h
    subst h
    obtain⟨w4,h1,E4,h2,h3,h4⟩:=after _ (some (.exit id)) lQ (fun s' p' hp=>⟨by rw[hp.1]; simp,hp.2⟩)
    exact⟨some (.exit id),w4,h1,wpIn_exit ⟨E4,h2,h3,rfl,h4⟩⟩
   ·simp at h
section
variable {ops:Array Oper}
theorem Q7[ah]{P:Program}{FQ:Oper→St→Option Out}(ft:nA P FQ)(AG:∀ o s r,FQ o s=some r→(∃ s',r=.norm s')∨∃ v s',r=.od v s')(ox:mD 0 ops.toList=true){md:Region.Mode}
  (yl:rG md ops=true) {m:Nat} (yp:oW (cH ops.toList) ops.size m=true) {Q:Exit→Act→World→Prop} {E0:Env} {w0:World} {B:rf} {r:Option Nat} {out:Out}
  (hQ:∀ s',out=.norm s'→∀ E a w,Ext E0 E→Fr E0 w0 E w→du B E s' a w→Q .normal a w)
  (hP:∀ v s',out=.od v s'→∀ E a w u,Ext E0 E→Fr E0 w0 E w→Inv E s'.hp w→ar E true v u→Marks B E w a.defers→Q (.panic [{ v:=u,recovered:=false }]) a w) :
  ∀ (t i:Nat) (listed:Array Bool) (E:Env) (s:St) (a:Act) (w:World),i+t=ops.size→m≤i→listed.size=ops.size→(∀ j,j<i→listed.getD j true=true)→(∀ j,i≤j→j<ops.size→listed.getD j true=false) →
    Ext E0 E→Fr E0 w0 E w→du B E s a w→dc FQ ops (ops.toList.drop i) s=some out→wpAnyIn (WF r) 0 P md ops Q t listed a w:=by
 intro t
 induction t with
 |zero=>
  intro i listed E s a w hit hm eu Nv Q8 hx gk hs bz
  rw[List.drop_of_length_le (by simp; omega)]at bz
  simp only[dc,Option.some.injEq]at bz
  refine⟨?_,hQ s bz.symm E a w hx gk hs⟩
  unfold Region.ready
  rw[List.filter_eq_nil_iff]
  intro j hj hc
  simp only[List.mem_range]at hj
  rw[Nv j (by omega)]at hc
  simp at hc
 |succ t ih=>
  intro i listed E s a w hit hm eu Nv Q8 hx gk hs bz
  have Nw:i<ops.size:=by omega
  refine⟨fun AE=>absurd AE (FF yl eu Nw (Q8 i (Nat.le_refl _) Nw)),fun j hj=>?_⟩
  have CL:∀ k o,ops[k]?=some o→listed.getD k true=true→∀ p,ub (cH ops.toList) k p=true→listed.getD p false=true:=by
   intro k o hk hl p hp
   have hkl:k<ops.size:=(Array.getElem?_eq_some_iff.1 hk).1
   have WA:k<i:=by
    grind
   have Z4:=Q0 ox hk hp
   have:=Nv p (by omega)
   rw[←vZ (a:=listed) (by omega) true false]
   exact this
  obtain⟨Wy,Wz,hj3⟩:=ym ox eu CL hj
  have hji:j=i:=by
   rcases Nat.lt_trichotomy j i with h|h|h
   ·rw[Nv j h]at Wz; cases Wz
   ·exact h
   ·have:=hj3 i (yn yp (by omega) Wy h)
    have h2:=Q8 i (Nat.le_refl _) Nw
    rw[vZ (by omega) true false]at h2
    rw[this]at h2; cases h2
  subst hji
  obtain⟨o,ho⟩:∃ o,ops[j]?=some o:=⟨ops[j],by simp[Nw]⟩
  have Xn:ops.toList.drop j=o::ops.toList.drop (j+1):=by
   have hl:j<ops.toList.length:=by simpa using Nw
   rw[List.drop_eq_getElem_cons hl]
   congr 1
   have:=(Array.getElem?_eq_some_iff.1 ho).2
   simpa using this
  rw[Xn]at bz
  have fW:∀ q d,q≠j→(listed.setIfInBounds j true).getD q d=listed.getD q d:=by
   intro q d hq
   simp[Array.getD_eq_getD_getElem?,Ne.symm hq]
  have FG:∀ d,(listed.setIfInBounds j true).getD j d=true:=by
   simp_all
  have next:∀ (E':Env) (s':St) (a':Act) (w':World),Ext E0 E'→Fr E0 w0 E' w'→du B E' s' a' w'→dc FQ ops (ops.toList.drop (j+1)) s'=some out →
    wpAnyIn (WF r) 0 P md ops Q t (listed.setIfInBounds j true) a' w':=by
   intro E' s' a' w' im Nj gn pw
   refine ih (j+1) _ E' s' a' w' (by omega) (by omega) (by simpa using eu) (fun q hq=>?_) (fun q hq hql=>?_) im Nj gn pw
   ·by_cases e:q=j
    ·subst e; exact FG _
    ·rw[fW _ _ e]; exact Nv q (by omega)
   ·rw[fW _ _ (by omega)]; exact Q8 q (by omega) hql
  unfold wpOpIn
  rw[ho]
  simp only
  simp only[dc]at bz
  split at bz
  ·simp at bz
  ·rename_i hw
   rw[mZ hs.fr hw]
   simp only[Bool.false_eq_true,if_false]
   exact⟨fun _ _=>trivial,next E { s with fr:=bZ s.fr o.dst .undef } _ w hx gk ⟨ke hs.fr (by simp[ar]),hs.inv,by rw[put_defers]; exact hs.df,hs.bs⟩ bz⟩
  ·rename_i hw
   rw[mZ hs.fr hw]
   simp only[if_true]
   cases hq:FQ o s with
   |none=>rw[hq]at bz; simp at bz
   |some q=>
    rw[hq]at bz
    refine ft o s q hq r B E a w _ Q hs (fun s' e E' a' w' im JC gn=>?_) (fun v s' e E' w' u im JC mM hr=>?_)
    ·subst e
     exact next E' s' a' w' (hx.trans im) (gk.trans JC) gn bz
    ·subst e
     simp only[Option.some.injEq]at bz
     exact hP v s' bz.symm E' a w' u (hx.trans im) (gk.trans JC) mM hr (hs.df.mono JC)
end
def AJ[ah](C:Ctx)(k:Nat):Prop:=
 ∀ id ops draw s o,cx C k (.region id ops draw) s=some o→∀ (rd:Option Nat) (B:rf) (E:Env) (a:Act) (w:World),du B E s a w →
   (draw=false→wpOpsIn (WF rd) 0 C.P ops (bG B E w o) (List.range ops.size) a w) ∧
   (draw=true→∀ t,wpOpsIn (WF rd) 0 C.P ops (bG B E w o) (Region.schedule (C.P.follows .mixedOrders) ops t) a { w with drawn:=w.drawn+1 })
theorem yw[ah]{C:Ctx}{k:Nat}(hO:nA C.P (fun o s=>iV C k o s))(hE:uq C.P (fun nm o fr=>kK C k nm o fr)):AJ C (k+1):=by
 intro id ops draw s o h rd B E a w hs
 simp only[cx]at h
 cases draw with
 |false=>
  refine⟨fun _=>?_,fun h=>by cases h⟩
  rw[List.range_eq_range',←Array.length_toList,wpOpsIn_eq_wpListIn ops.toList 0 (by simp)]
  exact sZ hO (fun o s r h=>pX h) rd B ops.toList _ o h E E a w w (Ext.refl E) (Fr.refl E w) (xq _ hs)
 |true=>
  simp only at h
  have Xo:C.head s.fn id ops≤ops.size:=Nat.sub_le _ _
  generalize C.head s.fn id ops=m at h Xo
  have qV:=xq (C.ja s.fn id) hs
  rw[←uw (C.ja s.fn id) s]at h
  clear hs
  generalize iR (C.ja s.fn id) s=s at h qV
  have hs:=qV
  split at h
  case isFalse=>simp at h
  rename_i Q9
  simp only[vq,Bool.and_eq_true]at Q9
  obtain⟨⟨⟨⟨ox,K2⟩,aeI⟩,hgc⟩,T4⟩:=Q9
  split at h
  case h_2=>simp at h
  rename_i s' fs bz
  split at h
  case isFalse=>simp at h
  rename_i hft
  rw[Bool.and_eq_true]at hft
  obtain⟨Xp,yp⟩:=hft
  suffices key:∀ md:Region.Mode,rG md ops=true→∀ t,wpOpsIn (WF rd) 0 C.P ops (bG B E w o) (Region.linearise md ops t) a { w with drawn:=w.drawn+1 } by
   refine⟨fun h=>by (cases h),fun _ t=>?_⟩
   unfold Region.schedule
   split
   ·exact key .any K2 t
   ·grind
  intro md yl t
  refine wpAnyIn_sound _ _ _ _ _ ?_
  let s0:St:={ s with hp:=s.hp++List.replicate ((ops.toList.take m).filter fun o=>aC o.op).length none }
  obtain⟨r1,r2,r3⟩:=Ig hs.inv ((ops.toList.take m).filter fun o=>aC o.op).length
  have Qc:Inv (E.iz ((ops.toList.take m).filter fun o=>aC o.op).length) s0.hp { w with drawn:=w.drawn+1 }:=r2.heap rfl
  have xp:Fr E w (E.iz ((ops.toList.take m).filter fun o=>aC o.op).length) { w with drawn:=w.drawn+1 }:=r3.trans (Fr.drew _ w)
  have Xq:=sa _ _ _ _ bz
  have xr:∀ (k:Nat) (x:Item),(bW 0 s.hp.length (ops.toList.take m))[k]?=some x→x.idx=k∧ops[k]?=some x.o∧k<m:=by
   intro k x hk
   obtain⟨a1,a2,_,_⟩:=mO _ _ _ _ _ hk
   have hkm:k<m:=by
    grind
   rw[List.getElem?_take_of_lt hkm]at a2
   exact⟨by omega,by simpa using a2,hkm⟩
  have Xr:ops.size=m+(ops.size-m):=by omega
  refine Eq.mpr (congrArg (fun fl=>wpAnyIn (WF rd) 0 C.P md ops (bG B E w o) fl _ _ _) Xr) ?_
  refine Nh (P:=C.P) K6 hE ox yl Xo yp (s':=s') (E0:=E) (w0:=w) (B:=B) (fun E' a' w' listed b1 b2 b3 b4 b5 b6=>
   Q7 hO (fun o s r h=>pX h) ox yl yp (fun u9 e E2 a2 w2 c1 c2 c3=>by subst e; exact⟨E2,c1,c2,c3⟩)
    (fun v u9 e E2 a2 w2 u c1 c2 c3 c4 c5=>by subst e; exact⟨E2,c1,c2,u,rfl,c4,c3,c5⟩) (ops.size-m) m listed E' s' a' w' (by omega) (Nat.le_refl _) b4 b5 b6 b1 b2 b3 h) m (bW 0 s.hp.length (ops.toList.take m))
   _ fs _ s0 a _ (by rw[ny]; simp; omega) ?_
   r1 xp ⟨hs.fr.mono r1,Qc,hs.df.mono xp,hs.bs⟩ ?_ bz ?_
  ·refine⟨by simp,fun x hx=>?_,?_,fun i hi _ him=>?_,fun i _ hi=>?_,fun i o ho hl=>?_,?_⟩
   ·obtain⟨k,hk⟩:=List.mem_iff_getElem?.1 hx
    obtain⟨a1,a2,a3⟩:=xr k x hk
    have cr:k<ops.size:=(Array.getElem?_eq_some_iff.1 a2).1
    rw[a1]
    refine⟨a2,?_,a3⟩
    simp[Array.getD,cr]
   ·rw[List.pairwise_iff_getElem]
    intro i j hi hj Sp
    have a1:=(xr i _ (List.getElem?_eq_getElem hi)).1
    have a2:=(xr j _ (List.getElem?_eq_getElem hj)).1
    omega
   ·have tM:i<(bW 0 s.hp.length (ops.toList.take m)).length:=by rw[ny]; simp; omega
    exact⟨_,List.getElem_mem tM,(xr i _ (List.getElem?_eq_getElem tM)).1⟩
   ·simp[Array.getD,hi]
   ·have cr:i<ops.size:=(Array.getElem?_eq_some_iff.1 ho).1
    simp[Array.getD,cr]at hl
   ·rw[List.pairwise_iff_getElem]
    intro i j hi hj Sp ha
    exact AD _ _ _ i j _ _ Sp (List.getElem?_eq_getElem hi) (List.getElem?_eq_getElem hj) ha
  ·intro x hx ha
   obtain⟨k,hk⟩:=List.mem_iff_getElem?.1 hx
   obtain⟨_,_,a3,a4⟩:=mO _ _ _ _ _ hk
   have a5:=a4 ha
   simp only[s0]
   rw[List.getElem?_append_right a3,List.getElem?_replicate,if_pos (by omega)]
  ·intro j k x y f g QZ hx hy hf hg
   obtain⟨a1,a2,_⟩:=xr j x hx
   obtain⟨b1,b2,_⟩:=xr k y hy
   have hfo:=vY fs Xp j k f g QZ hf hg
   have Qb:f.idx=j:=by
    have:(fs.map (·.idx))[j]?=some f.idx:=by simp[hf]
    rw[Xq]at this
    simp[hx,a1]at this
    exact this.symm
   have hgi:g.idx=k:=by
    have:(fs.map (·.idx))[k]?=some g.idx:=by simp[hg]
    rw[Xq]at this
    simp[hy,b1]at this
    exact this.symm
   rcases vX ops.toList 0 T4 j k x.o y.o QZ (by simpa using a2) (by simpa using b2) with hp|hp
   ·left; rw[a1,b1]; simpa using hp
   ·simp only[uc,Bool.or_eq_true,Bool.and_eq_true]at hfo
    rcases hfo with hq|⟨h1,h2⟩
    ·left; rw[Qb,hgi]at hq; rw[a1,b1]; exact hq
    ·right
     refine⟨hp,fun n hn=>?_,fun n hn=>CQ h2 n hn⟩
     have:=CQ h1 n hn
     simpa using this
theorem FR[ah]{C:Ctx}(cj:C.Ok){k:Nat}(hF:oZ C k)(Im:∀ j,j≤k→gD C j)(hO:nA C.P (fun o s=>iV C k o s))(hE:uq C.P (fun nm o fr=>kK C k nm o fr)):gD C (k+1):=by
 have hC:=Im k (Nat.le_refl k)
 intro c s o h rd B Qj E a w hs
 have self:bG B E w (.norm s) .normal a w:=⟨E,Ext.refl E,Fr.refl E w,hs⟩
 cases c with
 |skip=>simp only[cx,Option.some.injEq]at h; subst h; exact wpIn_skip self
 |label l=>simp only[cx,Option.some.injEq]at h; subst h; exact wpIn_label self
 |ret=>simp only[cx,Option.some.injEq]at h; subst h; exact wpIn_ret ⟨E,Ext.refl E,Fr.refl E w,hs⟩
 |exit id=>simp only[cx,Option.some.injEq]at h; subst h; exact wpIn_exit ⟨E,Ext.refl E,Fr.refl E w,rfl,hs⟩
 |seq x y=>
  simp only[cx]at h
  have r1:(rd=none∧B.rg=true)∨cw x=true:=Qj.imp id fun h=>by simp only[cw,Bool.and_eq_true]at h; exact h.1
  have r2:(rd=none∧B.rg=true)∨cw y=true:=Qj.imp id fun h=>by simp only[cw,Bool.and_eq_true]at h; exact h.2
  refine wpIn_seq ?_
  split at h
  ·rename_i s' hx
   refine wpIn_mono (hC x s _ hx rd B r1 E a w hs) fun e a' w' hp=>?_
   obtain⟨E',h1,h2,h3⟩:=hp
   cases e with
   |normal=>exact wpIn_mono (hC y s' o h rd B r2 E' a' w' h3) fun e Z6 z7 hp=>bG.from h1 h2 hp
   |_=>exact h3.elim
  ·rename_i dP
   refine wpIn_mono (hC x s o h rd B r1 E a w hs) fun e a' w' hp=>?_
   obtain⟨E',h1,h2,h3⟩:=hp
   cases e with
   |normal=>
    cases o with
    |norm s'=>exact absurd h (dP s')
    |_=>exact h3.elim
   |_=>exact⟨E',h1,h2,h3⟩
 |cond op x y=>
  simp only[cx]at h
  have r1:(rd=none∧B.rg=true)∨cw x=true:=Qj.imp id fun h=>by simp only[cw,Bool.and_eq_true]at h; exact h.1
  have r2:(rd=none∧B.rg=true)∨cw y=true:=Qj.imp id fun h=>by simp only[cw,Bool.and_eq_true]at h; exact h.2
  split at h
  case h_2=>simp at h
  rename_i t ht
  have hv:=kf hs.inv.kL hs.fr op
  rw[ht]at hv
  simp only[ar]at hv
  cases t with
  |true=>exact wpIn_cond_true hv (hC x s o h rd B r1 E a w hs)
  |false=>exact wpIn_cond_false hv (hC y s o h rd B r2 E a w hs)
 |block id b=>
  simp only[cx]at h
  have r1:(rd=none∧B.rg=true)∨cw b=true:=Qj.imp (fun h=>h) fun h=>by simpa only[cw] using h
  refine wpIn_block ?_
  split at h
  ·rename_i Mf s' hx
   refine wpIn_mono (hC b s _ hx rd B r1 E a w hs) fun e a' w' hp=>?_
   obtain⟨E',h1,h2,h3⟩:=hp
   cases e with
   |exit j=>
    obtain⟨rfl,h3⟩:=h3
    simp only[Exit.inBlock]
    split at h
    ·rename_i hid
     rw[if_pos hid]
     simp only[Option.some.injEq]at h; subst h
     exact⟨E',h1,h2,h3⟩
    ·rename_i hid
     rw[if_neg hid]
     simp only[Option.some.injEq]at h; subst h
     exact⟨E',h1,h2,rfl,h3⟩
   |_=>exact h3.elim
  ·rename_i dP
   refine wpIn_mono (hC b s o h rd B r1 E a w hs) fun e a' w' hp=>?_
   obtain⟨E',h1,h2,h3⟩:=hp
   cases e with
   |exit j=>
    cases o with
    |exit i s'=>exact absurd h (dP i s')
    |_=>exact h3.elim
   |_=>exact⟨E',h1,h2,h3⟩
 |loop b=>
  simp only[cx]at h
  have r1:(rd=none∧B.rg=true)∨cw b=true:=Qj.imp (fun h=>h) fun h=>by simpa only[cw] using h
  refine B6 Q5 TZ ?_
  split at h
  ·rename_i s' hx
   refine wpIn_mono (hC b s _ hx rd B r1 E a w hs) fun e a' w' hp=>?_
   obtain⟨E',h1,h2,h3⟩:=hp
   cases e with
   |normal=>
    have Sy:du B E' s' a' w':=h3
    have:∃ E2,Ext E E2∧Fr E w E2 w'∧du B E2 (iT s.hp.length s') a' w':=by
     unfold iT
     split
     ·rename_i bK
      have hle:s.hp.length≤s'.hp.length:=by rw[hs.inv.len,Sy.inv.len]; exact h1.L
      obtain⟨a1,a2,a3⟩:=v5 Sy.inv hle bK
      exact⟨E'.lower s.hp.length,⟨h1.m,fun n hn ax l h=>h1.ρ n hn ax l h,by simp[Env.lower,hs.inv.len]⟩,h2.trans a2,uu a3 Sy.fr,a1,Sy.df.mono a2,Sy.bs⟩
     ·exact⟨E',h1,h2,Sy⟩
    obtain⟨E2,b1,b2,b3⟩:=this
    exact wpIn_mono (hC (.loop b) _ o h rd B Qj E2 a' w' b3) fun e Z6 z7 hp=>bG.from b1 b2 hp
   |_=>exact h3.elim
  ·rename_i dP
   refine wpIn_mono (hC b s o h rd B r1 E a w hs) fun e a' w' hp=>?_
   obtain⟨E',h1,h2,h3⟩:=hp
   cases e with
   |normal=>
    cases o with
    |norm s'=>exact absurd h (dP s')
    |_=>exact h3.elim
   |_=>exact⟨E',h1,h2,h3⟩
 |region id ops draw=>
  have hr:=yw hO hE id ops draw s o h rd B E a w hs
  cases draw with
  |false=>exact wpIn_region (hr.1 rfl)
  |true=>exact wpIn_region_draw fun t=>hr.2 rfl t
 |rangeFunc f ps as bd=>
  rcases Qj with ⟨rfl,Xs⟩|Qj
  ·exact Nu cj hF Xs hs h
  ·simp[cw]at Qj
 |scope b=>
  simp only[cx]at h
  split at h
  ·rename_i c hc
   exact Ny Im hs hc h
  ·simp at h
 |goto _=>simp[cx]at h
 |refuse _=>simp[cx]at h
theorem Ip{F:Fence}{n:Nat}{P:Program}{o:Oper}{a:Act}{w:World}{K N:Act→World→Prop}{Q:Exit→Act→World→Prop}(h:o.wpIn F n P a w K (Exit.then N Q)):o.wpIn F n P a w K Q:=by
 unfold Oper.wpIn at *
 refine⟨h.1,?_⟩
 have h2:=h.2
 generalize (o.semAt F.round a.eval).run P w=r at *
 cases r with
 |ok x w'=>cases x<;>exact h2
 |halt x w'=>cases x<;>exact h2
theorem uy{F:Fence}{n:Nat}{P:Program}{ops:Array Oper}{Q:Exit→Act→World→Prop}{l2:List Oper}:∀ (l1:List Oper) (a:Act) (w:World),wpListIn F n P ops (Exit.then (wpListIn F n P ops Q l2) Q) l1 a w→wpListIn F n P ops Q (l1++l2) a w
 |[],a,w,h=>h
 |o::l1,a,w,h=>by
  simp only[List.cons_append]
  unfold wpListIn at h ⊢
  split at h
  ·rename_i hw
   rw[if_pos hw]
   exact Ip (Oper.wpIn_mono (fun a w h=>uy l1 a w h) h)
  ·rename_i hw
   rw[if_neg hw]
   exact⟨h.1,uy l1 _ _ h.2⟩
theorem sb{F:Fence}{n:Nat}{P:Program}{ops:Array Oper}{Q Q':Exit→Act→World→Prop}(hq:∀ e a w,Q e a w→Q' e a w):∀ (l:List Oper) (a:Act) (w:World),wpListIn F n P ops Q l a w→wpListIn F n P ops Q' l a w
 |[],a,w,h=>hq _ _ _ h
 |o::l,a,w,h=>by
  unfold wpListIn at h ⊢
  split at h
  ·rename_i hw
   rw[if_pos hw]
   have h1:=Oper.wpIn_mono (fun a w h=>sb hq l a w h) h
   unfold Oper.wpIn at *
   refine⟨h1.1,?_⟩
   have h2:=h1.2
   generalize (o.semAt F.round a.eval).run P w=r at *
   cases r with
   |ok x w'=>
    cases x<;>simp only[Oper.uponIn]at h2 ⊢<;>first
     |exact h2
     |exact⟨h2.1,CallsIn.mono h2.2 (fun e z7 he=>by cases e<;>first|exact he|exact hq _ _ _ he|exact(let ⟨a0,w0,h0⟩:=he; ⟨a0,w0,hq _ _ _ h0⟩))⟩
     |exact⟨h2.1,RoundIn.mono h2.2 (fun e z7 he=>by cases e<;>first|exact he|exact hq _ _ _ he|exact(let ⟨a0,w0,h0⟩:=he; ⟨a0,w0,hq _ _ _ h0⟩))⟩
   |halt x w'=>cases x<;>simp only[Oper.uponIn]at h2 ⊢<;>first|exact h2|exact hq _ _ _ h2
  ·rename_i hw
   rw[if_neg hw]
   exact⟨h.1,sb hq l _ _ h.2⟩
theorem Iq{c:Code}{ops:Array Oper}{v:Operand}(h:vt c=some (ops,v)):∃ (id:Nat) (o:Oper) (ru:Array TypeId),c=.region id ops false∧ops.toList=ops.toList.dropLast++[o]∧o.op=.defer { callee:=.value v,args:=#[],argTypes:=ru }∧o.guard=none∧o.dst=none:=by
 unfold vt at h
 split at h
 ·rename_i id aa8
  split at h
  ·rename_i o ho
   split at h
   ·rename_i cc Ht hg T5
    split at h
    ·rename_i x Qi oY
     simp only[Option.some.injEq,Prod.mk.injEq]at h
     obtain⟨rfl,rfl⟩:=h
     obtain⟨c1,c2,c3⟩:=cc
     simp only at Qi oY
     subst Qi
     obtain rfl:=Array.toList_eq_nil_iff.1 oY
     refine⟨id,o,c3,rfl,?_,Ht,hg,T5⟩
     have dP:aa8.toList≠[]:=by intro e; rw[e]at ho; simp at ho
     rw[List.getLast?_eq_some_getLast dP,Option.some.injEq]at ho
     rw[←ho]
     exact(List.dropLast_concat_getLast dP).symm
    ·simp at h
   ·simp at h
  ·simp at h
 ·simp at h
def Xt[ah](C:Ctx)(E:Env)(v:AV)(d:Deferred):Prop:=∃ f:Value,ar E true v f∧∀ w,(Deferred.ofValue f #[]).run C.P w=.ok d w
def v7[ah](C:Ctx)(B:rf)(E:Env)(w:World)(o:Out):Option AV→Exit→Act→World→Prop
 |none,e,a',w'=>bG B E w o e a' w'
 |some v,e,a',w'=>∃ E1 E2 w1 d,Ext E E1∧Fr E w E1 w1∧Xt C E1 v d∧Ext E1 E2∧Fr E1 w1 E2 w'∧Nl { B with tl:=d::B.tl } E2 o e a' w'
theorem sf{E:Env}{fv:AV}{f:Value}{g:FuncId}{as:List AV}(hf:ar E true fv f)(h:bV fv []=some (g,as)):∃ first cap,f=.func (.func g) first cap:=by
 cases fv with
 |lit u=>
  simp only[ar]at hf
  subst hf
  unfold bV at h
  split at h
  ·rename_i hq
   simp only[AV.lit.injEq]at hq
   simp only[Option.some.injEq,Prod.mk.injEq]at h
   obtain⟨rfl,_⟩:=h
   exact⟨_,_,hq⟩
  ·rename_i hq; cases hq
  ·simp at h
 |jT fn first cap=>
  unfold bV at h
  split at h
  ·rename_i hq; cases hq
  ·rename_i hq
   simp only[AV.jT.injEq]at hq
   obtain⟨rfl,rfl,rfl⟩:=hq
   simp only[Option.some.injEq,Prod.mk.injEq]at h
   obtain⟨rfl,_⟩:=h
   simp only[ar]at hf
   obtain⟨vs,ws,rfl,_⟩:=hf
   exact⟨_,_,rfl⟩
  ·simp at h
 |_=>simp[bV]at h
theorem v7.from[ah]{C:Ctx}{B:rf}{E E1:Env}{w w1:World}{o:Out}{d:Option AV}{e:Exit}{a:Act}{w':World}(hx:Ext E E1)(hf:Fr E w E1 w1)(h:v7 C B E1 w1 o d e a w'):v7 C B E w o d e a w':=by
 cases d with
 |none=>exact bG.from hx hf h
 |some v=>
  obtain⟨E2,E3,w2,d,h1,h2,h3⟩:=h
  exact⟨E2,E3,w2,d,hx.trans h1,hf.trans h2,h3⟩
theorem Ir[ah]{C:Ctx}{k:Nat}(hC:gD C k)(hO:nA C.P (fun o s=>iV C k o s)):∀ (c:Code) (s:St) (o:Out) (d:Option AV),cw c=true→Ck (fun c s=>cx C k c s) (fun o s=>iV C k o s) c s=some (o,d) →
  ∀ (B:rf) (E:Env) (a:Act) (w:World),B.rg=false→du B E s a w→c.wpIn (WF none) 0 C.P (v7 C B E w o d) a w:=by
 have leaf:∀ c s o d,cw c=true→((cx C k c s).map fun o=>(o,(none:Option AV)))=some (o,d)→∀ (B:rf) (E:Env) (a:Act) (w:World),B.rg=false→du B E s a w→c.wpIn (WF none) 0 C.P (v7 C B E w o d) a w:=by
  intro c s o d hn h B E a w Xk hs
  cases hq:cx C k c s with
  |none=>rw[hq]at h; simp at h
  |some o1=>
   rw[hq]at h
   simp only[Option.map_some,Option.some.injEq,Prod.mk.injEq]at h
   obtain⟨rfl,rfl⟩:=h
   exact hC c s o1 hq none B (.inr hn) E a w hs
 intro c
 induction c with
 |seq x y _ MD=>
  intro s o d hn h B E a w Xk hs
  simp only[cw,Bool.and_eq_true]at hn
  simp only[Ck]at h
  refine wpIn_seq ?_
  cases hd:vt x with
  |some q=>
   obtain⟨ops,v⟩:=q
   rw[hd]at h
   simp only at h
   obtain⟨id,o0,ru,rfl,aa9,Ht,hg,T5⟩:=Iq hd
   split at h
   case h_2=>simp at h
   rename_i s1 hr
   split at h
   case h_2=>simp at h
   rename_i q dR
   obtain⟨g,as⟩:=q
   cases hq:cx C k y s1 with
   |none=>rw[hq]at h; simp at h
   |some o1=>
    rw[hq]at h
    simp only[Option.map_some,Option.some.injEq,Prod.mk.injEq]at h
    obtain⟨rfl,rfl⟩:=h
    refine wpIn_region_list ?_
    rw[aa9]
    refine uy _ _ _ (sb ?_ _ _ _ (sZ hO (fun o s r h=>pX h) none B _ _ _ hr E E a w w (Ext.refl E) (Fr.refl E w) hs))
    intro e a1 w1 hp
    obtain⟨E1,Qi,xp,K5⟩:=hp
    cases e with
    |normal=>
     have qV:du B E1 s1 a1 w1:=K5
     have hv:=kf qV.inv.kL qV.fr v
     obtain⟨first,cap,Ik⟩:=sf hv dR
     have bz:∀ w,(Deferred.ofValue (a1.eval v) #[]).run C.P w=.ok { target:=.fn (.func g) cap,args:=first++#[] } w:=by
      intro w; rw[Ik]; rfl
     show wpListIn (WF none) 0 C.P ops _ [o0] a1 w1
     unfold wpListIn
     rw[if_pos (by unfold Region.wanted; rw[hg])]
     refine⟨fun _ _=>trivial,?_⟩
     have TY:(o0.semAt (WF none).round a1.eval).run C.P w1=.ok (.defer { target:=.fn (.func g) cap,args:=first++#[] }) w1:=by
      show (execOp a1.eval o0).run C.P w1=_
      unfold execOp
      rw[Ht]
      simp only[resolve,Sem.run_bind]
      rw[show (Array.map a1.eval #[]:Array Value)=#[] by simp,bz]
      rfl
     rw[TY,Oper.uponIn_defer,T5]
     have DU:du { B with tl:={ target:=.fn (.func g) cap,args:=first++#[] }::B.tl } E1 s1 { a1 with defers:={ target:=.fn (.func g) cap,args:=first++#[] }::a1.defers } w1:=by
      refine⟨qV.fr,qV.inv,?_,qV.bs⟩
      obtain⟨rs,e1,e2,e3,e4⟩:=qV.df
      have:=e3 Xk
      subst this
      exact⟨[],by simp only[List.map_nil,List.nil_append]at e1 ⊢; rw[e1],List.nodup_nil,fun _=>rfl,by simp⟩
     refine wpIn_mono (hC y s1 o1 hq none _ (.inr hn.2) E1 _ w1 DU) fun e a2 w2 hp=>?_
     obtain⟨E2,oY,nB,xm⟩:=hp
     exact⟨E1,E2,w1,_,Qi,xp,⟨_,hv,bz⟩,oY,nB,xm⟩
    |_=>exact K5.elim
  |none=>
   rw[hd]at h
   simp only at h
   split at h
   ·rename_i s' hx
    refine wpIn_mono (hC x s _ hx none B (.inr hn.1) E a w hs) fun e a' w' hp=>?_
    obtain⟨E',h1,h2,h3⟩:=hp
    cases e with
    |normal=>exact wpIn_mono (MD s' o d hn.2 h B E' a' w' Xk h3) fun e Z6 z7 hp=>v7.from h1 h2 hp
    |_=>exact h3.elim
   ·rename_i o1 dP hx
    simp only[Option.some.injEq,Prod.mk.injEq]at h
    obtain⟨rfl,rfl⟩:=h
    refine wpIn_mono (hC x s o1 hx none B (.inr hn.1) E a w hs) fun e a' w' hp=>?_
    obtain⟨E',h1,h2,h3⟩:=hp
    cases e with
    |normal=>
     cases o1 with
     |norm s'=>exact(dP s' rfl).elim
     |_=>exact h3.elim
    |_=>exact⟨E',h1,h2,h3⟩
   ·simp at h
 |_=>intro s o d hn h; simp only[Ck]at h; exact leaf _ s o d hn h
theorem nC{F:Fence}{n:Nat}{P:Program}{ops:Array Oper}{Q Q':Exit→Act→World→Prop}(hq:∀ e a w,Q e a w→Q' e a w):∀ (l:List Nat) (a:Act) (w:World),wpOpsIn F n P ops Q l a w→wpOpsIn F n P ops Q' l a w
 |[],a,w,h=>hq _ _ _ h
 |i::l,a,w,h=>by
  unfold wpOpsIn at h ⊢
  split at h
  ·exact nC hq l a w h
  rename_i o ho
  split at h
  ·rename_i hw
   simp only[if_pos hw]
   have h1:=Oper.wpIn_mono (fun a w h=>nC hq l a w h) h
   unfold Oper.wpIn at *
   refine⟨h1.1,?_⟩
   have h2:=h1.2
   generalize (o.semAt F.round a.eval).run P w=r at *
   cases r with
   |ok x w'=>
    cases x<;>simp only[Oper.uponIn]at h2 ⊢<;>first
     |exact h2
     |exact⟨h2.1,CallsIn.mono h2.2 (fun e z7 he=>by cases e<;>first|exact he|exact hq _ _ _ he|exact(let ⟨a0,w0,h0⟩:=he; ⟨a0,w0,hq _ _ _ h0⟩))⟩
     |exact⟨h2.1,RoundIn.mono h2.2 (fun e z7 he=>by cases e<;>first|exact he|exact hq _ _ _ he|exact(let ⟨a0,w0,h0⟩:=he; ⟨a0,w0,hq _ _ _ h0⟩))⟩
   |halt x w'=>cases x<;>simp only[Oper.uponIn]at h2 ⊢<;>first|exact h2|exact hq _ _ _ h2
  ·rename_i hw
   simp only[if_neg hw]
   exact⟨h.1,nC hq l _ _ h.2⟩
theorem FT(ops:Array Oper)(i:Nat)(f:Array Edge→Bool):(((ops.map eL)[i]?).map fun o=>f o.after)=(ops[i]?).map fun o=>f o.after:=by
 rw[Array.getElem?_map]
 cases ops[i]? with
 |none=>rfl
 |some o=>simp only[Option.map_some,(nj o).2.2]
theorem qW(md:Region.Mode)(ops:Array Oper)(t:Nat):Region.linearise md (ops.map eL) t=Region.linearise md ops t:=by
 unfold Region.linearise
 rw[Array.size_map]
 generalize Array.replicate ops.size false=listed
 generalize ([]:List Nat)=acc
 generalize ops.size=fuel
 induction fuel generalizing t listed acc with
 |zero=>rfl
 |succ fuel ih=>
  have hr:((List.range (ops.map eL).size).filter fun i=>!listed.getD i true&&(((ops.map eL)[i]?).map (·.after.all fun e=>!Region.binds md e||listed.getD e.on false)).getD false) =
    ((List.range ops.size).filter fun i=>!listed.getD i true&&((ops[i]?).map (·.after.all fun e=>!Region.binds md e||listed.getD e.on false)).getD false):=by
   rw[Array.size_map]
   congr 1
   funext i
   rw[FT ops i (fun a=>a.all fun e=>!Region.binds md e||listed.getD e.on false)]
  simp only[Region.linearise.go]
  rw[hr]
  split
  ·exact ih _ _ _
  ·rfl
theorem AK(m:Bool)(ops:Array Oper)(t:Nat):Region.schedule m (ops.map eL) t=Region.schedule m ops t:=by
 unfold Region.schedule
 have hd:Region.departs (ops.map eL)=Region.departs ops:=by
  unfold Region.departs
  rw[Array.any_map]
  congr 1
  funext o
  simp only[Function.comp,(nj o).2.2]
 rw[hd,qW,qW]
theorem K7[ah]{C:Ctx}{k:Nat}(hC:∀ j,j≤k→gD C j)(hR:∀ j,j≤k→AJ C j){c:Code}(hn:cw c=true){s:St}{o:Out}(h:cx C k (qj c) s=some o){B:rf}{E:Env}{a:Act}{w:World}(hs:du B E s a w):
  KF (WF none) 0 C.P c (bG B E w o) a w:=by
 by_cases hc:∃ id ops d y,c=.seq (.region id ops d) y
 ·obtain⟨id,ops,d,y,rfl⟩:=hc
  have QW:cw y=true:=by simp only[cw,Bool.and_eq_true]at hn; exact hn.2
  cases k with
  |zero=>simp[cx]at h
  |succ k=>
   have K3:(ops.toList.map eL).toArray=ops.map eL:=by rw[←Array.toList_map]
   simp only[qj,cx,K3]at h
   refine Qu ?_
   have go:∀ o1,cx C k (.region id (ops.map eL) d) s=some o1→(∀ e a' w',bG B E w o1 e a' w'→(match e with|.normal=>KF (WF none) 0 C.P y (bG B E w o) a' w'|e=>bG B E w o e a' w')) →
     KF (WF none) 0 C.P (.region id ops d) (fun e a w2=>match e with|.normal=>KF (WF none) 0 C.P y (bG B E w o) a w2|e=>bG B E w o e a w2) a w:=by
    intro o1 h1 hq
    have hr:=hR k (Nat.le_succ k) _ _ _ _ _ h1 none B E a w hs
    cases d with
    |false=>
     refine HJ ?_
     have:=nC hq _ _ _ (hr.1 rfl)
     rw[Array.size_map]at this
     exact this
    |true=>
     refine Mi fun t=>?_
     have:=nC hq _ _ _ (hr.2 rfl t)
     rw[AK]at this
     exact this
   split at h
   ·rename_i s' hx
    refine go _ hx fun e a' w' hp=>?_
    obtain⟨E',h1,h2,h3⟩:=hp
    cases e with
    |normal=>exact Mh (wpIn_mono (hC k (Nat.le_succ k) y s' o h none B (.inr QW) E' a' w' h3) fun e Z6 z7 hp=>bG.from h1 h2 hp)
    |_=>exact h3.elim
   ·rename_i dP
    refine go _ h fun e a' w' hp=>?_
    obtain⟨E',h1,h2,h3⟩:=hp
    cases e with
    |normal=>
     cases o with
     |norm s'=>exact absurd h (dP s')
     |_=>exact h3.elim
    |_=>exact⟨E',h1,h2,h3⟩
 ·have he:qj c=c:=by
   unfold qj
   split
   ·exact absurd ⟨_,_,_,_,rfl⟩ hc
   ·rfl
  rw[he]at h
  exact Mh (hC k (Nat.le_refl k) c s o h none B (.inr hn) E a w hs)
theorem Nz{F:Fence}{n:Nat}{P:Program}{c:Code}{Q Q':Exit→Act→World→Prop}{a:Act}{w:World}(h:KF F n P c Q a w)(hq:∀ e a w,Q e a w→Q' e a w):KF F n P c Q' a w:=
 fun b k cs h1 h2 h3 h4 h5 h6=>let ⟨e,a',w',q,r⟩:=h b k cs h1 h2 h3 h4 h5 h6; ⟨e,a',w',hq _ _ _ q,r⟩
theorem CV[ah]{E:Env}{w:World}{hp:ak}{args:List AV}{vs:List Value}(g:FuncId)(n:Nat)(m:Bool)(hI:Inv E hp w)(ha:aw E true args vs):
  du ⟨w.heap.size,[],m⟩ E ⟨g,args++List.replicate (n-args.length) .undef,hp⟩ { tmps:=vs.toArray++Array.replicate (n-vs.toArray.size) undef,defers:=[] } w:=by
 have hlen:=ha.length
 refine⟨?_,hI,Marks.nil,Nat.le_refl _⟩
 simp only[Array.toList_append,Array.toList_replicate,List.size_toArray,←hlen]
 refine ha.append ?_
 have:=aw.lits (E:=E) (o:=true) (List.replicate (n-args.length) undef)
 simpa using this
theorem K8{n:Nat}{E:Env}{w:World}{ds:List Deferred}(h:Marks ⟨n,[],false⟩ E w ds):ds=[]:=by
 obtain⟨rs,h1,_,h3,_⟩:=h
 have:=h3 rfl
 subst this
 simpa using h1
theorem It[ah]{C:Ctx}(cj:C.Ok){k:Nat}(Im:∀ j,j≤k→gD C j)(hRs:∀ j,j≤k→AJ C j)(hO:nA C.P (fun o s=>iV C k o s)){f:FuncId}{args:List AV}{hp:ak}{res:qh}{cU:ak}{fn:Func}{c:Code}
  (tD:C.P.funcs[f]?=some fn) (hc:fn.body=some c) {E:Env} {w:World} {vs:List Value} (hI:Inv E hp w) (ha:aw E true args vs)
  (h:wU (fun c s=>cx C k c s) (fun o s=>iV C k o s) C.P fn.results.toList c ⟨f,args++List.replicate (fn.ntmps-args.length) .undef,hp⟩=some (res,cU)):Calls C.P f vs.toArray w (bD E w cU res):=by
 have hs:=CV f fn.ntmps false hI ha
 have fin:∀ (s':St) (BT:ak) E1 (a1:Act) w1,Ext E E1→Fr E w E1 w1→aw E1 true s'.fr a1.tmps.toList→Inv E1 BT w1→HI C.P fn.results.toList s'.fr BT=some (res,cU)→LeavesIn Fence.wide 0 C.P fn a1.tmps (bD E w cU res) [] .returning w1:=by
  intro s' BT E1 a1 w1 hx hf gk Qc hr
  unfold HI at hr
  split at hr
  case h_2=>simp at hr
  rename_i l hl
  simp only[Option.some.injEq,Prod.mk.injEq]at hr
  obtain⟨rfl,rfl⟩:=hr
  obtain⟨v,h1,h2⟩:=ur Qc gk hl
  exact⟨v,h1,E1,hx,Qc,hf,h2⟩
 have leave:∀ (s':St) (d:Option AV) (e:Exit) a' w',v7 C ⟨w.heap.size,[],false⟩ E w (.norm s') d .normal a' w'→wT (fun c s=>cx C k c s) C.P fn.results.toList s'.fr s'.hp d=some (res,cU) →
   LeavesInM Fence.wide 0 C.P fn a'.tmps (bD E w cU res) a'.defers .returning w':=by
  intro s' d e a' w' BT hd
  cases d with
  |none=>
   obtain⟨E',hx,hf,ho⟩:=BT
   have ho:du ⟨w.heap.size,[],false⟩ E' s' a' w':=ho
   exact kg rfl ho.inv ho.df hf (by simp) fun w2 xl nB=>fin s' s'.hp E' a' w2 hx nB ho.fr xl hd
  |some v=>
   obtain⟨E1,E2,w1,dd,Qi,xp,⟨fv,vK,bz⟩,oY,nB,ho⟩:=BT
   have ho:du ⟨w.heap.size,[dd],false⟩ E2 s' a' w':=ho
   refine kg (B:=⟨w.heap.size,[dd],false⟩) rfl ho.inv ho.df (xp.trans nB) (by simp) fun w2 xl hfw=>?_
   simp only[wT]at hd
   split at hd
   ·simp at hd
   rename_i g as dR
   split at hd
   ·simp at hd
   rename_i fg QE
   split at hd
   ·simp at hd
   rename_i cg QF
   obtain⟨first,cap,Ik⟩:=sf vK dR
   have hdd:dd={ target:=.fn (.func g) cap,args:=first++#[] }:=by
    have h1:=bz w2
    rw[Ik]at h1
    have h2:(Deferred.ofValue (.func (.func g) first cap) #[]).run C.P w2=.ok { target:=.fn (.func g) cap,args:=first++#[] } w2:=rfl
    rw[h2]at h1
    cases h1
    rfl
   obtain⟨vs',abb,hinv⟩:=gU (P:=C.P) (w:=w2) (vK.mono oY) (args:=[]) (vs:=[]) trivial dR ⟨fg,QE,by rw[QF]; rfl,cj.name g fg QE (by rw[QF]; rfl)⟩
   rw[Sem.run_bind]at hinv
   have Fh:=bz w2
   rw[show ([]:List Value).toArray=#[] from rfl,Fh]at hinv
   have Xu:(invoke dd.target dd.args).run C.P w2=.ok (.enter g vs'.toArray) w2:=hinv
   have body:∀ (o:Out) (s2:St) (l2:List AV),(o=.norm s2∨o=.ret s2)→cw cg=true→cx C k (qj cg) ⟨g,as++List.replicate (fg.ntmps-as.length) .undef,s'.hp⟩=some o→(bk C.P s2.fr fg.results.toList).run s2.hp=some l2→HI C.P fn.results.toList s'.fr s2.hp=some (res,cU) →
     LeavesInM Fence.wide 0 C.P fn a'.tmps (bD E w cU res) [dd] .returning w2:=by
    intro o s2 l2 xm NA ck rK zZ
    have DU:=CV g fg.ntmps false xl abb
    refine⟨by simp,.inr ⟨fun h=>(by cases h),.func g,cap,g,vs'.toArray,by rw[hdd],Xu,fun _ _=>trivial,?_⟩⟩
    refine CallsDIn.mono (BX (F:=Fence.wide) (n:=0) QE QF trivial (R:=fun e w'=>match e with|.returned _=>LeavesIn Fence.wide 0 C.P fn a'.tmps (bD E w cU res) [] .returning w'|_=>False) (Nz (K7 Im hRs NA ck DU) ?_)) ?_
    ·intro e a3 w3 hp3
     obtain⟨E3,WG,SE,Z7⟩:=hp3
     have last:du ⟨w2.heap.size,[],false⟩ E3 s2 a3 w3→a3.defers=[]∧∃ v,(results fg a3.tmps).run C.P w3=.ok v w3∧LeavesIn Fence.wide 0 C.P fn a'.tmps (bD E w cU res) [] .returning w3:=by
      intro Z8
      obtain⟨v3,h1,h2⟩:=ur Z8.inv Z8.fr rK
      exact⟨K8 Z8.df,v3,h1,fin s' s2.hp E3 a' w3 ((Qi.trans oY).trans WG) (hfw.trans SE) (ho.fr.mono WG) Z8.inv zZ⟩
     rcases xm with rfl|rfl
     ·cases e with
      |normal=>exact last Z7
      |_=>exact Z7.elim
     ·cases e with
      |ret=>exact last Z7
      |_=>exact Z7.elim
    ·intro e u' w3 hh
     obtain⟨rfl,hh⟩:=hh
     cases e with
     |returned v=>exact hh
     |_=>exact hh.elim
   split at hd
   ·rename_i s2 NA ck
    split at hd
    ·rename_i l2 rK; exact body _ s2 l2 (.inl rfl) NA ck rK hd
    ·simp at hd
   ·rename_i s2 NA ck
    split at hd
    ·rename_i l2 rK; exact body _ s2 l2 (.inr rfl) NA ck rK hd
    ·simp at hd
   ·simp at hd
 have toN:∀ (s':St) (d:Option AV) (o:Out) (e:Exit) a' w',(o=.norm s'∧e=.normal)∨(o=.ret s'∧e=.ret)→v7 C ⟨w.heap.size,[],false⟩ E w o d e a' w'→v7 C ⟨w.heap.size,[],false⟩ E w (.norm s') d .normal a' w':=by
  rintro s' d o e a' w' (⟨rfl,rfl⟩|⟨rfl,rfl⟩) BT
  ·exact BT
  ·cases d with
   |none=>exact BT
   |some v=>exact BT
 unfold wU at h
 split at h
 ·rename_i s' d hn ck
  refine callsIn_wide.1 (callsIn_of_wp_marks (F:=Fence.wide) (n:=0) tD hc trivial (wpIn_mono (Ir (Im k (Nat.le_refl k)) hO c _ _ d hn ck _ E _ w rfl hs) fun e a' w' eN=>?_))
  cases e with
  |normal=>exact leave s' d .normal a' w' eN h
  |_=>cases d<;>first|exact(let ⟨_,_,_,ho⟩:=eN; ho.elim)|exact(let ⟨_,_,_,_,_,_,_,_,_,ho⟩:=eN; ho.elim)
 ·rename_i s' d hn ck
  refine callsIn_wide.1 (callsIn_of_wp_marks (F:=Fence.wide) (n:=0) tD hc trivial (wpIn_mono (Ir (Im k (Nat.le_refl k)) hO c _ _ d hn ck _ E _ w rfl hs) fun e a' w' eN=>?_))
  cases e with
  |ret=>exact leave s' d .normal a' w' (toN s' d _ _ a' w' (.inr ⟨rfl,rfl⟩) eN) h
  |_=>cases d<;>first|exact(let ⟨_,_,_,ho⟩:=eN; ho.elim)|exact(let ⟨_,_,_,_,_,_,_,_,_,ho⟩:=eN; ho.elim)
 ·rename_i v s' hn ck
  simp only[Option.some.injEq,Prod.mk.injEq]at h
  obtain⟨rfl,rfl⟩:=h
  refine callsIn_wide.1 (callsIn_of_wp_marks (F:=Fence.wide) (n:=0) tD hc trivial (wpIn_mono (Ir (Im k (Nat.le_refl k)) hO c _ _ none hn ck _ E _ w rfl hs) fun e a' w' eN=>?_))
  obtain⟨E',hx,hf,ho⟩:=eN
  cases e with
  |panic ch=>
   obtain⟨u,h1,h2,h3,h4⟩:=ho
   exact kg rfl h3 h4 hf (by simp) fun w2 xl nB=>⟨E',hx,xl,nB,u,h1,h2⟩
  |_=>exact ho.elim
 ·simp at h
theorem FU[ah]{C:Ctx}(cj:C.Ok){k:Nat}(Im:∀ j,j≤k→gD C j)(hRs:∀ j,j≤k→AJ C j)(hO:nA C.P (fun o s=>iV C k o s)):oZ C (k+1):=by
 intro f args hp res cU h E w vs hI ha
 simp only[pn]at h
 split at h
 ·simp at h
 rename_i fn tD
 split at h
 ·simp at h
 rename_i c hc
 split at h
 ·exact It cj Im hRs hO tD hc hI ha h
 ·exact D9 (Im k (Nat.le_refl k)) tD hc hI ha h
theorem NB[ah]{C:Ctx}(cj:C.Ok)(Z4:∀ g,C.kind g=.imp→Nt C.P):∀ k,oZ C k∧gD C k∧nA C.P (fun o s=>iV C k o s)∧xn C k∧uq C.P (fun nm o fr=>kK C k nm o fr):=by
 suffices key:∀ k,(oZ C k∧gD C k∧nA C.P (fun o s=>iV C k o s)∧xn C k∧uq C.P (fun nm o fr=>kK C k nm o fr))∧∀ j,j≤k→gD C j∧AJ C j from fun k=>(key k).1
 intro k
 induction k with
 |zero=>
  refine⟨?_,fun j hj=>by obtain rfl:j=0:=by omega
                         exact⟨fun _ _ _ h=>by simp[cx]at h,fun _ _ _ _ _ h=>by simp[cx]at h⟩⟩
  refine⟨fun _ _ _ _ _ h=>by simp[pn]at h,fun _ _ _ h=>by simp[cx]at h,fun _ _ _ h=>by simp[iV]at h,fun _ _ _ _ _ h=>by simp[po,RM.aj]at h,?_⟩
  intro rd x B E s a w e K Q _ _ h
  simp[kK,RM.aj]at h
 |succ k ih=>
  obtain⟨⟨hF,hC,hO,hP,hE⟩,Im⟩:=ih
  have hC1:=FR cj hF (fun j hj=>(Im j hj).1) hO hE
  refine⟨⟨FU cj (fun j hj=>(Im j hj).1) (fun j hj=>(Im j hj).2) hO,hC1,FN cj hF hP hC,FI cj hF,FO cj Z4 hF hP⟩,fun j hj=>?_⟩
  rcases Nat.lt_or_ge j (k+1) with h|h
  ·exact Im j (by omega)
  ·obtain rfl:j=k+1:=by omega
   exact⟨hC1,yw hO hE⟩
def FV(P:Program):Ctx:={ P:=P,kind:=fun _=>.pure,kZ:=fun _=>none,acc:=fun _ _=>false }
theorem Xv[ah]{C:Ctx}(cj:C.Ok):Nt C.P:=by
 have ok0:(FV C.P).Ok:=⟨cj.name,fun g h as r e=>(by cases e),fun g h as r eX e=>(by cases e),fun g h e=>(by cases e),fun g h as hp e h1=>(by cases h1),fun g h e=>(by cases e)⟩
 intro g args hp e h E w vs hI rb
 obtain⟨e0,hb,ov,nw,hw,ho,k,hk⟩:=Ra (C:=FV C.P) rfl (fun _ _=>rfl) (fun _ _=>rfl) (fun _ _=>rfl) h
 exact⟨e0,((NB ok0 (fun g h=>by cases h) k).1 g args hp _ _ hk E w vs hI rb).mono fun en w' hp=>K9 hI hw ho hb hp⟩
theorem sound[ah]{C:Ctx}(cj:C.Ok):∀ k,oZ C k∧gD C k∧nA C.P (fun o s=>iV C k o s)∧xn C k∧uq C.P (fun nm o fr=>kK C k nm o fr):=
 NB cj fun _ _=>Xv cj
end Go.PI
end
section
/- PI, the laws: arguments that read as data, as abstract values. -/
namespace Go.PI
open Go.ChangeShapes Go.WideShapes
def Env.all(w:World):Env where
 ρ:=fun _ _=>none
 m:=fun b=>match w.heap[b]? with|some (.cells c _ _)=>some c|_=>none
 L:=0
 own:=fun _=>False
theorem QC[ah](w:World)(hg:mn (Env.all w)):Inv (Env.all w) [] w where
 len:=rfl
 objs:=by intro n o h; simp at h
 free:=by intro n ax h; simp at h
 inj:=by rintro n n' b ⟨o,l,h,_⟩; simp at h
 mem:=by
  grind[Env.all]
 qk:=by intro b h; exact h.elim
 kL:=hg
def Shape(P:Program):Nat→TypeId→List AV→Prop
 |0,_,_=>False
 |k+1,t,l=>
  match P.underlying t with
  |some .bool=>∃ b,l=[.lit (.bool b)]
  |some (.int i)=>∃ n,l=[.lit (.int i n)]∧(Lit.int i n).wf=true
  |some .string=>∃ s:ByteArray,l=[.lit (.string s)]∧s.size≤maxLen
  |some (.slice e)=>∃ xs,l=[.sl xs]∧xs.length≤maxLen∧∀ x∈xs,∃ cl,(match P.underlying e with
    |some d=>if fK d then x=.agg cl else cl=[x]
    |none=>False)∧Shape P k e cl
  |some (.struct fs)=>l.length=P.cellsOf t∧∀ f∈fs.toList,Shape P k f.type ((l.drop f.offset).take (P.cellsOf f.type))
  |some (.array n e)=>l.length=P.cellsOf t∧∀ i,i<n→Shape P k e ((l.drop (i*P.cellsOf e)).take (P.cellsOf e))
  |_=>False
def yd(P:Program):Nat→List Field→Option Nat
 |o,[]=>some o
 |o,f::r=>if f.offset=o then yd P (o+P.cellsOf f.type) r else none
def Ad(P:Program):Nat→TypeId→Bool
 |0,_=>false
 |k+1,t=>
  match P.underlying t with
  |some .bool|some (.int _)|some .string=>decide (P.cellsOf t=1)
  |some (.slice e)=>decide (P.cellsOf t=1)&&decide (0<P.cellsOf e)&&Ad P k e
  |some (.struct fs)=>decide (yd P 0 fs.toList=some (P.cellsOf t))&&fs.toList.all fun f=>Ad P k f.type
  |some (.array n e)=>decide (n*P.cellsOf e=P.cellsOf t)&&Ad P k e
  |_=>false
theorem mapM_some{α β:Type}{f:α→Option β}:∀ {l:List α} {r:List β},l.mapM f=some r→r.length=l.length∧∀ (i:Nat) (x:α),l[i]?=some x→∃ y,r[i]?=some y∧f x=some y
 |[],r,h=>by
  simp_all
 |a::l,r,h=>by
  simp only[List.mapM_cons,Option.pure_def,Option.bind_eq_bind]at h
  cases hq:f a with
  |none=>rw[hq]at h; simp at h
  |some b=>
   rw[hq]at h
   simp only[Option.bind_some]at h
   cases fc:l.mapM f with
   |none=>rw[fc]at h; simp at h
   |some bs=>
    rw[fc]at h
    simp only[Option.bind_some,Option.some.injEq]at h
    subst h
    obtain⟨h1,h2⟩:=mapM_some fc
    refine⟨by simp[h1],fun i x hx=>?_⟩
    cases i with
    |zero=>simp_all
    |succ i=>simp_all
theorem aO.append{E:Env}{o:Bool}{l l':List AV}{c c':List Value}(h:aO E o l c)(h':aO E o l' c'):aO E o (l++l') (c++c'):=
 aO.of (h.Jq.append h'.Jq) fun v hv=>by
  rcases List.mem_append.1 hv with h1|h1
  ·exact h.leaf v h1
  ·exact h'.leaf v h1
theorem KI[ah]{w:World}{base:Nat}{a:Addr}{n:Nat}{l:List Value}(h:w.cells? base a n=some l):l.length=n∧∀ q v,l[q]?=some v→w.cell? (a.add q)=some v:=by
 unfold World.cells? at h
 split at h
 case isFalse=>simp at h
 obtain⟨h1,h2⟩:=mapM_some h
 simp only[List.length_range]at h1
 refine⟨h1,fun q v hq=>?_⟩
 have cr:=aW hq
 obtain⟨y,hy,hf⟩:=h2 q q (by rw[List.getElem?_range (by omega)])
 rw[hq]at hy
 cases hy
 exact hf
theorem Cv{P:Program}:∀ (fs:List Field) (o n:Nat),yd P o fs=some n→o≤n
 |[],o,n,h=>by simp only[yd,Option.some.injEq]at h; omega
 |f::r,o,n,h=>by
  simp only[yd]at h
  split at h
  case isFalse=>simp at h
  have:=Cv r _ n h; omega
theorem Fj[ah]{E:Env}{P:Program}{S:Field→List AV→Prop}:∀ (fs:List Field) (o n:Nat) (cs:List Value),yd P o fs=some n→cs.length=n →
  (∀ f∈fs,∃ l,aO E false l ((cs.drop f.offset).take (P.cellsOf f.type))∧S f l) →
  ∃ l,aO E false l (cs.drop o)∧∀ f∈fs,o≤f.offset∧S f ((l.drop (f.offset-o)).take (P.cellsOf f.type))
 |[],o,n,cs,h,hl,_=>by
  simp only[yd,Option.some.injEq]at h
  refine⟨[],?_,by simp⟩
  rw[List.drop_eq_nil_of_le (by omega)]
  simp[aO]
 |f::r,o,n,cs,h,hl,hf=>by
  simp only[yd]at h
  split at h
  case isFalse=>simp at h
  rename_i ho
  have uh:=Cv r _ n h
  obtain⟨l1,h1,h2⟩:=hf f (by simp)
  obtain⟨l2,h3,h4⟩:=Fj r (o+P.cellsOf f.type) n cs h hl (fun g hg=>hf g (by simp[hg]))
  have JA:l1.length=P.cellsOf f.type:=by rw[h1.length]; simp; omega
  refine⟨l1++l2,?_,fun g hg=>?_⟩
  ·have:cs.drop o=(cs.drop f.offset).take (P.cellsOf f.type)++cs.drop (o+P.cellsOf f.type):=by
    rw[ho,←List.drop_drop,List.take_append_drop]
   rw[this]
   exact h1.append h3
  ·cases hg with
   |head=>
    simp_all
   |tail _ hg=>
    obtain⟨h5,h6⟩:=h4 g hg
    refine⟨by omega,?_⟩
    have:(l1++l2).drop (g.offset-o)=l2.drop (g.offset-(o+P.cellsOf f.type)):=by
     rw[List.drop_append,List.drop_eq_nil_of_le (by omega),List.nil_append,JA]
     congr 1; omega
    rw[this]
    exact h6
theorem Fk[ah]{E:Env}{size:Nat}{S:List AV→Prop}:∀ (n:Nat) (cs:List Value),cs.length=n*size →
  (∀ i,i<n→∃ l,aO E false l ((cs.drop (i*size)).take size)∧S l)→∃ l,aO E false l cs∧∀ i,i<n→S ((l.drop (i*size)).take size)
 |0,cs,h,_=>by
  have:cs=[]:=List.eq_nil_of_length_eq_zero (by simpa using h)
  subst this
  exact⟨[],by simp[aO],by simp⟩
 |n+1,cs,h,hf=>by
  rw[Nat.succ_mul]at h
  obtain⟨l1,h1,h2⟩:=hf 0 (by omega)
  simp only[Nat.zero_mul,List.drop_zero]at h1
  obtain⟨l2,h3,h4⟩:=Fk (size:=size) (S:=S) n (cs.drop size) (by rw[List.length_drop,h]; omega) (fun i hi=>by
   obtain⟨l,ha,hb⟩:=hf (i+1) (by omega)
   refine⟨l,?_,hb⟩
   rw[List.drop_drop]
   have:size+i*size=(i+1)*size:=by rw[Nat.succ_mul]; omega
   rw[this]; exact ha)
  have JA:l1.length=size:=by rw[h1.length]; simp; omega
  refine⟨l1++l2,?_,fun i hi=>?_⟩
  ·have:cs=cs.take size++cs.drop size:=(List.take_append_drop size cs).symm
   rw[this]
   exact h1.append h3
  ·cases i with
   |zero=>simp_all
   |succ i=>
    have e1:(i+1)*size=size+i*size:=by rw[Nat.succ_mul]; omega
    rw[e1,List.drop_append,List.drop_eq_nil_of_le (by omega),List.nil_append,JA]
    have e2:size+i*size-size=i*size:=by omega
    rw[e2]
    exact h4 i (by omega)
theorem Fl{P:Program}{k:Nat}{t:TypeId}{d:TypeDesc}(hu:P.underlying t=some d)(cj:Ad P k t=true)(ha:fK d=false):P.cellsOf t=1:=by
 cases k with
 |zero=>simp[Ad]at cj
 |succ k=>
  simp only[Ad,hu]at cj
  cases d with
  |bool=>simpa using cj
  |int _=>simpa using cj
  |string=>simpa using cj
  |slice e=>simp only[Bool.and_eq_true,decide_eq_true_eq]at cj; exact cj.1.1
  |struct _=>simp[fK]at ha
  |array _ _=>simp[fK]at ha
  |_=>simp at cj
theorem JB[ah]{H:Type}{enc:TypeId×Value→H}{P:Program}{w:World}{base:Nat}{spare:Nat→Bool}{held:Bool}:∀ (fuel k:Nat) (t:TypeId) (cs:List Value) (r:DataW H×List MemPlace),
  Ad P k t=true→DataW.trod enc P w base spare held fuel t cs=some r→∃ l,aO (Env.all w) false l cs∧Shape P k t l:=by
 intro fuel
 induction fuel with
 |zero=>intro k t cs r _ h; simp[DataW.trod]at h
 |succ fuel ih=>
  intro k t cs r cj h
  cases k with
  |zero=>simp[Ad]at cj
  |succ k=>
   have afN:=cj
   simp only[Ad]at cj
   cases hu:P.underlying t with
   |none=>rw[hu]at cj; simp at cj
   |some d=>
    rw[hu]at cj
    cases d with
    |bool=>
     obtain⟨b,rfl,_⟩:=DataW.trod_bool hu h
     exact⟨[.lit (.bool b)],by simp[aO,ar,Value.oneCell'],by simp only[Shape,hu]; exact⟨b,rfl⟩⟩
    |int i=>
     obtain⟨n,rfl,_,hw⟩:=DataW.trod_int hu h
     exact⟨[.lit (.int i n)],by simp[aO,ar,Value.oneCell'],by simp only[Shape,hu]; exact⟨n,rfl,hw⟩⟩
    |string=>
     obtain⟨s,rfl,_,hw⟩:=DataW.trod_string hu h
     exact⟨[.lit (.string s)],by simp[aO,ar,Value.oneCell'],by simp only[Shape,hu]; exact⟨s,rfl,hw⟩⟩
    |slice e=>
     simp only[Bool.and_eq_true,decide_eq_true_eq]at cj
     obtain⟨⟨_,jb⟩,KJ⟩:=cj
     obtain⟨de,hue⟩:∃ de,P.underlying e=some de:=by
      cases k with
      |zero=>simp[Ad]at KJ
      |succ k=>
       simp only[Ad]at KJ
       cases hq:P.underlying e with
       |none=>rw[hq]at KJ; simp at KJ
       |some de=>exact⟨de,rfl⟩
     rcases DataW.trod_slice hu h with ⟨rfl,_⟩|⟨a,len,cap,elems,rest,n,hn,rfl,_,hb,Hx,ZQ,vD,MA,_,_⟩
     ·refine⟨[.sl []],?_,?_⟩
      ·simp only[aO,ar]
       exact⟨⟨none,0,rfl,by simp,fun _=>rfl,.inl trivial⟩,rfl,trivial⟩
      ·simp only[Shape,hu]; exact⟨[],rfl,by simp,by simp⟩
     ·have kD:n=fuel:=by omega
      subst kD
      have one:∀ i,i<len→∃ x:AV,∃ v cl,ar (Env.all w) false x v∧v.cells.size=P.cellsOf e∧(∀ q u,v.cells.toList[q]?=some u→w.cell? ((a.add (i*P.cellsOf e)).add q)=some u) ∧
        (∀ u∈v.cells.toList,jE u=true)∧(if fK de then x=.agg cl else cl=[x])∧Shape P k e cl:=by
       intro i hi
       have h1:=MA i hi
       have h2:elems[i]?=some elems[i]:=by simp[vD,hi]
       rw[h2]at h1
       cases hc:w.cells? base (a.add (i*P.cellsOf e)) (P.cellsOf e) with
       |none=>rw[hc]at h1; simp at h1
       |some ce=>
        rw[hc]at h1
        simp only[Option.bind_some]at h1
        obtain⟨cl,h3,h4⟩:=ih k e ce _ KJ h1
        obtain⟨h5,h6⟩:=KI hc
        cases sP:fK de with
        |true=>
         refine⟨.agg cl,.agg ce.toArray,cl,h3.toArray,by simp[Value.cells,h5],fun q u hq=>h6 q u (by simpa[Value.cells] using hq),?_,by simp,h4⟩
         intro u P6
         exact h3.leaf u (by simpa[Value.cells] using P6)
        |false=>
         have h7:=Fl hue KJ sP
         rw[h7]at h5
         match ce,h5,h3 with
         |[v],_,h3=>
          match cl,h3 with
          |[x],h3=>
           simp only[aO]at h3
           have Ty:=gQ h3.2.1
           refine⟨x,v,[x],h3.1,by rw[Ty,h7]; rfl,fun q u hq=>h6 q u (by rw[Ty]at hq; simpa using hq),?_,by simp,h4⟩
           intro u P6
           rw[Ty]at P6
           simp at P6
           subst P6
           exact h3.2.1
          |[],h3=>simp[aO]at h3
          |_::_::_,h3=>simp[aO]at h3
         |[],h5,_=>simp at h5
         |_::_::_,h5,_=>simp at h5
      let xs:List AV:=(List.range len).map fun i=>if hi:i<len then Classical.choose (one i hi) else .any
      have Cw:∀ i x,xs[i]?=some x→∃ v cl,ar (Env.all w) false x v∧v.cells.size=P.cellsOf e ∧
        (∀ q u,v.cells.toList[q]?=some u→w.cell? ((a.add (i*P.cellsOf e)).add q)=some u) ∧
        (∀ u∈v.cells.toList,jE u=true)∧(if fK de then x=.agg cl else cl=[x])∧Shape P k e cl:=by
       intro i x hx
       have hi:=aW hx
       simp only[xs,List.length_map,List.length_range]at hi
       simp only[xs,List.getElem?_map,List.getElem?_range hi,Option.map_some,dif_pos hi,Option.some.injEq]at hx
       subst hx
       exact Classical.choose_spec (one i hi)
      have HK:xs.length=len:=by simp[xs]
      refine⟨[.sl xs],?_,?_⟩
      ·simp only[aO,ar]
       refine⟨⟨some a,cap,by rw[HK],by omega,by simp,?_⟩,rfl,trivial⟩
       by_cases h0:len=0
       ·left; exact List.eq_nil_of_length_eq_zero (by omega)
       ·right
        obtain⟨v,_,_,rb,Ty,_,_,_⟩:=Cw 0 xs[0] (by simp)
        have P9:=Ty 0 v.cells[0] (by simp)
        simp only[Nat.zero_mul]at P9
        have W3:(a.add 0).add 0=a:=rfl
        rw[W3]at P9
        obtain⟨b,o,sp⟩:=a
        simp only[World.cell?]at P9
        split at P9
        case h_2=>simp at P9
        rename_i c T fz fI
        split at P9
        ·simp at P9
        rename_i ZR
        have aaA:sp=none:=by cases sp<;>simp_all
        subst aaA
        refine⟨b,o,P.cellsOf e,c,rfl,by simp[Env.all,fI],eY.fk fun i x hx=>?_⟩
        obtain⟨v,_,hr,rb,Ty,hvl,_,_⟩:=Cw i x hx
        refine⟨v,hr,rb,fun q hq=>?_,hvl⟩
        have h1:=Ty q v.cells[q] (by simp)
        rw[ee,ee]at h1
        simp only[World.cell?,fI]at h1
        simp only[Option.isSome_none,Bool.false_eq_true,if_false]at h1
        rw[h1]; simp
      ·simp only[Shape,hu]
       refine⟨xs,rfl,by omega,fun x hx=>?_⟩
       obtain⟨i,hi⟩:=List.mem_iff_getElem?.1 hx
       obtain⟨v,cl,_,_,_,_,h1,h2⟩:=Cw i x hi
       exact⟨cl,by rw[hue]; exact h1,h2⟩
    |struct fs=>
     simp only[Bool.and_eq_true,decide_eq_true_eq]at cj
     obtain⟨xs,n,hn,_,hl,HK,hf⟩:=DataW.trod_struct hu h
     have kD:n=fuel:=by omega
     subst kD
     obtain⟨l,h1,h2⟩:=Fj (E:=Env.all w) (S:=fun f l=>Shape P k f.type l) fs.toList 0 (P.cellsOf t) cs cj.1 hl (fun f JC=>by
      obtain⟨i,hi⟩:=List.mem_iff_getElem?.1 JC
      have tM:fs[i]?=some f:=by simpa using hi
      have h3:=hf i f tM
      have cr:i<xs.length:=by rw[HK]; exact(Array.getElem?_eq_some_iff.1 tM).1
      rw[List.getElem?_eq_getElem cr]at h3
      exact ih k f.type _ _ (List.all_eq_true.1 cj.2 f JC) h3)
     simp only[List.drop_zero]at h1
     refine⟨l,h1,?_⟩
     simp only[Shape,hu]
     exact⟨by rw[h1.length,hl],fun f JC=>by simpa using (h2 f JC).2⟩
    |array n e=>
     simp only[Bool.and_eq_true,decide_eq_true_eq]at cj
     obtain⟨xs,m,hm,_,hl,HK,hf⟩:=DataW.trod_array hu h
     have DM:m=fuel:=by omega
     subst DM
     obtain⟨l,h1,h2⟩:=Fk (E:=Env.all w) (S:=fun l=>Shape P k e l) n cs (by rw[hl,cj.1]) (fun i hi=>by
      have h3:=hf i hi
      rw[List.getElem?_eq_getElem (by omega)]at h3
      exact ih k e _ _ cj.2 h3)
     refine⟨l,h1,?_⟩
     simp only[Shape,hu]
     exact⟨by rw[h1.length,hl],h2⟩
    |_=>simp at cj
end Go.PI
end
section
/- PI, the answers of code without fuel, by equations. -/
namespace Go.PI
theorem iu[ah]{α:Type}(y:Option α):uj (fun _=>y)=y:=
 mJ (g:=fun _=>y) (fun _ _ h=>h) (fun _ _ h=>h) fun _ h=>⟨0,h⟩
theorem vG[ah]{α β:Type}{g:Nat→Option β}{a:Nat→Option α}{b:α→Nat→Option β}(hg:gH g)(ha:gH a)(hb:∀ x,gH (b x))
  (h0:g 0=none) (h:∀ k,g (k+1)=(a k).bind fun x=>b x k):uj g=(uj a).bind fun x=>uj (b x):=by
 apply mJ hg
 ·intro k x hx
  cases k with
  |zero=>rw[h0]at hx; simp at hx
  |succ k=>
   rw[h]at hx
   cases hq:a k with
   |none=>rw[hq]at hx; simp at hx
   |some y=>
    rw[hq]at hx
    rw[(bl ha).2 ⟨k,hq⟩]
    exact(bl (hb y)).2 ⟨k,hx⟩
 ·intro x hx
  cases hq:uj a with
  |none=>rw[hq]at hx; simp at hx
  |some y=>
   rw[hq]at hx
   obtain⟨k1,h1⟩:=(bl ha).1 hq
   obtain⟨k2,h2⟩:=(bl (hb y)).1 hx
   refine⟨k1+k2+1,?_⟩
   rw[h,ha.le h1 k2]
   simp only[Option.bind_some]
   rw[Nat.add_comm]
   exact(hb y).le h2 k1
theorem oq{α:Type}(y:Option α):gH fun _=>y:=fun _ _ h=>h
theorem iw[ah]{α β:Type}{g:Nat→Option β}{a:Nat→Option α}{b:α→Option β}(hg:gH g)(ha:gH a)
  (h0:g 0=none) (h:∀ k,g (k+1)=(a k).bind b):uj g=(uj a).bind b:=by
 rw[vG hg ha (b:=fun x _=>b x) (fun x=>oq _) h0 h]
 congr 1; funext x; exact iu _
theorem cM[ah]{α:Type}{g:Nat→Option α}{y:Option α}(hg:gH g)(h0:g 0=none)(h:∀ k,g (k+1)=y):uj g=y:=by
 apply mJ hg
 ·intro k x hx
  cases k with
  |zero=>rw[h0]at hx; simp at hx
  |succ k=>rw[h]at hx; exact hx
 ·intro x hx; exact⟨1,by rw[h]; exact hx⟩
theorem xa[ah]{α:Type}{g a:Nat→Option α}(hg:gH g)(ha:gH a)(h0:g 0=none)(h:∀ k,g (k+1)=a k):uj g=uj a:=by
 have:=iw (b:=some) hg ha h0 (fun k=>by rw[h]; simp)
 rw[this]; simp
variable {C:Ctx}
theorem pJ[ah](s:St):dw C .skip s=some (.norm s):=cM (eO C _ _) rfl fun _=>rfl
theorem HU[ah](l:Nat)(s:St):dw C (.label l) s=some (.norm s):=cM (eO C _ _) rfl fun _=>rfl
theorem vH[ah](s:St):dw C .ret s=some (.ret s):=cM (eO C _ _) rfl fun _=>rfl
theorem xb[ah](id:Nat)(s:St):dw C (.exit id) s=some (.exit id s):=cM (eO C _ _) rfl fun _=>rfl
theorem HV[ah]{b c:Code}(hc:rJ b=some c){s:St}{o:Out}(h:dw C c s=some o):dw C (.scope b) s=some o:=by
 obtain⟨k,hk⟩:=(bl (eO C c s)).1 h
 exact(bl (eO C _ s)).2 ⟨k+1,by simp only[cx,hc]; exact hk⟩
noncomputable def andThen[ah](C:Ctx)(b:Code):Out→Option Out
 |.norm s=>dw C b s
 |r=>some r
theorem gT[ah](a b:Code)(s:St):dw C (.seq a b) s=(dw C a s).bind (andThen C b):=by
 have h:=vG (eO C (.seq a b) s) (eO C a s) (b:=fun x k=>match x with|.norm s'=>cx C k b s'|r=>some r)
  (fun x=>by cases x with
    |norm s'=>exact eO C b s'
    |_=>exact oq _) (by simp[cx]) (fun k=>by
     simp only[cx]
     cases hq:cx C k a s with
     |none=>rfl
     |some r=>cases r<;>rfl)
 unfold dw at h ⊢
 rw[h]
 congr 1
 funext x
 cases x with
 |norm s'=>rfl
 |_=>exact iu _
noncomputable def ZS[ah](C:Ctx)(a b:Code)(s:St):AV→Option Out
 |.lit (.bool t)=>cond t (dw C a s) (dw C b s)
 |_=>none
theorem ll[ah](o:Operand)(a b:Code)(s:St):dw C (.cond o a b) s=ZS C a b s (aP s.fr o):=by
 unfold ZS
 split
 ·rename_i t ht
  cases t with
  |true=>exact xa (eO C _ _) (eO C _ _) (by simp[cx]) fun k=>by simp only[cx]; rw[ht]
  |false=>exact xa (eO C _ _) (eO C _ _) (by simp[cx]) fun k=>by simp only[cx]; rw[ht]
 ·rename_i hn
  refine cM (eO C _ _) (by simp[cx]) fun k=>?_
  simp only[cx]
def xd(id:Nat):Out→Option Out
 |.exit i s=>if i=id then some (.norm s) else some (.exit i s)
 |r=>some r
theorem nr[ah](id:Nat)(b:Code)(s:St):dw C (.block id b) s=(dw C b s).bind (xd id):=by
 refine iw (eO C _ _) (eO C _ _) (by simp[cx]) fun k=>?_
 simp only[cx]
 cases hq:cx C k b s with
 |none=>rfl
 |some r=>cases r<;>rfl
noncomputable def MF[ah](C:Ctx)(b:Code)(n:Nat):Out→Option Out
 |.norm s=>dw C (.loop b) (iT n s)
 |r=>some r
theorem pK[ah](b:Code)(s:St):dw C (.loop b) s=(dw C b s).bind (MF C b s.hp.length):=by
 have h:=vG (eO C (.loop b) s) (eO C b s) (b:=fun x k=>match x with|.norm s'=>cx C k (.loop b) (iT s.hp.length s')|r=>some r)
  (fun x=>by cases x with
    |norm s'=>exact eO C (.loop b) (iT s.hp.length s')
    |_=>exact oq _) (by simp[cx]) (fun k=>by
     rw[cx]
     cases hq:cx C k b s with
     |none=>rfl
     |some r=>cases r<;>rfl)
 unfold dw at h ⊢
 rw[h]
 congr 1
 funext x
 cases x with
 |norm s'=>rfl
 |_=>exact iu _
theorem fe[ah](ops:Array Oper)(l:List Oper)(s:St):gH fun k=>dc (fun o s=>iV C k o s) ops l s:=
 fun k x h=>jH (fun o s r h=>(mono C k).o o s r h) ops l s x h
theorem lq[ah](ops:Array Oper):∀ (l:List Oper) (s:St),uj (fun k=>dc (fun o s=>iV C k o s) ops l s)=dc (jv C) ops l s
 |[],s=>iu _
 |o::l,s=>by
  simp only[dc]
  cases hw:dg ops s.fr o with
  |none=>exact iu _
  |some b=>
   cases b with
   |false=>exact lq ops l _
   |true=>
    simp only
    apply mJ
    ·intro k x hx
     have hm:=nq C o s
     simp only at hx ⊢
     cases hq:iV C k o s with
     |none=>rw[hq]at hx; simp at hx
     |some r=>
      rw[hq]at hx
      have Hy:=hm k r hq
      simp only at hx Hy ⊢
      rw[Hy]
      cases r with
      |norm s'=>exact fe ops l s' k x hx
      |_=>exact hx
    ·intro k x hx
     cases hq:iV C k o s with
     |none=>rw[hq]at hx; simp at hx
     |some r=>
      rw[hq]at hx
      have h1:jv C o s=some r:=(bl (nq C o s)).2 ⟨k,hq⟩
      rw[h1]
      cases r with
      |norm s'=>
       simp only at hx ⊢
       rw[←lq ops l s']
       exact(bl (fe ops l s')).2 ⟨k,hx⟩
      |_=>exact hx
    ·intro x hx
     cases hq:jv C o s with
     |none=>rw[hq]at hx; simp at hx
     |some r=>
      rw[hq]at hx
      obtain⟨k1,h1⟩:=(bl (nq C o s)).1 hq
      cases r with
      |norm s'=>
       simp only at hx
       rw[←lq ops l s']at hx
       obtain⟨k2,h2⟩:=(bl (fe ops l s')).1 hx
       refine⟨k1+k2,?_⟩
       rw[(nq C o s).le h1 k2]
       simp only
       rw[Nat.add_comm]
       exact(fe ops l s').le h2 k1
      |_=>exact⟨k1,by rw[h1]; exact hx⟩
theorem Fo[ah](id:Nat)(ops:Array Oper)(s:St):dw C (.region id ops false) s=dc (jv C) ops ops.toList (iR (C.ja s.fn id) s):=by
 rw[←lq]
 exact xa (eO C _ _) (fe ops _ _) (by simp[cx]) fun k=>by simp only[cx]
noncomputable def MG(C:Ctx)(rs:Array ResultVar):Out→Option (qh×ak)
 |.norm s=>((bk C.P s.fr rs.toList).run s.hp).map fun l=>(.val (cY l),s.hp)
 |.ret s=>((bk C.P s.fr rs.toList).run s.hp).map fun l=>(.val (cY l),s.hp)
 |.od v s=>some (.od v,s.hp)
 |_=>none
theorem zm[ah]{f:FuncId}{fn:Func}{c:Code}(hf:C.P.funcs[f]?=some fn)(hb:fn.body=some c)(args:List AV)(hp:ak)(hD:E7 c=false:=by rfl):
  jt C f args hp=(dw C c ⟨f,args++List.replicate (fn.ntmps-args.length) .undef,hp⟩).bind (MG C fn.results):=by
 refine iw (kV C _ _ _) (eO C _ _) (by simp[pn]) fun k=>?_
 simp only[pn,hf,hb,hD]
 cases hq:cx C k c ⟨f,args++List.replicate (fn.ntmps-args.length) .undef,hp⟩ with
 |none=>rfl
 |some r=>
  cases r with
  |norm s=>simp only[Option.bind_some,MG]; split<;>simp_all
  |ret s=>simp only[Option.bind_some,MG]; split<;>simp_all
  |_=>rfl
theorem pL[ah]{c:Code}{s:St}{o:Out}(h:dw C c s=some o):∃ k,∀ d,cx C (k+d) c s=some o:=by
 obtain⟨k,hk⟩:=(bl (eO C c s)).1 h
 exact⟨k,(eO C c s).le hk⟩
theorem DN[ah]:∀ (c:Code) (s:St) (r:Out×Option AV),Ck (dw C) (jv C) c s=some r→∃ k,∀ d,Ck (fun c s=>cx C (k+d) c s) (fun o s=>iV C (k+d) o s) c s=some r:=by
 have leaf:∀ c s (r:Out×Option AV),((dw C c s).map fun o=>(o,(none:Option AV)))=some r→∃ k,∀ d,((cx C (k+d) c s).map fun o=>(o,(none:Option AV)))=some r:=by
  intro c s r h
  cases hq:dw C c s with
  |none=>rw[hq]at h; simp at h
  |some o=>
   obtain⟨k,hk⟩:=pL hq
   exact⟨k,fun d=>by rw[hk d]; rw[hq]at h; exact h⟩
 intro c
 induction c with
 |seq x y _ MD=>
  intro s r h
  simp only[Ck]at h ⊢
  cases hd:vt x with
  |some q=>
   obtain⟨ops,v⟩:=q
   rw[hd]at h
   simp only at h ⊢
   split at h
   case h_2=>simp at h
   rename_i s1 hr
   rw[←lq]at hr
   obtain⟨k1,W5⟩:=(bl (fe ops _ s)).1 hr
   have h1:=(fe (C:=C) ops _ s).le W5
   split at h
   case h_2=>simp at h
   rename_i q dR
   cases hq:dw C y s1 with
   |none=>rw[hq]at h; simp at h
   |some o=>
    obtain⟨k2,DP⟩:=pL hq
    refine⟨k1+k2,fun d=>?_⟩
    rw[show k1+k2+d=k1+(k2+d) by omega,h1]
    simp only[dR]
    rw[show k1+(k2+d)=k2+(k1+d) by omega,DP]
    rw[hq]at h; exact h
  |none=>
   rw[hd]at h
   simp only at h ⊢
   split at h
   ·rename_i s' hx
    obtain⟨k1,W5⟩:=pL hx
    obtain⟨k2,DP⟩:=MD _ _ h
    refine⟨k1+k2,fun d=>?_⟩
    rw[show k1+k2+d=k1+(k2+d) by omega,W5]
    have:=DP (k1+d)
    rw[show k2+(k1+d)=k1+(k2+d) by omega]at this
    exact this
   ·rename_i o dP hx
    obtain⟨k1,W5⟩:=pL hx
    refine⟨k1,fun d=>?_⟩
    rw[W5 d]
    cases o with
    |norm s'=>exact(dP s' rfl).elim
    |_=>exact h
   ·simp at h
 |_=>intro s r h; simp only[Ck]at h ⊢; exact leaf _ _ _ h
theorem Fp[ah]{P:Program}{rs:List ResultVar}{fr:List AV}{hp:ak}{d:Option AV}{r:qh×ak}(h:wT (dw C) P rs fr hp d=some r):∃ k,∀ j,wT (fun c s=>cx C (k+j) c s) P rs fr hp d=some r:=by
 cases d with
 |none=>exact⟨0,fun _=>h⟩
 |some v=>
  simp only[wT]at h ⊢
  split at h
  ·simp at h
  rename_i g as dR
  split at h
  ·simp at h
  rename_i fg QE
  split at h
  ·simp at h
  rename_i cg QF
  cases hn:cw cg with
  |false=>rw[hn]at h; simp at h
  |true=>
   rw[hn]at h
   cases hq:dw C (qj cg) ⟨g,as++List.replicate (fg.ntmps-as.length) .undef,hp⟩ with
   |none=>rw[hq]at h; simp at h
   |some o=>
    obtain⟨k,hk⟩:=pL hq
    exact⟨k,fun j=>by simp only[QE,QF,hn,hk j]; rw[hq]at h; exact h⟩
theorem MH[ah]{f:FuncId}{fn:Func}{c:Code}(hf:C.P.funcs[f]?=some fn)(hb:fn.body=some c){args:List AV}{hp:ak}(hD:E7 c=true){r:qh×ak}
  (h:wU (dw C) (jv C) C.P fn.results.toList c ⟨f,args++List.replicate (fn.ntmps-args.length) .undef,hp⟩=some r):jt C f args hp=some r:=by
 suffices hs:∃ k,wU (fun c s=>cx C k c s) (fun o s=>iV C k o s) C.P fn.results.toList c ⟨f,args++List.replicate (fn.ntmps-args.length) .undef,hp⟩=some r by
  obtain⟨k,hk⟩:=hs
  exact(bl (kV C f args hp)).2 ⟨k+1,by simp only[pn,hf,hb,hD]; exact hk⟩
 unfold wU at h
 split at h
 ·rename_i s' d hn he
  obtain⟨k1,h1⟩:=DN _ _ _ he
  obtain⟨k2,h2⟩:=Fp h
  refine⟨k1+k2,?_⟩
  unfold wU
  rw[h1 k2,hn]
  have:=h2 k1
  rw[show k2+k1=k1+k2 by omega]at this
  exact this
 ·rename_i s' d hn he
  obtain⟨k1,h1⟩:=DN _ _ _ he
  obtain⟨k2,h2⟩:=Fp h
  refine⟨k1+k2,?_⟩
  unfold wU
  rw[h1 k2,hn]
  have:=h2 k1
  rw[show k2+k1=k1+k2 by omega]at this
  exact this
 ·rename_i v s' hn he
  obtain⟨k1,h1⟩:=DN _ _ _ he
  refine⟨k1+0,?_⟩
  unfold wU
  rw[h1 0,hn]
  exact h
 ·simp at h
def pM(hp:ak)(args:List AV)(q:qh×ak):Option (qh×List (Nat×ba)):=(iq args q.2 q.1).run hp
theorem QG[ah](g:FuncId)(hi:C.kZ g=none)(args:List AV)(hp:ak):
  ME C g args hp=((bg 1000 args).run hp).bind fun as=>(jt C g as []).bind (pM hp args):=by
 have h1:∀ k,(po C (k+1) g args).run hp=((bg 1000 args).run hp).bind fun as=>(pn C k g as []).bind (pM hp args):=by
  intro k
  rw[po,RM.run_bind]
  congr 1
  funext as
  rw[hi]
  simp only
  cases hq:pn C k g as [] with
  |none=>rfl
  |some q=>rfl
 cases hs:(bg 1000 args).run hp with
 |none=>exact cM (JD C _ _ _) (by simp[po,RM.aj]) fun k=>by rw[h1,hs]; rfl
 |some as=>
  refine iw (JD C _ _ _) (kV C g as []) (by simp[po,RM.aj]) fun k=>?_
  rw[h1,hs]; rfl
theorem KO[ah](g:FuncId){h:List AV→Option AV}(hi:C.kZ g=some h)(args:List AV)(hp:ak):
  ME C g args hp=((bg 1000 args).run hp).bind fun as=>(h as).bind fun r=>pM hp args (.val r,[]):=by
 refine cM (JD C _ _ _) (by simp[po,RM.aj]) fun k=>?_
 rw[po,RM.run_bind]
 congr 1
 funext as
 rw[hi]
 simp only
 cases hq:h as with
 |none=>rfl
 |some q=>rfl
def So(o:Oper)(s:St):qh×List (Nat×ba)→Option Out
 |(.val r,wr)=>some (.norm { s with fr:=bZ s.fr o.dst r,hp:=av s.hp wr })
 |(.od v,wr)=>some (.od v { s with hp:=av s.hp wr })
def MI(o:Oper)(s:St):qh×ak→Option Out
 |(.val r,hp)=>some (.norm { s with fr:=bZ s.fr o.dst r,hp:=jW s.hp.length r hp })
 |(.od v,hp)=>some (.od v { s with hp:=jW s.hp.length v hp })
def gI(o:Oper)(s:St)(e:eg):Option Out:=some (.norm { s with fr:=bZ s.fr o.dst e.val,hp:=av s.hp e.wr })
def rP(nm:Nat)(lg:List Nat)(hp:ak):qh×ak→Option (eg×List Nat)
 |(.val r,eX)=>((eh nm r eX).run hp).map fun e=>(e,lg)
 |_=>none
noncomputable def HW[ah](C:Ctx)(nm:Nat)(g:FuncId)(args:List AV)(hp:ak):Option (eg×List Nat):=
 ((bg 1000 args).run hp).bind fun as=>match C.gP g with
   |some h=>(h as).bind fun q=>((eh nm q.1 q.2).run hp).map fun e=>(e,(bg 1000 args).log hp)
   |none=>(jt C g as []).bind (rP nm ((bg 1000 args).log hp) hp)
theorem Ag{nm:Nat}{r:AV}{eX hp:ak}:(eh nm r eX).log hp=[]:=by
 unfold eh
 split
 ·split
  ·split<;>rfl
  ·rfl
 ·rfl
theorem CA[ah]{F:List AV→Option (qh×ak)}{nm:Nat}{g:FuncId}{args:List AV}{hp:ak}:
  ((jr C F nm g args).run hp).map (fun e=>(e,(jr C F nm g args).log hp))=((bg 1000 args).run hp).bind fun as=>match C.gP g with
    |some h=>(h as).bind fun q=>((eh nm q.1 q.2).run hp).map fun e=>(e,(bg 1000 args).log hp)
    |none=>(F as).bind (rP nm ((bg 1000 args).log hp) hp):=by
 unfold jr
 rw[RM.run_bind,RM.fN]
 cases hs:(bg 1000 args).run hp with
 |none=>rfl
 |some as=>
  simp only[Option.bind_some]
  cases hi:C.gP g with
  |some h=>
   simp only
   cases hh:h as with
   |none=>rfl
   |some q=>simp only[Option.bind_some,Ag,List.append_nil]
  |none=>
   simp only
   cases hq:F as with
   |none=>rfl
   |some q=>
    obtain⟨r,eX⟩:=q
    cases r with
    |val v=>simp only[Option.bind_some,rP,Ag,List.append_nil]
    |od v=>rfl
theorem HX[ah]{F:List AV→Option (qh×ak)}{nm:Nat}{g:FuncId}{args:List AV}{hp:ak}:
  (jr C F nm g args).run hp=(((bg 1000 args).run hp).bind fun as=>match C.gP g with
    |some h=>(h as).bind fun q=>((eh nm q.1 q.2).run hp).map fun e=>(e,(bg 1000 args).log hp)
    |none=>(F as).bind (rP nm ((bg 1000 args).log hp) hp)).map Prod.fst:=by
 rw[←CA]
 cases (jr C F nm g args).run hp<;>rfl
noncomputable def CB[ah](C:Ctx)(o:Oper)(s:St):FuncId×List AV→Option Out
 |(g,args)=>match aC o.op with
  |true=>(HW C s.hp.length g args s.hp).bind fun q=>gI o s q.1
  |false=>match C.kind g with
   |.pure=>(ME C g args s.hp).bind (So o s)
   |.imp=>(jt C g args s.hp).bind (MI o s)
theorem Fq{run:Code→St→Option Out}{ev:Nat→Code→St→Option Out}(hg:∀ c s,gH fun k=>ev k c s)(hl:∀ c s r,run c s=some r→∃ k,ev k c s=some r)
  {n:Nat} {args:List AV} {dst:Option Tmp} {s:St} {r:Out} (hy:iU run n args dst s=some r):∃ k,iU (ev k) n args dst s=some r:=by
 unfold iU at hy ⊢
 split at hy
 case h_2=>simp at hy
 rename_i fn ps as bd fr ho
 split at hy
 case h_2=>simp at hy
 rename_i hc
 split at hy
 case h_2=>simp at hy
 rename_i s1 h1
 obtain⟨k1,e1⟩:=hl _ _ _ h1
 split at hy
 case h_2=>simp at hy
 rename_i h2
 have two:∀ o,run bd { s1 with hp:=qQ s1.hp n .busy }=some o→∃ k,ev k as ⟨fn,gG fr ps.toList args,s.hp⟩=some (.norm s1)∧ev k bd { s1 with hp:=qQ s1.hp n .busy }=some o:=by
  intro o h3
  obtain⟨k2,e2⟩:=hl _ _ _ h3
  exact⟨k1+k2,(hg _ _).le e1 k2,by rw[Nat.add_comm]; exact(hg _ _).le e2 k1⟩
 split at hy
 ·rename_i s2 h3
  obtain⟨k,a,b⟩:=two _ h3
  exact⟨k,by simp only[a,h2,b]; exact hy⟩
 ·rename_i id s2 h3
  obtain⟨k,a,b⟩:=two _ h3
  exact⟨k,by simp only[a,h2,b]; exact hy⟩
 ·rename_i s2 h3
  obtain⟨k,a,b⟩:=two _ h3
  exact⟨k,by simp only[a,h2,b]; exact hy⟩
 ·simp at hy
noncomputable def MJ[ah](C:Ctx)(o:Oper)(s:St)(args:List AV):AV→Option Out
 |.mp true n=>iU (fun c s=>dw C c s) n args o.dst s
 |_=>none
noncomputable def qo[ah](C:Ctx)(o:Oper)(s:St)(args:List AV)(fv:AV):Option (FuncId×List AV)→Option Out
 |some q=>CB C o s q
 |none=>MJ C o s args fv
noncomputable def W6[ah](s:St):qh×ak→Option Out
 |(.val _,BT)=>zX s s.hp.length BT
 |_=>none
theorem HY[ah](f:Operand)(ps:Array Tmp)(as bd:Code)(s:St):dw C (.rangeFunc f ps as bd) s =
  (bV (aP s.fr f) [.mp true s.hp.length]).bind fun q=>(jt C q.1 q.2 (s.hp++[some (.iI (.loop s.fn ps as bd .ready) (zU as bd s.fr))])).bind (W6 s):=by
 cases hr:bV (aP s.fr f) [.mp true s.hp.length] with
 |none=>exact cM (eO C _ _) (by simp[cx]) fun k=>by simp only[cx,hr]; rfl
 |some q=>
  obtain⟨g,args⟩:=q
  simp only[Option.bind_some]
  refine iw (eO C _ _) (kV C g args _) (by simp[cx]) fun k=>?_
  simp only[cx,hr]
  cases hq:pn C k g args (s.hp++[some (.iI (.loop s.fn ps as bd .ready) (zU as bd s.fr))]) with
  |none=>rfl
  |some q=>obtain⟨r,BT⟩:=q; cases r<;>rfl
theorem pN[ah]{dst:Option Tmp}{f:Operand}{args:Array Operand}{ru:Array TypeId}{type:TypeId}{pos:String}{after:Array Edge}{guard:Option (Nat×Bool)}(s:St):
  jv C ⟨dst,.call ⟨.value f,args,ru⟩,type,pos,after,guard⟩ s=qo C ⟨dst,.call ⟨.value f,args,ru⟩,type,pos,after,guard⟩ s (args.toList.map (aP s.fr)) (aP s.fr f)
   (bV (aP s.fr f) (args.toList.map (aP s.fr))):=by
 cases hr:bV (aP s.fr f) (args.toList.map (aP s.fr)) with
 |none=>
  simp only[qo,MJ]
  split
  ·rename_i n hn
   have ft:∀ k,iV C (k+1) ⟨dst,.call ⟨.value f,args,ru⟩,type,pos,after,guard⟩ s=iU (fun c s=>cx C k c s) n (args.toList.map (aP s.fr)) dst s:=fun k=>by simp only[iV,hr]; rw[hn]
   apply mJ (nq C _ _)
   ·intro k x hx
    cases k with
    |zero=>simp[iV]at hx
    |succ k=>
     rw[ft]at hx
     exact yf (fun c s r h=>(bl (eO C c s)).2 ⟨k,h⟩) hx
   ·intro x hx
    obtain⟨k,hk⟩:=Fq (fun c s=>eO C c s) (fun c s r h=>(bl (eO C c s)).1 h) hx
    exact⟨k+1,by rw[ft]; exact hk⟩
  ·rename_i dP
   refine cM (nq C _ _) (by simp[iV]) fun k=>?_
   simp only[iV,hr]
 |some q=>
  obtain⟨g,as⟩:=q
  simp only[qo,CB]
  cases ui:aC (Op.call ⟨.value f,args,ru⟩) with
  |true=>
   have ft:∀ k,iV C (k+1) ⟨dst,.call ⟨.value f,args,ru⟩,type,pos,after,guard⟩ s =
     (((bg 1000 as).run s.hp).bind fun qp=>match C.gP g with
       |some h=>(h qp).bind fun q=>((eh s.hp.length q.1 q.2).run s.hp).map fun e=>(e,(bg 1000 as).log s.hp)
       |none=>(pn C k g qp []).bind (rP s.hp.length ((bg 1000 as).log s.hp) s.hp)).bind fun q=>gI ⟨dst,.call ⟨.value f,args,ru⟩,type,pos,after,guard⟩ s q.1:=by
    intro k
    simp only[iV,hr,ui,HX]
    cases (((bg 1000 as).run s.hp).bind fun qp=>match C.gP g with
      |some h=>(h qp).bind fun q=>((eh s.hp.length q.1 q.2).run s.hp).map fun e=>(e,(bg 1000 as).log s.hp)
      |none=>(pn C k g qp []).bind (rP s.hp.length ((bg 1000 as).log s.hp) s.hp))<;>rfl
   simp only[HW]
   cases hs:(bg 1000 as).run s.hp with
   |none=>exact cM (nq C _ _) (by simp[iV]) fun k=>by rw[ft,hs]; rfl
   |some qp=>
    simp only[Option.bind_some]
    cases hi:C.gP g with
    |some h=>exact cM (nq C _ _) (by simp[iV]) fun k=>by rw[ft,hs]; simp only[Option.bind_some,hi]
    |none=>
     simp only[Option.bind_assoc]
     refine iw (nq C _ _) (kV C g qp []) (by simp[iV]) fun k=>?_
     rw[ft,hs]
     simp only[Option.bind_some,hi,Option.bind_assoc]
  |false=>
  simp only
  cases hk:C.kind g with
  |pure=>
   refine iw (nq C _ _) (JD C g as s.hp) (by simp[iV]) fun k=>?_
   simp only[iV,hr,ui,hk]
   cases hq:(po C k g as).run s.hp with
   |none=>rfl
   |some q=>obtain⟨r,wr⟩:=q; cases r<;>rfl
  |imp=>
   refine iw (nq C _ _) (kV C g as s.hp) (by simp[iV]) fun k=>?_
   simp only[iV,hr,ui,hk]
   cases hq:pn C k g as s.hp with
   |none=>rfl
   |some q=>obtain⟨r,wr⟩:=q; cases r<;>rfl
def sR:Op→Bool
 |.call c=>match c.callee with
  |.builtin _=>true
  |_=>false
 |.assign (.const (.slice none 0 0))=>false
 |_=>true
def JE(C:Ctx)(o:Oper)(s:St)(e:eg):Option Out:=some (.norm (E6 (match o.op with|.call _=>fun _=>[]|_=>C.tB s.fn) o.dst { s with fr:=bZ s.fr o.dst e.val,hp:=av s.hp e.wr }))
theorem Ah{dst:Option Tmp}{s:St}:E6 (fun _=>[]) dst s=s:=by cases dst<;>rfl
theorem Ai[ah]{o:Oper}(h:sR o.op=true)(s:St):jv C o s=((aV C.P s.hp.length (aP s.fr) o).run s.hp).bind (JE C o s):=by
 refine cM (nq C _ _) (by simp[iV]) fun k=>?_
 obtain⟨dst,op,type,pos,after,guard⟩:=o
 rw[iV]
 split
 ·grind[JE,Ah,sR]
 ·simp_all[sR]
 ·grind[JE]
class jw(C:Ctx):Prop where
 h:C.tB=fun _ _=>[]
 ja:C.ja=fun _ _=>[]
theorem ff[ah][jw C]{o:Oper}(h:sR o.op=true)(s:St):jv C o s=((aV C.P s.hp.length (aP s.fr) o).run s.hp).bind (gI o s):=by
 rw[Ai h]
 congr 1
 funext e
 have hl:(match o.op with|.call _=>fun _=>[]|_=>C.tB s.fn)=fun _=>[]:=by
  rw[jw.h (C:=C)]; cases o.op<;>rfl
 simp only[JE,hl,Ah,gI]
theorem ML[ah]{dst:Tmp}{type:TypeId}{pos:String}{after:Array Edge}{guard:Option (Nat×Bool)}(s:St):
  jv C ⟨some dst,.assign (.const (.slice none 0 0)),type,pos,after,guard⟩ s =
   cond (C.acc s.fn dst) ((aU C.P type).bind fun r=>if 0<r.size then some (.norm { s with fr:=s.fr.set dst (.bw r.size s.hp.length 0 0 0 none),hp:=s.hp++[some (.arr true true false [])] }) else none)
    (some (.norm { s with fr:=s.fr.set dst (.lit cz) })):=by
 refine cM (nq C _ _) (by simp[iV]) fun k=>?_
 simp only[iV]
 cases C.acc s.fn dst with
 |true=>
  simp only[if_true,cond_true]
  cases aU C.P type<;>rfl
 |false=>rfl
end Go.PI
end
section
/- PI, drawn regions without fuel. -/
namespace Go.PI
variable {C:Ctx}
noncomputable def KP[ah](C:Ctx)(nm:Nat)(o:Oper)(fr:List AV)(hp:ak):Option (eg×List Nat):=
 uj fun k=>((kK C k nm o fr).run hp).map fun e=>(e,(kK C k nm o fr).log hp)
theorem MM[ah](C:Ctx)(nm:Nat)(o:Oper)(fr:List AV)(hp:ak):gH fun k=>((kK C k nm o fr).run hp).map fun e=>(e,(kK C k nm o fr).log hp):=by
 intro k x h
 simp only at h ⊢
 cases hq:(kK C k nm o fr).run hp with
 |none=>rw[hq]at h; simp at h
 |some e=>
  obtain⟨h1,h2⟩:=(mono C k).e nm o fr hp e hq
  rw[hq]at h
  rw[h1,h2]
  exact h
def TA[ah](x:Item)(s:St):eg×List Nat→Option (St×gB)
 |(e,lg)=>
  if e.wr.all (fun q=>decide (q.1<s.hp.length)&&((aC x.o.op&&decide (q.1=x.nm))||(match s.hp[q.1]? with|some (some _)=>true|_=>false)))=true then
   some ({ s with fr:=bZ s.fr x.o.dst e.val,hp:=av s.hp e.wr },⟨x.idx,lg,e.wr.map (·.1)⟩)
  else none
noncomputable def Fs[ah](C:Ctx)(ops:Array Oper)(x:Item)(s:St):Option (St×gB):=
 match dg ops s.fr x.o with
 |none=>none
 |some false=>some ({ s with fr:=bZ s.fr x.o.dst .undef },⟨x.idx,[],[]⟩)
 |some true=>(KP C (x.at s.hp.length) x.o s.fr s.hp).bind (TA x s)
noncomputable def vJ[ah](C:Ctx)(ops:Array Oper):List Item→St→Option (St×List gB)
 |[],s=>some (s,[])
 |x::rest,s=>(Fs C ops x s).bind fun q=>(vJ C ops rest q.1).map fun q'=>(q'.1,q.2::q'.2)
theorem Aj[ah](ops:Array Oper)(x:Item)(s:St):gH fun k=>gp (fun nm o fr=>kK C k nm o fr) ops x s:=
 fun k r h=>Af (fun nm o fr hp=>(mono C k).e nm o fr hp) ops x s r h
theorem rR[ah](ops:Array Oper)(l:List Item)(s:St):gH fun k=>cV (fun nm o fr=>kK C k nm o fr) ops l s:=
 fun k r h=>qn (fun nm o fr hp=>(mono C k).e nm o fr hp) ops l s r h
theorem JF[ah]{α β:Type}{a:Nat→Option α}(ha:gH a)(f:α→Option β):uj (fun k=>(a k).bind f)=(uj a).bind f:=by
 apply mJ
 ·intro k x h
  cases hq:a k with
  |none=>simp[hq]at h
  |some y=>
   have h2:=ha k y hq
   simp only[hq]at h
   simp only[h2]
   exact h
 ·intro k x h
  cases hq:a k with
  |none=>simp[hq]at h
  |some y=>simp only[hq]at h; rw[(bl ha).2 ⟨k,hq⟩]; exact h
 ·intro x h
  cases hq:uj a with
  |none=>rw[hq]at h; simp at h
  |some y=>
   rw[hq]at h
   obtain⟨k,hk⟩:=(bl ha).1 hq
   exact⟨k,by rw[hk]; exact h⟩
theorem KQ[ah](ops:Array Oper)(x:Item)(s:St):uj (fun k=>gp (fun nm o fr=>kK C k nm o fr) ops x s)=Fs C ops x s:=by
 unfold Fs
 cases hw:dg ops s.fr x.o with
 |none=>simp only[gp,hw]; exact iu _
 |some b=>
  cases b with
  |false=>simp only[gp,hw]; exact iu _
  |true=>
   rw[show (fun k=>gp (fun nm o fr=>kK C k nm o fr) ops x s)=fun k=>(((kK C k (x.at s.hp.length) x.o s.fr).run s.hp).map fun e=>(e,(kK C k (x.at s.hp.length) x.o s.fr).log s.hp)).bind (TA x s) from ?_]
   ·exact JF (MM C (x.at s.hp.length) x.o s.fr s.hp) _
   ·funext k
    simp only[gp,hw]
    cases hq:(kK C k (x.at s.hp.length) x.o s.fr).run s.hp<;>rfl
theorem rU[ah](ops:Array Oper):∀ (l:List Item) (s:St),uj (fun k=>cV (fun nm o fr=>kK C k nm o fr) ops l s)=vJ C ops l s
 |[],s=>iu _
 |x::l,s=>by
  simp only[vJ]
  rw[←KQ]
  apply mJ (rR ops (x::l) s)
  ·intro k r h
   simp only[cV]at h
   cases hq:gp (fun nm o fr=>kK C k nm o fr) ops x s with
   |none=>rw[hq]at h; simp at h
   |some q=>
    obtain⟨s1,f⟩:=q
    rw[hq]at h
    simp only at h
    rw[(bl (Aj ops x s)).2 ⟨k,hq⟩]
    cases hd:cV (fun nm o fr=>kK C k nm o fr) ops l s1 with
    |none=>rw[hd]at h; simp at h
    |some q2=>
     rw[hd]at h
     simp only[Option.bind_some]
     rw[←rU ops l s1,(bl (rR ops l s1)).2 ⟨k,hd⟩]
     exact h
  ·intro r h
   cases hq:uj (fun k=>gp (fun nm o fr=>kK C k nm o fr) ops x s) with
   |none=>rw[hq]at h; simp at h
   |some q=>
    obtain⟨s1,f⟩:=q
    rw[hq]at h
    simp only[Option.bind_some]at h
    rw[←rU ops l s1]at h
    cases hd:uj (fun k=>cV (fun nm o fr=>kK C k nm o fr) ops l s1) with
    |none=>rw[hd]at h; simp at h
    |some q2=>
     rw[hd]at h
     obtain⟨k1,h1⟩:=(bl (Aj ops x s)).1 hq
     obtain⟨k2,h2⟩:=(bl (rR ops l s1)).1 hd
     have h3:=(Aj ops x s).le h1 k2
     have h4:=(rR ops l s1).le h2 k1
     rw[Nat.add_comm]at h4
     refine⟨k1+k2,?_⟩
     simp only[cV]
     rw[h3]
     simp only
     rw[h4]
     exact h
noncomputable def JG[ah](C:Ctx)(ops:Array Oper)(m:Nat)(q:St×List gB):Option Out:=
 if (gi (cH ops.toList) q.2&&oW (cH ops.toList) ops.size m)=true then dc (jv C) ops (ops.toList.drop m) q.1 else none
theorem KR[ah](id:Nat)(ops:Array Oper)(h:vq ops=true)(s:St):dw C (.region id ops true) s =
  (vJ C ops (bW 0 s.hp.length (ops.toList.take (C.head s.fn id ops))) { iR (C.ja s.fn id) s with hp:=(iR (C.ja s.fn id) s).hp++List.replicate ((ops.toList.take (C.head s.fn id ops)).filter fun o=>aC o.op).length none }).bind (JG C ops (C.head s.fn id ops)):=by
 rw[←rU]
 refine Eq.trans (vG (eO C (.region id ops true) s) (rR ops _ _) (b:=fun q k=>if (gi (cH ops.toList) q.2&&oW (cH ops.toList) ops.size (C.head s.fn id ops))=true then
   dc (fun o s=>iV C k o s) ops (ops.toList.drop (C.head s.fn id ops)) q.1 else none) (fun q=>by
    by_cases hc:(gi (cH ops.toList) q.2&&oW (cH ops.toList) ops.size (C.head s.fn id ops))=true
    ·simp only[hc,if_true]; exact fe ops _ _
    ·simp only[hc]; exact oq _) (by simp[cx]) (fun k=>by
   simp only[cx,h,if_true]
   cases hq:cV (fun nm o fr=>kK C k nm o fr) ops (bW 0 s.hp.length (ops.toList.take (C.head s.fn id ops))) { iR (C.ja s.fn id) s with hp:=(iR (C.ja s.fn id) s).hp++List.replicate ((ops.toList.take (C.head s.fn id ops)).filter fun o=>aC o.op).length none } with
   |none=>rfl
   |some q=>rfl)) ?_
 congr 1
 funext q
 unfold JG
 by_cases hc:(gi (cH ops.toList) q.2&&oW (cH ops.toList) ops.size (C.head s.fn id ops))=true
 ·simp only[hc,if_true]; exact lq ops _ _
 ·simp only[hc]; exact iu _
theorem HZ[ah]{o:Oper}(h:∀ c f,o.op=.call c→c.callee=.value f→False)(h2:∀ c m i,o.op=.call c→c.callee=.invoke m i→False)(nm:Nat)(fr:List AV)(hp:ak):
  KP C nm o fr hp=((aV C.P nm (aP fr) o).run hp).map fun e=>(e,(aV C.P nm (aP fr) o).log hp):=by
 refine cM (MM C _ _ _ _) (by simp[kK,RM.aj]) fun k=>?_
 obtain⟨dst,op,type,pos,after,guard⟩:=o
 cases op with
 |call c=>
  obtain⟨callee,args,ru⟩:=c
  cases callee with
  |builtin b=>simp only[kK]
  |value f=>exact(h _ _ rfl rfl).elim
  |invoke m i=>exact(h2 _ _ _ rfl rfl).elim
 |_=>simp only[kK]
def MN(hp:ak)(args:List AV)(q:qh×ak):List Nat:=(bg 1000 args).log hp++(iq args q.2 q.1).log hp
def pO(hp:ak)(args:List AV)(q:qh×ak):Option (eg×List Nat):=
 (pM hp args q).bind fun r=>match r.1 with
   |.val v=>some (⟨v,r.2⟩,MN hp args q)
   |.od _=>none
noncomputable def Ak[ah](C:Ctx)(nm:Nat)(al:Bool)(hp:ak):FuncId×List AV→Option (eg×List Nat)
 |(g,args)=>match al with
  |true=>HW C nm g args hp
  |false=>match C.kind g with
  |.pure=>match C.kZ g with
   |some h=>((bg 1000 args).run hp).bind fun as=>(h as).bind fun r=>pO hp args (.val r,[])
   |none=>((bg 1000 args).run hp).bind fun as=>(jt C g as []).bind (pO hp args)
  |.imp=>(match C.rB g with
   |some h=>((h args).run hp).map fun e=>(e,(h args).log hp)
   |none=>((BV C.P nm g args).run hp).map fun e=>(e,(BV C.P nm g args).log hp))
theorem MO[ah]{hp:ak}{args as:List AV}{g:FuncId}{k:Nat}(hs:(bg 1000 args).run hp=some as)(hi:C.kZ g=none){q:qh×ak}(hq:pn C k g as []=some q):
  (((po C (k+1) g args >>= fun (x:qh×List (Nat×ba))=>match x.1 with|.val r=>(pure ⟨r,x.2⟩:RM eg)|.od _=>RM.fail).run hp).map fun e=>(e,(po C (k+1) g args >>= fun (x:qh×List (Nat×ba))=>match x.1 with|.val r=>(pure ⟨r,x.2⟩:RM eg)|.od _=>RM.fail).log hp))=pO hp args q:=by
 have h1:(po C (k+1) g args).run hp=pM hp args q:=by
  rw[po,RM.run_bind,hs]
  simp only[Option.bind_some,hi,hq]
  rfl
 have h2:(po C (k+1) g args).log hp=MN hp args q:=by
  rw[po,RM.fN,hs]
  simp only[hi,hq]
  rfl
 rw[RM.run_bind,RM.fN,h1,h2]
 unfold pO
 cases cU:pM hp args q with
 |none=>rfl
 |some r=>
  obtain⟨r,wr⟩:=r
  cases r with
  |val v=>simp only[Option.bind_some,pure,RM.log,List.append_nil]; rfl
  |od v=>rfl
theorem xe[ah]{dst:Option Tmp}{f:Operand}{args:Array Operand}{ru:Array TypeId}{type:TypeId}{pos:String}{after:Array Edge}{guard:Option (Nat×Bool)}(nm:Nat)(fr:List AV)(hp:ak):
  KP C nm ⟨dst,.call ⟨.value f,args,ru⟩,type,pos,after,guard⟩ fr hp=(bV (aP fr f) (args.toList.map (aP fr))).bind (Ak C nm (aC (Op.call ⟨.value f,args,ru⟩)) hp):=by
 have hg:=MM C nm ⟨dst,.call ⟨.value f,args,ru⟩,type,pos,after,guard⟩ fr hp
 have hz:((kK C 0 nm ⟨dst,.call ⟨.value f,args,ru⟩,type,pos,after,guard⟩ fr).run hp).map (fun e=>(e,(kK C 0 nm ⟨dst,.call ⟨.value f,args,ru⟩,type,pos,after,guard⟩ fr).log hp))=none:=by
  simp[kK,RM.aj]
 cases hr:bV (aP fr f) (args.toList.map (aP fr)) with
 |none=>exact cM hg hz fun k=>by simp only[kK,hr,RM.aj]; rfl
 |some q=>
  obtain⟨g,as⟩:=q
  simp only[Option.bind_some,Ak]
  cases ui:aC (Op.call ⟨.value f,args,ru⟩) with
  |true=>
   have ft:∀ k,((kK C (k+1) nm ⟨dst,.call ⟨.value f,args,ru⟩,type,pos,after,guard⟩ fr).run hp).map (fun e=>(e,(kK C (k+1) nm ⟨dst,.call ⟨.value f,args,ru⟩,type,pos,after,guard⟩ fr).log hp)) =
     ((bg 1000 as).run hp).bind fun qp=>match C.gP g with
       |some h=>(h qp).bind fun q=>((eh nm q.1 q.2).run hp).map fun e=>(e,(bg 1000 as).log hp)
       |none=>(pn C k g qp []).bind (rP nm ((bg 1000 as).log hp) hp):=by
    intro k
    have:=CA (C:=C) (F:=fun as=>pn C k g as []) (nm:=nm) (g:=g) (args:=as) (hp:=hp)
    simp only[kK,hr,ui]
    exact this
   simp only[HW]
   cases hs:(bg 1000 as).run hp with
   |none=>exact cM hg hz fun k=>by rw[ft,hs]; rfl
   |some qp=>
    simp only[Option.bind_some]
    cases hi:C.gP g with
    |some h=>exact cM hg hz fun k=>by rw[ft,hs]; simp only[Option.bind_some,hi]
    |none=>
     refine iw hg (kV C g qp []) hz fun k=>?_
     rw[ft,hs]
     simp only[Option.bind_some,hi]
  |false=>
  simp only
  cases hk:C.kind g with
  |imp=>
   cases hi:C.rB g with
   |some h=>exact cM hg hz fun k=>by simp only[kK,hr,ui,hk,hi]
   |none=>exact cM hg hz fun k=>by simp only[kK,hr,ui,hk,hi]
  |pure=>
   simp only
   have qt:∀ k,kK C (k+1) nm ⟨dst,.call ⟨.value f,args,ru⟩,type,pos,after,guard⟩ fr =
     (po C k g as >>= fun (x:qh×List (Nat×ba))=>match x.1 with|.val r=>(pure ⟨r,x.2⟩:RM eg)|.od _=>RM.fail):=by
    intro k
    simp only[kK,hr,ui,hk]
    congr 1
   cases hs:(bg 1000 as).run hp with
   |none=>
    have bK:∀ k,(po C k g as).run hp=none:=by
     intro k
     cases k with
     |zero=>simp[po,RM.aj]
     |succ k=>rw[po,RM.run_bind,hs]; rfl
    have:(match C.kZ g with
      |some h=>(none:Option (List AV)).bind fun qp=>(h qp).bind fun r=>pO hp as (.val r,[])
      |none=>(none:Option (List AV)).bind fun qp=>(jt C g qp []).bind (pO hp as))=none:=by cases C.kZ g<;>rfl
    rw[this]
    refine cM hg hz fun k=>?_
    rw[qt,RM.run_bind,bK]; rfl
   |some qp=>
    cases hi:C.kZ g with
    |some h=>
     simp only[Option.bind_some]
     have h1:∀ k,(po C (k+1) g as).run hp=(h qp).bind fun r=>pM hp as (.val r,[]):=by
      intro k
      rw[po,RM.run_bind,hs]
      simp only[Option.bind_some,hi]
      cases h qp<;>rfl
     have h2:∀ k,(po C (k+1) g as).log hp=(bg 1000 as).log hp++(match h qp with|some r=>(iq as [] (.val r)).log hp|none=>[]):=by
      intro k
      rw[po,RM.fN,hs]
      simp only[hi]
      cases h qp<;>rfl
     have h3:∀ k,((kK C (k+1+1) nm ⟨dst,.call ⟨.value f,args,ru⟩,type,pos,after,guard⟩ fr).run hp).map (fun e=>(e,(kK C (k+1+1) nm ⟨dst,.call ⟨.value f,args,ru⟩,type,pos,after,guard⟩ fr).log hp))=(h qp).bind fun r=>pO hp as (.val r,[]):=by
      intro k
      rw[qt,RM.run_bind,RM.fN,h1,h2]
      cases hh:h qp with
      |none=>rfl
      |some r=>
       simp only[Option.bind_some,pO]
       cases cU:pM hp as (.val r,[]) with
       |none=>rfl
       |some r=>
        obtain⟨r,wr⟩:=r
        cases r with
        |val v=>simp only[Option.bind_some,pure,RM.log,List.append_nil]; rfl
        |od v=>rfl
     apply mJ hg
     ·intro k x hx
      match k with
      |0=>rw[hz]at hx; cases hx
      |1=>
       rw[qt,RM.run_bind]at hx
       simp[po,RM.aj]at hx
      |k+2=>rw[←h3 k]; exact hx
     ·intro x hx
      exact⟨2,by rw[h3 0]; exact hx⟩
    |none=>
     simp only[Option.bind_some]
     have h3:∀ k,((kK C (k+1+1) nm ⟨dst,.call ⟨.value f,args,ru⟩,type,pos,after,guard⟩ fr).run hp).map (fun e=>(e,(kK C (k+1+1) nm ⟨dst,.call ⟨.value f,args,ru⟩,type,pos,after,guard⟩ fr).log hp))=(pn C k g qp []).bind (pO hp as):=by
      intro k
      cases hq:pn C k g qp [] with
      |none=>
       rw[qt,RM.run_bind,po,RM.run_bind,hs]
       simp only[Option.bind_some,hi,hq,RM.aj]
       rfl
      |some q=>
       rw[qt]
       exact MO hs hi hq
     have hb:uj (fun k=>(pn C k g qp []).bind (pO hp as))=(jt C g qp []).bind (pO hp as):=JF (kV C g qp []) _
     rw[←hb]
     apply mJ hg
     ·intro k x hx
      match k with
      |0=>rw[hz]at hx; cases hx
      |1=>
       rw[qt,RM.run_bind]at hx
       simp[po,RM.aj]at hx
      |k+2=>
       rw[h3 k]at hx
       rw[hb]
       cases hq:pn C k g qp [] with
       |none=>rw[hq]at hx; simp at hx
       |some q=>rw[hq]at hx; rw[show jt C g qp []=some q from (bl (kV C g qp [])).2 ⟨k,hq⟩]; exact hx
     ·intro x hx
      rw[hb]at hx
      cases hq:jt C g qp [] with
      |none=>rw[hq]at hx; simp at hx
      |some q=>
       rw[hq]at hx
       obtain⟨k,hk⟩:=(bl (kV C g qp [])).1 hq
       exact⟨k+1+1,by rw[h3 k,hk]; exact hx⟩
end Go.PI
end
section
/- PI, guards resolved. -/
namespace Go.PI
inductive G where
 |always
 |never
 |on (d:Tmp) (w:Bool)
def fL(ops:Array Oper)(o:Oper):G:=
 match o.guard with
 |none=>.always
 |some (j,w)=>match (ops[j]?).bind (·.dst) with
  |none=>.never
  |some d=>.on d w
def WW(w:Bool):AV→Option Bool
 |.lit (.bool b)=>some (b==w)
 |.lit (.tuple _)=>some false
 |_=>none
def vw(fr:List AV):G→Option Bool
 |.always=>some true
 |.never=>some false
 |.on d w=>WW w (fr.getD d .undef)
theorem E8(ops:Array Oper)(fr:List AV)(o:Oper):dg ops fr o=vw fr (fL ops o):=by
 unfold dg fL
 cases o.guard with
 |none=>rfl
 |some q=>
  obtain⟨j,w⟩:=q
  simp only
  cases (ops[j]?).bind (·.dst) with
  |none=>rfl
  |some d=>
   simp only[vw,List.getD]
   cases hq:fr[d]? with
   |none=>rfl
   |some v=>
    simp only[Option.getD_some]
    cases v with
    |lit v=>cases v<;>rfl
    |_=>rfl
end Go.PI
end
section
/- PI, looking up in written-out frames. -/
namespace Go.PI
section
variable {α:Type}{x u v:AV}{l:List AV}{n:Nat}
theorem P0:(x::l).getD 0 u=x:=rfl
theorem P3:(x::l).getD (n+1) u=l.getD n u:=rfl
theorem P4:(x::l).set 0 v=v::l:=rfl
theorem P5:(x::l).set (n+1) v=x::l.set n v:=rfl
end
end Go.PI
end
section
/- PI, laws to compute by. -/
namespace Go.PI
abbrev int(n:Int):AV:=.lit (.int .i64 n)
abbrev bol(b:Bool):AV:=.lit (.bool b)
section
variable {P:Program}{t:TypeId}{xo yo:Operand}{k:IntKind}{a b:Int}
theorem fO{op:BinOp}{v w:Value}{α:Type}(K:Unit→Sem α)(h:∀ c,v≠.agg c)(h2:v≠.nilIface):
  bN P (eqGuard op t xo yo v w >>= K)=bN P (K ()):=by
 unfold eqGuard
 cases op<;>first
  |rfl
  |(cases v<;>first|rfl|exact absurd rfl (h _)|exact absurd rfl h2)
theorem sV[ah]:gf P .lss t xo yo (.lit (.int k a)) (.lit (.int k b))=some (bol (decide (a<b))):=by
 simp only[gf,fj,dW]; rw[fO _ (by simp) (by simp)]; simp[binOp,Op.intCmp]; rfl
theorem QL[ah]:gf P .leq t xo yo (.lit (.int k a)) (.lit (.int k b))=some (bol (decide (a≤b))):=by
 simp only[gf,fj,dW]; rw[fO _ (by simp) (by simp)]; simp[binOp,Op.intCmp]; rfl
theorem JL[ah]:gf P .gtr t xo yo (.lit (.int k a)) (.lit (.int k b))=some (bol (decide (b<a))):=by
 simp only[gf,fj,dW]; rw[fO _ (by simp) (by simp)]; simp[binOp,Op.intCmp]; rfl
theorem QM[ah]:gf P .geq t xo yo (.lit (.int k a)) (.lit (.int k b))=some (bol (decide (b≤a))):=by
 simp only[gf,fj,dW]; rw[fO _ (by simp) (by simp)]; simp[binOp,Op.intCmp]; rfl
theorem QN[ah]:gf P .eql t xo yo (.lit (.int k a)) (.lit (.int k b))=some (bol (decide (a=b))):=by
 simp only[gf,fj,dW]; rw[fO _ (by simp) (by simp)]; simp[binOp,Op.intCmp]; rfl
theorem QO[ah]:gf P .neq t xo yo (.lit (.int k a)) (.lit (.int k b))=some (bol (!decide (a=b))):=by
 simp only[gf,fj,dW]; rw[fO _ (by simp) (by simp)]; simp[binOp,Op.intCmp]; rfl
theorem DX[ah]:gf P .add t xo yo (.lit (.int k a)) (.lit (.int k b))=some (.lit (.int k (k.wrap (a+b)))):=by
 simp only[gf,fj,dW]; rw[fO _ (by simp) (by simp)]; simp[binOp,Op.intArith]; rfl
theorem JM[ah]:gf P .sub t xo yo (.lit (.int k a)) (.lit (.int k b))=some (.lit (.int k (k.wrap (a-b)))):=by
 simp only[gf,fj,dW]; rw[fO _ (by simp) (by simp)]; simp[binOp,Op.intArith]; rfl
theorem QP[ah]:gf P .mul t xo yo (.lit (.int k a)) (.lit (.int k b))=some (.lit (.int k (k.wrap (a*b)))):=by
 simp only[gf,fj,dW]; rw[fO _ (by simp) (by simp)]; simp[binOp,Op.intArith]; rfl
end
variable {C:Ctx}
noncomputable def vO[ah](C:Ctx):List (G×Oper)→St→Option Out
 |[],s=>some (.norm s)
 |(g,o)::l,s=>
  match vw s.fr g with
  |none=>none
  |some false=>vO C l { s with fr:=bZ s.fr o.dst .undef }
  |some true=>(jv C o s).bind fun
   |.norm s'=>vO C l s'
   |r=>some r
def qU(ops:Array Oper):List (G×Oper):=ops.toList.map fun o=>(fL ops o,o)
theorem rX[ah](ops:Array Oper):∀ (l:List Oper) (s:St),dc (jv C) ops l s=vO C (l.map fun o=>(fL ops o,o)) s
 |[],s=>rfl
 |o::l,s=>by
  simp only[dc,List.map_cons,vO,E8]
  cases hq:vw s.fr (fL ops o) with
  |none=>rfl
  |some b=>
   cases b with
   |false=>exact rX ops l _
   |true=>
    simp only
    cases jv C o s with
    |none=>rfl
    |some r=>
     cases r with
     |norm s'=>exact rX ops l s'
     |_=>rfl
theorem CF[ah](id:Nat)(ops:Array Oper)(s:St):dw C (.region id ops false) s=vO C (qU ops) (iR (C.ja s.fn id) s):=by
 rw[Fo,rX]; rfl
theorem jc[ah][jw C](id:Nat)(ops:Array Oper)(s:St):dw C (.region id ops false) s=vO C (qU ops) s:=by
 rw[CF,jw.ja (C:=C)]; rfl
theorem kb[ah](s:St):vO C [] s=some (.norm s):=rfl
noncomputable def Su[ah](C:Ctx)(l:List (G×Oper)):Out→Option Out
 |.norm s=>vO C l s
 |r=>some r
theorem eA[ah](o:Oper)(l:List (G×Oper))(s:St):vO C ((.always,o)::l) s=(jv C o s).bind (Su C l):=by
 simp only[vO,vw]
 congr 1
end Go.PI
namespace Go.PI
variable {C:Ctx}
theorem DY(hp:ak)(x:Option AV):(match x with|some x=>(pure ⟨x,[]⟩:RM eg)|none=>RM.fail).run hp=x.map fun x=>⟨x,[]⟩:=by
 cases x<;>rfl
section
variable {P:Program}{nm:Nat}{ev:Operand→AV}{dst:Option Tmp}{type:TypeId}{pos:String}{after:Array Edge}{guard:Option (Nat×Bool)}{hp:ak}
theorem ou{x:Operand}:(aV P nm ev ⟨dst,.move x,type,pos,after,guard⟩).run hp=some ⟨ev x,[]⟩:=rfl
theorem lr{x:Operand}:(aV P nm ev ⟨dst,.assign x,type,pos,after,guard⟩).run hp=some ⟨ev x,[]⟩:=rfl
theorem xh[ah]{op:BinOp}{t yt:TypeId}{x y:Operand}:(aV P nm ev ⟨dst,.binOp op t x y yt,type,pos,after,guard⟩).run hp=(gf P op t x y (ev x) (ev y)).map fun x=>⟨x,[]⟩:=DY _ _
end
section
variable {dst:Option Tmp}{type:TypeId}{pos:String}{after:Array Edge}{guard:Option (Nat×Bool)}{s:St}
theorem ow[ah][jw C]{x:Operand}:jv C ⟨dst,.move x,type,pos,after,guard⟩ s=((aV C.P s.hp.length (aP s.fr) ⟨dst,.move x,type,pos,after,guard⟩).run s.hp).bind (gI ⟨dst,.move x,type,pos,after,guard⟩ s):=ff rfl s
theorem B4[ah][jw C]{t:TypeId}{n:Nat}{ps:Array (Nat×Operand)}:jv C ⟨dst,.buildSlice t n ps,type,pos,after,guard⟩ s=((aV C.P s.hp.length (aP s.fr) ⟨dst,.buildSlice t n ps,type,pos,after,guard⟩).run s.hp).bind (gI ⟨dst,.buildSlice t n ps,type,pos,after,guard⟩ s):=ff rfl s
theorem JN[ah][jw C]{t:TypeId}{x:Operand}:jv C ⟨dst,.load t x,type,pos,after,guard⟩ s=((aV C.P s.hp.length (aP s.fr) ⟨dst,.load t x,type,pos,after,guard⟩).run s.hp).bind (gI ⟨dst,.load t x,type,pos,after,guard⟩ s):=ff rfl s
theorem pP[ah][jw C]{o:BinOp}{t u:TypeId}{x y:Operand}:jv C ⟨dst,.binOp o t x y u,type,pos,after,guard⟩ s=((aV C.P s.hp.length (aP s.fr) ⟨dst,.binOp o t x y u,type,pos,after,guard⟩).run s.hp).bind (gI ⟨dst,.binOp o t x y u,type,pos,after,guard⟩ s):=ff rfl s
theorem M5[ah][jw C]{t:TypeId}{x:Operand}{a b c:Option Operand}:jv C ⟨dst,.slice t x a b c,type,pos,after,guard⟩ s=((aV C.P s.hp.length (aP s.fr) ⟨dst,.slice t x a b c,type,pos,after,guard⟩).run s.hp).bind (gI ⟨dst,.slice t x a b c,type,pos,after,guard⟩ s):=ff rfl s
theorem vP[ah][jw C]{t:TypeId}{x y:Operand}:jv C ⟨dst,.indexAddr t x y,type,pos,after,guard⟩ s=((aV C.P s.hp.length (aP s.fr) ⟨dst,.indexAddr t x y,type,pos,after,guard⟩).run s.hp).bind (gI ⟨dst,.indexAddr t x y,type,pos,after,guard⟩ s):=ff rfl s
theorem lu[ah][jw C]{b:Builtin}{as:Array Operand}{ts:Array TypeId}:jv C ⟨dst,.call ⟨.builtin b,as,ts⟩,type,pos,after,guard⟩ s=((aV C.P s.hp.length (aP s.fr) ⟨dst,.call ⟨.builtin b,as,ts⟩,type,pos,after,guard⟩).run s.hp).bind (gI ⟨dst,.call ⟨.builtin b,as,ts⟩,type,pos,after,guard⟩ s):=ff rfl s
theorem pQ[ah][jw C]{t:Tmp}:jv C ⟨dst,.assign (.tmp t),type,pos,after,guard⟩ s=((aV C.P s.hp.length (aP s.fr) ⟨dst,.assign (.tmp t),type,pos,after,guard⟩).run s.hp).bind (gI ⟨dst,.assign (.tmp t),type,pos,after,guard⟩ s):=ff rfl s
theorem M6[ah][jw C]{k:IntKind}{n:Int}:jv C ⟨dst,.assign (.const (.int k n)),type,pos,after,guard⟩ s=((aV C.P s.hp.length (aP s.fr) ⟨dst,.assign (.const (.int k n)),type,pos,after,guard⟩).run s.hp).bind (gI ⟨dst,.assign (.const (.int k n)),type,pos,after,guard⟩ s):=ff rfl s
end
end Go.PI
namespace Go.PI
variable {C:Ctx}
theorem DZ{x:AV}:cY [x]=x:=rfl
theorem D0{P:Program}{fr:List AV}{hp:ak}:(bk P fr []).run hp=some []:=rfl
theorem D1[ah]{P:Program}{fr:List AV}{hp:ak}{t:Tmp}{rs:List ResultVar}:(bk P fr (.tmp t::rs)).run hp=((bk P fr rs).run hp).map fun l=>fr.getD t .undef::l:=by
 simp only[bk,lI,RM.run_bind]
 show (some (fr.getD t .undef)).bind _=_
 simp only[Option.bind_some]
 cases (bk P fr rs).run hp<;>rfl
theorem kc{hp:ak}:av hp []=hp:=rfl
theorem Ay{hp:ak}{n:Nat}{o:ba}{l:List (Nat×ba)}:av hp ((n,o)::l)=av (setObj hp n o) l:=rfl
theorem um{hp:ak}{n:Nat}{o:ba}(h:n=hp.length):setObj hp n o=hp++[some o]:=by simp[setObj,h]
def TP:Option (Nat×bO)→AV→Option eg
 |some (off,_),.ref n ax i j=>some ⟨.ref n ax i (j+off),[]⟩
 |some (off,_),.bq e j=>some ⟨.bq e (j+off),[]⟩
 |_,_=>none
def M7(x:Option AV):Option eg:=x.map fun x=>⟨x,[]⟩
def JO(r:bO)(hp:ak):AV→Option AV
 |.ref n ax i j=>match hp[n]? with
  |some (some (.arr _ _ _ es))=>if es.length=ax then (match es[i]? with|some e=>fX r.isAgg r.size e j|none=>none) else none
  |_=>none
 |.bq e j=>fX r.isAgg r.size e j
 |_=>none
theorem M8[ah]{P:Program}{t:TypeId}{r:bO}(ht:gb P t=some r){hp:ak}{a:AV}:(mA P t a).run hp=JO r hp a:=by
 unfold mA JO
 rw[ht]
 simp only
 cases a with
 |ref n ax i j=>
  simp only[RM.arr]
  show (RM.bind (.get n _) _).run hp=_
  simp only[RM.bind,RM.run]
  cases hp[n]? with
  |none=>rfl
  |some o=>
   cases o with
   |none=>rfl
   |some o=>
    cases o with
    |iI _ _=>rfl
    |arr g c f es=>
     simp only
     split
     ·simp only[RM.bind]
      cases es[i]? with
      |none=>rfl
      |some e=>simp only[RM.lf]
     ·rfl
 |bq e j=>simp only[RM.lf]
 |_=>rfl
section
variable {P:Program}{nm:Nat}{ev:Operand→AV}{dst:Option Tmp}{type:TypeId}{pos:String}{after:Array Edge}{guard:Option (Nat×Bool)}{hp:ak}
theorem QQ[ah]{t:TypeId}{x:Operand}{r:bO}(ht:gb P t=some r):(aV P nm ev ⟨dst,.load t x,type,pos,after,guard⟩).run hp=M7 (JO r hp (ev x)):=by
 rw[←M8 (P:=P) (t:=t) ht]
 unfold aV
 simp only[RM.run_bind]
 cases (mA P t (ev x)).run hp<;>rfl
end
end Go.PI
namespace Go.PI
variable {C:Ctx}
def QR(hp:ak)(args:List AV)(r':AV):Option (qh×List (Nat×ba)):=
 cond (flat r') (some (.val r',[])) (((eW 1000 (cS args)).run hp).map fun w=>(.val r',w))
theorem CG[ah]{hp eX:ak}{args:List AV}{r:AV}:pM hp args (.val r,eX)=((bn 1000 r).run eX).bind (QR hp args):=by
 simp only[pM,iq]
 cases hq:(bn 1000 r).run eX with
 |none=>rfl
 |some r'=>
  simp only[Option.bind_some,QR]
  cases flat r' with
  |true=>rfl
  |false=>
   simp only[Bool.false_eq_true,if_false,RM.run_bind,cond_false]
   cases (eW 1000 (cS args)).run hp<;>rfl
theorem H7{f:FuncId}{args:List AV}:bV (.lit (.func (.func f) #[] #[])) args=some (f,args):=by
 simp[bV]
end Go.PI
namespace Go.PI
variable {C:Ctx}
theorem H8[ah]{a b:Code}{s:St}:ZS C a b s (.lit (.bool true))=dw C a s:=rfl
theorem Az[ah]{a b:Code}{s:St}:ZS C a b s (.lit (.bool false))=dw C b s:=rfl
end Go.PI
namespace Go.PI
variable {C:Ctx}
theorem M9[ah]{b:Code}(Inv:Nat→St→Prop)(KV:Out→Prop)
  (step:∀ k s,Inv k s→(∃ s',dw C b s=some (.norm s')∧∃ k',k'<k∧Inv k' (iT s.hp.length s'))∨(∃ o,dw C b s=some o∧(∀ s',o≠.norm s')∧KV o)) :
  ∀ k s,Inv k s→∃ o,dw C (.loop b) s=some o∧KV o:=by
 intro k
 induction k using Nat.strongRecOn with
 |ind k ih=>
  intro s hs
  rcases step k s hs with ⟨s',h1,k',hk,hi⟩|⟨o,h1,h2,h3⟩
  ·obtain⟨o,h4,h5⟩:=ih k' hk _ hi
   refine⟨o,?_,h5⟩
   rw[pK,h1]
   exact h4
  ·refine⟨o,?_,h3⟩
   rw[pK,h1]
   cases o with
   |norm s'=>exact absurd rfl (h2 s')
   |_=>rfl
theorem CH[ah]{b:Code}{s:St}{β:Type}{K:Out→Option β}{r:Option β}(Inv:Nat→St→Prop)(KV:Out→Prop)(k0:Nat)(h0:Inv k0 s)
  (step:∀ k s,Inv k s→(∃ s',dw C b s=some (.norm s')∧∃ k',k'<k∧Inv k' (iT s.hp.length s'))∨(∃ o,dw C b s=some o∧(∀ s',o≠.norm s')∧KV o))
  (fin:∀ o,KV o→K o=r):(dw C (.loop b) s).bind K=r:=by
 obtain⟨o,h1,h2⟩:=M9 Inv KV step k0 s h0
 rw[h1]
 exact fin o h2
def JP(agg:Bool)(size:Nat)(hp:ak):AV→Option AV
 |.ref n ax i j=>match hp[n]? with
  |some (some (.arr _ _ _ es))=>if es.length=ax then (match es[i]? with|some e=>fX agg size e j|none=>none) else none
  |_=>none
 |.bq e j=>fX agg size e j
 |_=>none
theorem QS{r:bO}{agg:Bool}{size:Nat}(h1:r.isAgg=agg)(h2:r.size=size)(hp:ak)(a:AV):JO r hp a=JP agg size hp a:=by
 subst h1 h2
 cases a<;>rfl
def pR(agg:Bool)(size:Nat)(i:Nat):AV→Option AV
 |.sl xs=>match xs[i]? with
  |some e=>if aF agg size e=true then some (.bq e 0) else none
  |none=>none
 |.mB xs _=>match xs[i]? with
  |some e=>if aF agg size e=true then some (.bq e 0) else none
  |none=>none
 |.bw esz n ax off len _=>if i<len∧0<size∧esz=size then some (.ref n ax (off+i) 0) else none
 |.jC n ax k j len _=>if i<len then some (.ref n ax k (j+i*size)) else none
 |_=>none
theorem uo{k:IntKind}{n:Nat}:asNat (.lit (.int k (n:Int)))=some n:=by simp[asNat]
def Na(P:Program)(nm:Nat)(ev:Operand→AV)(o:Oper)(hp:ak):Option eg:=(aV P nm ev o).run hp
def KW(d:Option eg):AV→Option eg
 |.sl xs=>some ⟨int xs.length,[]⟩
 |.mB xs _=>some ⟨int xs.length,[]⟩
 |.bw _ _ _ _ len _=>some ⟨int len,[]⟩
 |.jC _ _ _ _ len _=>some ⟨int len,[]⟩
 |_=>d
theorem Nb{P:Program}{t:TypeId}{r:bO}(h:aU P t=some r)(ha:arrayElem P t=none)(x ix:AV):
  gh P t x ix=(asNat ix).bind fun i=>pR r.isAgg r.size i x:=by
 unfold gh
 cases asNat ix with
 |none=>rfl
 |some i=>
  simp only[Option.bind_some,h,ha]
  cases x with
  |sl xs=>simp only[pR]; cases xs[i]?<;>rfl
  |mB xs c=>simp only[pR]; cases xs[i]?<;>rfl
  |_=>rfl
section
variable {P:Program}{nm:Nat}{ev:Operand→AV}{dst:Option Tmp}{type:TypeId}{pos:String}{after:Array Edge}{guard:Option (Nat×Bool)}{hp:ak}
theorem vQ[ah]{t:TypeId}{x y:Operand}:(aV P nm ev ⟨dst,.indexAddr t x y,type,pos,after,guard⟩).run hp=M7 (gh P t (ev x) (ev y)):=DY _ _
theorem H9{t type:TypeId}{x:Operand}(h:cf P t=true):(aV P nm ev ⟨dst,.call ⟨.builtin .len,#[x],#[t]⟩,type,pos,after,guard⟩).run hp =
  KW (Na P nm ev ⟨dst,.call ⟨.builtin .len,#[x],#[t]⟩,type,pos,after,guard⟩ hp) (ev x):=by
 cases hx:ev x with
 |sl xs=>simp[aV,eb,hx,h,qi,KW]; rfl
 |mB xs c=>simp[aV,eb,hx,h,qi,KW]; rfl
 |bw a b c d e f=>simp[aV,eb,hx,h,qi,KW]; rfl
 |jC a b c d e f=>simp[aV,eb,hx,h,qi,KW]; rfl
 |_=>rfl
end
end Go.PI
namespace Go.PI
variable {C:Ctx}
theorem dE[ah]{b:Code}{s:St}:andThen C b (.norm s)=dw C b s:=rfl
theorem vR[ah]{b:Code}{s:St}{i:Nat}:andThen C b (.exit i s)=some (.exit i s):=rfl
theorem fm[ah]{l:List (G×Oper)}{s:St}:Su C l (.norm s)=vO C l s:=rfl
theorem yi{i:Nat}{s:St}:xd i (.norm s)=some (.norm s):=rfl
theorem CI{i:Nat}{s:St}:xd i (.exit i s)=some (.norm s):=by simp[xd]
theorem AA{rs:Array ResultVar}{s:St}:MG C rs (.ret s)=((bk C.P s.fr rs.toList).run s.hp).map fun l=>(.val (cY l),s.hp):=rfl
theorem FA{n:Nat}{s:St}(h:(s.hp.take n).all (mj n)=true):iT n s=⟨s.fn,s.fr.map (forget n),s.hp.take n⟩:=by
 simp[iT,h]
theorem KX{n:Nat}{v:AV}(h:below n v=true):forget n v=v:=by simp[forget,h]
end Go.PI
namespace Go.PI
theorem D2{d:Option eg}{xs:List AV}:KW d (.sl xs)=some ⟨int xs.length,[]⟩:=rfl
end Go.PI
namespace Go.PI
end Go.PI
end
section
/- PI, calls whose argument may be a nil slice or not: both are looked at. -/
namespace Go.PI
end Go.PI
end
section
/- PI, the laws: what a law's own call comes to. -/
namespace Go.PI
open Go.RowKit
theorem KL[ah]{C:Ctx}(cj:C.Ok){f:FuncId}{args:List AV}{cU:ak}(h:jt C f args []=some (.val (.lit (.bool true)),cU))
  {W:World} (hg:mn (Env.all W)) {vs:List Value} (ha:aw (Env.all W) false args vs) :
  Calls C.P f vs.toArray W fun e w'=>e=.returned (.bool true)∧Below W.heap.size W w':=by
 obtain⟨k,hk⟩:=(bl (kV C f args [])).1 h
 refine((sound cj k).1 f args [] _ _ hk (Env.all W) W vs (QC W hg) ha.jF).mono fun e w' eN=>?_
 obtain⟨E',_,_,gk,dR⟩:=eN
 refine⟨?_,gk.os,gk.tape,gk.out,gk.size,fun b hb=>gk.same b hb (fun h=>h.elim)⟩
 cases e with
 |returned v=>simp only[Ae,ar]at dR; rw[dR]
 |panicked ch=>exact dR.elim
 |outgrown=>exact dR.elim
end Go.PI
end
section
/- PS, part A: symbolic values over the abstract ones, with typed lists of open length, and the operations on them (definitions only). -/
namespace Go.PI
def aE{α β:Type}(P:α→β→Prop):List α→List β→Prop
 |[],[]=>True
 |x::xs,y::ys=>P x y∧aE P xs ys
 |_,_=>False
def C6{den:Nat→Type}{t t':Nat}(h:t=t')(l:List (den t)):List (den t'):=h▸l
def KK.D:KK→Type
 |.int _=>Int
 |.str=>ByteArray
 |.bool=>Bool
def KK.v:(kk:KK)→kk.D→Value
 |.int q,k=>.int q k
 |.str,k=>.string k
 |.bool,k=>.bool k
def KK.get:(kk:KK)→Value→Option kk.D
 |.int q,v=>(match v with
  |.int q' k=>if q=q' then some k else none
  |_=>none)
 |.str,v=>(match v with
  |.string k=>some k
  |_=>none)
 |.bool,v=>(match v with
  |.bool k=>some k
  |_=>none)
def KK.beq:(kk:KK)→kk.D→kk.D→Bool
 |.int _,(a:Int),(b:Int)=>a==b
 |.str,(a:ByteArray),(b:ByteArray)=>a==b
 |.bool,(a:Bool),(b:Bool)=>a==b
def mw(kk:KK){α:Type}:List (kk.D×α)→kk.D→Option α
 |[],_=>none
 |(k',v)::r,k=>cond (kk.beq k k') (some v) (mw kk r k)
def o9(kk:KK){α:Type}:List (kk.D×α)→kk.D→α→List (kk.D×α)
 |[],k,v=>[(k,v)]
 |(k',v')::r,k,v=>cond (kk.beq k k') ((k',v)::r) ((k',v')::o9 kk r k v)
deriving instance DecidableEq for nf
inductive SV(den:Nat→Type):Type where
 |dead
 |hole
 |lit (v:Value)
 |agg (l:List (SV den))
 |kJ (l:List (SV den))
 |sl (xs:List (SV den))
 |jR (t:Nat) (l:List (den t))
 |bq (e:SV den) (j:Nat)
 |ref (n c i j:Nat)
 |jC (n c i j len cap:Nat)
 |bw (esz n c:Nat) (rg:Option (Nat×Nat)) (cap:Option Nat)
 |jT (fn:Fn) (first captured:List (SV den))
 |jU (t:TypeId) (v:SV den)
 |mp (y:Bool) (n:Nat)
 |vg (v:SV den) (bm len i:Nat)
 |zD (t:Nat) (l:List (den t)) (cap:Nat) (b:Bool)
 |nz
instance {den:Nat→Type}:Inhabited (SV den):=⟨.dead⟩
inductive aK(den:Nat→Type):Type where
 |arr (grow cl fz:Bool) (cur:Nat) (es:List (SV den))
 |cE (grow fz:Bool) (cur:Nat) (t:Nat) (l:List (den t))
 |ji
 |lZ (kk:KK) (t:Nat) (m:List (kk.D×den t))
 |rh (fn:FuncId) (ps:Array Tmp) (as bd:Code) (fr:List (SV den))
abbrev aq(den:Nat→Type):=List (Option (aK den))
abbrev vh(den:Nat→Type):=List (Nat×SV den)
structure bQ(den:Nat→Type)where
 fn:FuncId
 n:Nat
 fr:vh den
 hp:aq den
 wf:List Nat
 wh:List Nat
 js:List (Nat×nf)
inductive ri(den:Nat→Type)where
 |norm (s:bQ den)
 |exit (id:Nat) (s:bQ den)
 |ret (s:bQ den)
inductive Tr:Type→Type 1 where
 |ret {ρ:Type} (r:ρ):Tr ρ
 |fail {ρ:Type}:Tr ρ
 |cond {ρ:Type} (b:Bool) (x y:Tr ρ):Tr ρ
 |bind {ρ α:Type} (e:Option α) (k:α→Tr ρ):Tr ρ
 |loop {ρ τ ω:Type} (f:τ→Tr (τ ⊕ ω)) (x:τ) (k:ω→Tr ρ):Tr ρ
 |sum {ρ α β:Type} (e:α ⊕ β) (k:α→Tr ρ) (l:β→Tr ρ):Tr ρ
 |no {ρ:Type} (why:String):Tr ρ
 |nY {ρ:Type} {den:Nat→Type} (s:bQ den) (b:Code):Tr ρ
 |bad {ρ:Type} {den:Nat→Type} (key:Nat) (kind:Option (Option Nat)) (s0 s:bQ den):Tr ρ
def lX{τ ω:Type}(f:τ→Option (τ ⊕ ω)):Nat→τ→Option ω
 |0,_=>none
 |n+1,x=>match f x with
  |some (.inl y)=>lX f n y
  |some (.inr w)=>some w
  |none=>none
noncomputable def aX{τ ω:Type}(f:τ→Option (τ ⊕ ω))(x:τ):Option ω:=
 match lX f 4096 x with
 |some w=>some w
 |none=>uj fun n=>lX f n x
noncomputable def Tr.run{ρ:Type}:Tr ρ→Option ρ
 |.ret r=>some r
 |.fail|.no _|.nY _ _|.bad _ _ _ _=>none
 |.cond b x y=>_root_.cond b x.run y.run
 |.bind e k=>_root_.Option.bind e fun a=>(k a).run
 |.loop f x k=>_root_.Option.bind (aX (fun x=>(f x).run) x) fun w=>(k w).run
 |.sum e k l=>Sum.elim (fun a=>(k a).run) (fun b=>(l b).run) e
structure ej where
 den:Nat→Type
 up:(t:Nat)→den t→SV den
 dn:(t:Nat)→SV den→Option (den t)
 rp:(t:Nat)→den t→AV→Prop
 agg:Nat→Bool
 size:Nat→Nat
 zero:(t:Nat)→Option (den t)
section
variable {den:Nat→Type}
def aK.cur:aK den→Nat
 |.arr _ _ _ c _=>c
 |.cE _ _ c _ _=>c
 |_=>0
def aK.len:aK den→Nat
 |.arr _ _ _ _ es=>es.length
 |.cE _ _ _ _ l=>l.length
 |_=>0
def N7:Value→SV den
 |.agg c=>if c.toList.all (fun v=>bt (.lit v))=true then .agg (c.toList.map .lit) else .dead
 |.tuple c=>.kJ (c.toList.map .lit)
 |v=>.lit v
def dj:vh den→Nat→SV den
 |[],_=>.lit undef
 |(d,v)::r,t=>match Nat.beq d t with
  |true=>v
  |false=>dj r t
def ga[ah](fr:vh den):Operand→SV den
 |.tmp t=>dj fr t
 |.const v=>N7 v
 |.global g=>(match ah.g g with
  |none=>.lit (.pointer (some ⟨g,0,none⟩))
  |some c=>.bq (.agg (c.toList.map .lit)) 0)
 |.func f=>.lit (.func (.func f) #[] #[])
def wj(n:Nat)(fr:vh den)(d:Nat)(v:SV den):vh den:=
 match Nat.ble n d with
 |true=>fr
 |false=>(d,v)::fr
def N8(n:Nat)(fr:vh den)(dst:Option Tmp)(v:SV den):vh den:=
 match dst with
 |some d=>wj n fr d v
 |none=>fr
def oI:Nat→List (SV den)→vh den
 |_,[]=>[]
 |d,v::r=>(d,v)::oI (d+1) r
def cd(hp:aq den)(n:Nat)(o:aK den):aq den:=
 if n=hp.length then hp++[some o] else hp.set n (some o)
def bu(hp:aq den):List (Nat×aK den)→aq den
 |[]=>hp
 |(n,o)::r=>bu (cd hp n o) r
def cL:SV den→Bool
 |.dead=>true
 |_=>false
def iC:SV den→Bool
 |.lit v=>match v with
  |.agg _|.tuple _=>false
  |_=>true
 |.agg _|.kJ _|.dead|.hole=>false
 |_=>true
mutual
def aM:SV den→Bool
 |.lit _|.sl _|.jR _ _|.bq _ _|.zD _ _ _ _=>true
 |.agg l|.kJ l=>aD l
 |.jU _ v=>aM v
 |.vg v _ _ _=>aM v
 |.jT _ f c=>aD f&&aD c
 |_=>false
def aD:List (SV den)→Bool
 |[]=>true
 |x::xs=>aM x&&aD xs
end
mutual
def yA:SV den→Bool
 |.lit _=>true
 |.agg l|.kJ l=>Eo l
 |.jU _ v=>yA v
 |_=>false
def Eo:List (SV den)→Bool
 |[]=>true
 |x::xs=>yA x&&Eo xs
end
mutual
def bM(n:Nat):SV den→Bool
 |.lit _|.sl _|.jR _ _|.bq _ _|.zD _ _ _ _|.hole|.nz=>true
 |.agg l|.kJ l=>iD n l
 |.jU _ v=>bM n v
 |.jT _ f c=>iD n f&&iD n c
 |.vg v _ _ _=>bM n v
 |.ref m _ _ _|.jC m _ _ _ _ _|.bw _ m _ _ _|.mp _ m=>decide (m<n)
 |.dead=>false
def iD(n:Nat):List (SV den)→Bool
 |[]=>true
 |x::xs=>bM n x&&iD n xs
end
def lM(n:Nat):Option (aK den)→Bool
 |some (.arr _ cl _ _ es)=>cl||iD n es
 |some (.cE ..)=>true
 |some .ji=>true
 |some (.lZ ..)=>true
 |some (.rh _ _ _ _ fr)=>fr.all fun v=>cL v||bM n v
 |none=>true
mutual
def pd:SV den→List Nat
 |.ref n _ _ _|.jC n _ _ _ _ _|.bw _ n _ _ _|.mp _ n=>[n]
 |.vg v _ _ _=>pd v
 |.agg l|.kJ l=>oJ l
 |.jU _ v=>pd v
 |.jT _ f c=>oJ f++oJ c
 |_=>[]
def oJ:List (SV den)→List Nat
 |[]=>[]
 |x::xs=>pd x++oJ xs
end
def cb:SV den→List (SV den)
 |.agg l=>l
 |.lit v=>v.cells.toList.map .lit
 |x=>[x]
def oK:List (SV den)→Option (List Value)
 |[]=>some []
 |.lit v::r=>(oK r).map (v::·)
 |_=>none
def pe:SV den→Option AV
 |.lit v=>some (.lit v)
 |.agg l=>(oK l).map fun c=>.agg (c.map .lit)
 |_=>none
def qc(agg:Bool)(size:Nat)(e:SV den)(j:Nat):Option (SV den):=
 match e with
 |.agg l=>
  if agg then (if j+size≤l.length then some (.agg ((l.drop j).take size)) else none)
  else l[j]?
 |x=>if !agg&&iC x&&decide (j=0) then some x else none
def jN(l:List (SV den))(j:Nat):List (SV den)→List (SV den)
 |[]=>l
 |x::xs=>jN (l.set j x) (j+1) xs
def hJ(e:SV den)(j:Nat)(cs:List (SV den)):Option (SV den):=
 match e with
 |.agg l=>if j+cs.length≤l.length then some (.agg (jN l j cs)) else none
 |x=>match cs with
  |[y]=>if iC x&&decide (j=0) then some y else none
  |_=>none
def C7(place:Nat→Option (Nat×Nat))(cells:List (SV den)):List (Nat×SV den)→Option (List (SV den))
 |[]=>some cells
 |(i,v)::rest=>
  match place i with
  |none=>none
  |some (off,size)=>
   if (cb v).length=size∧off+size≤cells.length∧(cb v).all iC=true then
    C7 place (jN cells off (cb v)) rest
   else none
def mU(agg:Bool)(size:Nat)(e:SV den):Bool:=
 match e with
 |.agg l=>agg&&decide (l.length=size)&&l.all iC
 |x=>!agg&&decide (size=1)&&iC x
def iE:AV→Option (SV den)
 |.lit v=>some (.lit v)
 |.agg l=>(dy l).map fun c=>.agg (c.map .lit)
 |_=>none
def gy(es:List (SV den)):List (Nat×SV den)→List (SV den)
 |[]=>es
 |(i,v)::r=>gy (es.set i v) r
def Kc:SV den→Bool
 |.sl xs=>!xs.isEmpty
 |_=>false
def Ep(P:Program)(op:BinOp)(t:TypeId)(x:SV den)(nil:Value):Option AV:=
 match nil with
 |.nilIface=>(match x with
  |.jU _ (.agg _)|.jU _ (.ref ..)=>if kX P t then ng op false else none
  |_=>none)
 |.nilFunc=>(match x with
  |.jT _ _ _=>if vk P t then ng op false else none
  |_=>none)
 |.slice none 0 0=>if cf P t&&Kc x then ng op false else none
 |_=>none
end
inductive CK where
 |bool
 |int (k:IntKind)
 |str
 deriving DecidableEq
inductive MK where
 |slice (e:Nat)
 |array (n e:Nat)
 |struct (fs:List (Nat×Nat))
 |iface
 |other
 deriving DecidableEq
structure jS where
 agg:Bool
 size:Nat
 bytes:Nat
 zero:Option AV
 kind:MK
 SQ:Option (List CK)
 map:Option (KK×Nat)
structure iM where
 P:Program
 M:List (Nat×jS)
 zb:Nat→Bool
def cQ{α:Type}:List (Nat×α)→Nat→Option α
 |[],_=>none
 |(m,a)::r,n=>match Nat.beq m n with
  |true=>some a
  |false=>cQ r n
def C8{α:Type}:List (Nat×Nat×α)→Nat→Nat→Option α
 |[],_,_=>none
 |(m,m',a)::r,n,n'=>match Nat.beq m n&&Nat.beq m' n' with
  |true=>some a
  |false=>C8 r n n'
namespace iM
def ty(Q:iM)(t:Nat):Option jS:=cQ Q.M t
def elemOf(Q:iM)(t:Nat):Option (Nat×jS):=
 match Q.ty t with
 |some m=>match m.kind with
  |.slice e=>(Q.ty e).map fun r=>(e,r)
  |_=>none
 |none=>none
def elem(Q:iM)(t:Nat):Option jS:=(Q.elemOf t).map (·.2)
def arr(Q:iM)(t:Nat):Option (Nat×jS):=
 match Q.ty t with
 |some m=>match m.kind with
  |.array n e=>(Q.ty e).map fun r=>(n,r)
  |_=>none
 |none=>none
def fld(Q:iM)(t f:Nat):Option (Nat×jS):=
 match Q.ty t with
 |some m=>match m.kind with
  |.struct fs=>match fs[f]? with
   |some (off,e)=>match Q.ty e with
    |some r=>if r.size=0 then none else some (off,r)
    |none=>none
   |none=>none
  |_=>none
 |none=>none
def mapOf(Q:iM)(t:Nat):Option (KK×Nat):=(Q.ty t).bind (·.map)
def isSlice(Q:iM)(t:Nat):Option Bool:=
 match Q.ty t with
 |some m=>match m.kind with
  |.slice _=>some true
  |_=>some false
 |none=>none
def places(Q:iM):List (Nat×Nat)→Option (List (Nat×Nat))
 |[]=>some []
 |(off,e)::r=>match Q.ty e,places Q r with
  |some m,some l=>some ((off,m.size)::l)
  |_,_=>none
end iM
inductive VT where
 |v (t:Nat)
 |l (t:Nat)
 |m (kk:KK) (t:Nat)
 deriving DecidableEq
def VT.den(den:Nat→Type):VT→Type
 |.v t=>den t
 |.l t=>List (den t)
 |.m kk t=>List (kk.D×den t)
def HL(den:Nat→Type):List VT→Type
 |[]=>Unit
 |[t]=>t.den den
 |t::u::r=>t.den den×HL den (u::r)
structure TV(den:Nat→Type)where
 t:VT
 x:t.den den
section
variable {den:Nat→Type}
def TV.as(v:TV den)(t:VT):Option (t.den den):=if h:v.t=t then some (h▸v.x) else none
def xA:(ts:List VT)→List (TV den)→Option (HL den ts)
 |[],l=>(match l with
  |[]=>some ()
  |_::_=>none)
 |[t],l=>(match l with
  |[v]=>v.as t
  |_=>none)
 |t::u::r,l=>(match l with
  |v::l'=>(v.as t).bind fun x=>(xA (u::r) l').map fun y=>(x,y)
  |[]=>none)
def hU:(ts:List VT)→HL den ts→List (TV den)
 |[],_=>[]
 |[t],x=>[⟨t,x⟩]
 |t::u::r,x=>⟨t,x.1⟩::hU (u::r) x.2
end
section
variable (T:ej)
def Lk:(ts:List Nat)→List (SV T.den)→Option (List (TV T.den))
 |[],[]=>some []
 |t::ts,v::vs=>(T.dn t v).bind fun x=>(Lk ts vs).map fun l=>⟨.v t,x⟩::l
 |_,_=>none
def qX(t:Nat):List (SV T.den)→Option (List (T.den t))
 |[]=>some []
 |v::vs=>(T.dn t v).bind fun x=>(qX t vs).map fun l=>x::l
def XX:TV T.den→SV T.den
 |⟨.v t,x⟩=>T.up t x
 |⟨.l t,x⟩=>.jR t x
 |⟨.m _ _,_⟩=>.dead
def UN(l:List (TV T.den)):List (SV T.den):=l.map (XX T)
end
def tF{den:Nat→Type}:List (SV den)→SV den
 |[x]=>x
 |l=>.kJ l
structure zc(T:ej)where
 args:List Nat
 res:List Nat
 fn:HL T.den (args.map .v)→Option (HL T.den (res.map .v))
inductive rj where
 |hole
 |F6 (esz n:Nat) (rg:Option (Nat×Nat)) (cap:Option Nat)
 |jC (n i j len cap:Nat)
 |val (t:Nat)
 |own (esz n:Nat)
 |tP (esz n t:Nat) (k:Bool)
inductive dv where
 |list (t:Nat)
 |fix (t:Nat)
 |one (p:rj)
 |agg (ps:List rj)
 |map (kk:KK) (t:Nat)
inductive rk where
 |ji
 |list (g f:Bool) (t:Nat)
structure Er where
 kind:Option Nat
 aH:List (Nat×rj)
 ext:List rk
 js:List (Nat×nf)
 more:List (Nat×dv)
structure Hint where
 aH:List (Nat×rj)
 dead:List Nat
 objs:List (Nat×dv)
 outs:List Er
def rj.lC:rj→List VT
 |.hole|.F6 _ _ _ _|.jC _ _ _ _ _=>[]
 |.val t=>[.v t]
 |.own _ _=>[]
 |.tP _ _ t k=>(match k with
  |true=>[.v t,.v t,.v t]
  |false=>[.v t,.v t])
def dv.lC:dv→List VT
 |.list t|.fix t=>[.l t]
 |.one p=>p.lC
 |.agg ps=>ps.flatMap rj.lC
 |.map kk t=>[.m kk t]
def rk.lC:rk→List VT
 |.ji=>[]
 |.list _ _ t=>[.l t]
def ko(objs more:List (Nat×dv)):List (Nat×dv):=objs.filter (fun q=>!(more.map (·.1)).contains q.1)++more
def Er.lC(objs:List (Nat×dv))(o:Er):List VT:=o.aH.flatMap (fun q=>q.2.lC)++((ko objs o.more).flatMap (fun q=>q.2.lC)++o.ext.flatMap rk.lC)
def Hint.lC(h:Hint):List VT:=h.aH.flatMap (fun q=>q.2.lC)++h.objs.flatMap (fun q=>q.2.lC)
def B8(den:Nat→Type)(objs:List (Nat×dv)):List Er→Type
 |[]=>Empty
 |[o]=>HL den (o.lC objs)
 |o::p::r=>HL den (o.lC objs) ⊕ B8 den objs (p::r)
end Go.PI
end
