/- Part 2 of the proof: texts of this session laid one behind the other. -/
import Derived.OrdersIn
import Derived.TacticsIn
import Derived.RangeFuncLeaves
import Derived.RecoverIn
import Derived.SizedLaws
import Derived.ChangeSlices
import Derived.OpenShut
import Derived.ShutString
import Derived.IntWalk
import Derived.Below
import Derived.Test.YtedjbjphpnkpoaaX1
set_option linter.unusedVariables false
set_option linter.unusedSimpArgs false
section
/- PI, part V: a region whose order is drawn, in the world. -/
namespace Go.PI
def WF(r:Option Nat):Fence:={ Fence.wide with round:=r }
structure ph where
 n:Nat
 tl:List Deferred:=[]
 rg:Bool:=true
 lb:Option Nat:=none
def Marks(B:ph)(E:Env)(w:World)(ds:List Deferred):Prop:=
 ∃ rs:List Nat,ds=rs.map (fun r=>{ target:=.collected r,args:=#[] })++B.tl∧rs.Nodup∧((B.rg=false→rs=[])∧∀ b,B.lb=some b→∃ r0:Loop,w.heap[b]?=some (.loop r0))∧∀ r∈rs,B.n≤r∧¬E.own r∧w.heap[r]?=some (.deferred (some []))
theorem Marks.nil{n:Nat}{m:Bool}{E:Env}{w:World}:Marks ⟨n,[],m,none⟩ E w []:=⟨[],rfl,List.nodup_nil,⟨fun _=>rfl,fun _ h=>by cases h⟩,by simp⟩
theorem Marks.Wc{n:Nat}{b:Nat}{r:Loop}{E:Env}{w:World}(h:w.heap[b]?=some (.loop r)):Marks ⟨n,[],true,some b⟩ E w []:=⟨[],rfl,List.nodup_nil,⟨fun _=>rfl,fun _ h'=>by cases h'; exact⟨r,h⟩⟩,by simp⟩
theorem Marks.mono{B:ph}{E E':Env}{w w':World}{ds:List Deferred}(h:Marks B E w ds)(hf:Fr E w E' w'):Marks B E' w' ds:=by
 obtain⟨rs,h1,h2,Va,h3⟩:=h
 refine⟨rs,h1,h2,⟨Va.1,fun b hb=>by obtain⟨r0,h⟩:=Va.2 b hb; exact hf.lp b r0 h⟩,fun r hr=>?_⟩
 obtain⟨a,b,c⟩:=h3 r hr
 have bE:r<w.heap.size:=(Array.getElem?_eq_some_iff.1 c).1
 refine⟨a,fun ho=>?_,by rw[hf.same r bE b]; exact c⟩
 rcases hf.own r ho with h|h
 ·exact b h
 ·omega
structure cT[ae](B:ph)(E:Env)(s:St)(a:Act)(w:World):Prop where
 fr:an E true s.fr a.tmps.toList
 inv:Inv E s.hp w
 df:Marks B E w a.defers
 bs:B.n≤w.heap.size
theorem gO{E:Env}{fr:List AV}{a:Act}{dst:Option Tmp}{x:AV}{v:Value}(h:an E true fr a.tmps.toList)(hx:aj E true x v):
  an E true (bJ fr dst x) (a.put dst v).tmps.toList:=by
 cases dst with
 |none=>exact h
 |some d=>
  simp only[bJ,Act.put,Array.toList_setIfInBounds]
  exact h.set d hx
theorem put_defers(a:Act)(dst:Option Tmp)(v:Value):(a.put dst v).defers=a.defers:=by cases dst<;>rfl
theorem Ay{E:Env}:∀ (c:List Value),(∀ x∈c,iX x=true)→aI E false (c.map .lit) c
 |[],_=>by simp[aI]
 |x::r,h=>by
  simp only[List.map_cons,aI]
  exact⟨by simp[aj],h x (by simp),Ay r fun y hy=>h y (by simp[hy])⟩
theorem KF[ae]{E:Env}(hg:nq E)(g:Nat):aj E true (Cs g (ae.g g)) (.pointer (some ⟨g,0,none⟩)):=by
 cases h:ae.g g with
 |none=>simp[Cs,aj]
 |some c=>
  obtain⟨h1,h2⟩:=hg g c h
  simp only[Cs,aj]
  refine⟨g,0,c,.agg c,rfl,h1,⟨c.toList,by simp,Ay _ h2⟩,?_⟩
  refine⟨rfl,fun q _=>by simp[Value.cells],fun x hx=>h2 x (by simpa[Value.cells] using hx)⟩
theorem iw[ae]{E:Env}{fr:List AV}{a:Act}(hg:nq E)(h:an E true fr a.tmps.toList)(x:Operand):aj E true (aB fr x) (a.eval x):=by
 cases x with
 |tmp t=>
  simp only[aB,Act.eval,List.getD]
  cases hq:fr[t]? with
  |none=>
   have hl:=h.length
   have:a.tmps[t]?=none:=by
    simp_all
   simp[Array.getD_eq_getD_getElem?,this,aj]
  |some y=>
   obtain⟨v,hv,hr⟩:=h.get hq
   have:a.tmps[t]?=some v:=by simpa using hv
   simpa[Array.getD_eq_getD_getElem?,this] using hr
 |const v=>
  simp only[aB,Act.eval]
  unfold ox
  split
  ·rename_i c
   split
   ·rename_i h; exact nP (.agg c) (fun c' hc=>by cases hc; exact h)
   ·simp[aj]
  ·rename_i dE
   exact nP v (fun c hc=>absurd hc (dE c))
 |global g=>exact KF hg g
 |func f=>simp[aB,Act.eval,aj]
def sC[ae](P:Program)(step:Nat→Oper→List AV→RM dK):Prop:=
 ∀ (r:Option Nat) (x:Item) (B:ph) (E:Env) (s:St) (a:Act) (w:World) (e:dK) (K:Act→World→Prop) (Q:Exit→Act→World→Prop),cT B E s a w →
   (au x.o.op=true→s.hp[x.nm]?=some none)→(step (x.at s.hp.length) x.o s.fr).run s.hp=some e →
   (∀ E' w' v,Ext E E'→Fr E w E' w'→Inv E' (ak s.hp e.wr) w'→aj E' true e.val v→K (a.put x.o.dst v) w')→x.o.wpIn (WF r) 0 P a w K Q
theorem lR{ops:Array Oper}{E:Env}{fr:List AV}{a:Act}(h:an E true fr a.tmps.toList){o:Oper}{b:Bool}(hw:cS ops fr o=some b):
  Region.wanted o (yielded ops a.tmps)=b:=by
 unfold cS at hw
 unfold Region.wanted
 cases hg:o.guard with
 |none=>rw[hg]at hw; simpa using hw
 |some g=>
  obtain⟨j,want⟩:=g
  rw[hg]at hw
  simp only at hw ⊢
  unfold yielded
  cases hd:(ops[j]?).bind (·.dst) with
  |none=>
   rw[hd]at hw
   simp only[Option.some.injEq]at hw; subst hw
   simp
  |some d=>
   rw[hd]at hw
   simp only[Option.bind_some]at hw ⊢
   cases hq:fr[d]? with
   |none=>
    rw[hq]at hw
    simp only[Option.some.injEq]at hw; subst hw
    have hl:=h.length
    have:a.tmps[d]?=none:=by
     simp_all
    simp[this]
   |some y=>
    rw[hq]at hw
    obtain⟨v,hv,hr⟩:=h.get hq
    have jS:a.tmps[d]?=some v:=by simpa using hv
    split at hw
    ·rename_i heq; simp at heq
    ·rename_i b' heq
     simp only[Option.some.injEq]at heq hw
     subst heq
     simp only[aj]at hr
     subst hr; subst hw
     simp[jS]
    ·rename_i c heq
     simp only[Option.some.injEq]at heq hw
     subst heq
     simp only[aj]at hr
     subst hr; subst hw
     simp[jS]
    ·simp at hw
section
variable {step:Nat→Oper→List AV→RM dK}{ops:Array Oper}
theorem qc:∀ (l:List Oper) (acc:List Nat) (f:List Nat→Oper→List Nat),
  (f=fun acc o=>acc++[jx acc o.after.toList])→∀ i,i<acc.length→(l.foldl f acc).getD i 0=acc.getD i 0
 |[],acc,f,_,i,_=>rfl
 |o::r,acc,f,hf,i,hi=>by
  simp only[List.foldl_cons]
  rw[qc r (f acc o) f hf i (by subst hf; simp; omega)]
  subst hf
  simp[List.getD,List.getElem?_append_left hi]
theorem wB{a b:List Nat}:∀ {l:List Edge},(∀ e∈l,Region.binds .any e=true→a.getD e.on 0=b.getD e.on 0)→jx a l=jx b l
 |[],_=>rfl
 |e::l,h=>by
  have:=wB (l:=l) fun e he=>h e (by simp[he])
  unfold jx
  split
  ·rename_i hb
   rw[this,h e (by simp) hb]
  ·exact this
theorem qW{a:List Nat}{p:Nat}:∀ {l:List Edge},(jx a l).testBit p=true→∃ e∈l,Region.binds .any e=true∧(p=e.on∨sr a e.on p=true)
 |[],h=>by simp[jx]at h
 |e::l,h=>by
  unfold jx at h
  split at h
  ·rename_i hb
   simp only[Nat.testBit_or,Bool.or_eq_true]at h
   rcases h with (h|h)|h
   ·grind
   ·exact⟨e,by simp,hb,.inr h⟩
   ·obtain⟨e',he,h'⟩:=qW (l:=l) h
    exact⟨e',by simp[he],h'⟩
  ·obtain⟨e',he,h'⟩:=qW (l:=l) h
   exact⟨e',by simp[he],h'⟩
theorem Az{m:Region.Mode}{p:Nat}:∀ {l:List Edge},(∃ e∈l,Region.binds m e=true∧p=e.on)→(z7 m l).testBit p=true
 |[],h=>by simp at h
 |e::l,h=>by
  obtain⟨e',he,hb,rfl⟩:=h
  unfold z7
  cases he with
  |head=>simp[hb,Nat.testBit_or]
  |tail _ he=>
   have:=Az (l:=l) ⟨e',he,hb,rfl⟩
   split
   ·simp[Nat.testBit_or,this]
   ·exact this
theorem C1[ae]{m:Region.Mode}{T:Nat→Prop}:∀ (l:List Oper) (i M:Nat),(∀ j,M.testBit j=true→T j) →
  (∀ k o,l[k]?=some o→(∀ e∈o.after.toList,Region.binds m e=true→T e.on)→T (i+k))→∀ j,(Gu m i l M).testBit j=true→T j
 |[],i,M,hM,_,j,h=>hM j h
 |o::r,i,M,hM,hs,j,h=>by
  unfold Gu at h
  refine C1 r (i+1) _ ?_ (fun k o hk he=>by have:=hs (k+1) o (by simpa using hk) he; rwa [show i+1+k=i+(k+1) by omega]) j h
  intro j hj
  split at hj
  ·rename_i p6
   rw[Nat.testBit_or,Bool.or_eq_true]at hj
   rcases hj with hj|hj
   ·exact hM j hj
   ·rw[Nat.testBit_two_pow]at hj
    have M6:i=j:=by simpa using hj
    subst M6
    refine hs 0 o rfl fun e he hb=>hM _ ?_
    have h1:=Az (p:=e.on) ⟨e,he,hb,rfl⟩
    rw[←p6,Nat.testBit_and,Bool.and_eq_true]at h1
    exact h1.2
  ·exact hM j hj
theorem C2[ae]{m:Region.Mode}{T:Nat→Prop}{l:List Oper}(hs:∀ k o,l[k]?=some o→(∀ e∈o.after.toList,Region.binds m e=true→T e.on)→T k):
  ∀ (k M:Nat),(∀ j,M.testBit j=true→T j)→∀ j,(Gv m l k M).testBit j=true→T j
 |0,M,hM,j,h=>hM j h
 |k+1,M,hM,j,h=>by
  unfold Gv at h
  exact C2 hs k _ (C1 l 0 M hM (fun q o hq he=>by simpa using hs q o hq he)) j h
theorem Fx[ae]{m:Region.Mode}(h:pO m ops=true){T:Nat→Prop}(hs:∀ k o,ops[k]?=some o→(∀ e∈o.after.toList,Region.binds m e=true→T e.on)→T k):∀ i,i<ops.size→T i:=by
 intro i hi
 have h1:=List.all_eq_true.1 h i (List.mem_range.2 hi)
 exact C2 (l:=ops.toList) (fun k o hk he=>hs k o (by simpa using hk) he) 8 0 (by simp) i h1
theorem qX[ae]:∀ (l:List Oper) (acc:List Nat) (k:Nat) (o:Oper),l[k]?=some o→(∀ e∈o.after.toList,Region.binds .any e=true→e.on<acc.length+k) →
  (l.foldl (fun acc o=>acc++[jx acc o.after.toList]) acc).getD (acc.length+k) 0 =
    jx (l.foldl (fun acc o=>acc++[jx acc o.after.toList]) acc) o.after.toList
 |[],acc,k,o,h,_=>by simp at h
 |p::r,acc,0,o,h,he=>by
  simp only[List.getElem?_cons_zero,Option.some.injEq]at h
  subst h
  simp only[List.foldl_cons,Nat.add_zero]
  rw[qc r _ _ rfl acc.length (by simp)]
  have h1:(acc++[jx acc p.after.toList]).getD acc.length 0=jx acc p.after.toList:=by
   simp[List.getD]
  rw[h1]
  apply wB
  intro e Wd hb
  have bE:e.on<acc.length:=by simpa using he e Wd hb
  rw[qc r _ _ rfl e.on (by simp; omega)]
  simp[List.getD,List.getElem?_append_left bE]
 |p::r,acc,k+1,o,h,he=>by
  simp only[List.getElem?_cons_succ]at h
  simp only[List.foldl_cons]
  have:=qX r (acc++[jx acc p.after.toList]) k o h (fun e Wd hb=>by have:=he e Wd hb; simp; omega)
  simp only[List.length_append,List.length_cons,List.length_nil]at this
  have e1:acc.length+(0+1)+k=acc.length+(k+1):=by omega
  rw[e1]at this
  exact this
theorem gP:∀ (l:List Oper) (i:Nat),lz i l=true→∀ k o,l[k]?=some o→∀ e∈o.after.toList,Region.binds .any e=true→e.on<i+k
 |[],i,_,k,o,h=>by simp at h
 |p::r,i,h,0,o,hk=>by
  simp only[List.getElem?_cons_zero,Option.some.injEq]at hk
  subst hk
  simp only[lz,Bool.and_eq_true]at h
  intro e he hb
  have:=List.all_eq_true.1 h.1 e he
  simpa[hb] using this
 |p::r,i,h,k+1,o,hk=>by
  simp only[List.getElem?_cons_succ]at hk
  simp only[lz,Bool.and_eq_true]at h
  intro e he hb
  have:=gP r (i+1) h.2 k o hk e he hb
  omega
theorem ua{pr:List Nat}:∀ (l:List Oper) (i:Nat),tF ops pr i l=true→∀ j k o p,j<k→l[j]?=some o→l[k]?=some p →
  sr pr (i+k) (i+j)=true∨Oper.apart ops o p=true
 |[],i,_,j,k,o,p,_,h,_=>by simp at h
 |q::r,i,h,0,k+1,o,p,_,ho,hp=>by
  simp only[List.getElem?_cons_zero,Option.some.injEq]at ho
  subst ho
  simp only[List.getElem?_cons_succ]at hp
  simp only[tF,Bool.and_eq_true]at h
  have lG:(p,i+1+k)∈r.zipIdx (i+1):=by
   grind
  have:=List.all_eq_true.1 h.1 _ lG
  simp only[Bool.or_eq_true]at this
  have e1:i+1+k=i+(k+1):=by omega
  rw[e1]at this
  simpa using this
 |q::r,i,h,j+1,k+1,o,p,NW,ho,hp=>by
  simp only[List.getElem?_cons_succ]at ho hp
  simp only[tF,Bool.and_eq_true]at h
  have:=ua r (i+1) h.2 j k o p (by omega) ho hp
  have e1:i+1+j=i+(j+1):=by omega
  have e2:i+1+k=i+(k+1):=by omega
  rw[e1,e2]at this
  exact this
 |q::r,i,h,j,0,o,p,NW,_,_=>by omega
theorem lI[ae]:∀ (l:List Oper) (i n:Nat) (k:Nat) (x:Item),(bK i n l)[k]?=some x →
  x.idx=i+k∧l[k]?=some x.o∧n≤x.nm∧(au x.o.op=true→x.nm<n+(l.filter fun o=>au o.op).length)
 |[],i,n,k,x,h=>by simp[bK]at h
 |o::r,i,n,0,x,h=>by
  simp only[bK,List.getElem?_cons_zero,Option.some.injEq]at h
  subst h
  refine⟨rfl,rfl,Nat.le_refl _,fun ha=>?_⟩
  simp only at ha
  simp[ha]
 |o::r,i,n,k+1,x,h=>by
  simp only[bK,List.getElem?_cons_succ]at h
  obtain⟨h1,h2,h3,h4⟩:=lI r (i+1) _ k x h
  refine⟨by omega,by simpa using h2,?_,fun ha=>?_⟩
  ·split at h3<;>omega
  ·grind
theorem yl[ae]:∀ (l:List Oper) (i n:Nat) (j k:Nat) (x y:Item),j<k→(bK i n l)[j]?=some x→(bK i n l)[k]?=some y→au x.o.op=true→x.nm<y.nm
 |[],i,n,j,k,x,y,_,h,_,_=>by simp[bK]at h
 |o::r,i,n,0,k+1,x,y,_,hx,hy,ha=>by
  simp only[bK,List.getElem?_cons_zero,Option.some.injEq]at hx
  subst hx
  simp only[bK,List.getElem?_cons_succ]at hy
  simp only at ha
  have:=(lI r (i+1) _ k y hy).2.2.1
  rw[if_pos ha]at this
  exact this
 |o::r,i,n,j+1,k+1,x,y,NW,hx,hy,ha=>by
  simp only[bK,List.getElem?_cons_succ]at hx hy
  exact yl r (i+1) _ j k x y (by omega) hx hy ha
 |o::r,i,n,j,0,x,y,NW,_,_,_=>by omega
theorem mj[ae]:∀ (l:List Oper) (i n:Nat),(bK i n l).length=l.length
 |[],_,_=>rfl
 |o::r,i,n=>by simp[bK,mj r]
theorem qd[ae]:∀ (R:List Item) (s s':St) (fs:List fS),cG step ops R s=some (s',fs)→fs.map (·.idx)=R.map (·.idx)
 |[],s,s',fs,h=>by
  simp_all[cG]
 |x::r,s,s',fs,h=>by
  obtain⟨s1,f,EG,h1,h2,rfl⟩:=lH h
  have ih:=qd r s1 s' EG h2
  have:f.idx=x.idx:=by
   rcases mi h1 with ⟨_,_,rfl⟩|⟨_,_,_,_,_,rfl⟩<;>rfl
  simp[ih,this]
theorem ub{pr:List Nat}:∀ (fs:List fS),fo pr fs=true→∀ (j k:Nat) (f g:fS),j<k→fs[j]?=some f→fs[k]?=some g→ss pr f g=true
 |[],_,j,k,f,g,_,h,_=>by simp at h
 |q::r,h,0,k+1,f,g,_,hf,hg=>by
  grind[fo]
 |q::r,h,j+1,k+1,f,g,NW,hf,hg=>by
  simp only[List.getElem?_cons_succ]at hf hg
  simp only[fo,Bool.and_eq_true]at h
  exact ub r h.2 j k f g (by omega) hf hg
 |q::r,h,j,0,f,g,NW,_,_=>by omega
theorem AA{a b:List Nat}(h:EW a b=true):∀ n∈a,n∉b:=by
 intro n hn hb
 have:=List.all_eq_true.1 h n hn
 simp[hb]at this
end
end Go.PI
end
section
/- PI, part W: a region whose order is drawn, in the world: the induction. -/
namespace Go.PI
section
variable {step:Nat→Oper→List AV→RM dK}{ops:Array Oper}
structure Left[ae](ops:Array Oper)(pr:List Nat)(m:Nat)(R:List Item)(aN:Array Bool):Prop where
 size:aN.size=ops.size
 item:∀ x∈R,ops[x.idx]?=some x.o∧aN.getD x.idx true=false∧x.idx<m
 sorted:R.Pairwise (fun x y=>x.idx<y.idx)
 all:∀ i,i<ops.size→aN.getD i true=false→i<m→∃ x∈R,x.idx=i
 rest:∀ i,m≤i→i<ops.size→aN.getD i true=false
 down:∀ i o,ops[i]?=some o→aN.getD i true=true→∀ p,sr pr i p=true→aN.getD p false=true
 names:R.Pairwise (fun x y=>au x.o.op=true→x.nm<y.nm)
theorem uc{a:Array Bool}{i:Nat}(h:i<a.size)(x y:Bool):a.getD i x=a.getD i y:=by
 simp[Array.getD,h]
theorem Ie{m:Region.Mode}{e:Edge}(h:Region.binds .any e=true):Region.binds m e=true:=by
 grind[Region.binds]
theorem C3[ae]{md:Region.Mode}(wC:pO md ops=true){aN:Array Bool}(eg:aN.size=ops.size){i:Nat}(bE:i<ops.size)(hi:aN.getD i true=false):Region.ready md ops aN≠[]:=by
 intro ym
 have aX:=Fx wC (T:=fun i=>i<ops.size∧aN.getD i true=true) (fun k o hk he=>by
  have We:k<ops.size:=(Array.getElem?_eq_some_iff.1 hk).1
  refine⟨We,?_⟩
  cases hq:aN.getD k true with
  |true=>rfl
  |false=>
   have lG:k∈Region.ready md ops aN:=by
    unfold Region.ready
    rw[List.mem_filter]
    refine⟨List.mem_range.2 We,?_⟩
    simp only[hq,Bool.not_false,Bool.true_and,hk,Option.map_some,Option.getD_some]
    rw[←Array.all_toList]
    refine List.all_eq_true.2 fun e hee=>?_
    cases hb:Region.binds md e with
    |false=>rfl
    |true=>
     grind
   rw[ym]at lG
   simp at lG) i bE
 rw[hi]at aX
 simp at aX
theorem wD[ae]{md:Region.Mode}(mZ:lz 0 ops.toList=true){aN:Array Bool}(eg:aN.size=ops.size)
  (Aw:∀ i o,ops[i]?=some o→aN.getD i true=true→∀ p,sr (cm ops.toList) i p=true→aN.getD p false=true) {i:Nat} (hi:i∈Region.ready md ops aN) :
  i<ops.size∧aN.getD i true=false∧∀ p,sr (cm ops.toList) i p=true→aN.getD p false=true:=by
 have BG:∀ i o,ops[i]?=some o→(cm ops.toList).getD i 0=jx (cm ops.toList) o.after.toList:=by
  intro i o ho
  have dr:ops.toList[i]?=some o:=by simpa using ho
  have:=qX ops.toList [] i o dr (fun e he hb=>by have:=gP ops.toList 0 mZ i o dr e he hb; simpa using this)
  simpa[cm] using this
 unfold Region.ready at hi
 rw[List.mem_filter]at hi
 obtain⟨EM,Jr⟩:=hi
 simp only[List.mem_range]at EM
 simp only[Bool.and_eq_true,Bool.not_eq_true']at Jr
 obtain⟨Wf,Fy⟩:=Jr
 refine⟨EM,Wf,fun p hp=>?_⟩
 obtain⟨o,Sr⟩:∃ o,ops[i]?=some o:=⟨ops[i],by simp[EM]⟩
 simp only[Sr,Option.map_some,Option.getD_some]at Fy
 rw[←Array.all_toList]at Fy
 unfold sr at hp
 rw[BG i o Sr]at hp
 obtain⟨e,he,Ig,hp⟩:=qW hp
 have hb:=(gP ops.toList 0 mZ i o (by simpa using Sr) e he Ig)
 have h1:=List.all_eq_true.1 Fy e he
 simp only[Ie Ig,Bool.not_true,Bool.false_or]at h1
 rcases hp with rfl|hp
 ·exact h1
 ·have bE:e.on<ops.size:=by omega
  have Wg:aN.getD e.on true=true:=by rw[uc (by rw[eg]; exact bE) true false]; exact h1
  obtain⟨o2,vn⟩:∃ o2,ops[e.on]?=some o2:=⟨ops[e.on],by simp[bE]⟩
  exact Aw e.on o2 vn Wg p hp
theorem NX[ae](mZ:lz 0 ops.toList=true):∀ {k:Nat} {o:Oper},ops[k]?=some o→∀ {p:Nat},sr (cm ops.toList) k p=true→p<k:=by
 have BG:∀ i o,ops[i]?=some o→(cm ops.toList).getD i 0=jx (cm ops.toList) o.after.toList:=by
  intro i o ho
  have dr:ops.toList[i]?=some o:=by simpa using ho
  have:=qX ops.toList [] i o dr (fun e he hb=>by have:=gP ops.toList 0 mZ i o dr e he hb; simpa using this)
  simpa[cm] using this
 intro k
 induction k using Nat.strongRecOn with
 |ind k ih=>
  intro o hk p hp
  unfold sr at hp
  rw[BG k o hk]at hp
  obtain⟨e,he,Ig,hp⟩:=qW hp
  have hb:=(gP ops.toList 0 mZ k o (by simpa using hk) e he Ig)
  rcases hp with rfl|hp
  ·omega
  ·grind
theorem wE{pr:List Nat}{n m:Nat}(h:np pr n m=true){i j:Nat}(h1:m≤i)(h2:i<n)(h3:j<i):sr pr i j=true:=by
 have:=List.all_eq_true.1 h (i-m) (List.mem_range.2 (by omega))
 have:=List.all_eq_true.1 this j (List.mem_range.2 (by omega))
 have e:m+(i-m)=i:=by omega
 rw[e]at this
 exact this
theorem KG[ae]{P:Program}(tZ:G3 step)(dY:sC P step)(mZ:lz 0 ops.toList=true){md:Region.Mode}(wC:pO md ops=true){m:Nat}(hm:m≤ops.size)(wF:np (cm ops.toList) ops.size m=true){s':St}{Q:Exit→Act→World→Prop}
  {E0:Env} {w0:World} {B:ph} {r:Option Nat}
  (hQ:∀ E a w (aN:Array Bool),Ext E0 E→Fr E0 w0 E w→cT B E s' a w→aN.size=ops.size→(∀ j,j<m→aN.getD j true=true)→(∀ j,m≤j→j<ops.size→aN.getD j true=false) →
    wpAnyIn (WF r) 0 P md ops Q (ops.size-m) aN a w) :
  ∀ (fuel:Nat) (R:List Item) (aN:Array Bool) (fs:List fS) (E:Env) (s:St) (a:Act) (w:World),R.length=fuel→Left ops (cm ops.toList) m R aN →
    Ext E0 E→Fr E0 w0 E w→cT B E s a w→(∀ x∈R,au x.o.op=true→s.hp[x.nm]?=some none)→cG step ops R s=some (s',fs) →
    (∀ (j k:Nat) (x y:Item) (f g:fS),j<k→R[j]?=some x→R[k]?=some y→fs[j]?=some f→fs[k]?=some g →
      sr (cm ops.toList) y.idx x.idx=true∨S3 ops x f y g) →
    wpAnyIn (WF r) 0 P md ops Q (fuel+(ops.size-m)) aN a w:=by
 have BG:∀ i o,ops[i]?=some o→(cm ops.toList).getD i 0=jx (cm ops.toList) o.after.toList:=by
  intro i o ho
  have dr:ops.toList[i]?=some o:=by simpa using ho
  have:=qX ops.toList [] i o dr (fun e he hb=>by have:=gP ops.toList 0 mZ i o dr e he hb; simpa using this)
  simpa[cm] using this
 intro fuel
 induction fuel with
 |zero=>
  intro R aN fs E s a w hlen hL hx eK hs _ aY _
  have hR:R=[]:=List.eq_nil_of_length_eq_zero hlen
  subst hR
  simp only[cG,Option.some.injEq,Prod.mk.injEq]at aY
  obtain⟨rfl,_⟩:=aY
  rw[Nat.zero_add]
  refine hQ E a w aN hx eK hs hL.size (fun j hj=>?_) hL.rest
  cases hq:aN.getD j true with
  |true=>rfl
  |false=>
   obtain⟨x,hx,_⟩:=hL.all j (by omega) hq hj
   simp at hx
 |succ fuel ih=>
  intro R aN fs E s a w hlen hL hx eK hs pU aY PA
  rw[show fuel+1+(ops.size-m)=(fuel+(ops.size-m))+1 by omega]
  refine⟨fun ym=>?_,fun i hi=>?_⟩
  ·-- the first of what is left is ready
   exfalso
   cases R with
   |nil=>simp at hlen
   |cons x r=>
    obtain⟨YT,M9,_⟩:=hL.item x (by simp)
    exact C3 wC hL.size (Array.getElem?_eq_some_iff.1 YT).1 M9 ym
  ·obtain⟨EM,Wf,GD⟩:=wD mZ hL.size hL.down hi
   have YU:i<m:=by
    rcases Nat.lt_or_ge i m with h|h
    ·exact h
    ·exfalso
     cases R with
     |nil=>simp at hlen
     |cons x r=>
      obtain⟨YT,M9,hxm⟩:=hL.item x (by simp)
      have:=GD x.idx (wE wF h EM (by omega))
      rw[uc (by rw[hL.size]; omega) true false]at M9
      rw[this]at M9; cases M9
   obtain⟨y,hy,hyi⟩:=hL.all i EM Wf YU
   subst hyi
   obtain⟨Sr,_,hym⟩:=hL.item y hy
   obtain⟨A,B',rfl⟩:=List.append_of_mem hy
   have S5:fs.length=(A++y::B').length:=by
    have:=congrArg List.length (qd _ _ _ _ aY)
    simpa using this
   have Wh:A.length<fs.length:=by rw[S5]; simp
   have JB:fs=fs.take A.length++fs[A.length]::fs.drop (A.length+1):=by
    simp_all
   have NU:∀ p∈A.zip (fs.take A.length),S3 ops p.1 p.2 y fs[A.length]:=by
    intro p hp
    obtain⟨j,hj⟩:=List.mem_iff_getElem?.1 hp
    have hjx:=(List.getElem?_zip_eq_some).1 hj
    obtain⟨h1,h2⟩:=hjx
    have Wi:=aL h1
    rw[List.getElem?_take_of_lt Wi]at h2
    rcases PA j A.length p.1 y p.2 fs[A.length] Wi (by rw[List.getElem?_append_left Wi]; exact h1) (by simp) h2 (by simp[Wh]) with h|h
    ·exfalso
     have h3:=GD _ h
     have h4:=(hL.item p.1 (List.mem_append_left _ (List.mem_of_getElem? h1))).2.1
     have bE:p.1.idx<ops.size:=(Array.getElem?_eq_some_iff.1 (hL.item p.1 (List.mem_append_left _ (List.mem_of_getElem? h1))).1).1
     rw[uc (by rw[hL.size]; exact bE) true false]at h4
     rw[h3]at h4; simp at h4
    ·exact h
   have QL:=sa tZ A s fs aY (fs.take A.length) fs[A.length] (fs.drop (A.length+1)) JB (by simp; omega) NU
   obtain⟨s1,f,EG,ig,PB,YV⟩:=lH QL
   simp only[List.cons.injEq]at YV
   obtain⟨rfl,rfl⟩:=YV
   have dE:∀ x∈A++B',x.idx≠y.idx:=by
    intro x hx
    have hp:=List.pairwise_append.1 hL.sorted
    rcases List.mem_append.1 hx with h|h
    ·have:=hp.2.2 x h y (by simp); omega
    ·have:=List.rel_of_pairwise_cons hp.2.1 h; omega
   have p6:(A++B').Sublist (A++y::B'):=List.Sublist.append (List.Sublist.refl A) (List.sublist_cons_self y B')
   have YW:Left ops (cm ops.toList) m (A++B') (aN.setIfInBounds y.idx true):=by
    have eR:∀ j d,j≠y.idx→(aN.setIfInBounds y.idx true).getD j d=aN.getD j d:=by
     intro j d hj
     simp[Array.getD_eq_getD_getElem?,Ne.symm hj]
    have C4:∀ d,(aN.setIfInBounds y.idx true).getD y.idx d=true:=by
     intro d
     have:y.idx<aN.size:=by rw[hL.size]; exact EM
     simp[Array.getD_eq_getD_getElem?,this]
    refine⟨by simpa using hL.size,fun x hx=>?_,hL.sorted.sublist p6,fun j hj hu hjm=>?_,fun j hj Wj=>?_,fun j o ho hl p hp=>?_,hL.names.sublist p6⟩
    ·obtain⟨h1,h2,h3⟩:=hL.item x (p6.subset hx)
     exact⟨h1,by rw[eR _ _ (dE x hx)]; exact h2,h3⟩
    ·have Ve:j≠y.idx:=by intro e; subst e; rw[C4]at hu; simp at hu
     rw[eR _ _ Ve]at hu
     obtain⟨x,hx,hxi⟩:=hL.all j hj hu hjm
     refine⟨x,?_,hxi⟩
     rcases List.mem_append.1 hx with h|h
     ·exact List.mem_append_left _ h
     ·cases h with
      |head=>omega
      |tail _ h=>exact List.mem_append_right _ h
    ·rw[eR _ _ (by omega)]
     exact hL.rest j hj Wj
    ·by_cases Ve:j=y.idx
     ·subst Ve
      rw[Sr]at ho; cases ho
      by_cases S6:p=y.idx
      ·subst S6; exact C4 _
      ·rw[eR _ _ S6]; exact GD p hp
     ·rw[eR _ _ Ve]at hl
      by_cases S6:p=y.idx
      ·subst S6; exact C4 _
      ·rw[eR _ _ S6]; exact hL.down j o ho hl p hp
   have nX:(A++B').length=fuel:=by simp at hlen ⊢; omega
   have KH:∀ (j k:Nat) (x z:Item) (f g:fS),j<k→(A++B')[j]?=some x→(A++B')[k]?=some z→(fs.take A.length++fs.drop (A.length+1))[j]?=some f →
     (fs.take A.length++fs.drop (A.length+1))[k]?=some g→sr (cm ops.toList) z.idx x.idx=true∨S3 ops x f z g:=by
    have tr:∀ (j:Nat) (x:Item) (f:fS),(A++B')[j]?=some x→(fs.take A.length++fs.drop (A.length+1))[j]?=some f →
      (A++y::B')[if j<A.length then j else j+1]?=some x∧fs[if j<A.length then j else j+1]?=some f:=by
     intro j x f h1 h2
     have htl:(fs.take A.length).length=A.length:=by simp; omega
     by_cases hj:j<A.length
     ·rw[if_pos hj]
      rw[List.getElem?_append_left hj]at h1
      rw[List.getElem?_append_left (by omega),List.getElem?_take_of_lt hj]at h2
      exact⟨by rw[List.getElem?_append_left hj]; exact h1,h2⟩
     ·rw[if_neg hj]
      rw[List.getElem?_append_right (by omega)]at h1
      rw[List.getElem?_append_right (by omega),htl,List.getElem?_drop]at h2
      refine⟨?_,?_⟩
      ·rw[List.getElem?_append_right (by omega)]
       have:j+1-A.length=(j-A.length)+1:=by omega
       rw[this]; simpa using h1
      ·have:A.length+1+(j-A.length)=j+1:=by omega
       rw[this]at h2; exact h2
    intro j k x z f g NW h1 h2 h3 h4
    obtain⟨a1,a2⟩:=tr j x f h1 h3
    obtain⟨b1,b2⟩:=tr k z g h2 h4
    refine PA _ _ x z f g ?_ a1 b1 a2 b2
    split<;>split<;>omega
   unfold wpOpIn
   rw[Sr]
   simp only
   rcases mi ig with ⟨hw,rfl,_⟩|⟨hw,e,he,EN,rfl,_⟩
   ·rw[lR hs.fr hw]
    simp only[Bool.false_eq_true,if_false]
    refine⟨fun _ _=>trivial,?_⟩
    refine ih (A++B') _ _ E { s with fr:=bJ s.fr y.o.dst .undef } _ w nX YW hx eK ⟨gO hs.fr (by simp[aj]),hs.inv,by rw[put_defers]; exact hs.df,hs.bs⟩ (fun x hx=>pU x (p6.subset hx)) PB KH
   ·rw[lR hs.fr hw]
    simp only[if_true]
    refine dY r y B E s a w e _ Q hs (pU y (by simp)) he fun E' w' v gK KI iM hr=>?_
    refine ih (A++B') _ _ E' { s with fr:=bJ s.fr y.o.dst e.val,hp:=ak s.hp e.wr } _ w' nX YW (hx.trans gK) (eK.trans KI) ⟨gO (hs.fr.mono gK) hr,iM,by rw[put_defers]; exact hs.df.mono KI,Nat.le_trans hs.bs KI.size⟩ (fun x hx ha=>?_) PB KH
    have hn:=pU x (p6.subset hx) ha
    have Fv:x.nm∉e.wr.map (·.1):=by
     intro hm
     obtain⟨q,hq,YX⟩:=List.mem_map.1 hm
     rcases (EN q hq).2 with h|⟨o,ho⟩
     ·have hxn:y.nm=x.nm:=by rw[←h.2]; exact YX
      have hp:=List.pairwise_append.1 hL.names
      rcases List.mem_append.1 hx with h'|h'
      ·have:=hp.2.2 x h' y (by simp) ha; omega
      ·have:=List.rel_of_pairwise_cons hp.2.1 h' h.1; omega
     ·rw[YX]at ho; rw[hn]at ho; simp at ho
    simp only
    rw[jf e.wr s.hp (fun q hq=>(EN q hq).1) x.nm Fv]
    exact hn
end
end Go.PI
end
section
/- PI, part X: results, calls, what is dropped. -/
namespace Go.PI
theorem C5{P:Program}{nm:Nat}{ev NY:Operand→AV}{o:Oper}(h:∀ x∈o.op.operands.toList,ev x=NY x):aO P nm ev o=aO P nm NY o:=by
 obtain⟨dst,op,type,pos,after,guard⟩:=o
 have Ih:∀ (l:List Operand),(∀ x∈l,x∈op.operands.toList)→l.map ev=l.map NY:=fun l hl=>List.map_congr_left fun x hx=>h x (hl x hx)
 unfold aO
 cases op with
 |build t parts=>
  have:(parts.toList.map fun p=>(p.1,ev p.2))=(parts.toList.map fun p=>(p.1,NY p.2)):=
   List.map_congr_left fun p hp=>by rw[h p.2 (by simp only[Op.operands]; exact List.mem_map.2 ⟨p,hp,rfl⟩)]
  simp only[this]
 |buildSlice t len parts=>
  have:(parts.toList.map fun p=>(p.1,ev p.2))=(parts.toList.map fun p=>(p.1,NY p.2)):=
   List.map_congr_left fun p hp=>by rw[h p.2 (by simp only[Op.operands]; exact List.mem_map.2 ⟨p,hp,rfl⟩)]
  simp only[this]
 |makeFunc fn first captured=>
  have h1:=Ih first.toList (fun x hx=>by simp only[Op.operands,Array.toList_append,List.mem_append]; exact .inl hx)
  have h2:=Ih captured.toList (fun x hx=>by simp only[Op.operands,Array.toList_append,List.mem_append]; exact .inr hx)
  simp only[h1,h2]
 |slice t x lo hi mx=>
  have h0:=h x (by simp[Op.operands])
  have h1:lo.map ev=lo.map NY:=by cases lo with|none=>rfl|some y=>simp[h y (by simp[Op.operands])]
  have h2:hi.map ev=hi.map NY:=by cases hi with|none=>rfl|some y=>simp[h y (by simp[Op.operands])]
  have h3:mx.map ev=mx.map NY:=by cases mx with|none=>rfl|some y=>simp[h y (by simp[Op.operands])]
  simp only[h0,h1,h2,h3]
 |call c=>
  obtain⟨callee,args,argTypes⟩:=c
  cases callee with
  |builtin b=>
   have h1:=Ih args.toList (fun x hx=>by simp[Op.operands,Call.operands]; simpa using hx)
   simp only[h1]
  |value f=>rfl
  |invoke r m=>rfl
 |move x=>simp only[h x (by simp[Op.operands])]
 |assign x=>simp only[h x (by simp[Op.operands])]
 |pick c a b=>simp_all[Op.operands]
 |box t x=>simp only[h x (by simp[Op.operands])]
 |load t a=>simp only[h a (by simp[Op.operands])]
 |store t a x=>simp_all[Op.operands]
 |nilCheck x=>simp only[h x (by simp[Op.operands])]
 |binOp b t x y yt=>simp_all[Op.operands]
 |unOp u t x=>simp only[h x (by simp[Op.operands])]
 |convert s d x=>simp only[h x (by simp[Op.operands])]
 |makeInterface t x=>simp only[h x (by simp[Op.operands])]
 |makeSlice t l c=>simp_all[Op.operands]
 |sliceToArrayPointer t x=>simp only[h x (by simp[Op.operands])]
 |fieldAddr s x f=>simp only[h x (by simp[Op.operands])]
 |field s x f=>simp only[h x (by simp[Op.operands])]
 |indexAddr t x i=>simp_all[Op.operands]
 |index t x i=>simp_all[Op.operands]
 |extract t i=>simp only[h t (by simp[Op.operands])]
 |makeMap t r=>
  have h1:r.map ev=r.map NY:=by cases r with|none=>rfl|some y=>simp[h y (by simp[Op.operands])]
  simp only[h1]
 |lookup t x i c=>simp_all[Op.operands]
 |mapUpdate t m k x=>simp_all[Op.operands]
 |_=>rfl
theorem KJ[ae]{P:Program}{nm nm':Nat}{ev:Operand→AV}{o:Oper}(h:au o.op=false):aO P nm ev o=aO P nm' ev o:=by
 obtain⟨dst,op,type,pos,after,guard⟩:=o
 unfold aO
 cases op with
 |alloc _=>simp[au]at h
 |box _ _=>simp[au]at h
 |buildSlice _ _ _=>simp[au]at h
 |makeSlice _ _ _=>simp[au]at h
 |makeMap _ _=>simp[au]at h
 |call c=>
  obtain⟨callee,args,argTypes⟩:=c
  cases callee with
  |builtin b=>
   cases b with
   |append=>simp[au]at h
   |_=>rfl
  |_=>rfl
 |_=>rfl
theorem RM.yn{hp:ag}{n:Nat}{g c f:Bool}{es:List AV}(h:hp[n]?=some (some (.arr g c f es))):(RM.arr n es.length).run hp=some (g,c,f,es):=by
 simp[RM.arr,RM.run,h]
theorem sD[ae]{P:Program}{E:Env}{hp:ag}{w:World}(hI:Inv E hp w){fr:List AV}{a:Act}(eK:an E true fr a.tmps.toList){fn:Func}{l:List AV}
  (h:(aW P fr fn.results.toList).run hp=some l):∃ v,(results fn a.tmps).run P w=.ok v w∧aj E true (cO l) v:=by
 have one:∀ (r:ResultVar) (x:AV),(kx P fr r).run hp=some x →
   ∃ v,(match r with|.tmp t=>pure (a.tmps.getD t undef)|.cell ad t=>(do loadVar t (←asAddr (a.tmps.getD ad undef))):Sem Value).run P w=.ok v w∧aj E true x v:=by
  intro r x hx
  cases r with
  |tmp t=>
   simp only[kx,RM.run_pure,Option.some.injEq]at hx
   subst hx
   exact⟨_,rfl,iw hI.jV eK (.tmp t)⟩
  |cell ad t=>
   simp only[kx]at hx
   have hr:=iw hI.jV eK (.tmp ad)
   obtain⟨v,h1,h2⟩:=GA hI (va:=a.tmps.getD ad undef) hr hx
   refine⟨v,?_,h2⟩
   simp only[Instr.loadAt,Sem.run_bind]at h1
   simp only[Sem.run_bind]
   cases hq:a.tmps.getD ad undef with
   |pointer p=>
    cases p with
    |some p=>rw[hq]at h1; simpa[asAddr,Instr.sureAddr] using h1
    |none=>rw[hq]at h1; simp[Instr.sureAddr]at h1
   |_=>rw[hq]at h1; simp[Instr.sureAddr]at h1
 have many:∀ (rs:List ResultVar) (l:List AV),(aW P fr rs).run hp=some l →
   ∃ vs:List Value,(rs.mapM fun|.tmp t=>pure (a.tmps.getD t undef)|.cell ad t=>(do loadVar t (←asAddr (a.tmps.getD ad undef))):Sem (List Value)).run P w=.ok vs w ∧
     an E true l vs:=by
  intro rs
  induction rs with
  |nil=>
   intro l h
   simp only[aW,RM.run_pure,Option.some.injEq]at h
   subst h
   exact⟨[],by simp[List.mapM_nil],by simp[an]⟩
  |cons r rs ih=>
   intro l h
   simp only[aW,RM.run_bind]at h
   cases hq:(kx P fr r).run hp with
   |none=>rw[hq]at h; simp at h
   |some x=>
    rw[hq]at h
    simp only[Option.bind_some]at h
    cases eC:(aW P fr rs).run hp with
    |none=>rw[eC]at h; simp at h
    |some xs=>
     rw[eC]at h
     simp only[Option.bind_some,RM.run_pure,Option.some.injEq]at h
     subst h
     obtain⟨v,h1,h2⟩:=one r x hq
     obtain⟨vs,h3,h4⟩:=ih xs eC
     refine⟨v::vs,?_,by simp only[an]; exact⟨h2,h4⟩⟩
     rw[List.mapM_cons,Sem.run_bind,h1,Result.andThen_ok,Sem.run_bind,h3]
     rfl
 obtain⟨vs,h1,h2⟩:=many _ _ h
 have hm:(fn.results.mapM fun|.tmp t=>pure (a.tmps.getD t undef)|.cell ad t=>(do loadVar t (←asAddr (a.tmps.getD ad undef))):Sem (Array Value)).run P w=.ok vs.toArray w:=by
  rw[Array.mapM_eq_mapM_toList,Sem.run_map,h1]
  rfl
 refine⟨if h:vs.toArray.size=1 then vs.toArray[0] else .tuple vs.toArray,?_,?_⟩
 ·unfold results
  rw[Sem.run_bind]
  exact congrArg (fun (r:Result (Array Value))=>r.andThen fun vs w'=>(pure (if h:vs.size=1 then vs[0] else .tuple vs):Sem Value).run P w') hm
 ·have hlen:=h2.length
  match l,vs,h2,hlen with
  |[],[],_,_=>simp[cO,aj,an]
  |[x],[v],h2,_=>simp only[an]at h2; simpa[cO] using h2.1
  |x::y::r,v::u::s,h2,_=>
   simp only[cO,aj]
   exact⟨v::u::s,by simp,h2⟩
  |[],_::_,_,h=>simp at h
  |_::_,[],_,h=>simp at h
  |[_],_::_::_,_,h=>simp at h
  |_::_::_,[_],_,h=>simp at h
def Env.gQ(E:Env)(k:Nat):Env where
 ρ:=fun n aq=>if n<E.L then E.ρ n aq else none
 m:=E.m
 L:=E.L+k
 own:=E.own
theorem Fz[ae]{E:Env}{hp:ag}{w:World}(hI:Inv E hp w)(k:Nat):
  Ext E (E.gQ k)∧Inv (E.gQ k) (hp++List.replicate k none) w∧Fr E w (E.gQ k) w:=by
 have hx:Ext E (E.gQ k):=⟨fun _ _ h=>h,fun n hn aq l h=>by simp[Env.gQ,hn,h],by simp[Env.gQ]⟩
 have hold:∀ n o,(hp++List.replicate k none)[n]?=some (some o)→hp[n]?=some (some o)∧n<E.L:=by
  intro n o h
  rw[List.getElem?_append]at h
  split at h
  ·rename_i bE; exact⟨h,by rw[←hI.len]; exact bE⟩
  ·simp[List.getElem?_replicate]at h
 have dD:∀ n,n<E.L→∀ aq,(E.gQ k).ρ n aq=E.ρ n aq:=fun n hn aq=>by simp[Env.gQ,hn]
 have ft:∀ n b,cy (E.gQ k) (hp++List.replicate k none) n b→cy E hp n b:=by
  rintro n b ⟨o,l,ho,hl,hb⟩
  obtain⟨h1,h2⟩:=hold n o ho
  refine⟨o,l,h1,?_,hb⟩
  cases o with
  |arr=>simpa only[dD n h2] using hl
  |gI=>simpa only[dD n h2] using hl
 refine⟨hx,⟨by simp[Env.gQ,hI.len],?_,?_,fun n1 n2 b h1 h2=>hI.inj n1 n2 b (ft _ _ h1) (ft _ _ h2),hI.mem,hI.pw,hI.jV⟩,
  ⟨rfl,rfl,rfl,Nat.le_refl _,fun _ _ _=>rfl,fun _ h=>.inl h,fun _ _ h=>.inl h,fun _ r h=>⟨r,h⟩⟩⟩
 ·intro n o ho
  obtain⟨h1,h2⟩:=hold n o ho
  have h:=hI.objs n o h1
  cases o with
  |arr g cl fz es=>
   obtain⟨l,hl,hv,hm⟩:=h
   refine⟨l,by rw[dD n h2]; exact hl,fun aq l' h=>hv aq l' (by rw[dD n h2]at h; exact h),?_⟩
   cases hb:l.lq with
   |none=>rw[hb]at hm; exact hm
   |some b=>
    rw[hb]at hm
    obtain⟨c,T,a1,a2,a3,a4,a5,a6,a7⟩:=hm
    exact⟨c,T,a1,a2,a3,a4,a5,a6,fun i e he=>by obtain⟨v,jS,fF⟩:=a7 i e he; exact⟨v,jS.mono hx,fF⟩⟩
  |gI k Nq=>
   obtain⟨l,b,es,clock,a1,a2,a3,a4,a5,a6,a7,a8⟩:=h
   exact⟨l,b,es,clock,by rw[dD n h2]; exact a1,a2,a3,a4,a5,fun aq l' h=>a6 aq l' (by rw[dD n h2]at h; exact h),a7,a8.mono hx⟩
 ·intro n aq h
  rw[List.getElem?_append]at h
  split at h
  ·rename_i bE
   have:n<E.L:=by rw[←hI.len]; exact bE
   rw[dD n this]
   exact hI.free n aq h
  ·rename_i NH
   have:¬n<E.L:=by rw[←hI.len]; exact NH
   simp[Env.gQ,this]
def Env.lower(E:Env)(n:Nat):Env:={ E with L:=n }
theorem ud[ae]{E:Env}{hp:ag}{w:World}(hI:Inv E hp w){n:Nat}(hn:n≤hp.length)(aX:(hp.take n).all (kW n)=true):
  Inv (E.lower n) (hp.take n) w∧Fr E w (E.lower n) w∧Down E (E.lower n):=by
 have QM:Down E (E.lower n):=⟨fun _ _ h=>h,fun _ _ _ _ h=>h⟩
 have hold:∀ i o,(hp.take n)[i]?=some o→hp[i]?=some o∧i<n:=by
  grind
 have ft:∀ i b,cy (E.lower n) (hp.take n) i b→cy E hp i b:=by
  rintro i b ⟨o,l,ho,hl,hb⟩
  exact⟨o,l,(hold i _ ho).1,hl,hb⟩
 refine⟨⟨by simp[Env.lower]; omega,?_,fun i aq h=>hI.free i aq (hold i _ h).1,fun n1 n2 b h1 h2=>hI.inj n1 n2 b (ft _ _ h1) (ft _ _ h2),hI.mem,hI.pw,hI.jV⟩,
  ⟨rfl,rfl,rfl,Nat.le_refl _,fun _ _ _=>rfl,fun _ h=>.inl h,fun _ _ h=>.inl h,fun _ r h=>⟨r,h⟩⟩,QM⟩
 intro i o ho
 obtain⟨h1,h2⟩:=hold i _ ho
 have hb:=List.all_eq_true.1 aX _ (List.mem_of_getElem? ho)
 simp only[kW]at hb
 have h:=hI.objs i o h1
 cases o with
 |arr g cl fz es=>
  obtain⟨l,hl,hv,hm⟩:=h
  refine⟨l,hl,hv,?_⟩
  cases zw:l.lq with
  |none=>rw[zw]at hm; exact hm
  |some b=>
   rw[zw]at hm
   obtain⟨c,T,a1,a2,a3,a4,a5,a6,a7⟩:=hm
   refine⟨c,T,a1,a2,a3,a4,a5,a6,fun j e he=>?_⟩
   obtain⟨v,jS,fF⟩:=a7 j e he
   refine⟨v,?_,fF⟩
   cases cl with
   |true=>exact aj.eE ⟨QM.m⟩ jS
   |false=>
    simp only[aP.below,Bool.false_or]at hb
    refine aj.down QM ?_ jS
    have:∀ (l:List AV),c7 n l=true→∀ x∈l,below n x=true:=by
     intro l
     induction l with
     |nil=>simp
     |cons y ys ih=>
      simp_all[c7]
    exact this es hb e (List.mem_of_getElem? he)
 |gI k Nq=>
  obtain⟨l,b,es,clock,a1,a2,a3,a4,a5,a6,a7,a8⟩:=h
  refine⟨l,b,es,clock,a1,a2,a3,a4,a5,a6,a7,?_⟩
  simp only[aP.below]at hb
  exact an.down QM hb a8
theorem sE[ae]{E:Env}{n:Nat}(QM:Down E (E.lower n)):∀ {fr:List AV} {vs:List Value},an E true fr vs→an (E.lower n) true (fr.map (forget n)) vs
 |[],[],_=>by simp[an]
 |x::xs,v::vs,h=>by
  simp only[an]at h
  simp only[List.map_cons,an]
  refine⟨?_,sE QM h.2⟩
  unfold forget
  split
  ·rename_i hb; exact aj.down QM hb h.1
  ·simp[aj]
 |[],_::_,h=>by simp[an]at h
 |_::_,[],h=>by simp[an]at h
end Go.PI
end
section
/- PI, part Da: a function that is entered as a deferred call while the frame below returns: recover gives nil. -/
namespace Go.PI
theorem lZ(o:Oper):(dW o).dst=o.dst∧(dW o).guard=o.guard∧(dW o).after=o.after:=by
 unfold dW; split
 ·split<;>exact⟨rfl,rfl,rfl⟩
 ·exact⟨rfl,rfl,rfl⟩
theorem Aa(o:Oper):dW o=o∨(dW o={ o with op:=.move (.const .nilIface) }∧∃ mR,o.op=.call { callee:=.builtin .recover,args:=#[],argTypes:=mR }):=by
 unfold dW; split
 ·rename_i c hc
  split
  ·rename_i h1 h2
   refine .inr ⟨rfl,c.argTypes,?_⟩
   rw[hc]
   obtain⟨x,y,z⟩:=c
   simp only at h1 h2
   rw[h1,Array.toList_eq_nil_iff.1 h2]
  ·exact .inl rfl
 ·exact .inl rfl
theorem Cw{ρ:Operand→Value}{o:Oper}{P:Program}{w:World}{mR:Array TypeId}(h:o.op=.call { callee:=.builtin .recover,args:=#[],argTypes:=mR }):(execOp ρ o).run P w=.ok .recover w:=by
 unfold execOp; rw[h]; rfl
theorem zx(ops:Array Oper)(tmps:Array Value):yielded (ops.map dW) tmps=yielded ops tmps:=by
 funext j
 simp only[yielded,Array.getElem?_map]
 cases ops[j]? with
 |none=>rfl
 |some o=>simp only[Option.map_some,Option.bind_some,(lZ o).1]
section
variable {F:Fence}{n:Nat}{P:Program}{ops:Array Oper}{Q:Exit→Act→World→Prop}
theorem Gx(l:List Nat):∀ (a:Act) (w:World),wpOpsIn F n P (ops.map dW) Q l a w→∀ (b:Frame) (k:List Go.Item) (cs:List Frame),b.kind=.deferred→recoverD cs=none→F.round=none→b.roundOf=F.round→F.fn b.fn→F.room (cs.length+1+n) →
  ∃ e a' w',Q e a' w'∧ArrivesIn (Machine.fenced P F) P (lone (b.atR a (.inRegion ops l::k)) cs w) b k cs e a' w':=by
 induction l with
 |nil=>exact fun a w h b k cs _ _ _ _ hb hr=>⟨.normal,a,w,h,.one (fenced_calm hb hr rfl) stepR_region_end⟩
 |cons i rest ih=>
  intro a w h b k cs hk nM eK dV hb hr
  simp only[wpOpsIn,Array.getElem?_map,zx]at h
  cases ho:ops[i]? with
  |none=>
   simp only[ho,Option.map_none]at h
   obtain⟨e,a',w',hq,cW⟩:=ih a w h b k cs hk nM eK dV hb hr
   have hs:=stepR_op_skip (P:=P) (b:=b) (a:=a) (k:=k) (cs:=cs) (w:=w) (ops:=ops) (i:=i) (rest:=rest) (by simp[ho])
   simp only[ho,Option.bind_none,Act.put]at hs
   exact⟨e,a',w',hq,.of_steps (.one (fenced_noOper hb hr ho) hs) cW⟩
  |some o=>
   simp only[ho,Option.map_some]at h
   have ZS:Region.wanted (dW o) (yielded ops a.tmps)=Region.wanted o (yielded ops a.tmps):=by unfold Region.wanted; rw[(lZ o).2.1]
   rw[ZS,(lZ o).1]at h
   have oz:∀ v,(b.atR a (.inRegion ops (i::rest)::k)).finish v=b.atR (a.put o.dst v) (.inRegion ops rest::k):=by
    intro v; rw[Frame.finish_atR,ho]; rfl
   by_cases hw:Region.wanted o (yielded ops a.tmps)=true
   ·have hg:=stepGR_op (P:=P) (b:=b) (k:=k) (cs:=cs) (w:=w) (rest:=rest) ho hw
    simp only[hw,if_true,Oper.wpIn]at h
    rcases Aa o with he|⟨he,mR,EF⟩
    ·rw[he]at h
     rw[dV]at hg
     obtain⟨uY,h⟩:=h
     have h0:(lone (b.atR a (.inRegion ops (i::rest)::k)) cs w).fenced P F:=fenced_oper hb hr ho uY
     simp only[Oper.uponIn]at h
     split at h
     ·rename_i v w' ma
      obtain⟨e,a',xO,hq,cW⟩:=ih _ _ h b k cs hk nM eK dV hb hr
      refine⟨e,a',xO,hq,.of_steps (.one h0 (step_lone_go ?_)) cW⟩
      rw[hg,←oz]; simp[stepG.apply,ma]
     ·rename_i w' ma
      obtain⟨e,a',xO,hq,cW⟩:=ih _ _ h b k cs hk nM eK dV hb hr
      refine⟨e,a',xO,hq,.of_steps (.one h0 (step_lone_go ?_)) cW⟩
      rw[hg,←oz]; simp[stepG.apply,ma]
     ·rename_i d w' ma
      obtain⟨e,a',xO,hq,cW⟩:=ih _ _ h b k cs hk nM eK dV hb hr
      refine⟨e,a',xO,hq,.of_steps (.one h0 (step_lone_go ?_)) cW⟩
      have:=Frame.finish_atR b { a with defers:=d::a.defers } ops i rest k undef
      rw[ho]at this
      rw[hg]; simp only[stepG.apply,Sem.runT_eq,ma,GStep.bare_after]
      exact congrArg (fun fr=>GStep.go { frame:=fr,callers:=cs,status:=.running,dying:=none } w') this
     ·rename_i f args w' ma
      obtain⟨hn,hF,h⟩:=h
      have nN:F.room ((b.atR a (.inRegion ops (i::rest)::k)::cs).length+1+(n-1)):=Fence.room_enter hr hn
      obtain⟨e,xO,fr,hR,oA,rN,Bj⟩:=h (b.atR a (.inRegion ops (i::rest)::k)::cs) nN
      have mb:step P (lone (b.atR a (.inRegion ops (i::rest)::k)) cs w)=.next (lone (Frame.enter P f args .normal) (b.atR a (.inRegion ops (i::rest)::k)::cs) w'):=
       step_lone_go (by rw[hg]; simp[stepG.apply,ma,Frame.atR])
      cases e with
      |returned v=>
       have hl:(lone fr (b.atR a (.inRegion ops (i::rest)::k)::cs) xO).fenced P F:=fenced_leaving (rN▸hF) nN Bj
       obtain⟨e,a',w₃,hq,cW⟩:=ih _ _ hR b k cs hk nM eK dV hb hr
       refine⟨e,a',w₃,hq,.of_steps (.head h0 mb (StepsIn.trans oA (.one hl ?_))) cW⟩
       rw[←oz]; exact step_leave_returned Bj
      |panicked chain=>
       have hl:(lone fr (b.atR a (.inRegion ops (i::rest)::k)::cs) xO).fenced P F:=fenced_leaving (rN▸hF) nN Bj
       refine⟨.panic chain,a,xO,hR,.inRegion ops (i::rest)::k,.head h0 mb (StepsIn.trans oA (.one hl ?_))⟩
       rw[←Frame.raise_atR]; exact step_leave_panicked Bj
      |outgrown=>
       obtain⟨a₀,w₀,hq⟩:=hR
       exact⟨.outgrown,a₀,w₀,hq,.inr (Outgrown.of_steps (.one mb) oA)⟩
     ·rename_i row args w' ma
      obtain⟨hn,h⟩:=h
      obtain⟨v,xO,hR,oA⟩:=h (b.atR a (.inRegion ops (i::rest)::k)) cs (Fence.room_enter hr hn)
      have mb:step P (lone (b.atR a (.inRegion ops (i::rest)::k)) cs w)=.next (lone (Frame.ofRow P row args .normal) (b.atR a (.inRegion ops (i::rest)::k)::cs) w'):=
       step_lone_go (by rw[hg]; simp[stepG.apply,ma,Frame.atR])
      obtain⟨e,a',w₃,hq,cW⟩:=ih _ _ hR b k cs hk nM eK dV hb hr
      refine⟨e,a',w₃,hq,.of_steps (.head h0 mb ?_) cW⟩
      rw[←oz]; exact oA
     ·rename_i l f tmps assign body w' ma
      obtain⟨hn,_,h⟩:=h
      obtain⟨e,xO,hR,oA⟩:=h (b.atR a (.inRegion ops (i::rest)::k)) cs (Fence.room_enter hr hn)
      have mb:step P (lone (b.atR a (.inRegion ops (i::rest)::k)) cs w)=.next (lone (Frame.round l f tmps assign body .normal) (b.atR a (.inRegion ops (i::rest)::k)::cs) w'):=
       step_lone_go (by rw[hg]; simp[stepG.apply,ma,Frame.atR])
      cases e with
      |returned v=>
       obtain⟨e,a',w₃,hq,cW⟩:=ih _ _ hR b k cs hk nM eK dV hb hr
       refine⟨e,a',w₃,hq,.of_steps (.head h0 mb ?_) cW⟩
       rw[←oz]; exact oA
      |panicked chain=>
       refine⟨.panic chain,a,xO,hR,.inRegion ops (i::rest)::k,.head h0 mb ?_⟩
       rw[←Frame.raise_atR]; exact oA
      |outgrown=>
       obtain⟨a₀,w₀,hq⟩:=hR
       exact⟨.outgrown,a₀,w₀,hq,.inr (Outgrown.of_steps (.one mb) oA)⟩
     ·rename_i v w' ma
      refine⟨_,a,w',h,.inRegion ops (i::rest)::k,.one h0 (step_lone_go ?_)⟩
      rw[hg,←Frame.raise_atR]; simp[stepG.apply,ma]
     ·exact h.elim
    ·-- recover
     rw[he]at h
     have uY:∀ f,o.about P w a.eval=some f→F.fn f:=by
      intro f hf
      unfold Oper.about at hf
      rw[EF]at hf
      cases hf
     have h0:(lone (b.atR a (.inRegion ops (i::rest)::k)) cs w).fenced P F:=fenced_oper hb hr ho uY
     have h2:wpOpsIn F n P (ops.map dW) Q rest (a.put o.dst .nilIface) w:=by
      have h3:=h.2
      rw[eK]at h3
      exact h3
     obtain⟨e,a',xO,hq,cW⟩:=ih _ _ h2 b k cs hk nM eK dV hb hr
     refine⟨e,a',xO,hq,.of_steps (.one h0 (step_lone_go ?_)) cW⟩
     have YG:b.roundOf=none:=dV.trans eK
     rw[YG,Oper.semAt_none]at hg
     have Sg:=tryRecover_deferred (fr:=b.atR a (.inRegion ops (i::rest)::k)) hk cs
     rw[hg,←oz]
     simp only[Frame.atR,YG]at Sg ⊢
     simp[stepG.apply,Cw EF,Sg,nM]
   ·simp only[hw,if_false,Bool.false_eq_true]at h
    obtain⟨uY,h⟩:=h
    obtain⟨e,a',w',hq,cW⟩:=ih _ _ h b k cs hk nM eK dV hb hr
    have hs:=stepR_op_skip (P:=P) (b:=b) (a:=a) (k:=k) (cs:=cs) (w:=w) (ops:=ops) (i:=i) (rest:=rest) (by simp[ho]; simpa using hw)
    simp only[ho,Option.bind_some]at hs
    have No:∀ f,o.about P w a.eval=some f→F.fn f:=by
     rcases Aa o with he|⟨he,mR,EF⟩
     ·rw[he]at uY; exact uY
     ·intro f hf
      unfold Oper.about at hf
      rw[EF]at hf
      cases hf
    exact⟨e,a',w',hq,.of_steps (.one (fenced_oper hb hr ho No) hs) cW⟩
def HQ(F:Fence)(n:Nat)(P:Program)(c:Code)(Q:Exit→Act→World→Prop)(a:Act)(w:World):Prop:=
 ∀ (b:Frame) (k:List Go.Item) (cs:List Frame),b.kind=.deferred→recoverD cs=none→F.round=none→b.roundOf=F.round→F.fn b.fn→F.room (cs.length+1+n) →
   ∃ e a' w',Q e a' w'∧ArrivesIn (Machine.fenced P F) P (lone (b.atR a (.code c::k)) cs w) b k cs e a' w'
variable {a:Act}{w:World}
theorem JG{c:Code}(h:c.wpIn F n P Q a w):HQ F n P c Q a w:=fun b k cs _ _ _ dV hb hr=>h b k cs dV hb hr
theorem Np{x y:Code}(h:HQ F n P x (fun e a w=>match e with|.normal=>HQ F n P y Q a w|e=>Q e a w) a w):HQ F n P (.seq x y) Q a w:=by
 intro b k cs hk nM eK dV hb hr
 have i0:(lone (b.atR a (.code (.seq x y)::k)) cs w).fenced P F:=fenced_calm hb hr rfl
 obtain⟨e,a₁,w₁,hq,cW⟩:=h b (.code y::k) cs hk nM eK dV hb hr
 cases e with
 |normal=>
  obtain⟨e₂,a₂,w₂,xP,ky⟩:=hq b k cs hk nM eK dV hb hr
  exact⟨e₂,a₂,w₂,xP,.of_steps (.head i0 stepR_seq cW) ky⟩
 |exit id=>exact⟨_,a₁,w₁,hq,.of_steps (.one i0 stepR_seq) (.pass (x:=.code y) rfl (fun _ _=>.inl (by simp)) cW)⟩
 |goto l=>exact⟨_,a₁,w₁,hq,.of_steps (.one i0 stepR_seq) (.pass (x:=.code y) rfl (fun _ _=>.inl (by simp)) cW)⟩
 |ret=>exact⟨_,a₁,w₁,hq,.of_steps (.one i0 stepR_seq) (.pass (x:=.code y) rfl (fun _ _=>.inl (by simp)) cW)⟩
 |panic ch=>exact⟨_,a₁,w₁,hq,.of_steps (.one i0 stepR_seq) (.pass (x:=.code y) rfl (fun _ _=>.inl (by simp)) cW)⟩
 |outgrown=>exact⟨_,a₁,w₁,hq,.of_steps (.one i0 stepR_seq) (.pass (x:=.code y) rfl (fun _ _=>.inl (by simp)) cW)⟩
theorem EY{id:Nat}(h:wpOpsIn F n P (ops.map dW) Q (List.range ops.size) a w):HQ F n P (.region id ops false) Q a w:=
 fun b k cs hk nM eK dV hb hr=>let ⟨e,a',w',q,r⟩:=Gx _ a w h b k cs hk nM eK dV hb hr; ⟨e,a',w',q,.of_steps (.one (fenced_calm hb hr rfl) stepR_region) r⟩
theorem JH{id:Nat}(h:∀ t,wpOpsIn F n P (ops.map dW) Q (Region.schedule (P.follows .mixedOrders) ops t) a { w with drawn:=w.drawn+1 }):HQ F n P (.region id ops true) Q a w:=
 fun b k cs hk nM eK dV hb hr=>let ⟨e,a',w',q,r⟩:=Gx _ a _ (h _) b k cs hk nM eK dV hb hr; ⟨e,a',w',q,.of_steps (.one (fenced_calm hb hr rfl) stepR_region_draw) r⟩
theorem zy{f:FuncId}{fn:Func}{c:Code}{args:Array Value}{R:Ending→World→Prop}(hf:P.funcs[f]?=some fn)(hb:fn.body=some c)(hF:F.fn f)
  (h:HQ F n P c (bodyPost P fn R) { tmps:=args++Array.replicate (fn.ntmps-args.size) undef,defers:=[] } w) (dV:F.round=none:=by rfl) :
  CallsDIn F n P f args .returning w fun e u' w'=>u'=.returning∧R e w':=by
 refine⟨hF,fun c₀ cs hu hr=>?_⟩
 let b:Frame:={ (default:Frame) with fn:=f,kind:=.deferred,roundOf:=none }
 have mb:Frame.enter P f args .deferred=b.atR { tmps:=args++Array.replicate (fn.ntmps-args.size) undef,defers:=[] } [.code c]:=by
  simp[Frame.enter,Frame.atR,hf,hb,b]
 have hc:({ c₀ with mode:=.returning }:Frame)=c₀:=by cases c₀; simp only at hu; rw[hu]
 have nM:recoverD (c₀::cs)=none:=by simp only[recoverD,hu]
 obtain⟨e,a',w',hq,cW⟩:=h b [] (c₀::cs) rfl nM dV dV.symm hF hr
 rw[←mb]at cW
 cases e with
 |normal=>
  obtain⟨hd,v,ma,hR⟩:=hq
  exact⟨.returned v,.returning,w',_,⟨rfl,hR⟩,(by rw[hc]; exact StepsIn.trans cW (.one (fenced_calm (fr:=b.atR a' []) hF hr rfl) (stepR_end rfl))),rfl,rfl,rfl,hd,fn,hf,ma⟩
 |ret=>
  obtain⟨hd,v,ma,hR⟩:=hq
  obtain⟨todo,hs⟩:=cW.1 rfl
  exact⟨.returned v,.returning,w',_,⟨rfl,hR⟩,(by rw[hc]; exact hs),rfl,rfl,rfl,hd,fn,hf,ma⟩
 |panic chain=>
  obtain⟨hd,hR⟩:=hq
  obtain⟨todo,hs⟩:=cW
  exact⟨.panicked chain,.returning,w',_,⟨rfl,hR⟩,(by rw[hc]; exact hs),rfl,rfl,rfl,hd,fn,hf⟩
 |exit id=>exact hq.elim
 |goto l=>exact hq.elim
 |outgrown=>exact⟨.outgrown,.returning,w',b,⟨rfl,hq⟩,cW.resolve_left (by simp[b]),rfl,rfl,trivial⟩
end
end Go.PI
end
section
/- PI, part Y: the evaluator's answers are what the machine does, on every tape and in every order. -/
namespace Go.PI
def KL[ae](B:ph)(E:Env):Out→Exit→Act→World→Prop
 |.norm s,.normal,a,w=>cT B E s a w
 |.exit i s,.exit j,a,w=>i=j∧cT B E s a w
 |.ret s,.ret,a,w=>cT B E s a w
 |.kv v s,.panic ch,a,w=>∃ u,ch=[{ v:=u,recovered:=false }]∧aj E true v u∧Inv E s.hp w∧Marks B E w a.defers
 |_,_,_,_=>False
def br[ae](B:ph)(E:Env)(w:World)(o:Out)(e:Exit)(a':Act)(w':World):Prop:=
 ∃ E',Ext E E'∧Fr E w E' w'∧KL B E' o e a' w'
theorem br.from[ae]{B:ph}{E E1:Env}{w w1:World}{o:Out}{e:Exit}{a:Act}{w':World}(hx:Ext E E1)(hf:Fr E w E1 w1)(h:br B E1 w1 o e a w'):br B E w o e a w':=by
 obtain⟨E',h1,h2,h3⟩:=h
 exact⟨E',hx.trans h1,hf.trans h2,h3⟩
structure Ctx.Ok[ae](C:Ctx):Prop where
 name : ∀ (f : FuncId) (fn : Func), C.P.funcs[f]? = some fn → fn.body.isSome = true → (fn.name == "runtime.NumGoroutine") = false
 kY:∀ (g:FuncId) (h:List AV→Option AV) (as:List AV) (r:AV),C.kY g=some h→h as=some r→∀ (Ec:Env) (w:World) (vs:List Value),Inv Ec [] w→an Ec false as vs →
  Calls C.P g vs.toArray w (bW Ec w [] (.val r))
 jw:∀ (g:FuncId) (h:List AV→Option (AV×ag)) (as:List AV) (r:AV) (iG:ag),C.jw g=some h→h as=some (r,iG) →
  ∀ (Ec:Env) (w:World) (vs:List Value),Inv Ec [] w→an Ec false as vs →
    Calls C.P g vs.toArray w (fun en w'=>∃ r' QN,bW Ec w QN (.val r') en w'∧∀ nm,gm nm r' QN=gm nm r iG)
 BH:∀ (g:FuncId) (h:List AV→Option (AV×ag)),C.jw g=some h→∃ fn:Func,C.P.funcs[g]?=some fn∧fn.body.isSome=true
 rW:∀ (g:FuncId) (h:List AV→RM dK) (args:List AV) (hp:ag) (e:dK),C.rW g=some h→(h args).run hp=some e→(∃ fn:Func,C.P.funcs[g]?=some fn∧fn.body.isSome=true) ∧
  ∀ (E:Env) (w:World) (vs:List Value),Inv E hp w→an E true args vs→Calls C.P g vs.toArray w (bW E w (ak hp e.wr) (.val e.val))
 FA:∀ (g:FuncId) (h:List AV→Option AV),C.kY g=some h→∃ fn:Func,C.P.funcs[g]?=some fn∧fn.body.isSome=true
def ml[ae](C:Ctx)(k:Nat):Prop:=
 ∀ f args hp res cB,mG C k f args hp=some (res,cB)→∀ (E:Env) (w:World) (vs:List Value),Inv E hp w→an E true args vs →
   Calls C.P f vs.toArray w (bW E w cB res)
def fT[ae](C:Ctx)(k:Nat):Prop:=
 ∀ c s o,cb C k c s=some o→∀ (r:Option Nat) (B:ph),((r=B.lb∧B.rg=true)∨cJ c=true)→∀ (E:Env) (a:Act) (w:World),cT B E s a w→c.wpIn (WF r) 0 C.P (br B E w o) a w
def mn[ae](P:Program)(step:Oper→St→Option Out):Prop:=
 ∀ (o:Oper) (s:St) (r:Out),step o s=some r→∀ (rd:Option Nat) (B:ph) (E:Env) (a:Act) (w:World) (K:Act→World→Prop) (Q:Exit→Act→World→Prop),cT B E s a w →
   (∀ s',r=.norm s'→∀ E' a' w',Ext E E'→Fr E w E' w'→cT B E' s' a' w'→K a' w') →
   (∀ v s',r=.kv v s'→∀ E' w' u,Ext E E'→Fr E w E' w'→Inv E' s'.hp w'→aj E' true v u→Q (.panic [{ v:=u,recovered:=false }]) a w') →
   o.wpIn (WF rd) 0 P a w K Q
def vo[ae](C:Ctx)(k:Nat):Prop:=
 ∀ g args hp res wr,(lO C k g args).run hp=some (res,wr)→∀ (E:Env) (w:World) (vs:List Value),Inv E hp w→an E true args vs →
   Calls C.P g vs.toArray w (bW E w (ak hp wr) res)
theorem qY[ae]{P:Program}{step:Oper→St→Option Out}(dY:mn P step)(ue:∀ o s r,step o s=some r→(∃ s',r=.norm s')∨∃ v s',r=.kv v s')
  {ops:Array Oper} (rd:Option Nat) (B:ph):∀ (l:List Oper) (s:St) (o:Out),cR step ops l s=some o→∀ (E0 E:Env) (a:Act) (w0 w:World),Ext E0 E→Fr E0 w0 E w→cT B E s a w →
    wpListIn (WF rd) 0 P ops (br B E0 w0 o) l a w
 |[],s,o,h,E0,E,a,w0,w,hx,hf,hs=>by
  simp only[cR,Option.some.injEq]at h
  subst h
  exact⟨E,hx,hf,hs⟩
 |p::r,s,o,h,E0,E,a,w0,w,hx,hf,hs=>by
  simp only[cR]at h
  unfold wpListIn
  split at h
  ·simp at h
  ·rename_i hw
   rw[lR hs.fr hw]
   simp only[Bool.false_eq_true,if_false]
   exact⟨fun _ _=>trivial,qY dY ue rd B r _ o h E0 E _ w0 w hx hf ⟨gO hs.fr (by simp[aj]),hs.inv,by rw[put_defers]; exact hs.df,hs.bs⟩⟩
  ·rename_i hw
   rw[lR hs.fr hw]
   simp only[if_true]
   cases hq:step p s with
   |none=>rw[hq]at h; simp at h
   |some q=>
    rw[hq]at h
    refine dY p s q hq rd B E a w _ _ hs (fun s' e E' a' w' gK GI fG=>?_) (fun v s' e E' w' u gK GI iM hr=>?_)
    ·subst e
     exact qY dY ue rd B r s' o h E0 E' a' w0 w' (hx.trans gK) (hf.trans GI) fG
    ·subst e
     simp only[Option.some.injEq]at h
     subst h
     exact⟨E',hx.trans gK,hf.trans GI,u,rfl,hr,iM,hs.df.mono GI⟩
theorem fw[ae]{P:Program}{E:Env}{w:World}{fv:AV}{f:Value}{args wG:List AV}{vs:List Value}{g:FuncId}(hf:aj E true fv f)(ha:an E true args vs)
  (h : bH fv args = some (g, wG)) (rN : ∃ fn : Func, P.funcs[g]? = some fn ∧ fn.body.isSome = true ∧ (fn.name == "runtime.NumGoroutine") = false) :
  ∃ vs':List Value,an E true wG vs'∧(do let d ←Deferred.ofValue f vs.toArray; invoke d.target d.args:Sem Next).run P w=.ok (.enter g vs'.toArray) w:=by
 obtain⟨fn,h1,h2,h3⟩:=rN
 have hb:fn.body.isNone=false:=by cases hq:fn.body<;>simp_all
 have run:∀ (first captured:List Value),f=.func (.func g) first.toArray captured.toArray →
   (do let d ←Deferred.ofValue f vs.toArray; invoke d.target d.args:Sem Next).run P w=.ok (.enter g (first++vs++captured).toArray) w:=by
  intro first captured hv
  subst hv
  simp only[Deferred.ofValue,Sem.run_bind,Sem.run_pure,Result.andThen_ok,invoke,callFunc,run_program,h1,h3,hb,Bool.false_eq_true,if_false]
  simp
 cases fv with
 |lit u=>
  cases u with
  |func Wk first captured=>
   cases Wk with
   |func g'=>
    simp only[bH,Option.some.injEq,Prod.mk.injEq]at h
    obtain⟨rfl,rfl⟩:=h
    simp only[aj]at hf
    exact⟨first.toList++vs++captured.toList,((an.lits _).append ha).append (an.lits _),run _ _ (by simpa using hf)⟩
   |_=>simp[bH]at h
  |_=>simp[bH]at h
 |ju Wk first captured=>
  cases Wk with
  |func g'=>
   simp only[bH,Option.some.injEq,Prod.mk.injEq]at h
   obtain⟨rfl,rfl⟩:=h
   simp only[aj]at hf
   obtain⟨fv,cv,hv,rP,jg⟩:=hf
   exact⟨fv++vs++cv,(rP.append ha).append jg,run _ _ hv⟩
  |_=>simp[bH]at h
 |_=>simp[bH]at h
theorem FB[ae]{P:Program}{E:Env}{hp:ag}{w:World}{o:Oper}{ρ:Operand→Value}{e:dK}(h:Step P E hp w (execOp ρ o) e)(r:Option Nat):o.semAt r ρ=execOp ρ o:=by
 refine Oper.semAt_eq r ρ o fun c hc=>?_
 obtain⟨E',w',v,hr,_⟩:=h
 have hd:(execOp ρ o).run P w=(do pure (.defer (←resolve ρ c o.type)):Sem Next).run P w:=by
  obtain⟨dst,op,type,pos,after,guard⟩:=o
  simp only at hc
  subst hc
  rfl
 unfold SN at hr
 rw[hd,Sem.run_bind]at hr
 cases cL:(resolve ρ c o.type).run P w with
 |ok d w1=>simp_all
 |halt x w1=>simp_all
theorem xu[ae]{P:Program}{B:ph}{rd:Option Nat}{E:Env}{s:St}{a:Act}{w:World}(_:cT B E s a w){o:Oper}{e:dK}(h:Step P E s.hp w (execOp a.eval o) e)
  {K:Act→World→Prop} {Q:Exit→Act→World→Prop}
  (hK:∀ E' w' v,Ext E E'→Fr E w E' w'→Inv E' (ak s.hp e.wr) w'→aj E' true e.val v→K (a.put o.dst v) w'):o.wpIn (WF rd) 0 P a w K Q:=by
 have QO:=FB h (WF rd).round
 obtain⟨E',w',v,hr,hx,hI,hf,hv⟩:=h
 refine⟨fun _ _=>trivial,?_⟩
 rw[QO]
 rcases hr with hr|⟨hr,rfl⟩
 ·rw[hr,Oper.uponIn_value]
  exact hK E' w' v hx hf hI hv
 ·rw[hr,Oper.uponIn_skip]
  exact hK E' w' undef hx hf hI hv
theorem xv{P:Program}{g:FuncId}{vs:Array Value}{w:World}{R:Ending→World→Prop}(h:Calls P g vs w R)(rd:Option Nat)(n:Nat):CallsIn (WF rd) n P g vs w R:=
 (callsIn_wide (n:=n)).2 h
theorem yp{P:Program}{rd:Option Nat}{a:Act}{w:World}{o:Oper}{c:Call}(ho:o.op=.call c){g:FuncId}{vs':List Value}(aY:(execOp a.eval o).run P w=.ok (.enter g vs'.toArray) w)
  {R:Ending→World→Prop} (iv:Calls P g vs'.toArray w R) {K:Act→World→Prop} {Q:Exit→Act→World→Prop}
  (h1:∀ v w',R (.returned v) w'→K (a.put o.dst v) w') (h2:∀ ch w',R (.panicked ch) w'→Q (.panic ch) a w') (h3:∀ w',¬R .outgrown w'):o.wpIn (WF rd) 0 P a w K Q:=by
 refine⟨fun _ _=>trivial,?_⟩
 rw[Oper.semAt_eq _ _ _ (by rw[ho]; intro c h; cases h),aY,Oper.uponIn_enter]
 refine⟨fun h=>by simp[WF,Fence.wide]at h,(xv iv rd _).mono fun e w' hR=>?_⟩
 cases e with
 |returned v=>exact h1 v w' hR
 |panicked ch=>exact h2 ch w' hR
 |outgrown=>exact(h3 w' hR).elim
theorem BI[ae]{P:Program}{E:Env}{w:World}{a:Act}{o:Oper}{rv:Operand}{name:String}{dc:Array Operand}{mR:Array TypeId}(ho:o.op=.call ⟨.invoke rv name,dc,mR⟩){v:AV}(hv:aj E true v (a.eval rv)){g:FuncId}{x:AV}
  {args : List AV} (ha : an E true args (dc.toList.map a.eval)) (h : pN P v name = some (g, x)) (rN : ∃ fn : Func, P.funcs[g]? = some fn ∧ fn.body.isSome = true ∧ (fn.name == "runtime.NumGoroutine") = false) :
  ∃ vs':List Value,an E true (x::args) vs'∧(execOp a.eval o).run P w=.ok (.enter g vs'.toArray) w:=by
 obtain⟨fn,f1,f2,f3⟩:=rN
 have hb:fn.body.isNone=false:=by cases hq:fn.body<;>simp_all
 cases v with
 |gH t y=>
  simp only[pN,Option.map_eq_some_iff,Prod.mk.injEq]at h
  obtain⟨f,hm,rfl,rfl⟩:=h
  simp only[aj]at hv
  obtain⟨u,hv,hu⟩:=hv
  refine⟨u::dc.toList.map a.eval,by simp only[an]; exact⟨hu,ha⟩,?_⟩
  unfold Bi at hm
  split at hm
  case h_2=>simp at hm
  rename_i i d hi hd
  split at hm
  ·simp at hm
  ·rename_i m S7 Wl
   split at hm
   ·rename_i f' hp hf
    simp only[Option.some.injEq]at hm
    subst hm
    have S8:m.path.toList=[]:=by simpa using hp
    have aal:0<Made.depth:=by decide
    obtain⟨n,hn⟩:∃ n,P.types.size+Made.depth=n+1:=⟨P.types.size+Made.depth-1,by omega⟩
    have S9:(Go.method (P.types.size+Made.depth) t u name).run P w=.ok (f',u) w:=by
     rw[hn]
     unfold Go.method
     simp only[typeInfo,Sem.run_bind,run_program,Result.andThen_ok,hi,Sem.run_pure,S7,S8,follow,hf,receiverAt,underlying,hd]
     rfl
    have Sl:(callMethod (.iface t u) name (dc.map a.eval)).run P w=.ok (.enter f' (#[u]++dc.map a.eval)) w:=by
     simp only[callMethod,Sem.run_bind,run_program,Result.andThen_ok,S9,callFunc,f1,f3,hb,Bool.false_eq_true,if_false,Sem.run_pure]
    have h0:(#[Value.iface t u]++dc.map a.eval)[0]?=some (Value.iface t u):=by rw[←Array.getElem?_toList]; simp
    have h1:(#[Value.iface t u]++dc.map a.eval).extract 1 (#[Value.iface t u]++dc.map a.eval).size=dc.map a.eval:=by
     apply Array.ext'
     simp
     exact List.take_of_length_le (by simp)
    simp only[execOp,ho,resolve,Sem.run_bind,Sem.run_pure,Result.andThen_ok,hv,invoke,h0,h1,Sl]
    rw[show (#[u]++dc.map a.eval)=(u::dc.toList.map a.eval).toArray by apply Array.ext'; simp]
   ·simp at hm
  ·simp at hm
 |_=>simp[pN]at h
theorem qZ{P:Program}{rd:Option Nat}{a:Act}{w:World}{o:Oper}{c:Call}{f:Operand}(ho:o.op=.call c)(hc:c.callee=.value f){g:FuncId}{vs':List Value}
  (aY:(do let d ←Deferred.ofValue (a.eval f) (c.args.toList.map a.eval).toArray; invoke d.target d.args:Sem Next).run P w=.ok (.enter g vs'.toArray) w)
  {R:Ending→World→Prop} (iv:Calls P g vs'.toArray w R) {K:Act→World→Prop} {Q:Exit→Act→World→Prop}
  (h1:∀ v w',R (.returned v) w'→K (a.put o.dst v) w') (h2:∀ ch w',R (.panicked ch) w'→Q (.panic ch) a w') (h3:∀ w',¬R .outgrown w'):o.wpIn (WF rd) 0 P a w K Q:=by
 refine⟨fun _ _=>trivial,?_⟩
 rw[Oper.semAt_eq _ _ _ (by rw[ho]; intro c h; cases h)]
 have:(execOp a.eval o).run P w=.ok (.enter g vs'.toArray) w:=by
  simp only[execOp,ho,resolve,hc]
  rw[←aY]
  congr 3
  rw[←Array.toList_map]
 rw[this,Oper.uponIn_enter]
 refine⟨fun h=>by simp[WF,Fence.wide]at h,(xv iv rd _).mono fun e w' hR=>?_⟩
 cases e with
 |returned v=>exact h1 v w' hR
 |panicked ch=>exact h2 ch w' hR
 |outgrown=>exact(h3 w' hR).elim
theorem KM[ae]{E:Env}{hp:ag}{w w':World}(hI:Inv E hp w)(ga:∀ b,E.own b∨(E.m b).isSome=true→w'.heap[b]?=w.heap[b]?)(lA:w.heap.size≤w'.heap.size):Inv E hp w':=by
 have ft:∀ n o,hp[n]?=some (some o)→∀ b,cy E hp n b→E.own b∨(E.m b).isSome=true:=by
  rintro n o ho b ⟨o',l,dr,hl,hb⟩
  rw[ho]at dr
  cases dr
  have h:=hI.objs n o ho
  cases o with
  |arr g cl fz es=>
   obtain⟨l',gJ,_,hm⟩:=h
   simp only at hl
   rw[hl]at gJ; cases gJ
   rw[hb]at hm
   obtain⟨c,T,_,Ss,_⟩:=hm
   cases fz with
   |true=>simp_all
   |false=>simp_all
  |gI k vs=>
   obtain⟨l',b',U7,us,h1,h2,h3,h4,h5,_⟩:=h
   simp only at hl
   rw[hl]at h1; cases h1
   rw[hb]at h2; cases h2
   exact .inl h5
 refine⟨hI.len,fun n o hn=>(hI.objs n o hn).other hn fun b hb=>ga b (ft n o hn b hb),hI.free,hI.inj,fun b c h=>?_,fun b h=>Nat.lt_of_lt_of_le (hI.pw b h) lA,hI.jV⟩
 obtain⟨T,fz,hw⟩:=hI.mem b c h
 exact⟨T,fz,by rw[ga b (.inr (by rw[h]; rfl))]; exact hw⟩
theorem wH{F:Fence}{n:Nat}{P:Program}{fn:Func}{tmps:Array Value}{R:Ending→World→Prop}{u:FrameMode}{tl:List Deferred}(hu:u≠.run):∀ (rs:List Nat) (w:World),rs.Nodup→(∀ r∈rs,w.heap[r]?=some (.deferred (some []))) →
  (∀ w',w'.heap.size=w.heap.size→w'.os=w.os→w'.tape=w.tape→w'.output=w.output→(∀ b,b∉rs→w'.heap[b]?=w.heap[b]?)→LeavesInM F n P fn tmps R tl u w') →
  LeavesInM F n P fn tmps R ((rs.map fun r=>{ target:=.collected r,args:=#[] })++tl) u w
 |[],w,_,_,h=>h w rfl rfl rfl rfl (fun _ _=>rfl)
 |r::rs,w,hn,hr,h=>by
  rw[List.nodup_cons]at hn
  refine⟨hu,.inl ⟨r,w.putObj r (.deferred none),rfl,run_takeDeferred (hr r (by simp)),?_⟩⟩
  refine wH hu rs _ hn.2 (fun r' h'=>?_) fun w' h1 h2 h3 h4 h5=>?_
  ·have dE:r'≠r:=by rintro rfl; exact hn.1 h'
   rw[World.putObj_heap_other dE]
   exact hr r' (by simp[h'])
  ·refine h w' (by rw[h1]; simp) h2 h3 h4 fun b hb=>?_
   simp only[List.mem_cons,not_or]at hb
   rw[h5 b hb.2,World.putObj_heap_other hb.1]
theorem jE[ae]{P:Program}{fn:Func}{tmps:Array Value}{R:Ending→World→Prop}{E0 E:Env}{w0 w:World}{hp:ag}{ds:List Deferred}{u:FrameMode}{B:ph}(hB:B.n=w0.heap.size)(hI:Inv E hp w)(hm:Marks B E w ds)
  (hf:Fr E0 w0 E w) (hu:u≠.run) (h:∀ w',Inv E hp w'→Fr E0 w0 E w'→LeavesInM Fence.wide 0 P fn tmps R B.tl u w'):LeavesInM Fence.wide 0 P fn tmps R ds u w:=by
 obtain⟨rs,rfl,AB,_,Pq⟩:=hm
 refine wH hu rs w AB (fun r hr=>(Pq r hr).2.2) fun w' h1 h2 h3 h4 h5=>h w' ?_ ?_
 ·refine KM hI (fun b hb=>h5 b fun hr=>?_) (by omega)
  obtain⟨_,a2,a3⟩:=Pq b hr
  rcases hb with hb|hb
  ·exact a2 hb
  ·cases Qx:E.m b with
   |none=>rw[Qx]at hb; simp at hb
   |some c=>obtain⟨T,fz,h6⟩:=hI.mem b c Qx; rw[a3]at h6; cases h6
 ·refine⟨h2.trans hf.os,h3.trans hf.tape,h4.trans hf.out,by rw[h1]; exact hf.size,fun b hb ho=>?_,hf.own,hf.m,fun b r hr=>?_⟩
  ·rw[h5 b fun hr=>?_]
   ·exact hf.same b hb ho
   ·have:=(Pq b hr).1; omega
  ·obtain⟨r',ma⟩:=hf.lp b r hr
   exact⟨r',by rw[h5 b fun hm=>by rw[(Pq b hm).2.2]at ma; cases ma]; exact ma⟩
theorem vp[ae]{C:Ctx}{k:Nat}{f:FuncId}{args:List AV}{hp:ag}{r:oq×ag}(h:mG C k f args hp=some r):
  ∃ fn:Func,C.P.funcs[f]?=some fn∧fn.body.isSome=true:=by
 cases k with
 |zero=>simp[mG]at h
 |succ k=>
  simp only[mG]at h
  split at h
  ·simp at h
  rename_i fn rN
  split at h
  ·simp at h
  rename_i c hc
  exact⟨fn,rN,by rw[hc]; rfl⟩
theorem BJ[ae]{C:Ctx}{k:Nat}(hC:fT C k){f:FuncId}{args:List AV}{hp:ag}{res:oq}{cB:ag}{fn:Func}{c:Code}(rN:C.P.funcs[f]?=some fn)(hc:fn.body=some c){E:Env}{w:World}{vs:List Value}(hI:Inv E hp w)(ha:an E true args vs)
  (h:(match cb C k c ⟨f,args++List.replicate (fn.ntmps-args.length) .undef,hp⟩ with
    |some (.norm s)|some (.ret s)=>
     match (aW C.P s.fr fn.results.toList).run s.hp with
     |some l=>some (oq.val (cO l),s.hp)
     |none=>none
    |some (.kv v s)=>some (.kv v,s.hp)
    |_=>none)=some (res,cB)):Calls C.P f vs.toArray w (bW E w cB res):=by
 have hlen:=ha.length
 have hs:cT ⟨w.heap.size,[],true,none⟩ E ⟨f,args++List.replicate (fn.ntmps-args.length) .undef,hp⟩ { tmps:=vs.toArray++Array.replicate (fn.ntmps-vs.toArray.size) undef,defers:=[] } w:=by
  refine⟨?_,hI,Marks.nil,Nat.le_refl _⟩
  simp only[Array.toList_append,Array.toList_replicate,List.size_toArray,←hlen]
  refine ha.append ?_
  have:=an.lits (E:=E) (o:=true) (List.replicate (fn.ntmps-args.length) undef)
  simpa using this
 have ret:∀ s',((cb C k c ⟨f,args++List.replicate (fn.ntmps-args.length) .undef,hp⟩=some (.norm s')) ∨
   (cb C k c ⟨f,args++List.replicate (fn.ntmps-args.length) .undef,hp⟩=some (.ret s'))) →
   (match (aW C.P s'.fr fn.results.toList).run s'.hp with|some l=>some (oq.val (cO l),s'.hp)|none=>none)=some (res,cB) →
   Calls C.P f vs.toArray w (bW E w cB res):=by
  intro s' bL hr
  split at hr
  case h_2=>simp at hr
  rename_i l hl
  simp only[Option.some.injEq,Prod.mk.injEq]at hr
  obtain⟨rfl,rfl⟩:=hr
  have fin:∀ E' a' w',Ext E E'→Fr E w E' w'→cT ⟨w.heap.size,[],true,none⟩ E' s' a' w'→LeavesInM Fence.wide 0 C.P fn a'.tmps (bW E w s'.hp (.val (cO l))) a'.defers .returning w':=by
   intro E' a' w' hx hf fG
   refine jE rfl fG.inv fG.df hf (by simp) fun w2 qU jg=>?_
   obtain⟨v,h1,h2⟩:=sD qU fG.fr hl
   exact⟨v,h1,E',hx,qU,jg,h2⟩
  refine callsIn_wide.1 (callsIn_of_wp_marks (F:=Fence.wide) (n:=0) rN hc trivial ?_)
  rcases bL with bL|bL
  ·refine wpIn_mono (hC c _ _ bL none _ (.inl ⟨rfl,rfl⟩) E _ w hs) fun e a' w' du=>?_
   obtain⟨E',hx,hf,ho⟩:=du
   cases e with
   |normal=>exact fin E' a' w' hx hf ho
   |_=>exact ho.elim
  ·refine wpIn_mono (hC c _ _ bL none _ (.inl ⟨rfl,rfl⟩) E _ w hs) fun e a' w' du=>?_
   obtain⟨E',hx,hf,ho⟩:=du
   cases e with
   |ret=>exact fin E' a' w' hx hf ho
   |_=>exact ho.elim
 split at h
 ·grind
 ·grind
 ·rename_i v s' bL
  simp only[Option.some.injEq,Prod.mk.injEq]at h
  obtain⟨rfl,rfl⟩:=h
  refine callsIn_wide.1 (callsIn_of_wp_marks (F:=Fence.wide) (n:=0) rN hc trivial (wpIn_mono (hC c _ _ bL none _ (.inl ⟨rfl,rfl⟩) E _ w hs) fun e a' w' du=>?_))
  obtain⟨E',hx,hf,ho⟩:=du
  cases e with
  |panic ch=>
   obtain⟨u,h1,h2,h3,h4⟩:=ho
   exact jE rfl h3 h4 hf (by simp) fun w2 qU jg=>⟨E',hx,qU,jg,u,h1,h2⟩
  |_=>exact ho.elim
 ·simp at h
theorem C6[ae]{C:Ctx}(bM:C.Ok){k:Nat}(hF:ml C k):vo C (k+1):=by
 intro g args hp res wr h E w vs hI ha
 simp only[lO,RM.run_bind]at h
 cases hq:(aQ 1000 args).run hp with
 |none=>rw[hq]at h; simp at h
 |some as=>
  rw[hq]at h
  simp only[Option.bind_some]at h
  split at h
  ·rename_i hf hh
   split at h
   case h_2=>simp[RM.af]at h
   rename_i r hr
   exact vm hI ha hq h fun Ec h1 h2=>bM.kY g hf as r hh hr Ec w vs h1 h2
  ·split at h
   case h_2=>simp[RM.af]at h
   rename_i r iG hr
   exact vm hI ha hq h fun Ec h1 h2=>hF g as [] r iG hr Ec w vs h1 h2.iY
theorem AD[ae]{C:Ctx}(bM:C.Ok){k:Nat}{g:FuncId}{args:List AV}{hp:ag}{nm:Nat}{e:dK}(h:(iI C (fun as=>mG C k g as []) nm g args).run hp=some e):
  ∃ fn : Func, C.P.funcs[g]? = some fn ∧ fn.body.isSome = true ∧ (fn.name == "runtime.NumGoroutine") = false := by
 unfold iI at h
 rw[RM.run_bind]at h
 cases hs:(aQ 1000 args).run hp with
 |none=>rw[hs]at h; simp at h
 |some as=>
  rw[hs]at h
  simp only[Option.bind_some]at h
  split at h
  ·rename_i hh hi
   obtain⟨fn,h1,h2⟩:=bM.BH g hh hi
   exact⟨fn,h1,h2,bM.name g fn h1 h2⟩
  ·split at h
   ·rename_i r iG hq
    obtain⟨fn,h1,h2⟩:=vp hq
    exact⟨fn,h1,h2,bM.name g fn h1 h2⟩
   ·simp[RM.af]at h
theorem AE[ae]{C:Ctx}(bM:C.Ok){k:Nat}(hF:ml C k){E:Env}{hp:ag}{w:World}(hI:Inv E hp w){nm:Nat}(oC:nm=hp.length∨hp[nm]?=some none)
  {g:FuncId} {args:List AV} {vs:List Value} (ha:an E true args vs) {e:dK} (h:(iI C (fun as=>mG C k g as []) nm g args).run hp=some e) :
  Calls C.P g vs.toArray w (G1 E w hp e):=by
 unfold iI at h
 rw[RM.run_bind]at h
 cases hs:(aQ 1000 args).run hp with
 |none=>rw[hs]at h; simp at h
 |some as=>
  rw[hs]at h
  simp only[Option.bind_some]at h
  have n4:=(qS hI (N:=fun _=>True) 1000).2 args as vs xr hs ha
  split at h
  ·rename_i hh hi
   split at h
   ·rename_i q hq
    exact(bM.jw g hh as q.1 q.2 hi hq _ w vs (nZ hI _) n4).mono fun en w' hp=>by
     obtain⟨r',QN,h1,h2⟩:=hp
     rw[←h2]at h
     exact G2 hI oC h (fun b hb=>hb) h1
   ·simp[RM.af]at h
  ·split at h
   ·rename_i r iG hq
    exact(hF g as [] _ iG hq _ w vs (nZ hI _) n4.iY).mono fun en w' hp=>G2 hI oC h (fun b hb=>hb) hp
   ·simp[RM.af]at h
theorem BK[ae]{C:Ctx}(bM:C.Ok){k:Nat}{g:FuncId}{args:List AV}{hp:ag}{r:oq×List (Nat×aP)}(h:(lO C k g args).run hp=some r):
  ∃ fn : Func, C.P.funcs[g]? = some fn ∧ fn.body.isSome = true ∧ (fn.name == "runtime.NumGoroutine") = false := by
 have:∃ fn:Func,C.P.funcs[g]?=some fn∧fn.body.isSome=true:=by
  cases k with
  |zero=>simp[lO,RM.af]at h
  |succ k=>
   simp only[lO,RM.run_bind]at h
   cases hq:(aQ 1000 args).run hp with
   |none=>rw[hq]at h; simp at h
   |some as=>
    rw[hq]at h
    simp only[Option.bind_some]at h
    split at h
    ·rename_i hf hh; exact bM.FA g hf hh
    ·split at h
     case h_2=>simp[RM.af]at h
     rename_i r iG hr
     exact vp hr
 obtain⟨fn,h1,h2⟩:=this
 exact⟨fn,h1,h2,bM.name g fn h1 h2⟩
theorem qe[ae]{E E':Env}{hp cB:ag}{w w':World}(hI:Inv E hp w)(hx:Ext E E')(iM:Inv E' cB w')(hf:Fr E w E' w'){r:AV}{v:Value}(hr:aj E' true r v):
  ∃ E2,Ext E E2∧Inv E2 (ic hp.length r cB) w'∧Fr E w E2 w'∧aj E2 true r v:=by
 unfold ic
 split
 ·rename_i hc
  simp only[Bool.and_eq_true]at hc
  have hle:hp.length≤cB.length:=by rw[hI.len,iM.len]; exact hx.L
  obtain⟨h1,h2,h3⟩:=ud iM hle hc.2
  refine⟨E'.lower hp.length,⟨hx.m,fun n hn aq l h=>hx.ρ n hn aq l h,by simp[Env.lower,hI.len]⟩,h1,hf.trans h2,aj.down h3 hc.1 hr⟩
 ·exact⟨E',hx,iM,hf,hr⟩
theorem G4[ae]{E:Env}{hp:ag}{w:World}(hI:Inv E hp w){esz:Nat}:
  ∃ E',Ext E E'∧Inv E' (hp++[some (.arr true true false [])]) w∧Fr E w E' w∧aj E' true (.bu esz hp.length 0 0 0 none) (.slice none 0 0):=by
 let E':Env:={ ρ:=fun n aq=>if n=hp.length then (if aq=0 then some ⟨none,esz,0⟩ else none) else E.ρ n aq,m:=E.m,L:=E.L+1,own:=E.own }
 have hx:Ext E E':=⟨fun _ _ h=>h,fun n hn aq l h=>by
  have:n≠hp.length:=by rw[hI.len]; omega
  simp[E',this,h],by simp[E']⟩
 have dD:∀ n,n≠hp.length→∀ aq,E'.ρ n aq=E.ρ n aq:=fun n hn aq=>by simp[E',hn]
 have nW:∀ n o,n≠hp.length→(hp++[some (.arr true true false [])])[n]?=some o→hp[n]?=some o:=by
  intro n o hn h
  rw[List.getElem?_append]at h
  split at h
  ·exact h
  ·rw[List.getElem?_eq_none (by simp; omega)]at h; simp at h
 have ft:∀ n b,cy E' (hp++[some (.arr true true false [])]) n b→cy E hp n b:=by
  rintro n b ⟨o,l,ho,hl,hb⟩
  by_cases e:n=hp.length
  ·subst e
   simp at ho
   subst ho
   simp[E']at hl
   subst hl
   simp at hb
  ·refine⟨o,l,nW n _ e ho,?_,hb⟩
   cases o with
   |arr=>simpa only[dD n e] using hl
   |gI=>simpa only[dD n e] using hl
 refine⟨E',hx,⟨by simp[E',hI.len],?_,?_,fun n1 n2 b h1 h2=>hI.inj n1 n2 b (ft _ _ h1) (ft _ _ h2),hI.mem,hI.pw,hI.jV⟩,
  ⟨rfl,rfl,rfl,Nat.le_refl _,fun _ _ _=>rfl,fun _ h=>.inl h,fun _ _ h=>.inl h,fun _ r h=>⟨r,h⟩⟩,?_⟩
 ·intro n o ho
  by_cases e:n=hp.length
  ·subst e
   simp at ho
   subst ho
   refine⟨⟨none,esz,0⟩,by simp[E'],fun aq l' h=>?_,rfl,rfl⟩
   simp[E']at h
   simp[h.1]
  ·have dr:=nW n _ e ho
   have h:=hI.objs n o dr
   cases o with
   |arr g cl fz es=>
    obtain⟨l,hl,hv,hm⟩:=h
    refine⟨l,by rw[dD n e]; exact hl,fun aq l' h=>hv aq l' (by rw[dD n e]at h; exact h),?_⟩
    cases hb:l.lq with
    |none=>rw[hb]at hm; exact hm
    |some b=>
     rw[hb]at hm
     obtain⟨c,T,a1,a2,a3,a4,a5,a6,a7⟩:=hm
     exact⟨c,T,a1,a2,a3,a4,a5,a6,fun i x gK=>by obtain⟨v,jS,fF⟩:=a7 i x gK; exact⟨v,jS.mono hx,fF⟩⟩
   |gI k Nq=>
    obtain⟨l,b,es,clock,a1,a2,a3,a4,a5,a6,a7,a8⟩:=h
    exact⟨l,b,es,clock,by rw[dD n e]; exact a1,a2,a3,a4,a5,fun aq l' h=>a6 aq l' (by rw[dD n e]at h; exact h),a7,a8.mono hx⟩
 ·intro n aq h
  by_cases e:n=hp.length
  ·subst e; simp at h
  ·rw[dD n e]; exact hI.free n aq (nW n _ e h)
 ·simp only[aj]
  refine⟨trivial,?_,⟨none,esz,0⟩,by simp[E'],rfl,by simp,?_⟩
  ·show hp.length<E.L+1
   rw[hI.len]; omega
  ·simp
theorem iy{α:Type}{l:List α}{n:Nat}{x:α}(h:l[n]?=some x):l.set n x=l:=by
 apply List.ext_getElem?
 intro m
 by_cases hm:n=m
 ·grind
 ·rw[List.getElem?_set_ne hm]
theorem wI[ae]{E E':Env}(hx:Ext E E'){esz j nm:Nat}(oC:aj E' true (.bu esz nm 0 0 0 none) (.slice none 0 0)){e e':AV}{v:Value}(hr:aj E true e v)(h:lu esz j nm e=some e'):aj E' true e' v:=by
 unfold lu at h
 split at h
 ·rename_i l
  split at h
  case h_2=>simp at h
  rename_i hl
  simp only[Option.some.injEq]at h
  subst h
  simp only[aj]at hr
  obtain⟨c,rfl,hc⟩:=hr
  obtain⟨v,hv,YY,hlv⟩:=hc.get hl
  simp only[aj]at YY
  subst YY
  have:=(hc.mono hx).set j oC hlv
  rw[iy hv]at this
  simp only[aj]
  exact⟨c,rfl,this⟩
 ·grind[aj]
 ·simp at h
theorem sG[ae]{E:Env}{hp:ag}{w:World}(hI:Inv E hp w){n i:Nat}{g c f:Bool}{es:List AV}{e e':AV}(ho:hp[n]?=some (some (.arr g c f es)))(hi:es[i]?=some e)
  (hr:∀ v,aj E true e v→aj E true e' v):Inv E (hp.set n (some (.arr g false f (es.set i e')))) w:=by
 have hn:=(List.getElem?_eq_some_iff.1 ho).1
 have nW:∀ m o,(hp.set n (some (.arr g false f (es.set i e'))))[m]?=some o→m=n∧o=some (.arr g false f (es.set i e'))∨m≠n∧hp[m]?=some o:=by
  grind
 have ft:∀ m b,cy E (hp.set n (some (.arr g false f (es.set i e')))) m b→cy E hp m b:=by
  rintro m b ⟨o,l,h1,h2,h3⟩
  rcases nW m _ h1 with ⟨rfl,h5⟩|⟨_,h5⟩
  ·cases h5
   exact⟨_,l,ho,by simpa using h2,h3⟩
  ·exact⟨o,l,h5,h2,h3⟩
 refine⟨by rw[List.length_set]; exact hI.len,fun m o h=>?_,fun m aq h=>?_,fun m m' b h1 h2=>hI.inj m m' b (ft _ _ h1) (ft _ _ h2),hI.mem,hI.pw,hI.jV⟩
 ·rcases nW m _ h with ⟨rfl,h5⟩|⟨_,h5⟩
  ·cases h5
   obtain⟨l,h1,h2,h3⟩:=hI.objs _ _ ho
   refine⟨l,by simpa using h1,fun aq l' h=>by simpa using h2 aq l' h,?_⟩
   cases hb:l.lq with
   |none=>
    rw[hb]at h3
    obtain⟨rfl,rfl⟩:=h3
    simp at hi
   |some b=>
    rw[hb]at h3
    obtain⟨c',T,a1,a2,a3,a4,a5,a6,a7⟩:=h3
    refine⟨c',T,a1,a2,a3,a4,by simpa using a5,fun h=>by simpa using a6 h,fun k x hx=>?_⟩
    by_cases hk:k=i
    ·subst hk
     rw[List.getElem?_set_self (List.getElem?_eq_some_iff.1 hi).1]at hx
     simp only[Option.some.injEq]at hx
     subst hx
     obtain⟨v,hv,fF⟩:=a7 _ _ hi
     exact⟨v,by simpa using hr v hv.Bl,fF⟩
    ·rw[List.getElem?_set_ne (Ne.symm hk)]at hx
     obtain⟨v,hv,fF⟩:=a7 _ _ hx
     exact⟨v,by simpa using hv.Bl,fF⟩
  ·exact hI.objs m o h5
 ·rcases nW m _ h with ⟨rfl,h5⟩|⟨_,h5⟩
  ·cases h5
  ·exact hI.free m aq h5
theorem BL[ae]{E:Env}{j:Nat}{e e':AV}(h:tE j e=some e')(v:Value)(hr:aj E true e v):aj E true e' v:=by
 unfold tE at h
 split at h
 case h_2=>simp at h
 rename_i l
 split at h
 case h_2=>simp at h
 rename_i hj
 simp only[Option.some.injEq]at h
 subst h
 simp only[aj]at hr ⊢
 obtain⟨c,rfl,hc⟩:=hr
 refine⟨c,rfl,?_⟩
 have hj':j<l.length:=by simpa using hj
 obtain⟨u,hu,_⟩:=hc.Gw.get (List.getElem?_eq_getElem hj')
 have:=hc.set j (x:=.any) (v:=u) (by simp[aj]) (hc.leaf u (List.mem_iff_getElem?.2 ⟨j,hu⟩))
 rw[iy hu]at this
 exact this
theorem FC[ae]{B:ph}{E:Env}{s:St}{a:Act}{w:World}(hs:cT B E s a w)(d j:Nat):cT B E (mQ s d j) a w:=by
 unfold mQ
 split
 ·split
  ·rename_i ho
   split
   ·rename_i e' he
    obtain⟨e,M5,yq⟩:=Option.bind_eq_some_iff.1 he
    exact⟨hs.fr,sG hs.inv ho M5 fun v hv=>BL yq v hv,hs.df,hs.bs⟩
   ·exact hs
  ·exact hs
 ·exact hs
theorem vq[ae]{B:ph}{E:Env}{a:Act}{w:World}:∀ (l:List (Nat×Nat)) {s:St},cT B E s a w→cT B E (ia l s) a w
 |[],_,hs=>hs
 |(d,j)::r,_,hs=>vq r (FC hs d j)
theorem C7(s:St)(d j:Nat):(mQ s d j).hp.length=s.hp.length:=by
 grind[mQ]
theorem sH:∀ (l:List (Nat×Nat)) (s:St),(ia l s).hp.length=s.hp.length
 |[],_=>rfl
 |(d,j)::r,s=>by
  simp only[ia]
  rw[sH r,C7]
theorem Ii[ae]{B:ph}{E:Env}{s:St}{a:Act}{w:World}(hs:cT B E s a w)(d:Tmp)(j esz:Nat):∃ E',Ext E E'∧Fr E w E' w∧cT B E' (pM d s j esz) a w:=by
 obtain⟨E',h1,h2,h3,h4⟩:=G4 (esz:=esz) hs.inv
 have same:∃ E',Ext E E'∧Fr E w E' w∧cT B E' s a w:=⟨E,Ext.refl E,Fr.refl E w,hs⟩
 unfold pM
 split
 ·rename_i n aq i k hd
  split
  ·rename_i g c f es ho
   split
   ·rename_i e' he
    obtain⟨e,M5,yq⟩:=Option.bind_eq_some_iff.1 he
    have hn:=(List.getElem?_eq_some_iff.1 ho).1
    have dr:(s.hp++[some (aP.arr true true false [])])[n]?=some (some (.arr g c f es)):=by rw[List.getElem?_append_left hn]; exact ho
    obtain⟨l,rZ,_,JU⟩:=hs.inv.objs _ _ ho
    cases hb:l.lq with
    |none=>
     simp_all
    |some b=>
     rw[hb]at JU
     obtain⟨c',T,a1,a2,a3,a4,a5,a6,a7⟩:=JU
     obtain⟨v0,Nx,_⟩:=a7 _ _ M5
     have Wm:∀ v,aj E' true e v→aj E' true e' v:=fun v hv=>wI (Ext.refl E') h4 hv yq
     refine⟨E',h1,h3,⟨hs.fr.mono h1,?_,hs.df.mono h3,hs.bs⟩⟩
     have:=sG h2 dr M5 Wm
     rw[List.set_append_left _ _ hn]at this
     exact this
   ·exact same
  ·exact same
 ·rename_i e _ hd
  split
  ·rename_i e' he
   obtain⟨v,hv,hr⟩:=hs.fr.get hd
   refine⟨E',h1,h3,⟨?_,h2,hs.df.mono h3,hs.bs⟩⟩
   have:=(hs.fr.mono h1).set d (wI h1 h4 hr he)
   rw[iy hv]at this
   exact this
  ·exact same
 ·exact same
theorem G5[ae]{B:ph}{d:Tmp}{a:Act}{w:World}:∀ (l:List (Nat×Nat)) {E:Env} {s:St},cT B E s a w→∃ E',Ext E E'∧Fr E w E' w∧cT B E' (JC d l s) a w
 |[],E,s,hs=>⟨E,Ext.refl E,Fr.refl E w,hs⟩
 |(j,esz)::r,E,s,hs=>by
  obtain⟨E1,h1,h2,h3⟩:=Ii hs d j esz
  obtain⟨E2,h4,h5,h6⟩:=G5 r h3
  exact⟨E2,h1.trans h4,h2.trans h5,h6⟩
theorem KN[ae]{B:ph}{l:Tmp→List (Nat×Nat)}{dst:Option Tmp}{a:Act}{w:World}{E:Env}{s:St}(hs:cT B E s a w):∃ E',Ext E E'∧Fr E w E' w∧cT B E' (Ct l dst s) a w:=by
 cases dst with
 |none=>exact⟨E,Ext.refl E,Fr.refl E w,hs⟩
 |some d=>exact G5 _ hs
theorem jh{hp:ag}{n:Nat}{st:lN}(h:iJ hp n=some st):∃ fn ps as bd fr,hp[n]?=some (some (.gI (.loop fn ps as bd st) fr)):=by
 grind[iJ]
theorem oM[ae]{E:Env}{hp:ag}{w:World}(hI:Inv E hp w){n:Nat}{fn:FuncId}{ps:Array Tmp}{as bd:Code}{st:lN}{fr:List AV}(ho:hp[n]?=some (some (.gI (.loop fn ps as bd st) fr)))
  {l:Loc} {b:Nat} (hl:E.ρ n 0=some l) (hb:l.lq=some b) :
  ∃ r,w.heap[b]?=some (.loop r)∧r.params=ps∧r.assign=as∧r.body=bd∧st.is r.state r.pending∧an E true fr r.tmps.toList:=by
 obtain⟨l0,b0,ob,us,h1,h2,h3,h4,h5,h6,h7,h8⟩:=hI.objs n _ ho
 rw[hl]at h1; cases h1
 rw[hb]at h2; cases h2
 cases ob with
 |loop r=>
  obtain⟨a1,a2,a3,a4,a5⟩:=h7
  exact⟨r,h3,a1,a2,a3,a4,by rw[a5]; exact h8⟩
 |_=>exact h7.elim
theorem C8[ae]{E:Env}{hp:ag}{w:World}(hI:Inv E hp w){n:Nat}{fn:FuncId}{ps:Array Tmp}{as bd:Code}{st:lN}{fr:List AV}(ho:hp[n]?=some (some (.gI (.loop fn ps as bd st) fr)))
  {l:Loc} {b:Nat} (hl:E.ρ n 0=some l) (hb:l.lq=some b) {r:Loop} (hr:w.heap[b]?=some (.loop r)) {st':lN} {s':LoopState} {p':Option Code} (G6:st'.is s' p') :
  Inv E (pd hp n st') (w.putObj b (.loop { r with state:=s',pending:=p' }))∧Fr E w E (w.putObj b (.loop { r with state:=s',pending:=p' })):=by
 obtain⟨r',h1,h2,h3,h4,_,h6⟩:=oM hI ho hl hb
 rw[hr]at h1
 cases h1
 unfold pd
 rw[ho]
 exact xp hI ho hl hb (k':=.loop fn ps as bd st') (us':=r.tmps.toList) ⟨h2,h3,h4,G6,rfl⟩ h6 (fun _ _ _ _ _=>⟨_,rfl⟩)
theorem vt{E:Env}{u:List Nat}:∀ (i:Nat) (fr:List AV) (vs:List Value),an E true fr vs→an E true (nL u i fr) vs
 |_,[],[],h=>by simp[nL,an]
 |i,x::xs,v::vs,h=>by
  simp only[an]at h
  simp only[nL,an]
  refine⟨?_,vt (i+1) xs vs h.2⟩
  split
  ·exact h.1
  ·simp[aj]
 |_,[],_::_,h=>by simp[an]at h
 |_,_::_,[],h=>by simp[an]at h
theorem C9{E:Env}:∀ (fr:List AV) (vs:List Value),an E true fr vs→an E true (fr.map fun _=>.any) vs
 |[],[],_=>by simp[an]
 |x::xs,v::vs,h=>by
  simp only[an]at h
  simp only[List.map_cons,an,aj]
  exact⟨trivial,C9 xs vs h.2⟩
 |[],_::_,h=>by simp[an]at h
 |_::_,[],h=>by simp[an]at h
theorem Da[ae]{E:Env}{hp:ag}{w:World}(hI:Inv E hp w){n:Nat}{fn:FuncId}{ps:Array Tmp}{as bd:Code}{st:lN}{fr:List AV}(ho:hp[n]?=some (some (.gI (.loop fn ps as bd st) fr)))
  {l:Loc} {b:Nat} (hl:E.ρ n 0=some l) (hb:l.lq=some b) {r:Loop} (hr:w.heap[b]?=some (.loop r)) {s':LoopState} {p':Option Code} :
  Inv E (rX hp n) (w.putObj b (.loop { r with state:=s',pending:=p' }))∧Fr E w E (w.putObj b (.loop { r with state:=s',pending:=p' })):=by
 obtain⟨r',h1,h2,h3,h4,_,h6⟩:=oM hI ho hl hb
 rw[hr]at h1
 cases h1
 unfold rX
 rw[ho]
 exact xp hI ho hl hb (k':=.loop fn ps as bd .il) (us':=r.tmps.toList) ⟨h2,h3,h4,trivial,rfl⟩ (C9 _ _ h6) (fun _ _ _ _ _=>⟨_,rfl⟩)
theorem wJ{E:Env}:∀ (ps:List Tmp) (xs:List AV) (vs:List Value) (fr:List AV) (t:Array Value),an E true fr t.toList→an E true xs vs →
  an E true (fX fr ps xs) ((ps.zip vs).foldl (fun (t:Array Value) (q:Tmp×Value)=>t.setIfInBounds q.1 q.2) t).toList
 |[],xs,vs,fr,t,h,_=>by simpa[fX] using h
 |p::ps,[],[],fr,t,h,_=>by simpa[fX] using h
 |p::ps,x::xs,v::vs,fr,t,h,hx=>by
  simp only[an]at hx
  simp only[fX,List.zip_cons_cons,List.foldl_cons]
  refine wJ ps xs vs _ _ ?_ hx.2
  rw[Array.toList_setIfInBounds]
  exact h.set p hx.1
 |p::ps,[],_::_,_,_,_,h=>by simp[an]at h
 |p::ps,_::_,[],_,_,_,h=>by simp[an]at h
theorem zM{P:Program}{a:Act}{w:World}{o:Oper}{c:Call}{f:Operand}(ho:o.op=.call c)(hc:c.callee=.value f){b:Nat}(hf:a.eval f=.func (.yield b) #[] #[])
  {r:Loop} (hr:w.heap[b]?=some (.loop r)) (hs:(c.args.map a.eval).size=r.params.size) :
  (execOp a.eval o).run P w=.ok (.round b r.fn ((r.params.zip (c.args.map a.eval)).foldl (fun tmps (t,a)=>tmps.setIfInBounds t a) r.tmps) r.assign r.body) w:=by
 have h1:(execOp a.eval o)=(do let d ←Deferred.ofValue (a.eval f) (c.args.map a.eval); invoke d.target d.args):=by
  simp only[execOp,ho,resolve,hc]
 rw[h1,hf]
 have h2:=run_yield (P:=P) (args:=c.args.map a.eval) hr hs
 simp only[Deferred.ofValue,Sem.run_bind,Sem.run_pure,Result.andThen_ok,invoke,Array.empty_append]
 exact h2
theorem KO[ae]{C:Ctx}{k:Nat}(hC:fT C k){rd:Option Nat}{B:ph}{E:Env}{s:St}{a:Act}{w:World}(hs:cT B E s a w){n:Nat}{o:Oper}{c:Call}{f:Operand}(ho:o.op=.call c)(hc:c.callee=.value f)
  (hf:aB s.fr f=.mp true n) {r:Out} (aY:ie (fun c s=>cb C k c s) n (c.args.toList.map (aB s.fr)) o.dst s=some r) {K:Act→World→Prop} {Q:Exit→Act→World→Prop}
  (hK:∀ s',r=.norm s'→∀ E' a' w',Ext E E'→Fr E w E' w'→cT B E' s' a' w'→K a' w'):o.wpIn (WF rd) 0 C.P a w K Q:=by
 unfold ie at aY
 split at aY
 case h_2=>simp at aY
 rename_i fn0 ps as bd fr FD
 split at aY
 case h_2=>simp at aY
 rename_i Ij
 have hlen:=of_decide_eq_true Ij
 have bL:=fun y=>iw hs.inv.jV hs.fr y
 have Db:=bL f
 rw[hf]at Db
 simp only[aj]at Db
 obtain⟨_,H4,l,b,hl,hb,Db⟩:=Db
 obtain⟨r0,g1,g2,g3,g4,g5,g6⟩:=oM hs.inv FD hl hb
 have jC:=jB bL c.args.toList
 have lA:(c.args.map a.eval).size=r0.params.size:=by
  rw[g2,←hlen]
  simp
 refine⟨fun _ _=>trivial,?_⟩
 rw[Oper.semAt_eq _ _ _ (by rw[ho]; intro c h; cases h),zM ho hc Db g1 lA,Oper.uponIn_round]
 refine⟨fun h=>by simp[WF,Fence.wide]at h,?_⟩
 rw[g3,g4]
 refine roundIn_of_wpIn trivial ?_
 have Ta:((r0.params.zip (c.args.map a.eval)).foldl (fun tmps (x:Tmp×Value)=>tmps.setIfInBounds x.1 x.2) r0.tmps)=((ps.toList.zip (c.args.toList.map a.eval)).foldl (fun (t:Array Value) (q:Tmp×Value)=>t.setIfInBounds q.1 q.2) r0.tmps):=by
  rw[←Array.foldl_toList,Array.toList_zip,g2,Array.toList_map]
 split at aY
 case h_2=>simp at aY
 rename_i s1 Wn
 split at aY
 case h_2=>simp at aY
 rename_i Wo
 have EO:cT ⟨w.heap.size,[],true,some b⟩ E ⟨fn0,fX fr ps.toList (c.args.toList.map (aB s.fr)),s.hp⟩ { tmps:=(r0.params.zip (c.args.map a.eval)).foldl (fun tmps (x:Tmp×Value)=>tmps.setIfInBounds x.1 x.2) r0.tmps,defers:=[] } w:=
  ⟨by rw[Ta]; exact wJ _ _ _ _ _ g6 jC,hs.inv,Marks.Wc g1,Nat.le_refl _⟩
 refine wpIn_mono (hC as _ _ Wn (some b) _ (.inl ⟨rfl,rfl⟩) E _ w EO) fun e a1 w1 hp=>?_
 obtain⟨E1,Na,rP,Ik⟩:=hp
 cases e with
 |normal=>
  have n5:cT ⟨w.heap.size,[],true,some b⟩ E1 s1 a1 w1:=Ik
  obtain⟨fn1,ps1,as1,bd1,fr1,PC⟩:=jh Wo
  have rZ:=Na.ρ n H4 0 l hl
  obtain⟨r1,q1,q2,q3,q4,q5,q6⟩:=oM n5.inv PC rZ hb
  obtain⟨Sn,Kq⟩:=C8 n5.inv PC rZ hb q1 (st':=.busy) (s':=.busy) (p':=r1.pending) ⟨rfl,q5.2⟩
  refine⟨_,run_beginRound q1 q5.1,?_⟩
  have Bw:cT ⟨w.heap.size,[],true,some b⟩ E1 { s1 with hp:=pd s1.hp n .busy } a1 (w1.putObj b (.loop { r1 with state:=.busy })):=
   ⟨n5.fr,Sn,n5.df.mono Kq,Nat.le_trans n5.bs Kq.size⟩
  have finish:∀ (s2:St) (bb:Bool) (st:lN) (j:Option Code) (E2:Env) (w2:World),bb=j.isNone→st.is (if j.isNone then .ready else .done) j→xN n o.dst s bb st s2.hp=some r→Ext E1 E2→Fr E1 (w1.putObj b (.loop { r1 with state:=.busy })) E2 w2→Inv E2 s2.hp w2 →
    ∃ v w',(Instr.endRound b j).run C.P w2=.ok v w'∧K (a.put o.dst v) w':=by
   intro s2 bb st j E2 w2 Qn G6 Dc ld jg qU
   unfold xN at Dc
   split at Dc
   case h_2=>simp at Dc
   rename_i Wp
   simp only[Option.some.injEq]at Dc
   obtain⟨fn2,ps2,Vf,bd2,fr2,PD⟩:=jh Wp
   have rY:=ld.ρ n (Nat.lt_of_lt_of_le H4 Na.L) 0 l rZ
   obtain⟨r2,u1,_,_,_,u5,_⟩:=oM qU PD rY hb
   obtain⟨c1,c2⟩:=C8 qU PD rY hb u1 G6
   refine⟨_,_,run_endRound j u1,?_⟩
   have hx:=Na.trans ld
   have eK:=((rP.trans Kq).trans jg).trans c2
   obtain⟨E3,d1,d2,d3,d4⟩:=qe hs.inv hx c1 eK (r:=.lit (.bool bb)) (v:=.bool bb) (by simp[aj])
   subst Qn
   exact hK _ Dc.symm E3 _ _ d1 d3 ⟨gO (hs.fr.mono d1) d4,d2,by rw[put_defers]; exact hs.df.mono d3,Nat.le_trans hs.bs d3.size⟩
  split at aY
  ·rename_i s2 KP
   refine wpIn_mono (hC bd _ _ KP (some b) _ (.inl ⟨rfl,rfl⟩) E1 _ _ Bw) fun e a2 w2 hp=>?_
   obtain⟨E2,ld,jg,vn⟩:=hp
   cases e with
   |normal=>exact finish s2 true .ready none E2 w2 rfl ⟨rfl,rfl⟩ aY ld jg (cT.inv vn)
   |_=>exact vn.elim
  ·rename_i id s2 KP
   refine wpIn_mono (hC bd _ _ KP (some b) _ (.inl ⟨rfl,rfl⟩) E1 _ _ Bw) fun e a2 w2 hp=>?_
   obtain⟨E2,ld,jg,vn⟩:=hp
   cases e with
   |exit j=>
    obtain⟨rfl,vn⟩:=vn
    exact finish s2 false (.jump (some id)) (some (.exit id)) E2 w2 rfl ⟨rfl,rfl⟩ aY ld jg vn.inv
   |_=>exact vn.elim
  ·rename_i s2 KP
   refine wpIn_mono (hC bd _ _ KP (some b) _ (.inl ⟨rfl,rfl⟩) E1 _ _ Bw) fun e a2 w2 hp=>?_
   obtain⟨E2,ld,jg,vn⟩:=hp
   cases e with
   |ret=>exact finish s2 false (.jump none) (some .ret) E2 w2 rfl ⟨rfl,rfl⟩ aY ld jg (cT.inv vn)
   |_=>exact vn.elim
  ·simp at aY
 |_=>exact Ik.elim
theorem FE{run:Code→St→Option Out}{n:Nat}{args:List AV}{dst:Option Tmp}{s:St}{r:Out}(h:ie run n args dst s=some r):∃ s',r=.norm s':=by
 unfold ie at h
 repeat' split at h
 all_goals first
  |simp at h
  |(unfold xN at h
    split at h
    ·grind
    ·simp at h)
theorem Dd[ae]{C:Ctx}(bM:C.Ok){k:Nat}(hF:ml C k)(hP:vo C k)(hC:fT C k):mn C.P (fun o s=>fY C (k+1) o s):=by
 intro o s r h rd B E a w K Q hs hK hQ
 have bL:=fun x=>iw hs.inv.jV hs.fr x
 have Vg:∀ (res:Option dK),res=(aO C.P s.hp.length (aB s.fr) o).run s.hp →
   (match res with|some e=>some (Out.norm { s with fr:=bJ s.fr o.dst e.val,hp:=ak s.hp e.wr })|none=>none)=some r→o.wpIn (WF rd) 0 C.P a w K Q:=by
  intro res cL h
  split at h
  case h_2=>simp at h
  rename_i e
  simp only[Option.some.injEq]at h
  refine xu hs (tS hs.inv (.inl rfl) bL cL.symm) fun E' w' v hx hf iM hv=>?_
  exact hK _ h.symm E' _ w' hx hf ⟨gO (hs.fr.mono hx) hv,iM,by rw[put_defers]; exact hs.df.mono hf,Nat.le_trans hs.bs hf.size⟩
 obtain⟨dst,op,type,pos,after,guard⟩:=o
 simp only[fY]at h
 split at h
 ·rename_i c
  split at h
  ·exact Vg _ rfl h
  ·rename_i f zN
   split at h
   ·split at h
    ·rename_i n hn
     exact KO hC hs rfl zN hn h hK
    ·simp at h
   rename_i g args cL
   have jC:=jB bL c.args.toList
   split at h
   ·-- a result of the caller's own
    split at h
    case h_2=>simp at h
    rename_i e hq
    simp only[Option.some.injEq]at h
    obtain⟨vs',mK,aY⟩:=fw (w:=w) (bL f) jC cL (AD bM hq)
    refine qZ rfl zN aY (AE bM hF hs.inv (.inl rfl) mK hq) (fun v w' hp=>?_) (fun ch w' hp=>?_) (fun w' hp=>?_)
    ·obtain⟨v',jS,E',hx,iM,hf,hr⟩:=hp
     cases jS
     exact hK _ h.symm E' _ w' hx hf ⟨gO (hs.fr.mono hx) hr,iM,by rw[put_defers]; exact hs.df.mono hf,Nat.le_trans hs.bs hf.size⟩
    ·obtain⟨v',jS,_⟩:=hp
     cases jS
    ·obtain⟨v',jS,_⟩:=hp
     cases jS
   split at h
   ·-- by value
    rename_i ue
    cases hq:(lO C k g args).run s.hp with
    |none=>rw[hq]at h; simp at h
    |some q=>
     obtain⟨res,wr⟩:=q
     rw[hq]at h
     obtain⟨vs',mK,aY⟩:=fw (w:=w) (bL f) jC cL (BK bM hq)
     have iv:=hP g args s.hp res wr hq E w vs' hs.inv mK
     refine qZ rfl zN aY iv (fun v w' hp=>?_) (fun ch w' hp=>?_) (fun w' hp=>?_)
     ·obtain⟨E',hx,iM,hf,hr⟩:=hp
      cases res with
      |kv _=>exact hr.elim
      |val x=>
       simp only[Option.some.injEq]at h
       exact hK _ h.symm E' _ w' hx hf ⟨gO (hs.fr.mono hx) hr,iM,by rw[put_defers]; exact hs.df.mono hf,Nat.le_trans hs.bs hf.size⟩
     ·obtain⟨E',hx,iM,hf,hr⟩:=hp
      cases res with
      |val _=>exact hr.elim
      |kv x=>
       simp only[Option.some.injEq]at h
       obtain⟨u,rfl,hu⟩:=hr
       exact hQ _ _ h.symm E' w' u hx hf iM hu
     ·obtain⟨E',hx,iM,hf,hr⟩:=hp
      cases res<;>exact hr.elim
   ·-- with the heap
    rename_i ue
    cases hq:mG C k g args s.hp with
    |none=>rw[hq]at h; simp at h
    |some q=>
     obtain⟨res,cB⟩:=q
     rw[hq]at h
     obtain⟨fn,rP,jg⟩:=vp hq
     obtain⟨vs',mK,aY⟩:=fw (w:=w) (bL f) jC cL ⟨fn,rP,jg,bM.name g fn rP jg⟩
     have iv:=hF g args s.hp res cB hq E w vs' hs.inv mK
     refine qZ rfl zN aY iv (fun v w' hp=>?_) (fun ch w' hp=>?_) (fun w' hp=>?_)
     ·obtain⟨E',hx,iM,hf,hr⟩:=hp
      cases res with
      |kv _=>exact hr.elim
      |val x=>
       simp only[Option.some.injEq]at h
       obtain⟨E2,ld,qU,jg,zO⟩:=qe hs.inv hx iM hf hr
       exact hK _ h.symm E2 _ w' ld jg ⟨gO (hs.fr.mono ld) zO,qU,by rw[put_defers]; exact hs.df.mono jg,Nat.le_trans hs.bs jg.size⟩
     ·obtain⟨E',hx,iM,hf,hr⟩:=hp
      cases res with
      |val _=>exact hr.elim
      |kv x=>
       simp only[Option.some.injEq]at h
       obtain⟨u,rfl,hu⟩:=hr
       obtain⟨E2,ld,qU,jg,zO⟩:=qe hs.inv hx iM hf hu
       exact hQ _ _ h.symm E2 w' u ld jg qU zO
     ·obtain⟨E',hx,iM,hf,hr⟩:=hp
      cases res<;>exact hr.elim
  ·rename_i rv name zN
   obtain⟨cal,dc,mR⟩:=c
   simp only at zN
   subst zN
   have jC:=jB bL dc.toList
   split at h
   ·simp at h
   rename_i g x cL
   split at h
   ·cases hq:(lO C k g (x::dc.toList.map (aB s.fr))).run s.hp with
    |none=>rw[hq]at h; simp at h
    |some q=>
     obtain⟨res,wr⟩:=q
     rw[hq]at h
     obtain⟨vs',mK,aY⟩:=BI (w:=w) (o:=⟨dst,.call ⟨.invoke rv name,dc,mR⟩,type,pos,after,guard⟩) rfl (bL rv) jC cL (BK bM hq)
     have iv:=hP g _ s.hp res wr hq E w vs' hs.inv mK
     refine yp rfl aY iv (fun v w' hp=>?_) (fun ch w' hp=>?_) (fun w' hp=>?_)
     ·obtain⟨E',hx,iM,hf,hr⟩:=hp
      cases res with
      |kv _=>exact hr.elim
      |val x=>
       simp only[Option.some.injEq]at h
       exact hK _ h.symm E' _ w' hx hf ⟨gO (hs.fr.mono hx) hr,iM,by rw[put_defers]; exact hs.df.mono hf,Nat.le_trans hs.bs hf.size⟩
     ·obtain⟨E',hx,iM,hf,hr⟩:=hp
      cases res with
      |val _=>exact hr.elim
      |kv x=>
       simp only[Option.some.injEq]at h
       obtain⟨u,rfl,hu⟩:=hr
       exact hQ _ _ h.symm E' w' u hx hf iM hu
     ·obtain⟨E',hx,iM,hf,hr⟩:=hp
      cases res<;>exact hr.elim
   ·cases hq:mG C k g (x::dc.toList.map (aB s.fr)) s.hp with
    |none=>rw[hq]at h; simp at h
    |some q=>
     obtain⟨res,cB⟩:=q
     rw[hq]at h
     obtain⟨fn,rP,jg⟩:=vp hq
     obtain⟨vs',mK,aY⟩:=BI (w:=w) (o:=⟨dst,.call ⟨.invoke rv name,dc,mR⟩,type,pos,after,guard⟩) rfl (bL rv) jC cL ⟨fn,rP,jg,bM.name g fn rP jg⟩
     have iv:=hF g _ s.hp res cB hq E w vs' hs.inv mK
     refine yp rfl aY iv (fun v w' hp=>?_) (fun ch w' hp=>?_) (fun w' hp=>?_)
     ·obtain⟨E',hx,iM,hf,hr⟩:=hp
      cases res with
      |kv _=>exact hr.elim
      |val x=>
       simp only[Option.some.injEq]at h
       obtain⟨E2,ld,qU,jg,zO⟩:=qe hs.inv hx iM hf hr
       exact hK _ h.symm E2 _ w' ld jg ⟨gO (hs.fr.mono ld) zO,qU,by rw[put_defers]; exact hs.df.mono jg,Nat.le_trans hs.bs jg.size⟩
     ·obtain⟨E',hx,iM,hf,hr⟩:=hp
      cases res with
      |val _=>exact hr.elim
      |kv x=>
       simp only[Option.some.injEq]at h
       obtain⟨u,rfl,hu⟩:=hr
       obtain⟨E2,ld,qU,jg,zO⟩:=qe hs.inv hx iM hf hu
       exact hQ _ _ h.symm E2 w' u ld jg qU zO
     ·obtain⟨E',hx,iM,hf,hr⟩:=hp
      cases res<;>exact hr.elim
 ·-- a slice that begins as nil
  have aY:(execOp a.eval { dst,op:=.assign (.const (.slice none 0 0)),type,pos,after,guard }).run C.P w=.ok (.value (.slice none 0 0)) w:=rfl
  have next:∀ (x:AV) (E':Env) (cB:ag),Ext E E'→Inv E' cB w→Fr E w E' w→aj E' true x (.slice none 0 0) →
    r=.norm { s with fr:=bJ s.fr dst x,hp:=cB }→Oper.wpIn (WF rd) 0 C.P { dst,op:=.assign (.const (.slice none 0 0)),type,pos,after,guard } a w K Q:=by
   intro x E' cB hx iM hf hr he
   refine⟨fun _ _=>trivial,?_⟩
   rw[Oper.semAt_eq _ _ _ (by intro c h; cases h),aY,Oper.uponIn_value]
   exact hK _ he E' _ w hx hf ⟨gO (hs.fr.mono hx) hr,iM,by rw[put_defers]; exact hs.df.mono hf,Nat.le_trans hs.bs hf.size⟩
  split at h
  ·rename_i d
   split at h
   ·split at h
    case h_2=>simp at h
    rename_i q hq
    split at h
    case isFalse=>simp at h
    simp only[Option.some.injEq]at h
    obtain⟨E',h1,h2,h3,h4⟩:=G4 (esz:=q.size) hs.inv
    exact next _ E' _ h1 h2 h3 h4 h.symm
   ·simp only[Option.some.injEq]at h
    exact next (.lit cX) E s.hp (Ext.refl E) hs.inv (Fr.refl E w) (by simp[aj]) h.symm
  ·simp only[Option.some.injEq]at h
   exact next (.lit cX) E s.hp (Ext.refl E) hs.inv (Fr.refl E w) (by simp[aj]) h.symm
 ·-- any other operation; nil slices in what it gives may be named anew
  split at h
  case h_2=>simp at h
  rename_i e he
  simp only[Option.some.injEq]at h
  refine xu hs (tS hs.inv (.inl rfl) bL he) fun E' w' v hx hf iM hv=>?_
  obtain⟨E2,ld,jg,Bw⟩:=KN (l:=C.rL s.fn) (dst:=dst) (s:={ s with fr:=bJ s.fr dst e.val,hp:=ak s.hp e.wr }) (B:=B) (a:=a.put dst v)
   ⟨gO (hs.fr.mono hx) hv,iM,by rw[put_defers]; exact hs.df.mono hf,Nat.le_trans hs.bs hf.size⟩
  exact hK _ h.symm E2 _ w' (hx.trans ld) (hf.trans jg) Bw
end Go.PI
end
section
/- PI, more fuel gives no other answer. -/
namespace Go.PI
def RM.Le{α:Type}(hp:ag)(r r':RM α):Prop:=∀ x,r.run hp=some x→r'.run hp=some x∧r'.log hp=r.log hp
theorem RM.Le.rfl{α:Type}{hp:ag}{r:RM α}:RM.Le hp r r:=fun _ h=>⟨h,by trivial⟩
theorem RM.eV{α β:Type}(hp:ag)(x:RM α)(f:α→RM β):(x >>= f).log hp=x.log hp++(match x.run hp with|some a=>(f a).log hp|none=>[]):=by
 show (RM.bind x f).log hp=_
 induction x with
 |ret a=>simp[RM.bind,RM.log,RM.run]
 |fail=>simp[RM.bind,RM.log,RM.run]
 |get n k ih=>
  grind[RM.bind,RM.log,RM.run]
theorem RM.Le.bind[ae]{α β:Type}{hp:ag}{x x':RM α}{f f':α→RM β}(h:RM.Le hp x x')(hf:∀ a,RM.Le hp (f a) (f' a)):RM.Le hp (x >>= f) (x' >>= f'):=by
 intro y hy
 rw[RM.run_bind]at hy
 cases hq:x.run hp with
 |none=>rw[hq]at hy; simp at hy
 |some a=>
  rw[hq]at hy
  simp only[Option.bind_some]at hy
  obtain⟨h1,h2⟩:=h a hq
  obtain⟨h3,h4⟩:=hf a y hy
  refine⟨by rw[RM.run_bind,h1]; exact h3,?_⟩
  rw[RM.eV,RM.eV,h1,hq,h2]
  simp only[h4]
theorem ja{st st':Oper→St→Option Out}(h:∀ o s r,st o s=some r→st' o s=some r)(ops:Array Oper):∀ (l:List Oper) (s:St) (r:Out),cR st ops l s=some r→cR st' ops l s=some r
 |[],s,r,hr=>hr
 |o::l,s,r,hr=>by
  simp only[cR]at hr ⊢
  cases hw:cS ops s.fr o with
  |none=>rw[hw]at hr; simp at hr
  |some b=>
   rw[hw]at hr
   cases b with
   |false=>exact ja h ops l _ r hr
   |true=>
    simp only at hr ⊢
    cases hs:st o s with
    |none=>rw[hs]at hr; simp at hr
    |some out=>
     rw[hs]at hr
     rw[h o s out hs]
     cases out with
     |norm s'=>exact ja h ops l s' r hr
     |_=>exact hr
theorem xV[ae]{st st':Nat→Oper→List AV→RM dK}(h:∀ nm o fr hp,RM.Le hp (st nm o fr) (st' nm o fr))(ops:Array Oper)(x:Item)(s:St)(r:St×fS)(hr:fI st ops x s=some r):fI st' ops x s=some r:=by
 simp only[fI]at hr ⊢
 cases hw:cS ops s.fr x.o with
 |none=>rw[hw]at hr; simp at hr
 |some b=>
  rw[hw]at hr
  cases b with
  |false=>exact hr
  |true=>
   simp only at hr ⊢
   cases hq:(st (x.at s.hp.length) x.o s.fr).run s.hp with
   |none=>rw[hq]at hr; simp at hr
   |some e=>
    obtain⟨h1,h2⟩:=h (x.at s.hp.length) x.o s.fr s.hp e hq
    rw[hq]at hr
    rw[h1,h2]
    exact hr
theorem oD[ae]{st st':Nat→Oper→List AV→RM dK}(h:∀ nm o fr hp,RM.Le hp (st nm o fr) (st' nm o fr))(ops:Array Oper):∀ (l:List Item) (s:St) (r:St×List fS),cG st ops l s=some r→cG st' ops l s=some r
 |[],s,r,hr=>hr
 |x::l,s,r,hr=>by
  simp only[cG]at hr ⊢
  cases hs:fI st ops x s with
  |none=>rw[hs]at hr; simp at hr
  |some q=>
   obtain⟨s1,f⟩:=q
   rw[hs]at hr
   rw[xV h ops x s _ hs]
   simp only at hr ⊢
   cases hd:cG st ops l s1 with
   |none=>rw[hd]at hr; simp at hr
   |some q=>
    rw[hd]at hr
    rw[oD h ops l s1 q hd]
    exact hr
theorem Fc[ae]{C:Ctx}{k k':Nat}{o:Oper}{s:St}(h:∀ c,o.op≠.call c):fY C (k+1) o s=fY C (k'+1) o s:=by
 rw[fY,fY]
 split
 ·rename_i c hc; exact absurd hc (h c)
 ·rfl
 ·rfl
theorem wm[ae]{C:Ctx}{F F':List AV→Option (oq×ag)}(h:∀ as r,F as=some r→F' as=some r){nm:Nat}{g:FuncId}{args:List AV}{hp:ag}:
  RM.Le hp (iI C F nm g args) (iI C F' nm g args):=by
 unfold iI
 refine RM.Le.bind .rfl fun as=>?_
 cases hi:C.jw g with
 |some q=>exact .rfl
 |none=>
  simp only
  intro x hx
  cases hq:F as with
  |none=>rw[hq]at hx; simp[RM.af]at hx
  |some q=>
   rw[hq]at hx
   rw[h as q hq]
   exact⟨hx,rfl⟩
theorem wo{run run':Code→St→Option Out}(h:∀ c s r,run c s=some r→run' c s=some r){n:Nat}{args:List AV}{dst:Option Tmp}{s:St}{r:Out}
  (hy:ie run n args dst s=some r):ie run' n args dst s=some r:=by
 unfold ie at hy ⊢
 split at hy
 case h_2=>simp at hy
 rename_i fn ps as bd fr ho
 split at hy
 case h_2=>simp at hy
 rename_i hc
 try rw[hc]
 try simp only
 split at hy
 case h_2=>simp at hy
 rename_i s1 h1
 rw[h _ _ _ h1]
 simp only
 split at hy
 case h_2=>simp at hy
 rename_i h2
 try rw[h2]
 try simp only
 split at hy
 ·rename_i s2 h3; rw[h _ _ _ h3]; exact hy
 ·rename_i id s2 h3; rw[h _ _ _ h3]; exact hy
 ·rename_i s2 h3; rw[h _ _ _ h3]; exact hy
 ·simp at hy
theorem J1[ae]{ec NC:Code→St→Option Out}{eo SU:Oper→St→Option Out}(hc:∀ c s r,ec c s=some r→NC c s=some r)(ho:∀ o s r,eo o s=some r→SU o s=some r):∀ c s r,z8 ec eo c s=some r→z8 NC SU c s=some r:=by
 have leaf:∀ c s r,((ec c s).map fun o=>(o,(none:Option AV)))=some r→((NC c s).map fun o=>(o,(none:Option AV)))=some r:=by
  intro c s r h
  cases hq:ec c s with
  |none=>rw[hq]at h; simp at h
  |some o=>rw[hc _ _ _ hq]; rw[hq]at h; exact h
 intro c
 induction c with
 |seq x y _ J2=>
  intro s r h
  simp only[z8]at h ⊢
  cases hd:tH x with
  |some q=>
   obtain⟨ops,v⟩:=q
   rw[hd]at h
   simp only at h ⊢
   cases hr:cR eo ops ops.toList.dropLast s with
   |none=>rw[hr]at h; simp at h
   |some o=>
    rw[hr]at h
    rw[ja ho ops _ _ _ hr]
    cases o with
    |norm s1=>
     simp only at h ⊢
     split at h
     ·rename_i q cL
      cases hq:ec y s1 with
      |none=>rw[hq]at h; simp at h
      |some o=>rw[hc _ _ _ hq]; rw[hq]at h; exact h
     ·simp at h
    |_=>simp at h
  |none=>
   rw[hd]at h
   simp only at h ⊢
   cases hq:ec x s with
   |none=>rw[hq]at h; simp at h
   |some o=>
    rw[hq]at h; rw[hc _ _ _ hq]
    cases o with
    |norm s'=>exact J2 _ _ h
    |_=>exact h
 |_=>intro s r h; simp only[z8]at h ⊢; exact leaf _ _ _ h
theorem Ak[ae]{ec NC:Code→St→Option Out}(hc:∀ c s r,ec c s=some r→NC c s=some r){P:Program}{rs:List ResultVar}{fr:List AV}{hp:ag}{d:Option AV}{r:oq×ag}(h:uW ec P rs fr hp d=some r):uW NC P rs fr hp d=some r:=by
 cases d with
 |none=>exact h
 |some v=>
  simp only[uW]at h ⊢
  split at h
  ·simp at h
  rename_i g as cL
  split at h
  ·simp at h
  rename_i fg ND
  split at h
  ·simp at h
  rename_i cg NF
  cases hn:cJ cg with
  |false=>rw[hn]at h; simp at h
  |true=>
   rw[hn]at h
   cases hq:ec (oy cg) ⟨g,as++List.replicate (fg.ntmps-as.length) .undef,hp⟩ with
   |none=>rw[hq]at h; simp at h
   |some o=>rw[hq]at h; simp only[cL,ND,NF,hn,hc _ _ _ hq]; exact h
theorem HW[ae]{ec NC:Code→St→Option Out}{eo SU:Oper→St→Option Out}(hc:∀ c s r,ec c s=some r→NC c s=some r)(ho:∀ o s r,eo o s=some r→SU o s=some r){P:Program}{rs:List ResultVar}{c:Code}{s:St}{r:oq×ag}(h:uX ec eo P rs c s=some r):uX NC SU P rs c s=some r:=by
 unfold uX at h ⊢
 cases hn:cJ c with
 |false=>rw[hn]at h; simp at h
 |true=>
  rw[hn]at h
  cases hq:z8 ec eo c s with
  |none=>rw[hq]at h; simp at h
  |some o=>
   rw[hq]at h
   rw[J1 hc ho _ _ _ hq]
   obtain⟨o,d⟩:=o
   cases o with
   |norm s'=>exact Ak hc h
   |ret s'=>exact Ak hc h
   |exit i s'=>exact h
   |kv v s'=>cases d<;>exact h
structure Qt[ae](C:Ctx)(k k2:Nat):Prop where
 f:∀ g args hp r,mG C k g args hp=some r→mG C k2 g args hp=some r
 c:∀ c s r,cb C k c s=some r→cb C k2 c s=some r
 o:∀ o s r,fY C k o s=some r→fY C k2 o s=some r
 p:∀ g args hp,RM.Le hp (lO C k g args) (lO C k2 g args)
 e:∀ nm o fr hp,RM.Le hp (iW C k nm o fr) (iW C k2 nm o fr)
theorem HX[ae]{C:Ctx}{k k2:Nat}(ih:Qt C k k2):Qt C (k+1) (k2+1) where
 f:=by
  intro g args hp r h
  rw[mG]at h ⊢
  cases rN:C.P.funcs[g]? with
  |none=>rw[rN]at h; simp at h
  |some fn=>
   rw[rN]at h
   simp only at h ⊢
   cases hb:fn.body with
   |none=>rw[hb]at h; simp at h
   |some c=>
    rw[hb]at h
    simp only at h ⊢
    cases hD:Cu c with
    |true=>rw[hD]at h; exact HW ih.c ih.o h
    |false=>
    rw[hD]at h
    simp only at h ⊢
    cases hc:cb C k c ⟨g,args++List.replicate (fn.ntmps-args.length) .undef,hp⟩ with
    |none=>rw[hc]at h; simp at h
    |some out=>rw[hc]at h; rw[ih.c _ _ _ hc]; exact h
 c:=by
  intro c s r h
  cases c with
  |seq a b=>
   simp only[cb]at h ⊢
   cases ha:cb C k a s with
   |none=>rw[ha]at h; simp at h
   |some out=>
    rw[ha]at h; rw[ih.c _ _ _ ha]
    cases out with
    |norm s'=>exact ih.c _ _ _ h
    |_=>exact h
  |cond o a b=>
   simp only[cb]at h ⊢
   split at h
   ·split at h
    ·exact ih.c _ _ _ h
    ·exact ih.c _ _ _ h
   ·simp at h
  |block id b=>
   simp only[cb]at h ⊢
   cases ha:cb C k b s with
   |none=>rw[ha]at h; simp at h
   |some out=>rw[ha]at h; rw[ih.c _ _ _ ha]; exact h
  |loop b=>
   simp only[cb]at h ⊢
   cases ha:cb C k b s with
   |none=>rw[ha]at h; simp at h
   |some out=>
    rw[ha]at h; rw[ih.c _ _ _ ha]
    cases out with
    |norm s'=>exact ih.c _ _ _ h
    |_=>exact h
  |region id ops draw=>
   simp only[cb]at h ⊢
   cases draw with
   |false=>exact ja ih.o ops _ _ r h
   |true=>
    simp only at h ⊢
    split at h
    case isFalse=>simp at h
    rename_i bM
    rw[if_pos bM]
    split at h
    ·rename_i s' fs hd
     rw[oD ih.e ops _ _ _ hd]
     simp only at h ⊢
     split at h
     case isFalse=>simp at h
     rename_i hc
     rw[if_pos hc]
     exact ja ih.o ops _ _ r h
    ·simp at h
  |scope b=>
   simp only[cb]at h ⊢
   split at h
   ·rename_i c hc
    exact ih.c _ _ _ h
   ·simp at h
  |rangeFunc f ps as bd=>
   simp only[cb]at h ⊢
   split at h
   case h_2=>simp at h
   rename_i g args cL
   cases hq:mG C k g args (s.hp++[some (.gI (.loop s.fn ps as bd .ready) (uV as bd s.fr))]) with
   |none=>rw[hq]at h; simp at h
   |some q=>rw[hq]at h; rw[ih.f _ _ _ _ hq]; exact h
  |_=>simpa only[cb] using h
 o:=by
  intro o s r h
  obtain⟨dst,op,type,pos,after,guard⟩:=o
  cases op with
  |call c=>
   obtain⟨callee,args,argTypes⟩:=c
   cases callee with
   |value f=>
    simp only[fY]at h ⊢
    cases cL:bH (aB s.fr f) (args.toList.map (aB s.fr)) with
    |none=>
     rw[cL]at h
     simp only at h ⊢
     split at h
     ·rename_i n hn
      exact wo (fun c s r h=>ih.c c s r h) h
     ·simp at h
    |some q=>
     obtain⟨g,as⟩:=q
     rw[cL]at h
     simp only at h ⊢
     cases pV:au (Op.call ⟨.value f,args,argTypes⟩) with
     |true=>
      rw[pV]at h
      simp only at h ⊢
      cases hq:(iI C (fun as=>mG C k g as []) s.hp.length g as).run s.hp with
      |none=>rw[hq]at h; simp at h
      |some q=>rw[hq]at h; rw[(wm (fun as r h=>ih.f g as [] r h) _ hq).1]; exact h
     |false=>
     rw[pV]at h
     simp only at h ⊢
     cases hk:C.kind g with
     |pure=>
      rw[hk]at h
      simp only at h ⊢
      cases hq:(lO C k g as).run s.hp with
      |none=>rw[hq]at h; simp at h
      |some q=>rw[hq]at h; rw[(ih.p g as s.hp q hq).1]; exact h
     |imp=>
      rw[hk]at h
      simp only at h ⊢
      cases hq:mG C k g as s.hp with
      |none=>rw[hq]at h; simp at h
      |some q=>rw[hq]at h; rw[ih.f _ _ _ _ hq]; exact h
   |invoke rv name=>
    simp only[fY]at h ⊢
    cases cL:pN C.P (aB s.fr rv) name with
    |none=>rw[cL]at h; simp at h
    |some q=>
     obtain⟨g,x⟩:=q
     rw[cL]at h
     simp only at h ⊢
     cases hk:C.kind g with
     |pure=>
      rw[hk]at h
      simp only at h ⊢
      cases hq:(lO C k g (x::args.toList.map (aB s.fr))).run s.hp with
      |none=>rw[hq]at h; simp at h
      |some q=>rw[hq]at h; rw[(ih.p g _ s.hp q hq).1]; exact h
     |imp=>
      rw[hk]at h
      simp only at h ⊢
      cases hq:mG C k g (x::args.toList.map (aB s.fr)) s.hp with
      |none=>rw[hq]at h; simp at h
      |some q=>rw[hq]at h; rw[ih.f _ _ _ _ hq]; exact h
   |_=>simpa only[fY] using h
  |_=>rw[Fc (k':=k) (by intro c hc; cases hc)]; exact h
 p:=by
  intro g args hp
  rw[lO,lO]
  refine RM.Le.bind .rfl fun as=>?_
  cases hi:C.kY g with
  |some h=>exact .rfl
  |none=>
   simp only
   intro x hx
   cases hq:mG C k g as [] with
   |none=>rw[hq]at hx; simp[RM.af]at hx
   |some q=>
    rw[hq]at hx
    rw[ih.f _ _ _ _ hq]
    exact⟨hx,rfl⟩
 e:=by
  intro nm o fr hp
  rw[iW,iW]
  obtain⟨dst,op,type,pos,after,guard⟩:=o
  cases op with
  |call c=>
   obtain⟨callee,args,argTypes⟩:=c
   cases callee with
   |value f=>
    simp only
    split
    ·exact .rfl
    ·rename_i g as cL
     cases pV:au (Op.call ⟨.value _,args,argTypes⟩) with
     |true=>exact wm fun as r h=>ih.f g as [] r h
     |false=>
     cases hk:C.kind g with
     |pure=>exact RM.Le.bind (ih.p g as hp) fun _=>.rfl
     |imp=>exact .rfl
   |invoke rv name=>
    simp only
    split
    ·exact .rfl
    ·rename_i g x cL
     cases hk:C.kind g with
     |pure=>exact RM.Le.bind (ih.p g _ hp) fun _=>.rfl
     |imp=>exact .rfl
   |_=>exact .rfl
  |_=>exact .rfl
theorem mono[ae](C:Ctx):∀ k,Qt C k (k+1)
 |0=>{ f:=by intro g args hp r h; simp[mG]at h
       c:=by intro c s r h; simp[cb]at h
       o:=by intro o s r h; simp[fY]at h
       p:=by intro g args hp x h; simp[lO,RM.af]at h
       e:=by intro nm o fr hp x h; simp[iW,RM.af]at h }
 |k+1=>HX (mono C k)
noncomputable def kf{α:Type}(g:Nat→Option α):Option α:=
 open Classical in if h : ∃ k, (g k).isSome then g (Classical.choose h) else none
def fZ{α:Type}(g:Nat→Option α):Prop:=∀ k x,g k=some x→g (k+1)=some x
theorem fZ.le{α:Type}{g:Nat→Option α}(h:fZ g){k:Nat}{x:α}(hx:g k=some x):∀ d,g (k+d)=some x
 |0=>hx
 |d+1=>h _ _ (h.le hx d)
theorem bm[ae]{α:Type}{g:Nat→Option α}(hg:fZ g){x:α}:kf g=some x↔∃ k,g k=some x:=by
 unfold kf
 constructor
 ·intro h
  split at h
  ·rename_i hq; exact⟨_,h⟩
  ·simp at h
 ·rintro⟨k,hk⟩
  have hq:∃ k,(g k).isSome:=⟨k,by simp[hk]⟩
  rw[dif_pos hq]
  obtain⟨y,hy⟩:=Option.isSome_iff_exists.1 (Classical.choose_spec hq)
  have h1:=hg.le hk (Classical.choose hq)
  have h2:=hg.le hy k
  rw[Nat.add_comm]at h2
  rw[h1]at h2
  rw[hy,h2]
theorem lD[ae]{α:Type}{g:Nat→Option α}(hg:fZ g){y:Option α}(h1:∀ k x,g k=some x→y=some x)(h2:∀ x,y=some x→∃ k,g k=some x):kf g=y:=by
 cases hl:kf g with
 |some x=>
  obtain⟨k,hk⟩:=(bm hg).1 hl
  exact(h1 k x hk).symm
 |none=>
  cases y with
  |none=>rfl
  |some x=>
   have:=(bm hg).2 (h2 x rfl)
   rw[hl]at this; simp at this
noncomputable def k6[ae](C:Ctx)(f:FuncId)(args:List AV)(hp:ag):Option (oq×ag):=kf fun k=>mG C k f args hp
noncomputable def db[ae](C:Ctx)(c:Code)(s:St):Option Out:=kf fun k=>cb C k c s
noncomputable def iL[ae](C:Ctx)(o:Oper)(s:St):Option Out:=kf fun k=>fY C k o s
noncomputable def J3[ae](C:Ctx)(g:FuncId)(args:List AV)(hp:ag):Option (oq×List (Nat×aP)):=kf fun k=>(lO C k g args).run hp
theorem mW[ae](C:Ctx)(f:FuncId)(args:List AV)(hp:ag):fZ fun k=>mG C k f args hp:=fun k x h=>(mono C k).f _ _ _ _ h
theorem dZ[ae](C:Ctx)(c:Code)(s:St):fZ fun k=>cb C k c s:=fun k x h=>(mono C k).c _ _ _ h
theorem jX[ae](C:Ctx)(o:Oper)(s:St):fZ fun k=>fY C k o s:=fun k x h=>(mono C k).o _ _ _ h
theorem CL[ae](C:Ctx)(g:FuncId)(args:List AV)(hp:ag):fZ fun k=>(lO C k g args).run hp:=fun k x h=>((mono C k).p g args hp x h).1
end Go.PI
end
section
/- PI, part Za: a scope in which the run jumps back to one label. -/
namespace Go.PI
theorem n7[ae]{C:Ctx}{k:Nat}{o:Oper}{s:St}{r:Out}(h:fY C k o s=some r):(∃ s',r=.norm s')∨∃ v s',r=.kv v s':=by
 cases k with
 |zero=>simp[fY]at h
 |succ k=>
  simp only[fY]at h
  repeat' split at h
  all_goals first
   |(simp only[Option.some.injEq]at h; subst h; first|exact .inl ⟨_,rfl⟩|exact .inr ⟨_,_,rfl⟩)
   |exact .inl (FE h)
   |simp at h
theorem lJ{step:Oper→St→Option Out}(hs:∀ o s r,step o s=some r→(∃ s',r=.norm s')∨∃ v s',r=.kv v s'){ops:Array Oper}:∀ {l:List Oper} {s:St} {r:Out},
  cR step ops l s=some r→(∃ s',r=.norm s')∨∃ v s',r=.kv v s'
 |[],s,r,h=>by simp only[cR,Option.some.injEq]at h; exact .inl ⟨s,h.symm⟩
 |o::l,s,r,h=>by
  simp only[cR]at h
  split at h
  ·simp at h
  ·exact lJ hs h
  ·split at h
   ·exact lJ hs h
   ·rename_i dE
    exact hs o s r h
theorem vv:∀ {c:Code},dA c=true→cJ c=true:=by
 intro c
 induction c with
 |seq a b G8 EP=>simp_all[dA,cJ]
 |cond c a b G8 EP=>simp_all[dA,cJ]
 |block id b ih=>simp_all[dA,cJ]
 |loop b ih=>simp_all[dA,cJ]
 |scope b ih=>intro h; simp[dA]at h
 |rangeFunc f ps a b=>intro h; simp[dA]at h
 |_=>intro _; rfl
theorem FL[ae]{C:Ctx}:∀ (k:Nat) {c:Code} {s s':St} {i:Nat},dA c=true→cb C k c s=some (.exit i s')→i<1073741824:=by
 intro k
 induction k with
 |zero=>intro c s s' i _ h; simp[cb]at h
 |succ k ih=>
  intro c s s' i hp h
  cases c with
  |seq a b=>
   grind[dA,cb]
  |cond o a b=>
   grind[dA,cb]
  |block id b=>
   grind[dA,cb,Out.exit.injEq]
  |loop b=>
   grind[dA,cb]
  |exit id=>
   simp_all[cb,Out.exit.injEq,dA]
  |region id ops draw=>
   simp only[cb]at h
   cases draw with
   |false=>
    rcases lJ (fun o s r h=>n7 h) h with ⟨_,e⟩|⟨_,_,e⟩<;>cases e
   |true=>
    simp only at h
    split at h
    case isFalse=>simp at h
    split at h
    case h_2=>simp at h
    split at h
    case isFalse=>simp at h
    rcases lJ (fun o s r h=>n7 h) h with ⟨_,e⟩|⟨_,_,e⟩<;>cases e
  |skip=>simp[cb]at h
  |ret=>simp[cb]at h
  |_=>simp[dA]at hp
def OkJ[ae](l:Nat)(B:ph)(E:Env):Out→Exit→Act→World→Prop
 |.exit i s,.goto m,a,w=>i=1073741825∧m=l∧cT B E s a w
 |.exit i s,.exit j,a,w=>i=j∧i<1073741824∧cT B E s a w
 |o,e,a,w=>KL B E o e a w
def Ir[ae](l:Nat)(B:ph)(E:Env)(w:World)(o:Out)(e:Exit)(a':Act)(w':World):Prop:=
 ∃ E',Ext E E'∧Fr E w E' w'∧OkJ l B E' o e a' w'
theorem Ir.from[ae]{l:Nat}{B:ph}{E E1:Env}{w w1:World}{o:Out}{e:Exit}{a:Act}{w':World}(hx:Ext E E1)(hf:Fr E w E1 w1)(h:Ir l B E1 w1 o e a w'):Ir l B E w o e a w':=by
 obtain⟨E',h1,h2,h3⟩:=h
 exact⟨E',hx.trans h1,hf.trans h2,h3⟩
theorem KZ[ae]{C:Ctx}{k:Nat}(hC:∀ j,j≤k→fT C j){l:Nat}{c:Code}(hp:dA c=true){j:Nat}(hj:j≤k){s:St}{o:Out}(h:cb C j c s=some o)
  (rd:Option Nat) {B:ph} {E:Env} {a:Act} {w:World} (hs:cT B E s a w):c.wpIn (WF rd) 0 C.P (Ir l B E w o) a w:=by
 refine wpIn_mono (hC j hj c s o h rd B (.inr (vv hp)) E a w hs) fun e a' w' hq=>?_
 obtain⟨E',h1,h2,h3⟩:=hq
 refine⟨E',h1,h2,?_⟩
 cases o with
 |exit i s'=>
  have hi:=FL j hp h
  cases e with
  |exit m=>exact⟨h3.1,hi,h3.2⟩
  |_=>exact h3.elim
 |_=>exact h3
theorem QU[ae]{C:Ctx}{k:Nat}(hC:∀ j,j≤k→fT C j){l:Nat}:∀ (c:Code) {c':Code},rM l c=some c'→∀ (j:Nat),j≤k→∀ (s:St) (o:Out),cb C j c' s=some o →
  ∀ (rd:Option Nat) (B:ph) (E:Env) (a:Act) (w:World),cT B E s a w→c.wpIn (WF rd) 0 C.P (Ir l B E w o) a w:=by
 intro c
 induction c with
 |seq x y Wx J2=>
  intro c' hc j hj s o h rd B E a w hs
  simp only[rM]at hc
  cases hx:rM l x with
  |none=>rw[hx]at hc; simp at hc
  |some x'=>
   cases hy:rM l y with
   |none=>rw[hx,hy]at hc; simp at hc
   |some y'=>
    rw[hx,hy]at hc
    simp only[Option.bind_some,Option.map_some,Option.some.injEq]at hc
    subst hc
    cases j with
    |zero=>simp[cb]at h
    |succ j=>
     have px:=Wx hx
     have py:=J2 hy
     simp only[cb]at h
     refine wpIn_seq ?_
     split at h
     ·rename_i s' gK
      refine wpIn_mono (px j (by omega) s _ gK rd B E a w hs) fun e a' w' hp=>?_
      obtain⟨E',h1,h2,h3⟩:=hp
      cases e with
      |normal=>exact wpIn_mono (py j (by omega) s' o h rd B E' a' w' h3) fun e Vj xO hp=>Ir.from h1 h2 hp
      |_=>exact h3.elim
     ·rename_i dE
      refine wpIn_mono (px j (by omega) s o h rd B E a w hs) fun e a' w' hp=>?_
      obtain⟨E',h1,h2,h3⟩:=hp
      cases e with
      |normal=>
       cases o with
       |norm s'=>exact absurd h (dE s')
       |_=>exact h3.elim
      |_=>exact⟨E',h1,h2,h3⟩
 |cond op x y Wx J2=>
  intro c' hc j hj s o h rd B E a w hs
  simp only[rM]at hc
  cases hx:rM l x with
  |none=>rw[hx]at hc; simp at hc
  |some x'=>
   cases hy:rM l y with
   |none=>rw[hx,hy]at hc; simp at hc
   |some y'=>
    rw[hx,hy]at hc
    simp only[Option.bind_some,Option.map_some,Option.some.injEq]at hc
    subst hc
    cases j with
    |zero=>simp[cb]at h
    |succ j=>
     have px:=Wx hx
     have py:=J2 hy
     simp only[cb]at h
     split at h
     case h_2=>simp at h
     rename_i t ht
     have hv:=iw hs.inv.jV hs.fr op
     rw[ht]at hv
     simp only[aj]at hv
     cases t with
     |true=>exact wpIn_cond_true hv (px j (by omega) s o h rd B E a w hs)
     |false=>exact wpIn_cond_false hv (py j (by omega) s o h rd B E a w hs)
 |goto m=>
  intro c' hc j hj s o h rd B E a w hs
  simp only[rM]at hc
  split at hc
  case isFalse=>simp at hc
  rename_i hm
  simp only[Option.some.injEq]at hc
  subst hc
  cases j with
  |zero=>simp[cb]at h
  |succ j=>
   simp only[cb,Option.some.injEq]at h
   subst h
   exact wpIn_goto ⟨E,Ext.refl E,Fr.refl E w,rfl,hm,hs⟩
 |_=>
  intro c' hc
  simp only[rM]at hc
  split at hc
  case isFalse=>simp at hc
  rename_i hp
  simp only[Option.some.injEq]at hc
  subst hc
  intro j hj s o h rd B E a w hs
  exact KZ hC hp hj h rd hs
section
variable {F:Fence}{n:Nat}{P:Program}{Q:Exit→Act→World→Prop}{a:Act}{w:World}
theorem Dm{b:Frame}{k:List Go.Item}{cs:List Frame}{c:Code}:step P (lone (b.atR a (.code (.scope c)::k)) cs w)=.next (lone (b.atR a (.code c::.inScope c::k)) cs w):=
 step_lone_go (by simp[stepG,stepG.exec,Frame.atR])
theorem sb{b:Frame}{k:List Go.Item}{cs:List Frame}{c:Code}:step P (lone (b.atR a (.inScope c::k)) cs w)=.next (lone (b.atR a k) cs w):=
 step_lone_go (by simp[stepG,stepG.exec,Frame.atR])
def nv(F:Fence)(n:Nat)(P:Program)(c r:Code)(Q:Exit→Act→World→Prop)(a:Act)(w:World):Prop:=
 ∀ (b:Frame) (k:List Go.Item) (cs:List Frame),b.roundOf=F.round→F.fn b.fn→F.room (cs.length+1+n) →
   ∃ e a' w',Q e a' w'∧ArrivesIn (Machine.fenced P F) P (lone (b.atR a (.code r::.inScope c::k)) cs w) b k cs e a' w'
def Tq(l:Nat)(N:Act→World→Prop)(Q:Exit→Act→World→Prop):Exit→Act→World→Prop
 |.goto m,a,w=>m=l∧N a w
 |e,a,w=>Q e a w
theorem AG{c r rest:Code}{l:Nat}{N:Act→World→Prop}(hf:findLabel c l=some rest)(hN:∀ a w,N a w→nv F n P c rest Q a w)
  (h:r.wpIn F n P (Tq l N Q) a w):nv F n P c r Q a w:=by
 intro b k cs dV hb hr
 have hg:gotoIn l (.inScope c::k)=some (.code rest::.inScope c::k):=by simp[gotoIn,hf]
 obtain⟨e,a₁,w₁,hq,cW⟩:=h b (.inScope c::k) cs dV hb hr
 cases e with
 |normal=>exact⟨.normal,a₁,w₁,hq,StepsIn.trans cW (.one (fenced_calm hb hr rfl) sb)⟩
 |exit id=>
  have hx:exitTo id (.inScope c::k)=exitTo id k:=by simp[exitTo]
  exact⟨.exit id,a₁,w₁,hq,fun k' hk=>cW.1 k' (by rw[hx]; exact hk),fun ma hk=>cW.2 ma (by rw[hx]; exact hk)⟩
 |goto m=>
  obtain⟨rfl,hN'⟩:=hq
  obtain⟨e₂,a₂,w₂,xP,ky⟩:=hN _ _ hN' b k cs dV hb hr
  exact⟨e₂,a₂,w₂,xP,.of_steps (cW.1 _ hg) ky⟩
 |ret=>exact⟨_,a₁,w₁,hq,cW⟩
 |panic ch=>exact⟨_,a₁,w₁,hq,cW⟩
 |outgrown=>exact⟨_,a₁,w₁,hq,cW⟩
theorem xh{c r:Code}(h:r.wpIn F n P Q a w)(hQ:∀ m a w,¬Q (.goto m) a w):nv F n P c r Q a w:=by
 intro b k cs dV hb hr
 obtain⟨e,a₁,w₁,hq,cW⟩:=h b (.inScope c::k) cs dV hb hr
 cases e with
 |normal=>exact⟨.normal,a₁,w₁,hq,StepsIn.trans cW (.one (fenced_calm hb hr rfl) sb)⟩
 |exit id=>
  have hx:exitTo id (.inScope c::k)=exitTo id k:=by simp[exitTo]
  exact⟨.exit id,a₁,w₁,hq,fun k' hk=>cW.1 k' (by rw[hx]; exact hk),fun ma hk=>cW.2 ma (by rw[hx]; exact hk)⟩
 |goto m=>exact absurd hq (hQ _ _ _)
 |ret=>exact⟨_,a₁,w₁,hq,cW⟩
 |panic ch=>exact⟨_,a₁,w₁,hq,cW⟩
 |outgrown=>exact⟨_,a₁,w₁,hq,cW⟩
theorem Dn{c:Code}(h:nv F n P c c Q a w):(Code.scope c).wpIn F n P Q a w:=by
 intro b k cs dV hb hr
 obtain⟨e,a₁,w₁,hq,cW⟩:=h b k cs dV hb hr
 exact⟨e,a₁,w₁,hq,.of_steps (.one (fenced_calm hb hr rfl) Dm) cW⟩
end
theorem Dp:∀ {c:Code} {l:Nat},dA c=true→findLabel c l=none:=by
 intro c
 induction c with
 |seq a b G8 EP=>
  simp_all[dA,findLabel]
 |label m=>intro l h; simp[dA]at h
 |_=>intro l _; rfl
theorem K0{a b:Code}{l:Nat}(h:findLabel a l=none):findLabel (.seq a b) l=findLabel b l:=by
 simp only[findLabel,h]
theorem K1:∀ {c:Code} {l:Nat} {x r:Code},tI c=some (l,x,r)→findLabel c l=some (.seq .skip r):=by
 intro c
 induction c with
 |seq a b G8 EP=>
  intro l x r h
  cases a with
  |label m=>
   simp_all[tI,findLabel]
  |_=>
   simp only[tI]at h
   split at h
   case isFalse=>simp at h
   rename_i hp
   cases hb:tI b with
   |none=>rw[hb]at h; simp at h
   |some q=>
    obtain⟨l',x',r'⟩:=q
    rw[hb]at h
    simp only[Option.map_some,Option.some.injEq,Prod.mk.injEq]at h
    obtain⟨rfl,rfl,rfl⟩:=h
    exact(K0 (Dp (l:=l') hp)).trans (EP hb)
 |_=>intro l x r h; simp[tI]at h
theorem QV[ae]{C:Ctx}{k:Nat}(hC:∀ j,j≤k→fT C j){Q:Exit→Act→World→Prop}{rd:Option Nat}{B:ph}{l:Nat}{r:Code}:∀ (c:Code) {x:Code},tI c=some (l,x,r)→∀ (j:Nat),j≤k→∀ (s:St) (q:Out),cb C j x s=some q →
  ∀ (E:Env) (a:Act) (w:World),cT B E s a w→(∀ s1 E1 a1 w1,q=.norm s1→Ext E E1→Fr E w E1 w1→cT B E1 s1 a1 w1→r.wpIn (WF rd) 0 C.P Q a1 w1) →
  (∀ e a' w',(∀ s1,q≠.norm s1)→br B E w q e a' w'→Q e a' w')→c.wpIn (WF rd) 0 C.P Q a w:=by
 intro c
 induction c with
 |seq a b G8 EP=>
  intro x h j hj s q bL E ac w hs hn ho
  have step:∀ (hp:dA a=true) (x':Code),tI b=some (l,x',r)→x=.seq a x'→(Code.seq a b).wpIn (WF rd) 0 C.P Q ac w:=by
   intro hp x' hb hx
   subst hx
   cases j with
   |zero=>simp[cb]at bL
   |succ j=>
    simp only[cb]at bL
    refine wpIn_seq ?_
    split at bL
    ·rename_i s1 h1
     refine wpIn_mono (hC j (by omega) _ _ _ h1 rd B (.inr (vv hp)) E ac w hs) fun e a' w' hq=>?_
     obtain⟨E',g1,g2,g3⟩:=hq
     cases e with
     |normal=>exact EP hb j (by omega) s1 q bL E' a' w' g3 (fun s2 E2 a2 w2 e1 e2 e3 e4=>hn s2 E2 a2 w2 e1 (g1.trans e2) (g2.trans e3) e4) (fun e a2 w2 e1 e2=>ho e a2 w2 e1 (br.from g1 g2 e2))
     |_=>exact g3.elim
    ·rename_i dE
     refine wpIn_mono (hC j (by omega) _ _ _ bL rd B (.inr (vv hp)) E ac w hs) fun e a' w' hq=>?_
     cases e with
     |normal=>
      obtain⟨E',g1,g2,g3⟩:=hq
      cases q with
      |norm s1=>exact absurd bL (dE s1)
      |_=>exact g3.elim
     |_=>exact ho _ _ _ (fun s1 e=>dE s1 (e▸bL)) hq
  cases a with
  |label m=>
   simp only[tI,Option.some.injEq,Prod.mk.injEq]at h
   obtain⟨rfl,rfl,rfl⟩:=h
   cases j with
   |zero=>simp[cb]at bL
   |succ j=>
    simp only[cb,Option.some.injEq]at bL
    subst bL
    exact wpIn_seq (wpIn_label (hn s E ac w rfl (Ext.refl E) (Fr.refl E w) hs))
  |_=>
   simp only[tI]at h
   split at h
   case isFalse=>simp at h
   rename_i hp
   cases hb:tI b with
   |none=>rw[hb]at h; simp at h
   |some q'=>
    obtain⟨l',x',r'⟩:=q'
    rw[hb]at h
    simp only[Option.map_some,Option.some.injEq,Prod.mk.injEq]at h
    obtain⟨rfl,rfl,rfl⟩:=h
    exact step hp x' hb rfl
 |_=>intro x h; simp[tI]at h
def wL:Out→Out
 |.exit i s=>if i=1073741824 then .norm s else .exit i s
 |o=>o
theorem nv.mono{F:Fence}{n:Nat}{P:Program}{c r:Code}{Q Q':Exit→Act→World→Prop}{a:Act}{w:World}(h:nv F n P c r Q a w)(hq:∀ e a w,Q e a w→Q' e a w):nv F n P c r Q' a w:=
 fun b k cs dV hb hr=>let ⟨e,a',w',q,r⟩:=h b k cs dV hb hr; ⟨e,a',w',hq _ _ _ q,r⟩
theorem Tq.mono{l:Nat}{N N':Act→World→Prop}{Q Q':Exit→Act→World→Prop}(hn:∀ a w,N a w→N' a w)(hq:∀ e a w,Q e a w→Q' e a w){e:Exit}{a:Act}{w:World}(h:Tq l N Q e a w):Tq l N' Q' e a w:=by
 cases e with
 |goto m=>exact⟨h.1,hn _ _ h.2⟩
 |_=>exact hq _ _ _ h
theorem It[ae]{C:Ctx}{k:Nat}(hC:∀ j,j≤k→fT C j){rd:Option Nat}{l:Nat}{c r r':Code}(hf:findLabel c l=some (.seq .skip r))(hr:rM l r=some r'){B:ph}:∀ (j:Nat),j≤k→∀ (s:St) (o:Out),
  cb C j (.loop (.block 1073741825 (.seq r' (.exit 1073741824)))) s=some o→∀ (E:Env) (a:Act) (w:World),cT B E s a w →
  r.wpIn (WF rd) 0 C.P (Tq l (fun a1 w1=>nv (WF rd) 0 C.P c (.seq .skip r) (br B E w (wL o)) a1 w1) (br B E w (wL o))) a w:=by
 intro j
 induction j with
 |zero=>intro _ s o h; simp[cb]at h
 |succ j ih=>
  intro hj s o h E a w hs
  have ih':=ih (by omega)
  simp only[cb]at h
  cases hb:cb C j (.block 1073741825 (.seq r' (.exit 1073741824))) s with
  |none=>rw[hb]at h; simp at h
  |some q=>
   rw[hb]at h
   cases j with
   |zero=>simp[cb]at hb
   |succ j=>
    simp only[cb]at hb
    cases j with
    |zero=>simp[cb]at hb
    |succ j=>
     simp only[cb]at hb
     cases hq:cb C j r' s with
     |none=>rw[hq]at hb; simp at hb
     |some p=>
      rw[hq]at hb
      refine wpIn_mono (QU hC r hr j (by omega) s p hq rd B E a w hs) fun e a' w' ho=>?_
      obtain⟨E',g1,g2,g3⟩:=ho
      cases p with
      |norm s1=>
       cases j with
       |zero=>simp[cb]at hq
       |succ j=>
        simp only[cb]at hb
        simp at hb
        subst hb
        simp only[Option.some.injEq]at h
        subst h
        cases e with
        |normal=>exact⟨E',g1,g2,g3⟩
        |_=>exact g3.elim
      |exit i s1=>
       simp only at hb
       cases e with
       |goto m=>
        obtain⟨hi,hm,n5⟩:=g3
        subst hi
        simp only[if_true,Option.some.injEq]at hb
        subst hb
        simp only at h
        refine⟨hm,?_⟩
        have:∃ E2,Ext E E2∧Fr E w E2 w'∧cT B E2 (ib s.hp.length s1) a' w':=by
         unfold ib
         split
         ·rename_i aX
          have hle:s.hp.length≤s1.hp.length:=by rw[hs.inv.len,n5.inv.len]; exact g1.L
          obtain⟨a1,a2,a3⟩:=ud n5.inv hle aX
          exact⟨E'.lower s.hp.length,⟨g1.m,fun n hn aq l h=>g1.ρ n hn aq l h,by simp[Env.lower,hs.inv.len]⟩,g2.trans a2,sE a3 n5.fr,a1,n5.df.mono a2,n5.bs⟩
         ·exact⟨E',g1,g2,n5⟩
        obtain⟨E2,b1,b2,b3⟩:=this
        have hw:=ih' _ o h E2 a' w' b3
        refine AG hf (N:=fun a w2=>nv (WF rd) 0 C.P c (.seq .skip r) (br B E w (wL o)) a w2) (fun _ _ h=>h) (wpIn_seq (wpIn_skip (wpIn_mono hw fun e a2 w2 hj=>?_)))
        exact hj.mono (fun _ _ hi=>hi.mono fun _ _ _ hp=>br.from b1 b2 hp) fun _ _ _ hp=>br.from b1 b2 hp
       |exit m=>
        obtain⟨hi,bE,n5⟩:=g3
        subst hi
        rw[if_neg (by omega)]at hb
        simp only[Option.some.injEq]at hb
        subst hb
        simp only[Option.some.injEq]at h
        subst h
        have:wL (.exit i s1)=.exit i s1:=by simp only[wL]; rw[if_neg (by omega)]
        rw[this]
        exact⟨E',g1,g2,rfl,n5⟩
       |_=>exact g3.elim
      |ret s1=>
       simp only[Option.some.injEq]at hb
       subst hb
       simp only[Option.some.injEq]at h
       subst h
       cases e with
       |ret=>exact⟨E',g1,g2,g3⟩
       |_=>exact g3.elim
      |kv v s1=>
       simp only[Option.some.injEq]at hb
       subst hb
       simp only[Option.some.injEq]at h
       subst h
       cases e with
       |panic ch=>exact⟨E',g1,g2,g3⟩
       |_=>exact g3.elim
theorem FM:∀ {c:Code},noGoto c=true→cJ c=true:=by
 intro c
 induction c with
 |seq a b G8 EP=>simp_all[noGoto,cJ]
 |cond o a b G8 EP=>simp_all[noGoto,cJ]
 |block id b ih=>simp_all[noGoto,cJ]
 |loop b ih=>simp_all[noGoto,cJ]
 |scope b ih=>simp_all[noGoto,cJ]
 |rangeFunc _ _ _ _ _ _=>intro h; simp[noGoto]at h
 |_=>intro _; rfl
theorem KV[ae]{C:Ctx}{k:Nat}(hC:∀ j,j≤k→fT C j){rd:Option Nat}{B:ph}{E:Env}{s:St}{a:Act}{w:World}(hs:cT B E s a w){b c:Code}{o:Out}
  (hc:pQ b=some c) (h:cb C k c s=some o):(Code.scope b).wpIn (WF rd) 0 C.P (br B E w o) a w:=by
 cases KX:noGoto b with
 |true=>
  simp only[pQ,KX,Option.some.injEq]at hc
  subst hc
  refine Dn (xh (hC k (Nat.le_refl _) b s o h rd B (.inr (FM KX)) E a w hs) fun m a' w' hq=>?_)
  obtain⟨E',_,_,hq⟩:=hq
  cases o<;>exact hq.elim
 |false=>
 cases K2:tI b with
 |none=>simp only[pQ,KX,K2]at hc; simp at hc
 |some q=>
  obtain⟨l,x,r⟩:=q
  cases hr:rM l r with
  |none=>simp only[pQ,KX,K2,hr,Option.map_none]at hc; simp at hc
  |some r'=>
   simp only[pQ,KX,K2,hr,Option.map_some,Option.some.injEq]at hc
   subst hc
   have hf:=K1 K2
   cases k with
   |zero=>simp[cb]at h
   |succ k=>
    simp only[cb]at h
    refine Dn (AG hf (N:=fun a w'=>nv (WF rd) 0 C.P b (.seq .skip r) (br B E w o) a w') (fun _ _ h=>h) ?_)
    cases hx:cb C k x s with
    |none=>rw[hx]at h; simp at h
    |some q=>
     rw[hx]at h
     refine QV hC b K2 k (by omega) s q hx E a w hs (fun s1 E1 a1 w1 hq g1 g2 n5=>?_) (fun e a' w' hq hp=>?_)
     ·subst hq
      simp only at h
      cases k with
      |zero=>simp[cb]at h
      |succ k=>
       simp only[cb]at h
       cases hl:cb C k (.loop (.block 1073741825 (.seq r' (.exit 1073741824)))) s1 with
       |none=>rw[hl]at h; simp at h
       |some oL=>
        rw[hl]at h
        have ho:o=wL oL:=by
         cases oL with
         |exit i s2=>
          grind[wL]
         |_=>simpa[wL] using h.symm
        subst ho
        refine wpIn_mono (It hC hf hr k (by omega) s1 oL hl E1 a1 w1 n5) fun e a2 w2 hj=>?_
        exact hj.mono (fun _ _ hi=>hi.mono fun _ _ _ hp=>br.from g1 g2 hp) fun _ _ _ hp=>br.from g1 g2 hp
     ·have ho:o=q:=by
       simp_all
      subst ho
      cases e with
      |goto m=>obtain⟨_,_,_,h3⟩:=hp; cases o<;>exact h3.elim
      |_=>exact hp
end Go.PI
end
section
/- PI, part Zb: calls that only look, where the order is drawn. -/
namespace Go.PI
def KQ[ae](P:Program):Prop:=∀ (g:FuncId) (args:List AV) (hp:ag) (e:dK),(zu P hp.length g args).run hp=some e→∀ (E:Env) (w:World) (vs:List Value),Inv E hp w→an E true args vs →
 e.wr=[]∧Calls P g vs.toArray w (bW E w hp (.val e.val))
theorem NZ[ae]{C:Ctx}(bM:C.Ok){nm:Nat}{g:FuncId}{args:List AV}{hp:ag}{e:dK}(h:(zu C.P nm g args).run hp=some e):
  ∃ fn : Func, C.P.funcs[g]? = some fn ∧ fn.body.isSome = true ∧ (fn.name == "runtime.NumGoroutine") = false := by
 unfold zu at h
 split at h
 ·simp[RM.af]at h
 rename_i fn hf
 split at h
 ·simp[RM.af]at h
 rename_i c hc
 exact⟨fn,hf,by rw[hc]; rfl,bM.name g fn hf (by rw[hc]; rfl)⟩
def qh(hp:ag):Option (Nat×aP)→ag
 |none=>hp
 |some (m,o')=>match hp[m]? with
  |some (some _)=>hp.set m (some o')
  |_=>hp
theorem Dq{hp:ag}{ov:Option (Nat×aP)}(n:Nat):(qh hp ov)[n]?=(hp[n]?).map fun o=>o.map fun o=>match ov with
  |some (m,o')=>(match Nat.beq m n with
   |true=>o'
   |false=>o)
  |none=>o:=by
 cases ov with
 |none=>cases h:hp[n]? with
  |none=>simp[qh,h]
  |some o=>cases o<;>simp[qh,h]
 |some q=>
  obtain⟨m,o'⟩:=q
  simp only[qh]
  by_cases hm:m=n
  ·subst hm
   have hb:Nat.beq m m=true:=Nat.beq_refl m
   split
   ·rename_i o ho
    rw[List.getElem?_set_self (List.getElem?_eq_some_iff.1 ho).1,ho]
    simp
   ·rename_i ho
    cases h:hp[m]? with
    |none=>simp
    |some o=>cases o with
     |none=>simp
     |some o=>exact absurd h (ho o)
  ·have hb:Nat.beq m n=false:=Bool.eq_false_iff.mpr fun h=>hm (Nat.eq_of_beq_eq_true h)
   have:(match hp[m]? with
    |some (some _)=>hp.set m (some o')
    |_=>hp)[n]?=hp[n]?:=by
    split
    ·rw[List.getElem?_set_ne hm]
    ·rfl
   rw[this]
   cases h:hp[n]? with
   |none=>simp
   |some o=>cases o<;>simp[hb]
theorem mq{hp:ag}{ov:Option (Nat×aP)}:(qh hp ov).length=hp.length:=by
 unfold qh
 split
 ·rfl
 ·split<;>simp
def aV(hp:ag)(ov:Option (Nat×aP))(nw:List aP):ag:=qh hp ov++nw.map some
theorem oN{hp:ag}{ov:Option (Nat×aP)}{nw:List aP}:(aV hp ov nw).length=hp.length+nw.length:=by
 simp[aV,mq]
theorem n8{α:Type}{hp:ag}{ov:Option (Nat×aP)}{nw:List aP}(x:RM α):(x.il hp.length ov nw).run hp=x.run (aV hp ov nw) ∧
  (x.il hp.length ov nw).log hp=(x.log (aV hp ov nw)).filter (fun n=>Nat.blt n hp.length):=by
 induction x with
 |ret a=>exact⟨rfl,rfl⟩
 |fail=>exact⟨rfl,rfl⟩
 |get n k ih=>
  cases hb:Nat.ble hp.length n with
  |true=>
   have hle:=Nat.le_of_ble_eq_true hb
   have Kq:Nat.blt n hp.length=false:=Bool.eq_false_iff.mpr fun h=>by have:=Nat.le_of_ble_eq_true h; omega
   have e:(aV hp ov nw)[n]?=(nw[n-hp.length]?).map some:=by
    unfold aV
    rw[List.getElem?_append_right (by rw[mq]; exact hle),mq,List.getElem?_map]
   simp only[RM.il,RM.run,RM.log,hb,e,List.filter_cons,Kq,Bool.false_eq_true,if_false]
   cases h:nw[n-hp.length]? with
   |none=>exact⟨rfl,rfl⟩
   |some o=>exact ih o
  |false=>
   have bE:n<hp.length:=by
    rcases Nat.lt_or_ge n hp.length with h|h
    ·exact h
    ·rw[Nat.ble_eq_true_of_le h]at hb; cases hb
   have Kq:Nat.blt n hp.length=true:=Nat.ble_eq_true_of_le bE
   have e:(aV hp ov nw)[n]?=(qh hp ov)[n]?:=by
    unfold aV
    rw[List.getElem?_append_left (by rw[mq]; exact bE)]
   simp only[RM.il,RM.run,RM.log,hb,e,Dq,List.filter_cons,Kq,if_true]
   cases h:hp[n]? with
   |none=>simp
   |some o=>cases o with
    |none=>simp
    |some o=>exact⟨(ih _).1,congrArg (n::·) (ih _).2⟩
def BN[ae](hp:ag)(ov:Option (Nat×aP)):Prop:=∀ (E:Env) (w:World),Inv E (qh hp ov) w→Inv E hp w
theorem wM:∀ (xs l:List AV) (j q:Nat),(q<j∨j+xs.length≤q)→(setCells l j xs)[q]?=l[q]?
 |[],_,_,_,_=>rfl
 |x::xs,l,j,q,h=>by
  simp only[setCells]
  rw[wM xs _ _ q (by simp only[List.length_cons]at h; omega),List.getElem?_set_ne (by simp only[List.length_cons]at h; omega)]
theorem K3[ae]{E:Env}{l:List AV}{j s:Nat}{cs:List AV}(hs:cs.length=s)(ha:((l.drop j).take s).all isAny=true)(v:Value)(h:aj E true (.agg (setCells l j cs)) v):aj E true (.agg l) v:=by
 simp only[aj]at h ⊢
 obtain⟨c,rfl,hc⟩:=h
 refine⟨c,rfl,aI.of (an.eL ?_ ?_) hc.leaf⟩
 ·rw[←hc.Gw.length,pe]
 ·intro q x u hx hu
  by_cases hq:q<j∨j+cs.length≤q
  ·obtain⟨u',M4,hr⟩:=hc.Gw.get (i:=q) (x:=x) (by rw[wM _ _ _ _ hq]; exact hx)
   rw[hu]at M4
   cases M4
   exact hr
  ·have hm:x∈(l.drop j).take s:=by
    rw[List.mem_iff_getElem?]
    refine⟨q-j,?_⟩
    rw[List.getElem?_take_of_lt (by omega),List.getElem?_drop]
    have:j+(q-j)=q:=by omega
    rw[this]
    exact hx
   have:=List.all_eq_true.1 ha x hm
   unfold isAny at this
   split at this
   ·simp[aj]
   ·simp at this
theorem FN[ae]{P:Program}{hp H:ag}{ev:Operand→AV}{nm n:Nat}{o:Oper}{o0 o':aP}{e:dK}(h0:hp[n]?=some (some o0))(h0':H[n]?=some (some o0))(hh:su P ev o.op n o0=true)
  (he:(aO P nm ev o).run H=some e) (hw:e.wr=[(n,o')]):BN hp (some (n,o')):=by
 obtain⟨dst,op,type,pos,after,guard⟩:=o
 simp only[su]at hh
 split at hh
 case h_2=>simp at hh
 rename_i t a x
 split at hh
 case h_2=>simp at hh
 rename_i r n' aq i j g f es ht ha
 split at hh
 case h_2=>simp at hh
 rename_i l hl
 simp only[Bool.and_eq_true]at hh
 obtain⟨⟨h1,h2⟩,h3⟩:=hh
 obtain rfl:=Nat.eq_of_beq_eq_true h1
 simp only[aO,pK,ht,ha,RM.run_bind]at he
 cases hq:(RM.arr n' aq).run H with
 |none=>rw[hq]at he; simp at he
 |some q=>
  obtain⟨g',c',f',es'⟩:=q
  have eC:=RM.lB hq
  rw[hq]at he
  simp only[Option.bind_some]at he
  obtain⟨hX,G9⟩:=eC
  rw[h0']at hX
  simp only[Option.some.injEq,aP.arr.injEq]at hX
  obtain⟨rfl,rfl,rfl,rfl⟩:=hX
  rw[hl]at he
  simp only[jv]at he
  split at he
  case h_2=>simp[RM.af]at he
  rename_i e' zJ
  split at zJ
  case isFalse=>simp at zJ
  simp only[Option.some.injEq]at zJ
  subst zJ
  split at he
  case isFalse=>simp[RM.af]at he
  rename_i hc
  simp only[RM.run_pure,Option.some.injEq]at he
  subst he
  simp only[List.cons.injEq,Prod.mk.injEq,true_and,and_true,Bool.false_and]at hw
  subst hw
  intro E w hI
  have hn:=(List.getElem?_eq_some_iff.1 h0).1
  have hi:=(List.getElem?_eq_some_iff.1 hl).1
  simp only[qh,h0]at hI
  have:=sG (e':=.agg l) hI (List.getElem?_set_self hn) (List.getElem?_set_self hi) (fun v hv=>K3 hc.2.1 h3 v hv)
  rw[List.set_set,List.set_set,iy hl,iy h0]at this
  exact this
section
variable {C:Ctx}
theorem yw{hp:ag}{n:Nat}{o0 o':aP}{nw:List aP}(h:hp[n]?=some (some o0)):ak (aV hp none nw) [(n,o')]=aV hp (some (n,o')) nw:=by
 have bE:=(List.getElem?_eq_some_iff.1 h).1
 simp only[ak,aV,qh,h]
 rw[jd (by simp; omega),List.set_append_left _ _ bE]
theorem FO{hp:ag}{ov:Option (Nat×aP)}{nw:List aP}{n:Nat}{o':aP}(h:hp.length≤n):ak (aV hp ov nw) [(n,o')]=aV hp ov (JD nw (n-hp.length) o'):=by
 have hl:=oN (hp:=hp) (ov:=ov) (nw:=nw)
 simp only[ak,setObj,hl,JD]
 by_cases e:n=hp.length+nw.length
 ·simp_all[aV]
 ·rw[if_neg e,if_neg (by omega)]
  simp only[aV,List.map_set]
  rw[List.set_append_right _ _ (by rw[mq]; exact h),mq]
theorem qi{hp:ag}{ov:Option (Nat×aP)}:∀ (wr:List (Nat×aP)) {nw:List aP},(∀ q∈wr,hp.length≤q.1)→ak (aV hp ov nw) wr=aV hp ov (pP hp.length nw wr)
 |[],_,_=>rfl
 |(n,o)::r,nw,h=>by
  have h1:=FO (ov:=ov) (nw:=nw) (o':=o) (h (n,o) (by simp))
  simp only[ak]at h1
  simp only[ak,pP,h1]
  exact qi r fun q hq=>h q (by simp[hq])
theorem AH[ae](ha:∀ f d,C.acc f d=false)(hn:∀ f d,C.rL f d=[]){ops:Array Oper}{f:FuncId}{hp:ag}{r:List Oper}{dst:Option Tmp}{op:Op}{type:TypeId}{pos:String}
  {after:Array Edge} {guard:Option (Nat×Bool)} {q q':xd} (h1:∀ c,op≠.call c) (h2:op≠.assign (.const (.slice none 0 0)))
  (h:(do
      let e ←(aO C.P (hp.length+q.nw.length) (aB q.fr) ⟨dst,op,type,pos,after,guard⟩).il hp.length q.ov q.nw
      match e.wr.all fun q=>Nat.ble hp.length q.1 with
      |true=>jy C.P hp.length ops r { q with fr:=bJ q.fr dst e.val,nw:=pP hp.length q.nw e.wr }
      |false=>(match q.ov,e.wr with
       |none,[(n,o')]=>.get n fun o0=>(match su C.P (aB q.fr) op n o0 with
         |true=>jy C.P hp.length ops r { q with fr:=bJ q.fr dst e.val,ov:=some (n,o') }
         |false=>.fail)
       |_,_=>.fail):RM xd).run hp=some q') (k:Nat) :
  ∃ q1:xd,fY C (k+1) ⟨dst,op,type,pos,after,guard⟩ ⟨f,q.fr,aV hp q.ov q.nw⟩=some (.norm ⟨f,q1.fr,aV hp q1.ov q1.nw⟩)∧(BN hp q.ov→BN hp q1.ov)∧(jy C.P hp.length ops r q1).run hp=some q':=by
 obtain⟨fr,ov,nw⟩:=q
 simp only[RM.run_bind,(n8 _).1]at h
 cases he:(aO C.P (hp.length+nw.length) (aB fr) ⟨dst,op,type,pos,after,guard⟩).run (aV hp ov nw) with
 |none=>rw[he]at h; simp at h
 |some e=>
  rw[he]at h
  simp only[Option.bind_some]at h
  have E7:C.rL f=fun _=>[]:=funext fun d=>hn f d
  have bL:fY C (k+1) ⟨dst,op,type,pos,after,guard⟩ ⟨f,fr,aV hp ov nw⟩=some (.norm ⟨f,bJ fr dst e.val,ak (aV hp ov nw) e.wr⟩):=by
   rw[fY]
   split
   ·rename_i c hc; exact absurd hc (h1 c)
   ·rename_i hc; exact absurd hc h2
   ·simp only[oN,he,E7]
    cases dst<;>rfl
  split at h
  ·rename_i hb
   refine⟨⟨bJ fr dst e.val,ov,pP hp.length nw e.wr⟩,bL.trans ?_,id,h⟩
   rw[qi e.wr fun q hq=>Nat.le_of_ble_eq_true (List.all_eq_true.1 hb q hq)]
  ·cases ov with
   |some _=>simp[RM.af]at h
   |none=>
    split at h
    case h_2=>simp[RM.af]at h
    rename_i n o' _ EN
    simp only[RM.run]at h
    split at h
    case h_2=>simp at h
    rename_i o0 ho
    split at h
    case h_2=>simp[RM.af]at h
    rename_i hh
    have dr:(aV hp none nw)[n]?=some (some o0):=by
     grind[aV,qh]
    refine⟨⟨bJ fr dst e.val,some (n,o'),nw⟩,bL.trans ?_,fun _=>FN (o:=⟨dst,op,type,pos,after,guard⟩) ho dr hh he EN,h⟩
    rw[EN,yw (o':=o') ho]
theorem n9[ae](ha:∀ f d,C.acc f d=false)(hn:∀ f d,C.rL f d=[]){ops:Array Oper}{f:FuncId}{hp:ag}:∀ (l:List Oper) (q q':xd),(jy C.P hp.length ops l q).run hp=some q' →
  (BN hp q.ov→BN hp q'.ov)∧∀ k,cR (fun o s=>fY C (k+1) o s) ops l ⟨f,q.fr,aV hp q.ov q.nw⟩=some (.norm ⟨f,q'.fr,aV hp q'.ov q'.nw⟩)
 |[],q,q',h=>by
  simp only[jy,RM.run_pure,Option.some.injEq]at h
  subst h
  exact⟨id,fun k=>rfl⟩
 |o::r,q,q',h=>by
  obtain⟨dst,op,type,pos,after,guard⟩:=o
  simp only[jy]at h
  simp only[cR]
  cases hw:cS ops q.fr ⟨dst,op,type,pos,after,guard⟩ with
  |none=>rw[hw]at h; simp[RM.af]at h
  |some b=>
   rw[hw]at h
   cases b with
   |false=>exact n9 ha hn r { q with fr:=bJ q.fr dst .undef } _ h
   |true=>
    simp only at h ⊢
    split at h
    ·simp[RM.af]at h
    ·cases dst with
     |none=>
      obtain⟨i1,i2⟩:=n9 ha hn (f:=f) r q _ h
      refine⟨i1,fun k=>?_⟩
      have bL:fY C (k+1) ⟨none,.assign (.const (.slice none 0 0)),type,pos,after,guard⟩ ⟨f,q.fr,aV hp q.ov q.nw⟩=some (.norm ⟨f,q.fr,aV hp q.ov q.nw⟩):=by
       rw[fY]; rfl
      rw[bL]
      exact i2 k
     |some d=>
      obtain⟨i1,i2⟩:=n9 ha hn (f:=f) r { q with fr:=q.fr.set d (.lit cX) } _ h
      refine⟨i1,fun k=>?_⟩
      have bL:fY C (k+1) ⟨some d,.assign (.const (.slice none 0 0)),type,pos,after,guard⟩ ⟨f,q.fr,aV hp q.ov q.nw⟩=some (.norm ⟨f,q.fr.set d (.lit cX),aV hp q.ov q.nw⟩):=by
       rw[fY]
       simp only[ha,Bool.false_eq_true,if_false]
      rw[bL]
      exact i2 k
    ·rename_i h1 h2
     obtain⟨q1,g1,g2,g3⟩:=AH ha hn (f:=f) h1 h2 h 0
     obtain⟨i1,i2⟩:=n9 ha hn (f:=f) r _ _ g3
     refine⟨fun hw=>i1 (g2 hw),fun k=>?_⟩
     obtain⟨q1',N8,_,g3'⟩:=AH ha hn (f:=f) h1 h2 h k
     rw[N8]
     exact(n9 ha hn (f:=f) r _ _ g3').2 k
theorem K4[ae](ha:∀ f d,C.acc f d=false)(hn:∀ f d,C.rL f d=[])(hh:∀ f d,C.iV f d=[]){f:FuncId}{hp:ag}:∀ (c:Code) (q:xd) (q':xd×Bool),(hG C.P hp.length c q).run hp=some q' →
  (BN hp q.ov→BN hp q'.1.ov)∧∃ k,cb C k c ⟨f,q.fr,aV hp q.ov q.nw⟩=some (match q'.2 with|true=>.ret ⟨f,q'.1.fr,aV hp q'.1.ov q'.1.nw⟩|false=>.norm ⟨f,q'.1.fr,aV hp q'.1.ov q'.1.nw⟩):=by
 intro c
 induction c with
 |skip=>intro q q' h; simp only[hG,RM.run_pure,Option.some.injEq]at h; subst h; exact⟨id,1,by simp[cb]⟩
 |ret=>intro q q' h; simp only[hG,RM.run_pure,Option.some.injEq]at h; subst h; exact⟨id,1,by simp[cb]⟩
 |seq a b G8 EP=>
  intro q q' h
  simp only[hG,RM.run_bind]at h
  cases hq:(hG C.P hp.length a q).run hp with
  |none=>rw[hq]at h; simp at h
  |some q1=>
   rw[hq]at h
   simp only[Option.bind_some]at h
   obtain⟨w1,k1,h1⟩:=G8 q q1 hq
   obtain⟨q1,r1⟩:=q1
   cases r1 with
   |true=>
    simp only[RM.run_pure,Option.some.injEq]at h
    subst h
    exact⟨w1,k1+1,by simp only[cb,h1]⟩
   |false=>
    simp only at h h1 w1
    obtain⟨w2,k2,h2⟩:=EP q1 q' h
    refine⟨fun hw=>w2 (w1 hw),k1+k2+1,?_⟩
    have g1:=(dZ C a ⟨f,q.fr,aV hp q.ov q.nw⟩).le h1 k2
    have g2:=(dZ C b ⟨f,q1.fr,aV hp q1.ov q1.nw⟩).le h2 k1
    rw[Nat.add_comm]at g2
    simp only[cb,g1,g2]
 |cond o a b G8 EP=>
  intro q q' h
  simp only[hG]at h
  split at h
  ·rename_i he
   obtain⟨w,k,hk⟩:=G8 q q' h
   exact⟨w,k+1,by simp only[cb,he]; exact hk⟩
  ·rename_i he
   obtain⟨w,k,hk⟩:=EP q q' h
   exact⟨w,k+1,by simp only[cb,he]; exact hk⟩
  ·simp[RM.af]at h
 |region id ops draw=>
  intro q q' h
  cases draw with
  |true=>simp[hG,RM.af]at h
  |false=>
   simp only[hG,RM.run_bind]at h
   cases hq:(jy C.P hp.length ops ops.toList q).run hp with
   |none=>rw[hq]at h; simp at h
   |some q1=>
    rw[hq]at h
    simp only[Option.bind_some,RM.run_pure,Option.some.injEq]at h
    subst h
    obtain⟨w1,h1⟩:=n9 ha hn (f:=f) _ _ _ hq
    exact⟨w1,2,by simp only[cb,hh,ia]; exact h1 0⟩
 |_=>intro q q' h; simp[hG,RM.af]at h
def Ha(nm:Nat)(ov:Option (Nat×aP)):Prop:=∀ n o,ov=some (n,o)→o.below nm=true
theorem N7[ae]{g:FuncId}{args:List AV}{hp:ag}{e:dK}{P:Program}(hP:C.P=P)(ha:∀ f d,C.acc f d=false)(hn:∀ f d,C.rL f d=[])(hho:∀ f d,C.iV f d=[])(h:(zu P hp.length g args).run hp=some e):
  e.wr=[]∧below hp.length e.val=true∧∃ ov nw,BN hp ov∧Ha hp.length ov∧∃ k,mG C k g args hp=some (.val e.val,aV hp ov nw):=by
 subst hP
 unfold zu at h
 split at h
 ·simp[RM.af]at h
 rename_i fn hf
 split at h
 ·simp[RM.af]at h
 rename_i c hc
 split at h
 ·simp[RM.af]at h
 rename_i hD
 rw[RM.run_bind]at h
 cases hq:(hG C.P hp.length c ⟨args++List.replicate (fn.ntmps-args.length) .undef,none,[]⟩).run hp with
 |none=>rw[hq]at h; simp at h
 |some q=>
  rw[hq]at h
  simp only[Option.bind_some,RM.run_bind,(n8 _).1]at h
  cases hl:(aW C.P q.1.fr fn.results.toList).run (aV hp q.1.ov q.1.nw) with
  |none=>rw[hl]at h; simp at h
  |some l=>
   rw[hl]at h
   simp only[Option.bind_some]at h
   split at h
   case h_2=>simp[RM.af]at h
   rename_i hb
   simp only[RM.run_pure,Option.some.injEq]at h
   subst h
   simp only[Bool.and_eq_true]at hb
   obtain⟨hwk,k,hk⟩:=K4 ha hn hho (f:=g) c ⟨_,none,[]⟩ q hq
   refine⟨rfl,hb.1,q.1.ov,q.1.nw,hwk (fun _ _ h=>h),?_,k+1,?_⟩
   ·intro n o ho
    have:=hb.2
    rw[ho]at this
    exact this
   have e:aV hp none []=hp:=by simp[aV,qh]
   simp only[e]at hk
   simp only[mG,hf,hc,hD,hk]
   cases q.2<;>simp only[hl]
mutual
theorem vw{E:Env}{n:Nat}(hn:E.L=n){o:Bool}:∀ {x:AV} {v:Value},aj E o x v→below n x=true
 |.lit _,v,_=>rfl
 |.agg l,v,h=>by
  simp only[aj]at h
  obtain⟨c,_,hc⟩:=h
  simp only[below]
  exact ki hn hc.Gw
 |.jU l,v,h=>by
  simp only[aj]at h
  obtain⟨c,_,hc⟩:=h
  simp only[below]
  exact ki hn hc
 |.gH t x,v,h=>by
  simp only[aj]at h
  obtain⟨y,_,hy⟩:=h
  simp only[below]
  exact vw hn hy
 |.ju fn f c,v,h=>by
  simp only[aj]at h
  obtain⟨_,_,_,h1,h2⟩:=h
  simp only[below,Bool.and_eq_true]
  exact⟨ki hn h1,ki hn h2⟩
 |.sl _,v,_=>rfl
 |.pJ _ _,v,_=>rfl
 |.nz,v,_=>rfl
 |.bk _ _,v,_=>rfl
 |.ref m _ _ _,v,h=>by
  simp_all[aj,below]
 |.bu _ m _ _ _ _,v,h=>by
  simp_all[aj,below]
 |.jt m _ _ _ _ _,v,h=>by
  simp_all[aj,below]
 |.mp _ m,v,h=>by
  simp_all[aj,below]
 |.any,v,_=>rfl
theorem ki{E:Env}{n:Nat}(hn:E.L=n){o:Bool}:∀ {l:List AV} {c:List Value},an E o l c→c7 n l=true
 |[],_,_=>rfl
 |x::xs,v::vs,h=>by
  simp only[an]at h
  simp only[c7,Bool.and_eq_true]
  exact⟨vw hn h.1,ki hn h.2⟩
 |_::_,[],h=>by simp[an]at h
end
theorem AI{n:Nat}:∀ {l:List AV},(∀ (i:Nat) (x:AV),l[i]?=some x→below n x=true)→c7 n l=true
 |[],_=>rfl
 |x::xs,h=>by
  simp only[c7,Bool.and_eq_true]
  exact⟨h 0 x rfl,AI fun i y hy=>h (i+1) y hy⟩
theorem Iu[ae]{E:Env}{hp:ag}{w:World}(hI:Inv E hp w){n:Nat}{o:aP}(ho:hp[n]?=some (some o)):o.below hp.length=true:=by
 have hl:=hI.len.symm
 cases o with
 |arr g c f es=>
  simp only[aP.below,Bool.or_eq_true]
  refine .inr (AI fun i x hx=>?_)
  obtain⟨l,_,_,h3⟩:=hI.objs _ _ ho
  cases hb:l.lq with
  |none=>
   simp_all
  |some b=>
   rw[hb]at h3
   obtain⟨_,_,_,_,_,_,_,_,a7⟩:=h3
   obtain⟨v,hv,_⟩:=a7 _ _ hx
   exact vw hl hv
 |gI k vs=>
  simp only[aP.below]
  obtain⟨_,_,_,us,_,_,_,_,_,_,_,h8⟩:=hI.objs _ _ ho
  exact ki hl h8
theorem Iq[ae]{E:Env}{hp:ag}{w w':World}(hI:Inv E hp w){ov:Option (Nat×aP)}{nw:List aP}(hw:BN hp ov)(hb:Ha hp.length ov){r:AV}(hr:below hp.length r=true){en:Ending}
  (h:bW E w (aV hp ov nw) (.val r) en w'):bW E w hp (.val r) en w':=by
 obtain⟨E',hx,iM,hf,cL⟩:=h
 have PH:(aV hp ov nw).take hp.length=qh hp ov:=by
  unfold aV
  rw[←mq (ov:=ov),List.take_left]
 have aX:((aV hp ov nw).take hp.length).all (kW hp.length)=true:=by
  rw[PH,List.all_eq_true]
  intro o ho
  obtain⟨i,hi⟩:=List.mem_iff_getElem?.1 ho
  rw[Dq]at hi
  cases h:hp[i]? with
  |none=>rw[h]at hi; simp at hi
  |some o1=>
   rw[h]at hi
   cases o1 with
   |none=>
    simp only[Option.map_some,Option.map_none,Option.some.injEq]at hi
    subst hi
    rfl
   |some o1=>
    simp only[Option.map_some,Option.some.injEq]at hi
    subst hi
    simp only[kW]
    have h1:=Iu hI h
    cases ov with
    |none=>exact h1
    |some q=>
     obtain⟨m,o'⟩:=q
     simp only
     split
     ·exact hb _ _ rfl
     ·exact h1
 obtain⟨h1,h2,h3⟩:=ud iM (by rw[oN]; omega) aX
 rw[PH]at h1
 refine⟨E'.lower hp.length,⟨hx.m,fun n hn aq l h=>hx.ρ n hn aq l h,by simp[Env.lower,hI.len]⟩,hw _ _ h1,hf.trans h2,?_⟩
 cases en with
 |returned v=>exact aj.down h3 hr cL
 |panicked _=>exact cL.elim
 |outgrown=>exact cL.elim
end
end Go.PI
end
section
/- PI, part Z: the theorem: what the evaluator answers is what the machine does. -/
namespace Go.PI
theorem Il[ae]{C:Ctx}{k:Nat}:G3 (fun nm o fr=>iW C k nm o fr):=by
 intro nm o fr zK h
 cases k with
 |zero=>rfl
 |succ k=>
  have EF:=C5 (P:=C.P) (nm:=nm) h
  obtain⟨dst,op,type,pos,after,guard⟩:=o
  cases op with
  |call c=>
   obtain⟨callee,args,argTypes⟩:=c
   cases callee with
   |builtin b=>simp only[iW]; exact EF
   |invoke r m=>
    have h1:aB fr r=aB zK r:=h r (by simp[Op.operands,Call.operands])
    have h2:args.toList.map (aB fr)=args.toList.map (aB zK):=List.map_congr_left fun x hx=>h x (by simp[Op.operands,Call.operands]; exact .inr (by simpa using hx))
    simp only[iW,h1,h2]
   |value f=>
    have h1:aB fr f=aB zK f:=h f (by simp[Op.operands,Call.operands])
    have h2:args.toList.map (aB fr)=args.toList.map (aB zK):=List.map_congr_left fun x hx=>h x (by simp[Op.operands,Call.operands]; exact .inr (by simpa using hx))
    simp only[iW,h1,h2]
  |_=>simp only[iW]; exact EF
theorem De[ae]{C:Ctx}(bM:C.Ok)(Vh:∀ g,C.kind g=.imp→KQ C.P){k:Nat}(hF:ml C k)(hP:vo C k):sC C.P (fun nm o fr=>iW C (k+1) nm o fr):=by
 intro rd x B E s a w e K Q hs oC h hK
 have bL:=fun y=>iw hs.inv.jV hs.fr y
 have fF:au x.o.op=false→x.at s.hp.length=s.hp.length:=fun h=>by simp only[Item.at,h]
 have Tb:au x.o.op=true→s.hp[x.at s.hp.length]?=some none:=fun h=>by simp only[Item.at,h]; exact oC h
 clear oC
 have oC:=Tb
 clear Tb
 obtain⟨idx,nm,o⟩:=x
 generalize Item.at ⟨idx,nm,o⟩ s.hp.length=nm at h oC fF
 simp only at h oC fF hK ⊢
 have Vg:(aO C.P nm (aB s.fr) o).run s.hp=some e→o.wpIn (WF rd) 0 C.P a w K Q:=by
  intro h
  cases pV:au o.op with
  |true=>exact xu hs (tS hs.inv (.inr (oC pV)) bL h) hK
  |false=>
   rw[KJ (nm':=s.hp.length) pV]at h
   exact xu hs (tS hs.inv (.inl rfl) bL h) hK
 obtain⟨dst,op,type,pos,after,guard⟩:=o
 cases op with
 |call c=>
  obtain⟨callee,args,argTypes⟩:=c
  cases callee with
  |builtin b=>simp only[iW]at h; exact Vg h
  |invoke rv m=>
   simp only[iW]at h
   split at h
   ·simp[RM.af]at h
   rename_i g y cL
   have jC:=jB bL args.toList
   split at h
   case h_2=>simp[RM.af]at h
   rw[RM.run_bind]at h
   cases hq:(lO C k g (y::args.toList.map (aB s.fr))).run s.hp with
   |none=>rw[hq]at h; simp at h
   |some q=>
    obtain⟨res,wr⟩:=q
    rw[hq]at h
    simp only[Option.bind_some]at h
    cases res with
    |kv v=>simp[RM.af]at h
    |val r=>
     simp only[RM.run_pure,Option.some.injEq]at h
     subst h
     obtain⟨vs',mK,aY⟩:=BI (w:=w) (o:=⟨dst,.call ⟨.invoke rv m,args,argTypes⟩,type,pos,after,guard⟩) rfl (bL rv) jC cL (BK bM hq)
     have iv:=hP g _ s.hp _ wr hq E w vs' hs.inv mK
     refine yp rfl aY iv (fun v w' hp=>?_) (fun ch w' hp=>?_) (fun w' hp=>?_)
     ·obtain⟨E',hx,iM,hf,hr⟩:=hp
      exact hK E' w' v hx hf iM hr
     ·obtain⟨E',hx,iM,hf,hr⟩:=hp
      exact hr.elim
     ·obtain⟨E',hx,iM,hf,hr⟩:=hp
      exact hr.elim
  |value f=>
   simp only[iW]at h
   split at h
   ·simp[RM.af]at h
   rename_i g wG cL
   have jC:=jB bL args.toList
   split at h
   ·rename_i pV
    obtain⟨vs',mK,aY⟩:=fw (w:=w) (bL f) jC cL (AD bM h)
    refine qZ (c:=⟨.value f,args,argTypes⟩) rfl rfl aY (AE bM hF hs.inv (.inr (oC pV)) mK h) (fun v w' hp=>?_) (fun ch w' hp=>?_) (fun w' hp=>?_)
    ·obtain⟨v',jS,E',hx,iM,hf,hr⟩:=hp
     cases jS
     exact hK E' w' v hx hf iM hr
    ·obtain⟨v',jS,_⟩:=hp
     cases jS
    ·obtain⟨v',jS,_⟩:=hp
     cases jS
   split at h
   case h_2=>
    rename_i hk
    have fin : (∃ fn : Func, C.P.funcs[g]? = some fn ∧ fn.body.isSome = true ∧ (fn.name == "runtime.NumGoroutine") = false) ∧
      ∀ (vs:List Value),an E true wG vs→Calls C.P g vs.toArray w (bW E w (ak s.hp e.wr) (.val e.val)):=by
     split at h
     ·rename_i hh he
      obtain⟨⟨fn,h1,h2⟩,h3⟩:=bM.rW g hh wG s.hp e he h
      exact⟨⟨fn,h1,h2,bM.name g fn h1 h2⟩,fun vs hv=>h3 E w vs hs.inv hv⟩
     ·refine⟨NZ bM h,fun vs hv=>?_⟩
      rw[fF (by assumption)]at h
      obtain⟨e0,iv⟩:=Vh g hk g wG s.hp _ h E w vs hs.inv hv
      rw[e0]
      exact iv
    obtain⟨vs',mK,aY⟩:=fw (w:=w) (bL f) jC cL fin.1
    refine qZ (c:=⟨.value f,args,argTypes⟩) rfl rfl aY (fin.2 vs' mK) (fun v w' hp=>?_) (fun ch w' hp=>?_) (fun w' hp=>?_)
    ·obtain⟨E',hx,iM,hf,hr⟩:=hp
     exact hK E' w' v hx hf iM hr
    ·obtain⟨E',hx,iM,hf,hr⟩:=hp
     exact hr.elim
    ·obtain⟨E',hx,iM,hf,hr⟩:=hp
     exact hr.elim
   rw[RM.run_bind]at h
   cases hq:(lO C k g wG).run s.hp with
   |none=>rw[hq]at h; simp at h
   |some q=>
    obtain⟨res,wr⟩:=q
    rw[hq]at h
    simp only[Option.bind_some]at h
    cases res with
    |kv v=>simp[RM.af]at h
    |val r=>
     simp only[RM.run_pure,Option.some.injEq]at h
     subst h
     obtain⟨vs',mK,aY⟩:=fw (w:=w) (bL f) jC cL (BK bM hq)
     have iv:=hP g wG s.hp _ wr hq E w vs' hs.inv mK
     refine qZ (c:=⟨.value f,args,argTypes⟩) rfl rfl aY iv (fun v w' hp=>?_) (fun ch w' hp=>?_) (fun w' hp=>?_)
     ·obtain⟨E',hx,iM,hf,hr⟩:=hp
      exact hK E' w' v hx hf iM hr
     ·obtain⟨E',hx,iM,hf,hr⟩:=hp
      exact hr.elim
     ·obtain⟨E',hx,iM,hf,hr⟩:=hp
      exact hr.elim
 |_=>simp only[iW]at h; exact Vg h
theorem n6{I:Machine→Prop}{P:Program}{m m1 m2:Machine}(h:StepsIn I P m m2)(dE:m≠m2)(hs:step P m=.next m1):StepsIn I P m1 m2:=by
 cases h with
 |refl=>exact absurd rfl dE
 |head _ fG hr=>
  rw[hs]at fG
  cases fG
  exact hr
theorem nu{id:Nat}:∀ {k k':List Go.Item},exitTo id k=some k'→k'.length<k.length
 |[],k',h=>by simp[exitTo]at h
 |x::r,k',h=>by
  cases x with
  |inBlock JE=>
   simp only[exitTo]at h
   split at h
   ·simp_all
   ·have:=nu h; simp; omega
  |_=>simp only[exitTo]at h; have:=nu h; simp; omega
theorem G7{b b':Frame}{a a':Act}{k k':List Go.Item}{cs:List Frame}{w w':World}(h:k.length≠k'.length):lone (b.atR a k) cs w≠lone (b'.atR a' k') cs w':=by
 intro e
 have h1:=congrArg (fun m:Machine=>(m.gs[0]?).map fun g=>g.frame.todo.length) e
 have h2:some k.length=some k'.length:=h1
 simp only[Option.some.injEq]at h2
 exact h h2
def sI:Go.Item→Bool
 |.code (.loop _)=>true
 |_=>false
theorem Df{b b':Frame}{a a':Act}{k k':List Go.Item}{cs:List Frame}{w w':World}{c:Code}{x:Go.Item}(hx:sI x=false):lone (b.atR a (.code (.loop c)::k)) cs w≠lone (b'.atR a' (x::k')) cs w':=by
 intro e
 have h1:=congrArg (fun m:Machine=>(m.gs[0]?).map fun g=>(g.frame.todo.head?).map sI) e
 have h2:some (some true)=some (some (sI x)):=h1
 rw[hx]at h2
 simp at h2
theorem zP{F:Fence}{n:Nat}{P:Program}{c:Code}{Q:Exit→Act→World→Prop}{a:Act}{w:World}(hg:∀ l a w,¬Q (.goto l) a w)(ho:∀ a w,¬Q .outgrown a w)
  (h:c.wpIn F n P (Exit.then (fun a w=>(Code.loop c).wpIn F n P Q a w) Q) a w):(Code.loop c).wpIn F n P Q a w:=by
 intro b k cs dV hb hr
 have h0:(lone (b.atR a (.code (.loop c)::k)) cs w).fenced P F:=fenced_calm hb hr rfl
 obtain⟨e,a₁,w₁,hq,cW⟩:=h b (.inLoop c::k) cs dV hb hr
 cases e with
 |normal=>
  obtain⟨e₂,a₂,w₂,xP,ky⟩:=hq b k cs dV hb hr
  have h1:(lone (b.atR a₁ (.inLoop c::k)) cs w₁).fenced P F:=fenced_calm hb hr rfl
  refine⟨e₂,a₂,w₂,xP,ArrivesIn.of_steps (StepsIn.head h0 stepR_loop (StepsIn.trans cW (.one h1 stepR_inLoop))) ?_⟩
  have hs:step P (lone (b.atR a₁ (.code (.loop c)::k)) cs w₁)=.next (lone (b.atR a₁ (.code c::.inLoop c::k)) cs w₁):=stepR_loop
  cases e₂ with
  |normal=>exact n6 ky (G7 (k:=.code (.loop c)::k) (k':=k) (by simp)) hs
  |exit id=>
   exact⟨fun k' hk=>n6 (ky.1 k' hk) (G7 (k:=.code (.loop c)::k) (k':=k') (by have:=nu hk; simp; omega)) hs,
    fun ma hk=>by
     obtain⟨k₁,e1,e2⟩:=ky.2 ma hk
     exact⟨k₁,e1,n6 e2 (Df rfl) hs⟩⟩
  |goto l=>exact absurd xP (hg _ _ _)
  |ret=>
   refine⟨fun hn=>?_,fun hn=>?_⟩
   ·obtain⟨todo,h1⟩:=ky.1 hn
    refine⟨todo,n6 h1 ?_ hs⟩
    intro e
    have h1:=congrArg (fun m:Machine=>(m.gs[0]?).map fun g=>(match g.frame.mode with|.run=>true|_=>false)) e
    have h2:some true=some false:=h1
    simp at h2
   ·obtain⟨k₁,h1⟩:=ky.2 hn
    exact⟨k₁,n6 h1 (Df rfl) hs⟩
  |panic ch=>
   obtain⟨todo,h1⟩:=ky
   refine⟨todo,n6 h1 ?_ hs⟩
   intro e
   have h1:=congrArg (fun m:Machine=>(m.gs[0]?).map fun g=>(match g.frame.mode with|.run=>true|_=>false)) e
   have h2:some true=some false:=h1
   simp at h2
  |outgrown=>exact absurd xP (ho _ _)
 |exit id=>exact⟨_,a₁,w₁,hq,.of_steps (.one h0 stepR_loop) (.pass (x:=.inLoop c) rfl (fun _ _=>.inl (by simp)) cW)⟩
 |goto l=>exact⟨_,a₁,w₁,hq,.of_steps (.one h0 stepR_loop) (.pass (x:=.inLoop c) rfl (fun _ _=>.inl (by simp)) cW)⟩
 |ret=>exact⟨_,a₁,w₁,hq,.of_steps (.one h0 stepR_loop) (.pass (x:=.inLoop c) rfl (fun _ _=>.inl (by simp)) cW)⟩
 |panic ch=>exact⟨_,a₁,w₁,hq,.of_steps (.one h0 stepR_loop) (.pass (x:=.inLoop c) rfl (fun _ _=>.inl (by simp)) cW)⟩
 |outgrown=>exact⟨_,a₁,w₁,hq,.of_steps (.one h0 stepR_loop) (.pass (x:=.inLoop c) rfl (fun _ _=>.inl (by simp)) cW)⟩
theorem N0[ae]{B:ph}{E:Env}{w:World}{o:Out}:∀ l a w',¬br B E w o (.goto l) a w':=by
 rintro l a w' ⟨E',_,_,h⟩
 cases o<;>exact h
theorem QP[ae]{B:ph}{E:Env}{w:World}{o:Out}:∀ a w',¬br B E w o .outgrown a w':=by
 rintro a w' ⟨E',_,_,h⟩
 cases o<;>exact h
theorem KR[ae]{C:Ctx}(bM:C.Ok){k:Nat}(hF:ml C k){B:ph}(Tc:B.rg=true)(PE:B.lb=none){E:Env}{s:St}{a:Act}{w:World}(hs:cT B E s a w){f:Operand}{ps:Array Tmp}{as bd:Code}{o:Out}
  (h:cb C (k+1) (.rangeFunc f ps as bd) s=some o):(Code.rangeFunc f ps as bd).wpIn (WF none) 0 C.P (br B E w o) a w:=by
 simp only[cb]at h
 split at h
 case h_2=>simp at h
 rename_i g args cL
 split at h
 case h_2=>simp at h
 rename_i x xe bL
 refine wpIn_rangeFunc fun fn _=>?_
 have M7:Inv E s.hp (w.alloc (.deferred (some []))):=Ax hs.inv (fun b hb=>by simp only[World.alloc,Array.getElem?_push,if_neg (by omega:¬b=w.heap.size)]) (by simp)
 have hF1:Fr E w E (w.alloc (.deferred (some []))):=⟨rfl,rfl,rfl,by simp,fun b hb _=>by simp only[World.alloc,Array.getElem?_push,if_neg (by omega:¬b=w.heap.size)],fun _ h=>.inl h,fun _ _ h=>.inl h,fun b r hr=>⟨r,by have:=(Array.getElem?_eq_some_iff.1 hr).1; simp only[World.alloc,Array.getElem?_push,if_neg (by omega:¬b=w.heap.size)]; exact hr⟩⟩
 obtain⟨ld,qU,PF⟩:=Bt M7 (n:=s.hp.length) (.inl rfl) (k:=.loop s.fn ps as bd .ready) (ob:=.loop { state:=.ready,pending:=none,fn,tmps:=a.tmps,params:=ps,assign:=as,body:=bd,defers:=w.heap.size }) (us:=a.tmps.toList)
  ⟨rfl,rfl,rfl,⟨rfl,rfl⟩,rfl⟩ (vt (u:=dt as++dt bd) 0 _ _ hs.fr)
 have eR:setObj s.hp s.hp.length (.gI (.loop s.fn ps as bd .ready) (nL (dt as++dt bd) 0 s.fr))=s.hp++[some (.gI (.loop s.fn ps as bd .ready) (uV as bd s.fr))]:=by simp[setObj,uV]
 rw[eR]at qU
 have lA:(w.alloc (.deferred (some []))).heap.size=w.heap.size+1:=by simp
 rw[lA]at ld qU PF
 generalize Su:E.push s.hp.length 0 ⟨some (w.heap.size+1),1,0⟩=E2 at ld qU PF
 have dD:E2.ρ s.hp.length 0=some ⟨some (w.heap.size+1),1,0⟩:=by rw[←Su]; simp[Env.push]
 have hL:s.hp.length<E2.L:=by rw[←Su]; simp only[Env.push]; omega
 have Td:∀ b,E2.own b→E.own b∨b=w.heap.size+1:=by
  intro b hb
  rw[←Su]at hb
  rcases hb with hb|hb
  ·exact .inl hb
  ·simp_all
 generalize hW:(w.alloc (.deferred (some []))).alloc (.loop { state:=.ready,pending:=none,fn,tmps:=a.tmps,params:=ps,assign:=as,body:=bd,defers:=w.heap.size })=w2 at qU PF
 have Db:=(iw hs.inv.jV hs.fr f).mono ld
 have hy:an E2 true [.mp true s.hp.length] [Value.func (.yield (w.heap.size+1)) #[] #[]]:=by
  simp_all[an,aj]
 obtain⟨N1,rP,jg⟩:=vp bL
 obtain⟨vs',mK,aY⟩:=fw (w:=w2) Db hy cL ⟨N1,rP,jg,bM.name g N1 rP jg⟩
 rw[Sem.run_bind]at aY
 cases N2:(Deferred.ofValue (a.eval f) #[Value.func (.yield (w.heap.size+1)) #[] #[]]).run C.P w2 with
 |halt x' w'=>
  have FF:(Deferred.ofValue (a.eval f) [Value.func (.yield (w.heap.size+1)) #[] #[]].toArray).run C.P w2=.halt x' w':=N2
  rw[FF]at aY
  simp[Result.andThen]at aY
 |ok d Te=>
  have FF:(Deferred.ofValue (a.eval f) [Value.func (.yield (w.heap.size+1)) #[] #[]].toArray).run C.P w2=.ok d Te:=N2
  rw[FF]at aY
  simp only[Result.andThen]at aY
  refine⟨w.heap.size+1,[{ target:=.collected w.heap.size,args:=#[] }],w2,d,Te,g,vs'.toArray,w2,?_,?_,fun _ _=>trivial,aY,fun h=>by simp[WF,Fence.wide]at h,?_⟩
  ·rw[←hW]
   exact run_enterLoop_outer fn a.tmps ps as bd
  ·simpa[resolve,rangeCall,Act.eval] using N2
  refine(xv (hF g args _ _ _ bL E2 w2 vs' qU mK) none _).mono fun e w3 du=>?_
  cases e with
  |panicked ch=>obtain⟨_,_,_,_,hr⟩:=du; exact hr.elim
  |outgrown=>obtain⟨_,_,_,_,hr⟩:=du; exact hr.elim
  |returned v=>
   obtain⟨E3,Nb,Tf,Tg,_⟩:=du
   have Dg:=Nb.ρ _ hL 0 _ dD
   have after:∀ (st:lN) (j:Option Code),iJ xe s.hp.length=some st→(∀ s' p',st.is s' p'→s'≠.busy∧p'=j) →
     ∃ w4,(Instr.endLoop (w.heap.size+1)).run C.P w3=.ok j w4∧∃ E4,Ext E E4∧Fr E w E4 w4 ∧
       cT B E4 { s with hp:=rX xe s.hp.length } { a with defers:=[{ target:=.collected w.heap.size,args:=#[] }]++a.defers } w4:=by
    intro st j ig hj
    obtain⟨fn3,ps3,as3,bd3,fr3,FD⟩:=jh ig
    obtain⟨r3,u1,_,_,_,u5,_⟩:=oM Tf FD Dg rfl
    obtain⟨j1,j2⟩:=hj _ _ u5
    subst j2
    obtain⟨c1,c2⟩:=Da Tf FD Dg rfl u1 (s':=.exhausted) (p':=r3.pending)
    have QQ:Fr E w E3 (w3.putObj (w.heap.size+1) (.loop { r3 with state:=.exhausted })):=((hF1.trans PF).trans Tg).trans c2
    refine⟨_,run_endLoop u1 j1,E3,ld.trans Nb,QQ,⟨hs.fr.mono (ld.trans Nb),c1,?_,Nat.le_trans hs.bs QQ.size⟩⟩
    obtain⟨rs,QR,Wq,_,Wr⟩:=hs.df.mono QQ
    have N3:¬E2.own w.heap.size:=fun ho=>by
     rcases Td _ ho with h|h
     ·have:=hs.inv.pw _ h; omega
     ·omega
    have yr:w.heap.size<w2.heap.size:=by rw[←hW]; simp; omega
    have hold:∀ r∈rs,r<w.heap.size:=by
     intro r hr
     obtain⟨rs0,e1,_,_,e3⟩:=hs.df
     rw[e1]at QR
     have hm:∀ (l l':List Nat),l.map (fun r=>({ target:=.collected r,args:=#[] }:Deferred))=l'.map (fun r=>{ target:=.collected r,args:=#[] })→l=l':=by
      intro l
      induction l with
      |nil=>simp_all
      |cons y ys ih=>
       intro l' h
       cases l' with
       |nil=>simp at h
       |cons z zs=>
        grind
     have:=hm _ _ (List.append_cancel_right QR)
     subst this
     exact(Array.getElem?_eq_some_iff.1 (e3 r hr).2.2).1
    refine⟨w.heap.size::rs,by simp only[List.map_cons,List.cons_append,←QR]; rfl,List.nodup_cons.2 ⟨fun hm=>?_,Wq⟩,⟨fun h=>(by rw[Tc]at h; cases h),fun _ h=>(by rw[PE]at h; cases h)⟩,fun r hr=>?_⟩
    ·have:=hold _ hm; omega
    ·rcases List.mem_cons.1 hr with rfl|hr
     ·refine⟨hs.bs,fun ho=>?_,?_⟩
      ·rcases Tg.own _ ho with h|h
       ·exact N3 h
       ·omega
      ·rw[World.putObj_heap_other (by omega),Tg.same _ yr N3,←hW]
       show ((w.heap.push _).push _)[w.heap.size]?=_
       simp only[Array.getElem?_push,Array.size_push,if_true]
       rw[if_neg (by omega)]
     ·exact Wr r hr
   unfold we at h
   split at h
   ·rename_i ig
    simp only[Option.some.injEq]at h
    subst h
    obtain⟨w4,h1,E4,h2,h3,h4⟩:=after _ none ig (fun s' p' hp=>⟨by rw[hp.1]; simp,hp.2⟩)
    exact⟨none,w4,h1,E4,h2,h3,h4⟩
   ·rename_i ig
    simp only[Option.some.injEq]at h
    subst h
    obtain⟨w4,h1,E4,h2,h3,h4⟩:=after _ (some .ret) ig (fun s' p' hp=>⟨by rw[hp.1]; simp,hp.2⟩)
    exact⟨some .ret,w4,h1,wpIn_ret ⟨E4,h2,h3,h4⟩⟩
   ·rename_i id ig
    simp only[Option.some.injEq]at h
    subst h
    obtain⟨w4,h1,E4,h2,h3,h4⟩:=after _ (some (.exit id)) ig (fun s' p' hp=>⟨by rw[hp.1]; simp,hp.2⟩)
    exact⟨some (.exit id),w4,h1,wpIn_exit ⟨E4,h2,h3,rfl,h4⟩⟩
   ·simp at h
theorem BM{P:Program}{w:World}{l:Nat}{r:Loop}(h:w.heap[l]?=some (.loop r))(fn:FuncId)(tmps:Array Value)(ps:Array Tmp)(as bd:Code):(Instr.enterLoop fn tmps ps as bd (some l)).run P w =
  .ok (w.heap.size,[]) (w.alloc (.loop { state:=.ready,pending:=none,fn,tmps,params:=ps,assign:=as,body:=bd,defers:=r.defers })):=by
 unfold Instr.enterLoop
 simp only[Sem.run_bind,run_getLoop h,run_newObj_alloc,Result.andThen,Sem.run_pure]
theorem KS[ae]{C:Ctx}(bM:C.Ok){k:Nat}(hF:ml C k){B:ph}{bl:Nat}(PE:B.lb=some bl){E:Env}{s:St}{a:Act}{w:World}(hs:cT B E s a w){f:Operand}{ps:Array Tmp}{as bd:Code}{o:Out}
  (h:cb C (k+1) (.rangeFunc f ps as bd) s=some o):(Code.rangeFunc f ps as bd).wpIn (WF (some bl)) 0 C.P (br B E w o) a w:=by
 simp only[cb]at h
 split at h
 case h_2=>simp at h
 rename_i g args cL
 split at h
 case h_2=>simp at h
 rename_i x xe bL
 obtain⟨r0,EL⟩:∃ r0:Loop,w.heap[bl]?=some (.loop r0):=by
  obtain⟨_,_,_,⟨_,h2⟩,_⟩:=hs.df
  exact h2 bl PE
 refine wpIn_rangeFunc fun fn _=>?_
 obtain⟨ld,qU,PF⟩:=Bt hs.inv (n:=s.hp.length) (.inl rfl) (k:=.loop s.fn ps as bd .ready) (ob:=.loop { state:=.ready,pending:=none,fn,tmps:=a.tmps,params:=ps,assign:=as,body:=bd,defers:=r0.defers }) (us:=a.tmps.toList)
  ⟨rfl,rfl,rfl,⟨rfl,rfl⟩,rfl⟩ (vt (u:=dt as++dt bd) 0 _ _ hs.fr)
 have eR:setObj s.hp s.hp.length (.gI (.loop s.fn ps as bd .ready) (nL (dt as++dt bd) 0 s.fr))=s.hp++[some (.gI (.loop s.fn ps as bd .ready) (uV as bd s.fr))]:=by simp[setObj,uV]
 rw[eR]at qU
 generalize Su:E.push s.hp.length 0 ⟨some w.heap.size,1,0⟩=E2 at ld qU PF
 have dD:E2.ρ s.hp.length 0=some ⟨some w.heap.size,1,0⟩:=by rw[←Su]; simp[Env.push]
 have hL:s.hp.length<E2.L:=by rw[←Su]; simp only[Env.push]; omega
 generalize hW:w.alloc (.loop { state:=.ready,pending:=none,fn,tmps:=a.tmps,params:=ps,assign:=as,body:=bd,defers:=r0.defers })=w2 at qU PF
 have Db:=(iw hs.inv.jV hs.fr f).mono ld
 have hy:an E2 true [.mp true s.hp.length] [Value.func (.yield w.heap.size) #[] #[]]:=by
  simp_all[an,aj]
 obtain⟨N1,rP,jg⟩:=vp bL
 obtain⟨vs',mK,aY⟩:=fw (w:=w2) Db hy cL ⟨N1,rP,jg,bM.name g N1 rP jg⟩
 rw[Sem.run_bind]at aY
 cases N2:(Deferred.ofValue (a.eval f) #[Value.func (.yield w.heap.size) #[] #[]]).run C.P w2 with
 |halt x' w'=>
  have FF:(Deferred.ofValue (a.eval f) [Value.func (.yield w.heap.size) #[] #[]].toArray).run C.P w2=.halt x' w':=N2
  rw[FF]at aY
  simp[Result.andThen]at aY
 |ok d Te=>
  have FF:(Deferred.ofValue (a.eval f) [Value.func (.yield w.heap.size) #[] #[]].toArray).run C.P w2=.ok d Te:=N2
  rw[FF]at aY
  simp only[Result.andThen]at aY
  refine⟨w.heap.size,[],w2,d,Te,g,vs'.toArray,w2,?_,?_,fun _ _=>trivial,aY,fun h=>by simp[WF,Fence.wide]at h,?_⟩
  ·rw[←hW]
   exact BM EL fn a.tmps ps as bd
  ·simpa[resolve,rangeCall,Act.eval] using N2
  refine(xv (hF g args _ _ _ bL E2 w2 vs' qU mK) (some bl) _).mono fun e w3 du=>?_
  cases e with
  |panicked ch=>obtain⟨_,_,_,_,hr⟩:=du; exact hr.elim
  |outgrown=>obtain⟨_,_,_,_,hr⟩:=du; exact hr.elim
  |returned v=>
   obtain⟨E3,Nb,Tf,Tg,_⟩:=du
   have Dg:=Nb.ρ _ hL 0 _ dD
   have after:∀ (st:lN) (j:Option Code),iJ xe s.hp.length=some st→(∀ s' p',st.is s' p'→s'≠.busy∧p'=j) →
     ∃ w4,(Instr.endLoop w.heap.size).run C.P w3=.ok j w4∧∃ E4,Ext E E4∧Fr E w E4 w4 ∧
       cT B E4 { s with hp:=rX xe s.hp.length } { a with defers:=[]++a.defers } w4:=by
    intro st j ig hj
    obtain⟨fn3,ps3,as3,bd3,fr3,FD⟩:=jh ig
    obtain⟨r3,u1,_,_,_,u5,_⟩:=oM Tf FD Dg rfl
    obtain⟨j1,j2⟩:=hj _ _ u5
    subst j2
    obtain⟨c1,c2⟩:=Da Tf FD Dg rfl u1 (s':=.exhausted) (p':=r3.pending)
    have QQ:Fr E w E3 (w3.putObj w.heap.size (.loop { r3 with state:=.exhausted })):=(PF.trans Tg).trans c2
    exact⟨_,run_endLoop u1 j1,E3,ld.trans Nb,QQ,⟨hs.fr.mono (ld.trans Nb),c1,hs.df.mono QQ,Nat.le_trans hs.bs QQ.size⟩⟩
   unfold we at h
   split at h
   ·rename_i ig
    simp only[Option.some.injEq]at h
    subst h
    obtain⟨w4,h1,E4,h2,h3,h4⟩:=after _ none ig (fun s' p' hp=>⟨by rw[hp.1]; simp,hp.2⟩)
    exact⟨none,w4,h1,E4,h2,h3,h4⟩
   ·rename_i ig
    simp only[Option.some.injEq]at h
    subst h
    obtain⟨w4,h1,E4,h2,h3,h4⟩:=after _ (some .ret) ig (fun s' p' hp=>⟨by rw[hp.1]; simp,hp.2⟩)
    exact⟨some .ret,w4,h1,wpIn_ret ⟨E4,h2,h3,h4⟩⟩
   ·rename_i id ig
    simp only[Option.some.injEq]at h
    subst h
    obtain⟨w4,h1,E4,h2,h3,h4⟩:=after _ (some (.exit id)) ig (fun s' p' hp=>⟨by rw[hp.1]; simp,hp.2⟩)
    exact⟨some (.exit id),w4,h1,wpIn_exit ⟨E4,h2,h3,rfl,h4⟩⟩
   ·simp at h
section
variable {ops:Array Oper}
theorem N4[ae]{P:Program}{Dh:Oper→St→Option Out}(dY:mn P Dh)(ue:∀ o s r,Dh o s=some r→(∃ s',r=.norm s')∨∃ v s',r=.kv v s')(mZ:lz 0 ops.toList=true){md:Region.Mode}
  (wC:pO md ops=true) {m:Nat} (wF:np (cm ops.toList) ops.size m=true) {Q:Exit→Act→World→Prop} {E0:Env} {w0:World} {B:ph} {r:Option Nat} {out:Out}
  (hQ:∀ s',out=.norm s'→∀ E a w,Ext E0 E→Fr E0 w0 E w→cT B E s' a w→Q .normal a w)
  (hP:∀ v s',out=.kv v s'→∀ E a w u,Ext E0 E→Fr E0 w0 E w→Inv E s'.hp w→aj E true v u→Marks B E w a.defers→Q (.panic [{ v:=u,recovered:=false }]) a w) :
  ∀ (t i:Nat) (aN:Array Bool) (E:Env) (s:St) (a:Act) (w:World),i+t=ops.size→m≤i→aN.size=ops.size→(∀ j,j<i→aN.getD j true=true)→(∀ j,i≤j→j<ops.size→aN.getD j true=false) →
    Ext E0 E→Fr E0 w0 E w→cT B E s a w→cR Dh ops (ops.toList.drop i) s=some out→wpAnyIn (WF r) 0 P md ops Q t aN a w:=by
 intro t
 induction t with
 |zero=>
  intro i aN E s a w hit hm eg KT N5 hx eK hs aY
  rw[List.drop_of_length_le (by simp; omega)]at aY
  simp only[cR,Option.some.injEq]at aY
  refine⟨?_,hQ s aY.symm E a w hx eK hs⟩
  unfold Region.ready
  rw[List.filter_eq_nil_iff]
  intro j hj hc
  simp only[List.mem_range]at hj
  rw[KT j (by omega)]at hc
  simp at hc
 |succ t ih=>
  intro i aN E s a w hit hm eg KT N5 hx eK hs aY
  have KU:i<ops.size:=by omega
  refine⟨fun ym=>absurd ym (C3 wC eg KU (N5 i (Nat.le_refl _) KU)),fun j hj=>?_⟩
  have Aw:∀ k o,ops[k]?=some o→aN.getD k true=true→∀ p,sr (cm ops.toList) k p=true→aN.getD p false=true:=by
   intro k o hk hl p hp
   have We:k<ops.size:=(Array.getElem?_eq_some_iff.1 hk).1
   have EZ:k<i:=by
    grind
   have Vh:=NX mZ hk hp
   have:=KT p (by omega)
   rw[←uc (a:=aN) (by omega) true false]
   exact this
  obtain⟨Si,Sj,hj3⟩:=wD mZ eg Aw hj
  have hji:j=i:=by
   rcases Nat.lt_trichotomy j i with h|h|h
   ·rw[KT j h]at Sj; cases Sj
   ·exact h
   ·have:=hj3 i (wE wF (by omega) Si h)
    have h2:=N5 i (Nat.le_refl _) KU
    rw[uc (by omega) true false]at h2
    rw[this]at h2; cases h2
  subst hji
  obtain⟨o,ho⟩:∃ o,ops[j]?=some o:=⟨ops[j],by simp[KU]⟩
  have Th:ops.toList.drop j=o::ops.toList.drop (j+1):=by
   have hl:j<ops.toList.length:=by simpa using KU
   rw[List.drop_eq_getElem_cons hl]
   congr 1
   have:=(Array.getElem?_eq_some_iff.1 ho).2
   simpa using this
  rw[Th]at aY
  have eR:∀ q d,q≠j→(aN.setIfInBounds j true).getD q d=aN.getD q d:=by
   intro q d hq
   simp[Array.getD_eq_getD_getElem?,Ne.symm hq]
  have C4:∀ d,(aN.setIfInBounds j true).getD j d=true:=by
   simp_all
  have next:∀ (E':Env) (s':St) (a':Act) (w':World),Ext E0 E'→Fr E0 w0 E' w'→cT B E' s' a' w'→cR Dh ops (ops.toList.drop (j+1)) s'=some out →
    wpAnyIn (WF r) 0 P md ops Q t (aN.setIfInBounds j true) a' w':=by
   intro E' s' a' w' gK KI fG ma
   refine ih (j+1) _ E' s' a' w' (by omega) (by omega) (by simpa using eg) (fun q hq=>?_) (fun q hq hql=>?_) gK KI fG ma
   ·by_cases e:q=j
    ·subst e; exact C4 _
    ·rw[eR _ _ e]; exact KT q (by omega)
   ·rw[eR _ _ (by omega)]; exact N5 q (by omega) hql
  unfold wpOpIn
  rw[ho]
  simp only
  simp only[cR]at aY
  split at aY
  ·simp at aY
  ·rename_i hw
   rw[lR hs.fr hw]
   simp only[Bool.false_eq_true,if_false]
   exact⟨fun _ _=>trivial,next E { s with fr:=bJ s.fr o.dst .undef } _ w hx eK ⟨gO hs.fr (by simp[aj]),hs.inv,by rw[put_defers]; exact hs.df,hs.bs⟩ aY⟩
  ·rename_i hw
   rw[lR hs.fr hw]
   simp only[if_true]
   cases hq:Dh o s with
   |none=>rw[hq]at aY; simp at aY
   |some q=>
    rw[hq]at aY
    refine dY o s q hq r B E a w _ Q hs (fun s' e E' a' w' gK GI fG=>?_) (fun v s' e E' w' u gK GI iM hr=>?_)
    ·subst e
     exact next E' s' a' w' (hx.trans gK) (eK.trans GI) fG aY
    ·subst e
     simp only[Option.some.injEq]at aY
     exact hP v s' aY.symm E' a w' u (hx.trans gK) (eK.trans GI) iM hr (hs.df.mono GI)
end
def yu[ae](C:Ctx)(k:Nat):Prop:=
 ∀ id ops draw s o,cb C k (.region id ops draw) s=some o→∀ (rd:Option Nat) (B:ph) (E:Env) (a:Act) (w:World),cT B E s a w →
   (draw=false→wpOpsIn (WF rd) 0 C.P ops (br B E w o) (List.range ops.size) a w) ∧
   (draw=true→∀ t,wpOpsIn (WF rd) 0 C.P ops (br B E w o) (Region.schedule (C.P.follows .mixedOrders) ops t) a { w with drawn:=w.drawn+1 })
theorem wK[ae]{C:Ctx}{k:Nat}(hO:mn C.P (fun o s=>fY C k o s))(hE:sC C.P (fun nm o fr=>iW C k nm o fr)):yu C (k+1):=by
 intro id ops draw s o h rd B E a w hs
 simp only[cb]at h
 cases draw with
 |false=>
  refine⟨fun _=>?_,fun h=>by cases h⟩
  rw[List.range_eq_range',←Array.length_toList,wpOpsIn_eq_wpListIn ops.toList 0 (by simp)]
  exact qY hO (fun o s r h=>n7 h) rd B ops.toList _ o h E E a w w (Ext.refl E) (Fr.refl E w) (vq _ hs)
 |true=>
  simp only at h
  have Ti:C.head s.fn id ops≤ops.size:=Nat.sub_le _ _
  generalize C.head s.fn id ops=m at h Ti
  have n5:=vq (C.iV s.fn id) hs
  rw[←sH (C.iV s.fn id) s]at h
  clear hs
  generalize ia (C.iV s.fn id) s=s at h n5
  have hs:=n5
  split at h
  case isFalse=>simp at h
  rename_i N6
  simp only[tG,Bool.and_eq_true]at N6
  obtain⟨⟨⟨⟨mZ,Ig⟩,YZ⟩,hgc⟩,QS⟩:=N6
  split at h
  case h_2=>simp at h
  rename_i s' fs aY
  split at h
  case isFalse=>simp at h
  rename_i Vi
  rw[Bool.and_eq_true]at Vi
  obtain⟨Tj,wF⟩:=Vi
  suffices key:∀ md:Region.Mode,pO md ops=true→∀ t,wpOpsIn (WF rd) 0 C.P ops (br B E w o) (Region.linearise md ops t) a { w with drawn:=w.drawn+1 } by
   refine⟨fun h=>by (cases h),fun _ t=>?_⟩
   unfold Region.schedule
   split
   ·exact key .any Ig t
   ·grind
  intro md wC t
  refine wpAnyIn_sound _ _ _ _ _ ?_
  let s0:St:={ s with hp:=s.hp++List.replicate ((ops.toList.take m).filter fun o=>au o.op).length none }
  obtain⟨r1,r2,r3⟩:=Fz hs.inv ((ops.toList.take m).filter fun o=>au o.op).length
  have M7:Inv (E.gQ ((ops.toList.take m).filter fun o=>au o.op).length) s0.hp { w with drawn:=w.drawn+1 }:=r2.heap rfl
  have rP:Fr E w (E.gQ ((ops.toList.take m).filter fun o=>au o.op).length) { w with drawn:=w.drawn+1 }:=r3.trans (Fr.drew _ w)
  have Tk:=qd _ _ _ _ aY
  have vu:∀ (k:Nat) (x:Item),(bK 0 s.hp.length (ops.toList.take m))[k]?=some x→x.idx=k∧ops[k]?=some x.o∧k<m:=by
   intro k x hk
   obtain⟨a1,a2,_,_⟩:=lI _ _ _ _ _ hk
   have Y0:k<m:=by
    grind
   rw[List.getElem?_take_of_lt Y0]at a2
   exact⟨by omega,by simpa using a2,Y0⟩
  have Tl:ops.size=m+(ops.size-m):=by omega
  refine Eq.mpr (congrArg (fun fl=>wpAnyIn (WF rd) 0 C.P md ops (br B E w o) fl _ _ _) Tl) ?_
  refine KG (P:=C.P) Il hE mZ wC Ti wF (s':=s') (E0:=E) (w0:=w) (B:=B) (fun E' a' w' aN b1 b2 b3 b4 b5 b6=>
   N4 hO (fun o s r h=>n7 h) mZ wC wF (fun uR e E2 a2 w2 c1 c2 c3=>by subst e; exact⟨E2,c1,c2,c3⟩)
    (fun v uR e E2 a2 w2 u c1 c2 c3 c4 c5=>by subst e; exact⟨E2,c1,c2,u,rfl,c4,c3,c5⟩) (ops.size-m) m aN E' s' a' w' (by omega) (Nat.le_refl _) b4 b5 b6 b1 b2 b3 h) m (bK 0 s.hp.length (ops.toList.take m))
   _ fs _ s0 a _ (by rw[mj]; simp; omega) ?_
   r1 rP ⟨hs.fr.mono r1,M7,hs.df.mono rP,hs.bs⟩ ?_ aY ?_
  ·refine⟨by simp,fun x hx=>?_,?_,fun i hi _ YU=>?_,fun i _ hi=>?_,fun i o ho hl=>?_,?_⟩
   ·obtain⟨k,hk⟩:=List.mem_iff_getElem?.1 hx
    obtain⟨a1,a2,a3⟩:=vu k x hk
    have bE:k<ops.size:=(Array.getElem?_eq_some_iff.1 a2).1
    rw[a1]
    refine⟨a2,?_,a3⟩
    simp[Array.getD,bE]
   ·rw[List.pairwise_iff_getElem]
    intro i j hi hj M6
    have a1:=(vu i _ (List.getElem?_eq_getElem hi)).1
    have a2:=(vu j _ (List.getElem?_eq_getElem hj)).1
    omega
   ·have uO:i<(bK 0 s.hp.length (ops.toList.take m)).length:=by rw[mj]; simp; omega
    exact⟨_,List.getElem_mem uO,(vu i _ (List.getElem?_eq_getElem uO)).1⟩
   ·simp[Array.getD,hi]
   ·have bE:i<ops.size:=(Array.getElem?_eq_some_iff.1 ho).1
    simp[Array.getD,bE]at hl
   ·rw[List.pairwise_iff_getElem]
    intro i j hi hj M6 ha
    exact yl _ _ _ i j _ _ M6 (List.getElem?_eq_getElem hi) (List.getElem?_eq_getElem hj) ha
  ·intro x hx ha
   obtain⟨k,hk⟩:=List.mem_iff_getElem?.1 hx
   obtain⟨_,_,a3,a4⟩:=lI _ _ _ _ _ hk
   have a5:=a4 ha
   simp only[s0]
   rw[List.getElem?_append_right a3,List.getElem?_replicate,if_pos (by omega)]
  ·intro j k x y f g NW hx hy hf hg
   obtain⟨a1,a2,_⟩:=vu j x hx
   obtain⟨b1,b2,_⟩:=vu k y hy
   have Y1:=ub fs Tj j k f g NW hf hg
   have x9:f.idx=j:=by
    have:(fs.map (·.idx))[j]?=some f.idx:=by simp[hf]
    rw[Tk]at this
    simp[hx,a1]at this
    exact this.symm
   have PG:g.idx=k:=by
    have:(fs.map (·.idx))[k]?=some g.idx:=by simp[hg]
    rw[Tk]at this
    simp[hy,b1]at this
    exact this.symm
   rcases ua ops.toList 0 QS j k x.o y.o NW (by simpa using a2) (by simpa using b2) with hp|hp
   ·left; rw[a1,b1]; simpa using hp
   ·simp only[ss,Bool.or_eq_true,Bool.and_eq_true]at Y1
    rcases Y1 with hq|⟨h1,h2⟩
    ·left; rw[x9,PG]at hq; rw[a1,b1]; exact hq
    ·right
     refine⟨hp,fun n hn=>?_,fun n hn=>AA h2 n hn⟩
     have:=AA h1 n hn
     simpa using this
theorem Di[ae]{C:Ctx}(bM:C.Ok){k:Nat}(hF:ml C k)(FG:∀ j,j≤k→fT C j)(hO:mn C.P (fun o s=>fY C k o s))(hE:sC C.P (fun nm o fr=>iW C k nm o fr)):fT C (k+1):=by
 have hC:=FG k (Nat.le_refl k)
 intro c s o h rd B Nc E a w hs
 have self:br B E w (.norm s) .normal a w:=⟨E,Ext.refl E,Fr.refl E w,hs⟩
 cases c with
 |skip=>simp only[cb,Option.some.injEq]at h; subst h; exact wpIn_skip self
 |label l=>simp only[cb,Option.some.injEq]at h; subst h; exact wpIn_label self
 |ret=>simp only[cb,Option.some.injEq]at h; subst h; exact wpIn_ret ⟨E,Ext.refl E,Fr.refl E w,hs⟩
 |exit id=>simp only[cb,Option.some.injEq]at h; subst h; exact wpIn_exit ⟨E,Ext.refl E,Fr.refl E w,rfl,hs⟩
 |seq x y=>
  simp only[cb]at h
  have r1:(rd=B.lb∧B.rg=true)∨cJ x=true:=Nc.imp id fun h=>by simp only[cJ,Bool.and_eq_true]at h; exact h.1
  have r2:(rd=B.lb∧B.rg=true)∨cJ y=true:=Nc.imp id fun h=>by simp only[cJ,Bool.and_eq_true]at h; exact h.2
  refine wpIn_seq ?_
  split at h
  ·rename_i s' hx
   refine wpIn_mono (hC x s _ hx rd B r1 E a w hs) fun e a' w' hp=>?_
   obtain⟨E',h1,h2,h3⟩:=hp
   cases e with
   |normal=>exact wpIn_mono (hC y s' o h rd B r2 E' a' w' h3) fun e Vj xO hp=>br.from h1 h2 hp
   |_=>exact h3.elim
  ·rename_i dE
   refine wpIn_mono (hC x s o h rd B r1 E a w hs) fun e a' w' hp=>?_
   obtain⟨E',h1,h2,h3⟩:=hp
   cases e with
   |normal=>
    cases o with
    |norm s'=>exact absurd h (dE s')
    |_=>exact h3.elim
   |_=>exact⟨E',h1,h2,h3⟩
 |cond op x y=>
  simp only[cb]at h
  have r1:(rd=B.lb∧B.rg=true)∨cJ x=true:=Nc.imp id fun h=>by simp only[cJ,Bool.and_eq_true]at h; exact h.1
  have r2:(rd=B.lb∧B.rg=true)∨cJ y=true:=Nc.imp id fun h=>by simp only[cJ,Bool.and_eq_true]at h; exact h.2
  split at h
  case h_2=>simp at h
  rename_i t ht
  have hv:=iw hs.inv.jV hs.fr op
  rw[ht]at hv
  simp only[aj]at hv
  cases t with
  |true=>exact wpIn_cond_true hv (hC x s o h rd B r1 E a w hs)
  |false=>exact wpIn_cond_false hv (hC y s o h rd B r2 E a w hs)
 |block id b=>
  simp only[cb]at h
  have r1:(rd=B.lb∧B.rg=true)∨cJ b=true:=Nc.imp (fun h=>h) fun h=>by simpa only[cJ] using h
  refine wpIn_block ?_
  split at h
  ·rename_i JE s' hx
   refine wpIn_mono (hC b s _ hx rd B r1 E a w hs) fun e a' w' hp=>?_
   obtain⟨E',h1,h2,h3⟩:=hp
   cases e with
   |exit j=>
    obtain⟨rfl,h3⟩:=h3
    simp only[Exit.inBlock]
    split at h
    ·rename_i Ws
     rw[if_pos Ws]
     simp only[Option.some.injEq]at h; subst h
     exact⟨E',h1,h2,h3⟩
    ·rename_i Ws
     rw[if_neg Ws]
     simp only[Option.some.injEq]at h; subst h
     exact⟨E',h1,h2,rfl,h3⟩
   |_=>exact h3.elim
  ·rename_i dE
   refine wpIn_mono (hC b s o h rd B r1 E a w hs) fun e a' w' hp=>?_
   obtain⟨E',h1,h2,h3⟩:=hp
   cases e with
   |exit j=>
    cases o with
    |exit i s'=>exact absurd h (dE i s')
    |_=>exact h3.elim
   |_=>exact⟨E',h1,h2,h3⟩
 |loop b=>
  simp only[cb]at h
  have r1:(rd=B.lb∧B.rg=true)∨cJ b=true:=Nc.imp (fun h=>h) fun h=>by simpa only[cJ] using h
  refine zP N0 QP ?_
  split at h
  ·rename_i s' hx
   refine wpIn_mono (hC b s _ hx rd B r1 E a w hs) fun e a' w' hp=>?_
   obtain⟨E',h1,h2,h3⟩:=hp
   cases e with
   |normal=>
    have Py:cT B E' s' a' w':=h3
    have:∃ E2,Ext E E2∧Fr E w E2 w'∧cT B E2 (ib s.hp.length s') a' w':=by
     unfold ib
     split
     ·rename_i aX
      have hle:s.hp.length≤s'.hp.length:=by rw[hs.inv.len,Py.inv.len]; exact h1.L
      obtain⟨a1,a2,a3⟩:=ud Py.inv hle aX
      exact⟨E'.lower s.hp.length,⟨h1.m,fun n hn aq l h=>h1.ρ n hn aq l h,by simp[Env.lower,hs.inv.len]⟩,h2.trans a2,sE a3 Py.fr,a1,Py.df.mono a2,Py.bs⟩
     ·exact⟨E',h1,h2,Py⟩
    obtain⟨E2,b1,b2,b3⟩:=this
    exact wpIn_mono (hC (.loop b) _ o h rd B Nc E2 a' w' b3) fun e Vj xO hp=>br.from b1 b2 hp
   |_=>exact h3.elim
  ·rename_i dE
   refine wpIn_mono (hC b s o h rd B r1 E a w hs) fun e a' w' hp=>?_
   obtain⟨E',h1,h2,h3⟩:=hp
   cases e with
   |normal=>
    cases o with
    |norm s'=>exact absurd h (dE s')
    |_=>exact h3.elim
   |_=>exact⟨E',h1,h2,h3⟩
 |region id ops draw=>
  have hr:=wK hO hE id ops draw s o h rd B E a w hs
  cases draw with
  |false=>exact wpIn_region (hr.1 rfl)
  |true=>exact wpIn_region_draw fun t=>hr.2 rfl t
 |rangeFunc f ps as bd=>
  rcases Nc with ⟨rfl,Tm⟩|Nc
  ·cases PE:B.lb with
   |none=>exact KR bM hF Tm PE hs h
   |some b=>exact KS bM hF PE hs h
  ·simp[cJ]at Nc
 |scope b=>
  simp only[cb]at h
  split at h
  ·rename_i c hc
   exact KV FG hs hc h
  ·simp at h
 |goto _=>simp[cb]at h
 |refuse _=>simp[cb]at h
theorem FH{F:Fence}{n:Nat}{P:Program}{o:Oper}{a:Act}{w:World}{K N:Act→World→Prop}{Q:Exit→Act→World→Prop}(h:o.wpIn F n P a w K (Exit.then N Q)):o.wpIn F n P a w K Q:=by
 unfold Oper.wpIn at *
 refine⟨h.1,?_⟩
 have h2:=h.2
 generalize (o.semAt F.round a.eval).run P w=r at *
 cases r with
 |ok x w'=>cases x<;>exact h2
 |halt x w'=>cases x<;>exact h2
theorem sJ{F:Fence}{n:Nat}{P:Program}{ops:Array Oper}{Q:Exit→Act→World→Prop}{l2:List Oper}:∀ (l1:List Oper) (a:Act) (w:World),wpListIn F n P ops (Exit.then (wpListIn F n P ops Q l2) Q) l1 a w→wpListIn F n P ops Q (l1++l2) a w
 |[],a,w,h=>h
 |o::l1,a,w,h=>by
  simp only[List.cons_append]
  unfold wpListIn at h ⊢
  split at h
  ·rename_i hw
   rw[if_pos hw]
   exact FH (Oper.wpIn_mono (fun a w h=>sJ l1 a w h) h)
  ·rename_i hw
   rw[if_neg hw]
   exact⟨h.1,sJ l1 _ _ h.2⟩
theorem qf{F:Fence}{n:Nat}{P:Program}{ops:Array Oper}{Q Q':Exit→Act→World→Prop}(hq:∀ e a w,Q e a w→Q' e a w):∀ (l:List Oper) (a:Act) (w:World),wpListIn F n P ops Q l a w→wpListIn F n P ops Q' l a w
 |[],a,w,h=>hq _ _ _ h
 |o::l,a,w,h=>by
  unfold wpListIn at h ⊢
  split at h
  ·rename_i hw
   rw[if_pos hw]
   have h1:=Oper.wpIn_mono (fun a w h=>qf hq l a w h) h
   unfold Oper.wpIn at *
   refine⟨h1.1,?_⟩
   have h2:=h1.2
   generalize (o.semAt F.round a.eval).run P w=r at *
   cases r with
   |ok x w'=>
    cases x<;>simp only[Oper.uponIn]at h2 ⊢<;>first
     |exact h2
     |exact⟨h2.1,CallsIn.mono h2.2 (fun e xO he=>by cases e<;>first|exact he|exact hq _ _ _ he|exact(let ⟨a0,w0,h0⟩:=he; ⟨a0,w0,hq _ _ _ h0⟩))⟩
     |exact⟨h2.1,RoundIn.mono h2.2 (fun e xO he=>by cases e<;>first|exact he|exact hq _ _ _ he|exact(let ⟨a0,w0,h0⟩:=he; ⟨a0,w0,hq _ _ _ h0⟩))⟩
   |halt x w'=>cases x<;>simp only[Oper.uponIn]at h2 ⊢<;>first|exact h2|exact hq _ _ _ h2
  ·rename_i hw
   rw[if_neg hw]
   exact⟨h.1,qf hq l _ _ h.2⟩
theorem FI{c:Code}{ops:Array Oper}{v:Operand}(h:tH c=some (ops,v)):∃ (id:Nat) (o:Oper) (mR:Array TypeId),c=.region id ops false∧ops.toList=ops.toList.dropLast++[o]∧o.op=.defer { callee:=.value v,args:=#[],argTypes:=mR }∧o.guard=none∧o.dst=none:=by
 unfold tH at h
 split at h
 ·rename_i id Wt
  split at h
  ·rename_i o ho
   split at h
   ·rename_i cc EF hg QT
    split at h
    ·rename_i x Na ld
     simp only[Option.some.injEq,Prod.mk.injEq]at h
     obtain⟨rfl,rfl⟩:=h
     obtain⟨c1,c2,c3⟩:=cc
     simp only at Na ld
     subst Na
     obtain rfl:=Array.toList_eq_nil_iff.1 ld
     refine⟨id,o,c3,rfl,?_,EF,hg,QT⟩
     have dE:Wt.toList≠[]:=by intro e; rw[e]at ho; simp at ho
     rw[List.getLast?_eq_some_getLast dE,Option.some.injEq]at ho
     rw[←ho]
     exact(List.dropLast_concat_getLast dE).symm
    ·simp at h
   ·simp at h
  ·simp at h
 ·simp at h
def Tn[ae](C:Ctx)(E:Env)(v:AV)(d:Deferred):Prop:=∃ f:Value,aj E true v f∧∀ w,(Deferred.ofValue f #[]).run C.P w=.ok d w
def uf[ae](C:Ctx)(B:ph)(E:Env)(w:World)(o:Out):Option AV→Exit→Act→World→Prop
 |none,e,a',w'=>br B E w o e a' w'
 |some v,e,a',w'=>∃ E1 E2 w1 d,Ext E E1∧Fr E w E1 w1∧Tn C E1 v d∧Ext E1 E2∧Fr E1 w1 E2 w'∧KL { B with tl:=d::B.tl } E2 o e a' w'
theorem qg{E:Env}{fv:AV}{f:Value}{g:FuncId}{as:List AV}(hf:aj E true fv f)(h:bH fv []=some (g,as)):∃ first cap,f=.func (.func g) first cap:=by
 cases fv with
 |lit u=>
  simp only[aj]at hf
  subst hf
  unfold bH at h
  split at h
  ·rename_i hq
   simp only[AV.lit.injEq]at hq
   simp only[Option.some.injEq,Prod.mk.injEq]at h
   obtain⟨rfl,_⟩:=h
   exact⟨_,_,hq⟩
  ·rename_i hq; cases hq
  ·simp at h
 |ju fn first cap=>
  unfold bH at h
  split at h
  ·rename_i hq; cases hq
  ·rename_i hq
   simp only[AV.ju.injEq]at hq
   obtain⟨rfl,rfl,rfl⟩:=hq
   simp only[Option.some.injEq,Prod.mk.injEq]at h
   obtain⟨rfl,_⟩:=h
   simp only[aj]at hf
   obtain⟨vs,ws,rfl,_⟩:=hf
   exact⟨_,_,rfl⟩
  ·simp at h
 |_=>simp[bH]at h
theorem uf.from[ae]{C:Ctx}{B:ph}{E E1:Env}{w w1:World}{o:Out}{d:Option AV}{e:Exit}{a:Act}{w':World}(hx:Ext E E1)(hf:Fr E w E1 w1)(h:uf C B E1 w1 o d e a w'):uf C B E w o d e a w':=by
 cases d with
 |none=>exact br.from hx hf h
 |some v=>
  obtain⟨E2,E3,w2,d,h1,h2,h3⟩:=h
  exact⟨E2,E3,w2,d,hx.trans h1,hf.trans h2,h3⟩
theorem FJ[ae]{C:Ctx}{k:Nat}(hC:fT C k)(hO:mn C.P (fun o s=>fY C k o s)):∀ (c:Code) (s:St) (o:Out) (d:Option AV),cJ c=true→z8 (fun c s=>cb C k c s) (fun o s=>fY C k o s) c s=some (o,d) →
  ∀ (B:ph) (E:Env) (a:Act) (w:World),B.rg=false→cT B E s a w→c.wpIn (WF none) 0 C.P (uf C B E w o d) a w:=by
 have leaf:∀ c s o d,cJ c=true→((cb C k c s).map fun o=>(o,(none:Option AV)))=some (o,d)→∀ (B:ph) (E:Env) (a:Act) (w:World),B.rg=false→cT B E s a w→c.wpIn (WF none) 0 C.P (uf C B E w o d) a w:=by
  intro c s o d hn h B E a w Tc hs
  cases hq:cb C k c s with
  |none=>rw[hq]at h; simp at h
  |some o1=>
   rw[hq]at h
   simp only[Option.map_some,Option.some.injEq,Prod.mk.injEq]at h
   obtain⟨rfl,rfl⟩:=h
   exact hC c s o1 hq none B (.inr hn) E a w hs
 intro c
 induction c with
 |seq x y _ J2=>
  intro s o d hn h B E a w Tc hs
  simp only[cJ,Bool.and_eq_true]at hn
  simp only[z8]at h
  refine wpIn_seq ?_
  cases hd:tH x with
  |some q=>
   obtain⟨ops,v⟩:=q
   rw[hd]at h
   simp only at h
   obtain⟨id,o0,mR,rfl,Wu,EF,hg,QT⟩:=FI hd
   split at h
   case h_2=>simp at h
   rename_i s1 hr
   split at h
   case h_2=>simp at h
   rename_i q cL
   obtain⟨g,as⟩:=q
   cases hq:cb C k y s1 with
   |none=>rw[hq]at h; simp at h
   |some o1=>
    rw[hq]at h
    simp only[Option.map_some,Option.some.injEq,Prod.mk.injEq]at h
    obtain⟨rfl,rfl⟩:=h
    refine wpIn_region_list ?_
    rw[Wu]
    refine sJ _ _ _ (qf ?_ _ _ _ (qY hO (fun o s r h=>n7 h) none B _ _ _ hr E E a w w (Ext.refl E) (Fr.refl E w) hs))
    intro e a1 w1 hp
    obtain⟨E1,Na,rP,Ik⟩:=hp
    cases e with
    |normal=>
     have n5:cT B E1 s1 a1 w1:=Ik
     have hv:=iw n5.inv.jV n5.fr v
     obtain⟨first,cap,Db⟩:=qg hv cL
     have aY:∀ w,(Deferred.ofValue (a1.eval v) #[]).run C.P w=.ok { target:=.fn (.func g) cap,args:=first++#[] } w:=by
      intro w; rw[Db]; rfl
     show wpListIn (WF none) 0 C.P ops _ [o0] a1 w1
     unfold wpListIn
     rw[if_pos (by unfold Region.wanted; rw[hg])]
     refine⟨fun _ _=>trivial,?_⟩
     have QO:(o0.semAt (WF none).round a1.eval).run C.P w1=.ok (.defer { target:=.fn (.func g) cap,args:=first++#[] }) w1:=by
      show (execOp a1.eval o0).run C.P w1=_
      unfold execOp
      rw[EF]
      simp only[resolve,Sem.run_bind]
      rw[show (Array.map a1.eval #[]:Array Value)=#[] by simp,aY]
      rfl
     rw[QO,Oper.uponIn_defer,QT]
     have Bw:cT { B with tl:={ target:=.fn (.func g) cap,args:=first++#[] }::B.tl } E1 s1 { a1 with defers:={ target:=.fn (.func g) cap,args:=first++#[] }::a1.defers } w1:=by
      refine⟨n5.fr,n5.inv,?_,n5.bs⟩
      obtain⟨rs,e1,e2,e3,e4⟩:=n5.df
      have:=e3.1 Tc
      subst this
      exact⟨[],by simp only[List.map_nil,List.nil_append]at e1 ⊢; rw[e1],List.nodup_nil,⟨fun _=>rfl,e3.2⟩,by simp⟩
     refine wpIn_mono (hC y s1 o1 hq none _ (.inr hn.2) E1 _ w1 Bw) fun e a2 w2 hp=>?_
     obtain⟨E2,ld,jg,vn⟩:=hp
     exact⟨E1,E2,w1,_,Na,rP,⟨_,hv,aY⟩,ld,jg,vn⟩
    |_=>exact Ik.elim
  |none=>
   rw[hd]at h
   simp only at h
   split at h
   ·rename_i s' hx
    refine wpIn_mono (hC x s _ hx none B (.inr hn.1) E a w hs) fun e a' w' hp=>?_
    obtain⟨E',h1,h2,h3⟩:=hp
    cases e with
    |normal=>exact wpIn_mono (J2 s' o d hn.2 h B E' a' w' Tc h3) fun e Vj xO hp=>uf.from h1 h2 hp
    |_=>exact h3.elim
   ·rename_i o1 dE hx
    simp only[Option.some.injEq,Prod.mk.injEq]at h
    obtain⟨rfl,rfl⟩:=h
    refine wpIn_mono (hC x s o1 hx none B (.inr hn.1) E a w hs) fun e a' w' hp=>?_
    obtain⟨E',h1,h2,h3⟩:=hp
    cases e with
    |normal=>
     cases o1 with
     |norm s'=>exact(dE s' rfl).elim
     |_=>exact h3.elim
    |_=>exact⟨E',h1,h2,h3⟩
   ·simp at h
 |_=>intro s o d hn h; simp only[z8]at h; exact leaf _ s o d hn h
theorem mo{F:Fence}{n:Nat}{P:Program}{ops:Array Oper}{Q Q':Exit→Act→World→Prop}(hq:∀ e a w,Q e a w→Q' e a w):∀ (l:List Nat) (a:Act) (w:World),wpOpsIn F n P ops Q l a w→wpOpsIn F n P ops Q' l a w
 |[],a,w,h=>hq _ _ _ h
 |i::l,a,w,h=>by
  unfold wpOpsIn at h ⊢
  split at h
  ·exact mo hq l a w h
  rename_i o ho
  split at h
  ·rename_i hw
   simp only[if_pos hw]
   have h1:=Oper.wpIn_mono (fun a w h=>mo hq l a w h) h
   unfold Oper.wpIn at *
   refine⟨h1.1,?_⟩
   have h2:=h1.2
   generalize (o.semAt F.round a.eval).run P w=r at *
   cases r with
   |ok x w'=>
    cases x<;>simp only[Oper.uponIn]at h2 ⊢<;>first
     |exact h2
     |exact⟨h2.1,CallsIn.mono h2.2 (fun e xO he=>by cases e<;>first|exact he|exact hq _ _ _ he|exact(let ⟨a0,w0,h0⟩:=he; ⟨a0,w0,hq _ _ _ h0⟩))⟩
     |exact⟨h2.1,RoundIn.mono h2.2 (fun e xO he=>by cases e<;>first|exact he|exact hq _ _ _ he|exact(let ⟨a0,w0,h0⟩:=he; ⟨a0,w0,hq _ _ _ h0⟩))⟩
   |halt x w'=>cases x<;>simp only[Oper.uponIn]at h2 ⊢<;>first|exact h2|exact hq _ _ _ h2
  ·rename_i hw
   simp only[if_neg hw]
   exact⟨h.1,mo hq l _ _ h.2⟩
theorem Dj(ops:Array Oper)(i:Nat)(f:Array Edge→Bool):(((ops.map dW)[i]?).map fun o=>f o.after)=(ops[i]?).map fun o=>f o.after:=by
 rw[Array.getElem?_map]
 cases ops[i]? with
 |none=>rfl
 |some o=>simp only[Option.map_some,(lZ o).2.2]
theorem pj(md:Region.Mode)(ops:Array Oper)(t:Nat):Region.linearise md (ops.map dW) t=Region.linearise md ops t:=by
 unfold Region.linearise
 rw[Array.size_map]
 generalize Array.replicate ops.size false=aN
 generalize ([]:List Nat)=acc
 generalize ops.size=fuel
 induction fuel generalizing t aN acc with
 |zero=>rfl
 |succ fuel ih=>
  have hr:((List.range (ops.map dW).size).filter fun i=>!aN.getD i true&&(((ops.map dW)[i]?).map (·.after.all fun e=>!Region.binds md e||aN.getD e.on false)).getD false) =
    ((List.range ops.size).filter fun i=>!aN.getD i true&&((ops[i]?).map (·.after.all fun e=>!Region.binds md e||aN.getD e.on false)).getD false):=by
   rw[Array.size_map]
   congr 1
   funext i
   rw[Dj ops i (fun a=>a.all fun e=>!Region.binds md e||aN.getD e.on false)]
  simp only[Region.linearise.go]
  rw[hr]
  split
  ·exact ih _ _ _
  ·rfl
theorem yv(m:Bool)(ops:Array Oper)(t:Nat):Region.schedule m (ops.map dW) t=Region.schedule m ops t:=by
 unfold Region.schedule
 have hd:Region.departs (ops.map dW)=Region.departs ops:=by
  unfold Region.departs
  rw[Array.any_map]
  congr 1
  funext o
  simp only[Function.comp,(lZ o).2.2]
 rw[hd,pj,pj]
theorem Im[ae]{C:Ctx}{k:Nat}(hC:∀ j,j≤k→fT C j)(hR:∀ j,j≤k→yu C j){c:Code}(hn:cJ c=true){s:St}{o:Out}(h:cb C k (oy c) s=some o){B:ph}{E:Env}{a:Act}{w:World}(hs:cT B E s a w):
  HQ (WF none) 0 C.P c (br B E w o) a w:=by
 by_cases hc:∃ id ops d y,c=.seq (.region id ops d) y
 ·obtain⟨id,ops,d,y,rfl⟩:=hc
  have KD:cJ y=true:=by simp only[cJ,Bool.and_eq_true]at hn; exact hn.2
  cases k with
  |zero=>simp[cb]at h
  |succ k=>
   have Ih:(ops.toList.map dW).toArray=ops.map dW:=by rw[←Array.toList_map]
   simp only[oy,cb,Ih]at h
   refine Np ?_
   have go:∀ o1,cb C k (.region id (ops.map dW) d) s=some o1→(∀ e a' w',br B E w o1 e a' w'→(match e with|.normal=>HQ (WF none) 0 C.P y (br B E w o) a' w'|e=>br B E w o e a' w')) →
     HQ (WF none) 0 C.P (.region id ops d) (fun e a w2=>match e with|.normal=>HQ (WF none) 0 C.P y (br B E w o) a w2|e=>br B E w o e a w2) a w:=by
    intro o1 h1 hq
    have hr:=hR k (Nat.le_succ k) _ _ _ _ _ h1 none B E a w hs
    cases d with
    |false=>
     refine EY ?_
     have:=mo hq _ _ _ (hr.1 rfl)
     rw[Array.size_map]at this
     exact this
    |true=>
     refine JH fun t=>?_
     have:=mo hq _ _ _ (hr.2 rfl t)
     rw[yv]at this
     exact this
   split at h
   ·rename_i s' hx
    refine go _ hx fun e a' w' hp=>?_
    obtain⟨E',h1,h2,h3⟩:=hp
    cases e with
    |normal=>exact JG (wpIn_mono (hC k (Nat.le_succ k) y s' o h none B (.inr KD) E' a' w' h3) fun e Vj xO hp=>br.from h1 h2 hp)
    |_=>exact h3.elim
   ·rename_i dE
    refine go _ h fun e a' w' hp=>?_
    obtain⟨E',h1,h2,h3⟩:=hp
    cases e with
    |normal=>
     cases o with
     |norm s'=>exact absurd h (dE s')
     |_=>exact h3.elim
    |_=>exact⟨E',h1,h2,h3⟩
 ·have he:oy c=c:=by
   unfold oy
   split
   ·exact absurd ⟨_,_,_,_,rfl⟩ hc
   ·rfl
  rw[he]at h
  exact JG (hC k (Nat.le_refl k) c s o h none B (.inr hn) E a w hs)
theorem KW{F:Fence}{n:Nat}{P:Program}{c:Code}{Q Q':Exit→Act→World→Prop}{a:Act}{w:World}(h:HQ F n P c Q a w)(hq:∀ e a w,Q e a w→Q' e a w):HQ F n P c Q' a w:=
 fun b k cs h1 h2 h3 h4 h5 h6=>let ⟨e,a',w',q,r⟩:=h b k cs h1 h2 h3 h4 h5 h6; ⟨e,a',w',hq _ _ _ q,r⟩
theorem AF[ae]{E:Env}{w:World}{hp:ag}{args:List AV}{vs:List Value}(g:FuncId)(n:Nat)(m:Bool)(hI:Inv E hp w)(ha:an E true args vs):
  cT ⟨w.heap.size,[],m,none⟩ E ⟨g,args++List.replicate (n-args.length) .undef,hp⟩ { tmps:=vs.toArray++Array.replicate (n-vs.toArray.size) undef,defers:=[] } w:=by
 have hlen:=ha.length
 refine⟨?_,hI,Marks.nil,Nat.le_refl _⟩
 simp only[Array.toList_append,Array.toList_replicate,List.size_toArray,←hlen]
 refine ha.append ?_
 have:=an.lits (E:=E) (o:=true) (List.replicate (n-args.length) undef)
 simpa using this
theorem Ip{n:Nat}{E:Env}{w:World}{ds:List Deferred}(h:Marks ⟨n,[],false,none⟩ E w ds):ds=[]:=by
 obtain⟨rs,h1,_,h3,_⟩:=h
 have:=h3.1 rfl
 subst this
 simpa using h1
theorem FK[ae]{C:Ctx}(bM:C.Ok){k:Nat}(FG:∀ j,j≤k→fT C j)(Wv:∀ j,j≤k→yu C j)(hO:mn C.P (fun o s=>fY C k o s)){f:FuncId}{args:List AV}{hp:ag}{res:oq}{cB:ag}{fn:Func}{c:Code}
  (rN:C.P.funcs[f]?=some fn) (hc:fn.body=some c) {E:Env} {w:World} {vs:List Value} (hI:Inv E hp w) (ha:an E true args vs)
  (h:uX (fun c s=>cb C k c s) (fun o s=>fY C k o s) C.P fn.results.toList c ⟨f,args++List.replicate (fn.ntmps-args.length) .undef,hp⟩=some (res,cB)):Calls C.P f vs.toArray w (bW E w cB res):=by
 have hs:=AF f fn.ntmps false hI ha
 have fin:∀ (s':St) (xe:ag) E1 (a1:Act) w1,Ext E E1→Fr E w E1 w1→an E1 true s'.fr a1.tmps.toList→Inv E1 xe w1→EX C.P fn.results.toList s'.fr xe=some (res,cB)→LeavesIn Fence.wide 0 C.P fn a1.tmps (bW E w cB res) [] .returning w1:=by
  intro s' xe E1 a1 w1 hx hf eK M7 hr
  unfold EX at hr
  split at hr
  case h_2=>simp at hr
  rename_i l hl
  simp only[Option.some.injEq,Prod.mk.injEq]at hr
  obtain⟨rfl,rfl⟩:=hr
  obtain⟨v,h1,h2⟩:=sD M7 eK hl
  exact⟨v,h1,E1,hx,M7,hf,h2⟩
 have leave:∀ (s':St) (d:Option AV) (e:Exit) a' w',uf C ⟨w.heap.size,[],false,none⟩ E w (.norm s') d .normal a' w'→uW (fun c s=>cb C k c s) C.P fn.results.toList s'.fr s'.hp d=some (res,cB) →
   LeavesInM Fence.wide 0 C.P fn a'.tmps (bW E w cB res) a'.defers .returning w':=by
  intro s' d e a' w' xe hd
  cases d with
  |none=>
   obtain⟨E',hx,hf,ho⟩:=xe
   have ho:cT ⟨w.heap.size,[],false,none⟩ E' s' a' w':=ho
   exact jE rfl ho.inv ho.df hf (by simp) fun w2 qU jg=>fin s' s'.hp E' a' w2 hx jg ho.fr qU hd
  |some v=>
   obtain⟨E1,E2,w1,dd,Na,rP,⟨fv,sA,aY⟩,ld,jg,ho⟩:=xe
   have ho:cT ⟨w.heap.size,[dd],false,none⟩ E2 s' a' w':=ho
   refine jE (B:=⟨w.heap.size,[dd],false,none⟩) rfl ho.inv ho.df (rP.trans jg) (by simp) fun w2 qU hfw=>?_
   simp only[uW]at hd
   split at hd
   ·simp at hd
   rename_i g as cL
   split at hd
   ·simp at hd
   rename_i fg ND
   split at hd
   ·simp at hd
   rename_i cg NF
   obtain⟨first,cap,Db⟩:=qg sA cL
   have Y2:dd={ target:=.fn (.func g) cap,args:=first++#[] }:=by
    have h1:=aY w2
    rw[Db]at h1
    have h2:(Deferred.ofValue (.func (.func g) first cap) #[]).run C.P w2=.ok { target:=.fn (.func g) cap,args:=first++#[] } w2:=rfl
    rw[h2]at h1
    cases h1
    rfl
   obtain⟨vs',Ww,hinv⟩:=fw (P:=C.P) (w:=w2) (sA.mono ld) (args:=[]) (vs:=[]) trivial cL ⟨fg,ND,by rw[NF]; rfl,bM.name g fg ND (by rw[NF]; rfl)⟩
   rw[Sem.run_bind]at hinv
   have EL:=aY w2
   rw[show ([]:List Value).toArray=#[] from rfl,EL]at hinv
   have To:(invoke dd.target dd.args).run C.P w2=.ok (.enter g vs'.toArray) w2:=hinv
   have body:∀ (o:Out) (s2:St) (l2:List AV),(o=.norm s2∨o=.ret s2)→cJ cg=true→cb C k (oy cg) ⟨g,as++List.replicate (fg.ntmps-as.length) .undef,s'.hp⟩=some o→(aW C.P s2.fr fg.results.toList).run s2.hp=some l2→EX C.P fn.results.toList s'.fr s2.hp=some (res,cB) →
     LeavesInM Fence.wide 0 C.P fn a'.tmps (bW E w cB res) [dd] .returning w2:=by
    intro o s2 l2 vn KX bL rY oz
    have Bw:=AF g fg.ntmps false qU Ww
    refine⟨by simp,.inr ⟨fun h=>(by cases h),.func g,cap,g,vs'.toArray,by rw[Y2],To,fun _ _=>trivial,?_⟩⟩
    refine CallsDIn.mono (zy (F:=Fence.wide) (n:=0) ND NF trivial (R:=fun e w'=>match e with|.returned _=>LeavesIn Fence.wide 0 C.P fn a'.tmps (bW E w cB res) [] .returning w'|_=>False) (KW (Im FG Wv KX bL Bw) ?_)) ?_
    ·intro e a3 w3 hp3
     obtain⟨E3,Nb,Nd,Vk⟩:=hp3
     have last:cT ⟨w2.heap.size,[],false,none⟩ E3 s2 a3 w3→a3.defers=[]∧∃ v,(results fg a3.tmps).run C.P w3=.ok v w3∧LeavesIn Fence.wide 0 C.P fn a'.tmps (bW E w cB res) [] .returning w3:=by
      intro Vl
      obtain⟨v3,h1,h2⟩:=sD Vl.inv Vl.fr rY
      exact⟨Ip Vl.df,v3,h1,fin s' s2.hp E3 a' w3 ((Na.trans ld).trans Nb) (hfw.trans Nd) (ho.fr.mono Nb) Vl.inv oz⟩
     rcases vn with rfl|rfl
     ·cases e with
      |normal=>exact last Vk
      |_=>exact Vk.elim
     ·cases e with
      |ret=>exact last Vk
      |_=>exact Vk.elim
    ·intro e u' w3 hh
     obtain⟨rfl,hh⟩:=hh
     cases e with
     |returned v=>exact hh
     |_=>exact hh.elim
   split at hd
   ·rename_i s2 KX bL
    split at hd
    ·rename_i l2 rY; exact body _ s2 l2 (.inl rfl) KX bL rY hd
    ·simp at hd
   ·rename_i s2 KX bL
    split at hd
    ·rename_i l2 rY; exact body _ s2 l2 (.inr rfl) KX bL rY hd
    ·simp at hd
   ·simp at hd
 have toN:∀ (s':St) (d:Option AV) (o:Out) (e:Exit) a' w',(o=.norm s'∧e=.normal)∨(o=.ret s'∧e=.ret)→uf C ⟨w.heap.size,[],false,none⟩ E w o d e a' w'→uf C ⟨w.heap.size,[],false,none⟩ E w (.norm s') d .normal a' w':=by
  rintro s' d o e a' w' (⟨rfl,rfl⟩|⟨rfl,rfl⟩) xe
  ·exact xe
  ·cases d with
   |none=>exact xe
   |some v=>exact xe
 unfold uX at h
 split at h
 ·rename_i s' d hn bL
  refine callsIn_wide.1 (callsIn_of_wp_marks (F:=Fence.wide) (n:=0) rN hc trivial (wpIn_mono (FJ (FG k (Nat.le_refl k)) hO c _ _ d hn bL _ E _ w rfl hs) fun e a' w' du=>?_))
  cases e with
  |normal=>exact leave s' d .normal a' w' du h
  |_=>cases d<;>first|exact(let ⟨_,_,_,ho⟩:=du; ho.elim)|exact(let ⟨_,_,_,_,_,_,_,_,_,ho⟩:=du; ho.elim)
 ·rename_i s' d hn bL
  refine callsIn_wide.1 (callsIn_of_wp_marks (F:=Fence.wide) (n:=0) rN hc trivial (wpIn_mono (FJ (FG k (Nat.le_refl k)) hO c _ _ d hn bL _ E _ w rfl hs) fun e a' w' du=>?_))
  cases e with
  |ret=>exact leave s' d .normal a' w' (toN s' d _ _ a' w' (.inr ⟨rfl,rfl⟩) du) h
  |_=>cases d<;>first|exact(let ⟨_,_,_,ho⟩:=du; ho.elim)|exact(let ⟨_,_,_,_,_,_,_,_,_,ho⟩:=du; ho.elim)
 ·rename_i v s' hn bL
  simp only[Option.some.injEq,Prod.mk.injEq]at h
  obtain⟨rfl,rfl⟩:=h
  refine callsIn_wide.1 (callsIn_of_wp_marks (F:=Fence.wide) (n:=0) rN hc trivial (wpIn_mono (FJ (FG k (Nat.le_refl k)) hO c _ _ none hn bL _ E _ w rfl hs) fun e a' w' du=>?_))
  obtain⟨E',hx,hf,ho⟩:=du
  cases e with
  |panic ch=>
   obtain⟨u,h1,h2,h3,h4⟩:=ho
   exact jE rfl h3 h4 hf (by simp) fun w2 qU jg=>⟨E',hx,qU,jg,u,h1,h2⟩
  |_=>exact ho.elim
 ·simp at h
theorem Dk[ae]{C:Ctx}(bM:C.Ok){k:Nat}(FG:∀ j,j≤k→fT C j)(Wv:∀ j,j≤k→yu C j)(hO:mn C.P (fun o s=>fY C k o s)):ml C (k+1):=by
 intro f args hp res cB h E w vs hI ha
 simp only[mG]at h
 split at h
 ·simp at h
 rename_i fn rN
 split at h
 ·simp at h
 rename_i c hc
 split at h
 ·exact FK bM FG Wv hO rN hc hI ha h
 ·exact BJ (FG k (Nat.le_refl k)) rN hc hI ha h
theorem KY[ae]{C:Ctx}(bM:C.Ok)(Vh:∀ g,C.kind g=.imp→KQ C.P):∀ k,ml C k∧fT C k∧mn C.P (fun o s=>fY C k o s)∧vo C k∧sC C.P (fun nm o fr=>iW C k nm o fr):=by
 suffices key:∀ k,(ml C k∧fT C k∧mn C.P (fun o s=>fY C k o s)∧vo C k∧sC C.P (fun nm o fr=>iW C k nm o fr))∧∀ j,j≤k→fT C j∧yu C j from fun k=>(key k).1
 intro k
 induction k with
 |zero=>
  refine⟨?_,fun j hj=>by obtain rfl:j=0:=by omega
                         exact⟨fun _ _ _ h=>by simp[cb]at h,fun _ _ _ _ _ h=>by simp[cb]at h⟩⟩
  refine⟨fun _ _ _ _ _ h=>by simp[mG]at h,fun _ _ _ h=>by simp[cb]at h,fun _ _ _ h=>by simp[fY]at h,fun _ _ _ _ _ h=>by simp[lO,RM.af]at h,?_⟩
  intro rd x B E s a w e K Q _ _ h
  simp[iW,RM.af]at h
 |succ k ih=>
  obtain⟨⟨hF,hC,hO,hP,hE⟩,FG⟩:=ih
  have Y3:=Di bM hF (fun j hj=>(FG j hj).1) hO hE
  refine⟨⟨Dk bM (fun j hj=>(FG j hj).1) (fun j hj=>(FG j hj).2) hO,Y3,Dd bM hF hP hC,C6 bM hF,De bM Vh hF hP⟩,fun j hj=>?_⟩
  rcases Nat.lt_or_ge j (k+1) with h|h
  ·exact FG j (by omega)
  ·obtain rfl:j=k+1:=by omega
   exact⟨Y3,wK hO hE⟩
def Dl(P:Program):Ctx:={ P:=P,kind:=fun _=>.pure,kY:=fun _=>none,acc:=fun _ _=>false }
theorem Tp[ae]{C:Ctx}(bM:C.Ok):KQ C.P:=by
 have ok0:(Dl C.P).Ok:=⟨bM.name,fun g h as r e=>(by cases e),fun g h as r iG e=>(by cases e),fun g h e=>(by cases e),fun g h as hp e h1=>(by cases h1),fun g h e=>(by cases e)⟩
 intro g args hp e h E w vs hI mK
 obtain⟨e0,hb,ov,nw,hw,ho,k,hk⟩:=N7 (C:=Dl C.P) rfl (fun _ _=>rfl) (fun _ _=>rfl) (fun _ _=>rfl) h
 exact⟨e0,((KY ok0 (fun g h=>by cases h) k).1 g args hp _ _ hk E w vs hI mK).mono fun en w' hp=>Iq hI hw ho hb hp⟩
theorem sound[ae]{C:Ctx}(bM:C.Ok):∀ k,ml C k∧fT C k∧mn C.P (fun o s=>fY C k o s)∧vo C k∧sC C.P (fun nm o fr=>iW C k nm o fr):=
 KY bM fun _ _=>Tp bM
end Go.PI
end
section
/- PI, the laws: arguments that read as data, as abstract values. -/
namespace Go.PI
open Go.ChangeShapes Go.WideShapes
def Env.all(w:World):Env where
 ρ:=fun _ _=>none
 m:=fun b=>match w.heap[b]? with|some (.cells c _ _)=>some c|_=>none
 L:=0
 own:=fun _=>False
theorem NA[ae](w:World)(hg:nq (Env.all w)):Inv (Env.all w) [] w where
 len:=rfl
 objs:=by intro n o h; simp at h
 free:=by intro n aq h; simp at h
 inj:=by rintro n n' b ⟨o,l,h,_⟩; simp at h
 mem:=by
  grind[Env.all]
 pw:=by intro b h; exact h.elim
 jV:=hg
def Shape(P:Program):Nat→TypeId→List AV→Prop
 |0,_,_=>False
 |k+1,t,l=>
  match P.underlying t with
  |some .bool=>∃ b,l=[.lit (.bool b)]
  |some (.int i)=>∃ n,l=[.lit (.int i n)]∧(Lit.int i n).wf=true
  |some .string=>∃ s:ByteArray,l=[.lit (.string s)]∧s.size≤maxLen
  |some (.slice e)=>∃ xs,l=[.sl xs]∧xs.length≤maxLen∧∀ x∈xs,∃ cl,(match P.underlying e with
    |some d=>if ei d then x=.agg cl else cl=[x]
    |none=>False)∧Shape P k e cl
  |some (.struct fs)=>l.length=P.cellsOf t∧∀ f∈fs.toList,Shape P k f.type ((l.drop f.offset).take (P.cellsOf f.type))
  |some (.array n e)=>l.length=P.cellsOf t∧∀ i,i<n→Shape P k e ((l.drop (i*P.cellsOf e)).take (P.cellsOf e))
  |_=>False
def wk(P:Program):Nat→List Field→Option Nat
 |o,[]=>some o
 |o,f::r=>if f.offset=o then wk P (o+P.cellsOf f.type) r else none
def xU(P:Program):Nat→TypeId→Bool
 |0,_=>false
 |k+1,t=>
  match P.underlying t with
  |some .bool|some (.int _)|some .string=>decide (P.cellsOf t=1)
  |some (.slice e)=>decide (P.cellsOf t=1)&&decide (0<P.cellsOf e)&&xU P k e
  |some (.struct fs)=>decide (wk P 0 fs.toList=some (P.cellsOf t))&&fs.toList.all fun f=>xU P k f.type
  |some (.array n e)=>decide (n*P.cellsOf e=P.cellsOf t)&&xU P k e
  |_=>false
theorem mapM_some{α β:Type}{f:α→Option β}:∀ {l:List α} {r:List β},l.mapM f=some r→r.length=l.length∧∀ (i:Nat) (x:α),l[i]?=some x→∃ y,r[i]?=some y∧f x=some y
 |[],r,h=>by
  simp_all
 |a::l,r,h=>by
  simp only[List.mapM_cons,Option.pure_def,Option.bind_eq_bind]at h
  cases hq:f a with
  |none=>rw[hq]at h; simp at h
  |some b=>
   rw[hq]at h
   simp only[Option.bind_some]at h
   cases eC:l.mapM f with
   |none=>rw[eC]at h; simp at h
   |some bs=>
    rw[eC]at h
    simp only[Option.bind_some,Option.some.injEq]at h
    subst h
    obtain⟨h1,h2⟩:=mapM_some eC
    refine⟨by simp[h1],fun i x hx=>?_⟩
    cases i with
    |zero=>simp_all
    |succ i=>simp_all
theorem aI.append{E:Env}{o:Bool}{l l':List AV}{c c':List Value}(h:aI E o l c)(h':aI E o l' c'):aI E o (l++l') (c++c'):=
 aI.of (h.Gw.append h'.Gw) fun v hv=>by
  rcases List.mem_append.1 hv with h1|h1
  ·exact h.leaf v h1
  ·exact h'.leaf v h1
theorem HT[ae]{w:World}{base:Nat}{a:Addr}{n:Nat}{l:List Value}(h:w.cells? base a n=some l):l.length=n∧∀ q v,l[q]?=some v→w.cell? (a.add q)=some v:=by
 unfold World.cells? at h
 split at h
 case isFalse=>simp at h
 obtain⟨h1,h2⟩:=mapM_some h
 simp only[List.length_range]at h1
 refine⟨h1,fun q v hq=>?_⟩
 have bE:=aL hq
 obtain⟨y,hy,hf⟩:=h2 q q (by rw[List.getElem?_range (by omega)])
 rw[hq]at hy
 cases hy
 exact hf
theorem Ag{P:Program}:∀ (fs:List Field) (o n:Nat),wk P o fs=some n→o≤n
 |[],o,n,h=>by simp only[wk,Option.some.injEq]at h; omega
 |f::r,o,n,h=>by
  simp only[wk]at h
  split at h
  case isFalse=>simp at h
  have:=Ag r _ n h; omega
theorem CG[ae]{E:Env}{P:Program}{S:Field→List AV→Prop}:∀ (fs:List Field) (o n:Nat) (cs:List Value),wk P o fs=some n→cs.length=n →
  (∀ f∈fs,∃ l,aI E false l ((cs.drop f.offset).take (P.cellsOf f.type))∧S f l) →
  ∃ l,aI E false l (cs.drop o)∧∀ f∈fs,o≤f.offset∧S f ((l.drop (f.offset-o)).take (P.cellsOf f.type))
 |[],o,n,cs,h,hl,_=>by
  simp only[wk,Option.some.injEq]at h
  refine⟨[],?_,by simp⟩
  rw[List.drop_eq_nil_of_le (by omega)]
  simp[aI]
 |f::r,o,n,cs,h,hl,hf=>by
  simp only[wk]at h
  split at h
  case isFalse=>simp at h
  rename_i ho
  have u7:=Ag r _ n h
  obtain⟨l1,h1,h2⟩:=hf f (by simp)
  obtain⟨l2,h3,h4⟩:=CG r (o+P.cellsOf f.type) n cs h hl (fun g hg=>hf g (by simp[hg]))
  have GG:l1.length=P.cellsOf f.type:=by rw[h1.length]; simp; omega
  refine⟨l1++l2,?_,fun g hg=>?_⟩
  ·have:cs.drop o=(cs.drop f.offset).take (P.cellsOf f.type)++cs.drop (o+P.cellsOf f.type):=by
    rw[ho,←List.drop_drop,List.take_append_drop]
   rw[this]
   exact h1.append h3
  ·cases hg with
   |head=>
    simp_all
   |tail _ hg=>
    obtain⟨h5,h6⟩:=h4 g hg
    refine⟨by omega,?_⟩
    have:(l1++l2).drop (g.offset-o)=l2.drop (g.offset-(o+P.cellsOf f.type)):=by
     rw[List.drop_append,List.drop_eq_nil_of_le (by omega),List.nil_append,GG]
     congr 1; omega
    rw[this]
    exact h6
theorem CH[ae]{E:Env}{size:Nat}{S:List AV→Prop}:∀ (n:Nat) (cs:List Value),cs.length=n*size →
  (∀ i,i<n→∃ l,aI E false l ((cs.drop (i*size)).take size)∧S l)→∃ l,aI E false l cs∧∀ i,i<n→S ((l.drop (i*size)).take size)
 |0,cs,h,_=>by
  have:cs=[]:=List.eq_nil_of_length_eq_zero (by simpa using h)
  subst this
  exact⟨[],by simp[aI],by simp⟩
 |n+1,cs,h,hf=>by
  rw[Nat.succ_mul]at h
  obtain⟨l1,h1,h2⟩:=hf 0 (by omega)
  simp only[Nat.zero_mul,List.drop_zero]at h1
  obtain⟨l2,h3,h4⟩:=CH (size:=size) (S:=S) n (cs.drop size) (by rw[List.length_drop,h]; omega) (fun i hi=>by
   obtain⟨l,ha,hb⟩:=hf (i+1) (by omega)
   refine⟨l,?_,hb⟩
   rw[List.drop_drop]
   have:size+i*size=(i+1)*size:=by rw[Nat.succ_mul]; omega
   rw[this]; exact ha)
  have GG:l1.length=size:=by rw[h1.length]; simp; omega
  refine⟨l1++l2,?_,fun i hi=>?_⟩
  ·have:cs=cs.take size++cs.drop size:=(List.take_append_drop size cs).symm
   rw[this]
   exact h1.append h3
  ·cases i with
   |zero=>simp_all
   |succ i=>
    have e1:(i+1)*size=size+i*size:=by rw[Nat.succ_mul]; omega
    rw[e1,List.drop_append,List.drop_eq_nil_of_le (by omega),List.nil_append,GG]
    have e2:size+i*size-size=i*size:=by omega
    rw[e2]
    exact h4 i (by omega)
theorem CI{P:Program}{k:Nat}{t:TypeId}{d:TypeDesc}(hu:P.underlying t=some d)(bM:xU P k t=true)(ha:ei d=false):P.cellsOf t=1:=by
 cases k with
 |zero=>simp[xU]at bM
 |succ k=>
  simp only[xU,hu]at bM
  cases d with
  |bool=>simpa using bM
  |int _=>simpa using bM
  |string=>simpa using bM
  |slice e=>simp only[Bool.and_eq_true,decide_eq_true_eq]at bM; exact bM.1.1
  |struct _=>simp[ei]at ha
  |array _ _=>simp[ei]at ha
  |_=>simp at bM
theorem GH[ae]{H:Type}{enc:TypeId×Value→H}{P:Program}{w:World}{base:Nat}{spare:Nat→Bool}{held:Bool}:∀ (fuel k:Nat) (t:TypeId) (cs:List Value) (r:DataW H×List MemPlace),
  xU P k t=true→DataW.trod enc P w base spare held fuel t cs=some r→∃ l,aI (Env.all w) false l cs∧Shape P k t l:=by
 intro fuel
 induction fuel with
 |zero=>intro k t cs r _ h; simp[DataW.trod]at h
 |succ fuel ih=>
  intro k t cs r bM h
  cases k with
  |zero=>simp[xU]at bM
  |succ k=>
   have Z0:=bM
   simp only[xU]at bM
   cases hu:P.underlying t with
   |none=>rw[hu]at bM; simp at bM
   |some d=>
    rw[hu]at bM
    cases d with
    |bool=>
     obtain⟨b,rfl,_⟩:=DataW.trod_bool hu h
     exact⟨[.lit (.bool b)],by simp[aI,aj,Value.oneCell'],by simp only[Shape,hu]; exact⟨b,rfl⟩⟩
    |int i=>
     obtain⟨n,rfl,_,hw⟩:=DataW.trod_int hu h
     exact⟨[.lit (.int i n)],by simp[aI,aj,Value.oneCell'],by simp only[Shape,hu]; exact⟨n,rfl,hw⟩⟩
    |string=>
     obtain⟨s,rfl,_,hw⟩:=DataW.trod_string hu h
     exact⟨[.lit (.string s)],by simp[aI,aj,Value.oneCell'],by simp only[Shape,hu]; exact⟨s,rfl,hw⟩⟩
    |slice e=>
     simp only[Bool.and_eq_true,decide_eq_true_eq]at bM
     obtain⟨⟨_,cH⟩,HU⟩:=bM
     obtain⟨de,YI⟩:∃ de,P.underlying e=some de:=by
      cases k with
      |zero=>simp[xU]at HU
      |succ k=>
       simp only[xU]at HU
       cases hq:P.underlying e with
       |none=>rw[hq]at HU; simp at HU
       |some de=>exact⟨de,rfl⟩
     rcases DataW.trod_slice hu h with ⟨rfl,_⟩|⟨a,len,cap,elems,rest,n,hn,rfl,_,hb,EJ,Sl,xg,J0,_,_⟩
     ·refine⟨[.sl []],?_,?_⟩
      ·simp only[aI,aj]
       exact⟨⟨none,0,rfl,by simp,fun _=>rfl,.inl trivial⟩,rfl,trivial⟩
      ·simp only[Shape,hu]; exact⟨[],rfl,by simp,by simp⟩
     ·have Cl:n=fuel:=by omega
      subst Cl
      have one:∀ i,i<len→∃ x:AV,∃ v cl,aj (Env.all w) false x v∧v.cells.size=P.cellsOf e∧(∀ q u,v.cells.toList[q]?=some u→w.cell? ((a.add (i*P.cellsOf e)).add q)=some u) ∧
        (∀ u∈v.cells.toList,iX u=true)∧(if ei de then x=.agg cl else cl=[x])∧Shape P k e cl:=by
       intro i hi
       have h1:=J0 i hi
       have h2:elems[i]?=some elems[i]:=by simp[xg,hi]
       rw[h2]at h1
       cases hc:w.cells? base (a.add (i*P.cellsOf e)) (P.cellsOf e) with
       |none=>rw[hc]at h1; simp at h1
       |some ce=>
        rw[hc]at h1
        simp only[Option.bind_some]at h1
        obtain⟨cl,h3,h4⟩:=ih k e ce _ HU h1
        obtain⟨h5,h6⟩:=HT hc
        cases pg:ei de with
        |true=>
         refine⟨.agg cl,.agg ce.toArray,cl,h3.toArray,by simp[Value.cells,h5],fun q u hq=>h6 q u (by simpa[Value.cells] using hq),?_,by simp,h4⟩
         intro u M4
         exact h3.leaf u (by simpa[Value.cells] using M4)
        |false=>
         have h7:=CI YI HU pg
         rw[h7]at h5
         match ce,h5,h3 with
         |[v],_,h3=>
          match cl,h3 with
          |[x],h3=>
           simp only[aI]at h3
           have Qs:=gn h3.2.1
           refine⟨x,v,[x],h3.1,by rw[Qs,h7]; rfl,fun q u hq=>h6 q u (by rw[Qs]at hq; simpa using hq),?_,by simp,h4⟩
           intro u M4
           rw[Qs]at M4
           simp at M4
           subst M4
           exact h3.2.1
          |[],h3=>simp[aI]at h3
          |_::_::_,h3=>simp[aI]at h3
         |[],h5,_=>simp at h5
         |_::_::_,h5,_=>simp at h5
      let xs:List AV:=(List.range len).map fun i=>if hi:i<len then Classical.choose (one i hi) else .any
      have Ah:∀ i x,xs[i]?=some x→∃ v cl,aj (Env.all w) false x v∧v.cells.size=P.cellsOf e ∧
        (∀ q u,v.cells.toList[q]?=some u→w.cell? ((a.add (i*P.cellsOf e)).add q)=some u) ∧
        (∀ u∈v.cells.toList,iX u=true)∧(if ei de then x=.agg cl else cl=[x])∧Shape P k e cl:=by
       intro i x hx
       have hi:=aL hx
       simp only[xs,List.length_map,List.length_range]at hi
       simp only[xs,List.getElem?_map,List.getElem?_range hi,Option.map_some,dif_pos hi,Option.some.injEq]at hx
       subst hx
       exact Classical.choose_spec (one i hi)
      have Cz:xs.length=len:=by simp[xs]
      refine⟨[.sl xs],?_,?_⟩
      ·simp only[aI,aj]
       refine⟨⟨some a,cap,by rw[Cz],by omega,by simp,?_⟩,rfl,trivial⟩
       by_cases h0:len=0
       ·left; exact List.eq_nil_of_length_eq_zero (by omega)
       ·right
        obtain⟨v,_,_,mK,Qs,_,_,_⟩:=Ah 0 xs[0] (by simp)
        have JY:=Qs 0 v.cells[0] (by simp)
        simp only[Nat.zero_mul]at JY
        have SS:(a.add 0).add 0=a:=rfl
        rw[SS]at JY
        obtain⟨b,o,sp⟩:=a
        simp only[World.cell?]at JY
        split at JY
        case h_2=>simp at JY
        rename_i c T fz ft
        split at JY
        ·simp at JY
        rename_i Sm
        have VW:sp=none:=by cases sp<;>simp_all
        subst VW
        refine⟨b,o,P.cellsOf e,c,rfl,by simp[Env.all,ft],ep.eL fun i x hx=>?_⟩
        obtain⟨v,_,hr,mK,Qs,VX,_,_⟩:=Ah i x hx
        refine⟨v,hr,mK,fun q hq=>?_,VX⟩
        have h1:=Qs q v.cells[q] (by simp)
        rw[dH,dH]at h1
        simp only[World.cell?,ft]at h1
        simp only[Option.isSome_none,Bool.false_eq_true,if_false]at h1
        rw[h1]; simp
      ·simp only[Shape,hu]
       refine⟨xs,rfl,by omega,fun x hx=>?_⟩
       obtain⟨i,hi⟩:=List.mem_iff_getElem?.1 hx
       obtain⟨v,cl,_,_,_,_,h1,h2⟩:=Ah i x hi
       exact⟨cl,by rw[YI]; exact h1,h2⟩
    |struct fs=>
     simp only[Bool.and_eq_true,decide_eq_true_eq]at bM
     obtain⟨xs,n,hn,_,hl,Cz,hf⟩:=DataW.trod_struct hu h
     have Cl:n=fuel:=by omega
     subst Cl
     obtain⟨l,h1,h2⟩:=CG (E:=Env.all w) (S:=fun f l=>Shape P k f.type l) fs.toList 0 (P.cellsOf t) cs bM.1 hl (fun f GI=>by
      obtain⟨i,hi⟩:=List.mem_iff_getElem?.1 GI
      have uO:fs[i]?=some f:=by simpa using hi
      have h3:=hf i f uO
      have bE:i<xs.length:=by rw[Cz]; exact(Array.getElem?_eq_some_iff.1 uO).1
      rw[List.getElem?_eq_getElem bE]at h3
      exact ih k f.type _ _ (List.all_eq_true.1 bM.2 f GI) h3)
     simp only[List.drop_zero]at h1
     refine⟨l,h1,?_⟩
     simp only[Shape,hu]
     exact⟨by rw[h1.length,hl],fun f GI=>by simpa using (h2 f GI).2⟩
    |array n e=>
     simp only[Bool.and_eq_true,decide_eq_true_eq]at bM
     obtain⟨xs,m,hm,_,hl,Cz,hf⟩:=DataW.trod_array hu h
     have uQ:m=fuel:=by omega
     subst uQ
     obtain⟨l,h1,h2⟩:=CH (E:=Env.all w) (S:=fun l=>Shape P k e l) n cs (by rw[hl,bM.1]) (fun i hi=>by
      have h3:=hf i hi
      rw[List.getElem?_eq_getElem (by omega)]at h3
      exact ih k e _ _ bM.2 h3)
     refine⟨l,h1,?_⟩
     simp only[Shape,hu]
     exact⟨by rw[h1.length,hl],h2⟩
    |_=>simp at bM
end Go.PI
end
section
/- PI, the answers of code without fuel, by equations. -/
namespace Go.PI
theorem gN[ae]{α:Type}(y:Option α):kf (fun _=>y)=y:=
 lD (g:=fun _=>y) (fun _ _ h=>h) (fun _ _ h=>h) fun _ h=>⟨0,h⟩
theorem tO[ae]{α β:Type}{g:Nat→Option β}{a:Nat→Option α}{b:α→Nat→Option β}(hg:fZ g)(ha:fZ a)(hb:∀ x,fZ (b x))
  (h0:g 0=none) (h:∀ k,g (k+1)=(a k).bind fun x=>b x k):kf g=(kf a).bind fun x=>kf (b x):=by
 apply lD hg
 ·intro k x hx
  cases k with
  |zero=>rw[h0]at hx; simp at hx
  |succ k=>
   rw[h]at hx
   cases hq:a k with
   |none=>rw[hq]at hx; simp at hx
   |some y=>
    rw[hq]at hx
    rw[(bm ha).2 ⟨k,hq⟩]
    exact(bm (hb y)).2 ⟨k,hx⟩
 ·intro x hx
  cases hq:kf a with
  |none=>rw[hq]at hx; simp at hx
  |some y=>
   rw[hq]at hx
   obtain⟨k1,h1⟩:=(bm ha).1 hq
   obtain⟨k2,h2⟩:=(bm (hb y)).1 hx
   refine⟨k1+k2+1,?_⟩
   rw[h,ha.le h1 k2]
   simp only[Option.bind_some]
   rw[Nat.add_comm]
   exact(hb y).le h2 k1
theorem mY{α:Type}(y:Option α):fZ fun _=>y:=fun _ _ h=>h
theorem eW[ae]{α β:Type}{g:Nat→Option β}{a:Nat→Option α}{b:α→Option β}(hg:fZ g)(ha:fZ a)
  (h0:g 0=none) (h:∀ k,g (k+1)=(a k).bind b):kf g=(kf a).bind b:=by
 rw[tO hg ha (b:=fun x _=>b x) (fun x=>mY _) h0 h]
 congr 1; funext x; exact gN _
theorem cd[ae]{α:Type}{g:Nat→Option α}{y:Option α}(hg:fZ g)(h0:g 0=none)(h:∀ k,g (k+1)=y):kf g=y:=by
 apply lD hg
 ·intro k x hx
  cases k with
  |zero=>rw[h0]at hx; simp at hx
  |succ k=>rw[h]at hx; exact hx
 ·intro x hx; exact⟨1,by rw[h]; exact hx⟩
theorem u9[ae]{α:Type}{g a:Nat→Option α}(hg:fZ g)(ha:fZ a)(h0:g 0=none)(h:∀ k,g (k+1)=a k):kf g=kf a:=by
 have:=eW (b:=some) hg ha h0 (fun k=>by rw[h]; simp)
 rw[this]; simp
variable {C:Ctx}
theorem qO[ae](s:St):db C .skip s=some (.norm s):=cd (dZ C _ _) rfl fun _=>rfl
theorem Fe[ae](l:Nat)(s:St):db C (.label l) s=some (.norm s):=cd (dZ C _ _) rfl fun _=>rfl
theorem xW[ae](s:St):db C .ret s=some (.ret s):=cd (dZ C _ _) rfl fun _=>rfl
theorem vb[ae](id:Nat)(s:St):db C (.exit id) s=some (.exit id s):=cd (dZ C _ _) rfl fun _=>rfl
theorem Ff[ae]{b c:Code}(hc:pQ b=some c){s:St}{o:Out}(h:db C c s=some o):db C (.scope b) s=some o:=by
 obtain⟨k,hk⟩:=(bm (dZ C c s)).1 h
 exact(bm (dZ C _ s)).2 ⟨k+1,by simp only[cb,hc]; exact hk⟩
noncomputable def andThen[ae](C:Ctx)(b:Code):Out→Option Out
 |.norm s=>db C b s
 |r=>some r
theorem iu[ae](a b:Code)(s:St):db C (.seq a b) s=(db C a s).bind (andThen C b):=by
 have h:=tO (dZ C (.seq a b) s) (dZ C a s) (b:=fun x k=>match x with|.norm s'=>cb C k b s'|r=>some r)
  (fun x=>by cases x with
    |norm s'=>exact dZ C b s'
    |_=>exact mY _) (by simp[cb]) (fun k=>by
     simp only[cb]
     cases hq:cb C k a s with
     |none=>rfl
     |some r=>cases r<;>rfl)
 unfold db at h ⊢
 rw[h]
 congr 1
 funext x
 cases x with
 |norm s'=>rfl
 |_=>exact gN _
noncomputable def U6[ae](C:Ctx)(a b:Code)(s:St):AV→Option Out
 |.lit (.bool t)=>cond t (db C a s) (db C b s)
 |_=>none
theorem lP[ae](o:Operand)(a b:Code)(s:St):db C (.cond o a b) s=U6 C a b s (aB s.fr o):=by
 unfold U6
 split
 ·rename_i t ht
  cases t with
  |true=>exact u9 (dZ C _ _) (dZ C _ _) (by simp[cb]) fun k=>by simp only[cb]; rw[ht]
  |false=>exact u9 (dZ C _ _) (dZ C _ _) (by simp[cb]) fun k=>by simp only[cb]; rw[ht]
 ·rename_i hn
  refine cd (dZ C _ _) (by simp[cb]) fun k=>?_
  simp only[cb]
def vf(id:Nat):Out→Option Out
 |.exit i s=>if i=id then some (.norm s) else some (.exit i s)
 |r=>some r
theorem mf[ae](id:Nat)(b:Code)(s:St):db C (.block id b) s=(db C b s).bind (vf id):=by
 refine eW (dZ C _ _) (dZ C _ _) (by simp[cb]) fun k=>?_
 simp only[cb]
 cases hq:cb C k b s with
 |none=>rfl
 |some r=>cases r<;>rfl
noncomputable def J4[ae](C:Ctx)(b:Code)(n:Nat):Out→Option Out
 |.norm s=>db C (.loop b) (ib n s)
 |r=>some r
theorem nR[ae](b:Code)(s:St):db C (.loop b) s=(db C b s).bind (J4 C b s.hp.length):=by
 have h:=tO (dZ C (.loop b) s) (dZ C b s) (b:=fun x k=>match x with|.norm s'=>cb C k (.loop b) (ib s.hp.length s')|r=>some r)
  (fun x=>by cases x with
    |norm s'=>exact dZ C (.loop b) (ib s.hp.length s')
    |_=>exact mY _) (by simp[cb]) (fun k=>by
     rw[cb]
     cases hq:cb C k b s with
     |none=>rfl
     |some r=>cases r<;>rfl)
 unfold db at h ⊢
 rw[h]
 congr 1
 funext x
 cases x with
 |norm s'=>rfl
 |_=>exact gN _
theorem eF[ae](ops:Array Oper)(l:List Oper)(s:St):fZ fun k=>cR (fun o s=>fY C k o s) ops l s:=
 fun k x h=>ja (fun o s r h=>(mono C k).o o s r h) ops l s x h
theorem kg[ae](ops:Array Oper):∀ (l:List Oper) (s:St),kf (fun k=>cR (fun o s=>fY C k o s) ops l s)=cR (iL C) ops l s
 |[],s=>gN _
 |o::l,s=>by
  simp only[cR]
  cases hw:cS ops s.fr o with
  |none=>exact gN _
  |some b=>
   cases b with
   |false=>exact kg ops l _
   |true=>
    simp only
    apply lD
    ·intro k x hx
     have hm:=jX C o s
     simp only at hx ⊢
     cases hq:fY C k o s with
     |none=>rw[hq]at hx; simp at hx
     |some r=>
      rw[hq]at hx
      have r8:=hm k r hq
      simp only at hx r8 ⊢
      rw[r8]
      cases r with
      |norm s'=>exact eF ops l s' k x hx
      |_=>exact hx
    ·intro k x hx
     cases hq:fY C k o s with
     |none=>rw[hq]at hx; simp at hx
     |some r=>
      rw[hq]at hx
      have h1:iL C o s=some r:=(bm (jX C o s)).2 ⟨k,hq⟩
      rw[h1]
      cases r with
      |norm s'=>
       simp only at hx ⊢
       rw[←kg ops l s']
       exact(bm (eF ops l s')).2 ⟨k,hx⟩
      |_=>exact hx
    ·intro x hx
     cases hq:iL C o s with
     |none=>rw[hq]at hx; simp at hx
     |some r=>
      rw[hq]at hx
      obtain⟨k1,h1⟩:=(bm (jX C o s)).1 hq
      cases r with
      |norm s'=>
       simp only at hx
       rw[←kg ops l s']at hx
       obtain⟨k2,h2⟩:=(bm (eF ops l s')).1 hx
       refine⟨k1+k2,?_⟩
       rw[(jX C o s).le h1 k2]
       simp only
       rw[Nat.add_comm]
       exact(eF ops l s').le h2 k1
      |_=>exact⟨k1,by rw[h1]; exact hx⟩
theorem CM[ae](id:Nat)(ops:Array Oper)(s:St):db C (.region id ops false) s=cR (iL C) ops ops.toList (ia (C.iV s.fn id) s):=by
 rw[←kg]
 exact u9 (dZ C _ _) (eF ops _ _) (by simp[cb]) fun k=>by simp only[cb]
noncomputable def J5(C:Ctx)(rs:Array ResultVar):Out→Option (oq×ag)
 |.norm s=>((aW C.P s.fr rs.toList).run s.hp).map fun l=>(.val (cO l),s.hp)
 |.ret s=>((aW C.P s.fr rs.toList).run s.hp).map fun l=>(.val (cO l),s.hp)
 |.kv v s=>some (.kv v,s.hp)
 |_=>none
theorem Bq[ae]{f:FuncId}{fn:Func}{c:Code}(hf:C.P.funcs[f]?=some fn)(hb:fn.body=some c)(args:List AV)(hp:ag)(hD:Cu c=false:=by rfl):
  k6 C f args hp=(db C c ⟨f,args++List.replicate (fn.ntmps-args.length) .undef,hp⟩).bind (J5 C fn.results):=by
 refine eW (mW C _ _ _) (dZ C _ _) (by simp[mG]) fun k=>?_
 simp only[mG,hf,hb,hD]
 cases hq:cb C k c ⟨f,args++List.replicate (fn.ntmps-args.length) .undef,hp⟩ with
 |none=>rfl
 |some r=>
  cases r with
  |norm s=>simp only[Option.bind_some,J5]; split<;>simp_all
  |ret s=>simp only[Option.bind_some,J5]; split<;>simp_all
  |_=>rfl
theorem nS[ae]{c:Code}{s:St}{o:Out}(h:db C c s=some o):∃ k,∀ d,cb C (k+d) c s=some o:=by
 obtain⟨k,hk⟩:=(bm (dZ C c s)).1 h
 exact⟨k,(dZ C c s).le hk⟩
theorem Br[ae]:∀ (c:Code) (s:St) (r:Out×Option AV),z8 (db C) (iL C) c s=some r→∃ k,∀ d,z8 (fun c s=>cb C (k+d) c s) (fun o s=>fY C (k+d) o s) c s=some r:=by
 have leaf:∀ c s (r:Out×Option AV),((db C c s).map fun o=>(o,(none:Option AV)))=some r→∃ k,∀ d,((cb C (k+d) c s).map fun o=>(o,(none:Option AV)))=some r:=by
  intro c s r h
  cases hq:db C c s with
  |none=>rw[hq]at h; simp at h
  |some o=>
   obtain⟨k,hk⟩:=nS hq
   exact⟨k,fun d=>by rw[hk d]; rw[hq]at h; exact h⟩
 intro c
 induction c with
 |seq x y _ J2=>
  intro s r h
  simp only[z8]at h ⊢
  cases hd:tH x with
  |some q=>
   obtain⟨ops,v⟩:=q
   rw[hd]at h
   simp only at h ⊢
   split at h
   case h_2=>simp at h
   rename_i s1 hr
   rw[←kg]at hr
   obtain⟨k1,Qu⟩:=(bm (eF ops _ s)).1 hr
   have h1:=(eF (C:=C) ops _ s).le Qu
   split at h
   case h_2=>simp at h
   rename_i q cL
   cases hq:db C y s1 with
   |none=>rw[hq]at h; simp at h
   |some o=>
    obtain⟨k2,Fg⟩:=nS hq
    refine⟨k1+k2,fun d=>?_⟩
    rw[show k1+k2+d=k1+(k2+d) by omega,h1]
    simp only[cL]
    rw[show k1+(k2+d)=k2+(k1+d) by omega,Fg]
    rw[hq]at h; exact h
  |none=>
   rw[hd]at h
   simp only at h ⊢
   split at h
   ·rename_i s' hx
    obtain⟨k1,Qu⟩:=nS hx
    obtain⟨k2,Fg⟩:=J2 _ _ h
    refine⟨k1+k2,fun d=>?_⟩
    rw[show k1+k2+d=k1+(k2+d) by omega,Qu]
    have:=Fg (k1+d)
    rw[show k2+(k1+d)=k1+(k2+d) by omega]at this
    exact this
   ·rename_i o dE hx
    obtain⟨k1,Qu⟩:=nS hx
    refine⟨k1,fun d=>?_⟩
    rw[Qu d]
    cases o with
    |norm s'=>exact(dE s' rfl).elim
    |_=>exact h
   ·simp at h
 |_=>intro s r h; simp only[z8]at h ⊢; exact leaf _ _ _ h
theorem CN[ae]{P:Program}{rs:List ResultVar}{fr:List AV}{hp:ag}{d:Option AV}{r:oq×ag}(h:uW (db C) P rs fr hp d=some r):∃ k,∀ j,uW (fun c s=>cb C (k+j) c s) P rs fr hp d=some r:=by
 cases d with
 |none=>exact⟨0,fun _=>h⟩
 |some v=>
  simp only[uW]at h ⊢
  split at h
  ·simp at h
  rename_i g as cL
  split at h
  ·simp at h
  rename_i fg ND
  split at h
  ·simp at h
  rename_i cg NF
  cases hn:cJ cg with
  |false=>rw[hn]at h; simp at h
  |true=>
   rw[hn]at h
   cases hq:db C (oy cg) ⟨g,as++List.replicate (fg.ntmps-as.length) .undef,hp⟩ with
   |none=>rw[hq]at h; simp at h
   |some o=>
    obtain⟨k,hk⟩:=nS hq
    exact⟨k,fun j=>by simp only[ND,NF,hn,hk j]; rw[hq]at h; exact h⟩
theorem J6[ae]{f:FuncId}{fn:Func}{c:Code}(hf:C.P.funcs[f]?=some fn)(hb:fn.body=some c){args:List AV}{hp:ag}(hD:Cu c=true){r:oq×ag}
  (h:uX (db C) (iL C) C.P fn.results.toList c ⟨f,args++List.replicate (fn.ntmps-args.length) .undef,hp⟩=some r):k6 C f args hp=some r:=by
 suffices hs:∃ k,uX (fun c s=>cb C k c s) (fun o s=>fY C k o s) C.P fn.results.toList c ⟨f,args++List.replicate (fn.ntmps-args.length) .undef,hp⟩=some r by
  obtain⟨k,hk⟩:=hs
  exact(bm (mW C f args hp)).2 ⟨k+1,by simp only[mG,hf,hb,hD]; exact hk⟩
 unfold uX at h
 split at h
 ·rename_i s' d hn he
  obtain⟨k1,h1⟩:=Br _ _ _ he
  obtain⟨k2,h2⟩:=CN h
  refine⟨k1+k2,?_⟩
  unfold uX
  rw[h1 k2,hn]
  have:=h2 k1
  rw[show k2+k1=k1+k2 by omega]at this
  exact this
 ·rename_i s' d hn he
  obtain⟨k1,h1⟩:=Br _ _ _ he
  obtain⟨k2,h2⟩:=CN h
  refine⟨k1+k2,?_⟩
  unfold uX
  rw[h1 k2,hn]
  have:=h2 k1
  rw[show k2+k1=k1+k2 by omega]at this
  exact this
 ·rename_i v s' hn he
  obtain⟨k1,h1⟩:=Br _ _ _ he
  refine⟨k1+0,?_⟩
  unfold uX
  rw[h1 0,hn]
  exact h
 ·simp at h
def nT(hp:ag)(args:List AV)(q:oq×ag):Option (oq×List (Nat×aP)):=(gL args q.2 q.1).run hp
theorem NG[ae](g:FuncId)(hi:C.kY g=none)(args:List AV)(hp:ag):
  J3 C g args hp=((aQ 1000 args).run hp).bind fun as=>(k6 C g as []).bind (nT hp args):=by
 have h1:∀ k,(lO C (k+1) g args).run hp=((aQ 1000 args).run hp).bind fun as=>(mG C k g as []).bind (nT hp args):=by
  intro k
  rw[lO,RM.run_bind]
  congr 1
  funext as
  rw[hi]
  simp only
  cases hq:mG C k g as [] with
  |none=>rfl
  |some q=>rfl
 cases hs:(aQ 1000 args).run hp with
 |none=>exact cd (CL C _ _ _) (by simp[lO,RM.af]) fun k=>by rw[h1,hs]; rfl
 |some as=>
  refine eW (CL C _ _ _) (mW C g as []) (by simp[lO,RM.af]) fun k=>?_
  rw[h1,hs]; rfl
theorem HY[ae](g:FuncId){h:List AV→Option AV}(hi:C.kY g=some h)(args:List AV)(hp:ag):
  J3 C g args hp=((aQ 1000 args).run hp).bind fun as=>(h as).bind fun r=>nT hp args (.val r,[]):=by
 refine cd (CL C _ _ _) (by simp[lO,RM.af]) fun k=>?_
 rw[lO,RM.run_bind]
 congr 1
 funext as
 rw[hi]
 simp only
 cases hq:h as with
 |none=>rfl
 |some q=>rfl
def J7(o:Oper)(s:St):oq×List (Nat×aP)→Option Out
 |(.val r,wr)=>some (.norm { s with fr:=bJ s.fr o.dst r,hp:=ak s.hp wr })
 |(.kv v,wr)=>some (.kv v { s with hp:=ak s.hp wr })
def GK(o:Oper)(s:St):oq×ag→Option Out
 |(.val r,hp)=>some (.norm { s with fr:=bJ s.fr o.dst r,hp:=ic s.hp.length r hp })
 |(.kv v,hp)=>some (.kv v { s with hp:=ic s.hp.length v hp })
def hJ(o:Oper)(s:St)(e:dK):Option Out:=some (.norm { s with fr:=bJ s.fr o.dst e.val,hp:=ak s.hp e.wr })
def pW(nm:Nat)(lg:List Nat)(hp:ag):oq×ag→Option (dK×List Nat)
 |(.val r,iG)=>((gm nm r iG).run hp).map fun e=>(e,lg)
 |_=>none
noncomputable def Fh[ae](C:Ctx)(nm:Nat)(g:FuncId)(args:List AV)(hp:ag):Option (dK×List Nat):=
 ((aQ 1000 args).run hp).bind fun as=>match C.jw g with
   |some h=>(h as).bind fun q=>((gm nm q.1 q.2).run hp).map fun e=>(e,(aQ 1000 args).log hp)
   |none=>(k6 C g as []).bind (pW nm ((aQ 1000 args).log hp) hp)
theorem xX{nm:Nat}{r:AV}{iG hp:ag}:(gm nm r iG).log hp=[]:=by
 unfold gm
 split
 ·split
  ·split<;>rfl
  ·rfl
 ·rfl
theorem Al[ae]{F:List AV→Option (oq×ag)}{nm:Nat}{g:FuncId}{args:List AV}{hp:ag}:
  ((iI C F nm g args).run hp).map (fun e=>(e,(iI C F nm g args).log hp))=((aQ 1000 args).run hp).bind fun as=>match C.jw g with
    |some h=>(h as).bind fun q=>((gm nm q.1 q.2).run hp).map fun e=>(e,(aQ 1000 args).log hp)
    |none=>(F as).bind (pW nm ((aQ 1000 args).log hp) hp):=by
 unfold iI
 rw[RM.run_bind,RM.eV]
 cases hs:(aQ 1000 args).run hp with
 |none=>rfl
 |some as=>
  simp only[Option.bind_some]
  cases hi:C.jw g with
  |some h=>
   simp only
   cases hh:h as with
   |none=>rfl
   |some q=>simp only[Option.bind_some,xX,List.append_nil]
  |none=>
   simp only
   cases hq:F as with
   |none=>rfl
   |some q=>
    obtain⟨r,iG⟩:=q
    cases r with
    |val v=>simp only[Option.bind_some,pW,xX,List.append_nil]
    |kv v=>rfl
theorem Fi[ae]{F:List AV→Option (oq×ag)}{nm:Nat}{g:FuncId}{args:List AV}{hp:ag}:
  (iI C F nm g args).run hp=(((aQ 1000 args).run hp).bind fun as=>match C.jw g with
    |some h=>(h as).bind fun q=>((gm nm q.1 q.2).run hp).map fun e=>(e,(aQ 1000 args).log hp)
    |none=>(F as).bind (pW nm ((aQ 1000 args).log hp) hp)).map Prod.fst:=by
 rw[←Al]
 cases (iI C F nm g args).run hp<;>rfl
noncomputable def r9[ae](C:Ctx)(o:Oper)(s:St):FuncId×List AV→Option Out
 |(g,args)=>match au o.op with
  |true=>(Fh C s.hp.length g args s.hp).bind fun q=>hJ o s q.1
  |false=>match C.kind g with
   |.pure=>(J3 C g args s.hp).bind (J7 o s)
   |.imp=>(k6 C g args s.hp).bind (GK o s)
theorem CO{run:Code→St→Option Out}{ev:Nat→Code→St→Option Out}(hg:∀ c s,fZ fun k=>ev k c s)(hl:∀ c s r,run c s=some r→∃ k,ev k c s=some r)
  {n:Nat} {args:List AV} {dst:Option Tmp} {s:St} {r:Out} (hy:ie run n args dst s=some r):∃ k,ie (ev k) n args dst s=some r:=by
 unfold ie at hy ⊢
 split at hy
 case h_2=>simp at hy
 rename_i fn ps as bd fr ho
 split at hy
 case h_2=>simp at hy
 rename_i hc
 split at hy
 case h_2=>simp at hy
 rename_i s1 h1
 obtain⟨k1,e1⟩:=hl _ _ _ h1
 split at hy
 case h_2=>simp at hy
 rename_i h2
 have two:∀ o,run bd { s1 with hp:=pd s1.hp n .busy }=some o→∃ k,ev k as ⟨fn,fX fr ps.toList args,s.hp⟩=some (.norm s1)∧ev k bd { s1 with hp:=pd s1.hp n .busy }=some o:=by
  intro o h3
  obtain⟨k2,e2⟩:=hl _ _ _ h3
  exact⟨k1+k2,(hg _ _).le e1 k2,by rw[Nat.add_comm]; exact(hg _ _).le e2 k1⟩
 split at hy
 ·rename_i s2 h3
  obtain⟨k,a,b⟩:=two _ h3
  exact⟨k,by simp only[a,h2,b]; exact hy⟩
 ·rename_i id s2 h3
  obtain⟨k,a,b⟩:=two _ h3
  exact⟨k,by simp only[a,h2,b]; exact hy⟩
 ·rename_i s2 h3
  obtain⟨k,a,b⟩:=two _ h3
  exact⟨k,by simp only[a,h2,b]; exact hy⟩
 ·simp at hy
noncomputable def J8[ae](C:Ctx)(o:Oper)(s:St)(args:List AV):AV→Option Out
 |.mp true n=>ie (fun c s=>db C c s) n args o.dst s
 |_=>none
noncomputable def oE[ae](C:Ctx)(o:Oper)(s:St)(args:List AV)(fv:AV):Option (FuncId×List AV)→Option Out
 |some q=>r9 C o s q
 |none=>J8 C o s args fv
noncomputable def SW[ae](s:St):oq×ag→Option Out
 |(.val _,xe)=>we s s.hp.length xe
 |_=>none
theorem Fj[ae](f:Operand)(ps:Array Tmp)(as bd:Code)(s:St):db C (.rangeFunc f ps as bd) s =
  (bH (aB s.fr f) [.mp true s.hp.length]).bind fun q=>(k6 C q.1 q.2 (s.hp++[some (.gI (.loop s.fn ps as bd .ready) (uV as bd s.fr))])).bind (SW s):=by
 cases hr:bH (aB s.fr f) [.mp true s.hp.length] with
 |none=>exact cd (dZ C _ _) (by simp[cb]) fun k=>by simp only[cb,hr]; rfl
 |some q=>
  obtain⟨g,args⟩:=q
  simp only[Option.bind_some]
  refine eW (dZ C _ _) (mW C g args _) (by simp[cb]) fun k=>?_
  simp only[cb,hr]
  cases hq:mG C k g args (s.hp++[some (.gI (.loop s.fn ps as bd .ready) (uV as bd s.fr))]) with
  |none=>rfl
  |some q=>obtain⟨r,xe⟩:=q; cases r<;>rfl
theorem nU[ae]{dst:Option Tmp}{f:Operand}{args:Array Operand}{mR:Array TypeId}{type:TypeId}{pos:String}{after:Array Edge}{guard:Option (Nat×Bool)}(s:St):
  iL C ⟨dst,.call ⟨.value f,args,mR⟩,type,pos,after,guard⟩ s=oE C ⟨dst,.call ⟨.value f,args,mR⟩,type,pos,after,guard⟩ s (args.toList.map (aB s.fr)) (aB s.fr f)
   (bH (aB s.fr f) (args.toList.map (aB s.fr))):=by
 cases hr:bH (aB s.fr f) (args.toList.map (aB s.fr)) with
 |none=>
  simp only[oE,J8]
  split
  ·rename_i n hn
   have dY:∀ k,fY C (k+1) ⟨dst,.call ⟨.value f,args,mR⟩,type,pos,after,guard⟩ s=ie (fun c s=>cb C k c s) n (args.toList.map (aB s.fr)) dst s:=fun k=>by simp only[fY,hr]; rw[hn]
   apply lD (jX C _ _)
   ·intro k x hx
    cases k with
    |zero=>simp[fY]at hx
    |succ k=>
     rw[dY]at hx
     exact wo (fun c s r h=>(bm (dZ C c s)).2 ⟨k,h⟩) hx
   ·intro x hx
    obtain⟨k,hk⟩:=CO (fun c s=>dZ C c s) (fun c s r h=>(bm (dZ C c s)).1 h) hx
    exact⟨k+1,by rw[dY]; exact hk⟩
  ·rename_i dE
   refine cd (jX C _ _) (by simp[fY]) fun k=>?_
   simp only[fY,hr]
 |some q=>
  obtain⟨g,as⟩:=q
  simp only[oE,r9]
  cases pV:au (Op.call ⟨.value f,args,mR⟩) with
  |true=>
   have dY:∀ k,fY C (k+1) ⟨dst,.call ⟨.value f,args,mR⟩,type,pos,after,guard⟩ s =
     (((aQ 1000 as).run s.hp).bind fun oF=>match C.jw g with
       |some h=>(h oF).bind fun q=>((gm s.hp.length q.1 q.2).run s.hp).map fun e=>(e,(aQ 1000 as).log s.hp)
       |none=>(mG C k g oF []).bind (pW s.hp.length ((aQ 1000 as).log s.hp) s.hp)).bind fun q=>hJ ⟨dst,.call ⟨.value f,args,mR⟩,type,pos,after,guard⟩ s q.1:=by
    intro k
    simp only[fY,hr,pV,Fi]
    cases (((aQ 1000 as).run s.hp).bind fun oF=>match C.jw g with
      |some h=>(h oF).bind fun q=>((gm s.hp.length q.1 q.2).run s.hp).map fun e=>(e,(aQ 1000 as).log s.hp)
      |none=>(mG C k g oF []).bind (pW s.hp.length ((aQ 1000 as).log s.hp) s.hp))<;>rfl
   simp only[Fh]
   cases hs:(aQ 1000 as).run s.hp with
   |none=>exact cd (jX C _ _) (by simp[fY]) fun k=>by rw[dY,hs]; rfl
   |some oF=>
    simp only[Option.bind_some]
    cases hi:C.jw g with
    |some h=>exact cd (jX C _ _) (by simp[fY]) fun k=>by rw[dY,hs]; simp only[Option.bind_some,hi]
    |none=>
     simp only[Option.bind_assoc]
     refine eW (jX C _ _) (mW C g oF []) (by simp[fY]) fun k=>?_
     rw[dY,hs]
     simp only[Option.bind_some,hi,Option.bind_assoc]
  |false=>
  simp only
  cases hk:C.kind g with
  |pure=>
   refine eW (jX C _ _) (CL C g as s.hp) (by simp[fY]) fun k=>?_
   simp only[fY,hr,pV,hk]
   cases hq:(lO C k g as).run s.hp with
   |none=>rfl
   |some q=>obtain⟨r,wr⟩:=q; cases r<;>rfl
  |imp=>
   refine eW (jX C _ _) (mW C g as s.hp) (by simp[fY]) fun k=>?_
   simp only[fY,hr,pV,hk]
   cases hq:mG C k g as s.hp with
   |none=>rfl
   |some q=>obtain⟨r,wr⟩:=q; cases r<;>rfl
theorem Am[ae]{dst:Option Tmp}{rv:Operand}{name:String}{args:Array Operand}{mR:Array TypeId}{type:TypeId}{pos:String}{after:Array Edge}{guard:Option (Nat×Bool)}(s:St):
  iL C ⟨dst,.call ⟨.invoke rv name,args,mR⟩,type,pos,after,guard⟩ s=(pN C.P (aB s.fr rv) name).bind fun q=>r9 C ⟨dst,.call ⟨.invoke rv name,args,mR⟩,type,pos,after,guard⟩ s (q.1,q.2::args.toList.map (aB s.fr)):=by
 cases hr:pN C.P (aB s.fr rv) name with
 |none=>exact cd (jX C _ _) (by simp[fY]) fun k=>by simp only[fY,hr]; rfl
 |some q=>
  obtain⟨g,x⟩:=q
  simp only[Option.bind_some,r9]
  have pV:au (Op.call ⟨.invoke rv name,args,mR⟩)=false:=rfl
  rw[pV]
  simp only
  cases hk:C.kind g with
  |pure=>
   refine eW (jX C _ _) (CL C g _ s.hp) (by simp[fY]) fun k=>?_
   simp only[fY,hr,hk]
   cases hq:(lO C k g (x::args.toList.map (aB s.fr))).run s.hp with
   |none=>rfl
   |some q=>obtain⟨r,wr⟩:=q; cases r<;>rfl
  |imp=>
   refine eW (jX C _ _) (mW C g _ s.hp) (by simp[fY]) fun k=>?_
   simp only[fY,hr,hk]
   cases hq:mG C k g (x::args.toList.map (aB s.fr)) s.hp with
   |none=>rfl
   |some q=>obtain⟨r,wr⟩:=q; cases r<;>rfl
def qP:Op→Bool
 |.call c=>match c.callee with
  |.builtin _=>true
  |_=>false
 |.assign (.const (.slice none 0 0))=>false
 |_=>true
def GL(C:Ctx)(o:Oper)(s:St)(e:dK):Option Out:=some (.norm (Ct (match o.op with|.call _=>fun _=>[]|_=>C.rL s.fn) o.dst { s with fr:=bJ s.fr o.dst e.val,hp:=ak s.hp e.wr }))
theorem xY{dst:Option Tmp}{s:St}:Ct (fun _=>[]) dst s=s:=by cases dst<;>rfl
theorem xZ[ae]{o:Oper}(h:qP o.op=true)(s:St):iL C o s=((aO C.P s.hp.length (aB s.fr) o).run s.hp).bind (GL C o s):=by
 refine cd (jX C _ _) (by simp[fY]) fun k=>?_
 obtain⟨dst,op,type,pos,after,guard⟩:=o
 rw[fY]
 split
 ·grind[GL,xY,qP]
 ·simp_all[qP]
 ·grind[GL]
class kh(C:Ctx):Prop where
 h:C.rL=fun _ _=>[]
 iV:C.iV=fun _ _=>[]
theorem ff[ae][kh C]{o:Oper}(h:qP o.op=true)(s:St):iL C o s=((aO C.P s.hp.length (aB s.fr) o).run s.hp).bind (hJ o s):=by
 rw[xZ h]
 congr 1
 funext e
 have hl:(match o.op with|.call _=>fun _=>[]|_=>C.rL s.fn)=fun _=>[]:=by
  rw[kh.h (C:=C)]; cases o.op<;>rfl
 simp only[GL,hl,xY,hJ]
theorem J9[ae]{dst:Tmp}{type:TypeId}{pos:String}{after:Array Edge}{guard:Option (Nat×Bool)}(s:St):
  iL C ⟨some dst,.assign (.const (.slice none 0 0)),type,pos,after,guard⟩ s =
   cond (C.acc s.fn dst) ((aR C.P type).bind fun r=>if 0<r.size then some (.norm { s with fr:=s.fr.set dst (.bu r.size s.hp.length 0 0 0 none),hp:=s.hp++[some (.arr true true false [])] }) else none)
    (some (.norm { s with fr:=s.fr.set dst (.lit cX) })):=by
 refine cd (jX C _ _) (by simp[fY]) fun k=>?_
 simp only[fY]
 cases C.acc s.fn dst with
 |true=>
  simp only[if_true,cond_true]
  cases aR C.P type<;>rfl
 |false=>rfl
end Go.PI
end
section
/- PI, drawn regions without fuel. -/
namespace Go.PI
variable {C:Ctx}
noncomputable def CP[ae](C:Ctx)(nm:Nat)(o:Oper)(fr:List AV)(hp:ag):Option (dK×List Nat):=
 kf fun k=>((iW C k nm o fr).run hp).map fun e=>(e,(iW C k nm o fr).log hp)
theorem GM[ae](C:Ctx)(nm:Nat)(o:Oper)(fr:List AV)(hp:ag):fZ fun k=>((iW C k nm o fr).run hp).map fun e=>(e,(iW C k nm o fr).log hp):=by
 intro k x h
 simp only at h ⊢
 cases hq:(iW C k nm o fr).run hp with
 |none=>rw[hq]at h; simp at h
 |some e=>
  obtain⟨h1,h2⟩:=(mono C k).e nm o fr hp e hq
  rw[hq]at h
  rw[h1,h2]
  exact h
def Qv[ae](x:Item)(s:St):dK×List Nat→Option (St×fS)
 |(e,lg)=>
  if e.wr.all (fun q=>decide (q.1<s.hp.length)&&((au x.o.op&&decide (q.1=x.nm))||(match s.hp[q.1]? with|some (some _)=>true|_=>false)))=true then
   some ({ s with fr:=bJ s.fr x.o.dst e.val,hp:=ak s.hp e.wr },⟨x.idx,lg,e.wr.map (·.1)⟩)
  else none
noncomputable def CQ[ae](C:Ctx)(ops:Array Oper)(x:Item)(s:St):Option (St×fS):=
 match cS ops s.fr x.o with
 |none=>none
 |some false=>some ({ s with fr:=bJ s.fr x.o.dst .undef },⟨x.idx,[],[]⟩)
 |some true=>(CP C (x.at s.hp.length) x.o s.fr s.hp).bind (Qv x s)
noncomputable def tP[ae](C:Ctx)(ops:Array Oper):List Item→St→Option (St×List fS)
 |[],s=>some (s,[])
 |x::rest,s=>(CQ C ops x s).bind fun q=>(tP C ops rest q.1).map fun q'=>(q'.1,q.2::q'.2)
theorem x5[ae](ops:Array Oper)(x:Item)(s:St):fZ fun k=>fI (fun nm o fr=>iW C k nm o fr) ops x s:=
 fun k r h=>xV (fun nm o fr hp=>(mono C k).e nm o fr hp) ops x s r h
theorem pX[ae](ops:Array Oper)(l:List Item)(s:St):fZ fun k=>cG (fun nm o fr=>iW C k nm o fr) ops l s:=
 fun k r h=>oD (fun nm o fr hp=>(mono C k).e nm o fr hp) ops l s r h
theorem GN[ae]{α β:Type}{a:Nat→Option α}(ha:fZ a)(f:α→Option β):kf (fun k=>(a k).bind f)=(kf a).bind f:=by
 apply lD
 ·intro k x h
  cases hq:a k with
  |none=>simp[hq]at h
  |some y=>
   have h2:=ha k y hq
   simp only[hq]at h
   simp only[h2]
   exact h
 ·intro k x h
  cases hq:a k with
  |none=>simp[hq]at h
  |some y=>simp only[hq]at h; rw[(bm ha).2 ⟨k,hq⟩]; exact h
 ·intro x h
  cases hq:kf a with
  |none=>rw[hq]at h; simp at h
  |some y=>
   rw[hq]at h
   obtain⟨k,hk⟩:=(bm ha).1 hq
   exact⟨k,by rw[hk]; exact h⟩
theorem HZ[ae](ops:Array Oper)(x:Item)(s:St):kf (fun k=>fI (fun nm o fr=>iW C k nm o fr) ops x s)=CQ C ops x s:=by
 unfold CQ
 cases hw:cS ops s.fr x.o with
 |none=>simp only[fI,hw]; exact gN _
 |some b=>
  cases b with
  |false=>simp only[fI,hw]; exact gN _
  |true=>
   rw[show (fun k=>fI (fun nm o fr=>iW C k nm o fr) ops x s)=fun k=>(((iW C k (x.at s.hp.length) x.o s.fr).run s.hp).map fun e=>(e,(iW C k (x.at s.hp.length) x.o s.fr).log s.hp)).bind (Qv x s) from ?_]
   ·exact GN (GM C (x.at s.hp.length) x.o s.fr s.hp) _
   ·funext k
    simp only[fI,hw]
    cases hq:(iW C k (x.at s.hp.length) x.o s.fr).run s.hp<;>rfl
theorem pY[ae](ops:Array Oper):∀ (l:List Item) (s:St),kf (fun k=>cG (fun nm o fr=>iW C k nm o fr) ops l s)=tP C ops l s
 |[],s=>gN _
 |x::l,s=>by
  simp only[tP]
  rw[←HZ]
  apply lD (pX ops (x::l) s)
  ·intro k r h
   simp only[cG]at h
   cases hq:fI (fun nm o fr=>iW C k nm o fr) ops x s with
   |none=>rw[hq]at h; simp at h
   |some q=>
    obtain⟨s1,f⟩:=q
    rw[hq]at h
    simp only at h
    rw[(bm (x5 ops x s)).2 ⟨k,hq⟩]
    cases hd:cG (fun nm o fr=>iW C k nm o fr) ops l s1 with
    |none=>rw[hd]at h; simp at h
    |some q2=>
     rw[hd]at h
     simp only[Option.bind_some]
     rw[←pY ops l s1,(bm (pX ops l s1)).2 ⟨k,hd⟩]
     exact h
  ·intro r h
   cases hq:kf (fun k=>fI (fun nm o fr=>iW C k nm o fr) ops x s) with
   |none=>rw[hq]at h; simp at h
   |some q=>
    obtain⟨s1,f⟩:=q
    rw[hq]at h
    simp only[Option.bind_some]at h
    rw[←pY ops l s1]at h
    cases hd:kf (fun k=>cG (fun nm o fr=>iW C k nm o fr) ops l s1) with
    |none=>rw[hd]at h; simp at h
    |some q2=>
     rw[hd]at h
     obtain⟨k1,h1⟩:=(bm (x5 ops x s)).1 hq
     obtain⟨k2,h2⟩:=(bm (pX ops l s1)).1 hd
     have h3:=(x5 ops x s).le h1 k2
     have h4:=(pX ops l s1).le h2 k1
     rw[Nat.add_comm]at h4
     refine⟨k1+k2,?_⟩
     simp only[cG]
     rw[h3]
     simp only
     rw[h4]
     exact h
noncomputable def GO[ae](C:Ctx)(ops:Array Oper)(m:Nat)(q:St×List fS):Option Out:=
 if (fo (cm ops.toList) q.2&&np (cm ops.toList) ops.size m)=true then cR (iL C) ops (ops.toList.drop m) q.1 else none
theorem H2[ae](id:Nat)(ops:Array Oper)(h:tG ops=true)(s:St):db C (.region id ops true) s =
  (tP C ops (bK 0 s.hp.length (ops.toList.take (C.head s.fn id ops))) { ia (C.iV s.fn id) s with hp:=(ia (C.iV s.fn id) s).hp++List.replicate ((ops.toList.take (C.head s.fn id ops)).filter fun o=>au o.op).length none }).bind (GO C ops (C.head s.fn id ops)):=by
 rw[←pY]
 refine Eq.trans (tO (dZ C (.region id ops true) s) (pX ops _ _) (b:=fun q k=>if (fo (cm ops.toList) q.2&&np (cm ops.toList) ops.size (C.head s.fn id ops))=true then
   cR (fun o s=>fY C k o s) ops (ops.toList.drop (C.head s.fn id ops)) q.1 else none) (fun q=>by
    by_cases hc:(fo (cm ops.toList) q.2&&np (cm ops.toList) ops.size (C.head s.fn id ops))=true
    ·simp only[hc,if_true]; exact eF ops _ _
    ·simp only[hc]; exact mY _) (by simp[cb]) (fun k=>by
   simp only[cb,h,if_true]
   cases hq:cG (fun nm o fr=>iW C k nm o fr) ops (bK 0 s.hp.length (ops.toList.take (C.head s.fn id ops))) { ia (C.iV s.fn id) s with hp:=(ia (C.iV s.fn id) s).hp++List.replicate ((ops.toList.take (C.head s.fn id ops)).filter fun o=>au o.op).length none } with
   |none=>rfl
   |some q=>rfl)) ?_
 congr 1
 funext q
 unfold GO
 by_cases hc:(fo (cm ops.toList) q.2&&np (cm ops.toList) ops.size (C.head s.fn id ops))=true
 ·simp only[hc,if_true]; exact kg ops _ _
 ·simp only[hc]; exact gN _
theorem Fk[ae]{o:Oper}(h:∀ c f,o.op=.call c→c.callee=.value f→False)(h2:∀ c m i,o.op=.call c→c.callee=.invoke m i→False)(nm:Nat)(fr:List AV)(hp:ag):
  CP C nm o fr hp=((aO C.P nm (aB fr) o).run hp).map fun e=>(e,(aO C.P nm (aB fr) o).log hp):=by
 refine cd (GM C _ _ _ _) (by simp[iW,RM.af]) fun k=>?_
 obtain⟨dst,op,type,pos,after,guard⟩:=o
 cases op with
 |call c=>
  obtain⟨callee,args,mR⟩:=c
  cases callee with
  |builtin b=>simp only[iW]
  |value f=>exact(h _ _ rfl rfl).elim
  |invoke m i=>exact(h2 _ _ _ rfl rfl).elim
 |_=>simp only[iW]
def Ka(hp:ag)(args:List AV)(q:oq×ag):List Nat:=(aQ 1000 args).log hp++(gL args q.2 q.1).log hp
def nV(hp:ag)(args:List AV)(q:oq×ag):Option (dK×List Nat):=
 (nT hp args q).bind fun r=>match r.1 with
   |.val v=>some (⟨v,r.2⟩,Ka hp args q)
   |.kv _=>none
noncomputable def pZ[ae](C:Ctx)(nm:Nat)(al:Bool)(hp:ag):FuncId×List AV→Option (dK×List Nat)
 |(g,args)=>match al with
  |true=>Fh C nm g args hp
  |false=>match C.kind g with
  |.pure=>match C.kY g with
   |some h=>((aQ 1000 args).run hp).bind fun as=>(h as).bind fun r=>nV hp args (.val r,[])
   |none=>((aQ 1000 args).run hp).bind fun as=>(k6 C g as []).bind (nV hp args)
  |.imp=>(match C.rW g with
   |some h=>((h args).run hp).map fun e=>(e,(h args).log hp)
   |none=>((zu C.P nm g args).run hp).map fun e=>(e,(zu C.P nm g args).log hp))
theorem Kb[ae]{hp:ag}{args as:List AV}{g:FuncId}{k:Nat}(hs:(aQ 1000 args).run hp=some as)(hi:C.kY g=none){q:oq×ag}(hq:mG C k g as []=some q):
  (((lO C (k+1) g args >>= fun (x:oq×List (Nat×aP))=>match x.1 with|.val r=>(pure ⟨r,x.2⟩:RM dK)|.kv _=>RM.fail).run hp).map fun e=>(e,(lO C (k+1) g args >>= fun (x:oq×List (Nat×aP))=>match x.1 with|.val r=>(pure ⟨r,x.2⟩:RM dK)|.kv _=>RM.fail).log hp))=nV hp args q:=by
 have h1:(lO C (k+1) g args).run hp=nT hp args q:=by
  rw[lO,RM.run_bind,hs]
  simp only[Option.bind_some,hi,hq]
  rfl
 have h2:(lO C (k+1) g args).log hp=Ka hp args q:=by
  rw[lO,RM.eV,hs]
  simp only[hi,hq]
  rfl
 rw[RM.run_bind,RM.eV,h1,h2]
 unfold nV
 cases cB:nT hp args q with
 |none=>rfl
 |some r=>
  obtain⟨r,wr⟩:=r
  cases r with
  |val v=>simp only[Option.bind_some,pure,RM.log,List.append_nil]; rfl
  |kv v=>rfl
theorem x6[ae]{o:Oper}{nm:Nat}{fr:List AV}{hp:ag}{g:FuncId}{as:List AV}(hk:C.kind g=.pure)
  (oG:∀ k,iW C (k+1) nm o fr=(lO C k g as >>= fun (x:oq×List (Nat×aP))=>match x.1 with|.val r=>(pure ⟨r,x.2⟩:RM dK)|.kv _=>RM.fail)) :
  CP C nm o fr hp=pZ C nm false hp (g,as):=by
 have hg:=GM C nm o fr hp
 have hz:((iW C 0 nm o fr).run hp).map (fun e=>(e,(iW C 0 nm o fr).log hp))=none:=by
  simp[iW,RM.af]
 simp only[pZ,hk]
 cases hs:(aQ 1000 as).run hp with
 |none=>
  have aX:∀ k,(lO C k g as).run hp=none:=by
   intro k
   cases k with
   |zero=>simp[lO,RM.af]
   |succ k=>rw[lO,RM.run_bind,hs]; rfl
  have:(match C.kY g with
    |some h=>(none:Option (List AV)).bind fun oF=>(h oF).bind fun r=>nV hp as (.val r,[])
    |none=>(none:Option (List AV)).bind fun oF=>(k6 C g oF []).bind (nV hp as))=none:=by cases C.kY g<;>rfl
  rw[this]
  refine cd hg hz fun k=>?_
  rw[oG,RM.run_bind,aX]; rfl
 |some oF=>
  cases hi:C.kY g with
  |some h=>
   simp only[Option.bind_some]
   have h1:∀ k,(lO C (k+1) g as).run hp=(h oF).bind fun r=>nT hp as (.val r,[]):=by
    intro k
    rw[lO,RM.run_bind,hs]
    simp only[Option.bind_some,hi]
    cases h oF<;>rfl
   have h2:∀ k,(lO C (k+1) g as).log hp=(aQ 1000 as).log hp++(match h oF with|some r=>(gL as [] (.val r)).log hp|none=>[]):=by
    intro k
    rw[lO,RM.eV,hs]
    simp only[hi]
    cases h oF<;>rfl
   have h3:∀ k,((iW C (k+1+1) nm o fr).run hp).map (fun e=>(e,(iW C (k+1+1) nm o fr).log hp))=(h oF).bind fun r=>nV hp as (.val r,[]):=by
    intro k
    rw[oG,RM.run_bind,RM.eV,h1,h2]
    cases hh:h oF with
    |none=>rfl
    |some r=>
     simp only[Option.bind_some,nV]
     cases cB:nT hp as (.val r,[]) with
     |none=>rfl
     |some r=>
      obtain⟨r,wr⟩:=r
      cases r with
      |val v=>simp only[Option.bind_some,pure,RM.log,List.append_nil]; rfl
      |kv v=>rfl
   apply lD hg
   ·intro k x hx
    match k with
    |0=>rw[hz]at hx; cases hx
    |1=>
     rw[oG,RM.run_bind]at hx
     simp[lO,RM.af]at hx
    |k+2=>rw[←h3 k]; exact hx
   ·intro x hx
    exact⟨2,by rw[h3 0]; exact hx⟩
  |none=>
   simp only[Option.bind_some]
   have h3:∀ k,((iW C (k+1+1) nm o fr).run hp).map (fun e=>(e,(iW C (k+1+1) nm o fr).log hp))=(mG C k g oF []).bind (nV hp as):=by
    intro k
    cases hq:mG C k g oF [] with
    |none=>
     rw[oG,RM.run_bind,lO,RM.run_bind,hs]
     simp only[Option.bind_some,hi,hq,RM.af]
     rfl
    |some q=>
     rw[oG]
     exact Kb hs hi hq
   have hb:kf (fun k=>(mG C k g oF []).bind (nV hp as))=(k6 C g oF []).bind (nV hp as):=GN (mW C g oF []) _
   rw[←hb]
   apply lD hg
   ·intro k x hx
    match k with
    |0=>rw[hz]at hx; cases hx
    |1=>
     rw[oG,RM.run_bind]at hx
     simp[lO,RM.af]at hx
    |k+2=>
     rw[h3 k]at hx
     rw[hb]
     cases hq:mG C k g oF [] with
     |none=>rw[hq]at hx; simp at hx
     |some q=>rw[hq]at hx; rw[show k6 C g oF []=some q from (bm (mW C g oF [])).2 ⟨k,hq⟩]; exact hx
   ·intro x hx
    rw[hb]at hx
    cases hq:k6 C g oF [] with
    |none=>rw[hq]at hx; simp at hx
    |some q=>
     rw[hq]at hx
     obtain⟨k,hk⟩:=(bm (mW C g oF [])).1 hq
     exact⟨k+1+1,by rw[h3 k,hk]; exact hx⟩
theorem H3[ae]{dst:Option Tmp}{rv:Operand}{name:String}{args:Array Operand}{mR:Array TypeId}{type:TypeId}{pos:String}{after:Array Edge}{guard:Option (Nat×Bool)}{nm:Nat}{fr:List AV}{hp:ag}{g:FuncId}{x:AV}
  (hr:pN C.P (aB fr rv) name=some (g,x)) (hk:C.kind g=.pure):CP C nm ⟨dst,.call ⟨.invoke rv name,args,mR⟩,type,pos,after,guard⟩ fr hp=pZ C nm false hp (g,x::args.toList.map (aB fr)):=by
 refine x6 hk fun k=>?_
 simp only[iW,hr,hk]
 congr 1
theorem vg[ae]{dst:Option Tmp}{f:Operand}{args:Array Operand}{mR:Array TypeId}{type:TypeId}{pos:String}{after:Array Edge}{guard:Option (Nat×Bool)}(nm:Nat)(fr:List AV)(hp:ag):
  CP C nm ⟨dst,.call ⟨.value f,args,mR⟩,type,pos,after,guard⟩ fr hp=(bH (aB fr f) (args.toList.map (aB fr))).bind (pZ C nm (au (Op.call ⟨.value f,args,mR⟩)) hp):=by
 have hg:=GM C nm ⟨dst,.call ⟨.value f,args,mR⟩,type,pos,after,guard⟩ fr hp
 have hz:((iW C 0 nm ⟨dst,.call ⟨.value f,args,mR⟩,type,pos,after,guard⟩ fr).run hp).map (fun e=>(e,(iW C 0 nm ⟨dst,.call ⟨.value f,args,mR⟩,type,pos,after,guard⟩ fr).log hp))=none:=by
  simp[iW,RM.af]
 cases hr:bH (aB fr f) (args.toList.map (aB fr)) with
 |none=>exact cd hg hz fun k=>by simp only[iW,hr,RM.af]; rfl
 |some q=>
  obtain⟨g,as⟩:=q
  simp only[Option.bind_some,pZ]
  cases pV:au (Op.call ⟨.value f,args,mR⟩) with
  |true=>
   have dY:∀ k,((iW C (k+1) nm ⟨dst,.call ⟨.value f,args,mR⟩,type,pos,after,guard⟩ fr).run hp).map (fun e=>(e,(iW C (k+1) nm ⟨dst,.call ⟨.value f,args,mR⟩,type,pos,after,guard⟩ fr).log hp)) =
     ((aQ 1000 as).run hp).bind fun oF=>match C.jw g with
       |some h=>(h oF).bind fun q=>((gm nm q.1 q.2).run hp).map fun e=>(e,(aQ 1000 as).log hp)
       |none=>(mG C k g oF []).bind (pW nm ((aQ 1000 as).log hp) hp):=by
    intro k
    have:=Al (C:=C) (F:=fun as=>mG C k g as []) (nm:=nm) (g:=g) (args:=as) (hp:=hp)
    simp only[iW,hr,pV]
    exact this
   simp only[Fh]
   cases hs:(aQ 1000 as).run hp with
   |none=>exact cd hg hz fun k=>by rw[dY,hs]; rfl
   |some oF=>
    simp only[Option.bind_some]
    cases hi:C.jw g with
    |some h=>exact cd hg hz fun k=>by rw[dY,hs]; simp only[Option.bind_some,hi]
    |none=>
     refine eW hg (mW C g oF []) hz fun k=>?_
     rw[dY,hs]
     simp only[Option.bind_some,hi]
  |false=>
  simp only
  cases hk:C.kind g with
  |imp=>
   cases hi:C.rW g with
   |some h=>exact cd hg hz fun k=>by simp only[iW,hr,pV,hk,hi]
   |none=>exact cd hg hz fun k=>by simp only[iW,hr,pV,hk,hi]
  |pure=>
   rw[x6 (g:=g) (as:=as) hk fun k=>by
    simp only[iW,hr,pV,hk]
    congr 1]
   simp only[pZ,hk]
end Go.PI
end
section
/- PI, guards resolved. -/
namespace Go.PI
inductive G where
 |always
 |never
 |on (d:Tmp) (w:Bool)
def fp(ops:Array Oper)(o:Oper):G:=
 match o.guard with
 |none=>.always
 |some (j,w)=>match (ops[j]?).bind (·.dst) with
  |none=>.never
  |some d=>.on d w
def SM(w:Bool):AV→Option Bool
 |.lit (.bool b)=>some (b==w)
 |.lit (.tuple _)=>some false
 |_=>none
def tJ(fr:List AV):G→Option Bool
 |.always=>some true
 |.never=>some false
 |.on d w=>SM w (fr.getD d .undef)
theorem Cv(ops:Array Oper)(fr:List AV)(o:Oper):cS ops fr o=tJ fr (fp ops o):=by
 unfold cS fp
 cases o.guard with
 |none=>rfl
 |some q=>
  obtain⟨j,w⟩:=q
  simp only
  cases (ops[j]?).bind (·.dst) with
  |none=>rfl
  |some d=>
   simp only[tJ,List.getD]
   cases hq:fr[d]? with
   |none=>rfl
   |some v=>
    simp only[Option.getD_some]
    cases v with
    |lit v=>cases v<;>rfl
    |_=>rfl
end Go.PI
end
section
/- PI, looking up in written-out frames. -/
namespace Go.PI
section
variable {α:Type}{x u v:AV}{l:List AV}{n:Nat}
theorem Nr:(x::l).getD 0 u=x:=rfl
theorem Ns:(x::l).getD (n+1) u=l.getD n u:=rfl
theorem Nt:(x::l).set 0 v=v::l:=rfl
theorem Nu:(x::l).set (n+1) v=x::l.set n v:=rfl
end
end Go.PI
end
section
/- PI, laws to compute by. -/
namespace Go.PI
abbrev int(n:Int):AV:=.lit (.int .i64 n)
abbrev bol(b:Bool):AV:=.lit (.bool b)
section
variable {P:Program}{t:TypeId}{xo yo:Operand}{k:IntKind}{a b:Int}
theorem eX{op:BinOp}{v w:Value}{α:Type}(K:Unit→Sem α)(h:∀ c,v≠.agg c)(h2:v≠.nilIface):
  bz P (eqGuard op t xo yo v w >>= K)=bz P (K ()):=by
 unfold eqGuard
 cases op<;>first
  |rfl
  |(cases v<;>first|rfl|exact absurd rfl (h _)|exact absurd rfl h2)
theorem qT[ae]:fR P .lss t xo yo (.lit (.int k a)) (.lit (.int k b))=some (bol (decide (a<b))):=by
 simp only[fR,eT,dz]; rw[eX _ (by simp) (by simp)]; simp[binOp,Op.intCmp]; rfl
theorem NK[ae]:fR P .leq t xo yo (.lit (.int k a)) (.lit (.int k b))=some (bol (decide (a≤b))):=by
 simp only[fR,eT,dz]; rw[eX _ (by simp) (by simp)]; simp[binOp,Op.intCmp]; rfl
theorem GS[ae]:fR P .gtr t xo yo (.lit (.int k a)) (.lit (.int k b))=some (bol (decide (b<a))):=by
 simp only[fR,eT,dz]; rw[eX _ (by simp) (by simp)]; simp[binOp,Op.intCmp]; rfl
theorem NL[ae]:fR P .geq t xo yo (.lit (.int k a)) (.lit (.int k b))=some (bol (decide (b≤a))):=by
 simp only[fR,eT,dz]; rw[eX _ (by simp) (by simp)]; simp[binOp,Op.intCmp]; rfl
theorem NM[ae]:fR P .eql t xo yo (.lit (.int k a)) (.lit (.int k b))=some (bol (decide (a=b))):=by
 simp only[fR,eT,dz]; rw[eX _ (by simp) (by simp)]; simp[binOp,Op.intCmp]; rfl
theorem NN[ae]:fR P .neq t xo yo (.lit (.int k a)) (.lit (.int k b))=some (bol (!decide (a=b))):=by
 simp only[fR,eT,dz]; rw[eX _ (by simp) (by simp)]; simp[binOp,Op.intCmp]; rfl
theorem BA[ae]:fR P .add t xo yo (.lit (.int k a)) (.lit (.int k b))=some (.lit (.int k (k.wrap (a+b)))):=by
 simp only[fR,eT,dz]; rw[eX _ (by simp) (by simp)]; simp[binOp,Op.intArith]; rfl
theorem GU[ae]:fR P .sub t xo yo (.lit (.int k a)) (.lit (.int k b))=some (.lit (.int k (k.wrap (a-b)))):=by
 simp only[fR,eT,dz]; rw[eX _ (by simp) (by simp)]; simp[binOp,Op.intArith]; rfl
theorem NO[ae]:fR P .mul t xo yo (.lit (.int k a)) (.lit (.int k b))=some (.lit (.int k (k.wrap (a*b)))):=by
 simp only[fR,eT,dz]; rw[eX _ (by simp) (by simp)]; simp[binOp,Op.intArith]; rfl
end
variable {C:Ctx}
noncomputable def tT[ae](C:Ctx):List (G×Oper)→St→Option Out
 |[],s=>some (.norm s)
 |(g,o)::l,s=>
  match tJ s.fr g with
  |none=>none
  |some false=>tT C l { s with fr:=bJ s.fr o.dst .undef }
  |some true=>(iL C o s).bind fun
   |.norm s'=>tT C l s'
   |r=>some r
def p7(ops:Array Oper):List (G×Oper):=ops.toList.map fun o=>(fp ops o,o)
theorem p8[ae](ops:Array Oper):∀ (l:List Oper) (s:St),cR (iL C) ops l s=tT C (l.map fun o=>(fp ops o,o)) s
 |[],s=>rfl
 |o::l,s=>by
  simp only[cR,List.map_cons,tT,Cv]
  cases hq:tJ s.fr (fp ops o) with
  |none=>rfl
  |some b=>
   cases b with
   |false=>exact p8 ops l _
   |true=>
    simp only
    cases iL C o s with
    |none=>rfl
    |some r=>
     cases r with
     |norm s'=>exact p8 ops l s'
     |_=>rfl
theorem Aq[ae](id:Nat)(ops:Array Oper)(s:St):db C (.region id ops false) s=tT C (p7 ops) (ia (C.iV s.fn id) s):=by
 rw[CM,p8]; rfl
theorem jD[ae][kh C](id:Nat)(ops:Array Oper)(s:St):db C (.region id ops false) s=tT C (p7 ops) s:=by
 rw[Aq,kh.iV (C:=C)]; rfl
theorem kJ[ae](s:St):tT C [] s=some (.norm s):=rfl
noncomputable def Pv[ae](C:Ctx)(l:List (G×Oper)):Out→Option Out
 |.norm s=>tT C l s
 |r=>some r
theorem eH[ae](o:Oper)(l:List (G×Oper))(s:St):tT C ((.always,o)::l) s=(iL C o s).bind (Pv C l):=by
 simp only[tT,tJ]
 congr 1
end Go.PI
namespace Go.PI
variable {C:Ctx}
theorem BB(hp:ag)(x:Option AV):(match x with|some x=>(pure ⟨x,[]⟩:RM dK)|none=>RM.fail).run hp=x.map fun x=>⟨x,[]⟩:=by
 cases x<;>rfl
section
variable {P:Program}{nm:Nat}{ev:Operand→AV}{dst:Option Tmp}{type:TypeId}{pos:String}{after:Array Edge}{guard:Option (Nat×Bool)}{hp:ag}
theorem oJ{x:Operand}:(aO P nm ev ⟨dst,.move x,type,pos,after,guard⟩).run hp=some ⟨ev x,[]⟩:=rfl
theorem lQ{x:Operand}:(aO P nm ev ⟨dst,.assign x,type,pos,after,guard⟩).run hp=some ⟨ev x,[]⟩:=rfl
theorem yj[ae]{op:BinOp}{t yt:TypeId}{x y:Operand}:(aO P nm ev ⟨dst,.binOp op t x y yt,type,pos,after,guard⟩).run hp=(fR P op t x y (ev x) (ev y)).map fun x=>⟨x,[]⟩:=BB _ _
end
section
variable {dst:Option Tmp}{type:TypeId}{pos:String}{after:Array Edge}{guard:Option (Nat×Bool)}{s:St}
theorem oK[ae][kh C]{x:Operand}:iL C ⟨dst,.move x,type,pos,after,guard⟩ s=((aO C.P s.hp.length (aB s.fr) ⟨dst,.move x,type,pos,after,guard⟩).run s.hp).bind (hJ ⟨dst,.move x,type,pos,after,guard⟩ s):=ff rfl s
theorem GV[ae][kh C]{t:TypeId}{x:Operand}:iL C ⟨dst,.load t x,type,pos,after,guard⟩ s=((aO C.P s.hp.length (aB s.fr) ⟨dst,.load t x,type,pos,after,guard⟩).run s.hp).bind (hJ ⟨dst,.load t x,type,pos,after,guard⟩ s):=ff rfl s
theorem p9[ae][kh C]{o:BinOp}{t u:TypeId}{x y:Operand}:iL C ⟨dst,.binOp o t x y u,type,pos,after,guard⟩ s=((aO C.P s.hp.length (aB s.fr) ⟨dst,.binOp o t x y u,type,pos,after,guard⟩).run s.hp).bind (hJ ⟨dst,.binOp o t x y u,type,pos,after,guard⟩ s):=ff rfl s
theorem Kt[ae][kh C]{t:TypeId}{x:Operand}{a b c:Option Operand}:iL C ⟨dst,.slice t x a b c,type,pos,after,guard⟩ s=((aO C.P s.hp.length (aB s.fr) ⟨dst,.slice t x a b c,type,pos,after,guard⟩).run s.hp).bind (hJ ⟨dst,.slice t x a b c,type,pos,after,guard⟩ s):=ff rfl s
theorem tU[ae][kh C]{t:TypeId}{x y:Operand}:iL C ⟨dst,.indexAddr t x y,type,pos,after,guard⟩ s=((aO C.P s.hp.length (aB s.fr) ⟨dst,.indexAddr t x y,type,pos,after,guard⟩).run s.hp).bind (hJ ⟨dst,.indexAddr t x y,type,pos,after,guard⟩ s):=ff rfl s
theorem mh[ae][kh C]{b:Builtin}{as:Array Operand}{ts:Array TypeId}:iL C ⟨dst,.call ⟨.builtin b,as,ts⟩,type,pos,after,guard⟩ s=((aO C.P s.hp.length (aB s.fr) ⟨dst,.call ⟨.builtin b,as,ts⟩,type,pos,after,guard⟩).run s.hp).bind (hJ ⟨dst,.call ⟨.builtin b,as,ts⟩,type,pos,after,guard⟩ s):=ff rfl s
theorem qa[ae][kh C]{t:Tmp}:iL C ⟨dst,.assign (.tmp t),type,pos,after,guard⟩ s=((aO C.P s.hp.length (aB s.fr) ⟨dst,.assign (.tmp t),type,pos,after,guard⟩).run s.hp).bind (hJ ⟨dst,.assign (.tmp t),type,pos,after,guard⟩ s):=ff rfl s
theorem Ku[ae][kh C]{k:IntKind}{n:Int}:iL C ⟨dst,.assign (.const (.int k n)),type,pos,after,guard⟩ s=((aO C.P s.hp.length (aB s.fr) ⟨dst,.assign (.const (.int k n)),type,pos,after,guard⟩).run s.hp).bind (hJ ⟨dst,.assign (.const (.int k n)),type,pos,after,guard⟩ s):=ff rfl s
end
end Go.PI
namespace Go.PI
variable {C:Ctx}
theorem GW{x:AV}:cO [x]=x:=rfl
theorem GX{P:Program}{fr:List AV}{hp:ag}:(aW P fr []).run hp=some []:=rfl
theorem GY[ae]{P:Program}{fr:List AV}{hp:ag}{t:Tmp}{rs:List ResultVar}:(aW P fr (.tmp t::rs)).run hp=((aW P fr rs).run hp).map fun l=>fr.getD t .undef::l:=by
 simp only[aW,kx,RM.run_bind]
 show (some (fr.getD t .undef)).bind _=_
 simp only[Option.bind_some]
 cases (aW P fr rs).run hp<;>rfl
theorem lF{hp:ag}:ak hp []=hp:=rfl
theorem Kv{hp:ag}{n:Nat}{o:aP}{l:List (Nat×aP)}:ak hp ((n,o)::l)=ak (setObj hp n o) l:=rfl
theorem Fq{hp:ag}{n:Nat}{o:aP}(h:n=hp.length):setObj hp n o=hp++[some o]:=by simp[setObj,h]
def QI:Option (Nat×bN)→AV→Option dK
 |some (off,_),.ref n aq i j=>some ⟨.ref n aq i (j+off),[]⟩
 |some (off,_),.bk e j=>some ⟨.bk e (j+off),[]⟩
 |_,_=>none
def Kw(x:Option AV):Option dK:=x.map fun x=>⟨x,[]⟩
def GZ(r:bN)(hp:ag):AV→Option AV
 |.ref n aq i j=>match hp[n]? with
  |some (some (.arr _ _ _ es))=>if es.length=aq then (match es[i]? with|some e=>fe r.isAgg r.size e j|none=>none) else none
  |_=>none
 |.bk e j=>fe r.isAgg r.size e j
 |_=>none
theorem Kx[ae]{P:Program}{t:TypeId}{r:bN}(ht:fH P t=some r){hp:ag}{a:AV}:(ll P t a).run hp=GZ r hp a:=by
 unfold ll GZ
 rw[ht]
 simp only
 cases a with
 |ref n aq i j=>
  simp only[RM.arr]
  show (RM.bind (.get n _) _).run hp=_
  simp only[RM.bind,RM.run]
  cases hp[n]? with
  |none=>rfl
  |some o=>
   cases o with
   |none=>rfl
   |some o=>
    cases o with
    |gI _ _=>rfl
    |arr g c f es=>
     simp only
     split
     ·simp only[RM.bind]
      cases es[i]? with
      |none=>rfl
      |some e=>simp only[RM.kb]
     ·rfl
 |bk e j=>simp only[RM.kb]
 |_=>rfl
section
variable {P:Program}{nm:Nat}{ev:Operand→AV}{dst:Option Tmp}{type:TypeId}{pos:String}{after:Array Edge}{guard:Option (Nat×Bool)}{hp:ag}
theorem NP[ae]{t:TypeId}{x:Operand}{r:bN}(ht:fH P t=some r):(aO P nm ev ⟨dst,.load t x,type,pos,after,guard⟩).run hp=Kw (GZ r hp (ev x)):=by
 rw[←Kx (P:=P) (t:=t) ht]
 unfold aO
 simp only[RM.run_bind]
 cases (ll P t (ev x)).run hp<;>rfl
end
end Go.PI
namespace Go.PI
variable {C:Ctx}
def NQ(hp:ag)(args:List AV)(r':AV):Option (oq×List (Nat×aP)):=
 cond (flat r') (some (.val r',[])) (((ee 1000 (cD args)).run hp).map fun w=>(.val r',w))
theorem Ar[ae]{hp iG:ag}{args:List AV}{r:AV}:nT hp args (.val r,iG)=((a9 1000 r).run iG).bind (NQ hp args):=by
 simp only[nT,gL]
 cases hq:(a9 1000 r).run iG with
 |none=>rfl
 |some r'=>
  simp only[Option.bind_some,NQ]
  cases flat r' with
  |true=>rfl
  |false=>
   simp only[Bool.false_eq_true,if_false,RM.run_bind,cond_false]
   cases (ee 1000 (cD args)).run hp<;>rfl
theorem Fs{f:FuncId}{args:List AV}:bH (.lit (.func (.func f) #[] #[])) args=some (f,args):=by
 simp[bH]
end Go.PI
namespace Go.PI
variable {C:Ctx}
theorem Ft[ae]{a b:Code}{s:St}:U6 C a b s (.lit (.bool true))=db C a s:=rfl
theorem BC[ae]{a b:Code}{s:St}:U6 C a b s (.lit (.bool false))=db C b s:=rfl
end Go.PI
namespace Go.PI
variable {C:Ctx}
theorem Ky[ae]{b:Code}(Inv:Nat→St→Prop)(H7:Out→Prop)
  (step:∀ k s,Inv k s→(∃ s',db C b s=some (.norm s')∧∃ k',k'<k∧Inv k' (ib s.hp.length s'))∨(∃ o,db C b s=some o∧(∀ s',o≠.norm s')∧H7 o)) :
  ∀ k s,Inv k s→∃ o,db C (.loop b) s=some o∧H7 o:=by
 intro k
 induction k using Nat.strongRecOn with
 |ind k ih=>
  intro s hs
  rcases step k s hs with ⟨s',h1,k',hk,hi⟩|⟨o,h1,h2,h3⟩
  ·obtain⟨o,h4,h5⟩:=ih k' hk _ hi
   refine⟨o,?_,h5⟩
   rw[nR,h1]
   exact h4
  ·refine⟨o,?_,h3⟩
   rw[nR,h1]
   cases o with
   |norm s'=>exact absurd rfl (h2 s')
   |_=>rfl
theorem Au[ae]{b:Code}{s:St}{β:Type}{K:Out→Option β}{r:Option β}(Inv:Nat→St→Prop)(H7:Out→Prop)(k0:Nat)(h0:Inv k0 s)
  (step:∀ k s,Inv k s→(∃ s',db C b s=some (.norm s')∧∃ k',k'<k∧Inv k' (ib s.hp.length s'))∨(∃ o,db C b s=some o∧(∀ s',o≠.norm s')∧H7 o))
  (fin:∀ o,H7 o→K o=r):(db C (.loop b) s).bind K=r:=by
 obtain⟨o,h1,h2⟩:=Ky Inv H7 step k0 s h0
 rw[h1]
 exact fin o h2
def G0(agg:Bool)(size:Nat)(hp:ag):AV→Option AV
 |.ref n aq i j=>match hp[n]? with
  |some (some (.arr _ _ _ es))=>if es.length=aq then (match es[i]? with|some e=>fe agg size e j|none=>none) else none
  |_=>none
 |.bk e j=>fe agg size e j
 |_=>none
theorem NR{r:bN}{agg:Bool}{size:Nat}(h1:r.isAgg=agg)(h2:r.size=size)(hp:ag)(a:AV):GZ r hp a=G0 agg size hp a:=by
 subst h1 h2
 cases a<;>rfl
def nY(agg:Bool)(size:Nat)(i:Nat):AV→Option AV
 |.sl xs=>match xs[i]? with
  |some e=>if aJ agg size e=true then some (.bk e 0) else none
  |none=>none
 |.pJ xs _=>match xs[i]? with
  |some e=>if aJ agg size e=true then some (.bk e 0) else none
  |none=>none
 |.bu esz n aq off len _=>if i<len∧0<size∧esz=size then some (.ref n aq (off+i) 0) else none
 |.jt n aq k j len _=>if i<len then some (.ref n aq k (j+i*size)) else none
 |_=>none
theorem sB{k:IntKind}{n:Nat}:asNat (.lit (.int k (n:Int)))=some n:=by simp[asNat]
def Kz(P:Program)(nm:Nat)(ev:Operand→AV)(o:Oper)(hp:ag):Option dK:=(aO P nm ev o).run hp
def H8(d:Option dK):AV→Option dK
 |.sl xs=>some ⟨int xs.length,[]⟩
 |.pJ xs _=>some ⟨int xs.length,[]⟩
 |.bu _ _ _ _ len _=>some ⟨int len,[]⟩
 |.jt _ _ _ _ len _=>some ⟨int len,[]⟩
 |_=>d
theorem KA{P:Program}{t:TypeId}{r:bN}(h:aR P t=some r)(ha:arrayElem P t=none)(x ix:AV):
  fk P t x ix=(asNat ix).bind fun i=>nY r.isAgg r.size i x:=by
 unfold fk
 cases asNat ix with
 |none=>rfl
 |some i=>
  simp only[Option.bind_some,h,ha]
  cases x with
  |sl xs=>simp only[nY]; cases xs[i]?<;>rfl
  |pJ xs c=>simp only[nY]; cases xs[i]?<;>rfl
  |_=>rfl
section
variable {P:Program}{nm:Nat}{ev:Operand→AV}{dst:Option Tmp}{type:TypeId}{pos:String}{after:Array Edge}{guard:Option (Nat×Bool)}{hp:ag}
theorem tV[ae]{t:TypeId}{x y:Operand}:(aO P nm ev ⟨dst,.indexAddr t x y,type,pos,after,guard⟩).run hp=Kw (fk P t (ev x) (ev y)):=BB _ _
theorem Fu{t type:TypeId}{x:Operand}(h:ck P t=true):(aO P nm ev ⟨dst,.call ⟨.builtin .len,#[x],#[t]⟩,type,pos,after,guard⟩).run hp =
  H8 (Kz P nm ev ⟨dst,.call ⟨.builtin .len,#[x],#[t]⟩,type,pos,after,guard⟩ hp) (ev x):=by
 cases hx:ev x with
 |sl xs=>simp[aO,dF,hx,h,ou,H8]; rfl
 |pJ xs c=>simp[aO,dF,hx,h,ou,H8]; rfl
 |bu a b c d e f=>simp[aO,dF,hx,h,ou,H8]; rfl
 |jt a b c d e f=>simp[aO,dF,hx,h,ou,H8]; rfl
 |_=>rfl
end
end Go.PI
namespace Go.PI
variable {C:Ctx}
theorem dM[ae]{b:Code}{s:St}:andThen C b (.norm s)=db C b s:=rfl
theorem tW[ae]{b:Code}{s:St}{i:Nat}:andThen C b (.exit i s)=some (.exit i s):=rfl
theorem fu[ae]{l:List (G×Oper)}{s:St}:Pv C l (.norm s)=tT C l s:=rfl
theorem wz{i:Nat}{s:St}:vf i (.norm s)=some (.norm s):=rfl
theorem Av{i:Nat}{s:St}:vf i (.exit i s)=some (.norm s):=by simp[vf]
theorem CW{rs:Array ResultVar}{s:St}:J5 C rs (.ret s)=((aW C.P s.fr rs.toList).run s.hp).map fun l=>(.val (cO l),s.hp):=rfl
theorem CX{n:Nat}{s:St}(h:(s.hp.take n).all (kW n)=true):ib n s=⟨s.fn,s.fr.map (forget n),s.hp.take n⟩:=by
 simp[ib,h]
theorem H9{n:Nat}{v:AV}(h:below n v=true):forget n v=v:=by simp[forget,h]
end Go.PI
namespace Go.PI
theorem BD{d:Option dK}{xs:List AV}:H8 d (.sl xs)=some ⟨int xs.length,[]⟩:=rfl
end Go.PI
namespace Go.PI
end Go.PI
end
section
/- PI, calls whose argument may be a nil slice or not: both are looked at. -/
namespace Go.PI
end Go.PI
end
section
/- PI, the laws: what a law's own call comes to. -/
namespace Go.PI
open Go.RowKit
theorem HV[ae]{C:Ctx}(bM:C.Ok){f:FuncId}{args:List AV}{cB:ag}(h:k6 C f args []=some (.val (.lit (.bool true)),cB))
  {W:World} (hg:nq (Env.all W)) {vs:List Value} (ha:an (Env.all W) false args vs) :
  Calls C.P f vs.toArray W fun e w'=>e=.returned (.bool true)∧Below W.heap.size W w':=by
 obtain⟨k,hk⟩:=(bm (mW C f args [])).1 h
 refine((sound bM k).1 f args [] _ _ hk (Env.all W) W vs (NA W hg) ha.iY).mono fun e w' du=>?_
 obtain⟨E',_,_,eK,cL⟩:=du
 refine⟨?_,eK.os,eK.tape,eK.out,eK.size,fun b hb=>eK.same b hb (fun h=>h.elim)⟩
 cases e with
 |returned v=>simp only[GJ,aj]at cL; rw[cL]
 |panicked ch=>exact cL.elim
 |outgrown=>exact cL.elim
end Go.PI
end
section
/- PS, part A: symbolic values over the abstract ones, with typed lists of open length, and the operations on them (definitions only). -/
namespace Go.PI
def ay{α β:Type}(P:α→β→Prop):List α→List β→Prop
 |[],[]=>True
 |x::xs,y::ys=>P x y∧ay P xs ys
 |_,_=>False
def AQ{den:Nat→Type}{t t':Nat}(h:t=t')(l:List (den t)):List (den t'):=h▸l
def KK.D:KK→Type
 |.int _=>Int
 |.str=>ByteArray
 |.bool=>Bool
def KK.v:(kk:KK)→kk.D→Value
 |.int q,k=>.int q k
 |.str,k=>.string k
 |.bool,k=>.bool k
def KK.get:(kk:KK)→Value→Option kk.D
 |.int q,v=>(match v with
  |.int q' k=>if q=q' then some k else none
  |_=>none)
 |.str,v=>(match v with
  |.string k=>some k
  |_=>none)
 |.bool,v=>(match v with
  |.bool k=>some k
  |_=>none)
def KK.beq:(kk:KK)→kk.D→kk.D→Bool
 |.int _,(a:Int),(b:Int)=>a==b
 |.str,(a:ByteArray),(b:ByteArray)=>a==b
 |.bool,(a:Bool),(b:Bool)=>a==b
def lh(kk:KK){α:Type}:List (kk.D×α)→kk.D→Option α
 |[],_=>none
 |(k',v)::r,k=>cond (kk.beq k k') (some v) (lh kk r k)
def nA(kk:KK){α:Type}:List (kk.D×α)→kk.D→α→List (kk.D×α)
 |[],k,v=>[(k,v)]
 |(k',v')::r,k,v=>cond (kk.beq k k') ((k',v)::r) ((k',v')::nA kk r k v)
deriving instance DecidableEq for lN
inductive SV(den:Nat→Type):Type where
 |dead
 |hole
 |lit (v:Value)
 |agg (l:List (SV den))
 |jU (l:List (SV den))
 |sl (xs:List (SV den))
 |jT (t:Nat) (l:List (den t))
 |bk (e:SV den) (j:Nat)
 |ref (n c i j:Nat)
 |jt (n c i j len cap:Nat)
 |bu (esz n c:Nat) (rg:Option (Nat×Nat)) (cap:Option Nat)
 |ju (fn:Fn) (first captured:List (SV den))
 |gH (t:TypeId) (v:SV den)
 |mp (y:Bool) (n:Nat)
 |tz (v:SV den) (aZ len i:Nat)
 |xB (t:Nat) (l:List (den t)) (cap:Nat) (b:Bool)
 |nz
instance {den:Nat→Type}:Inhabited (SV den):=⟨.dead⟩
inductive aE(den:Nat→Type):Type where
 |arr (grow cl fz:Bool) (cur:Nat) (es:List (SV den))
 |cj (grow fz:Bool) (cur:Nat) (t:Nat) (l:List (den t))
 |iB
 |kO (kk:KK) (t:Nat) (m:List (kk.D×den t))
 |pA (fn:FuncId) (ps:Array Tmp) (as bd:Code) (fr:List (SV den))
abbrev ai(den:Nat→Type):=List (Option (aE den))
abbrev tA(den:Nat→Type):=List (Nat×SV den)
structure bC(den:Nat→Type)where
 fn:FuncId
 n:Nat
 fr:tA den
 hp:ai den
 wf:List Nat
 wh:List Nat
 js:List (Nat×lN)
inductive pB(den:Nat→Type)where
 |norm (s:bC den)
 |exit (id:Nat) (s:bC den)
 |ret (s:bC den)
inductive Tr:Type→Type 1 where
 |ret {ρ:Type} (r:ρ):Tr ρ
 |fail {ρ:Type}:Tr ρ
 |cond {ρ:Type} (b:Bool) (x y:Tr ρ):Tr ρ
 |bind {ρ α:Type} (e:Option α) (k:α→Tr ρ):Tr ρ
 |loop {ρ τ ω:Type} (f:τ→Tr (τ ⊕ ω)) (x:τ) (k:ω→Tr ρ):Tr ρ
 |sum {ρ α β:Type} (e:α ⊕ β) (k:α→Tr ρ) (l:β→Tr ρ):Tr ρ
 |no {ρ:Type} (why:String):Tr ρ
 |mM {ρ:Type} {den:Nat→Type} (s:bC den) (b:Code):Tr ρ
 |bad {ρ:Type} {den:Nat→Type} (key:Nat) (kind:Option (Option Nat)) (s0 s:bC den):Tr ρ
def lr{τ ω:Type}(f:τ→Option (τ ⊕ ω)):Nat→τ→Option ω
 |0,_=>none
 |n+1,x=>match f x with
  |some (.inl y)=>lr f n y
  |some (.inr w)=>some w
  |none=>none
noncomputable def aM{τ ω:Type}(f:τ→Option (τ ⊕ ω))(x:τ):Option ω:=
 match lr f 4096 x with
 |some w=>some w
 |none=>kf fun n=>lr f n x
noncomputable def Tr.run{ρ:Type}:Tr ρ→Option ρ
 |.ret r=>some r
 |.fail|.no _|.mM _ _|.bad _ _ _ _=>none
 |.cond b x y=>_root_.cond b x.run y.run
 |.bind e k=>_root_.Option.bind e fun a=>(k a).run
 |.loop f x k=>_root_.Option.bind (aM (fun x=>(f x).run) x) fun w=>(k w).run
 |.sum e k l=>Sum.elim (fun a=>(k a).run) (fun b=>(l b).run) e
structure dP where
 den:Nat→Type
 up:(t:Nat)→den t→SV den
 dn:(t:Nat)→SV den→Option (den t)
 rp:(t:Nat)→den t→AV→Prop
 agg:Nat→Bool
 size:Nat→Nat
 zero:(t:Nat)→Option (den t)
 alt:(t:Nat)→Option ((den t→Bool)×(den t→SV den)×(den t→SV den)):=fun _=>none
section
variable {den:Nat→Type}
def aE.cur:aE den→Nat
 |.arr _ _ _ c _=>c
 |.cj _ _ c _ _=>c
 |_=>0
def aE.len:aE den→Nat
 |.arr _ _ _ _ es=>es.length
 |.cj _ _ _ _ l=>l.length
 |_=>0
def Lw:Value→SV den
 |.agg c=>if c.toList.all (fun v=>bg (.lit v))=true then .agg (c.toList.map .lit) else .dead
 |.tuple c=>.jU (c.toList.map .lit)
 |v=>.lit v
def cU:tA den→Nat→SV den
 |[],_=>.lit undef
 |(d,v)::r,t=>match Nat.beq d t with
  |true=>v
  |false=>cU r t
def dj[ae](fr:tA den):Operand→SV den
 |.tmp t=>cU fr t
 |.const v=>Lw v
 |.global g=>(match ae.g g with
  |none=>.lit (.pointer (some ⟨g,0,none⟩))
  |some c=>.bk (.agg (c.toList.map .lit)) 0)
 |.func f=>.lit (.func (.func f) #[] #[])
def uq(n:Nat)(fr:tA den)(d:Nat)(v:SV den):tA den:=
 match Nat.ble n d with
 |true=>fr
 |false=>(d,v)::fr
def Lx(n:Nat)(fr:tA den)(dst:Option Tmp)(v:SV den):tA den:=
 match dst with
 |some d=>uq n fr d v
 |none=>fr
def na:Nat→List (SV den)→tA den
 |_,[]=>[]
 |d,v::r=>(d,v)::na (d+1) r
def bQ(hp:ai den)(n:Nat)(o:aE den):ai den:=
 if n=hp.length then hp++[some o] else hp.set n (some o)
def bh(hp:ai den):List (Nat×aE den)→ai den
 |[]=>hp
 |(n,o)::r=>bh (bQ hp n o) r
def bV:SV den→Bool
 |.dead=>true
 |_=>false
def gU:SV den→Bool
 |.lit v=>match v with
  |.agg _|.tuple _=>false
  |_=>true
 |.agg _|.jU _|.dead|.hole=>false
 |_=>true
mutual
def aG:SV den→Bool
 |.lit _|.sl _|.jT _ _|.bk _ _|.xB _ _ _ _=>true
 |.agg l|.jU l=>aw l
 |.gH _ v=>aG v
 |.tz v _ _ _=>aG v
 |.ju _ f c=>aw f&&aw c
 |_=>false
def aw:List (SV den)→Bool
 |[]=>true
 |x::xs=>aG x&&aw xs
end
mutual
def wP:SV den→Bool
 |.lit _=>true
 |.agg l|.jU l=>BU l
 |.gH _ v=>wP v
 |_=>false
def BU:List (SV den)→Bool
 |[]=>true
 |x::xs=>wP x&&BU xs
end
mutual
def bx(n:Nat):SV den→Bool
 |.lit _|.sl _|.jT _ _|.bk _ _|.xB _ _ _ _|.hole|.nz=>true
 |.agg l|.jU l=>gV n l
 |.gH _ v=>bx n v
 |.ju _ f c=>gV n f&&gV n c
 |.tz v _ _ _=>bx n v
 |.ref m _ _ _|.jt m _ _ _ _ _|.bu _ m _ _ _|.mp _ m=>decide (m<n)
 |.dead=>false
def gV(n:Nat):List (SV den)→Bool
 |[]=>true
 |x::xs=>bx n x&&gV n xs
end
def kC(n:Nat):Option (aE den)→Bool
 |some (.arr _ cl _ _ es)=>cl||gV n es
 |some (.cj ..)=>true
 |some .iB=>true
 |some (.kO ..)=>true
 |some (.pA _ _ _ _ fr)=>fr.all fun v=>bV v||bx n v
 |none=>true
mutual
def nB:SV den→List Nat
 |.ref n _ _ _|.jt n _ _ _ _ _|.bu _ n _ _ _|.mp _ n=>[n]
 |.tz v _ _ _=>nB v
 |.agg l|.jU l=>nb l
 |.gH _ v=>nB v
 |.ju _ f c=>nb f++nb c
 |_=>[]
def nb:List (SV den)→List Nat
 |[]=>[]
 |x::xs=>nB x++nb xs
end
def bP:SV den→List (SV den)
 |.agg l=>l
 |.lit v=>v.cells.toList.map .lit
 |x=>[x]
def nd:List (SV den)→Option (List Value)
 |[]=>some []
 |.lit v::r=>(nd r).map (v::·)
 |_=>none
def nC:SV den→Option AV
 |.lit v=>some (.lit v)
 |.agg l=>(nd l).map fun c=>.agg (c.map .lit)
 |_=>none
def og(agg:Bool)(size:Nat)(e:SV den)(j:Nat):Option (SV den):=
 match e with
 |.agg l=>
  if agg then (if j+size≤l.length then some (.agg ((l.drop j).take size)) else none)
  else l[j]?
 |x=>if !agg&&gU x&&decide (j=0) then some x else none
def jm(l:List (SV den))(j:Nat):List (SV den)→List (SV den)
 |[]=>l
 |x::xs=>jm (l.set j x) (j+1) xs
def gv(e:SV den)(j:Nat)(cs:List (SV den)):Option (SV den):=
 match e with
 |.agg l=>if j+cs.length≤l.length then some (.agg (jm l j cs)) else none
 |x=>match cs with
  |[y]=>if gU x&&decide (j=0) then some y else none
  |_=>none
def AR(place:Nat→Option (Nat×Nat))(cells:List (SV den)):List (Nat×SV den)→Option (List (SV den))
 |[]=>some cells
 |(i,v)::rest=>
  match place i with
  |none=>none
  |some (off,size)=>
   if (bP v).length=size∧off+size≤cells.length∧(bP v).all gU=true then
    AR place (jm cells off (bP v)) rest
   else none
def lK(agg:Bool)(size:Nat)(e:SV den):Bool:=
 match e with
 |.agg l=>agg&&decide (l.length=size)&&l.all gU
 |x=>!agg&&decide (size=1)&&gU x
def gW:AV→Option (SV den)
 |.lit v=>some (.lit v)
 |.agg l=>(dh l).map fun c=>.agg (c.map .lit)
 |_=>none
def fP(es:List (SV den)):List (Nat×SV den)→List (SV den)
 |[]=>es
 |(i,v)::r=>fP (es.set i v) r
def Hm:SV den→Bool
 |.sl xs=>!xs.isEmpty
 |_=>false
def BV(P:Program)(op:BinOp)(t:TypeId)(x:SV den)(nil:Value):Option AV:=
 match nil with
 |.nilIface=>(match x with
  |.gH _ (.agg _)|.gH _ (.ref ..)=>if jY P t then lW op false else none
  |_=>none)
 |.nilFunc=>(match x with
  |.ju _ _ _=>if tB P t then lW op false else none
  |_=>none)
 |.slice none 0 0=>if ck P t&&Hm x then lW op false else none
 |_=>none
end
inductive CK where
 |bool
 |int (k:IntKind)
 |str
 deriving DecidableEq
inductive MK where
 |slice (e:Nat)
 |array (n e:Nat)
 |struct (fs:List (Nat×Nat))
 |iface
 |other
 deriving DecidableEq
structure kD where
 agg:Bool
 size:Nat
 bytes:Nat
 zero:Option AV
 kind:MK
 PS:Option (List CK)
 map:Option (KK×Nat)
structure ik where
 P:Program
 M:List (Nat×kD)
 ur:Nat→Bool
def cE{α:Type}:List (Nat×α)→Nat→Option α
 |[],_=>none
 |(m,a)::r,n=>match Nat.beq m n with
  |true=>some a
  |false=>cE r n
def Hn{α:Type}:List (Nat×Nat×α)→Nat→Nat→Option α
 |[],_,_=>none
 |(m,m',a)::r,n,n'=>match Nat.beq m n&&Nat.beq m' n' with
  |true=>some a
  |false=>Hn r n n'
namespace ik
def ty(Q:ik)(t:Nat):Option kD:=cE Q.M t
def elemOf(Q:ik)(t:Nat):Option (Nat×kD):=
 match Q.ty t with
 |some m=>match m.kind with
  |.slice e=>(Q.ty e).map fun r=>(e,r)
  |_=>none
 |none=>none
def elem(Q:ik)(t:Nat):Option kD:=(Q.elemOf t).map (·.2)
def arr(Q:ik)(t:Nat):Option (Nat×kD):=
 match Q.ty t with
 |some m=>match m.kind with
  |.array n e=>(Q.ty e).map fun r=>(n,r)
  |_=>none
 |none=>none
def Vp(Q:ik)(t f:Nat):Option (Nat×kD):=
 match Q.ty t with
 |some m=>match m.kind with
  |.struct fs=>match fs[f]? with
   |some (off,e)=>match Q.ty e with
    |some r=>if r.size=0 then none else some (off,r)
    |none=>none
   |none=>none
  |_=>none
 |none=>none
def mapOf(Q:ik)(t:Nat):Option (KK×Nat):=(Q.ty t).bind (·.map)
def isSlice(Q:ik)(t:Nat):Option Bool:=
 match Q.ty t with
 |some m=>match m.kind with
  |.slice _=>some true
  |_=>some false
 |none=>none
def vD(Q:ik):List (Nat×Nat)→Option (List (Nat×Nat))
 |[]=>some []
 |(off,e)::r=>match Q.ty e,vD Q r with
  |some m,some l=>some ((off,m.size)::l)
  |_,_=>none
end ik
inductive VT where
 |v (t:Nat)
 |l (t:Nat)
 |m (kk:KK) (t:Nat)
 deriving DecidableEq
def VT.den(den:Nat→Type):VT→Type
 |.v t=>den t
 |.l t=>List (den t)
 |.m kk t=>List (kk.D×den t)
def HL(den:Nat→Type):List VT→Type
 |[]=>Unit
 |[t]=>t.den den
 |t::u::r=>t.den den×HL den (u::r)
structure TV(den:Nat→Type)where
 t:VT
 x:t.den den
section
variable {den:Nat→Type}
def TV.as(v:TV den)(t:VT):Option (t.den den):=if h:v.t=t then some (h▸v.x) else none
def vE:(ts:List VT)→List (TV den)→Option (HL den ts)
 |[],l=>(match l with
  |[]=>some ()
  |_::_=>none)
 |[t],l=>(match l with
  |[v]=>v.as t
  |_=>none)
 |t::u::r,l=>(match l with
  |v::l'=>(v.as t).bind fun x=>(vE (u::r) l').map fun y=>(x,y)
  |[]=>none)
def gw:(ts:List VT)→HL den ts→List (TV den)
 |[],_=>[]
 |[t],x=>[⟨t,x⟩]
 |t::u::r,x=>⟨t,x.1⟩::gw (u::r) x.2
end
section
variable (T:dP)
def IC:(ts:List Nat)→List (SV T.den)→Option (List (TV T.den))
 |[],[]=>some []
 |t::ts,v::vs=>(T.dn t v).bind fun x=>(IC ts vs).map fun l=>⟨.v t,x⟩::l
 |_,_=>none
def pk(t:Nat):List (SV T.den)→Option (List (T.den t))
 |[]=>some []
 |v::vs=>(T.dn t v).bind fun x=>(pk t vs).map fun l=>x::l
def TK:TV T.den→SV T.den
 |⟨.v t,x⟩=>T.up t x
 |⟨.l t,x⟩=>.jT t x
 |⟨.m _ _,_⟩=>.dead
def Ri(l:List (TV T.den)):List (SV T.den):=l.map (TK T)
end
def rR{den:Nat→Type}:List (SV den)→SV den
 |[x]=>x
 |l=>.jU l
structure vF(T:dP)where
 args:List Nat
 res:List Nat
 fn:HL T.den (args.map .v)→Option (HL T.den (res.map .v))
inductive pC where
 |hole
 |ID (esz n:Nat) (rg:Option (Nat×Nat)) (cap:Option Nat)
 |jt (n i j len cap:Nat)
 |val (t:Nat)
 |own (esz n:Nat)
 |Sy (esz n t:Nat) (k:Bool)
inductive c8 where
 |list (t:Nat)
 |fix (t:Nat)
 |one (p:pC)
 |agg (ps:List pC)
 |map (kk:KK) (t:Nat)
inductive pD where
 |iB
 |list (g f:Bool) (t:Nat)
structure BW where
 kind:Option Nat
 aC:List (Nat×pC)
 ext:List pD
 js:List (Nat×lN)
 more:List (Nat×c8)
structure Hint where
 aC:List (Nat×pC)
 dead:List Nat
 objs:List (Nat×c8)
 outs:List BW
def pC.kl:pC→List VT
 |.hole|.ID _ _ _ _|.jt _ _ _ _ _=>[]
 |.val t=>[.v t]
 |.own _ _=>[]
 |.Sy _ _ t k=>(match k with
  |true=>[.v t,.v t,.v t]
  |false=>[.v t,.v t])
def c8.kl:c8→List VT
 |.list t|.fix t=>[.l t]
 |.one p=>p.kl
 |.agg ps=>ps.flatMap pC.kl
 |.map kk t=>[.m kk t]
def pD.kl:pD→List VT
 |.iB=>[]
 |.list _ _ t=>[.l t]
def jI(objs more:List (Nat×c8)):List (Nat×c8):=objs.filter (fun q=>!(more.map (·.1)).contains q.1)++more
def BW.kl(objs:List (Nat×c8))(o:BW):List VT:=o.aC.flatMap (fun q=>q.2.kl)++((jI objs o.more).flatMap (fun q=>q.2.kl)++o.ext.flatMap pD.kl)
def Hint.kl(h:Hint):List VT:=h.aC.flatMap (fun q=>q.2.kl)++h.objs.flatMap (fun q=>q.2.kl)
def zT(den:Nat→Type)(objs:List (Nat×c8)):List BW→Type
 |[]=>Empty
 |[o]=>HL den (o.kl objs)
 |o::p::r=>HL den (o.kl objs) ⊕ zT den objs (p::r)
end Go.PI
end
