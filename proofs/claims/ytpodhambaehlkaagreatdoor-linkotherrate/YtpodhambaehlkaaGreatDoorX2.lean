/- Part 2 of the proof: texts of this session laid one behind the other. -/
import Derived.OrdersIn
import Derived.TacticsIn
import Derived.RangeFuncLeaves
import Derived.RecoverIn
import Derived.SizedLaws
import Derived.ChangeSlices
import Derived.OpenShut
import Derived.ShutString
import Derived.IntWalk
import Derived.Below
import Derived.Test.YtpodhambaehlkaaGreatDoorX1
set_option linter.unusedVariables false
set_option linter.unusedSimpArgs false
section
/- PI, part V: a region whose order is drawn, in the world. -/
namespace Go.PI
def WF(r:Option Nat):Fence:={ Fence.wide with round:=r }
structure qS where
 n:Nat
 tl:List Deferred:=[]
 rg:Bool:=true
def Marks(B:qS)(E:Env)(w:World)(ds:List Deferred):Prop:=
 ∃ rs:List Nat,ds=rs.map (fun r=>{ target:=.collected r,args:=#[] })++B.tl∧rs.Nodup∧(B.rg=false→rs=[])∧∀ r∈rs,B.n≤r∧¬E.own r∧w.heap[r]?=some (.deferred (some []))
theorem Marks.nil{n:Nat}{m:Bool}{E:Env}{w:World}:Marks ⟨n,[],m⟩ E w []:=⟨[],rfl,List.nodup_nil,fun _=>rfl,by simp⟩
theorem Marks.mono{B:qS}{E E':Env}{w w':World}{ds:List Deferred}(h:Marks B E w ds)(hf:Fr E w E' w'):Marks B E' w' ds:=by
 obtain⟨rs,h1,h2,h2',h3⟩:=h
 refine⟨rs,h1,h2,h2',fun r hr=>?_⟩
 obtain⟨a,b,c⟩:=h3 r hr
 have cG:r<w.heap.size:=(Array.getElem?_eq_some_iff.1 c).1
 refine⟨a,fun ho=>?_,by rw[hf.same r cG b]; exact c⟩
 rcases hf.own r ho with h|h
 ·exact b h
 ·omega
structure dr[ag](B:qS)(E:Env)(s:St)(a:Act)(w:World):Prop where
 fr:aw E true s.fr a.tmps.toList
 inv:Inv E s.hp w
 df:Marks B E w a.defers
 bs:B.n≤w.heap.size
theorem j0{E:Env}{fr:List AV}{a:Act}{dst:Option Tmp}{x:AV}{v:Value}(h:aw E true fr a.tmps.toList)(hx:au E true x v):
  aw E true (bX fr dst x) (a.put dst v).tmps.toList:=by
 cases dst with
 |none=>exact h
 |some d=>
  simp only[bX,Act.put,Array.toList_setIfInBounds]
  exact h.set d hx
theorem put_defers(a:Act)(dst:Option Tmp)(v:Value):(a.put dst v).defers=a.defers:=by cases dst<;>rfl
theorem Ct{E:Env}:∀ (c:List Value),(∀ x∈c,jy x=true)→aO E false (c.map .lit) c
 |[],_=>by simp[aO]
 |x::r,h=>by
  simp only[List.map_cons,aO]
  exact⟨by simp[au],h x (by simp),Ct r fun y hy=>h y (by simp[hy])⟩
theorem MS[ag]{E:Env}(hg:me E)(g:Nat):au E true (Ex g (ag.g g)) (.pointer (some ⟨g,0,none⟩)):=by
 cases h:ag.g g with
 |none=>simp[Ex,au]
 |some c=>
  obtain⟨h1,h2⟩:=hg g c h
  simp only[Ex,au]
  refine⟨g,0,c,.agg c,rfl,h1,⟨c.toList,by simp,Ct _ h2⟩,?_⟩
  refine⟨rfl,fun q _=>by simp[Value.cells],fun x hx=>h2 x (by simpa[Value.cells] using hx)⟩
theorem ka[ag]{E:Env}{fr:List AV}{a:Act}(hg:me E)(h:aw E true fr a.tmps.toList)(x:Operand):au E true (aP fr x) (a.eval x):=by
 cases x with
 |tmp t=>
  simp only[aP,Act.eval,List.getD]
  cases hq:fr[t]? with
  |none=>
   have hl:=h.length
   have:a.tmps[t]?=none:=by
    simp_all
   simp[Array.getD_eq_getD_getElem?,this,au]
  |some y=>
   obtain⟨v,hv,hr⟩:=h.get hq
   have:a.tmps[t]?=some v:=by simpa using hv
   simpa[Array.getD_eq_getD_getElem?,this] using hr
 |const v=>
  simp only[aP,Act.eval]
  unfold oM
  split
  ·rename_i c
   split
   ·rename_i h; exact po (.agg c) (fun c' hc=>by cases hc; exact h)
   ·simp[au]
  ·rename_i dY
   exact po v (fun c hc=>absurd hc (dY c))
 |global g=>exact MS hg g
 |func f=>simp[aP,Act.eval,au]
def tU[ag](P:Program)(step:Nat→Oper→List AV→RM ed):Prop:=
 ∀ (r:Option Nat) (x:Item) (B:qS) (E:Env) (s:St) (a:Act) (w:World) (e:ed) (K:Act→World→Prop) (Q:Exit→Act→World→Prop),dr B E s a w →
   (aC x.o.op=true→s.hp[x.nm]?=some none)→(step (x.at s.hp.length) x.o s.fr).run s.hp=some e →
   (∀ E' w' v,Ext E E'→Fr E w E' w'→Inv E' (av s.hp e.wr) w'→au E' true e.val v→K (a.put x.o.dst v) w')→x.o.wpIn (WF r) 0 P a w K Q
theorem mR{ops:Array Oper}{E:Env}{fr:List AV}{a:Act}(h:aw E true fr a.tmps.toList){o:Oper}{b:Bool}(hw:dh ops fr o=some b):
  Region.wanted o (yielded ops a.tmps)=b:=by
 unfold dh at hw
 unfold Region.wanted
 cases hg:o.guard with
 |none=>rw[hg]at hw; simpa using hw
 |some g=>
  obtain⟨j,want⟩:=g
  rw[hg]at hw
  simp only at hw ⊢
  unfold yielded
  cases hd:(ops[j]?).bind (·.dst) with
  |none=>
   rw[hd]at hw
   simp only[Option.some.injEq]at hw; subst hw
   simp
  |some d=>
   rw[hd]at hw
   simp only[Option.bind_some]at hw ⊢
   cases hq:fr[d]? with
   |none=>
    rw[hq]at hw
    simp only[Option.some.injEq]at hw; subst hw
    have hl:=h.length
    have:a.tmps[d]?=none:=by
     simp_all
    simp[this]
   |some y=>
    rw[hq]at hw
    obtain⟨v,hv,hr⟩:=h.get hq
    have lE:a.tmps[d]?=some v:=by simpa using hv
    split at hw
    ·rename_i heq; simp at heq
    ·rename_i b' heq
     simp only[Option.some.injEq]at heq hw
     subst heq
     simp only[au]at hr
     subst hr; subst hw
     simp[lE]
    ·rename_i c heq
     simp only[Option.some.injEq]at heq hw
     subst heq
     simp only[au]at hr
     subst hr; subst hw
     simp[lE]
    ·simp at hw
section
variable {step:Nat→Oper→List AV→RM ed}{ops:Array Oper}
theorem rM:∀ (l:List Oper) (acc:List Nat) (f:List Nat→Oper→List Nat),
  (f=fun acc o=>acc++[jT acc o.after.toList])→∀ i,i<acc.length→(l.foldl f acc).getD i 0=acc.getD i 0
 |[],acc,f,_,i,_=>rfl
 |o::r,acc,f,hf,i,hi=>by
  simp only[List.foldl_cons]
  rw[rM r (f acc o) f hf i (by subst hf; simp; omega)]
  subst hf
  simp[List.getD,List.getElem?_append_left hi]
theorem xU{a b:List Nat}:∀ {l:List Edge},(∀ e∈l,Region.binds .any e=true→a.getD e.on 0=b.getD e.on 0)→jT a l=jT b l
 |[],_=>rfl
 |e::l,h=>by
  have:=xU (l:=l) fun e he=>h e (by simp[he])
  unfold jT
  split
  ·rename_i hb
   rw[this,h e (by simp) hb]
  ·exact this
theorem sG{a:List Nat}{p:Nat}:∀ {l:List Edge},(jT a l).testBit p=true→∃ e∈l,Region.binds .any e=true∧(p=e.on∨tH a e.on p=true)
 |[],h=>by simp[jT]at h
 |e::l,h=>by
  unfold jT at h
  split at h
  ·rename_i hb
   simp only[Nat.testBit_or,Bool.or_eq_true]at h
   rcases h with (h|h)|h
   ·grind
   ·exact⟨e,by simp,hb,.inr h⟩
   ·obtain⟨e',he,h'⟩:=sG (l:=l) h
    exact⟨e',by simp[he],h'⟩
  ·obtain⟨e',he,h'⟩:=sG (l:=l) h
   exact⟨e',by simp[he],h'⟩
theorem Cu{m:Region.Mode}{p:Nat}:∀ {l:List Edge},(∃ e∈l,Region.binds m e=true∧p=e.on)→(B0 m l).testBit p=true
 |[],h=>by simp at h
 |e::l,h=>by
  obtain⟨e',he,hb,rfl⟩:=h
  unfold B0
  cases he with
  |head=>simp[hb,Nat.testBit_or]
  |tail _ he=>
   have:=Cu (l:=l) ⟨e',he,hb,rfl⟩
   split
   ·simp[Nat.testBit_or,this]
   ·exact this
theorem Fa[ag]{m:Region.Mode}{T:Nat→Prop}:∀ (l:List Oper) (i M:Nat),(∀ j,M.testBit j=true→T j) →
  (∀ k o,l[k]?=some o→(∀ e∈o.after.toList,Region.binds m e=true→T e.on)→T (i+k))→∀ j,(I6 m i l M).testBit j=true→T j
 |[],i,M,hM,_,j,h=>hM j h
 |o::r,i,M,hM,hs,j,h=>by
  unfold I6 at h
  refine Fa r (i+1) _ ?_ (fun k o hk he=>by have:=hs (k+1) o (by simpa using hk) he; rwa [show i+1+k=i+(k+1) by omega]) j h
  intro j hj
  split at hj
  ·rename_i Ag
   rw[Nat.testBit_or,Bool.or_eq_true]at hj
   rcases hj with hj|hj
   ·exact hM j hj
   ·rw[Nat.testBit_two_pow]at hj
    have RW:i=j:=by simpa using hj
    subst RW
    refine hs 0 o rfl fun e he hb=>hM _ ?_
    have h1:=Cu (p:=e.on) ⟨e,he,hb,rfl⟩
    rw[←Ag,Nat.testBit_and,Bool.and_eq_true]at h1
    exact h1.2
  ·exact hM j hj
theorem Fb[ag]{m:Region.Mode}{T:Nat→Prop}{l:List Oper}(hs:∀ k o,l[k]?=some o→(∀ e∈o.after.toList,Region.binds m e=true→T e.on)→T k):
  ∀ (k M:Nat),(∀ j,M.testBit j=true→T j)→∀ j,(I7 m l k M).testBit j=true→T j
 |0,M,hM,j,h=>hM j h
 |k+1,M,hM,j,h=>by
  unfold I7 at h
  exact Fb hs k _ (Fa l 0 M hM (fun q o hq he=>by simpa using hs q o hq he)) j h
theorem HQ[ag]{m:Region.Mode}(h:rl m ops=true){T:Nat→Prop}(hs:∀ k o,ops[k]?=some o→(∀ e∈o.after.toList,Region.binds m e=true→T e.on)→T k):∀ i,i<ops.size→T i:=by
 intro i hi
 have h1:=List.all_eq_true.1 h i (List.mem_range.2 hi)
 exact Fb (l:=ops.toList) (fun k o hk he=>hs k o (by simpa using hk) he) 8 0 (by simp) i h1
theorem sH[ag]:∀ (l:List Oper) (acc:List Nat) (k:Nat) (o:Oper),l[k]?=some o→(∀ e∈o.after.toList,Region.binds .any e=true→e.on<acc.length+k) →
  (l.foldl (fun acc o=>acc++[jT acc o.after.toList]) acc).getD (acc.length+k) 0 =
    jT (l.foldl (fun acc o=>acc++[jT acc o.after.toList]) acc) o.after.toList
 |[],acc,k,o,h,_=>by simp at h
 |p::r,acc,0,o,h,he=>by
  simp only[List.getElem?_cons_zero,Option.some.injEq]at h
  subst h
  simp only[List.foldl_cons,Nat.add_zero]
  rw[rM r _ _ rfl acc.length (by simp)]
  have h1:(acc++[jT acc p.after.toList]).getD acc.length 0=jT acc p.after.toList:=by
   simp[List.getD]
  rw[h1]
  apply xU
  intro e hem hb
  have cG:e.on<acc.length:=by simpa using he e hem hb
  rw[rM r _ _ rfl e.on (by simp; omega)]
  simp[List.getD,List.getElem?_append_left cG]
 |p::r,acc,k+1,o,h,he=>by
  simp only[List.getElem?_cons_succ]at h
  simp only[List.foldl_cons]
  have:=sH r (acc++[jT acc p.after.toList]) k o h (fun e hem hb=>by have:=he e hem hb; simp; omega)
  simp only[List.length_append,List.length_cons,List.length_nil]at this
  have e1:acc.length+(0+1)+k=acc.length+(k+1):=by omega
  rw[e1]at this
  exact this
theorem il:∀ (l:List Oper) (i:Nat),mv i l=true→∀ k o,l[k]?=some o→∀ e∈o.after.toList,Region.binds .any e=true→e.on<i+k
 |[],i,_,k,o,h=>by simp at h
 |p::r,i,h,0,o,hk=>by
  simp only[List.getElem?_cons_zero,Option.some.injEq]at hk
  subst hk
  simp only[mv,Bool.and_eq_true]at h
  intro e he hb
  have:=List.all_eq_true.1 h.1 e he
  simpa[hb] using this
 |p::r,i,h,k+1,o,hk=>by
  simp only[List.getElem?_cons_succ]at hk
  simp only[mv,Bool.and_eq_true]at h
  intro e he hb
  have:=il r (i+1) h.2 k o hk e he hb
  omega
theorem vB{pr:List Nat}:∀ (l:List Oper) (i:Nat),uX ops pr i l=true→∀ j k o p,j<k→l[j]?=some o→l[k]?=some p →
  tH pr (i+k) (i+j)=true∨Oper.apart ops o p=true
 |[],i,_,j,k,o,p,_,h,_=>by simp at h
 |q::r,i,h,0,k+1,o,p,_,ho,hp=>by
  simp only[List.getElem?_cons_zero,Option.some.injEq]at ho
  subst ho
  simp only[List.getElem?_cons_succ]at hp
  simp only[uX,Bool.and_eq_true]at h
  have nT:(p,i+1+k)∈r.zipIdx (i+1):=by
   grind
  have:=List.all_eq_true.1 h.1 _ nT
  simp only[Bool.or_eq_true]at this
  have e1:i+1+k=i+(k+1):=by omega
  rw[e1]at this
  simpa using this
 |q::r,i,h,j+1,k+1,o,p,Qu,ho,hp=>by
  simp only[List.getElem?_cons_succ]at ho hp
  simp only[uX,Bool.and_eq_true]at h
  have:=vB r (i+1) h.2 j k o p (by omega) ho hp
  have e1:i+1+j=i+(j+1):=by omega
  have e2:i+1+k=i+(k+1):=by omega
  rw[e1,e2]at this
  exact this
 |q::r,i,h,j,0,o,p,Qu,_,_=>by omega
theorem mE[ag]:∀ (l:List Oper) (i n:Nat) (k:Nat) (x:Item),(bV i n l)[k]?=some x →
  x.idx=i+k∧l[k]?=some x.o∧n≤x.nm∧(aC x.o.op=true→x.nm<n+(l.filter fun o=>aC o.op).length)
 |[],i,n,k,x,h=>by simp[bV]at h
 |o::r,i,n,0,x,h=>by
  simp only[bV,List.getElem?_cons_zero,Option.some.injEq]at h
  subst h
  refine⟨rfl,rfl,Nat.le_refl _,fun ha=>?_⟩
  simp only at ha
  simp[ha]
 |o::r,i,n,k+1,x,h=>by
  simp only[bV,List.getElem?_cons_succ]at h
  obtain⟨h1,h2,h3,h4⟩:=mE r (i+1) _ k x h
  refine⟨by omega,by simpa using h2,?_,fun ha=>?_⟩
  ·split at h3<;>omega
  ·grind
theorem Al[ag]:∀ (l:List Oper) (i n:Nat) (j k:Nat) (x y:Item),j<k→(bV i n l)[j]?=some x→(bV i n l)[k]?=some y→aC x.o.op=true→x.nm<y.nm
 |[],i,n,j,k,x,y,_,h,_,_=>by simp[bV]at h
 |o::r,i,n,0,k+1,x,y,_,hx,hy,ha=>by
  simp only[bV,List.getElem?_cons_zero,Option.some.injEq]at hx
  subst hx
  simp only[bV,List.getElem?_cons_succ]at hy
  simp only at ha
  have:=(mE r (i+1) _ k y hy).2.2.1
  rw[if_pos ha]at this
  exact this
 |o::r,i,n,j+1,k+1,x,y,Qu,hx,hy,ha=>by
  simp only[bV,List.getElem?_cons_succ]at hx hy
  exact Al r (i+1) _ j k x y (by omega) hx hy ha
 |o::r,i,n,j,0,x,y,Qu,_,_,_=>by omega
theorem nq[ag]:∀ (l:List Oper) (i n:Nat),(bV i n l).length=l.length
 |[],_,_=>rfl
 |o::r,i,n=>by simp[bV,nq r]
theorem rN[ag]:∀ (R:List Item) (s s':St) (fs:List gx),cS step ops R s=some (s',fs)→fs.map (·.idx)=R.map (·.idx)
 |[],s,s',fs,h=>by
  simp_all[cS]
 |x::r,s,s',fs,h=>by
  obtain⟨s1,f,G7,h1,h2,rfl⟩:=mD h
  have ih:=rN r s1 s' G7 h2
  have:f.idx=x.idx:=by
   rcases np h1 with ⟨_,_,rfl⟩|⟨_,_,_,_,_,rfl⟩<;>rfl
  simp[ih,this]
theorem vC{pr:List Nat}:∀ (fs:List gx),gh pr fs=true→∀ (j k:Nat) (f g:gx),j<k→fs[j]?=some f→fs[k]?=some g→tI pr f g=true
 |[],_,j,k,f,g,_,h,_=>by simp at h
 |q::r,h,0,k+1,f,g,_,hf,hg=>by
  grind[gh]
 |q::r,h,j+1,k+1,f,g,Qu,hf,hg=>by
  simp only[List.getElem?_cons_succ]at hf hg
  simp only[gh,Bool.and_eq_true]at h
  exact vC r h.2 j k f g (by omega) hf hg
 |q::r,h,j,0,f,g,Qu,_,_=>by omega
theorem Cv{a b:List Nat}(h:Hl a b=true):∀ n∈a,n∉b:=by
 intro n hn hb
 have:=List.all_eq_true.1 h n hn
 simp[hb]at this
end
end Go.PI
end
section
/- PI, part W: a region whose order is drawn, in the world: the induction. -/
namespace Go.PI
section
variable {step:Nat→Oper→List AV→RM ed}{ops:Array Oper}
structure Left[ag](ops:Array Oper)(pr:List Nat)(m:Nat)(R:List Item)(listed:Array Bool):Prop where
 size:listed.size=ops.size
 item:∀ x∈R,ops[x.idx]?=some x.o∧listed.getD x.idx true=false∧x.idx<m
 sorted:R.Pairwise (fun x y=>x.idx<y.idx)
 all:∀ i,i<ops.size→listed.getD i true=false→i<m→∃ x∈R,x.idx=i
 rest:∀ i,m≤i→i<ops.size→listed.getD i true=false
 down:∀ i o,ops[i]?=some o→listed.getD i true=true→∀ p,tH pr i p=true→listed.getD p false=true
 names:R.Pairwise (fun x y=>aC x.o.op=true→x.nm<y.nm)
theorem vD{a:Array Bool}{i:Nat}(h:i<a.size)(x y:Bool):a.getD i x=a.getD i y:=by
 simp[Array.getD,h]
theorem KF{m:Region.Mode}{e:Edge}(h:Region.binds .any e=true):Region.binds m e=true:=by
 grind[Region.binds]
theorem Fc[ag]{md:Region.Mode}(xV:rl md ops=true){listed:Array Bool}(ep:listed.size=ops.size){i:Nat}(cG:i<ops.size)(hi:listed.getD i true=false):Region.ready md ops listed≠[]:=by
 intro Am
 have bK:=HQ xV (T:=fun i=>i<ops.size∧listed.getD i true=true) (fun k o hk he=>by
  have hkl:k<ops.size:=(Array.getElem?_eq_some_iff.1 hk).1
  refine⟨hkl,?_⟩
  cases hq:listed.getD k true with
  |true=>rfl
  |false=>
   have nT:k∈Region.ready md ops listed:=by
    unfold Region.ready
    rw[List.mem_filter]
    refine⟨List.mem_range.2 hkl,?_⟩
    simp only[hq,Bool.not_false,Bool.true_and,hk,Option.map_some,Option.getD_some]
    rw[←Array.all_toList]
    refine List.all_eq_true.2 fun e hee=>?_
    cases hb:Region.binds md e with
    |false=>rfl
    |true=>
     grind
   rw[Am]at nT
   simp at nT) i cG
 rw[hi]at bK
 simp at bK
theorem xW[ag]{md:Region.Mode}(oh:mv 0 ops.toList=true){listed:Array Bool}(ep:listed.size=ops.size)
  (Cq:∀ i o,ops[i]?=some o→listed.getD i true=true→∀ p,tH (cH ops.toList) i p=true→listed.getD p false=true) {i:Nat} (hi:i∈Region.ready md ops listed) :
  i<ops.size∧listed.getD i true=false∧∀ p,tH (cH ops.toList) i p=true→listed.getD p false=true:=by
 have DG:∀ i o,ops[i]?=some o→(cH ops.toList).getD i 0=jT (cH ops.toList) o.after.toList:=by
  intro i o ho
  have dJ:ops.toList[i]?=some o:=by simpa using ho
  have:=sH ops.toList [] i o dJ (fun e he hb=>by have:=il ops.toList 0 oh i o dJ e he hb; simpa using this)
  simpa[cH] using this
 unfold Region.ready at hi
 rw[List.mem_filter]at hi
 obtain⟨Pz,RR⟩:=hi
 simp only[List.mem_range]at Pz
 simp only[Bool.and_eq_true,Bool.not_eq_true']at RR
 obtain⟨hun,HR⟩:=RR
 refine⟨Pz,hun,fun p hp=>?_⟩
 obtain⟨o,V4⟩:∃ o,ops[i]?=some o:=⟨ops[i],by simp[Pz]⟩
 simp only[V4,Option.map_some,Option.getD_some]at HR
 rw[←Array.all_toList]at HR
 unfold tH at hp
 rw[DG i o V4]at hp
 obtain⟨e,he,KG,hp⟩:=sG hp
 have hb:=(il ops.toList 0 oh i o (by simpa using V4) e he KG)
 have h1:=List.all_eq_true.1 HR e he
 simp only[KF KG,Bool.not_true,Bool.false_or]at h1
 rcases hp with rfl|hp
 ·exact h1
 ·have cG:e.on<ops.size:=by omega
  have Zu:listed.getD e.on true=true:=by rw[vD (by rw[ep]; exact cG) true false]; exact h1
  obtain⟨o2,wT⟩:∃ o2,ops[e.on]?=some o2:=⟨ops[e.on],by simp[cG]⟩
  exact Cq e.on o2 wT Zu p hp
theorem Qv[ag](oh:mv 0 ops.toList=true):∀ {k:Nat} {o:Oper},ops[k]?=some o→∀ {p:Nat},tH (cH ops.toList) k p=true→p<k:=by
 have DG:∀ i o,ops[i]?=some o→(cH ops.toList).getD i 0=jT (cH ops.toList) o.after.toList:=by
  intro i o ho
  have dJ:ops.toList[i]?=some o:=by simpa using ho
  have:=sH ops.toList [] i o dJ (fun e he hb=>by have:=il ops.toList 0 oh i o dJ e he hb; simpa using this)
  simpa[cH] using this
 intro k
 induction k using Nat.strongRecOn with
 |ind k ih=>
  intro o hk p hp
  unfold tH at hp
  rw[DG k o hk]at hp
  obtain⟨e,he,KG,hp⟩:=sG hp
  have hb:=(il ops.toList 0 oh k o (by simpa using hk) e he KG)
  rcases hp with rfl|hp
  ·omega
  ·grind
theorem xX{pr:List Nat}{n m:Nat}(h:oN pr n m=true){i j:Nat}(h1:m≤i)(h2:i<n)(h3:j<i):tH pr i j=true:=by
 have:=List.all_eq_true.1 h (i-m) (List.mem_range.2 (by omega))
 have:=List.all_eq_true.1 this j (List.mem_range.2 (by omega))
 have e:m+(i-m)=i:=by omega
 rw[e]at this
 exact this
theorem MT[ag]{P:Program}(vA:Looks step)(fq:tU P step)(oh:mv 0 ops.toList=true){md:Region.Mode}(xV:rl md ops=true){m:Nat}(hm:m≤ops.size)(xY:oN (cH ops.toList) ops.size m=true){s':St}{Q:Exit→Act→World→Prop}
  {E0:Env} {w0:World} {B:qS} {r:Option Nat}
  (hQ:∀ E a w (listed:Array Bool),Ext E0 E→Fr E0 w0 E w→dr B E s' a w→listed.size=ops.size→(∀ j,j<m→listed.getD j true=true)→(∀ j,m≤j→j<ops.size→listed.getD j true=false) →
    wpAnyIn (WF r) 0 P md ops Q (ops.size-m) listed a w) :
  ∀ (fuel:Nat) (R:List Item) (listed:Array Bool) (fs:List gx) (E:Env) (s:St) (a:Act) (w:World),R.length=fuel→Left ops (cH ops.toList) m R listed →
    Ext E0 E→Fr E0 w0 E w→dr B E s a w→(∀ x∈R,aC x.o.op=true→s.hp[x.nm]?=some none)→cS step ops R s=some (s',fs) →
    (∀ (j k:Nat) (x y:Item) (f g:gx),j<k→R[j]?=some x→R[k]?=some y→fs[j]?=some f→fs[k]?=some g →
      tH (cH ops.toList) y.idx x.idx=true∨WB ops x f y g) →
    wpAnyIn (WF r) 0 P md ops Q (fuel+(ops.size-m)) listed a w:=by
 have DG:∀ i o,ops[i]?=some o→(cH ops.toList).getD i 0=jT (cH ops.toList) o.after.toList:=by
  intro i o ho
  have dJ:ops.toList[i]?=some o:=by simpa using ho
  have:=sH ops.toList [] i o dJ (fun e he hb=>by have:=il ops.toList 0 oh i o dJ e he hb; simpa using this)
  simpa[cH] using this
 intro fuel
 induction fuel with
 |zero=>
  intro R listed fs E s a w hlen hL hx gi hs _ bz _
  have hR:R=[]:=List.eq_nil_of_length_eq_zero hlen
  subst hR
  simp only[cS,Option.some.injEq,Prod.mk.injEq]at bz
  obtain⟨rfl,_⟩:=bz
  rw[Nat.zero_add]
  refine hQ E a w listed hx gi hs hL.size (fun j hj=>?_) hL.rest
  cases hq:listed.getD j true with
  |true=>rfl
  |false=>
   obtain⟨x,hx,_⟩:=hL.all j (by omega) hq hj
   simp at hx
 |succ fuel ih=>
  intro R listed fs E s a w hlen hL hx gi hs rA bz R4
  rw[show fuel+1+(ops.size-m)=(fuel+(ops.size-m))+1 by omega]
  refine⟨fun Am=>?_,fun i hi=>?_⟩
  ·-- the first of what is left is ready
   exfalso
   cases R with
   |nil=>simp at hlen
   |cons x r=>
    obtain⟨WD,PG,_⟩:=hL.item x (by simp)
    exact Fc xV hL.size (Array.getElem?_eq_some_iff.1 WD).1 PG Am
  ·obtain⟨Pz,hun,Je⟩:=xW oh hL.size hL.down hi
   have him:i<m:=by
    rcases Nat.lt_or_ge i m with h|h
    ·exact h
    ·exfalso
     cases R with
     |nil=>simp at hlen
     |cons x r=>
      obtain⟨WD,PG,hxm⟩:=hL.item x (by simp)
      have:=Je x.idx (xX xY h Pz (by omega))
      rw[vD (by rw[hL.size]; omega) true false]at PG
      rw[this]at PG; cases PG
   obtain⟨y,hy,hyi⟩:=hL.all i Pz hun him
   subst hyi
   obtain⟨V4,_,hym⟩:=hL.item y hy
   obtain⟨A,B',rfl⟩:=List.append_of_mem hy
   have WE:fs.length=(A++y::B').length:=by
    have:=congrArg List.length (rN _ _ _ _ bz)
    simpa using this
   have aao:A.length<fs.length:=by rw[WE]; simp
   have LQ:fs=fs.take A.length++fs[A.length]::fs.drop (A.length+1):=by
    simp_all
   have Qs:∀ p∈A.zip (fs.take A.length),WB ops p.1 p.2 y fs[A.length]:=by
    intro p hp
    obtain⟨j,hj⟩:=List.mem_iff_getElem?.1 hp
    have Zv:=(List.getElem?_zip_eq_some).1 hj
    obtain⟨h1,h2⟩:=Zv
    have hjA:=aW h1
    rw[List.getElem?_take_of_lt hjA]at h2
    rcases R4 j A.length p.1 y p.2 fs[A.length] hjA (by rw[List.getElem?_append_left hjA]; exact h1) (by simp) h2 (by simp[aao]) with h|h
    ·exfalso
     have h3:=Je _ h
     have h4:=(hL.item p.1 (List.mem_append_left _ (List.mem_of_getElem? h1))).2.1
     have cG:p.1.idx<ops.size:=(Array.getElem?_eq_some_iff.1 (hL.item p.1 (List.mem_append_left _ (List.mem_of_getElem? h1))).1).1
     rw[vD (by rw[hL.size]; exact cG) true false]at h4
     rw[h3]at h4; simp at h4
    ·exact h
   have Tm:=tp vA A s fs bz (fs.take A.length) fs[A.length] (fs.drop (A.length+1)) LQ (by simp; omega) Qs
   obtain⟨s1,f,G7,lM,R5,hfe⟩:=mD Tm
   simp only[List.cons.injEq]at hfe
   obtain⟨rfl,rfl⟩:=hfe
   have dY:∀ x∈A++B',x.idx≠y.idx:=by
    intro x hx
    have hp:=List.pairwise_append.1 hL.sorted
    rcases List.mem_append.1 hx with h|h
    ·have:=hp.2.2 x h y (by simp); omega
    ·have:=List.rel_of_pairwise_cons hp.2.1 h; omega
   have Ag:(A++B').Sublist (A++y::B'):=List.Sublist.append (List.Sublist.refl A) (List.sublist_cons_self y B')
   have hL':Left ops (cH ops.toList) m (A++B') (listed.setIfInBounds y.idx true):=by
    have fW:∀ j d,j≠y.idx→(listed.setIfInBounds y.idx true).getD j d=listed.getD j d:=by
     intro j d hj
     simp[Array.getD_eq_getD_getElem?,Ne.symm hj]
    have Fe:∀ d,(listed.setIfInBounds y.idx true).getD y.idx d=true:=by
     intro d
     have:y.idx<listed.size:=by rw[hL.size]; exact Pz
     simp[Array.getD_eq_getD_getElem?,this]
    refine⟨by simpa using hL.size,fun x hx=>?_,hL.sorted.sublist Ag,fun j hj hu hjm=>?_,fun j hj hjl=>?_,fun j o ho hl p hp=>?_,hL.names.sublist Ag⟩
    ·obtain⟨h1,h2,h3⟩:=hL.item x (Ag.subset hx)
     exact⟨h1,by rw[fW _ _ (dY x hx)]; exact h2,h3⟩
    ·have Zw:j≠y.idx:=by intro e; subst e; rw[Fe]at hu; simp at hu
     rw[fW _ _ Zw]at hu
     obtain⟨x,hx,hxi⟩:=hL.all j hj hu hjm
     refine⟨x,?_,hxi⟩
     rcases List.mem_append.1 hx with h|h
     ·exact List.mem_append_left _ h
     ·cases h with
      |head=>omega
      |tail _ h=>exact List.mem_append_right _ h
    ·rw[fW _ _ (by omega)]
     exact hL.rest j hj hjl
    ·by_cases Zw:j=y.idx
     ·subst Zw
      rw[V4]at ho; cases ho
      by_cases WG:p=y.idx
      ·subst WG; exact Fe _
      ·rw[fW _ _ WG]; exact Je p hp
     ·rw[fW _ _ Zw]at hl
      by_cases WG:p=y.idx
      ·subst WG; exact Fe _
      ·rw[fW _ _ WG]; exact hL.down j o ho hl p hp
   have EX:(A++B').length=fuel:=by simp at hlen ⊢; omega
   have MU:∀ (j k:Nat) (x z:Item) (f g:gx),j<k→(A++B')[j]?=some x→(A++B')[k]?=some z→(fs.take A.length++fs.drop (A.length+1))[j]?=some f →
     (fs.take A.length++fs.drop (A.length+1))[k]?=some g→tH (cH ops.toList) z.idx x.idx=true∨WB ops x f z g:=by
    have tr:∀ (j:Nat) (x:Item) (f:gx),(A++B')[j]?=some x→(fs.take A.length++fs.drop (A.length+1))[j]?=some f →
      (A++y::B')[if j<A.length then j else j+1]?=some x∧fs[if j<A.length then j else j+1]?=some f:=by
     intro j x f h1 h2
     have htl:(fs.take A.length).length=A.length:=by simp; omega
     by_cases hj:j<A.length
     ·rw[if_pos hj]
      rw[List.getElem?_append_left hj]at h1
      rw[List.getElem?_append_left (by omega),List.getElem?_take_of_lt hj]at h2
      exact⟨by rw[List.getElem?_append_left hj]; exact h1,h2⟩
     ·rw[if_neg hj]
      rw[List.getElem?_append_right (by omega)]at h1
      rw[List.getElem?_append_right (by omega),htl,List.getElem?_drop]at h2
      refine⟨?_,?_⟩
      ·rw[List.getElem?_append_right (by omega)]
       have:j+1-A.length=(j-A.length)+1:=by omega
       rw[this]; simpa using h1
      ·have:A.length+1+(j-A.length)=j+1:=by omega
       rw[this]at h2; exact h2
    intro j k x z f g Qu h1 h2 h3 h4
    obtain⟨a1,a2⟩:=tr j x f h1 h3
    obtain⟨b1,b2⟩:=tr k z g h2 h4
    refine R4 _ _ x z f g ?_ a1 b1 a2 b2
    split<;>split<;>omega
   unfold wpOpIn
   rw[V4]
   simp only
   rcases np lM with ⟨hw,rfl,_⟩|⟨hw,e,he,Hd,rfl,_⟩
   ·rw[mR hs.fr hw]
    simp only[Bool.false_eq_true,if_false]
    refine⟨fun _ _=>trivial,?_⟩
    refine ih (A++B') _ _ E { s with fr:=bX s.fr y.o.dst .undef } _ w EX hL' hx gi ⟨j0 hs.fr (by simp[au]),hs.inv,by rw[put_defers]; exact hs.df,hs.bs⟩ (fun x hx=>rA x (Ag.subset hx)) R5 MU
   ·rw[mR hs.fr hw]
    simp only[if_true]
    refine fq r y B E s a w e _ Q hs (rA y (by simp)) he fun E' w' v ic MV mC hr=>?_
    refine ih (A++B') _ _ E' { s with fr:=bX s.fr y.o.dst e.val,hp:=av s.hp e.wr } _ w' EX hL' (hx.trans ic) (gi.trans MV) ⟨j0 (hs.fr.mono ic) hr,mC,by rw[put_defers]; exact hs.df.mono MV,Nat.le_trans hs.bs MV.size⟩ (fun x hx ha=>?_) R5 MU
    have hn:=rA x (Ag.subset hx) ha
    have HO:x.nm∉e.wr.map (·.1):=by
     intro hm
     obtain⟨q,hq,hqn⟩:=List.mem_map.1 hm
     rcases (Hd q hq).2 with h|⟨o,ho⟩
     ·have hxn:y.nm=x.nm:=by rw[←h.2]; exact hqn
      have hp:=List.pairwise_append.1 hL.names
      rcases List.mem_append.1 hx with h'|h'
      ·have:=hp.2.2 x h' y (by simp) ha; omega
      ·have:=List.rel_of_pairwise_cons hp.2.1 h' h.1; omega
     ·rw[hqn]at ho; rw[hn]at ho; simp at ho
    simp only
    rw[jG e.wr s.hp (fun q hq=>(Hd q hq).1) x.nm HO]
    exact hn
end
end Go.PI
end
section
/- PI, part X: results, calls, what is dropped. -/
namespace Go.PI
theorem Ff{P:Program}{nm:Nat}{ev Qw:Operand→AV}{o:Oper}(h:∀ x∈o.op.operands.toList,ev x=Qw x):aV P nm ev o=aV P nm Qw o:=by
 obtain⟨dst,op,type,pos,after,guard⟩:=o
 have KH:∀ (l:List Operand),(∀ x∈l,x∈op.operands.toList)→l.map ev=l.map Qw:=fun l hl=>List.map_congr_left fun x hx=>h x (hl x hx)
 unfold aV
 cases op with
 |build t parts=>
  have:(parts.toList.map fun p=>(p.1,ev p.2))=(parts.toList.map fun p=>(p.1,Qw p.2)):=
   List.map_congr_left fun p hp=>by rw[h p.2 (by simp only[Op.operands]; exact List.mem_map.2 ⟨p,hp,rfl⟩)]
  simp only[this]
 |buildSlice t len parts=>
  have:(parts.toList.map fun p=>(p.1,ev p.2))=(parts.toList.map fun p=>(p.1,Qw p.2)):=
   List.map_congr_left fun p hp=>by rw[h p.2 (by simp only[Op.operands]; exact List.mem_map.2 ⟨p,hp,rfl⟩)]
  simp only[this]
 |makeFunc fn first captured=>
  have h1:=KH first.toList (fun x hx=>by simp only[Op.operands,Array.toList_append,List.mem_append]; exact .inl hx)
  have h2:=KH captured.toList (fun x hx=>by simp only[Op.operands,Array.toList_append,List.mem_append]; exact .inr hx)
  simp only[h1,h2]
 |slice t x lo hi mx=>
  have h0:=h x (by simp[Op.operands])
  have h1:lo.map ev=lo.map Qw:=by cases lo with|none=>rfl|some y=>simp[h y (by simp[Op.operands])]
  have h2:hi.map ev=hi.map Qw:=by cases hi with|none=>rfl|some y=>simp[h y (by simp[Op.operands])]
  have h3:mx.map ev=mx.map Qw:=by cases mx with|none=>rfl|some y=>simp[h y (by simp[Op.operands])]
  simp only[h0,h1,h2,h3]
 |call c=>
  obtain⟨callee,args,argTypes⟩:=c
  cases callee with
  |builtin b=>
   have h1:=KH args.toList (fun x hx=>by simp[Op.operands,Call.operands]; simpa using hx)
   simp only[h1]
  |value f=>rfl
  |invoke r m=>rfl
 |move x=>simp only[h x (by simp[Op.operands])]
 |assign x=>simp only[h x (by simp[Op.operands])]
 |pick c a b=>simp_all[Op.operands]
 |box t x=>simp only[h x (by simp[Op.operands])]
 |load t a=>simp only[h a (by simp[Op.operands])]
 |store t a x=>simp_all[Op.operands]
 |nilCheck x=>simp only[h x (by simp[Op.operands])]
 |binOp b t x y yt=>simp_all[Op.operands]
 |unOp u t x=>simp only[h x (by simp[Op.operands])]
 |convert s d x=>simp only[h x (by simp[Op.operands])]
 |makeInterface t x=>simp only[h x (by simp[Op.operands])]
 |makeSlice t l c=>simp_all[Op.operands]
 |sliceToArrayPointer t x=>simp only[h x (by simp[Op.operands])]
 |fieldAddr s x f=>simp only[h x (by simp[Op.operands])]
 |field s x f=>simp only[h x (by simp[Op.operands])]
 |indexAddr t x i=>simp_all[Op.operands]
 |index t x i=>simp_all[Op.operands]
 |extract t i=>simp only[h t (by simp[Op.operands])]
 |makeMap t r=>
  have h1:r.map ev=r.map Qw:=by cases r with|none=>rfl|some y=>simp[h y (by simp[Op.operands])]
  simp only[h1]
 |lookup t x i c=>simp_all[Op.operands]
 |mapUpdate t m k x=>simp_all[Op.operands]
 |_=>rfl
theorem MW[ag]{P:Program}{nm nm':Nat}{ev:Operand→AV}{o:Oper}(h:aC o.op=false):aV P nm ev o=aV P nm' ev o:=by
 obtain⟨dst,op,type,pos,after,guard⟩:=o
 unfold aV
 cases op with
 |alloc _=>simp[aC]at h
 |box _ _=>simp[aC]at h
 |buildSlice _ _ _=>simp[aC]at h
 |makeSlice _ _ _=>simp[aC]at h
 |makeMap _ _=>simp[aC]at h
 |call c=>
  obtain⟨callee,args,argTypes⟩:=c
  cases callee with
  |builtin b=>
   cases b with
   |append=>simp[aC]at h
   |_=>rfl
  |_=>rfl
 |_=>rfl
theorem RM.An{hp:ak}{n:Nat}{g c f:Bool}{es:List AV}(h:hp[n]?=some (some (.arr g c f es))):(RM.arr n es.length).run hp=some (g,c,f,es):=by
 simp[RM.arr,RM.run,h]
theorem tV[ag]{P:Program}{E:Env}{hp:ak}{w:World}(hI:Inv E hp w){fr:List AV}{a:Act}(gi:aw E true fr a.tmps.toList){fn:Func}{l:List AV}
  (h:(bh P fr fn.results.toList).run hp=some l):∃ v,(results fn a.tmps).run P w=.ok v w∧au E true (cY l) v:=by
 have one:∀ (r:ResultVar) (x:AV),(lC P fr r).run hp=some x →
   ∃ v,(match r with|.tmp t=>pure (a.tmps.getD t undef)|.cell ad t=>(do loadVar t (←asAddr (a.tmps.getD ad undef))):Sem Value).run P w=.ok v w∧au E true x v:=by
  intro r x hx
  cases r with
  |tmp t=>
   simp only[lC,RM.run_pure,Option.some.injEq]at hx
   subst hx
   exact⟨_,rfl,ka hI.kE gi (.tmp t)⟩
  |cell ad t=>
   simp only[lC]at hx
   have hr:=ka hI.kE gi (.tmp ad)
   obtain⟨v,h1,h2⟩:=Jc hI (va:=a.tmps.getD ad undef) hr hx
   refine⟨v,?_,h2⟩
   simp only[Instr.loadAt,Sem.run_bind]at h1
   simp only[Sem.run_bind]
   cases hq:a.tmps.getD ad undef with
   |pointer p=>
    cases p with
    |some p=>rw[hq]at h1; simpa[asAddr,Instr.sureAddr] using h1
    |none=>rw[hq]at h1; simp[Instr.sureAddr]at h1
   |_=>rw[hq]at h1; simp[Instr.sureAddr]at h1
 have many:∀ (rs:List ResultVar) (l:List AV),(bh P fr rs).run hp=some l →
   ∃ vs:List Value,(rs.mapM fun|.tmp t=>pure (a.tmps.getD t undef)|.cell ad t=>(do loadVar t (←asAddr (a.tmps.getD ad undef))):Sem (List Value)).run P w=.ok vs w ∧
     aw E true l vs:=by
  intro rs
  induction rs with
  |nil=>
   intro l h
   simp only[bh,RM.run_pure,Option.some.injEq]at h
   subst h
   exact⟨[],by simp[List.mapM_nil],by simp[aw]⟩
  |cons r rs ih=>
   intro l h
   simp only[bh,RM.run_bind]at h
   cases hq:(lC P fr r).run hp with
   |none=>rw[hq]at h; simp at h
   |some x=>
    rw[hq]at h
    simp only[Option.bind_some]at h
    cases e9:(bh P fr rs).run hp with
    |none=>rw[e9]at h; simp at h
    |some xs=>
     rw[e9]at h
     simp only[Option.bind_some,RM.run_pure,Option.some.injEq]at h
     subst h
     obtain⟨v,h1,h2⟩:=one r x hq
     obtain⟨vs,h3,h4⟩:=ih xs e9
     refine⟨v::vs,?_,by simp only[aw]; exact⟨h2,h4⟩⟩
     rw[List.mapM_cons,Sem.run_bind,h1,Result.andThen_ok,Sem.run_bind,h3]
     rfl
 obtain⟨vs,h1,h2⟩:=many _ _ h
 have hm:(fn.results.mapM fun|.tmp t=>pure (a.tmps.getD t undef)|.cell ad t=>(do loadVar t (←asAddr (a.tmps.getD ad undef))):Sem (Array Value)).run P w=.ok vs.toArray w:=by
  rw[Array.mapM_eq_mapM_toList,Sem.run_map,h1]
  rfl
 refine⟨if h:vs.toArray.size=1 then vs.toArray[0] else .tuple vs.toArray,?_,?_⟩
 ·unfold results
  rw[Sem.run_bind]
  exact congrArg (fun (r:Result (Array Value))=>r.andThen fun vs w'=>(pure (if h:vs.size=1 then vs[0] else .tuple vs):Sem Value).run P w') hm
 ·have hlen:=h2.length
  match l,vs,h2,hlen with
  |[],[],_,_=>simp[cY,au,aw]
  |[x],[v],h2,_=>simp only[aw]at h2; simpa[cY] using h2.1
  |x::y::r,v::u::s,h2,_=>
   simp only[cY,au]
   exact⟨v::u::s,by simp,h2⟩
  |[],_::_,_,h=>simp at h
  |_::_,[],_,h=>simp at h
  |[_],_::_::_,_,h=>simp at h
  |_::_::_,[_],_,h=>simp at h
def Env.im(E:Env)(k:Nat):Env where
 ρ:=fun n ax=>if n<E.L then E.ρ n ax else none
 m:=E.m
 L:=E.L+k
 own:=E.own
theorem HS[ag]{E:Env}{hp:ak}{w:World}(hI:Inv E hp w)(k:Nat):
  Ext E (E.im k)∧Inv (E.im k) (hp++List.replicate k none) w∧Fr E w (E.im k) w:=by
 have hx:Ext E (E.im k):=⟨fun _ _ h=>h,fun n hn ax l h=>by simp[Env.im,hn,h],by simp[Env.im]⟩
 have hold:∀ n o,(hp++List.replicate k none)[n]?=some (some o)→hp[n]?=some (some o)∧n<E.L:=by
  intro n o h
  rw[List.getElem?_append]at h
  split at h
  ·rename_i cG; exact⟨h,by rw[←hI.len]; exact cG⟩
  ·simp[List.getElem?_replicate]at h
 have ef:∀ n,n<E.L→∀ ax,(E.im k).ρ n ax=E.ρ n ax:=fun n hn ax=>by simp[Env.im,hn]
 have fH:∀ n b,cE (E.im k) (hp++List.replicate k none) n b→cE E hp n b:=by
  rintro n b ⟨o,l,ho,hl,hb⟩
  obtain⟨h1,h2⟩:=hold n o ho
  refine⟨o,l,h1,?_,hb⟩
  cases o with
  |arr=>simpa only[ef n h2] using hl
  |iC=>simpa only[ef n h2] using hl
 refine⟨hx,⟨by simp[Env.im,hI.len],?_,?_,fun n1 n2 b h1 h2=>hI.inj n1 n2 b (fH _ _ h1) (fH _ _ h2),hI.mem,hI.qa,hI.kE⟩,
  ⟨rfl,rfl,rfl,Nat.le_refl _,fun _ _ _=>rfl,fun _ h=>.inl h,fun _ _ h=>.inl h⟩⟩
 ·intro n o ho
  obtain⟨h1,h2⟩:=hold n o ho
  have h:=hI.objs n o h1
  cases o with
  |arr g cl fz es=>
   obtain⟨l,hl,hv,hm⟩:=h
   refine⟨l,by rw[ef n h2]; exact hl,fun ax l' h=>hv ax l' (by rw[ef n h2]at h; exact h),?_⟩
   cases hb:l.ma with
   |none=>rw[hb]at hm; exact hm
   |some b=>
    rw[hb]at hm
    obtain⟨c,T,a1,a2,a3,a4,a5,a6,a7⟩:=hm
    exact⟨c,T,a1,a2,a3,a4,a5,a6,fun i e he=>by obtain⟨v,lE,gy⟩:=a7 i e he; exact⟨v,lE.mono hx,gy⟩⟩
  |iC k PX=>
   obtain⟨l,b,es,clock,a1,a2,a3,a4,a5,a6,a7,a8⟩:=h
   exact⟨l,b,es,clock,by rw[ef n h2]; exact a1,a2,a3,a4,a5,fun ax l' h=>a6 ax l' (by rw[ef n h2]at h; exact h),a7,a8.mono hx⟩
 ·intro n ax h
  rw[List.getElem?_append]at h
  split at h
  ·rename_i cG
   have:n<E.L:=by rw[←hI.len]; exact cG
   rw[ef n this]
   exact hI.free n ax h
  ·rename_i Qc
   have:¬n<E.L:=by rw[←hI.len]; exact Qc
   simp[Env.im,this]
def Env.lower(E:Env)(n:Nat):Env:={ E with L:=n }
theorem vG[ag]{E:Env}{hp:ak}{w:World}(hI:Inv E hp w){n:Nat}(hn:n≤hp.length)(bK:(hp.take n).all (mb n)=true):
  Inv (E.lower n) (hp.take n) w∧Fr E w (E.lower n) w∧Down E (E.lower n):=by
 have Tn:Down E (E.lower n):=⟨fun _ _ h=>h,fun _ _ _ _ h=>h⟩
 have hold:∀ i o,(hp.take n)[i]?=some o→hp[i]?=some o∧i<n:=by
  grind
 have fH:∀ i b,cE (E.lower n) (hp.take n) i b→cE E hp i b:=by
  rintro i b ⟨o,l,ho,hl,hb⟩
  exact⟨o,l,(hold i _ ho).1,hl,hb⟩
 refine⟨⟨by simp[Env.lower]; omega,?_,fun i ax h=>hI.free i ax (hold i _ h).1,fun n1 n2 b h1 h2=>hI.inj n1 n2 b (fH _ _ h1) (fH _ _ h2),hI.mem,hI.qa,hI.kE⟩,
  ⟨rfl,rfl,rfl,Nat.le_refl _,fun _ _ _=>rfl,fun _ h=>.inl h,fun _ _ h=>.inl h⟩,Tn⟩
 intro i o ho
 obtain⟨h1,h2⟩:=hold i _ ho
 have hb:=List.all_eq_true.1 bK _ (List.mem_of_getElem? ho)
 simp only[mb]at hb
 have h:=hI.objs i o h1
 cases o with
 |arr g cl fz es=>
  obtain⟨l,hl,hv,hm⟩:=h
  refine⟨l,hl,hv,?_⟩
  cases zC:l.ma with
  |none=>rw[zC]at hm; exact hm
  |some b=>
   rw[zC]at hm
   obtain⟨c,T,a1,a2,a3,a4,a5,a6,a7⟩:=hm
   refine⟨c,T,a1,a2,a3,a4,a5,a6,fun j e he=>?_⟩
   obtain⟨v,lE,gy⟩:=a7 j e he
   refine⟨v,?_,gy⟩
   cases cl with
   |true=>exact au.eZ ⟨Tn.m⟩ lE
   |false=>
    simp only[aY.below,Bool.false_or]at hb
    refine au.down Tn ?_ lE
    have:∀ (l:List AV),dq n l=true→∀ x∈l,below n x=true:=by
     intro l
     induction l with
     |nil=>simp
     |cons y ys ih=>
      simp_all[dq]
    exact this es hb e (List.mem_of_getElem? he)
 |iC k PX=>
  obtain⟨l,b,es,clock,a1,a2,a3,a4,a5,a6,a7,a8⟩:=h
  refine⟨l,b,es,clock,a1,a2,a3,a4,a5,a6,a7,?_⟩
  simp only[aY.below]at hb
  exact aw.down Tn hb a8
theorem tW[ag]{E:Env}{n:Nat}(Tn:Down E (E.lower n)):∀ {fr:List AV} {vs:List Value},aw E true fr vs→aw (E.lower n) true (fr.map (forget n)) vs
 |[],[],_=>by simp[aw]
 |x::xs,v::vs,h=>by
  simp only[aw]at h
  simp only[List.map_cons,aw]
  refine⟨?_,tW Tn h.2⟩
  unfold forget
  split
  ·rename_i hb; exact au.down Tn hb h.1
  ·simp[au]
 |[],_::_,h=>by simp[aw]at h
 |_::_,[],h=>by simp[aw]at h
end Go.PI
end
section
/- PI, part Da: a function that is entered as a deferred call while the frame below returns: recover gives nil. -/
namespace Go.PI
theorem nd(o:Oper):(eJ o).dst=o.dst∧(eJ o).guard=o.guard∧(eJ o).after=o.after:=by
 unfold eJ; split
 ·split<;>exact⟨rfl,rfl,rfl⟩
 ·exact⟨rfl,rfl,rfl⟩
theorem B3(o:Oper):eJ o=o∨(eJ o={ o with op:=.move (.const .nilIface) }∧∃ rb,o.op=.call { callee:=.builtin .recover,args:=#[],argTypes:=rb }):=by
 unfold eJ; split
 ·rename_i c hc
  split
  ·rename_i h1 h2
   refine .inr ⟨rfl,c.argTypes,?_⟩
   rw[hc]
   obtain⟨x,y,z⟩:=c
   simp only at h1 h2
   rw[h1,Array.toList_eq_nil_iff.1 h2]
  ·exact .inl rfl
 ·exact .inl rfl
theorem EB{ρ:Operand→Value}{o:Oper}{P:Program}{w:World}{rb:Array TypeId}(h:o.op=.call { callee:=.builtin .recover,args:=#[],argTypes:=rb }):(execOp ρ o).run P w=.ok .recover w:=by
 unfold execOp; rw[h]; rfl
theorem BC(ops:Array Oper)(tmps:Array Value):yielded (ops.map eJ) tmps=yielded ops tmps:=by
 funext j
 simp only[yielded,Array.getElem?_map]
 cases ops[j]? with
 |none=>rfl
 |some o=>simp only[Option.map_some,Option.bind_some,(nd o).1]
section
variable {F:Fence}{n:Nat}{P:Program}{ops:Array Oper}{Q:Exit→Act→World→Prop}
theorem I9(l:List Nat):∀ (a:Act) (w:World),wpOpsIn F n P (ops.map eJ) Q l a w→∀ (b:Frame) (k:List Go.Item) (cs:List Frame),b.kind=.deferred→recoverD cs=none→F.round=none→b.roundOf=F.round→F.fn b.fn→F.room (cs.length+1+n) →
  ∃ e a' w',Q e a' w'∧ArrivesIn (Machine.fenced P F) P (lone (b.atR a (.inRegion ops l::k)) cs w) b k cs e a' w':=by
 induction l with
 |nil=>exact fun a w h b k cs _ _ _ _ hb hr=>⟨.normal,a,w,h,.one (fenced_calm hb hr rfl) stepR_region_end⟩
 |cons i rest ih=>
  intro a w h b k cs hk pg gi eD hb hr
  simp only[wpOpsIn,Array.getElem?_map,BC]at h
  cases ho:ops[i]? with
  |none=>
   simp only[ho,Option.map_none]at h
   obtain⟨e,a',w',hq,dp⟩:=ih a w h b k cs hk pg gi eD hb hr
   have hs:=stepR_op_skip (P:=P) (b:=b) (a:=a) (k:=k) (cs:=cs) (w:=w) (ops:=ops) (i:=i) (rest:=rest) (by simp[ho])
   simp only[ho,Option.bind_none,Act.put]at hs
   exact⟨e,a',w',hq,.of_steps (.one (fenced_noOper hb hr ho) hs) dp⟩
  |some o=>
   simp only[ho,Option.map_some]at h
   have hwd:Region.wanted (eJ o) (yielded ops a.tmps)=Region.wanted o (yielded ops a.tmps):=by unfold Region.wanted; rw[(nd o).2.1]
   rw[hwd,(nd o).1]at h
   have zD:∀ v,(b.atR a (.inRegion ops (i::rest)::k)).finish v=b.atR (a.put o.dst v) (.inRegion ops rest::k):=by
    intro v; rw[Frame.finish_atR,ho]; rfl
   by_cases hw:Region.wanted o (yielded ops a.tmps)=true
   ·have hg:=stepGR_op (P:=P) (b:=b) (k:=k) (cs:=cs) (w:=w) (rest:=rest) ho hw
    simp only[hw,if_true,Oper.wpIn]at h
    rcases B3 o with he|⟨he,rb,G6⟩
    ·rw[he]at h
     rw[eD]at hg
     obtain⟨wz,h⟩:=h
     have h0:(lone (b.atR a (.inRegion ops (i::rest)::k)) cs w).fenced P F:=fenced_oper hb hr ho wz
     simp only[Oper.uponIn]at h
     split at h
     ·rename_i v w' oO
      obtain⟨e,a',zE,hq,dp⟩:=ih _ _ h b k cs hk pg gi eD hb hr
      refine⟨e,a',zE,hq,.of_steps (.one h0 (step_lone_go ?_)) dp⟩
      rw[hg,←zD]; simp[stepG.apply,oO]
     ·rename_i w' oO
      obtain⟨e,a',zE,hq,dp⟩:=ih _ _ h b k cs hk pg gi eD hb hr
      refine⟨e,a',zE,hq,.of_steps (.one h0 (step_lone_go ?_)) dp⟩
      rw[hg,←zD]; simp[stepG.apply,oO]
     ·rename_i d w' oO
      obtain⟨e,a',zE,hq,dp⟩:=ih _ _ h b k cs hk pg gi eD hb hr
      refine⟨e,a',zE,hq,.of_steps (.one h0 (step_lone_go ?_)) dp⟩
      have:=Frame.finish_atR b { a with defers:=d::a.defers } ops i rest k undef
      rw[ho]at this
      rw[hg]; simp only[stepG.apply,Sem.runT_eq,oO,GStep.bare_after]
      exact congrArg (fun fr=>GStep.go { frame:=fr,callers:=cs,status:=.running,dying:=none } w') this
     ·rename_i f args w' oO
      obtain⟨hn,hF,h⟩:=h
      have ph:F.room ((b.atR a (.inRegion ops (i::rest)::k)::cs).length+1+(n-1)):=Fence.room_enter hr hn
      obtain⟨e,zE,fr,hR,qb,tc,Dh⟩:=h (b.atR a (.inRegion ops (i::rest)::k)::cs) ph
      have nf:step P (lone (b.atR a (.inRegion ops (i::rest)::k)) cs w)=.next (lone (Frame.enter P f args .normal) (b.atR a (.inRegion ops (i::rest)::k)::cs) w'):=
       step_lone_go (by rw[hg]; simp[stepG.apply,oO,Frame.atR])
      cases e with
      |returned v=>
       have hl:(lone fr (b.atR a (.inRegion ops (i::rest)::k)::cs) zE).fenced P F:=fenced_leaving (tc▸hF) ph Dh
       obtain⟨e,a',w₃,hq,dp⟩:=ih _ _ hR b k cs hk pg gi eD hb hr
       refine⟨e,a',w₃,hq,.of_steps (.head h0 nf (StepsIn.trans qb (.one hl ?_))) dp⟩
       rw[←zD]; exact step_leave_returned Dh
      |panicked chain=>
       have hl:(lone fr (b.atR a (.inRegion ops (i::rest)::k)::cs) zE).fenced P F:=fenced_leaving (tc▸hF) ph Dh
       refine⟨.panic chain,a,zE,hR,.inRegion ops (i::rest)::k,.head h0 nf (StepsIn.trans qb (.one hl ?_))⟩
       rw[←Frame.raise_atR]; exact step_leave_panicked Dh
      |outgrown=>
       obtain⟨a₀,w₀,hq⟩:=hR
       exact⟨.outgrown,a₀,w₀,hq,.inr (Outgrown.of_steps (.one nf) qb)⟩
     ·rename_i row args w' oO
      obtain⟨hn,h⟩:=h
      obtain⟨v,zE,hR,qb⟩:=h (b.atR a (.inRegion ops (i::rest)::k)) cs (Fence.room_enter hr hn)
      have nf:step P (lone (b.atR a (.inRegion ops (i::rest)::k)) cs w)=.next (lone (Frame.ofRow P row args .normal) (b.atR a (.inRegion ops (i::rest)::k)::cs) w'):=
       step_lone_go (by rw[hg]; simp[stepG.apply,oO,Frame.atR])
      obtain⟨e,a',w₃,hq,dp⟩:=ih _ _ hR b k cs hk pg gi eD hb hr
      refine⟨e,a',w₃,hq,.of_steps (.head h0 nf ?_) dp⟩
      rw[←zD]; exact qb
     ·rename_i l f tmps assign body w' oO
      obtain⟨hn,_,h⟩:=h
      obtain⟨e,zE,hR,qb⟩:=h (b.atR a (.inRegion ops (i::rest)::k)) cs (Fence.room_enter hr hn)
      have nf:step P (lone (b.atR a (.inRegion ops (i::rest)::k)) cs w)=.next (lone (Frame.round l f tmps assign body .normal) (b.atR a (.inRegion ops (i::rest)::k)::cs) w'):=
       step_lone_go (by rw[hg]; simp[stepG.apply,oO,Frame.atR])
      cases e with
      |returned v=>
       obtain⟨e,a',w₃,hq,dp⟩:=ih _ _ hR b k cs hk pg gi eD hb hr
       refine⟨e,a',w₃,hq,.of_steps (.head h0 nf ?_) dp⟩
       rw[←zD]; exact qb
      |panicked chain=>
       refine⟨.panic chain,a,zE,hR,.inRegion ops (i::rest)::k,.head h0 nf ?_⟩
       rw[←Frame.raise_atR]; exact qb
      |outgrown=>
       obtain⟨a₀,w₀,hq⟩:=hR
       exact⟨.outgrown,a₀,w₀,hq,.inr (Outgrown.of_steps (.one nf) qb)⟩
     ·rename_i v w' oO
      refine⟨_,a,w',h,.inRegion ops (i::rest)::k,.one h0 (step_lone_go ?_)⟩
      rw[hg,←Frame.raise_atR]; simp[stepG.apply,oO]
     ·exact h.elim
    ·-- recover
     rw[he]at h
     have wz:∀ f,o.about P w a.eval=some f→F.fn f:=by
      intro f hf
      unfold Oper.about at hf
      rw[G6]at hf
      cases hf
     have h0:(lone (b.atR a (.inRegion ops (i::rest)::k)) cs w).fenced P F:=fenced_oper hb hr ho wz
     have h2:wpOpsIn F n P (ops.map eJ) Q rest (a.put o.dst .nilIface) w:=by
      have h3:=h.2
      rw[gi]at h3
      exact h3
     obtain⟨e,a',zE,hq,dp⟩:=ih _ _ h2 b k cs hk pg gi eD hb hr
     refine⟨e,a',zE,hq,.of_steps (.one h0 (step_lone_go ?_)) dp⟩
     have hbr:b.roundOf=none:=eD.trans gi
     rw[hbr,Oper.semAt_none]at hg
     have VX:=tryRecover_deferred (fr:=b.atR a (.inRegion ops (i::rest)::k)) hk cs
     rw[hg,←zD]
     simp only[Frame.atR,hbr]at VX ⊢
     simp[stepG.apply,EB G6,VX,pg]
   ·simp only[hw,if_false,Bool.false_eq_true]at h
    obtain⟨wz,h⟩:=h
    obtain⟨e,a',w',hq,dp⟩:=ih _ _ h b k cs hk pg gi eD hb hr
    have hs:=stepR_op_skip (P:=P) (b:=b) (a:=a) (k:=k) (cs:=cs) (w:=w) (ops:=ops) (i:=i) (rest:=rest) (by simp[ho]; simpa using hw)
    simp only[ho,Option.bind_some]at hs
    have PV:∀ f,o.about P w a.eval=some f→F.fn f:=by
     rcases B3 o with he|⟨he,rb,G6⟩
     ·rw[he]at wz; exact wz
     ·intro f hf
      unfold Oper.about at hf
      rw[G6]at hf
      cases hf
    exact⟨e,a',w',hq,.of_steps (.one (fenced_oper hb hr ho PV) hs) dp⟩
def Kj(F:Fence)(n:Nat)(P:Program)(c:Code)(Q:Exit→Act→World→Prop)(a:Act)(w:World):Prop:=
 ∀ (b:Frame) (k:List Go.Item) (cs:List Frame),b.kind=.deferred→recoverD cs=none→F.round=none→b.roundOf=F.round→F.fn b.fn→F.room (cs.length+1+n) →
   ∃ e a' w',Q e a' w'∧ArrivesIn (Machine.fenced P F) P (lone (b.atR a (.code c::k)) cs w) b k cs e a' w'
variable {a:Act}{w:World}
theorem LW{c:Code}(h:c.wpIn F n P Q a w):Kj F n P c Q a w:=fun b k cs _ _ _ eD hb hr=>h b k cs eD hb hr
theorem PW{x y:Code}(h:Kj F n P x (fun e a w=>match e with|.normal=>Kj F n P y Q a w|e=>Q e a w) a w):Kj F n P (.seq x y) Q a w:=by
 intro b k cs hk pg gi eD hb hr
 have i0:(lone (b.atR a (.code (.seq x y)::k)) cs w).fenced P F:=fenced_calm hb hr rfl
 obtain⟨e,a₁,w₁,hq,dp⟩:=h b (.code y::k) cs hk pg gi eD hb hr
 cases e with
 |normal=>
  obtain⟨e₂,a₂,w₂,zG,lD⟩:=hq b k cs hk pg gi eD hb hr
  exact⟨e₂,a₂,w₂,zG,.of_steps (.head i0 stepR_seq dp) lD⟩
 |exit id=>exact⟨_,a₁,w₁,hq,.of_steps (.one i0 stepR_seq) (.pass (x:=.code y) rfl (fun _ _=>.inl (by simp)) dp)⟩
 |goto l=>exact⟨_,a₁,w₁,hq,.of_steps (.one i0 stepR_seq) (.pass (x:=.code y) rfl (fun _ _=>.inl (by simp)) dp)⟩
 |ret=>exact⟨_,a₁,w₁,hq,.of_steps (.one i0 stepR_seq) (.pass (x:=.code y) rfl (fun _ _=>.inl (by simp)) dp)⟩
 |panic ch=>exact⟨_,a₁,w₁,hq,.of_steps (.one i0 stepR_seq) (.pass (x:=.code y) rfl (fun _ _=>.inl (by simp)) dp)⟩
 |outgrown=>exact⟨_,a₁,w₁,hq,.of_steps (.one i0 stepR_seq) (.pass (x:=.code y) rfl (fun _ _=>.inl (by simp)) dp)⟩
theorem Hn{id:Nat}(h:wpOpsIn F n P (ops.map eJ) Q (List.range ops.size) a w):Kj F n P (.region id ops false) Q a w:=
 fun b k cs hk pg gi eD hb hr=>let ⟨e,a',w',q,r⟩:=I9 _ a w h b k cs hk pg gi eD hb hr; ⟨e,a',w',q,.of_steps (.one (fenced_calm hb hr rfl) stepR_region) r⟩
theorem LX{id:Nat}(h:∀ t,wpOpsIn F n P (ops.map eJ) Q (Region.schedule (P.follows .mixedOrders) ops t) a { w with drawn:=w.drawn+1 }):Kj F n P (.region id ops true) Q a w:=
 fun b k cs hk pg gi eD hb hr=>let ⟨e,a',w',q,r⟩:=I9 _ a _ (h _) b k cs hk pg gi eD hb hr; ⟨e,a',w',q,.of_steps (.one (fenced_calm hb hr rfl) stepR_region_draw) r⟩
theorem BD{f:FuncId}{fn:Func}{c:Code}{args:Array Value}{R:Ending→World→Prop}(hf:P.funcs[f]?=some fn)(hb:fn.body=some c)(hF:F.fn f)
  (h:Kj F n P c (bodyPost P fn R) { tmps:=args++Array.replicate (fn.ntmps-args.size) undef,defers:=[] } w) (eD:F.round=none:=by rfl) :
  CallsDIn F n P f args .returning w fun e u' w'=>u'=.returning∧R e w':=by
 refine⟨hF,fun c₀ cs hu hr=>?_⟩
 let b:Frame:={ (default:Frame) with fn:=f,kind:=.deferred,roundOf:=none }
 have nf:Frame.enter P f args .deferred=b.atR { tmps:=args++Array.replicate (fn.ntmps-args.size) undef,defers:=[] } [.code c]:=by
  simp[Frame.enter,Frame.atR,hf,hb,b]
 have hc:({ c₀ with mode:=.returning }:Frame)=c₀:=by cases c₀; simp only at hu; rw[hu]
 have pg:recoverD (c₀::cs)=none:=by simp only[recoverD,hu]
 obtain⟨e,a',w',hq,dp⟩:=h b [] (c₀::cs) rfl pg eD eD.symm hF hr
 rw[←nf]at dp
 cases e with
 |normal=>
  obtain⟨hd,v,oO,hR⟩:=hq
  exact⟨.returned v,.returning,w',_,⟨rfl,hR⟩,(by rw[hc]; exact StepsIn.trans dp (.one (fenced_calm (fr:=b.atR a' []) hF hr rfl) (stepR_end rfl))),rfl,rfl,rfl,hd,fn,hf,oO⟩
 |ret=>
  obtain⟨hd,v,oO,hR⟩:=hq
  obtain⟨todo,hs⟩:=dp.1 rfl
  exact⟨.returned v,.returning,w',_,⟨rfl,hR⟩,(by rw[hc]; exact hs),rfl,rfl,rfl,hd,fn,hf,oO⟩
 |panic chain=>
  obtain⟨hd,hR⟩:=hq
  obtain⟨todo,hs⟩:=dp
  exact⟨.panicked chain,.returning,w',_,⟨rfl,hR⟩,(by rw[hc]; exact hs),rfl,rfl,rfl,hd,fn,hf⟩
 |exit id=>exact hq.elim
 |goto l=>exact hq.elim
 |outgrown=>exact⟨.outgrown,.returning,w',b,⟨rfl,hq⟩,dp.resolve_left (by simp[b]),rfl,rfl,trivial⟩
end
end Go.PI
end
section
/- PI, part Y: the evaluator's answers are what the machine does, on every tape and in every order. -/
namespace Go.PI
def MX[ag](B:qS)(E:Env):Out→Exit→Act→World→Prop
 |.norm s,.normal,a,w=>dr B E s a w
 |.exit i s,.exit j,a,w=>i=j∧dr B E s a w
 |.ret s,.ret,a,w=>dr B E s a w
 |.nY v s,.panic ch,a,w=>∃ u,ch=[{ v:=u,recovered:=false }]∧au E true v u∧Inv E s.hp w∧Marks B E w a.defers
 |_,_,_,_=>False
def bG[ag](B:qS)(E:Env)(w:World)(o:Out)(e:Exit)(a':Act)(w':World):Prop:=
 ∃ E',Ext E E'∧Fr E w E' w'∧MX B E' o e a' w'
theorem bG.from[ag]{B:qS}{E E1:Env}{w w1:World}{o:Out}{e:Exit}{a:Act}{w':World}(hx:Ext E E1)(hf:Fr E w E1 w1)(h:bG B E1 w1 o e a w'):bG B E w o e a w':=by
 obtain⟨E',h1,h2,h3⟩:=h
 exact⟨E',hx.trans h1,hf.trans h2,h3⟩
structure Ctx.Ok[ag](C:Ctx):Prop where
 name : ∀ (f : FuncId) (fn : Func), C.P.funcs[f]? = some fn → fn.body.isSome = true → (fn.name == "runtime.NumGoroutine") = false
 kT:∀ (g:FuncId) (h:List AV→Option AV) (as:List AV) (r:AV),C.kT g=some h→h as=some r→∀ (Ec:Env) (w:World) (vs:List Value),Inv Ec [] w→aw Ec false as vs →
  Calls C.P g vs.toArray w (bD Ec w [] (.val r))
 gM:∀ (g:FuncId) (h:List AV→Option (AV×ak)) (as:List AV) (r:AV) (eV:ak),C.gM g=some h→h as=some (r,eV) →
  ∀ (Ec:Env) (w:World) (vs:List Value),Inv Ec [] w→aw Ec false as vs →
    Calls C.P g vs.toArray w (fun en w'=>∃ r' yO,bD Ec w yO (.val r') en w'∧∀ nm,ee nm r' yO=ee nm r eV)
 zd:∀ (g:FuncId) (h:List AV→Option (AV×ak)),C.gM g=some h→∃ fn:Func,C.P.funcs[g]?=some fn∧fn.body.isSome=true
 rj:∀ (g:FuncId) (h:List AV→RM ed) (args:List AV) (hp:ak) (e:ed),C.rj g=some h→(h args).run hp=some e→(∃ fn:Func,C.P.funcs[g]?=some fn∧fn.body.isSome=true) ∧
  ∀ (E:Env) (w:World) (vs:List Value),Inv E hp w→aw E true args vs→Calls C.P g vs.toArray w (bD E w (av hp e.wr) (.val e.val))
 DH:∀ (g:FuncId) (h:List AV→Option AV),C.kT g=some h→∃ fn:Func,C.P.funcs[g]?=some fn∧fn.body.isSome=true
def oS[ag](C:Ctx)(k:Nat):Prop:=
 ∀ f args hp res cW,o9 C k f args hp=some (res,cW)→∀ (E:Env) (w:World) (vs:List Value),Inv E hp w→aw E true args vs →
   Calls C.P f vs.toArray w (bD E w cW res)
def gz[ag](C:Ctx)(k:Nat):Prop:=
 ∀ c s o,cw C k c s=some o→∀ (r:Option Nat) (B:qS),((r=none∧B.rg=true)∨ct c=true)→∀ (E:Env) (a:Act) (w:World),dr B E s a w→c.wpIn (WF r) 0 C.P (bG B E w o) a w
def nr[ag](P:Program)(step:Oper→St→Option Out):Prop:=
 ∀ (o:Oper) (s:St) (r:Out),step o s=some r→∀ (rd:Option Nat) (B:qS) (E:Env) (a:Act) (w:World) (K:Act→World→Prop) (Q:Exit→Act→World→Prop),dr B E s a w →
   (∀ s',r=.norm s'→∀ E' a' w',Ext E E'→Fr E w E' w'→dr B E' s' a' w'→K a' w') →
   (∀ v s',r=.nY v s'→∀ E' w' u,Ext E E'→Fr E w E' w'→Inv E' s'.hp w'→au E' true v u→Q (.panic [{ v:=u,recovered:=false }]) a w') →
   o.wpIn (WF rd) 0 P a w K Q
def wU[ag](C:Ctx)(k:Nat):Prop:=
 ∀ g args hp res wr,(pd C k g args).run hp=some (res,wr)→∀ (E:Env) (w:World) (vs:List Value),Inv E hp w→aw E true args vs →
   Calls C.P g vs.toArray w (bD E w (av hp wr) res)
theorem sI[ag]{P:Program}{step:Oper→St→Option Out}(fq:nr P step)(Ao:∀ o s r,step o s=some r→(∃ s',r=.norm s')∨∃ v s',r=.nY v s')
  {ops:Array Oper} (rd:Option Nat) (B:qS):∀ (l:List Oper) (s:St) (o:Out),dg step ops l s=some o→∀ (E0 E:Env) (a:Act) (w0 w:World),Ext E0 E→Fr E0 w0 E w→dr B E s a w →
    wpListIn (WF rd) 0 P ops (bG B E0 w0 o) l a w
 |[],s,o,h,E0,E,a,w0,w,hx,hf,hs=>by
  simp only[dg,Option.some.injEq]at h
  subst h
  exact⟨E,hx,hf,hs⟩
 |p::r,s,o,h,E0,E,a,w0,w,hx,hf,hs=>by
  simp only[dg]at h
  unfold wpListIn
  split at h
  ·simp at h
  ·rename_i hw
   rw[mR hs.fr hw]
   simp only[Bool.false_eq_true,if_false]
   exact⟨fun _ _=>trivial,sI fq Ao rd B r _ o h E0 E _ w0 w hx hf ⟨j0 hs.fr (by simp[au]),hs.inv,by rw[put_defers]; exact hs.df,hs.bs⟩⟩
  ·rename_i hw
   rw[mR hs.fr hw]
   simp only[if_true]
   cases hq:step p s with
   |none=>rw[hq]at h; simp at h
   |some q=>
    rw[hq]at h
    refine fq p s q hq rd B E a w _ _ hs (fun s' e E' a' w' ic Jj gm=>?_) (fun v s' e E' w' u ic Jj mC hr=>?_)
    ·subst e
     exact sI fq Ao rd B r s' o h E0 E' a' w0 w' (hx.trans ic) (hf.trans Jj) gm
    ·subst e
     simp only[Option.some.injEq]at h
     subst h
     exact⟨E',hx.trans ic,hf.trans Jj,u,rfl,hr,mC,hs.df.mono Jj⟩
theorem gR[ag]{P:Program}{E:Env}{w:World}{fv:AV}{f:Value}{args xZ:List AV}{vs:List Value}{g:FuncId}(hf:au E true fv f)(ha:aw E true args vs)
  (h : bU fv args = some (g, xZ)) (tc : ∃ fn : Func, P.funcs[g]? = some fn ∧ fn.body.isSome = true ∧ (fn.name == "runtime.NumGoroutine") = false) :
  ∃ vs':List Value,aw E true xZ vs'∧(do let d ←Deferred.ofValue f vs.toArray; invoke d.target d.args:Sem Next).run P w=.ok (.enter g vs'.toArray) w:=by
 obtain⟨fn,h1,h2,h3⟩:=tc
 have hb:fn.body.isNone=false:=by cases hq:fn.body<;>simp_all
 have run:∀ (first captured:List Value),f=.func (.func g) first.toArray captured.toArray →
   (do let d ←Deferred.ofValue f vs.toArray; invoke d.target d.args:Sem Next).run P w=.ok (.enter g (first++vs++captured).toArray) w:=by
  intro first captured hv
  subst hv
  simp only[Deferred.ofValue,Sem.run_bind,Sem.run_pure,Result.andThen_ok,invoke,callFunc,run_program,h1,h3,hb,Bool.false_eq_true,if_false]
  simp
 cases fv with
 |lit u=>
  cases u with
  |func fnv first captured=>
   cases fnv with
   |func g'=>
    simp only[bU,Option.some.injEq,Prod.mk.injEq]at h
    obtain⟨rfl,rfl⟩:=h
    simp only[au]at hf
    exact⟨first.toList++vs++captured.toList,((aw.lits _).append ha).append (aw.lits _),run _ _ (by simpa using hf)⟩
   |_=>simp[bU]at h
  |_=>simp[bU]at h
 |jP fnv first captured=>
  cases fnv with
  |func g'=>
   simp only[bU,Option.some.injEq,Prod.mk.injEq]at h
   obtain⟨rfl,rfl⟩:=h
   simp only[au]at hf
   obtain⟨fv,cv,hv,yP,nt⟩:=hf
   exact⟨fv++vs++cv,(yP.append ha).append nt,run _ _ hv⟩
  |_=>simp[bU]at h
 |_=>simp[bU]at h
theorem HT[ag]{P:Program}{E:Env}{hp:ak}{w:World}{o:Oper}{ρ:Operand→Value}{e:ed}(h:Step P E hp w (execOp ρ o) e)(r:Option Nat):o.semAt r ρ=execOp ρ o:=by
 refine Oper.semAt_eq r ρ o fun c hc=>?_
 obtain⟨E',w',v,hr,_⟩:=h
 have hd:(execOp ρ o).run P w=(do pure (.defer (←resolve ρ c o.type)):Sem Next).run P w:=by
  obtain⟨dst,op,type,pos,after,guard⟩:=o
  simp only at hc
  subst hc
  rfl
 unfold Wm at hr
 rw[hd,Sem.run_bind]at hr
 cases dL:(resolve ρ c o.type).run P w with
 |ok d w1=>simp_all
 |halt x w1=>simp_all
theorem ze[ag]{P:Program}{B:qS}{rd:Option Nat}{E:Env}{s:St}{a:Act}{w:World}(_:dr B E s a w){o:Oper}{e:ed}(h:Step P E s.hp w (execOp a.eval o) e)
  {K:Act→World→Prop} {Q:Exit→Act→World→Prop}
  (hK:∀ E' w' v,Ext E E'→Fr E w E' w'→Inv E' (av s.hp e.wr) w'→au E' true e.val v→K (a.put o.dst v) w'):o.wpIn (WF rd) 0 P a w K Q:=by
 have To:=HT h (WF rd).round
 obtain⟨E',w',v,hr,hx,hI,hf,hv⟩:=h
 refine⟨fun _ _=>trivial,?_⟩
 rw[To]
 rcases hr with hr|⟨hr,rfl⟩
 ·rw[hr,Oper.uponIn_value]
  exact hK E' w' v hx hf hI hv
 ·rw[hr,Oper.uponIn_skip]
  exact hK E' w' undef hx hf hI hv
theorem Jz{P:Program}{g:FuncId}{vs:Array Value}{w:World}{R:Ending→World→Prop}(h:Calls P g vs w R)(rd:Option Nat)(n:Nat):CallsIn (WF rd) n P g vs w R:=
 (callsIn_wide (n:=n)).2 h
theorem sJ{P:Program}{rd:Option Nat}{a:Act}{w:World}{o:Oper}{c:Call}{f:Operand}(ho:o.op=.call c)(hc:c.callee=.value f){g:FuncId}{vs':List Value}
  (bz:(do let d ←Deferred.ofValue (a.eval f) (c.args.toList.map a.eval).toArray; invoke d.target d.args:Sem Next).run P w=.ok (.enter g vs'.toArray) w)
  {R:Ending→World→Prop} (pL:Calls P g vs'.toArray w R) {K:Act→World→Prop} {Q:Exit→Act→World→Prop}
  (h1:∀ v w',R (.returned v) w'→K (a.put o.dst v) w') (h2:∀ ch w',R (.panicked ch) w'→Q (.panic ch) a w') (h3:∀ w',¬R .outgrown w'):o.wpIn (WF rd) 0 P a w K Q:=by
 refine⟨fun _ _=>trivial,?_⟩
 rw[Oper.semAt_eq _ _ _ (by rw[ho]; intro c h; cases h)]
 have:(execOp a.eval o).run P w=.ok (.enter g vs'.toArray) w:=by
  simp only[execOp,ho,resolve,hc]
  rw[←bz]
  congr 3
  rw[←Array.toList_map]
 rw[this,Oper.uponIn_enter]
 refine⟨fun h=>by simp[WF,Fence.wide]at h,(Jz pL rd _).mono fun e w' hR=>?_⟩
 cases e with
 |returned v=>exact h1 v w' hR
 |panicked ch=>exact h2 ch w' hR
 |outgrown=>exact(h3 w' hR).elim
theorem MY[ag]{E:Env}{hp:ak}{w w':World}(hI:Inv E hp w)(jC:∀ b,E.own b∨(E.m b).isSome=true→w'.heap[b]?=w.heap[b]?)(mw:w.heap.size≤w'.heap.size):Inv E hp w':=by
 have fH:∀ n o,hp[n]?=some (some o)→∀ b,cE E hp n b→E.own b∨(E.m b).isSome=true:=by
  rintro n o ho b ⟨o',l,dJ,hl,hb⟩
  rw[ho]at dJ
  cases dJ
  have h:=hI.objs n o ho
  cases o with
  |arr g cl fz es=>
   obtain⟨l',kW,_,hm⟩:=h
   simp only at hl
   rw[hl]at kW; cases kW
   rw[hb]at hm
   obtain⟨c,T,_,hif,_⟩:=hm
   cases fz with
   |true=>simp_all
   |false=>simp_all
  |iC k vs=>
   obtain⟨l',b',Zo,us,h1,h2,h3,h4,h5,_⟩:=h
   simp only at hl
   rw[hl]at h1; cases h1
   rw[hb]at h2; cases h2
   exact .inl h5
 refine⟨hI.len,fun n o hn=>(hI.objs n o hn).other hn fun b hb=>jC b (fH n o hn b hb),hI.free,hI.inj,fun b c h=>?_,fun b h=>Nat.lt_of_lt_of_le (hI.qa b h) mw,hI.kE⟩
 obtain⟨T,fz,hw⟩:=hI.mem b c h
 exact⟨T,fz,by rw[jC b (.inr (by rw[h]; rfl))]; exact hw⟩
theorem x8{F:Fence}{n:Nat}{P:Program}{fn:Func}{tmps:Array Value}{R:Ending→World→Prop}{u:FrameMode}{tl:List Deferred}(hu:u≠.run):∀ (rs:List Nat) (w:World),rs.Nodup→(∀ r∈rs,w.heap[r]?=some (.deferred (some []))) →
  (∀ w',w'.heap.size=w.heap.size→w'.os=w.os→w'.tape=w.tape→w'.output=w.output→(∀ b,b∉rs→w'.heap[b]?=w.heap[b]?)→LeavesInM F n P fn tmps R tl u w') →
  LeavesInM F n P fn tmps R ((rs.map fun r=>{ target:=.collected r,args:=#[] })++tl) u w
 |[],w,_,_,h=>h w rfl rfl rfl rfl (fun _ _=>rfl)
 |r::rs,w,hn,hr,h=>by
  rw[List.nodup_cons]at hn
  refine⟨hu,.inl ⟨r,w.putObj r (.deferred none),rfl,run_takeDeferred (hr r (by simp)),?_⟩⟩
  refine x8 hu rs _ hn.2 (fun r' h'=>?_) fun w' h1 h2 h3 h4 h5=>?_
  ·have dY:r'≠r:=by rintro rfl; exact hn.1 h'
   rw[World.putObj_heap_other dY]
   exact hr r' (by simp[h'])
  ·refine h w' (by rw[h1]; simp) h2 h3 h4 fun b hb=>?_
   simp only[List.mem_cons,not_or]at hb
   rw[h5 b hb.2,World.putObj_heap_other hb.1]
theorem kb[ag]{P:Program}{fn:Func}{tmps:Array Value}{R:Ending→World→Prop}{E0 E:Env}{w0 w:World}{hp:ak}{ds:List Deferred}{u:FrameMode}{B:qS}(hB:B.n=w0.heap.size)(hI:Inv E hp w)(hm:Marks B E w ds)
  (hf:Fr E0 w0 E w) (hu:u≠.run) (h:∀ w',Inv E hp w'→Fr E0 w0 E w'→LeavesInM Fence.wide 0 P fn tmps R B.tl u w'):LeavesInM Fence.wide 0 P fn tmps R ds u w:=by
 obtain⟨rs,rfl,Cw,_,Ta⟩:=hm
 refine x8 hu rs w Cw (fun r hr=>(Ta r hr).2.2) fun w' h1 h2 h3 h4 h5=>h w' ?_ ?_
 ·refine MY hI (fun b hb=>h5 b fun hr=>?_) (by omega)
  obtain⟨_,a2,a3⟩:=Ta b hr
  rcases hb with hb|hb
  ·exact a2 hb
  ·cases S7:E.m b with
   |none=>rw[S7]at hb; simp at hb
   |some c=>obtain⟨T,fz,h6⟩:=hI.mem b c S7; rw[a3]at h6; cases h6
 ·refine⟨h2.trans hf.os,h3.trans hf.tape,h4.trans hf.out,by rw[h1]; exact hf.size,fun b hb ho=>?_,hf.own,hf.m⟩
  rw[h5 b fun hr=>?_]
  ·exact hf.same b hb ho
  ·have:=(Ta b hr).1; omega
theorem DI[ag]{C:Ctx}{k:Nat}{f:FuncId}{args:List AV}{hp:ak}{r:p6×ak}(h:o9 C k f args hp=some r):
  ∃ fn:Func,C.P.funcs[f]?=some fn∧fn.body.isSome=true:=by
 cases k with
 |zero=>simp[o9]at h
 |succ k=>
  simp only[o9]at h
  split at h
  ·simp at h
  rename_i fn tc
  split at h
  ·simp at h
  rename_i c hc
  exact⟨fn,tc,by rw[hc]; rfl⟩
theorem DJ[ag]{C:Ctx}{k:Nat}(hC:gz C k){f:FuncId}{args:List AV}{hp:ak}{res:p6}{cW:ak}{fn:Func}{c:Code}(tc:C.P.funcs[f]?=some fn)(hc:fn.body=some c){E:Env}{w:World}{vs:List Value}(hI:Inv E hp w)(ha:aw E true args vs)
  (h:(match cw C k c ⟨f,args++List.replicate (fn.ntmps-args.length) .undef,hp⟩ with
    |some (.norm s)|some (.ret s)=>
     match (bh C.P s.fr fn.results.toList).run s.hp with
     |some l=>some (p6.val (cY l),s.hp)
     |none=>none
    |some (.nY v s)=>some (.nY v,s.hp)
    |_=>none)=some (res,cW)):Calls C.P f vs.toArray w (bD E w cW res):=by
 have hlen:=ha.length
 have hs:dr ⟨w.heap.size,[],true⟩ E ⟨f,args++List.replicate (fn.ntmps-args.length) .undef,hp⟩ { tmps:=vs.toArray++Array.replicate (fn.ntmps-vs.toArray.size) undef,defers:=[] } w:=by
  refine⟨?_,hI,Marks.nil,Nat.le_refl _⟩
  simp only[Array.toList_append,Array.toList_replicate,List.size_toArray,←hlen]
  refine ha.append ?_
  have:=aw.lits (E:=E) (o:=true) (List.replicate (fn.ntmps-args.length) undef)
  simpa using this
 have ret:∀ s',((cw C k c ⟨f,args++List.replicate (fn.ntmps-args.length) .undef,hp⟩=some (.norm s')) ∨
   (cw C k c ⟨f,args++List.replicate (fn.ntmps-args.length) .undef,hp⟩=some (.ret s'))) →
   (match (bh C.P s'.fr fn.results.toList).run s'.hp with|some l=>some (p6.val (cY l),s'.hp)|none=>none)=some (res,cW) →
   Calls C.P f vs.toArray w (bD E w cW res):=by
  intro s' cm hr
  split at hr
  case h_2=>simp at hr
  rename_i l hl
  simp only[Option.some.injEq,Prod.mk.injEq]at hr
  obtain⟨rfl,rfl⟩:=hr
  have fin:∀ E' a' w',Ext E E'→Fr E w E' w'→dr ⟨w.heap.size,[],true⟩ E' s' a' w'→LeavesInM Fence.wide 0 C.P fn a'.tmps (bD E w s'.hp (.val (cY l))) a'.defers .returning w':=by
   intro E' a' w' hx hf gm
   refine kb rfl gm.inv gm.df hf (by simp) fun w2 wS nt=>?_
   obtain⟨v,h1,h2⟩:=tV wS gm.fr hl
   exact⟨v,h1,E',hx,wS,nt,h2⟩
  refine callsIn_wide.1 (callsIn_of_wp_marks (F:=Fence.wide) (n:=0) tc hc trivial ?_)
  rcases cm with cm|cm
  ·refine wpIn_mono (hC c _ _ cm none _ (.inl ⟨rfl,rfl⟩) E _ w hs) fun e a' w' eL=>?_
   obtain⟨E',hx,hf,ho⟩:=eL
   cases e with
   |normal=>exact fin E' a' w' hx hf ho
   |_=>exact ho.elim
  ·refine wpIn_mono (hC c _ _ cm none _ (.inl ⟨rfl,rfl⟩) E _ w hs) fun e a' w' eL=>?_
   obtain⟨E',hx,hf,ho⟩:=eL
   cases e with
   |ret=>exact fin E' a' w' hx hf ho
   |_=>exact ho.elim
 split at h
 ·grind
 ·grind
 ·rename_i v s' cm
  simp only[Option.some.injEq,Prod.mk.injEq]at h
  obtain⟨rfl,rfl⟩:=h
  refine callsIn_wide.1 (callsIn_of_wp_marks (F:=Fence.wide) (n:=0) tc hc trivial (wpIn_mono (hC c _ _ cm none _ (.inl ⟨rfl,rfl⟩) E _ w hs) fun e a' w' eL=>?_))
  obtain⟨E',hx,hf,ho⟩:=eL
  cases e with
  |panic ch=>
   obtain⟨u,h1,h2,h3,h4⟩:=ho
   exact kb rfl h3 h4 hf (by simp) fun w2 wS nt=>⟨E',hx,wS,nt,u,h1,h2⟩
  |_=>exact ho.elim
 ·simp at h
theorem Fg[ag]{C:Ctx}(ck:C.Ok){k:Nat}(hF:oS C k):wU C (k+1):=by
 intro g args hp res wr h E w vs hI ha
 simp only[pd,RM.run_bind]at h
 cases hq:(ba 1000 args).run hp with
 |none=>rw[hq]at h; simp at h
 |some as=>
  rw[hq]at h
  simp only[Option.bind_some]at h
  split at h
  ·rename_i hf hh
   split at h
   case h_2=>simp[RM.aj]at h
   rename_i r hr
   exact wR hI ha hq h fun Ec h1 h2=>ck.kT g hf as r hh hr Ec w vs h1 h2
  ·split at h
   case h_2=>simp[RM.aj]at h
   rename_i r eV hr
   exact wR hI ha hq h fun Ec h1 h2=>hF g as [] r eV hr Ec w vs h1 h2.jz
theorem Cx[ag]{C:Ctx}(ck:C.Ok){k:Nat}{g:FuncId}{args:List AV}{hp:ak}{nm:Nat}{e:ed}(h:(jj C (fun as=>o9 C k g as []) nm g args).run hp=some e):
  ∃ fn : Func, C.P.funcs[g]? = some fn ∧ fn.body.isSome = true ∧ (fn.name == "runtime.NumGoroutine") = false := by
 unfold jj at h
 rw[RM.run_bind]at h
 cases hs:(ba 1000 args).run hp with
 |none=>rw[hs]at h; simp at h
 |some as=>
  rw[hs]at h
  simp only[Option.bind_some]at h
  split at h
  ·rename_i hh hi
   obtain⟨fn,h1,h2⟩:=ck.zd g hh hi
   exact⟨fn,h1,h2,ck.name g fn h1 h2⟩
  ·split at h
   ·rename_i r eV hq
    obtain⟨fn,h1,h2⟩:=DI hq
    exact⟨fn,h1,h2,ck.name g fn h1 h2⟩
   ·simp[RM.aj]at h
theorem Cy[ag]{C:Ctx}(ck:C.Ok){k:Nat}(hF:oS C k){E:Env}{hp:ak}{w:World}(hI:Inv E hp w){nm:Nat}(qc:nm=hp.length∨hp[nm]?=some none)
  {g:FuncId} {args:List AV} {vs:List Value} (ha:aw E true args vs) {e:ed} (h:(jj C (fun as=>o9 C k g as []) nm g args).run hp=some e) :
  Calls C.P g vs.toArray w (Jx E w hp e):=by
 unfold jj at h
 rw[RM.run_bind]at h
 cases hs:(ba 1000 args).run hp with
 |none=>rw[hs]at h; simp at h
 |some as=>
  rw[hs]at h
  simp only[Option.bind_some]at h
  have pM:=(sC hI (N:=fun _=>True) 1000).2 args as vs zc hs ha
  split at h
  ·rename_i hh hi
   split at h
   ·rename_i q hq
    exact(ck.gM g hh as q.1 q.2 hi hq _ w vs (pK hI _) pM).mono fun en w' hp=>by
     obtain⟨r',yO,h1,h2⟩:=hp
     rw[←h2]at h
     exact Jy hI qc h (fun b hb=>hb) h1
   ·simp[RM.aj]at h
  ·split at h
   ·rename_i r eV hq
    exact(hF g as [] _ eV hq _ w vs (pK hI _) pM.jz).mono fun en w' hp=>Jy hI qc h (fun b hb=>hb) hp
   ·simp[RM.aj]at h
theorem MZ[ag]{C:Ctx}(ck:C.Ok){k:Nat}{g:FuncId}{args:List AV}{hp:ak}{r:p6×List (Nat×aY)}(h:(pd C k g args).run hp=some r):
  ∃ fn : Func, C.P.funcs[g]? = some fn ∧ fn.body.isSome = true ∧ (fn.name == "runtime.NumGoroutine") = false := by
 have:∃ fn:Func,C.P.funcs[g]?=some fn∧fn.body.isSome=true:=by
  cases k with
  |zero=>simp[pd,RM.aj]at h
  |succ k=>
   simp only[pd,RM.run_bind]at h
   cases hq:(ba 1000 args).run hp with
   |none=>rw[hq]at h; simp at h
   |some as=>
    rw[hq]at h
    simp only[Option.bind_some]at h
    split at h
    ·rename_i hf hh; exact ck.DH g hf hh
    ·split at h
     case h_2=>simp[RM.aj]at h
     rename_i r eV hr
     exact DI hr
 obtain⟨fn,h1,h2⟩:=this
 exact⟨fn,h1,h2,ck.name g fn h1 h2⟩
theorem Ap[ag]{E E':Env}{hp cW:ak}{w w':World}(hI:Inv E hp w)(hx:Ext E E')(mC:Inv E' cW w')(hf:Fr E w E' w'){r:AV}{v:Value}(hr:au E' true r v):
  ∃ E2,Ext E E2∧Inv E2 (jS hp.length r cW) w'∧Fr E w E2 w'∧au E2 true r v:=by
 unfold jS
 split
 ·rename_i hc
  simp only[Bool.and_eq_true]at hc
  have hle:hp.length≤cW.length:=by rw[hI.len,mC.len]; exact hx.L
  obtain⟨h1,h2,h3⟩:=vG mC hle hc.2
  refine⟨E'.lower hp.length,⟨hx.m,fun n hn ax l h=>hx.ρ n hn ax l h,by simp[Env.lower,hI.len]⟩,h1,hf.trans h2,au.down h3 hc.1 hr⟩
 ·exact⟨E',hx,mC,hf,hr⟩
theorem DK[ag]{E:Env}{hp:ak}{w:World}(hI:Inv E hp w){esz:Nat}:
  ∃ E',Ext E E'∧Inv E' (hp++[some (.arr true true false [])]) w∧Fr E w E' w∧au E' true (.bw esz hp.length 0 0 0 none) (.slice none 0 0):=by
 let E':Env:={ ρ:=fun n ax=>if n=hp.length then (if ax=0 then some ⟨none,esz,0⟩ else none) else E.ρ n ax,m:=E.m,L:=E.L+1,own:=E.own }
 have hx:Ext E E':=⟨fun _ _ h=>h,fun n hn ax l h=>by
  have:n≠hp.length:=by rw[hI.len]; omega
  simp[E',this,h],by simp[E']⟩
 have ef:∀ n,n≠hp.length→∀ ax,E'.ρ n ax=E.ρ n ax:=fun n hn ax=>by simp[E',hn]
 have nS:∀ n o,n≠hp.length→(hp++[some (.arr true true false [])])[n]?=some o→hp[n]?=some o:=by
  intro n o hn h
  rw[List.getElem?_append]at h
  split at h
  ·exact h
  ·rw[List.getElem?_eq_none (by simp; omega)]at h; simp at h
 have fH:∀ n b,cE E' (hp++[some (.arr true true false [])]) n b→cE E hp n b:=by
  rintro n b ⟨o,l,ho,hl,hb⟩
  by_cases e:n=hp.length
  ·subst e
   simp at ho
   subst ho
   simp[E']at hl
   subst hl
   simp at hb
  ·refine⟨o,l,nS n _ e ho,?_,hb⟩
   cases o with
   |arr=>simpa only[ef n e] using hl
   |iC=>simpa only[ef n e] using hl
 refine⟨E',hx,⟨by simp[E',hI.len],?_,?_,fun n1 n2 b h1 h2=>hI.inj n1 n2 b (fH _ _ h1) (fH _ _ h2),hI.mem,hI.qa,hI.kE⟩,
  ⟨rfl,rfl,rfl,Nat.le_refl _,fun _ _ _=>rfl,fun _ h=>.inl h,fun _ _ h=>.inl h⟩,?_⟩
 ·intro n o ho
  by_cases e:n=hp.length
  ·subst e
   simp at ho
   subst ho
   refine⟨⟨none,esz,0⟩,by simp[E'],fun ax l' h=>?_,rfl,rfl⟩
   simp[E']at h
   simp[h.1]
  ·have dJ:=nS n _ e ho
   have h:=hI.objs n o dJ
   cases o with
   |arr g cl fz es=>
    obtain⟨l,hl,hv,hm⟩:=h
    refine⟨l,by rw[ef n e]; exact hl,fun ax l' h=>hv ax l' (by rw[ef n e]at h; exact h),?_⟩
    cases hb:l.ma with
    |none=>rw[hb]at hm; exact hm
    |some b=>
     rw[hb]at hm
     obtain⟨c,T,a1,a2,a3,a4,a5,a6,a7⟩:=hm
     exact⟨c,T,a1,a2,a3,a4,a5,a6,fun i x ic=>by obtain⟨v,lE,gy⟩:=a7 i x ic; exact⟨v,lE.mono hx,gy⟩⟩
   |iC k PX=>
    obtain⟨l,b,es,clock,a1,a2,a3,a4,a5,a6,a7,a8⟩:=h
    exact⟨l,b,es,clock,by rw[ef n e]; exact a1,a2,a3,a4,a5,fun ax l' h=>a6 ax l' (by rw[ef n e]at h; exact h),a7,a8.mono hx⟩
 ·intro n ax h
  by_cases e:n=hp.length
  ·subst e; simp at h
  ·rw[ef n e]; exact hI.free n ax (nS n _ e h)
 ·simp only[au]
  refine⟨trivial,?_,⟨none,esz,0⟩,by simp[E'],rfl,by simp,?_⟩
  ·show hp.length<E.L+1
   rw[hI.len]; omega
  ·simp
theorem iX{α:Type}{l:List α}{n:Nat}{x:α}(h:l[n]?=some x):l.set n x=l:=by
 apply List.ext_getElem?
 intro m
 by_cases hm:n=m
 ·grind
 ·rw[List.getElem?_set_ne hm]
theorem x9[ag]{E E':Env}(hx:Ext E E'){esz j nm:Nat}(qc:au E' true (.bw esz nm 0 0 0 none) (.slice none 0 0)){e e':AV}{v:Value}(hr:au E true e v)(h:mr esz j nm e=some e'):au E' true e' v:=by
 unfold mr at h
 split at h
 ·rename_i l
  split at h
  case h_2=>simp at h
  rename_i hl
  simp only[Option.some.injEq]at h
  subst h
  simp only[au]at hr
  obtain⟨c,rfl,hc⟩:=hr
  obtain⟨v,hv,hrv,hlv⟩:=hc.get hl
  simp only[au]at hrv
  subst hrv
  have:=(hc.mono hx).set j qc hlv
  rw[iX hv]at this
  simp only[au]
  exact⟨c,rfl,this⟩
 ·grind[au]
 ·simp at h
theorem tX[ag]{E:Env}{hp:ak}{w:World}(hI:Inv E hp w){n i:Nat}{g c f:Bool}{es:List AV}{e e':AV}(ho:hp[n]?=some (some (.arr g c f es)))(hi:es[i]?=some e)
  (hr:∀ v,au E true e v→au E true e' v):Inv E (hp.set n (some (.arr g false f (es.set i e')))) w:=by
 have hn:=(List.getElem?_eq_some_iff.1 ho).1
 have nS:∀ m o,(hp.set n (some (.arr g false f (es.set i e'))))[m]?=some o→m=n∧o=some (.arr g false f (es.set i e'))∨m≠n∧hp[m]?=some o:=by
  grind
 have fH:∀ m b,cE E (hp.set n (some (.arr g false f (es.set i e')))) m b→cE E hp m b:=by
  rintro m b ⟨o,l,h1,h2,h3⟩
  rcases nS m _ h1 with ⟨rfl,h5⟩|⟨_,h5⟩
  ·cases h5
   exact⟨_,l,ho,by simpa using h2,h3⟩
  ·exact⟨o,l,h5,h2,h3⟩
 refine⟨by rw[List.length_set]; exact hI.len,fun m o h=>?_,fun m ax h=>?_,fun m m' b h1 h2=>hI.inj m m' b (fH _ _ h1) (fH _ _ h2),hI.mem,hI.qa,hI.kE⟩
 ·rcases nS m _ h with ⟨rfl,h5⟩|⟨_,h5⟩
  ·cases h5
   obtain⟨l,h1,h2,h3⟩:=hI.objs _ _ ho
   refine⟨l,by simpa using h1,fun ax l' h=>by simpa using h2 ax l' h,?_⟩
   cases hb:l.ma with
   |none=>
    rw[hb]at h3
    obtain⟨rfl,rfl⟩:=h3
    simp at hi
   |some b=>
    rw[hb]at h3
    obtain⟨c',T,a1,a2,a3,a4,a5,a6,a7⟩:=h3
    refine⟨c',T,a1,a2,a3,a4,by simpa using a5,fun h=>by simpa using a6 h,fun k x hx=>?_⟩
    by_cases hk:k=i
    ·subst hk
     rw[List.getElem?_set_self (List.getElem?_eq_some_iff.1 hi).1]at hx
     simp only[Option.some.injEq]at hx
     subst hx
     obtain⟨v,hv,gy⟩:=a7 _ _ hi
     exact⟨v,by simpa using hr v hv.Dj,gy⟩
    ·rw[List.getElem?_set_ne (Ne.symm hk)]at hx
     obtain⟨v,hv,gy⟩:=a7 _ _ hx
     exact⟨v,by simpa using hv.Dj,gy⟩
  ·exact hI.objs m o h5
 ·rcases nS m _ h with ⟨rfl,h5⟩|⟨_,h5⟩
  ·cases h5
  ·exact hI.free m ax h5
theorem DL[ag]{E:Env}{j:Nat}{e e':AV}(h:uW j e=some e')(v:Value)(hr:au E true e v):au E true e' v:=by
 unfold uW at h
 split at h
 case h_2=>simp at h
 rename_i l
 split at h
 case h_2=>simp at h
 rename_i hj
 simp only[Option.some.injEq]at h
 subst h
 simp only[au]at hr ⊢
 obtain⟨c,rfl,hc⟩:=hr
 refine⟨c,rfl,?_⟩
 have hj':j<l.length:=by simpa using hj
 obtain⟨u,hu,_⟩:=hc.I8.get (List.getElem?_eq_getElem hj')
 have:=hc.set j (x:=.any) (v:=u) (by simp[au]) (hc.leaf u (List.mem_iff_getElem?.2 ⟨j,hu⟩))
 rw[iX hu]at this
 exact this
theorem HU[ag]{B:qS}{E:Env}{s:St}{a:Act}{w:World}(hs:dr B E s a w)(d j:Nat):dr B E (nZ s d j) a w:=by
 unfold nZ
 split
 ·split
  ·rename_i ho
   split
   ·rename_i e' he
    obtain⟨e,L4,Aq⟩:=Option.bind_eq_some_iff.1 he
    exact⟨hs.fr,tX hs.inv ho L4 fun v hv=>DL Aq v hv,hs.df,hs.bs⟩
   ·exact hs
  ·exact hs
 ·exact hs
theorem wV[ag]{B:qS}{E:Env}{a:Act}{w:World}:∀ (l:List (Nat×Nat)) {s:St},dr B E s a w→dr B E (iJ l s) a w
 |[],_,hs=>hs
 |(d,j)::r,_,hs=>wV r (HU hs d j)
theorem Fh(s:St)(d j:Nat):(nZ s d j).hp.length=s.hp.length:=by
 grind[nZ]
theorem tY:∀ (l:List (Nat×Nat)) (s:St),(iJ l s).hp.length=s.hp.length
 |[],_=>rfl
 |(d,j)::r,s=>by
  simp only[iJ]
  rw[tY r,Fh]
theorem KI[ag]{B:qS}{E:Env}{s:St}{a:Act}{w:World}(hs:dr B E s a w)(d:Tmp)(j esz:Nat):∃ E',Ext E E'∧Fr E w E' w∧dr B E' (rk d s j esz) a w:=by
 obtain⟨E',h1,h2,h3,h4⟩:=DK (esz:=esz) hs.inv
 have same:∃ E',Ext E E'∧Fr E w E' w∧dr B E' s a w:=⟨E,Ext.refl E,Fr.refl E w,hs⟩
 unfold rk
 split
 ·rename_i n ax i k hd
  split
  ·rename_i g c f es ho
   split
   ·rename_i e' he
    obtain⟨e,L4,Aq⟩:=Option.bind_eq_some_iff.1 he
    have hn:=(List.getElem?_eq_some_iff.1 ho).1
    have dJ:(s.hp++[some (aY.arr true true false [])])[n]?=some (some (.arr g c f es)):=by rw[List.getElem?_append_left hn]; exact ho
    obtain⟨l,uM,_,L9⟩:=hs.inv.objs _ _ ho
    cases hb:l.ma with
    |none=>
     simp_all
    |some b=>
     rw[hb]at L9
     obtain⟨c',T,a1,a2,a3,a4,a5,a6,a7⟩:=L9
     obtain⟨v0,Jg,_⟩:=a7 _ _ L4
     have aas:∀ v,au E' true e v→au E' true e' v:=fun v hv=>x9 (Ext.refl E') h4 hv Aq
     refine⟨E',h1,h3,⟨hs.fr.mono h1,?_,hs.df.mono h3,hs.bs⟩⟩
     have:=tX h2 dJ L4 aas
     rw[List.set_append_left _ _ hn]at this
     exact this
   ·exact same
  ·exact same
 ·rename_i e _ hd
  split
  ·rename_i e' he
   obtain⟨v,hv,hr⟩:=hs.fr.get hd
   refine⟨E',h1,h3,⟨?_,h2,hs.df.mono h3,hs.bs⟩⟩
   have:=(hs.fr.mono h1).set d (x9 h1 h4 hr he)
   rw[iX hv]at this
   exact this
  ·exact same
 ·exact same
theorem JA[ag]{B:qS}{d:Tmp}{a:Act}{w:World}:∀ (l:List (Nat×Nat)) {E:Env} {s:St},dr B E s a w→∃ E',Ext E E'∧Fr E w E' w∧dr B E' (LR d l s) a w
 |[],E,s,hs=>⟨E,Ext.refl E,Fr.refl E w,hs⟩
 |(j,esz)::r,E,s,hs=>by
  obtain⟨E1,h1,h2,h3⟩:=KI hs d j esz
  obtain⟨E2,h4,h5,h6⟩:=JA r h3
  exact⟨E2,h1.trans h4,h2.trans h5,h6⟩
theorem M0[ag]{B:qS}{l:Tmp→List (Nat×Nat)}{dst:Option Tmp}{a:Act}{w:World}{E:Env}{s:St}(hs:dr B E s a w):∃ E',Ext E E'∧Fr E w E' w∧dr B E' (Ey l dst s) a w:=by
 cases dst with
 |none=>exact⟨E,Ext.refl E,Fr.refl E w,hs⟩
 |some d=>exact JA _ hs
theorem lN{hp:ak}{n:Nat}{st:m9}(h:jV hp n=some st):∃ fn ps as bd fr,hp[n]?=some (some (.iC (.loop fn ps as bd st) fr)):=by
 grind[jV]
theorem sK[ag]{E:Env}{hp:ak}{w:World}(hI:Inv E hp w){n:Nat}{fn:FuncId}{ps:Array Tmp}{as bd:Code}{st:m9}{fr:List AV}(ho:hp[n]?=some (some (.iC (.loop fn ps as bd st) fr)))
  {l:Loc} {b:Nat} (hl:E.ρ n 0=some l) (hb:l.ma=some b) :
  ∃ r,w.heap[b]?=some (.loop r)∧r.params=ps∧r.assign=as∧r.body=bd∧st.is r.state r.pending∧aw E true fr r.tmps.toList:=by
 obtain⟨l0,b0,ob,us,h1,h2,h3,h4,h5,h6,h7,h8⟩:=hI.objs n _ ho
 rw[hl]at h1; cases h1
 rw[hb]at h2; cases h2
 cases ob with
 |loop r=>
  obtain⟨a1,a2,a3,a4,a5⟩:=h7
  exact⟨r,h3,a1,a2,a3,a4,by rw[a5]; exact h8⟩
 |_=>exact h7.elim
theorem Fi[ag]{E:Env}{hp:ak}{w:World}(hI:Inv E hp w){n:Nat}{fn:FuncId}{ps:Array Tmp}{as bd:Code}{st:m9}{fr:List AV}(ho:hp[n]?=some (some (.iC (.loop fn ps as bd st) fr)))
  {l:Loc} {b:Nat} (hl:E.ρ n 0=some l) (hb:l.ma=some b) {r:Loop} (hr:w.heap[b]?=some (.loop r)) {st':m9} {s':LoopState} {p':Option Code} (his:st'.is s' p') :
  Inv E (qF hp n st') (w.putObj b (.loop { r with state:=s',pending:=p' }))∧Fr E w E (w.putObj b (.loop { r with state:=s',pending:=p' })):=by
 obtain⟨r',h1,h2,h3,h4,_,h6⟩:=sK hI ho hl hb
 rw[hr]at h1
 cases h1
 unfold qF
 rw[ho]
 exact y9 hI ho hl hb (k':=.loop fn ps as bd st') (us':=r.tmps.toList) ⟨h2,h3,h4,his,rfl⟩ h6
theorem Cz{E:Env}{u:List Nat}:∀ (i:Nat) (fr:List AV) (vs:List Value),aw E true fr vs→aw E true (qE u i fr) vs
 |_,[],[],h=>by simp[qE,aw]
 |i,x::xs,v::vs,h=>by
  simp only[aw]at h
  simp only[qE,aw]
  refine⟨?_,Cz (i+1) xs vs h.2⟩
  split
  ·exact h.1
  ·simp[au]
 |_,[],_::_,h=>by simp[aw]at h
 |_,_::_,[],h=>by simp[aw]at h
theorem Fj{E:Env}:∀ (fr:List AV) (vs:List Value),aw E true fr vs→aw E true (fr.map fun _=>.any) vs
 |[],[],_=>by simp[aw]
 |x::xs,v::vs,h=>by
  simp only[aw]at h
  simp only[List.map_cons,aw,au]
  exact⟨trivial,Fj xs vs h.2⟩
 |[],_::_,h=>by simp[aw]at h
 |_::_,[],h=>by simp[aw]at h
theorem M1[ag]{E:Env}{hp:ak}{w:World}(hI:Inv E hp w){n:Nat}{fn:FuncId}{ps:Array Tmp}{as bd:Code}{st:m9}{fr:List AV}(ho:hp[n]?=some (some (.iC (.loop fn ps as bd st) fr)))
  {l:Loc} {b:Nat} (hl:E.ρ n 0=some l) (hb:l.ma=some b) {r:Loop} (hr:w.heap[b]?=some (.loop r)) {s':LoopState} {p':Option Code} :
  Inv E (u3 hp n) (w.putObj b (.loop { r with state:=s',pending:=p' }))∧Fr E w E (w.putObj b (.loop { r with state:=s',pending:=p' })):=by
 obtain⟨r',h1,h2,h3,h4,_,h6⟩:=sK hI ho hl hb
 rw[hr]at h1
 cases h1
 unfold u3
 rw[ho]
 exact y9 hI ho hl hb (k':=.loop fn ps as bd .over) (us':=r.tmps.toList) ⟨h2,h3,h4,trivial,rfl⟩ (Fj _ _ h6)
theorem ya{E:Env}:∀ (ps:List Tmp) (xs:List AV) (vs:List Value) (fr:List AV) (t:Array Value),aw E true fr t.toList→aw E true xs vs →
  aw E true (gC fr ps xs) ((ps.zip vs).foldl (fun (t:Array Value) (q:Tmp×Value)=>t.setIfInBounds q.1 q.2) t).toList
 |[],xs,vs,fr,t,h,_=>by simpa[gC] using h
 |p::ps,[],[],fr,t,h,_=>by simpa[gC] using h
 |p::ps,x::xs,v::vs,fr,t,h,hx=>by
  simp only[aw]at hx
  simp only[gC,List.zip_cons_cons,List.foldl_cons]
  refine ya ps xs vs _ _ ?_ hx.2
  rw[Array.toList_setIfInBounds]
  exact h.set p hx.1
 |p::ps,[],_::_,_,_,_,h=>by simp[aw]at h
 |p::ps,_::_,[],_,_,_,h=>by simp[aw]at h
theorem BK{P:Program}{a:Act}{w:World}{o:Oper}{c:Call}{f:Operand}(ho:o.op=.call c)(hc:c.callee=.value f){b:Nat}(hf:a.eval f=.func (.yield b) #[] #[])
  {r:Loop} (hr:w.heap[b]?=some (.loop r)) (hs:(c.args.map a.eval).size=r.params.size) :
  (execOp a.eval o).run P w=.ok (.round b r.fn ((r.params.zip (c.args.map a.eval)).foldl (fun tmps (t,a)=>tmps.setIfInBounds t a) r.tmps) r.assign r.body) w:=by
 have h1:(execOp a.eval o)=(do let d ←Deferred.ofValue (a.eval f) (c.args.map a.eval); invoke d.target d.args):=by
  simp only[execOp,ho,resolve,hc]
 rw[h1,hf]
 have h2:=run_yield (P:=P) (args:=c.args.map a.eval) hr hs
 simp only[Deferred.ofValue,Sem.run_bind,Sem.run_pure,Result.andThen_ok,invoke,Array.empty_append]
 exact h2
theorem M3[ag]{C:Ctx}{k:Nat}(hC:gz C k){rd:Option Nat}{B:qS}{E:Env}{s:St}{a:Act}{w:World}(hs:dr B E s a w){n:Nat}{o:Oper}{c:Call}{f:Operand}(ho:o.op=.call c)(hc:c.callee=.value f)
  (hf:aP s.fr f=.mp true n) {r:Out} (bz:iL (fun c s=>cw C k c s) n (c.args.toList.map (aP s.fr)) o.dst s=some r) {K:Act→World→Prop} {Q:Exit→Act→World→Prop}
  (hK:∀ s',r=.norm s'→∀ E' a' w',Ext E E'→Fr E w E' w'→dr B E' s' a' w'→K a' w'):o.wpIn (WF rd) 0 C.P a w K Q:=by
 unfold iL at bz
 split at bz
 case h_2=>simp at bz
 rename_i fn0 ps as bd fr DM
 split at bz
 case h_2=>simp at bz
 rename_i HV
 simp only[Bool.and_eq_true,decide_eq_true_eq]at HV
 obtain⟨⟨hlen,hna⟩,PF⟩:=HV
 have cm:=fun y=>ka hs.inv.kE hs.fr y
 have HW:=cm f
 rw[hf]at HW
 simp only[au]at HW
 obtain⟨_,Kw,l,b,hl,hb,HW⟩:=HW
 obtain⟨r0,g1,g2,g3,g4,g5,g6⟩:=sK hs.inv DM hl hb
 have od:=nk cm c.args.toList
 have mw:(c.args.map a.eval).size=r0.params.size:=by
  rw[g2,←hlen]
  simp
 refine⟨fun _ _=>trivial,?_⟩
 rw[Oper.semAt_eq _ _ _ (by rw[ho]; intro c h; cases h),BK ho hc HW g1 mw,Oper.uponIn_round]
 refine⟨fun h=>by simp[WF,Fence.wide]at h,?_⟩
 rw[g3,g4]
 refine roundIn_of_wpIn trivial ?_
 have WH:((r0.params.zip (c.args.map a.eval)).foldl (fun tmps (x:Tmp×Value)=>tmps.setIfInBounds x.1 x.2) r0.tmps)=((ps.toList.zip (c.args.toList.map a.eval)).foldl (fun (t:Array Value) (q:Tmp×Value)=>t.setIfInBounds q.1 q.2) r0.tmps):=by
  rw[←Array.foldl_toList,Array.toList_zip,g2,Array.toList_map]
 split at bz
 case h_2=>simp at bz
 rename_i s1 aau
 split at bz
 case h_2=>simp at bz
 rename_i aav
 have Qx:dr ⟨w.heap.size,[],true⟩ E ⟨fn0,gC fr ps.toList (c.args.toList.map (aP s.fr)),s.hp⟩ { tmps:=(r0.params.zip (c.args.map a.eval)).foldl (fun tmps (x:Tmp×Value)=>tmps.setIfInBounds x.1 x.2) r0.tmps,defers:=[] } w:=
  ⟨by rw[WH]; exact ya _ _ _ _ _ g6 od,hs.inv,Marks.nil,Nat.le_refl _⟩
 refine wpIn_mono (hC as _ _ aau (some b) _ (.inr hna) E _ w Qx) fun e a1 w1 hp=>?_
 obtain⟨E1,PH,yP,KJ⟩:=hp
 cases e with
 |normal=>
  have qK:dr ⟨w.heap.size,[],true⟩ E1 s1 a1 w1:=KJ
  obtain⟨fn1,ps1,as1,bd1,fr1,R6⟩:=lN aav
  have uM:=PH.ρ n Kw 0 l hl
  obtain⟨r1,q1,q2,q3,q4,q5,q6⟩:=sK qK.inv R6 uM hb
  obtain⟨PA,HI⟩:=Fi qK.inv R6 uM hb q1 (st':=.busy) (s':=.busy) (p':=r1.pending) ⟨rfl,q5.2⟩
  refine⟨_,run_beginRound q1 q5.1,?_⟩
  have Dt:dr ⟨w.heap.size,[],true⟩ E1 { s1 with hp:=qF s1.hp n .busy } a1 (w1.putObj b (.loop { r1 with state:=.busy })):=
   ⟨qK.fr,PA,qK.df.mono HI,Nat.le_trans qK.bs HI.size⟩
  have finish:∀ (s2:St) (bb:Bool) (st:m9) (j:Option Code) (E2:Env) (w2:World),bb=j.isNone→st.is (if j.isNone then .ready else .done) j→zy n o.dst s bb st s2.hp=some r→Ext E1 E2→Fr E1 (w1.putObj b (.loop { r1 with state:=.busy })) E2 w2→Inv E2 s2.hp w2 →
    ∃ v w',(Instr.endRound b j).run C.P w2=.ok v w'∧K (a.put o.dst v) w':=by
   intro s2 bb st j E2 w2 S0 his Fk oQ nt wS
   unfold zy at Fk
   split at Fk
   case h_2=>simp at Fk
   rename_i aaw
   simp only[Option.some.injEq]at Fk
   obtain⟨fn2,ps2,Zx,bd2,fr2,R7⟩:=lN aaw
   have rq:=oQ.ρ n (Nat.lt_of_lt_of_le Kw PH.L) 0 l uM
   obtain⟨r2,u1,_,_,_,u5,_⟩:=sK wS R7 rq hb
   obtain⟨c1,c2⟩:=Fi wS R7 rq hb u1 his
   refine⟨_,_,run_endRound j u1,?_⟩
   have hx:=PH.trans oQ
   have gi:=((yP.trans HI).trans nt).trans c2
   obtain⟨E3,d1,d2,d3,d4⟩:=Ap hs.inv hx c1 gi (r:=.lit (.bool bb)) (v:=.bool bb) (by simp[au])
   subst S0
   exact hK _ Fk.symm E3 _ _ d1 d3 ⟨j0 (hs.fr.mono d1) d4,d2,by rw[put_defers]; exact hs.df.mono d3,Nat.le_trans hs.bs d3.size⟩
  split at bz
  ·rename_i s2 M4
   refine wpIn_mono (hC bd _ _ M4 (some b) _ (.inr PF) E1 _ _ Dt) fun e a2 w2 hp=>?_
   obtain⟨E2,oQ,nt,wT⟩:=hp
   cases e with
   |normal=>exact finish s2 true .ready none E2 w2 rfl ⟨rfl,rfl⟩ bz oQ nt (dr.inv wT)
   |_=>exact wT.elim
  ·rename_i id s2 M4
   refine wpIn_mono (hC bd _ _ M4 (some b) _ (.inr PF) E1 _ _ Dt) fun e a2 w2 hp=>?_
   obtain⟨E2,oQ,nt,wT⟩:=hp
   cases e with
   |exit j=>
    obtain⟨rfl,wT⟩:=wT
    exact finish s2 false (.jump (some id)) (some (.exit id)) E2 w2 rfl ⟨rfl,rfl⟩ bz oQ nt wT.inv
   |_=>exact wT.elim
  ·rename_i s2 M4
   refine wpIn_mono (hC bd _ _ M4 (some b) _ (.inr PF) E1 _ _ Dt) fun e a2 w2 hp=>?_
   obtain⟨E2,oQ,nt,wT⟩:=hp
   cases e with
   |ret=>exact finish s2 false (.jump none) (some .ret) E2 w2 rfl ⟨rfl,rfl⟩ bz oQ nt (dr.inv wT)
   |_=>exact wT.elim
  ·simp at bz
 |_=>exact KJ.elim
theorem HX{run:Code→St→Option Out}{n:Nat}{args:List AV}{dst:Option Tmp}{s:St}{r:Out}(h:iL run n args dst s=some r):∃ s',r=.norm s':=by
 unfold iL at h
 repeat' split at h
 all_goals first
  |simp at h
  |(unfold zy at h
    split at h
    ·grind
    ·simp at h)
theorem Fl[ag]{C:Ctx}(ck:C.Ok){k:Nat}(hF:oS C k)(hP:wU C k)(hC:gz C k):nr C.P (fun o s=>iM C (k+1) o s):=by
 intro o s r h rd B E a w K Q hs hK hQ
 have cm:=fun x=>ka hs.inv.kE hs.fr x
 have Zy:∀ (res:Option ed),res=(aV C.P s.hp.length (aP s.fr) o).run s.hp →
   (match res with|some e=>some (Out.norm { s with fr:=bX s.fr o.dst e.val,hp:=av s.hp e.wr })|none=>none)=some r→o.wpIn (WF rd) 0 C.P a w K Q:=by
  intro res dL h
  split at h
  case h_2=>simp at h
  rename_i e
  simp only[Option.some.injEq]at h
  refine ze hs (vp hs.inv (.inl rfl) cm dL.symm) fun E' w' v hx hf mC hv=>?_
  exact hK _ h.symm E' _ w' hx hf ⟨j0 (hs.fr.mono hx) hv,mC,by rw[put_defers]; exact hs.df.mono hf,Nat.le_trans hs.bs hf.size⟩
 obtain⟨dst,op,type,pos,after,guard⟩:=o
 simp only[iM]at h
 split at h
 ·rename_i c
  split at h
  ·exact Zy _ rfl h
  ·rename_i f Qy
   split at h
   ·split at h
    ·rename_i n hn
     exact M3 hC hs rfl Qy hn h hK
    ·simp at h
   rename_i g args dL
   have od:=nk cm c.args.toList
   split at h
   ·-- a result of the caller's own
    split at h
    case h_2=>simp at h
    rename_i e hq
    simp only[Option.some.injEq]at h
    obtain⟨vs',qR,bz⟩:=gR (w:=w) (cm f) od dL (Cx ck hq)
    refine sJ rfl Qy bz (Cy ck hF hs.inv (.inl rfl) qR hq) (fun v w' hp=>?_) (fun ch w' hp=>?_) (fun w' hp=>?_)
    ·obtain⟨v',lE,E',hx,mC,hf,hr⟩:=hp
     cases lE
     exact hK _ h.symm E' _ w' hx hf ⟨j0 (hs.fr.mono hx) hr,mC,by rw[put_defers]; exact hs.df.mono hf,Nat.le_trans hs.bs hf.size⟩
    ·obtain⟨v',lE,_⟩:=hp
     cases lE
    ·obtain⟨v',lE,_⟩:=hp
     cases lE
   split at h
   ·-- by value
    rename_i Ao
    cases hq:(pd C k g args).run s.hp with
    |none=>rw[hq]at h; simp at h
    |some q=>
     obtain⟨res,wr⟩:=q
     rw[hq]at h
     obtain⟨vs',qR,bz⟩:=gR (w:=w) (cm f) od dL (MZ ck hq)
     have pL:=hP g args s.hp res wr hq E w vs' hs.inv qR
     refine sJ rfl Qy bz pL (fun v w' hp=>?_) (fun ch w' hp=>?_) (fun w' hp=>?_)
     ·obtain⟨E',hx,mC,hf,hr⟩:=hp
      cases res with
      |nY _=>exact hr.elim
      |val x=>
       simp only[Option.some.injEq]at h
       exact hK _ h.symm E' _ w' hx hf ⟨j0 (hs.fr.mono hx) hr,mC,by rw[put_defers]; exact hs.df.mono hf,Nat.le_trans hs.bs hf.size⟩
     ·obtain⟨E',hx,mC,hf,hr⟩:=hp
      cases res with
      |val _=>exact hr.elim
      |nY x=>
       simp only[Option.some.injEq]at h
       obtain⟨u,rfl,hu⟩:=hr
       exact hQ _ _ h.symm E' w' u hx hf mC hu
     ·obtain⟨E',hx,mC,hf,hr⟩:=hp
      cases res<;>exact hr.elim
   ·-- with the heap
    rename_i Ao
    cases hq:o9 C k g args s.hp with
    |none=>rw[hq]at h; simp at h
    |some q=>
     obtain⟨res,cW⟩:=q
     rw[hq]at h
     obtain⟨fn,yP,nt⟩:=DI hq
     obtain⟨vs',qR,bz⟩:=gR (w:=w) (cm f) od dL ⟨fn,yP,nt,ck.name g fn yP nt⟩
     have pL:=hF g args s.hp res cW hq E w vs' hs.inv qR
     refine sJ rfl Qy bz pL (fun v w' hp=>?_) (fun ch w' hp=>?_) (fun w' hp=>?_)
     ·obtain⟨E',hx,mC,hf,hr⟩:=hp
      cases res with
      |nY _=>exact hr.elim
      |val x=>
       simp only[Option.some.injEq]at h
       obtain⟨E2,oQ,wS,nt,M5⟩:=Ap hs.inv hx mC hf hr
       exact hK _ h.symm E2 _ w' oQ nt ⟨j0 (hs.fr.mono oQ) M5,wS,by rw[put_defers]; exact hs.df.mono nt,Nat.le_trans hs.bs nt.size⟩
     ·obtain⟨E',hx,mC,hf,hr⟩:=hp
      cases res with
      |val _=>exact hr.elim
      |nY x=>
       simp only[Option.some.injEq]at h
       obtain⟨u,rfl,hu⟩:=hr
       obtain⟨E2,oQ,wS,nt,M5⟩:=Ap hs.inv hx mC hf hu
       exact hQ _ _ h.symm E2 w' u oQ nt wS M5
     ·obtain⟨E',hx,mC,hf,hr⟩:=hp
      cases res<;>exact hr.elim
  ·simp at h
 ·-- a slice that begins as nil
  have bz:(execOp a.eval { dst,op:=.assign (.const (.slice none 0 0)),type,pos,after,guard }).run C.P w=.ok (.value (.slice none 0 0)) w:=rfl
  have next:∀ (x:AV) (E':Env) (cW:ak),Ext E E'→Inv E' cW w→Fr E w E' w→au E' true x (.slice none 0 0) →
    r=.norm { s with fr:=bX s.fr dst x,hp:=cW }→Oper.wpIn (WF rd) 0 C.P { dst,op:=.assign (.const (.slice none 0 0)),type,pos,after,guard } a w K Q:=by
   intro x E' cW hx mC hf hr he
   refine⟨fun _ _=>trivial,?_⟩
   rw[Oper.semAt_eq _ _ _ (by intro c h; cases h),bz,Oper.uponIn_value]
   exact hK _ he E' _ w hx hf ⟨j0 (hs.fr.mono hx) hr,mC,by rw[put_defers]; exact hs.df.mono hf,Nat.le_trans hs.bs hf.size⟩
  split at h
  ·rename_i d
   split at h
   ·split at h
    case h_2=>simp at h
    rename_i q hq
    split at h
    case isFalse=>simp at h
    simp only[Option.some.injEq]at h
    obtain⟨E',h1,h2,h3,h4⟩:=DK (esz:=q.size) hs.inv
    exact next _ E' _ h1 h2 h3 h4 h.symm
   ·simp only[Option.some.injEq]at h
    exact next (.lit cx) E s.hp (Ext.refl E) hs.inv (Fr.refl E w) (by simp[au]) h.symm
  ·simp only[Option.some.injEq]at h
   exact next (.lit cx) E s.hp (Ext.refl E) hs.inv (Fr.refl E w) (by simp[au]) h.symm
 ·-- any other operation; nil slices in what it gives may be named anew
  split at h
  case h_2=>simp at h
  rename_i e he
  simp only[Option.some.injEq]at h
  refine ze hs (vp hs.inv (.inl rfl) cm he) fun E' w' v hx hf mC hv=>?_
  obtain⟨E2,oQ,nt,Dt⟩:=M0 (l:=C.ta s.fn) (dst:=dst) (s:={ s with fr:=bX s.fr dst e.val,hp:=av s.hp e.wr }) (B:=B) (a:=a.put dst v)
   ⟨j0 (hs.fr.mono hx) hv,mC,by rw[put_defers]; exact hs.df.mono hf,Nat.le_trans hs.bs hf.size⟩
  exact hK _ h.symm E2 _ w' (hx.trans oQ) (hf.trans nt) Dt
end Go.PI
end
section
/- PI, more fuel gives no other answer. -/
namespace Go.PI
def RM.Le{α:Type}(hp:ak)(r r':RM α):Prop:=∀ x,r.run hp=some x→r'.run hp=some x∧r'.log hp=r.log hp
theorem RM.Le.rfl{α:Type}{hp:ak}{r:RM α}:RM.Le hp r r:=fun _ h=>⟨h,by trivial⟩
theorem RM.fN{α β:Type}(hp:ak)(x:RM α)(f:α→RM β):(x >>= f).log hp=x.log hp++(match x.run hp with|some a=>(f a).log hp|none=>[]):=by
 show (RM.bind x f).log hp=_
 induction x with
 |ret a=>simp[RM.bind,RM.log,RM.run]
 |fail=>simp[RM.bind,RM.log,RM.run]
 |get n k ih=>
  grind[RM.bind,RM.log,RM.run]
theorem RM.Le.bind[ag]{α β:Type}{hp:ak}{x x':RM α}{f f':α→RM β}(h:RM.Le hp x x')(hf:∀ a,RM.Le hp (f a) (f' a)):RM.Le hp (x >>= f) (x' >>= f'):=by
 intro y hy
 rw[RM.run_bind]at hy
 cases hq:x.run hp with
 |none=>rw[hq]at hy; simp at hy
 |some a=>
  rw[hq]at hy
  simp only[Option.bind_some]at hy
  obtain⟨h1,h2⟩:=h a hq
  obtain⟨h3,h4⟩:=hf a y hy
  refine⟨by rw[RM.run_bind,h1]; exact h3,?_⟩
  rw[RM.fN,RM.fN,h1,hq,h2]
  simp only[h4]
theorem jB{st st':Oper→St→Option Out}(h:∀ o s r,st o s=some r→st' o s=some r)(ops:Array Oper):∀ (l:List Oper) (s:St) (r:Out),dg st ops l s=some r→dg st' ops l s=some r
 |[],s,r,hr=>hr
 |o::l,s,r,hr=>by
  simp only[dg]at hr ⊢
  cases hw:dh ops s.fr o with
  |none=>rw[hw]at hr; simp at hr
  |some b=>
   rw[hw]at hr
   cases b with
   |false=>exact jB h ops l _ r hr
   |true=>
    simp only at hr ⊢
    cases hs:st o s with
    |none=>rw[hs]at hr; simp at hr
    |some out=>
     rw[hs]at hr
     rw[h o s out hs]
     cases out with
     |norm s'=>exact jB h ops l s' r hr
     |_=>exact hr
theorem zR[ag]{st st':Nat→Oper→List AV→RM ed}(h:∀ nm o fr hp,RM.Le hp (st nm o fr) (st' nm o fr))(ops:Array Oper)(x:Item)(s:St)(r:St×gx)(hr:gn st ops x s=some r):gn st' ops x s=some r:=by
 simp only[gn]at hr ⊢
 cases hw:dh ops s.fr x.o with
 |none=>rw[hw]at hr; simp at hr
 |some b=>
  rw[hw]at hr
  cases b with
  |false=>exact hr
  |true=>
   simp only at hr ⊢
   cases hq:(st (x.at s.hp.length) x.o s.fr).run s.hp with
   |none=>rw[hq]at hr; simp at hr
   |some e=>
    obtain⟨h1,h2⟩:=h (x.at s.hp.length) x.o s.fr s.hp e hq
    rw[hq]at hr
    rw[h1,h2]
    exact hr
theorem qd[ag]{st st':Nat→Oper→List AV→RM ed}(h:∀ nm o fr hp,RM.Le hp (st nm o fr) (st' nm o fr))(ops:Array Oper):∀ (l:List Item) (s:St) (r:St×List gx),cS st ops l s=some r→cS st' ops l s=some r
 |[],s,r,hr=>hr
 |x::l,s,r,hr=>by
  simp only[cS]at hr ⊢
  cases hs:gn st ops x s with
  |none=>rw[hs]at hr; simp at hr
  |some q=>
   obtain⟨s1,f⟩:=q
   rw[hs]at hr
   rw[zR h ops x s _ hs]
   simp only at hr ⊢
   cases hd:cS st ops l s1 with
   |none=>rw[hd]at hr; simp at hr
   |some q=>
    rw[hd]at hr
    rw[qd h ops l s1 q hd]
    exact hr
theorem Hy[ag]{C:Ctx}{k k':Nat}{o:Oper}{s:St}(h:∀ c,o.op≠.call c):iM C (k+1) o s=iM C (k'+1) o s:=by
 rw[iM,iM]
 split
 ·rename_i c hc; exact absurd hc (h c)
 ·rfl
 ·rfl
theorem xO[ag]{C:Ctx}{F F':List AV→Option (p6×ak)}(h:∀ as r,F as=some r→F' as=some r){nm:Nat}{g:FuncId}{args:List AV}{hp:ak}:
  RM.Le hp (jj C F nm g args) (jj C F' nm g args):=by
 unfold jj
 refine RM.Le.bind .rfl fun as=>?_
 cases hi:C.gM g with
 |some q=>exact .rfl
 |none=>
  simp only
  intro x hx
  cases hq:F as with
  |none=>rw[hq]at hx; simp[RM.aj]at hx
  |some q=>
   rw[hq]at hx
   rw[h as q hq]
   exact⟨hx,rfl⟩
theorem xP{run run':Code→St→Option Out}(h:∀ c s r,run c s=some r→run' c s=some r){n:Nat}{args:List AV}{dst:Option Tmp}{s:St}{r:Out}
  (hy:iL run n args dst s=some r):iL run' n args dst s=some r:=by
 unfold iL at hy ⊢
 split at hy
 case h_2=>simp at hy
 rename_i fn ps as bd fr ho
 split at hy
 case h_2=>simp at hy
 rename_i hc
 try rw[hc]
 try simp only
 split at hy
 case h_2=>simp at hy
 rename_i s1 h1
 rw[h _ _ _ h1]
 simp only
 split at hy
 case h_2=>simp at hy
 rename_i h2
 try rw[h2]
 try simp only
 split at hy
 ·rename_i s2 h3; rw[h _ _ _ h3]; exact hy
 ·rename_i id s2 h3; rw[h _ _ _ h3]; exact hy
 ·rename_i s2 h3; rw[h _ _ _ h3]; exact hy
 ·simp at hy
theorem Mg[ag]{ec P8:Code→St→Option Out}{eo Ws:Oper→St→Option Out}(hc:∀ c s r,ec c s=some r→P8 c s=some r)(ho:∀ o s r,eo o s=some r→Ws o s=some r):∀ c s r,B1 ec eo c s=some r→B1 P8 Ws c s=some r:=by
 have leaf:∀ c s r,((ec c s).map fun o=>(o,(none:Option AV)))=some r→((P8 c s).map fun o=>(o,(none:Option AV)))=some r:=by
  intro c s r h
  cases hq:ec c s with
  |none=>rw[hq]at h; simp at h
  |some o=>rw[hc _ _ _ hq]; rw[hq]at h; exact h
 intro c
 induction c with
 |seq x y _ Mh=>
  intro s r h
  simp only[B1]at h ⊢
  cases hd:uZ x with
  |some q=>
   obtain⟨ops,v⟩:=q
   rw[hd]at h
   simp only at h ⊢
   cases hr:dg eo ops ops.toList.dropLast s with
   |none=>rw[hr]at h; simp at h
   |some o=>
    rw[hr]at h
    rw[jB ho ops _ _ _ hr]
    cases o with
    |norm s1=>
     simp only at h ⊢
     split at h
     ·rename_i q dL
      cases hq:ec y s1 with
      |none=>rw[hq]at h; simp at h
      |some o=>rw[hc _ _ _ hq]; rw[hq]at h; exact h
     ·simp at h
    |_=>simp at h
  |none=>
   rw[hd]at h
   simp only at h ⊢
   cases hq:ec x s with
   |none=>rw[hq]at h; simp at h
   |some o=>
    rw[hq]at h; rw[hc _ _ _ hq]
    cases o with
    |norm s'=>exact Mh _ _ h
    |_=>exact h
 |_=>intro s r h; simp only[B1]at h ⊢; exact leaf _ _ _ h
theorem Cf[ag]{ec P8:Code→St→Option Out}(hc:∀ c s r,ec c s=some r→P8 c s=some r){P:Program}{rs:List ResultVar}{fr:List AV}{hp:ak}{d:Option AV}{r:p6×ak}(h:wu ec P rs fr hp d=some r):wu P8 P rs fr hp d=some r:=by
 cases d with
 |none=>exact h
 |some v=>
  simp only[wu]at h ⊢
  split at h
  ·simp at h
  rename_i g as dL
  split at h
  ·simp at h
  rename_i fg P9
  split at h
  ·simp at h
  rename_i cg Qa
  cases hn:ct cg with
  |false=>rw[hn]at h; simp at h
  |true=>
   rw[hn]at h
   cases hq:ec (p9 cg) ⟨g,as++List.replicate (fg.ntmps-as.length) .undef,hp⟩ with
   |none=>rw[hq]at h; simp at h
   |some o=>rw[hq]at h; simp only[dL,P9,Qa,hn,hc _ _ _ hq]; exact h
theorem Kq[ag]{ec P8:Code→St→Option Out}{eo Ws:Oper→St→Option Out}(hc:∀ c s r,ec c s=some r→P8 c s=some r)(ho:∀ o s r,eo o s=some r→Ws o s=some r){P:Program}{rs:List ResultVar}{c:Code}{s:St}{r:p6×ak}(h:wv ec eo P rs c s=some r):wv P8 Ws P rs c s=some r:=by
 unfold wv at h ⊢
 cases hn:ct c with
 |false=>rw[hn]at h; simp at h
 |true=>
  rw[hn]at h
  cases hq:B1 ec eo c s with
  |none=>rw[hq]at h; simp at h
  |some o=>
   rw[hq]at h
   rw[Mg hc ho _ _ _ hq]
   obtain⟨o,d⟩:=o
   cases o with
   |norm s'=>exact Cf hc h
   |ret s'=>exact Cf hc h
   |exit i s'=>exact h
   |nY v s'=>cases d<;>exact h
structure S5[ag](C:Ctx)(k k2:Nat):Prop where
 f:∀ g args hp r,o9 C k g args hp=some r→o9 C k2 g args hp=some r
 c:∀ c s r,cw C k c s=some r→cw C k2 c s=some r
 o:∀ o s r,iM C k o s=some r→iM C k2 o s=some r
 p:∀ g args hp,RM.Le hp (pd C k g args) (pd C k2 g args)
 e:∀ nm o fr hp,RM.Le hp (kD C k nm o fr) (kD C k2 nm o fr)
theorem Kr[ag]{C:Ctx}{k k2:Nat}(ih:S5 C k k2):S5 C (k+1) (k2+1) where
 f:=by
  intro g args hp r h
  rw[o9]at h ⊢
  cases tc:C.P.funcs[g]? with
  |none=>rw[tc]at h; simp at h
  |some fn=>
   rw[tc]at h
   simp only at h ⊢
   cases hb:fn.body with
   |none=>rw[hb]at h; simp at h
   |some c=>
    rw[hb]at h
    simp only at h ⊢
    cases hD:Ez c with
    |true=>rw[hD]at h; exact Kq ih.c ih.o h
    |false=>
    rw[hD]at h
    simp only at h ⊢
    cases hc:cw C k c ⟨g,args++List.replicate (fn.ntmps-args.length) .undef,hp⟩ with
    |none=>rw[hc]at h; simp at h
    |some out=>rw[hc]at h; rw[ih.c _ _ _ hc]; exact h
 c:=by
  intro c s r h
  cases c with
  |seq a b=>
   simp only[cw]at h ⊢
   cases ha:cw C k a s with
   |none=>rw[ha]at h; simp at h
   |some out=>
    rw[ha]at h; rw[ih.c _ _ _ ha]
    cases out with
    |norm s'=>exact ih.c _ _ _ h
    |_=>exact h
  |cond o a b=>
   simp only[cw]at h ⊢
   split at h
   ·split at h
    ·exact ih.c _ _ _ h
    ·exact ih.c _ _ _ h
   ·simp at h
  |block id b=>
   simp only[cw]at h ⊢
   cases ha:cw C k b s with
   |none=>rw[ha]at h; simp at h
   |some out=>rw[ha]at h; rw[ih.c _ _ _ ha]; exact h
  |loop b=>
   simp only[cw]at h ⊢
   cases ha:cw C k b s with
   |none=>rw[ha]at h; simp at h
   |some out=>
    rw[ha]at h; rw[ih.c _ _ _ ha]
    cases out with
    |norm s'=>exact ih.c _ _ _ h
    |_=>exact h
  |region id ops draw=>
   simp only[cw]at h ⊢
   cases draw with
   |false=>exact jB ih.o ops _ _ r h
   |true=>
    simp only at h ⊢
    split at h
    case isFalse=>simp at h
    rename_i ck
    rw[if_pos ck]
    split at h
    ·rename_i s' fs hd
     rw[qd ih.e ops _ _ _ hd]
     simp only at h ⊢
     split at h
     case isFalse=>simp at h
     rename_i hc
     rw[if_pos hc]
     exact jB ih.o ops _ _ r h
    ·simp at h
  |scope b=>
   simp only[cw]at h ⊢
   split at h
   ·rename_i c hc
    exact ih.c _ _ _ h
   ·simp at h
  |rangeFunc f ps as bd=>
   simp only[cw]at h ⊢
   split at h
   case h_2=>simp at h
   rename_i g args dL
   cases hq:o9 C k g args (s.hp++[some (.iC (.loop s.fn ps as bd .ready) (zx as bd s.fr))]) with
   |none=>rw[hq]at h; simp at h
   |some q=>rw[hq]at h; rw[ih.f _ _ _ _ hq]; exact h
  |_=>simpa only[cw] using h
 o:=by
  intro o s r h
  obtain⟨dst,op,type,pos,after,guard⟩:=o
  cases op with
  |call c=>
   obtain⟨callee,args,argTypes⟩:=c
   cases callee with
   |value f=>
    simp only[iM]at h ⊢
    cases dL:bU (aP s.fr f) (args.toList.map (aP s.fr)) with
    |none=>
     rw[dL]at h
     simp only at h ⊢
     split at h
     ·rename_i n hn
      exact xP (fun c s r h=>ih.c c s r h) h
     ·simp at h
    |some q=>
     obtain⟨g,as⟩:=q
     rw[dL]at h
     simp only at h ⊢
     cases tO:aC (Op.call ⟨.value f,args,argTypes⟩) with
     |true=>
      rw[tO]at h
      simp only at h ⊢
      cases hq:(jj C (fun as=>o9 C k g as []) s.hp.length g as).run s.hp with
      |none=>rw[hq]at h; simp at h
      |some q=>rw[hq]at h; rw[(xO (fun as r h=>ih.f g as [] r h) _ hq).1]; exact h
     |false=>
     rw[tO]at h
     simp only at h ⊢
     cases hk:C.kind g with
     |pure=>
      rw[hk]at h
      simp only at h ⊢
      cases hq:(pd C k g as).run s.hp with
      |none=>rw[hq]at h; simp at h
      |some q=>rw[hq]at h; rw[(ih.p g as s.hp q hq).1]; exact h
     |imp=>
      rw[hk]at h
      simp only at h ⊢
      cases hq:o9 C k g as s.hp with
      |none=>rw[hq]at h; simp at h
      |some q=>rw[hq]at h; rw[ih.f _ _ _ _ hq]; exact h
   |_=>simpa only[iM] using h
  |_=>rw[Hy (k':=k) (by intro c hc; cases hc)]; exact h
 p:=by
  intro g args hp
  rw[pd,pd]
  refine RM.Le.bind .rfl fun as=>?_
  cases hi:C.kT g with
  |some h=>exact .rfl
  |none=>
   simp only
   intro x hx
   cases hq:o9 C k g as [] with
   |none=>rw[hq]at hx; simp[RM.aj]at hx
   |some q=>
    rw[hq]at hx
    rw[ih.f _ _ _ _ hq]
    exact⟨hx,rfl⟩
 e:=by
  intro nm o fr hp
  rw[kD,kD]
  obtain⟨dst,op,type,pos,after,guard⟩:=o
  cases op with
  |call c=>
   obtain⟨callee,args,argTypes⟩:=c
   cases callee with
   |value f=>
    simp only
    split
    ·exact .rfl
    ·rename_i g as dL
     cases tO:aC (Op.call ⟨.value _,args,argTypes⟩) with
     |true=>exact xO fun as r h=>ih.f g as [] r h
     |false=>
     cases hk:C.kind g with
     |pure=>exact RM.Le.bind (ih.p g as hp) fun _=>.rfl
     |imp=>exact .rfl
   |_=>exact .rfl
  |_=>exact .rfl
theorem mono[ag](C:Ctx):∀ k,S5 C k (k+1)
 |0=>{ f:=by intro g args hp r h; simp[o9]at h
       c:=by intro c s r h; simp[cw]at h
       o:=by intro o s r h; simp[iM]at h
       p:=by intro g args hp x h; simp[pd,RM.aj]at h
       e:=by intro nm o fr hp x h; simp[kD,RM.aj]at h }
 |k+1=>Kr (mono C k)
noncomputable def tP{α:Type}(g:Nat→Option α):Option α:=
 open Classical in if h : ∃ k, (g k).isSome then g (Classical.choose h) else none
def gD{α:Type}(g:Nat→Option α):Prop:=∀ k x,g k=some x→g (k+1)=some x
theorem gD.le{α:Type}{g:Nat→Option α}(h:gD g){k:Nat}{x:α}(hx:g k=some x):∀ d,g (k+d)=some x
 |0=>hx
 |d+1=>h _ _ (h.le hx d)
theorem bj[ag]{α:Type}{g:Nat→Option α}(hg:gD g){x:α}:tP g=some x↔∃ k,g k=some x:=by
 unfold tP
 constructor
 ·intro h
  split at h
  ·rename_i hq; exact⟨_,h⟩
  ·simp at h
 ·rintro⟨k,hk⟩
  have hq:∃ k,(g k).isSome:=⟨k,by simp[hk]⟩
  rw[dif_pos hq]
  obtain⟨y,hy⟩:=Option.isSome_iff_exists.1 (Classical.choose_spec hq)
  have h1:=hg.le hk (Classical.choose hq)
  have h2:=hg.le hy k
  rw[Nat.add_comm]at h2
  rw[h1]at h2
  rw[hy,h2]
theorem mA[ag]{α:Type}{g:Nat→Option α}(hg:gD g){y:Option α}(h1:∀ k x,g k=some x→y=some x)(h2:∀ x,y=some x→∃ k,g k=some x):tP g=y:=by
 cases hl:tP g with
 |some x=>
  obtain⟨k,hk⟩:=(bj hg).1 hl
  exact(h1 k x hk).symm
 |none=>
  cases y with
  |none=>rfl
  |some x=>
   have:=(bj hg).2 (h2 x rfl)
   rw[hl]at this; simp at this
noncomputable def jk[ag](C:Ctx)(f:FuncId)(args:List AV)(hp:ak):Option (p6×ak):=tP fun k=>o9 C k f args hp
noncomputable def du[ag](C:Ctx)(c:Code)(s:St):Option Out:=tP fun k=>cw C k c s
noncomputable def jm[ag](C:Ctx)(o:Oper)(s:St):Option Out:=tP fun k=>iM C k o s
noncomputable def Mi[ag](C:Ctx)(g:FuncId)(args:List AV)(hp:ak):Option (p6×List (Nat×aY)):=tP fun k=>(pd C k g args).run hp
theorem kP[ag](C:Ctx)(f:FuncId)(args:List AV)(hp:ak):gD fun k=>o9 C k f args hp:=fun k x h=>(mono C k).f _ _ _ _ h
theorem eM[ag](C:Ctx)(c:Code)(s:St):gD fun k=>cw C k c s:=fun k x h=>(mono C k).c _ _ _ h
theorem ni[ag](C:Ctx)(o:Oper)(s:St):gD fun k=>iM C k o s:=fun k x h=>(mono C k).o _ _ _ h
theorem Jk[ag](C:Ctx)(g:FuncId)(args:List AV)(hp:ak):gD fun k=>(pd C k g args).run hp:=fun k x h=>((mono C k).p g args hp x h).1
end Go.PI
end
section
/- PI, part Za: a scope in which the run jumps back to one label. -/
namespace Go.PI
theorem pO[ag]{C:Ctx}{k:Nat}{o:Oper}{s:St}{r:Out}(h:iM C k o s=some r):(∃ s',r=.norm s')∨∃ v s',r=.nY v s':=by
 cases k with
 |zero=>simp[iM]at h
 |succ k=>
  simp only[iM]at h
  repeat' split at h
  all_goals first
   |(simp only[Option.some.injEq]at h; subst h; first|exact .inl ⟨_,rfl⟩|exact .inr ⟨_,_,rfl⟩)
   |exact .inl (HX h)
   |simp at h
theorem mG{step:Oper→St→Option Out}(hs:∀ o s r,step o s=some r→(∃ s',r=.norm s')∨∃ v s',r=.nY v s'){ops:Array Oper}:∀ {l:List Oper} {s:St} {r:Out},
  dg step ops l s=some r→(∃ s',r=.norm s')∨∃ v s',r=.nY v s'
 |[],s,r,h=>by simp only[dg,Option.some.injEq]at h; exact .inl ⟨s,h.symm⟩
 |o::l,s,r,h=>by
  simp only[dg]at h
  split at h
  ·simp at h
  ·exact mG hs h
  ·split at h
   ·exact mG hs h
   ·rename_i dY
    exact hs o s r h
theorem wX:∀ {c:Code},dR c=true→ct c=true:=by
 intro c
 induction c with
 |seq a b JC He=>simp_all[dR,ct]
 |cond c a b JC He=>simp_all[dR,ct]
 |block id b ih=>simp_all[dR,ct]
 |loop b ih=>simp_all[dR,ct]
 |scope b ih=>intro h; simp[dR]at h
 |rangeFunc f ps a b=>intro h; simp[dR]at h
 |_=>intro _; rfl
theorem H5[ag]{C:Ctx}:∀ (k:Nat) {c:Code} {s s':St} {i:Nat},dR c=true→cw C k c s=some (.exit i s')→i<1073741824:=by
 intro k
 induction k with
 |zero=>intro c s s' i _ h; simp[cw]at h
 |succ k ih=>
  intro c s s' i hp h
  cases c with
  |seq a b=>
   grind[dR,cw]
  |cond o a b=>
   grind[dR,cw]
  |block id b=>
   grind[dR,cw,Out.exit.injEq]
  |loop b=>
   grind[dR,cw]
  |exit id=>
   simp_all[cw,Out.exit.injEq,dR]
  |region id ops draw=>
   simp only[cw]at h
   cases draw with
   |false=>
    rcases mG (fun o s r h=>pO h) h with ⟨_,e⟩|⟨_,_,e⟩<;>cases e
   |true=>
    simp only at h
    split at h
    case isFalse=>simp at h
    split at h
    case h_2=>simp at h
    split at h
    case isFalse=>simp at h
    rcases mG (fun o s r h=>pO h) h with ⟨_,e⟩|⟨_,_,e⟩<;>cases e
  |skip=>simp[cw]at h
  |ret=>simp[cw]at h
  |_=>simp[dR]at hp
def OkJ[ag](l:Nat)(B:qS)(E:Env):Out→Exit→Act→World→Prop
 |.exit i s,.goto m,a,w=>i=1073741825∧m=l∧dr B E s a w
 |.exit i s,.exit j,a,w=>i=j∧i<1073741824∧dr B E s a w
 |o,e,a,w=>MX B E o e a w
def KP[ag](l:Nat)(B:qS)(E:Env)(w:World)(o:Out)(e:Exit)(a':Act)(w':World):Prop:=
 ∃ E',Ext E E'∧Fr E w E' w'∧OkJ l B E' o e a' w'
theorem KP.from[ag]{l:Nat}{B:qS}{E E1:Env}{w w1:World}{o:Out}{e:Exit}{a:Act}{w':World}(hx:Ext E E1)(hf:Fr E w E1 w1)(h:KP l B E1 w1 o e a w'):KP l B E w o e a w':=by
 obtain⟨E',h1,h2,h3⟩:=h
 exact⟨E',hx.trans h1,hf.trans h2,h3⟩
theorem Nf[ag]{C:Ctx}{k:Nat}(hC:∀ j,j≤k→gz C j){l:Nat}{c:Code}(hp:dR c=true){j:Nat}(hj:j≤k){s:St}{o:Out}(h:cw C j c s=some o)
  (rd:Option Nat) {B:qS} {E:Env} {a:Act} {w:World} (hs:dr B E s a w):c.wpIn (WF rd) 0 C.P (KP l B E w o) a w:=by
 refine wpIn_mono (hC j hj c s o h rd B (.inr (wX hp)) E a w hs) fun e a' w' hq=>?_
 obtain⟨E',h1,h2,h3⟩:=hq
 refine⟨E',h1,h2,?_⟩
 cases o with
 |exit i s'=>
  have hi:=H5 j hp h
  cases e with
  |exit m=>exact⟨h3.1,hi,h3.2⟩
  |_=>exact h3.elim
 |_=>exact h3
theorem Tv[ag]{C:Ctx}{k:Nat}(hC:∀ j,j≤k→gz C j){l:Nat}:∀ (c:Code) {c':Code},tb l c=some c'→∀ (j:Nat),j≤k→∀ (s:St) (o:Out),cw C j c' s=some o →
  ∀ (rd:Option Nat) (B:qS) (E:Env) (a:Act) (w:World),dr B E s a w→c.wpIn (WF rd) 0 C.P (KP l B E w o) a w:=by
 intro c
 induction c with
 |seq x y ihx Mh=>
  intro c' hc j hj s o h rd B E a w hs
  simp only[tb]at hc
  cases hx:tb l x with
  |none=>rw[hx]at hc; simp at hc
  |some x'=>
   cases hy:tb l y with
   |none=>rw[hx,hy]at hc; simp at hc
   |some y'=>
    rw[hx,hy]at hc
    simp only[Option.bind_some,Option.map_some,Option.some.injEq]at hc
    subst hc
    cases j with
    |zero=>simp[cw]at h
    |succ j=>
     have px:=ihx hx
     have py:=Mh hy
     simp only[cw]at h
     refine wpIn_seq ?_
     split at h
     ·rename_i s' ic
      refine wpIn_mono (px j (by omega) s _ ic rd B E a w hs) fun e a' w' hp=>?_
      obtain⟨E',h1,h2,h3⟩:=hp
      cases e with
      |normal=>exact wpIn_mono (py j (by omega) s' o h rd B E' a' w' h3) fun e ZB zE hp=>KP.from h1 h2 hp
      |_=>exact h3.elim
     ·rename_i dY
      refine wpIn_mono (px j (by omega) s o h rd B E a w hs) fun e a' w' hp=>?_
      obtain⟨E',h1,h2,h3⟩:=hp
      cases e with
      |normal=>
       cases o with
       |norm s'=>exact absurd h (dY s')
       |_=>exact h3.elim
      |_=>exact⟨E',h1,h2,h3⟩
 |cond op x y ihx Mh=>
  intro c' hc j hj s o h rd B E a w hs
  simp only[tb]at hc
  cases hx:tb l x with
  |none=>rw[hx]at hc; simp at hc
  |some x'=>
   cases hy:tb l y with
   |none=>rw[hx,hy]at hc; simp at hc
   |some y'=>
    rw[hx,hy]at hc
    simp only[Option.bind_some,Option.map_some,Option.some.injEq]at hc
    subst hc
    cases j with
    |zero=>simp[cw]at h
    |succ j=>
     have px:=ihx hx
     have py:=Mh hy
     simp only[cw]at h
     split at h
     case h_2=>simp at h
     rename_i t ht
     have hv:=ka hs.inv.kE hs.fr op
     rw[ht]at hv
     simp only[au]at hv
     cases t with
     |true=>exact wpIn_cond_true hv (px j (by omega) s o h rd B E a w hs)
     |false=>exact wpIn_cond_false hv (py j (by omega) s o h rd B E a w hs)
 |goto m=>
  intro c' hc j hj s o h rd B E a w hs
  simp only[tb]at hc
  split at hc
  case isFalse=>simp at hc
  rename_i hm
  simp only[Option.some.injEq]at hc
  subst hc
  cases j with
  |zero=>simp[cw]at h
  |succ j=>
   simp only[cw,Option.some.injEq]at h
   subst h
   exact wpIn_goto ⟨E,Ext.refl E,Fr.refl E w,rfl,hm,hs⟩
 |_=>
  intro c' hc
  simp only[tb]at hc
  split at hc
  case isFalse=>simp at hc
  rename_i hp
  simp only[Option.some.injEq]at hc
  subst hc
  intro j hj s o h rd B E a w hs
  exact Nf hC hp hj h rd hs
section
variable {F:Fence}{n:Nat}{P:Program}{Q:Exit→Act→World→Prop}{a:Act}{w:World}
theorem Fv{b:Frame}{k:List Go.Item}{cs:List Frame}{c:Code}:step P (lone (b.atR a (.code (.scope c)::k)) cs w)=.next (lone (b.atR a (.code c::.inScope c::k)) cs w):=
 step_lone_go (by simp[stepG,stepG.exec,Frame.atR])
theorem tq{b:Frame}{k:List Go.Item}{cs:List Frame}{c:Code}:step P (lone (b.atR a (.inScope c::k)) cs w)=.next (lone (b.atR a k) cs w):=
 step_lone_go (by simp[stepG,stepG.exec,Frame.atR])
def oU(F:Fence)(n:Nat)(P:Program)(c r:Code)(Q:Exit→Act→World→Prop)(a:Act)(w:World):Prop:=
 ∀ (b:Frame) (k:List Go.Item) (cs:List Frame),b.roundOf=F.round→F.fn b.fn→F.room (cs.length+1+n) →
   ∃ e a' w',Q e a' w'∧ArrivesIn (Machine.fenced P F) P (lone (b.atR a (.code r::.inScope c::k)) cs w) b k cs e a' w'
def WW(l:Nat)(N:Act→World→Prop)(Q:Exit→Act→World→Prop):Exit→Act→World→Prop
 |.goto m,a,w=>m=l∧N a w
 |e,a,w=>Q e a w
theorem CB{c r rest:Code}{l:Nat}{N:Act→World→Prop}(hf:findLabel c l=some rest)(hN:∀ a w,N a w→oU F n P c rest Q a w)
  (h:r.wpIn F n P (WW l N Q) a w):oU F n P c r Q a w:=by
 intro b k cs eD hb hr
 have hg:gotoIn l (.inScope c::k)=some (.code rest::.inScope c::k):=by simp[gotoIn,hf]
 obtain⟨e,a₁,w₁,hq,dp⟩:=h b (.inScope c::k) cs eD hb hr
 cases e with
 |normal=>exact⟨.normal,a₁,w₁,hq,StepsIn.trans dp (.one (fenced_calm hb hr rfl) tq)⟩
 |exit id=>
  have hx:exitTo id (.inScope c::k)=exitTo id k:=by simp[exitTo]
  exact⟨.exit id,a₁,w₁,hq,fun k' hk=>dp.1 k' (by rw[hx]; exact hk),fun oO hk=>dp.2 oO (by rw[hx]; exact hk)⟩
 |goto m=>
  obtain⟨rfl,hN'⟩:=hq
  obtain⟨e₂,a₂,w₂,zG,lD⟩:=hN _ _ hN' b k cs eD hb hr
  exact⟨e₂,a₂,w₂,zG,.of_steps (dp.1 _ hg) lD⟩
 |ret=>exact⟨_,a₁,w₁,hq,dp⟩
 |panic ch=>exact⟨_,a₁,w₁,hq,dp⟩
 |outgrown=>exact⟨_,a₁,w₁,hq,dp⟩
theorem yQ{c r:Code}(h:r.wpIn F n P Q a w)(hQ:∀ m a w,¬Q (.goto m) a w):oU F n P c r Q a w:=by
 intro b k cs eD hb hr
 obtain⟨e,a₁,w₁,hq,dp⟩:=h b (.inScope c::k) cs eD hb hr
 cases e with
 |normal=>exact⟨.normal,a₁,w₁,hq,StepsIn.trans dp (.one (fenced_calm hb hr rfl) tq)⟩
 |exit id=>
  have hx:exitTo id (.inScope c::k)=exitTo id k:=by simp[exitTo]
  exact⟨.exit id,a₁,w₁,hq,fun k' hk=>dp.1 k' (by rw[hx]; exact hk),fun oO hk=>dp.2 oO (by rw[hx]; exact hk)⟩
 |goto m=>exact absurd hq (hQ _ _ _)
 |ret=>exact⟨_,a₁,w₁,hq,dp⟩
 |panic ch=>exact⟨_,a₁,w₁,hq,dp⟩
 |outgrown=>exact⟨_,a₁,w₁,hq,dp⟩
theorem Fw{c:Code}(h:oU F n P c c Q a w):(Code.scope c).wpIn F n P Q a w:=by
 intro b k cs eD hb hr
 obtain⟨e,a₁,w₁,hq,dp⟩:=h b k cs eD hb hr
 exact⟨e,a₁,w₁,hq,.of_steps (.one (fenced_calm hb hr rfl) Fv) dp⟩
end
theorem Fx:∀ {c:Code} {l:Nat},dR c=true→findLabel c l=none:=by
 intro c
 induction c with
 |seq a b JC He=>
  simp_all[dR,findLabel]
 |label m=>intro l h; simp[dR]at h
 |_=>intro l _; rfl
theorem Ng{a b:Code}{l:Nat}(h:findLabel a l=none):findLabel (.seq a b) l=findLabel b l:=by
 simp only[findLabel,h]
theorem Nh:∀ {c:Code} {l:Nat} {x r:Code},u0 c=some (l,x,r)→findLabel c l=some (.seq .skip r):=by
 intro c
 induction c with
 |seq a b JC He=>
  intro l x r h
  cases a with
  |label m=>
   simp_all[u0,findLabel]
  |_=>
   simp only[u0]at h
   split at h
   case isFalse=>simp at h
   rename_i hp
   cases hb:u0 b with
   |none=>rw[hb]at h; simp at h
   |some q=>
    obtain⟨l',x',r'⟩:=q
    rw[hb]at h
    simp only[Option.map_some,Option.some.injEq,Prod.mk.injEq]at h
    obtain⟨rfl,rfl,rfl⟩:=h
    exact(Ng (Fx (l:=l') hp)).trans (He hb)
 |_=>intro l x r h; simp[u0]at h
theorem Tx[ag]{C:Ctx}{k:Nat}(hC:∀ j,j≤k→gz C j){Q:Exit→Act→World→Prop}{rd:Option Nat}{B:qS}{l:Nat}{r:Code}:∀ (c:Code) {x:Code},u0 c=some (l,x,r)→∀ (j:Nat),j≤k→∀ (s:St) (q:Out),cw C j x s=some q →
  ∀ (E:Env) (a:Act) (w:World),dr B E s a w→(∀ s1 E1 a1 w1,q=.norm s1→Ext E E1→Fr E w E1 w1→dr B E1 s1 a1 w1→r.wpIn (WF rd) 0 C.P Q a1 w1) →
  (∀ e a' w',(∀ s1,q≠.norm s1)→bG B E w q e a' w'→Q e a' w')→c.wpIn (WF rd) 0 C.P Q a w:=by
 intro c
 induction c with
 |seq a b JC He=>
  intro x h j hj s q cm E ac w hs hn ho
  have step:∀ (hp:dR a=true) (x':Code),u0 b=some (l,x',r)→x=.seq a x'→(Code.seq a b).wpIn (WF rd) 0 C.P Q ac w:=by
   intro hp x' hb hx
   subst hx
   cases j with
   |zero=>simp[cw]at cm
   |succ j=>
    simp only[cw]at cm
    refine wpIn_seq ?_
    split at cm
    ·rename_i s1 h1
     refine wpIn_mono (hC j (by omega) _ _ _ h1 rd B (.inr (wX hp)) E ac w hs) fun e a' w' hq=>?_
     obtain⟨E',g1,g2,g3⟩:=hq
     cases e with
     |normal=>exact He hb j (by omega) s1 q cm E' a' w' g3 (fun s2 E2 a2 w2 e1 e2 e3 e4=>hn s2 E2 a2 w2 e1 (g1.trans e2) (g2.trans e3) e4) (fun e a2 w2 e1 e2=>ho e a2 w2 e1 (bG.from g1 g2 e2))
     |_=>exact g3.elim
    ·rename_i dY
     refine wpIn_mono (hC j (by omega) _ _ _ cm rd B (.inr (wX hp)) E ac w hs) fun e a' w' hq=>?_
     cases e with
     |normal=>
      obtain⟨E',g1,g2,g3⟩:=hq
      cases q with
      |norm s1=>exact absurd cm (dY s1)
      |_=>exact g3.elim
     |_=>exact ho _ _ _ (fun s1 e=>dY s1 (e▸cm)) hq
  cases a with
  |label m=>
   simp only[u0,Option.some.injEq,Prod.mk.injEq]at h
   obtain⟨rfl,rfl,rfl⟩:=h
   cases j with
   |zero=>simp[cw]at cm
   |succ j=>
    simp only[cw,Option.some.injEq]at cm
    subst cm
    exact wpIn_seq (wpIn_label (hn s E ac w rfl (Ext.refl E) (Fr.refl E w) hs))
  |_=>
   simp only[u0]at h
   split at h
   case isFalse=>simp at h
   rename_i hp
   cases hb:u0 b with
   |none=>rw[hb]at h; simp at h
   |some q'=>
    obtain⟨l',x',r'⟩:=q'
    rw[hb]at h
    simp only[Option.map_some,Option.some.injEq,Prod.mk.injEq]at h
    obtain⟨rfl,rfl,rfl⟩:=h
    exact step hp x' hb rfl
 |_=>intro x h; simp[u0]at h
def yd:Out→Out
 |.exit i s=>if i=1073741824 then .norm s else .exit i s
 |o=>o
theorem oU.mono{F:Fence}{n:Nat}{P:Program}{c r:Code}{Q Q':Exit→Act→World→Prop}{a:Act}{w:World}(h:oU F n P c r Q a w)(hq:∀ e a w,Q e a w→Q' e a w):oU F n P c r Q' a w:=
 fun b k cs eD hb hr=>let ⟨e,a',w',q,r⟩:=h b k cs eD hb hr; ⟨e,a',w',hq _ _ _ q,r⟩
theorem WW.mono{l:Nat}{N N':Act→World→Prop}{Q Q':Exit→Act→World→Prop}(hn:∀ a w,N a w→N' a w)(hq:∀ e a w,Q e a w→Q' e a w){e:Exit}{a:Act}{w:World}(h:WW l N Q e a w):WW l N' Q' e a w:=by
 cases e with
 |goto m=>exact⟨h.1,hn _ _ h.2⟩
 |_=>exact hq _ _ _ h
theorem KQ[ag]{C:Ctx}{k:Nat}(hC:∀ j,j≤k→gz C j){rd:Option Nat}{l:Nat}{c r r':Code}(hf:findLabel c l=some (.seq .skip r))(hr:tb l r=some r'){B:qS}:∀ (j:Nat),j≤k→∀ (s:St) (o:Out),
  cw C j (.loop (.block 1073741825 (.seq r' (.exit 1073741824)))) s=some o→∀ (E:Env) (a:Act) (w:World),dr B E s a w →
  r.wpIn (WF rd) 0 C.P (WW l (fun a1 w1=>oU (WF rd) 0 C.P c (.seq .skip r) (bG B E w (yd o)) a1 w1) (bG B E w (yd o))) a w:=by
 intro j
 induction j with
 |zero=>intro _ s o h; simp[cw]at h
 |succ j ih=>
  intro hj s o h E a w hs
  have ih':=ih (by omega)
  simp only[cw]at h
  cases hb:cw C j (.block 1073741825 (.seq r' (.exit 1073741824))) s with
  |none=>rw[hb]at h; simp at h
  |some q=>
   rw[hb]at h
   cases j with
   |zero=>simp[cw]at hb
   |succ j=>
    simp only[cw]at hb
    cases j with
    |zero=>simp[cw]at hb
    |succ j=>
     simp only[cw]at hb
     cases hq:cw C j r' s with
     |none=>rw[hq]at hb; simp at hb
     |some p=>
      rw[hq]at hb
      refine wpIn_mono (Tv hC r hr j (by omega) s p hq rd B E a w hs) fun e a' w' ho=>?_
      obtain⟨E',g1,g2,g3⟩:=ho
      cases p with
      |norm s1=>
       cases j with
       |zero=>simp[cw]at hq
       |succ j=>
        simp only[cw]at hb
        simp at hb
        subst hb
        simp only[Option.some.injEq]at h
        subst h
        cases e with
        |normal=>exact⟨E',g1,g2,g3⟩
        |_=>exact g3.elim
      |exit i s1=>
       simp only at hb
       cases e with
       |goto m=>
        obtain⟨hi,hm,qK⟩:=g3
        subst hi
        simp only[if_true,Option.some.injEq]at hb
        subst hb
        simp only at h
        refine⟨hm,?_⟩
        have:∃ E2,Ext E E2∧Fr E w E2 w'∧dr B E2 (iK s.hp.length s1) a' w':=by
         unfold iK
         split
         ·rename_i bK
          have hle:s.hp.length≤s1.hp.length:=by rw[hs.inv.len,qK.inv.len]; exact g1.L
          obtain⟨a1,a2,a3⟩:=vG qK.inv hle bK
          exact⟨E'.lower s.hp.length,⟨g1.m,fun n hn ax l h=>g1.ρ n hn ax l h,by simp[Env.lower,hs.inv.len]⟩,g2.trans a2,tW a3 qK.fr,a1,qK.df.mono a2,qK.bs⟩
         ·exact⟨E',g1,g2,qK⟩
        obtain⟨E2,b1,b2,b3⟩:=this
        have hw:=ih' _ o h E2 a' w' b3
        refine CB hf (N:=fun a w2=>oU (WF rd) 0 C.P c (.seq .skip r) (bG B E w (yd o)) a w2) (fun _ _ h=>h) (wpIn_seq (wpIn_skip (wpIn_mono hw fun e a2 w2 hj=>?_)))
        exact hj.mono (fun _ _ hi=>hi.mono fun _ _ _ hp=>bG.from b1 b2 hp) fun _ _ _ hp=>bG.from b1 b2 hp
       |exit m=>
        obtain⟨hi,cG,qK⟩:=g3
        subst hi
        rw[if_neg (by omega)]at hb
        simp only[Option.some.injEq]at hb
        subst hb
        simp only[Option.some.injEq]at h
        subst h
        have:yd (.exit i s1)=.exit i s1:=by simp only[yd]; rw[if_neg (by omega)]
        rw[this]
        exact⟨E',g1,g2,rfl,qK⟩
       |_=>exact g3.elim
      |ret s1=>
       simp only[Option.some.injEq]at hb
       subst hb
       simp only[Option.some.injEq]at h
       subst h
       cases e with
       |ret=>exact⟨E',g1,g2,g3⟩
       |_=>exact g3.elim
      |nY v s1=>
       simp only[Option.some.injEq]at hb
       subst hb
       simp only[Option.some.injEq]at h
       subst h
       cases e with
       |panic ch=>exact⟨E',g1,g2,g3⟩
       |_=>exact g3.elim
theorem H6:∀ {c:Code},noGoto c=true→ct c=true:=by
 intro c
 induction c with
 |seq a b JC He=>simp_all[noGoto,ct]
 |cond o a b JC He=>simp_all[noGoto,ct]
 |block id b ih=>simp_all[noGoto,ct]
 |loop b ih=>simp_all[noGoto,ct]
 |scope b ih=>simp_all[noGoto,ct]
 |rangeFunc _ _ _ _ _ _=>intro h; simp[noGoto]at h
 |_=>intro _; rfl
theorem Na[ag]{C:Ctx}{k:Nat}(hC:∀ j,j≤k→gz C j){rd:Option Nat}{B:qS}{E:Env}{s:St}{a:Act}{w:World}(hs:dr B E s a w){b c:Code}{o:Out}
  (hc:rn b=some c) (h:cw C k c s=some o):(Code.scope b).wpIn (WF rd) 0 C.P (bG B E w o) a w:=by
 cases Nc:noGoto b with
 |true=>
  simp only[rn,Nc,Option.some.injEq]at hc
  subst hc
  refine Fw (yQ (hC k (Nat.le_refl _) b s o h rd B (.inr (H6 Nc)) E a w hs) fun m a' w' hq=>?_)
  obtain⟨E',_,_,hq⟩:=hq
  cases o<;>exact hq.elim
 |false=>
 cases Ni:u0 b with
 |none=>simp only[rn,Nc,Ni]at hc; simp at hc
 |some q=>
  obtain⟨l,x,r⟩:=q
  cases hr:tb l r with
  |none=>simp only[rn,Nc,Ni,hr,Option.map_none]at hc; simp at hc
  |some r'=>
   simp only[rn,Nc,Ni,hr,Option.map_some,Option.some.injEq]at hc
   subst hc
   have hf:=Nh Ni
   cases k with
   |zero=>simp[cw]at h
   |succ k=>
    simp only[cw]at h
    refine Fw (CB hf (N:=fun a w'=>oU (WF rd) 0 C.P b (.seq .skip r) (bG B E w o) a w') (fun _ _ h=>h) ?_)
    cases hx:cw C k x s with
    |none=>rw[hx]at h; simp at h
    |some q=>
     rw[hx]at h
     refine Tx hC b Ni k (by omega) s q hx E a w hs (fun s1 E1 a1 w1 hq g1 g2 qK=>?_) (fun e a' w' hq hp=>?_)
     ·subst hq
      simp only at h
      cases k with
      |zero=>simp[cw]at h
      |succ k=>
       simp only[cw]at h
       cases hl:cw C k (.loop (.block 1073741825 (.seq r' (.exit 1073741824)))) s1 with
       |none=>rw[hl]at h; simp at h
       |some oL=>
        rw[hl]at h
        have ho:o=yd oL:=by
         cases oL with
         |exit i s2=>
          grind[yd]
         |_=>simpa[yd] using h.symm
        subst ho
        refine wpIn_mono (KQ hC hf hr k (by omega) s1 oL hl E1 a1 w1 qK) fun e a2 w2 hj=>?_
        exact hj.mono (fun _ _ hi=>hi.mono fun _ _ _ hp=>bG.from g1 g2 hp) fun _ _ _ hp=>bG.from g1 g2 hp
     ·have ho:o=q:=by
       simp_all
      subst ho
      cases e with
      |goto m=>obtain⟨_,_,_,h3⟩:=hp; cases o<;>exact h3.elim
      |_=>exact hp
end Go.PI
end
section
/- PI, part Zb: calls that only look, where the order is drawn. -/
namespace Go.PI
def M6[ag](P:Program):Prop:=∀ (g:FuncId) (args:List AV) (hp:ak) (e:ed),(BB P hp.length g args).run hp=some e→∀ (E:Env) (w:World) (vs:List Value),Inv E hp w→aw E true args vs →
 e.wr=[]∧Calls P g vs.toArray w (bD E w hp (.val e.val))
theorem Qz[ag]{C:Ctx}(ck:C.Ok){nm:Nat}{g:FuncId}{args:List AV}{hp:ak}{e:ed}(h:(BB C.P nm g args).run hp=some e):
  ∃ fn : Func, C.P.funcs[g]? = some fn ∧ fn.body.isSome = true ∧ (fn.name == "runtime.NumGoroutine") = false := by
 unfold BB at h
 split at h
 ·simp[RM.aj]at h
 rename_i fn hf
 split at h
 ·simp[RM.aj]at h
 rename_i c hc
 exact⟨fn,hf,by rw[hc]; rfl,ck.name g fn hf (by rw[hc]; rfl)⟩
def rR(hp:ak):Option (Nat×aY)→ak
 |none=>hp
 |some (m,o')=>match hp[m]? with
  |some (some _)=>hp.set m (some o')
  |_=>hp
theorem Fy{hp:ak}{ov:Option (Nat×aY)}(n:Nat):(rR hp ov)[n]?=(hp[n]?).map fun o=>o.map fun o=>match ov with
  |some (m,o')=>(match Nat.beq m n with
   |true=>o'
   |false=>o)
  |none=>o:=by
 cases ov with
 |none=>cases h:hp[n]? with
  |none=>simp[rR,h]
  |some o=>cases o<;>simp[rR,h]
 |some q=>
  obtain⟨m,o'⟩:=q
  simp only[rR]
  by_cases hm:m=n
  ·subst hm
   have hb:Nat.beq m m=true:=Nat.beq_refl m
   split
   ·rename_i o ho
    rw[List.getElem?_set_self (List.getElem?_eq_some_iff.1 ho).1,ho]
    simp
   ·rename_i ho
    cases h:hp[m]? with
    |none=>simp
    |some o=>cases o with
     |none=>simp
     |some o=>exact absurd h (ho o)
  ·have hb:Nat.beq m n=false:=Bool.eq_false_iff.mpr fun h=>hm (Nat.eq_of_beq_eq_true h)
   have:(match hp[m]? with
    |some (some _)=>hp.set m (some o')
    |_=>hp)[n]?=hp[n]?:=by
    split
    ·rw[List.getElem?_set_ne hm]
    ·rfl
   rw[this]
   cases h:hp[n]? with
   |none=>simp
   |some o=>cases o<;>simp[hb]
theorem nv{hp:ak}{ov:Option (Nat×aY)}:(rR hp ov).length=hp.length:=by
 unfold rR
 split
 ·rfl
 ·split<;>simp
def bg(hp:ak)(ov:Option (Nat×aY))(nw:List aY):ak:=rR hp ov++nw.map some
theorem qj{hp:ak}{ov:Option (Nat×aY)}{nw:List aY}:(bg hp ov nw).length=hp.length+nw.length:=by
 simp[bg,nv]
theorem pP{α:Type}{hp:ak}{ov:Option (Nat×aY)}{nw:List aY}(x:RM α):(x.over hp.length ov nw).run hp=x.run (bg hp ov nw) ∧
  (x.over hp.length ov nw).log hp=(x.log (bg hp ov nw)).filter (fun n=>Nat.blt n hp.length):=by
 induction x with
 |ret a=>exact⟨rfl,rfl⟩
 |fail=>exact⟨rfl,rfl⟩
 |get n k ih=>
  cases hb:Nat.ble hp.length n with
  |true=>
   have hle:=Nat.le_of_ble_eq_true hb
   have HI:Nat.blt n hp.length=false:=Bool.eq_false_iff.mpr fun h=>by have:=Nat.le_of_ble_eq_true h; omega
   have e:(bg hp ov nw)[n]?=(nw[n-hp.length]?).map some:=by
    unfold bg
    rw[List.getElem?_append_right (by rw[nv]; exact hle),nv,List.getElem?_map]
   simp only[RM.over,RM.run,RM.log,hb,e,List.filter_cons,HI,Bool.false_eq_true,if_false]
   cases h:nw[n-hp.length]? with
   |none=>exact⟨rfl,rfl⟩
   |some o=>exact ih o
  |false=>
   have cG:n<hp.length:=by
    rcases Nat.lt_or_ge n hp.length with h|h
    ·exact h
    ·rw[Nat.ble_eq_true_of_le h]at hb; cases hb
   have HI:Nat.blt n hp.length=true:=Nat.ble_eq_true_of_le cG
   have e:(bg hp ov nw)[n]?=(rR hp ov)[n]?:=by
    unfold bg
    rw[List.getElem?_append_left (by rw[nv]; exact cG)]
   simp only[RM.over,RM.run,RM.log,hb,e,Fy,List.filter_cons,HI,if_true]
   cases h:hp[n]? with
   |none=>simp
   |some o=>cases o with
    |none=>simp
    |some o=>exact⟨(ih _).1,congrArg (n::·) (ih _).2⟩
def DP[ag](hp:ak)(ov:Option (Nat×aY)):Prop:=∀ (E:Env) (w:World),Inv E (rR hp ov) w→Inv E hp w
theorem ye:∀ (xs l:List AV) (j q:Nat),(q<j∨j+xs.length≤q)→(setCells l j xs)[q]?=l[q]?
 |[],_,_,_,_=>rfl
 |x::xs,l,j,q,h=>by
  simp only[setCells]
  rw[ye xs _ _ q (by simp only[List.length_cons]at h; omega),List.getElem?_set_ne (by simp only[List.length_cons]at h; omega)]
theorem Nj[ag]{E:Env}{l:List AV}{j s:Nat}{cs:List AV}(hs:cs.length=s)(ha:((l.drop j).take s).all isAny=true)(v:Value)(h:au E true (.agg (setCells l j cs)) v):au E true (.agg l) v:=by
 simp only[au]at h ⊢
 obtain⟨c,rfl,hc⟩:=h
 refine⟨c,rfl,aO.of (aw.fk ?_ ?_) hc.leaf⟩
 ·rw[←hc.I8.length,qH]
 ·intro q x u hx hu
  by_cases hq:q<j∨j+cs.length≤q
  ·obtain⟨u',Kl,hr⟩:=hc.I8.get (i:=q) (x:=x) (by rw[ye _ _ _ _ hq]; exact hx)
   rw[hu]at Kl
   cases Kl
   exact hr
  ·have hm:x∈(l.drop j).take s:=by
    rw[List.mem_iff_getElem?]
    refine⟨q-j,?_⟩
    rw[List.getElem?_take_of_lt (by omega),List.getElem?_drop]
    have:j+(q-j)=q:=by omega
    rw[this]
    exact hx
   have:=List.all_eq_true.1 ha x hm
   unfold isAny at this
   split at this
   ·simp[au]
   ·simp at this
theorem H7[ag]{P:Program}{hp H:ak}{ev:Operand→AV}{nm n:Nat}{o:Oper}{o0 o':aY}{e:ed}(h0:hp[n]?=some (some o0))(ZE:H[n]?=some (some o0))(hh:tJ P ev o.op n o0=true)
  (he:(aV P nm ev o).run H=some e) (hw:e.wr=[(n,o')]):DP hp (some (n,o')):=by
 obtain⟨dst,op,type,pos,after,guard⟩:=o
 simp only[tJ]at hh
 split at hh
 case h_2=>simp at hh
 rename_i t a x
 split at hh
 case h_2=>simp at hh
 rename_i r n' ax i j g f es ht ha
 split at hh
 case h_2=>simp at hh
 rename_i l hl
 simp only[Bool.and_eq_true]at hh
 obtain⟨⟨h1,h2⟩,h3⟩:=hh
 obtain rfl:=Nat.eq_of_beq_eq_true h1
 simp only[aV,rh,ht,ha,RM.run_bind]at he
 cases hq:(RM.arr n' ax).run H with
 |none=>rw[hq]at he; simp at he
 |some q=>
  obtain⟨g',c',f',es'⟩:=q
  have e9:=RM.my hq
  rw[hq]at he
  simp only[Option.bind_some]at he
  obtain⟨iG,JD⟩:=e9
  rw[ZE]at iG
  simp only[Option.some.injEq,aY.arr.injEq]at iG
  obtain⟨rfl,rfl,rfl,rfl⟩:=iG
  rw[hl]at he
  simp only[jR]at he
  split at he
  case h_2=>simp[RM.aj]at he
  rename_i e' yN
  split at yN
  case isFalse=>simp at yN
  simp only[Option.some.injEq]at yN
  subst yN
  split at he
  case isFalse=>simp[RM.aj]at he
  rename_i hc
  simp only[RM.run_pure,Option.some.injEq]at he
  subst he
  simp only[List.cons.injEq,Prod.mk.injEq,true_and,and_true,Bool.false_and]at hw
  subst hw
  intro E w hI
  have hn:=(List.getElem?_eq_some_iff.1 h0).1
  have hi:=(List.getElem?_eq_some_iff.1 hl).1
  simp only[rR,h0]at hI
  have:=tX (e':=.agg l) hI (List.getElem?_set_self hn) (List.getElem?_set_self hi) (fun v hv=>Nj hc.2.1 h3 v hv)
  rw[List.set_set,List.set_set,iX hl,iX h0]at this
  exact this
section
variable {C:Ctx}
theorem Av{hp:ak}{n:Nat}{o0 o':aY}{nw:List aY}(h:hp[n]?=some (some o0)):av (bg hp none nw) [(n,o')]=bg hp (some (n,o')) nw:=by
 have cG:=(List.getElem?_eq_some_iff.1 h).1
 simp only[av,bg,rR,h]
 rw[jE (by simp; omega),List.set_append_left _ _ cG]
theorem H8{hp:ak}{ov:Option (Nat×aY)}{nw:List aY}{n:Nat}{o':aY}(h:hp.length≤n):av (bg hp ov nw) [(n,o')]=bg hp ov (LS nw (n-hp.length) o'):=by
 have hl:=qj (hp:=hp) (ov:=ov) (nw:=nw)
 simp only[av,setObj,hl,LS]
 by_cases e:n=hp.length+nw.length
 ·simp_all[bg]
 ·rw[if_neg e,if_neg (by omega)]
  simp only[bg,List.map_set]
  rw[List.set_append_right _ _ (by rw[nv]; exact h),nv]
theorem rU{hp:ak}{ov:Option (Nat×aY)}:∀ (wr:List (Nat×aY)) {nw:List aY},(∀ q∈wr,hp.length≤q.1)→av (bg hp ov nw) wr=bg hp ov (rm hp.length nw wr)
 |[],_,_=>rfl
 |(n,o)::r,nw,h=>by
  have h1:=H8 (ov:=ov) (nw:=nw) (o':=o) (h (n,o) (by simp))
  simp only[av]at h1
  simp only[av,rm,h1]
  exact rU r fun q hq=>h q (by simp[hq])
theorem CC[ag](ha:∀ f d,C.acc f d=false)(hn:∀ f d,C.ta f d=[]){ops:Array Oper}{f:FuncId}{hp:ak}{r:List Oper}{dst:Option Tmp}{op:Op}{type:TypeId}{pos:String}
  {after:Array Edge} {guard:Option (Nat×Bool)} {q q':yM} (h1:∀ c,op≠.call c) (h2:op≠.assign (.const (.slice none 0 0)))
  (h:(do
      let e ←(aV C.P (hp.length+q.nw.length) (aP q.fr) ⟨dst,op,type,pos,after,guard⟩).over hp.length q.ov q.nw
      match e.wr.all fun q=>Nat.ble hp.length q.1 with
      |true=>jU C.P hp.length ops r { q with fr:=bX q.fr dst e.val,nw:=rm hp.length q.nw e.wr }
      |false=>(match q.ov,e.wr with
       |none,[(n,o')]=>.get n fun o0=>(match tJ C.P (aP q.fr) op n o0 with
         |true=>jU C.P hp.length ops r { q with fr:=bX q.fr dst e.val,ov:=some (n,o') }
         |false=>.fail)
       |_,_=>.fail):RM yM).run hp=some q') (k:Nat) :
  ∃ q1:yM,iM C (k+1) ⟨dst,op,type,pos,after,guard⟩ ⟨f,q.fr,bg hp q.ov q.nw⟩=some (.norm ⟨f,q1.fr,bg hp q1.ov q1.nw⟩)∧(DP hp q.ov→DP hp q1.ov)∧(jU C.P hp.length ops r q1).run hp=some q':=by
 obtain⟨fr,ov,nw⟩:=q
 simp only[RM.run_bind,(pP _).1]at h
 cases he:(aV C.P (hp.length+nw.length) (aP fr) ⟨dst,op,type,pos,after,guard⟩).run (bg hp ov nw) with
 |none=>rw[he]at h; simp at h
 |some e=>
  rw[he]at h
  simp only[Option.bind_some]at h
  have Hr:C.ta f=fun _=>[]:=funext fun d=>hn f d
  have cm:iM C (k+1) ⟨dst,op,type,pos,after,guard⟩ ⟨f,fr,bg hp ov nw⟩=some (.norm ⟨f,bX fr dst e.val,av (bg hp ov nw) e.wr⟩):=by
   rw[iM]
   split
   ·rename_i c hc; exact absurd hc (h1 c)
   ·rename_i hc; exact absurd hc h2
   ·simp only[qj,he,Hr]
    cases dst<;>rfl
  split at h
  ·rename_i hb
   refine⟨⟨bX fr dst e.val,ov,rm hp.length nw e.wr⟩,cm.trans ?_,id,h⟩
   rw[rU e.wr fun q hq=>Nat.le_of_ble_eq_true (List.all_eq_true.1 hb q hq)]
  ·cases ov with
   |some _=>simp[RM.aj]at h
   |none=>
    split at h
    case h_2=>simp[RM.aj]at h
    rename_i n o' _ Hd
    simp only[RM.run]at h
    split at h
    case h_2=>simp at h
    rename_i o0 ho
    split at h
    case h_2=>simp[RM.aj]at h
    rename_i hh
    have dJ:(bg hp none nw)[n]?=some (some o0):=by
     grind[bg,rR]
    refine⟨⟨bX fr dst e.val,some (n,o'),nw⟩,cm.trans ?_,fun _=>H7 (o:=⟨dst,op,type,pos,after,guard⟩) ho dJ hh he Hd,h⟩
    rw[Hd,Av (o':=o') ho]
theorem pQ[ag](ha:∀ f d,C.acc f d=false)(hn:∀ f d,C.ta f d=[]){ops:Array Oper}{f:FuncId}{hp:ak}:∀ (l:List Oper) (q q':yM),(jU C.P hp.length ops l q).run hp=some q' →
  (DP hp q.ov→DP hp q'.ov)∧∀ k,dg (fun o s=>iM C (k+1) o s) ops l ⟨f,q.fr,bg hp q.ov q.nw⟩=some (.norm ⟨f,q'.fr,bg hp q'.ov q'.nw⟩)
 |[],q,q',h=>by
  simp only[jU,RM.run_pure,Option.some.injEq]at h
  subst h
  exact⟨id,fun k=>rfl⟩
 |o::r,q,q',h=>by
  obtain⟨dst,op,type,pos,after,guard⟩:=o
  simp only[jU]at h
  simp only[dg]
  cases hw:dh ops q.fr ⟨dst,op,type,pos,after,guard⟩ with
  |none=>rw[hw]at h; simp[RM.aj]at h
  |some b=>
   rw[hw]at h
   cases b with
   |false=>exact pQ ha hn r { q with fr:=bX q.fr dst .undef } _ h
   |true=>
    simp only at h ⊢
    split at h
    ·simp[RM.aj]at h
    ·cases dst with
     |none=>
      obtain⟨i1,i2⟩:=pQ ha hn (f:=f) r q _ h
      refine⟨i1,fun k=>?_⟩
      have cm:iM C (k+1) ⟨none,.assign (.const (.slice none 0 0)),type,pos,after,guard⟩ ⟨f,q.fr,bg hp q.ov q.nw⟩=some (.norm ⟨f,q.fr,bg hp q.ov q.nw⟩):=by
       rw[iM]; rfl
      rw[cm]
      exact i2 k
     |some d=>
      obtain⟨i1,i2⟩:=pQ ha hn (f:=f) r { q with fr:=q.fr.set d (.lit cx) } _ h
      refine⟨i1,fun k=>?_⟩
      have cm:iM C (k+1) ⟨some d,.assign (.const (.slice none 0 0)),type,pos,after,guard⟩ ⟨f,q.fr,bg hp q.ov q.nw⟩=some (.norm ⟨f,q.fr.set d (.lit cx),bg hp q.ov q.nw⟩):=by
       rw[iM]
       simp only[ha,Bool.false_eq_true,if_false]
      rw[cm]
      exact i2 k
    ·rename_i h1 h2
     obtain⟨q1,g1,g2,g3⟩:=CC ha hn (f:=f) h1 h2 h 0
     obtain⟨i1,i2⟩:=pQ ha hn (f:=f) r _ _ g3
     refine⟨fun hw=>i1 (g2 hw),fun k=>?_⟩
     obtain⟨q1',QH,_,g3'⟩:=CC ha hn (f:=f) h1 h2 h k
     rw[QH]
     exact(pQ ha hn (f:=f) r _ _ g3').2 k
theorem Nk[ag](ha:∀ f d,C.acc f d=false)(hn:∀ f d,C.ta f d=[])(hh:∀ f d,C.iU f d=[]){f:FuncId}{hp:ak}:∀ (c:Code) (q:yM) (q':yM×Bool),(iE C.P hp.length c q).run hp=some q' →
  (DP hp q.ov→DP hp q'.1.ov)∧∃ k,cw C k c ⟨f,q.fr,bg hp q.ov q.nw⟩=some (match q'.2 with|true=>.ret ⟨f,q'.1.fr,bg hp q'.1.ov q'.1.nw⟩|false=>.norm ⟨f,q'.1.fr,bg hp q'.1.ov q'.1.nw⟩):=by
 intro c
 induction c with
 |skip=>intro q q' h; simp only[iE,RM.run_pure,Option.some.injEq]at h; subst h; exact⟨id,1,by simp[cw]⟩
 |ret=>intro q q' h; simp only[iE,RM.run_pure,Option.some.injEq]at h; subst h; exact⟨id,1,by simp[cw]⟩
 |seq a b JC He=>
  intro q q' h
  simp only[iE,RM.run_bind]at h
  cases hq:(iE C.P hp.length a q).run hp with
  |none=>rw[hq]at h; simp at h
  |some q1=>
   rw[hq]at h
   simp only[Option.bind_some]at h
   obtain⟨w1,k1,h1⟩:=JC q q1 hq
   obtain⟨q1,r1⟩:=q1
   cases r1 with
   |true=>
    simp only[RM.run_pure,Option.some.injEq]at h
    subst h
    exact⟨w1,k1+1,by simp only[cw,h1]⟩
   |false=>
    simp only at h h1 w1
    obtain⟨w2,k2,h2⟩:=He q1 q' h
    refine⟨fun hw=>w2 (w1 hw),k1+k2+1,?_⟩
    have g1:=(eM C a ⟨f,q.fr,bg hp q.ov q.nw⟩).le h1 k2
    have g2:=(eM C b ⟨f,q1.fr,bg hp q1.ov q1.nw⟩).le h2 k1
    rw[Nat.add_comm]at g2
    simp only[cw,g1,g2]
 |cond o a b JC He=>
  intro q q' h
  simp only[iE]at h
  split at h
  ·rename_i he
   obtain⟨w,k,hk⟩:=JC q q' h
   exact⟨w,k+1,by simp only[cw,he]; exact hk⟩
  ·rename_i he
   obtain⟨w,k,hk⟩:=He q q' h
   exact⟨w,k+1,by simp only[cw,he]; exact hk⟩
  ·simp[RM.aj]at h
 |region id ops draw=>
  intro q q' h
  cases draw with
  |true=>simp[iE,RM.aj]at h
  |false=>
   simp only[iE,RM.run_bind]at h
   cases hq:(jU C.P hp.length ops ops.toList q).run hp with
   |none=>rw[hq]at h; simp at h
   |some q1=>
    rw[hq]at h
    simp only[Option.bind_some,RM.run_pure,Option.some.injEq]at h
    subst h
    obtain⟨w1,h1⟩:=pQ ha hn (f:=f) _ _ _ hq
    exact⟨w1,2,by simp only[cw,hh,iJ]; exact h1 0⟩
 |_=>intro q q' h; simp[iE,RM.aj]at h
def JE(nm:Nat)(ov:Option (Nat×aY)):Prop:=∀ n o,ov=some (n,o)→o.below nm=true
theorem QG[ag]{g:FuncId}{args:List AV}{hp:ak}{e:ed}{P:Program}(hP:C.P=P)(ha:∀ f d,C.acc f d=false)(hn:∀ f d,C.ta f d=[])(hho:∀ f d,C.iU f d=[])(h:(BB P hp.length g args).run hp=some e):
  e.wr=[]∧below hp.length e.val=true∧∃ ov nw,DP hp ov∧JE hp.length ov∧∃ k,o9 C k g args hp=some (.val e.val,bg hp ov nw):=by
 subst hP
 unfold BB at h
 split at h
 ·simp[RM.aj]at h
 rename_i fn hf
 split at h
 ·simp[RM.aj]at h
 rename_i c hc
 split at h
 ·simp[RM.aj]at h
 rename_i hD
 rw[RM.run_bind]at h
 cases hq:(iE C.P hp.length c ⟨args++List.replicate (fn.ntmps-args.length) .undef,none,[]⟩).run hp with
 |none=>rw[hq]at h; simp at h
 |some q=>
  rw[hq]at h
  simp only[Option.bind_some,RM.run_bind,(pP _).1]at h
  cases hl:(bh C.P q.1.fr fn.results.toList).run (bg hp q.1.ov q.1.nw) with
  |none=>rw[hl]at h; simp at h
  |some l=>
   rw[hl]at h
   simp only[Option.bind_some]at h
   split at h
   case h_2=>simp[RM.aj]at h
   rename_i hb
   simp only[RM.run_pure,Option.some.injEq]at h
   subst h
   simp only[Bool.and_eq_true]at hb
   obtain⟨hwk,k,hk⟩:=Nk ha hn hho (f:=g) c ⟨_,none,[]⟩ q hq
   refine⟨rfl,hb.1,q.1.ov,q.1.nw,hwk (fun _ _ h=>h),?_,k+1,?_⟩
   ·intro n o ho
    have:=hb.2
    rw[ho]at this
    exact this
   have e:bg hp none []=hp:=by simp[bg,rR]
   simp only[e]at hk
   simp only[o9,hf,hc,hD,hk]
   cases q.2<;>simp only[hl]
mutual
theorem wY{E:Env}{n:Nat}(hn:E.L=n){o:Bool}:∀ {x:AV} {v:Value},au E o x v→below n x=true
 |.lit _,v,_=>rfl
 |.agg l,v,h=>by
  simp only[au]at h
  obtain⟨c,_,hc⟩:=h
  simp only[below]
  exact lj hn hc.I8
 |.kC l,v,h=>by
  simp only[au]at h
  obtain⟨c,_,hc⟩:=h
  simp only[below]
  exact lj hn hc
 |.jQ t x,v,h=>by
  simp only[au]at h
  obtain⟨y,_,hy⟩:=h
  simp only[below]
  exact wY hn hy
 |.jP fn f c,v,h=>by
  simp only[au]at h
  obtain⟨_,_,_,h1,h2⟩:=h
  simp only[below,Bool.and_eq_true]
  exact⟨lj hn h1,lj hn h2⟩
 |.sl _,v,_=>rfl
 |.mq _ _,v,_=>rfl
 |.nz,v,_=>rfl
 |.bq _ _,v,_=>rfl
 |.ref m _ _ _,v,h=>by
  simp_all[au,below]
 |.bw _ m _ _ _ _,v,h=>by
  simp_all[au,below]
 |.jw m _ _ _ _ _,v,h=>by
  simp_all[au,below]
 |.mp _ m,v,h=>by
  simp_all[au,below]
 |.any,v,_=>rfl
theorem lj{E:Env}{n:Nat}(hn:E.L=n){o:Bool}:∀ {l:List AV} {c:List Value},aw E o l c→dq n l=true
 |[],_,_=>rfl
 |x::xs,v::vs,h=>by
  simp only[aw]at h
  simp only[dq,Bool.and_eq_true]
  exact⟨wY hn h.1,lj hn h.2⟩
 |_::_,[],h=>by simp[aw]at h
end
theorem CD{n:Nat}:∀ {l:List AV},(∀ (i:Nat) (x:AV),l[i]?=some x→below n x=true)→dq n l=true
 |[],_=>rfl
 |x::xs,h=>by
  simp only[dq,Bool.and_eq_true]
  exact⟨h 0 x rfl,CD fun i y hy=>h (i+1) y hy⟩
theorem KR[ag]{E:Env}{hp:ak}{w:World}(hI:Inv E hp w){n:Nat}{o:aY}(ho:hp[n]?=some (some o)):o.below hp.length=true:=by
 have hl:=hI.len.symm
 cases o with
 |arr g c f es=>
  simp only[aY.below,Bool.or_eq_true]
  refine .inr (CD fun i x hx=>?_)
  obtain⟨l,_,_,h3⟩:=hI.objs _ _ ho
  cases hb:l.ma with
  |none=>
   simp_all
  |some b=>
   rw[hb]at h3
   obtain⟨_,_,_,_,_,_,_,_,a7⟩:=h3
   obtain⟨v,hv,_⟩:=a7 _ _ hx
   exact wY hl hv
 |iC k vs=>
  simp only[aY.below]
  obtain⟨_,_,_,us,_,_,_,_,_,_,_,h8⟩:=hI.objs _ _ ho
  exact lj hl h8
theorem KO[ag]{E:Env}{hp:ak}{w w':World}(hI:Inv E hp w){ov:Option (Nat×aY)}{nw:List aY}(hw:DP hp ov)(hb:JE hp.length ov){r:AV}(hr:below hp.length r=true){en:Ending}
  (h:bD E w (bg hp ov nw) (.val r) en w'):bD E w hp (.val r) en w':=by
 obtain⟨E',hx,mC,hf,dL⟩:=h
 have Sa:(bg hp ov nw).take hp.length=rR hp ov:=by
  unfold bg
  rw[←nv (ov:=ov),List.take_left]
 have bK:((bg hp ov nw).take hp.length).all (mb hp.length)=true:=by
  rw[Sa,List.all_eq_true]
  intro o ho
  obtain⟨i,hi⟩:=List.mem_iff_getElem?.1 ho
  rw[Fy]at hi
  cases h:hp[i]? with
  |none=>rw[h]at hi; simp at hi
  |some o1=>
   rw[h]at hi
   cases o1 with
   |none=>
    simp only[Option.map_some,Option.map_none,Option.some.injEq]at hi
    subst hi
    rfl
   |some o1=>
    simp only[Option.map_some,Option.some.injEq]at hi
    subst hi
    simp only[mb]
    have h1:=KR hI h
    cases ov with
    |none=>exact h1
    |some q=>
     obtain⟨m,o'⟩:=q
     simp only
     split
     ·exact hb _ _ rfl
     ·exact h1
 obtain⟨h1,h2,h3⟩:=vG mC (by rw[qj]; omega) bK
 rw[Sa]at h1
 refine⟨E'.lower hp.length,⟨hx.m,fun n hn ax l h=>hx.ρ n hn ax l h,by simp[Env.lower,hI.len]⟩,hw _ _ h1,hf.trans h2,?_⟩
 cases en with
 |returned v=>exact au.down h3 hr dL
 |panicked _=>exact dL.elim
 |outgrown=>exact dL.elim
end
end Go.PI
end
section
/- PI, part Z: the theorem: what the evaluator answers is what the machine does. -/
namespace Go.PI
theorem KL[ag]{C:Ctx}{k:Nat}:Looks (fun nm o fr=>kD C k nm o fr):=by
 intro nm o fr DE h
 cases k with
 |zero=>rfl
 |succ k=>
  have G6:=Ff (P:=C.P) (nm:=nm) h
  obtain⟨dst,op,type,pos,after,guard⟩:=o
  cases op with
  |call c=>
   obtain⟨callee,args,argTypes⟩:=c
   cases callee with
   |builtin b=>simp only[kD]; exact G6
   |invoke r m=>rfl
   |value f=>
    have h1:aP fr f=aP DE f:=h f (by simp[Op.operands,Call.operands])
    have h2:args.toList.map (aP fr)=args.toList.map (aP DE):=List.map_congr_left fun x hx=>h x (by simp[Op.operands,Call.operands]; exact .inr (by simpa using hx))
    simp only[kD,h1,h2]
  |_=>simp only[kD]; exact G6
theorem Fm[ag]{C:Ctx}(ck:C.Ok)(Zz:∀ g,C.kind g=.imp→M6 C.P){k:Nat}(hF:oS C k)(hP:wU C k):tU C.P (fun nm o fr=>kD C (k+1) nm o fr):=by
 intro rd x B E s a w e K Q hs qc h hK
 have cm:=fun y=>ka hs.inv.kE hs.fr y
 have gy:aC x.o.op=false→x.at s.hp.length=s.hp.length:=fun h=>by simp only[Item.at,h]
 have WI:aC x.o.op=true→s.hp[x.at s.hp.length]?=some none:=fun h=>by simp only[Item.at,h]; exact qc h
 clear qc
 have qc:=WI
 clear WI
 obtain⟨idx,nm,o⟩:=x
 generalize Item.at ⟨idx,nm,o⟩ s.hp.length=nm at h qc gy
 simp only at h qc gy hK ⊢
 have Zy:(aV C.P nm (aP s.fr) o).run s.hp=some e→o.wpIn (WF rd) 0 C.P a w K Q:=by
  intro h
  cases tO:aC o.op with
  |true=>exact ze hs (vp hs.inv (.inr (qc tO)) cm h) hK
  |false=>
   rw[MW (nm':=s.hp.length) tO]at h
   exact ze hs (vp hs.inv (.inl rfl) cm h) hK
 obtain⟨dst,op,type,pos,after,guard⟩:=o
 cases op with
 |call c=>
  obtain⟨callee,args,argTypes⟩:=c
  cases callee with
  |builtin b=>simp only[kD]at h; exact Zy h
  |invoke r m=>simp[kD,RM.aj]at h
  |value f=>
   simp only[kD]at h
   split at h
   ·simp[RM.aj]at h
   rename_i g xZ dL
   have od:=nk cm args.toList
   split at h
   ·rename_i tO
    obtain⟨vs',qR,bz⟩:=gR (w:=w) (cm f) od dL (Cx ck h)
    refine sJ (c:=⟨.value f,args,argTypes⟩) rfl rfl bz (Cy ck hF hs.inv (.inr (qc tO)) qR h) (fun v w' hp=>?_) (fun ch w' hp=>?_) (fun w' hp=>?_)
    ·obtain⟨v',lE,E',hx,mC,hf,hr⟩:=hp
     cases lE
     exact hK E' w' v hx hf mC hr
    ·obtain⟨v',lE,_⟩:=hp
     cases lE
    ·obtain⟨v',lE,_⟩:=hp
     cases lE
   split at h
   case h_2=>
    rename_i hk
    have fin : (∃ fn : Func, C.P.funcs[g]? = some fn ∧ fn.body.isSome = true ∧ (fn.name == "runtime.NumGoroutine") = false) ∧
      ∀ (vs:List Value),aw E true xZ vs→Calls C.P g vs.toArray w (bD E w (av s.hp e.wr) (.val e.val)):=by
     split at h
     ·rename_i hh he
      obtain⟨⟨fn,h1,h2⟩,h3⟩:=ck.rj g hh xZ s.hp e he h
      exact⟨⟨fn,h1,h2,ck.name g fn h1 h2⟩,fun vs hv=>h3 E w vs hs.inv hv⟩
     ·refine⟨Qz ck h,fun vs hv=>?_⟩
      rw[gy (by assumption)]at h
      obtain⟨e0,pL⟩:=Zz g hk g xZ s.hp _ h E w vs hs.inv hv
      rw[e0]
      exact pL
    obtain⟨vs',qR,bz⟩:=gR (w:=w) (cm f) od dL fin.1
    refine sJ (c:=⟨.value f,args,argTypes⟩) rfl rfl bz (fin.2 vs' qR) (fun v w' hp=>?_) (fun ch w' hp=>?_) (fun w' hp=>?_)
    ·obtain⟨E',hx,mC,hf,hr⟩:=hp
     exact hK E' w' v hx hf mC hr
    ·obtain⟨E',hx,mC,hf,hr⟩:=hp
     exact hr.elim
    ·obtain⟨E',hx,mC,hf,hr⟩:=hp
     exact hr.elim
   rw[RM.run_bind]at h
   cases hq:(pd C k g xZ).run s.hp with
   |none=>rw[hq]at h; simp at h
   |some q=>
    obtain⟨res,wr⟩:=q
    rw[hq]at h
    simp only[Option.bind_some]at h
    cases res with
    |nY v=>simp[RM.aj]at h
    |val r=>
     simp only[RM.run_pure,Option.some.injEq]at h
     subst h
     obtain⟨vs',qR,bz⟩:=gR (w:=w) (cm f) od dL (MZ ck hq)
     have pL:=hP g xZ s.hp _ wr hq E w vs' hs.inv qR
     refine sJ (c:=⟨.value f,args,argTypes⟩) rfl rfl bz pL (fun v w' hp=>?_) (fun ch w' hp=>?_) (fun w' hp=>?_)
     ·obtain⟨E',hx,mC,hf,hr⟩:=hp
      exact hK E' w' v hx hf mC hr
     ·obtain⟨E',hx,mC,hf,hr⟩:=hp
      exact hr.elim
     ·obtain⟨E',hx,mC,hf,hr⟩:=hp
      exact hr.elim
 |_=>simp only[kD]at h; exact Zy h
theorem pN{I:Machine→Prop}{P:Program}{m m1 m2:Machine}(h:StepsIn I P m m2)(dY:m≠m2)(hs:step P m=.next m1):StepsIn I P m1 m2:=by
 cases h with
 |refl=>exact absurd rfl dY
 |head _ gm hr=>
  rw[hs]at gm
  cases gm
  exact hr
theorem oT{id:Nat}:∀ {k k':List Go.Item},exitTo id k=some k'→k'.length<k.length
 |[],k',h=>by simp[exitTo]at h
 |x::r,k',h=>by
  cases x with
  |inBlock LU=>
   simp only[exitTo]at h
   split at h
   ·simp_all
   ·have:=oT h; simp; omega
  |_=>simp only[exitTo]at h; have:=oT h; simp; omega
theorem JB{b b':Frame}{a a':Act}{k k':List Go.Item}{cs:List Frame}{w w':World}(h:k.length≠k'.length):lone (b.atR a k) cs w≠lone (b'.atR a' k') cs w':=by
 intro e
 have h1:=congrArg (fun m:Machine=>(m.gs[0]?).map fun g=>g.frame.todo.length) e
 have h2:some k.length=some k'.length:=h1
 simp only[Option.some.injEq]at h2
 exact h h2
def tZ:Go.Item→Bool
 |.code (.loop _)=>true
 |_=>false
theorem Fo{b b':Frame}{a a':Act}{k k':List Go.Item}{cs:List Frame}{w w':World}{c:Code}{x:Go.Item}(hx:tZ x=false):lone (b.atR a (.code (.loop c)::k)) cs w≠lone (b'.atR a' (x::k')) cs w':=by
 intro e
 have h1:=congrArg (fun m:Machine=>(m.gs[0]?).map fun g=>(g.frame.todo.head?).map tZ) e
 have h2:some (some true)=some (some (tZ x)):=h1
 rw[hx]at h2
 simp at h2
theorem BL{F:Fence}{n:Nat}{P:Program}{c:Code}{Q:Exit→Act→World→Prop}{a:Act}{w:World}(hg:∀ l a w,¬Q (.goto l) a w)(ho:∀ a w,¬Q .outgrown a w)
  (h:c.wpIn F n P (Exit.then (fun a w=>(Code.loop c).wpIn F n P Q a w) Q) a w):(Code.loop c).wpIn F n P Q a w:=by
 intro b k cs eD hb hr
 have h0:(lone (b.atR a (.code (.loop c)::k)) cs w).fenced P F:=fenced_calm hb hr rfl
 obtain⟨e,a₁,w₁,hq,dp⟩:=h b (.inLoop c::k) cs eD hb hr
 cases e with
 |normal=>
  obtain⟨e₂,a₂,w₂,zG,lD⟩:=hq b k cs eD hb hr
  have h1:(lone (b.atR a₁ (.inLoop c::k)) cs w₁).fenced P F:=fenced_calm hb hr rfl
  refine⟨e₂,a₂,w₂,zG,ArrivesIn.of_steps (StepsIn.head h0 stepR_loop (StepsIn.trans dp (.one h1 stepR_inLoop))) ?_⟩
  have hs:step P (lone (b.atR a₁ (.code (.loop c)::k)) cs w₁)=.next (lone (b.atR a₁ (.code c::.inLoop c::k)) cs w₁):=stepR_loop
  cases e₂ with
  |normal=>exact pN lD (JB (k:=.code (.loop c)::k) (k':=k) (by simp)) hs
  |exit id=>
   exact⟨fun k' hk=>pN (lD.1 k' hk) (JB (k:=.code (.loop c)::k) (k':=k') (by have:=oT hk; simp; omega)) hs,
    fun oO hk=>by
     obtain⟨k₁,e1,e2⟩:=lD.2 oO hk
     exact⟨k₁,e1,pN e2 (Fo rfl) hs⟩⟩
  |goto l=>exact absurd zG (hg _ _ _)
  |ret=>
   refine⟨fun hn=>?_,fun hn=>?_⟩
   ·obtain⟨todo,h1⟩:=lD.1 hn
    refine⟨todo,pN h1 ?_ hs⟩
    intro e
    have h1:=congrArg (fun m:Machine=>(m.gs[0]?).map fun g=>(match g.frame.mode with|.run=>true|_=>false)) e
    have h2:some true=some false:=h1
    simp at h2
   ·obtain⟨k₁,h1⟩:=lD.2 hn
    exact⟨k₁,pN h1 (Fo rfl) hs⟩
  |panic ch=>
   obtain⟨todo,h1⟩:=lD
   refine⟨todo,pN h1 ?_ hs⟩
   intro e
   have h1:=congrArg (fun m:Machine=>(m.gs[0]?).map fun g=>(match g.frame.mode with|.run=>true|_=>false)) e
   have h2:some true=some false:=h1
   simp at h2
  |outgrown=>exact absurd zG (ho _ _)
 |exit id=>exact⟨_,a₁,w₁,hq,.of_steps (.one h0 stepR_loop) (.pass (x:=.inLoop c) rfl (fun _ _=>.inl (by simp)) dp)⟩
 |goto l=>exact⟨_,a₁,w₁,hq,.of_steps (.one h0 stepR_loop) (.pass (x:=.inLoop c) rfl (fun _ _=>.inl (by simp)) dp)⟩
 |ret=>exact⟨_,a₁,w₁,hq,.of_steps (.one h0 stepR_loop) (.pass (x:=.inLoop c) rfl (fun _ _=>.inl (by simp)) dp)⟩
 |panic ch=>exact⟨_,a₁,w₁,hq,.of_steps (.one h0 stepR_loop) (.pass (x:=.inLoop c) rfl (fun _ _=>.inl (by simp)) dp)⟩
 |outgrown=>exact⟨_,a₁,w₁,hq,.of_steps (.one h0 stepR_loop) (.pass (x:=.inLoop c) rfl (fun _ _=>.inl (by simp)) dp)⟩
theorem QA[ag]{B:qS}{E:Env}{w:World}{o:Out}:∀ l a w',¬bG B E w o (.goto l) a w':=by
 rintro l a w' ⟨E',_,_,h⟩
 cases o<;>exact h
theorem Tp[ag]{B:qS}{E:Env}{w:World}{o:Out}:∀ a w',¬bG B E w o .outgrown a w':=by
 rintro a w' ⟨E',_,_,h⟩
 cases o<;>exact h
theorem M7[ag]{C:Ctx}(ck:C.Ok){k:Nat}(hF:oS C k){B:qS}(WJ:B.rg=true){E:Env}{s:St}{a:Act}{w:World}(hs:dr B E s a w){f:Operand}{ps:Array Tmp}{as bd:Code}{o:Out}
  (h:cw C (k+1) (.rangeFunc f ps as bd) s=some o):(Code.rangeFunc f ps as bd).wpIn (WF none) 0 C.P (bG B E w o) a w:=by
 simp only[cw]at h
 split at h
 case h_2=>simp at h
 rename_i g args dL
 split at h
 case h_2=>simp at h
 rename_i x Bz cm
 refine wpIn_rangeFunc fun fn _=>?_
 have PC:Inv E s.hp (w.alloc (.deferred (some []))):=Cr hs.inv (fun b hb=>by simp only[World.alloc,Array.getElem?_push,if_neg (by omega:¬b=w.heap.size)]) (by simp)
 have hF1:Fr E w E (w.alloc (.deferred (some []))):=⟨rfl,rfl,rfl,by simp,fun b hb _=>by simp only[World.alloc,Array.getElem?_push,if_neg (by omega:¬b=w.heap.size)],fun _ h=>.inl h,fun _ _ h=>.inl h⟩
 obtain⟨oQ,wS,ZA⟩:=Jp PC (n:=s.hp.length) (.inl rfl) (k:=.loop s.fn ps as bd .ready) (ob:=.loop { state:=.ready,pending:=none,fn,tmps:=a.tmps,params:=ps,assign:=as,body:=bd,defers:=w.heap.size }) (us:=a.tmps.toList)
  ⟨rfl,rfl,rfl,⟨rfl,rfl⟩,rfl⟩ (Cz (u:=eH as++eH bd) 0 _ _ hs.fr)
 have fW:setObj s.hp s.hp.length (.iC (.loop s.fn ps as bd .ready) (qE (eH as++eH bd) 0 s.fr))=s.hp++[some (.iC (.loop s.fn ps as bd .ready) (zx as bd s.fr))]:=by simp[setObj,zx]
 rw[fW]at wS
 have mw:(w.alloc (.deferred (some []))).heap.size=w.heap.size+1:=by simp
 rw[mw]at oQ wS ZA
 generalize hE2:E.push s.hp.length 0 ⟨some (w.heap.size+1),1,0⟩=E2 at oQ wS ZA
 have ef:E2.ρ s.hp.length 0=some ⟨some (w.heap.size+1),1,0⟩:=by rw[←hE2]; simp[Env.push]
 have hL:s.hp.length<E2.L:=by rw[←hE2]; simp only[Env.push]; omega
 have WK:∀ b,E2.own b→E.own b∨b=w.heap.size+1:=by
  intro b hb
  rw[←hE2]at hb
  rcases hb with hb|hb
  ·exact .inl hb
  ·simp_all
 generalize hW:(w.alloc (.deferred (some []))).alloc (.loop { state:=.ready,pending:=none,fn,tmps:=a.tmps,params:=ps,assign:=as,body:=bd,defers:=w.heap.size })=w2 at wS ZA
 have HW:=(ka hs.inv.kE hs.fr f).mono oQ
 have hy:aw E2 true [.mp true s.hp.length] [Value.func (.yield (w.heap.size+1)) #[] #[]]:=by
  simp_all[aw,au]
 obtain⟨V5,yP,nt⟩:=DI cm
 obtain⟨vs',qR,bz⟩:=gR (w:=w2) HW hy dL ⟨V5,yP,nt,ck.name g V5 yP nt⟩
 rw[Sem.run_bind]at bz
 cases WL:(Deferred.ofValue (a.eval f) #[Value.func (.yield (w.heap.size+1)) #[] #[]]).run C.P w2 with
 |halt x' w'=>
  have Tq:(Deferred.ofValue (a.eval f) [Value.func (.yield (w.heap.size+1)) #[] #[]].toArray).run C.P w2=.halt x' w':=WL
  rw[Tq]at bz
  simp[Result.andThen]at bz
 |ok d w2'=>
  have Tq:(Deferred.ofValue (a.eval f) [Value.func (.yield (w.heap.size+1)) #[] #[]].toArray).run C.P w2=.ok d w2':=WL
  rw[Tq]at bz
  simp only[Result.andThen]at bz
  refine⟨w.heap.size+1,[{ target:=.collected w.heap.size,args:=#[] }],w2,d,w2',g,vs'.toArray,w2,?_,?_,fun _ _=>trivial,bz,fun h=>by simp[WF,Fence.wide]at h,?_⟩
  ·rw[←hW]
   exact run_enterLoop_outer fn a.tmps ps as bd
  ·simpa[resolve,rangeCall,Act.eval] using WL
  refine(Jz (hF g args _ _ _ cm E2 w2 vs' wS qR) none _).mono fun e w3 eL=>?_
  cases e with
  |panicked ch=>obtain⟨_,_,_,_,hr⟩:=eL; exact hr.elim
  |outgrown=>obtain⟨_,_,_,_,hr⟩:=eL; exact hr.elim
  |returned v=>
   obtain⟨E3,V6,hI3,hF3,_⟩:=eL
   have R8:=V6.ρ _ hL 0 _ ef
   have after:∀ (st:m9) (j:Option Code),jV Bz s.hp.length=some st→(∀ s' p',st.is s' p'→s'≠.busy∧p'=j) →
     ∃ w4,(Instr.endLoop (w.heap.size+1)).run C.P w3=.ok j w4∧∃ E4,Ext E E4∧Fr E w E4 w4 ∧
       dr B E4 { s with hp:=u3 Bz s.hp.length } { a with defers:=[{ target:=.collected w.heap.size,args:=#[] }]++a.defers } w4:=by
    intro st j lM hj
    obtain⟨fn3,ps3,as3,bd3,fr3,DM⟩:=lN lM
    obtain⟨r3,u1,_,_,_,u5,_⟩:=sK hI3 DM R8 rfl
    obtain⟨j1,j2⟩:=hj _ _ u5
    subst j2
    obtain⟨c1,c2⟩:=M1 hI3 DM R8 rfl u1 (s':=.exhausted) (p':=r3.pending)
    have hFa:Fr E w E3 (w3.putObj (w.heap.size+1) (.loop { r3 with state:=.exhausted })):=((hF1.trans ZA).trans hF3).trans c2
    refine⟨_,run_endLoop u1 j1,E3,oQ.trans V6,hFa,⟨hs.fr.mono (oQ.trans V6),c1,?_,Nat.le_trans hs.bs hFa.size⟩⟩
    obtain⟨rs,Ts,aaA,_,aaB⟩:=hs.df.mono hFa
    have QC:¬E2.own w.heap.size:=fun ho=>by
     rcases WK _ ho with h|h
     ·have:=hs.inv.qa _ h; omega
     ·omega
    have DN:w.heap.size<w2.heap.size:=by rw[←hW]; simp; omega
    have hold:∀ r∈rs,r<w.heap.size:=by
     intro r hr
     obtain⟨rs0,e1,_,_,e3⟩:=hs.df
     rw[e1]at Ts
     have hm:∀ (l l':List Nat),l.map (fun r=>({ target:=.collected r,args:=#[] }:Deferred))=l'.map (fun r=>{ target:=.collected r,args:=#[] })→l=l':=by
      intro l
      induction l with
      |nil=>simp_all
      |cons y ys ih=>
       intro l' h
       cases l' with
       |nil=>simp at h
       |cons z zs=>
        grind
     have:=hm _ _ (List.append_cancel_right Ts)
     subst this
     exact(Array.getElem?_eq_some_iff.1 (e3 r hr).2.2).1
    refine⟨w.heap.size::rs,by simp only[List.map_cons,List.cons_append,←Ts]; rfl,List.nodup_cons.2 ⟨fun hm=>?_,aaA⟩,fun h=>(by rw[WJ]at h; cases h),fun r hr=>?_⟩
    ·have:=hold _ hm; omega
    ·rcases List.mem_cons.1 hr with rfl|hr
     ·refine⟨hs.bs,fun ho=>?_,?_⟩
      ·rcases hF3.own _ ho with h|h
       ·exact QC h
       ·omega
      ·rw[World.putObj_heap_other (by omega),hF3.same _ DN QC,←hW]
       show ((w.heap.push _).push _)[w.heap.size]?=_
       simp only[Array.getElem?_push,Array.size_push,if_true]
       rw[if_neg (by omega)]
     ·exact aaB r hr
   unfold zA at h
   split at h
   ·rename_i lM
    simp only[Option.some.injEq]at h
    subst h
    obtain⟨w4,h1,E4,h2,h3,h4⟩:=after _ none lM (fun s' p' hp=>⟨by rw[hp.1]; simp,hp.2⟩)
    exact⟨none,w4,h1,E4,h2,h3,h4⟩
   ·rename_i lM
    simp only[Option.some.injEq]at h
    subst h
    obtain⟨w4,h1,E4,h2,h3,h4⟩:=after _ (some .ret) lM (fun s' p' hp=>⟨by rw[hp.1]; simp,hp.2⟩)
    exact⟨some .ret,w4,h1,wpIn_ret ⟨E4,h2,h3,h4⟩⟩
   ·rename_i id lM
    simp only[Option.some.injEq]at h
    subst h
    obtain⟨w4,h1,E4,h2,h3,h4⟩:=after _ (some (.exit id)) lM (fun s' p' hp=>⟨by rw[hp.1]; simp,hp.2⟩)
    exact⟨some (.exit id),w4,h1,wpIn_exit ⟨E4,h2,h3,rfl,h4⟩⟩
   ·simp at h
section
variable {ops:Array Oper}
theorem QD[ag]{P:Program}{Fp:Oper→St→Option Out}(fq:nr P Fp)(Ao:∀ o s r,Fp o s=some r→(∃ s',r=.norm s')∨∃ v s',r=.nY v s')(oh:mv 0 ops.toList=true){md:Region.Mode}
  (xV:rl md ops=true) {m:Nat} (xY:oN (cH ops.toList) ops.size m=true) {Q:Exit→Act→World→Prop} {E0:Env} {w0:World} {B:qS} {r:Option Nat} {out:Out}
  (hQ:∀ s',out=.norm s'→∀ E a w,Ext E0 E→Fr E0 w0 E w→dr B E s' a w→Q .normal a w)
  (hP:∀ v s',out=.nY v s'→∀ E a w u,Ext E0 E→Fr E0 w0 E w→Inv E s'.hp w→au E true v u→Marks B E w a.defers→Q (.panic [{ v:=u,recovered:=false }]) a w) :
  ∀ (t i:Nat) (listed:Array Bool) (E:Env) (s:St) (a:Act) (w:World),i+t=ops.size→m≤i→listed.size=ops.size→(∀ j,j<i→listed.getD j true=true)→(∀ j,i≤j→j<ops.size→listed.getD j true=false) →
    Ext E0 E→Fr E0 w0 E w→dr B E s a w→dg Fp ops (ops.toList.drop i) s=some out→wpAnyIn (WF r) 0 P md ops Q t listed a w:=by
 intro t
 induction t with
 |zero=>
  intro i listed E s a w hit hm ep M8 QE hx gi hs bz
  rw[List.drop_of_length_le (by simp; omega)]at bz
  simp only[dg,Option.some.injEq]at bz
  refine⟨?_,hQ s bz.symm E a w hx gi hs⟩
  unfold Region.ready
  rw[List.filter_eq_nil_iff]
  intro j hj hc
  simp only[List.mem_range]at hj
  rw[M8 j (by omega)]at hc
  simp at hc
 |succ t ih=>
  intro i listed E s a w hit hm ep M8 QE hx gi hs bz
  have M9:i<ops.size:=by omega
  refine⟨fun Am=>absurd Am (Fc xV ep M9 (QE i (Nat.le_refl _) M9)),fun j hj=>?_⟩
  have Cq:∀ k o,ops[k]?=some o→listed.getD k true=true→∀ p,tH (cH ops.toList) k p=true→listed.getD p false=true:=by
   intro k o hk hl p hp
   have hkl:k<ops.size:=(Array.getElem?_eq_some_iff.1 hk).1
   have V1:k<i:=by
    grind
   have Zz:=Qv oh hk hp
   have:=M8 p (by omega)
   rw[←vD (a:=listed) (by omega) true false]
   exact this
  obtain⟨VZ,V0,hj3⟩:=xW oh ep Cq hj
  have hji:j=i:=by
   rcases Nat.lt_trichotomy j i with h|h|h
   ·rw[M8 j h]at V0; cases V0
   ·exact h
   ·have:=hj3 i (xX xY (by omega) VZ h)
    have h2:=QE i (Nat.le_refl _) M9
    rw[vD (by omega) true false]at h2
    rw[this]at h2; cases h2
  subst hji
  obtain⟨o,ho⟩:∃ o,ops[j]?=some o:=⟨ops[j],by simp[M9]⟩
  have WM:ops.toList.drop j=o::ops.toList.drop (j+1):=by
   have hl:j<ops.toList.length:=by simpa using M9
   rw[List.drop_eq_getElem_cons hl]
   congr 1
   have:=(Array.getElem?_eq_some_iff.1 ho).2
   simpa using this
  rw[WM]at bz
  have fW:∀ q d,q≠j→(listed.setIfInBounds j true).getD q d=listed.getD q d:=by
   intro q d hq
   simp[Array.getD_eq_getD_getElem?,Ne.symm hq]
  have Fe:∀ d,(listed.setIfInBounds j true).getD j d=true:=by
   simp_all
  have next:∀ (E':Env) (s':St) (a':Act) (w':World),Ext E0 E'→Fr E0 w0 E' w'→dr B E' s' a' w'→dg Fp ops (ops.toList.drop (j+1)) s'=some out →
    wpAnyIn (WF r) 0 P md ops Q t (listed.setIfInBounds j true) a' w':=by
   intro E' s' a' w' ic MV gm oO
   refine ih (j+1) _ E' s' a' w' (by omega) (by omega) (by simpa using ep) (fun q hq=>?_) (fun q hq hql=>?_) ic MV gm oO
   ·by_cases e:q=j
    ·subst e; exact Fe _
    ·rw[fW _ _ e]; exact M8 q (by omega)
   ·rw[fW _ _ (by omega)]; exact QE q (by omega) hql
  unfold wpOpIn
  rw[ho]
  simp only
  simp only[dg]at bz
  split at bz
  ·simp at bz
  ·rename_i hw
   rw[mR hs.fr hw]
   simp only[Bool.false_eq_true,if_false]
   exact⟨fun _ _=>trivial,next E { s with fr:=bX s.fr o.dst .undef } _ w hx gi ⟨j0 hs.fr (by simp[au]),hs.inv,by rw[put_defers]; exact hs.df,hs.bs⟩ bz⟩
  ·rename_i hw
   rw[mR hs.fr hw]
   simp only[if_true]
   cases hq:Fp o s with
   |none=>rw[hq]at bz; simp at bz
   |some q=>
    rw[hq]at bz
    refine fq o s q hq r B E a w _ Q hs (fun s' e E' a' w' ic Jj gm=>?_) (fun v s' e E' w' u ic Jj mC hr=>?_)
    ·subst e
     exact next E' s' a' w' (hx.trans ic) (gi.trans Jj) gm bz
    ·subst e
     simp only[Option.some.injEq]at bz
     exact hP v s' bz.symm E' a w' u (hx.trans ic) (gi.trans Jj) mC hr (hs.df.mono Jj)
end
def Ar[ag](C:Ctx)(k:Nat):Prop:=
 ∀ id ops draw s o,cw C k (.region id ops draw) s=some o→∀ (rd:Option Nat) (B:qS) (E:Env) (a:Act) (w:World),dr B E s a w →
   (draw=false→wpOpsIn (WF rd) 0 C.P ops (bG B E w o) (List.range ops.size) a w) ∧
   (draw=true→∀ t,wpOpsIn (WF rd) 0 C.P ops (bG B E w o) (Region.schedule (C.P.follows .mixedOrders) ops t) a { w with drawn:=w.drawn+1 })
theorem yb[ag]{C:Ctx}{k:Nat}(hO:nr C.P (fun o s=>iM C k o s))(hE:tU C.P (fun nm o fr=>kD C k nm o fr)):Ar C (k+1):=by
 intro id ops draw s o h rd B E a w hs
 simp only[cw]at h
 cases draw with
 |false=>
  refine⟨fun _=>?_,fun h=>by cases h⟩
  rw[List.range_eq_range',←Array.length_toList,wpOpsIn_eq_wpListIn ops.toList 0 (by simp)]
  exact sI hO (fun o s r h=>pO h) rd B ops.toList _ o h E E a w w (Ext.refl E) (Fr.refl E w) (wV _ hs)
 |true=>
  simp only at h
  have WN:C.head s.fn id ops≤ops.size:=Nat.sub_le _ _
  generalize C.head s.fn id ops=m at h WN
  have qK:=wV (C.iU s.fn id) hs
  rw[←tY (C.iU s.fn id) s]at h
  clear hs
  generalize iJ (C.iU s.fn id) s=s at h qK
  have hs:=qK
  split at h
  case isFalse=>simp at h
  rename_i QF
  simp only[uY,Bool.and_eq_true]at QF
  obtain⟨⟨⟨⟨oh,KG⟩,aed⟩,hgc⟩,Tt⟩:=QF
  split at h
  case h_2=>simp at h
  rename_i s' fs bz
  split at h
  case isFalse=>simp at h
  rename_i hft
  rw[Bool.and_eq_true]at hft
  obtain⟨WO,xY⟩:=hft
  suffices key:∀ md:Region.Mode,rl md ops=true→∀ t,wpOpsIn (WF rd) 0 C.P ops (bG B E w o) (Region.linearise md ops t) a { w with drawn:=w.drawn+1 } by
   refine⟨fun h=>by (cases h),fun _ t=>?_⟩
   unfold Region.schedule
   split
   ·exact key .any KG t
   ·grind
  intro md xV t
  refine wpAnyIn_sound _ _ _ _ _ ?_
  let s0:St:={ s with hp:=s.hp++List.replicate ((ops.toList.take m).filter fun o=>aC o.op).length none }
  obtain⟨r1,r2,r3⟩:=HS hs.inv ((ops.toList.take m).filter fun o=>aC o.op).length
  have PC:Inv (E.im ((ops.toList.take m).filter fun o=>aC o.op).length) s0.hp { w with drawn:=w.drawn+1 }:=r2.heap rfl
  have yP:Fr E w (E.im ((ops.toList.take m).filter fun o=>aC o.op).length) { w with drawn:=w.drawn+1 }:=r3.trans (Fr.drew _ w)
  have WQ:=rN _ _ _ _ bz
  have wW:∀ (k:Nat) (x:Item),(bV 0 s.hp.length (ops.toList.take m))[k]?=some x→x.idx=k∧ops[k]?=some x.o∧k<m:=by
   intro k x hk
   obtain⟨a1,a2,_,_⟩:=mE _ _ _ _ _ hk
   have hkm:k<m:=by
    grind
   rw[List.getElem?_take_of_lt hkm]at a2
   exact⟨by omega,by simpa using a2,hkm⟩
  have WR:ops.size=m+(ops.size-m):=by omega
  refine Eq.mpr (congrArg (fun fl=>wpAnyIn (WF rd) 0 C.P md ops (bG B E w o) fl _ _ _) WR) ?_
  refine MT (P:=C.P) KL hE oh xV WN xY (s':=s') (E0:=E) (w0:=w) (B:=B) (fun E' a' w' listed b1 b2 b3 b4 b5 b6=>
   QD hO (fun o s r h=>pO h) oh xV xY (fun uN e E2 a2 w2 c1 c2 c3=>by subst e; exact⟨E2,c1,c2,c3⟩)
    (fun v uN e E2 a2 w2 u c1 c2 c3 c4 c5=>by subst e; exact⟨E2,c1,c2,u,rfl,c4,c3,c5⟩) (ops.size-m) m listed E' s' a' w' (by omega) (Nat.le_refl _) b4 b5 b6 b1 b2 b3 h) m (bV 0 s.hp.length (ops.toList.take m))
   _ fs _ s0 a _ (by rw[nq]; simp; omega) ?_
   r1 yP ⟨hs.fr.mono r1,PC,hs.df.mono yP,hs.bs⟩ ?_ bz ?_
  ·refine⟨by simp,fun x hx=>?_,?_,fun i hi _ him=>?_,fun i _ hi=>?_,fun i o ho hl=>?_,?_⟩
   ·obtain⟨k,hk⟩:=List.mem_iff_getElem?.1 hx
    obtain⟨a1,a2,a3⟩:=wW k x hk
    have cG:k<ops.size:=(Array.getElem?_eq_some_iff.1 a2).1
    rw[a1]
    refine⟨a2,?_,a3⟩
    simp[Array.getD,cG]
   ·rw[List.pairwise_iff_getElem]
    intro i j hi hj RW
    have a1:=(wW i _ (List.getElem?_eq_getElem hi)).1
    have a2:=(wW j _ (List.getElem?_eq_getElem hj)).1
    omega
   ·have tn:i<(bV 0 s.hp.length (ops.toList.take m)).length:=by rw[nq]; simp; omega
    exact⟨_,List.getElem_mem tn,(wW i _ (List.getElem?_eq_getElem tn)).1⟩
   ·simp[Array.getD,hi]
   ·have cG:i<ops.size:=(Array.getElem?_eq_some_iff.1 ho).1
    simp[Array.getD,cG]at hl
   ·rw[List.pairwise_iff_getElem]
    intro i j hi hj RW ha
    exact Al _ _ _ i j _ _ RW (List.getElem?_eq_getElem hi) (List.getElem?_eq_getElem hj) ha
  ·intro x hx ha
   obtain⟨k,hk⟩:=List.mem_iff_getElem?.1 hx
   obtain⟨_,_,a3,a4⟩:=mE _ _ _ _ _ hk
   have a5:=a4 ha
   simp only[s0]
   rw[List.getElem?_append_right a3,List.getElem?_replicate,if_pos (by omega)]
  ·intro j k x y f g Qu hx hy hf hg
   obtain⟨a1,a2,_⟩:=wW j x hx
   obtain⟨b1,b2,_⟩:=wW k y hy
   have hfo:=vC fs WO j k f g Qu hf hg
   have PB:f.idx=j:=by
    have:(fs.map (·.idx))[j]?=some f.idx:=by simp[hf]
    rw[WQ]at this
    simp[hx,a1]at this
    exact this.symm
   have hgi:g.idx=k:=by
    have:(fs.map (·.idx))[k]?=some g.idx:=by simp[hg]
    rw[WQ]at this
    simp[hy,b1]at this
    exact this.symm
   rcases vB ops.toList 0 Tt j k x.o y.o Qu (by simpa using a2) (by simpa using b2) with hp|hp
   ·left; rw[a1,b1]; simpa using hp
   ·simp only[tI,Bool.or_eq_true,Bool.and_eq_true]at hfo
    rcases hfo with hq|⟨h1,h2⟩
    ·left; rw[PB,hgi]at hq; rw[a1,b1]; exact hq
    ·right
     refine⟨hp,fun n hn=>?_,fun n hn=>Cv h2 n hn⟩
     have:=Cv h1 n hn
     simpa using this
theorem Fq[ag]{C:Ctx}(ck:C.Ok){k:Nat}(hF:oS C k)(HY:∀ j,j≤k→gz C j)(hO:nr C.P (fun o s=>iM C k o s))(hE:tU C.P (fun nm o fr=>kD C k nm o fr)):gz C (k+1):=by
 have hC:=HY k (Nat.le_refl k)
 intro c s o h rd B PJ E a w hs
 have self:bG B E w (.norm s) .normal a w:=⟨E,Ext.refl E,Fr.refl E w,hs⟩
 cases c with
 |skip=>simp only[cw,Option.some.injEq]at h; subst h; exact wpIn_skip self
 |label l=>simp only[cw,Option.some.injEq]at h; subst h; exact wpIn_label self
 |ret=>simp only[cw,Option.some.injEq]at h; subst h; exact wpIn_ret ⟨E,Ext.refl E,Fr.refl E w,hs⟩
 |exit id=>simp only[cw,Option.some.injEq]at h; subst h; exact wpIn_exit ⟨E,Ext.refl E,Fr.refl E w,rfl,hs⟩
 |seq x y=>
  simp only[cw]at h
  have r1:(rd=none∧B.rg=true)∨ct x=true:=PJ.imp id fun h=>by simp only[ct,Bool.and_eq_true]at h; exact h.1
  have r2:(rd=none∧B.rg=true)∨ct y=true:=PJ.imp id fun h=>by simp only[ct,Bool.and_eq_true]at h; exact h.2
  refine wpIn_seq ?_
  split at h
  ·rename_i s' hx
   refine wpIn_mono (hC x s _ hx rd B r1 E a w hs) fun e a' w' hp=>?_
   obtain⟨E',h1,h2,h3⟩:=hp
   cases e with
   |normal=>exact wpIn_mono (hC y s' o h rd B r2 E' a' w' h3) fun e ZB zE hp=>bG.from h1 h2 hp
   |_=>exact h3.elim
  ·rename_i dY
   refine wpIn_mono (hC x s o h rd B r1 E a w hs) fun e a' w' hp=>?_
   obtain⟨E',h1,h2,h3⟩:=hp
   cases e with
   |normal=>
    cases o with
    |norm s'=>exact absurd h (dY s')
    |_=>exact h3.elim
   |_=>exact⟨E',h1,h2,h3⟩
 |cond op x y=>
  simp only[cw]at h
  have r1:(rd=none∧B.rg=true)∨ct x=true:=PJ.imp id fun h=>by simp only[ct,Bool.and_eq_true]at h; exact h.1
  have r2:(rd=none∧B.rg=true)∨ct y=true:=PJ.imp id fun h=>by simp only[ct,Bool.and_eq_true]at h; exact h.2
  split at h
  case h_2=>simp at h
  rename_i t ht
  have hv:=ka hs.inv.kE hs.fr op
  rw[ht]at hv
  simp only[au]at hv
  cases t with
  |true=>exact wpIn_cond_true hv (hC x s o h rd B r1 E a w hs)
  |false=>exact wpIn_cond_false hv (hC y s o h rd B r2 E a w hs)
 |block id b=>
  simp only[cw]at h
  have r1:(rd=none∧B.rg=true)∨ct b=true:=PJ.imp (fun h=>h) fun h=>by simpa only[ct] using h
  refine wpIn_block ?_
  split at h
  ·rename_i LU s' hx
   refine wpIn_mono (hC b s _ hx rd B r1 E a w hs) fun e a' w' hp=>?_
   obtain⟨E',h1,h2,h3⟩:=hp
   cases e with
   |exit j=>
    obtain⟨rfl,h3⟩:=h3
    simp only[Exit.inBlock]
    split at h
    ·rename_i hid
     rw[if_pos hid]
     simp only[Option.some.injEq]at h; subst h
     exact⟨E',h1,h2,h3⟩
    ·rename_i hid
     rw[if_neg hid]
     simp only[Option.some.injEq]at h; subst h
     exact⟨E',h1,h2,rfl,h3⟩
   |_=>exact h3.elim
  ·rename_i dY
   refine wpIn_mono (hC b s o h rd B r1 E a w hs) fun e a' w' hp=>?_
   obtain⟨E',h1,h2,h3⟩:=hp
   cases e with
   |exit j=>
    cases o with
    |exit i s'=>exact absurd h (dY i s')
    |_=>exact h3.elim
   |_=>exact⟨E',h1,h2,h3⟩
 |loop b=>
  simp only[cw]at h
  have r1:(rd=none∧B.rg=true)∨ct b=true:=PJ.imp (fun h=>h) fun h=>by simpa only[ct] using h
  refine BL QA Tp ?_
  split at h
  ·rename_i s' hx
   refine wpIn_mono (hC b s _ hx rd B r1 E a w hs) fun e a' w' hp=>?_
   obtain⟨E',h1,h2,h3⟩:=hp
   cases e with
   |normal=>
    have R3:dr B E' s' a' w':=h3
    have:∃ E2,Ext E E2∧Fr E w E2 w'∧dr B E2 (iK s.hp.length s') a' w':=by
     unfold iK
     split
     ·rename_i bK
      have hle:s.hp.length≤s'.hp.length:=by rw[hs.inv.len,R3.inv.len]; exact h1.L
      obtain⟨a1,a2,a3⟩:=vG R3.inv hle bK
      exact⟨E'.lower s.hp.length,⟨h1.m,fun n hn ax l h=>h1.ρ n hn ax l h,by simp[Env.lower,hs.inv.len]⟩,h2.trans a2,tW a3 R3.fr,a1,R3.df.mono a2,R3.bs⟩
     ·exact⟨E',h1,h2,R3⟩
    obtain⟨E2,b1,b2,b3⟩:=this
    exact wpIn_mono (hC (.loop b) _ o h rd B PJ E2 a' w' b3) fun e ZB zE hp=>bG.from b1 b2 hp
   |_=>exact h3.elim
  ·rename_i dY
   refine wpIn_mono (hC b s o h rd B r1 E a w hs) fun e a' w' hp=>?_
   obtain⟨E',h1,h2,h3⟩:=hp
   cases e with
   |normal=>
    cases o with
    |norm s'=>exact absurd h (dY s')
    |_=>exact h3.elim
   |_=>exact⟨E',h1,h2,h3⟩
 |region id ops draw=>
  have hr:=yb hO hE id ops draw s o h rd B E a w hs
  cases draw with
  |false=>exact wpIn_region (hr.1 rfl)
  |true=>exact wpIn_region_draw fun t=>hr.2 rfl t
 |rangeFunc f ps as bd=>
  rcases PJ with ⟨rfl,WS⟩|PJ
  ·exact M7 ck hF WS hs h
  ·simp[ct]at PJ
 |scope b=>
  simp only[cw]at h
  split at h
  ·rename_i c hc
   exact Na HY hs hc h
  ·simp at h
 |goto _=>simp[cw]at h
 |refuse _=>simp[cw]at h
theorem HZ{F:Fence}{n:Nat}{P:Program}{o:Oper}{a:Act}{w:World}{K N:Act→World→Prop}{Q:Exit→Act→World→Prop}(h:o.wpIn F n P a w K (Exit.then N Q)):o.wpIn F n P a w K Q:=by
 unfold Oper.wpIn at *
 refine⟨h.1,?_⟩
 have h2:=h.2
 generalize (o.semAt F.round a.eval).run P w=r at *
 cases r with
 |ok x w'=>cases x<;>exact h2
 |halt x w'=>cases x<;>exact h2
theorem ua{F:Fence}{n:Nat}{P:Program}{ops:Array Oper}{Q:Exit→Act→World→Prop}{l2:List Oper}:∀ (l1:List Oper) (a:Act) (w:World),wpListIn F n P ops (Exit.then (wpListIn F n P ops Q l2) Q) l1 a w→wpListIn F n P ops Q (l1++l2) a w
 |[],a,w,h=>h
 |o::l1,a,w,h=>by
  simp only[List.cons_append]
  unfold wpListIn at h ⊢
  split at h
  ·rename_i hw
   rw[if_pos hw]
   exact HZ (Oper.wpIn_mono (fun a w h=>ua l1 a w h) h)
  ·rename_i hw
   rw[if_neg hw]
   exact⟨h.1,ua l1 _ _ h.2⟩
theorem rO{F:Fence}{n:Nat}{P:Program}{ops:Array Oper}{Q Q':Exit→Act→World→Prop}(hq:∀ e a w,Q e a w→Q' e a w):∀ (l:List Oper) (a:Act) (w:World),wpListIn F n P ops Q l a w→wpListIn F n P ops Q' l a w
 |[],a,w,h=>hq _ _ _ h
 |o::l,a,w,h=>by
  unfold wpListIn at h ⊢
  split at h
  ·rename_i hw
   rw[if_pos hw]
   have h1:=Oper.wpIn_mono (fun a w h=>rO hq l a w h) h
   unfold Oper.wpIn at *
   refine⟨h1.1,?_⟩
   have h2:=h1.2
   generalize (o.semAt F.round a.eval).run P w=r at *
   cases r with
   |ok x w'=>
    cases x<;>simp only[Oper.uponIn]at h2 ⊢<;>first
     |exact h2
     |exact⟨h2.1,CallsIn.mono h2.2 (fun e zE he=>by cases e<;>first|exact he|exact hq _ _ _ he|exact(let ⟨a0,w0,h0⟩:=he; ⟨a0,w0,hq _ _ _ h0⟩))⟩
     |exact⟨h2.1,RoundIn.mono h2.2 (fun e zE he=>by cases e<;>first|exact he|exact hq _ _ _ he|exact(let ⟨a0,w0,h0⟩:=he; ⟨a0,w0,hq _ _ _ h0⟩))⟩
   |halt x w'=>cases x<;>simp only[Oper.uponIn]at h2 ⊢<;>first|exact h2|exact hq _ _ _ h2
  ·rename_i hw
   rw[if_neg hw]
   exact⟨h.1,rO hq l _ _ h.2⟩
theorem H2{c:Code}{ops:Array Oper}{v:Operand}(h:uZ c=some (ops,v)):∃ (id:Nat) (o:Oper) (rb:Array TypeId),c=.region id ops false∧ops.toList=ops.toList.dropLast++[o]∧o.op=.defer { callee:=.value v,args:=#[],argTypes:=rb }∧o.guard=none∧o.dst=none:=by
 unfold uZ at h
 split at h
 ·rename_i id aaD
  split at h
  ·rename_i o ho
   split at h
   ·rename_i cc G6 hg Tu
    split at h
    ·rename_i x PH oQ
     simp only[Option.some.injEq,Prod.mk.injEq]at h
     obtain⟨rfl,rfl⟩:=h
     obtain⟨c1,c2,c3⟩:=cc
     simp only at PH oQ
     subst PH
     obtain rfl:=Array.toList_eq_nil_iff.1 oQ
     refine⟨id,o,c3,rfl,?_,G6,hg,Tu⟩
     have dY:aaD.toList≠[]:=by intro e; rw[e]at ho; simp at ho
     rw[List.getLast?_eq_some_getLast dY,Option.some.injEq]at ho
     rw[←ho]
     exact(List.dropLast_concat_getLast dY).symm
    ·simp at h
   ·simp at h
  ·simp at h
 ·simp at h
def WT[ag](C:Ctx)(E:Env)(v:AV)(d:Deferred):Prop:=∃ f:Value,au E true v f∧∀ w,(Deferred.ofValue f #[]).run C.P w=.ok d w
def vH[ag](C:Ctx)(B:qS)(E:Env)(w:World)(o:Out):Option AV→Exit→Act→World→Prop
 |none,e,a',w'=>bG B E w o e a' w'
 |some v,e,a',w'=>∃ E1 E2 w1 d,Ext E E1∧Fr E w E1 w1∧WT C E1 v d∧Ext E1 E2∧Fr E1 w1 E2 w'∧MX { B with tl:=d::B.tl } E2 o e a' w'
theorem rP{E:Env}{fv:AV}{f:Value}{g:FuncId}{as:List AV}(hf:au E true fv f)(h:bU fv []=some (g,as)):∃ first cap,f=.func (.func g) first cap:=by
 cases fv with
 |lit u=>
  simp only[au]at hf
  subst hf
  unfold bU at h
  split at h
  ·rename_i hq
   simp only[AV.lit.injEq]at hq
   simp only[Option.some.injEq,Prod.mk.injEq]at h
   obtain⟨rfl,_⟩:=h
   exact⟨_,_,hq⟩
  ·rename_i hq; cases hq
  ·simp at h
 |jP fn first cap=>
  unfold bU at h
  split at h
  ·rename_i hq; cases hq
  ·rename_i hq
   simp only[AV.jP.injEq]at hq
   obtain⟨rfl,rfl,rfl⟩:=hq
   simp only[Option.some.injEq,Prod.mk.injEq]at h
   obtain⟨rfl,_⟩:=h
   simp only[au]at hf
   obtain⟨vs,ws,rfl,_⟩:=hf
   exact⟨_,_,rfl⟩
  ·simp at h
 |_=>simp[bU]at h
theorem vH.from[ag]{C:Ctx}{B:qS}{E E1:Env}{w w1:World}{o:Out}{d:Option AV}{e:Exit}{a:Act}{w':World}(hx:Ext E E1)(hf:Fr E w E1 w1)(h:vH C B E1 w1 o d e a w'):vH C B E w o d e a w':=by
 cases d with
 |none=>exact bG.from hx hf h
 |some v=>
  obtain⟨E2,E3,w2,d,h1,h2,h3⟩:=h
  exact⟨E2,E3,w2,d,hx.trans h1,hf.trans h2,h3⟩
theorem H3[ag]{C:Ctx}{k:Nat}(hC:gz C k)(hO:nr C.P (fun o s=>iM C k o s)):∀ (c:Code) (s:St) (o:Out) (d:Option AV),ct c=true→B1 (fun c s=>cw C k c s) (fun o s=>iM C k o s) c s=some (o,d) →
  ∀ (B:qS) (E:Env) (a:Act) (w:World),B.rg=false→dr B E s a w→c.wpIn (WF none) 0 C.P (vH C B E w o d) a w:=by
 have leaf:∀ c s o d,ct c=true→((cw C k c s).map fun o=>(o,(none:Option AV)))=some (o,d)→∀ (B:qS) (E:Env) (a:Act) (w:World),B.rg=false→dr B E s a w→c.wpIn (WF none) 0 C.P (vH C B E w o d) a w:=by
  intro c s o d hn h B E a w WJ hs
  cases hq:cw C k c s with
  |none=>rw[hq]at h; simp at h
  |some o1=>
   rw[hq]at h
   simp only[Option.map_some,Option.some.injEq,Prod.mk.injEq]at h
   obtain⟨rfl,rfl⟩:=h
   exact hC c s o1 hq none B (.inr hn) E a w hs
 intro c
 induction c with
 |seq x y _ Mh=>
  intro s o d hn h B E a w WJ hs
  simp only[ct,Bool.and_eq_true]at hn
  simp only[B1]at h
  refine wpIn_seq ?_
  cases hd:uZ x with
  |some q=>
   obtain⟨ops,v⟩:=q
   rw[hd]at h
   simp only at h
   obtain⟨id,o0,rb,rfl,aaE,G6,hg,Tu⟩:=H2 hd
   split at h
   case h_2=>simp at h
   rename_i s1 hr
   split at h
   case h_2=>simp at h
   rename_i q dL
   obtain⟨g,as⟩:=q
   cases hq:cw C k y s1 with
   |none=>rw[hq]at h; simp at h
   |some o1=>
    rw[hq]at h
    simp only[Option.map_some,Option.some.injEq,Prod.mk.injEq]at h
    obtain⟨rfl,rfl⟩:=h
    refine wpIn_region_list ?_
    rw[aaE]
    refine ua _ _ _ (rO ?_ _ _ _ (sI hO (fun o s r h=>pO h) none B _ _ _ hr E E a w w (Ext.refl E) (Fr.refl E w) hs))
    intro e a1 w1 hp
    obtain⟨E1,PH,yP,KJ⟩:=hp
    cases e with
    |normal=>
     have qK:dr B E1 s1 a1 w1:=KJ
     have hv:=ka qK.inv.kE qK.fr v
     obtain⟨first,cap,HW⟩:=rP hv dL
     have bz:∀ w,(Deferred.ofValue (a1.eval v) #[]).run C.P w=.ok { target:=.fn (.func g) cap,args:=first++#[] } w:=by
      intro w; rw[HW]; rfl
     show wpListIn (WF none) 0 C.P ops _ [o0] a1 w1
     unfold wpListIn
     rw[if_pos (by unfold Region.wanted; rw[hg])]
     refine⟨fun _ _=>trivial,?_⟩
     have To:(o0.semAt (WF none).round a1.eval).run C.P w1=.ok (.defer { target:=.fn (.func g) cap,args:=first++#[] }) w1:=by
      show (execOp a1.eval o0).run C.P w1=_
      unfold execOp
      rw[G6]
      simp only[resolve,Sem.run_bind]
      rw[show (Array.map a1.eval #[]:Array Value)=#[] by simp,bz]
      rfl
     rw[To,Oper.uponIn_defer,Tu]
     have Dt:dr { B with tl:={ target:=.fn (.func g) cap,args:=first++#[] }::B.tl } E1 s1 { a1 with defers:={ target:=.fn (.func g) cap,args:=first++#[] }::a1.defers } w1:=by
      refine⟨qK.fr,qK.inv,?_,qK.bs⟩
      obtain⟨rs,e1,e2,e3,e4⟩:=qK.df
      have:=e3 WJ
      subst this
      exact⟨[],by simp only[List.map_nil,List.nil_append]at e1 ⊢; rw[e1],List.nodup_nil,fun _=>rfl,by simp⟩
     refine wpIn_mono (hC y s1 o1 hq none _ (.inr hn.2) E1 _ w1 Dt) fun e a2 w2 hp=>?_
     obtain⟨E2,oQ,nt,wT⟩:=hp
     exact⟨E1,E2,w1,_,PH,yP,⟨_,hv,bz⟩,oQ,nt,wT⟩
    |_=>exact KJ.elim
  |none=>
   rw[hd]at h
   simp only at h
   split at h
   ·rename_i s' hx
    refine wpIn_mono (hC x s _ hx none B (.inr hn.1) E a w hs) fun e a' w' hp=>?_
    obtain⟨E',h1,h2,h3⟩:=hp
    cases e with
    |normal=>exact wpIn_mono (Mh s' o d hn.2 h B E' a' w' WJ h3) fun e ZB zE hp=>vH.from h1 h2 hp
    |_=>exact h3.elim
   ·rename_i o1 dY hx
    simp only[Option.some.injEq,Prod.mk.injEq]at h
    obtain⟨rfl,rfl⟩:=h
    refine wpIn_mono (hC x s o1 hx none B (.inr hn.1) E a w hs) fun e a' w' hp=>?_
    obtain⟨E',h1,h2,h3⟩:=hp
    cases e with
    |normal=>
     cases o1 with
     |norm s'=>exact(dY s' rfl).elim
     |_=>exact h3.elim
    |_=>exact⟨E',h1,h2,h3⟩
   ·simp at h
 |_=>intro s o d hn h; simp only[B1]at h; exact leaf _ s o d hn h
theorem nu{F:Fence}{n:Nat}{P:Program}{ops:Array Oper}{Q Q':Exit→Act→World→Prop}(hq:∀ e a w,Q e a w→Q' e a w):∀ (l:List Nat) (a:Act) (w:World),wpOpsIn F n P ops Q l a w→wpOpsIn F n P ops Q' l a w
 |[],a,w,h=>hq _ _ _ h
 |i::l,a,w,h=>by
  unfold wpOpsIn at h ⊢
  split at h
  ·exact nu hq l a w h
  rename_i o ho
  split at h
  ·rename_i hw
   simp only[if_pos hw]
   have h1:=Oper.wpIn_mono (fun a w h=>nu hq l a w h) h
   unfold Oper.wpIn at *
   refine⟨h1.1,?_⟩
   have h2:=h1.2
   generalize (o.semAt F.round a.eval).run P w=r at *
   cases r with
   |ok x w'=>
    cases x<;>simp only[Oper.uponIn]at h2 ⊢<;>first
     |exact h2
     |exact⟨h2.1,CallsIn.mono h2.2 (fun e zE he=>by cases e<;>first|exact he|exact hq _ _ _ he|exact(let ⟨a0,w0,h0⟩:=he; ⟨a0,w0,hq _ _ _ h0⟩))⟩
     |exact⟨h2.1,RoundIn.mono h2.2 (fun e zE he=>by cases e<;>first|exact he|exact hq _ _ _ he|exact(let ⟨a0,w0,h0⟩:=he; ⟨a0,w0,hq _ _ _ h0⟩))⟩
   |halt x w'=>cases x<;>simp only[Oper.uponIn]at h2 ⊢<;>first|exact h2|exact hq _ _ _ h2
  ·rename_i hw
   simp only[if_neg hw]
   exact⟨h.1,nu hq l _ _ h.2⟩
theorem Fs(ops:Array Oper)(i:Nat)(f:Array Edge→Bool):(((ops.map eJ)[i]?).map fun o=>f o.after)=(ops[i]?).map fun o=>f o.after:=by
 rw[Array.getElem?_map]
 cases ops[i]? with
 |none=>rfl
 |some o=>simp only[Option.map_some,(nd o).2.2]
theorem qL(md:Region.Mode)(ops:Array Oper)(t:Nat):Region.linearise md (ops.map eJ) t=Region.linearise md ops t:=by
 unfold Region.linearise
 rw[Array.size_map]
 generalize Array.replicate ops.size false=listed
 generalize ([]:List Nat)=acc
 generalize ops.size=fuel
 induction fuel generalizing t listed acc with
 |zero=>rfl
 |succ fuel ih=>
  have hr:((List.range (ops.map eJ).size).filter fun i=>!listed.getD i true&&(((ops.map eJ)[i]?).map (·.after.all fun e=>!Region.binds md e||listed.getD e.on false)).getD false) =
    ((List.range ops.size).filter fun i=>!listed.getD i true&&((ops[i]?).map (·.after.all fun e=>!Region.binds md e||listed.getD e.on false)).getD false):=by
   rw[Array.size_map]
   congr 1
   funext i
   rw[Fs ops i (fun a=>a.all fun e=>!Region.binds md e||listed.getD e.on false)]
  simp only[Region.linearise.go]
  rw[hr]
  split
  ·exact ih _ _ _
  ·rfl
theorem Au(m:Bool)(ops:Array Oper)(t:Nat):Region.schedule m (ops.map eJ) t=Region.schedule m ops t:=by
 unfold Region.schedule
 have hd:Region.departs (ops.map eJ)=Region.departs ops:=by
  unfold Region.departs
  rw[Array.any_map]
  congr 1
  funext o
  simp only[Function.comp,(nd o).2.2]
 rw[hd,qL,qL]
theorem KM[ag]{C:Ctx}{k:Nat}(hC:∀ j,j≤k→gz C j)(hR:∀ j,j≤k→Ar C j){c:Code}(hn:ct c=true){s:St}{o:Out}(h:cw C k (p9 c) s=some o){B:qS}{E:Env}{a:Act}{w:World}(hs:dr B E s a w):
  Kj (WF none) 0 C.P c (bG B E w o) a w:=by
 by_cases hc:∃ id ops d y,c=.seq (.region id ops d) y
 ·obtain⟨id,ops,d,y,rfl⟩:=hc
  have Qr:ct y=true:=by simp only[ct,Bool.and_eq_true]at hn; exact hn.2
  cases k with
  |zero=>simp[cw]at h
  |succ k=>
   have KH:(ops.toList.map eJ).toArray=ops.map eJ:=by rw[←Array.toList_map]
   simp only[p9,cw,KH]at h
   refine PW ?_
   have go:∀ o1,cw C k (.region id (ops.map eJ) d) s=some o1→(∀ e a' w',bG B E w o1 e a' w'→(match e with|.normal=>Kj (WF none) 0 C.P y (bG B E w o) a' w'|e=>bG B E w o e a' w')) →
     Kj (WF none) 0 C.P (.region id ops d) (fun e a w2=>match e with|.normal=>Kj (WF none) 0 C.P y (bG B E w o) a w2|e=>bG B E w o e a w2) a w:=by
    intro o1 h1 hq
    have hr:=hR k (Nat.le_succ k) _ _ _ _ _ h1 none B E a w hs
    cases d with
    |false=>
     refine Hn ?_
     have:=nu hq _ _ _ (hr.1 rfl)
     rw[Array.size_map]at this
     exact this
    |true=>
     refine LX fun t=>?_
     have:=nu hq _ _ _ (hr.2 rfl t)
     rw[Au]at this
     exact this
   split at h
   ·rename_i s' hx
    refine go _ hx fun e a' w' hp=>?_
    obtain⟨E',h1,h2,h3⟩:=hp
    cases e with
    |normal=>exact LW (wpIn_mono (hC k (Nat.le_succ k) y s' o h none B (.inr Qr) E' a' w' h3) fun e ZB zE hp=>bG.from h1 h2 hp)
    |_=>exact h3.elim
   ·rename_i dY
    refine go _ h fun e a' w' hp=>?_
    obtain⟨E',h1,h2,h3⟩:=hp
    cases e with
    |normal=>
     cases o with
     |norm s'=>exact absurd h (dY s')
     |_=>exact h3.elim
    |_=>exact⟨E',h1,h2,h3⟩
 ·have he:p9 c=c:=by
   unfold p9
   split
   ·exact absurd ⟨_,_,_,_,rfl⟩ hc
   ·rfl
  rw[he]at h
  exact LW (hC k (Nat.le_refl k) c s o h none B (.inr hn) E a w hs)
theorem Nb{F:Fence}{n:Nat}{P:Program}{c:Code}{Q Q':Exit→Act→World→Prop}{a:Act}{w:World}(h:Kj F n P c Q a w)(hq:∀ e a w,Q e a w→Q' e a w):Kj F n P c Q' a w:=
 fun b k cs h1 h2 h3 h4 h5 h6=>let ⟨e,a',w',q,r⟩:=h b k cs h1 h2 h3 h4 h5 h6; ⟨e,a',w',hq _ _ _ q,r⟩
theorem CA[ag]{E:Env}{w:World}{hp:ak}{args:List AV}{vs:List Value}(g:FuncId)(n:Nat)(m:Bool)(hI:Inv E hp w)(ha:aw E true args vs):
  dr ⟨w.heap.size,[],m⟩ E ⟨g,args++List.replicate (n-args.length) .undef,hp⟩ { tmps:=vs.toArray++Array.replicate (n-vs.toArray.size) undef,defers:=[] } w:=by
 have hlen:=ha.length
 refine⟨?_,hI,Marks.nil,Nat.le_refl _⟩
 simp only[Array.toList_append,Array.toList_replicate,List.size_toArray,←hlen]
 refine ha.append ?_
 have:=aw.lits (E:=E) (o:=true) (List.replicate (n-args.length) undef)
 simpa using this
theorem KN{n:Nat}{E:Env}{w:World}{ds:List Deferred}(h:Marks ⟨n,[],false⟩ E w ds):ds=[]:=by
 obtain⟨rs,h1,_,h3,_⟩:=h
 have:=h3 rfl
 subst this
 simpa using h1
theorem H4[ag]{C:Ctx}(ck:C.Ok){k:Nat}(HY:∀ j,j≤k→gz C j)(hRs:∀ j,j≤k→Ar C j)(hO:nr C.P (fun o s=>iM C k o s)){f:FuncId}{args:List AV}{hp:ak}{res:p6}{cW:ak}{fn:Func}{c:Code}
  (tc:C.P.funcs[f]?=some fn) (hc:fn.body=some c) {E:Env} {w:World} {vs:List Value} (hI:Inv E hp w) (ha:aw E true args vs)
  (h:wv (fun c s=>cw C k c s) (fun o s=>iM C k o s) C.P fn.results.toList c ⟨f,args++List.replicate (fn.ntmps-args.length) .undef,hp⟩=some (res,cW)):Calls C.P f vs.toArray w (bD E w cW res):=by
 have hs:=CA f fn.ntmps false hI ha
 have fin:∀ (s':St) (Bz:ak) E1 (a1:Act) w1,Ext E E1→Fr E w E1 w1→aw E1 true s'.fr a1.tmps.toList→Inv E1 Bz w1→Hm C.P fn.results.toList s'.fr Bz=some (res,cW)→LeavesIn Fence.wide 0 C.P fn a1.tmps (bD E w cW res) [] .returning w1:=by
  intro s' Bz E1 a1 w1 hx hf gi PC hr
  unfold Hm at hr
  split at hr
  case h_2=>simp at hr
  rename_i l hl
  simp only[Option.some.injEq,Prod.mk.injEq]at hr
  obtain⟨rfl,rfl⟩:=hr
  obtain⟨v,h1,h2⟩:=tV PC gi hl
  exact⟨v,h1,E1,hx,PC,hf,h2⟩
 have leave:∀ (s':St) (d:Option AV) (e:Exit) a' w',vH C ⟨w.heap.size,[],false⟩ E w (.norm s') d .normal a' w'→wu (fun c s=>cw C k c s) C.P fn.results.toList s'.fr s'.hp d=some (res,cW) →
   LeavesInM Fence.wide 0 C.P fn a'.tmps (bD E w cW res) a'.defers .returning w':=by
  intro s' d e a' w' Bz hd
  cases d with
  |none=>
   obtain⟨E',hx,hf,ho⟩:=Bz
   have ho:dr ⟨w.heap.size,[],false⟩ E' s' a' w':=ho
   exact kb rfl ho.inv ho.df hf (by simp) fun w2 wS nt=>fin s' s'.hp E' a' w2 hx nt ho.fr wS hd
  |some v=>
   obtain⟨E1,E2,w1,dd,PH,yP,⟨fv,vm,bz⟩,oQ,nt,ho⟩:=Bz
   have ho:dr ⟨w.heap.size,[dd],false⟩ E2 s' a' w':=ho
   refine kb (B:=⟨w.heap.size,[dd],false⟩) rfl ho.inv ho.df (yP.trans nt) (by simp) fun w2 wS hfw=>?_
   simp only[wu]at hd
   split at hd
   ·simp at hd
   rename_i g as dL
   split at hd
   ·simp at hd
   rename_i fg P9
   split at hd
   ·simp at hd
   rename_i cg Qa
   obtain⟨first,cap,HW⟩:=rP vm dL
   have hdd:dd={ target:=.fn (.func g) cap,args:=first++#[] }:=by
    have h1:=bz w2
    rw[HW]at h1
    have h2:(Deferred.ofValue (.func (.func g) first cap) #[]).run C.P w2=.ok { target:=.fn (.func g) cap,args:=first++#[] } w2:=rfl
    rw[h2]at h1
    cases h1
    rfl
   obtain⟨vs',aaG,hinv⟩:=gR (P:=C.P) (w:=w2) (vm.mono oQ) (args:=[]) (vs:=[]) trivial dL ⟨fg,P9,by rw[Qa]; rfl,ck.name g fg P9 (by rw[Qa]; rfl)⟩
   rw[Sem.run_bind]at hinv
   have Hv:=bz w2
   rw[show ([]:List Value).toArray=#[] from rfl,Hv]at hinv
   have WU:(invoke dd.target dd.args).run C.P w2=.ok (.enter g vs'.toArray) w2:=hinv
   have body:∀ (o:Out) (s2:St) (l2:List AV),(o=.norm s2∨o=.ret s2)→ct cg=true→cw C k (p9 cg) ⟨g,as++List.replicate (fg.ntmps-as.length) .undef,s'.hp⟩=some o→(bh C.P s2.fr fg.results.toList).run s2.hp=some l2→Hm C.P fn.results.toList s'.fr s2.hp=some (res,cW) →
     LeavesInM Fence.wide 0 C.P fn a'.tmps (bD E w cW res) [dd] .returning w2:=by
    intro o s2 l2 wT Nc cm rq zD
    have Dt:=CA g fg.ntmps false wS aaG
    refine⟨by simp,.inr ⟨fun h=>(by cases h),.func g,cap,g,vs'.toArray,by rw[hdd],WU,fun _ _=>trivial,?_⟩⟩
    refine CallsDIn.mono (BD (F:=Fence.wide) (n:=0) P9 Qa trivial (R:=fun e w'=>match e with|.returned _=>LeavesIn Fence.wide 0 C.P fn a'.tmps (bD E w cW res) [] .returning w'|_=>False) (Nb (KM HY hRs Nc cm Dt) ?_)) ?_
    ·intro e a3 w3 hp3
     obtain⟨E3,V6,R9,ZC⟩:=hp3
     have last:dr ⟨w2.heap.size,[],false⟩ E3 s2 a3 w3→a3.defers=[]∧∃ v,(results fg a3.tmps).run C.P w3=.ok v w3∧LeavesIn Fence.wide 0 C.P fn a'.tmps (bD E w cW res) [] .returning w3:=by
      intro ZD
      obtain⟨v3,h1,h2⟩:=tV ZD.inv ZD.fr rq
      exact⟨KN ZD.df,v3,h1,fin s' s2.hp E3 a' w3 ((PH.trans oQ).trans V6) (hfw.trans R9) (ho.fr.mono V6) ZD.inv zD⟩
     rcases wT with rfl|rfl
     ·cases e with
      |normal=>exact last ZC
      |_=>exact ZC.elim
     ·cases e with
      |ret=>exact last ZC
      |_=>exact ZC.elim
    ·intro e u' w3 hh
     obtain⟨rfl,hh⟩:=hh
     cases e with
     |returned v=>exact hh
     |_=>exact hh.elim
   split at hd
   ·rename_i s2 Nc cm
    split at hd
    ·rename_i l2 rq; exact body _ s2 l2 (.inl rfl) Nc cm rq hd
    ·simp at hd
   ·rename_i s2 Nc cm
    split at hd
    ·rename_i l2 rq; exact body _ s2 l2 (.inr rfl) Nc cm rq hd
    ·simp at hd
   ·simp at hd
 have toN:∀ (s':St) (d:Option AV) (o:Out) (e:Exit) a' w',(o=.norm s'∧e=.normal)∨(o=.ret s'∧e=.ret)→vH C ⟨w.heap.size,[],false⟩ E w o d e a' w'→vH C ⟨w.heap.size,[],false⟩ E w (.norm s') d .normal a' w':=by
  rintro s' d o e a' w' (⟨rfl,rfl⟩|⟨rfl,rfl⟩) Bz
  ·exact Bz
  ·cases d with
   |none=>exact Bz
   |some v=>exact Bz
 unfold wv at h
 split at h
 ·rename_i s' d hn cm
  refine callsIn_wide.1 (callsIn_of_wp_marks (F:=Fence.wide) (n:=0) tc hc trivial (wpIn_mono (H3 (HY k (Nat.le_refl k)) hO c _ _ d hn cm _ E _ w rfl hs) fun e a' w' eL=>?_))
  cases e with
  |normal=>exact leave s' d .normal a' w' eL h
  |_=>cases d<;>first|exact(let ⟨_,_,_,ho⟩:=eL; ho.elim)|exact(let ⟨_,_,_,_,_,_,_,_,_,ho⟩:=eL; ho.elim)
 ·rename_i s' d hn cm
  refine callsIn_wide.1 (callsIn_of_wp_marks (F:=Fence.wide) (n:=0) tc hc trivial (wpIn_mono (H3 (HY k (Nat.le_refl k)) hO c _ _ d hn cm _ E _ w rfl hs) fun e a' w' eL=>?_))
  cases e with
  |ret=>exact leave s' d .normal a' w' (toN s' d _ _ a' w' (.inr ⟨rfl,rfl⟩) eL) h
  |_=>cases d<;>first|exact(let ⟨_,_,_,ho⟩:=eL; ho.elim)|exact(let ⟨_,_,_,_,_,_,_,_,_,ho⟩:=eL; ho.elim)
 ·rename_i v s' hn cm
  simp only[Option.some.injEq,Prod.mk.injEq]at h
  obtain⟨rfl,rfl⟩:=h
  refine callsIn_wide.1 (callsIn_of_wp_marks (F:=Fence.wide) (n:=0) tc hc trivial (wpIn_mono (H3 (HY k (Nat.le_refl k)) hO c _ _ none hn cm _ E _ w rfl hs) fun e a' w' eL=>?_))
  obtain⟨E',hx,hf,ho⟩:=eL
  cases e with
  |panic ch=>
   obtain⟨u,h1,h2,h3,h4⟩:=ho
   exact kb rfl h3 h4 hf (by simp) fun w2 wS nt=>⟨E',hx,wS,nt,u,h1,h2⟩
  |_=>exact ho.elim
 ·simp at h
theorem Ft[ag]{C:Ctx}(ck:C.Ok){k:Nat}(HY:∀ j,j≤k→gz C j)(hRs:∀ j,j≤k→Ar C j)(hO:nr C.P (fun o s=>iM C k o s)):oS C (k+1):=by
 intro f args hp res cW h E w vs hI ha
 simp only[o9]at h
 split at h
 ·simp at h
 rename_i fn tc
 split at h
 ·simp at h
 rename_i c hc
 split at h
 ·exact H4 ck HY hRs hO tc hc hI ha h
 ·exact DJ (HY k (Nat.le_refl k)) tc hc hI ha h
theorem Nd[ag]{C:Ctx}(ck:C.Ok)(Zz:∀ g,C.kind g=.imp→M6 C.P):∀ k,oS C k∧gz C k∧nr C.P (fun o s=>iM C k o s)∧wU C k∧tU C.P (fun nm o fr=>kD C k nm o fr):=by
 suffices key:∀ k,(oS C k∧gz C k∧nr C.P (fun o s=>iM C k o s)∧wU C k∧tU C.P (fun nm o fr=>kD C k nm o fr))∧∀ j,j≤k→gz C j∧Ar C j from fun k=>(key k).1
 intro k
 induction k with
 |zero=>
  refine⟨?_,fun j hj=>by obtain rfl:j=0:=by omega
                         exact⟨fun _ _ _ h=>by simp[cw]at h,fun _ _ _ _ _ h=>by simp[cw]at h⟩⟩
  refine⟨fun _ _ _ _ _ h=>by simp[o9]at h,fun _ _ _ h=>by simp[cw]at h,fun _ _ _ h=>by simp[iM]at h,fun _ _ _ _ _ h=>by simp[pd,RM.aj]at h,?_⟩
  intro rd x B E s a w e K Q _ _ h
  simp[kD,RM.aj]at h
 |succ k ih=>
  obtain⟨⟨hF,hC,hO,hP,hE⟩,HY⟩:=ih
  have hC1:=Fq ck hF (fun j hj=>(HY j hj).1) hO hE
  refine⟨⟨Ft ck (fun j hj=>(HY j hj).1) (fun j hj=>(HY j hj).2) hO,hC1,Fl ck hF hP hC,Fg ck hF,Fm ck Zz hF hP⟩,fun j hj=>?_⟩
  rcases Nat.lt_or_ge j (k+1) with h|h
  ·exact HY j (by omega)
  ·obtain rfl:j=k+1:=by omega
   exact⟨hC1,yb hO hE⟩
def Fu(P:Program):Ctx:={ P:=P,kind:=fun _=>.pure,kT:=fun _=>none,acc:=fun _ _=>false }
theorem WV[ag]{C:Ctx}(ck:C.Ok):M6 C.P:=by
 have ok0:(Fu C.P).Ok:=⟨ck.name,fun g h as r e=>(by cases e),fun g h as r eV e=>(by cases e),fun g h e=>(by cases e),fun g h as hp e h1=>(by cases h1),fun g h e=>(by cases e)⟩
 intro g args hp e h E w vs hI qR
 obtain⟨e0,hb,ov,nw,hw,ho,k,hk⟩:=QG (C:=Fu C.P) rfl (fun _ _=>rfl) (fun _ _=>rfl) (fun _ _=>rfl) h
 exact⟨e0,((Nd ok0 (fun g h=>by cases h) k).1 g args hp _ _ hk E w vs hI qR).mono fun en w' hp=>KO hI hw ho hb hp⟩
theorem sound[ag]{C:Ctx}(ck:C.Ok):∀ k,oS C k∧gz C k∧nr C.P (fun o s=>iM C k o s)∧wU C k∧tU C.P (fun nm o fr=>kD C k nm o fr):=
 Nd ck fun _ _=>WV ck
end Go.PI
end
section
/- PI, the laws: arguments that read as data, as abstract values. -/
namespace Go.PI
open Go.ChangeShapes Go.WideShapes
def Env.all(w:World):Env where
 ρ:=fun _ _=>none
 m:=fun b=>match w.heap[b]? with|some (.cells c _ _)=>some c|_=>none
 L:=0
 own:=fun _=>False
theorem P6[ag](w:World)(hg:me (Env.all w)):Inv (Env.all w) [] w where
 len:=rfl
 objs:=by intro n o h; simp at h
 free:=by intro n ax h; simp at h
 inj:=by rintro n n' b ⟨o,l,h,_⟩; simp at h
 mem:=by
  grind[Env.all]
 qa:=by intro b h; exact h.elim
 kE:=hg
def Shape(P:Program):Nat→TypeId→List AV→Prop
 |0,_,_=>False
 |k+1,t,l=>
  match P.underlying t with
  |some .bool=>∃ b,l=[.lit (.bool b)]
  |some (.int i)=>∃ n,l=[.lit (.int i n)]∧(Lit.int i n).wf=true
  |some .string=>∃ s:ByteArray,l=[.lit (.string s)]∧s.size≤maxLen
  |some (.slice e)=>∃ xs,l=[.sl xs]∧xs.length≤maxLen∧∀ x∈xs,∃ cl,(match P.underlying e with
    |some d=>if fK d then x=.agg cl else cl=[x]
    |none=>False)∧Shape P k e cl
  |some (.struct fs)=>l.length=P.cellsOf t∧∀ f∈fs.toList,Shape P k f.type ((l.drop f.offset).take (P.cellsOf f.type))
  |some (.array n e)=>l.length=P.cellsOf t∧∀ i,i<n→Shape P k e ((l.drop (i*P.cellsOf e)).take (P.cellsOf e))
  |_=>False
def xN(P:Program):Nat→List Field→Option Nat
 |o,[]=>some o
 |o,f::r=>if f.offset=o then xN P (o+P.cellsOf f.type) r else none
def zN(P:Program):Nat→TypeId→Bool
 |0,_=>false
 |k+1,t=>
  match P.underlying t with
  |some .bool|some (.int _)|some .string=>decide (P.cellsOf t=1)
  |some (.slice e)=>decide (P.cellsOf t=1)&&decide (0<P.cellsOf e)&&zN P k e
  |some (.struct fs)=>decide (xN P 0 fs.toList=some (P.cellsOf t))&&fs.toList.all fun f=>zN P k f.type
  |some (.array n e)=>decide (n*P.cellsOf e=P.cellsOf t)&&zN P k e
  |_=>false
theorem mapM_some{α β:Type}{f:α→Option β}:∀ {l:List α} {r:List β},l.mapM f=some r→r.length=l.length∧∀ (i:Nat) (x:α),l[i]?=some x→∃ y,r[i]?=some y∧f x=some y
 |[],r,h=>by
  simp_all
 |a::l,r,h=>by
  simp only[List.mapM_cons,Option.pure_def,Option.bind_eq_bind]at h
  cases hq:f a with
  |none=>rw[hq]at h; simp at h
  |some b=>
   rw[hq]at h
   simp only[Option.bind_some]at h
   cases e9:l.mapM f with
   |none=>rw[e9]at h; simp at h
   |some bs=>
    rw[e9]at h
    simp only[Option.bind_some,Option.some.injEq]at h
    subst h
    obtain⟨h1,h2⟩:=mapM_some e9
    refine⟨by simp[h1],fun i x hx=>?_⟩
    cases i with
    |zero=>simp_all
    |succ i=>simp_all
theorem aO.append{E:Env}{o:Bool}{l l':List AV}{c c':List Value}(h:aO E o l c)(h':aO E o l' c'):aO E o (l++l') (c++c'):=
 aO.of (h.I8.append h'.I8) fun v hv=>by
  rcases List.mem_append.1 hv with h1|h1
  ·exact h.leaf v h1
  ·exact h'.leaf v h1
theorem Kn[ag]{w:World}{base:Nat}{a:Addr}{n:Nat}{l:List Value}(h:w.cells? base a n=some l):l.length=n∧∀ q v,l[q]?=some v→w.cell? (a.add q)=some v:=by
 unfold World.cells? at h
 split at h
 case isFalse=>simp at h
 obtain⟨h1,h2⟩:=mapM_some h
 simp only[List.length_range]at h1
 refine⟨h1,fun q v hq=>?_⟩
 have cG:=aW hq
 obtain⟨y,hy,hf⟩:=h2 q q (by rw[List.getElem?_range (by omega)])
 rw[hq]at hy
 cases hy
 exact hf
theorem Cb{P:Program}:∀ (fs:List Field) (o n:Nat),xN P o fs=some n→o≤n
 |[],o,n,h=>by simp only[xN,Option.some.injEq]at h; omega
 |f::r,o,n,h=>by
  simp only[xN]at h
  split at h
  case isFalse=>simp at h
  have:=Cb r _ n h; omega
theorem EM[ag]{E:Env}{P:Program}{S:Field→List AV→Prop}:∀ (fs:List Field) (o n:Nat) (cs:List Value),xN P o fs=some n→cs.length=n →
  (∀ f∈fs,∃ l,aO E false l ((cs.drop f.offset).take (P.cellsOf f.type))∧S f l) →
  ∃ l,aO E false l (cs.drop o)∧∀ f∈fs,o≤f.offset∧S f ((l.drop (f.offset-o)).take (P.cellsOf f.type))
 |[],o,n,cs,h,hl,_=>by
  simp only[xN,Option.some.injEq]at h
  refine⟨[],?_,by simp⟩
  rw[List.drop_eq_nil_of_le (by omega)]
  simp[aO]
 |f::r,o,n,cs,h,hl,hf=>by
  simp only[xN]at h
  split at h
  case isFalse=>simp at h
  rename_i ho
  have tN:=Cb r _ n h
  obtain⟨l1,h1,h2⟩:=hf f (by simp)
  obtain⟨l2,h3,h4⟩:=EM r (o+P.cellsOf f.type) n cs h hl (fun g hg=>hf g (by simp[hg]))
  have Ji:l1.length=P.cellsOf f.type:=by rw[h1.length]; simp; omega
  refine⟨l1++l2,?_,fun g hg=>?_⟩
  ·have:cs.drop o=(cs.drop f.offset).take (P.cellsOf f.type)++cs.drop (o+P.cellsOf f.type):=by
    rw[ho,←List.drop_drop,List.take_append_drop]
   rw[this]
   exact h1.append h3
  ·cases hg with
   |head=>
    simp_all
   |tail _ hg=>
    obtain⟨h5,h6⟩:=h4 g hg
    refine⟨by omega,?_⟩
    have:(l1++l2).drop (g.offset-o)=l2.drop (g.offset-(o+P.cellsOf f.type)):=by
     rw[List.drop_append,List.drop_eq_nil_of_le (by omega),List.nil_append,Ji]
     congr 1; omega
    rw[this]
    exact h6
theorem EN[ag]{E:Env}{size:Nat}{S:List AV→Prop}:∀ (n:Nat) (cs:List Value),cs.length=n*size →
  (∀ i,i<n→∃ l,aO E false l ((cs.drop (i*size)).take size)∧S l)→∃ l,aO E false l cs∧∀ i,i<n→S ((l.drop (i*size)).take size)
 |0,cs,h,_=>by
  have:cs=[]:=List.eq_nil_of_length_eq_zero (by simpa using h)
  subst this
  exact⟨[],by simp[aO],by simp⟩
 |n+1,cs,h,hf=>by
  rw[Nat.succ_mul]at h
  obtain⟨l1,h1,h2⟩:=hf 0 (by omega)
  simp only[Nat.zero_mul,List.drop_zero]at h1
  obtain⟨l2,h3,h4⟩:=EN (size:=size) (S:=S) n (cs.drop size) (by rw[List.length_drop,h]; omega) (fun i hi=>by
   obtain⟨l,ha,hb⟩:=hf (i+1) (by omega)
   refine⟨l,?_,hb⟩
   rw[List.drop_drop]
   have:size+i*size=(i+1)*size:=by rw[Nat.succ_mul]; omega
   rw[this]; exact ha)
  have Ji:l1.length=size:=by rw[h1.length]; simp; omega
  refine⟨l1++l2,?_,fun i hi=>?_⟩
  ·have:cs=cs.take size++cs.drop size:=(List.take_append_drop size cs).symm
   rw[this]
   exact h1.append h3
  ·cases i with
   |zero=>simp_all
   |succ i=>
    have e1:(i+1)*size=size+i*size:=by rw[Nat.succ_mul]; omega
    rw[e1,List.drop_append,List.drop_eq_nil_of_le (by omega),List.nil_append,Ji]
    have e2:size+i*size-size=i*size:=by omega
    rw[e2]
    exact h4 i (by omega)
theorem EO{P:Program}{k:Nat}{t:TypeId}{d:TypeDesc}(hu:P.underlying t=some d)(ck:zN P k t=true)(ha:fK d=false):P.cellsOf t=1:=by
 cases k with
 |zero=>simp[zN]at ck
 |succ k=>
  simp only[zN,hu]at ck
  cases d with
  |bool=>simpa using ck
  |int _=>simpa using ck
  |string=>simpa using ck
  |slice e=>simp only[Bool.and_eq_true,decide_eq_true_eq]at ck; exact ck.1.1
  |struct _=>simp[fK]at ha
  |array _ _=>simp[fK]at ha
  |_=>simp at ck
theorem P7[ag]{H:Type}{enc:TypeId×Value→H}{P:Program}{w:World}{base:Nat}{spare:Nat→Bool}{held:Bool}:∀ (fuel k:Nat) (t:TypeId) (cs:List Value) (r:DataW H×List MemPlace),
  zN P k t=true→DataW.trod enc P w base spare held fuel t cs=some r→∃ l,aO (Env.all w) false l cs∧Shape P k t l:=by
 intro fuel
 induction fuel with
 |zero=>intro k t cs r _ h; simp[DataW.trod]at h
 |succ fuel ih=>
  intro k t cs r ck h
  cases k with
  |zero=>simp[zN]at ck
  |succ k=>
   have afh:=ck
   simp only[zN]at ck
   cases hu:P.underlying t with
   |none=>rw[hu]at ck; simp at ck
   |some d=>
    rw[hu]at ck
    cases d with
    |bool=>
     obtain⟨b,rfl,_⟩:=DataW.trod_bool hu h
     exact⟨[.lit (.bool b)],by simp[aO,au,Value.oneCell'],by simp only[Shape,hu]; exact⟨b,rfl⟩⟩
    |int i=>
     obtain⟨n,rfl,_,hw⟩:=DataW.trod_int hu h
     exact⟨[.lit (.int i n)],by simp[aO,au,Value.oneCell'],by simp only[Shape,hu]; exact⟨n,rfl,hw⟩⟩
    |string=>
     obtain⟨s,rfl,_,hw⟩:=DataW.trod_string hu h
     exact⟨[.lit (.string s)],by simp[aO,au,Value.oneCell'],by simp only[Shape,hu]; exact⟨s,rfl,hw⟩⟩
    |slice e=>
     simp only[Bool.and_eq_true,decide_eq_true_eq]at ck
     obtain⟨⟨_,iV⟩,Ko⟩:=ck
     obtain⟨de,hue⟩:∃ de,P.underlying e=some de:=by
      cases k with
      |zero=>simp[zN]at Ko
      |succ k=>
       simp only[zN]at Ko
       cases hq:P.underlying e with
       |none=>rw[hq]at Ko; simp at Ko
       |some de=>exact⟨de,rfl⟩
     rcases DataW.trod_slice hu h with ⟨rfl,_⟩|⟨a,len,cap,elems,rest,n,hn,rfl,_,hb,Ha,Zl,vg,Me,_,_⟩
     ·refine⟨[.sl []],?_,?_⟩
      ·simp only[aO,au]
       exact⟨⟨none,0,rfl,by simp,fun _=>rfl,.inl trivial⟩,rfl,trivial⟩
      ·simp only[Shape,hu]; exact⟨[],rfl,by simp,by simp⟩
     ·have qQ:n=fuel:=by omega
      subst qQ
      have one:∀ i,i<len→∃ x:AV,∃ v cl,au (Env.all w) false x v∧v.cells.size=P.cellsOf e∧(∀ q u,v.cells.toList[q]?=some u→w.cell? ((a.add (i*P.cellsOf e)).add q)=some u) ∧
        (∀ u∈v.cells.toList,jy u=true)∧(if fK de then x=.agg cl else cl=[x])∧Shape P k e cl:=by
       intro i hi
       have h1:=Me i hi
       have h2:elems[i]?=some elems[i]:=by simp[vg,hi]
       rw[h2]at h1
       cases hc:w.cells? base (a.add (i*P.cellsOf e)) (P.cellsOf e) with
       |none=>rw[hc]at h1; simp at h1
       |some ce=>
        rw[hc]at h1
        simp only[Option.bind_some]at h1
        obtain⟨cl,h3,h4⟩:=ih k e ce _ Ko h1
        obtain⟨h5,h6⟩:=Kn hc
        cases sw:fK de with
        |true=>
         refine⟨.agg cl,.agg ce.toArray,cl,h3.toArray,by simp[Value.cells,h5],fun q u hq=>h6 q u (by simpa[Value.cells] using hq),?_,by simp,h4⟩
         intro u Kl
         exact h3.leaf u (by simpa[Value.cells] using Kl)
        |false=>
         have h7:=EO hue Ko sw
         rw[h7]at h5
         match ce,h5,h3 with
         |[v],_,h3=>
          match cl,h3 with
          |[x],h3=>
           simp only[aO]at h3
           have S4:=gN h3.2.1
           refine⟨x,v,[x],h3.1,by rw[S4,h7]; rfl,fun q u hq=>h6 q u (by rw[S4]at hq; simpa using hq),?_,by simp,h4⟩
           intro u Kl
           rw[S4]at Kl
           simp at Kl
           subst Kl
           exact h3.2.1
          |[],h3=>simp[aO]at h3
          |_::_::_,h3=>simp[aO]at h3
         |[],h5,_=>simp at h5
         |_::_::_,h5,_=>simp at h5
      let xs:List AV:=(List.range len).map fun i=>if hi:i<len then Classical.choose (one i hi) else .any
      have Cc:∀ i x,xs[i]?=some x→∃ v cl,au (Env.all w) false x v∧v.cells.size=P.cellsOf e ∧
        (∀ q u,v.cells.toList[q]?=some u→w.cell? ((a.add (i*P.cellsOf e)).add q)=some u) ∧
        (∀ u∈v.cells.toList,jy u=true)∧(if fK de then x=.agg cl else cl=[x])∧Shape P k e cl:=by
       intro i x hx
       have hi:=aW hx
       simp only[xs,List.length_map,List.length_range]at hi
       simp only[xs,List.getElem?_map,List.getElem?_range hi,Option.map_some,dif_pos hi,Option.some.injEq]at hx
       subst hx
       exact Classical.choose_spec (one i hi)
      have Ho:xs.length=len:=by simp[xs]
      refine⟨[.sl xs],?_,?_⟩
      ·simp only[aO,au]
       refine⟨⟨some a,cap,by rw[Ho],by omega,by simp,?_⟩,rfl,trivial⟩
       by_cases h0:len=0
       ·left; exact List.eq_nil_of_length_eq_zero (by omega)
       ·right
        obtain⟨v,_,_,qR,S4,_,_,_⟩:=Cc 0 xs[0] (by simp)
        have P4:=S4 0 v.cells[0] (by simp)
        simp only[Nat.zero_mul]at P4
        have Wr:(a.add 0).add 0=a:=rfl
        rw[Wr]at P4
        obtain⟨b,o,sp⟩:=a
        simp only[World.cell?]at P4
        split at P4
        case h_2=>simp at P4
        rename_i c T fz fH
        split at P4
        ·simp at P4
        rename_i Zm
        have Z5:sp=none:=by cases sp<;>simp_all
        subst Z5
        refine⟨b,o,P.cellsOf e,c,rfl,by simp[Env.all,fH],eW.fk fun i x hx=>?_⟩
        obtain⟨v,_,hr,qR,S4,Z6,_,_⟩:=Cc i x hx
        refine⟨v,hr,qR,fun q hq=>?_,Z6⟩
        have h1:=S4 q v.cells[q] (by simp)
        rw[dZ,dZ]at h1
        simp only[World.cell?,fH]at h1
        simp only[Option.isSome_none,Bool.false_eq_true,if_false]at h1
        rw[h1]; simp
      ·simp only[Shape,hu]
       refine⟨xs,rfl,by omega,fun x hx=>?_⟩
       obtain⟨i,hi⟩:=List.mem_iff_getElem?.1 hx
       obtain⟨v,cl,_,_,_,_,h1,h2⟩:=Cc i x hi
       exact⟨cl,by rw[hue]; exact h1,h2⟩
    |struct fs=>
     simp only[Bool.and_eq_true,decide_eq_true_eq]at ck
     obtain⟨xs,n,hn,_,hl,Ho,hf⟩:=DataW.trod_struct hu h
     have qQ:n=fuel:=by omega
     subst qQ
     obtain⟨l,h1,h2⟩:=EM (E:=Env.all w) (S:=fun f l=>Shape P k f.type l) fs.toList 0 (P.cellsOf t) cs ck.1 hl (fun f Jj=>by
      obtain⟨i,hi⟩:=List.mem_iff_getElem?.1 Jj
      have tn:fs[i]?=some f:=by simpa using hi
      have h3:=hf i f tn
      have cG:i<xs.length:=by rw[Ho]; exact(Array.getElem?_eq_some_iff.1 tn).1
      rw[List.getElem?_eq_getElem cG]at h3
      exact ih k f.type _ _ (List.all_eq_true.1 ck.2 f Jj) h3)
     simp only[List.drop_zero]at h1
     refine⟨l,h1,?_⟩
     simp only[Shape,hu]
     exact⟨by rw[h1.length,hl],fun f Jj=>by simpa using (h2 f Jj).2⟩
    |array n e=>
     simp only[Bool.and_eq_true,decide_eq_true_eq]at ck
     obtain⟨xs,m,hm,_,hl,Ho,hf⟩:=DataW.trod_array hu h
     have EL:m=fuel:=by omega
     subst EL
     obtain⟨l,h1,h2⟩:=EN (E:=Env.all w) (S:=fun l=>Shape P k e l) n cs (by rw[hl,ck.1]) (fun i hi=>by
      have h3:=hf i hi
      rw[List.getElem?_eq_getElem (by omega)]at h3
      exact ih k e _ _ ck.2 h3)
     refine⟨l,h1,?_⟩
     simp only[Shape,hu]
     exact⟨by rw[h1.length,hl],h2⟩
    |_=>simp at ck
end Go.PI
end
section
/- PI, the answers of code without fuel, by equations. -/
namespace Go.PI
theorem ij[ag]{α:Type}(y:Option α):tP (fun _=>y)=y:=
 mA (g:=fun _=>y) (fun _ _ h=>h) (fun _ _ h=>h) fun _ h=>⟨0,h⟩
theorem vh[ag]{α β:Type}{g:Nat→Option β}{a:Nat→Option α}{b:α→Nat→Option β}(hg:gD g)(ha:gD a)(hb:∀ x,gD (b x))
  (h0:g 0=none) (h:∀ k,g (k+1)=(a k).bind fun x=>b x k):tP g=(tP a).bind fun x=>tP (b x):=by
 apply mA hg
 ·intro k x hx
  cases k with
  |zero=>rw[h0]at hx; simp at hx
  |succ k=>
   rw[h]at hx
   cases hq:a k with
   |none=>rw[hq]at hx; simp at hx
   |some y=>
    rw[hq]at hx
    rw[(bj ha).2 ⟨k,hq⟩]
    exact(bj (hb y)).2 ⟨k,hx⟩
 ·intro x hx
  cases hq:tP a with
  |none=>rw[hq]at hx; simp at hx
  |some y=>
   rw[hq]at hx
   obtain⟨k1,h1⟩:=(bj ha).1 hq
   obtain⟨k2,h2⟩:=(bj (hb y)).1 hx
   refine⟨k1+k2+1,?_⟩
   rw[h,ha.le h1 k2]
   simp only[Option.bind_some]
   rw[Nat.add_comm]
   exact(hb y).le h2 k1
theorem n9{α:Type}(y:Option α):gD fun _=>y:=fun _ _ h=>h
theorem ik[ag]{α β:Type}{g:Nat→Option β}{a:Nat→Option α}{b:α→Option β}(hg:gD g)(ha:gD a)
  (h0:g 0=none) (h:∀ k,g (k+1)=(a k).bind b):tP g=(tP a).bind b:=by
 rw[vh hg ha (b:=fun x _=>b x) (fun x=>n9 _) h0 h]
 congr 1; funext x; exact ij _
theorem cM[ag]{α:Type}{g:Nat→Option α}{y:Option α}(hg:gD g)(h0:g 0=none)(h:∀ k,g (k+1)=y):tP g=y:=by
 apply mA hg
 ·intro k x hx
  cases k with
  |zero=>rw[h0]at hx; simp at hx
  |succ k=>rw[h]at hx; exact hx
 ·intro x hx; exact⟨1,by rw[h]; exact hx⟩
theorem wI[ag]{α:Type}{g a:Nat→Option α}(hg:gD g)(ha:gD a)(h0:g 0=none)(h:∀ k,g (k+1)=a k):tP g=tP a:=by
 have:=ik (b:=some) hg ha h0 (fun k=>by rw[h]; simp)
 rw[this]; simp
variable {C:Ctx}
theorem pt[ag](s:St):du C .skip s=some (.norm s):=cM (eM C _ _) rfl fun _=>rfl
theorem Hz[ag](l:Nat)(s:St):du C (.label l) s=some (.norm s):=cM (eM C _ _) rfl fun _=>rfl
theorem vj[ag](s:St):du C .ret s=some (.ret s):=cM (eM C _ _) rfl fun _=>rfl
theorem wJ[ag](id:Nat)(s:St):du C (.exit id) s=some (.exit id s):=cM (eM C _ _) rfl fun _=>rfl
theorem HA[ag]{b c:Code}(hc:rn b=some c){s:St}{o:Out}(h:du C c s=some o):du C (.scope b) s=some o:=by
 obtain⟨k,hk⟩:=(bj (eM C c s)).1 h
 exact(bj (eM C _ s)).2 ⟨k+1,by simp only[cw,hc]; exact hk⟩
noncomputable def andThen[ag](C:Ctx)(b:Code):Out→Option Out
 |.norm s=>du C b s
 |r=>some r
theorem gQ[ag](a b:Code)(s:St):du C (.seq a b) s=(du C a s).bind (andThen C b):=by
 have h:=vh (eM C (.seq a b) s) (eM C a s) (b:=fun x k=>match x with|.norm s'=>cw C k b s'|r=>some r)
  (fun x=>by cases x with
    |norm s'=>exact eM C b s'
    |_=>exact n9 _) (by simp[cw]) (fun k=>by
     simp only[cw]
     cases hq:cw C k a s with
     |none=>rfl
     |some r=>cases r<;>rfl)
 unfold du at h ⊢
 rw[h]
 congr 1
 funext x
 cases x with
 |norm s'=>rfl
 |_=>exact ij _
noncomputable def Zn[ag](C:Ctx)(a b:Code)(s:St):AV→Option Out
 |.lit (.bool t)=>cond t (du C a s) (du C b s)
 |_=>none
theorem k9[ag](o:Operand)(a b:Code)(s:St):du C (.cond o a b) s=Zn C a b s (aP s.fr o):=by
 unfold Zn
 split
 ·rename_i t ht
  cases t with
  |true=>exact wI (eM C _ _) (eM C _ _) (by simp[cw]) fun k=>by simp only[cw]; rw[ht]
  |false=>exact wI (eM C _ _) (eM C _ _) (by simp[cw]) fun k=>by simp only[cw]; rw[ht]
 ·rename_i hn
  refine cM (eM C _ _) (by simp[cw]) fun k=>?_
  simp only[cw]
def wK(id:Nat):Out→Option Out
 |.exit i s=>if i=id then some (.norm s) else some (.exit i s)
 |r=>some r
theorem nj[ag](id:Nat)(b:Code)(s:St):du C (.block id b) s=(du C b s).bind (wK id):=by
 refine ik (eM C _ _) (eM C _ _) (by simp[cw]) fun k=>?_
 simp only[cw]
 cases hq:cw C k b s with
 |none=>rfl
 |some r=>cases r<;>rfl
noncomputable def Mj[ag](C:Ctx)(b:Code)(n:Nat):Out→Option Out
 |.norm s=>du C (.loop b) (iK n s)
 |r=>some r
theorem pv[ag](b:Code)(s:St):du C (.loop b) s=(du C b s).bind (Mj C b s.hp.length):=by
 have h:=vh (eM C (.loop b) s) (eM C b s) (b:=fun x k=>match x with|.norm s'=>cw C k (.loop b) (iK s.hp.length s')|r=>some r)
  (fun x=>by cases x with
    |norm s'=>exact eM C (.loop b) (iK s.hp.length s')
    |_=>exact n9 _) (by simp[cw]) (fun k=>by
     rw[cw]
     cases hq:cw C k b s with
     |none=>rfl
     |some r=>cases r<;>rfl)
 unfold du at h ⊢
 rw[h]
 congr 1
 funext x
 cases x with
 |norm s'=>rfl
 |_=>exact ij _
theorem fc[ag](ops:Array Oper)(l:List Oper)(s:St):gD fun k=>dg (fun o s=>iM C k o s) ops l s:=
 fun k x h=>jB (fun o s r h=>(mono C k).o o s r h) ops l s x h
theorem ld[ag](ops:Array Oper):∀ (l:List Oper) (s:St),tP (fun k=>dg (fun o s=>iM C k o s) ops l s)=dg (jm C) ops l s
 |[],s=>ij _
 |o::l,s=>by
  simp only[dg]
  cases hw:dh ops s.fr o with
  |none=>exact ij _
  |some b=>
   cases b with
   |false=>exact ld ops l _
   |true=>
    simp only
    apply mA
    ·intro k x hx
     have hm:=ni C o s
     simp only at hx ⊢
     cases hq:iM C k o s with
     |none=>rw[hq]at hx; simp at hx
     |some r=>
      rw[hq]at hx
      have Hb:=hm k r hq
      simp only at hx Hb ⊢
      rw[Hb]
      cases r with
      |norm s'=>exact fc ops l s' k x hx
      |_=>exact hx
    ·intro k x hx
     cases hq:iM C k o s with
     |none=>rw[hq]at hx; simp at hx
     |some r=>
      rw[hq]at hx
      have h1:jm C o s=some r:=(bj (ni C o s)).2 ⟨k,hq⟩
      rw[h1]
      cases r with
      |norm s'=>
       simp only at hx ⊢
       rw[←ld ops l s']
       exact(bj (fc ops l s')).2 ⟨k,hx⟩
      |_=>exact hx
    ·intro x hx
     cases hq:jm C o s with
     |none=>rw[hq]at hx; simp at hx
     |some r=>
      rw[hq]at hx
      obtain⟨k1,h1⟩:=(bj (ni C o s)).1 hq
      cases r with
      |norm s'=>
       simp only at hx
       rw[←ld ops l s']at hx
       obtain⟨k2,h2⟩:=(bj (fc ops l s')).1 hx
       refine⟨k1+k2,?_⟩
       rw[(ni C o s).le h1 k2]
       simp only
       rw[Nat.add_comm]
       exact(fc ops l s').le h2 k1
      |_=>exact⟨k1,by rw[h1]; exact hx⟩
theorem ER[ag](id:Nat)(ops:Array Oper)(s:St):du C (.region id ops false) s=dg (jm C) ops ops.toList (iJ (C.iU s.fn id) s):=by
 rw[←ld]
 exact wI (eM C _ _) (fc ops _ _) (by simp[cw]) fun k=>by simp only[cw]
noncomputable def Mk(C:Ctx)(rs:Array ResultVar):Out→Option (p6×ak)
 |.norm s=>((bh C.P s.fr rs.toList).run s.hp).map fun l=>(.val (cY l),s.hp)
 |.ret s=>((bh C.P s.fr rs.toList).run s.hp).map fun l=>(.val (cY l),s.hp)
 |.nY v s=>some (.nY v,s.hp)
 |_=>none
theorem y8[ag]{f:FuncId}{fn:Func}{c:Code}(hf:C.P.funcs[f]?=some fn)(hb:fn.body=some c)(args:List AV)(hp:ak)(hD:Ez c=false:=by rfl):
  jk C f args hp=(du C c ⟨f,args++List.replicate (fn.ntmps-args.length) .undef,hp⟩).bind (Mk C fn.results):=by
 refine ik (kP C _ _ _) (eM C _ _) (by simp[o9]) fun k=>?_
 simp only[o9,hf,hb,hD]
 cases hq:cw C k c ⟨f,args++List.replicate (fn.ntmps-args.length) .undef,hp⟩ with
 |none=>rfl
 |some r=>
  cases r with
  |norm s=>simp only[Option.bind_some,Mk]; split<;>simp_all
  |ret s=>simp only[Option.bind_some,Mk]; split<;>simp_all
  |_=>rfl
theorem pw[ag]{c:Code}{s:St}{o:Out}(h:du C c s=some o):∃ k,∀ d,cw C (k+d) c s=some o:=by
 obtain⟨k,hk⟩:=(bj (eM C c s)).1 h
 exact⟨k,(eM C c s).le hk⟩
theorem Dn[ag]:∀ (c:Code) (s:St) (r:Out×Option AV),B1 (du C) (jm C) c s=some r→∃ k,∀ d,B1 (fun c s=>cw C (k+d) c s) (fun o s=>iM C (k+d) o s) c s=some r:=by
 have leaf:∀ c s (r:Out×Option AV),((du C c s).map fun o=>(o,(none:Option AV)))=some r→∃ k,∀ d,((cw C (k+d) c s).map fun o=>(o,(none:Option AV)))=some r:=by
  intro c s r h
  cases hq:du C c s with
  |none=>rw[hq]at h; simp at h
  |some o=>
   obtain⟨k,hk⟩:=pw hq
   exact⟨k,fun d=>by rw[hk d]; rw[hq]at h; exact h⟩
 intro c
 induction c with
 |seq x y _ Mh=>
  intro s r h
  simp only[B1]at h ⊢
  cases hd:uZ x with
  |some q=>
   obtain⟨ops,v⟩:=q
   rw[hd]at h
   simp only at h ⊢
   split at h
   case h_2=>simp at h
   rename_i s1 hr
   rw[←ld]at hr
   obtain⟨k1,Wt⟩:=(bj (fc ops _ s)).1 hr
   have h1:=(fc (C:=C) ops _ s).le Wt
   split at h
   case h_2=>simp at h
   rename_i q dL
   cases hq:du C y s1 with
   |none=>rw[hq]at h; simp at h
   |some o=>
    obtain⟨k2,Dp⟩:=pw hq
    refine⟨k1+k2,fun d=>?_⟩
    rw[show k1+k2+d=k1+(k2+d) by omega,h1]
    simp only[dL]
    rw[show k1+(k2+d)=k2+(k1+d) by omega,Dp]
    rw[hq]at h; exact h
  |none=>
   rw[hd]at h
   simp only at h ⊢
   split at h
   ·rename_i s' hx
    obtain⟨k1,Wt⟩:=pw hx
    obtain⟨k2,Dp⟩:=Mh _ _ h
    refine⟨k1+k2,fun d=>?_⟩
    rw[show k1+k2+d=k1+(k2+d) by omega,Wt]
    have:=Dp (k1+d)
    rw[show k2+(k1+d)=k1+(k2+d) by omega]at this
    exact this
   ·rename_i o dY hx
    obtain⟨k1,Wt⟩:=pw hx
    refine⟨k1,fun d=>?_⟩
    rw[Wt d]
    cases o with
    |norm s'=>exact(dY s' rfl).elim
    |_=>exact h
   ·simp at h
 |_=>intro s r h; simp only[B1]at h ⊢; exact leaf _ _ _ h
theorem ES[ag]{P:Program}{rs:List ResultVar}{fr:List AV}{hp:ak}{d:Option AV}{r:p6×ak}(h:wu (du C) P rs fr hp d=some r):∃ k,∀ j,wu (fun c s=>cw C (k+j) c s) P rs fr hp d=some r:=by
 cases d with
 |none=>exact⟨0,fun _=>h⟩
 |some v=>
  simp only[wu]at h ⊢
  split at h
  ·simp at h
  rename_i g as dL
  split at h
  ·simp at h
  rename_i fg P9
  split at h
  ·simp at h
  rename_i cg Qa
  cases hn:ct cg with
  |false=>rw[hn]at h; simp at h
  |true=>
   rw[hn]at h
   cases hq:du C (p9 cg) ⟨g,as++List.replicate (fg.ntmps-as.length) .undef,hp⟩ with
   |none=>rw[hq]at h; simp at h
   |some o=>
    obtain⟨k,hk⟩:=pw hq
    exact⟨k,fun j=>by simp only[P9,Qa,hn,hk j]; rw[hq]at h; exact h⟩
theorem Ml[ag]{f:FuncId}{fn:Func}{c:Code}(hf:C.P.funcs[f]?=some fn)(hb:fn.body=some c){args:List AV}{hp:ak}(hD:Ez c=true){r:p6×ak}
  (h:wv (du C) (jm C) C.P fn.results.toList c ⟨f,args++List.replicate (fn.ntmps-args.length) .undef,hp⟩=some r):jk C f args hp=some r:=by
 suffices hs:∃ k,wv (fun c s=>cw C k c s) (fun o s=>iM C k o s) C.P fn.results.toList c ⟨f,args++List.replicate (fn.ntmps-args.length) .undef,hp⟩=some r by
  obtain⟨k,hk⟩:=hs
  exact(bj (kP C f args hp)).2 ⟨k+1,by simp only[o9,hf,hb,hD]; exact hk⟩
 unfold wv at h
 split at h
 ·rename_i s' d hn he
  obtain⟨k1,h1⟩:=Dn _ _ _ he
  obtain⟨k2,h2⟩:=ES h
  refine⟨k1+k2,?_⟩
  unfold wv
  rw[h1 k2,hn]
  have:=h2 k1
  rw[show k2+k1=k1+k2 by omega]at this
  exact this
 ·rename_i s' d hn he
  obtain⟨k1,h1⟩:=Dn _ _ _ he
  obtain⟨k2,h2⟩:=ES h
  refine⟨k1+k2,?_⟩
  unfold wv
  rw[h1 k2,hn]
  have:=h2 k1
  rw[show k2+k1=k1+k2 by omega]at this
  exact this
 ·rename_i v s' hn he
  obtain⟨k1,h1⟩:=Dn _ _ _ he
  refine⟨k1+0,?_⟩
  unfold wv
  rw[h1 0,hn]
  exact h
 ·simp at h
def pA(hp:ak)(args:List AV)(q:p6×ak):Option (p6×List (Nat×aY)):=(ie args q.2 q.1).run hp
theorem Qb[ag](g:FuncId)(hi:C.kT g=none)(args:List AV)(hp:ak):
  Mi C g args hp=((ba 1000 args).run hp).bind fun as=>(jk C g as []).bind (pA hp args):=by
 have h1:∀ k,(pd C (k+1) g args).run hp=((ba 1000 args).run hp).bind fun as=>(o9 C k g as []).bind (pA hp args):=by
  intro k
  rw[pd,RM.run_bind]
  congr 1
  funext as
  rw[hi]
  simp only
  cases hq:o9 C k g as [] with
  |none=>rfl
  |some q=>rfl
 cases hs:(ba 1000 args).run hp with
 |none=>exact cM (Jk C _ _ _) (by simp[pd,RM.aj]) fun k=>by rw[h1,hs]; rfl
 |some as=>
  refine ik (Jk C _ _ _) (kP C g as []) (by simp[pd,RM.aj]) fun k=>?_
  rw[h1,hs]; rfl
theorem Ks[ag](g:FuncId){h:List AV→Option AV}(hi:C.kT g=some h)(args:List AV)(hp:ak):
  Mi C g args hp=((ba 1000 args).run hp).bind fun as=>(h as).bind fun r=>pA hp args (.val r,[]):=by
 refine cM (Jk C _ _ _) (by simp[pd,RM.aj]) fun k=>?_
 rw[pd,RM.run_bind]
 congr 1
 funext as
 rw[hi]
 simp only
 cases hq:h as with
 |none=>rfl
 |some q=>rfl
def RU(o:Oper)(s:St):p6×List (Nat×aY)→Option Out
 |(.val r,wr)=>some (.norm { s with fr:=bX s.fr o.dst r,hp:=av s.hp wr })
 |(.nY v,wr)=>some (.nY v { s with hp:=av s.hp wr })
def Mm(o:Oper)(s:St):p6×ak→Option Out
 |(.val r,hp)=>some (.norm { s with fr:=bX s.fr o.dst r,hp:=jS s.hp.length r hp })
 |(.nY v,hp)=>some (.nY v { s with hp:=jS s.hp.length v hp })
def gE(o:Oper)(s:St)(e:ed):Option Out:=some (.norm { s with fr:=bX s.fr o.dst e.val,hp:=av s.hp e.wr })
def rB(nm:Nat)(lg:List Nat)(hp:ak):p6×ak→Option (ed×List Nat)
 |(.val r,eV)=>((ee nm r eV).run hp).map fun e=>(e,lg)
 |_=>none
noncomputable def HB[ag](C:Ctx)(nm:Nat)(g:FuncId)(args:List AV)(hp:ak):Option (ed×List Nat):=
 ((ba 1000 args).run hp).bind fun as=>match C.gM g with
   |some h=>(h as).bind fun q=>((ee nm q.1 q.2).run hp).map fun e=>(e,(ba 1000 args).log hp)
   |none=>(jk C g as []).bind (rB nm ((ba 1000 args).log hp) hp)
theorem zT{nm:Nat}{r:AV}{eV hp:ak}:(ee nm r eV).log hp=[]:=by
 unfold ee
 split
 ·split
  ·split<;>rfl
  ·rfl
 ·rfl
theorem Cg[ag]{F:List AV→Option (p6×ak)}{nm:Nat}{g:FuncId}{args:List AV}{hp:ak}:
  ((jj C F nm g args).run hp).map (fun e=>(e,(jj C F nm g args).log hp))=((ba 1000 args).run hp).bind fun as=>match C.gM g with
    |some h=>(h as).bind fun q=>((ee nm q.1 q.2).run hp).map fun e=>(e,(ba 1000 args).log hp)
    |none=>(F as).bind (rB nm ((ba 1000 args).log hp) hp):=by
 unfold jj
 rw[RM.run_bind,RM.fN]
 cases hs:(ba 1000 args).run hp with
 |none=>rfl
 |some as=>
  simp only[Option.bind_some]
  cases hi:C.gM g with
  |some h=>
   simp only
   cases hh:h as with
   |none=>rfl
   |some q=>simp only[Option.bind_some,zT,List.append_nil]
  |none=>
   simp only
   cases hq:F as with
   |none=>rfl
   |some q=>
    obtain⟨r,eV⟩:=q
    cases r with
    |val v=>simp only[Option.bind_some,rB,zT,List.append_nil]
    |nY v=>rfl
theorem HC[ag]{F:List AV→Option (p6×ak)}{nm:Nat}{g:FuncId}{args:List AV}{hp:ak}:
  (jj C F nm g args).run hp=(((ba 1000 args).run hp).bind fun as=>match C.gM g with
    |some h=>(h as).bind fun q=>((ee nm q.1 q.2).run hp).map fun e=>(e,(ba 1000 args).log hp)
    |none=>(F as).bind (rB nm ((ba 1000 args).log hp) hp)).map Prod.fst:=by
 rw[←Cg]
 cases (jj C F nm g args).run hp<;>rfl
noncomputable def Ch[ag](C:Ctx)(o:Oper)(s:St):FuncId×List AV→Option Out
 |(g,args)=>match aC o.op with
  |true=>(HB C s.hp.length g args s.hp).bind fun q=>gE o s q.1
  |false=>match C.kind g with
   |.pure=>(Mi C g args s.hp).bind (RU o s)
   |.imp=>(jk C g args s.hp).bind (Mm o s)
theorem ET{run:Code→St→Option Out}{ev:Nat→Code→St→Option Out}(hg:∀ c s,gD fun k=>ev k c s)(hl:∀ c s r,run c s=some r→∃ k,ev k c s=some r)
  {n:Nat} {args:List AV} {dst:Option Tmp} {s:St} {r:Out} (hy:iL run n args dst s=some r):∃ k,iL (ev k) n args dst s=some r:=by
 unfold iL at hy ⊢
 split at hy
 case h_2=>simp at hy
 rename_i fn ps as bd fr ho
 split at hy
 case h_2=>simp at hy
 rename_i hc
 split at hy
 case h_2=>simp at hy
 rename_i s1 h1
 obtain⟨k1,e1⟩:=hl _ _ _ h1
 split at hy
 case h_2=>simp at hy
 rename_i h2
 have two:∀ o,run bd { s1 with hp:=qF s1.hp n .busy }=some o→∃ k,ev k as ⟨fn,gC fr ps.toList args,s.hp⟩=some (.norm s1)∧ev k bd { s1 with hp:=qF s1.hp n .busy }=some o:=by
  intro o h3
  obtain⟨k2,e2⟩:=hl _ _ _ h3
  exact⟨k1+k2,(hg _ _).le e1 k2,by rw[Nat.add_comm]; exact(hg _ _).le e2 k1⟩
 split at hy
 ·rename_i s2 h3
  obtain⟨k,a,b⟩:=two _ h3
  exact⟨k,by simp only[a,h2,b]; exact hy⟩
 ·rename_i id s2 h3
  obtain⟨k,a,b⟩:=two _ h3
  exact⟨k,by simp only[a,h2,b]; exact hy⟩
 ·rename_i s2 h3
  obtain⟨k,a,b⟩:=two _ h3
  exact⟨k,by simp only[a,h2,b]; exact hy⟩
 ·simp at hy
noncomputable def Mn[ag](C:Ctx)(o:Oper)(s:St)(args:List AV):AV→Option Out
 |.mp true n=>iL (fun c s=>du C c s) n args o.dst s
 |_=>none
noncomputable def qe[ag](C:Ctx)(o:Oper)(s:St)(args:List AV)(fv:AV):Option (FuncId×List AV)→Option Out
 |some q=>Ch C o s q
 |none=>Mn C o s args fv
noncomputable def Wu[ag](s:St):p6×ak→Option Out
 |(.val _,Bz)=>zA s s.hp.length Bz
 |_=>none
theorem HD[ag](f:Operand)(ps:Array Tmp)(as bd:Code)(s:St):du C (.rangeFunc f ps as bd) s =
  (bU (aP s.fr f) [.mp true s.hp.length]).bind fun q=>(jk C q.1 q.2 (s.hp++[some (.iC (.loop s.fn ps as bd .ready) (zx as bd s.fr))])).bind (Wu s):=by
 cases hr:bU (aP s.fr f) [.mp true s.hp.length] with
 |none=>exact cM (eM C _ _) (by simp[cw]) fun k=>by simp only[cw,hr]; rfl
 |some q=>
  obtain⟨g,args⟩:=q
  simp only[Option.bind_some]
  refine ik (eM C _ _) (kP C g args _) (by simp[cw]) fun k=>?_
  simp only[cw,hr]
  cases hq:o9 C k g args (s.hp++[some (.iC (.loop s.fn ps as bd .ready) (zx as bd s.fr))]) with
  |none=>rfl
  |some q=>obtain⟨r,Bz⟩:=q; cases r<;>rfl
theorem pD[ag]{dst:Option Tmp}{f:Operand}{args:Array Operand}{rb:Array TypeId}{type:TypeId}{pos:String}{after:Array Edge}{guard:Option (Nat×Bool)}(s:St):
  jm C ⟨dst,.call ⟨.value f,args,rb⟩,type,pos,after,guard⟩ s=qe C ⟨dst,.call ⟨.value f,args,rb⟩,type,pos,after,guard⟩ s (args.toList.map (aP s.fr)) (aP s.fr f)
   (bU (aP s.fr f) (args.toList.map (aP s.fr))):=by
 cases hr:bU (aP s.fr f) (args.toList.map (aP s.fr)) with
 |none=>
  simp only[qe,Mn]
  split
  ·rename_i n hn
   have fq:∀ k,iM C (k+1) ⟨dst,.call ⟨.value f,args,rb⟩,type,pos,after,guard⟩ s=iL (fun c s=>cw C k c s) n (args.toList.map (aP s.fr)) dst s:=fun k=>by simp only[iM,hr]; rw[hn]
   apply mA (ni C _ _)
   ·intro k x hx
    cases k with
    |zero=>simp[iM]at hx
    |succ k=>
     rw[fq]at hx
     exact xP (fun c s r h=>(bj (eM C c s)).2 ⟨k,h⟩) hx
   ·intro x hx
    obtain⟨k,hk⟩:=ET (fun c s=>eM C c s) (fun c s r h=>(bj (eM C c s)).1 h) hx
    exact⟨k+1,by rw[fq]; exact hk⟩
  ·rename_i dY
   refine cM (ni C _ _) (by simp[iM]) fun k=>?_
   simp only[iM,hr]
 |some q=>
  obtain⟨g,as⟩:=q
  simp only[qe,Ch]
  cases tO:aC (Op.call ⟨.value f,args,rb⟩) with
  |true=>
   have fq:∀ k,iM C (k+1) ⟨dst,.call ⟨.value f,args,rb⟩,type,pos,after,guard⟩ s =
     (((ba 1000 as).run s.hp).bind fun qf=>match C.gM g with
       |some h=>(h qf).bind fun q=>((ee s.hp.length q.1 q.2).run s.hp).map fun e=>(e,(ba 1000 as).log s.hp)
       |none=>(o9 C k g qf []).bind (rB s.hp.length ((ba 1000 as).log s.hp) s.hp)).bind fun q=>gE ⟨dst,.call ⟨.value f,args,rb⟩,type,pos,after,guard⟩ s q.1:=by
    intro k
    simp only[iM,hr,tO,HC]
    cases (((ba 1000 as).run s.hp).bind fun qf=>match C.gM g with
      |some h=>(h qf).bind fun q=>((ee s.hp.length q.1 q.2).run s.hp).map fun e=>(e,(ba 1000 as).log s.hp)
      |none=>(o9 C k g qf []).bind (rB s.hp.length ((ba 1000 as).log s.hp) s.hp))<;>rfl
   simp only[HB]
   cases hs:(ba 1000 as).run s.hp with
   |none=>exact cM (ni C _ _) (by simp[iM]) fun k=>by rw[fq,hs]; rfl
   |some qf=>
    simp only[Option.bind_some]
    cases hi:C.gM g with
    |some h=>exact cM (ni C _ _) (by simp[iM]) fun k=>by rw[fq,hs]; simp only[Option.bind_some,hi]
    |none=>
     simp only[Option.bind_assoc]
     refine ik (ni C _ _) (kP C g qf []) (by simp[iM]) fun k=>?_
     rw[fq,hs]
     simp only[Option.bind_some,hi,Option.bind_assoc]
  |false=>
  simp only
  cases hk:C.kind g with
  |pure=>
   refine ik (ni C _ _) (Jk C g as s.hp) (by simp[iM]) fun k=>?_
   simp only[iM,hr,tO,hk]
   cases hq:(pd C k g as).run s.hp with
   |none=>rfl
   |some q=>obtain⟨r,wr⟩:=q; cases r<;>rfl
  |imp=>
   refine ik (ni C _ _) (kP C g as s.hp) (by simp[iM]) fun k=>?_
   simp only[iM,hr,tO,hk]
   cases hq:o9 C k g as s.hp with
   |none=>rfl
   |some q=>obtain⟨r,wr⟩:=q; cases r<;>rfl
def sy:Op→Bool
 |.call c=>match c.callee with
  |.builtin _=>true
  |_=>false
 |.assign (.const (.slice none 0 0))=>false
 |_=>true
def Jl(C:Ctx)(o:Oper)(s:St)(e:ed):Option Out:=some (.norm (Ey (match o.op with|.call _=>fun _=>[]|_=>C.ta s.fn) o.dst { s with fr:=bX s.fr o.dst e.val,hp:=av s.hp e.wr }))
theorem zU{dst:Option Tmp}{s:St}:Ey (fun _=>[]) dst s=s:=by cases dst<;>rfl
theorem zV[ag]{o:Oper}(h:sy o.op=true)(s:St):jm C o s=((aV C.P s.hp.length (aP s.fr) o).run s.hp).bind (Jl C o s):=by
 refine cM (ni C _ _) (by simp[iM]) fun k=>?_
 obtain⟨dst,op,type,pos,after,guard⟩:=o
 rw[iM]
 split
 ·grind[Jl,zU,sy]
 ·simp_all[sy]
 ·grind[Jl]
class jn(C:Ctx):Prop where
 h:C.ta=fun _ _=>[]
 iU:C.iU=fun _ _=>[]
theorem fe[ag][jn C]{o:Oper}(h:sy o.op=true)(s:St):jm C o s=((aV C.P s.hp.length (aP s.fr) o).run s.hp).bind (gE o s):=by
 rw[zV h]
 congr 1
 funext e
 have hl:(match o.op with|.call _=>fun _=>[]|_=>C.ta s.fn)=fun _=>[]:=by
  rw[jn.h (C:=C)]; cases o.op<;>rfl
 simp only[Jl,hl,zU,gE]
theorem Mo[ag]{dst:Tmp}{type:TypeId}{pos:String}{after:Array Edge}{guard:Option (Nat×Bool)}(s:St):
  jm C ⟨some dst,.assign (.const (.slice none 0 0)),type,pos,after,guard⟩ s =
   cond (C.acc s.fn dst) ((aU C.P type).bind fun r=>if 0<r.size then some (.norm { s with fr:=s.fr.set dst (.bw r.size s.hp.length 0 0 0 none),hp:=s.hp++[some (.arr true true false [])] }) else none)
    (some (.norm { s with fr:=s.fr.set dst (.lit cx) })):=by
 refine cM (ni C _ _) (by simp[iM]) fun k=>?_
 simp only[iM]
 cases C.acc s.fn dst with
 |true=>
  simp only[if_true,cond_true]
  cases aU C.P type<;>rfl
 |false=>rfl
end Go.PI
end
section
/- PI, drawn regions without fuel. -/
namespace Go.PI
variable {C:Ctx}
noncomputable def Kt[ag](C:Ctx)(nm:Nat)(o:Oper)(fr:List AV)(hp:ak):Option (ed×List Nat):=
 tP fun k=>((kD C k nm o fr).run hp).map fun e=>(e,(kD C k nm o fr).log hp)
theorem Mp[ag](C:Ctx)(nm:Nat)(o:Oper)(fr:List AV)(hp:ak):gD fun k=>((kD C k nm o fr).run hp).map fun e=>(e,(kD C k nm o fr).log hp):=by
 intro k x h
 simp only at h ⊢
 cases hq:(kD C k nm o fr).run hp with
 |none=>rw[hq]at h; simp at h
 |some e=>
  obtain⟨h1,h2⟩:=(mono C k).e nm o fr hp e hq
  rw[hq]at h
  rw[h1,h2]
  exact h
def S6[ag](x:Item)(s:St):ed×List Nat→Option (St×gx)
 |(e,lg)=>
  if e.wr.all (fun q=>decide (q.1<s.hp.length)&&((aC x.o.op&&decide (q.1=x.nm))||(match s.hp[q.1]? with|some (some _)=>true|_=>false)))=true then
   some ({ s with fr:=bX s.fr x.o.dst e.val,hp:=av s.hp e.wr },⟨x.idx,lg,e.wr.map (·.1)⟩)
  else none
noncomputable def EU[ag](C:Ctx)(ops:Array Oper)(x:Item)(s:St):Option (St×gx):=
 match dh ops s.fr x.o with
 |none=>none
 |some false=>some ({ s with fr:=bX s.fr x.o.dst .undef },⟨x.idx,[],[]⟩)
 |some true=>(Kt C (x.at s.hp.length) x.o s.fr s.hp).bind (S6 x s)
noncomputable def vk[ag](C:Ctx)(ops:Array Oper):List Item→St→Option (St×List gx)
 |[],s=>some (s,[])
 |x::rest,s=>(EU C ops x s).bind fun q=>(vk C ops rest q.1).map fun q'=>(q'.1,q.2::q'.2)
theorem zX[ag](ops:Array Oper)(x:Item)(s:St):gD fun k=>gn (fun nm o fr=>kD C k nm o fr) ops x s:=
 fun k r h=>zR (fun nm o fr hp=>(mono C k).e nm o fr hp) ops x s r h
theorem rC[ag](ops:Array Oper)(l:List Item)(s:St):gD fun k=>cS (fun nm o fr=>kD C k nm o fr) ops l s:=
 fun k r h=>qd (fun nm o fr hp=>(mono C k).e nm o fr hp) ops l s r h
theorem Jm[ag]{α β:Type}{a:Nat→Option α}(ha:gD a)(f:α→Option β):tP (fun k=>(a k).bind f)=(tP a).bind f:=by
 apply mA
 ·intro k x h
  cases hq:a k with
  |none=>simp[hq]at h
  |some y=>
   have h2:=ha k y hq
   simp only[hq]at h
   simp only[h2]
   exact h
 ·intro k x h
  cases hq:a k with
  |none=>simp[hq]at h
  |some y=>simp only[hq]at h; rw[(bj ha).2 ⟨k,hq⟩]; exact h
 ·intro x h
  cases hq:tP a with
  |none=>rw[hq]at h; simp at h
  |some y=>
   rw[hq]at h
   obtain⟨k,hk⟩:=(bj ha).1 hq
   exact⟨k,by rw[hk]; exact h⟩
theorem Ku[ag](ops:Array Oper)(x:Item)(s:St):tP (fun k=>gn (fun nm o fr=>kD C k nm o fr) ops x s)=EU C ops x s:=by
 unfold EU
 cases hw:dh ops s.fr x.o with
 |none=>simp only[gn,hw]; exact ij _
 |some b=>
  cases b with
  |false=>simp only[gn,hw]; exact ij _
  |true=>
   rw[show (fun k=>gn (fun nm o fr=>kD C k nm o fr) ops x s)=fun k=>(((kD C k (x.at s.hp.length) x.o s.fr).run s.hp).map fun e=>(e,(kD C k (x.at s.hp.length) x.o s.fr).log s.hp)).bind (S6 x s) from ?_]
   ·exact Jm (Mp C (x.at s.hp.length) x.o s.fr s.hp) _
   ·funext k
    simp only[gn,hw]
    cases hq:(kD C k (x.at s.hp.length) x.o s.fr).run s.hp<;>rfl
theorem rG[ag](ops:Array Oper):∀ (l:List Item) (s:St),tP (fun k=>cS (fun nm o fr=>kD C k nm o fr) ops l s)=vk C ops l s
 |[],s=>ij _
 |x::l,s=>by
  simp only[vk]
  rw[←Ku]
  apply mA (rC ops (x::l) s)
  ·intro k r h
   simp only[cS]at h
   cases hq:gn (fun nm o fr=>kD C k nm o fr) ops x s with
   |none=>rw[hq]at h; simp at h
   |some q=>
    obtain⟨s1,f⟩:=q
    rw[hq]at h
    simp only at h
    rw[(bj (zX ops x s)).2 ⟨k,hq⟩]
    cases hd:cS (fun nm o fr=>kD C k nm o fr) ops l s1 with
    |none=>rw[hd]at h; simp at h
    |some q2=>
     rw[hd]at h
     simp only[Option.bind_some]
     rw[←rG ops l s1,(bj (rC ops l s1)).2 ⟨k,hd⟩]
     exact h
  ·intro r h
   cases hq:tP (fun k=>gn (fun nm o fr=>kD C k nm o fr) ops x s) with
   |none=>rw[hq]at h; simp at h
   |some q=>
    obtain⟨s1,f⟩:=q
    rw[hq]at h
    simp only[Option.bind_some]at h
    rw[←rG ops l s1]at h
    cases hd:tP (fun k=>cS (fun nm o fr=>kD C k nm o fr) ops l s1) with
    |none=>rw[hd]at h; simp at h
    |some q2=>
     rw[hd]at h
     obtain⟨k1,h1⟩:=(bj (zX ops x s)).1 hq
     obtain⟨k2,h2⟩:=(bj (rC ops l s1)).1 hd
     have h3:=(zX ops x s).le h1 k2
     have h4:=(rC ops l s1).le h2 k1
     rw[Nat.add_comm]at h4
     refine⟨k1+k2,?_⟩
     simp only[cS]
     rw[h3]
     simp only
     rw[h4]
     exact h
noncomputable def Jn[ag](C:Ctx)(ops:Array Oper)(m:Nat)(q:St×List gx):Option Out:=
 if (gh (cH ops.toList) q.2&&oN (cH ops.toList) ops.size m)=true then dg (jm C) ops (ops.toList.drop m) q.1 else none
theorem Kv[ag](id:Nat)(ops:Array Oper)(h:uY ops=true)(s:St):du C (.region id ops true) s =
  (vk C ops (bV 0 s.hp.length (ops.toList.take (C.head s.fn id ops))) { iJ (C.iU s.fn id) s with hp:=(iJ (C.iU s.fn id) s).hp++List.replicate ((ops.toList.take (C.head s.fn id ops)).filter fun o=>aC o.op).length none }).bind (Jn C ops (C.head s.fn id ops)):=by
 rw[←rG]
 refine Eq.trans (vh (eM C (.region id ops true) s) (rC ops _ _) (b:=fun q k=>if (gh (cH ops.toList) q.2&&oN (cH ops.toList) ops.size (C.head s.fn id ops))=true then
   dg (fun o s=>iM C k o s) ops (ops.toList.drop (C.head s.fn id ops)) q.1 else none) (fun q=>by
    by_cases hc:(gh (cH ops.toList) q.2&&oN (cH ops.toList) ops.size (C.head s.fn id ops))=true
    ·simp only[hc,if_true]; exact fc ops _ _
    ·simp only[hc]; exact n9 _) (by simp[cw]) (fun k=>by
   simp only[cw,h,if_true]
   cases hq:cS (fun nm o fr=>kD C k nm o fr) ops (bV 0 s.hp.length (ops.toList.take (C.head s.fn id ops))) { iJ (C.iU s.fn id) s with hp:=(iJ (C.iU s.fn id) s).hp++List.replicate ((ops.toList.take (C.head s.fn id ops)).filter fun o=>aC o.op).length none } with
   |none=>rfl
   |some q=>rfl)) ?_
 congr 1
 funext q
 unfold Jn
 by_cases hc:(gh (cH ops.toList) q.2&&oN (cH ops.toList) ops.size (C.head s.fn id ops))=true
 ·simp only[hc,if_true]; exact ld ops _ _
 ·simp only[hc]; exact ij _
theorem HE[ag]{o:Oper}(h:∀ c f,o.op=.call c→c.callee=.value f→False)(h2:∀ c m i,o.op=.call c→c.callee=.invoke m i→False)(nm:Nat)(fr:List AV)(hp:ak):
  Kt C nm o fr hp=((aV C.P nm (aP fr) o).run hp).map fun e=>(e,(aV C.P nm (aP fr) o).log hp):=by
 refine cM (Mp C _ _ _ _) (by simp[kD,RM.aj]) fun k=>?_
 obtain⟨dst,op,type,pos,after,guard⟩:=o
 cases op with
 |call c=>
  obtain⟨callee,args,rb⟩:=c
  cases callee with
  |builtin b=>simp only[kD]
  |value f=>exact(h _ _ rfl rfl).elim
  |invoke m i=>exact(h2 _ _ _ rfl rfl).elim
 |_=>simp only[kD]
def Mq(hp:ak)(args:List AV)(q:p6×ak):List Nat:=(ba 1000 args).log hp++(ie args q.2 q.1).log hp
def pG(hp:ak)(args:List AV)(q:p6×ak):Option (ed×List Nat):=
 (pA hp args q).bind fun r=>match r.1 with
   |.val v=>some (⟨v,r.2⟩,Mq hp args q)
   |.nY _=>none
noncomputable def zY[ag](C:Ctx)(nm:Nat)(al:Bool)(hp:ak):FuncId×List AV→Option (ed×List Nat)
 |(g,args)=>match al with
  |true=>HB C nm g args hp
  |false=>match C.kind g with
  |.pure=>match C.kT g with
   |some h=>((ba 1000 args).run hp).bind fun as=>(h as).bind fun r=>pG hp args (.val r,[])
   |none=>((ba 1000 args).run hp).bind fun as=>(jk C g as []).bind (pG hp args)
  |.imp=>(match C.rj g with
   |some h=>((h args).run hp).map fun e=>(e,(h args).log hp)
   |none=>((BB C.P nm g args).run hp).map fun e=>(e,(BB C.P nm g args).log hp))
theorem Mr[ag]{hp:ak}{args as:List AV}{g:FuncId}{k:Nat}(hs:(ba 1000 args).run hp=some as)(hi:C.kT g=none){q:p6×ak}(hq:o9 C k g as []=some q):
  (((pd C (k+1) g args >>= fun (x:p6×List (Nat×aY))=>match x.1 with|.val r=>(pure ⟨r,x.2⟩:RM ed)|.nY _=>RM.fail).run hp).map fun e=>(e,(pd C (k+1) g args >>= fun (x:p6×List (Nat×aY))=>match x.1 with|.val r=>(pure ⟨r,x.2⟩:RM ed)|.nY _=>RM.fail).log hp))=pG hp args q:=by
 have h1:(pd C (k+1) g args).run hp=pA hp args q:=by
  rw[pd,RM.run_bind,hs]
  simp only[Option.bind_some,hi,hq]
  rfl
 have h2:(pd C (k+1) g args).log hp=Mq hp args q:=by
  rw[pd,RM.fN,hs]
  simp only[hi,hq]
  rfl
 rw[RM.run_bind,RM.fN,h1,h2]
 unfold pG
 cases cW:pA hp args q with
 |none=>rfl
 |some r=>
  obtain⟨r,wr⟩:=r
  cases r with
  |val v=>simp only[Option.bind_some,pure,RM.log,List.append_nil]; rfl
  |nY v=>rfl
theorem wL[ag]{dst:Option Tmp}{f:Operand}{args:Array Operand}{rb:Array TypeId}{type:TypeId}{pos:String}{after:Array Edge}{guard:Option (Nat×Bool)}(nm:Nat)(fr:List AV)(hp:ak):
  Kt C nm ⟨dst,.call ⟨.value f,args,rb⟩,type,pos,after,guard⟩ fr hp=(bU (aP fr f) (args.toList.map (aP fr))).bind (zY C nm (aC (Op.call ⟨.value f,args,rb⟩)) hp):=by
 have hg:=Mp C nm ⟨dst,.call ⟨.value f,args,rb⟩,type,pos,after,guard⟩ fr hp
 have hz:((kD C 0 nm ⟨dst,.call ⟨.value f,args,rb⟩,type,pos,after,guard⟩ fr).run hp).map (fun e=>(e,(kD C 0 nm ⟨dst,.call ⟨.value f,args,rb⟩,type,pos,after,guard⟩ fr).log hp))=none:=by
  simp[kD,RM.aj]
 cases hr:bU (aP fr f) (args.toList.map (aP fr)) with
 |none=>exact cM hg hz fun k=>by simp only[kD,hr,RM.aj]; rfl
 |some q=>
  obtain⟨g,as⟩:=q
  simp only[Option.bind_some,zY]
  cases tO:aC (Op.call ⟨.value f,args,rb⟩) with
  |true=>
   have fq:∀ k,((kD C (k+1) nm ⟨dst,.call ⟨.value f,args,rb⟩,type,pos,after,guard⟩ fr).run hp).map (fun e=>(e,(kD C (k+1) nm ⟨dst,.call ⟨.value f,args,rb⟩,type,pos,after,guard⟩ fr).log hp)) =
     ((ba 1000 as).run hp).bind fun qf=>match C.gM g with
       |some h=>(h qf).bind fun q=>((ee nm q.1 q.2).run hp).map fun e=>(e,(ba 1000 as).log hp)
       |none=>(o9 C k g qf []).bind (rB nm ((ba 1000 as).log hp) hp):=by
    intro k
    have:=Cg (C:=C) (F:=fun as=>o9 C k g as []) (nm:=nm) (g:=g) (args:=as) (hp:=hp)
    simp only[kD,hr,tO]
    exact this
   simp only[HB]
   cases hs:(ba 1000 as).run hp with
   |none=>exact cM hg hz fun k=>by rw[fq,hs]; rfl
   |some qf=>
    simp only[Option.bind_some]
    cases hi:C.gM g with
    |some h=>exact cM hg hz fun k=>by rw[fq,hs]; simp only[Option.bind_some,hi]
    |none=>
     refine ik hg (kP C g qf []) hz fun k=>?_
     rw[fq,hs]
     simp only[Option.bind_some,hi]
  |false=>
  simp only
  cases hk:C.kind g with
  |imp=>
   cases hi:C.rj g with
   |some h=>exact cM hg hz fun k=>by simp only[kD,hr,tO,hk,hi]
   |none=>exact cM hg hz fun k=>by simp only[kD,hr,tO,hk,hi]
  |pure=>
   simp only
   have qg:∀ k,kD C (k+1) nm ⟨dst,.call ⟨.value f,args,rb⟩,type,pos,after,guard⟩ fr =
     (pd C k g as >>= fun (x:p6×List (Nat×aY))=>match x.1 with|.val r=>(pure ⟨r,x.2⟩:RM ed)|.nY _=>RM.fail):=by
    intro k
    simp only[kD,hr,tO,hk]
    congr 1
   cases hs:(ba 1000 as).run hp with
   |none=>
    have bK:∀ k,(pd C k g as).run hp=none:=by
     intro k
     cases k with
     |zero=>simp[pd,RM.aj]
     |succ k=>rw[pd,RM.run_bind,hs]; rfl
    have:(match C.kT g with
      |some h=>(none:Option (List AV)).bind fun qf=>(h qf).bind fun r=>pG hp as (.val r,[])
      |none=>(none:Option (List AV)).bind fun qf=>(jk C g qf []).bind (pG hp as))=none:=by cases C.kT g<;>rfl
    rw[this]
    refine cM hg hz fun k=>?_
    rw[qg,RM.run_bind,bK]; rfl
   |some qf=>
    cases hi:C.kT g with
    |some h=>
     simp only[Option.bind_some]
     have h1:∀ k,(pd C (k+1) g as).run hp=(h qf).bind fun r=>pA hp as (.val r,[]):=by
      intro k
      rw[pd,RM.run_bind,hs]
      simp only[Option.bind_some,hi]
      cases h qf<;>rfl
     have h2:∀ k,(pd C (k+1) g as).log hp=(ba 1000 as).log hp++(match h qf with|some r=>(ie as [] (.val r)).log hp|none=>[]):=by
      intro k
      rw[pd,RM.fN,hs]
      simp only[hi]
      cases h qf<;>rfl
     have h3:∀ k,((kD C (k+1+1) nm ⟨dst,.call ⟨.value f,args,rb⟩,type,pos,after,guard⟩ fr).run hp).map (fun e=>(e,(kD C (k+1+1) nm ⟨dst,.call ⟨.value f,args,rb⟩,type,pos,after,guard⟩ fr).log hp))=(h qf).bind fun r=>pG hp as (.val r,[]):=by
      intro k
      rw[qg,RM.run_bind,RM.fN,h1,h2]
      cases hh:h qf with
      |none=>rfl
      |some r=>
       simp only[Option.bind_some,pG]
       cases cW:pA hp as (.val r,[]) with
       |none=>rfl
       |some r=>
        obtain⟨r,wr⟩:=r
        cases r with
        |val v=>simp only[Option.bind_some,pure,RM.log,List.append_nil]; rfl
        |nY v=>rfl
     apply mA hg
     ·intro k x hx
      match k with
      |0=>rw[hz]at hx; cases hx
      |1=>
       rw[qg,RM.run_bind]at hx
       simp[pd,RM.aj]at hx
      |k+2=>rw[←h3 k]; exact hx
     ·intro x hx
      exact⟨2,by rw[h3 0]; exact hx⟩
    |none=>
     simp only[Option.bind_some]
     have h3:∀ k,((kD C (k+1+1) nm ⟨dst,.call ⟨.value f,args,rb⟩,type,pos,after,guard⟩ fr).run hp).map (fun e=>(e,(kD C (k+1+1) nm ⟨dst,.call ⟨.value f,args,rb⟩,type,pos,after,guard⟩ fr).log hp))=(o9 C k g qf []).bind (pG hp as):=by
      intro k
      cases hq:o9 C k g qf [] with
      |none=>
       rw[qg,RM.run_bind,pd,RM.run_bind,hs]
       simp only[Option.bind_some,hi,hq,RM.aj]
       rfl
      |some q=>
       rw[qg]
       exact Mr hs hi hq
     have hb:tP (fun k=>(o9 C k g qf []).bind (pG hp as))=(jk C g qf []).bind (pG hp as):=Jm (kP C g qf []) _
     rw[←hb]
     apply mA hg
     ·intro k x hx
      match k with
      |0=>rw[hz]at hx; cases hx
      |1=>
       rw[qg,RM.run_bind]at hx
       simp[pd,RM.aj]at hx
      |k+2=>
       rw[h3 k]at hx
       rw[hb]
       cases hq:o9 C k g qf [] with
       |none=>rw[hq]at hx; simp at hx
       |some q=>rw[hq]at hx; rw[show jk C g qf []=some q from (bj (kP C g qf [])).2 ⟨k,hq⟩]; exact hx
     ·intro x hx
      rw[hb]at hx
      cases hq:jk C g qf [] with
      |none=>rw[hq]at hx; simp at hx
      |some q=>
       rw[hq]at hx
       obtain⟨k,hk⟩:=(bj (kP C g qf [])).1 hq
       exact⟨k+1+1,by rw[h3 k,hk]; exact hx⟩
end Go.PI
end
section
/- PI, guards resolved. -/
namespace Go.PI
inductive G where
 |always
 |never
 |on (d:Tmp) (w:Bool)
def fL(ops:Array Oper)(o:Oper):G:=
 match o.guard with
 |none=>.always
 |some (j,w)=>match (ops[j]?).bind (·.dst) with
  |none=>.never
  |some d=>.on d w
def Wl(w:Bool):AV→Option Bool
 |.lit (.bool b)=>some (b==w)
 |.lit (.tuple _)=>some false
 |_=>none
def u4(fr:List AV):G→Option Bool
 |.always=>some true
 |.never=>some false
 |.on d w=>Wl w (fr.getD d .undef)
theorem EA(ops:Array Oper)(fr:List AV)(o:Oper):dh ops fr o=u4 fr (fL ops o):=by
 unfold dh fL
 cases o.guard with
 |none=>rfl
 |some q=>
  obtain⟨j,w⟩:=q
  simp only
  cases (ops[j]?).bind (·.dst) with
  |none=>rfl
  |some d=>
   simp only[u4,List.getD]
   cases hq:fr[d]? with
   |none=>rfl
   |some v=>
    simp only[Option.getD_some]
    cases v with
    |lit v=>cases v<;>rfl
    |_=>rfl
end Go.PI
end
section
/- PI, looking up in written-out frames. -/
namespace Go.PI
section
variable {α:Type}{x u v:AV}{l:List AV}{n:Nat}
theorem Pv:(x::l).getD 0 u=x:=rfl
theorem Pw:(x::l).getD (n+1) u=l.getD n u:=rfl
theorem Px:(x::l).set 0 v=v::l:=rfl
theorem Py:(x::l).set (n+1) v=x::l.set n v:=rfl
end
end Go.PI
end
section
/- PI, laws to compute by. -/
namespace Go.PI
abbrev int(n:Int):AV:=.lit (.int .i64 n)
abbrev bol(b:Bool):AV:=.lit (.bool b)
section
variable {P:Program}{t:TypeId}{xo yo:Operand}{k:IntKind}{a b:Int}
theorem fO{op:BinOp}{v w:Value}{α:Type}(K:Unit→Sem α)(h:∀ c,v≠.agg c)(h2:v≠.nilIface):
  bN P (eqGuard op t xo yo v w >>= K)=bN P (K ()):=by
 unfold eqGuard
 cases op<;>first
  |rfl
  |(cases v<;>first|rfl|exact absurd rfl (h _)|exact absurd rfl h2)
theorem sD[ag]:gb P .lss t xo yo (.lit (.int k a)) (.lit (.int k b))=some (bol (decide (a<b))):=by
 simp only[gb,fj,dP]; rw[fO _ (by simp) (by simp)]; simp[binOp,Op.intCmp]; rfl
theorem Qh[ag]:gb P .leq t xo yo (.lit (.int k a)) (.lit (.int k b))=some (bol (decide (a≤b))):=by
 simp only[gb,fj,dP]; rw[fO _ (by simp) (by simp)]; simp[binOp,Op.intCmp]; rfl
theorem Js[ag]:gb P .gtr t xo yo (.lit (.int k a)) (.lit (.int k b))=some (bol (decide (b<a))):=by
 simp only[gb,fj,dP]; rw[fO _ (by simp) (by simp)]; simp[binOp,Op.intCmp]; rfl
theorem Qi[ag]:gb P .geq t xo yo (.lit (.int k a)) (.lit (.int k b))=some (bol (decide (b≤a))):=by
 simp only[gb,fj,dP]; rw[fO _ (by simp) (by simp)]; simp[binOp,Op.intCmp]; rfl
theorem Qj[ag]:gb P .eql t xo yo (.lit (.int k a)) (.lit (.int k b))=some (bol (decide (a=b))):=by
 simp only[gb,fj,dP]; rw[fO _ (by simp) (by simp)]; simp[binOp,Op.intCmp]; rfl
theorem Qk[ag]:gb P .neq t xo yo (.lit (.int k a)) (.lit (.int k b))=some (bol (!decide (a=b))):=by
 simp only[gb,fj,dP]; rw[fO _ (by simp) (by simp)]; simp[binOp,Op.intCmp]; rfl
theorem Dw[ag]:gb P .add t xo yo (.lit (.int k a)) (.lit (.int k b))=some (.lit (.int k (k.wrap (a+b)))):=by
 simp only[gb,fj,dP]; rw[fO _ (by simp) (by simp)]; simp[binOp,Op.intArith]; rfl
theorem Jt[ag]:gb P .sub t xo yo (.lit (.int k a)) (.lit (.int k b))=some (.lit (.int k (k.wrap (a-b)))):=by
 simp only[gb,fj,dP]; rw[fO _ (by simp) (by simp)]; simp[binOp,Op.intArith]; rfl
theorem Ql[ag]:gb P .mul t xo yo (.lit (.int k a)) (.lit (.int k b))=some (.lit (.int k (k.wrap (a*b)))):=by
 simp only[gb,fj,dP]; rw[fO _ (by simp) (by simp)]; simp[binOp,Op.intArith]; rfl
end
variable {C:Ctx}
noncomputable def vq[ag](C:Ctx):List (G×Oper)→St→Option Out
 |[],s=>some (.norm s)
 |(g,o)::l,s=>
  match u4 s.fr g with
  |none=>none
  |some false=>vq C l { s with fr:=bX s.fr o.dst .undef }
  |some true=>(jm C o s).bind fun
   |.norm s'=>vq C l s'
   |r=>some r
def qJ(ops:Array Oper):List (G×Oper):=ops.toList.map fun o=>(fL ops o,o)
theorem rK[ag](ops:Array Oper):∀ (l:List Oper) (s:St),dg (jm C) ops l s=vq C (l.map fun o=>(fL ops o,o)) s
 |[],s=>rfl
 |o::l,s=>by
  simp only[dg,List.map_cons,vq,EA]
  cases hq:u4 s.fr (fL ops o) with
  |none=>rfl
  |some b=>
   cases b with
   |false=>exact rK ops l _
   |true=>
    simp only
    cases jm C o s with
    |none=>rfl
    |some r=>
     cases r with
     |norm s'=>exact rK ops l s'
     |_=>rfl
theorem Cl[ag](id:Nat)(ops:Array Oper)(s:St):du C (.region id ops false) s=vq C (qJ ops) (iJ (C.iU s.fn id) s):=by
 rw[ER,rK]; rfl
theorem iW[ag][jn C](id:Nat)(ops:Array Oper)(s:St):du C (.region id ops false) s=vq C (qJ ops) s:=by
 rw[Cl,jn.iU (C:=C)]; rfl
theorem jY[ag](s:St):vq C [] s=some (.norm s):=rfl
noncomputable def R0[ag](C:Ctx)(l:List (G×Oper)):Out→Option Out
 |.norm s=>vq C l s
 |r=>some r
theorem er[ag](o:Oper)(l:List (G×Oper))(s:St):vq C ((.always,o)::l) s=(jm C o s).bind (R0 C l):=by
 simp only[vq,u4]
 congr 1
end Go.PI
namespace Go.PI
variable {C:Ctx}
theorem Dx(hp:ak)(x:Option AV):(match x with|some x=>(pure ⟨x,[]⟩:RM ed)|none=>RM.fail).run hp=x.map fun x=>⟨x,[]⟩:=by
 cases x<;>rfl
section
variable {P:Program}{nm:Nat}{ev:Operand→AV}{dst:Option Tmp}{type:TypeId}{pos:String}{after:Array Edge}{guard:Option (Nat×Bool)}{hp:ak}
theorem oe{x:Operand}:(aV P nm ev ⟨dst,.move x,type,pos,after,guard⟩).run hp=some ⟨ev x,[]⟩:=rfl
theorem lf{x:Operand}:(aV P nm ev ⟨dst,.assign x,type,pos,after,guard⟩).run hp=some ⟨ev x,[]⟩:=rfl
theorem wP[ag]{op:BinOp}{t yt:TypeId}{x y:Operand}:(aV P nm ev ⟨dst,.binOp op t x y yt,type,pos,after,guard⟩).run hp=(gb P op t x y (ev x) (ev y)).map fun x=>⟨x,[]⟩:=Dx _ _
end
section
variable {dst:Option Tmp}{type:TypeId}{pos:String}{after:Array Edge}{guard:Option (Nat×Bool)}{s:St}
theorem og[ag][jn C]{x:Operand}:jm C ⟨dst,.move x,type,pos,after,guard⟩ s=((aV C.P s.hp.length (aP s.fr) ⟨dst,.move x,type,pos,after,guard⟩).run s.hp).bind (gE ⟨dst,.move x,type,pos,after,guard⟩ s):=fe rfl s
theorem BJ[ag][jn C]{t:TypeId}{n:Nat}{ps:Array (Nat×Operand)}:jm C ⟨dst,.buildSlice t n ps,type,pos,after,guard⟩ s=((aV C.P s.hp.length (aP s.fr) ⟨dst,.buildSlice t n ps,type,pos,after,guard⟩).run s.hp).bind (gE ⟨dst,.buildSlice t n ps,type,pos,after,guard⟩ s):=fe rfl s
theorem Ju[ag][jn C]{t:TypeId}{x:Operand}:jm C ⟨dst,.load t x,type,pos,after,guard⟩ s=((aV C.P s.hp.length (aP s.fr) ⟨dst,.load t x,type,pos,after,guard⟩).run s.hp).bind (gE ⟨dst,.load t x,type,pos,after,guard⟩ s):=fe rfl s
theorem pH[ag][jn C]{o:BinOp}{t u:TypeId}{x y:Operand}:jm C ⟨dst,.binOp o t x y u,type,pos,after,guard⟩ s=((aV C.P s.hp.length (aP s.fr) ⟨dst,.binOp o t x y u,type,pos,after,guard⟩).run s.hp).bind (gE ⟨dst,.binOp o t x y u,type,pos,after,guard⟩ s):=fe rfl s
theorem MH[ag][jn C]{t:TypeId}{x:Operand}{a b c:Option Operand}:jm C ⟨dst,.slice t x a b c,type,pos,after,guard⟩ s=((aV C.P s.hp.length (aP s.fr) ⟨dst,.slice t x a b c,type,pos,after,guard⟩).run s.hp).bind (gE ⟨dst,.slice t x a b c,type,pos,after,guard⟩ s):=fe rfl s
theorem vt[ag][jn C]{t:TypeId}{x y:Operand}:jm C ⟨dst,.indexAddr t x y,type,pos,after,guard⟩ s=((aV C.P s.hp.length (aP s.fr) ⟨dst,.indexAddr t x y,type,pos,after,guard⟩).run s.hp).bind (gE ⟨dst,.indexAddr t x y,type,pos,after,guard⟩ s):=fe rfl s
theorem lh[ag][jn C]{b:Builtin}{as:Array Operand}{ts:Array TypeId}:jm C ⟨dst,.call ⟨.builtin b,as,ts⟩,type,pos,after,guard⟩ s=((aV C.P s.hp.length (aP s.fr) ⟨dst,.call ⟨.builtin b,as,ts⟩,type,pos,after,guard⟩).run s.hp).bind (gE ⟨dst,.call ⟨.builtin b,as,ts⟩,type,pos,after,guard⟩ s):=fe rfl s
theorem pI[ag][jn C]{t:Tmp}:jm C ⟨dst,.assign (.tmp t),type,pos,after,guard⟩ s=((aV C.P s.hp.length (aP s.fr) ⟨dst,.assign (.tmp t),type,pos,after,guard⟩).run s.hp).bind (gE ⟨dst,.assign (.tmp t),type,pos,after,guard⟩ s):=fe rfl s
theorem MI[ag][jn C]{k:IntKind}{n:Int}:jm C ⟨dst,.assign (.const (.int k n)),type,pos,after,guard⟩ s=((aV C.P s.hp.length (aP s.fr) ⟨dst,.assign (.const (.int k n)),type,pos,after,guard⟩).run s.hp).bind (gE ⟨dst,.assign (.const (.int k n)),type,pos,after,guard⟩ s):=fe rfl s
end
end Go.PI
namespace Go.PI
variable {C:Ctx}
theorem Dy{x:AV}:cY [x]=x:=rfl
theorem Dz{P:Program}{fr:List AV}{hp:ak}:(bh P fr []).run hp=some []:=rfl
theorem DA[ag]{P:Program}{fr:List AV}{hp:ak}{t:Tmp}{rs:List ResultVar}:(bh P fr (.tmp t::rs)).run hp=((bh P fr rs).run hp).map fun l=>fr.getD t .undef::l:=by
 simp only[bh,lC,RM.run_bind]
 show (some (fr.getD t .undef)).bind _=_
 simp only[Option.bind_some]
 cases (bh P fr rs).run hp<;>rfl
theorem jZ{hp:ak}:av hp []=hp:=rfl
theorem Ah{hp:ak}{n:Nat}{o:aY}{l:List (Nat×aY)}:av hp ((n,o)::l)=av (setObj hp n o) l:=rfl
theorem tS{hp:ak}{n:Nat}{o:aY}(h:n=hp.length):setObj hp n o=hp++[some o]:=by simp[setObj,h]
def Ti:Option (Nat×bO)→AV→Option ed
 |some (off,_),.ref n ax i j=>some ⟨.ref n ax i (j+off),[]⟩
 |some (off,_),.bq e j=>some ⟨.bq e (j+off),[]⟩
 |_,_=>none
def MJ(x:Option AV):Option ed:=x.map fun x=>⟨x,[]⟩
def Jv(r:bO)(hp:ak):AV→Option AV
 |.ref n ax i j=>match hp[n]? with
  |some (some (.arr _ _ _ es))=>if es.length=ax then (match es[i]? with|some e=>fX r.isAgg r.size e j|none=>none) else none
  |_=>none
 |.bq e j=>fX r.isAgg r.size e j
 |_=>none
theorem ML[ag]{P:Program}{t:TypeId}{r:bO}(ht:ga P t=some r){hp:ak}{a:AV}:(mo P t a).run hp=Jv r hp a:=by
 unfold mo Jv
 rw[ht]
 simp only
 cases a with
 |ref n ax i j=>
  simp only[RM.arr]
  show (RM.bind (.get n _) _).run hp=_
  simp only[RM.bind,RM.run]
  cases hp[n]? with
  |none=>rfl
  |some o=>
   cases o with
   |none=>rfl
   |some o=>
    cases o with
    |iC _ _=>rfl
    |arr g c f es=>
     simp only
     split
     ·simp only[RM.bind]
      cases es[i]? with
      |none=>rfl
      |some e=>simp only[RM.kX]
     ·rfl
 |bq e j=>simp only[RM.kX]
 |_=>rfl
section
variable {P:Program}{nm:Nat}{ev:Operand→AV}{dst:Option Tmp}{type:TypeId}{pos:String}{after:Array Edge}{guard:Option (Nat×Bool)}{hp:ak}
theorem Qm[ag]{t:TypeId}{x:Operand}{r:bO}(ht:ga P t=some r):(aV P nm ev ⟨dst,.load t x,type,pos,after,guard⟩).run hp=MJ (Jv r hp (ev x)):=by
 rw[←ML (P:=P) (t:=t) ht]
 unfold aV
 simp only[RM.run_bind]
 cases (mo P t (ev x)).run hp<;>rfl
end
end Go.PI
namespace Go.PI
variable {C:Ctx}
def Qn(hp:ak)(args:List AV)(r':AV):Option (p6×List (Nat×aY)):=
 cond (flat r') (some (.val r',[])) (((eU 1000 (cQ args)).run hp).map fun w=>(.val r',w))
theorem Cm[ag]{hp eV:ak}{args:List AV}{r:AV}:pA hp args (.val r,eV)=((bn 1000 r).run eV).bind (Qn hp args):=by
 simp only[pA,ie]
 cases hq:(bn 1000 r).run eV with
 |none=>rfl
 |some r'=>
  simp only[Option.bind_some,Qn]
  cases flat r' with
  |true=>rfl
  |false=>
   simp only[Bool.false_eq_true,if_false,RM.run_bind,cond_false]
   cases (eU 1000 (cQ args)).run hp<;>rfl
theorem HK{f:FuncId}{args:List AV}:bU (.lit (.func (.func f) #[] #[])) args=some (f,args):=by
 simp[bU]
end Go.PI
namespace Go.PI
variable {C:Ctx}
theorem HM[ag]{a b:Code}{s:St}:Zn C a b s (.lit (.bool true))=du C a s:=rfl
theorem Ai[ag]{a b:Code}{s:St}:Zn C a b s (.lit (.bool false))=du C b s:=rfl
end Go.PI
namespace Go.PI
variable {C:Ctx}
theorem MM[ag]{b:Code}(Inv:Nat→St→Prop)(Kz:Out→Prop)
  (step:∀ k s,Inv k s→(∃ s',du C b s=some (.norm s')∧∃ k',k'<k∧Inv k' (iK s.hp.length s'))∨(∃ o,du C b s=some o∧(∀ s',o≠.norm s')∧Kz o)) :
  ∀ k s,Inv k s→∃ o,du C (.loop b) s=some o∧Kz o:=by
 intro k
 induction k using Nat.strongRecOn with
 |ind k ih=>
  intro s hs
  rcases step k s hs with ⟨s',h1,k',hk,hi⟩|⟨o,h1,h2,h3⟩
  ·obtain⟨o,h4,h5⟩:=ih k' hk _ hi
   refine⟨o,?_,h5⟩
   rw[pv,h1]
   exact h4
  ·refine⟨o,?_,h3⟩
   rw[pv,h1]
   cases o with
   |norm s'=>exact absurd rfl (h2 s')
   |_=>rfl
theorem Cn[ag]{b:Code}{s:St}{β:Type}{K:Out→Option β}{r:Option β}(Inv:Nat→St→Prop)(Kz:Out→Prop)(k0:Nat)(h0:Inv k0 s)
  (step:∀ k s,Inv k s→(∃ s',du C b s=some (.norm s')∧∃ k',k'<k∧Inv k' (iK s.hp.length s'))∨(∃ o,du C b s=some o∧(∀ s',o≠.norm s')∧Kz o))
  (fin:∀ o,Kz o→K o=r):(du C (.loop b) s).bind K=r:=by
 obtain⟨o,h1,h2⟩:=MM Inv Kz step k0 s h0
 rw[h1]
 exact fin o h2
def Jw(agg:Bool)(size:Nat)(hp:ak):AV→Option AV
 |.ref n ax i j=>match hp[n]? with
  |some (some (.arr _ _ _ es))=>if es.length=ax then (match es[i]? with|some e=>fX agg size e j|none=>none) else none
  |_=>none
 |.bq e j=>fX agg size e j
 |_=>none
theorem Qo{r:bO}{agg:Bool}{size:Nat}(h1:r.isAgg=agg)(h2:r.size=size)(hp:ak)(a:AV):Jv r hp a=Jw agg size hp a:=by
 subst h1 h2
 cases a<;>rfl
def pJ(agg:Bool)(size:Nat)(i:Nat):AV→Option AV
 |.sl xs=>match xs[i]? with
  |some e=>if aF agg size e=true then some (.bq e 0) else none
  |none=>none
 |.mq xs _=>match xs[i]? with
  |some e=>if aF agg size e=true then some (.bq e 0) else none
  |none=>none
 |.bw esz n ax off len _=>if i<len∧0<size∧esz=size then some (.ref n ax (off+i) 0) else none
 |.jw n ax k j len _=>if i<len then some (.ref n ax k (j+i*size)) else none
 |_=>none
theorem tT{k:IntKind}{n:Nat}:asNat (.lit (.int k (n:Int)))=some n:=by simp[asNat]
def MN(P:Program)(nm:Nat)(ev:Operand→AV)(o:Oper)(hp:ak):Option ed:=(aV P nm ev o).run hp
def KA(d:Option ed):AV→Option ed
 |.sl xs=>some ⟨int xs.length,[]⟩
 |.mq xs _=>some ⟨int xs.length,[]⟩
 |.bw _ _ _ _ len _=>some ⟨int len,[]⟩
 |.jw _ _ _ _ len _=>some ⟨int len,[]⟩
 |_=>d
theorem MO{P:Program}{t:TypeId}{r:bO}(h:aU P t=some r)(ha:arrayElem P t=none)(x ix:AV):
  gg P t x ix=(asNat ix).bind fun i=>pJ r.isAgg r.size i x:=by
 unfold gg
 cases asNat ix with
 |none=>rfl
 |some i=>
  simp only[Option.bind_some,h,ha]
  cases x with
  |sl xs=>simp only[pJ]; cases xs[i]?<;>rfl
  |mq xs c=>simp only[pJ]; cases xs[i]?<;>rfl
  |_=>rfl
section
variable {P:Program}{nm:Nat}{ev:Operand→AV}{dst:Option Tmp}{type:TypeId}{pos:String}{after:Array Edge}{guard:Option (Nat×Bool)}{hp:ak}
theorem vu[ag]{t:TypeId}{x y:Operand}:(aV P nm ev ⟨dst,.indexAddr t x y,type,pos,after,guard⟩).run hp=MJ (gg P t (ev x) (ev y)):=Dx _ _
theorem HN{t type:TypeId}{x:Operand}(h:cf P t=true):(aV P nm ev ⟨dst,.call ⟨.builtin .len,#[x],#[t]⟩,type,pos,after,guard⟩).run hp =
  KA (MN P nm ev ⟨dst,.call ⟨.builtin .len,#[x],#[t]⟩,type,pos,after,guard⟩ hp) (ev x):=by
 cases hx:ev x with
 |sl xs=>simp[aV,dW,hx,h,p8,KA]; rfl
 |mq xs c=>simp[aV,dW,hx,h,p8,KA]; rfl
 |bw a b c d e f=>simp[aV,dW,hx,h,p8,KA]; rfl
 |jw a b c d e f=>simp[aV,dW,hx,h,p8,KA]; rfl
 |_=>rfl
end
end Go.PI
namespace Go.PI
variable {C:Ctx}
theorem dD[ag]{b:Code}{s:St}:andThen C b (.norm s)=du C b s:=rfl
theorem vv[ag]{b:Code}{s:St}{i:Nat}:andThen C b (.exit i s)=some (.exit i s):=rfl
theorem fm[ag]{l:List (G×Oper)}{s:St}:R0 C l (.norm s)=vq C l s:=rfl
theorem xS{i:Nat}{s:St}:wK i (.norm s)=some (.norm s):=rfl
theorem Co{i:Nat}{s:St}:wK i (.exit i s)=some (.norm s):=by simp[wK]
theorem Aj{rs:Array ResultVar}{s:St}:Mk C rs (.ret s)=((bh C.P s.fr rs.toList).run s.hp).map fun l=>(.val (cY l),s.hp):=rfl
theorem E7{n:Nat}{s:St}(h:(s.hp.take n).all (mb n)=true):iK n s=⟨s.fn,s.fr.map (forget n),s.hp.take n⟩:=by
 simp[iK,h]
theorem KB{n:Nat}{v:AV}(h:below n v=true):forget n v=v:=by simp[forget,h]
end Go.PI
namespace Go.PI
theorem DB{d:Option ed}{xs:List AV}:KA d (.sl xs)=some ⟨int xs.length,[]⟩:=rfl
end Go.PI
namespace Go.PI
end Go.PI
end
section
/- PI, calls whose argument may be a nil slice or not: both are looked at. -/
namespace Go.PI
end Go.PI
end
section
/- PI, the laws: what a law's own call comes to. -/
namespace Go.PI
open Go.RowKit
theorem Kp[ag]{C:Ctx}(ck:C.Ok){f:FuncId}{args:List AV}{cW:ak}(h:jk C f args []=some (.val (.lit (.bool true)),cW))
  {W:World} (hg:me (Env.all W)) {vs:List Value} (ha:aw (Env.all W) false args vs) :
  Calls C.P f vs.toArray W fun e w'=>e=.returned (.bool true)∧Below W.heap.size W w':=by
 obtain⟨k,hk⟩:=(bj (kP C f args [])).1 h
 refine((sound ck k).1 f args [] _ _ hk (Env.all W) W vs (P6 W hg) ha.jz).mono fun e w' eL=>?_
 obtain⟨E',_,_,gi,dL⟩:=eL
 refine⟨?_,gi.os,gi.tape,gi.out,gi.size,fun b hb=>gi.same b hb (fun h=>h.elim)⟩
 cases e with
 |returned v=>simp only[zO,au]at dL; rw[dL]
 |panicked ch=>exact dL.elim
 |outgrown=>exact dL.elim
end Go.PI
end
section
/- PS, part A: symbolic values over the abstract ones, with typed lists of open length, and the operations on them (definitions only). -/
namespace Go.PI
def aE{α β:Type}(P:α→β→Prop):List α→List β→Prop
 |[],[]=>True
 |x::xs,y::ys=>P x y∧aE P xs ys
 |_,_=>False
def CH{den:Nat→Type}{t t':Nat}(h:t=t')(l:List (den t)):List (den t'):=h▸l
def KK.D:KK→Type
 |.int _=>Int
 |.str=>ByteArray
 |.bool=>Bool
def KK.v:(kk:KK)→kk.D→Value
 |.int q,k=>.int q k
 |.str,k=>.string k
 |.bool,k=>.bool k
def KK.get:(kk:KK)→Value→Option kk.D
 |.int q,v=>(match v with
  |.int q' k=>if q=q' then some k else none
  |_=>none)
 |.str,v=>(match v with
  |.string k=>some k
  |_=>none)
 |.bool,v=>(match v with
  |.bool k=>some k
  |_=>none)
def KK.beq:(kk:KK)→kk.D→kk.D→Bool
 |.int _,(a:Int),(b:Int)=>a==b
 |.str,(a:ByteArray),(b:ByteArray)=>a==b
 |.bool,(a:Bool),(b:Bool)=>a==b
def mj(kk:KK){α:Type}:List (kk.D×α)→kk.D→Option α
 |[],_=>none
 |(k',v)::r,k=>cond (kk.beq k k') (some v) (mj kk r k)
def oX(kk:KK){α:Type}:List (kk.D×α)→kk.D→α→List (kk.D×α)
 |[],k,v=>[(k,v)]
 |(k',v')::r,k,v=>cond (kk.beq k k') ((k',v)::r) ((k',v')::oX kk r k v)
deriving instance DecidableEq for m9
inductive SV(den:Nat→Type):Type where
 |dead
 |hole
 |lit (v:Value)
 |agg (l:List (SV den))
 |kC (l:List (SV den))
 |sl (xs:List (SV den))
 |jN (t:Nat) (l:List (den t))
 |bq (e:SV den) (j:Nat)
 |ref (n c i j:Nat)
 |jw (n c i j len cap:Nat)
 |bw (esz n c:Nat) (rg:Option (Nat×Nat)) (cap:Option Nat)
 |jP (fn:Fn) (first captured:List (SV den))
 |jQ (t:TypeId) (v:SV den)
 |mp (y:Bool) (n:Nat)
 |uQ (v:SV den) (bl len i:Nat)
 |zj (t:Nat) (l:List (den t)) (cap:Nat) (b:Bool)
 |nz
instance {den:Nat→Type}:Inhabited (SV den):=⟨.dead⟩
inductive aK(den:Nat→Type):Type where
 |arr (grow cl fz:Bool) (cur:Nat) (es:List (SV den))
 |cD (grow fz:Bool) (cur:Nat) (t:Nat) (l:List (den t))
 |jc
 |lT (kk:KK) (t:Nat) (m:List (kk.D×den t))
 |qT (fn:FuncId) (ps:Array Tmp) (as bd:Code) (fr:List (SV den))
abbrev aq(den:Nat→Type):=List (Option (aK den))
abbrev uR(den:Nat→Type):=List (Nat×SV den)
structure bQ(den:Nat→Type)where
 fn:FuncId
 n:Nat
 fr:uR den
 hp:aq den
 wf:List Nat
 wh:List Nat
 js:List (Nat×m9)
inductive qU(den:Nat→Type)where
 |norm (s:bQ den)
 |exit (id:Nat) (s:bQ den)
 |ret (s:bQ den)
inductive Tr:Type→Type 1 where
 |ret {ρ:Type} (r:ρ):Tr ρ
 |fail {ρ:Type}:Tr ρ
 |cond {ρ:Type} (b:Bool) (x y:Tr ρ):Tr ρ
 |bind {ρ α:Type} (e:Option α) (k:α→Tr ρ):Tr ρ
 |loop {ρ τ ω:Type} (f:τ→Tr (τ ⊕ ω)) (x:τ) (k:ω→Tr ρ):Tr ρ
 |sum {ρ α β:Type} (e:α ⊕ β) (k:α→Tr ρ) (l:β→Tr ρ):Tr ρ
 |no {ρ:Type} (why:String):Tr ρ
 |nR {ρ:Type} {den:Nat→Type} (s:bQ den) (b:Code):Tr ρ
 |bad {ρ:Type} {den:Nat→Type} (key:Nat) (kind:Option (Option Nat)) (s0 s:bQ den):Tr ρ
def lR{τ ω:Type}(f:τ→Option (τ ⊕ ω)):Nat→τ→Option ω
 |0,_=>none
 |n+1,x=>match f x with
  |some (.inl y)=>lR f n y
  |some (.inr w)=>some w
  |none=>none
noncomputable def aX{τ ω:Type}(f:τ→Option (τ ⊕ ω))(x:τ):Option ω:=
 match lR f 4096 x with
 |some w=>some w
 |none=>tP fun n=>lR f n x
noncomputable def Tr.run{ρ:Type}:Tr ρ→Option ρ
 |.ret r=>some r
 |.fail|.no _|.nR _ _|.bad _ _ _ _=>none
 |.cond b x y=>_root_.cond b x.run y.run
 |.bind e k=>_root_.Option.bind e fun a=>(k a).run
 |.loop f x k=>_root_.Option.bind (aX (fun x=>(f x).run) x) fun w=>(k w).run
 |.sum e k l=>Sum.elim (fun a=>(k a).run) (fun b=>(l b).run) e
structure eh where
 den:Nat→Type
 up:(t:Nat)→den t→SV den
 dn:(t:Nat)→SV den→Option (den t)
 rp:(t:Nat)→den t→AV→Prop
 agg:Nat→Bool
 size:Nat→Nat
 zero:(t:Nat)→Option (den t)
section
variable {den:Nat→Type}
def aK.cur:aK den→Nat
 |.arr _ _ _ c _=>c
 |.cD _ _ c _ _=>c
 |_=>0
def aK.len:aK den→Nat
 |.arr _ _ _ _ es=>es.length
 |.cD _ _ _ _ l=>l.length
 |_=>0
def NJ:Value→SV den
 |.agg c=>if c.toList.all (fun v=>bt (.lit v))=true then .agg (c.toList.map .lit) else .dead
 |.tuple c=>.kC (c.toList.map .lit)
 |v=>.lit v
def dj:uR den→Nat→SV den
 |[],_=>.lit undef
 |(d,v)::r,t=>match Nat.beq d t with
  |true=>v
  |false=>dj r t
def fZ[ag](fr:uR den):Operand→SV den
 |.tmp t=>dj fr t
 |.const v=>NJ v
 |.global g=>(match ag.g g with
  |none=>.lit (.pointer (some ⟨g,0,none⟩))
  |some c=>.bq (.agg (c.toList.map .lit)) 0)
 |.func f=>.lit (.func (.func f) #[] #[])
def vO(n:Nat)(fr:uR den)(d:Nat)(v:SV den):uR den:=
 match Nat.ble n d with
 |true=>fr
 |false=>(d,v)::fr
def NK(n:Nat)(fr:uR den)(dst:Option Tmp)(v:SV den):uR den:=
 match dst with
 |some d=>vO n fr d v
 |none=>fr
def oA:Nat→List (SV den)→uR den
 |_,[]=>[]
 |d,v::r=>(d,v)::oA (d+1) r
def cd(hp:aq den)(n:Nat)(o:aK den):aq den:=
 if n=hp.length then hp++[some o] else hp.set n (some o)
def bu(hp:aq den):List (Nat×aK den)→aq den
 |[]=>hp
 |(n,o)::r=>bu (cd hp n o) r
def cL:SV den→Bool
 |.dead=>true
 |_=>false
def iw:SV den→Bool
 |.lit v=>match v with
  |.agg _|.tuple _=>false
  |_=>true
 |.agg _|.kC _|.dead|.hole=>false
 |_=>true
mutual
def aM:SV den→Bool
 |.lit _|.sl _|.jN _ _|.bq _ _|.zj _ _ _ _=>true
 |.agg l|.kC l=>aD l
 |.jQ _ v=>aM v
 |.uQ v _ _ _=>aM v
 |.jP _ f c=>aD f&&aD c
 |_=>false
def aD:List (SV den)→Bool
 |[]=>true
 |x::xs=>aM x&&aD xs
end
mutual
def yg:SV den→Bool
 |.lit _=>true
 |.agg l|.kC l=>DW l
 |.jQ _ v=>yg v
 |_=>false
def DW:List (SV den)→Bool
 |[]=>true
 |x::xs=>yg x&&DW xs
end
mutual
def bM(n:Nat):SV den→Bool
 |.lit _|.sl _|.jN _ _|.bq _ _|.zj _ _ _ _|.hole|.nz=>true
 |.agg l|.kC l=>iy n l
 |.jQ _ v=>bM n v
 |.jP _ f c=>iy n f&&iy n c
 |.uQ v _ _ _=>bM n v
 |.ref m _ _ _|.jw m _ _ _ _ _|.bw _ m _ _ _|.mp _ m=>decide (m<n)
 |.dead=>false
def iy(n:Nat):List (SV den)→Bool
 |[]=>true
 |x::xs=>bM n x&&iy n xs
end
def lH(n:Nat):Option (aK den)→Bool
 |some (.arr _ cl _ _ es)=>cl||iy n es
 |some (.cD ..)=>true
 |some .jc=>true
 |some (.lT ..)=>true
 |some (.qT _ _ _ _ fr)=>fr.all fun v=>cL v||bM n v
 |none=>true
mutual
def oY:SV den→List Nat
 |.ref n _ _ _|.jw n _ _ _ _ _|.bw _ n _ _ _|.mp _ n=>[n]
 |.uQ v _ _ _=>oY v
 |.agg l|.kC l=>oB l
 |.jQ _ v=>oY v
 |.jP _ f c=>oB f++oB c
 |_=>[]
def oB:List (SV den)→List Nat
 |[]=>[]
 |x::xs=>oY x++oB xs
end
def cb:SV den→List (SV den)
 |.agg l=>l
 |.lit v=>v.cells.toList.map .lit
 |x=>[x]
def oC:List (SV den)→Option (List Value)
 |[]=>some []
 |.lit v::r=>(oC r).map (v::·)
 |_=>none
def oZ:SV den→Option AV
 |.lit v=>some (.lit v)
 |.agg l=>(oC l).map fun c=>.agg (c.map .lit)
 |_=>none
def pW(agg:Bool)(size:Nat)(e:SV den)(j:Nat):Option (SV den):=
 match e with
 |.agg l=>
  if agg then (if j+size≤l.length then some (.agg ((l.drop j).take size)) else none)
  else l[j]?
 |x=>if !agg&&iw x&&decide (j=0) then some x else none
def jJ(l:List (SV den))(j:Nat):List (SV den)→List (SV den)
 |[]=>l
 |x::xs=>jJ (l.set j x) (j+1) xs
def gU(e:SV den)(j:Nat)(cs:List (SV den)):Option (SV den):=
 match e with
 |.agg l=>if j+cs.length≤l.length then some (.agg (jJ l j cs)) else none
 |x=>match cs with
  |[y]=>if iw x&&decide (j=0) then some y else none
  |_=>none
def CI(place:Nat→Option (Nat×Nat))(cells:List (SV den)):List (Nat×SV den)→Option (List (SV den))
 |[]=>some cells
 |(i,v)::rest=>
  match place i with
  |none=>none
  |some (off,size)=>
   if (cb v).length=size∧off+size≤cells.length∧(cb v).all iw=true then
    CI place (jJ cells off (cb v)) rest
   else none
def mK(agg:Bool)(size:Nat)(e:SV den):Bool:=
 match e with
 |.agg l=>agg&&decide (l.length=size)&&l.all iw
 |x=>!agg&&decide (size=1)&&iw x
def iz:AV→Option (SV den)
 |.lit v=>some (.lit v)
 |.agg l=>(dx l).map fun c=>.agg (c.map .lit)
 |_=>none
def gu(es:List (SV den)):List (Nat×SV den)→List (SV den)
 |[]=>es
 |(i,v)::r=>gu (es.set i v) r
def JR:SV den→Bool
 |.sl xs=>!xs.isEmpty
 |_=>false
def DX(P:Program)(op:BinOp)(t:TypeId)(x:SV den)(nil:Value):Option AV:=
 match nil with
 |.nilIface=>(match x with
  |.jQ _ (.agg _)|.jQ _ (.ref ..)=>if kR P t then na op false else none
  |_=>none)
 |.nilFunc=>(match x with
  |.jP _ _ _=>if uT P t then na op false else none
  |_=>none)
 |.slice none 0 0=>if cf P t&&JR x then na op false else none
 |_=>none
end
inductive CK where
 |bool
 |int (k:IntKind)
 |str
 deriving DecidableEq
inductive MK where
 |slice (e:Nat)
 |array (n e:Nat)
 |struct (fs:List (Nat×Nat))
 |iface
 |other
 deriving DecidableEq
structure jO where
 agg:Bool
 size:Nat
 bytes:Nat
 zero:Option AV
 kind:MK
 Sm:Option (List CK)
 map:Option (KK×Nat)
structure iH where
 P:Program
 M:List (Nat×jO)
 yS:Nat→Bool
def cO{α:Type}:List (Nat×α)→Nat→Option α
 |[],_=>none
 |(m,a)::r,n=>match Nat.beq m n with
  |true=>some a
  |false=>cO r n
def CJ{α:Type}:List (Nat×Nat×α)→Nat→Nat→Option α
 |[],_,_=>none
 |(m,m',a)::r,n,n'=>match Nat.beq m n&&Nat.beq m' n' with
  |true=>some a
  |false=>CJ r n n'
namespace iH
def ty(Q:iH)(t:Nat):Option jO:=cO Q.M t
def elemOf(Q:iH)(t:Nat):Option (Nat×jO):=
 match Q.ty t with
 |some m=>match m.kind with
  |.slice e=>(Q.ty e).map fun r=>(e,r)
  |_=>none
 |none=>none
def elem(Q:iH)(t:Nat):Option jO:=(Q.elemOf t).map (·.2)
def arr(Q:iH)(t:Nat):Option (Nat×jO):=
 match Q.ty t with
 |some m=>match m.kind with
  |.array n e=>(Q.ty e).map fun r=>(n,r)
  |_=>none
 |none=>none
def ZH(Q:iH)(t f:Nat):Option (Nat×jO):=
 match Q.ty t with
 |some m=>match m.kind with
  |.struct fs=>match fs[f]? with
   |some (off,e)=>match Q.ty e with
    |some r=>if r.size=0 then none else some (off,r)
    |none=>none
   |none=>none
  |_=>none
 |none=>none
def mapOf(Q:iH)(t:Nat):Option (KK×Nat):=(Q.ty t).bind (·.map)
def isSlice(Q:iH)(t:Nat):Option Bool:=
 match Q.ty t with
 |some m=>match m.kind with
  |.slice _=>some true
  |_=>some false
 |none=>none
def places(Q:iH):List (Nat×Nat)→Option (List (Nat×Nat))
 |[]=>some []
 |(off,e)::r=>match Q.ty e,places Q r with
  |some m,some l=>some ((off,m.size)::l)
  |_,_=>none
end iH
inductive VT where
 |v (t:Nat)
 |l (t:Nat)
 |m (kk:KK) (t:Nat)
 deriving DecidableEq
def VT.den(den:Nat→Type):VT→Type
 |.v t=>den t
 |.l t=>List (den t)
 |.m kk t=>List (kk.D×den t)
def HL(den:Nat→Type):List VT→Type
 |[]=>Unit
 |[t]=>t.den den
 |t::u::r=>t.den den×HL den (u::r)
structure TV(den:Nat→Type)where
 t:VT
 x:t.den den
section
variable {den:Nat→Type}
def TV.as(v:TV den)(t:VT):Option (t.den den):=if h:v.t=t then some (h▸v.x) else none
def xe:(ts:List VT)→List (TV den)→Option (HL den ts)
 |[],l=>(match l with
  |[]=>some ()
  |_::_=>none)
 |[t],l=>(match l with
  |[v]=>v.as t
  |_=>none)
 |t::u::r,l=>(match l with
  |v::l'=>(v.as t).bind fun x=>(xe (u::r) l').map fun y=>(x,y)
  |[]=>none)
def gV:(ts:List VT)→HL den ts→List (TV den)
 |[],_=>[]
 |[t],x=>[⟨t,x⟩]
 |t::u::r,x=>⟨t,x.1⟩::gV (u::r) x.2
end
section
variable (T:eh)
def KX:(ts:List Nat)→List (SV T.den)→Option (List (TV T.den))
 |[],[]=>some []
 |t::ts,v::vs=>(T.dn t v).bind fun x=>(KX ts vs).map fun l=>⟨.v t,x⟩::l
 |_,_=>none
def qM(t:Nat):List (SV T.den)→Option (List (T.den t))
 |[]=>some []
 |v::vs=>(T.dn t v).bind fun x=>(qM t vs).map fun l=>x::l
def Xt:TV T.den→SV T.den
 |⟨.v t,x⟩=>T.up t x
 |⟨.l t,x⟩=>.jN t x
 |⟨.m _ _,_⟩=>.dead
def Ue(l:List (TV T.den)):List (SV T.den):=l.map (Xt T)
end
def tf{den:Nat→Type}:List (SV den)→SV den
 |[x]=>x
 |l=>.kC l
structure yT(T:eh)where
 args:List Nat
 res:List Nat
 fn:HL T.den (args.map .v)→Option (HL T.den (res.map .v))
inductive qV where
 |hole
 |FI (esz n:Nat) (rg:Option (Nat×Nat)) (cap:Option Nat)
 |jw (n i j len cap:Nat)
 |val (t:Nat)
 |own (esz n:Nat)
 |tv (esz n t:Nat) (k:Bool)
inductive dt where
 |list (t:Nat)
 |fix (t:Nat)
 |one (p:qV)
 |agg (ps:List qV)
 |map (kk:KK) (t:Nat)
inductive qW where
 |jc
 |list (g f:Bool) (t:Nat)
structure DY where
 kind:Option Nat
 aG:List (Nat×qV)
 ext:List qW
 js:List (Nat×m9)
 more:List (Nat×dt)
structure Hint where
 aG:List (Nat×qV)
 dead:List Nat
 objs:List (Nat×dt)
 outs:List DY
def qV.lr:qV→List VT
 |.hole|.FI _ _ _ _|.jw _ _ _ _ _=>[]
 |.val t=>[.v t]
 |.own _ _=>[]
 |.tv _ _ t k=>(match k with
  |true=>[.v t,.v t,.v t]
  |false=>[.v t,.v t])
def dt.lr:dt→List VT
 |.list t|.fix t=>[.l t]
 |.one p=>p.lr
 |.agg ps=>ps.flatMap qV.lr
 |.map kk t=>[.m kk t]
def qW.lr:qW→List VT
 |.jc=>[]
 |.list _ _ t=>[.l t]
def ki(objs more:List (Nat×dt)):List (Nat×dt):=objs.filter (fun q=>!(more.map (·.1)).contains q.1)++more
def DY.lr(objs:List (Nat×dt))(o:DY):List VT:=o.aG.flatMap (fun q=>q.2.lr)++((ki objs o.more).flatMap (fun q=>q.2.lr)++o.ext.flatMap qW.lr)
def Hint.lr(h:Hint):List VT:=h.aG.flatMap (fun q=>q.2.lr)++h.objs.flatMap (fun q=>q.2.lr)
def BO(den:Nat→Type)(objs:List (Nat×dt)):List DY→Type
 |[]=>Empty
 |[o]=>HL den (o.lr objs)
 |o::p::r=>HL den (o.lr objs) ⊕ BO den objs (p::r)
end Go.PI
end
