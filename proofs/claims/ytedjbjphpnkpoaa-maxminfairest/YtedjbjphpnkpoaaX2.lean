/- Part 2 of the proof: texts of this session laid one behind the other. -/
import Derived.OrdersIn
import Derived.TacticsIn
import Derived.RangeFuncLeaves
import Derived.RecoverIn
import Derived.SizedLaws
import Derived.ChangeSlices
import Derived.OpenShut
import Derived.ShutString
import Derived.IntWalk
import Derived.Below
import Derived.Test.YtedjbjphpnkpoaaX1
set_option linter.unusedVariables false
set_option linter.unusedSimpArgs false
section
/- PI, part V: a region whose order is drawn, in the world. -/
namespace Go.PI
def WF(r:Option Nat):Fence:={ Fence.wide with round:=r }
structure o8 where
 n:Nat
 tl:List Deferred:=[]
 rg:Bool:=true
 lb:Option Nat:=none
def Marks(B:o8)(E:Env)(w:World)(ds:List Deferred):Prop:=
 ∃ rs:List Nat,ds=rs.map (fun r=>{ target:=.collected r,args:=#[] })++B.tl∧rs.Nodup∧((B.rg=false→rs=[])∧∀ b,B.lb=some b→∃ r0:Loop,w.heap[b]?=some (.loop r0))∧∀ r∈rs,B.n≤r∧¬E.own r∧w.heap[r]?=some (.deferred (some []))
theorem Marks.nil{n:Nat}{m:Bool}{E:Env}{w:World}:Marks ⟨n,[],m,none⟩ E w []:=⟨[],rfl,List.nodup_nil,⟨fun _=>rfl,fun _ h=>by cases h⟩,by simp⟩
theorem Marks.WD{n:Nat}{b:Nat}{r:Loop}{E:Env}{w:World}(h:w.heap[b]?=some (.loop r)):Marks ⟨n,[],true,some b⟩ E w []:=⟨[],rfl,List.nodup_nil,⟨fun _=>rfl,fun _ h'=>by cases h'; exact⟨r,h⟩⟩,by simp⟩
theorem Marks.mono{B:o8}{E E':Env}{w w':World}{ds:List Deferred}(h:Marks B E w ds)(hf:Fr E w E' w'):Marks B E' w' ds:=by
 obtain⟨rs,h1,h2,Vv,h3⟩:=h
 refine⟨rs,h1,h2,⟨Vv.1,fun b hb=>by obtain⟨r0,h⟩:=Vv.2 b hb; exact hf.lp b r0 h⟩,fun r hr=>?_⟩
 obtain⟨a,b,c⟩:=h3 r hr
 have bL:r<w.heap.size:=(Array.getElem?_eq_some_iff.1 c).1
 refine⟨a,fun ho=>?_,by rw[hf.same r bL b]; exact c⟩
 rcases hf.own r ho with h|h
 ·exact b h
 ·omega
structure cK[ab](B:o8)(E:Env)(s:St)(a:Act)(w:World):Prop where
 fr:an E true s.fr a.tmps.toList
 inv:Inv E s.hp w
 df:Marks B E w a.defers
 bs:B.n≤w.heap.size
theorem gE{E:Env}{fr:List AV}{a:Act}{dst:Option Tmp}{x:AV}{v:Value}(h:an E true fr a.tmps.toList)(hx:ak E true x v):
  an E true (bD fr dst x) (a.put dst v).tmps.toList:=by
 cases dst with
 |none=>exact h
 |some d=>
  simp only[bD,Act.put,Array.toList_setIfInBounds]
  exact h.set d hx
theorem put_defers(a:Act)(dst:Option Tmp)(v:Value):(a.put dst v).defers=a.defers:=by cases dst<;>rfl
theorem AA{E:Env}:∀ (c:List Value),(∀ x∈c,iH x=true)→aF E false (c.map .lit) c
 |[],_=>by simp[aF]
 |x::r,h=>by
  simp only[List.map_cons,aF]
  exact⟨by simp[ak],h x (by simp),AA r fun y hy=>h y (by simp[hy])⟩
theorem K0[ab]{E:Env}(hg:m6 E)(g:Nat):ak E true (CD g (ab.g g)) (.pointer (some ⟨g,0,none⟩)):=by
 cases h:ab.g g with
 |none=>simp[CD,ak]
 |some c=>
  obtain⟨h1,h2⟩:=hg g c h
  simp only[CD,ak]
  refine⟨g,0,c,.agg c,rfl,h1,⟨c.toList,by simp,AA _ h2⟩,?_⟩
  refine⟨rfl,fun q _=>by simp[Value.cells],fun x hx=>h2 x (by simpa[Value.cells] using hx)⟩
theorem ic[ab]{E:Env}{fr:List AV}{a:Act}(hg:m6 E)(h:an E true fr a.tmps.toList)(x:Operand):ak E true (ay fr x) (a.eval x):=by
 cases x with
 |tmp t=>
  simp only[ay,Act.eval,List.getD]
  cases hq:fr[t]? with
  |none=>
   have hl:=h.length
   have:a.tmps[t]?=none:=by
    simp_all
   simp[Array.getD_eq_getD_getElem?,this,ak]
  |some y=>
   obtain⟨v,hv,hr⟩:=h.get hq
   have:a.tmps[t]?=some v:=by simpa using hv
   simpa[Array.getD_eq_getD_getElem?,this] using hr
 |const v=>
  simp only[ay,Act.eval]
  unfold mY
  split
  ·rename_i c
   split
   ·rename_i h; exact nG (.agg c) (fun c' hc=>by cases hc; exact h)
   ·simp[ak]
  ·rename_i dA
   exact nG v (fun c hc=>absurd hc (dA c))
 |global g=>exact K0 hg g
 |func f=>simp[ay,Act.eval,ak]
def se[ab](P:Program)(step:Nat→Oper→List AV→RM dk):Prop:=
 ∀ (r:Option Nat) (x:Item) (B:o8) (E:Env) (s:St) (a:Act) (w:World) (e:dk) (K:Act→World→Prop) (Q:Exit→Act→World→Prop),cK B E s a w →
   (au x.o.op=true→s.hp[x.nm]?=some none)→(step (x.at s.hp.length) x.o s.fr).run s.hp=some e →
   (∀ E' w' v,Ext E E'→Fr E w E' w'→Inv E' (ai s.hp e.wr) w'→ak E' true e.val v→K (a.put x.o.dst v) w')→x.o.wpIn (WF r) 0 P a w K Q
theorem lC{ops:Array Oper}{E:Env}{fr:List AV}{a:Act}(h:an E true fr a.tmps.toList){o:Oper}{b:Bool}(hw:cJ ops fr o=some b):
  Region.wanted o (yielded ops a.tmps)=b:=by
 unfold cJ at hw
 unfold Region.wanted
 cases hg:o.guard with
 |none=>rw[hg]at hw; simpa using hw
 |some g=>
  obtain⟨j,want⟩:=g
  rw[hg]at hw
  simp only at hw ⊢
  unfold yielded
  cases hd:(ops[j]?).bind (·.dst) with
  |none=>
   rw[hd]at hw
   simp only[Option.some.injEq]at hw; subst hw
   simp
  |some d=>
   rw[hd]at hw
   simp only[Option.bind_some]at hw ⊢
   cases hq:fr[d]? with
   |none=>
    rw[hq]at hw
    simp only[Option.some.injEq]at hw; subst hw
    have hl:=h.length
    have:a.tmps[d]?=none:=by
     simp_all
    simp[this]
   |some y=>
    rw[hq]at hw
    obtain⟨v,hv,hr⟩:=h.get hq
    have kj:a.tmps[d]?=some v:=by simpa using hv
    split at hw
    ·rename_i heq; simp at heq
    ·rename_i b' heq
     simp only[Option.some.injEq]at heq hw
     subst heq
     simp only[ak]at hr
     subst hr; subst hw
     simp[kj]
    ·rename_i c heq
     simp only[Option.some.injEq]at heq hw
     subst heq
     simp only[ak]at hr
     subst hr; subst hw
     simp[kj]
    ·simp at hw
section
variable {step:Nat→Oper→List AV→RM dk}{ops:Array Oper}
theorem pU:∀ (l:List Oper) (acc:List Nat) (f:List Nat→Oper→List Nat),
  (f=fun acc o=>acc++[jh acc o.after.toList])→∀ i,i<acc.length→(l.foldl f acc).getD i 0=acc.getD i 0
 |[],acc,f,_,i,_=>rfl
 |o::r,acc,f,hf,i,hi=>by
  simp only[List.foldl_cons]
  rw[pU r (f acc o) f hf i (by subst hf; simp; omega)]
  subst hf
  simp[List.getD,List.getElem?_append_left hi]
theorem v9{a b:List Nat}:∀ {l:List Edge},(∀ e∈l,Region.binds .any e=true→a.getD e.on 0=b.getD e.on 0)→jh a l=jh b l
 |[],_=>rfl
 |e::l,h=>by
  have:=v9 (l:=l) fun e he=>h e (by simp[he])
  unfold jh
  split
  ·rename_i hb
   rw[this,h e (by simp) hb]
  ·exact this
theorem qI{a:List Nat}{p:Nat}:∀ {l:List Edge},(jh a l).testBit p=true→∃ e∈l,Region.binds .any e=true∧(p=e.on∨rT a e.on p=true)
 |[],h=>by simp[jh]at h
 |e::l,h=>by
  unfold jh at h
  split at h
  ·rename_i hb
   simp only[Nat.testBit_or,Bool.or_eq_true]at h
   rcases h with (h|h)|h
   ·grind
   ·exact⟨e,by simp,hb,.inr h⟩
   ·obtain⟨e',he,h'⟩:=qI (l:=l) h
    exact⟨e',by simp[he],h'⟩
  ·obtain⟨e',he,h'⟩:=qI (l:=l) h
   exact⟨e',by simp[he],h'⟩
theorem AB{m:Region.Mode}{p:Nat}:∀ {l:List Edge},(∃ e∈l,Region.binds m e=true∧p=e.on)→(z7 m l).testBit p=true
 |[],h=>by simp at h
 |e::l,h=>by
  obtain⟨e',he,hb,rfl⟩:=h
  unfold z7
  cases he with
  |head=>simp[hb,Nat.testBit_or]
  |tail _ he=>
   have:=AB (l:=l) ⟨e',he,hb,rfl⟩
   split
   ·simp[Nat.testBit_or,this]
   ·exact this
theorem Dc[ab]{m:Region.Mode}{T:Nat→Prop}:∀ (l:List Oper) (i M:Nat),(∀ j,M.testBit j=true→T j) →
  (∀ k o,l[k]?=some o→(∀ e∈o.after.toList,Region.binds m e=true→T e.on)→T (i+k))→∀ j,(GU m i l M).testBit j=true→T j
 |[],i,M,hM,_,j,h=>hM j h
 |o::r,i,M,hM,hs,j,h=>by
  unfold GU at h
  refine Dc r (i+1) _ ?_ (fun k o hk he=>by have:=hs (k+1) o (by simpa using hk) he; rwa [show i+1+k=i+(k+1) by omega]) j h
  intro j hj
  split at hj
  ·rename_i tE
   rw[Nat.testBit_or,Bool.or_eq_true]at hj
   rcases hj with hj|hj
   ·exact hM j hj
   ·rw[Nat.testBit_two_pow]at hj
    have Nz:i=j:=by simpa using hj
    subst Nz
    refine hs 0 o rfl fun e he hb=>hM _ ?_
    have h1:=AB (p:=e.on) ⟨e,he,hb,rfl⟩
    rw[←tE,Nat.testBit_and,Bool.and_eq_true]at h1
    exact h1.2
  ·exact hM j hj
theorem Dd[ab]{m:Region.Mode}{T:Nat→Prop}{l:List Oper}(hs:∀ k o,l[k]?=some o→(∀ e∈o.after.toList,Region.binds m e=true→T e.on)→T k):
  ∀ (k M:Nat),(∀ j,M.testBit j=true→T j)→∀ j,(GV m l k M).testBit j=true→T j
 |0,M,hM,j,h=>hM j h
 |k+1,M,hM,j,h=>by
  unfold GV at h
  exact Dd hs k _ (Dc l 0 M hM (fun q o hq he=>by simpa using hs q o hq he)) j h
theorem FN[ab]{m:Region.Mode}(h:pE m ops=true){T:Nat→Prop}(hs:∀ k o,ops[k]?=some o→(∀ e∈o.after.toList,Region.binds m e=true→T e.on)→T k):∀ i,i<ops.size→T i:=by
 intro i hi
 have h1:=List.all_eq_true.1 h i (List.mem_range.2 hi)
 exact Dd (l:=ops.toList) (fun k o hk he=>hs k o (by simpa using hk) he) 8 0 (by simp) i h1
theorem qJ[ab]:∀ (l:List Oper) (acc:List Nat) (k:Nat) (o:Oper),l[k]?=some o→(∀ e∈o.after.toList,Region.binds .any e=true→e.on<acc.length+k) →
  (l.foldl (fun acc o=>acc++[jh acc o.after.toList]) acc).getD (acc.length+k) 0 =
    jh (l.foldl (fun acc o=>acc++[jh acc o.after.toList]) acc) o.after.toList
 |[],acc,k,o,h,_=>by simp at h
 |p::r,acc,0,o,h,he=>by
  simp only[List.getElem?_cons_zero,Option.some.injEq]at h
  subst h
  simp only[List.foldl_cons,Nat.add_zero]
  rw[pU r _ _ rfl acc.length (by simp)]
  have h1:(acc++[jh acc p.after.toList]).getD acc.length 0=jh acc p.after.toList:=by
   simp[List.getD]
  rw[h1]
  apply v9
  intro e WE hb
  have bL:e.on<acc.length:=by simpa using he e WE hb
  rw[pU r _ _ rfl e.on (by simp; omega)]
  simp[List.getD,List.getElem?_append_left bL]
 |p::r,acc,k+1,o,h,he=>by
  simp only[List.getElem?_cons_succ]at h
  simp only[List.foldl_cons]
  have:=qJ r (acc++[jh acc p.after.toList]) k o h (fun e WE hb=>by have:=he e WE hb; simp; omega)
  simp only[List.length_append,List.length_cons,List.length_nil]at this
  have e1:acc.length+(0+1)+k=acc.length+(k+1):=by omega
  rw[e1]at this
  exact this
theorem gG:∀ (l:List Oper) (i:Nat),kY i l=true→∀ k o,l[k]?=some o→∀ e∈o.after.toList,Region.binds .any e=true→e.on<i+k
 |[],i,_,k,o,h=>by simp at h
 |p::r,i,h,0,o,hk=>by
  simp only[List.getElem?_cons_zero,Option.some.injEq]at hk
  subst hk
  simp only[kY,Bool.and_eq_true]at h
  intro e he hb
  have:=List.all_eq_true.1 h.1 e he
  simpa[hb] using this
 |p::r,i,h,k+1,o,hk=>by
  simp only[List.getElem?_cons_succ]at hk
  simp only[kY,Bool.and_eq_true]at h
  intro e he hb
  have:=gG r (i+1) h.2 k o hk e he hb
  omega
theorem tM{pr:List Nat}:∀ (l:List Oper) (i:Nat),th ops pr i l=true→∀ j k o p,j<k→l[j]?=some o→l[k]?=some p →
  rT pr (i+k) (i+j)=true∨Oper.apart ops o p=true
 |[],i,_,j,k,o,p,_,h,_=>by simp at h
 |q::r,i,h,0,k+1,o,p,_,ho,hp=>by
  simp only[List.getElem?_cons_zero,Option.some.injEq]at ho
  subst ho
  simp only[List.getElem?_cons_succ]at hp
  simp only[th,Bool.and_eq_true]at h
  have wV:(p,i+1+k)∈r.zipIdx (i+1):=by
   grind
  have:=List.all_eq_true.1 h.1 _ wV
  simp only[Bool.or_eq_true]at this
  have e1:i+1+k=i+(k+1):=by omega
  rw[e1]at this
  simpa using this
 |q::r,i,h,j+1,k+1,o,p,Oe,ho,hp=>by
  simp only[List.getElem?_cons_succ]at ho hp
  simp only[th,Bool.and_eq_true]at h
  have:=tM r (i+1) h.2 j k o p (by omega) ho hp
  have e1:i+1+j=i+(j+1):=by omega
  have e2:i+1+k=i+(k+1):=by omega
  rw[e1,e2]at this
  exact this
 |q::r,i,h,j,0,o,p,Oe,_,_=>by omega
theorem lf[ab]:∀ (l:List Oper) (i n:Nat) (k:Nat) (x:Item),(bH i n l)[k]?=some x →
  x.idx=i+k∧l[k]?=some x.o∧n≤x.nm∧(au x.o.op=true→x.nm<n+(l.filter fun o=>au o.op).length)
 |[],i,n,k,x,h=>by simp[bH]at h
 |o::r,i,n,0,x,h=>by
  simp only[bH,List.getElem?_cons_zero,Option.some.injEq]at h
  subst h
  refine⟨rfl,rfl,Nat.le_refl _,fun ha=>?_⟩
  simp only at ha
  simp[ha]
 |o::r,i,n,k+1,x,h=>by
  simp only[bH,List.getElem?_cons_succ]at h
  obtain⟨h1,h2,h3,h4⟩:=lf r (i+1) _ k x h
  refine⟨by omega,by simpa using h2,?_,fun ha=>?_⟩
  ·split at h3<;>omega
  ·grind
theorem yf[ab]:∀ (l:List Oper) (i n:Nat) (j k:Nat) (x y:Item),j<k→(bH i n l)[j]?=some x→(bH i n l)[k]?=some y→au x.o.op=true→x.nm<y.nm
 |[],i,n,j,k,x,y,_,h,_,_=>by simp[bH]at h
 |o::r,i,n,0,k+1,x,y,_,hx,hy,ha=>by
  simp only[bH,List.getElem?_cons_zero,Option.some.injEq]at hx
  subst hx
  simp only[bH,List.getElem?_cons_succ]at hy
  simp only at ha
  have:=(lf r (i+1) _ k y hy).2.2.1
  rw[if_pos ha]at this
  exact this
 |o::r,i,n,j+1,k+1,x,y,Oe,hx,hy,ha=>by
  simp only[bH,List.getElem?_cons_succ]at hx hy
  exact yf r (i+1) _ j k x y (by omega) hx hy ha
 |o::r,i,n,j,0,x,y,Oe,_,_,_=>by omega
theorem lV[ab]:∀ (l:List Oper) (i n:Nat),(bH i n l).length=l.length
 |[],_,_=>rfl
 |o::r,i,n=>by simp[bH,lV r]
theorem pV[ab]:∀ (R:List Item) (s s':St) (fs:List fH),cz step ops R s=some (s',fs)→fs.map (·.idx)=R.map (·.idx)
 |[],s,s',fs,h=>by
  simp_all[cz]
 |x::r,s,s',fs,h=>by
  obtain⟨s1,f,EX,h1,h2,rfl⟩:=ld h
  have ih:=pV r s1 s' EX h2
  have:f.idx=x.idx:=by
   rcases lU h1 with ⟨_,_,rfl⟩|⟨_,_,_,_,_,rfl⟩<;>rfl
  simp[ih,this]
theorem tN{pr:List Nat}:∀ (fs:List fH),fk pr fs=true→∀ (j k:Nat) (f g:fH),j<k→fs[j]?=some f→fs[k]?=some g→rU pr f g=true
 |[],_,j,k,f,g,_,h,_=>by simp at h
 |q::r,h,0,k+1,f,g,_,hf,hg=>by
  grind[fk]
 |q::r,h,j+1,k+1,f,g,Oe,hf,hg=>by
  simp only[List.getElem?_cons_succ]at hf hg
  simp only[fk,Bool.and_eq_true]at h
  exact tN r h.2 j k f g (by omega) hf hg
 |q::r,h,j,0,f,g,Oe,_,_=>by omega
theorem AD{a b:List Nat}(h:Fe a b=true):∀ n∈a,n∉b:=by
 intro n hn hb
 have:=List.all_eq_true.1 h n hn
 simp[hb]at this
end
end Go.PI
end
section
/- PI, part W: a region whose order is drawn, in the world: the induction. -/
namespace Go.PI
section
variable {step:Nat→Oper→List AV→RM dk}{ops:Array Oper}
structure Left[ab](ops:Array Oper)(pr:List Nat)(m:Nat)(R:List Item)(aN:Array Bool):Prop where
 size:aN.size=ops.size
 item:∀ x∈R,ops[x.idx]?=some x.o∧aN.getD x.idx true=false∧x.idx<m
 sorted:R.Pairwise (fun x y=>x.idx<y.idx)
 all:∀ i,i<ops.size→aN.getD i true=false→i<m→∃ x∈R,x.idx=i
 rest:∀ i,m≤i→i<ops.size→aN.getD i true=false
 down:∀ i o,ops[i]?=some o→aN.getD i true=true→∀ p,rT pr i p=true→aN.getD p false=true
 names:R.Pairwise (fun x y=>au x.o.op=true→x.nm<y.nm)
theorem tO{a:Array Bool}{i:Nat}(h:i<a.size)(x y:Bool):a.getD i x=a.getD i y:=by
 simp[Array.getD,h]
theorem IC{m:Region.Mode}{e:Edge}(h:Region.binds .any e=true):Region.binds m e=true:=by
 grind[Region.binds]
theorem De[ab]{md:Region.Mode}(wa:pE md ops=true){aN:Array Bool}(dx:aN.size=ops.size){i:Nat}(bL:i<ops.size)(hi:aN.getD i true=false):Region.ready md ops aN≠[]:=by
 intro yg
 have bg:=FN wa (T:=fun i=>i<ops.size∧aN.getD i true=true) (fun k o hk he=>by
  have WG:k<ops.size:=(Array.getElem?_eq_some_iff.1 hk).1
  refine⟨WG,?_⟩
  cases hq:aN.getD k true with
  |true=>rfl
  |false=>
   have wV:k∈Region.ready md ops aN:=by
    unfold Region.ready
    rw[List.mem_filter]
    refine⟨List.mem_range.2 WG,?_⟩
    simp only[hq,Bool.not_false,Bool.true_and,hk,Option.map_some,Option.getD_some]
    rw[←Array.all_toList]
    refine List.all_eq_true.2 fun e hee=>?_
    cases hb:Region.binds md e with
    |false=>rfl
    |true=>
     grind
   rw[yg]at wV
   simp at wV) i bL
 rw[hi]at bg
 simp at bg
theorem wb[ab]{md:Region.Mode}(mK:kY 0 ops.toList=true){aN:Array Bool}(dx:aN.size=ops.size)
  (v5:∀ i o,ops[i]?=some o→aN.getD i true=true→∀ p,rT (cd ops.toList) i p=true→aN.getD p false=true) {i:Nat} (hi:i∈Region.ready md ops aN) :
  i<ops.size∧aN.getD i true=false∧∀ p,rT (cd ops.toList) i p=true→aN.getD p false=true:=by
 have BN:∀ i o,ops[i]?=some o→(cd ops.toList).getD i 0=jh (cd ops.toList) o.after.toList:=by
  intro i o ho
  have db:ops.toList[i]?=some o:=by simpa using ho
  have:=qJ ops.toList [] i o db (fun e he hb=>by have:=gG ops.toList 0 mK i o db e he hb; simpa using this)
  simpa[cd] using this
 unfold Region.ready at hi
 rw[List.mem_filter]at hi
 obtain⟨E6,G4⟩:=hi
 simp only[List.mem_range]at E6
 simp only[Bool.and_eq_true,Bool.not_eq_true']at G4
 obtain⟨WH,FO⟩:=G4
 refine⟨E6,WH,fun p hp=>?_⟩
 obtain⟨o,Sw⟩:∃ o,ops[i]?=some o:=⟨ops[i],by simp[E6]⟩
 simp only[Sw,Option.map_some,Option.getD_some]at FO
 rw[←Array.all_toList]at FO
 unfold rT at hp
 rw[BN i o Sw]at hp
 obtain⟨e,he,ID,hp⟩:=qI hp
 have hb:=(gG ops.toList 0 mK i o (by simpa using Sw) e he ID)
 have h1:=List.all_eq_true.1 FO e he
 simp only[IC ID,Bool.not_true,Bool.false_or]at h1
 rcases hp with rfl|hp
 ·exact h1
 ·have bL:e.on<ops.size:=by omega
  have WI:aN.getD e.on true=true:=by rw[tO (by rw[dx]; exact bL) true false]; exact h1
  obtain⟨o2,uT⟩:∃ o2,ops[e.on]?=some o2:=⟨ops[e.on],by simp[bL]⟩
  exact v5 e.on o2 uT WI p hp
theorem Of[ab](mK:kY 0 ops.toList=true):∀ {k:Nat} {o:Oper},ops[k]?=some o→∀ {p:Nat},rT (cd ops.toList) k p=true→p<k:=by
 have BN:∀ i o,ops[i]?=some o→(cd ops.toList).getD i 0=jh (cd ops.toList) o.after.toList:=by
  intro i o ho
  have db:ops.toList[i]?=some o:=by simpa using ho
  have:=qJ ops.toList [] i o db (fun e he hb=>by have:=gG ops.toList 0 mK i o db e he hb; simpa using this)
  simpa[cd] using this
 intro k
 induction k using Nat.strongRecOn with
 |ind k ih=>
  intro o hk p hp
  unfold rT at hp
  rw[BN k o hk]at hp
  obtain⟨e,he,ID,hp⟩:=qI hp
  have hb:=(gG ops.toList 0 mK k o (by simpa using hk) e he ID)
  rcases hp with rfl|hp
  ·omega
  ·grind
theorem wc{pr:List Nat}{n m:Nat}(h:mZ pr n m=true){i j:Nat}(h1:m≤i)(h2:i<n)(h3:j<i):rT pr i j=true:=by
 have:=List.all_eq_true.1 h (i-m) (List.mem_range.2 (by omega))
 have:=List.all_eq_true.1 this j (List.mem_range.2 (by omega))
 have e:m+(i-m)=i:=by omega
 rw[e]at this
 exact this
theorem K1[ab]{P:Program}(tL:Hq step)(dM:se P step)(mK:kY 0 ops.toList=true){md:Region.Mode}(wa:pE md ops=true){m:Nat}(hm:m≤ops.size)(we:mZ (cd ops.toList) ops.size m=true){s':St}{Q:Exit→Act→World→Prop}
  {E0:Env} {w0:World} {B:o8} {r:Option Nat}
  (hQ:∀ E a w (aN:Array Bool),Ext E0 E→Fr E0 w0 E w→cK B E s' a w→aN.size=ops.size→(∀ j,j<m→aN.getD j true=true)→(∀ j,m≤j→j<ops.size→aN.getD j true=false) →
    wpAnyIn (WF r) 0 P md ops Q (ops.size-m) aN a w) :
  ∀ (fuel:Nat) (R:List Item) (aN:Array Bool) (fs:List fH) (E:Env) (s:St) (a:Act) (w:World),R.length=fuel→Left ops (cd ops.toList) m R aN →
    Ext E0 E→Fr E0 w0 E w→cK B E s a w→(∀ x∈R,au x.o.op=true→s.hp[x.nm]?=some none)→cz step ops R s=some (s',fs) →
    (∀ (j k:Nat) (x y:Item) (f g:fH),j<k→R[j]?=some x→R[k]?=some y→fs[j]?=some f→fs[k]?=some g →
      rT (cd ops.toList) y.idx x.idx=true∨S9 ops x f y g) →
    wpAnyIn (WF r) 0 P md ops Q (fuel+(ops.size-m)) aN a w:=by
 have BN:∀ i o,ops[i]?=some o→(cd ops.toList).getD i 0=jh (cd ops.toList) o.after.toList:=by
  intro i o ho
  have db:ops.toList[i]?=some o:=by simpa using ho
  have:=qJ ops.toList [] i o db (fun e he hb=>by have:=gG ops.toList 0 mK i o db e he hb; simpa using this)
  simpa[cd] using this
 intro fuel
 induction fuel with
 |zero=>
  intro R aN fs E s a w hlen hL hx eX hs _ aU _
  have hR:R=[]:=List.eq_nil_of_length_eq_zero hlen
  subst hR
  simp only[cz,Option.some.injEq,Prod.mk.injEq]at aU
  obtain⟨rfl,_⟩:=aU
  rw[Nat.zero_add]
  refine hQ E a w aN hx eX hs hL.size (fun j hj=>?_) hL.rest
  cases hq:aN.getD j true with
  |true=>rfl
  |false=>
   obtain⟨x,hx,_⟩:=hL.all j (by omega) hq hj
   simp at hx
 |succ fuel ih=>
  intro R aN fs E s a w hlen hL hx eX hs nI aU PW
  rw[show fuel+1+(ops.size-m)=(fuel+(ops.size-m))+1 by omega]
  refine⟨fun yg=>?_,fun i hi=>?_⟩
  ·-- the first of what is left is ready
   exfalso
   cases R with
   |nil=>simp at hlen
   |cons x r=>
    obtain⟨Zu,FM,_⟩:=hL.item x (by simp)
    exact De wa hL.size (Array.getElem?_eq_some_iff.1 Zu).1 FM yg
  ·obtain⟨E6,WH,G2⟩:=wb mK hL.size hL.down hi
   have Zv:i<m:=by
    rcases Nat.lt_or_ge i m with h|h
    ·exact h
    ·exfalso
     cases R with
     |nil=>simp at hlen
     |cons x r=>
      obtain⟨Zu,FM,hxm⟩:=hL.item x (by simp)
      have:=G2 x.idx (wc we h E6 (by omega))
      rw[tO (by rw[hL.size]; omega) true false]at FM
      rw[this]at FM; cases FM
   obtain⟨y,hy,hyi⟩:=hL.all i E6 WH Zv
   subst hyi
   obtain⟨Sw,_,hym⟩:=hL.item y hy
   obtain⟨A,B',rfl⟩:=List.append_of_mem hy
   have Tb:fs.length=(A++y::B').length:=by
    have:=congrArg List.length (pV _ _ _ _ aU)
    simpa using this
   have WJ:A.length<fs.length:=by rw[Tb]; simp
   have JX:fs=fs.take A.length++fs[A.length]::fs.drop (A.length+1):=by
    simp_all
   have Oc:∀ p∈A.zip (fs.take A.length),S9 ops p.1 p.2 y fs[A.length]:=by
    intro p hp
    obtain⟨j,hj⟩:=List.mem_iff_getElem?.1 hp
    have hjx:=(List.getElem?_zip_eq_some).1 hj
    obtain⟨h1,h2⟩:=hjx
    have WK:=aL h1
    rw[List.getElem?_take_of_lt WK]at h2
    rcases PW j A.length p.1 y p.2 fs[A.length] WK (by rw[List.getElem?_append_left WK]; exact h1) (by simp) h2 (by simp[WJ]) with h|h
    ·exfalso
     have h3:=G2 _ h
     have h4:=(hL.item p.1 (List.mem_append_left _ (List.mem_of_getElem? h1))).2.1
     have bL:p.1.idx<ops.size:=(Array.getElem?_eq_some_iff.1 (hL.item p.1 (List.mem_append_left _ (List.mem_of_getElem? h1))).1).1
     rw[tO (by rw[hL.size]; exact bL) true false]at h4
     rw[h3]at h4; simp at h4
    ·exact h
   have Q1:=rI tL A s fs aU (fs.take A.length) fs[A.length] (fs.drop (A.length+1)) JX (by simp; omega) Oc
   obtain⟨s1,f,EX,gC,PX,Vz⟩:=ld Q1
   simp only[List.cons.injEq]at Vz
   obtain⟨rfl,rfl⟩:=Vz
   have dA:∀ x∈A++B',x.idx≠y.idx:=by
    intro x hx
    have hp:=List.pairwise_append.1 hL.sorted
    rcases List.mem_append.1 hx with h|h
    ·have:=hp.2.2 x h y (by simp); omega
    ·have:=List.rel_of_pairwise_cons hp.2.1 h; omega
   have tE:(A++B').Sublist (A++y::B'):=List.Sublist.append (List.Sublist.refl A) (List.sublist_cons_self y B')
   have Zw:Left ops (cd ops.toList) m (A++B') (aN.setIfInBounds y.idx true):=by
    have du:∀ j d,j≠y.idx→(aN.setIfInBounds y.idx true).getD j d=aN.getD j d:=by
     intro j d hj
     simp[Array.getD_eq_getD_getElem?,Ne.symm hj]
    have Df:∀ d,(aN.setIfInBounds y.idx true).getD y.idx d=true:=by
     intro d
     have:y.idx<aN.size:=by rw[hL.size]; exact E6
     simp[Array.getD_eq_getD_getElem?,this]
    refine⟨by simpa using hL.size,fun x hx=>?_,hL.sorted.sublist tE,fun j hj hu hjm=>?_,fun j hj WL=>?_,fun j o ho hl p hp=>?_,hL.names.sublist tE⟩
    ·obtain⟨h1,h2,h3⟩:=hL.item x (tE.subset hx)
     exact⟨h1,by rw[du _ _ (dA x hx)]; exact h2,h3⟩
    ·have VA:j≠y.idx:=by intro e; subst e; rw[Df]at hu; simp at hu
     rw[du _ _ VA]at hu
     obtain⟨x,hx,Zx⟩:=hL.all j hj hu hjm
     refine⟨x,?_,Zx⟩
     rcases List.mem_append.1 hx with h|h
     ·exact List.mem_append_left _ h
     ·cases h with
      |head=>omega
      |tail _ h=>exact List.mem_append_right _ h
    ·rw[du _ _ (by omega)]
     exact hL.rest j hj WL
    ·by_cases VA:j=y.idx
     ·subst VA
      rw[Sw]at ho; cases ho
      by_cases Tc:p=y.idx
      ·subst Tc; exact Df _
      ·rw[du _ _ Tc]; exact G2 p hp
     ·rw[du _ _ VA]at hl
      by_cases Tc:p=y.idx
      ·subst Tc; exact Df _
      ·rw[du _ _ Tc]; exact hL.down j o ho hl p hp
   have C4:(A++B').length=fuel:=by simp at hlen ⊢; omega
   have K2:∀ (j k:Nat) (x z:Item) (f g:fH),j<k→(A++B')[j]?=some x→(A++B')[k]?=some z→(fs.take A.length++fs.drop (A.length+1))[j]?=some f →
     (fs.take A.length++fs.drop (A.length+1))[k]?=some g→rT (cd ops.toList) z.idx x.idx=true∨S9 ops x f z g:=by
    have tr:∀ (j:Nat) (x:Item) (f:fH),(A++B')[j]?=some x→(fs.take A.length++fs.drop (A.length+1))[j]?=some f →
      (A++y::B')[if j<A.length then j else j+1]?=some x∧fs[if j<A.length then j else j+1]?=some f:=by
     intro j x f h1 h2
     have htl:(fs.take A.length).length=A.length:=by simp; omega
     by_cases hj:j<A.length
     ·rw[if_pos hj]
      rw[List.getElem?_append_left hj]at h1
      rw[List.getElem?_append_left (by omega),List.getElem?_take_of_lt hj]at h2
      exact⟨by rw[List.getElem?_append_left hj]; exact h1,h2⟩
     ·rw[if_neg hj]
      rw[List.getElem?_append_right (by omega)]at h1
      rw[List.getElem?_append_right (by omega),htl,List.getElem?_drop]at h2
      refine⟨?_,?_⟩
      ·rw[List.getElem?_append_right (by omega)]
       have:j+1-A.length=(j-A.length)+1:=by omega
       rw[this]; simpa using h1
      ·have:A.length+1+(j-A.length)=j+1:=by omega
       rw[this]at h2; exact h2
    intro j k x z f g Oe h1 h2 h3 h4
    obtain⟨a1,a2⟩:=tr j x f h1 h3
    obtain⟨b1,b2⟩:=tr k z g h2 h4
    refine PW _ _ x z f g ?_ a1 b1 a2 b2
    split<;>split<;>omega
   unfold wpOpIn
   rw[Sw]
   simp only
   rcases lU gC with ⟨hw,rfl,_⟩|⟨hw,e,he,E7,rfl,_⟩
   ·rw[lC hs.fr hw]
    simp only[Bool.false_eq_true,if_false]
    refine⟨fun _ _=>trivial,?_⟩
    refine ih (A++B') _ _ E { s with fr:=bD s.fr y.o.dst .undef } _ w C4 Zw hx eX ⟨gE hs.fr (by simp[ak]),hs.inv,by rw[put_defers]; exact hs.df,hs.bs⟩ (fun x hx=>nI x (tE.subset hx)) PX K2
   ·rw[lC hs.fr hw]
    simp only[if_true]
    refine dM r y B E s a w e _ Q hs (nI y (by simp)) he fun E' w' v gz K3 iz hr=>?_
    refine ih (A++B') _ _ E' { s with fr:=bD s.fr y.o.dst e.val,hp:=ai s.hp e.wr } _ w' C4 Zw (hx.trans gz) (eX.trans K3) ⟨gE (hs.fr.mono gz) hr,iz,by rw[put_defers]; exact hs.df.mono K3,Nat.le_trans hs.bs K3.size⟩ (fun x hx ha=>?_) PX K2
    have hn:=nI x (tE.subset hx) ha
    have FG:x.nm∉e.wr.map (·.1):=by
     intro hm
     obtain⟨q,hq,Zy⟩:=List.mem_map.1 hm
     rcases (E7 q hq).2 with h|⟨o,ho⟩
     ·have hxn:y.nm=x.nm:=by rw[←h.2]; exact Zy
      have hp:=List.pairwise_append.1 hL.names
      rcases List.mem_append.1 hx with h'|h'
      ·have:=hp.2.2 x h' y (by simp) ha; omega
      ·have:=List.rel_of_pairwise_cons hp.2.1 h' h.1; omega
     ·rw[Zy]at ho; rw[hn]at ho; simp at ho
    simp only
    rw[iQ e.wr s.hp (fun q hq=>(E7 q hq).1) x.nm FG]
    exact hn
end
end Go.PI
end
section
/- PI, part X: results, calls, what is dropped. -/
namespace Go.PI
theorem Dg{P:Program}{nm:Nat}{ev Og:Operand→AV}{o:Oper}(h:∀ x∈o.op.operands.toList,ev x=Og x):aK P nm ev o=aK P nm Og o:=by
 obtain⟨dst,op,type,pos,after,guard⟩:=o
 have IE:∀ (l:List Operand),(∀ x∈l,x∈op.operands.toList)→l.map ev=l.map Og:=fun l hl=>List.map_congr_left fun x hx=>h x (hl x hx)
 unfold aK
 cases op with
 |build t parts=>
  have:(parts.toList.map fun p=>(p.1,ev p.2))=(parts.toList.map fun p=>(p.1,Og p.2)):=
   List.map_congr_left fun p hp=>by rw[h p.2 (by simp only[Op.operands]; exact List.mem_map.2 ⟨p,hp,rfl⟩)]
  simp only[this]
 |buildSlice t len parts=>
  have:(parts.toList.map fun p=>(p.1,ev p.2))=(parts.toList.map fun p=>(p.1,Og p.2)):=
   List.map_congr_left fun p hp=>by rw[h p.2 (by simp only[Op.operands]; exact List.mem_map.2 ⟨p,hp,rfl⟩)]
  simp only[this]
 |makeFunc fn first captured=>
  have h1:=IE first.toList (fun x hx=>by simp only[Op.operands,Array.toList_append,List.mem_append]; exact .inl hx)
  have h2:=IE captured.toList (fun x hx=>by simp only[Op.operands,Array.toList_append,List.mem_append]; exact .inr hx)
  simp only[h1,h2]
 |slice t x lo hi mx=>
  have h0:=h x (by simp[Op.operands])
  have h1:lo.map ev=lo.map Og:=by cases lo with|none=>rfl|some y=>simp[h y (by simp[Op.operands])]
  have h2:hi.map ev=hi.map Og:=by cases hi with|none=>rfl|some y=>simp[h y (by simp[Op.operands])]
  have h3:mx.map ev=mx.map Og:=by cases mx with|none=>rfl|some y=>simp[h y (by simp[Op.operands])]
  simp only[h0,h1,h2,h3]
 |call c=>
  obtain⟨callee,args,argTypes⟩:=c
  cases callee with
  |builtin b=>
   have h1:=IE args.toList (fun x hx=>by simp[Op.operands,Call.operands]; simpa using hx)
   simp only[h1]
  |value f=>rfl
  |invoke r m=>rfl
 |move x=>simp only[h x (by simp[Op.operands])]
 |assign x=>simp only[h x (by simp[Op.operands])]
 |pick c a b=>simp_all[Op.operands]
 |box t x=>simp only[h x (by simp[Op.operands])]
 |load t a=>simp only[h a (by simp[Op.operands])]
 |store t a x=>simp_all[Op.operands]
 |nilCheck x=>simp only[h x (by simp[Op.operands])]
 |binOp b t x y yt=>simp_all[Op.operands]
 |unOp u t x=>simp only[h x (by simp[Op.operands])]
 |convert s d x=>simp only[h x (by simp[Op.operands])]
 |makeInterface t x=>simp only[h x (by simp[Op.operands])]
 |makeSlice t l c=>simp_all[Op.operands]
 |sliceToArrayPointer t x=>simp only[h x (by simp[Op.operands])]
 |fieldAddr s x f=>simp only[h x (by simp[Op.operands])]
 |field s x f=>simp only[h x (by simp[Op.operands])]
 |indexAddr t x i=>simp_all[Op.operands]
 |index t x i=>simp_all[Op.operands]
 |extract t i=>simp only[h t (by simp[Op.operands])]
 |makeMap t r=>
  have h1:r.map ev=r.map Og:=by cases r with|none=>rfl|some y=>simp[h y (by simp[Op.operands])]
  simp only[h1]
 |lookup t x i c=>simp_all[Op.operands]
 |mapUpdate t m k x=>simp_all[Op.operands]
 |_=>rfl
theorem K4[ab]{P:Program}{nm nm':Nat}{ev:Operand→AV}{o:Oper}(h:au o.op=false):aK P nm ev o=aK P nm' ev o:=by
 obtain⟨dst,op,type,pos,after,guard⟩:=o
 unfold aK
 cases op with
 |alloc _=>simp[au]at h
 |box _ _=>simp[au]at h
 |buildSlice _ _ _=>simp[au]at h
 |makeSlice _ _ _=>simp[au]at h
 |makeMap _ _=>simp[au]at h
 |call c=>
  obtain⟨callee,args,argTypes⟩:=c
  cases callee with
  |builtin b=>
   cases b with
   |append=>simp[au]at h
   |_=>rfl
  |_=>rfl
 |_=>rfl
theorem RM.yh{hp:ag}{n:Nat}{g c f:Bool}{es:List AV}(h:hp[n]?=some (some (.arr g c f es))):(RM.arr n es.length).run hp=some (g,c,f,es):=by
 simp[RM.arr,RM.run,h]
theorem sf[ab]{P:Program}{E:Env}{hp:ag}{w:World}(hI:Inv E hp w){fr:List AV}{a:Act}(eX:an E true fr a.tmps.toList){fn:Func}{l:List AV}
  (h:(aW P fr fn.results.toList).run hp=some l):∃ v,(results fn a.tmps).run P w=.ok v w∧ak E true (cE l) v:=by
 have one:∀ (r:ResultVar) (x:AV),(kh P fr r).run hp=some x →
   ∃ v,(match r with|.tmp t=>pure (a.tmps.getD t undef)|.cell ad t=>(do loadVar t (←asAddr (a.tmps.getD ad undef))):Sem Value).run P w=.ok v w∧ak E true x v:=by
  intro r x hx
  cases r with
  |tmp t=>
   simp only[kh,RM.run_pure,Option.some.injEq]at hx
   subst hx
   exact⟨_,rfl,ic hI.jj eX (.tmp t)⟩
  |cell ad t=>
   simp only[kh]at hx
   have hr:=ic hI.jj eX (.tmp ad)
   obtain⟨v,h1,h2⟩:=G0 hI (va:=a.tmps.getD ad undef) hr hx
   refine⟨v,?_,h2⟩
   simp only[Instr.loadAt,Sem.run_bind]at h1
   simp only[Sem.run_bind]
   cases hq:a.tmps.getD ad undef with
   |pointer p=>
    cases p with
    |some p=>rw[hq]at h1; simpa[asAddr,Instr.sureAddr] using h1
    |none=>rw[hq]at h1; simp[Instr.sureAddr]at h1
   |_=>rw[hq]at h1; simp[Instr.sureAddr]at h1
 have many:∀ (rs:List ResultVar) (l:List AV),(aW P fr rs).run hp=some l →
   ∃ vs:List Value,(rs.mapM fun|.tmp t=>pure (a.tmps.getD t undef)|.cell ad t=>(do loadVar t (←asAddr (a.tmps.getD ad undef))):Sem (List Value)).run P w=.ok vs w ∧
     an E true l vs:=by
  intro rs
  induction rs with
  |nil=>
   intro l h
   simp only[aW,RM.run_pure,Option.some.injEq]at h
   subst h
   exact⟨[],by simp[List.mapM_nil],by simp[an]⟩
  |cons r rs ih=>
   intro l h
   simp only[aW,RM.run_bind]at h
   cases hq:(kh P fr r).run hp with
   |none=>rw[hq]at h; simp at h
   |some x=>
    rw[hq]at h
    simp only[Option.bind_some]at h
    cases ed:(aW P fr rs).run hp with
    |none=>rw[ed]at h; simp at h
    |some xs=>
     rw[ed]at h
     simp only[Option.bind_some,RM.run_pure,Option.some.injEq]at h
     subst h
     obtain⟨v,h1,h2⟩:=one r x hq
     obtain⟨vs,h3,h4⟩:=ih xs ed
     refine⟨v::vs,?_,by simp only[an]; exact⟨h2,h4⟩⟩
     rw[List.mapM_cons,Sem.run_bind,h1,Result.andThen_ok,Sem.run_bind,h3]
     rfl
 obtain⟨vs,h1,h2⟩:=many _ _ h
 have hm:(fn.results.mapM fun|.tmp t=>pure (a.tmps.getD t undef)|.cell ad t=>(do loadVar t (←asAddr (a.tmps.getD ad undef))):Sem (Array Value)).run P w=.ok vs.toArray w:=by
  rw[Array.mapM_eq_mapM_toList,Sem.run_map,h1]
  rfl
 refine⟨if h:vs.toArray.size=1 then vs.toArray[0] else .tuple vs.toArray,?_,?_⟩
 ·unfold results
  rw[Sem.run_bind]
  exact congrArg (fun (r:Result (Array Value))=>r.andThen fun vs w'=>(pure (if h:vs.size=1 then vs[0] else .tuple vs):Sem Value).run P w') hm
 ·have hlen:=h2.length
  match l,vs,h2,hlen with
  |[],[],_,_=>simp[cE,ak,an]
  |[x],[v],h2,_=>simp only[an]at h2; simpa[cE] using h2.1
  |x::y::r,v::u::s,h2,_=>
   simp only[cE,ak]
   exact⟨v::u::s,by simp,h2⟩
  |[],_::_,_,h=>simp at h
  |_::_,[],_,h=>simp at h
  |[_],_::_::_,_,h=>simp at h
  |_::_::_,[_],_,h=>simp at h
def Env.gH(E:Env)(k:Nat):Env where
 ρ:=fun n aq=>if n<E.L then E.ρ n aq else none
 m:=E.m
 L:=E.L+k
 own:=E.own
theorem FP[ab]{E:Env}{hp:ag}{w:World}(hI:Inv E hp w)(k:Nat):
  Ext E (E.gH k)∧Inv (E.gH k) (hp++List.replicate k none) w∧Fr E w (E.gH k) w:=by
 have hx:Ext E (E.gH k):=⟨fun _ _ h=>h,fun n hn aq l h=>by simp[Env.gH,hn,h],by simp[Env.gH]⟩
 have hold:∀ n o,(hp++List.replicate k none)[n]?=some (some o)→hp[n]?=some (some o)∧n<E.L:=by
  intro n o h
  rw[List.getElem?_append]at h
  split at h
  ·rename_i bL; exact⟨h,by rw[←hI.len]; exact bL⟩
  ·simp[List.getElem?_replicate]at h
 have dj:∀ n,n<E.L→∀ aq,(E.gH k).ρ n aq=E.ρ n aq:=fun n hn aq=>by simp[Env.gH,hn]
 have eH:∀ n b,cb (E.gH k) (hp++List.replicate k none) n b→cb E hp n b:=by
  rintro n b ⟨o,l,ho,hl,hb⟩
  obtain⟨h1,h2⟩:=hold n o ho
  refine⟨o,l,h1,?_,hb⟩
  cases o with
  |arr=>simpa only[dj n h2] using hl
  |gw=>simpa only[dj n h2] using hl
 refine⟨hx,⟨by simp[Env.gH,hI.len],?_,?_,fun n1 n2 b h1 h2=>hI.inj n1 n2 b (eH _ _ h1) (eH _ _ h2),hI.mem,hI.oi,hI.jj⟩,
  ⟨rfl,rfl,rfl,Nat.le_refl _,fun _ _ _=>rfl,fun _ h=>.inl h,fun _ _ h=>.inl h,fun _ r h=>⟨r,h⟩⟩⟩
 ·intro n o ho
  obtain⟨h1,h2⟩:=hold n o ho
  have h:=hI.objs n o h1
  cases o with
  |arr g cl fz es=>
   obtain⟨l,hl,hv,hm⟩:=h
   refine⟨l,by rw[dj n h2]; exact hl,fun aq l' h=>hv aq l' (by rw[dj n h2]at h; exact h),?_⟩
   cases hb:l.kH with
   |none=>rw[hb]at hm; exact hm
   |some b=>
    rw[hb]at hm
    obtain⟨c,T,a1,a2,a3,a4,a5,a6,a7⟩:=hm
    exact⟨c,T,a1,a2,a3,a4,a5,a6,fun i e he=>by obtain⟨v,kj,fI⟩:=a7 i e he; exact⟨v,kj.mono hx,fI⟩⟩
  |gw k NQ=>
   obtain⟨l,b,es,clock,a1,a2,a3,a4,a5,a6,a7,a8⟩:=h
   exact⟨l,b,es,clock,by rw[dj n h2]; exact a1,a2,a3,a4,a5,fun aq l' h=>a6 aq l' (by rw[dj n h2]at h; exact h),a7,a8.mono hx⟩
 ·intro n aq h
  rw[List.getElem?_append]at h
  split at h
  ·rename_i bL
   have:n<E.L:=by rw[←hI.len]; exact bL
   rw[dj n this]
   exact hI.free n aq h
  ·rename_i N0
   have:¬n<E.L:=by rw[←hI.len]; exact N0
   simp[Env.gH,this]
def Env.lower(E:Env)(n:Nat):Env:={ E with L:=n }
theorem tP[ab]{E:Env}{hp:ag}{w:World}(hI:Inv E hp w){n:Nat}(hn:n≤hp.length)(bg:(hp.take n).all (kJ n)=true):
  Inv (E.lower n) (hp.take n) w∧Fr E w (E.lower n) w∧Down E (E.lower n):=by
 have Q2:Down E (E.lower n):=⟨fun _ _ h=>h,fun _ _ _ _ h=>h⟩
 have hold:∀ i o,(hp.take n)[i]?=some o→hp[i]?=some o∧i<n:=by
  grind
 have eH:∀ i b,cb (E.lower n) (hp.take n) i b→cb E hp i b:=by
  rintro i b ⟨o,l,ho,hl,hb⟩
  exact⟨o,l,(hold i _ ho).1,hl,hb⟩
 refine⟨⟨by simp[Env.lower]; omega,?_,fun i aq h=>hI.free i aq (hold i _ h).1,fun n1 n2 b h1 h2=>hI.inj n1 n2 b (eH _ _ h1) (eH _ _ h2),hI.mem,hI.oi,hI.jj⟩,
  ⟨rfl,rfl,rfl,Nat.le_refl _,fun _ _ _=>rfl,fun _ h=>.inl h,fun _ _ h=>.inl h,fun _ r h=>⟨r,h⟩⟩,Q2⟩
 intro i o ho
 obtain⟨h1,h2⟩:=hold i _ ho
 have hb:=List.all_eq_true.1 bg _ (List.mem_of_getElem? ho)
 simp only[kJ]at hb
 have h:=hI.objs i o h1
 cases o with
 |arr g cl fz es=>
  obtain⟨l,hl,hv,hm⟩:=h
  refine⟨l,hl,hv,?_⟩
  cases zx:l.kH with
  |none=>rw[zx]at hm; exact hm
  |some b=>
   rw[zx]at hm
   obtain⟨c,T,a1,a2,a3,a4,a5,a6,a7⟩:=hm
   refine⟨c,T,a1,a2,a3,a4,a5,a6,fun j e he=>?_⟩
   obtain⟨v,kj,fI⟩:=a7 j e he
   refine⟨v,?_,fI⟩
   cases cl with
   |true=>exact ak.dR ⟨Q2.m⟩ kj
   |false=>
    simp only[aJ.below,Bool.false_or]at hb
    refine ak.down Q2 ?_ kj
    have:∀ (l:List AV),cQ n l=true→∀ x∈l,below n x=true:=by
     intro l
     induction l with
     |nil=>simp
     |cons y ys ih=>
      simp_all[cQ]
    exact this es hb e (List.mem_of_getElem? he)
 |gw k NQ=>
  obtain⟨l,b,es,clock,a1,a2,a3,a4,a5,a6,a7,a8⟩:=h
  refine⟨l,b,es,clock,a1,a2,a3,a4,a5,a6,a7,?_⟩
  simp only[aJ.below]at hb
  exact an.down Q2 hb a8
theorem sg[ab]{E:Env}{n:Nat}(Q2:Down E (E.lower n)):∀ {fr:List AV} {vs:List Value},an E true fr vs→an (E.lower n) true (fr.map (forget n)) vs
 |[],[],_=>by simp[an]
 |x::xs,v::vs,h=>by
  simp only[an]at h
  simp only[List.map_cons,an]
  refine⟨?_,sg Q2 h.2⟩
  unfold forget
  split
  ·rename_i hb; exact ak.down Q2 hb h.1
  ·simp[ak]
 |[],_::_,h=>by simp[an]at h
 |_::_,[],h=>by simp[an]at h
end Go.PI
end
section
/- PI, part Da: a function that is entered as a deferred call while the frame below returns: recover gives nil. -/
namespace Go.PI
theorem lK(o:Oper):(dK o).dst=o.dst∧(dK o).guard=o.guard∧(dK o).after=o.after:=by
 unfold dK; split
 ·split<;>exact⟨rfl,rfl,rfl⟩
 ·exact⟨rfl,rfl,rfl⟩
theorem Ab(o:Oper):dK o=o∨(dK o={ o with op:=.move (.const .nilIface) }∧∃ mC,o.op=.call { callee:=.builtin .recover,args:=#[],argTypes:=mC }):=by
 unfold dK; split
 ·rename_i c hc
  split
  ·rename_i h1 h2
   refine .inr ⟨rfl,c.argTypes,?_⟩
   rw[hc]
   obtain⟨x,y,z⟩:=c
   simp only at h1 h2
   rw[h1,Array.toList_eq_nil_iff.1 h2]
  ·exact .inl rfl
 ·exact .inl rfl
theorem CH{ρ:Operand→Value}{o:Oper}{P:Program}{w:World}{mC:Array TypeId}(h:o.op=.call { callee:=.builtin .recover,args:=#[],argTypes:=mC }):(execOp ρ o).run P w=.ok .recover w:=by
 unfold execOp; rw[h]; rfl
theorem zy(ops:Array Oper)(tmps:Array Value):yielded (ops.map dK) tmps=yielded ops tmps:=by
 funext j
 simp only[yielded,Array.getElem?_map]
 cases ops[j]? with
 |none=>rfl
 |some o=>simp only[Option.map_some,Option.bind_some,(lK o).1]
section
variable {F:Fence}{n:Nat}{P:Program}{ops:Array Oper}{Q:Exit→Act→World→Prop}
theorem GX(l:List Nat):∀ (a:Act) (w:World),wpOpsIn F n P (ops.map dK) Q l a w→∀ (b:Frame) (k:List Go.Item) (cs:List Frame),b.kind=.deferred→recoverD cs=none→F.round=none→b.roundOf=F.round→F.fn b.fn→F.room (cs.length+1+n) →
  ∃ e a' w',Q e a' w'∧ArrivesIn (Machine.fenced P F) P (lone (b.atR a (.inRegion ops l::k)) cs w) b k cs e a' w':=by
 induction l with
 |nil=>exact fun a w h b k cs _ _ _ _ hb hr=>⟨.normal,a,w,h,.one (fenced_calm hb hr rfl) stepR_region_end⟩
 |cons i rest ih=>
  intro a w h b k cs hk nC eX dJ hb hr
  simp only[wpOpsIn,Array.getElem?_map,zy]at h
  cases ho:ops[i]? with
  |none=>
   simp only[ho,Option.map_none]at h
   obtain⟨e,a',w',hq,cN⟩:=ih a w h b k cs hk nC eX dJ hb hr
   have hs:=stepR_op_skip (P:=P) (b:=b) (a:=a) (k:=k) (cs:=cs) (w:=w) (ops:=ops) (i:=i) (rest:=rest) (by simp[ho])
   simp only[ho,Option.bind_none,Act.put]at hs
   exact⟨e,a',w',hq,.of_steps (.one (fenced_noOper hb hr ho) hs) cN⟩
  |some o=>
   simp only[ho,Option.map_some]at h
   have hwd:Region.wanted (dK o) (yielded ops a.tmps)=Region.wanted o (yielded ops a.tmps):=by unfold Region.wanted; rw[(lK o).2.1]
   rw[hwd,(lK o).1]at h
   have CI:∀ v,(b.atR a (.inRegion ops (i::rest)::k)).finish v=b.atR (a.put o.dst v) (.inRegion ops rest::k):=by
    intro v; rw[Frame.finish_atR,ho]; rfl
   by_cases hw:Region.wanted o (yielded ops a.tmps)=true
   ·have hg:=stepGR_op (P:=P) (b:=b) (k:=k) (cs:=cs) (w:=w) (rest:=rest) ho hw
    simp only[hw,if_true,Oper.wpIn]at h
    rcases Ab o with he|⟨he,mC,EW⟩
    ·rw[he]at h
     rw[dJ]at hg
     obtain⟨uC,h⟩:=h
     have h0:(lone (b.atR a (.inRegion ops (i::rest)::k)) cs w).fenced P F:=fenced_oper hb hr ho uC
     simp only[Oper.uponIn]at h
     split at h
     ·rename_i v w' kL
      obtain⟨e,a',xE,hq,cN⟩:=ih _ _ h b k cs hk nC eX dJ hb hr
      refine⟨e,a',xE,hq,.of_steps (.one h0 (step_lone_go ?_)) cN⟩
      rw[hg,←CI]; simp[stepG.apply,kL]
     ·rename_i w' kL
      obtain⟨e,a',xE,hq,cN⟩:=ih _ _ h b k cs hk nC eX dJ hb hr
      refine⟨e,a',xE,hq,.of_steps (.one h0 (step_lone_go ?_)) cN⟩
      rw[hg,←CI]; simp[stepG.apply,kL]
     ·rename_i d w' kL
      obtain⟨e,a',xE,hq,cN⟩:=ih _ _ h b k cs hk nC eX dJ hb hr
      refine⟨e,a',xE,hq,.of_steps (.one h0 (step_lone_go ?_)) cN⟩
      have:=Frame.finish_atR b { a with defers:=d::a.defers } ops i rest k undef
      rw[ho]at this
      rw[hg]; simp only[stepG.apply,Sem.runT_eq,kL,GStep.bare_after]
      exact congrArg (fun fr=>GStep.go { frame:=fr,callers:=cs,status:=.running,dying:=none } w') this
     ·rename_i f args w' kL
      obtain⟨hn,hF,h⟩:=h
      have nD:F.room ((b.atR a (.inRegion ops (i::rest)::k)::cs).length+1+(n-1)):=Fence.room_enter hr hn
      obtain⟨e,xE,fr,hR,oj,ru,Bn⟩:=h (b.atR a (.inRegion ops (i::rest)::k)::cs) nD
      have lL:step P (lone (b.atR a (.inRegion ops (i::rest)::k)) cs w)=.next (lone (Frame.enter P f args .normal) (b.atR a (.inRegion ops (i::rest)::k)::cs) w'):=
       step_lone_go (by rw[hg]; simp[stepG.apply,kL,Frame.atR])
      cases e with
      |returned v=>
       have hl:(lone fr (b.atR a (.inRegion ops (i::rest)::k)::cs) xE).fenced P F:=fenced_leaving (ru▸hF) nD Bn
       obtain⟨e,a',w₃,hq,cN⟩:=ih _ _ hR b k cs hk nC eX dJ hb hr
       refine⟨e,a',w₃,hq,.of_steps (.head h0 lL (StepsIn.trans oj (.one hl ?_))) cN⟩
       rw[←CI]; exact step_leave_returned Bn
      |panicked chain=>
       have hl:(lone fr (b.atR a (.inRegion ops (i::rest)::k)::cs) xE).fenced P F:=fenced_leaving (ru▸hF) nD Bn
       refine⟨.panic chain,a,xE,hR,.inRegion ops (i::rest)::k,.head h0 lL (StepsIn.trans oj (.one hl ?_))⟩
       rw[←Frame.raise_atR]; exact step_leave_panicked Bn
      |outgrown=>
       obtain⟨a₀,w₀,hq⟩:=hR
       exact⟨.outgrown,a₀,w₀,hq,.inr (Outgrown.of_steps (.one lL) oj)⟩
     ·rename_i row args w' kL
      obtain⟨hn,h⟩:=h
      obtain⟨v,xE,hR,oj⟩:=h (b.atR a (.inRegion ops (i::rest)::k)) cs (Fence.room_enter hr hn)
      have lL:step P (lone (b.atR a (.inRegion ops (i::rest)::k)) cs w)=.next (lone (Frame.ofRow P row args .normal) (b.atR a (.inRegion ops (i::rest)::k)::cs) w'):=
       step_lone_go (by rw[hg]; simp[stepG.apply,kL,Frame.atR])
      obtain⟨e,a',w₃,hq,cN⟩:=ih _ _ hR b k cs hk nC eX dJ hb hr
      refine⟨e,a',w₃,hq,.of_steps (.head h0 lL ?_) cN⟩
      rw[←CI]; exact oj
     ·rename_i l f tmps assign body w' kL
      obtain⟨hn,_,h⟩:=h
      obtain⟨e,xE,hR,oj⟩:=h (b.atR a (.inRegion ops (i::rest)::k)) cs (Fence.room_enter hr hn)
      have lL:step P (lone (b.atR a (.inRegion ops (i::rest)::k)) cs w)=.next (lone (Frame.round l f tmps assign body .normal) (b.atR a (.inRegion ops (i::rest)::k)::cs) w'):=
       step_lone_go (by rw[hg]; simp[stepG.apply,kL,Frame.atR])
      cases e with
      |returned v=>
       obtain⟨e,a',w₃,hq,cN⟩:=ih _ _ hR b k cs hk nC eX dJ hb hr
       refine⟨e,a',w₃,hq,.of_steps (.head h0 lL ?_) cN⟩
       rw[←CI]; exact oj
      |panicked chain=>
       refine⟨.panic chain,a,xE,hR,.inRegion ops (i::rest)::k,.head h0 lL ?_⟩
       rw[←Frame.raise_atR]; exact oj
      |outgrown=>
       obtain⟨a₀,w₀,hq⟩:=hR
       exact⟨.outgrown,a₀,w₀,hq,.inr (Outgrown.of_steps (.one lL) oj)⟩
     ·rename_i v w' kL
      refine⟨_,a,w',h,.inRegion ops (i::rest)::k,.one h0 (step_lone_go ?_)⟩
      rw[hg,←Frame.raise_atR]; simp[stepG.apply,kL]
     ·exact h.elim
    ·-- recover
     rw[he]at h
     have uC:∀ f,o.about P w a.eval=some f→F.fn f:=by
      intro f hf
      unfold Oper.about at hf
      rw[EW]at hf
      cases hf
     have h0:(lone (b.atR a (.inRegion ops (i::rest)::k)) cs w).fenced P F:=fenced_oper hb hr ho uC
     have h2:wpOpsIn F n P (ops.map dK) Q rest (a.put o.dst .nilIface) w:=by
      have h3:=h.2
      rw[eX]at h3
      exact h3
     obtain⟨e,a',xE,hq,cN⟩:=ih _ _ h2 b k cs hk nC eX dJ hb hr
     refine⟨e,a',xE,hq,.of_steps (.one h0 (step_lone_go ?_)) cN⟩
     have Zi:b.roundOf=none:=dJ.trans eX
     rw[Zi,Oper.semAt_none]at hg
     have Sp:=tryRecover_deferred (fr:=b.atR a (.inRegion ops (i::rest)::k)) hk cs
     rw[hg,←CI]
     simp only[Frame.atR,Zi]at Sp ⊢
     simp[stepG.apply,CH EW,Sp,nC]
   ·simp only[hw,if_false,Bool.false_eq_true]at h
    obtain⟨uC,h⟩:=h
    obtain⟨e,a',w',hq,cN⟩:=ih _ _ h b k cs hk nC eX dJ hb hr
    have hs:=stepR_op_skip (P:=P) (b:=b) (a:=a) (k:=k) (cs:=cs) (w:=w) (ops:=ops) (i:=i) (rest:=rest) (by simp[ho]; simpa using hw)
    simp only[ho,Option.bind_some]at hs
    have NO:∀ f,o.about P w a.eval=some f→F.fn f:=by
     rcases Ab o with he|⟨he,mC,EW⟩
     ·rw[he]at uC; exact uC
     ·intro f hf
      unfold Oper.about at hf
      rw[EW]at hf
      cases hf
    exact⟨e,a',w',hq,.of_steps (.one (fenced_oper hb hr ho NO) hs) cN⟩
def Ic(F:Fence)(n:Nat)(P:Program)(c:Code)(Q:Exit→Act→World→Prop)(a:Act)(w:World):Prop:=
 ∀ (b:Frame) (k:List Go.Item) (cs:List Frame),b.kind=.deferred→recoverD cs=none→F.round=none→b.roundOf=F.round→F.fn b.fn→F.room (cs.length+1+n) →
   ∃ e a' w',Q e a' w'∧ArrivesIn (Machine.fenced P F) P (lone (b.atR a (.code c::k)) cs w) b k cs e a' w'
variable {a:Act}{w:World}
theorem J2{c:Code}(h:c.wpIn F n P Q a w):Ic F n P c Q a w:=fun b k cs _ _ _ dJ hb hr=>h b k cs dJ hb hr
theorem NP{x y:Code}(h:Ic F n P x (fun e a w=>match e with|.normal=>Ic F n P y Q a w|e=>Q e a w) a w):Ic F n P (.seq x y) Q a w:=by
 intro b k cs hk nC eX dJ hb hr
 have i0:(lone (b.atR a (.code (.seq x y)::k)) cs w).fenced P F:=fenced_calm hb hr rfl
 obtain⟨e,a₁,w₁,hq,cN⟩:=h b (.code y::k) cs hk nC eX dJ hb hr
 cases e with
 |normal=>
  obtain⟨e₂,a₂,w₂,xF,ki⟩:=hq b k cs hk nC eX dJ hb hr
  exact⟨e₂,a₂,w₂,xF,.of_steps (.head i0 stepR_seq cN) ki⟩
 |exit id=>exact⟨_,a₁,w₁,hq,.of_steps (.one i0 stepR_seq) (.pass (x:=.code y) rfl (fun _ _=>.inl (by simp)) cN)⟩
 |goto l=>exact⟨_,a₁,w₁,hq,.of_steps (.one i0 stepR_seq) (.pass (x:=.code y) rfl (fun _ _=>.inl (by simp)) cN)⟩
 |ret=>exact⟨_,a₁,w₁,hq,.of_steps (.one i0 stepR_seq) (.pass (x:=.code y) rfl (fun _ _=>.inl (by simp)) cN)⟩
 |panic ch=>exact⟨_,a₁,w₁,hq,.of_steps (.one i0 stepR_seq) (.pass (x:=.code y) rfl (fun _ _=>.inl (by simp)) cN)⟩
 |outgrown=>exact⟨_,a₁,w₁,hq,.of_steps (.one i0 stepR_seq) (.pass (x:=.code y) rfl (fun _ _=>.inl (by simp)) cN)⟩
theorem Fg{id:Nat}(h:wpOpsIn F n P (ops.map dK) Q (List.range ops.size) a w):Ic F n P (.region id ops false) Q a w:=
 fun b k cs hk nC eX dJ hb hr=>let ⟨e,a',w',q,r⟩:=GX _ a w h b k cs hk nC eX dJ hb hr; ⟨e,a',w',q,.of_steps (.one (fenced_calm hb hr rfl) stepR_region) r⟩
theorem J3{id:Nat}(h:∀ t,wpOpsIn F n P (ops.map dK) Q (Region.schedule (P.follows .mixedOrders) ops t) a { w with drawn:=w.drawn+1 }):Ic F n P (.region id ops true) Q a w:=
 fun b k cs hk nC eX dJ hb hr=>let ⟨e,a',w',q,r⟩:=GX _ a _ (h _) b k cs hk nC eX dJ hb hr; ⟨e,a',w',q,.of_steps (.one (fenced_calm hb hr rfl) stepR_region_draw) r⟩
theorem zA{f:FuncId}{fn:Func}{c:Code}{args:Array Value}{R:Ending→World→Prop}(hf:P.funcs[f]?=some fn)(hb:fn.body=some c)(hF:F.fn f)
  (h:Ic F n P c (bodyPost P fn R) { tmps:=args++Array.replicate (fn.ntmps-args.size) undef,defers:=[] } w) (dJ:F.round=none:=by rfl) :
  CallsDIn F n P f args .returning w fun e u' w'=>u'=.returning∧R e w':=by
 refine⟨hF,fun c₀ cs hu hr=>?_⟩
 let b:Frame:={ (default:Frame) with fn:=f,kind:=.deferred,roundOf:=none }
 have lL:Frame.enter P f args .deferred=b.atR { tmps:=args++Array.replicate (fn.ntmps-args.size) undef,defers:=[] } [.code c]:=by
  simp[Frame.enter,Frame.atR,hf,hb,b]
 have hc:({ c₀ with mode:=.returning }:Frame)=c₀:=by cases c₀; simp only at hu; rw[hu]
 have nC:recoverD (c₀::cs)=none:=by simp only[recoverD,hu]
 obtain⟨e,a',w',hq,cN⟩:=h b [] (c₀::cs) rfl nC dJ dJ.symm hF hr
 rw[←lL]at cN
 cases e with
 |normal=>
  obtain⟨hd,v,kL,hR⟩:=hq
  exact⟨.returned v,.returning,w',_,⟨rfl,hR⟩,(by rw[hc]; exact StepsIn.trans cN (.one (fenced_calm (fr:=b.atR a' []) hF hr rfl) (stepR_end rfl))),rfl,rfl,rfl,hd,fn,hf,kL⟩
 |ret=>
  obtain⟨hd,v,kL,hR⟩:=hq
  obtain⟨todo,hs⟩:=cN.1 rfl
  exact⟨.returned v,.returning,w',_,⟨rfl,hR⟩,(by rw[hc]; exact hs),rfl,rfl,rfl,hd,fn,hf,kL⟩
 |panic chain=>
  obtain⟨hd,hR⟩:=hq
  obtain⟨todo,hs⟩:=cN
  exact⟨.panicked chain,.returning,w',_,⟨rfl,hR⟩,(by rw[hc]; exact hs),rfl,rfl,rfl,hd,fn,hf⟩
 |exit id=>exact hq.elim
 |goto l=>exact hq.elim
 |outgrown=>exact⟨.outgrown,.returning,w',b,⟨rfl,hq⟩,cN.resolve_left (by simp[b]),rfl,rfl,trivial⟩
end
end Go.PI
end
section
/- PI, part Y: the evaluator's answers are what the machine does, on every tape and in every order. -/
namespace Go.PI
def K5[ab](B:o8)(E:Env):Out→Exit→Act→World→Prop
 |.norm s,.normal,a,w=>cK B E s a w
 |.exit i s,.exit j,a,w=>i=j∧cK B E s a w
 |.ret s,.ret,a,w=>cK B E s a w
 |.kg v s,.panic ch,a,w=>∃ u,ch=[{ v:=u,recovered:=false }]∧ak E true v u∧Inv E s.hp w∧Marks B E w a.defers
 |_,_,_,_=>False
def br[ab](B:o8)(E:Env)(w:World)(o:Out)(e:Exit)(a':Act)(w':World):Prop:=
 ∃ E',Ext E E'∧Fr E w E' w'∧K5 B E' o e a' w'
theorem br.from[ab]{B:o8}{E E1:Env}{w w1:World}{o:Out}{e:Exit}{a:Act}{w':World}(hx:Ext E E1)(hf:Fr E w E1 w1)(h:br B E1 w1 o e a w'):br B E w o e a w':=by
 obtain⟨E',h1,h2,h3⟩:=h
 exact⟨E',hx.trans h1,hf.trans h2,h3⟩
structure Ctx.Ok[ab](C:Ctx):Prop where
 name : ∀ (f : FuncId) (fn : Func), C.P.funcs[f]? = some fn → fn.body.isSome = true → (fn.name == "runtime.NumGoroutine") = false
 jL:∀ (g:FuncId) (h:List AV→Option AV) (as:List AV) (r:AV),C.jL g=some h→h as=some r→∀ (Ec:Env) (w:World) (vs:List Value),Inv Ec [] w→an Ec false as vs →
  Calls C.P g vs.toArray w (bp Ec w [] (.val r))
 fY:∀ (g:FuncId) (h:List AV→Option (AV×ag)) (as:List AV) (r:AV) (dQ:ag),C.fY g=some h→h as=some (r,dQ) →
  ∀ (Ec:Env) (w:World) (vs:List Value),Inv Ec [] w→an Ec false as vs →
    Calls C.P g vs.toArray w (fun en w'=>∃ r' wX,bp Ec w wX (.val r') en w'∧∀ nm,dz nm r' wX=dz nm r dQ)
 xl:∀ (g:FuncId) (h:List AV→Option (AV×ag)),C.fY g=some h→∃ fn:Func,C.P.funcs[g]?=some fn∧fn.body.isSome=true
 pB:∀ (g:FuncId) (h:List AV→RM dk) (args:List AV) (hp:ag) (e:dk),C.pB g=some h→(h args).run hp=some e→(∃ fn:Func,C.P.funcs[g]?=some fn∧fn.body.isSome=true) ∧
  ∀ (E:Env) (w:World) (vs:List Value),Inv E hp w→an E true args vs→Calls C.P g vs.toArray w (bp E w (ai hp e.wr) (.val e.val))
 BO:∀ (g:FuncId) (h:List AV→Option AV),C.jL g=some h→∃ fn:Func,C.P.funcs[g]?=some fn∧fn.body.isSome=true
def lW[ab](C:Ctx)(k:Nat):Prop:=
 ∀ f args hp res cr,mq C k f args hp=some (res,cr)→∀ (E:Env) (w:World) (vs:List Value),Inv E hp w→an E true args vs →
   Calls C.P f vs.toArray w (bp E w cr res)
def fJ[ab](C:Ctx)(k:Nat):Prop:=
 ∀ c s o,bU C k c s=some o→∀ (r:Option Nat) (B:o8),((r=B.lb∧B.rg=true)∨cA c=true)→∀ (E:Env) (a:Act) (w:World),cK B E s a w→c.wpIn (WF r) 0 C.P (br B E w o) a w
def lX[ab](P:Program)(step:Oper→St→Option Out):Prop:=
 ∀ (o:Oper) (s:St) (r:Out),step o s=some r→∀ (rd:Option Nat) (B:o8) (E:Env) (a:Act) (w:World) (K:Act→World→Prop) (Q:Exit→Act→World→Prop),cK B E s a w →
   (∀ s',r=.norm s'→∀ E' a' w',Ext E E'→Fr E w E' w'→cK B E' s' a' w'→K a' w') →
   (∀ v s',r=.kg v s'→∀ E' w' u,Ext E E'→Fr E w E' w'→Inv E' s'.hp w'→ak E' true v u→Q (.panic [{ v:=u,recovered:=false }]) a w') →
   o.wpIn (WF rd) 0 P a w K Q
def uU[ab](C:Ctx)(k:Nat):Prop:=
 ∀ g args hp res wr,(lA C k g args).run hp=some (res,wr)→∀ (E:Env) (w:World) (vs:List Value),Inv E hp w→an E true args vs →
   Calls C.P g vs.toArray w (bp E w (ai hp wr) res)
theorem qK[ab]{P:Program}{step:Oper→St→Option Out}(dM:lX P step)(tQ:∀ o s r,step o s=some r→(∃ s',r=.norm s')∨∃ v s',r=.kg v s')
  {ops:Array Oper} (rd:Option Nat) (B:o8):∀ (l:List Oper) (s:St) (o:Out),cH step ops l s=some o→∀ (E0 E:Env) (a:Act) (w0 w:World),Ext E0 E→Fr E0 w0 E w→cK B E s a w →
    wpListIn (WF rd) 0 P ops (br B E0 w0 o) l a w
 |[],s,o,h,E0,E,a,w0,w,hx,hf,hs=>by
  simp only[cH,Option.some.injEq]at h
  subst h
  exact⟨E,hx,hf,hs⟩
 |p::r,s,o,h,E0,E,a,w0,w,hx,hf,hs=>by
  simp only[cH]at h
  unfold wpListIn
  split at h
  ·simp at h
  ·rename_i hw
   rw[lC hs.fr hw]
   simp only[Bool.false_eq_true,if_false]
   exact⟨fun _ _=>trivial,qK dM tQ rd B r _ o h E0 E _ w0 w hx hf ⟨gE hs.fr (by simp[ak]),hs.inv,by rw[put_defers]; exact hs.df,hs.bs⟩⟩
  ·rename_i hw
   rw[lC hs.fr hw]
   simp only[if_true]
   cases hq:step p s with
   |none=>rw[hq]at h; simp at h
   |some q=>
    rw[hq]at h
    refine dM p s q hq rd B E a w _ _ hs (fun s' e E' a' w' gz G7 fp=>?_) (fun v s' e E' w' u gz G7 iz hr=>?_)
    ·subst e
     exact qK dM tQ rd B r s' o h E0 E' a' w0 w' (hx.trans gz) (hf.trans G7) fp
    ·subst e
     simp only[Option.some.injEq]at h
     subst h
     exact⟨E',hx.trans gz,hf.trans G7,u,rfl,hr,iz,hs.df.mono G7⟩
theorem fo[ab]{P:Program}{E:Env}{w:World}{fv:AV}{f:Value}{args wg:List AV}{vs:List Value}{g:FuncId}(hf:ak E true fv f)(ha:an E true args vs)
  (h : bE fv args = some (g, wg)) (ru : ∃ fn : Func, P.funcs[g]? = some fn ∧ fn.body.isSome = true ∧ (fn.name == "runtime.NumGoroutine") = false) :
  ∃ vs':List Value,an E true wg vs'∧(do let d ←Deferred.ofValue f vs.toArray; invoke d.target d.args:Sem Next).run P w=.ok (.enter g vs'.toArray) w:=by
 obtain⟨fn,h1,h2,h3⟩:=ru
 have hb:fn.body.isNone=false:=by cases hq:fn.body<;>simp_all
 have run:∀ (first captured:List Value),f=.func (.func g) first.toArray captured.toArray →
   (do let d ←Deferred.ofValue f vs.toArray; invoke d.target d.args:Sem Next).run P w=.ok (.enter g (first++vs++captured).toArray) w:=by
  intro first captured hv
  subst hv
  simp only[Deferred.ofValue,Sem.run_bind,Sem.run_pure,Result.andThen_ok,invoke,callFunc,run_program,h1,h3,hb,Bool.false_eq_true,if_false]
  simp
 cases fv with
 |lit u=>
  cases u with
  |func WM first captured=>
   cases WM with
   |func g'=>
    simp only[bE,Option.some.injEq,Prod.mk.injEq]at h
    obtain⟨rfl,rfl⟩:=h
    simp only[ak]at hf
    exact⟨first.toList++vs++captured.toList,((an.lits _).append ha).append (an.lits _),run _ _ (by simpa using hf)⟩
   |_=>simp[bE]at h
  |_=>simp[bE]at h
 |jd WM first captured=>
  cases WM with
  |func g'=>
   simp only[bE,Option.some.injEq,Prod.mk.injEq]at h
   obtain⟨rfl,rfl⟩:=h
   simp only[ak]at hf
   obtain⟨fv,cv,hv,rz,gZ⟩:=hf
   exact⟨fv++vs++cv,(rz.append ha).append gZ,run _ _ hv⟩
  |_=>simp[bE]at h
 |_=>simp[bE]at h
theorem FQ[ab]{P:Program}{E:Env}{hp:ag}{w:World}{o:Oper}{ρ:Operand→Value}{e:dk}(h:Step P E hp w (execOp ρ o) e)(r:Option Nat):o.semAt r ρ=execOp ρ o:=by
 refine Oper.semAt_eq r ρ o fun c hc=>?_
 obtain⟨E',w',v,hr,_⟩:=h
 have hd:(execOp ρ o).run P w=(do pure (.defer (←resolve ρ c o.type)):Sem Next).run P w:=by
  obtain⟨dst,op,type,pos,after,guard⟩:=o
  simp only at hc
  subst hc
  rfl
 unfold SU at hr
 rw[hd,Sem.run_bind]at hr
 cases cB:(resolve ρ c o.type).run P w with
 |ok d w1=>simp_all
 |halt x w1=>simp_all
theorem xm[ab]{P:Program}{B:o8}{rd:Option Nat}{E:Env}{s:St}{a:Act}{w:World}(_:cK B E s a w){o:Oper}{e:dk}(h:Step P E s.hp w (execOp a.eval o) e)
  {K:Act→World→Prop} {Q:Exit→Act→World→Prop}
  (hK:∀ E' w' v,Ext E E'→Fr E w E' w'→Inv E' (ai s.hp e.wr) w'→ak E' true e.val v→K (a.put o.dst v) w'):o.wpIn (WF rd) 0 P a w K Q:=by
 have Q3:=FQ h (WF rd).round
 obtain⟨E',w',v,hr,hx,hI,hf,hv⟩:=h
 refine⟨fun _ _=>trivial,?_⟩
 rw[Q3]
 rcases hr with hr|⟨hr,rfl⟩
 ·rw[hr,Oper.uponIn_value]
  exact hK E' w' v hx hf hI hv
 ·rw[hr,Oper.uponIn_skip]
  exact hK E' w' undef hx hf hI hv
theorem xn{P:Program}{g:FuncId}{vs:Array Value}{w:World}{R:Ending→World→Prop}(h:Calls P g vs w R)(rd:Option Nat)(n:Nat):CallsIn (WF rd) n P g vs w R:=
 (callsIn_wide (n:=n)).2 h
theorem yi{P:Program}{rd:Option Nat}{a:Act}{w:World}{o:Oper}{c:Call}(ho:o.op=.call c){g:FuncId}{vs':List Value}(aU:(execOp a.eval o).run P w=.ok (.enter g vs'.toArray) w)
  {R:Ending→World→Prop} (ib:Calls P g vs'.toArray w R) {K:Act→World→Prop} {Q:Exit→Act→World→Prop}
  (h1:∀ v w',R (.returned v) w'→K (a.put o.dst v) w') (h2:∀ ch w',R (.panicked ch) w'→Q (.panic ch) a w') (h3:∀ w',¬R .outgrown w'):o.wpIn (WF rd) 0 P a w K Q:=by
 refine⟨fun _ _=>trivial,?_⟩
 rw[Oper.semAt_eq _ _ _ (by rw[ho]; intro c h; cases h),aU,Oper.uponIn_enter]
 refine⟨fun h=>by simp[WF,Fence.wide]at h,(xn ib rd _).mono fun e w' hR=>?_⟩
 cases e with
 |returned v=>exact h1 v w' hR
 |panicked ch=>exact h2 ch w' hR
 |outgrown=>exact(h3 w' hR).elim
theorem BP[ab]{P:Program}{E:Env}{w:World}{a:Act}{o:Oper}{rv:Operand}{name:String}{cT:Array Operand}{mC:Array TypeId}(ho:o.op=.call ⟨.invoke rv name,cT,mC⟩){v:AV}(hv:ak E true v (a.eval rv)){g:FuncId}{x:AV}
  {args : List AV} (ha : an E true args (cT.toList.map a.eval)) (h : pD P v name = some (g, x)) (ru : ∃ fn : Func, P.funcs[g]? = some fn ∧ fn.body.isSome = true ∧ (fn.name == "runtime.NumGoroutine") = false) :
  ∃ vs':List Value,an E true (x::args) vs'∧(execOp a.eval o).run P w=.ok (.enter g vs'.toArray) w:=by
 obtain⟨fn,f1,f2,f3⟩:=ru
 have hb:fn.body.isNone=false:=by cases hq:fn.body<;>simp_all
 cases v with
 |fW t y=>
  simp only[pD,Option.map_eq_some_iff,Prod.mk.injEq]at h
  obtain⟨f,hm,rfl,rfl⟩:=h
  simp only[ak]at hv
  obtain⟨u,hv,hu⟩:=hv
  refine⟨u::cT.toList.map a.eval,by simp only[an]; exact⟨hu,ha⟩,?_⟩
  unfold Bm at hm
  split at hm
  case h_2=>simp at hm
  rename_i i d hi hd
  split at hm
  ·simp at hm
  ·rename_i m Td WN
   split at hm
   ·rename_i f' hp hf
    simp only[Option.some.injEq]at hm
    subst hm
    have Te:m.path.toList=[]:=by simpa using hp
    have aaX:0<Made.depth:=by decide
    obtain⟨n,hn⟩:∃ n,P.types.size+Made.depth=n+1:=⟨P.types.size+Made.depth-1,by omega⟩
    have Tf:(Go.method (P.types.size+Made.depth) t u name).run P w=.ok (f',u) w:=by
     rw[hn]
     unfold Go.method
     simp only[typeInfo,Sem.run_bind,run_program,Result.andThen_ok,hi,Sem.run_pure,Td,Te,follow,hf,receiverAt,underlying,hd]
     rfl
    have Sr:(callMethod (.iface t u) name (cT.map a.eval)).run P w=.ok (.enter f' (#[u]++cT.map a.eval)) w:=by
     simp only[callMethod,Sem.run_bind,run_program,Result.andThen_ok,Tf,callFunc,f1,f3,hb,Bool.false_eq_true,if_false,Sem.run_pure]
    have h0:(#[Value.iface t u]++cT.map a.eval)[0]?=some (Value.iface t u):=by rw[←Array.getElem?_toList]; simp
    have h1:(#[Value.iface t u]++cT.map a.eval).extract 1 (#[Value.iface t u]++cT.map a.eval).size=cT.map a.eval:=by
     apply Array.ext'
     simp
     exact List.take_of_length_le (by simp)
    simp only[execOp,ho,resolve,Sem.run_bind,Sem.run_pure,Result.andThen_ok,hv,invoke,h0,h1,Sr]
    rw[show (#[u]++cT.map a.eval)=(u::cT.toList.map a.eval).toArray by apply Array.ext'; simp]
   ·simp at hm
  ·simp at hm
 |_=>simp[pD]at h
theorem qL{P:Program}{rd:Option Nat}{a:Act}{w:World}{o:Oper}{c:Call}{f:Operand}(ho:o.op=.call c)(hc:c.callee=.value f){g:FuncId}{vs':List Value}
  (aU:(do let d ←Deferred.ofValue (a.eval f) (c.args.toList.map a.eval).toArray; invoke d.target d.args:Sem Next).run P w=.ok (.enter g vs'.toArray) w)
  {R:Ending→World→Prop} (ib:Calls P g vs'.toArray w R) {K:Act→World→Prop} {Q:Exit→Act→World→Prop}
  (h1:∀ v w',R (.returned v) w'→K (a.put o.dst v) w') (h2:∀ ch w',R (.panicked ch) w'→Q (.panic ch) a w') (h3:∀ w',¬R .outgrown w'):o.wpIn (WF rd) 0 P a w K Q:=by
 refine⟨fun _ _=>trivial,?_⟩
 rw[Oper.semAt_eq _ _ _ (by rw[ho]; intro c h; cases h)]
 have:(execOp a.eval o).run P w=.ok (.enter g vs'.toArray) w:=by
  simp only[execOp,ho,resolve,hc]
  rw[←aU]
  congr 3
  rw[←Array.toList_map]
 rw[this,Oper.uponIn_enter]
 refine⟨fun h=>by simp[WF,Fence.wide]at h,(xn ib rd _).mono fun e w' hR=>?_⟩
 cases e with
 |returned v=>exact h1 v w' hR
 |panicked ch=>exact h2 ch w' hR
 |outgrown=>exact(h3 w' hR).elim
theorem K6[ab]{E:Env}{hp:ag}{w w':World}(hI:Inv E hp w)(fb:∀ b,E.own b∨(E.m b).isSome=true→w'.heap[b]?=w.heap[b]?)(kZ:w.heap.size≤w'.heap.size):Inv E hp w':=by
 have eH:∀ n o,hp[n]?=some (some o)→∀ b,cb E hp n b→E.own b∨(E.m b).isSome=true:=by
  rintro n o ho b ⟨o',l,db,hl,hb⟩
  rw[ho]at db
  cases db
  have h:=hI.objs n o ho
  cases o with
  |arr g cl fz es=>
   obtain⟨l',je,_,hm⟩:=h
   simp only at hl
   rw[hl]at je; cases je
   rw[hb]at hm
   obtain⟨c,T,_,hif,_⟩:=hm
   cases fz with
   |true=>simp_all
   |false=>simp_all
  |gw k vs=>
   obtain⟨l',b',Vs,us,h1,h2,h3,h4,h5,_⟩:=h
   simp only at hl
   rw[hl]at h1; cases h1
   rw[hb]at h2; cases h2
   exact .inl h5
 refine⟨hI.len,fun n o hn=>(hI.objs n o hn).other hn fun b hb=>fb b (eH n o hn b hb),hI.free,hI.inj,fun b c h=>?_,fun b h=>Nat.lt_of_lt_of_le (hI.oi b h) kZ,hI.jj⟩
 obtain⟨T,fz,hw⟩:=hI.mem b c h
 exact⟨T,fz,by rw[fb b (.inr (by rw[h]; rfl))]; exact hw⟩
theorem wi{F:Fence}{n:Nat}{P:Program}{fn:Func}{tmps:Array Value}{R:Ending→World→Prop}{u:FrameMode}{tl:List Deferred}(hu:u≠.run):∀ (rs:List Nat) (w:World),rs.Nodup→(∀ r∈rs,w.heap[r]?=some (.deferred (some []))) →
  (∀ w',w'.heap.size=w.heap.size→w'.os=w.os→w'.tape=w.tape→w'.output=w.output→(∀ b,b∉rs→w'.heap[b]?=w.heap[b]?)→LeavesInM F n P fn tmps R tl u w') →
  LeavesInM F n P fn tmps R ((rs.map fun r=>{ target:=.collected r,args:=#[] })++tl) u w
 |[],w,_,_,h=>h w rfl rfl rfl rfl (fun _ _=>rfl)
 |r::rs,w,hn,hr,h=>by
  rw[List.nodup_cons]at hn
  refine⟨hu,.inl ⟨r,w.putObj r (.deferred none),rfl,run_takeDeferred (hr r (by simp)),?_⟩⟩
  refine wi hu rs _ hn.2 (fun r' h'=>?_) fun w' h1 h2 h3 h4 h5=>?_
  ·have dA:r'≠r:=by rintro rfl; exact hn.1 h'
   rw[World.putObj_heap_other dA]
   exact hr r' (by simp[h'])
  ·refine h w' (by rw[h1]; simp) h2 h3 h4 fun b hb=>?_
   simp only[List.mem_cons,not_or]at hb
   rw[h5 b hb.2,World.putObj_heap_other hb.1]
theorem jt[ab]{P:Program}{fn:Func}{tmps:Array Value}{R:Ending→World→Prop}{E0 E:Env}{w0 w:World}{hp:ag}{ds:List Deferred}{u:FrameMode}{B:o8}(hB:B.n=w0.heap.size)(hI:Inv E hp w)(hm:Marks B E w ds)
  (hf:Fr E0 w0 E w) (hu:u≠.run) (h:∀ w',Inv E hp w'→Fr E0 w0 E w'→LeavesInM Fence.wide 0 P fn tmps R B.tl u w'):LeavesInM Fence.wide 0 P fn tmps R ds u w:=by
 obtain⟨rs,rfl,AE,_,PL⟩:=hm
 refine wi hu rs w AE (fun r hr=>(PL r hr).2.2) fun w' h1 h2 h3 h4 h5=>h w' ?_ ?_
 ·refine K6 hI (fun b hb=>h5 b fun hr=>?_) (by omega)
  obtain⟨_,a2,a3⟩:=PL b hr
  rcases hb with hb|hb
  ·exact a2 hb
  ·cases QP:E.m b with
   |none=>rw[QP]at hb; simp at hb
   |some c=>obtain⟨T,fz,h6⟩:=hI.mem b c QP; rw[a3]at h6; cases h6
 ·refine⟨h2.trans hf.os,h3.trans hf.tape,h4.trans hf.out,by rw[h1]; exact hf.size,fun b hb ho=>?_,hf.own,hf.m,fun b r hr=>?_⟩
  ·rw[h5 b fun hr=>?_]
   ·exact hf.same b hb ho
   ·have:=(PL b hr).1; omega
  ·obtain⟨r',kL⟩:=hf.lp b r hr
   exact⟨r',by rw[h5 b fun hm=>by rw[(PL b hm).2.2]at kL; cases kL]; exact kL⟩
theorem uV[ab]{C:Ctx}{k:Nat}{f:FuncId}{args:List AV}{hp:ag}{r:oe×ag}(h:mq C k f args hp=some r):
  ∃ fn:Func,C.P.funcs[f]?=some fn∧fn.body.isSome=true:=by
 cases k with
 |zero=>simp[mq]at h
 |succ k=>
  simp only[mq]at h
  split at h
  ·simp at h
  rename_i fn ru
  split at h
  ·simp at h
  rename_i c hc
  exact⟨fn,ru,by rw[hc]; rfl⟩
theorem BQ[ab]{C:Ctx}{k:Nat}(hC:fJ C k){f:FuncId}{args:List AV}{hp:ag}{res:oe}{cr:ag}{fn:Func}{c:Code}(ru:C.P.funcs[f]?=some fn)(hc:fn.body=some c){E:Env}{w:World}{vs:List Value}(hI:Inv E hp w)(ha:an E true args vs)
  (h:(match bU C k c ⟨f,args++List.replicate (fn.ntmps-args.length) .undef,hp⟩ with
    |some (.norm s)|some (.ret s)=>
     match (aW C.P s.fr fn.results.toList).run s.hp with
     |some l=>some (oe.val (cE l),s.hp)
     |none=>none
    |some (.kg v s)=>some (.kg v,s.hp)
    |_=>none)=some (res,cr)):Calls C.P f vs.toArray w (bp E w cr res):=by
 have hlen:=ha.length
 have hs:cK ⟨w.heap.size,[],true,none⟩ E ⟨f,args++List.replicate (fn.ntmps-args.length) .undef,hp⟩ { tmps:=vs.toArray++Array.replicate (fn.ntmps-vs.toArray.size) undef,defers:=[] } w:=by
  refine⟨?_,hI,Marks.nil,Nat.le_refl _⟩
  simp only[Array.toList_append,Array.toList_replicate,List.size_toArray,←hlen]
  refine ha.append ?_
  have:=an.lits (E:=E) (o:=true) (List.replicate (fn.ntmps-args.length) undef)
  simpa using this
 have ret:∀ s',((bU C k c ⟨f,args++List.replicate (fn.ntmps-args.length) .undef,hp⟩=some (.norm s')) ∨
   (bU C k c ⟨f,args++List.replicate (fn.ntmps-args.length) .undef,hp⟩=some (.ret s'))) →
   (match (aW C.P s'.fr fn.results.toList).run s'.hp with|some l=>some (oe.val (cE l),s'.hp)|none=>none)=some (res,cr) →
   Calls C.P f vs.toArray w (bp E w cr res):=by
  intro s' bG hr
  split at hr
  case h_2=>simp at hr
  rename_i l hl
  simp only[Option.some.injEq,Prod.mk.injEq]at hr
  obtain⟨rfl,rfl⟩:=hr
  have fin:∀ E' a' w',Ext E E'→Fr E w E' w'→cK ⟨w.heap.size,[],true,none⟩ E' s' a' w'→LeavesInM Fence.wide 0 C.P fn a'.tmps (bp E w s'.hp (.val (cE l))) a'.defers .returning w':=by
   intro E' a' w' hx hf fp
   refine jt rfl fp.inv fp.df hf (by simp) fun w2 pv gZ=>?_
   obtain⟨v,h1,h2⟩:=sf pv fp.fr hl
   exact⟨v,h1,E',hx,pv,gZ,h2⟩
  refine callsIn_wide.1 (callsIn_of_wp_marks (F:=Fence.wide) (n:=0) ru hc trivial ?_)
  rcases bG with bG|bG
  ·refine wpIn_mono (hC c _ _ bG none _ (.inl ⟨rfl,rfl⟩) E _ w hs) fun e a' w' c8=>?_
   obtain⟨E',hx,hf,ho⟩:=c8
   cases e with
   |normal=>exact fin E' a' w' hx hf ho
   |_=>exact ho.elim
  ·refine wpIn_mono (hC c _ _ bG none _ (.inl ⟨rfl,rfl⟩) E _ w hs) fun e a' w' c8=>?_
   obtain⟨E',hx,hf,ho⟩:=c8
   cases e with
   |ret=>exact fin E' a' w' hx hf ho
   |_=>exact ho.elim
 split at h
 ·grind
 ·grind
 ·rename_i v s' bG
  simp only[Option.some.injEq,Prod.mk.injEq]at h
  obtain⟨rfl,rfl⟩:=h
  refine callsIn_wide.1 (callsIn_of_wp_marks (F:=Fence.wide) (n:=0) ru hc trivial (wpIn_mono (hC c _ _ bG none _ (.inl ⟨rfl,rfl⟩) E _ w hs) fun e a' w' c8=>?_))
  obtain⟨E',hx,hf,ho⟩:=c8
  cases e with
  |panic ch=>
   obtain⟨u,h1,h2,h3,h4⟩:=ho
   exact jt rfl h3 h4 hf (by simp) fun w2 pv gZ=>⟨E',hx,pv,gZ,u,h1,h2⟩
  |_=>exact ho.elim
 ·simp at h
theorem Dh[ab]{C:Ctx}(bI:C.Ok){k:Nat}(hF:lW C k):uU C (k+1):=by
 intro g args hp res wr h E w vs hI ha
 simp only[lA,RM.run_bind]at h
 cases hq:(aM 1000 args).run hp with
 |none=>rw[hq]at h; simp at h
 |some as=>
  rw[hq]at h
  simp only[Option.bind_some]at h
  split at h
  ·rename_i hf hh
   split at h
   case h_2=>simp[RM.ae]at h
   rename_i r hr
   exact uS hI ha hq h fun Ec h1 h2=>bI.jL g hf as r hh hr Ec w vs h1 h2
  ·split at h
   case h_2=>simp[RM.ae]at h
   rename_i r dQ hr
   exact uS hI ha hq h fun Ec h1 h2=>hF g as [] r dQ hr Ec w vs h1 h2.hX
theorem AF[ab]{C:Ctx}(bI:C.Ok){k:Nat}{g:FuncId}{args:List AV}{hp:ag}{nm:Nat}{e:dk}(h:(ir C (fun as=>mq C k g as []) nm g args).run hp=some e):
  ∃ fn : Func, C.P.funcs[g]? = some fn ∧ fn.body.isSome = true ∧ (fn.name == "runtime.NumGoroutine") = false := by
 unfold ir at h
 rw[RM.run_bind]at h
 cases hs:(aM 1000 args).run hp with
 |none=>rw[hs]at h; simp at h
 |some as=>
  rw[hs]at h
  simp only[Option.bind_some]at h
  split at h
  ·rename_i hh hi
   obtain⟨fn,h1,h2⟩:=bI.xl g hh hi
   exact⟨fn,h1,h2,bI.name g fn h1 h2⟩
  ·split at h
   ·rename_i r dQ hq
    obtain⟨fn,h1,h2⟩:=uV hq
    exact⟨fn,h1,h2,bI.name g fn h1 h2⟩
   ·simp[RM.ae]at h
theorem AG[ab]{C:Ctx}(bI:C.Ok){k:Nat}(hF:lW C k){E:Env}{hp:ag}{w:World}(hI:Inv E hp w){nm:Nat}(nv:nm=hp.length∨hp[nm]?=some none)
  {g:FuncId} {args:List AV} {vs:List Value} (ha:an E true args vs) {e:dk} (h:(ir C (fun as=>mq C k g as []) nm g args).run hp=some e) :
  Calls C.P g vs.toArray w (Ho E w hp e):=by
 unfold ir at h
 rw[RM.run_bind]at h
 cases hs:(aM 1000 args).run hp with
 |none=>rw[hs]at h; simp at h
 |some as=>
  rw[hs]at h
  simp only[Option.bind_some]at h
  have lT:=(oz hI (N:=fun _=>True) 1000).2 args as vs xk hs ha
  split at h
  ·rename_i hh hi
   split at h
   ·rename_i q hq
    exact(bI.fY g hh as q.1 q.2 hi hq _ w vs (lB hI _) lT).mono fun en w' hp=>by
     obtain⟨r',wX,h1,h2⟩:=hp
     rw[←h2]at h
     exact Hp hI nv h (fun b hb=>hb) h1
   ·simp[RM.ae]at h
  ·split at h
   ·rename_i r dQ hq
    exact(hF g as [] _ dQ hq _ w vs (lB hI _) lT.hX).mono fun en w' hp=>Hp hI nv h (fun b hb=>hb) hp
   ·simp[RM.ae]at h
theorem BR[ab]{C:Ctx}(bI:C.Ok){k:Nat}{g:FuncId}{args:List AV}{hp:ag}{r:oe×List (Nat×aJ)}(h:(lA C k g args).run hp=some r):
  ∃ fn : Func, C.P.funcs[g]? = some fn ∧ fn.body.isSome = true ∧ (fn.name == "runtime.NumGoroutine") = false := by
 have:∃ fn:Func,C.P.funcs[g]?=some fn∧fn.body.isSome=true:=by
  cases k with
  |zero=>simp[lA,RM.ae]at h
  |succ k=>
   simp only[lA,RM.run_bind]at h
   cases hq:(aM 1000 args).run hp with
   |none=>rw[hq]at h; simp at h
   |some as=>
    rw[hq]at h
    simp only[Option.bind_some]at h
    split at h
    ·rename_i hf hh; exact bI.BO g hf hh
    ·split at h
     case h_2=>simp[RM.ae]at h
     rename_i r dQ hr
     exact uV hr
 obtain⟨fn,h1,h2⟩:=this
 exact⟨fn,h1,h2,bI.name g fn h1 h2⟩
theorem pW[ab]{E E':Env}{hp cr:ag}{w w':World}(hI:Inv E hp w)(hx:Ext E E')(iz:Inv E' cr w')(hf:Fr E w E' w'){r:AV}{v:Value}(hr:ak E' true r v):
  ∃ E2,Ext E E2∧Inv E2 (gX hp.length r cr) w'∧Fr E w E2 w'∧ak E2 true r v:=by
 unfold gX
 split
 ·rename_i hc
  simp only[Bool.and_eq_true]at hc
  have hle:hp.length≤cr.length:=by rw[hI.len,iz.len]; exact hx.L
  obtain⟨h1,h2,h3⟩:=tP iz hle hc.2
  refine⟨E'.lower hp.length,⟨hx.m,fun n hn aq l h=>hx.ρ n hn aq l h,by simp[Env.lower,hI.len]⟩,h1,hf.trans h2,ak.down h3 hc.1 hr⟩
 ·exact⟨E',hx,iz,hf,hr⟩
theorem BS[ab]{E:Env}{hp:ag}{w:World}(hI:Inv E hp w){esz:Nat}:
  ∃ E',Ext E E'∧Inv E' (hp++[some (.arr true true false [])]) w∧Fr E w E' w∧ak E' true (.bh esz hp.length 0 0 0 none) (.slice none 0 0):=by
 let E':Env:={ ρ:=fun n aq=>if n=hp.length then (if aq=0 then some ⟨none,esz,0⟩ else none) else E.ρ n aq,m:=E.m,L:=E.L+1,own:=E.own }
 have hx:Ext E E':=⟨fun _ _ h=>h,fun n hn aq l h=>by
  have:n≠hp.length:=by rw[hI.len]; omega
  simp[E',this,h],by simp[E']⟩
 have dj:∀ n,n≠hp.length→∀ aq,E'.ρ n aq=E.ρ n aq:=fun n hn aq=>by simp[E',hn]
 have lQ:∀ n o,n≠hp.length→(hp++[some (.arr true true false [])])[n]?=some o→hp[n]?=some o:=by
  intro n o hn h
  rw[List.getElem?_append]at h
  split at h
  ·exact h
  ·rw[List.getElem?_eq_none (by simp; omega)]at h; simp at h
 have eH:∀ n b,cb E' (hp++[some (.arr true true false [])]) n b→cb E hp n b:=by
  rintro n b ⟨o,l,ho,hl,hb⟩
  by_cases e:n=hp.length
  ·subst e
   simp at ho
   subst ho
   simp[E']at hl
   subst hl
   simp at hb
  ·refine⟨o,l,lQ n _ e ho,?_,hb⟩
   cases o with
   |arr=>simpa only[dj n e] using hl
   |gw=>simpa only[dj n e] using hl
 refine⟨E',hx,⟨by simp[E',hI.len],?_,?_,fun n1 n2 b h1 h2=>hI.inj n1 n2 b (eH _ _ h1) (eH _ _ h2),hI.mem,hI.oi,hI.jj⟩,
  ⟨rfl,rfl,rfl,Nat.le_refl _,fun _ _ _=>rfl,fun _ h=>.inl h,fun _ _ h=>.inl h,fun _ r h=>⟨r,h⟩⟩,?_⟩
 ·intro n o ho
  by_cases e:n=hp.length
  ·subst e
   simp at ho
   subst ho
   refine⟨⟨none,esz,0⟩,by simp[E'],fun aq l' h=>?_,rfl,rfl⟩
   simp[E']at h
   simp[h.1]
  ·have db:=lQ n _ e ho
   have h:=hI.objs n o db
   cases o with
   |arr g cl fz es=>
    obtain⟨l,hl,hv,hm⟩:=h
    refine⟨l,by rw[dj n e]; exact hl,fun aq l' h=>hv aq l' (by rw[dj n e]at h; exact h),?_⟩
    cases hb:l.kH with
    |none=>rw[hb]at hm; exact hm
    |some b=>
     rw[hb]at hm
     obtain⟨c,T,a1,a2,a3,a4,a5,a6,a7⟩:=hm
     exact⟨c,T,a1,a2,a3,a4,a5,a6,fun i x gz=>by obtain⟨v,kj,fI⟩:=a7 i x gz; exact⟨v,kj.mono hx,fI⟩⟩
   |gw k NQ=>
    obtain⟨l,b,es,clock,a1,a2,a3,a4,a5,a6,a7,a8⟩:=h
    exact⟨l,b,es,clock,by rw[dj n e]; exact a1,a2,a3,a4,a5,fun aq l' h=>a6 aq l' (by rw[dj n e]at h; exact h),a7,a8.mono hx⟩
 ·intro n aq h
  by_cases e:n=hp.length
  ·subst e; simp at h
  ·rw[dj n e]; exact hI.free n aq (lQ n _ e h)
 ·simp only[ak]
  refine⟨trivial,?_,⟨none,esz,0⟩,by simp[E'],rfl,by simp,?_⟩
  ·show hp.length<E.L+1
   rw[hI.len]; omega
  ·simp
theorem ie{α:Type}{l:List α}{n:Nat}{x:α}(h:l[n]?=some x):l.set n x=l:=by
 apply List.ext_getElem?
 intro m
 by_cases hm:n=m
 ·grind
 ·rw[List.getElem?_set_ne hm]
theorem wj[ab]{E E':Env}(hx:Ext E E'){esz j nm:Nat}(nv:ak E' true (.bh esz nm 0 0 0 none) (.slice none 0 0)){e e':AV}{v:Value}(hr:ak E true e v)(h:kX esz j nm e=some e'):ak E' true e' v:=by
 unfold kX at h
 split at h
 ·rename_i l
  split at h
  case h_2=>simp at h
  rename_i hl
  simp only[Option.some.injEq]at h
  subst h
  simp only[ak]at hr
  obtain⟨c,rfl,hc⟩:=hr
  obtain⟨v,hv,Zz,hlv⟩:=hc.get hl
  simp only[ak]at Zz
  subst Zz
  have:=(hc.mono hx).set j nv hlv
  rw[ie hv]at this
  simp only[ak]
  exact⟨c,rfl,this⟩
 ·grind[ak]
 ·simp at h
theorem sh[ab]{E:Env}{hp:ag}{w:World}(hI:Inv E hp w){n i:Nat}{g c f:Bool}{es:List AV}{e e':AV}(ho:hp[n]?=some (some (.arr g c f es)))(hi:es[i]?=some e)
  (hr:∀ v,ak E true e v→ak E true e' v):Inv E (hp.set n (some (.arr g false f (es.set i e')))) w:=by
 have hn:=(List.getElem?_eq_some_iff.1 ho).1
 have lQ:∀ m o,(hp.set n (some (.arr g false f (es.set i e'))))[m]?=some o→m=n∧o=some (.arr g false f (es.set i e'))∨m≠n∧hp[m]?=some o:=by
  grind
 have eH:∀ m b,cb E (hp.set n (some (.arr g false f (es.set i e')))) m b→cb E hp m b:=by
  rintro m b ⟨o,l,h1,h2,h3⟩
  rcases lQ m _ h1 with ⟨rfl,h5⟩|⟨_,h5⟩
  ·cases h5
   exact⟨_,l,ho,by simpa using h2,h3⟩
  ·exact⟨o,l,h5,h2,h3⟩
 refine⟨by rw[List.length_set]; exact hI.len,fun m o h=>?_,fun m aq h=>?_,fun m m' b h1 h2=>hI.inj m m' b (eH _ _ h1) (eH _ _ h2),hI.mem,hI.oi,hI.jj⟩
 ·rcases lQ m _ h with ⟨rfl,h5⟩|⟨_,h5⟩
  ·cases h5
   obtain⟨l,h1,h2,h3⟩:=hI.objs _ _ ho
   refine⟨l,by simpa using h1,fun aq l' h=>by simpa using h2 aq l' h,?_⟩
   cases hb:l.kH with
   |none=>
    rw[hb]at h3
    obtain⟨rfl,rfl⟩:=h3
    simp at hi
   |some b=>
    rw[hb]at h3
    obtain⟨c',T,a1,a2,a3,a4,a5,a6,a7⟩:=h3
    refine⟨c',T,a1,a2,a3,a4,by simpa using a5,fun h=>by simpa using a6 h,fun k x hx=>?_⟩
    by_cases hk:k=i
    ·subst hk
     rw[List.getElem?_set_self (List.getElem?_eq_some_iff.1 hi).1]at hx
     simp only[Option.some.injEq]at hx
     subst hx
     obtain⟨v,hv,fI⟩:=a7 _ _ hi
     exact⟨v,by simpa using hr v hv.Bp,fI⟩
    ·rw[List.getElem?_set_ne (Ne.symm hk)]at hx
     obtain⟨v,hv,fI⟩:=a7 _ _ hx
     exact⟨v,by simpa using hv.Bp,fI⟩
  ·exact hI.objs m o h5
 ·rcases lQ m _ h with ⟨rfl,h5⟩|⟨_,h5⟩
  ·cases h5
  ·exact hI.free m aq h5
theorem BT[ab]{E:Env}{j:Nat}{e e':AV}(h:tg j e=some e')(v:Value)(hr:ak E true e v):ak E true e' v:=by
 unfold tg at h
 split at h
 case h_2=>simp at h
 rename_i l
 split at h
 case h_2=>simp at h
 rename_i hj
 simp only[Option.some.injEq]at h
 subst h
 simp only[ak]at hr ⊢
 obtain⟨c,rfl,hc⟩:=hr
 refine⟨c,rfl,?_⟩
 have hj':j<l.length:=by simpa using hj
 obtain⟨u,hu,_⟩:=hc.GW.get (List.getElem?_eq_getElem hj')
 have:=hc.set j (x:=.any) (v:=u) (by simp[ak]) (hc.leaf u (List.mem_iff_getElem?.2 ⟨j,hu⟩))
 rw[ie hu]at this
 exact this
theorem FR[ab]{B:o8}{E:Env}{s:St}{a:Act}{w:World}(hs:cK B E s a w)(d j:Nat):cK B E (mB s d j) a w:=by
 unfold mB
 split
 ·split
  ·rename_i ho
   split
   ·rename_i e' he
    obtain⟨e,Nv,yj⟩:=Option.bind_eq_some_iff.1 he
    exact⟨hs.fr,sh hs.inv ho Nv fun v hv=>BT yj v hv,hs.df,hs.bs⟩
   ·exact hs
  ·exact hs
 ·exact hs
theorem uW[ab]{B:o8}{E:Env}{a:Act}{w:World}:∀ (l:List (Nat×Nat)) {s:St},cK B E s a w→cK B E (gV l s) a w
 |[],_,hs=>hs
 |(d,j)::r,_,hs=>uW r (FR hs d j)
theorem Di(s:St)(d j:Nat):(mB s d j).hp.length=s.hp.length:=by
 grind[mB]
theorem si:∀ (l:List (Nat×Nat)) (s:St),(gV l s).hp.length=s.hp.length
 |[],_=>rfl
 |(d,j)::r,s=>by
  simp only[gV]
  rw[si r,Di]
theorem IG[ab]{B:o8}{E:Env}{s:St}{a:Act}{w:World}(hs:cK B E s a w)(d:Tmp)(j esz:Nat):∃ E',Ext E E'∧Fr E w E' w∧cK B E' (pC d s j esz) a w:=by
 obtain⟨E',h1,h2,h3,h4⟩:=BS (esz:=esz) hs.inv
 have same:∃ E',Ext E E'∧Fr E w E' w∧cK B E' s a w:=⟨E,Ext.refl E,Fr.refl E w,hs⟩
 unfold pC
 split
 ·rename_i n aq i k hd
  split
  ·rename_i g c f es ho
   split
   ·rename_i e' he
    obtain⟨e,Nv,yj⟩:=Option.bind_eq_some_iff.1 he
    have hn:=(List.getElem?_eq_some_iff.1 ho).1
    have db:(s.hp++[some (aJ.arr true true false [])])[n]?=some (some (.arr g c f es)):=by rw[List.getElem?_append_left hn]; exact ho
    obtain⟨l,qB,_,Kg⟩:=hs.inv.objs _ _ ho
    cases hb:l.kH with
    |none=>
     simp_all
    |some b=>
     rw[hb]at Kg
     obtain⟨c',T,a1,a2,a3,a4,a5,a6,a7⟩:=Kg
     obtain⟨v0,Kh,_⟩:=a7 _ _ Nv
     have WO:∀ v,ak E' true e v→ak E' true e' v:=fun v hv=>wj (Ext.refl E') h4 hv yj
     refine⟨E',h1,h3,⟨hs.fr.mono h1,?_,hs.df.mono h3,hs.bs⟩⟩
     have:=sh h2 db Nv WO
     rw[List.set_append_left _ _ hn]at this
     exact this
   ·exact same
  ·exact same
 ·rename_i e _ hd
  split
  ·rename_i e' he
   obtain⟨v,hv,hr⟩:=hs.fr.get hd
   refine⟨E',h1,h3,⟨?_,h2,hs.df.mono h3,hs.bs⟩⟩
   have:=(hs.fr.mono h1).set d (wj h1 h4 hr he)
   rw[ie hv]at this
   exact this
  ·exact same
 ·exact same
theorem Hr[ab]{B:o8}{d:Tmp}{a:Act}{w:World}:∀ (l:List (Nat×Nat)) {E:Env} {s:St},cK B E s a w→∃ E',Ext E E'∧Fr E w E' w∧cK B E' (JY d l s) a w
 |[],E,s,hs=>⟨E,Ext.refl E,Fr.refl E w,hs⟩
 |(j,esz)::r,E,s,hs=>by
  obtain⟨E1,h1,h2,h3⟩:=IG hs d j esz
  obtain⟨E2,h4,h5,h6⟩:=Hr r h3
  exact⟨E2,h1.trans h4,h2.trans h5,h6⟩
theorem K7[ab]{B:o8}{l:Tmp→List (Nat×Nat)}{dst:Option Tmp}{a:Act}{w:World}{E:Env}{s:St}(hs:cK B E s a w):∃ E',Ext E E'∧Fr E w E' w∧cK B E' (CE l dst s) a w:=by
 cases dst with
 |none=>exact⟨E,Ext.refl E,Fr.refl E w,hs⟩
 |some d=>exact Hr _ hs
theorem iR{hp:ag}{n:Nat}{st:lz}(h:iu hp n=some st):∃ fn ps as bd fr,hp[n]?=some (some (.gw (.loop fn ps as bd st) fr)):=by
 grind[iu]
theorem oA[ab]{E:Env}{hp:ag}{w:World}(hI:Inv E hp w){n:Nat}{fn:FuncId}{ps:Array Tmp}{as bd:Code}{st:lz}{fr:List AV}(ho:hp[n]?=some (some (.gw (.loop fn ps as bd st) fr)))
  {l:Loc} {b:Nat} (hl:E.ρ n 0=some l) (hb:l.kH=some b) :
  ∃ r,w.heap[b]?=some (.loop r)∧r.params=ps∧r.assign=as∧r.body=bd∧st.is r.state r.pending∧an E true fr r.tmps.toList:=by
 obtain⟨l0,b0,ob,us,h1,h2,h3,h4,h5,h6,h7,h8⟩:=hI.objs n _ ho
 rw[hl]at h1; cases h1
 rw[hb]at h2; cases h2
 cases ob with
 |loop r=>
  obtain⟨a1,a2,a3,a4,a5⟩:=h7
  exact⟨r,h3,a1,a2,a3,a4,by rw[a5]; exact h8⟩
 |_=>exact h7.elim
theorem Dj[ab]{E:Env}{hp:ag}{w:World}(hI:Inv E hp w){n:Nat}{fn:FuncId}{ps:Array Tmp}{as bd:Code}{st:lz}{fr:List AV}(ho:hp[n]?=some (some (.gw (.loop fn ps as bd st) fr)))
  {l:Loc} {b:Nat} (hl:E.ρ n 0=some l) (hb:l.kH=some b) {r:Loop} (hr:w.heap[b]?=some (.loop r)) {st':lz} {s':LoopState} {p':Option Code} (WQ:st'.is s' p') :
  Inv E (oY hp n st') (w.putObj b (.loop { r with state:=s',pending:=p' }))∧Fr E w E (w.putObj b (.loop { r with state:=s',pending:=p' })):=by
 obtain⟨r',h1,h2,h3,h4,_,h6⟩:=oA hI ho hl hb
 rw[hr]at h1
 cases h1
 unfold oY
 rw[ho]
 exact xi hI ho hl hb (k':=.loop fn ps as bd st') (us':=r.tmps.toList) ⟨h2,h3,h4,WQ,rfl⟩ h6 (fun _ _ _ _ _=>⟨_,rfl⟩)
theorem uX{E:Env}{u:List Nat}:∀ (i:Nat) (fr:List AV) (vs:List Value),an E true fr vs→an E true (nB u i fr) vs
 |_,[],[],h=>by simp[nB,an]
 |i,x::xs,v::vs,h=>by
  simp only[an]at h
  simp only[nB,an]
  refine⟨?_,uX (i+1) xs vs h.2⟩
  split
  ·exact h.1
  ·simp[ak]
 |_,[],_::_,h=>by simp[an]at h
 |_,_::_,[],h=>by simp[an]at h
theorem Dk{E:Env}:∀ (fr:List AV) (vs:List Value),an E true fr vs→an E true (fr.map fun _=>.any) vs
 |[],[],_=>by simp[an]
 |x::xs,v::vs,h=>by
  simp only[an]at h
  simp only[List.map_cons,an,ak]
  exact⟨trivial,Dk xs vs h.2⟩
 |[],_::_,h=>by simp[an]at h
 |_::_,[],h=>by simp[an]at h
theorem Dl[ab]{E:Env}{hp:ag}{w:World}(hI:Inv E hp w){n:Nat}{fn:FuncId}{ps:Array Tmp}{as bd:Code}{st:lz}{fr:List AV}(ho:hp[n]?=some (some (.gw (.loop fn ps as bd st) fr)))
  {l:Loc} {b:Nat} (hl:E.ρ n 0=some l) (hb:l.kH=some b) {r:Loop} (hr:w.heap[b]?=some (.loop r)) {s':LoopState} {p':Option Code} :
  Inv E (rF hp n) (w.putObj b (.loop { r with state:=s',pending:=p' }))∧Fr E w E (w.putObj b (.loop { r with state:=s',pending:=p' })):=by
 obtain⟨r',h1,h2,h3,h4,_,h6⟩:=oA hI ho hl hb
 rw[hr]at h1
 cases h1
 unfold rF
 rw[ho]
 exact xi hI ho hl hb (k':=.loop fn ps as bd .hJ) (us':=r.tmps.toList) ⟨h2,h3,h4,trivial,rfl⟩ (Dk _ _ h6) (fun _ _ _ _ _=>⟨_,rfl⟩)
theorem wk{E:Env}:∀ (ps:List Tmp) (xs:List AV) (vs:List Value) (fr:List AV) (t:Array Value),an E true fr t.toList→an E true xs vs →
  an E true (fO fr ps xs) ((ps.zip vs).foldl (fun (t:Array Value) (q:Tmp×Value)=>t.setIfInBounds q.1 q.2) t).toList
 |[],xs,vs,fr,t,h,_=>by simpa[fO] using h
 |p::ps,[],[],fr,t,h,_=>by simpa[fO] using h
 |p::ps,x::xs,v::vs,fr,t,h,hx=>by
  simp only[an]at hx
  simp only[fO,List.zip_cons_cons,List.foldl_cons]
  refine wk ps xs vs _ _ ?_ hx.2
  rw[Array.toList_setIfInBounds]
  exact h.set p hx.1
 |p::ps,[],_::_,_,_,_,h=>by simp[an]at h
 |p::ps,_::_,[],_,_,_,h=>by simp[an]at h
theorem zK{P:Program}{a:Act}{w:World}{o:Oper}{c:Call}{f:Operand}(ho:o.op=.call c)(hc:c.callee=.value f){b:Nat}(hf:a.eval f=.func (.yield b) #[] #[])
  {r:Loop} (hr:w.heap[b]?=some (.loop r)) (hs:(c.args.map a.eval).size=r.params.size) :
  (execOp a.eval o).run P w=.ok (.round b r.fn ((r.params.zip (c.args.map a.eval)).foldl (fun tmps (t,a)=>tmps.setIfInBounds t a) r.tmps) r.assign r.body) w:=by
 have h1:(execOp a.eval o)=(do let d ←Deferred.ofValue (a.eval f) (c.args.map a.eval); invoke d.target d.args):=by
  simp only[execOp,ho,resolve,hc]
 rw[h1,hf]
 have h2:=run_yield (P:=P) (args:=c.args.map a.eval) hr hs
 simp only[Deferred.ofValue,Sem.run_bind,Sem.run_pure,Result.andThen_ok,invoke,Array.empty_append]
 exact h2
theorem K8[ab]{C:Ctx}{k:Nat}(hC:fJ C k){rd:Option Nat}{B:o8}{E:Env}{s:St}{a:Act}{w:World}(hs:cK B E s a w){n:Nat}{o:Oper}{c:Call}{f:Operand}(ho:o.op=.call c)(hc:c.callee=.value f)
  (hf:ay s.fr f=.mp true n) {r:Out} (aU:gY (fun c s=>bU C k c s) n (c.args.toList.map (ay s.fr)) o.dst s=some r) {K:Act→World→Prop} {Q:Exit→Act→World→Prop}
  (hK:∀ s',r=.norm s'→∀ E' a' w',Ext E E'→Fr E w E' w'→cK B E' s' a' w'→K a' w'):o.wpIn (WF rd) 0 C.P a w K Q:=by
 unfold gY at aU
 split at aU
 case h_2=>simp at aU
 rename_i fn0 ps as bd fr wY
 split at aU
 case h_2=>simp at aU
 rename_i II
 have hlen:=of_decide_eq_true II
 have bG:=fun y=>ic hs.inv.jj hs.fr y
 have Dm:=bG f
 rw[hf]at Dm
 simp only[ak]at Dm
 obtain⟨_,Iu,l,b,hl,hb,Dm⟩:=Dm
 obtain⟨r0,g1,g2,g3,g4,g5,g6⟩:=oA hs.inv wY hl hb
 have jo:=jn bG c.args.toList
 have kZ:(c.args.map a.eval).size=r0.params.size:=by
  rw[g2,←hlen]
  simp
 refine⟨fun _ _=>trivial,?_⟩
 rw[Oper.semAt_eq _ _ _ (by rw[ho]; intro c h; cases h),zK ho hc Dm g1 kZ,Oper.uponIn_round]
 refine⟨fun h=>by simp[WF,Fence.wide]at h,?_⟩
 rw[g3,g4]
 refine roundIn_of_wpIn trivial ?_
 have Tg:((r0.params.zip (c.args.map a.eval)).foldl (fun tmps (x:Tmp×Value)=>tmps.setIfInBounds x.1 x.2) r0.tmps)=((ps.toList.zip (c.args.toList.map a.eval)).foldl (fun (t:Array Value) (q:Tmp×Value)=>t.setIfInBounds q.1 q.2) r0.tmps):=by
  rw[←Array.foldl_toList,Array.toList_zip,g2,Array.toList_map]
 split at aU
 case h_2=>simp at aU
 rename_i s1 WR
 split at aU
 case h_2=>simp at aU
 rename_i WS
 have E8:cK ⟨w.heap.size,[],true,some b⟩ E ⟨fn0,fO fr ps.toList (c.args.toList.map (ay s.fr)),s.hp⟩ { tmps:=(r0.params.zip (c.args.map a.eval)).foldl (fun tmps (x:Tmp×Value)=>tmps.setIfInBounds x.1 x.2) r0.tmps,defers:=[] } w:=
  ⟨by rw[Tg]; exact wk _ _ _ _ _ g6 jo,hs.inv,Marks.WD g1,Nat.le_refl _⟩
 refine wpIn_mono (hC as _ _ WR (some b) _ (.inl ⟨rfl,rfl⟩) E _ w E8) fun e a1 w1 hp=>?_
 obtain⟨E1,ND,rz,IJ⟩:=hp
 cases e with
 |normal=>
  have m9:cK ⟨w.heap.size,[],true,some b⟩ E1 s1 a1 w1:=IJ
  obtain⟨fn1,ps1,as1,bd1,fr1,PY⟩:=iR WS
  have qB:=ND.ρ n Iu 0 l hl
  obtain⟨r1,q1,q2,q3,q4,q5,q6⟩:=oA m9.inv PY qB hb
  obtain⟨Ss,KN⟩:=Dj m9.inv PY qB hb q1 (st':=.busy) (s':=.busy) (p':=r1.pending) ⟨rfl,q5.2⟩
  refine⟨_,run_beginRound q1 q5.1,?_⟩
  have BB:cK ⟨w.heap.size,[],true,some b⟩ E1 { s1 with hp:=oY s1.hp n .busy } a1 (w1.putObj b (.loop { r1 with state:=.busy })):=
   ⟨m9.fr,Ss,m9.df.mono KN,Nat.le_trans m9.bs KN.size⟩
  have finish:∀ (s2:St) (bb:Bool) (st:lz) (j:Option Code) (E2:Env) (w2:World),bb=j.isNone→st.is (if j.isNone then .ready else .done) j→xD n o.dst s bb st s2.hp=some r→Ext E1 E2→Fr E1 (w1.putObj b (.loop { r1 with state:=.busy })) E2 w2→Inv E2 s2.hp w2 →
    ∃ v w',(Instr.endRound b j).run C.P w2=.ok v w'∧K (a.put o.dst v) w':=by
   intro s2 bb st j E2 w2 QH WQ Dn jS gZ pv
   unfold xD at Dn
   split at Dn
   case h_2=>simp at Dn
   rename_i WT
   simp only[Option.some.injEq]at Dn
   obtain⟨fn2,ps2,VB,bd2,fr2,PZ⟩:=iR WT
   have pf:=jS.ρ n (Nat.lt_of_lt_of_le Iu ND.L) 0 l qB
   obtain⟨r2,u1,_,_,_,u5,_⟩:=oA pv PZ pf hb
   obtain⟨c1,c2⟩:=Dj pv PZ pf hb u1 WQ
   refine⟨_,_,run_endRound j u1,?_⟩
   have hx:=ND.trans jS
   have eX:=((rz.trans KN).trans gZ).trans c2
   obtain⟨E3,d1,d2,d3,d4⟩:=pW hs.inv hx c1 eX (r:=.lit (.bool bb)) (v:=.bool bb) (by simp[ak])
   subst QH
   exact hK _ Dn.symm E3 _ _ d1 d3 ⟨gE (hs.fr.mono d1) d4,d2,by rw[put_defers]; exact hs.df.mono d3,Nat.le_trans hs.bs d3.size⟩
  split at aU
  ·rename_i s2 K9
   refine wpIn_mono (hC bd _ _ K9 (some b) _ (.inl ⟨rfl,rfl⟩) E1 _ _ BB) fun e a2 w2 hp=>?_
   obtain⟨E2,jS,gZ,uT⟩:=hp
   cases e with
   |normal=>exact finish s2 true .ready none E2 w2 rfl ⟨rfl,rfl⟩ aU jS gZ (cK.inv uT)
   |_=>exact uT.elim
  ·rename_i id s2 K9
   refine wpIn_mono (hC bd _ _ K9 (some b) _ (.inl ⟨rfl,rfl⟩) E1 _ _ BB) fun e a2 w2 hp=>?_
   obtain⟨E2,jS,gZ,uT⟩:=hp
   cases e with
   |exit j=>
    obtain⟨rfl,uT⟩:=uT
    exact finish s2 false (.jump (some id)) (some (.exit id)) E2 w2 rfl ⟨rfl,rfl⟩ aU jS gZ uT.inv
   |_=>exact uT.elim
  ·rename_i s2 K9
   refine wpIn_mono (hC bd _ _ K9 (some b) _ (.inl ⟨rfl,rfl⟩) E1 _ _ BB) fun e a2 w2 hp=>?_
   obtain⟨E2,jS,gZ,uT⟩:=hp
   cases e with
   |ret=>exact finish s2 false (.jump none) (some .ret) E2 w2 rfl ⟨rfl,rfl⟩ aU jS gZ (cK.inv uT)
   |_=>exact uT.elim
  ·simp at aU
 |_=>exact IJ.elim
theorem FT{run:Code→St→Option Out}{n:Nat}{args:List AV}{dst:Option Tmp}{s:St}{r:Out}(h:gY run n args dst s=some r):∃ s',r=.norm s':=by
 unfold gY at h
 repeat' split at h
 all_goals first
  |simp at h
  |(unfold xD at h
    split at h
    ·grind
    ·simp at h)
theorem Dp[ab]{C:Ctx}(bI:C.Ok){k:Nat}(hF:lW C k)(hP:uU C k)(hC:fJ C k):lX C.P (fun o s=>fP C (k+1) o s):=by
 intro o s r h rd B E a w K Q hs hK hQ
 have bG:=fun x=>ic hs.inv.jj hs.fr x
 have VC:∀ (res:Option dk),res=(aK C.P s.hp.length (ay s.fr) o).run s.hp →
   (match res with|some e=>some (Out.norm { s with fr:=bD s.fr o.dst e.val,hp:=ai s.hp e.wr })|none=>none)=some r→o.wpIn (WF rd) 0 C.P a w K Q:=by
  intro res cB h
  split at h
  case h_2=>simp at h
  rename_i e
  simp only[Option.some.injEq]at h
  refine xm hs (tD hs.inv (.inl rfl) bG cB.symm) fun E' w' v hx hf iz hv=>?_
  exact hK _ h.symm E' _ w' hx hf ⟨gE (hs.fr.mono hx) hv,iz,by rw[put_defers]; exact hs.df.mono hf,Nat.le_trans hs.bs hf.size⟩
 obtain⟨dst,op,type,pos,after,guard⟩:=o
 simp only[fP]at h
 split at h
 ·rename_i c
  split at h
  ·exact VC _ rfl h
  ·rename_i f zM
   split at h
   ·split at h
    ·rename_i n hn
     exact K8 hC hs rfl zM hn h hK
    ·simp at h
   rename_i g args cB
   have jo:=jn bG c.args.toList
   split at h
   ·-- a result of the caller's own
    split at h
    case h_2=>simp at h
    rename_i e hq
    simp only[Option.some.injEq]at h
    obtain⟨vs',mv,aU⟩:=fo (w:=w) (bG f) jo cB (AF bI hq)
    refine qL rfl zM aU (AG bI hF hs.inv (.inl rfl) mv hq) (fun v w' hp=>?_) (fun ch w' hp=>?_) (fun w' hp=>?_)
    ·obtain⟨v',kj,E',hx,iz,hf,hr⟩:=hp
     cases kj
     exact hK _ h.symm E' _ w' hx hf ⟨gE (hs.fr.mono hx) hr,iz,by rw[put_defers]; exact hs.df.mono hf,Nat.le_trans hs.bs hf.size⟩
    ·obtain⟨v',kj,_⟩:=hp
     cases kj
    ·obtain⟨v',kj,_⟩:=hp
     cases kj
   split at h
   ·-- by value
    rename_i tQ
    cases hq:(lA C k g args).run s.hp with
    |none=>rw[hq]at h; simp at h
    |some q=>
     obtain⟨res,wr⟩:=q
     rw[hq]at h
     obtain⟨vs',mv,aU⟩:=fo (w:=w) (bG f) jo cB (BR bI hq)
     have ib:=hP g args s.hp res wr hq E w vs' hs.inv mv
     refine qL rfl zM aU ib (fun v w' hp=>?_) (fun ch w' hp=>?_) (fun w' hp=>?_)
     ·obtain⟨E',hx,iz,hf,hr⟩:=hp
      cases res with
      |kg _=>exact hr.elim
      |val x=>
       simp only[Option.some.injEq]at h
       exact hK _ h.symm E' _ w' hx hf ⟨gE (hs.fr.mono hx) hr,iz,by rw[put_defers]; exact hs.df.mono hf,Nat.le_trans hs.bs hf.size⟩
     ·obtain⟨E',hx,iz,hf,hr⟩:=hp
      cases res with
      |val _=>exact hr.elim
      |kg x=>
       simp only[Option.some.injEq]at h
       obtain⟨u,rfl,hu⟩:=hr
       exact hQ _ _ h.symm E' w' u hx hf iz hu
     ·obtain⟨E',hx,iz,hf,hr⟩:=hp
      cases res<;>exact hr.elim
   ·-- with the heap
    rename_i tQ
    cases hq:mq C k g args s.hp with
    |none=>rw[hq]at h; simp at h
    |some q=>
     obtain⟨res,cr⟩:=q
     rw[hq]at h
     obtain⟨fn,rz,gZ⟩:=uV hq
     obtain⟨vs',mv,aU⟩:=fo (w:=w) (bG f) jo cB ⟨fn,rz,gZ,bI.name g fn rz gZ⟩
     have ib:=hF g args s.hp res cr hq E w vs' hs.inv mv
     refine qL rfl zM aU ib (fun v w' hp=>?_) (fun ch w' hp=>?_) (fun w' hp=>?_)
     ·obtain⟨E',hx,iz,hf,hr⟩:=hp
      cases res with
      |kg _=>exact hr.elim
      |val x=>
       simp only[Option.some.injEq]at h
       obtain⟨E2,jS,pv,gZ,BU⟩:=pW hs.inv hx iz hf hr
       exact hK _ h.symm E2 _ w' jS gZ ⟨gE (hs.fr.mono jS) BU,pv,by rw[put_defers]; exact hs.df.mono gZ,Nat.le_trans hs.bs gZ.size⟩
     ·obtain⟨E',hx,iz,hf,hr⟩:=hp
      cases res with
      |val _=>exact hr.elim
      |kg x=>
       simp only[Option.some.injEq]at h
       obtain⟨u,rfl,hu⟩:=hr
       obtain⟨E2,jS,pv,gZ,BU⟩:=pW hs.inv hx iz hf hu
       exact hQ _ _ h.symm E2 w' u jS gZ pv BU
     ·obtain⟨E',hx,iz,hf,hr⟩:=hp
      cases res<;>exact hr.elim
  ·rename_i rv name zM
   obtain⟨cal,cT,mC⟩:=c
   simp only at zM
   subst zM
   have jo:=jn bG cT.toList
   split at h
   ·simp at h
   rename_i g x cB
   split at h
   ·cases hq:(lA C k g (x::cT.toList.map (ay s.fr))).run s.hp with
    |none=>rw[hq]at h; simp at h
    |some q=>
     obtain⟨res,wr⟩:=q
     rw[hq]at h
     obtain⟨vs',mv,aU⟩:=BP (w:=w) (o:=⟨dst,.call ⟨.invoke rv name,cT,mC⟩,type,pos,after,guard⟩) rfl (bG rv) jo cB (BR bI hq)
     have ib:=hP g _ s.hp res wr hq E w vs' hs.inv mv
     refine yi rfl aU ib (fun v w' hp=>?_) (fun ch w' hp=>?_) (fun w' hp=>?_)
     ·obtain⟨E',hx,iz,hf,hr⟩:=hp
      cases res with
      |kg _=>exact hr.elim
      |val x=>
       simp only[Option.some.injEq]at h
       exact hK _ h.symm E' _ w' hx hf ⟨gE (hs.fr.mono hx) hr,iz,by rw[put_defers]; exact hs.df.mono hf,Nat.le_trans hs.bs hf.size⟩
     ·obtain⟨E',hx,iz,hf,hr⟩:=hp
      cases res with
      |val _=>exact hr.elim
      |kg x=>
       simp only[Option.some.injEq]at h
       obtain⟨u,rfl,hu⟩:=hr
       exact hQ _ _ h.symm E' w' u hx hf iz hu
     ·obtain⟨E',hx,iz,hf,hr⟩:=hp
      cases res<;>exact hr.elim
   ·cases hq:mq C k g (x::cT.toList.map (ay s.fr)) s.hp with
    |none=>rw[hq]at h; simp at h
    |some q=>
     obtain⟨res,cr⟩:=q
     rw[hq]at h
     obtain⟨fn,rz,gZ⟩:=uV hq
     obtain⟨vs',mv,aU⟩:=BP (w:=w) (o:=⟨dst,.call ⟨.invoke rv name,cT,mC⟩,type,pos,after,guard⟩) rfl (bG rv) jo cB ⟨fn,rz,gZ,bI.name g fn rz gZ⟩
     have ib:=hF g _ s.hp res cr hq E w vs' hs.inv mv
     refine yi rfl aU ib (fun v w' hp=>?_) (fun ch w' hp=>?_) (fun w' hp=>?_)
     ·obtain⟨E',hx,iz,hf,hr⟩:=hp
      cases res with
      |kg _=>exact hr.elim
      |val x=>
       simp only[Option.some.injEq]at h
       obtain⟨E2,jS,pv,gZ,BU⟩:=pW hs.inv hx iz hf hr
       exact hK _ h.symm E2 _ w' jS gZ ⟨gE (hs.fr.mono jS) BU,pv,by rw[put_defers]; exact hs.df.mono gZ,Nat.le_trans hs.bs gZ.size⟩
     ·obtain⟨E',hx,iz,hf,hr⟩:=hp
      cases res with
      |val _=>exact hr.elim
      |kg x=>
       simp only[Option.some.injEq]at h
       obtain⟨u,rfl,hu⟩:=hr
       obtain⟨E2,jS,pv,gZ,BU⟩:=pW hs.inv hx iz hf hu
       exact hQ _ _ h.symm E2 w' u jS gZ pv BU
     ·obtain⟨E',hx,iz,hf,hr⟩:=hp
      cases res<;>exact hr.elim
 ·-- a slice that begins as nil
  have aU:(execOp a.eval { dst,op:=.assign (.const (.slice none 0 0)),type,pos,after,guard }).run C.P w=.ok (.value (.slice none 0 0)) w:=rfl
  have next:∀ (x:AV) (E':Env) (cr:ag),Ext E E'→Inv E' cr w→Fr E w E' w→ak E' true x (.slice none 0 0) →
    r=.norm { s with fr:=bD s.fr dst x,hp:=cr }→Oper.wpIn (WF rd) 0 C.P { dst,op:=.assign (.const (.slice none 0 0)),type,pos,after,guard } a w K Q:=by
   intro x E' cr hx iz hf hr he
   refine⟨fun _ _=>trivial,?_⟩
   rw[Oper.semAt_eq _ _ _ (by intro c h; cases h),aU,Oper.uponIn_value]
   exact hK _ he E' _ w hx hf ⟨gE (hs.fr.mono hx) hr,iz,by rw[put_defers]; exact hs.df.mono hf,Nat.le_trans hs.bs hf.size⟩
  split at h
  ·rename_i d
   split at h
   ·split at h
    case h_2=>simp at h
    rename_i q hq
    split at h
    case isFalse=>simp at h
    simp only[Option.some.injEq]at h
    obtain⟨E',h1,h2,h3,h4⟩:=BS (esz:=q.size) hs.inv
    exact next _ E' _ h1 h2 h3 h4 h.symm
   ·simp only[Option.some.injEq]at h
    exact next (.lit bV) E s.hp (Ext.refl E) hs.inv (Fr.refl E w) (by simp[ak]) h.symm
  ·simp only[Option.some.injEq]at h
   exact next (.lit bV) E s.hp (Ext.refl E) hs.inv (Fr.refl E w) (by simp[ak]) h.symm
 ·-- any other operation; nil slices in what it gives may be named anew
  split at h
  case h_2=>simp at h
  rename_i e he
  simp only[Option.some.injEq]at h
  refine xm hs (tD hs.inv (.inl rfl) bG he) fun E' w' v hx hf iz hv=>?_
  obtain⟨E2,jS,gZ,BB⟩:=K7 (l:=C.rk s.fn) (dst:=dst) (s:={ s with fr:=bD s.fr dst e.val,hp:=ai s.hp e.wr }) (B:=B) (a:=a.put dst v)
   ⟨gE (hs.fr.mono hx) hv,iz,by rw[put_defers]; exact hs.df.mono hf,Nat.le_trans hs.bs hf.size⟩
  exact hK _ h.symm E2 _ w' (hx.trans jS) (hf.trans gZ) BB
end Go.PI
end
section
/- PI, more fuel gives no other answer. -/
namespace Go.PI
def RM.Le{α:Type}(hp:ag)(r r':RM α):Prop:=∀ x,r.run hp=some x→r'.run hp=some x∧r'.log hp=r.log hp
theorem RM.Le.rfl{α:Type}{hp:ag}{r:RM α}:RM.Le hp r r:=fun _ h=>⟨h,by trivial⟩
theorem RM.eO{α β:Type}(hp:ag)(x:RM α)(f:α→RM β):(x >>= f).log hp=x.log hp++(match x.run hp with|some a=>(f a).log hp|none=>[]):=by
 show (RM.bind x f).log hp=_
 induction x with
 |ret a=>simp[RM.bind,RM.log,RM.run]
 |fail=>simp[RM.bind,RM.log,RM.run]
 |get n k ih=>
  grind[RM.bind,RM.log,RM.run]
theorem RM.Le.bind[ab]{α β:Type}{hp:ag}{x x':RM α}{f f':α→RM β}(h:RM.Le hp x x')(hf:∀ a,RM.Le hp (f a) (f' a)):RM.Le hp (x >>= f) (x' >>= f'):=by
 intro y hy
 rw[RM.run_bind]at hy
 cases hq:x.run hp with
 |none=>rw[hq]at hy; simp at hy
 |some a=>
  rw[hq]at hy
  simp only[Option.bind_some]at hy
  obtain⟨h1,h2⟩:=h a hq
  obtain⟨h3,h4⟩:=hf a y hy
  refine⟨by rw[RM.run_bind,h1]; exact h3,?_⟩
  rw[RM.eO,RM.eO,h1,hq,h2]
  simp only[h4]
theorem iK{st st':Oper→St→Option Out}(h:∀ o s r,st o s=some r→st' o s=some r)(ops:Array Oper):∀ (l:List Oper) (s:St) (r:Out),cH st ops l s=some r→cH st' ops l s=some r
 |[],s,r,hr=>hr
 |o::l,s,r,hr=>by
  simp only[cH]at hr ⊢
  cases hw:cJ ops s.fr o with
  |none=>rw[hw]at hr; simp at hr
  |some b=>
   rw[hw]at hr
   cases b with
   |false=>exact iK h ops l _ r hr
   |true=>
    simp only at hr ⊢
    cases hs:st o s with
    |none=>rw[hs]at hr; simp at hr
    |some out=>
     rw[hs]at hr
     rw[h o s out hs]
     cases out with
     |norm s'=>exact iK h ops l s' r hr
     |_=>exact hr
theorem xM[ab]{st st':Nat→Oper→List AV→RM dk}(h:∀ nm o fr hp,RM.Le hp (st nm o fr) (st' nm o fr))(ops:Array Oper)(x:Item)(s:St)(r:St×fH)(hr:fq st ops x s=some r):fq st' ops x s=some r:=by
 simp only[fq]at hr ⊢
 cases hw:cJ ops s.fr x.o with
 |none=>rw[hw]at hr; simp at hr
 |some b=>
  rw[hw]at hr
  cases b with
  |false=>exact hr
  |true=>
   simp only at hr ⊢
   cases hq:(st (x.at s.hp.length) x.o s.fr).run s.hp with
   |none=>rw[hq]at hr; simp at hr
   |some e=>
    obtain⟨h1,h2⟩:=h (x.at s.hp.length) x.o s.fr s.hp e hq
    rw[hq]at hr
    rw[h1,h2]
    exact hr
theorem oq[ab]{st st':Nat→Oper→List AV→RM dk}(h:∀ nm o fr hp,RM.Le hp (st nm o fr) (st' nm o fr))(ops:Array Oper):∀ (l:List Item) (s:St) (r:St×List fH),cz st ops l s=some r→cz st' ops l s=some r
 |[],s,r,hr=>hr
 |x::l,s,r,hr=>by
  simp only[cz]at hr ⊢
  cases hs:fq st ops x s with
  |none=>rw[hs]at hr; simp at hr
  |some q=>
   obtain⟨s1,f⟩:=q
   rw[hs]at hr
   rw[xM h ops x s _ hs]
   simp only at hr ⊢
   cases hd:cz st ops l s1 with
   |none=>rw[hd]at hr; simp at hr
   |some q=>
    rw[hd]at hr
    rw[oq h ops l s1 q hd]
    exact hr
theorem Ft[ab]{C:Ctx}{k k':Nat}{o:Oper}{s:St}(h:∀ c,o.op≠.call c):fP C (k+1) o s=fP C (k'+1) o s:=by
 rw[fP,fP]
 split
 ·rename_i c hc; exact absurd hc (h c)
 ·rfl
 ·rfl
theorem vT[ab]{C:Ctx}{F F':List AV→Option (oe×ag)}(h:∀ as r,F as=some r→F' as=some r){nm:Nat}{g:FuncId}{args:List AV}{hp:ag}:
  RM.Le hp (ir C F nm g args) (ir C F' nm g args):=by
 unfold ir
 refine RM.Le.bind .rfl fun as=>?_
 cases hi:C.fY g with
 |some q=>exact .rfl
 |none=>
  simp only
  intro x hx
  cases hq:F as with
  |none=>rw[hq]at hx; simp[RM.ae]at hx
  |some q=>
   rw[hq]at hx
   rw[h as q hq]
   exact⟨hx,rfl⟩
theorem vU{run run':Code→St→Option Out}(h:∀ c s r,run c s=some r→run' c s=some r){n:Nat}{args:List AV}{dst:Option Tmp}{s:St}{r:Out}
  (hy:gY run n args dst s=some r):gY run' n args dst s=some r:=by
 unfold gY at hy ⊢
 split at hy
 case h_2=>simp at hy
 rename_i fn ps as bd fr ho
 split at hy
 case h_2=>simp at hy
 rename_i hc
 try rw[hc]
 try simp only
 split at hy
 case h_2=>simp at hy
 rename_i s1 h1
 rw[h _ _ _ h1]
 simp only
 split at hy
 case h_2=>simp at hy
 rename_i h2
 try rw[h2]
 try simp only
 split at hy
 ·rename_i s2 h3; rw[h _ _ _ h3]; exact hy
 ·rename_i id s2 h3; rw[h _ _ _ h3]; exact hy
 ·rename_i s2 h3; rw[h _ _ _ h3]; exact hy
 ·simp at hy
theorem Kn[ab]{ec NW:Code→St→Option Out}{eo S2:Oper→St→Option Out}(hc:∀ c s r,ec c s=some r→NW c s=some r)(ho:∀ o s r,eo o s=some r→S2 o s=some r):∀ c s r,z8 ec eo c s=some r→z8 NW S2 c s=some r:=by
 have leaf:∀ c s r,((ec c s).map fun o=>(o,(none:Option AV)))=some r→((NW c s).map fun o=>(o,(none:Option AV)))=some r:=by
  intro c s r h
  cases hq:ec c s with
  |none=>rw[hq]at h; simp at h
  |some o=>rw[hc _ _ _ hq]; rw[hq]at h; exact h
 intro c
 induction c with
 |seq x y _ Ko=>
  intro s r h
  simp only[z8]at h ⊢
  cases hd:tj x with
  |some q=>
   obtain⟨ops,v⟩:=q
   rw[hd]at h
   simp only at h ⊢
   cases hr:cH eo ops ops.toList.dropLast s with
   |none=>rw[hr]at h; simp at h
   |some o=>
    rw[hr]at h
    rw[iK ho ops _ _ _ hr]
    cases o with
    |norm s1=>
     simp only at h ⊢
     split at h
     ·rename_i q cB
      cases hq:ec y s1 with
      |none=>rw[hq]at h; simp at h
      |some o=>rw[hc _ _ _ hq]; rw[hq]at h; exact h
     ·simp at h
    |_=>simp at h
  |none=>
   rw[hd]at h
   simp only at h ⊢
   cases hq:ec x s with
   |none=>rw[hq]at h; simp at h
   |some o=>
    rw[hq]at h; rw[hc _ _ _ hq]
    cases o with
    |norm s'=>exact Ko _ _ h
    |_=>exact h
 |_=>intro s r h; simp only[z8]at h ⊢; exact leaf _ _ _ h
theorem Am[ab]{ec NW:Code→St→Option Out}(hc:∀ c s r,ec c s=some r→NW c s=some r){P:Program}{rs:List ResultVar}{fr:List AV}{hp:ag}{d:Option AV}{r:oe×ag}(h:uA ec P rs fr hp d=some r):uA NW P rs fr hp d=some r:=by
 cases d with
 |none=>exact h
 |some v=>
  simp only[uA]at h ⊢
  split at h
  ·simp at h
  rename_i g as cB
  split at h
  ·simp at h
  rename_i fg NX
  split at h
  ·simp at h
  rename_i cg NY
  cases hn:cA cg with
  |false=>rw[hn]at h; simp at h
  |true=>
   rw[hn]at h
   cases hq:ec (oh cg) ⟨g,as++List.replicate (fg.ntmps-as.length) .undef,hp⟩ with
   |none=>rw[hq]at h; simp at h
   |some o=>rw[hq]at h; simp only[cB,NX,NY,hn,hc _ _ _ hq]; exact h
theorem Il[ab]{ec NW:Code→St→Option Out}{eo S2:Oper→St→Option Out}(hc:∀ c s r,ec c s=some r→NW c s=some r)(ho:∀ o s r,eo o s=some r→S2 o s=some r){P:Program}{rs:List ResultVar}{c:Code}{s:St}{r:oe×ag}(h:uB ec eo P rs c s=some r):uB NW S2 P rs c s=some r:=by
 unfold uB at h ⊢
 cases hn:cA c with
 |false=>rw[hn]at h; simp at h
 |true=>
  rw[hn]at h
  cases hq:z8 ec eo c s with
  |none=>rw[hq]at h; simp at h
  |some o=>
   rw[hq]at h
   rw[Kn hc ho _ _ _ hq]
   obtain⟨o,d⟩:=o
   cases o with
   |norm s'=>exact Am hc h
   |ret s'=>exact Am hc h
   |exit i s'=>exact h
   |kg v s'=>cases d<;>exact h
structure QM[ab](C:Ctx)(k k2:Nat):Prop where
 f:∀ g args hp r,mq C k g args hp=some r→mq C k2 g args hp=some r
 c:∀ c s r,bU C k c s=some r→bU C k2 c s=some r
 o:∀ o s r,fP C k o s=some r→fP C k2 o s=some r
 p:∀ g args hp,RM.Le hp (lA C k g args) (lA C k2 g args)
 e:∀ nm o fr hp,RM.Le hp (iG C k nm o fr) (iG C k2 nm o fr)
theorem Im[ab]{C:Ctx}{k k2:Nat}(ih:QM C k k2):QM C (k+1) (k2+1) where
 f:=by
  intro g args hp r h
  rw[mq]at h ⊢
  cases ru:C.P.funcs[g]? with
  |none=>rw[ru]at h; simp at h
  |some fn=>
   rw[ru]at h
   simp only at h ⊢
   cases hb:fn.body with
   |none=>rw[hb]at h; simp at h
   |some c=>
    rw[hb]at h
    simp only at h ⊢
    cases hD:CF c with
    |true=>rw[hD]at h; exact Il ih.c ih.o h
    |false=>
    rw[hD]at h
    simp only at h ⊢
    cases hc:bU C k c ⟨g,args++List.replicate (fn.ntmps-args.length) .undef,hp⟩ with
    |none=>rw[hc]at h; simp at h
    |some out=>rw[hc]at h; rw[ih.c _ _ _ hc]; exact h
 c:=by
  intro c s r h
  cases c with
  |seq a b=>
   simp only[bU]at h ⊢
   cases ha:bU C k a s with
   |none=>rw[ha]at h; simp at h
   |some out=>
    rw[ha]at h; rw[ih.c _ _ _ ha]
    cases out with
    |norm s'=>exact ih.c _ _ _ h
    |_=>exact h
  |cond o a b=>
   simp only[bU]at h ⊢
   split at h
   ·split at h
    ·exact ih.c _ _ _ h
    ·exact ih.c _ _ _ h
   ·simp at h
  |block id b=>
   simp only[bU]at h ⊢
   cases ha:bU C k b s with
   |none=>rw[ha]at h; simp at h
   |some out=>rw[ha]at h; rw[ih.c _ _ _ ha]; exact h
  |loop b=>
   simp only[bU]at h ⊢
   cases ha:bU C k b s with
   |none=>rw[ha]at h; simp at h
   |some out=>
    rw[ha]at h; rw[ih.c _ _ _ ha]
    cases out with
    |norm s'=>exact ih.c _ _ _ h
    |_=>exact h
  |region id ops draw=>
   simp only[bU]at h ⊢
   cases draw with
   |false=>exact iK ih.o ops _ _ r h
   |true=>
    simp only at h ⊢
    split at h
    case isFalse=>simp at h
    rename_i bI
    rw[if_pos bI]
    split at h
    ·rename_i s' fs hd
     rw[oq ih.e ops _ _ _ hd]
     simp only at h ⊢
     split at h
     case isFalse=>simp at h
     rename_i hc
     rw[if_pos hc]
     exact iK ih.o ops _ _ r h
    ·simp at h
  |scope b=>
   simp only[bU]at h ⊢
   split at h
   ·rename_i c hc
    exact ih.c _ _ _ h
   ·simp at h
  |rangeFunc f ps as bd=>
   simp only[bU]at h ⊢
   split at h
   case h_2=>simp at h
   rename_i g args cB
   cases hq:mq C k g args (s.hp++[some (.gw (.loop s.fn ps as bd .ready) (uz as bd s.fr))]) with
   |none=>rw[hq]at h; simp at h
   |some q=>rw[hq]at h; rw[ih.f _ _ _ _ hq]; exact h
  |_=>simpa only[bU] using h
 o:=by
  intro o s r h
  obtain⟨dst,op,type,pos,after,guard⟩:=o
  cases op with
  |call c=>
   obtain⟨callee,args,argTypes⟩:=c
   cases callee with
   |value f=>
    simp only[fP]at h ⊢
    cases cB:bE (ay s.fr f) (args.toList.map (ay s.fr)) with
    |none=>
     rw[cB]at h
     simp only at h ⊢
     split at h
     ·rename_i n hn
      exact vU (fun c s r h=>ih.c c s r h) h
     ·simp at h
    |some q=>
     obtain⟨g,as⟩:=q
     rw[cB]at h
     simp only at h ⊢
     cases pL:au (Op.call ⟨.value f,args,argTypes⟩) with
     |true=>
      rw[pL]at h
      simp only at h ⊢
      cases hq:(ir C (fun as=>mq C k g as []) s.hp.length g as).run s.hp with
      |none=>rw[hq]at h; simp at h
      |some q=>rw[hq]at h; rw[(vT (fun as r h=>ih.f g as [] r h) _ hq).1]; exact h
     |false=>
     rw[pL]at h
     simp only at h ⊢
     cases hk:C.kind g with
     |pure=>
      rw[hk]at h
      simp only at h ⊢
      cases hq:(lA C k g as).run s.hp with
      |none=>rw[hq]at h; simp at h
      |some q=>rw[hq]at h; rw[(ih.p g as s.hp q hq).1]; exact h
     |imp=>
      rw[hk]at h
      simp only at h ⊢
      cases hq:mq C k g as s.hp with
      |none=>rw[hq]at h; simp at h
      |some q=>rw[hq]at h; rw[ih.f _ _ _ _ hq]; exact h
   |invoke rv name=>
    simp only[fP]at h ⊢
    cases cB:pD C.P (ay s.fr rv) name with
    |none=>rw[cB]at h; simp at h
    |some q=>
     obtain⟨g,x⟩:=q
     rw[cB]at h
     simp only at h ⊢
     cases hk:C.kind g with
     |pure=>
      rw[hk]at h
      simp only at h ⊢
      cases hq:(lA C k g (x::args.toList.map (ay s.fr))).run s.hp with
      |none=>rw[hq]at h; simp at h
      |some q=>rw[hq]at h; rw[(ih.p g _ s.hp q hq).1]; exact h
     |imp=>
      rw[hk]at h
      simp only at h ⊢
      cases hq:mq C k g (x::args.toList.map (ay s.fr)) s.hp with
      |none=>rw[hq]at h; simp at h
      |some q=>rw[hq]at h; rw[ih.f _ _ _ _ hq]; exact h
   |_=>simpa only[fP] using h
  |_=>rw[Ft (k':=k) (by intro c hc; cases hc)]; exact h
 p:=by
  intro g args hp
  rw[lA,lA]
  refine RM.Le.bind .rfl fun as=>?_
  cases hi:C.jL g with
  |some h=>exact .rfl
  |none=>
   simp only
   intro x hx
   cases hq:mq C k g as [] with
   |none=>rw[hq]at hx; simp[RM.ae]at hx
   |some q=>
    rw[hq]at hx
    rw[ih.f _ _ _ _ hq]
    exact⟨hx,rfl⟩
 e:=by
  intro nm o fr hp
  rw[iG,iG]
  obtain⟨dst,op,type,pos,after,guard⟩:=o
  cases op with
  |call c=>
   obtain⟨callee,args,argTypes⟩:=c
   cases callee with
   |value f=>
    simp only
    split
    ·exact .rfl
    ·rename_i g as cB
     cases pL:au (Op.call ⟨.value _,args,argTypes⟩) with
     |true=>exact vT fun as r h=>ih.f g as [] r h
     |false=>
     cases hk:C.kind g with
     |pure=>exact RM.Le.bind (ih.p g as hp) fun _=>.rfl
     |imp=>exact .rfl
   |invoke rv name=>
    simp only
    split
    ·exact .rfl
    ·rename_i g x cB
     cases hk:C.kind g with
     |pure=>exact RM.Le.bind (ih.p g _ hp) fun _=>.rfl
     |imp=>exact .rfl
   |_=>exact .rfl
  |_=>exact .rfl
theorem mono[ab](C:Ctx):∀ k,QM C k (k+1)
 |0=>{ f:=by intro g args hp r h; simp[mq]at h
       c:=by intro c s r h; simp[bU]at h
       o:=by intro o s r h; simp[fP]at h
       p:=by intro g args hp x h; simp[lA,RM.ae]at h
       e:=by intro nm o fr hp x h; simp[iG,RM.ae]at h }
 |k+1=>Im (mono C k)
noncomputable def lO{α:Type}(g:Nat→Option α):Option α:=
 open Classical in if h : ∃ k, (g k).isSome then g (Classical.choose h) else none
def fQ{α:Type}(g:Nat→Option α):Prop:=∀ k x,g k=some x→g (k+1)=some x
theorem fQ.le{α:Type}{g:Nat→Option α}(h:fQ g){k:Nat}{x:α}(hx:g k=some x):∀ d,g (k+d)=some x
 |0=>hx
 |d+1=>h _ _ (h.le hx d)
theorem aX[ab]{α:Type}{g:Nat→Option α}(hg:fQ g){x:α}:lO g=some x↔∃ k,g k=some x:=by
 unfold lO
 constructor
 ·intro h
  split at h
  ·rename_i hq; exact⟨_,h⟩
  ·simp at h
 ·rintro⟨k,hk⟩
  have hq:∃ k,(g k).isSome:=⟨k,by simp[hk]⟩
  rw[dif_pos hq]
  obtain⟨y,hy⟩:=Option.isSome_iff_exists.1 (Classical.choose_spec hq)
  have h1:=hg.le hk (Classical.choose hq)
  have h2:=hg.le hy k
  rw[Nat.add_comm]at h2
  rw[h1]at h2
  rw[hy,h2]
theorem k8[ab]{α:Type}{g:Nat→Option α}(hg:fQ g){y:Option α}(h1:∀ k x,g k=some x→y=some x)(h2:∀ x,y=some x→∃ k,g k=some x):lO g=y:=by
 cases hl:lO g with
 |some x=>
  obtain⟨k,hk⟩:=(aX hg).1 hl
  exact(h1 k x hk).symm
 |none=>
  cases y with
  |none=>rfl
  |some x=>
   have:=(aX hg).2 (h2 x rfl)
   rw[hl]at this; simp at this
noncomputable def iv[ab](C:Ctx)(f:FuncId)(args:List AV)(hp:ag):Option (oe×ag):=lO fun k=>mq C k f args hp
noncomputable def cS[ab](C:Ctx)(c:Code)(s:St):Option Out:=lO fun k=>bU C k c s
noncomputable def hY[ab](C:Ctx)(o:Oper)(s:St):Option Out:=lO fun k=>fP C k o s
noncomputable def Kp[ab](C:Ctx)(g:FuncId)(args:List AV)(hp:ag):Option (oe×List (Nat×aJ)):=lO fun k=>(lA C k g args).run hp
theorem jm[ab](C:Ctx)(f:FuncId)(args:List AV)(hp:ag):fQ fun k=>mq C k f args hp:=fun k x h=>(mono C k).f _ _ _ _ h
theorem dN[ab](C:Ctx)(c:Code)(s:St):fQ fun k=>bU C k c s:=fun k x h=>(mono C k).c _ _ _ h
theorem jI[ab](C:Ctx)(o:Oper)(s:St):fQ fun k=>fP C k o s:=fun k x h=>(mono C k).o _ _ _ h
theorem CW[ab](C:Ctx)(g:FuncId)(args:List AV)(hp:ag):fQ fun k=>(lA C k g args).run hp:=fun k x h=>((mono C k).p g args hp x h).1
end Go.PI
end
section
/- PI, part Za: a scope in which the run jumps back to one label. -/
namespace Go.PI
theorem nU[ab]{C:Ctx}{k:Nat}{o:Oper}{s:St}{r:Out}(h:fP C k o s=some r):(∃ s',r=.norm s')∨∃ v s',r=.kg v s':=by
 cases k with
 |zero=>simp[fP]at h
 |succ k=>
  simp only[fP]at h
  repeat' split at h
  all_goals first
   |(simp only[Option.some.injEq]at h; subst h; first|exact .inl ⟨_,rfl⟩|exact .inr ⟨_,_,rfl⟩)
   |exact .inl (FT h)
   |simp at h
theorem lh{step:Oper→St→Option Out}(hs:∀ o s r,step o s=some r→(∃ s',r=.norm s')∨∃ v s',r=.kg v s'){ops:Array Oper}:∀ {l:List Oper} {s:St} {r:Out},
  cH step ops l s=some r→(∃ s',r=.norm s')∨∃ v s',r=.kg v s'
 |[],s,r,h=>by simp only[cH,Option.some.injEq]at h; exact .inl ⟨s,h.symm⟩
 |o::l,s,r,h=>by
  simp only[cH]at h
  split at h
  ·simp at h
  ·exact lh hs h
  ·split at h
   ·exact lh hs h
   ·rename_i dA
    exact hs o s r h
theorem uZ:∀ {c:Code},dh c=true→cA c=true:=by
 intro c
 induction c with
 |seq a b Hu E9=>simp_all[dh,cA]
 |cond c a b Hu E9=>simp_all[dh,cA]
 |block id b ih=>simp_all[dh,cA]
 |loop b ih=>simp_all[dh,cA]
 |scope b ih=>intro h; simp[dh]at h
 |rangeFunc f ps a b=>intro h; simp[dh]at h
 |_=>intro _; rfl
theorem F1[ab]{C:Ctx}:∀ (k:Nat) {c:Code} {s s':St} {i:Nat},dh c=true→bU C k c s=some (.exit i s')→i<1073741824:=by
 intro k
 induction k with
 |zero=>intro c s s' i _ h; simp[bU]at h
 |succ k ih=>
  intro c s s' i hp h
  cases c with
  |seq a b=>
   grind[dh,bU]
  |cond o a b=>
   grind[dh,bU]
  |block id b=>
   grind[dh,bU,Out.exit.injEq]
  |loop b=>
   grind[dh,bU]
  |exit id=>
   simp_all[bU,Out.exit.injEq,dh]
  |region id ops draw=>
   simp only[bU]at h
   cases draw with
   |false=>
    rcases lh (fun o s r h=>nU h) h with ⟨_,e⟩|⟨_,_,e⟩<;>cases e
   |true=>
    simp only at h
    split at h
    case isFalse=>simp at h
    split at h
    case h_2=>simp at h
    split at h
    case isFalse=>simp at h
    rcases lh (fun o s r h=>nU h) h with ⟨_,e⟩|⟨_,_,e⟩<;>cases e
  |skip=>simp[bU]at h
  |ret=>simp[bU]at h
  |_=>simp[dh]at hp
def OkJ[ab](l:Nat)(B:o8)(E:Env):Out→Exit→Act→World→Prop
 |.exit i s,.goto m,a,w=>i=1073741825∧m=l∧cK B E s a w
 |.exit i s,.exit j,a,w=>i=j∧i<1073741824∧cK B E s a w
 |o,e,a,w=>K5 B E o e a w
def IQ[ab](l:Nat)(B:o8)(E:Env)(w:World)(o:Out)(e:Exit)(a':Act)(w':World):Prop:=
 ∃ E',Ext E E'∧Fr E w E' w'∧OkJ l B E' o e a' w'
theorem IQ.from[ab]{l:Nat}{B:o8}{E E1:Env}{w w1:World}{o:Out}{e:Exit}{a:Act}{w':World}(hx:Ext E E1)(hf:Fr E w E1 w1)(h:IQ l B E1 w1 o e a w'):IQ l B E w o e a w':=by
 obtain⟨E',h1,h2,h3⟩:=h
 exact⟨E',hx.trans h1,hf.trans h2,h3⟩
theorem Lk[ab]{C:Ctx}{k:Nat}(hC:∀ j,j≤k→fJ C j){l:Nat}{c:Code}(hp:dh c=true){j:Nat}(hj:j≤k){s:St}{o:Out}(h:bU C j c s=some o)
  (rd:Option Nat) {B:o8} {E:Env} {a:Act} {w:World} (hs:cK B E s a w):c.wpIn (WF rd) 0 C.P (IQ l B E w o) a w:=by
 refine wpIn_mono (hC j hj c s o h rd B (.inr (uZ hp)) E a w hs) fun e a' w' hq=>?_
 obtain⟨E',h1,h2,h3⟩:=hq
 refine⟨E',h1,h2,?_⟩
 cases o with
 |exit i s'=>
  have hi:=F1 j hp h
  cases e with
  |exit m=>exact⟨h3.1,hi,h3.2⟩
  |_=>exact h3.elim
 |_=>exact h3
theorem Q9[ab]{C:Ctx}{k:Nat}(hC:∀ j,j≤k→fJ C j){l:Nat}:∀ (c:Code) {c':Code},rn l c=some c'→∀ (j:Nat),j≤k→∀ (s:St) (o:Out),bU C j c' s=some o →
  ∀ (rd:Option Nat) (B:o8) (E:Env) (a:Act) (w:World),cK B E s a w→c.wpIn (WF rd) 0 C.P (IQ l B E w o) a w:=by
 intro c
 induction c with
 |seq x y W1 Ko=>
  intro c' hc j hj s o h rd B E a w hs
  simp only[rn]at hc
  cases hx:rn l x with
  |none=>rw[hx]at hc; simp at hc
  |some x'=>
   cases hy:rn l y with
   |none=>rw[hx,hy]at hc; simp at hc
   |some y'=>
    rw[hx,hy]at hc
    simp only[Option.bind_some,Option.map_some,Option.some.injEq]at hc
    subst hc
    cases j with
    |zero=>simp[bU]at h
    |succ j=>
     have px:=W1 hx
     have py:=Ko hy
     simp only[bU]at h
     refine wpIn_seq ?_
     split at h
     ·rename_i s' gz
      refine wpIn_mono (px j (by omega) s _ gz rd B E a w hs) fun e a' w' hp=>?_
      obtain⟨E',h1,h2,h3⟩:=hp
      cases e with
      |normal=>exact wpIn_mono (py j (by omega) s' o h rd B E' a' w' h3) fun e VF xE hp=>IQ.from h1 h2 hp
      |_=>exact h3.elim
     ·rename_i dA
      refine wpIn_mono (px j (by omega) s o h rd B E a w hs) fun e a' w' hp=>?_
      obtain⟨E',h1,h2,h3⟩:=hp
      cases e with
      |normal=>
       cases o with
       |norm s'=>exact absurd h (dA s')
       |_=>exact h3.elim
      |_=>exact⟨E',h1,h2,h3⟩
 |cond op x y W1 Ko=>
  intro c' hc j hj s o h rd B E a w hs
  simp only[rn]at hc
  cases hx:rn l x with
  |none=>rw[hx]at hc; simp at hc
  |some x'=>
   cases hy:rn l y with
   |none=>rw[hx,hy]at hc; simp at hc
   |some y'=>
    rw[hx,hy]at hc
    simp only[Option.bind_some,Option.map_some,Option.some.injEq]at hc
    subst hc
    cases j with
    |zero=>simp[bU]at h
    |succ j=>
     have px:=W1 hx
     have py:=Ko hy
     simp only[bU]at h
     split at h
     case h_2=>simp at h
     rename_i t ht
     have hv:=ic hs.inv.jj hs.fr op
     rw[ht]at hv
     simp only[ak]at hv
     cases t with
     |true=>exact wpIn_cond_true hv (px j (by omega) s o h rd B E a w hs)
     |false=>exact wpIn_cond_false hv (py j (by omega) s o h rd B E a w hs)
 |goto m=>
  intro c' hc j hj s o h rd B E a w hs
  simp only[rn]at hc
  split at hc
  case isFalse=>simp at hc
  rename_i hm
  simp only[Option.some.injEq]at hc
  subst hc
  cases j with
  |zero=>simp[bU]at h
  |succ j=>
   simp only[bU,Option.some.injEq]at h
   subst h
   exact wpIn_goto ⟨E,Ext.refl E,Fr.refl E w,rfl,hm,hs⟩
 |_=>
  intro c' hc
  simp only[rn]at hc
  split at hc
  case isFalse=>simp at hc
  rename_i hp
  simp only[Option.some.injEq]at hc
  subst hc
  intro j hj s o h rd B E a w hs
  exact Lk hC hp hj h rd hs
section
variable {F:Fence}{n:Nat}{P:Program}{Q:Exit→Act→World→Prop}{a:Act}{w:World}
theorem Dz{b:Frame}{k:List Go.Item}{cs:List Frame}{c:Code}:step P (lone (b.atR a (.code (.scope c)::k)) cs w)=.next (lone (b.atR a (.code c::.inScope c::k)) cs w):=
 step_lone_go (by simp[stepG,stepG.exec,Frame.atR])
theorem rJ{b:Frame}{k:List Go.Item}{cs:List Frame}{c:Code}:step P (lone (b.atR a (.inScope c::k)) cs w)=.next (lone (b.atR a k) cs w):=
 step_lone_go (by simp[stepG,stepG.exec,Frame.atR])
def nb(F:Fence)(n:Nat)(P:Program)(c r:Code)(Q:Exit→Act→World→Prop)(a:Act)(w:World):Prop:=
 ∀ (b:Frame) (k:List Go.Item) (cs:List Frame),b.roundOf=F.round→F.fn b.fn→F.room (cs.length+1+n) →
   ∃ e a' w',Q e a' w'∧ArrivesIn (Machine.fenced P F) P (lone (b.atR a (.code r::.inScope c::k)) cs w) b k cs e a' w'
def Ty(l:Nat)(N:Act→World→Prop)(Q:Exit→Act→World→Prop):Exit→Act→World→Prop
 |.goto m,a,w=>m=l∧N a w
 |e,a,w=>Q e a w
theorem AI{c r rest:Code}{l:Nat}{N:Act→World→Prop}(hf:findLabel c l=some rest)(hN:∀ a w,N a w→nb F n P c rest Q a w)
  (h:r.wpIn F n P (Ty l N Q) a w):nb F n P c r Q a w:=by
 intro b k cs dJ hb hr
 have hg:gotoIn l (.inScope c::k)=some (.code rest::.inScope c::k):=by simp[gotoIn,hf]
 obtain⟨e,a₁,w₁,hq,cN⟩:=h b (.inScope c::k) cs dJ hb hr
 cases e with
 |normal=>exact⟨.normal,a₁,w₁,hq,StepsIn.trans cN (.one (fenced_calm hb hr rfl) rJ)⟩
 |exit id=>
  have hx:exitTo id (.inScope c::k)=exitTo id k:=by simp[exitTo]
  exact⟨.exit id,a₁,w₁,hq,fun k' hk=>cN.1 k' (by rw[hx]; exact hk),fun kL hk=>cN.2 kL (by rw[hx]; exact hk)⟩
 |goto m=>
  obtain⟨rfl,hN'⟩:=hq
  obtain⟨e₂,a₂,w₂,xF,ki⟩:=hN _ _ hN' b k cs dJ hb hr
  exact⟨e₂,a₂,w₂,xF,.of_steps (cN.1 _ hg) ki⟩
 |ret=>exact⟨_,a₁,w₁,hq,cN⟩
 |panic ch=>exact⟨_,a₁,w₁,hq,cN⟩
 |outgrown=>exact⟨_,a₁,w₁,hq,cN⟩
theorem wZ{c r:Code}(h:r.wpIn F n P Q a w)(hQ:∀ m a w,¬Q (.goto m) a w):nb F n P c r Q a w:=by
 intro b k cs dJ hb hr
 obtain⟨e,a₁,w₁,hq,cN⟩:=h b (.inScope c::k) cs dJ hb hr
 cases e with
 |normal=>exact⟨.normal,a₁,w₁,hq,StepsIn.trans cN (.one (fenced_calm hb hr rfl) rJ)⟩
 |exit id=>
  have hx:exitTo id (.inScope c::k)=exitTo id k:=by simp[exitTo]
  exact⟨.exit id,a₁,w₁,hq,fun k' hk=>cN.1 k' (by rw[hx]; exact hk),fun kL hk=>cN.2 kL (by rw[hx]; exact hk)⟩
 |goto m=>exact absurd hq (hQ _ _ _)
 |ret=>exact⟨_,a₁,w₁,hq,cN⟩
 |panic ch=>exact⟨_,a₁,w₁,hq,cN⟩
 |outgrown=>exact⟨_,a₁,w₁,hq,cN⟩
theorem DA{c:Code}(h:nb F n P c c Q a w):(Code.scope c).wpIn F n P Q a w:=by
 intro b k cs dJ hb hr
 obtain⟨e,a₁,w₁,hq,cN⟩:=h b k cs dJ hb hr
 exact⟨e,a₁,w₁,hq,.of_steps (.one (fenced_calm hb hr rfl) Dz) cN⟩
end
theorem DB:∀ {c:Code} {l:Nat},dh c=true→findLabel c l=none:=by
 intro c
 induction c with
 |seq a b Hu E9=>
  simp_all[dh,findLabel]
 |label m=>intro l h; simp[dh]at h
 |_=>intro l _; rfl
theorem Ll{a b:Code}{l:Nat}(h:findLabel a l=none):findLabel (.seq a b) l=findLabel b l:=by
 simp only[findLabel,h]
theorem Lm:∀ {c:Code} {l:Nat} {x r:Code},tk c=some (l,x,r)→findLabel c l=some (.seq .skip r):=by
 intro c
 induction c with
 |seq a b Hu E9=>
  intro l x r h
  cases a with
  |label m=>
   simp_all[tk,findLabel]
  |_=>
   simp only[tk]at h
   split at h
   case isFalse=>simp at h
   rename_i hp
   cases hb:tk b with
   |none=>rw[hb]at h; simp at h
   |some q=>
    obtain⟨l',x',r'⟩:=q
    rw[hb]at h
    simp only[Option.map_some,Option.some.injEq,Prod.mk.injEq]at h
    obtain⟨rfl,rfl,rfl⟩:=h
    exact(Ll (DB (l:=l') hp)).trans (E9 hb)
 |_=>intro l x r h; simp[tk]at h
theorem Ra[ab]{C:Ctx}{k:Nat}(hC:∀ j,j≤k→fJ C j){Q:Exit→Act→World→Prop}{rd:Option Nat}{B:o8}{l:Nat}{r:Code}:∀ (c:Code) {x:Code},tk c=some (l,x,r)→∀ (j:Nat),j≤k→∀ (s:St) (q:Out),bU C j x s=some q →
  ∀ (E:Env) (a:Act) (w:World),cK B E s a w→(∀ s1 E1 a1 w1,q=.norm s1→Ext E E1→Fr E w E1 w1→cK B E1 s1 a1 w1→r.wpIn (WF rd) 0 C.P Q a1 w1) →
  (∀ e a' w',(∀ s1,q≠.norm s1)→br B E w q e a' w'→Q e a' w')→c.wpIn (WF rd) 0 C.P Q a w:=by
 intro c
 induction c with
 |seq a b Hu E9=>
  intro x h j hj s q bG E ac w hs hn ho
  have step:∀ (hp:dh a=true) (x':Code),tk b=some (l,x',r)→x=.seq a x'→(Code.seq a b).wpIn (WF rd) 0 C.P Q ac w:=by
   intro hp x' hb hx
   subst hx
   cases j with
   |zero=>simp[bU]at bG
   |succ j=>
    simp only[bU]at bG
    refine wpIn_seq ?_
    split at bG
    ·rename_i s1 h1
     refine wpIn_mono (hC j (by omega) _ _ _ h1 rd B (.inr (uZ hp)) E ac w hs) fun e a' w' hq=>?_
     obtain⟨E',g1,g2,g3⟩:=hq
     cases e with
     |normal=>exact E9 hb j (by omega) s1 q bG E' a' w' g3 (fun s2 E2 a2 w2 e1 e2 e3 e4=>hn s2 E2 a2 w2 e1 (g1.trans e2) (g2.trans e3) e4) (fun e a2 w2 e1 e2=>ho e a2 w2 e1 (br.from g1 g2 e2))
     |_=>exact g3.elim
    ·rename_i dA
     refine wpIn_mono (hC j (by omega) _ _ _ bG rd B (.inr (uZ hp)) E ac w hs) fun e a' w' hq=>?_
     cases e with
     |normal=>
      obtain⟨E',g1,g2,g3⟩:=hq
      cases q with
      |norm s1=>exact absurd bG (dA s1)
      |_=>exact g3.elim
     |_=>exact ho _ _ _ (fun s1 e=>dA s1 (e▸bG)) hq
  cases a with
  |label m=>
   simp only[tk,Option.some.injEq,Prod.mk.injEq]at h
   obtain⟨rfl,rfl,rfl⟩:=h
   cases j with
   |zero=>simp[bU]at bG
   |succ j=>
    simp only[bU,Option.some.injEq]at bG
    subst bG
    exact wpIn_seq (wpIn_label (hn s E ac w rfl (Ext.refl E) (Fr.refl E w) hs))
  |_=>
   simp only[tk]at h
   split at h
   case isFalse=>simp at h
   rename_i hp
   cases hb:tk b with
   |none=>rw[hb]at h; simp at h
   |some q'=>
    obtain⟨l',x',r'⟩:=q'
    rw[hb]at h
    simp only[Option.map_some,Option.some.injEq,Prod.mk.injEq]at h
    obtain⟨rfl,rfl,rfl⟩:=h
    exact step hp x' hb rfl
 |_=>intro x h; simp[tk]at h
def wo:Out→Out
 |.exit i s=>if i=1073741824 then .norm s else .exit i s
 |o=>o
theorem nb.mono{F:Fence}{n:Nat}{P:Program}{c r:Code}{Q Q':Exit→Act→World→Prop}{a:Act}{w:World}(h:nb F n P c r Q a w)(hq:∀ e a w,Q e a w→Q' e a w):nb F n P c r Q' a w:=
 fun b k cs dJ hb hr=>let ⟨e,a',w',q,r⟩:=h b k cs dJ hb hr; ⟨e,a',w',hq _ _ _ q,r⟩
theorem Ty.mono{l:Nat}{N N':Act→World→Prop}{Q Q':Exit→Act→World→Prop}(hn:∀ a w,N a w→N' a w)(hq:∀ e a w,Q e a w→Q' e a w){e:Exit}{a:Act}{w:World}(h:Ty l N Q e a w):Ty l N' Q' e a w:=by
 cases e with
 |goto m=>exact⟨h.1,hn _ _ h.2⟩
 |_=>exact hq _ _ _ h
theorem IT[ab]{C:Ctx}{k:Nat}(hC:∀ j,j≤k→fJ C j){rd:Option Nat}{l:Nat}{c r r':Code}(hf:findLabel c l=some (.seq .skip r))(hr:rn l r=some r'){B:o8}:∀ (j:Nat),j≤k→∀ (s:St) (o:Out),
  bU C j (.loop (.block 1073741825 (.seq r' (.exit 1073741824)))) s=some o→∀ (E:Env) (a:Act) (w:World),cK B E s a w →
  r.wpIn (WF rd) 0 C.P (Ty l (fun a1 w1=>nb (WF rd) 0 C.P c (.seq .skip r) (br B E w (wo o)) a1 w1) (br B E w (wo o))) a w:=by
 intro j
 induction j with
 |zero=>intro _ s o h; simp[bU]at h
 |succ j ih=>
  intro hj s o h E a w hs
  have ih':=ih (by omega)
  simp only[bU]at h
  cases hb:bU C j (.block 1073741825 (.seq r' (.exit 1073741824))) s with
  |none=>rw[hb]at h; simp at h
  |some q=>
   rw[hb]at h
   cases j with
   |zero=>simp[bU]at hb
   |succ j=>
    simp only[bU]at hb
    cases j with
    |zero=>simp[bU]at hb
    |succ j=>
     simp only[bU]at hb
     cases hq:bU C j r' s with
     |none=>rw[hq]at hb; simp at hb
     |some p=>
      rw[hq]at hb
      refine wpIn_mono (Q9 hC r hr j (by omega) s p hq rd B E a w hs) fun e a' w' ho=>?_
      obtain⟨E',g1,g2,g3⟩:=ho
      cases p with
      |norm s1=>
       cases j with
       |zero=>simp[bU]at hq
       |succ j=>
        simp only[bU]at hb
        simp at hb
        subst hb
        simp only[Option.some.injEq]at h
        subst h
        cases e with
        |normal=>exact⟨E',g1,g2,g3⟩
        |_=>exact g3.elim
      |exit i s1=>
       simp only at hb
       cases e with
       |goto m=>
        obtain⟨hi,hm,m9⟩:=g3
        subst hi
        simp only[if_true,Option.some.injEq]at hb
        subst hb
        simp only at h
        refine⟨hm,?_⟩
        have:∃ E2,Ext E E2∧Fr E w E2 w'∧cK B E2 (gW s.hp.length s1) a' w':=by
         unfold gW
         split
         ·rename_i bg
          have hle:s.hp.length≤s1.hp.length:=by rw[hs.inv.len,m9.inv.len]; exact g1.L
          obtain⟨a1,a2,a3⟩:=tP m9.inv hle bg
          exact⟨E'.lower s.hp.length,⟨g1.m,fun n hn aq l h=>g1.ρ n hn aq l h,by simp[Env.lower,hs.inv.len]⟩,g2.trans a2,sg a3 m9.fr,a1,m9.df.mono a2,m9.bs⟩
         ·exact⟨E',g1,g2,m9⟩
        obtain⟨E2,b1,b2,b3⟩:=this
        have hw:=ih' _ o h E2 a' w' b3
        refine AI hf (N:=fun a w2=>nb (WF rd) 0 C.P c (.seq .skip r) (br B E w (wo o)) a w2) (fun _ _ h=>h) (wpIn_seq (wpIn_skip (wpIn_mono hw fun e a2 w2 hj=>?_)))
        exact hj.mono (fun _ _ hi=>hi.mono fun _ _ _ hp=>br.from b1 b2 hp) fun _ _ _ hp=>br.from b1 b2 hp
       |exit m=>
        obtain⟨hi,bL,m9⟩:=g3
        subst hi
        rw[if_neg (by omega)]at hb
        simp only[Option.some.injEq]at hb
        subst hb
        simp only[Option.some.injEq]at h
        subst h
        have:wo (.exit i s1)=.exit i s1:=by simp only[wo]; rw[if_neg (by omega)]
        rw[this]
        exact⟨E',g1,g2,rfl,m9⟩
       |_=>exact g3.elim
      |ret s1=>
       simp only[Option.some.injEq]at hb
       subst hb
       simp only[Option.some.injEq]at h
       subst h
       cases e with
       |ret=>exact⟨E',g1,g2,g3⟩
       |_=>exact g3.elim
      |kg v s1=>
       simp only[Option.some.injEq]at hb
       subst hb
       simp only[Option.some.injEq]at h
       subst h
       cases e with
       |panic ch=>exact⟨E',g1,g2,g3⟩
       |_=>exact g3.elim
theorem F2:∀ {c:Code},noGoto c=true→cA c=true:=by
 intro c
 induction c with
 |seq a b Hu E9=>simp_all[noGoto,cA]
 |cond o a b Hu E9=>simp_all[noGoto,cA]
 |block id b ih=>simp_all[noGoto,cA]
 |loop b ih=>simp_all[noGoto,cA]
 |scope b ih=>simp_all[noGoto,cA]
 |rangeFunc _ _ _ _ _ _=>intro h; simp[noGoto]at h
 |_=>intro _; rfl
theorem Lg[ab]{C:Ctx}{k:Nat}(hC:∀ j,j≤k→fJ C j){rd:Option Nat}{B:o8}{E:Env}{s:St}{a:Act}{w:World}(hs:cK B E s a w){b c:Code}{o:Out}
  (hc:pH b=some c) (h:bU C k c s=some o):(Code.scope b).wpIn (WF rd) 0 C.P (br B E w o) a w:=by
 cases Li:noGoto b with
 |true=>
  simp only[pH,Li,Option.some.injEq]at hc
  subst hc
  refine DA (wZ (hC k (Nat.le_refl _) b s o h rd B (.inr (F2 Li)) E a w hs) fun m a' w' hq=>?_)
  obtain⟨E',_,_,hq⟩:=hq
  cases o<;>exact hq.elim
 |false=>
 cases Ln:tk b with
 |none=>simp only[pH,Li,Ln]at hc; simp at hc
 |some q=>
  obtain⟨l,x,r⟩:=q
  cases hr:rn l r with
  |none=>simp only[pH,Li,Ln,hr,Option.map_none]at hc; simp at hc
  |some r'=>
   simp only[pH,Li,Ln,hr,Option.map_some,Option.some.injEq]at hc
   subst hc
   have hf:=Lm Ln
   cases k with
   |zero=>simp[bU]at h
   |succ k=>
    simp only[bU]at h
    refine DA (AI hf (N:=fun a w'=>nb (WF rd) 0 C.P b (.seq .skip r) (br B E w o) a w') (fun _ _ h=>h) ?_)
    cases hx:bU C k x s with
    |none=>rw[hx]at h; simp at h
    |some q=>
     rw[hx]at h
     refine Ra hC b Ln k (by omega) s q hx E a w hs (fun s1 E1 a1 w1 hq g1 g2 m9=>?_) (fun e a' w' hq hp=>?_)
     ·subst hq
      simp only at h
      cases k with
      |zero=>simp[bU]at h
      |succ k=>
       simp only[bU]at h
       cases hl:bU C k (.loop (.block 1073741825 (.seq r' (.exit 1073741824)))) s1 with
       |none=>rw[hl]at h; simp at h
       |some oL=>
        rw[hl]at h
        have ho:o=wo oL:=by
         cases oL with
         |exit i s2=>
          grind[wo]
         |_=>simpa[wo] using h.symm
        subst ho
        refine wpIn_mono (IT hC hf hr k (by omega) s1 oL hl E1 a1 w1 m9) fun e a2 w2 hj=>?_
        exact hj.mono (fun _ _ hi=>hi.mono fun _ _ _ hp=>br.from g1 g2 hp) fun _ _ _ hp=>br.from g1 g2 hp
     ·have ho:o=q:=by
       simp_all
      subst ho
      cases e with
      |goto m=>obtain⟨_,_,_,h3⟩:=hp; cases o<;>exact h3.elim
      |_=>exact hp
end Go.PI
end
section
/- PI, part Zb: calls that only look, where the order is drawn. -/
namespace Go.PI
def La[ab](P:Program):Prop:=∀ (g:FuncId) (args:List AV) (hp:ag) (e:dk),(zw P hp.length g args).run hp=some e→∀ (E:Env) (w:World) (vs:List Value),Inv E hp w→an E true args vs →
 e.wr=[]∧Calls P g vs.toArray w (bp E w hp (.val e.val))
theorem Oh[ab]{C:Ctx}(bI:C.Ok){nm:Nat}{g:FuncId}{args:List AV}{hp:ag}{e:dk}(h:(zw C.P nm g args).run hp=some e):
  ∃ fn : Func, C.P.funcs[g]? = some fn ∧ fn.body.isSome = true ∧ (fn.name == "runtime.NumGoroutine") = false := by
 unfold zw at h
 split at h
 ·simp[RM.ae]at h
 rename_i fn hf
 split at h
 ·simp[RM.ae]at h
 rename_i c hc
 exact⟨fn,hf,by rw[hc]; rfl,bI.name g fn hf (by rw[hc]; rfl)⟩
def pZ(hp:ag):Option (Nat×aJ)→ag
 |none=>hp
 |some (m,o')=>match hp[m]? with
  |some (some _)=>hp.set m (some o')
  |_=>hp
theorem DC{hp:ag}{ov:Option (Nat×aJ)}(n:Nat):(pZ hp ov)[n]?=(hp[n]?).map fun o=>o.map fun o=>match ov with
  |some (m,o')=>(match Nat.beq m n with
   |true=>o'
   |false=>o)
  |none=>o:=by
 cases ov with
 |none=>cases h:hp[n]? with
  |none=>simp[pZ,h]
  |some o=>cases o<;>simp[pZ,h]
 |some q=>
  obtain⟨m,o'⟩:=q
  simp only[pZ]
  by_cases hm:m=n
  ·subst hm
   have hb:Nat.beq m m=true:=Nat.beq_refl m
   split
   ·rename_i o ho
    rw[List.getElem?_set_self (List.getElem?_eq_some_iff.1 ho).1,ho]
    simp
   ·rename_i ho
    cases h:hp[m]? with
    |none=>simp
    |some o=>cases o with
     |none=>simp
     |some o=>exact absurd h (ho o)
  ·have hb:Nat.beq m n=false:=Bool.eq_false_iff.mpr fun h=>hm (Nat.eq_of_beq_eq_true h)
   have:(match hp[m]? with
    |some (some _)=>hp.set m (some o')
    |_=>hp)[n]?=hp[n]?:=by
    split
    ·rw[List.getElem?_set_ne hm]
    ·rfl
   rw[this]
   cases h:hp[n]? with
   |none=>simp
   |some o=>cases o<;>simp[hb]
theorem lZ{hp:ag}{ov:Option (Nat×aJ)}:(pZ hp ov).length=hp.length:=by
 unfold pZ
 split
 ·rfl
 ·split<;>simp
def aV(hp:ag)(ov:Option (Nat×aJ))(nw:List aJ):ag:=pZ hp ov++nw.map some
theorem oB{hp:ag}{ov:Option (Nat×aJ)}{nw:List aJ}:(aV hp ov nw).length=hp.length+nw.length:=by
 simp[aV,lZ]
theorem nV{α:Type}{hp:ag}{ov:Option (Nat×aJ)}{nw:List aJ}(x:RM α):(x.hJ hp.length ov nw).run hp=x.run (aV hp ov nw) ∧
  (x.hJ hp.length ov nw).log hp=(x.log (aV hp ov nw)).filter (fun n=>Nat.blt n hp.length):=by
 induction x with
 |ret a=>exact⟨rfl,rfl⟩
 |fail=>exact⟨rfl,rfl⟩
 |get n k ih=>
  cases hb:Nat.ble hp.length n with
  |true=>
   have hle:=Nat.le_of_ble_eq_true hb
   have KN:Nat.blt n hp.length=false:=Bool.eq_false_iff.mpr fun h=>by have:=Nat.le_of_ble_eq_true h; omega
   have e:(aV hp ov nw)[n]?=(nw[n-hp.length]?).map some:=by
    unfold aV
    rw[List.getElem?_append_right (by rw[lZ]; exact hle),lZ,List.getElem?_map]
   simp only[RM.hJ,RM.run,RM.log,hb,e,List.filter_cons,KN,Bool.false_eq_true,if_false]
   cases h:nw[n-hp.length]? with
   |none=>exact⟨rfl,rfl⟩
   |some o=>exact ih o
  |false=>
   have bL:n<hp.length:=by
    rcases Nat.lt_or_ge n hp.length with h|h
    ·exact h
    ·rw[Nat.ble_eq_true_of_le h]at hb; cases hb
   have KN:Nat.blt n hp.length=true:=Nat.ble_eq_true_of_le bL
   have e:(aV hp ov nw)[n]?=(pZ hp ov)[n]?:=by
    unfold aV
    rw[List.getElem?_append_left (by rw[lZ]; exact bL)]
   simp only[RM.hJ,RM.run,RM.log,hb,e,DC,List.filter_cons,KN,if_true]
   cases h:hp[n]? with
   |none=>simp
   |some o=>cases o with
    |none=>simp
    |some o=>exact⟨(ih _).1,congrArg (n::·) (ih _).2⟩
def BW[ab](hp:ag)(ov:Option (Nat×aJ)):Prop:=∀ (E:Env) (w:World),Inv E (pZ hp ov) w→Inv E hp w
theorem wq:∀ (xs l:List AV) (j q:Nat),(q<j∨j+xs.length≤q)→(setCells l j xs)[q]?=l[q]?
 |[],_,_,_,_=>rfl
 |x::xs,l,j,q,h=>by
  simp only[setCells]
  rw[wq xs _ _ q (by simp only[List.length_cons]at h; omega),List.getElem?_set_ne (by simp only[List.length_cons]at h; omega)]
theorem Lo[ab]{E:Env}{l:List AV}{j s:Nat}{cs:List AV}(hs:cs.length=s)(ha:((l.drop j).take s).all isAny=true)(v:Value)(h:ak E true (.agg (setCells l j cs)) v):ak E true (.agg l) v:=by
 simp only[ak]at h ⊢
 obtain⟨c,rfl,hc⟩:=h
 refine⟨c,rfl,aF.of (an.eu ?_ ?_) hc.leaf⟩
 ·rw[←hc.GW.length,oZ]
 ·intro q x u hx hu
  by_cases hq:q<j∨j+cs.length≤q
  ·obtain⟨u',JI,hr⟩:=hc.GW.get (i:=q) (x:=x) (by rw[wq _ _ _ _ hq]; exact hx)
   rw[hu]at JI
   cases JI
   exact hr
  ·have hm:x∈(l.drop j).take s:=by
    rw[List.mem_iff_getElem?]
    refine⟨q-j,?_⟩
    rw[List.getElem?_take_of_lt (by omega),List.getElem?_drop]
    have:j+(q-j)=q:=by omega
    rw[this]
    exact hx
   have:=List.all_eq_true.1 ha x hm
   unfold isAny at this
   split at this
   ·simp[ak]
   ·simp at this
theorem F3[ab]{P:Program}{hp H:ag}{ev:Operand→AV}{nm n:Nat}{o:Oper}{o0 o':aJ}{e:dk}(h0:hp[n]?=some (some o0))(h0':H[n]?=some (some o0))(hh:rV P ev o.op n o0=true)
  (he:(aK P nm ev o).run H=some e) (hw:e.wr=[(n,o')]):BW hp (some (n,o')):=by
 obtain⟨dst,op,type,pos,after,guard⟩:=o
 simp only[rV]at hh
 split at hh
 case h_2=>simp at hh
 rename_i t a x
 split at hh
 case h_2=>simp at hh
 rename_i r n' aq i j g f es ht ha
 split at hh
 case h_2=>simp at hh
 rename_i l hl
 simp only[Bool.and_eq_true]at hh
 obtain⟨⟨h1,h2⟩,h3⟩:=hh
 obtain rfl:=Nat.eq_of_beq_eq_true h1
 simp only[aK,pw,ht,ha,RM.run_bind]at he
 cases hq:(RM.arr n' aq).run H with
 |none=>rw[hq]at he; simp at he
 |some q=>
  obtain⟨g',c',f',es'⟩:=q
  have ed:=RM.k6 hq
  rw[hq]at he
  simp only[Option.bind_some]at he
  obtain⟨gU,Hv⟩:=ed
  rw[h0']at gU
  simp only[Option.some.injEq,aJ.arr.injEq]at gU
  obtain⟨rfl,rfl,rfl,rfl⟩:=gU
  rw[hl]at he
  simp only[jf]at he
  split at he
  case h_2=>simp[RM.ae]at he
  rename_i e' wW
  split at wW
  case isFalse=>simp at wW
  simp only[Option.some.injEq]at wW
  subst wW
  split at he
  case isFalse=>simp[RM.ae]at he
  rename_i hc
  simp only[RM.run_pure,Option.some.injEq]at he
  subst he
  simp only[List.cons.injEq,Prod.mk.injEq,true_and,and_true,Bool.false_and]at hw
  subst hw
  intro E w hI
  have hn:=(List.getElem?_eq_some_iff.1 h0).1
  have hi:=(List.getElem?_eq_some_iff.1 hl).1
  simp only[pZ,h0]at hI
  have:=sh (e':=.agg l) hI (List.getElem?_set_self hn) (List.getElem?_set_self hi) (fun v hv=>Lo hc.2.1 h3 v hv)
  rw[List.set_set,List.set_set,ie hl,ie h0]at this
  exact this
section
variable {C:Ctx}
theorem yp{hp:ag}{n:Nat}{o0 o':aJ}{nw:List aJ}(h:hp[n]?=some (some o0)):ai (aV hp none nw) [(n,o')]=aV hp (some (n,o')) nw:=by
 have bL:=(List.getElem?_eq_some_iff.1 h).1
 simp only[ai,aV,pZ,h]
 rw[iM (by simp; omega),List.set_append_left _ _ bL]
theorem F4{hp:ag}{ov:Option (Nat×aJ)}{nw:List aJ}{n:Nat}{o':aJ}(h:hp.length≤n):ai (aV hp ov nw) [(n,o')]=aV hp ov (JZ nw (n-hp.length) o'):=by
 have hl:=oB (hp:=hp) (ov:=ov) (nw:=nw)
 simp only[ai,setObj,hl,JZ]
 by_cases e:n=hp.length+nw.length
 ·simp_all[aV]
 ·rw[if_neg e,if_neg (by omega)]
  simp only[aV,List.map_set]
  rw[List.set_append_right _ _ (by rw[lZ]; exact h),lZ]
theorem p5{hp:ag}{ov:Option (Nat×aJ)}:∀ (wr:List (Nat×aJ)) {nw:List aJ},(∀ q∈wr,hp.length≤q.1)→ai (aV hp ov nw) wr=aV hp ov (pG hp.length nw wr)
 |[],_,_=>rfl
 |(n,o)::r,nw,h=>by
  have h1:=F4 (ov:=ov) (nw:=nw) (o':=o) (h (n,o) (by simp))
  simp only[ai]at h1
  simp only[ai,pG,h1]
  exact p5 r fun q hq=>h q (by simp[hq])
theorem AJ[ab](ha:∀ f d,C.acc f d=false)(hn:∀ f d,C.rk f d=[]){ops:Array Oper}{f:FuncId}{hp:ag}{r:List Oper}{dst:Option Tmp}{op:Op}{type:TypeId}{pos:String}
  {after:Array Edge} {guard:Option (Nat×Bool)} {q q':wP} (h1:∀ c,op≠.call c) (h2:op≠.assign (.const (.slice none 0 0)))
  (h:(do
      let e ←(aK C.P (hp.length+q.nw.length) (ay q.fr) ⟨dst,op,type,pos,after,guard⟩).hJ hp.length q.ov q.nw
      match e.wr.all fun q=>Nat.ble hp.length q.1 with
      |true=>ji C.P hp.length ops r { q with fr:=bD q.fr dst e.val,nw:=pG hp.length q.nw e.wr }
      |false=>(match q.ov,e.wr with
       |none,[(n,o')]=>.get n fun o0=>(match rV C.P (ay q.fr) op n o0 with
         |true=>ji C.P hp.length ops r { q with fr:=bD q.fr dst e.val,ov:=some (n,o') }
         |false=>.fail)
       |_,_=>.fail):RM wP).run hp=some q') (k:Nat) :
  ∃ q1:wP,fP C (k+1) ⟨dst,op,type,pos,after,guard⟩ ⟨f,q.fr,aV hp q.ov q.nw⟩=some (.norm ⟨f,q1.fr,aV hp q1.ov q1.nw⟩)∧(BW hp q.ov→BW hp q1.ov)∧(ji C.P hp.length ops r q1).run hp=some q':=by
 obtain⟨fr,ov,nw⟩:=q
 simp only[RM.run_bind,(nV _).1]at h
 cases he:(aK C.P (hp.length+nw.length) (ay fr) ⟨dst,op,type,pos,after,guard⟩).run (aV hp ov nw) with
 |none=>rw[he]at h; simp at h
 |some e=>
  rw[he]at h
  simp only[Option.bind_some]at h
  have Fl:C.rk f=fun _=>[]:=funext fun d=>hn f d
  have bG:fP C (k+1) ⟨dst,op,type,pos,after,guard⟩ ⟨f,fr,aV hp ov nw⟩=some (.norm ⟨f,bD fr dst e.val,ai (aV hp ov nw) e.wr⟩):=by
   rw[fP]
   split
   ·rename_i c hc; exact absurd hc (h1 c)
   ·rename_i hc; exact absurd hc h2
   ·simp only[oB,he,Fl]
    cases dst<;>rfl
  split at h
  ·rename_i hb
   refine⟨⟨bD fr dst e.val,ov,pG hp.length nw e.wr⟩,bG.trans ?_,id,h⟩
   rw[p5 e.wr fun q hq=>Nat.le_of_ble_eq_true (List.all_eq_true.1 hb q hq)]
  ·cases ov with
   |some _=>simp[RM.ae]at h
   |none=>
    split at h
    case h_2=>simp[RM.ae]at h
    rename_i n o' _ E7
    simp only[RM.run]at h
    split at h
    case h_2=>simp at h
    rename_i o0 ho
    split at h
    case h_2=>simp[RM.ae]at h
    rename_i hh
    have db:(aV hp none nw)[n]?=some (some o0):=by
     grind[aV,pZ]
    refine⟨⟨bD fr dst e.val,some (n,o'),nw⟩,bG.trans ?_,fun _=>F3 (o:=⟨dst,op,type,pos,after,guard⟩) ho db hh he E7,h⟩
    rw[E7,yp (o':=o') ho]
theorem nW[ab](ha:∀ f d,C.acc f d=false)(hn:∀ f d,C.rk f d=[]){ops:Array Oper}{f:FuncId}{hp:ag}:∀ (l:List Oper) (q q':wP),(ji C.P hp.length ops l q).run hp=some q' →
  (BW hp q.ov→BW hp q'.ov)∧∀ k,cH (fun o s=>fP C (k+1) o s) ops l ⟨f,q.fr,aV hp q.ov q.nw⟩=some (.norm ⟨f,q'.fr,aV hp q'.ov q'.nw⟩)
 |[],q,q',h=>by
  simp only[ji,RM.run_pure,Option.some.injEq]at h
  subst h
  exact⟨id,fun k=>rfl⟩
 |o::r,q,q',h=>by
  obtain⟨dst,op,type,pos,after,guard⟩:=o
  simp only[ji]at h
  simp only[cH]
  cases hw:cJ ops q.fr ⟨dst,op,type,pos,after,guard⟩ with
  |none=>rw[hw]at h; simp[RM.ae]at h
  |some b=>
   rw[hw]at h
   cases b with
   |false=>exact nW ha hn r { q with fr:=bD q.fr dst .undef } _ h
   |true=>
    simp only at h ⊢
    split at h
    ·simp[RM.ae]at h
    ·cases dst with
     |none=>
      obtain⟨i1,i2⟩:=nW ha hn (f:=f) r q _ h
      refine⟨i1,fun k=>?_⟩
      have bG:fP C (k+1) ⟨none,.assign (.const (.slice none 0 0)),type,pos,after,guard⟩ ⟨f,q.fr,aV hp q.ov q.nw⟩=some (.norm ⟨f,q.fr,aV hp q.ov q.nw⟩):=by
       rw[fP]; rfl
      rw[bG]
      exact i2 k
     |some d=>
      obtain⟨i1,i2⟩:=nW ha hn (f:=f) r { q with fr:=q.fr.set d (.lit bV) } _ h
      refine⟨i1,fun k=>?_⟩
      have bG:fP C (k+1) ⟨some d,.assign (.const (.slice none 0 0)),type,pos,after,guard⟩ ⟨f,q.fr,aV hp q.ov q.nw⟩=some (.norm ⟨f,q.fr.set d (.lit bV),aV hp q.ov q.nw⟩):=by
       rw[fP]
       simp only[ha,Bool.false_eq_true,if_false]
      rw[bG]
      exact i2 k
    ·rename_i h1 h2
     obtain⟨q1,g1,g2,g3⟩:=AJ ha hn (f:=f) h1 h2 h 0
     obtain⟨i1,i2⟩:=nW ha hn (f:=f) r _ _ g3
     refine⟨fun hw=>i1 (g2 hw),fun k=>?_⟩
     obtain⟨q1',Ou,_,g3'⟩:=AJ ha hn (f:=f) h1 h2 h k
     rw[Ou]
     exact(nW ha hn (f:=f) r _ _ g3').2 k
theorem Lp[ab](ha:∀ f d,C.acc f d=false)(hn:∀ f d,C.rk f d=[])(hh:∀ f d,C.iE f d=[]){f:FuncId}{hp:ag}:∀ (c:Code) (q:wP) (q':wP×Bool),(gT C.P hp.length c q).run hp=some q' →
  (BW hp q.ov→BW hp q'.1.ov)∧∃ k,bU C k c ⟨f,q.fr,aV hp q.ov q.nw⟩=some (match q'.2 with|true=>.ret ⟨f,q'.1.fr,aV hp q'.1.ov q'.1.nw⟩|false=>.norm ⟨f,q'.1.fr,aV hp q'.1.ov q'.1.nw⟩):=by
 intro c
 induction c with
 |skip=>intro q q' h; simp only[gT,RM.run_pure,Option.some.injEq]at h; subst h; exact⟨id,1,by simp[bU]⟩
 |ret=>intro q q' h; simp only[gT,RM.run_pure,Option.some.injEq]at h; subst h; exact⟨id,1,by simp[bU]⟩
 |seq a b Hu E9=>
  intro q q' h
  simp only[gT,RM.run_bind]at h
  cases hq:(gT C.P hp.length a q).run hp with
  |none=>rw[hq]at h; simp at h
  |some q1=>
   rw[hq]at h
   simp only[Option.bind_some]at h
   obtain⟨w1,k1,h1⟩:=Hu q q1 hq
   obtain⟨q1,r1⟩:=q1
   cases r1 with
   |true=>
    simp only[RM.run_pure,Option.some.injEq]at h
    subst h
    exact⟨w1,k1+1,by simp only[bU,h1]⟩
   |false=>
    simp only at h h1 w1
    obtain⟨w2,k2,h2⟩:=E9 q1 q' h
    refine⟨fun hw=>w2 (w1 hw),k1+k2+1,?_⟩
    have g1:=(dN C a ⟨f,q.fr,aV hp q.ov q.nw⟩).le h1 k2
    have g2:=(dN C b ⟨f,q1.fr,aV hp q1.ov q1.nw⟩).le h2 k1
    rw[Nat.add_comm]at g2
    simp only[bU,g1,g2]
 |cond o a b Hu E9=>
  intro q q' h
  simp only[gT]at h
  split at h
  ·rename_i he
   obtain⟨w,k,hk⟩:=Hu q q' h
   exact⟨w,k+1,by simp only[bU,he]; exact hk⟩
  ·rename_i he
   obtain⟨w,k,hk⟩:=E9 q q' h
   exact⟨w,k+1,by simp only[bU,he]; exact hk⟩
  ·simp[RM.ae]at h
 |region id ops draw=>
  intro q q' h
  cases draw with
  |true=>simp[gT,RM.ae]at h
  |false=>
   simp only[gT,RM.run_bind]at h
   cases hq:(ji C.P hp.length ops ops.toList q).run hp with
   |none=>rw[hq]at h; simp at h
   |some q1=>
    rw[hq]at h
    simp only[Option.bind_some,RM.run_pure,Option.some.injEq]at h
    subst h
    obtain⟨w1,h1⟩:=nW ha hn (f:=f) _ _ _ hq
    exact⟨w1,2,by simp only[bU,hh,gV]; exact h1 0⟩
 |_=>intro q q' h; simp[gT,RM.ae]at h
def Hw(nm:Nat)(ov:Option (Nat×aJ)):Prop:=∀ n o,ov=some (n,o)→o.below nm=true
theorem Ot[ab]{g:FuncId}{args:List AV}{hp:ag}{e:dk}{P:Program}(hP:C.P=P)(ha:∀ f d,C.acc f d=false)(hn:∀ f d,C.rk f d=[])(hho:∀ f d,C.iE f d=[])(h:(zw P hp.length g args).run hp=some e):
  e.wr=[]∧below hp.length e.val=true∧∃ ov nw,BW hp ov∧Hw hp.length ov∧∃ k,mq C k g args hp=some (.val e.val,aV hp ov nw):=by
 subst hP
 unfold zw at h
 split at h
 ·simp[RM.ae]at h
 rename_i fn hf
 split at h
 ·simp[RM.ae]at h
 rename_i c hc
 split at h
 ·simp[RM.ae]at h
 rename_i hD
 rw[RM.run_bind]at h
 cases hq:(gT C.P hp.length c ⟨args++List.replicate (fn.ntmps-args.length) .undef,none,[]⟩).run hp with
 |none=>rw[hq]at h; simp at h
 |some q=>
  rw[hq]at h
  simp only[Option.bind_some,RM.run_bind,(nV _).1]at h
  cases hl:(aW C.P q.1.fr fn.results.toList).run (aV hp q.1.ov q.1.nw) with
  |none=>rw[hl]at h; simp at h
  |some l=>
   rw[hl]at h
   simp only[Option.bind_some]at h
   split at h
   case h_2=>simp[RM.ae]at h
   rename_i hb
   simp only[RM.run_pure,Option.some.injEq]at h
   subst h
   simp only[Bool.and_eq_true]at hb
   obtain⟨hwk,k,hk⟩:=Lp ha hn hho (f:=g) c ⟨_,none,[]⟩ q hq
   refine⟨rfl,hb.1,q.1.ov,q.1.nw,hwk (fun _ _ h=>h),?_,k+1,?_⟩
   ·intro n o ho
    have:=hb.2
    rw[ho]at this
    exact this
   have e:aV hp none []=hp:=by simp[aV,pZ]
   simp only[e]at hk
   simp only[mq,hf,hc,hD,hk]
   cases q.2<;>simp only[hl]
mutual
theorem u0{E:Env}{n:Nat}(hn:E.L=n){o:Bool}:∀ {x:AV} {v:Value},ak E o x v→below n x=true
 |.lit _,v,_=>rfl
 |.agg l,v,h=>by
  simp only[ak]at h
  obtain⟨c,_,hc⟩:=h
  simp only[below]
  exact jV hn hc.GW
 |.jF l,v,h=>by
  simp only[ak]at h
  obtain⟨c,_,hc⟩:=h
  simp only[below]
  exact jV hn hc
 |.fW t x,v,h=>by
  simp only[ak]at h
  obtain⟨y,_,hy⟩:=h
  simp only[below]
  exact u0 hn hy
 |.jd fn f c,v,h=>by
  simp only[ak]at h
  obtain⟨_,_,_,h1,h2⟩:=h
  simp only[below,Bool.and_eq_true]
  exact⟨jV hn h1,jV hn h2⟩
 |.sl _,v,_=>rfl
 |.kW _ _,v,_=>rfl
 |.nz,v,_=>rfl
 |.bj _ _,v,_=>rfl
 |.ref m _ _ _,v,h=>by
  simp_all[ak,below]
 |.bh _ m _ _ _ _,v,h=>by
  simp_all[ak,below]
 |.iD m _ _ _ _ _,v,h=>by
  simp_all[ak,below]
 |.mp _ m,v,h=>by
  simp_all[ak,below]
 |.any,v,_=>rfl
theorem jV{E:Env}{n:Nat}(hn:E.L=n){o:Bool}:∀ {l:List AV} {c:List Value},an E o l c→cQ n l=true
 |[],_,_=>rfl
 |x::xs,v::vs,h=>by
  simp only[an]at h
  simp only[cQ,Bool.and_eq_true]
  exact⟨u0 hn h.1,jV hn h.2⟩
 |_::_,[],h=>by simp[an]at h
end
theorem AK{n:Nat}:∀ {l:List AV},(∀ (i:Nat) (x:AV),l[i]?=some x→below n x=true)→cQ n l=true
 |[],_=>rfl
 |x::xs,h=>by
  simp only[cQ,Bool.and_eq_true]
  exact⟨h 0 x rfl,AK fun i y hy=>h (i+1) y hy⟩
theorem IU[ab]{E:Env}{hp:ag}{w:World}(hI:Inv E hp w){n:Nat}{o:aJ}(ho:hp[n]?=some (some o)):o.below hp.length=true:=by
 have hl:=hI.len.symm
 cases o with
 |arr g c f es=>
  simp only[aJ.below,Bool.or_eq_true]
  refine .inr (AK fun i x hx=>?_)
  obtain⟨l,_,_,h3⟩:=hI.objs _ _ ho
  cases hb:l.kH with
  |none=>
   simp_all
  |some b=>
   rw[hb]at h3
   obtain⟨_,_,_,_,_,_,_,_,a7⟩:=h3
   obtain⟨v,hv,_⟩:=a7 _ _ hx
   exact u0 hl hv
 |gw k vs=>
  simp only[aJ.below]
  obtain⟨_,_,_,us,_,_,_,_,_,_,_,h8⟩:=hI.objs _ _ ho
  exact jV hl h8
theorem IP[ab]{E:Env}{hp:ag}{w w':World}(hI:Inv E hp w){ov:Option (Nat×aJ)}{nw:List aJ}(hw:BW hp ov)(hb:Hw hp.length ov){r:AV}(hr:below hp.length r=true){en:Ending}
  (h:bp E w (aV hp ov nw) (.val r) en w'):bp E w hp (.val r) en w':=by
 obtain⟨E',hx,iz,hf,cB⟩:=h
 have P4:(aV hp ov nw).take hp.length=pZ hp ov:=by
  unfold aV
  rw[←lZ (ov:=ov),List.take_left]
 have bg:((aV hp ov nw).take hp.length).all (kJ hp.length)=true:=by
  rw[P4,List.all_eq_true]
  intro o ho
  obtain⟨i,hi⟩:=List.mem_iff_getElem?.1 ho
  rw[DC]at hi
  cases h:hp[i]? with
  |none=>rw[h]at hi; simp at hi
  |some o1=>
   rw[h]at hi
   cases o1 with
   |none=>
    simp only[Option.map_some,Option.map_none,Option.some.injEq]at hi
    subst hi
    rfl
   |some o1=>
    simp only[Option.map_some,Option.some.injEq]at hi
    subst hi
    simp only[kJ]
    have h1:=IU hI h
    cases ov with
    |none=>exact h1
    |some q=>
     obtain⟨m,o'⟩:=q
     simp only
     split
     ·exact hb _ _ rfl
     ·exact h1
 obtain⟨h1,h2,h3⟩:=tP iz (by rw[oB]; omega) bg
 rw[P4]at h1
 refine⟨E'.lower hp.length,⟨hx.m,fun n hn aq l h=>hx.ρ n hn aq l h,by simp[Env.lower,hI.len]⟩,hw _ _ h1,hf.trans h2,?_⟩
 cases en with
 |returned v=>exact ak.down h3 hr cB
 |panicked _=>exact cB.elim
 |outgrown=>exact cB.elim
end
end Go.PI
end
section
/- PI, part Z: the theorem: what the evaluator answers is what the machine does. -/
namespace Go.PI
theorem IK[ab]{C:Ctx}{k:Nat}:Hq (fun nm o fr=>iG C k nm o fr):=by
 intro nm o fr zJ h
 cases k with
 |zero=>rfl
 |succ k=>
  have EW:=Dg (P:=C.P) (nm:=nm) h
  obtain⟨dst,op,type,pos,after,guard⟩:=o
  cases op with
  |call c=>
   obtain⟨callee,args,argTypes⟩:=c
   cases callee with
   |builtin b=>simp only[iG]; exact EW
   |invoke r m=>
    have h1:ay fr r=ay zJ r:=h r (by simp[Op.operands,Call.operands])
    have h2:args.toList.map (ay fr)=args.toList.map (ay zJ):=List.map_congr_left fun x hx=>h x (by simp[Op.operands,Call.operands]; exact .inr (by simpa using hx))
    simp only[iG,h1,h2]
   |value f=>
    have h1:ay fr f=ay zJ f:=h f (by simp[Op.operands,Call.operands])
    have h2:args.toList.map (ay fr)=args.toList.map (ay zJ):=List.map_congr_left fun x hx=>h x (by simp[Op.operands,Call.operands]; exact .inr (by simpa using hx))
    simp only[iG,h1,h2]
  |_=>simp only[iG]; exact EW
theorem Dq[ab]{C:Ctx}(bI:C.Ok)(VD:∀ g,C.kind g=.imp→La C.P){k:Nat}(hF:lW C k)(hP:uU C k):se C.P (fun nm o fr=>iG C (k+1) nm o fr):=by
 intro rd x B E s a w e K Q hs nv h hK
 have bG:=fun y=>ic hs.inv.jj hs.fr y
 have fI:au x.o.op=false→x.at s.hp.length=s.hp.length:=fun h=>by simp only[Item.at,h]
 have Th:au x.o.op=true→s.hp[x.at s.hp.length]?=some none:=fun h=>by simp only[Item.at,h]; exact nv h
 clear nv
 have nv:=Th
 clear Th
 obtain⟨idx,nm,o⟩:=x
 generalize Item.at ⟨idx,nm,o⟩ s.hp.length=nm at h nv fI
 simp only at h nv fI hK ⊢
 have VC:(aK C.P nm (ay s.fr) o).run s.hp=some e→o.wpIn (WF rd) 0 C.P a w K Q:=by
  intro h
  cases pL:au o.op with
  |true=>exact xm hs (tD hs.inv (.inr (nv pL)) bG h) hK
  |false=>
   rw[K4 (nm':=s.hp.length) pL]at h
   exact xm hs (tD hs.inv (.inl rfl) bG h) hK
 obtain⟨dst,op,type,pos,after,guard⟩:=o
 cases op with
 |call c=>
  obtain⟨callee,args,argTypes⟩:=c
  cases callee with
  |builtin b=>simp only[iG]at h; exact VC h
  |invoke rv m=>
   simp only[iG]at h
   split at h
   ·simp[RM.ae]at h
   rename_i g y cB
   have jo:=jn bG args.toList
   split at h
   case h_2=>simp[RM.ae]at h
   rw[RM.run_bind]at h
   cases hq:(lA C k g (y::args.toList.map (ay s.fr))).run s.hp with
   |none=>rw[hq]at h; simp at h
   |some q=>
    obtain⟨res,wr⟩:=q
    rw[hq]at h
    simp only[Option.bind_some]at h
    cases res with
    |kg v=>simp[RM.ae]at h
    |val r=>
     simp only[RM.run_pure,Option.some.injEq]at h
     subst h
     obtain⟨vs',mv,aU⟩:=BP (w:=w) (o:=⟨dst,.call ⟨.invoke rv m,args,argTypes⟩,type,pos,after,guard⟩) rfl (bG rv) jo cB (BR bI hq)
     have ib:=hP g _ s.hp _ wr hq E w vs' hs.inv mv
     refine yi rfl aU ib (fun v w' hp=>?_) (fun ch w' hp=>?_) (fun w' hp=>?_)
     ·obtain⟨E',hx,iz,hf,hr⟩:=hp
      exact hK E' w' v hx hf iz hr
     ·obtain⟨E',hx,iz,hf,hr⟩:=hp
      exact hr.elim
     ·obtain⟨E',hx,iz,hf,hr⟩:=hp
      exact hr.elim
  |value f=>
   simp only[iG]at h
   split at h
   ·simp[RM.ae]at h
   rename_i g wg cB
   have jo:=jn bG args.toList
   split at h
   ·rename_i pL
    obtain⟨vs',mv,aU⟩:=fo (w:=w) (bG f) jo cB (AF bI h)
    refine qL (c:=⟨.value f,args,argTypes⟩) rfl rfl aU (AG bI hF hs.inv (.inr (nv pL)) mv h) (fun v w' hp=>?_) (fun ch w' hp=>?_) (fun w' hp=>?_)
    ·obtain⟨v',kj,E',hx,iz,hf,hr⟩:=hp
     cases kj
     exact hK E' w' v hx hf iz hr
    ·obtain⟨v',kj,_⟩:=hp
     cases kj
    ·obtain⟨v',kj,_⟩:=hp
     cases kj
   split at h
   case h_2=>
    rename_i hk
    have fin : (∃ fn : Func, C.P.funcs[g]? = some fn ∧ fn.body.isSome = true ∧ (fn.name == "runtime.NumGoroutine") = false) ∧
      ∀ (vs:List Value),an E true wg vs→Calls C.P g vs.toArray w (bp E w (ai s.hp e.wr) (.val e.val)):=by
     split at h
     ·rename_i hh he
      obtain⟨⟨fn,h1,h2⟩,h3⟩:=bI.pB g hh wg s.hp e he h
      exact⟨⟨fn,h1,h2,bI.name g fn h1 h2⟩,fun vs hv=>h3 E w vs hs.inv hv⟩
     ·refine⟨Oh bI h,fun vs hv=>?_⟩
      rw[fI (by assumption)]at h
      obtain⟨e0,ib⟩:=VD g hk g wg s.hp _ h E w vs hs.inv hv
      rw[e0]
      exact ib
    obtain⟨vs',mv,aU⟩:=fo (w:=w) (bG f) jo cB fin.1
    refine qL (c:=⟨.value f,args,argTypes⟩) rfl rfl aU (fin.2 vs' mv) (fun v w' hp=>?_) (fun ch w' hp=>?_) (fun w' hp=>?_)
    ·obtain⟨E',hx,iz,hf,hr⟩:=hp
     exact hK E' w' v hx hf iz hr
    ·obtain⟨E',hx,iz,hf,hr⟩:=hp
     exact hr.elim
    ·obtain⟨E',hx,iz,hf,hr⟩:=hp
     exact hr.elim
   rw[RM.run_bind]at h
   cases hq:(lA C k g wg).run s.hp with
   |none=>rw[hq]at h; simp at h
   |some q=>
    obtain⟨res,wr⟩:=q
    rw[hq]at h
    simp only[Option.bind_some]at h
    cases res with
    |kg v=>simp[RM.ae]at h
    |val r=>
     simp only[RM.run_pure,Option.some.injEq]at h
     subst h
     obtain⟨vs',mv,aU⟩:=fo (w:=w) (bG f) jo cB (BR bI hq)
     have ib:=hP g wg s.hp _ wr hq E w vs' hs.inv mv
     refine qL (c:=⟨.value f,args,argTypes⟩) rfl rfl aU ib (fun v w' hp=>?_) (fun ch w' hp=>?_) (fun w' hp=>?_)
     ·obtain⟨E',hx,iz,hf,hr⟩:=hp
      exact hK E' w' v hx hf iz hr
     ·obtain⟨E',hx,iz,hf,hr⟩:=hp
      exact hr.elim
     ·obtain⟨E',hx,iz,hf,hr⟩:=hp
      exact hr.elim
 |_=>simp only[iG]at h; exact VC h
theorem nT{I:Machine→Prop}{P:Program}{m m1 m2:Machine}(h:StepsIn I P m m2)(dA:m≠m2)(hs:step P m=.next m1):StepsIn I P m1 m2:=by
 cases h with
 |refl=>exact absurd rfl dA
 |head _ fp hr=>
  rw[hs]at fp
  cases fp
  exact hr
theorem na{id:Nat}:∀ {k k':List Go.Item},exitTo id k=some k'→k'.length<k.length
 |[],k',h=>by simp[exitTo]at h
 |x::r,k',h=>by
  cases x with
  |inBlock J0=>
   simp only[exitTo]at h
   split at h
   ·simp_all
   ·have:=na h; simp; omega
  |_=>simp only[exitTo]at h; have:=na h; simp; omega
theorem Ht{b b':Frame}{a a':Act}{k k':List Go.Item}{cs:List Frame}{w w':World}(h:k.length≠k'.length):lone (b.atR a k) cs w≠lone (b'.atR a' k') cs w':=by
 intro e
 have h1:=congrArg (fun m:Machine=>(m.gs[0]?).map fun g=>g.frame.todo.length) e
 have h2:some k.length=some k'.length:=h1
 simp only[Option.some.injEq]at h2
 exact h h2
def sj:Go.Item→Bool
 |.code (.loop _)=>true
 |_=>false
theorem Dr{b b':Frame}{a a':Act}{k k':List Go.Item}{cs:List Frame}{w w':World}{c:Code}{x:Go.Item}(hx:sj x=false):lone (b.atR a (.code (.loop c)::k)) cs w≠lone (b'.atR a' (x::k')) cs w':=by
 intro e
 have h1:=congrArg (fun m:Machine=>(m.gs[0]?).map fun g=>(g.frame.todo.head?).map sj) e
 have h2:some (some true)=some (some (sj x)):=h1
 rw[hx]at h2
 simp at h2
theorem zN{F:Fence}{n:Nat}{P:Program}{c:Code}{Q:Exit→Act→World→Prop}{a:Act}{w:World}(hg:∀ l a w,¬Q (.goto l) a w)(ho:∀ a w,¬Q .outgrown a w)
  (h:c.wpIn F n P (Exit.then (fun a w=>(Code.loop c).wpIn F n P Q a w) Q) a w):(Code.loop c).wpIn F n P Q a w:=by
 intro b k cs dJ hb hr
 have h0:(lone (b.atR a (.code (.loop c)::k)) cs w).fenced P F:=fenced_calm hb hr rfl
 obtain⟨e,a₁,w₁,hq,cN⟩:=h b (.inLoop c::k) cs dJ hb hr
 cases e with
 |normal=>
  obtain⟨e₂,a₂,w₂,xF,ki⟩:=hq b k cs dJ hb hr
  have h1:(lone (b.atR a₁ (.inLoop c::k)) cs w₁).fenced P F:=fenced_calm hb hr rfl
  refine⟨e₂,a₂,w₂,xF,ArrivesIn.of_steps (StepsIn.head h0 stepR_loop (StepsIn.trans cN (.one h1 stepR_inLoop))) ?_⟩
  have hs:step P (lone (b.atR a₁ (.code (.loop c)::k)) cs w₁)=.next (lone (b.atR a₁ (.code c::.inLoop c::k)) cs w₁):=stepR_loop
  cases e₂ with
  |normal=>exact nT ki (Ht (k:=.code (.loop c)::k) (k':=k) (by simp)) hs
  |exit id=>
   exact⟨fun k' hk=>nT (ki.1 k' hk) (Ht (k:=.code (.loop c)::k) (k':=k') (by have:=na hk; simp; omega)) hs,
    fun kL hk=>by
     obtain⟨k₁,e1,e2⟩:=ki.2 kL hk
     exact⟨k₁,e1,nT e2 (Dr rfl) hs⟩⟩
  |goto l=>exact absurd xF (hg _ _ _)
  |ret=>
   refine⟨fun hn=>?_,fun hn=>?_⟩
   ·obtain⟨todo,h1⟩:=ki.1 hn
    refine⟨todo,nT h1 ?_ hs⟩
    intro e
    have h1:=congrArg (fun m:Machine=>(m.gs[0]?).map fun g=>(match g.frame.mode with|.run=>true|_=>false)) e
    have h2:some true=some false:=h1
    simp at h2
   ·obtain⟨k₁,h1⟩:=ki.2 hn
    exact⟨k₁,nT h1 (Dr rfl) hs⟩
  |panic ch=>
   obtain⟨todo,h1⟩:=ki
   refine⟨todo,nT h1 ?_ hs⟩
   intro e
   have h1:=congrArg (fun m:Machine=>(m.gs[0]?).map fun g=>(match g.frame.mode with|.run=>true|_=>false)) e
   have h2:some true=some false:=h1
   simp at h2
  |outgrown=>exact absurd xF (ho _ _)
 |exit id=>exact⟨_,a₁,w₁,hq,.of_steps (.one h0 stepR_loop) (.pass (x:=.inLoop c) rfl (fun _ _=>.inl (by simp)) cN)⟩
 |goto l=>exact⟨_,a₁,w₁,hq,.of_steps (.one h0 stepR_loop) (.pass (x:=.inLoop c) rfl (fun _ _=>.inl (by simp)) cN)⟩
 |ret=>exact⟨_,a₁,w₁,hq,.of_steps (.one h0 stepR_loop) (.pass (x:=.inLoop c) rfl (fun _ _=>.inl (by simp)) cN)⟩
 |panic ch=>exact⟨_,a₁,w₁,hq,.of_steps (.one h0 stepR_loop) (.pass (x:=.inLoop c) rfl (fun _ _=>.inl (by simp)) cN)⟩
 |outgrown=>exact⟨_,a₁,w₁,hq,.of_steps (.one h0 stepR_loop) (.pass (x:=.inLoop c) rfl (fun _ _=>.inl (by simp)) cN)⟩
theorem Oi[ab]{B:o8}{E:Env}{w:World}{o:Out}:∀ l a w',¬br B E w o (.goto l) a w':=by
 rintro l a w' ⟨E',_,_,h⟩
 cases o<;>exact h
theorem Q4[ab]{B:o8}{E:Env}{w:World}{o:Out}:∀ a w',¬br B E w o .outgrown a w':=by
 rintro a w' ⟨E',_,_,h⟩
 cases o<;>exact h
theorem Lb[ab]{C:Ctx}(bI:C.Ok){k:Nat}(hF:lW C k){B:o8}(Ti:B.rg=true)(P0:B.lb=none){E:Env}{s:St}{a:Act}{w:World}(hs:cK B E s a w){f:Operand}{ps:Array Tmp}{as bd:Code}{o:Out}
  (h:bU C (k+1) (.rangeFunc f ps as bd) s=some o):(Code.rangeFunc f ps as bd).wpIn (WF none) 0 C.P (br B E w o) a w:=by
 simp only[bU]at h
 split at h
 case h_2=>simp at h
 rename_i g args cB
 split at h
 case h_2=>simp at h
 rename_i x vM bG
 refine wpIn_rangeFunc fun fn _=>?_
 have NA:Inv E s.hp (w.alloc (.deferred (some []))):=Az hs.inv (fun b hb=>by simp only[World.alloc,Array.getElem?_push,if_neg (by omega:¬b=w.heap.size)]) (by simp)
 have hF1:Fr E w E (w.alloc (.deferred (some []))):=⟨rfl,rfl,rfl,by simp,fun b hb _=>by simp only[World.alloc,Array.getElem?_push,if_neg (by omega:¬b=w.heap.size)],fun _ h=>.inl h,fun _ _ h=>.inl h,fun b r hr=>⟨r,by have:=(Array.getElem?_eq_some_iff.1 hr).1; simp only[World.alloc,Array.getElem?_push,if_neg (by omega:¬b=w.heap.size)]; exact hr⟩⟩
 obtain⟨jS,pv,P3⟩:=Bx NA (n:=s.hp.length) (.inl rfl) (k:=.loop s.fn ps as bd .ready) (ob:=.loop { state:=.ready,pending:=none,fn,tmps:=a.tmps,params:=ps,assign:=as,body:=bd,defers:=w.heap.size }) (us:=a.tmps.toList)
  ⟨rfl,rfl,rfl,⟨rfl,rfl⟩,rfl⟩ (uX (u:=c7 as++c7 bd) 0 _ _ hs.fr)
 have du:setObj s.hp s.hp.length (.gw (.loop s.fn ps as bd .ready) (nB (c7 as++c7 bd) 0 s.fr))=s.hp++[some (.gw (.loop s.fn ps as bd .ready) (uz as bd s.fr))]:=by simp[setObj,uz]
 rw[du]at pv
 have kZ:(w.alloc (.deferred (some []))).heap.size=w.heap.size+1:=by simp
 rw[kZ]at jS pv P3
 generalize Sx:E.push s.hp.length 0 ⟨some (w.heap.size+1),1,0⟩=E2 at jS pv P3
 have dj:E2.ρ s.hp.length 0=some ⟨some (w.heap.size+1),1,0⟩:=by rw[←Sx]; simp[Env.push]
 have hL:s.hp.length<E2.L:=by rw[←Sx]; simp only[Env.push]; omega
 have Tj:∀ b,E2.own b→E.own b∨b=w.heap.size+1:=by
  intro b hb
  rw[←Sx]at hb
  rcases hb with hb|hb
  ·exact .inl hb
  ·simp_all
 generalize hW:(w.alloc (.deferred (some []))).alloc (.loop { state:=.ready,pending:=none,fn,tmps:=a.tmps,params:=ps,assign:=as,body:=bd,defers:=w.heap.size })=w2 at pv P3
 have Dm:=(ic hs.inv.jj hs.fr f).mono jS
 have hy:an E2 true [.mp true s.hp.length] [Value.func (.yield (w.heap.size+1)) #[] #[]]:=by
  simp_all[an,ak]
 obtain⟨Oj,rz,gZ⟩:=uV bG
 obtain⟨vs',mv,aU⟩:=fo (w:=w2) Dm hy cB ⟨Oj,rz,gZ,bI.name g Oj rz gZ⟩
 rw[Sem.run_bind]at aU
 cases Ol:(Deferred.ofValue (a.eval f) #[Value.func (.yield (w.heap.size+1)) #[] #[]]).run C.P w2 with
 |halt x' w'=>
  have FU:(Deferred.ofValue (a.eval f) [Value.func (.yield (w.heap.size+1)) #[] #[]].toArray).run C.P w2=.halt x' w':=Ol
  rw[FU]at aU
  simp[Result.andThen]at aU
 |ok d Tk=>
  have FU:(Deferred.ofValue (a.eval f) [Value.func (.yield (w.heap.size+1)) #[] #[]].toArray).run C.P w2=.ok d Tk:=Ol
  rw[FU]at aU
  simp only[Result.andThen]at aU
  refine⟨w.heap.size+1,[{ target:=.collected w.heap.size,args:=#[] }],w2,d,Tk,g,vs'.toArray,w2,?_,?_,fun _ _=>trivial,aU,fun h=>by simp[WF,Fence.wide]at h,?_⟩
  ·rw[←hW]
   exact run_enterLoop_outer fn a.tmps ps as bd
  ·simpa[resolve,rangeCall,Act.eval] using Ol
  refine(xn (hF g args _ _ _ bG E2 w2 vs' pv mv) none _).mono fun e w3 c8=>?_
  cases e with
  |panicked ch=>obtain⟨_,_,_,_,hr⟩:=c8; exact hr.elim
  |outgrown=>obtain⟨_,_,_,_,hr⟩:=c8; exact hr.elim
  |returned v=>
   obtain⟨E3,NF,Tl,Tm,_⟩:=c8
   have Ds:=NF.ρ _ hL 0 _ dj
   have after:∀ (st:lz) (j:Option Code),iu vM s.hp.length=some st→(∀ s' p',st.is s' p'→s'≠.busy∧p'=j) →
     ∃ w4,(Instr.endLoop (w.heap.size+1)).run C.P w3=.ok j w4∧∃ E4,Ext E E4∧Fr E w E4 w4 ∧
       cK B E4 { s with hp:=rF vM s.hp.length } { a with defers:=[{ target:=.collected w.heap.size,args:=#[] }]++a.defers } w4:=by
    intro st j gC hj
    obtain⟨fn3,ps3,as3,bd3,fr3,wY⟩:=iR gC
    obtain⟨r3,u1,_,_,_,u5,_⟩:=oA Tl wY Ds rfl
    obtain⟨j1,j2⟩:=hj _ _ u5
    subst j2
    obtain⟨c1,c2⟩:=Dl Tl wY Ds rfl u1 (s':=.exhausted) (p':=r3.pending)
    have Q5:Fr E w E3 (w3.putObj (w.heap.size+1) (.loop { r3 with state:=.exhausted })):=((hF1.trans P3).trans Tm).trans c2
    refine⟨_,run_endLoop u1 j1,E3,jS.trans NF,Q5,⟨hs.fr.mono (jS.trans NF),c1,?_,Nat.le_trans hs.bs Q5.size⟩⟩
    obtain⟨rs,Q6,WU,_,WV⟩:=hs.df.mono Q5
    have Om:¬E2.own w.heap.size:=fun ho=>by
     rcases Tj _ ho with h|h
     ·have:=hs.inv.oi _ h; omega
     ·omega
    have yk:w.heap.size<w2.heap.size:=by rw[←hW]; simp; omega
    have hold:∀ r∈rs,r<w.heap.size:=by
     intro r hr
     obtain⟨rs0,e1,_,_,e3⟩:=hs.df
     rw[e1]at Q6
     have hm:∀ (l l':List Nat),l.map (fun r=>({ target:=.collected r,args:=#[] }:Deferred))=l'.map (fun r=>{ target:=.collected r,args:=#[] })→l=l':=by
      intro l
      induction l with
      |nil=>simp_all
      |cons y ys ih=>
       intro l' h
       cases l' with
       |nil=>simp at h
       |cons z zs=>
        grind
     have:=hm _ _ (List.append_cancel_right Q6)
     subst this
     exact(Array.getElem?_eq_some_iff.1 (e3 r hr).2.2).1
    refine⟨w.heap.size::rs,by simp only[List.map_cons,List.cons_append,←Q6]; rfl,List.nodup_cons.2 ⟨fun hm=>?_,WU⟩,⟨fun h=>(by rw[Ti]at h; cases h),fun _ h=>(by rw[P0]at h; cases h)⟩,fun r hr=>?_⟩
    ·have:=hold _ hm; omega
    ·rcases List.mem_cons.1 hr with rfl|hr
     ·refine⟨hs.bs,fun ho=>?_,?_⟩
      ·rcases Tm.own _ ho with h|h
       ·exact Om h
       ·omega
      ·rw[World.putObj_heap_other (by omega),Tm.same _ yk Om,←hW]
       show ((w.heap.push _).push _)[w.heap.size]?=_
       simp only[Array.getElem?_push,Array.size_push,if_true]
       rw[if_neg (by omega)]
     ·exact WV r hr
   unfold vL at h
   split at h
   ·rename_i gC
    simp only[Option.some.injEq]at h
    subst h
    obtain⟨w4,h1,E4,h2,h3,h4⟩:=after _ none gC (fun s' p' hp=>⟨by rw[hp.1]; simp,hp.2⟩)
    exact⟨none,w4,h1,E4,h2,h3,h4⟩
   ·rename_i gC
    simp only[Option.some.injEq]at h
    subst h
    obtain⟨w4,h1,E4,h2,h3,h4⟩:=after _ (some .ret) gC (fun s' p' hp=>⟨by rw[hp.1]; simp,hp.2⟩)
    exact⟨some .ret,w4,h1,wpIn_ret ⟨E4,h2,h3,h4⟩⟩
   ·rename_i id gC
    simp only[Option.some.injEq]at h
    subst h
    obtain⟨w4,h1,E4,h2,h3,h4⟩:=after _ (some (.exit id)) gC (fun s' p' hp=>⟨by rw[hp.1]; simp,hp.2⟩)
    exact⟨some (.exit id),w4,h1,wpIn_exit ⟨E4,h2,h3,rfl,h4⟩⟩
   ·simp at h
theorem BV{P:Program}{w:World}{l:Nat}{r:Loop}(h:w.heap[l]?=some (.loop r))(fn:FuncId)(tmps:Array Value)(ps:Array Tmp)(as bd:Code):(Instr.enterLoop fn tmps ps as bd (some l)).run P w =
  .ok (w.heap.size,[]) (w.alloc (.loop { state:=.ready,pending:=none,fn,tmps,params:=ps,assign:=as,body:=bd,defers:=r.defers })):=by
 unfold Instr.enterLoop
 simp only[Sem.run_bind,run_getLoop h,run_newObj_alloc,Result.andThen,Sem.run_pure]
theorem Lc[ab]{C:Ctx}(bI:C.Ok){k:Nat}(hF:lW C k){B:o8}{bl:Nat}(P0:B.lb=some bl){E:Env}{s:St}{a:Act}{w:World}(hs:cK B E s a w){f:Operand}{ps:Array Tmp}{as bd:Code}{o:Out}
  (h:bU C (k+1) (.rangeFunc f ps as bd) s=some o):(Code.rangeFunc f ps as bd).wpIn (WF (some bl)) 0 C.P (br B E w o) a w:=by
 simp only[bU]at h
 split at h
 case h_2=>simp at h
 rename_i g args cB
 split at h
 case h_2=>simp at h
 rename_i x vM bG
 obtain⟨r0,CQ⟩:∃ r0:Loop,w.heap[bl]?=some (.loop r0):=by
  obtain⟨_,_,_,⟨_,h2⟩,_⟩:=hs.df
  exact h2 bl P0
 refine wpIn_rangeFunc fun fn _=>?_
 obtain⟨jS,pv,P3⟩:=Bx hs.inv (n:=s.hp.length) (.inl rfl) (k:=.loop s.fn ps as bd .ready) (ob:=.loop { state:=.ready,pending:=none,fn,tmps:=a.tmps,params:=ps,assign:=as,body:=bd,defers:=r0.defers }) (us:=a.tmps.toList)
  ⟨rfl,rfl,rfl,⟨rfl,rfl⟩,rfl⟩ (uX (u:=c7 as++c7 bd) 0 _ _ hs.fr)
 have du:setObj s.hp s.hp.length (.gw (.loop s.fn ps as bd .ready) (nB (c7 as++c7 bd) 0 s.fr))=s.hp++[some (.gw (.loop s.fn ps as bd .ready) (uz as bd s.fr))]:=by simp[setObj,uz]
 rw[du]at pv
 generalize Sx:E.push s.hp.length 0 ⟨some w.heap.size,1,0⟩=E2 at jS pv P3
 have dj:E2.ρ s.hp.length 0=some ⟨some w.heap.size,1,0⟩:=by rw[←Sx]; simp[Env.push]
 have hL:s.hp.length<E2.L:=by rw[←Sx]; simp only[Env.push]; omega
 generalize hW:w.alloc (.loop { state:=.ready,pending:=none,fn,tmps:=a.tmps,params:=ps,assign:=as,body:=bd,defers:=r0.defers })=w2 at pv P3
 have Dm:=(ic hs.inv.jj hs.fr f).mono jS
 have hy:an E2 true [.mp true s.hp.length] [Value.func (.yield w.heap.size) #[] #[]]:=by
  simp_all[an,ak]
 obtain⟨Oj,rz,gZ⟩:=uV bG
 obtain⟨vs',mv,aU⟩:=fo (w:=w2) Dm hy cB ⟨Oj,rz,gZ,bI.name g Oj rz gZ⟩
 rw[Sem.run_bind]at aU
 cases Ol:(Deferred.ofValue (a.eval f) #[Value.func (.yield w.heap.size) #[] #[]]).run C.P w2 with
 |halt x' w'=>
  have FU:(Deferred.ofValue (a.eval f) [Value.func (.yield w.heap.size) #[] #[]].toArray).run C.P w2=.halt x' w':=Ol
  rw[FU]at aU
  simp[Result.andThen]at aU
 |ok d Tk=>
  have FU:(Deferred.ofValue (a.eval f) [Value.func (.yield w.heap.size) #[] #[]].toArray).run C.P w2=.ok d Tk:=Ol
  rw[FU]at aU
  simp only[Result.andThen]at aU
  refine⟨w.heap.size,[],w2,d,Tk,g,vs'.toArray,w2,?_,?_,fun _ _=>trivial,aU,fun h=>by simp[WF,Fence.wide]at h,?_⟩
  ·rw[←hW]
   exact BV CQ fn a.tmps ps as bd
  ·simpa[resolve,rangeCall,Act.eval] using Ol
  refine(xn (hF g args _ _ _ bG E2 w2 vs' pv mv) (some bl) _).mono fun e w3 c8=>?_
  cases e with
  |panicked ch=>obtain⟨_,_,_,_,hr⟩:=c8; exact hr.elim
  |outgrown=>obtain⟨_,_,_,_,hr⟩:=c8; exact hr.elim
  |returned v=>
   obtain⟨E3,NF,Tl,Tm,_⟩:=c8
   have Ds:=NF.ρ _ hL 0 _ dj
   have after:∀ (st:lz) (j:Option Code),iu vM s.hp.length=some st→(∀ s' p',st.is s' p'→s'≠.busy∧p'=j) →
     ∃ w4,(Instr.endLoop w.heap.size).run C.P w3=.ok j w4∧∃ E4,Ext E E4∧Fr E w E4 w4 ∧
       cK B E4 { s with hp:=rF vM s.hp.length } { a with defers:=[]++a.defers } w4:=by
    intro st j gC hj
    obtain⟨fn3,ps3,as3,bd3,fr3,wY⟩:=iR gC
    obtain⟨r3,u1,_,_,_,u5,_⟩:=oA Tl wY Ds rfl
    obtain⟨j1,j2⟩:=hj _ _ u5
    subst j2
    obtain⟨c1,c2⟩:=Dl Tl wY Ds rfl u1 (s':=.exhausted) (p':=r3.pending)
    have Q5:Fr E w E3 (w3.putObj w.heap.size (.loop { r3 with state:=.exhausted })):=(P3.trans Tm).trans c2
    exact⟨_,run_endLoop u1 j1,E3,jS.trans NF,Q5,⟨hs.fr.mono (jS.trans NF),c1,hs.df.mono Q5,Nat.le_trans hs.bs Q5.size⟩⟩
   unfold vL at h
   split at h
   ·rename_i gC
    simp only[Option.some.injEq]at h
    subst h
    obtain⟨w4,h1,E4,h2,h3,h4⟩:=after _ none gC (fun s' p' hp=>⟨by rw[hp.1]; simp,hp.2⟩)
    exact⟨none,w4,h1,E4,h2,h3,h4⟩
   ·rename_i gC
    simp only[Option.some.injEq]at h
    subst h
    obtain⟨w4,h1,E4,h2,h3,h4⟩:=after _ (some .ret) gC (fun s' p' hp=>⟨by rw[hp.1]; simp,hp.2⟩)
    exact⟨some .ret,w4,h1,wpIn_ret ⟨E4,h2,h3,h4⟩⟩
   ·rename_i id gC
    simp only[Option.some.injEq]at h
    subst h
    obtain⟨w4,h1,E4,h2,h3,h4⟩:=after _ (some (.exit id)) gC (fun s' p' hp=>⟨by rw[hp.1]; simp,hp.2⟩)
    exact⟨some (.exit id),w4,h1,wpIn_exit ⟨E4,h2,h3,rfl,h4⟩⟩
   ·simp at h
section
variable {ops:Array Oper}
theorem On[ab]{P:Program}{Dt:Oper→St→Option Out}(dM:lX P Dt)(tQ:∀ o s r,Dt o s=some r→(∃ s',r=.norm s')∨∃ v s',r=.kg v s')(mK:kY 0 ops.toList=true){md:Region.Mode}
  (wa:pE md ops=true) {m:Nat} (we:mZ (cd ops.toList) ops.size m=true) {Q:Exit→Act→World→Prop} {E0:Env} {w0:World} {B:o8} {r:Option Nat} {out:Out}
  (hQ:∀ s',out=.norm s'→∀ E a w,Ext E0 E→Fr E0 w0 E w→cK B E s' a w→Q .normal a w)
  (hP:∀ v s',out=.kg v s'→∀ E a w u,Ext E0 E→Fr E0 w0 E w→Inv E s'.hp w→ak E true v u→Marks B E w a.defers→Q (.panic [{ v:=u,recovered:=false }]) a w) :
  ∀ (t i:Nat) (aN:Array Bool) (E:Env) (s:St) (a:Act) (w:World),i+t=ops.size→m≤i→aN.size=ops.size→(∀ j,j<i→aN.getD j true=true)→(∀ j,i≤j→j<ops.size→aN.getD j true=false) →
    Ext E0 E→Fr E0 w0 E w→cK B E s a w→cH Dt ops (ops.toList.drop i) s=some out→wpAnyIn (WF r) 0 P md ops Q t aN a w:=by
 intro t
 induction t with
 |zero=>
  intro i aN E s a w hit hm dx Ld Oo hx eX hs aU
  rw[List.drop_of_length_le (by simp; omega)]at aU
  simp only[cH,Option.some.injEq]at aU
  refine⟨?_,hQ s aU.symm E a w hx eX hs⟩
  unfold Region.ready
  rw[List.filter_eq_nil_iff]
  intro j hj hc
  simp only[List.mem_range]at hj
  rw[Ld j (by omega)]at hc
  simp at hc
 |succ t ih=>
  intro i aN E s a w hit hm dx Ld Oo hx eX hs aU
  have Lf:i<ops.size:=by omega
  refine⟨fun yg=>absurd yg (De wa dx Lf (Oo i (Nat.le_refl _) Lf)),fun j hj=>?_⟩
  have v5:∀ k o,ops[k]?=some o→aN.getD k true=true→∀ p,rT (cd ops.toList) k p=true→aN.getD p false=true:=by
   intro k o hk hl p hp
   have WG:k<ops.size:=(Array.getElem?_eq_some_iff.1 hk).1
   have Ig:k<i:=by
    grind
   have VD:=Of mK hk hp
   have:=Ld p (by omega)
   rw[←tO (a:=aN) (by omega) true false]
   exact this
  obtain⟨QE,Nw,hj3⟩:=wb mK dx v5 hj
  have hji:j=i:=by
   rcases Nat.lt_trichotomy j i with h|h|h
   ·rw[Ld j h]at Nw; cases Nw
   ·exact h
   ·have:=hj3 i (wc we (by omega) QE h)
    have h2:=Oo i (Nat.le_refl _) Lf
    rw[tO (by omega) true false]at h2
    rw[this]at h2; cases h2
  subst hji
  obtain⟨o,ho⟩:∃ o,ops[j]?=some o:=⟨ops[j],by simp[Lf]⟩
  have Tn:ops.toList.drop j=o::ops.toList.drop (j+1):=by
   have hl:j<ops.toList.length:=by simpa using Lf
   rw[List.drop_eq_getElem_cons hl]
   congr 1
   have:=(Array.getElem?_eq_some_iff.1 ho).2
   simpa using this
  rw[Tn]at aU
  have du:∀ q d,q≠j→(aN.setIfInBounds j true).getD q d=aN.getD q d:=by
   intro q d hq
   simp[Array.getD_eq_getD_getElem?,Ne.symm hq]
  have Df:∀ d,(aN.setIfInBounds j true).getD j d=true:=by
   simp_all
  have next:∀ (E':Env) (s':St) (a':Act) (w':World),Ext E0 E'→Fr E0 w0 E' w'→cK B E' s' a' w'→cH Dt ops (ops.toList.drop (j+1)) s'=some out →
    wpAnyIn (WF r) 0 P md ops Q t (aN.setIfInBounds j true) a' w':=by
   intro E' s' a' w' gz K3 fp kL
   refine ih (j+1) _ E' s' a' w' (by omega) (by omega) (by simpa using dx) (fun q hq=>?_) (fun q hq hql=>?_) gz K3 fp kL
   ·by_cases e:q=j
    ·subst e; exact Df _
    ·rw[du _ _ e]; exact Ld q (by omega)
   ·rw[du _ _ (by omega)]; exact Oo q (by omega) hql
  unfold wpOpIn
  rw[ho]
  simp only
  simp only[cH]at aU
  split at aU
  ·simp at aU
  ·rename_i hw
   rw[lC hs.fr hw]
   simp only[Bool.false_eq_true,if_false]
   exact⟨fun _ _=>trivial,next E { s with fr:=bD s.fr o.dst .undef } _ w hx eX ⟨gE hs.fr (by simp[ak]),hs.inv,by rw[put_defers]; exact hs.df,hs.bs⟩ aU⟩
  ·rename_i hw
   rw[lC hs.fr hw]
   simp only[if_true]
   cases hq:Dt o s with
   |none=>rw[hq]at aU; simp at aU
   |some q=>
    rw[hq]at aU
    refine dM o s q hq r B E a w _ Q hs (fun s' e E' a' w' gz G7 fp=>?_) (fun v s' e E' w' u gz G7 iz hr=>?_)
    ·subst e
     exact next E' s' a' w' (hx.trans gz) (eX.trans G7) fp aU
    ·subst e
     simp only[Option.some.injEq]at aU
     exact hP v s' aU.symm E' a w' u (hx.trans gz) (eX.trans G7) iz hr (hs.df.mono G7)
end
def ym[ab](C:Ctx)(k:Nat):Prop:=
 ∀ id ops draw s o,bU C k (.region id ops draw) s=some o→∀ (rd:Option Nat) (B:o8) (E:Env) (a:Act) (w:World),cK B E s a w →
   (draw=false→wpOpsIn (WF rd) 0 C.P ops (br B E w o) (List.range ops.size) a w) ∧
   (draw=true→∀ t,wpOpsIn (WF rd) 0 C.P ops (br B E w o) (Region.schedule (C.P.follows .mixedOrders) ops t) a { w with drawn:=w.drawn+1 })
theorem wm[ab]{C:Ctx}{k:Nat}(hO:lX C.P (fun o s=>fP C k o s))(hE:se C.P (fun nm o fr=>iG C k nm o fr)):ym C (k+1):=by
 intro id ops draw s o h rd B E a w hs
 simp only[bU]at h
 cases draw with
 |false=>
  refine⟨fun _=>?_,fun h=>by cases h⟩
  rw[List.range_eq_range',←Array.length_toList,wpOpsIn_eq_wpListIn ops.toList 0 (by simp)]
  exact qK hO (fun o s r h=>nU h) rd B ops.toList _ o h E E a w w (Ext.refl E) (Fr.refl E w) (uW _ hs)
 |true=>
  simp only at h
  have To:C.head s.fn id ops≤ops.size:=Nat.sub_le _ _
  generalize C.head s.fn id ops=m at h To
  have m9:=uW (C.iE s.fn id) hs
  rw[←si (C.iE s.fn id) s]at h
  clear hs
  generalize gV (C.iE s.fn id) s=s at h m9
  have hs:=m9
  split at h
  case isFalse=>simp at h
  rename_i Oq
  simp only[ti,Bool.and_eq_true]at Oq
  obtain⟨⟨⟨⟨mK,ID⟩,ZA⟩,hgc⟩,Q7⟩:=Oq
  split at h
  case h_2=>simp at h
  rename_i s' fs aU
  split at h
  case isFalse=>simp at h
  rename_i VE
  rw[Bool.and_eq_true]at VE
  obtain⟨Tp,we⟩:=VE
  suffices key:∀ md:Region.Mode,pE md ops=true→∀ t,wpOpsIn (WF rd) 0 C.P ops (br B E w o) (Region.linearise md ops t) a { w with drawn:=w.drawn+1 } by
   refine⟨fun h=>by (cases h),fun _ t=>?_⟩
   unfold Region.schedule
   split
   ·exact key .any ID t
   ·grind
  intro md wa t
  refine wpAnyIn_sound _ _ _ _ _ ?_
  let s0:St:={ s with hp:=s.hp++List.replicate ((ops.toList.take m).filter fun o=>au o.op).length none }
  obtain⟨r1,r2,r3⟩:=FP hs.inv ((ops.toList.take m).filter fun o=>au o.op).length
  have NA:Inv (E.gH ((ops.toList.take m).filter fun o=>au o.op).length) s0.hp { w with drawn:=w.drawn+1 }:=r2.heap rfl
  have rz:Fr E w (E.gH ((ops.toList.take m).filter fun o=>au o.op).length) { w with drawn:=w.drawn+1 }:=r3.trans (Fr.drew _ w)
  have Tq:=pV _ _ _ _ aU
  have uY:∀ (k:Nat) (x:Item),(bH 0 s.hp.length (ops.toList.take m))[k]?=some x→x.idx=k∧ops[k]?=some x.o∧k<m:=by
   intro k x hk
   obtain⟨a1,a2,_,_⟩:=lf _ _ _ _ _ hk
   have ZB:k<m:=by
    grind
   rw[List.getElem?_take_of_lt ZB]at a2
   exact⟨by omega,by simpa using a2,ZB⟩
  have Ts:ops.size=m+(ops.size-m):=by omega
  refine Eq.mpr (congrArg (fun fl=>wpAnyIn (WF rd) 0 C.P md ops (br B E w o) fl _ _ _) Ts) ?_
  refine K1 (P:=C.P) IK hE mK wa To we (s':=s') (E0:=E) (w0:=w) (B:=B) (fun E' a' w' aN b1 b2 b3 b4 b5 b6=>
   On hO (fun o s r h=>nU h) mK wa we (fun uv e E2 a2 w2 c1 c2 c3=>by subst e; exact⟨E2,c1,c2,c3⟩)
    (fun v uv e E2 a2 w2 u c1 c2 c3 c4 c5=>by subst e; exact⟨E2,c1,c2,u,rfl,c4,c3,c5⟩) (ops.size-m) m aN E' s' a' w' (by omega) (Nat.le_refl _) b4 b5 b6 b1 b2 b3 h) m (bH 0 s.hp.length (ops.toList.take m))
   _ fs _ s0 a _ (by rw[lV]; simp; omega) ?_
   r1 rz ⟨hs.fr.mono r1,NA,hs.df.mono rz,hs.bs⟩ ?_ aU ?_
  ·refine⟨by simp,fun x hx=>?_,?_,fun i hi _ Zv=>?_,fun i _ hi=>?_,fun i o ho hl=>?_,?_⟩
   ·obtain⟨k,hk⟩:=List.mem_iff_getElem?.1 hx
    obtain⟨a1,a2,a3⟩:=uY k x hk
    have bL:k<ops.size:=(Array.getElem?_eq_some_iff.1 a2).1
    rw[a1]
    refine⟨a2,?_,a3⟩
    simp[Array.getD,bL]
   ·rw[List.pairwise_iff_getElem]
    intro i j hi hj Nz
    have a1:=(uY i _ (List.getElem?_eq_getElem hi)).1
    have a2:=(uY j _ (List.getElem?_eq_getElem hj)).1
    omega
   ·have wQ:i<(bH 0 s.hp.length (ops.toList.take m)).length:=by rw[lV]; simp; omega
    exact⟨_,List.getElem_mem wQ,(uY i _ (List.getElem?_eq_getElem wQ)).1⟩
   ·simp[Array.getD,hi]
   ·have bL:i<ops.size:=(Array.getElem?_eq_some_iff.1 ho).1
    simp[Array.getD,bL]at hl
   ·rw[List.pairwise_iff_getElem]
    intro i j hi hj Nz ha
    exact yf _ _ _ i j _ _ Nz (List.getElem?_eq_getElem hi) (List.getElem?_eq_getElem hj) ha
  ·intro x hx ha
   obtain⟨k,hk⟩:=List.mem_iff_getElem?.1 hx
   obtain⟨_,_,a3,a4⟩:=lf _ _ _ _ _ hk
   have a5:=a4 ha
   simp only[s0]
   rw[List.getElem?_append_right a3,List.getElem?_replicate,if_pos (by omega)]
  ·intro j k x y f g Oe hx hy hf hg
   obtain⟨a1,a2,_⟩:=uY j x hx
   obtain⟨b1,b2,_⟩:=uY k y hy
   have ZC:=tN fs Tp j k f g Oe hf hg
   have JM:f.idx=j:=by
    have:(fs.map (·.idx))[j]?=some f.idx:=by simp[hf]
    rw[Tq]at this
    simp[hx,a1]at this
    exact this.symm
   have hgi:g.idx=k:=by
    have:(fs.map (·.idx))[k]?=some g.idx:=by simp[hg]
    rw[Tq]at this
    simp[hy,b1]at this
    exact this.symm
   rcases tM ops.toList 0 Q7 j k x.o y.o Oe (by simpa using a2) (by simpa using b2) with hp|hp
   ·left; rw[a1,b1]; simpa using hp
   ·simp only[rU,Bool.or_eq_true,Bool.and_eq_true]at ZC
    rcases ZC with hq|⟨h1,h2⟩
    ·left; rw[JM,hgi]at hq; rw[a1,b1]; exact hq
    ·right
     refine⟨hp,fun n hn=>?_,fun n hn=>AD h2 n hn⟩
     have:=AD h1 n hn
     simpa using this
theorem Du[ab]{C:Ctx}(bI:C.Ok){k:Nat}(hF:lW C k)(FV:∀ j,j≤k→fJ C j)(hO:lX C.P (fun o s=>fP C k o s))(hE:se C.P (fun nm o fr=>iG C k nm o fr)):fJ C (k+1):=by
 have hC:=FV k (Nat.le_refl k)
 intro c s o h rd B NG E a w hs
 have self:br B E w (.norm s) .normal a w:=⟨E,Ext.refl E,Fr.refl E w,hs⟩
 cases c with
 |skip=>simp only[bU,Option.some.injEq]at h; subst h; exact wpIn_skip self
 |label l=>simp only[bU,Option.some.injEq]at h; subst h; exact wpIn_label self
 |ret=>simp only[bU,Option.some.injEq]at h; subst h; exact wpIn_ret ⟨E,Ext.refl E,Fr.refl E w,hs⟩
 |exit id=>simp only[bU,Option.some.injEq]at h; subst h; exact wpIn_exit ⟨E,Ext.refl E,Fr.refl E w,rfl,hs⟩
 |seq x y=>
  simp only[bU]at h
  have r1:(rd=B.lb∧B.rg=true)∨cA x=true:=NG.imp id fun h=>by simp only[cA,Bool.and_eq_true]at h; exact h.1
  have r2:(rd=B.lb∧B.rg=true)∨cA y=true:=NG.imp id fun h=>by simp only[cA,Bool.and_eq_true]at h; exact h.2
  refine wpIn_seq ?_
  split at h
  ·rename_i s' hx
   refine wpIn_mono (hC x s _ hx rd B r1 E a w hs) fun e a' w' hp=>?_
   obtain⟨E',h1,h2,h3⟩:=hp
   cases e with
   |normal=>exact wpIn_mono (hC y s' o h rd B r2 E' a' w' h3) fun e VF xE hp=>br.from h1 h2 hp
   |_=>exact h3.elim
  ·rename_i dA
   refine wpIn_mono (hC x s o h rd B r1 E a w hs) fun e a' w' hp=>?_
   obtain⟨E',h1,h2,h3⟩:=hp
   cases e with
   |normal=>
    cases o with
    |norm s'=>exact absurd h (dA s')
    |_=>exact h3.elim
   |_=>exact⟨E',h1,h2,h3⟩
 |cond op x y=>
  simp only[bU]at h
  have r1:(rd=B.lb∧B.rg=true)∨cA x=true:=NG.imp id fun h=>by simp only[cA,Bool.and_eq_true]at h; exact h.1
  have r2:(rd=B.lb∧B.rg=true)∨cA y=true:=NG.imp id fun h=>by simp only[cA,Bool.and_eq_true]at h; exact h.2
  split at h
  case h_2=>simp at h
  rename_i t ht
  have hv:=ic hs.inv.jj hs.fr op
  rw[ht]at hv
  simp only[ak]at hv
  cases t with
  |true=>exact wpIn_cond_true hv (hC x s o h rd B r1 E a w hs)
  |false=>exact wpIn_cond_false hv (hC y s o h rd B r2 E a w hs)
 |block id b=>
  simp only[bU]at h
  have r1:(rd=B.lb∧B.rg=true)∨cA b=true:=NG.imp (fun h=>h) fun h=>by simpa only[cA] using h
  refine wpIn_block ?_
  split at h
  ·rename_i J0 s' hx
   refine wpIn_mono (hC b s _ hx rd B r1 E a w hs) fun e a' w' hp=>?_
   obtain⟨E',h1,h2,h3⟩:=hp
   cases e with
   |exit j=>
    obtain⟨rfl,h3⟩:=h3
    simp only[Exit.inBlock]
    split at h
    ·rename_i WW
     rw[if_pos WW]
     simp only[Option.some.injEq]at h; subst h
     exact⟨E',h1,h2,h3⟩
    ·rename_i WW
     rw[if_neg WW]
     simp only[Option.some.injEq]at h; subst h
     exact⟨E',h1,h2,rfl,h3⟩
   |_=>exact h3.elim
  ·rename_i dA
   refine wpIn_mono (hC b s o h rd B r1 E a w hs) fun e a' w' hp=>?_
   obtain⟨E',h1,h2,h3⟩:=hp
   cases e with
   |exit j=>
    cases o with
    |exit i s'=>exact absurd h (dA i s')
    |_=>exact h3.elim
   |_=>exact⟨E',h1,h2,h3⟩
 |loop b=>
  simp only[bU]at h
  have r1:(rd=B.lb∧B.rg=true)∨cA b=true:=NG.imp (fun h=>h) fun h=>by simpa only[cA] using h
  refine zN Oi Q4 ?_
  split at h
  ·rename_i s' hx
   refine wpIn_mono (hC b s _ hx rd B r1 E a w hs) fun e a' w' hp=>?_
   obtain⟨E',h1,h2,h3⟩:=hp
   cases e with
   |normal=>
    have PT:cK B E' s' a' w':=h3
    have:∃ E2,Ext E E2∧Fr E w E2 w'∧cK B E2 (gW s.hp.length s') a' w':=by
     unfold gW
     split
     ·rename_i bg
      have hle:s.hp.length≤s'.hp.length:=by rw[hs.inv.len,PT.inv.len]; exact h1.L
      obtain⟨a1,a2,a3⟩:=tP PT.inv hle bg
      exact⟨E'.lower s.hp.length,⟨h1.m,fun n hn aq l h=>h1.ρ n hn aq l h,by simp[Env.lower,hs.inv.len]⟩,h2.trans a2,sg a3 PT.fr,a1,PT.df.mono a2,PT.bs⟩
     ·exact⟨E',h1,h2,PT⟩
    obtain⟨E2,b1,b2,b3⟩:=this
    exact wpIn_mono (hC (.loop b) _ o h rd B NG E2 a' w' b3) fun e VF xE hp=>br.from b1 b2 hp
   |_=>exact h3.elim
  ·rename_i dA
   refine wpIn_mono (hC b s o h rd B r1 E a w hs) fun e a' w' hp=>?_
   obtain⟨E',h1,h2,h3⟩:=hp
   cases e with
   |normal=>
    cases o with
    |norm s'=>exact absurd h (dA s')
    |_=>exact h3.elim
   |_=>exact⟨E',h1,h2,h3⟩
 |region id ops draw=>
  have hr:=wm hO hE id ops draw s o h rd B E a w hs
  cases draw with
  |false=>exact wpIn_region (hr.1 rfl)
  |true=>exact wpIn_region_draw fun t=>hr.2 rfl t
 |rangeFunc f ps as bd=>
  rcases NG with ⟨rfl,Tt⟩|NG
  ·cases P0:B.lb with
   |none=>exact Lb bI hF Tt P0 hs h
   |some b=>exact Lc bI hF P0 hs h
  ·simp[cA]at NG
 |scope b=>
  simp only[bU]at h
  split at h
  ·rename_i c hc
   exact Lg FV hs hc h
  ·simp at h
 |goto _=>simp[bU]at h
 |refuse _=>simp[bU]at h
theorem FX{F:Fence}{n:Nat}{P:Program}{o:Oper}{a:Act}{w:World}{K N:Act→World→Prop}{Q:Exit→Act→World→Prop}(h:o.wpIn F n P a w K (Exit.then N Q)):o.wpIn F n P a w K Q:=by
 unfold Oper.wpIn at *
 refine⟨h.1,?_⟩
 have h2:=h.2
 generalize (o.semAt F.round a.eval).run P w=r at *
 cases r with
 |ok x w'=>cases x<;>exact h2
 |halt x w'=>cases x<;>exact h2
theorem sk{F:Fence}{n:Nat}{P:Program}{ops:Array Oper}{Q:Exit→Act→World→Prop}{l2:List Oper}:∀ (l1:List Oper) (a:Act) (w:World),wpListIn F n P ops (Exit.then (wpListIn F n P ops Q l2) Q) l1 a w→wpListIn F n P ops Q (l1++l2) a w
 |[],a,w,h=>h
 |o::l1,a,w,h=>by
  simp only[List.cons_append]
  unfold wpListIn at h ⊢
  split at h
  ·rename_i hw
   rw[if_pos hw]
   exact FX (Oper.wpIn_mono (fun a w h=>sk l1 a w h) h)
  ·rename_i hw
   rw[if_neg hw]
   exact⟨h.1,sk l1 _ _ h.2⟩
theorem pX{F:Fence}{n:Nat}{P:Program}{ops:Array Oper}{Q Q':Exit→Act→World→Prop}(hq:∀ e a w,Q e a w→Q' e a w):∀ (l:List Oper) (a:Act) (w:World),wpListIn F n P ops Q l a w→wpListIn F n P ops Q' l a w
 |[],a,w,h=>hq _ _ _ h
 |o::l,a,w,h=>by
  unfold wpListIn at h ⊢
  split at h
  ·rename_i hw
   rw[if_pos hw]
   have h1:=Oper.wpIn_mono (fun a w h=>pX hq l a w h) h
   unfold Oper.wpIn at *
   refine⟨h1.1,?_⟩
   have h2:=h1.2
   generalize (o.semAt F.round a.eval).run P w=r at *
   cases r with
   |ok x w'=>
    cases x<;>simp only[Oper.uponIn]at h2 ⊢<;>first
     |exact h2
     |exact⟨h2.1,CallsIn.mono h2.2 (fun e xE he=>by cases e<;>first|exact he|exact hq _ _ _ he|exact(let ⟨a0,w0,h0⟩:=he; ⟨a0,w0,hq _ _ _ h0⟩))⟩
     |exact⟨h2.1,RoundIn.mono h2.2 (fun e xE he=>by cases e<;>first|exact he|exact hq _ _ _ he|exact(let ⟨a0,w0,h0⟩:=he; ⟨a0,w0,hq _ _ _ h0⟩))⟩
   |halt x w'=>cases x<;>simp only[Oper.uponIn]at h2 ⊢<;>first|exact h2|exact hq _ _ _ h2
  ·rename_i hw
   rw[if_neg hw]
   exact⟨h.1,pX hq l _ _ h.2⟩
theorem FY{c:Code}{ops:Array Oper}{v:Operand}(h:tj c=some (ops,v)):∃ (id:Nat) (o:Oper) (mC:Array TypeId),c=.region id ops false∧ops.toList=ops.toList.dropLast++[o]∧o.op=.defer { callee:=.value v,args:=#[],argTypes:=mC }∧o.guard=none∧o.dst=none:=by
 unfold tj at h
 split at h
 ·rename_i id WX
  split at h
  ·rename_i o ho
   split at h
   ·rename_i cc EW hg Q8
    split at h
    ·rename_i x ND jS
     simp only[Option.some.injEq,Prod.mk.injEq]at h
     obtain⟨rfl,rfl⟩:=h
     obtain⟨c1,c2,c3⟩:=cc
     simp only at ND jS
     subst ND
     obtain rfl:=Array.toList_eq_nil_iff.1 jS
     refine⟨id,o,c3,rfl,?_,EW,hg,Q8⟩
     have dA:WX.toList≠[]:=by intro e; rw[e]at ho; simp at ho
     rw[List.getLast?_eq_some_getLast dA,Option.some.injEq]at ho
     rw[←ho]
     exact(List.dropLast_concat_getLast dA).symm
    ·simp at h
   ·simp at h
  ·simp at h
 ·simp at h
def Tu[ab](C:Ctx)(E:Env)(v:AV)(d:Deferred):Prop:=∃ f:Value,ak E true v f∧∀ w,(Deferred.ofValue f #[]).run C.P w=.ok d w
def tR[ab](C:Ctx)(B:o8)(E:Env)(w:World)(o:Out):Option AV→Exit→Act→World→Prop
 |none,e,a',w'=>br B E w o e a' w'
 |some v,e,a',w'=>∃ E1 E2 w1 d,Ext E E1∧Fr E w E1 w1∧Tu C E1 v d∧Ext E1 E2∧Fr E1 w1 E2 w'∧K5 { B with tl:=d::B.tl } E2 o e a' w'
theorem pY{E:Env}{fv:AV}{f:Value}{g:FuncId}{as:List AV}(hf:ak E true fv f)(h:bE fv []=some (g,as)):∃ first cap,f=.func (.func g) first cap:=by
 cases fv with
 |lit u=>
  simp only[ak]at hf
  subst hf
  unfold bE at h
  split at h
  ·rename_i hq
   simp only[AV.lit.injEq]at hq
   simp only[Option.some.injEq,Prod.mk.injEq]at h
   obtain⟨rfl,_⟩:=h
   exact⟨_,_,hq⟩
  ·rename_i hq; cases hq
  ·simp at h
 |jd fn first cap=>
  unfold bE at h
  split at h
  ·rename_i hq; cases hq
  ·rename_i hq
   simp only[AV.jd.injEq]at hq
   obtain⟨rfl,rfl,rfl⟩:=hq
   simp only[Option.some.injEq,Prod.mk.injEq]at h
   obtain⟨rfl,_⟩:=h
   simp only[ak]at hf
   obtain⟨vs,ws,rfl,_⟩:=hf
   exact⟨_,_,rfl⟩
  ·simp at h
 |_=>simp[bE]at h
theorem tR.from[ab]{C:Ctx}{B:o8}{E E1:Env}{w w1:World}{o:Out}{d:Option AV}{e:Exit}{a:Act}{w':World}(hx:Ext E E1)(hf:Fr E w E1 w1)(h:tR C B E1 w1 o d e a w'):tR C B E w o d e a w':=by
 cases d with
 |none=>exact br.from hx hf h
 |some v=>
  obtain⟨E2,E3,w2,d,h1,h2,h3⟩:=h
  exact⟨E2,E3,w2,d,hx.trans h1,hf.trans h2,h3⟩
theorem FZ[ab]{C:Ctx}{k:Nat}(hC:fJ C k)(hO:lX C.P (fun o s=>fP C k o s)):∀ (c:Code) (s:St) (o:Out) (d:Option AV),cA c=true→z8 (fun c s=>bU C k c s) (fun o s=>fP C k o s) c s=some (o,d) →
  ∀ (B:o8) (E:Env) (a:Act) (w:World),B.rg=false→cK B E s a w→c.wpIn (WF none) 0 C.P (tR C B E w o d) a w:=by
 have leaf:∀ c s o d,cA c=true→((bU C k c s).map fun o=>(o,(none:Option AV)))=some (o,d)→∀ (B:o8) (E:Env) (a:Act) (w:World),B.rg=false→cK B E s a w→c.wpIn (WF none) 0 C.P (tR C B E w o d) a w:=by
  intro c s o d hn h B E a w Ti hs
  cases hq:bU C k c s with
  |none=>rw[hq]at h; simp at h
  |some o1=>
   rw[hq]at h
   simp only[Option.map_some,Option.some.injEq,Prod.mk.injEq]at h
   obtain⟨rfl,rfl⟩:=h
   exact hC c s o1 hq none B (.inr hn) E a w hs
 intro c
 induction c with
 |seq x y _ Ko=>
  intro s o d hn h B E a w Ti hs
  simp only[cA,Bool.and_eq_true]at hn
  simp only[z8]at h
  refine wpIn_seq ?_
  cases hd:tj x with
  |some q=>
   obtain⟨ops,v⟩:=q
   rw[hd]at h
   simp only at h
   obtain⟨id,o0,mC,rfl,WY,EW,hg,Q8⟩:=FY hd
   split at h
   case h_2=>simp at h
   rename_i s1 hr
   split at h
   case h_2=>simp at h
   rename_i q cB
   obtain⟨g,as⟩:=q
   cases hq:bU C k y s1 with
   |none=>rw[hq]at h; simp at h
   |some o1=>
    rw[hq]at h
    simp only[Option.map_some,Option.some.injEq,Prod.mk.injEq]at h
    obtain⟨rfl,rfl⟩:=h
    refine wpIn_region_list ?_
    rw[WY]
    refine sk _ _ _ (pX ?_ _ _ _ (qK hO (fun o s r h=>nU h) none B _ _ _ hr E E a w w (Ext.refl E) (Fr.refl E w) hs))
    intro e a1 w1 hp
    obtain⟨E1,ND,rz,IJ⟩:=hp
    cases e with
    |normal=>
     have m9:cK B E1 s1 a1 w1:=IJ
     have hv:=ic m9.inv.jj m9.fr v
     obtain⟨first,cap,Dm⟩:=pY hv cB
     have aU:∀ w,(Deferred.ofValue (a1.eval v) #[]).run C.P w=.ok { target:=.fn (.func g) cap,args:=first++#[] } w:=by
      intro w; rw[Dm]; rfl
     show wpListIn (WF none) 0 C.P ops _ [o0] a1 w1
     unfold wpListIn
     rw[if_pos (by unfold Region.wanted; rw[hg])]
     refine⟨fun _ _=>trivial,?_⟩
     have Q3:(o0.semAt (WF none).round a1.eval).run C.P w1=.ok (.defer { target:=.fn (.func g) cap,args:=first++#[] }) w1:=by
      show (execOp a1.eval o0).run C.P w1=_
      unfold execOp
      rw[EW]
      simp only[resolve,Sem.run_bind]
      rw[show (Array.map a1.eval #[]:Array Value)=#[] by simp,aU]
      rfl
     rw[Q3,Oper.uponIn_defer,Q8]
     have BB:cK { B with tl:={ target:=.fn (.func g) cap,args:=first++#[] }::B.tl } E1 s1 { a1 with defers:={ target:=.fn (.func g) cap,args:=first++#[] }::a1.defers } w1:=by
      refine⟨m9.fr,m9.inv,?_,m9.bs⟩
      obtain⟨rs,e1,e2,e3,e4⟩:=m9.df
      have:=e3.1 Ti
      subst this
      exact⟨[],by simp only[List.map_nil,List.nil_append]at e1 ⊢; rw[e1],List.nodup_nil,⟨fun _=>rfl,e3.2⟩,by simp⟩
     refine wpIn_mono (hC y s1 o1 hq none _ (.inr hn.2) E1 _ w1 BB) fun e a2 w2 hp=>?_
     obtain⟨E2,jS,gZ,uT⟩:=hp
     exact⟨E1,E2,w1,_,ND,rz,⟨_,hv,aU⟩,jS,gZ,uT⟩
    |_=>exact IJ.elim
  |none=>
   rw[hd]at h
   simp only at h
   split at h
   ·rename_i s' hx
    refine wpIn_mono (hC x s _ hx none B (.inr hn.1) E a w hs) fun e a' w' hp=>?_
    obtain⟨E',h1,h2,h3⟩:=hp
    cases e with
    |normal=>exact wpIn_mono (Ko s' o d hn.2 h B E' a' w' Ti h3) fun e VF xE hp=>tR.from h1 h2 hp
    |_=>exact h3.elim
   ·rename_i o1 dA hx
    simp only[Option.some.injEq,Prod.mk.injEq]at h
    obtain⟨rfl,rfl⟩:=h
    refine wpIn_mono (hC x s o1 hx none B (.inr hn.1) E a w hs) fun e a' w' hp=>?_
    obtain⟨E',h1,h2,h3⟩:=hp
    cases e with
    |normal=>
     cases o1 with
     |norm s'=>exact(dA s' rfl).elim
     |_=>exact h3.elim
    |_=>exact⟨E',h1,h2,h3⟩
   ·simp at h
 |_=>intro s o d hn h; simp only[z8]at h; exact leaf _ s o d hn h
theorem lY{F:Fence}{n:Nat}{P:Program}{ops:Array Oper}{Q Q':Exit→Act→World→Prop}(hq:∀ e a w,Q e a w→Q' e a w):∀ (l:List Nat) (a:Act) (w:World),wpOpsIn F n P ops Q l a w→wpOpsIn F n P ops Q' l a w
 |[],a,w,h=>hq _ _ _ h
 |i::l,a,w,h=>by
  unfold wpOpsIn at h ⊢
  split at h
  ·exact lY hq l a w h
  rename_i o ho
  split at h
  ·rename_i hw
   simp only[if_pos hw]
   have h1:=Oper.wpIn_mono (fun a w h=>lY hq l a w h) h
   unfold Oper.wpIn at *
   refine⟨h1.1,?_⟩
   have h2:=h1.2
   generalize (o.semAt F.round a.eval).run P w=r at *
   cases r with
   |ok x w'=>
    cases x<;>simp only[Oper.uponIn]at h2 ⊢<;>first
     |exact h2
     |exact⟨h2.1,CallsIn.mono h2.2 (fun e xE he=>by cases e<;>first|exact he|exact hq _ _ _ he|exact(let ⟨a0,w0,h0⟩:=he; ⟨a0,w0,hq _ _ _ h0⟩))⟩
     |exact⟨h2.1,RoundIn.mono h2.2 (fun e xE he=>by cases e<;>first|exact he|exact hq _ _ _ he|exact(let ⟨a0,w0,h0⟩:=he; ⟨a0,w0,hq _ _ _ h0⟩))⟩
   |halt x w'=>cases x<;>simp only[Oper.uponIn]at h2 ⊢<;>first|exact h2|exact hq _ _ _ h2
  ·rename_i hw
   simp only[if_neg hw]
   exact⟨h.1,lY hq l _ _ h.2⟩
theorem Dw(ops:Array Oper)(i:Nat)(f:Array Edge→Bool):(((ops.map dK)[i]?).map fun o=>f o.after)=(ops[i]?).map fun o=>f o.after:=by
 rw[Array.getElem?_map]
 cases ops[i]? with
 |none=>rfl
 |some o=>simp only[Option.map_some,(lK o).2.2]
theorem o9(md:Region.Mode)(ops:Array Oper)(t:Nat):Region.linearise md (ops.map dK) t=Region.linearise md ops t:=by
 unfold Region.linearise
 rw[Array.size_map]
 generalize Array.replicate ops.size false=aN
 generalize ([]:List Nat)=acc
 generalize ops.size=fuel
 induction fuel generalizing t aN acc with
 |zero=>rfl
 |succ fuel ih=>
  have hr:((List.range (ops.map dK).size).filter fun i=>!aN.getD i true&&(((ops.map dK)[i]?).map (·.after.all fun e=>!Region.binds md e||aN.getD e.on false)).getD false) =
    ((List.range ops.size).filter fun i=>!aN.getD i true&&((ops[i]?).map (·.after.all fun e=>!Region.binds md e||aN.getD e.on false)).getD false):=by
   rw[Array.size_map]
   congr 1
   funext i
   rw[Dw ops i (fun a=>a.all fun e=>!Region.binds md e||aN.getD e.on false)]
  simp only[Region.linearise.go]
  rw[hr]
  split
  ·exact ih _ _ _
  ·rfl
theorem yn(m:Bool)(ops:Array Oper)(t:Nat):Region.schedule m (ops.map dK) t=Region.schedule m ops t:=by
 unfold Region.schedule
 have hd:Region.departs (ops.map dK)=Region.departs ops:=by
  unfold Region.departs
  rw[Array.any_map]
  congr 1
  funext o
  simp only[Function.comp,(lK o).2.2]
 rw[hd,o9,o9]
theorem IL[ab]{C:Ctx}{k:Nat}(hC:∀ j,j≤k→fJ C j)(hR:∀ j,j≤k→ym C j){c:Code}(hn:cA c=true){s:St}{o:Out}(h:bU C k (oh c) s=some o){B:o8}{E:Env}{a:Act}{w:World}(hs:cK B E s a w):
  Ic (WF none) 0 C.P c (br B E w o) a w:=by
 by_cases hc:∃ id ops d y,c=.seq (.region id ops d) y
 ·obtain⟨id,ops,d,y,rfl⟩:=hc
  have NC:cA y=true:=by simp only[cA,Bool.and_eq_true]at hn; exact hn.2
  cases k with
  |zero=>simp[bU]at h
  |succ k=>
   have IE:(ops.toList.map dK).toArray=ops.map dK:=by rw[←Array.toList_map]
   simp only[oh,bU,IE]at h
   refine NP ?_
   have go:∀ o1,bU C k (.region id (ops.map dK) d) s=some o1→(∀ e a' w',br B E w o1 e a' w'→(match e with|.normal=>Ic (WF none) 0 C.P y (br B E w o) a' w'|e=>br B E w o e a' w')) →
     Ic (WF none) 0 C.P (.region id ops d) (fun e a w2=>match e with|.normal=>Ic (WF none) 0 C.P y (br B E w o) a w2|e=>br B E w o e a w2) a w:=by
    intro o1 h1 hq
    have hr:=hR k (Nat.le_succ k) _ _ _ _ _ h1 none B E a w hs
    cases d with
    |false=>
     refine Fg ?_
     have:=lY hq _ _ _ (hr.1 rfl)
     rw[Array.size_map]at this
     exact this
    |true=>
     refine J3 fun t=>?_
     have:=lY hq _ _ _ (hr.2 rfl t)
     rw[yn]at this
     exact this
   split at h
   ·rename_i s' hx
    refine go _ hx fun e a' w' hp=>?_
    obtain⟨E',h1,h2,h3⟩:=hp
    cases e with
    |normal=>exact J2 (wpIn_mono (hC k (Nat.le_succ k) y s' o h none B (.inr NC) E' a' w' h3) fun e VF xE hp=>br.from h1 h2 hp)
    |_=>exact h3.elim
   ·rename_i dA
    refine go _ h fun e a' w' hp=>?_
    obtain⟨E',h1,h2,h3⟩:=hp
    cases e with
    |normal=>
     cases o with
     |norm s'=>exact absurd h (dA s')
     |_=>exact h3.elim
    |_=>exact⟨E',h1,h2,h3⟩
 ·have he:oh c=c:=by
   unfold oh
   split
   ·exact absurd ⟨_,_,_,_,rfl⟩ hc
   ·rfl
  rw[he]at h
  exact J2 (hC k (Nat.le_refl k) c s o h none B (.inr hn) E a w hs)
theorem Lh{F:Fence}{n:Nat}{P:Program}{c:Code}{Q Q':Exit→Act→World→Prop}{a:Act}{w:World}(h:Ic F n P c Q a w)(hq:∀ e a w,Q e a w→Q' e a w):Ic F n P c Q' a w:=
 fun b k cs h1 h2 h3 h4 h5 h6=>let ⟨e,a',w',q,r⟩:=h b k cs h1 h2 h3 h4 h5 h6; ⟨e,a',w',hq _ _ _ q,r⟩
theorem AH[ab]{E:Env}{w:World}{hp:ag}{args:List AV}{vs:List Value}(g:FuncId)(n:Nat)(m:Bool)(hI:Inv E hp w)(ha:an E true args vs):
  cK ⟨w.heap.size,[],m,none⟩ E ⟨g,args++List.replicate (n-args.length) .undef,hp⟩ { tmps:=vs.toArray++Array.replicate (n-vs.toArray.size) undef,defers:=[] } w:=by
 have hlen:=ha.length
 refine⟨?_,hI,Marks.nil,Nat.le_refl _⟩
 simp only[Array.toList_append,Array.toList_replicate,List.size_toArray,←hlen]
 refine ha.append ?_
 have:=an.lits (E:=E) (o:=true) (List.replicate (n-args.length) undef)
 simpa using this
theorem IM{n:Nat}{E:Env}{w:World}{ds:List Deferred}(h:Marks ⟨n,[],false,none⟩ E w ds):ds=[]:=by
 obtain⟨rs,h1,_,h3,_⟩:=h
 have:=h3.1 rfl
 subst this
 simpa using h1
theorem F0[ab]{C:Ctx}(bI:C.Ok){k:Nat}(FV:∀ j,j≤k→fJ C j)(WZ:∀ j,j≤k→ym C j)(hO:lX C.P (fun o s=>fP C k o s)){f:FuncId}{args:List AV}{hp:ag}{res:oe}{cr:ag}{fn:Func}{c:Code}
  (ru:C.P.funcs[f]?=some fn) (hc:fn.body=some c) {E:Env} {w:World} {vs:List Value} (hI:Inv E hp w) (ha:an E true args vs)
  (h:uB (fun c s=>bU C k c s) (fun o s=>fP C k o s) C.P fn.results.toList c ⟨f,args++List.replicate (fn.ntmps-args.length) .undef,hp⟩=some (res,cr)):Calls C.P f vs.toArray w (bp E w cr res):=by
 have hs:=AH f fn.ntmps false hI ha
 have fin:∀ (s':St) (vM:ag) E1 (a1:Act) w1,Ext E E1→Fr E w E1 w1→an E1 true s'.fr a1.tmps.toList→Inv E1 vM w1→Ff C.P fn.results.toList s'.fr vM=some (res,cr)→LeavesIn Fence.wide 0 C.P fn a1.tmps (bp E w cr res) [] .returning w1:=by
  intro s' vM E1 a1 w1 hx hf eX NA hr
  unfold Ff at hr
  split at hr
  case h_2=>simp at hr
  rename_i l hl
  simp only[Option.some.injEq,Prod.mk.injEq]at hr
  obtain⟨rfl,rfl⟩:=hr
  obtain⟨v,h1,h2⟩:=sf NA eX hl
  exact⟨v,h1,E1,hx,NA,hf,h2⟩
 have leave:∀ (s':St) (d:Option AV) (e:Exit) a' w',tR C ⟨w.heap.size,[],false,none⟩ E w (.norm s') d .normal a' w'→uA (fun c s=>bU C k c s) C.P fn.results.toList s'.fr s'.hp d=some (res,cr) →
   LeavesInM Fence.wide 0 C.P fn a'.tmps (bp E w cr res) a'.defers .returning w':=by
  intro s' d e a' w' vM hd
  cases d with
  |none=>
   obtain⟨E',hx,hf,ho⟩:=vM
   have ho:cK ⟨w.heap.size,[],false,none⟩ E' s' a' w':=ho
   exact jt rfl ho.inv ho.df hf (by simp) fun w2 pv gZ=>fin s' s'.hp E' a' w2 hx gZ ho.fr pv hd
  |some v=>
   obtain⟨E1,E2,w1,dd,ND,rz,⟨fv,tA,aU⟩,jS,gZ,ho⟩:=vM
   have ho:cK ⟨w.heap.size,[dd],false,none⟩ E2 s' a' w':=ho
   refine jt (B:=⟨w.heap.size,[dd],false,none⟩) rfl ho.inv ho.df (rz.trans gZ) (by simp) fun w2 pv hfw=>?_
   simp only[uA]at hd
   split at hd
   ·simp at hd
   rename_i g as cB
   split at hd
   ·simp at hd
   rename_i fg NX
   split at hd
   ·simp at hd
   rename_i cg NY
   obtain⟨first,cap,Dm⟩:=pY tA cB
   have ZD:dd={ target:=.fn (.func g) cap,args:=first++#[] }:=by
    have h1:=aU w2
    rw[Dm]at h1
    have h2:(Deferred.ofValue (.func (.func g) first cap) #[]).run C.P w2=.ok { target:=.fn (.func g) cap,args:=first++#[] } w2:=rfl
    rw[h2]at h1
    cases h1
    rfl
   obtain⟨vs',W0,hinv⟩:=fo (P:=C.P) (w:=w2) (tA.mono jS) (args:=[]) (vs:=[]) trivial cB ⟨fg,NX,by rw[NY]; rfl,bI.name g fg NX (by rw[NY]; rfl)⟩
   rw[Sem.run_bind]at hinv
   have CQ:=aU w2
   rw[show ([]:List Value).toArray=#[] from rfl,CQ]at hinv
   have Tv:(invoke dd.target dd.args).run C.P w2=.ok (.enter g vs'.toArray) w2:=hinv
   have body:∀ (o:Out) (s2:St) (l2:List AV),(o=.norm s2∨o=.ret s2)→cA cg=true→bU C k (oh cg) ⟨g,as++List.replicate (fg.ntmps-as.length) .undef,s'.hp⟩=some o→(aW C.P s2.fr fg.results.toList).run s2.hp=some l2→Ff C.P fn.results.toList s'.fr s2.hp=some (res,cr) →
     LeavesInM Fence.wide 0 C.P fn a'.tmps (bp E w cr res) [dd] .returning w2:=by
    intro o s2 l2 uT Li bG pf CI
    have BB:=AH g fg.ntmps false pv W0
    refine⟨by simp,.inr ⟨fun h=>(by cases h),.func g,cap,g,vs'.toArray,by rw[ZD],Tv,fun _ _=>trivial,?_⟩⟩
    refine CallsDIn.mono (zA (F:=Fence.wide) (n:=0) NX NY trivial (R:=fun e w'=>match e with|.returned _=>LeavesIn Fence.wide 0 C.P fn a'.tmps (bp E w cr res) [] .returning w'|_=>False) (Lh (IL FV WZ Li bG BB) ?_)) ?_
    ·intro e a3 w3 hp3
     obtain⟨E3,NF,NH,VG⟩:=hp3
     have last:cK ⟨w2.heap.size,[],false,none⟩ E3 s2 a3 w3→a3.defers=[]∧∃ v,(results fg a3.tmps).run C.P w3=.ok v w3∧LeavesIn Fence.wide 0 C.P fn a'.tmps (bp E w cr res) [] .returning w3:=by
      intro VH
      obtain⟨v3,h1,h2⟩:=sf VH.inv VH.fr pf
      exact⟨IM VH.df,v3,h1,fin s' s2.hp E3 a' w3 ((ND.trans jS).trans NF) (hfw.trans NH) (ho.fr.mono NF) VH.inv CI⟩
     rcases uT with rfl|rfl
     ·cases e with
      |normal=>exact last VG
      |_=>exact VG.elim
     ·cases e with
      |ret=>exact last VG
      |_=>exact VG.elim
    ·intro e u' w3 hh
     obtain⟨rfl,hh⟩:=hh
     cases e with
     |returned v=>exact hh
     |_=>exact hh.elim
   split at hd
   ·rename_i s2 Li bG
    split at hd
    ·rename_i l2 pf; exact body _ s2 l2 (.inl rfl) Li bG pf hd
    ·simp at hd
   ·rename_i s2 Li bG
    split at hd
    ·rename_i l2 pf; exact body _ s2 l2 (.inr rfl) Li bG pf hd
    ·simp at hd
   ·simp at hd
 have toN:∀ (s':St) (d:Option AV) (o:Out) (e:Exit) a' w',(o=.norm s'∧e=.normal)∨(o=.ret s'∧e=.ret)→tR C ⟨w.heap.size,[],false,none⟩ E w o d e a' w'→tR C ⟨w.heap.size,[],false,none⟩ E w (.norm s') d .normal a' w':=by
  rintro s' d o e a' w' (⟨rfl,rfl⟩|⟨rfl,rfl⟩) vM
  ·exact vM
  ·cases d with
   |none=>exact vM
   |some v=>exact vM
 unfold uB at h
 split at h
 ·rename_i s' d hn bG
  refine callsIn_wide.1 (callsIn_of_wp_marks (F:=Fence.wide) (n:=0) ru hc trivial (wpIn_mono (FZ (FV k (Nat.le_refl k)) hO c _ _ d hn bG _ E _ w rfl hs) fun e a' w' c8=>?_))
  cases e with
  |normal=>exact leave s' d .normal a' w' c8 h
  |_=>cases d<;>first|exact(let ⟨_,_,_,ho⟩:=c8; ho.elim)|exact(let ⟨_,_,_,_,_,_,_,_,_,ho⟩:=c8; ho.elim)
 ·rename_i s' d hn bG
  refine callsIn_wide.1 (callsIn_of_wp_marks (F:=Fence.wide) (n:=0) ru hc trivial (wpIn_mono (FZ (FV k (Nat.le_refl k)) hO c _ _ d hn bG _ E _ w rfl hs) fun e a' w' c8=>?_))
  cases e with
  |ret=>exact leave s' d .normal a' w' (toN s' d _ _ a' w' (.inr ⟨rfl,rfl⟩) c8) h
  |_=>cases d<;>first|exact(let ⟨_,_,_,ho⟩:=c8; ho.elim)|exact(let ⟨_,_,_,_,_,_,_,_,_,ho⟩:=c8; ho.elim)
 ·rename_i v s' hn bG
  simp only[Option.some.injEq,Prod.mk.injEq]at h
  obtain⟨rfl,rfl⟩:=h
  refine callsIn_wide.1 (callsIn_of_wp_marks (F:=Fence.wide) (n:=0) ru hc trivial (wpIn_mono (FZ (FV k (Nat.le_refl k)) hO c _ _ none hn bG _ E _ w rfl hs) fun e a' w' c8=>?_))
  obtain⟨E',hx,hf,ho⟩:=c8
  cases e with
  |panic ch=>
   obtain⟨u,h1,h2,h3,h4⟩:=ho
   exact jt rfl h3 h4 hf (by simp) fun w2 pv gZ=>⟨E',hx,pv,gZ,u,h1,h2⟩
  |_=>exact ho.elim
 ·simp at h
theorem Dx[ab]{C:Ctx}(bI:C.Ok){k:Nat}(FV:∀ j,j≤k→fJ C j)(WZ:∀ j,j≤k→ym C j)(hO:lX C.P (fun o s=>fP C k o s)):lW C (k+1):=by
 intro f args hp res cr h E w vs hI ha
 simp only[mq]at h
 split at h
 ·simp at h
 rename_i fn ru
 split at h
 ·simp at h
 rename_i c hc
 split at h
 ·exact F0 bI FV WZ hO ru hc hI ha h
 ·exact BQ (FV k (Nat.le_refl k)) ru hc hI ha h
theorem Lj[ab]{C:Ctx}(bI:C.Ok)(VD:∀ g,C.kind g=.imp→La C.P):∀ k,lW C k∧fJ C k∧lX C.P (fun o s=>fP C k o s)∧uU C k∧se C.P (fun nm o fr=>iG C k nm o fr):=by
 suffices key:∀ k,(lW C k∧fJ C k∧lX C.P (fun o s=>fP C k o s)∧uU C k∧se C.P (fun nm o fr=>iG C k nm o fr))∧∀ j,j≤k→fJ C j∧ym C j from fun k=>(key k).1
 intro k
 induction k with
 |zero=>
  refine⟨?_,fun j hj=>by obtain rfl:j=0:=by omega
                         exact⟨fun _ _ _ h=>by simp[bU]at h,fun _ _ _ _ _ h=>by simp[bU]at h⟩⟩
  refine⟨fun _ _ _ _ _ h=>by simp[mq]at h,fun _ _ _ h=>by simp[bU]at h,fun _ _ _ h=>by simp[fP]at h,fun _ _ _ _ _ h=>by simp[lA,RM.ae]at h,?_⟩
  intro rd x B E s a w e K Q _ _ h
  simp[iG,RM.ae]at h
 |succ k ih=>
  obtain⟨⟨hF,hC,hO,hP,hE⟩,FV⟩:=ih
  have ZE:=Du bI hF (fun j hj=>(FV j hj).1) hO hE
  refine⟨⟨Dx bI (fun j hj=>(FV j hj).1) (fun j hj=>(FV j hj).2) hO,ZE,Dp bI hF hP hC,Dh bI hF,Dq bI VD hF hP⟩,fun j hj=>?_⟩
  rcases Nat.lt_or_ge j (k+1) with h|h
  ·exact FV j (by omega)
  ·obtain rfl:j=k+1:=by omega
   exact⟨ZE,wm hO hE⟩
def Dy(P:Program):Ctx:={ P:=P,kind:=fun _=>.pure,jL:=fun _=>none,acc:=fun _ _=>false }
theorem Tx[ab]{C:Ctx}(bI:C.Ok):La C.P:=by
 have ok0:(Dy C.P).Ok:=⟨bI.name,fun g h as r e=>(by cases e),fun g h as r dQ e=>(by cases e),fun g h e=>(by cases e),fun g h as hp e h1=>(by cases h1),fun g h e=>(by cases e)⟩
 intro g args hp e h E w vs hI mv
 obtain⟨e0,hb,ov,nw,hw,ho,k,hk⟩:=Ot (C:=Dy C.P) rfl (fun _ _=>rfl) (fun _ _=>rfl) (fun _ _=>rfl) h
 exact⟨e0,((Lj ok0 (fun g h=>by cases h) k).1 g args hp _ _ hk E w vs hI mv).mono fun en w' hp=>IP hI hw ho hb hp⟩
theorem sound[ab]{C:Ctx}(bI:C.Ok):∀ k,lW C k∧fJ C k∧lX C.P (fun o s=>fP C k o s)∧uU C k∧se C.P (fun nm o fr=>iG C k nm o fr):=
 Lj bI fun _ _=>Tx bI
end Go.PI
end
section
/- PI, the laws: arguments that read as data, as abstract values. -/
namespace Go.PI
open Go.ChangeShapes Go.WideShapes
def Env.all(w:World):Env where
 ρ:=fun _ _=>none
 m:=fun b=>match w.heap[b]? with|some (.cells c _ _)=>some c|_=>none
 L:=0
 own:=fun _=>False
theorem NU[ab](w:World)(hg:m6 (Env.all w)):Inv (Env.all w) [] w where
 len:=rfl
 objs:=by intro n o h; simp at h
 free:=by intro n aq h; simp at h
 inj:=by rintro n n' b ⟨o,l,h,_⟩; simp at h
 mem:=by
  grind[Env.all]
 oi:=by intro b h; exact h.elim
 jj:=hg
def Shape(P:Program):Nat→TypeId→List AV→Prop
 |0,_,_=>False
 |k+1,t,l=>
  match P.underlying t with
  |some .bool=>∃ b,l=[.lit (.bool b)]
  |some (.int i)=>∃ n,l=[.lit (.int i n)]∧(Lit.int i n).wf=true
  |some .string=>∃ s:ByteArray,l=[.lit (.string s)]∧s.size≤maxLen
  |some (.slice e)=>∃ xs,l=[.sl xs]∧xs.length≤maxLen∧∀ x∈xs,∃ cl,(match P.underlying e with
    |some d=>if dT d then x=.agg cl else cl=[x]
    |none=>False)∧Shape P k e cl
  |some (.struct fs)=>l.length=P.cellsOf t∧∀ f∈fs.toList,Shape P k f.type ((l.drop f.offset).take (P.cellsOf f.type))
  |some (.array n e)=>l.length=P.cellsOf t∧∀ i,i<n→Shape P k e ((l.drop (i*P.cellsOf e)).take (P.cellsOf e))
  |_=>False
def vS(P:Program):Nat→List Field→Option Nat
 |o,[]=>some o
 |o,f::r=>if f.offset=o then vS P (o+P.cellsOf f.type) r else none
def xK(P:Program):Nat→TypeId→Bool
 |0,_=>false
 |k+1,t=>
  match P.underlying t with
  |some .bool|some (.int _)|some .string=>decide (P.cellsOf t=1)
  |some (.slice e)=>decide (P.cellsOf t=1)&&decide (0<P.cellsOf e)&&xK P k e
  |some (.struct fs)=>decide (vS P 0 fs.toList=some (P.cellsOf t))&&fs.toList.all fun f=>xK P k f.type
  |some (.array n e)=>decide (n*P.cellsOf e=P.cellsOf t)&&xK P k e
  |_=>false
theorem mapM_some{α β:Type}{f:α→Option β}:∀ {l:List α} {r:List β},l.mapM f=some r→r.length=l.length∧∀ (i:Nat) (x:α),l[i]?=some x→∃ y,r[i]?=some y∧f x=some y
 |[],r,h=>by
  simp_all
 |a::l,r,h=>by
  simp only[List.mapM_cons,Option.pure_def,Option.bind_eq_bind]at h
  cases hq:f a with
  |none=>rw[hq]at h; simp at h
  |some b=>
   rw[hq]at h
   simp only[Option.bind_some]at h
   cases ed:l.mapM f with
   |none=>rw[ed]at h; simp at h
   |some bs=>
    rw[ed]at h
    simp only[Option.bind_some,Option.some.injEq]at h
    subst h
    obtain⟨h1,h2⟩:=mapM_some ed
    refine⟨by simp[h1],fun i x hx=>?_⟩
    cases i with
    |zero=>simp_all
    |succ i=>simp_all
theorem aF.append{E:Env}{o:Bool}{l l':List AV}{c c':List Value}(h:aF E o l c)(h':aF E o l' c'):aF E o (l++l') (c++c'):=
 aF.of (h.GW.append h'.GW) fun v hv=>by
  rcases List.mem_append.1 hv with h1|h1
  ·exact h.leaf v h1
  ·exact h'.leaf v h1
theorem Ii[ab]{w:World}{base:Nat}{a:Addr}{n:Nat}{l:List Value}(h:w.cells? base a n=some l):l.length=n∧∀ q v,l[q]?=some v→w.cell? (a.add q)=some v:=by
 unfold World.cells? at h
 split at h
 case isFalse=>simp at h
 obtain⟨h1,h2⟩:=mapM_some h
 simp only[List.length_range]at h1
 refine⟨h1,fun q v hq=>?_⟩
 have bL:=aL hq
 obtain⟨y,hy,hf⟩:=h2 q q (by rw[List.getElem?_range (by omega)])
 rw[hq]at hy
 cases hy
 exact hf
theorem Ai{P:Program}:∀ (fs:List Field) (o n:Nat),vS P o fs=some n→o≤n
 |[],o,n,h=>by simp only[vS,Option.some.injEq]at h; omega
 |f::r,o,n,h=>by
  simp only[vS]at h
  split at h
  case isFalse=>simp at h
  have:=Ai r _ n h; omega
theorem CS[ab]{E:Env}{P:Program}{S:Field→List AV→Prop}:∀ (fs:List Field) (o n:Nat) (cs:List Value),vS P o fs=some n→cs.length=n →
  (∀ f∈fs,∃ l,aF E false l ((cs.drop f.offset).take (P.cellsOf f.type))∧S f l) →
  ∃ l,aF E false l (cs.drop o)∧∀ f∈fs,o≤f.offset∧S f ((l.drop (f.offset-o)).take (P.cellsOf f.type))
 |[],o,n,cs,h,hl,_=>by
  simp only[vS,Option.some.injEq]at h
  refine⟨[],?_,by simp⟩
  rw[List.drop_eq_nil_of_le (by omega)]
  simp[aF]
 |f::r,o,n,cs,h,hl,hf=>by
  simp only[vS]at h
  split at h
  case isFalse=>simp at h
  rename_i ho
  have rZ:=Ai r _ n h
  obtain⟨l1,h1,h2⟩:=hf f (by simp)
  obtain⟨l2,h3,h4⟩:=CS r (o+P.cellsOf f.type) n cs h hl (fun g hg=>hf g (by simp[hg]))
  have G5:l1.length=P.cellsOf f.type:=by rw[h1.length]; simp; omega
  refine⟨l1++l2,?_,fun g hg=>?_⟩
  ·have:cs.drop o=(cs.drop f.offset).take (P.cellsOf f.type)++cs.drop (o+P.cellsOf f.type):=by
    rw[ho,←List.drop_drop,List.take_append_drop]
   rw[this]
   exact h1.append h3
  ·cases hg with
   |head=>
    simp_all
   |tail _ hg=>
    obtain⟨h5,h6⟩:=h4 g hg
    refine⟨by omega,?_⟩
    have:(l1++l2).drop (g.offset-o)=l2.drop (g.offset-(o+P.cellsOf f.type)):=by
     rw[List.drop_append,List.drop_eq_nil_of_le (by omega),List.nil_append,G5]
     congr 1; omega
    rw[this]
    exact h6
theorem CT[ab]{E:Env}{size:Nat}{S:List AV→Prop}:∀ (n:Nat) (cs:List Value),cs.length=n*size →
  (∀ i,i<n→∃ l,aF E false l ((cs.drop (i*size)).take size)∧S l)→∃ l,aF E false l cs∧∀ i,i<n→S ((l.drop (i*size)).take size)
 |0,cs,h,_=>by
  have:cs=[]:=List.eq_nil_of_length_eq_zero (by simpa using h)
  subst this
  exact⟨[],by simp[aF],by simp⟩
 |n+1,cs,h,hf=>by
  rw[Nat.succ_mul]at h
  obtain⟨l1,h1,h2⟩:=hf 0 (by omega)
  simp only[Nat.zero_mul,List.drop_zero]at h1
  obtain⟨l2,h3,h4⟩:=CT (size:=size) (S:=S) n (cs.drop size) (by rw[List.length_drop,h]; omega) (fun i hi=>by
   obtain⟨l,ha,hb⟩:=hf (i+1) (by omega)
   refine⟨l,?_,hb⟩
   rw[List.drop_drop]
   have:size+i*size=(i+1)*size:=by rw[Nat.succ_mul]; omega
   rw[this]; exact ha)
  have G5:l1.length=size:=by rw[h1.length]; simp; omega
  refine⟨l1++l2,?_,fun i hi=>?_⟩
  ·have:cs=cs.take size++cs.drop size:=(List.take_append_drop size cs).symm
   rw[this]
   exact h1.append h3
  ·cases i with
   |zero=>simp_all
   |succ i=>
    have e1:(i+1)*size=size+i*size:=by rw[Nat.succ_mul]; omega
    rw[e1,List.drop_append,List.drop_eq_nil_of_le (by omega),List.nil_append,G5]
    have e2:size+i*size-size=i*size:=by omega
    rw[e2]
    exact h4 i (by omega)
theorem CU{P:Program}{k:Nat}{t:TypeId}{d:TypeDesc}(hu:P.underlying t=some d)(bI:xK P k t=true)(ha:dT d=false):P.cellsOf t=1:=by
 cases k with
 |zero=>simp[xK]at bI
 |succ k=>
  simp only[xK,hu]at bI
  cases d with
  |bool=>simpa using bI
  |int _=>simpa using bI
  |string=>simpa using bI
  |slice e=>simp only[Bool.and_eq_true,decide_eq_true_eq]at bI; exact bI.1.1
  |struct _=>simp[dT]at ha
  |array _ _=>simp[dT]at ha
  |_=>simp at bI
theorem G6[ab]{H:Type}{enc:TypeId×Value→H}{P:Program}{w:World}{base:Nat}{spare:Nat→Bool}{held:Bool}:∀ (fuel k:Nat) (t:TypeId) (cs:List Value) (r:DataW H×List MemPlace),
  xK P k t=true→DataW.trod enc P w base spare held fuel t cs=some r→∃ l,aF (Env.all w) false l cs∧Shape P k t l:=by
 intro fuel
 induction fuel with
 |zero=>intro k t cs r _ h; simp[DataW.trod]at h
 |succ fuel ih=>
  intro k t cs r bI h
  cases k with
  |zero=>simp[xK]at bI
  |succ k=>
   have aaD:=bI
   simp only[xK]at bI
   cases hu:P.underlying t with
   |none=>rw[hu]at bI; simp at bI
   |some d=>
    rw[hu]at bI
    cases d with
    |bool=>
     obtain⟨b,rfl,_⟩:=DataW.trod_bool hu h
     exact⟨[.lit (.bool b)],by simp[aF,ak,Value.oneCell'],by simp only[Shape,hu]; exact⟨b,rfl⟩⟩
    |int i=>
     obtain⟨n,rfl,_,hw⟩:=DataW.trod_int hu h
     exact⟨[.lit (.int i n)],by simp[aF,ak,Value.oneCell'],by simp only[Shape,hu]; exact⟨n,rfl,hw⟩⟩
    |string=>
     obtain⟨s,rfl,_,hw⟩:=DataW.trod_string hu h
     exact⟨[.lit (.string s)],by simp[aF,ak,Value.oneCell'],by simp only[Shape,hu]; exact⟨s,rfl,hw⟩⟩
    |slice e=>
     simp only[Bool.and_eq_true,decide_eq_true_eq]at bI
     obtain⟨⟨_,dV⟩,Ij⟩:=bI
     obtain⟨de,Zk⟩:∃ de,P.underlying e=some de:=by
      cases k with
      |zero=>simp[xK]at Ij
      |succ k=>
       simp only[xK]at Ij
       cases hq:P.underlying e with
       |none=>rw[hq]at Ij; simp at Ij
       |some de=>exact⟨de,rfl⟩
     rcases DataW.trod_slice hu h with ⟨rfl,_⟩|⟨a,len,cap,elems,rest,n,hn,rfl,_,hb,E5,Sr,wT,Km,_,_⟩
     ·refine⟨[.sl []],?_,?_⟩
      ·simp only[aF,ak]
       exact⟨⟨none,0,rfl,by simp,fun _=>rfl,.inl trivial⟩,rfl,trivial⟩
      ·simp only[Shape,hu]; exact⟨[],rfl,by simp,by simp⟩
     ·have z9:n=fuel:=by omega
      subst z9
      have one:∀ i,i<len→∃ x:AV,∃ v cl,ak (Env.all w) false x v∧v.cells.size=P.cellsOf e∧(∀ q u,v.cells.toList[q]?=some u→w.cell? ((a.add (i*P.cellsOf e)).add q)=some u) ∧
        (∀ u∈v.cells.toList,iH u=true)∧(if dT de then x=.agg cl else cl=[x])∧Shape P k e cl:=by
       intro i hi
       have h1:=Km i hi
       have h2:elems[i]?=some elems[i]:=by simp[wT,hi]
       rw[h2]at h1
       cases hc:w.cells? base (a.add (i*P.cellsOf e)) (P.cellsOf e) with
       |none=>rw[hc]at h1; simp at h1
       |some ce=>
        rw[hc]at h1
        simp only[Option.bind_some]at h1
        obtain⟨cl,h3,h4⟩:=ih k e ce _ Ij h1
        obtain⟨h5,h6⟩:=Ii hc
        cases o6:dT de with
        |true=>
         refine⟨.agg cl,.agg ce.toArray,cl,h3.toArray,by simp[Value.cells,h5],fun q u hq=>h6 q u (by simpa[Value.cells] using hq),?_,by simp,h4⟩
         intro u JI
         exact h3.leaf u (by simpa[Value.cells] using JI)
        |false=>
         have h7:=CU Zk Ij o6
         rw[h7]at h5
         match ce,h5,h3 with
         |[v],_,h3=>
          match cl,h3 with
          |[x],h3=>
           simp only[aF]at h3
           have QL:=fZ h3.2.1
           refine⟨x,v,[x],h3.1,by rw[QL,h7]; rfl,fun q u hq=>h6 q u (by rw[QL]at hq; simpa using hq),?_,by simp,h4⟩
           intro u JI
           rw[QL]at JI
           simp at JI
           subst JI
           exact h3.2.1
          |[],h3=>simp[aF]at h3
          |_::_::_,h3=>simp[aF]at h3
         |[],h5,_=>simp at h5
         |_::_::_,h5,_=>simp at h5
      let xs:List AV:=(List.range len).map fun i=>if hi:i<len then Classical.choose (one i hi) else .any
      have Aj:∀ i x,xs[i]?=some x→∃ v cl,ak (Env.all w) false x v∧v.cells.size=P.cellsOf e ∧
        (∀ q u,v.cells.toList[q]?=some u→w.cell? ((a.add (i*P.cellsOf e)).add q)=some u) ∧
        (∀ u∈v.cells.toList,iH u=true)∧(if dT de then x=.agg cl else cl=[x])∧Shape P k e cl:=by
       intro i x hx
       have hi:=aL hx
       simp only[xs,List.length_map,List.length_range]at hi
       simp only[xs,List.getElem?_map,List.getElem?_range hi,Option.map_some,dif_pos hi,Option.some.injEq]at hx
       subst hx
       exact Classical.choose_spec (one i hi)
      have Cv:xs.length=len:=by simp[xs]
      refine⟨[.sl xs],?_,?_⟩
      ·simp only[aF,ak]
       refine⟨⟨some a,cap,by rw[Cv],by omega,by simp,?_⟩,rfl,trivial⟩
       by_cases h0:len=0
       ·left; exact List.eq_nil_of_length_eq_zero (by omega)
       ·right
        obtain⟨v,_,_,mv,QL,_,_,_⟩:=Aj 0 xs[0] (by simp)
        have Ny:=QL 0 v.cells[0] (by simp)
        simp only[Nat.zero_mul]at Ny
        have S0:(a.add 0).add 0=a:=rfl
        rw[S0]at Ny
        obtain⟨b,o,sp⟩:=a
        simp only[World.cell?]at Ny
        split at Ny
        case h_2=>simp at Ny
        rename_i c T fz eH
        split at Ny
        ·simp at Ny
        rename_i S1
        have Wn:sp=none:=by cases sp<;>simp_all
        subst Wn
        refine⟨b,o,P.cellsOf e,c,rfl,by simp[Env.all,eH],dU.eu fun i x hx=>?_⟩
        obtain⟨v,_,hr,mv,QL,Wo,_,_⟩:=Aj i x hx
        refine⟨v,hr,mv,fun q hq=>?_,Wo⟩
        have h1:=QL q v.cells[q] (by simp)
        rw[dw,dw]at h1
        simp only[World.cell?,eH]at h1
        simp only[Option.isSome_none,Bool.false_eq_true,if_false]at h1
        rw[h1]; simp
      ·simp only[Shape,hu]
       refine⟨xs,rfl,by omega,fun x hx=>?_⟩
       obtain⟨i,hi⟩:=List.mem_iff_getElem?.1 hx
       obtain⟨v,cl,_,_,_,_,h1,h2⟩:=Aj i x hi
       exact⟨cl,by rw[Zk]; exact h1,h2⟩
    |struct fs=>
     simp only[Bool.and_eq_true,decide_eq_true_eq]at bI
     obtain⟨xs,n,hn,_,hl,Cv,hf⟩:=DataW.trod_struct hu h
     have z9:n=fuel:=by omega
     subst z9
     obtain⟨l,h1,h2⟩:=CS (E:=Env.all w) (S:=fun f l=>Shape P k f.type l) fs.toList 0 (P.cellsOf t) cs bI.1 hl (fun f G7=>by
      obtain⟨i,hi⟩:=List.mem_iff_getElem?.1 G7
      have wQ:fs[i]?=some f:=by simpa using hi
      have h3:=hf i f wQ
      have bL:i<xs.length:=by rw[Cv]; exact(Array.getElem?_eq_some_iff.1 wQ).1
      rw[List.getElem?_eq_getElem bL]at h3
      exact ih k f.type _ _ (List.all_eq_true.1 bI.2 f G7) h3)
     simp only[List.drop_zero]at h1
     refine⟨l,h1,?_⟩
     simp only[Shape,hu]
     exact⟨by rw[h1.length,hl],fun f G7=>by simpa using (h2 f G7).2⟩
    |array n e=>
     simp only[Bool.and_eq_true,decide_eq_true_eq]at bI
     obtain⟨xs,m,hm,_,hl,Cv,hf⟩:=DataW.trod_array hu h
     have Bu:m=fuel:=by omega
     subst Bu
     obtain⟨l,h1,h2⟩:=CT (E:=Env.all w) (S:=fun l=>Shape P k e l) n cs (by rw[hl,bI.1]) (fun i hi=>by
      have h3:=hf i hi
      rw[List.getElem?_eq_getElem (by omega)]at h3
      exact ih k e _ _ bI.2 h3)
     refine⟨l,h1,?_⟩
     simp only[Shape,hu]
     exact⟨by rw[h1.length,hl],h2⟩
    |_=>simp at bI
end Go.PI
end
section
/- PI, the answers of code without fuel, by equations. -/
namespace Go.PI
theorem gD[ab]{α:Type}(y:Option α):lO (fun _=>y)=y:=
 k8 (g:=fun _=>y) (fun _ _ h=>h) (fun _ _ h=>h) fun _ h=>⟨0,h⟩
theorem tv[ab]{α β:Type}{g:Nat→Option β}{a:Nat→Option α}{b:α→Nat→Option β}(hg:fQ g)(ha:fQ a)(hb:∀ x,fQ (b x))
  (h0:g 0=none) (h:∀ k,g (k+1)=(a k).bind fun x=>b x k):lO g=(lO a).bind fun x=>lO (b x):=by
 apply k8 hg
 ·intro k x hx
  cases k with
  |zero=>rw[h0]at hx; simp at hx
  |succ k=>
   rw[h]at hx
   cases hq:a k with
   |none=>rw[hq]at hx; simp at hx
   |some y=>
    rw[hq]at hx
    rw[(aX ha).2 ⟨k,hq⟩]
    exact(aX (hb y)).2 ⟨k,hx⟩
 ·intro x hx
  cases hq:lO a with
  |none=>rw[hq]at hx; simp at hx
  |some y=>
   rw[hq]at hx
   obtain⟨k1,h1⟩:=(aX ha).1 hq
   obtain⟨k2,h2⟩:=(aX (hb y)).1 hx
   refine⟨k1+k2+1,?_⟩
   rw[h,ha.le h1 k2]
   simp only[Option.bind_some]
   rw[Nat.add_comm]
   exact(hb y).le h2 k1
theorem mG{α:Type}(y:Option α):fQ fun _=>y:=fun _ _ h=>h
theorem eQ[ab]{α β:Type}{g:Nat→Option β}{a:Nat→Option α}{b:α→Option β}(hg:fQ g)(ha:fQ a)
  (h0:g 0=none) (h:∀ k,g (k+1)=(a k).bind b):lO g=(lO a).bind b:=by
 rw[tv hg ha (b:=fun x _=>b x) (fun x=>mG _) h0 h]
 congr 1; funext x; exact gD _
theorem bW[ab]{α:Type}{g:Nat→Option α}{y:Option α}(hg:fQ g)(h0:g 0=none)(h:∀ k,g (k+1)=y):lO g=y:=by
 apply k8 hg
 ·intro k x hx
  cases k with
  |zero=>rw[h0]at hx; simp at hx
  |succ k=>rw[h]at hx; exact hx
 ·intro x hx; exact⟨1,by rw[h]; exact hx⟩
theorem uI[ab]{α:Type}{g a:Nat→Option α}(hg:fQ g)(ha:fQ a)(h0:g 0=none)(h:∀ k,g (k+1)=a k):lO g=lO a:=by
 have:=eQ (b:=some) hg ha h0 (fun k=>by rw[h]; simp)
 rw[this]; simp
variable {C:Ctx}
theorem nJ[ab](s:St):cS C .skip s=some (.norm s):=bW (dN C _ _) rfl fun _=>rfl
theorem Fu[ab](l:Nat)(s:St):cS C (.label l) s=some (.norm s):=bW (dN C _ _) rfl fun _=>rfl
theorem tx[ab](s:St):cS C .ret s=some (.ret s):=bW (dN C _ _) rfl fun _=>rfl
theorem uJ[ab](id:Nat)(s:St):cS C (.exit id) s=some (.exit id s):=bW (dN C _ _) rfl fun _=>rfl
theorem Fv[ab]{b c:Code}(hc:pH b=some c){s:St}{o:Out}(h:cS C c s=some o):cS C (.scope b) s=some o:=by
 obtain⟨k,hk⟩:=(aX (dN C c s)).1 h
 exact(aX (dN C _ s)).2 ⟨k+1,by simp only[bU,hc]; exact hk⟩
noncomputable def andThen[ab](C:Ctx)(b:Code):Out→Option Out
 |.norm s=>cS C b s
 |r=>some r
theorem gd[ab](a b:Code)(s:St):cS C (.seq a b) s=(cS C a s).bind (andThen C b):=by
 have h:=tv (dN C (.seq a b) s) (dN C a s) (b:=fun x k=>match x with|.norm s'=>bU C k b s'|r=>some r)
  (fun x=>by cases x with
    |norm s'=>exact dN C b s'
    |_=>exact mG _) (by simp[bU]) (fun k=>by
     simp only[bU]
     cases hq:bU C k a s with
     |none=>rfl
     |some r=>cases r<;>rfl)
 unfold cS at h ⊢
 rw[h]
 congr 1
 funext x
 cases x with
 |norm s'=>rfl
 |_=>exact gD _
noncomputable def Vp[ab](C:Ctx)(a b:Code)(s:St):AV→Option Out
 |.lit (.bool t)=>cond t (cS C a s) (cS C b s)
 |_=>none
theorem jQ[ab](o:Operand)(a b:Code)(s:St):cS C (.cond o a b) s=Vp C a b s (ay s.fr o):=by
 unfold Vp
 split
 ·rename_i t ht
  cases t with
  |true=>exact uI (dN C _ _) (dN C _ _) (by simp[bU]) fun k=>by simp only[bU]; rw[ht]
  |false=>exact uI (dN C _ _) (dN C _ _) (by simp[bU]) fun k=>by simp only[bU]; rw[ht]
 ·rename_i hn
  refine bW (dN C _ _) (by simp[bU]) fun k=>?_
  simp only[bU]
def uK(id:Nat):Out→Option Out
 |.exit i s=>if i=id then some (.norm s) else some (.exit i s)
 |r=>some r
theorem lP[ab](id:Nat)(b:Code)(s:St):cS C (.block id b) s=(cS C b s).bind (uK id):=by
 refine eQ (dN C _ _) (dN C _ _) (by simp[bU]) fun k=>?_
 simp only[bU]
 cases hq:bU C k b s with
 |none=>rfl
 |some r=>cases r<;>rfl
noncomputable def Kq[ab](C:Ctx)(b:Code)(n:Nat):Out→Option Out
 |.norm s=>cS C (.loop b) (gW n s)
 |r=>some r
theorem nK[ab](b:Code)(s:St):cS C (.loop b) s=(cS C b s).bind (Kq C b s.hp.length):=by
 have h:=tv (dN C (.loop b) s) (dN C b s) (b:=fun x k=>match x with|.norm s'=>bU C k (.loop b) (gW s.hp.length s')|r=>some r)
  (fun x=>by cases x with
    |norm s'=>exact dN C (.loop b) (gW s.hp.length s')
    |_=>exact mG _) (by simp[bU]) (fun k=>by
     rw[bU]
     cases hq:bU C k b s with
     |none=>rfl
     |some r=>cases r<;>rfl)
 unfold cS at h ⊢
 rw[h]
 congr 1
 funext x
 cases x with
 |norm s'=>rfl
 |_=>exact gD _
theorem eg[ab](ops:Array Oper)(l:List Oper)(s:St):fQ fun k=>cH (fun o s=>fP C k o s) ops l s:=
 fun k x h=>iK (fun o s r h=>(mono C k).o o s r h) ops l s x h
theorem jR[ab](ops:Array Oper):∀ (l:List Oper) (s:St),lO (fun k=>cH (fun o s=>fP C k o s) ops l s)=cH (hY C) ops l s
 |[],s=>gD _
 |o::l,s=>by
  simp only[cH]
  cases hw:cJ ops s.fr o with
  |none=>exact gD _
  |some b=>
   cases b with
   |false=>exact jR ops l _
   |true=>
    simp only
    apply k8
    ·intro k x hx
     have hm:=jI C o s
     simp only at hx ⊢
     cases hq:fP C k o s with
     |none=>rw[hq]at hx; simp at hx
     |some r=>
      rw[hq]at hx
      have qC:=hm k r hq
      simp only at hx qC ⊢
      rw[qC]
      cases r with
      |norm s'=>exact eg ops l s' k x hx
      |_=>exact hx
    ·intro k x hx
     cases hq:fP C k o s with
     |none=>rw[hq]at hx; simp at hx
     |some r=>
      rw[hq]at hx
      have h1:hY C o s=some r:=(aX (jI C o s)).2 ⟨k,hq⟩
      rw[h1]
      cases r with
      |norm s'=>
       simp only at hx ⊢
       rw[←jR ops l s']
       exact(aX (eg ops l s')).2 ⟨k,hx⟩
      |_=>exact hx
    ·intro x hx
     cases hq:hY C o s with
     |none=>rw[hq]at hx; simp at hx
     |some r=>
      rw[hq]at hx
      obtain⟨k1,h1⟩:=(aX (jI C o s)).1 hq
      cases r with
      |norm s'=>
       simp only at hx
       rw[←jR ops l s']at hx
       obtain⟨k2,h2⟩:=(aX (eg ops l s')).1 hx
       refine⟨k1+k2,?_⟩
       rw[(jI C o s).le h1 k2]
       simp only
       rw[Nat.add_comm]
       exact(eg ops l s').le h2 k1
      |_=>exact⟨k1,by rw[h1]; exact hx⟩
theorem CX[ab](id:Nat)(ops:Array Oper)(s:St):cS C (.region id ops false) s=cH (hY C) ops ops.toList (gV (C.iE s.fn id) s):=by
 rw[←jR]
 exact uI (dN C _ _) (eg ops _ _) (by simp[bU]) fun k=>by simp only[bU]
noncomputable def Kr(C:Ctx)(rs:Array ResultVar):Out→Option (oe×ag)
 |.norm s=>((aW C.P s.fr rs.toList).run s.hp).map fun l=>(.val (cE l),s.hp)
 |.ret s=>((aW C.P s.fr rs.toList).run s.hp).map fun l=>(.val (cE l),s.hp)
 |.kg v s=>some (.kg v,s.hp)
 |_=>none
theorem xh[ab]{f:FuncId}{fn:Func}{c:Code}(hf:C.P.funcs[f]?=some fn)(hb:fn.body=some c)(args:List AV)(hp:ag)(hD:CF c=false:=by rfl):
  iv C f args hp=(cS C c ⟨f,args++List.replicate (fn.ntmps-args.length) .undef,hp⟩).bind (Kr C fn.results):=by
 refine eQ (jm C _ _ _) (dN C _ _) (by simp[mq]) fun k=>?_
 simp only[mq,hf,hb,hD]
 cases hq:bU C k c ⟨f,args++List.replicate (fn.ntmps-args.length) .undef,hp⟩ with
 |none=>rfl
 |some r=>
  cases r with
  |norm s=>simp only[Option.bind_some,Kr]; split<;>simp_all
  |ret s=>simp only[Option.bind_some,Kr]; split<;>simp_all
  |_=>rfl
theorem nL[ab]{c:Code}{s:St}{o:Out}(h:cS C c s=some o):∃ k,∀ d,bU C (k+d) c s=some o:=by
 obtain⟨k,hk⟩:=(aX (dN C c s)).1 h
 exact⟨k,(dN C c s).le hk⟩
theorem Bv[ab]:∀ (c:Code) (s:St) (r:Out×Option AV),z8 (cS C) (hY C) c s=some r→∃ k,∀ d,z8 (fun c s=>bU C (k+d) c s) (fun o s=>fP C (k+d) o s) c s=some r:=by
 have leaf:∀ c s (r:Out×Option AV),((cS C c s).map fun o=>(o,(none:Option AV)))=some r→∃ k,∀ d,((bU C (k+d) c s).map fun o=>(o,(none:Option AV)))=some r:=by
  intro c s r h
  cases hq:cS C c s with
  |none=>rw[hq]at h; simp at h
  |some o=>
   obtain⟨k,hk⟩:=nL hq
   exact⟨k,fun d=>by rw[hk d]; rw[hq]at h; exact h⟩
 intro c
 induction c with
 |seq x y _ Ko=>
  intro s r h
  simp only[z8]at h ⊢
  cases hd:tj x with
  |some q=>
   obtain⟨ops,v⟩:=q
   rw[hd]at h
   simp only at h ⊢
   split at h
   case h_2=>simp at h
   rename_i s1 hr
   rw[←jR]at hr
   obtain⟨k1,QN⟩:=(aX (eg ops _ s)).1 hr
   have h1:=(eg (C:=C) ops _ s).le QN
   split at h
   case h_2=>simp at h
   rename_i q cB
   cases hq:cS C y s1 with
   |none=>rw[hq]at h; simp at h
   |some o=>
    obtain⟨k2,Fw⟩:=nL hq
    refine⟨k1+k2,fun d=>?_⟩
    rw[show k1+k2+d=k1+(k2+d) by omega,h1]
    simp only[cB]
    rw[show k1+(k2+d)=k2+(k1+d) by omega,Fw]
    rw[hq]at h; exact h
  |none=>
   rw[hd]at h
   simp only at h ⊢
   split at h
   ·rename_i s' hx
    obtain⟨k1,QN⟩:=nL hx
    obtain⟨k2,Fw⟩:=Ko _ _ h
    refine⟨k1+k2,fun d=>?_⟩
    rw[show k1+k2+d=k1+(k2+d) by omega,QN]
    have:=Fw (k1+d)
    rw[show k2+(k1+d)=k1+(k2+d) by omega]at this
    exact this
   ·rename_i o dA hx
    obtain⟨k1,QN⟩:=nL hx
    refine⟨k1,fun d=>?_⟩
    rw[QN d]
    cases o with
    |norm s'=>exact(dA s' rfl).elim
    |_=>exact h
   ·simp at h
 |_=>intro s r h; simp only[z8]at h ⊢; exact leaf _ _ _ h
theorem CY[ab]{P:Program}{rs:List ResultVar}{fr:List AV}{hp:ag}{d:Option AV}{r:oe×ag}(h:uA (cS C) P rs fr hp d=some r):∃ k,∀ j,uA (fun c s=>bU C (k+j) c s) P rs fr hp d=some r:=by
 cases d with
 |none=>exact⟨0,fun _=>h⟩
 |some v=>
  simp only[uA]at h ⊢
  split at h
  ·simp at h
  rename_i g as cB
  split at h
  ·simp at h
  rename_i fg NX
  split at h
  ·simp at h
  rename_i cg NY
  cases hn:cA cg with
  |false=>rw[hn]at h; simp at h
  |true=>
   rw[hn]at h
   cases hq:cS C (oh cg) ⟨g,as++List.replicate (fg.ntmps-as.length) .undef,hp⟩ with
   |none=>rw[hq]at h; simp at h
   |some o=>
    obtain⟨k,hk⟩:=nL hq
    exact⟨k,fun j=>by simp only[NX,NY,hn,hk j]; rw[hq]at h; exact h⟩
theorem Ks[ab]{f:FuncId}{fn:Func}{c:Code}(hf:C.P.funcs[f]?=some fn)(hb:fn.body=some c){args:List AV}{hp:ag}(hD:CF c=true){r:oe×ag}
  (h:uB (cS C) (hY C) C.P fn.results.toList c ⟨f,args++List.replicate (fn.ntmps-args.length) .undef,hp⟩=some r):iv C f args hp=some r:=by
 suffices hs:∃ k,uB (fun c s=>bU C k c s) (fun o s=>fP C k o s) C.P fn.results.toList c ⟨f,args++List.replicate (fn.ntmps-args.length) .undef,hp⟩=some r by
  obtain⟨k,hk⟩:=hs
  exact(aX (jm C f args hp)).2 ⟨k+1,by simp only[mq,hf,hb,hD]; exact hk⟩
 unfold uB at h
 split at h
 ·rename_i s' d hn he
  obtain⟨k1,h1⟩:=Bv _ _ _ he
  obtain⟨k2,h2⟩:=CY h
  refine⟨k1+k2,?_⟩
  unfold uB
  rw[h1 k2,hn]
  have:=h2 k1
  rw[show k2+k1=k1+k2 by omega]at this
  exact this
 ·rename_i s' d hn he
  obtain⟨k1,h1⟩:=Bv _ _ _ he
  obtain⟨k2,h2⟩:=CY h
  refine⟨k1+k2,?_⟩
  unfold uB
  rw[h1 k2,hn]
  have:=h2 k1
  rw[show k2+k1=k1+k2 by omega]at this
  exact this
 ·rename_i v s' hn he
  obtain⟨k1,h1⟩:=Bv _ _ _ he
  refine⟨k1+0,?_⟩
  unfold uB
  rw[h1 0,hn]
  exact h
 ·simp at h
def nM(hp:ag)(args:List AV)(q:oe×ag):Option (oe×List (Nat×aJ)):=(gA args q.2 q.1).run hp
theorem NZ[ab](g:FuncId)(hi:C.jL g=none)(args:List AV)(hp:ag):
  Kp C g args hp=((aM 1000 args).run hp).bind fun as=>(iv C g as []).bind (nM hp args):=by
 have h1:∀ k,(lA C (k+1) g args).run hp=((aM 1000 args).run hp).bind fun as=>(mq C k g as []).bind (nM hp args):=by
  intro k
  rw[lA,RM.run_bind]
  congr 1
  funext as
  rw[hi]
  simp only
  cases hq:mq C k g as [] with
  |none=>rfl
  |some q=>rfl
 cases hs:(aM 1000 args).run hp with
 |none=>exact bW (CW C _ _ _) (by simp[lA,RM.ae]) fun k=>by rw[h1,hs]; rfl
 |some as=>
  refine eQ (CW C _ _ _) (jm C g as []) (by simp[lA,RM.ae]) fun k=>?_
  rw[h1,hs]; rfl
theorem Ip[ab](g:FuncId){h:List AV→Option AV}(hi:C.jL g=some h)(args:List AV)(hp:ag):
  Kp C g args hp=((aM 1000 args).run hp).bind fun as=>(h as).bind fun r=>nM hp args (.val r,[]):=by
 refine bW (CW C _ _ _) (by simp[lA,RM.ae]) fun k=>?_
 rw[lA,RM.run_bind]
 congr 1
 funext as
 rw[hi]
 simp only
 cases hq:h as with
 |none=>rfl
 |some q=>rfl
def Kt(o:Oper)(s:St):oe×List (Nat×aJ)→Option Out
 |(.val r,wr)=>some (.norm { s with fr:=bD s.fr o.dst r,hp:=ai s.hp wr })
 |(.kg v,wr)=>some (.kg v { s with hp:=ai s.hp wr })
def G8(o:Oper)(s:St):oe×ag→Option Out
 |(.val r,hp)=>some (.norm { s with fr:=bD s.fr o.dst r,hp:=gX s.hp.length r hp })
 |(.kg v,hp)=>some (.kg v { s with hp:=gX s.hp.length v hp })
def fR(o:Oper)(s:St)(e:dk):Option Out:=some (.norm { s with fr:=bD s.fr o.dst e.val,hp:=ai s.hp e.wr })
def pM(nm:Nat)(lg:List Nat)(hp:ag):oe×ag→Option (dk×List Nat)
 |(.val r,dQ)=>((dz nm r dQ).run hp).map fun e=>(e,lg)
 |_=>none
noncomputable def Fx[ab](C:Ctx)(nm:Nat)(g:FuncId)(args:List AV)(hp:ag):Option (dk×List Nat):=
 ((aM 1000 args).run hp).bind fun as=>match C.fY g with
   |some h=>(h as).bind fun q=>((dz nm q.1 q.2).run hp).map fun e=>(e,(aM 1000 args).log hp)
   |none=>(iv C g as []).bind (pM nm ((aM 1000 args).log hp) hp)
theorem xN{nm:Nat}{r:AV}{dQ hp:ag}:(dz nm r dQ).log hp=[]:=by
 unfold dz
 split
 ·split
  ·split<;>rfl
  ·rfl
 ·rfl
theorem An[ab]{F:List AV→Option (oe×ag)}{nm:Nat}{g:FuncId}{args:List AV}{hp:ag}:
  ((ir C F nm g args).run hp).map (fun e=>(e,(ir C F nm g args).log hp))=((aM 1000 args).run hp).bind fun as=>match C.fY g with
    |some h=>(h as).bind fun q=>((dz nm q.1 q.2).run hp).map fun e=>(e,(aM 1000 args).log hp)
    |none=>(F as).bind (pM nm ((aM 1000 args).log hp) hp):=by
 unfold ir
 rw[RM.run_bind,RM.eO]
 cases hs:(aM 1000 args).run hp with
 |none=>rfl
 |some as=>
  simp only[Option.bind_some]
  cases hi:C.fY g with
  |some h=>
   simp only
   cases hh:h as with
   |none=>rfl
   |some q=>simp only[Option.bind_some,xN,List.append_nil]
  |none=>
   simp only
   cases hq:F as with
   |none=>rfl
   |some q=>
    obtain⟨r,dQ⟩:=q
    cases r with
    |val v=>simp only[Option.bind_some,pM,xN,List.append_nil]
    |kg v=>rfl
theorem Fy[ab]{F:List AV→Option (oe×ag)}{nm:Nat}{g:FuncId}{args:List AV}{hp:ag}:
  (ir C F nm g args).run hp=(((aM 1000 args).run hp).bind fun as=>match C.fY g with
    |some h=>(h as).bind fun q=>((dz nm q.1 q.2).run hp).map fun e=>(e,(aM 1000 args).log hp)
    |none=>(F as).bind (pM nm ((aM 1000 args).log hp) hp)).map Prod.fst:=by
 rw[←An]
 cases (ir C F nm g args).run hp<;>rfl
noncomputable def rH[ab](C:Ctx)(o:Oper)(s:St):FuncId×List AV→Option Out
 |(g,args)=>match au o.op with
  |true=>(Fx C s.hp.length g args s.hp).bind fun q=>fR o s q.1
  |false=>match C.kind g with
   |.pure=>(Kp C g args s.hp).bind (Kt o s)
   |.imp=>(iv C g args s.hp).bind (G8 o s)
theorem CZ{run:Code→St→Option Out}{ev:Nat→Code→St→Option Out}(hg:∀ c s,fQ fun k=>ev k c s)(hl:∀ c s r,run c s=some r→∃ k,ev k c s=some r)
  {n:Nat} {args:List AV} {dst:Option Tmp} {s:St} {r:Out} (hy:gY run n args dst s=some r):∃ k,gY (ev k) n args dst s=some r:=by
 unfold gY at hy ⊢
 split at hy
 case h_2=>simp at hy
 rename_i fn ps as bd fr ho
 split at hy
 case h_2=>simp at hy
 rename_i hc
 split at hy
 case h_2=>simp at hy
 rename_i s1 h1
 obtain⟨k1,e1⟩:=hl _ _ _ h1
 split at hy
 case h_2=>simp at hy
 rename_i h2
 have two:∀ o,run bd { s1 with hp:=oY s1.hp n .busy }=some o→∃ k,ev k as ⟨fn,fO fr ps.toList args,s.hp⟩=some (.norm s1)∧ev k bd { s1 with hp:=oY s1.hp n .busy }=some o:=by
  intro o h3
  obtain⟨k2,e2⟩:=hl _ _ _ h3
  exact⟨k1+k2,(hg _ _).le e1 k2,by rw[Nat.add_comm]; exact(hg _ _).le e2 k1⟩
 split at hy
 ·rename_i s2 h3
  obtain⟨k,a,b⟩:=two _ h3
  exact⟨k,by simp only[a,h2,b]; exact hy⟩
 ·rename_i id s2 h3
  obtain⟨k,a,b⟩:=two _ h3
  exact⟨k,by simp only[a,h2,b]; exact hy⟩
 ·rename_i s2 h3
  obtain⟨k,a,b⟩:=two _ h3
  exact⟨k,by simp only[a,h2,b]; exact hy⟩
 ·simp at hy
noncomputable def Ku[ab](C:Ctx)(o:Oper)(s:St)(args:List AV):AV→Option Out
 |.mp true n=>gY (fun c s=>cS C c s) n args o.dst s
 |_=>none
noncomputable def ot[ab](C:Ctx)(o:Oper)(s:St)(args:List AV)(fv:AV):Option (FuncId×List AV)→Option Out
 |some q=>rH C o s q
 |none=>Ku C o s args fv
noncomputable def S3[ab](s:St):oe×ag→Option Out
 |(.val _,vM)=>vL s s.hp.length vM
 |_=>none
theorem Fz[ab](f:Operand)(ps:Array Tmp)(as bd:Code)(s:St):cS C (.rangeFunc f ps as bd) s =
  (bE (ay s.fr f) [.mp true s.hp.length]).bind fun q=>(iv C q.1 q.2 (s.hp++[some (.gw (.loop s.fn ps as bd .ready) (uz as bd s.fr))])).bind (S3 s):=by
 cases hr:bE (ay s.fr f) [.mp true s.hp.length] with
 |none=>exact bW (dN C _ _) (by simp[bU]) fun k=>by simp only[bU,hr]; rfl
 |some q=>
  obtain⟨g,args⟩:=q
  simp only[Option.bind_some]
  refine eQ (dN C _ _) (jm C g args _) (by simp[bU]) fun k=>?_
  simp only[bU,hr]
  cases hq:mq C k g args (s.hp++[some (.gw (.loop s.fn ps as bd .ready) (uz as bd s.fr))]) with
  |none=>rfl
  |some q=>obtain⟨r,vM⟩:=q; cases r<;>rfl
theorem nN[ab]{dst:Option Tmp}{f:Operand}{args:Array Operand}{mC:Array TypeId}{type:TypeId}{pos:String}{after:Array Edge}{guard:Option (Nat×Bool)}(s:St):
  hY C ⟨dst,.call ⟨.value f,args,mC⟩,type,pos,after,guard⟩ s=ot C ⟨dst,.call ⟨.value f,args,mC⟩,type,pos,after,guard⟩ s (args.toList.map (ay s.fr)) (ay s.fr f)
   (bE (ay s.fr f) (args.toList.map (ay s.fr))):=by
 cases hr:bE (ay s.fr f) (args.toList.map (ay s.fr)) with
 |none=>
  simp only[ot,Ku]
  split
  ·rename_i n hn
   have dM:∀ k,fP C (k+1) ⟨dst,.call ⟨.value f,args,mC⟩,type,pos,after,guard⟩ s=gY (fun c s=>bU C k c s) n (args.toList.map (ay s.fr)) dst s:=fun k=>by simp only[fP,hr]; rw[hn]
   apply k8 (jI C _ _)
   ·intro k x hx
    cases k with
    |zero=>simp[fP]at hx
    |succ k=>
     rw[dM]at hx
     exact vU (fun c s r h=>(aX (dN C c s)).2 ⟨k,h⟩) hx
   ·intro x hx
    obtain⟨k,hk⟩:=CZ (fun c s=>dN C c s) (fun c s r h=>(aX (dN C c s)).1 h) hx
    exact⟨k+1,by rw[dM]; exact hk⟩
  ·rename_i dA
   refine bW (jI C _ _) (by simp[fP]) fun k=>?_
   simp only[fP,hr]
 |some q=>
  obtain⟨g,as⟩:=q
  simp only[ot,rH]
  cases pL:au (Op.call ⟨.value f,args,mC⟩) with
  |true=>
   have dM:∀ k,fP C (k+1) ⟨dst,.call ⟨.value f,args,mC⟩,type,pos,after,guard⟩ s =
     (((aM 1000 as).run s.hp).bind fun ou=>match C.fY g with
       |some h=>(h ou).bind fun q=>((dz s.hp.length q.1 q.2).run s.hp).map fun e=>(e,(aM 1000 as).log s.hp)
       |none=>(mq C k g ou []).bind (pM s.hp.length ((aM 1000 as).log s.hp) s.hp)).bind fun q=>fR ⟨dst,.call ⟨.value f,args,mC⟩,type,pos,after,guard⟩ s q.1:=by
    intro k
    simp only[fP,hr,pL,Fy]
    cases (((aM 1000 as).run s.hp).bind fun ou=>match C.fY g with
      |some h=>(h ou).bind fun q=>((dz s.hp.length q.1 q.2).run s.hp).map fun e=>(e,(aM 1000 as).log s.hp)
      |none=>(mq C k g ou []).bind (pM s.hp.length ((aM 1000 as).log s.hp) s.hp))<;>rfl
   simp only[Fx]
   cases hs:(aM 1000 as).run s.hp with
   |none=>exact bW (jI C _ _) (by simp[fP]) fun k=>by rw[dM,hs]; rfl
   |some ou=>
    simp only[Option.bind_some]
    cases hi:C.fY g with
    |some h=>exact bW (jI C _ _) (by simp[fP]) fun k=>by rw[dM,hs]; simp only[Option.bind_some,hi]
    |none=>
     simp only[Option.bind_assoc]
     refine eQ (jI C _ _) (jm C g ou []) (by simp[fP]) fun k=>?_
     rw[dM,hs]
     simp only[Option.bind_some,hi,Option.bind_assoc]
  |false=>
  simp only
  cases hk:C.kind g with
  |pure=>
   refine eQ (jI C _ _) (CW C g as s.hp) (by simp[fP]) fun k=>?_
   simp only[fP,hr,pL,hk]
   cases hq:(lA C k g as).run s.hp with
   |none=>rfl
   |some q=>obtain⟨r,wr⟩:=q; cases r<;>rfl
  |imp=>
   refine eQ (jI C _ _) (jm C g as s.hp) (by simp[fP]) fun k=>?_
   simp only[fP,hr,pL,hk]
   cases hq:mq C k g as s.hp with
   |none=>rfl
   |some q=>obtain⟨r,wr⟩:=q; cases r<;>rfl
theorem Ao[ab]{dst:Option Tmp}{rv:Operand}{name:String}{args:Array Operand}{mC:Array TypeId}{type:TypeId}{pos:String}{after:Array Edge}{guard:Option (Nat×Bool)}(s:St):
  hY C ⟨dst,.call ⟨.invoke rv name,args,mC⟩,type,pos,after,guard⟩ s=(pD C.P (ay s.fr rv) name).bind fun q=>rH C ⟨dst,.call ⟨.invoke rv name,args,mC⟩,type,pos,after,guard⟩ s (q.1,q.2::args.toList.map (ay s.fr)):=by
 cases hr:pD C.P (ay s.fr rv) name with
 |none=>exact bW (jI C _ _) (by simp[fP]) fun k=>by simp only[fP,hr]; rfl
 |some q=>
  obtain⟨g,x⟩:=q
  simp only[Option.bind_some,rH]
  have pL:au (Op.call ⟨.invoke rv name,args,mC⟩)=false:=rfl
  rw[pL]
  simp only
  cases hk:C.kind g with
  |pure=>
   refine eQ (jI C _ _) (CW C g _ s.hp) (by simp[fP]) fun k=>?_
   simp only[fP,hr,hk]
   cases hq:(lA C k g (x::args.toList.map (ay s.fr))).run s.hp with
   |none=>rfl
   |some q=>obtain⟨r,wr⟩:=q; cases r<;>rfl
  |imp=>
   refine eQ (jI C _ _) (jm C g _ s.hp) (by simp[fP]) fun k=>?_
   simp only[fP,hr,hk]
   cases hq:mq C k g (x::args.toList.map (ay s.fr)) s.hp with
   |none=>rfl
   |some q=>obtain⟨r,wr⟩:=q; cases r<;>rfl
def qD:Op→Bool
 |.call c=>match c.callee with
  |.builtin _=>true
  |_=>false
 |.assign (.const (.slice none 0 0))=>false
 |_=>true
def G9(C:Ctx)(o:Oper)(s:St)(e:dk):Option Out:=some (.norm (CE (match o.op with|.call _=>fun _=>[]|_=>C.rk s.fn) o.dst { s with fr:=bD s.fr o.dst e.val,hp:=ai s.hp e.wr }))
theorem xO{dst:Option Tmp}{s:St}:CE (fun _=>[]) dst s=s:=by cases dst<;>rfl
theorem xP[ab]{o:Oper}(h:qD o.op=true)(s:St):hY C o s=((aK C.P s.hp.length (ay s.fr) o).run s.hp).bind (G9 C o s):=by
 refine bW (jI C _ _) (by simp[fP]) fun k=>?_
 obtain⟨dst,op,type,pos,after,guard⟩:=o
 rw[fP]
 split
 ·grind[G9,xO,qD]
 ·simp_all[qD]
 ·grind[G9]
class iy(C:Ctx):Prop where
 h:C.rk=fun _ _=>[]
 iE:C.iE=fun _ _=>[]
theorem ei[ab][iy C]{o:Oper}(h:qD o.op=true)(s:St):hY C o s=((aK C.P s.hp.length (ay s.fr) o).run s.hp).bind (fR o s):=by
 rw[xP h]
 congr 1
 funext e
 have hl:(match o.op with|.call _=>fun _=>[]|_=>C.rk s.fn)=fun _=>[]:=by
  rw[iy.h (C:=C)]; cases o.op<;>rfl
 simp only[G9,hl,xO,fR]
theorem Kv[ab]{dst:Tmp}{type:TypeId}{pos:String}{after:Array Edge}{guard:Option (Nat×Bool)}(s:St):
  hY C ⟨some dst,.assign (.const (.slice none 0 0)),type,pos,after,guard⟩ s =
   cond (C.acc s.fn dst) ((aH C.P type).bind fun r=>if 0<r.size then some (.norm { s with fr:=s.fr.set dst (.bh r.size s.hp.length 0 0 0 none),hp:=s.hp++[some (.arr true true false [])] }) else none)
    (some (.norm { s with fr:=s.fr.set dst (.lit bV) })):=by
 refine bW (jI C _ _) (by simp[fP]) fun k=>?_
 simp only[fP]
 cases C.acc s.fn dst with
 |true=>
  simp only[if_true,cond_true]
  cases aH C.P type<;>rfl
 |false=>rfl
end Go.PI
end
section
/- PI, drawn regions without fuel. -/
namespace Go.PI
variable {C:Ctx}
noncomputable def C1[ab](C:Ctx)(nm:Nat)(o:Oper)(fr:List AV)(hp:ag):Option (dk×List Nat):=
 lO fun k=>((iG C k nm o fr).run hp).map fun e=>(e,(iG C k nm o fr).log hp)
theorem Ha[ab](C:Ctx)(nm:Nat)(o:Oper)(fr:List AV)(hp:ag):fQ fun k=>((iG C k nm o fr).run hp).map fun e=>(e,(iG C k nm o fr).log hp):=by
 intro k x h
 simp only at h ⊢
 cases hq:(iG C k nm o fr).run hp with
 |none=>rw[hq]at h; simp at h
 |some e=>
  obtain⟨h1,h2⟩:=(mono C k).e nm o fr hp e hq
  rw[hq]at h
  rw[h1,h2]
  exact h
def QO[ab](x:Item)(s:St):dk×List Nat→Option (St×fH)
 |(e,lg)=>
  if e.wr.all (fun q=>decide (q.1<s.hp.length)&&((au x.o.op&&decide (q.1=x.nm))||(match s.hp[q.1]? with|some (some _)=>true|_=>false)))=true then
   some ({ s with fr:=bD s.fr x.o.dst e.val,hp:=ai s.hp e.wr },⟨x.idx,lg,e.wr.map (·.1)⟩)
  else none
noncomputable def C2[ab](C:Ctx)(ops:Array Oper)(x:Item)(s:St):Option (St×fH):=
 match cJ ops s.fr x.o with
 |none=>none
 |some false=>some ({ s with fr:=bD s.fr x.o.dst .undef },⟨x.idx,[],[]⟩)
 |some true=>(C1 C (x.at s.hp.length) x.o s.fr s.hp).bind (QO x s)
noncomputable def tz[ab](C:Ctx)(ops:Array Oper):List Item→St→Option (St×List fH)
 |[],s=>some (s,[])
 |x::rest,s=>(C2 C ops x s).bind fun q=>(tz C ops rest q.1).map fun q'=>(q'.1,q.2::q'.2)
theorem xQ[ab](ops:Array Oper)(x:Item)(s:St):fQ fun k=>fq (fun nm o fr=>iG C k nm o fr) ops x s:=
 fun k r h=>xM (fun nm o fr hp=>(mono C k).e nm o fr hp) ops x s r h
theorem pN[ab](ops:Array Oper)(l:List Item)(s:St):fQ fun k=>cz (fun nm o fr=>iG C k nm o fr) ops l s:=
 fun k r h=>oq (fun nm o fr hp=>(mono C k).e nm o fr hp) ops l s r h
theorem Hb[ab]{α β:Type}{a:Nat→Option α}(ha:fQ a)(f:α→Option β):lO (fun k=>(a k).bind f)=(lO a).bind f:=by
 apply k8
 ·intro k x h
  cases hq:a k with
  |none=>simp[hq]at h
  |some y=>
   have h2:=ha k y hq
   simp only[hq]at h
   simp only[h2]
   exact h
 ·intro k x h
  cases hq:a k with
  |none=>simp[hq]at h
  |some y=>simp only[hq]at h; rw[(aX ha).2 ⟨k,hq⟩]; exact h
 ·intro x h
  cases hq:lO a with
  |none=>rw[hq]at h; simp at h
  |some y=>
   rw[hq]at h
   obtain⟨k,hk⟩:=(aX ha).1 hq
   exact⟨k,by rw[hk]; exact h⟩
theorem Iq[ab](ops:Array Oper)(x:Item)(s:St):lO (fun k=>fq (fun nm o fr=>iG C k nm o fr) ops x s)=C2 C ops x s:=by
 unfold C2
 cases hw:cJ ops s.fr x.o with
 |none=>simp only[fq,hw]; exact gD _
 |some b=>
  cases b with
  |false=>simp only[fq,hw]; exact gD _
  |true=>
   rw[show (fun k=>fq (fun nm o fr=>iG C k nm o fr) ops x s)=fun k=>(((iG C k (x.at s.hp.length) x.o s.fr).run s.hp).map fun e=>(e,(iG C k (x.at s.hp.length) x.o s.fr).log s.hp)).bind (QO x s) from ?_]
   ·exact Hb (Ha C (x.at s.hp.length) x.o s.fr s.hp) _
   ·funext k
    simp only[fq,hw]
    cases hq:(iG C k (x.at s.hp.length) x.o s.fr).run s.hp<;>rfl
theorem pO[ab](ops:Array Oper):∀ (l:List Item) (s:St),lO (fun k=>cz (fun nm o fr=>iG C k nm o fr) ops l s)=tz C ops l s
 |[],s=>gD _
 |x::l,s=>by
  simp only[tz]
  rw[←Iq]
  apply k8 (pN ops (x::l) s)
  ·intro k r h
   simp only[cz]at h
   cases hq:fq (fun nm o fr=>iG C k nm o fr) ops x s with
   |none=>rw[hq]at h; simp at h
   |some q=>
    obtain⟨s1,f⟩:=q
    rw[hq]at h
    simp only at h
    rw[(aX (xQ ops x s)).2 ⟨k,hq⟩]
    cases hd:cz (fun nm o fr=>iG C k nm o fr) ops l s1 with
    |none=>rw[hd]at h; simp at h
    |some q2=>
     rw[hd]at h
     simp only[Option.bind_some]
     rw[←pO ops l s1,(aX (pN ops l s1)).2 ⟨k,hd⟩]
     exact h
  ·intro r h
   cases hq:lO (fun k=>fq (fun nm o fr=>iG C k nm o fr) ops x s) with
   |none=>rw[hq]at h; simp at h
   |some q=>
    obtain⟨s1,f⟩:=q
    rw[hq]at h
    simp only[Option.bind_some]at h
    rw[←pO ops l s1]at h
    cases hd:lO (fun k=>cz (fun nm o fr=>iG C k nm o fr) ops l s1) with
    |none=>rw[hd]at h; simp at h
    |some q2=>
     rw[hd]at h
     obtain⟨k1,h1⟩:=(aX (xQ ops x s)).1 hq
     obtain⟨k2,h2⟩:=(aX (pN ops l s1)).1 hd
     have h3:=(xQ ops x s).le h1 k2
     have h4:=(pN ops l s1).le h2 k1
     rw[Nat.add_comm]at h4
     refine⟨k1+k2,?_⟩
     simp only[cz]
     rw[h3]
     simp only
     rw[h4]
     exact h
noncomputable def Hd[ab](C:Ctx)(ops:Array Oper)(m:Nat)(q:St×List fH):Option Out:=
 if (fk (cd ops.toList) q.2&&mZ (cd ops.toList) ops.size m)=true then cH (hY C) ops (ops.toList.drop m) q.1 else none
theorem Ir[ab](id:Nat)(ops:Array Oper)(h:ti ops=true)(s:St):cS C (.region id ops true) s =
  (tz C ops (bH 0 s.hp.length (ops.toList.take (C.head s.fn id ops))) { gV (C.iE s.fn id) s with hp:=(gV (C.iE s.fn id) s).hp++List.replicate ((ops.toList.take (C.head s.fn id ops)).filter fun o=>au o.op).length none }).bind (Hd C ops (C.head s.fn id ops)):=by
 rw[←pO]
 refine Eq.trans (tv (dN C (.region id ops true) s) (pN ops _ _) (b:=fun q k=>if (fk (cd ops.toList) q.2&&mZ (cd ops.toList) ops.size (C.head s.fn id ops))=true then
   cH (fun o s=>fP C k o s) ops (ops.toList.drop (C.head s.fn id ops)) q.1 else none) (fun q=>by
    by_cases hc:(fk (cd ops.toList) q.2&&mZ (cd ops.toList) ops.size (C.head s.fn id ops))=true
    ·simp only[hc,if_true]; exact eg ops _ _
    ·simp only[hc]; exact mG _) (by simp[bU]) (fun k=>by
   simp only[bU,h,if_true]
   cases hq:cz (fun nm o fr=>iG C k nm o fr) ops (bH 0 s.hp.length (ops.toList.take (C.head s.fn id ops))) { gV (C.iE s.fn id) s with hp:=(gV (C.iE s.fn id) s).hp++List.replicate ((ops.toList.take (C.head s.fn id ops)).filter fun o=>au o.op).length none } with
   |none=>rfl
   |some q=>rfl)) ?_
 congr 1
 funext q
 unfold Hd
 by_cases hc:(fk (cd ops.toList) q.2&&mZ (cd ops.toList) ops.size (C.head s.fn id ops))=true
 ·simp only[hc,if_true]; exact jR ops _ _
 ·simp only[hc]; exact gD _
theorem FA[ab]{o:Oper}(h:∀ c f,o.op=.call c→c.callee=.value f→False)(h2:∀ c m i,o.op=.call c→c.callee=.invoke m i→False)(nm:Nat)(fr:List AV)(hp:ag):
  C1 C nm o fr hp=((aK C.P nm (ay fr) o).run hp).map fun e=>(e,(aK C.P nm (ay fr) o).log hp):=by
 refine bW (Ha C _ _ _ _) (by simp[iG,RM.ae]) fun k=>?_
 obtain⟨dst,op,type,pos,after,guard⟩:=o
 cases op with
 |call c=>
  obtain⟨callee,args,mC⟩:=c
  cases callee with
  |builtin b=>simp only[iG]
  |value f=>exact(h _ _ rfl rfl).elim
  |invoke m i=>exact(h2 _ _ _ rfl rfl).elim
 |_=>simp only[iG]
def Kw(hp:ag)(args:List AV)(q:oe×ag):List Nat:=(aM 1000 args).log hp++(gA args q.2 q.1).log hp
def nO(hp:ag)(args:List AV)(q:oe×ag):Option (dk×List Nat):=
 (nM hp args q).bind fun r=>match r.1 with
   |.val v=>some (⟨v,r.2⟩,Kw hp args q)
   |.kg _=>none
noncomputable def pP[ab](C:Ctx)(nm:Nat)(al:Bool)(hp:ag):FuncId×List AV→Option (dk×List Nat)
 |(g,args)=>match al with
  |true=>Fx C nm g args hp
  |false=>match C.kind g with
  |.pure=>match C.jL g with
   |some h=>((aM 1000 args).run hp).bind fun as=>(h as).bind fun r=>nO hp args (.val r,[])
   |none=>((aM 1000 args).run hp).bind fun as=>(iv C g as []).bind (nO hp args)
  |.imp=>(match C.pB g with
   |some h=>((h args).run hp).map fun e=>(e,(h args).log hp)
   |none=>((zw C.P nm g args).run hp).map fun e=>(e,(zw C.P nm g args).log hp))
theorem Kx[ab]{hp:ag}{args as:List AV}{g:FuncId}{k:Nat}(hs:(aM 1000 args).run hp=some as)(hi:C.jL g=none){q:oe×ag}(hq:mq C k g as []=some q):
  (((lA C (k+1) g args >>= fun (x:oe×List (Nat×aJ))=>match x.1 with|.val r=>(pure ⟨r,x.2⟩:RM dk)|.kg _=>RM.fail).run hp).map fun e=>(e,(lA C (k+1) g args >>= fun (x:oe×List (Nat×aJ))=>match x.1 with|.val r=>(pure ⟨r,x.2⟩:RM dk)|.kg _=>RM.fail).log hp))=nO hp args q:=by
 have h1:(lA C (k+1) g args).run hp=nM hp args q:=by
  rw[lA,RM.run_bind,hs]
  simp only[Option.bind_some,hi,hq]
  rfl
 have h2:(lA C (k+1) g args).log hp=Kw hp args q:=by
  rw[lA,RM.eO,hs]
  simp only[hi,hq]
  rfl
 rw[RM.run_bind,RM.eO,h1,h2]
 unfold nO
 cases cr:nM hp args q with
 |none=>rfl
 |some r=>
  obtain⟨r,wr⟩:=r
  cases r with
  |val v=>simp only[Option.bind_some,pure,RM.log,List.append_nil]; rfl
  |kg v=>rfl
theorem xR[ab]{o:Oper}{nm:Nat}{fr:List AV}{hp:ag}{g:FuncId}{as:List AV}(hk:C.kind g=.pure)
  (ow:∀ k,iG C (k+1) nm o fr=(lA C k g as >>= fun (x:oe×List (Nat×aJ))=>match x.1 with|.val r=>(pure ⟨r,x.2⟩:RM dk)|.kg _=>RM.fail)) :
  C1 C nm o fr hp=pP C nm false hp (g,as):=by
 have hg:=Ha C nm o fr hp
 have hz:((iG C 0 nm o fr).run hp).map (fun e=>(e,(iG C 0 nm o fr).log hp))=none:=by
  simp[iG,RM.ae]
 simp only[pP,hk]
 cases hs:(aM 1000 as).run hp with
 |none=>
  have bg:∀ k,(lA C k g as).run hp=none:=by
   intro k
   cases k with
   |zero=>simp[lA,RM.ae]
   |succ k=>rw[lA,RM.run_bind,hs]; rfl
  have:(match C.jL g with
    |some h=>(none:Option (List AV)).bind fun ou=>(h ou).bind fun r=>nO hp as (.val r,[])
    |none=>(none:Option (List AV)).bind fun ou=>(iv C g ou []).bind (nO hp as))=none:=by cases C.jL g<;>rfl
  rw[this]
  refine bW hg hz fun k=>?_
  rw[ow,RM.run_bind,bg]; rfl
 |some ou=>
  cases hi:C.jL g with
  |some h=>
   simp only[Option.bind_some]
   have h1:∀ k,(lA C (k+1) g as).run hp=(h ou).bind fun r=>nM hp as (.val r,[]):=by
    intro k
    rw[lA,RM.run_bind,hs]
    simp only[Option.bind_some,hi]
    cases h ou<;>rfl
   have h2:∀ k,(lA C (k+1) g as).log hp=(aM 1000 as).log hp++(match h ou with|some r=>(gA as [] (.val r)).log hp|none=>[]):=by
    intro k
    rw[lA,RM.eO,hs]
    simp only[hi]
    cases h ou<;>rfl
   have h3:∀ k,((iG C (k+1+1) nm o fr).run hp).map (fun e=>(e,(iG C (k+1+1) nm o fr).log hp))=(h ou).bind fun r=>nO hp as (.val r,[]):=by
    intro k
    rw[ow,RM.run_bind,RM.eO,h1,h2]
    cases hh:h ou with
    |none=>rfl
    |some r=>
     simp only[Option.bind_some,nO]
     cases cr:nM hp as (.val r,[]) with
     |none=>rfl
     |some r=>
      obtain⟨r,wr⟩:=r
      cases r with
      |val v=>simp only[Option.bind_some,pure,RM.log,List.append_nil]; rfl
      |kg v=>rfl
   apply k8 hg
   ·intro k x hx
    match k with
    |0=>rw[hz]at hx; cases hx
    |1=>
     rw[ow,RM.run_bind]at hx
     simp[lA,RM.ae]at hx
    |k+2=>rw[←h3 k]; exact hx
   ·intro x hx
    exact⟨2,by rw[h3 0]; exact hx⟩
  |none=>
   simp only[Option.bind_some]
   have h3:∀ k,((iG C (k+1+1) nm o fr).run hp).map (fun e=>(e,(iG C (k+1+1) nm o fr).log hp))=(mq C k g ou []).bind (nO hp as):=by
    intro k
    cases hq:mq C k g ou [] with
    |none=>
     rw[ow,RM.run_bind,lA,RM.run_bind,hs]
     simp only[Option.bind_some,hi,hq,RM.ae]
     rfl
    |some q=>
     rw[ow]
     exact Kx hs hi hq
   have hb:lO (fun k=>(mq C k g ou []).bind (nO hp as))=(iv C g ou []).bind (nO hp as):=Hb (jm C g ou []) _
   rw[←hb]
   apply k8 hg
   ·intro k x hx
    match k with
    |0=>rw[hz]at hx; cases hx
    |1=>
     rw[ow,RM.run_bind]at hx
     simp[lA,RM.ae]at hx
    |k+2=>
     rw[h3 k]at hx
     rw[hb]
     cases hq:mq C k g ou [] with
     |none=>rw[hq]at hx; simp at hx
     |some q=>rw[hq]at hx; rw[show iv C g ou []=some q from (aX (jm C g ou [])).2 ⟨k,hq⟩]; exact hx
   ·intro x hx
    rw[hb]at hx
    cases hq:iv C g ou [] with
    |none=>rw[hq]at hx; simp at hx
    |some q=>
     rw[hq]at hx
     obtain⟨k,hk⟩:=(aX (jm C g ou [])).1 hq
     exact⟨k+1+1,by rw[h3 k,hk]; exact hx⟩
theorem It[ab]{dst:Option Tmp}{rv:Operand}{name:String}{args:Array Operand}{mC:Array TypeId}{type:TypeId}{pos:String}{after:Array Edge}{guard:Option (Nat×Bool)}{nm:Nat}{fr:List AV}{hp:ag}{g:FuncId}{x:AV}
  (hr:pD C.P (ay fr rv) name=some (g,x)) (hk:C.kind g=.pure):C1 C nm ⟨dst,.call ⟨.invoke rv name,args,mC⟩,type,pos,after,guard⟩ fr hp=pP C nm false hp (g,x::args.toList.map (ay fr)):=by
 refine xR hk fun k=>?_
 simp only[iG,hr,hk]
 congr 1
theorem uM[ab]{dst:Option Tmp}{f:Operand}{args:Array Operand}{mC:Array TypeId}{type:TypeId}{pos:String}{after:Array Edge}{guard:Option (Nat×Bool)}(nm:Nat)(fr:List AV)(hp:ag):
  C1 C nm ⟨dst,.call ⟨.value f,args,mC⟩,type,pos,after,guard⟩ fr hp=(bE (ay fr f) (args.toList.map (ay fr))).bind (pP C nm (au (Op.call ⟨.value f,args,mC⟩)) hp):=by
 have hg:=Ha C nm ⟨dst,.call ⟨.value f,args,mC⟩,type,pos,after,guard⟩ fr hp
 have hz:((iG C 0 nm ⟨dst,.call ⟨.value f,args,mC⟩,type,pos,after,guard⟩ fr).run hp).map (fun e=>(e,(iG C 0 nm ⟨dst,.call ⟨.value f,args,mC⟩,type,pos,after,guard⟩ fr).log hp))=none:=by
  simp[iG,RM.ae]
 cases hr:bE (ay fr f) (args.toList.map (ay fr)) with
 |none=>exact bW hg hz fun k=>by simp only[iG,hr,RM.ae]; rfl
 |some q=>
  obtain⟨g,as⟩:=q
  simp only[Option.bind_some,pP]
  cases pL:au (Op.call ⟨.value f,args,mC⟩) with
  |true=>
   have dM:∀ k,((iG C (k+1) nm ⟨dst,.call ⟨.value f,args,mC⟩,type,pos,after,guard⟩ fr).run hp).map (fun e=>(e,(iG C (k+1) nm ⟨dst,.call ⟨.value f,args,mC⟩,type,pos,after,guard⟩ fr).log hp)) =
     ((aM 1000 as).run hp).bind fun ou=>match C.fY g with
       |some h=>(h ou).bind fun q=>((dz nm q.1 q.2).run hp).map fun e=>(e,(aM 1000 as).log hp)
       |none=>(mq C k g ou []).bind (pM nm ((aM 1000 as).log hp) hp):=by
    intro k
    have:=An (C:=C) (F:=fun as=>mq C k g as []) (nm:=nm) (g:=g) (args:=as) (hp:=hp)
    simp only[iG,hr,pL]
    exact this
   simp only[Fx]
   cases hs:(aM 1000 as).run hp with
   |none=>exact bW hg hz fun k=>by rw[dM,hs]; rfl
   |some ou=>
    simp only[Option.bind_some]
    cases hi:C.fY g with
    |some h=>exact bW hg hz fun k=>by rw[dM,hs]; simp only[Option.bind_some,hi]
    |none=>
     refine eQ hg (jm C g ou []) hz fun k=>?_
     rw[dM,hs]
     simp only[Option.bind_some,hi]
  |false=>
  simp only
  cases hk:C.kind g with
  |imp=>
   cases hi:C.pB g with
   |some h=>exact bW hg hz fun k=>by simp only[iG,hr,pL,hk,hi]
   |none=>exact bW hg hz fun k=>by simp only[iG,hr,pL,hk,hi]
  |pure=>
   rw[xR (g:=g) (as:=as) hk fun k=>by
    simp only[iG,hr,pL,hk]
    congr 1]
   simp only[pP,hk]
end Go.PI
end
section
/- PI, guards resolved. -/
namespace Go.PI
inductive G where
 |always
 |never
 |on (d:Tmp) (w:Bool)
def eL(ops:Array Oper)(o:Oper):G:=
 match o.guard with
 |none=>.always
 |some (j,w)=>match (ops[j]?).bind (·.dst) with
  |none=>.never
  |some d=>.on d w
def SS(w:Bool):AV→Option Bool
 |.lit (.bool b)=>some (b==w)
 |.lit (.tuple _)=>some false
 |_=>none
def tm(fr:List AV):G→Option Bool
 |.always=>some true
 |.never=>some false
 |.on d w=>SS w (fr.getD d .undef)
theorem CG(ops:Array Oper)(fr:List AV)(o:Oper):cJ ops fr o=tm fr (eL ops o):=by
 unfold cJ eL
 cases o.guard with
 |none=>rfl
 |some q=>
  obtain⟨j,w⟩:=q
  simp only
  cases (ops[j]?).bind (·.dst) with
  |none=>rfl
  |some d=>
   simp only[tm,List.getD]
   cases hq:fr[d]? with
   |none=>rfl
   |some v=>
    simp only[Option.getD_some]
    cases v with
    |lit v=>cases v<;>rfl
    |_=>rfl
end Go.PI
end
section
/- PI, looking up in written-out frames. -/
namespace Go.PI
section
variable {α:Type}{x u v:AV}{l:List AV}{n:Nat}
theorem Nr:(x::l).getD 0 u=x:=rfl
theorem Ns:(x::l).getD (n+1) u=l.getD n u:=rfl
theorem Nt:(x::l).set 0 v=v::l:=rfl
theorem Nu:(x::l).set (n+1) v=x::l.set n v:=rfl
end
end Go.PI
end
section
/- PI, laws to compute by. -/
namespace Go.PI
abbrev int(n:Int):AV:=.lit (.int .i64 n)
abbrev bol(b:Bool):AV:=.lit (.bool b)
section
variable {P:Program}{t:TypeId}{xo yo:Operand}{k:IntKind}{a b:Int}
theorem eR{op:BinOp}{v w:Value}{α:Type}(K:Unit→Sem α)(h:∀ c,v≠.agg c)(h2:v≠.nilIface):
  bn P (eqGuard op t xo yo v w >>= K)=bn P (K ()):=by
 unfold eqGuard
 cases op<;>first
  |rfl
  |(cases v<;>first|rfl|exact absurd rfl (h _)|exact absurd rfl h2)
theorem qG[ab]:fh P .lss t xo yo (.lit (.int k a)) (.lit (.int k b))=some (bol (decide (a<b))):=by
 simp only[fh,ep,dg]; rw[eR _ (by simp) (by simp)]; simp[binOp,Op.intCmp]; rfl
theorem N3[ab]:fh P .leq t xo yo (.lit (.int k a)) (.lit (.int k b))=some (bol (decide (a≤b))):=by
 simp only[fh,ep,dg]; rw[eR _ (by simp) (by simp)]; simp[binOp,Op.intCmp]; rfl
theorem Hj[ab]:fh P .gtr t xo yo (.lit (.int k a)) (.lit (.int k b))=some (bol (decide (b<a))):=by
 simp only[fh,ep,dg]; rw[eR _ (by simp) (by simp)]; simp[binOp,Op.intCmp]; rfl
theorem N4[ab]:fh P .geq t xo yo (.lit (.int k a)) (.lit (.int k b))=some (bol (decide (b≤a))):=by
 simp only[fh,ep,dg]; rw[eR _ (by simp) (by simp)]; simp[binOp,Op.intCmp]; rfl
theorem N5[ab]:fh P .eql t xo yo (.lit (.int k a)) (.lit (.int k b))=some (bol (decide (a=b))):=by
 simp only[fh,ep,dg]; rw[eR _ (by simp) (by simp)]; simp[binOp,Op.intCmp]; rfl
theorem N6[ab]:fh P .neq t xo yo (.lit (.int k a)) (.lit (.int k b))=some (bol (!decide (a=b))):=by
 simp only[fh,ep,dg]; rw[eR _ (by simp) (by simp)]; simp[binOp,Op.intCmp]; rfl
theorem BF[ab]:fh P .add t xo yo (.lit (.int k a)) (.lit (.int k b))=some (.lit (.int k (k.wrap (a+b)))):=by
 simp only[fh,ep,dg]; rw[eR _ (by simp) (by simp)]; simp[binOp,Op.intArith]; rfl
theorem Hk[ab]:fh P .sub t xo yo (.lit (.int k a)) (.lit (.int k b))=some (.lit (.int k (k.wrap (a-b)))):=by
 simp only[fh,ep,dg]; rw[eR _ (by simp) (by simp)]; simp[binOp,Op.intArith]; rfl
theorem N7[ab]:fh P .mul t xo yo (.lit (.int k a)) (.lit (.int k b))=some (.lit (.int k (k.wrap (a*b)))):=by
 simp only[fh,ep,dg]; rw[eR _ (by simp) (by simp)]; simp[binOp,Op.intArith]; rfl
end
variable {C:Ctx}
noncomputable def tF[ab](C:Ctx):List (G×Oper)→St→Option Out
 |[],s=>some (.norm s)
 |(g,o)::l,s=>
  match tm s.fr g with
  |none=>none
  |some false=>tF C l { s with fr:=bD s.fr o.dst .undef }
  |some true=>(hY C o s).bind fun
   |.norm s'=>tF C l s'
   |r=>some r
def o7(ops:Array Oper):List (G×Oper):=ops.toList.map fun o=>(eL ops o,o)
theorem pT[ab](ops:Array Oper):∀ (l:List Oper) (s:St),cH (hY C) ops l s=tF C (l.map fun o=>(eL ops o,o)) s
 |[],s=>rfl
 |o::l,s=>by
  simp only[cH,List.map_cons,tF,CG]
  cases hq:tm s.fr (eL ops o) with
  |none=>rfl
  |some b=>
   cases b with
   |false=>exact pT ops l _
   |true=>
    simp only
    cases hY C o s with
    |none=>rfl
    |some r=>
     cases r with
     |norm s'=>exact pT ops l s'
     |_=>rfl
theorem Av[ab](id:Nat)(ops:Array Oper)(s:St):cS C (.region id ops false) s=tF C (o7 ops) (gV (C.iE s.fn id) s):=by
 rw[CX,pT]; rfl
theorem ia[ab][iy C](id:Nat)(ops:Array Oper)(s:St):cS C (.region id ops false) s=tF C (o7 ops) s:=by
 rw[Av,iy.iE (C:=C)]; rfl
theorem jq[ab](s:St):tF C [] s=some (.norm s):=rfl
noncomputable def PU[ab](C:Ctx)(l:List (G×Oper)):Out→Option Out
 |.norm s=>tF C l s
 |r=>some r
theorem dG[ab](o:Oper)(l:List (G×Oper))(s:St):tF C ((.always,o)::l) s=(hY C o s).bind (PU C l):=by
 simp only[tF,tm]
 congr 1
end Go.PI
namespace Go.PI
variable {C:Ctx}
theorem BG(hp:ag)(x:Option AV):(match x with|some x=>(pure ⟨x,[]⟩:RM dk)|none=>RM.fail).run hp=x.map fun x=>⟨x,[]⟩:=by
 cases x<;>rfl
section
variable {P:Program}{nm:Nat}{ev:Operand→AV}{dst:Option Tmp}{type:TypeId}{pos:String}{after:Array Edge}{guard:Option (Nat×Bool)}{hp:ag}
theorem mH{x:Operand}:(aK P nm ev ⟨dst,.move x,type,pos,after,guard⟩).run hp=some ⟨ev x,[]⟩:=rfl
theorem jT{x:Operand}:(aK P nm ev ⟨dst,.assign x,type,pos,after,guard⟩).run hp=some ⟨ev x,[]⟩:=rfl
theorem uR[ab]{op:BinOp}{t yt:TypeId}{x y:Operand}:(aK P nm ev ⟨dst,.binOp op t x y yt,type,pos,after,guard⟩).run hp=(fh P op t x y (ev x) (ev y)).map fun x=>⟨x,[]⟩:=BG _ _
end
section
variable {dst:Option Tmp}{type:TypeId}{pos:String}{after:Array Edge}{guard:Option (Nat×Bool)}{s:St}
theorem mJ[ab][iy C]{x:Operand}:hY C ⟨dst,.move x,type,pos,after,guard⟩ s=((aK C.P s.hp.length (ay s.fr) ⟨dst,.move x,type,pos,after,guard⟩).run s.hp).bind (fR ⟨dst,.move x,type,pos,after,guard⟩ s):=ei rfl s
theorem zH[ab][iy C]{t:TypeId}{n:Nat}{ps:Array (Nat×Operand)}:hY C ⟨dst,.buildSlice t n ps,type,pos,after,guard⟩ s=((aK C.P s.hp.length (ay s.fr) ⟨dst,.buildSlice t n ps,type,pos,after,guard⟩).run s.hp).bind (fR ⟨dst,.buildSlice t n ps,type,pos,after,guard⟩ s):=ei rfl s
theorem Hl[ab][iy C]{t:TypeId}{x:Operand}:hY C ⟨dst,.load t x,type,pos,after,guard⟩ s=((aK C.P s.hp.length (ay s.fr) ⟨dst,.load t x,type,pos,after,guard⟩).run s.hp).bind (fR ⟨dst,.load t x,type,pos,after,guard⟩ s):=ei rfl s
theorem nQ[ab][iy C]{o:BinOp}{t u:TypeId}{x y:Operand}:hY C ⟨dst,.binOp o t x y u,type,pos,after,guard⟩ s=((aK C.P s.hp.length (ay s.fr) ⟨dst,.binOp o t x y u,type,pos,after,guard⟩).run s.hp).bind (fR ⟨dst,.binOp o t x y u,type,pos,after,guard⟩ s):=ei rfl s
theorem KS[ab][iy C]{t:TypeId}{x:Operand}{a b c:Option Operand}:hY C ⟨dst,.slice t x a b c,type,pos,after,guard⟩ s=((aK C.P s.hp.length (ay s.fr) ⟨dst,.slice t x a b c,type,pos,after,guard⟩).run s.hp).bind (fR ⟨dst,.slice t x a b c,type,pos,after,guard⟩ s):=ei rfl s
theorem tG[ab][iy C]{t:TypeId}{x y:Operand}:hY C ⟨dst,.indexAddr t x y,type,pos,after,guard⟩ s=((aK C.P s.hp.length (ay s.fr) ⟨dst,.indexAddr t x y,type,pos,after,guard⟩).run s.hp).bind (fR ⟨dst,.indexAddr t x y,type,pos,after,guard⟩ s):=ei rfl s
theorem jU[ab][iy C]{b:Builtin}{as:Array Operand}{ts:Array TypeId}:hY C ⟨dst,.call ⟨.builtin b,as,ts⟩,type,pos,after,guard⟩ s=((aK C.P s.hp.length (ay s.fr) ⟨dst,.call ⟨.builtin b,as,ts⟩,type,pos,after,guard⟩).run s.hp).bind (fR ⟨dst,.call ⟨.builtin b,as,ts⟩,type,pos,after,guard⟩ s):=ei rfl s
theorem nR[ab][iy C]{t:Tmp}:hY C ⟨dst,.assign (.tmp t),type,pos,after,guard⟩ s=((aK C.P s.hp.length (ay s.fr) ⟨dst,.assign (.tmp t),type,pos,after,guard⟩).run s.hp).bind (fR ⟨dst,.assign (.tmp t),type,pos,after,guard⟩ s):=ei rfl s
theorem KT[ab][iy C]{k:IntKind}{n:Int}:hY C ⟨dst,.assign (.const (.int k n)),type,pos,after,guard⟩ s=((aK C.P s.hp.length (ay s.fr) ⟨dst,.assign (.const (.int k n)),type,pos,after,guard⟩).run s.hp).bind (fR ⟨dst,.assign (.const (.int k n)),type,pos,after,guard⟩ s):=ei rfl s
end
end Go.PI
namespace Go.PI
variable {C:Ctx}
theorem BH{x:AV}:cE [x]=x:=rfl
theorem BI{P:Program}{fr:List AV}{hp:ag}:(aW P fr []).run hp=some []:=rfl
theorem BJ[ab]{P:Program}{fr:List AV}{hp:ag}{t:Tmp}{rs:List ResultVar}:(aW P fr (.tmp t::rs)).run hp=((aW P fr rs).run hp).map fun l=>fr.getD t .undef::l:=by
 simp only[aW,kh,RM.run_bind]
 show (some (fr.getD t .undef)).bind _=_
 simp only[Option.bind_some]
 cases (aW P fr rs).run hp<;>rfl
theorem jr{hp:ag}:ai hp []=hp:=rfl
theorem ya{hp:ag}{n:Nat}{o:aJ}{l:List (Nat×aJ)}:ai hp ((n,o)::l)=ai (setObj hp n o) l:=rfl
theorem r9{hp:ag}{n:Nat}{o:aJ}(h:n=hp.length):setObj hp n o=hp++[some o]:=by simp[setObj,h]
def QZ:Option (Nat×bu)→AV→Option dk
 |some (off,_),.ref n aq i j=>some ⟨.ref n aq i (j+off),[]⟩
 |some (off,_),.bj e j=>some ⟨.bj e (j+off),[]⟩
 |_,_=>none
def KU(x:Option AV):Option dk:=x.map fun x=>⟨x,[]⟩
def Hm(r:bu)(hp:ag):AV→Option AV
 |.ref n aq i j=>match hp[n]? with
  |some (some (.arr _ _ _ es))=>if es.length=aq then (match es[i]? with|some e=>e9 r.isAgg r.size e j|none=>none) else none
  |_=>none
 |.bj e j=>e9 r.isAgg r.size e j
 |_=>none
theorem KV[ab]{P:Program}{t:TypeId}{r:bu}(ht:ff P t=some r){hp:ag}{a:AV}:(kU P t a).run hp=Hm r hp a:=by
 unfold kU Hm
 rw[ht]
 simp only
 cases a with
 |ref n aq i j=>
  simp only[RM.arr]
  show (RM.bind (.get n _) _).run hp=_
  simp only[RM.bind,RM.run]
  cases hp[n]? with
  |none=>rfl
  |some o=>
   cases o with
   |none=>rfl
   |some o=>
    cases o with
    |gw _ _=>rfl
    |arr g c f es=>
     simp only
     split
     ·simp only[RM.bind]
      cases es[i]? with
      |none=>rfl
      |some e=>simp only[RM.iI]
     ·rfl
 |bj e j=>simp only[RM.iI]
 |_=>rfl
section
variable {P:Program}{nm:Nat}{ev:Operand→AV}{dst:Option Tmp}{type:TypeId}{pos:String}{after:Array Edge}{guard:Option (Nat×Bool)}{hp:ag}
theorem N8[ab]{t:TypeId}{x:Operand}{r:bu}(ht:ff P t=some r):(aK P nm ev ⟨dst,.load t x,type,pos,after,guard⟩).run hp=KU (Hm r hp (ev x)):=by
 rw[←KV (P:=P) (t:=t) ht]
 unfold aK
 simp only[RM.run_bind]
 cases (kU P t (ev x)).run hp<;>rfl
end
end Go.PI
namespace Go.PI
variable {C:Ctx}
def N9(hp:ag)(args:List AV)(r':AV):Option (oe×List (Nat×aJ)):=
 cond (flat r') (some (.val r',[])) (((cY 1000 (bS args)).run hp).map fun w=>(.val r',w))
theorem Aw[ab]{hp dQ:ag}{args:List AV}{r:AV}:nM hp args (.val r,dQ)=((a9 1000 r).run dQ).bind (N9 hp args):=by
 simp only[nM,gA]
 cases hq:(a9 1000 r).run dQ with
 |none=>rfl
 |some r'=>
  simp only[Option.bind_some,N9]
  cases flat r' with
  |true=>rfl
  |false=>
   simp only[Bool.false_eq_true,if_false,RM.run_bind,cond_false]
   cases (cY 1000 (bS args)).run hp<;>rfl
theorem FI{f:FuncId}{args:List AV}:bE (.lit (.func (.func f) #[] #[])) args=some (f,args):=by
 simp[bE]
end Go.PI
namespace Go.PI
variable {C:Ctx}
theorem FJ[ab]{a b:Code}{s:St}:Vp C a b s (.lit (.bool true))=cS C a s:=rfl
theorem yb[ab]{a b:Code}{s:St}:Vp C a b s (.lit (.bool false))=cS C b s:=rfl
end Go.PI
namespace Go.PI
variable {C:Ctx}
theorem KW[ab]{b:Code}(Inv:Nat→St→Prop)(Ix:Out→Prop)
  (step:∀ k s,Inv k s→(∃ s',cS C b s=some (.norm s')∧∃ k',k'<k∧Inv k' (gW s.hp.length s'))∨(∃ o,cS C b s=some o∧(∀ s',o≠.norm s')∧Ix o)) :
  ∀ k s,Inv k s→∃ o,cS C (.loop b) s=some o∧Ix o:=by
 intro k
 induction k using Nat.strongRecOn with
 |ind k ih=>
  intro s hs
  rcases step k s hs with ⟨s',h1,k',hk,hi⟩|⟨o,h1,h2,h3⟩
  ·obtain⟨o,h4,h5⟩:=ih k' hk _ hi
   refine⟨o,?_,h5⟩
   rw[nK,h1]
   exact h4
  ·refine⟨o,?_,h3⟩
   rw[nK,h1]
   cases o with
   |norm s'=>exact absurd rfl (h2 s')
   |_=>rfl
theorem Ax[ab]{b:Code}{s:St}{β:Type}{K:Out→Option β}{r:Option β}(Inv:Nat→St→Prop)(Ix:Out→Prop)(k0:Nat)(h0:Inv k0 s)
  (step:∀ k s,Inv k s→(∃ s',cS C b s=some (.norm s')∧∃ k',k'<k∧Inv k' (gW s.hp.length s'))∨(∃ o,cS C b s=some o∧(∀ s',o≠.norm s')∧Ix o))
  (fin:∀ o,Ix o→K o=r):(cS C (.loop b) s).bind K=r:=by
 obtain⟨o,h1,h2⟩:=KW Inv Ix step k0 s h0
 rw[h1]
 exact fin o h2
def Hn(agg:Bool)(size:Nat)(hp:ag):AV→Option AV
 |.ref n aq i j=>match hp[n]? with
  |some (some (.arr _ _ _ es))=>if es.length=aq then (match es[i]? with|some e=>e9 agg size e j|none=>none) else none
  |_=>none
 |.bj e j=>e9 agg size e j
 |_=>none
theorem Oa{r:bu}{agg:Bool}{size:Nat}(h1:r.isAgg=agg)(h2:r.size=size)(hp:ag)(a:AV):Hm r hp a=Hn agg size hp a:=by
 subst h1 h2
 cases a<;>rfl
def nS(agg:Bool)(size:Nat)(i:Nat):AV→Option AV
 |.sl xs=>match xs[i]? with
  |some e=>if aC agg size e=true then some (.bj e 0) else none
  |none=>none
 |.kW xs _=>match xs[i]? with
  |some e=>if aC agg size e=true then some (.bj e 0) else none
  |none=>none
 |.bh esz n aq off len _=>if i<len∧0<size∧esz=size then some (.ref n aq (off+i) 0) else none
 |.iD n aq k j len _=>if i<len then some (.ref n aq k (j+i*size)) else none
 |_=>none
theorem sd{k:IntKind}{n:Nat}:asNat (.lit (.int k (n:Int)))=some n:=by simp[asNat]
def KX(P:Program)(nm:Nat)(ev:Operand→AV)(o:Oper)(hp:ag):Option dk:=(aK P nm ev o).run hp
def Iy(d:Option dk):AV→Option dk
 |.sl xs=>some ⟨int xs.length,[]⟩
 |.kW xs _=>some ⟨int xs.length,[]⟩
 |.bh _ _ _ _ len _=>some ⟨int len,[]⟩
 |.iD _ _ _ _ len _=>some ⟨int len,[]⟩
 |_=>d
theorem KY{P:Program}{t:TypeId}{r:bu}(h:aH P t=some r)(ha:arrayElem P t=none)(x ix:AV):
  fj P t x ix=(asNat ix).bind fun i=>nS r.isAgg r.size i x:=by
 unfold fj
 cases asNat ix with
 |none=>rfl
 |some i=>
  simp only[Option.bind_some,h,ha]
  cases x with
  |sl xs=>simp only[nS]; cases xs[i]?<;>rfl
  |kW xs c=>simp only[nS]; cases xs[i]?<;>rfl
  |_=>rfl
section
variable {P:Program}{nm:Nat}{ev:Operand→AV}{dst:Option Tmp}{type:TypeId}{pos:String}{after:Array Edge}{guard:Option (Nat×Bool)}{hp:ag}
theorem tH[ab]{t:TypeId}{x y:Operand}:(aK P nm ev ⟨dst,.indexAddr t x y,type,pos,after,guard⟩).run hp=KU (fj P t (ev x) (ev y)):=BG _ _
theorem FK{t type:TypeId}{x:Operand}(h:bN P t=true):(aK P nm ev ⟨dst,.call ⟨.builtin .len,#[x],#[t]⟩,type,pos,after,guard⟩).run hp =
  Iy (KX P nm ev ⟨dst,.call ⟨.builtin .len,#[x],#[t]⟩,type,pos,after,guard⟩ hp) (ev x):=by
 cases hx:ev x with
 |sl xs=>simp[aK,dr,hx,h,og,Iy]; rfl
 |kW xs c=>simp[aK,dr,hx,h,og,Iy]; rfl
 |bh a b c d e f=>simp[aK,dr,hx,h,og,Iy]; rfl
 |iD a b c d e f=>simp[aK,dr,hx,h,og,Iy]; rfl
 |_=>rfl
end
end Go.PI
namespace Go.PI
variable {C:Ctx}
theorem cZ[ab]{b:Code}{s:St}:andThen C b (.norm s)=cS C b s:=rfl
theorem tI[ab]{b:Code}{s:St}{i:Nat}:andThen C b (.exit i s)=some (.exit i s):=rfl
theorem eA[ab]{l:List (G×Oper)}{s:St}:PU C l (.norm s)=tF C l s:=rfl
theorem v7{i:Nat}{s:St}:uK i (.norm s)=some (.norm s):=rfl
theorem Ay{i:Nat}{s:St}:uK i (.exit i s)=some (.norm s):=by simp[uK]
theorem yd{rs:Array ResultVar}{s:St}:Kr C rs (.ret s)=((aW C.P s.fr rs.toList).run s.hp).map fun l=>(.val (cE l),s.hp):=rfl
theorem Da{n:Nat}{s:St}(h:(s.hp.take n).all (kJ n)=true):gW n s=⟨s.fn,s.fr.map (forget n),s.hp.take n⟩:=by
 simp[gW,h]
theorem Iz{n:Nat}{v:AV}(h:below n v=true):forget n v=v:=by simp[forget,h]
end Go.PI
namespace Go.PI
theorem BK{d:Option dk}{xs:List AV}:Iy d (.sl xs)=some ⟨int xs.length,[]⟩:=rfl
end Go.PI
namespace Go.PI
end Go.PI
end
section
/- PI, calls whose argument may be a nil slice or not: both are looked at. -/
namespace Go.PI
end Go.PI
end
section
/- PI, the laws: what a law's own call comes to. -/
namespace Go.PI
open Go.RowKit
theorem Ik[ab]{C:Ctx}(bI:C.Ok){f:FuncId}{args:List AV}{cr:ag}(h:iv C f args []=some (.val (.lit (.bool true)),cr))
  {W:World} (hg:m6 (Env.all W)) {vs:List Value} (ha:an (Env.all W) false args vs) :
  Calls C.P f vs.toArray W fun e w'=>e=.returned (.bool true)∧Below W.heap.size W w':=by
 obtain⟨k,hk⟩:=(aX (jm C f args [])).1 h
 refine((sound bI k).1 f args [] _ _ hk (Env.all W) W vs (NU W hg) ha.hX).mono fun e w' c8=>?_
 obtain⟨E',_,_,eX,cB⟩:=c8
 refine⟨?_,eX.os,eX.tape,eX.out,eX.size,fun b hb=>eX.same b hb (fun h=>h.elim)⟩
 cases e with
 |returned v=>simp only[xL,ak]at cB; rw[cB]
 |panicked ch=>exact cB.elim
 |outgrown=>exact cB.elim
end Go.PI
end
section
/- PS, part A: symbolic values over the abstract ones, with typed lists of open length, and the operations on them (definitions only). -/
namespace Go.PI
def aw{α β:Type}(P:α→β→Prop):List α→List β→Prop
 |[],[]=>True
 |x::xs,y::ys=>P x y∧aw P xs ys
 |_,_=>False
def AO{den:Nat→Type}{t t':Nat}(h:t=t')(l:List (den t)):List (den t'):=h▸l
def KK.D:KK→Type
 |.int _=>Int
 |.str=>ByteArray
 |.bool=>Bool
def KK.v:(kk:KK)→kk.D→Value
 |.int q,k=>.int q k
 |.str,k=>.string k
 |.bool,k=>.bool k
def KK.get:(kk:KK)→Value→Option kk.D
 |.int q,v=>(match v with
  |.int q' k=>if q=q' then some k else none
  |_=>none)
 |.str,v=>(match v with
  |.string k=>some k
  |_=>none)
 |.bool,v=>(match v with
  |.bool k=>some k
  |_=>none)
def KK.beq:(kk:KK)→kk.D→kk.D→Bool
 |.int _,(a:Int),(b:Int)=>a==b
 |.str,(a:ByteArray),(b:ByteArray)=>a==b
 |.bool,(a:Bool),(b:Bool)=>a==b
def kS(kk:KK){α:Type}:List (kk.D×α)→kk.D→Option α
 |[],_=>none
 |(k',v)::r,k=>cond (kk.beq k k') (some v) (kS kk r k)
def ng(kk:KK){α:Type}:List (kk.D×α)→kk.D→α→List (kk.D×α)
 |[],k,v=>[(k,v)]
 |(k',v')::r,k,v=>cond (kk.beq k k') ((k',v)::r) ((k',v')::ng kk r k v)
deriving instance DecidableEq for lz
inductive SV(den:Nat→Type):Type where
 |dead
 |hole
 |lit (v:Value)
 |agg (l:List (SV den))
 |jF (l:List (SV den))
 |sl (xs:List (SV den))
 |jw (t:Nat) (l:List (den t))
 |bj (e:SV den) (j:Nat)
 |ref (n c i j:Nat)
 |iD (n c i j len cap:Nat)
 |bh (esz n c:Nat) (rg:Option (Nat×Nat)) (cap:Option Nat)
 |jd (fn:Fn) (first captured:List (SV den))
 |fW (t:TypeId) (v:SV den)
 |mp (y:Bool) (n:Nat)
 |ss (v:SV den) (aY len i:Nat)
 |w8 (t:Nat) (l:List (den t)) (cap:Nat) (b:Bool)
 |nz
instance {den:Nat→Type}:Inhabited (SV den):=⟨.dead⟩
inductive aB(den:Nat→Type):Type where
 |arr (grow cl fz:Bool) (cur:Nat) (es:List (SV den))
 |ca (grow fz:Bool) (cur:Nat) (t:Nat) (l:List (den t))
 |ij
 |kz (kk:KK) (t:Nat) (m:List (kk.D×den t))
 |pg (fn:FuncId) (ps:Array Tmp) (as bd:Code) (fr:List (SV den))
abbrev ah(den:Nat→Type):=List (Option (aB den))
abbrev tb(den:Nat→Type):=List (Nat×SV den)
structure bA(den:Nat→Type)where
 fn:FuncId
 n:Nat
 fr:tb den
 hp:ah den
 wf:List Nat
 wh:List Nat
 js:List (Nat×lz)
inductive ph(den:Nat→Type)where
 |norm (s:bA den)
 |exit (id:Nat) (s:bA den)
 |ret (s:bA den)
inductive Tr:Type→Type 1 where
 |ret {ρ:Type} (r:ρ):Tr ρ
 |fail {ρ:Type}:Tr ρ
 |cond {ρ:Type} (b:Bool) (x y:Tr ρ):Tr ρ
 |bind {ρ α:Type} (e:Option α) (k:α→Tr ρ):Tr ρ
 |loop {ρ τ ω:Type} (f:τ→Tr (τ ⊕ ω)) (x:τ) (k:ω→Tr ρ):Tr ρ
 |sum {ρ α β:Type} (e:α ⊕ β) (k:α→Tr ρ) (l:β→Tr ρ):Tr ρ
 |no {ρ:Type} (why:String):Tr ρ
 |mw {ρ:Type} {den:Nat→Type} (s:bA den) (b:Code):Tr ρ
 |bad {ρ:Type} {den:Nat→Type} (key:Nat) (kind:Option (Option Nat)) (s0 s:bA den):Tr ρ
def kV{τ ω:Type}(f:τ→Option (τ ⊕ ω)):Nat→τ→Option ω
 |0,_=>none
 |n+1,x=>match f x with
  |some (.inl y)=>kV f n y
  |some (.inr w)=>some w
  |none=>none
noncomputable def aI{τ ω:Type}(f:τ→Option (τ ⊕ ω))(x:τ):Option ω:=
 match kV f 4096 x with
 |some w=>some w
 |none=>lO fun n=>kV f n x
noncomputable def Tr.run{ρ:Type}:Tr ρ→Option ρ
 |.ret r=>some r
 |.fail|.no _|.mw _ _|.bad _ _ _ _=>none
 |.cond b x y=>_root_.cond b x.run y.run
 |.bind e k=>_root_.Option.bind e fun a=>(k a).run
 |.loop f x k=>_root_.Option.bind (aI (fun x=>(f x).run) x) fun w=>(k w).run
 |.sum e k l=>Sum.elim (fun a=>(k a).run) (fun b=>(l b).run) e
structure dm where
 den:Nat→Type
 up:(t:Nat)→den t→SV den
 dn:(t:Nat)→SV den→Option (den t)
 rp:(t:Nat)→den t→AV→Prop
 agg:Nat→Bool
 size:Nat→Nat
 zero:(t:Nat)→Option (den t)
 alt:(t:Nat)→Option ((den t→Bool)×(den t→SV den)×(den t→SV den)):=fun _=>none
section
variable {den:Nat→Type}
def aB.cur:aB den→Nat
 |.arr _ _ _ c _=>c
 |.ca _ _ c _ _=>c
 |_=>0
def aB.len:aB den→Nat
 |.arr _ _ _ _ es=>es.length
 |.ca _ _ _ _ l=>l.length
 |_=>0
def LS:Value→SV den
 |.agg c=>if c.toList.all (fun v=>bf (.lit v))=true then .agg (c.toList.map .lit) else .dead
 |.tuple c=>.jF (c.toList.map .lit)
 |v=>.lit v
def cL:tb den→Nat→SV den
 |[],_=>.lit undef
 |(d,v)::r,t=>match Nat.beq d t with
  |true=>v
  |false=>cL r t
def cX[ab](fr:tb den):Operand→SV den
 |.tmp t=>cL fr t
 |.const v=>LS v
 |.global g=>(match ab.g g with
  |none=>.lit (.pointer (some ⟨g,0,none⟩))
  |some c=>.bj (.agg (c.toList.map .lit)) 0)
 |.func f=>.lit (.func (.func f) #[] #[])
def tX(n:Nat)(fr:tb den)(d:Nat)(v:SV den):tb den:=
 match Nat.ble n d with
 |true=>fr
 |false=>(d,v)::fr
def LU(n:Nat)(fr:tb den)(dst:Option Tmp)(v:SV den):tb den:=
 match dst with
 |some d=>tX n fr d v
 |none=>fr
def mN:Nat→List (SV den)→tb den
 |_,[]=>[]
 |d,v::r=>(d,v)::mN (d+1) r
def bM(hp:ah den)(n:Nat)(o:aB den):ah den:=
 if n=hp.length then hp++[some o] else hp.set n (some o)
def aP(hp:ah den):List (Nat×aB den)→ah den
 |[]=>hp
 |(n,o)::r=>aP (bM hp n o) r
def bQ:SV den→Bool
 |.dead=>true
 |_=>false
def gL:SV den→Bool
 |.lit v=>match v with
  |.agg _|.tuple _=>false
  |_=>true
 |.agg _|.jF _|.dead|.hole=>false
 |_=>true
mutual
def aE:SV den→Bool
 |.lit _|.sl _|.jw _ _|.bj _ _|.w8 _ _ _ _=>true
 |.agg l|.jF l=>av l
 |.fW _ v=>aE v
 |.ss v _ _ _=>aE v
 |.jd _ f c=>av f&&av c
 |_=>false
def av:List (SV den)→Bool
 |[]=>true
 |x::xs=>aE x&&av xs
end
mutual
def wz:SV den→Bool
 |.lit _=>true
 |.agg l|.jF l=>B4 l
 |.fW _ v=>wz v
 |_=>false
def B4:List (SV den)→Bool
 |[]=>true
 |x::xs=>wz x&&B4 xs
end
mutual
def bx(n:Nat):SV den→Bool
 |.lit _|.sl _|.jw _ _|.bj _ _|.w8 _ _ _ _|.hole|.nz=>true
 |.agg l|.jF l=>gM n l
 |.fW _ v=>bx n v
 |.jd _ f c=>gM n f&&gM n c
 |.ss v _ _ _=>bx n v
 |.ref m _ _ _|.iD m _ _ _ _ _|.bh _ m _ _ _|.mp _ m=>decide (m<n)
 |.dead=>false
def gM(n:Nat):List (SV den)→Bool
 |[]=>true
 |x::xs=>bx n x&&gM n xs
end
def ko(n:Nat):Option (aB den)→Bool
 |some (.arr _ cl _ _ es)=>cl||gM n es
 |some (.ca ..)=>true
 |some .ij=>true
 |some (.kz ..)=>true
 |some (.pg _ _ _ _ fr)=>fr.all fun v=>bQ v||bx n v
 |none=>true
mutual
def nh:SV den→List Nat
 |.ref n _ _ _|.iD n _ _ _ _ _|.bh _ n _ _ _|.mp _ n=>[n]
 |.ss v _ _ _=>nh v
 |.agg l|.jF l=>lj l
 |.fW _ v=>nh v
 |.jd _ f c=>lj f++lj c
 |_=>[]
def lj:List (SV den)→List Nat
 |[]=>[]
 |x::xs=>nh x++lj xs
end
def bK:SV den→List (SV den)
 |.agg l=>l
 |.lit v=>v.cells.toList.map .lit
 |x=>[x]
def mO:List (SV den)→Option (List Value)
 |[]=>some []
 |.lit v::r=>(mO r).map (v::·)
 |_=>none
def ni:SV den→Option AV
 |.lit v=>some (.lit v)
 |.agg l=>(mO l).map fun c=>.agg (c.map .lit)
 |_=>none
def n7(agg:Bool)(size:Nat)(e:SV den)(j:Nat):Option (SV den):=
 match e with
 |.agg l=>
  if agg then (if j+size≤l.length then some (.agg ((l.drop j).take size)) else none)
  else l[j]?
 |x=>if !agg&&gL x&&decide (j=0) then some x else none
def iW(l:List (SV den))(j:Nat):List (SV den)→List (SV den)
 |[]=>l
 |x::xs=>iW (l.set j x) (j+1) xs
def gi(e:SV den)(j:Nat)(cs:List (SV den)):Option (SV den):=
 match e with
 |.agg l=>if j+cs.length≤l.length then some (.agg (iW l j cs)) else none
 |x=>match cs with
  |[y]=>if gL x&&decide (j=0) then some y else none
  |_=>none
def AP(place:Nat→Option (Nat×Nat))(cells:List (SV den)):List (Nat×SV den)→Option (List (SV den))
 |[]=>some cells
 |(i,v)::rest=>
  match place i with
  |none=>none
  |some (off,size)=>
   if (bK v).length=size∧off+size≤cells.length∧(bK v).all gL=true then
    AP place (iW cells off (bK v)) rest
   else none
def ll(agg:Bool)(size:Nat)(e:SV den):Bool:=
 match e with
 |.agg l=>agg&&decide (l.length=size)&&l.all gL
 |x=>!agg&&decide (size=1)&&gL x
def gN:AV→Option (SV den)
 |.lit v=>some (.lit v)
 |.agg l=>(cV l).map fun c=>.agg (c.map .lit)
 |_=>none
def fE(es:List (SV den)):List (Nat×SV den)→List (SV den)
 |[]=>es
 |(i,v)::r=>fE (es.set i v) r
def HJ:SV den→Bool
 |.sl xs=>!xs.isEmpty
 |_=>false
def B5(P:Program)(op:BinOp)(t:TypeId)(x:SV den)(nil:Value):Option AV:=
 match nil with
 |.nilIface=>(match x with
  |.fW _ (.agg _)|.fW _ (.ref ..)=>if jJ P t then lG op false else none
  |_=>none)
 |.nilFunc=>(match x with
  |.jd _ _ _=>if td P t then lG op false else none
  |_=>none)
 |.slice none 0 0=>if bN P t&&HJ x then lG op false else none
 |_=>none
end
inductive CK where
 |bool
 |int (k:IntKind)
 |str
 deriving DecidableEq
inductive MK where
 |slice (e:Nat)
 |array (n e:Nat)
 |struct (fs:List (Nat×Nat))
 |iface
 |other
 deriving DecidableEq
structure kp where
 agg:Bool
 size:Nat
 bytes:Nat
 zero:Option AV
 kind:MK
 Qa:Option (List CK)
 map:Option (KK×Nat)
structure gO where
 P:Program
 M:List (Nat×kp)
 tY:Nat→Bool
def cq{α:Type}:List (Nat×α)→Nat→Option α
 |[],_=>none
 |(m,a)::r,n=>match Nat.beq m n with
  |true=>some a
  |false=>cq r n
def HK{α:Type}:List (Nat×Nat×α)→Nat→Nat→Option α
 |[],_,_=>none
 |(m,m',a)::r,n,n'=>match Nat.beq m n&&Nat.beq m' n' with
  |true=>some a
  |false=>HK r n n'
namespace gO
def ty(Q:gO)(t:Nat):Option kp:=cq Q.M t
def elemOf(Q:gO)(t:Nat):Option (Nat×kp):=
 match Q.ty t with
 |some m=>match m.kind with
  |.slice e=>(Q.ty e).map fun r=>(e,r)
  |_=>none
 |none=>none
def elem(Q:gO)(t:Nat):Option kp:=(Q.elemOf t).map (·.2)
def arr(Q:gO)(t:Nat):Option (Nat×kp):=
 match Q.ty t with
 |some m=>match m.kind with
  |.array n e=>(Q.ty e).map fun r=>(n,r)
  |_=>none
 |none=>none
def VR(Q:gO)(t f:Nat):Option (Nat×kp):=
 match Q.ty t with
 |some m=>match m.kind with
  |.struct fs=>match fs[f]? with
   |some (off,e)=>match Q.ty e with
    |some r=>if r.size=0 then none else some (off,r)
    |none=>none
   |none=>none
  |_=>none
 |none=>none
def mapOf(Q:gO)(t:Nat):Option (KK×Nat):=(Q.ty t).bind (·.map)
def isSlice(Q:gO)(t:Nat):Option Bool:=
 match Q.ty t with
 |some m=>match m.kind with
  |.slice _=>some true
  |_=>some false
 |none=>none
def u9(Q:gO):List (Nat×Nat)→Option (List (Nat×Nat))
 |[]=>some []
 |(off,e)::r=>match Q.ty e,u9 Q r with
  |some m,some l=>some ((off,m.size)::l)
  |_,_=>none
end gO
inductive VT where
 |v (t:Nat)
 |l (t:Nat)
 |m (kk:KK) (t:Nat)
 deriving DecidableEq
def VT.den(den:Nat→Type):VT→Type
 |.v t=>den t
 |.l t=>List (den t)
 |.m kk t=>List (kk.D×den t)
def HL(den:Nat→Type):List VT→Type
 |[]=>Unit
 |[t]=>t.den den
 |t::u::r=>t.den den×HL den (u::r)
structure TV(den:Nat→Type)where
 t:VT
 x:t.den den
section
variable {den:Nat→Type}
def TV.as(v:TV den)(t:VT):Option (t.den den):=if h:v.t=t then some (h▸v.x) else none
def vb:(ts:List VT)→List (TV den)→Option (HL den ts)
 |[],l=>(match l with
  |[]=>some ()
  |_::_=>none)
 |[t],l=>(match l with
  |[v]=>v.as t
  |_=>none)
 |t::u::r,l=>(match l with
  |v::l'=>(v.as t).bind fun x=>(vb (u::r) l').map fun y=>(x,y)
  |[]=>none)
def gl:(ts:List VT)→HL den ts→List (TV den)
 |[],_=>[]
 |[t],x=>[⟨t,x⟩]
 |t::u::r,x=>⟨t,x.1⟩::gl (u::r) x.2
end
section
variable (T:dm)
def I0:(ts:List Nat)→List (SV T.den)→Option (List (TV T.den))
 |[],[]=>some []
 |t::ts,v::vs=>(T.dn t v).bind fun x=>(I0 ts vs).map fun l=>⟨.v t,x⟩::l
 |_,_=>none
def pa(t:Nat):List (SV T.den)→Option (List (T.den t))
 |[]=>some []
 |v::vs=>(T.dn t v).bind fun x=>(pa t vs).map fun l=>x::l
def TY:TV T.den→SV T.den
 |⟨.v t,x⟩=>T.up t x
 |⟨.l t,x⟩=>.jw t x
 |⟨.m _ _,_⟩=>.dead
def Rq(l:List (TV T.den)):List (SV T.den):=l.map (TY T)
end
def rA{den:Nat→Type}:List (SV den)→SV den
 |[x]=>x
 |l=>.jF l
structure vf(T:dm)where
 args:List Nat
 res:List Nat
 fn:HL T.den (args.map .v)→Option (HL T.den (res.map .v))
inductive pj where
 |hole
 |I3 (esz n:Nat) (rg:Option (Nat×Nat)) (cap:Option Nat)
 |iD (n i j len cap:Nat)
 |val (t:Nat)
 |own (esz n:Nat)
 |SB (esz n t:Nat) (k:Bool)
inductive cR where
 |list (t:Nat)
 |fix (t:Nat)
 |one (p:pj)
 |agg (ps:List pj)
 |map (kk:KK) (t:Nat)
inductive pk where
 |ij
 |list (g f:Bool) (t:Nat)
structure B6 where
 kind:Option Nat
 az:List (Nat×pj)
 ext:List pk
 js:List (Nat×lz)
 more:List (Nat×cR)
structure Hint where
 az:List (Nat×pj)
 dead:List Nat
 objs:List (Nat×cR)
 outs:List B6
def pj.jY:pj→List VT
 |.hole|.I3 _ _ _ _|.iD _ _ _ _ _=>[]
 |.val t=>[.v t]
 |.own _ _=>[]
 |.SB _ _ t k=>(match k with
  |true=>[.v t,.v t,.v t]
  |false=>[.v t,.v t])
def cR.jY:cR→List VT
 |.list t|.fix t=>[.l t]
 |.one p=>p.jY
 |.agg ps=>ps.flatMap pj.jY
 |.map kk t=>[.m kk t]
def pk.jY:pk→List VT
 |.ij=>[]
 |.list _ _ t=>[.l t]
def jx(objs more:List (Nat×cR)):List (Nat×cR):=objs.filter (fun q=>!(more.map (·.1)).contains q.1)++more
def B6.jY(objs:List (Nat×cR))(o:B6):List VT:=o.az.flatMap (fun q=>q.2.jY)++((jx objs o.more).flatMap (fun q=>q.2.jY)++o.ext.flatMap pk.jY)
def Hint.jY(h:Hint):List VT:=h.az.flatMap (fun q=>q.2.jY)++h.objs.flatMap (fun q=>q.2.jY)
def zT(den:Nat→Type)(objs:List (Nat×cR)):List B6→Type
 |[]=>Empty
 |[o]=>HL den (o.jY objs)
 |o::p::r=>HL den (o.jY objs) ⊕ zT den objs (p::r)
end Go.PI
end
