/- Part 2 of the proof: texts of this session laid one behind the other. -/
import Derived.OrdersIn
import Derived.TacticsIn
import Derived.RangeFuncLeaves
import Derived.RecoverIn
import Derived.SizedLaws
import Derived.ChangeSlices
import Derived.OpenShut
import Derived.ShutString
import Derived.IntWalk
import Derived.Below
import Derived.Test.YtedjbjphpnkpoaaX1
set_option linter.unusedVariables false
set_option linter.unusedSimpArgs false
section
/- PI, part V: a region whose order is drawn, in the world. -/
namespace Go.PI
def WF(r:Option Nat):Fence:={ Fence.wide with round:=r }
structure oJ where
 n:Nat
 tl:List Deferred:=[]
 rg:Bool:=true
 lb:Option Nat:=none
def Marks(B:oJ)(E:Env)(w:World)(ds:List Deferred):Prop:=
 ∃ rs:List Nat,ds=rs.map (fun r=>{ target:=.collected r,args:=#[] })++B.tl∧rs.Nodup∧((B.rg=false→rs=[])∧∀ b,B.lb=some b→∃ r0:Loop,w.heap[b]?=some (.loop r0))∧∀ r∈rs,B.n≤r∧¬E.own r∧w.heap[r]?=some (.deferred (some []))
theorem Marks.nil{n:Nat}{m:Bool}{E:Env}{w:World}:Marks ⟨n,[],m,none⟩ E w []:=⟨[],rfl,List.nodup_nil,⟨fun _=>rfl,fun _ h=>by cases h⟩,by simp⟩
theorem Marks.U7{n:Nat}{b:Nat}{r:Loop}{E:Env}{w:World}(h:w.heap[b]?=some (.loop r)):Marks ⟨n,[],true,some b⟩ E w []:=⟨[],rfl,List.nodup_nil,⟨fun _=>rfl,fun _ h'=>by cases h'; exact⟨r,h⟩⟩,by simp⟩
theorem Marks.mono{B:oJ}{E E':Env}{w w':World}{ds:List Deferred}(h:Marks B E w ds)(hf:Fr E w E' w'):Marks B E' w' ds:=by
 obtain⟨rs,h1,h2,T5,h3⟩:=h
 refine⟨rs,h1,h2,⟨T5.1,fun b hb=>by obtain⟨r0,h⟩:=T5.2 b hb; exact hf.lp b r0 h⟩,fun r hr=>?_⟩
 obtain⟨a,b,c⟩:=h3 r hr
 have cd:r<w.heap.size:=(Array.getElem?_eq_some_iff.1 c).1
 refine⟨a,fun ho=>?_,by rw[hf.same r cd b]; exact c⟩
 rcases hf.own r ho with h|h
 ·exact b h
 ·omega
structure cG[ab](B:oJ)(E:Env)(s:St)(a:Act)(w:World):Prop where
 fr:an E true s.fr a.tmps.toList
 inv:Inv E s.hp w
 df:Marks B E w a.defers
 bs:B.n≤w.heap.size
theorem gk{E:Env}{fr:List AV}{a:Act}{dst:Option Tmp}{x:AV}{v:Value}(h:an E true fr a.tmps.toList)(hx:aj E true x v):
  an E true (bC fr dst x) (a.put dst v).tmps.toList:=by
 cases dst with
 |none=>exact h
 |some d=>
  simp only[bC,Act.put,Array.toList_setIfInBounds]
  exact h.set d hx
theorem put_defers(a:Act)(dst:Option Tmp)(v:Value):(a.put dst v).defers=a.defers:=by cases dst<;>rfl
theorem zX{E:Env}:∀ (c:List Value),(∀ x∈c,iu x=true)→aH E false (c.map .lit) c
 |[],_=>by simp[aH]
 |x::r,h=>by
  simp only[List.map_cons,aH]
  exact⟨by simp[aj],h x (by simp),zX r fun y hy=>h y (by simp[hy])⟩
theorem J3[ab]{E:Env}(hg:mG E)(g:Nat):aj E true (BS g (ab.g g)) (.pointer (some ⟨g,0,none⟩)):=by
 cases h:ab.g g with
 |none=>simp[BS,aj]
 |some c=>
  obtain⟨h1,h2⟩:=hg g c h
  simp only[BS,aj]
  refine⟨g,0,c,.agg c,rfl,h1,⟨c.toList,by simp,zX _ h2⟩,?_⟩
  refine⟨rfl,fun q _=>by simp[Value.cells],fun x hx=>h2 x (by simpa[Value.cells] using hx)⟩
theorem gR[ab]{E:Env}{fr:List AV}{a:Act}(hg:mG E)(h:an E true fr a.tmps.toList)(x:Operand):aj E true (az fr x) (a.eval x):=by
 cases x with
 |tmp t=>
  simp only[az,Act.eval,List.getD]
  cases hq:fr[t]? with
  |none=>
   have hl:=h.length
   have:a.tmps[t]?=none:=by
    simp_all
   simp[Array.getD_eq_getD_getElem?,this,aj]
  |some y=>
   obtain⟨v,hv,hr⟩:=h.get hq
   have:a.tmps[t]?=some v:=by simpa using hv
   simpa[Array.getD_eq_getD_getElem?,this] using hr
 |const v=>
  simp only[az,Act.eval]
  unfold nQ
  split
  ·rename_i c
   split
   ·rename_i h; exact nh (.agg c) (fun c' hc=>by cases hc; exact h)
   ·simp[aj]
  ·rename_i dM
   exact nh v (fun c hc=>absurd hc (dM c))
 |global g=>exact J3 hg g
 |func f=>simp[az,Act.eval,aj]
def rK[ab](P:Program)(step:Nat→Oper→List AV→RM dg):Prop:=
 ∀ (r:Option Nat) (x:Item) (B:oJ) (E:Env) (s:St) (a:Act) (w:World) (e:dg) (K:Act→World→Prop) (Q:Exit→Act→World→Prop),cG B E s a w →
   (au x.o.op=true→s.hp[x.nm]?=some none)→(step (x.at s.hp.length) x.o s.fr).run s.hp=some e →
   (∀ E' w' v,Ext E E'→Fr E w E' w'→Inv E' (ai s.hp e.wr) w'→aj E' true e.val v→K (a.put x.o.dst v) w')→x.o.wpIn (WF r) 0 P a w K Q
theorem k7{ops:Array Oper}{E:Env}{fr:List AV}{a:Act}(h:an E true fr a.tmps.toList){o:Oper}{b:Bool}(hw:cF ops fr o=some b):
  Region.wanted o (yielded ops a.tmps)=b:=by
 unfold cF at hw
 unfold Region.wanted
 cases hg:o.guard with
 |none=>rw[hg]at hw; simpa using hw
 |some g=>
  obtain⟨j,want⟩:=g
  rw[hg]at hw
  simp only at hw ⊢
  unfold yielded
  cases hd:(ops[j]?).bind (·.dst) with
  |none=>
   rw[hd]at hw
   simp only[Option.some.injEq]at hw; subst hw
   simp
  |some d=>
   rw[hd]at hw
   simp only[Option.bind_some]at hw ⊢
   cases hq:fr[d]? with
   |none=>
    rw[hq]at hw
    simp only[Option.some.injEq]at hw; subst hw
    have hl:=h.length
    have:a.tmps[d]?=none:=by
     simp_all
    simp[this]
   |some y=>
    rw[hq]at hw
    obtain⟨v,hv,hr⟩:=h.get hq
    have jP:a.tmps[d]?=some v:=by simpa using hv
    split at hw
    ·rename_i heq; simp at heq
    ·rename_i b' heq
     simp only[Option.some.injEq]at heq hw
     subst heq
     simp only[aj]at hr
     subst hr; subst hw
     simp[jP]
    ·rename_i c heq
     simp only[Option.some.injEq]at heq hw
     subst heq
     simp only[aj]at hr
     subst hr; subst hw
     simp[jP]
    ·simp at hw
section
variable {step:Nat→Oper→List AV→RM dg}{ops:Array Oper}
theorem pG:∀ (l:List Oper) (acc:List Nat) (f:List Nat→Oper→List Nat),
  (f=fun acc o=>acc++[iV acc o.after.toList])→∀ i,i<acc.length→(l.foldl f acc).getD i 0=acc.getD i 0
 |[],acc,f,_,i,_=>rfl
 |o::r,acc,f,hf,i,hi=>by
  simp only[List.foldl_cons]
  rw[pG r (f acc o) f hf i (by subst hf; simp; omega)]
  subst hf
  simp[List.getD,List.getElem?_append_left hi]
theorem vE{a b:List Nat}:∀ {l:List Edge},(∀ e∈l,Region.binds .any e=true→a.getD e.on 0=b.getD e.on 0)→iV a l=iV b l
 |[],_=>rfl
 |e::l,h=>by
  have:=vE (l:=l) fun e he=>h e (by simp[he])
  unfold iV
  split
  ·rename_i hb
   rw[this,h e (by simp) hb]
  ·exact this
theorem qm{a:List Nat}{p:Nat}:∀ {l:List Edge},(iV a l).testBit p=true→∃ e∈l,Region.binds .any e=true∧(p=e.on∨rC a e.on p=true)
 |[],h=>by simp[iV]at h
 |e::l,h=>by
  unfold iV at h
  split at h
  ·rename_i hb
   simp only[Nat.testBit_or,Bool.or_eq_true]at h
   rcases h with (h|h)|h
   ·grind
   ·exact⟨e,by simp,hb,.inr h⟩
   ·obtain⟨e',he,h'⟩:=qm (l:=l) h
    exact⟨e',by simp[he],h'⟩
  ·obtain⟨e',he,h'⟩:=qm (l:=l) h
   exact⟨e',by simp[he],h'⟩
theorem zY{m:Region.Mode}{p:Nat}:∀ {l:List Edge},(∃ e∈l,Region.binds m e=true∧p=e.on)→(zo m l).testBit p=true
 |[],h=>by simp at h
 |e::l,h=>by
  obtain⟨e',he,hb,rfl⟩:=h
  unfold zo
  cases he with
  |head=>simp[hb,Nat.testBit_or]
  |tail _ he=>
   have:=zY (l:=l) ⟨e',he,hb,rfl⟩
   split
   ·simp[Nat.testBit_or,this]
   ·exact this
theorem Cq[ab]{m:Region.Mode}{T:Nat→Prop}:∀ (l:List Oper) (i M:Nat),(∀ j,M.testBit j=true→T j) →
  (∀ k o,l[k]?=some o→(∀ e∈o.after.toList,Region.binds m e=true→T e.on)→T (i+k))→∀ j,(FZ m i l M).testBit j=true→T j
 |[],i,M,hM,_,j,h=>hM j h
 |o::r,i,M,hM,hs,j,h=>by
  unfold FZ at h
  refine Cq r (i+1) _ ?_ (fun k o hk he=>by have:=hs (k+1) o (by simpa using hk) he; rwa [show i+1+k=i+(k+1) by omega]) j h
  intro j hj
  split at hj
  ·rename_i ta
   rw[Nat.testBit_or,Bool.or_eq_true]at hj
   rcases hj with hj|hj
   ·exact hM j hj
   ·rw[Nat.testBit_two_pow]at hj
    have Mj:i=j:=by simpa using hj
    subst Mj
    refine hs 0 o rfl fun e he hb=>hM _ ?_
    have h1:=zY (p:=e.on) ⟨e,he,hb,rfl⟩
    rw[←ta,Nat.testBit_and,Bool.and_eq_true]at h1
    exact h1.2
  ·exact hM j hj
theorem Cr[ab]{m:Region.Mode}{T:Nat→Prop}{l:List Oper}(hs:∀ k o,l[k]?=some o→(∀ e∈o.after.toList,Region.binds m e=true→T e.on)→T k):
  ∀ (k M:Nat),(∀ j,M.testBit j=true→T j)→∀ j,(F0 m l k M).testBit j=true→T j
 |0,M,hM,j,h=>hM j h
 |k+1,M,hM,j,h=>by
  unfold F0 at h
  exact Cr hs k _ (Cq l 0 M hM (fun q o hq he=>by simpa using hs q o hq he)) j h
theorem ET[ab]{m:Region.Mode}(h:pd m ops=true){T:Nat→Prop}(hs:∀ k o,ops[k]?=some o→(∀ e∈o.after.toList,Region.binds m e=true→T e.on)→T k):∀ i,i<ops.size→T i:=by
 intro i hi
 have h1:=List.all_eq_true.1 h i (List.mem_range.2 hi)
 exact Cr (l:=ops.toList) (fun k o hk he=>hs k o (by simpa using hk) he) 8 0 (by simp) i h1
theorem qn[ab]:∀ (l:List Oper) (acc:List Nat) (k:Nat) (o:Oper),l[k]?=some o→(∀ e∈o.after.toList,Region.binds .any e=true→e.on<acc.length+k) →
  (l.foldl (fun acc o=>acc++[iV acc o.after.toList]) acc).getD (acc.length+k) 0 =
    iV (l.foldl (fun acc o=>acc++[iV acc o.after.toList]) acc) o.after.toList
 |[],acc,k,o,h,_=>by simp at h
 |p::r,acc,0,o,h,he=>by
  simp only[List.getElem?_cons_zero,Option.some.injEq]at h
  subst h
  simp only[List.foldl_cons,Nat.add_zero]
  rw[pG r _ _ rfl acc.length (by simp)]
  have h1:(acc++[iV acc p.after.toList]).getD acc.length 0=iV acc p.after.toList:=by
   simp[List.getD]
  rw[h1]
  apply vE
  intro e U8 hb
  have cd:e.on<acc.length:=by simpa using he e U8 hb
  rw[pG r _ _ rfl e.on (by simp; omega)]
  simp[List.getD,List.getElem?_append_left cd]
 |p::r,acc,k+1,o,h,he=>by
  simp only[List.getElem?_cons_succ]at h
  simp only[List.foldl_cons]
  have:=qn r (acc++[iV acc p.after.toList]) k o h (fun e U8 hb=>by have:=he e U8 hb; simp; omega)
  simp only[List.length_append,List.length_cons,List.length_nil]at this
  have e1:acc.length+(0+1)+k=acc.length+(k+1):=by omega
  rw[e1]at this
  exact this
theorem gl:∀ (l:List Oper) (i:Nat),kE i l=true→∀ k o,l[k]?=some o→∀ e∈o.after.toList,Region.binds .any e=true→e.on<i+k
 |[],i,_,k,o,h=>by simp at h
 |p::r,i,h,0,o,hk=>by
  simp only[List.getElem?_cons_zero,Option.some.injEq]at hk
  subst hk
  simp only[kE,Bool.and_eq_true]at h
  intro e he hb
  have:=List.all_eq_true.1 h.1 e he
  simpa[hb] using this
 |p::r,i,h,k+1,o,hk=>by
  simp only[List.getElem?_cons_succ]at hk
  simp only[kE,Bool.and_eq_true]at h
  intro e he hb
  have:=gl r (i+1) h.2 k o hk e he hb
  omega
theorem ti{pr:List Nat}:∀ (l:List Oper) (i:Nat),sM ops pr i l=true→∀ j k o p,j<k→l[j]?=some o→l[k]?=some p →
  rC pr (i+k) (i+j)=true∨Oper.apart ops o p=true
 |[],i,_,j,k,o,p,_,h,_=>by simp at h
 |q::r,i,h,0,k+1,o,p,_,ho,hp=>by
  simp only[List.getElem?_cons_zero,Option.some.injEq]at ho
  subst ho
  simp only[List.getElem?_cons_succ]at hp
  simp only[sM,Bool.and_eq_true]at h
  have Cl:(p,i+1+k)∈r.zipIdx (i+1):=by
   grind
  have:=List.all_eq_true.1 h.1 _ Cl
  simp only[Bool.or_eq_true]at this
  have e1:i+1+k=i+(k+1):=by omega
  rw[e1]at this
  simpa using this
 |q::r,i,h,j+1,k+1,o,p,Na,ho,hp=>by
  simp only[List.getElem?_cons_succ]at ho hp
  simp only[sM,Bool.and_eq_true]at h
  have:=ti r (i+1) h.2 j k o p (by omega) ho hp
  have e1:i+1+j=i+(j+1):=by omega
  have e2:i+1+k=i+(k+1):=by omega
  rw[e1,e2]at this
  exact this
 |q::r,i,h,j,0,o,p,Na,_,_=>by omega
theorem kO[ab]:∀ (l:List Oper) (i n:Nat) (k:Nat) (x:Item),(bD i n l)[k]?=some x →
  x.idx=i+k∧l[k]?=some x.o∧n≤x.nm∧(au x.o.op=true→x.nm<n+(l.filter fun o=>au o.op).length)
 |[],i,n,k,x,h=>by simp[bD]at h
 |o::r,i,n,0,x,h=>by
  simp only[bD,List.getElem?_cons_zero,Option.some.injEq]at h
  subst h
  refine⟨rfl,rfl,Nat.le_refl _,fun ha=>?_⟩
  simp only at ha
  simp[ha]
 |o::r,i,n,k+1,x,h=>by
  simp only[bD,List.getElem?_cons_succ]at h
  obtain⟨h1,h2,h3,h4⟩:=kO r (i+1) _ k x h
  refine⟨by omega,by simpa using h2,?_,fun ha=>?_⟩
  ·split at h3<;>omega
  ·grind
theorem xG[ab]:∀ (l:List Oper) (i n:Nat) (j k:Nat) (x y:Item),j<k→(bD i n l)[j]?=some x→(bD i n l)[k]?=some y→au x.o.op=true→x.nm<y.nm
 |[],i,n,j,k,x,y,_,h,_,_=>by simp[bD]at h
 |o::r,i,n,0,k+1,x,y,_,hx,hy,ha=>by
  simp only[bD,List.getElem?_cons_zero,Option.some.injEq]at hx
  subst hx
  simp only[bD,List.getElem?_cons_succ]at hy
  simp only at ha
  have:=(kO r (i+1) _ k y hy).2.2.1
  rw[if_pos ha]at this
  exact this
 |o::r,i,n,j+1,k+1,x,y,Na,hx,hy,ha=>by
  simp only[bD,List.getElem?_cons_succ]at hx hy
  exact xG r (i+1) _ j k x y (by omega) hx hy ha
 |o::r,i,n,j,0,x,y,Na,_,_,_=>by omega
theorem lH[ab]:∀ (l:List Oper) (i n:Nat),(bD i n l).length=l.length
 |[],_,_=>rfl
 |o::r,i,n=>by simp[bD,lH r]
theorem pH[ab]:∀ (R:List Item) (s s':St) (fs:List fk),cw step ops R s=some (s',fs)→fs.map (·.idx)=R.map (·.idx)
 |[],s,s',fs,h=>by
  simp_all[cw]
 |x::r,s,s',fs,h=>by
  obtain⟨s1,f,D5,h1,h2,rfl⟩:=kN h
  have ih:=pH r s1 s' D5 h2
  have:f.idx=x.idx:=by
   rcases lG h1 with ⟨_,_,rfl⟩|⟨_,_,_,_,_,rfl⟩<;>rfl
  simp[ih,this]
theorem tj{pr:List Nat}:∀ (fs:List fk),eO pr fs=true→∀ (j k:Nat) (f g:fk),j<k→fs[j]?=some f→fs[k]?=some g→rD pr f g=true
 |[],_,j,k,f,g,_,h,_=>by simp at h
 |q::r,h,0,k+1,f,g,_,hf,hg=>by
  grind[eO]
 |q::r,h,j+1,k+1,f,g,Na,hf,hg=>by
  simp only[List.getElem?_cons_succ]at hf hg
  simp only[eO,Bool.and_eq_true]at h
  exact tj r h.2 j k f g (by omega) hf hg
 |q::r,h,j,0,f,g,Na,_,_=>by omega
theorem zZ{a b:List Nat}(h:Ek a b=true):∀ n∈a,n∉b:=by
 intro n hn hb
 have:=List.all_eq_true.1 h n hn
 simp[hb]at this
end
end Go.PI
end
section
/- PI, part W: a region whose order is drawn, in the world: the induction. -/
namespace Go.PI
section
variable {step:Nat→Oper→List AV→RM dg}{ops:Array Oper}
structure Left[ab](ops:Array Oper)(pr:List Nat)(m:Nat)(R:List Item)(aL:Array Bool):Prop where
 size:aL.size=ops.size
 item:∀ x∈R,ops[x.idx]?=some x.o∧aL.getD x.idx true=false∧x.idx<m
 sorted:R.Pairwise (fun x y=>x.idx<y.idx)
 all:∀ i,i<ops.size→aL.getD i true=false→i<m→∃ x∈R,x.idx=i
 rest:∀ i,m≤i→i<ops.size→aL.getD i true=false
 down:∀ i o,ops[i]?=some o→aL.getD i true=true→∀ p,rC pr i p=true→aL.getD p false=true
 names:R.Pairwise (fun x y=>au x.o.op=true→x.nm<y.nm)
theorem tk{a:Array Bool}{i:Nat}(h:i<a.size)(x y:Bool):a.getD i x=a.getD i y:=by
 simp[Array.getD,h]
theorem HD{m:Region.Mode}{e:Edge}(h:Region.binds .any e=true):Region.binds m e=true:=by
 grind[Region.binds]
theorem Cs[ab]{md:Region.Mode}(vF:pd md ops=true){aL:Array Bool}(dj:aL.size=ops.size){i:Nat}(cd:i<ops.size)(hi:aL.getD i true=false):Region.ready md ops aL≠[]:=by
 intro xH
 have bf:=ET vF (T:=fun i=>i<ops.size∧aL.getD i true=true) (fun k o hk he=>by
  have U9:k<ops.size:=(Array.getElem?_eq_some_iff.1 hk).1
  refine⟨U9,?_⟩
  cases hq:aL.getD k true with
  |true=>rfl
  |false=>
   have Cl:k∈Region.ready md ops aL:=by
    unfold Region.ready
    rw[List.mem_filter]
    refine⟨List.mem_range.2 U9,?_⟩
    simp only[hq,Bool.not_false,Bool.true_and,hk,Option.map_some,Option.getD_some]
    rw[←Array.all_toList]
    refine List.all_eq_true.2 fun e hee=>?_
    cases hb:Region.binds md e with
    |false=>rfl
    |true=>
     grind
   rw[xH]at Cl
   simp at Cl) i cd
 rw[hi]at bf
 simp at bf
theorem vG[ab]{md:Region.Mode}(mu:kE 0 ops.toList=true){aL:Array Bool}(dj:aL.size=ops.size)
  (vB:∀ i o,ops[i]?=some o→aL.getD i true=true→∀ p,rC (ca ops.toList) i p=true→aL.getD p false=true) {i:Nat} (hi:i∈Region.ready md ops aL) :
  i<ops.size∧aL.getD i true=false∧∀ p,rC (ca ops.toList) i p=true→aL.getD p false=true:=by
 have A9:∀ i o,ops[i]?=some o→(ca ops.toList).getD i 0=iV (ca ops.toList) o.after.toList:=by
  intro i o ho
  have c6:ops.toList[i]?=some o:=by simpa using ho
  have:=qn ops.toList [] i o c6 (fun e he hb=>by have:=gl ops.toList 0 mu i o c6 e he hb; simpa using this)
  simpa[ca] using this
 unfold Region.ready at hi
 rw[List.mem_filter]at hi
 obtain⟨Ea,Ga⟩:=hi
 simp only[List.mem_range]at Ea
 simp only[Bool.and_eq_true,Bool.not_eq_true']at Ga
 obtain⟨Va,EU⟩:=Ga
 refine⟨Ea,Va,fun p hp=>?_⟩
 obtain⟨o,Q6⟩:∃ o,ops[i]?=some o:=⟨ops[i],by simp[Ea]⟩
 simp only[Q6,Option.map_some,Option.getD_some]at EU
 rw[←Array.all_toList]at EU
 unfold rC at hp
 rw[A9 i o Q6]at hp
 obtain⟨e,he,HE,hp⟩:=qm hp
 have hb:=(gl ops.toList 0 mu i o (by simpa using Q6) e he HE)
 have h1:=List.all_eq_true.1 EU e he
 simp only[HD HE,Bool.not_true,Bool.false_or]at h1
 rcases hp with rfl|hp
 ·exact h1
 ·have cd:e.on<ops.size:=by omega
  have Vb:aL.getD e.on true=true:=by rw[tk (by rw[dj]; exact cd) true false]; exact h1
  obtain⟨o2,uv⟩:∃ o2,ops[e.on]?=some o2:=⟨ops[e.on],by simp[cd]⟩
  exact vB e.on o2 uv Vb p hp
theorem Nb[ab](mu:kE 0 ops.toList=true):∀ {k:Nat} {o:Oper},ops[k]?=some o→∀ {p:Nat},rC (ca ops.toList) k p=true→p<k:=by
 have A9:∀ i o,ops[i]?=some o→(ca ops.toList).getD i 0=iV (ca ops.toList) o.after.toList:=by
  intro i o ho
  have c6:ops.toList[i]?=some o:=by simpa using ho
  have:=qn ops.toList [] i o c6 (fun e he hb=>by have:=gl ops.toList 0 mu i o c6 e he hb; simpa using this)
  simpa[ca] using this
 intro k
 induction k using Nat.strongRecOn with
 |ind k ih=>
  intro o hk p hp
  unfold rC at hp
  rw[A9 k o hk]at hp
  obtain⟨e,he,HE,hp⟩:=qm hp
  have hb:=(gl ops.toList 0 mu k o (by simpa using hk) e he HE)
  rcases hp with rfl|hp
  ·omega
  ·grind
theorem vH{pr:List Nat}{n m:Nat}(h:mE pr n m=true){i j:Nat}(h1:m≤i)(h2:i<n)(h3:j<i):rC pr i j=true:=by
 have:=List.all_eq_true.1 h (i-m) (List.mem_range.2 (by omega))
 have:=List.all_eq_true.1 this j (List.mem_range.2 (by omega))
 have e:m+(i-m)=i:=by omega
 rw[e]at this
 exact this
theorem J4[ab]{P:Program}(th:Gy step)(dH:rK P step)(mu:kE 0 ops.toList=true){md:Region.Mode}(vF:pd md ops=true){m:Nat}(hm:m≤ops.size)(vI:mE (ca ops.toList) ops.size m=true){s':St}{Q:Exit→Act→World→Prop}
  {E0:Env} {w0:World} {B:oJ} {r:Option Nat}
  (hQ:∀ E a w (aL:Array Bool),Ext E0 E→Fr E0 w0 E w→cG B E s' a w→aL.size=ops.size→(∀ j,j<m→aL.getD j true=true)→(∀ j,m≤j→j<ops.size→aL.getD j true=false) →
    wpAnyIn (WF r) 0 P md ops Q (ops.size-m) aL a w) :
  ∀ (fuel:Nat) (R:List Item) (aL:Array Bool) (fs:List fk) (E:Env) (s:St) (a:Act) (w:World),R.length=fuel→Left ops (ca ops.toList) m R aL →
    Ext E0 E→Fr E0 w0 E w→cG B E s a w→(∀ x∈R,au x.o.op=true→s.hp[x.nm]?=some none)→cw step ops R s=some (s',fs) →
    (∀ (j k:Nat) (x y:Item) (f g:fk),j<k→R[j]?=some x→R[k]?=some y→fs[j]?=some f→fs[k]?=some g →
      rC (ca ops.toList) y.idx x.idx=true∨RN ops x f y g) →
    wpAnyIn (WF r) 0 P md ops Q (fuel+(ops.size-m)) aL a w:=by
 have A9:∀ i o,ops[i]?=some o→(ca ops.toList).getD i 0=iV (ca ops.toList) o.after.toList:=by
  intro i o ho
  have c6:ops.toList[i]?=some o:=by simpa using ho
  have:=qn ops.toList [] i o c6 (fun e he hb=>by have:=gl ops.toList 0 mu i o c6 e he hb; simpa using this)
  simpa[ca] using this
 intro fuel
 induction fuel with
 |zero=>
  intro R aL fs E s a w hlen hL hx eX hs _ aV _
  have hR:R=[]:=List.eq_nil_of_length_eq_zero hlen
  subst hR
  simp only[cw,Option.some.injEq,Prod.mk.injEq]at aV
  obtain⟨rfl,_⟩:=aV
  rw[Nat.zero_add]
  refine hQ E a w aL hx eX hs hL.size (fun j hj=>?_) hL.rest
  cases hq:aL.getD j true with
  |true=>rfl
  |false=>
   obtain⟨x,hx,_⟩:=hL.all j (by omega) hq hj
   simp at hx
 |succ fuel ih=>
  intro R aL fs E s a w hlen hL hx eX hs nj aV OH
  rw[show fuel+1+(ops.size-m)=(fuel+(ops.size-m))+1 by omega]
  refine⟨fun xH=>?_,fun i hi=>?_⟩
  ·-- the first of what is left is ready
   exfalso
   cases R with
   |nil=>simp at hlen
   |cons x r=>
    obtain⟨XK,HC,_⟩:=hL.item x (by simp)
    exact Cs vF hL.size (Array.getElem?_eq_some_iff.1 XK).1 HC xH
  ·obtain⟨Ea,Va,F7⟩:=vG mu hL.size hL.down hi
   have XL:i<m:=by
    rcases Nat.lt_or_ge i m with h|h
    ·exact h
    ·exfalso
     cases R with
     |nil=>simp at hlen
     |cons x r=>
      obtain⟨XK,HC,hxm⟩:=hL.item x (by simp)
      have:=F7 x.idx (vH vI h Ea (by omega))
      rw[tk (by rw[hL.size]; omega) true false]at HC
      rw[this]at HC; cases HC
   obtain⟨y,hy,Y4⟩:=hL.all i Ea Va XL
   subst Y4
   obtain⟨Q6,_,hym⟩:=hL.item y hy
   obtain⟨A,B',rfl⟩:=List.append_of_mem hy
   have RR:fs.length=(A++y::B').length:=by
    have:=congrArg List.length (pH _ _ _ _ aV)
    simpa using this
   have Vc:A.length<fs.length:=by rw[RR]; simp
   have I0:fs=fs.take A.length++fs[A.length]::fs.drop (A.length+1):=by
    simp_all
   have M8:∀ p∈A.zip (fs.take A.length),RN ops p.1 p.2 y fs[A.length]:=by
    intro p hp
    obtain⟨j,hj⟩:=List.mem_iff_getElem?.1 hp
    have Y5:=(List.getElem?_zip_eq_some).1 hj
    obtain⟨h1,h2⟩:=Y5
    have Vd:=aJ h1
    rw[List.getElem?_take_of_lt Vd]at h2
    rcases OH j A.length p.1 y p.2 fs[A.length] Vd (by rw[List.getElem?_append_left Vd]; exact h1) (by simp) h2 (by simp[Vc]) with h|h
    ·exfalso
     have h3:=F7 _ h
     have h4:=(hL.item p.1 (List.mem_append_left _ (List.mem_of_getElem? h1))).2.1
     have cd:p.1.idx<ops.size:=(Array.getElem?_eq_some_iff.1 (hL.item p.1 (List.mem_append_left _ (List.mem_of_getElem? h1))).1).1
     rw[tk (by rw[hL.size]; exact cd) true false]at h4
     rw[h3]at h4; simp at h4
    ·exact h
   have PJ:=rh th A s fs aV (fs.take A.length) fs[A.length] (fs.drop (A.length+1)) I0 (by simp; omega) M8
   obtain⟨s1,f,D5,gJ,OI,XM⟩:=kN PJ
   simp only[List.cons.injEq]at XM
   obtain⟨rfl,rfl⟩:=XM
   have dM:∀ x∈A++B',x.idx≠y.idx:=by
    intro x hx
    have hp:=List.pairwise_append.1 hL.sorted
    rcases List.mem_append.1 hx with h|h
    ·have:=hp.2.2 x h y (by simp); omega
    ·have:=List.rel_of_pairwise_cons hp.2.1 h; omega
   have ta:(A++B').Sublist (A++y::B'):=List.Sublist.append (List.Sublist.refl A) (List.sublist_cons_self y B')
   have XN:Left ops (ca ops.toList) m (A++B') (aL.setIfInBounds y.idx true):=by
    have eb:∀ j d,j≠y.idx→(aL.setIfInBounds y.idx true).getD j d=aL.getD j d:=by
     intro j d hj
     simp[Array.getD_eq_getD_getElem?,Ne.symm hj]
    have Ct:∀ d,(aL.setIfInBounds y.idx true).getD y.idx d=true:=by
     intro d
     have:y.idx<aL.size:=by rw[hL.size]; exact Ea
     simp[Array.getD_eq_getD_getElem?,this]
    refine⟨by simpa using hL.size,fun x hx=>?_,hL.sorted.sublist ta,fun j hj hu Y6=>?_,fun j hj Ve=>?_,fun j o ho hl p hp=>?_,hL.names.sublist ta⟩
    ·obtain⟨h1,h2,h3⟩:=hL.item x (ta.subset hx)
     exact⟨h1,by rw[eb _ _ (dM x hx)]; exact h2,h3⟩
    ·have T9:j≠y.idx:=by intro e; subst e; rw[Ct]at hu; simp at hu
     rw[eb _ _ T9]at hu
     obtain⟨x,hx,Y7⟩:=hL.all j hj hu Y6
     refine⟨x,?_,Y7⟩
     rcases List.mem_append.1 hx with h|h
     ·exact List.mem_append_left _ h
     ·cases h with
      |head=>omega
      |tail _ h=>exact List.mem_append_right _ h
    ·rw[eb _ _ (by omega)]
     exact hL.rest j hj Ve
    ·by_cases T9:j=y.idx
     ·subst T9
      rw[Q6]at ho; cases ho
      by_cases RT:p=y.idx
      ·subst RT; exact Ct _
      ·rw[eb _ _ RT]; exact F7 p hp
     ·rw[eb _ _ T9]at hl
      by_cases RT:p=y.idx
      ·subst RT; exact Ct _
      ·rw[eb _ _ RT]; exact hL.down j o ho hl p hp
   have Cg:(A++B').length=fuel:=by simp at hlen ⊢; omega
   have J5:∀ (j k:Nat) (x z:Item) (f g:fk),j<k→(A++B')[j]?=some x→(A++B')[k]?=some z→(fs.take A.length++fs.drop (A.length+1))[j]?=some f →
     (fs.take A.length++fs.drop (A.length+1))[k]?=some g→rC (ca ops.toList) z.idx x.idx=true∨RN ops x f z g:=by
    have tr:∀ (j:Nat) (x:Item) (f:fk),(A++B')[j]?=some x→(fs.take A.length++fs.drop (A.length+1))[j]?=some f →
      (A++y::B')[if j<A.length then j else j+1]?=some x∧fs[if j<A.length then j else j+1]?=some f:=by
     intro j x f h1 h2
     have Y8:(fs.take A.length).length=A.length:=by simp; omega
     by_cases hj:j<A.length
     ·rw[if_pos hj]
      rw[List.getElem?_append_left hj]at h1
      rw[List.getElem?_append_left (by omega),List.getElem?_take_of_lt hj]at h2
      exact⟨by rw[List.getElem?_append_left hj]; exact h1,h2⟩
     ·rw[if_neg hj]
      rw[List.getElem?_append_right (by omega)]at h1
      rw[List.getElem?_append_right (by omega),Y8,List.getElem?_drop]at h2
      refine⟨?_,?_⟩
      ·rw[List.getElem?_append_right (by omega)]
       have:j+1-A.length=(j-A.length)+1:=by omega
       rw[this]; simpa using h1
      ·have:A.length+1+(j-A.length)=j+1:=by omega
       rw[this]at h2; exact h2
    intro j k x z f g Na h1 h2 h3 h4
    obtain⟨a1,a2⟩:=tr j x f h1 h3
    obtain⟨b1,b2⟩:=tr k z g h2 h4
    refine OH _ _ x z f g ?_ a1 b1 a2 b2
    split<;>split<;>omega
   unfold wpOpIn
   rw[Q6]
   simp only
   rcases lG gJ with ⟨hw,rfl,_⟩|⟨hw,e,he,Eb,rfl,_⟩
   ·rw[k7 hs.fr hw]
    simp only[Bool.false_eq_true,if_false]
    refine⟨fun _ _=>trivial,?_⟩
    refine ih (A++B') _ _ E { s with fr:=bC s.fr y.o.dst .undef } _ w Cg XN hx eX ⟨gk hs.fr (by simp[aj]),hs.inv,by rw[put_defers]; exact hs.df,hs.bs⟩ (fun x hx=>nj x (ta.subset hx)) OI J5
   ·rw[k7 hs.fr hw]
    simp only[if_true]
    refine dH r y B E s a w e _ Q hs (nj y (by simp)) he fun E' w' v gf J6 ie hr=>?_
    refine ih (A++B') _ _ E' { s with fr:=bC s.fr y.o.dst e.val,hp:=ai s.hp e.wr } _ w' Cg XN (hx.trans gf) (eX.trans J6) ⟨gk (hs.fr.mono gf) hr,ie,by rw[put_defers]; exact hs.df.mono J6,Nat.le_trans hs.bs J6.size⟩ (fun x hx ha=>?_) OI J5
    have hn:=nj x (ta.subset hx) ha
    have EL:x.nm∉e.wr.map (·.1):=by
     intro hm
     obtain⟨q,hq,XO⟩:=List.mem_map.1 hm
     rcases (Eb q hq).2 with h|⟨o,ho⟩
     ·have hxn:y.nm=x.nm:=by rw[←h.2]; exact XO
      have hp:=List.pairwise_append.1 hL.names
      rcases List.mem_append.1 hx with h'|h'
      ·have:=hp.2.2 x h' y (by simp) ha; omega
      ·have:=List.rel_of_pairwise_cons hp.2.1 h' h.1; omega
     ·rw[XO]at ho; rw[hn]at ho; simp at ho
    simp only
    rw[iC e.wr s.hp (fun q hq=>(Eb q hq).1) x.nm EL]
    exact hn
end
end Go.PI
end
section
/- PI, part X: results, calls, what is dropped. -/
namespace Go.PI
theorem Cu{P:Program}{nm:Nat}{ev Nc:Operand→AV}{o:Oper}(h:∀ x∈o.op.operands.toList,ev x=Nc x):aM P nm ev o=aM P nm Nc o:=by
 obtain⟨dst,op,type,pos,after,guard⟩:=o
 have HF:∀ (l:List Operand),(∀ x∈l,x∈op.operands.toList)→l.map ev=l.map Nc:=fun l hl=>List.map_congr_left fun x hx=>h x (hl x hx)
 unfold aM
 cases op with
 |build t parts=>
  have:(parts.toList.map fun p=>(p.1,ev p.2))=(parts.toList.map fun p=>(p.1,Nc p.2)):=
   List.map_congr_left fun p hp=>by rw[h p.2 (by simp only[Op.operands]; exact List.mem_map.2 ⟨p,hp,rfl⟩)]
  simp only[this]
 |buildSlice t len parts=>
  have:(parts.toList.map fun p=>(p.1,ev p.2))=(parts.toList.map fun p=>(p.1,Nc p.2)):=
   List.map_congr_left fun p hp=>by rw[h p.2 (by simp only[Op.operands]; exact List.mem_map.2 ⟨p,hp,rfl⟩)]
  simp only[this]
 |makeFunc fn first captured=>
  have h1:=HF first.toList (fun x hx=>by simp only[Op.operands,Array.toList_append,List.mem_append]; exact .inl hx)
  have h2:=HF captured.toList (fun x hx=>by simp only[Op.operands,Array.toList_append,List.mem_append]; exact .inr hx)
  simp only[h1,h2]
 |slice t x lo hi mx=>
  have h0:=h x (by simp[Op.operands])
  have h1:lo.map ev=lo.map Nc:=by cases lo with|none=>rfl|some y=>simp[h y (by simp[Op.operands])]
  have h2:hi.map ev=hi.map Nc:=by cases hi with|none=>rfl|some y=>simp[h y (by simp[Op.operands])]
  have h3:mx.map ev=mx.map Nc:=by cases mx with|none=>rfl|some y=>simp[h y (by simp[Op.operands])]
  simp only[h0,h1,h2,h3]
 |call c=>
  obtain⟨callee,args,argTypes⟩:=c
  cases callee with
  |builtin b=>
   have h1:=HF args.toList (fun x hx=>by simp[Op.operands,Call.operands]; simpa using hx)
   simp only[h1]
  |value f=>rfl
  |invoke r m=>rfl
 |move x=>simp only[h x (by simp[Op.operands])]
 |assign x=>simp only[h x (by simp[Op.operands])]
 |pick c a b=>simp_all[Op.operands]
 |box t x=>simp only[h x (by simp[Op.operands])]
 |load t a=>simp only[h a (by simp[Op.operands])]
 |store t a x=>simp_all[Op.operands]
 |nilCheck x=>simp only[h x (by simp[Op.operands])]
 |binOp b t x y yt=>simp_all[Op.operands]
 |unOp u t x=>simp only[h x (by simp[Op.operands])]
 |convert s d x=>simp only[h x (by simp[Op.operands])]
 |makeInterface t x=>simp only[h x (by simp[Op.operands])]
 |makeSlice t l c=>simp_all[Op.operands]
 |sliceToArrayPointer t x=>simp only[h x (by simp[Op.operands])]
 |fieldAddr s x f=>simp only[h x (by simp[Op.operands])]
 |field s x f=>simp only[h x (by simp[Op.operands])]
 |indexAddr t x i=>simp_all[Op.operands]
 |index t x i=>simp_all[Op.operands]
 |extract t i=>simp only[h t (by simp[Op.operands])]
 |makeMap t r=>
  have h1:r.map ev=r.map Nc:=by cases r with|none=>rfl|some y=>simp[h y (by simp[Op.operands])]
  simp only[h1]
 |lookup t x i c=>simp_all[Op.operands]
 |mapUpdate t m k x=>simp_all[Op.operands]
 |_=>rfl
theorem J7[ab]{P:Program}{nm nm':Nat}{ev:Operand→AV}{o:Oper}(h:au o.op=false):aM P nm ev o=aM P nm' ev o:=by
 obtain⟨dst,op,type,pos,after,guard⟩:=o
 unfold aM
 cases op with
 |alloc _=>simp[au]at h
 |box _ _=>simp[au]at h
 |buildSlice _ _ _=>simp[au]at h
 |makeSlice _ _ _=>simp[au]at h
 |makeMap _ _=>simp[au]at h
 |call c=>
  obtain⟨callee,args,argTypes⟩:=c
  cases callee with
  |builtin b=>
   cases b with
   |append=>simp[au]at h
   |_=>rfl
  |_=>rfl
 |_=>rfl
theorem RM.xI{hp:ag}{n:Nat}{g c f:Bool}{es:List AV}(h:hp[n]?=some (some (.arr g c f es))):(RM.arr n es.length).run hp=some (g,c,f,es):=by
 simp[RM.arr,RM.run,h]
theorem rL[ab]{P:Program}{E:Env}{hp:ag}{w:World}(hI:Inv E hp w){fr:List AV}{a:Act}(eX:an E true fr a.tmps.toList){fn:Func}{l:List AV}
  (h:(aU P fr fn.results.toList).run hp=some l):∃ v,(results fn a.tmps).run P w=.ok v w∧aj E true (cB l) v:=by
 have one:∀ (r:ResultVar) (x:AV),(jM P fr r).run hp=some x →
   ∃ v,(match r with|.tmp t=>pure (a.tmps.getD t undef)|.cell ad t=>(do loadVar t (←asAddr (a.tmps.getD ad undef))):Sem Value).run P w=.ok v w∧aj E true x v:=by
  intro r x hx
  cases r with
  |tmp t=>
   simp only[jM,RM.run_pure,Option.some.injEq]at hx
   subst hx
   exact⟨_,rfl,gR hI.jo eX (.tmp t)⟩
  |cell ad t=>
   simp only[jM]at hx
   have hr:=gR hI.jo eX (.tmp ad)
   obtain⟨v,h1,h2⟩:=F5 hI (va:=a.tmps.getD ad undef) hr hx
   refine⟨v,?_,h2⟩
   simp only[Instr.loadAt,Sem.run_bind]at h1
   simp only[Sem.run_bind]
   cases hq:a.tmps.getD ad undef with
   |pointer p=>
    cases p with
    |some p=>rw[hq]at h1; simpa[asAddr,Instr.sureAddr] using h1
    |none=>rw[hq]at h1; simp[Instr.sureAddr]at h1
   |_=>rw[hq]at h1; simp[Instr.sureAddr]at h1
 have many:∀ (rs:List ResultVar) (l:List AV),(aU P fr rs).run hp=some l →
   ∃ vs:List Value,(rs.mapM fun|.tmp t=>pure (a.tmps.getD t undef)|.cell ad t=>(do loadVar t (←asAddr (a.tmps.getD ad undef))):Sem (List Value)).run P w=.ok vs w ∧
     an E true l vs:=by
  intro rs
  induction rs with
  |nil=>
   intro l h
   simp only[aU,RM.run_pure,Option.some.injEq]at h
   subst h
   exact⟨[],by simp[List.mapM_nil],by simp[an]⟩
  |cons r rs ih=>
   intro l h
   simp only[aU,RM.run_bind]at h
   cases hq:(jM P fr r).run hp with
   |none=>rw[hq]at h; simp at h
   |some x=>
    rw[hq]at h
    simp only[Option.bind_some]at h
    cases dR:(aU P fr rs).run hp with
    |none=>rw[dR]at h; simp at h
    |some xs=>
     rw[dR]at h
     simp only[Option.bind_some,RM.run_pure,Option.some.injEq]at h
     subst h
     obtain⟨v,h1,h2⟩:=one r x hq
     obtain⟨vs,h3,h4⟩:=ih xs dR
     refine⟨v::vs,?_,by simp only[an]; exact⟨h2,h4⟩⟩
     rw[List.mapM_cons,Sem.run_bind,h1,Result.andThen_ok,Sem.run_bind,h3]
     rfl
 obtain⟨vs,h1,h2⟩:=many _ _ h
 have hm:(fn.results.mapM fun|.tmp t=>pure (a.tmps.getD t undef)|.cell ad t=>(do loadVar t (←asAddr (a.tmps.getD ad undef))):Sem (Array Value)).run P w=.ok vs.toArray w:=by
  rw[Array.mapM_eq_mapM_toList,Sem.run_map,h1]
  rfl
 refine⟨if h:vs.toArray.size=1 then vs.toArray[0] else .tuple vs.toArray,?_,?_⟩
 ·unfold results
  rw[Sem.run_bind]
  exact congrArg (fun (r:Result (Array Value))=>r.andThen fun vs w'=>(pure (if h:vs.size=1 then vs[0] else .tuple vs):Sem Value).run P w') hm
 ·have hlen:=h2.length
  match l,vs,h2,hlen with
  |[],[],_,_=>simp[cB,aj,an]
  |[x],[v],h2,_=>simp only[an]at h2; simpa[cB] using h2.1
  |x::y::r,v::u::s,h2,_=>
   simp only[cB,aj]
   exact⟨v::u::s,by simp,h2⟩
  |[],_::_,_,h=>simp at h
  |_::_,[],_,h=>simp at h
  |[_],_::_::_,_,h=>simp at h
  |_::_::_,[_],_,h=>simp at h
def Env.gm(E:Env)(k:Nat):Env where
 ρ:=fun n aq=>if n<E.L then E.ρ n aq else none
 m:=E.m
 L:=E.L+k
 own:=E.own
theorem EV[ab]{E:Env}{hp:ag}{w:World}(hI:Inv E hp w)(k:Nat):
  Ext E (E.gm k)∧Inv (E.gm k) (hp++List.replicate k none) w∧Fr E w (E.gm k) w:=by
 have hx:Ext E (E.gm k):=⟨fun _ _ h=>h,fun n hn aq l h=>by simp[Env.gm,hn,h],by simp[Env.gm]⟩
 have hold:∀ n o,(hp++List.replicate k none)[n]?=some (some o)→hp[n]?=some (some o)∧n<E.L:=by
  intro n o h
  rw[List.getElem?_append]at h
  split at h
  ·rename_i cd; exact⟨h,by rw[←hI.len]; exact cd⟩
  ·simp[List.getElem?_replicate]at h
 have dc:∀ n,n<E.L→∀ aq,(E.gm k).ρ n aq=E.ρ n aq:=fun n hn aq=>by simp[Env.gm,hn]
 have eR:∀ n b,cj (E.gm k) (hp++List.replicate k none) n b→cj E hp n b:=by
  rintro n b ⟨o,l,ho,hl,hb⟩
  obtain⟨h1,h2⟩:=hold n o ho
  refine⟨o,l,h1,?_,hb⟩
  cases o with
  |arr=>simpa only[dc n h2] using hl
  |gd=>simpa only[dc n h2] using hl
 refine⟨hx,⟨by simp[Env.gm,hI.len],?_,?_,fun n1 n2 b h1 h2=>hI.inj n1 n2 b (eR _ _ h1) (eR _ _ h2),hI.mem,hI.oT,hI.jo⟩,
  ⟨rfl,rfl,rfl,Nat.le_refl _,fun _ _ _=>rfl,fun _ h=>.inl h,fun _ _ h=>.inl h,fun _ r h=>⟨r,h⟩⟩⟩
 ·intro n o ho
  obtain⟨h1,h2⟩:=hold n o ho
  have h:=hI.objs n o h1
  cases o with
  |arr g cl fz es=>
   obtain⟨l,hl,hv,hm⟩:=h
   refine⟨l,by rw[dc n h2]; exact hl,fun aq l' h=>hv aq l' (by rw[dc n h2]at h; exact h),?_⟩
   cases hb:l.kB with
   |none=>rw[hb]at hm; exact hm
   |some b=>
    rw[hb]at hm
    obtain⟨c,T,a1,a2,a3,a4,a5,a6,a7⟩:=hm
    exact⟨c,T,a1,a2,a3,a4,a5,a6,fun i e he=>by obtain⟨v,jP,fo⟩:=a7 i e he; exact⟨v,jP.mono hx,fo⟩⟩
  |gd k MC=>
   obtain⟨l,b,es,clock,a1,a2,a3,a4,a5,a6,a7,a8⟩:=h
   exact⟨l,b,es,clock,by rw[dc n h2]; exact a1,a2,a3,a4,a5,fun aq l' h=>a6 aq l' (by rw[dc n h2]at h; exact h),a7,a8.mono hx⟩
 ·intro n aq h
  rw[List.getElem?_append]at h
  split at h
  ·rename_i cd
   have:n<E.L:=by rw[←hI.len]; exact cd
   rw[dc n this]
   exact hI.free n aq h
  ·rename_i MV
   have:¬n<E.L:=by rw[←hI.len]; exact MV
   simp[Env.gm,this]
def Env.lower(E:Env)(n:Nat):Env:={ E with L:=n }
theorem tm[ab]{E:Env}{hp:ag}{w:World}(hI:Inv E hp w){n:Nat}(hn:n≤hp.length)(bf:(hp.take n).all (kl n)=true):
  Inv (E.lower n) (hp.take n) w∧Fr E w (E.lower n) w∧Down E (E.lower n):=by
 have PK:Down E (E.lower n):=⟨fun _ _ h=>h,fun _ _ _ _ h=>h⟩
 have hold:∀ i o,(hp.take n)[i]?=some o→hp[i]?=some o∧i<n:=by
  grind
 have eR:∀ i b,cj (E.lower n) (hp.take n) i b→cj E hp i b:=by
  rintro i b ⟨o,l,ho,hl,hb⟩
  exact⟨o,l,(hold i _ ho).1,hl,hb⟩
 refine⟨⟨by simp[Env.lower]; omega,?_,fun i aq h=>hI.free i aq (hold i _ h).1,fun n1 n2 b h1 h2=>hI.inj n1 n2 b (eR _ _ h1) (eR _ _ h2),hI.mem,hI.oT,hI.jo⟩,
  ⟨rfl,rfl,rfl,Nat.le_refl _,fun _ _ _=>rfl,fun _ h=>.inl h,fun _ _ h=>.inl h,fun _ r h=>⟨r,h⟩⟩,PK⟩
 intro i o ho
 obtain⟨h1,h2⟩:=hold i _ ho
 have hb:=List.all_eq_true.1 bf _ (List.mem_of_getElem? ho)
 simp only[kl]at hb
 have h:=hI.objs i o h1
 cases o with
 |arr g cl fz es=>
  obtain⟨l,hl,hv,hm⟩:=h
  refine⟨l,hl,hv,?_⟩
  cases yO:l.kB with
  |none=>rw[yO]at hm; exact hm
  |some b=>
   rw[yO]at hm
   obtain⟨c,T,a1,a2,a3,a4,a5,a6,a7⟩:=hm
   refine⟨c,T,a1,a2,a3,a4,a5,a6,fun j e he=>?_⟩
   obtain⟨v,jP,fo⟩:=a7 j e he
   refine⟨v,?_,fo⟩
   cases cl with
   |true=>exact aj.dL ⟨PK.m⟩ jP
   |false=>
    simp only[aI.below,Bool.false_or]at hb
    refine aj.down PK ?_ jP
    have:∀ (l:List AV),cO n l=true→∀ x∈l,below n x=true:=by
     intro l
     induction l with
     |nil=>simp
     |cons y ys ih=>
      simp_all[cO]
    exact this es hb e (List.mem_of_getElem? he)
 |gd k MC=>
  obtain⟨l,b,es,clock,a1,a2,a3,a4,a5,a6,a7,a8⟩:=h
  refine⟨l,b,es,clock,a1,a2,a3,a4,a5,a6,a7,?_⟩
  simp only[aI.below]at hb
  exact an.down PK hb a8
theorem rM[ab]{E:Env}{n:Nat}(PK:Down E (E.lower n)):∀ {fr:List AV} {vs:List Value},an E true fr vs→an (E.lower n) true (fr.map (forget n)) vs
 |[],[],_=>by simp[an]
 |x::xs,v::vs,h=>by
  simp only[an]at h
  simp only[List.map_cons,an]
  refine⟨?_,rM PK h.2⟩
  unfold forget
  split
  ·rename_i hb; exact aj.down PK hb h.1
  ·simp[aj]
 |[],_::_,h=>by simp[an]at h
 |_::_,[],h=>by simp[an]at h
end Go.PI
end
section
/- PI, part Da: a function that is entered as a deferred call while the frame below returns: recover gives nil. -/
namespace Go.PI
theorem lq(o:Oper):(dF o).dst=o.dst∧(dF o).guard=o.guard∧(dF o).after=o.after:=by
 unfold dF; split
 ·split<;>exact⟨rfl,rfl,rfl⟩
 ·exact⟨rfl,rfl,rfl⟩
theorem zt(o:Oper):dF o=o∨(dF o={ o with op:=.move (.const .nilIface) }∧∃ mj,o.op=.call { callee:=.builtin .recover,args:=#[],argTypes:=mj }):=by
 unfold dF; split
 ·rename_i c hc
  split
  ·rename_i h1 h2
   refine .inr ⟨rfl,c.argTypes,?_⟩
   rw[hc]
   obtain⟨x,y,z⟩:=c
   simp only at h1 h2
   rw[h1,Array.toList_eq_nil_iff.1 h2]
  ·exact .inl rfl
 ·exact .inl rfl
theorem BW{ρ:Operand→Value}{o:Oper}{P:Program}{w:World}{mj:Array TypeId}(h:o.op=.call { callee:=.builtin .recover,args:=#[],argTypes:=mj }):(execOp ρ o).run P w=.ok .recover w:=by
 unfold execOp; rw[h]; rfl
theorem yP(ops:Array Oper)(tmps:Array Value):yielded (ops.map dF) tmps=yielded ops tmps:=by
 funext j
 simp only[yielded,Array.getElem?_map]
 cases ops[j]? with
 |none=>rfl
 |some o=>simp only[Option.map_some,Option.bind_some,(lq o).1]
section
variable {F:Fence}{n:Nat}{P:Program}{ops:Array Oper}{Q:Exit→Act→World→Prop}
theorem F2(l:List Nat):∀ (a:Act) (w:World),wpOpsIn F n P (ops.map dF) Q l a w→∀ (b:Frame) (k:List Go.Item) (cs:List Frame),b.kind=.deferred→recoverD cs=none→F.round=none→b.roundOf=F.round→F.fn b.fn→F.room (cs.length+1+n) →
  ∃ e a' w',Q e a' w'∧ArrivesIn (Machine.fenced P F) P (lone (b.atR a (.inRegion ops l::k)) cs w) b k cs e a' w':=by
 induction l with
 |nil=>exact fun a w h b k cs _ _ _ _ hb hr=>⟨.normal,a,w,h,.one (fenced_calm hb hr rfl) stepR_region_end⟩
 |cons i rest ih=>
  intro a w h b k cs hk na eX dD hb hr
  simp only[wpOpsIn,Array.getElem?_map,yP]at h
  cases ho:ops[i]? with
  |none=>
   simp only[ho,Option.map_none]at h
   obtain⟨e,a',w',hq,cJ⟩:=ih a w h b k cs hk na eX dD hb hr
   have hs:=stepR_op_skip (P:=P) (b:=b) (a:=a) (k:=k) (cs:=cs) (w:=w) (ops:=ops) (i:=i) (rest:=rest) (by simp[ho])
   simp only[ho,Option.bind_none,Act.put]at hs
   exact⟨e,a',w',hq,.of_steps (.one (fenced_noOper hb hr ho) hs) cJ⟩
  |some o=>
   simp only[ho,Option.map_some]at h
   have YE:Region.wanted (dF o) (yielded ops a.tmps)=Region.wanted o (yielded ops a.tmps):=by unfold Region.wanted; rw[(lq o).2.1]
   rw[YE,(lq o).1]at h
   have BX:∀ v,(b.atR a (.inRegion ops (i::rest)::k)).finish v=b.atR (a.put o.dst v) (.inRegion ops rest::k):=by
    intro v; rw[Frame.finish_atR,ho]; rfl
   by_cases hw:Region.wanted o (yielded ops a.tmps)=true
   ·have hg:=stepGR_op (P:=P) (b:=b) (k:=k) (cs:=cs) (w:=w) (rest:=rest) ho hw
    simp only[hw,if_true,Oper.wpIn]at h
    rcases zt o with he|⟨he,mj,D4⟩
    ·rw[he]at h
     rw[dD]at hg
     obtain⟨tZ,h⟩:=h
     have h0:(lone (b.atR a (.inRegion ops (i::rest)::k)) cs w).fenced P F:=fenced_oper hb hr ho tZ
     simp only[Oper.uponIn]at h
     split at h
     ·rename_i v w' lr
      obtain⟨e,a',w8,hq,cJ⟩:=ih _ _ h b k cs hk na eX dD hb hr
      refine⟨e,a',w8,hq,.of_steps (.one h0 (step_lone_go ?_)) cJ⟩
      rw[hg,←BX]; simp[stepG.apply,lr]
     ·rename_i w' lr
      obtain⟨e,a',w8,hq,cJ⟩:=ih _ _ h b k cs hk na eX dD hb hr
      refine⟨e,a',w8,hq,.of_steps (.one h0 (step_lone_go ?_)) cJ⟩
      rw[hg,←BX]; simp[stepG.apply,lr]
     ·rename_i d w' lr
      obtain⟨e,a',w8,hq,cJ⟩:=ih _ _ h b k cs hk na eX dD hb hr
      refine⟨e,a',w8,hq,.of_steps (.one h0 (step_lone_go ?_)) cJ⟩
      have:=Frame.finish_atR b { a with defers:=d::a.defers } ops i rest k undef
      rw[ho]at this
      rw[hg]; simp only[stepG.apply,Sem.runT_eq,lr,GStep.bare_after]
      exact congrArg (fun fr=>GStep.go { frame:=fr,callers:=cs,status:=.running,dying:=none } w') this
     ·rename_i f args w' lr
      obtain⟨hn,hF,h⟩:=h
      have nb:F.room ((b.atR a (.inRegion ops (i::rest)::k)::cs).length+1+(n-1)):=Fence.room_enter hr hn
      obtain⟨e,w8,fr,hR,nS,qR,AI⟩:=h (b.atR a (.inRegion ops (i::rest)::k)::cs) nb
      have lu:step P (lone (b.atR a (.inRegion ops (i::rest)::k)) cs w)=.next (lone (Frame.enter P f args .normal) (b.atR a (.inRegion ops (i::rest)::k)::cs) w'):=
       step_lone_go (by rw[hg]; simp[stepG.apply,lr,Frame.atR])
      cases e with
      |returned v=>
       have hl:(lone fr (b.atR a (.inRegion ops (i::rest)::k)::cs) w8).fenced P F:=fenced_leaving (qR▸hF) nb AI
       obtain⟨e,a',w₃,hq,cJ⟩:=ih _ _ hR b k cs hk na eX dD hb hr
       refine⟨e,a',w₃,hq,.of_steps (.head h0 lu (StepsIn.trans nS (.one hl ?_))) cJ⟩
       rw[←BX]; exact step_leave_returned AI
      |panicked chain=>
       have hl:(lone fr (b.atR a (.inRegion ops (i::rest)::k)::cs) w8).fenced P F:=fenced_leaving (qR▸hF) nb AI
       refine⟨.panic chain,a,w8,hR,.inRegion ops (i::rest)::k,.head h0 lu (StepsIn.trans nS (.one hl ?_))⟩
       rw[←Frame.raise_atR]; exact step_leave_panicked AI
      |outgrown=>
       obtain⟨a₀,w₀,hq⟩:=hR
       exact⟨.outgrown,a₀,w₀,hq,.inr (Outgrown.of_steps (.one lu) nS)⟩
     ·rename_i row args w' lr
      obtain⟨hn,h⟩:=h
      obtain⟨v,w8,hR,nS⟩:=h (b.atR a (.inRegion ops (i::rest)::k)) cs (Fence.room_enter hr hn)
      have lu:step P (lone (b.atR a (.inRegion ops (i::rest)::k)) cs w)=.next (lone (Frame.ofRow P row args .normal) (b.atR a (.inRegion ops (i::rest)::k)::cs) w'):=
       step_lone_go (by rw[hg]; simp[stepG.apply,lr,Frame.atR])
      obtain⟨e,a',w₃,hq,cJ⟩:=ih _ _ hR b k cs hk na eX dD hb hr
      refine⟨e,a',w₃,hq,.of_steps (.head h0 lu ?_) cJ⟩
      rw[←BX]; exact nS
     ·rename_i l f tmps assign body w' lr
      obtain⟨hn,_,h⟩:=h
      obtain⟨e,w8,hR,nS⟩:=h (b.atR a (.inRegion ops (i::rest)::k)) cs (Fence.room_enter hr hn)
      have lu:step P (lone (b.atR a (.inRegion ops (i::rest)::k)) cs w)=.next (lone (Frame.round l f tmps assign body .normal) (b.atR a (.inRegion ops (i::rest)::k)::cs) w'):=
       step_lone_go (by rw[hg]; simp[stepG.apply,lr,Frame.atR])
      cases e with
      |returned v=>
       obtain⟨e,a',w₃,hq,cJ⟩:=ih _ _ hR b k cs hk na eX dD hb hr
       refine⟨e,a',w₃,hq,.of_steps (.head h0 lu ?_) cJ⟩
       rw[←BX]; exact nS
      |panicked chain=>
       refine⟨.panic chain,a,w8,hR,.inRegion ops (i::rest)::k,.head h0 lu ?_⟩
       rw[←Frame.raise_atR]; exact nS
      |outgrown=>
       obtain⟨a₀,w₀,hq⟩:=hR
       exact⟨.outgrown,a₀,w₀,hq,.inr (Outgrown.of_steps (.one lu) nS)⟩
     ·rename_i v w' lr
      refine⟨_,a,w',h,.inRegion ops (i::rest)::k,.one h0 (step_lone_go ?_)⟩
      rw[hg,←Frame.raise_atR]; simp[stepG.apply,lr]
     ·exact h.elim
    ·-- recover
     rw[he]at h
     have tZ:∀ f,o.about P w a.eval=some f→F.fn f:=by
      intro f hf
      unfold Oper.about at hf
      rw[D4]at hf
      cases hf
     have h0:(lone (b.atR a (.inRegion ops (i::rest)::k)) cs w).fenced P F:=fenced_oper hb hr ho tZ
     have h2:wpOpsIn F n P (ops.map dF) Q rest (a.put o.dst .nilIface) w:=by
      have h3:=h.2
      rw[eX]at h3
      exact h3
     obtain⟨e,a',w8,hq,cJ⟩:=ih _ _ h2 b k cs hk na eX dD hb hr
     refine⟨e,a',w8,hq,.of_steps (.one h0 (step_lone_go ?_)) cJ⟩
     have Xy:b.roundOf=none:=dD.trans eX
     rw[Xy,Oper.semAt_none]at hg
     have QZ:=tryRecover_deferred (fr:=b.atR a (.inRegion ops (i::rest)::k)) hk cs
     rw[hg,←BX]
     simp only[Frame.atR,Xy]at QZ ⊢
     simp[stepG.apply,BW D4,QZ,na]
   ·simp only[hw,if_false,Bool.false_eq_true]at h
    obtain⟨tZ,h⟩:=h
    obtain⟨e,a',w',hq,cJ⟩:=ih _ _ h b k cs hk na eX dD hb hr
    have hs:=stepR_op_skip (P:=P) (b:=b) (a:=a) (k:=k) (cs:=cs) (w:=w) (ops:=ops) (i:=i) (rest:=rest) (by simp[ho]; simpa using hw)
    simp only[ho,Option.bind_some]at hs
    have MA:∀ f,o.about P w a.eval=some f→F.fn f:=by
     rcases zt o with he|⟨he,mj,D4⟩
     ·rw[he]at tZ; exact tZ
     ·intro f hf
      unfold Oper.about at hf
      rw[D4]at hf
      cases hf
    exact⟨e,a',w',hq,.of_steps (.one (fenced_oper hb hr ho MA) hs) cJ⟩
def Hg(F:Fence)(n:Nat)(P:Program)(c:Code)(Q:Exit→Act→World→Prop)(a:Act)(w:World):Prop:=
 ∀ (b:Frame) (k:List Go.Item) (cs:List Frame),b.kind=.deferred→recoverD cs=none→F.round=none→b.roundOf=F.round→F.fn b.fn→F.room (cs.length+1+n) →
   ∃ e a' w',Q e a' w'∧ArrivesIn (Machine.fenced P F) P (lone (b.atR a (.code c::k)) cs w) b k cs e a' w'
variable {a:Act}{w:World}
theorem I7{c:Code}(h:c.wpIn F n P Q a w):Hg F n P c Q a w:=fun b k cs _ _ _ dD hb hr=>h b k cs dD hb hr
theorem MB{x y:Code}(h:Hg F n P x (fun e a w=>match e with|.normal=>Hg F n P y Q a w|e=>Q e a w) a w):Hg F n P (.seq x y) Q a w:=by
 intro b k cs hk na eX dD hb hr
 have i0:(lone (b.atR a (.code (.seq x y)::k)) cs w).fenced P F:=fenced_calm hb hr rfl
 obtain⟨e,a₁,w₁,hq,cJ⟩:=h b (.code y::k) cs hk na eX dD hb hr
 cases e with
 |normal=>
  obtain⟨e₂,a₂,w₂,w9,jN⟩:=hq b k cs hk na eX dD hb hr
  exact⟨e₂,a₂,w₂,w9,.of_steps (.head i0 stepR_seq cJ) jN⟩
 |exit id=>exact⟨_,a₁,w₁,hq,.of_steps (.one i0 stepR_seq) (.pass (x:=.code y) rfl (fun _ _=>.inl (by simp)) cJ)⟩
 |goto l=>exact⟨_,a₁,w₁,hq,.of_steps (.one i0 stepR_seq) (.pass (x:=.code y) rfl (fun _ _=>.inl (by simp)) cJ)⟩
 |ret=>exact⟨_,a₁,w₁,hq,.of_steps (.one i0 stepR_seq) (.pass (x:=.code y) rfl (fun _ _=>.inl (by simp)) cJ)⟩
 |panic ch=>exact⟨_,a₁,w₁,hq,.of_steps (.one i0 stepR_seq) (.pass (x:=.code y) rfl (fun _ _=>.inl (by simp)) cJ)⟩
 |outgrown=>exact⟨_,a₁,w₁,hq,.of_steps (.one i0 stepR_seq) (.pass (x:=.code y) rfl (fun _ _=>.inl (by simp)) cJ)⟩
theorem Em{id:Nat}(h:wpOpsIn F n P (ops.map dF) Q (List.range ops.size) a w):Hg F n P (.region id ops false) Q a w:=
 fun b k cs hk na eX dD hb hr=>let ⟨e,a',w',q,r⟩:=F2 _ a w h b k cs hk na eX dD hb hr; ⟨e,a',w',q,.of_steps (.one (fenced_calm hb hr rfl) stepR_region) r⟩
theorem I8{id:Nat}(h:∀ t,wpOpsIn F n P (ops.map dF) Q (Region.schedule (P.follows .mixedOrders) ops t) a { w with drawn:=w.drawn+1 }):Hg F n P (.region id ops true) Q a w:=
 fun b k cs hk na eX dD hb hr=>let ⟨e,a',w',q,r⟩:=F2 _ a _ (h _) b k cs hk na eX dD hb hr; ⟨e,a',w',q,.of_steps (.one (fenced_calm hb hr rfl) stepR_region_draw) r⟩
theorem yQ{f:FuncId}{fn:Func}{c:Code}{args:Array Value}{R:Ending→World→Prop}(hf:P.funcs[f]?=some fn)(hb:fn.body=some c)(hF:F.fn f)
  (h:Hg F n P c (bodyPost P fn R) { tmps:=args++Array.replicate (fn.ntmps-args.size) undef,defers:=[] } w) (dD:F.round=none:=by rfl) :
  CallsDIn F n P f args .returning w fun e u' w'=>u'=.returning∧R e w':=by
 refine⟨hF,fun c₀ cs hu hr=>?_⟩
 let b:Frame:={ (default:Frame) with fn:=f,kind:=.deferred,roundOf:=none }
 have lu:Frame.enter P f args .deferred=b.atR { tmps:=args++Array.replicate (fn.ntmps-args.size) undef,defers:=[] } [.code c]:=by
  simp[Frame.enter,Frame.atR,hf,hb,b]
 have hc:({ c₀ with mode:=.returning }:Frame)=c₀:=by cases c₀; simp only at hu; rw[hu]
 have na:recoverD (c₀::cs)=none:=by simp only[recoverD,hu]
 obtain⟨e,a',w',hq,cJ⟩:=h b [] (c₀::cs) rfl na dD dD.symm hF hr
 rw[←lu]at cJ
 cases e with
 |normal=>
  obtain⟨hd,v,lr,hR⟩:=hq
  exact⟨.returned v,.returning,w',_,⟨rfl,hR⟩,(by rw[hc]; exact StepsIn.trans cJ (.one (fenced_calm (fr:=b.atR a' []) hF hr rfl) (stepR_end rfl))),rfl,rfl,rfl,hd,fn,hf,lr⟩
 |ret=>
  obtain⟨hd,v,lr,hR⟩:=hq
  obtain⟨todo,hs⟩:=cJ.1 rfl
  exact⟨.returned v,.returning,w',_,⟨rfl,hR⟩,(by rw[hc]; exact hs),rfl,rfl,rfl,hd,fn,hf,lr⟩
 |panic chain=>
  obtain⟨hd,hR⟩:=hq
  obtain⟨todo,hs⟩:=cJ
  exact⟨.panicked chain,.returning,w',_,⟨rfl,hR⟩,(by rw[hc]; exact hs),rfl,rfl,rfl,hd,fn,hf⟩
 |exit id=>exact hq.elim
 |goto l=>exact hq.elim
 |outgrown=>exact⟨.outgrown,.returning,w',b,⟨rfl,hq⟩,cJ.resolve_left (by simp[b]),rfl,rfl,trivial⟩
end
end Go.PI
end
section
/- PI, part Y: the evaluator's answers are what the machine does, on every tape and in every order. -/
namespace Go.PI
def J8[ab](B:oJ)(E:Env):Out→Exit→Act→World→Prop
 |.norm s,.normal,a,w=>cG B E s a w
 |.exit i s,.exit j,a,w=>i=j∧cG B E s a w
 |.ret s,.ret,a,w=>cG B E s a w
 |.jL v s,.panic ch,a,w=>∃ u,ch=[{ v:=u,recovered:=false }]∧aj E true v u∧Inv E s.hp w∧Marks B E w a.defers
 |_,_,_,_=>False
def bo[ab](B:oJ)(E:Env)(w:World)(o:Out)(e:Exit)(a':Act)(w':World):Prop:=
 ∃ E',Ext E E'∧Fr E w E' w'∧J8 B E' o e a' w'
theorem bo.from[ab]{B:oJ}{E E1:Env}{w w1:World}{o:Out}{e:Exit}{a:Act}{w':World}(hx:Ext E E1)(hf:Fr E w E1 w1)(h:bo B E1 w1 o e a w'):bo B E w o e a w':=by
 obtain⟨E',h1,h2,h3⟩:=h
 exact⟨E',hx.trans h1,hf.trans h2,h3⟩
structure Ctx.Ok[ab](C:Ctx):Prop where
 name : ∀ (f : FuncId) (fn : Func), C.P.funcs[f]? = some fn → fn.body.isSome = true → (fn.name == "runtime.NumGoroutine") = false
 kn:∀ (g:FuncId) (h:List AV→Option AV) (as:List AV) (r:AV),C.kn g=some h→h as=some r→∀ (Ec:Env) (w:World) (vs:List Value),Inv Ec [] w→an Ec false as vs →
  Calls C.P g vs.toArray w (bQ Ec w [] (.val r))
 iU:∀ (g:FuncId) (h:List AV→Option (AV×ag)) (as:List AV) (r:AV) (gZ:ag),C.iU g=some h→h as=some (r,gZ) →
  ∀ (Ec:Env) (w:World) (vs:List Value),Inv Ec [] w→an Ec false as vs →
    Calls C.P g vs.toArray w (fun en w'=>∃ r' PL,bQ Ec w PL (.val r') en w'∧∀ nm,fN nm r' PL=fN nm r gZ)
 Ba:∀ (g:FuncId) (h:List AV→Option (AV×ag)),C.iU g=some h→∃ fn:Func,C.P.funcs[g]?=some fn∧fn.body.isSome=true
 qY:∀ (g:FuncId) (h:List AV→RM dg) (args:List AV) (hp:ag) (e:dg),C.qY g=some h→(h args).run hp=some e→(∃ fn:Func,C.P.funcs[g]?=some fn∧fn.body.isSome=true) ∧
  ∀ (E:Env) (w:World) (vs:List Value),Inv E hp w→an E true args vs→Calls C.P g vs.toArray w (bQ E w (ai hp e.wr) (.val e.val))
 EW:∀ (g:FuncId) (h:List AV→Option AV),C.kn g=some h→∃ fn:Func,C.P.funcs[g]?=some fn∧fn.body.isSome=true
def lI[ab](C:Ctx)(k:Nat):Prop:=
 ∀ f args hp res cm,lZ C k f args hp=some (res,cm)→∀ (E:Env) (w:World) (vs:List Value),Inv E hp w→an E true args vs →
   Calls C.P f vs.toArray w (bQ E w cm res)
def fq[ab](C:Ctx)(k:Nat):Prop:=
 ∀ c s o,bS C k c s=some o→∀ (r:Option Nat) (B:oJ),((r=B.lb∧B.rg=true)∨cx c=true)→∀ (E:Env) (a:Act) (w:World),cG B E s a w→c.wpIn (WF r) 0 C.P (bo B E w o) a w
def lJ[ab](P:Program)(step:Oper→St→Option Out):Prop:=
 ∀ (o:Oper) (s:St) (r:Out),step o s=some r→∀ (rd:Option Nat) (B:oJ) (E:Env) (a:Act) (w:World) (K:Act→World→Prop) (Q:Exit→Act→World→Prop),cG B E s a w →
   (∀ s',r=.norm s'→∀ E' a' w',Ext E E'→Fr E w E' w'→cG B E' s' a' w'→K a' w') →
   (∀ v s',r=.jL v s'→∀ E' w' u,Ext E E'→Fr E w E' w'→Inv E' s'.hp w'→aj E' true v u→Q (.panic [{ v:=u,recovered:=false }]) a w') →
   o.wpIn (WF rd) 0 P a w K Q
def uw[ab](C:Ctx)(k:Nat):Prop:=
 ∀ g args hp res wr,(kX C k g args).run hp=some (res,wr)→∀ (E:Env) (w:World) (vs:List Value),Inv E hp w→an E true args vs →
   Calls C.P g vs.toArray w (bQ E w (ai hp wr) res)
theorem qo[ab]{P:Program}{step:Oper→St→Option Out}(dH:lJ P step)(tn:∀ o s r,step o s=some r→(∃ s',r=.norm s')∨∃ v s',r=.jL v s')
  {ops:Array Oper} (rd:Option Nat) (B:oJ):∀ (l:List Oper) (s:St) (o:Out),cE step ops l s=some o→∀ (E0 E:Env) (a:Act) (w0 w:World),Ext E0 E→Fr E0 w0 E w→cG B E s a w →
    wpListIn (WF rd) 0 P ops (bo B E0 w0 o) l a w
 |[],s,o,h,E0,E,a,w0,w,hx,hf,hs=>by
  simp only[cE,Option.some.injEq]at h
  subst h
  exact⟨E,hx,hf,hs⟩
 |p::r,s,o,h,E0,E,a,w0,w,hx,hf,hs=>by
  simp only[cE]at h
  unfold wpListIn
  split at h
  ·simp at h
  ·rename_i hw
   rw[k7 hs.fr hw]
   simp only[Bool.false_eq_true,if_false]
   exact⟨fun _ _=>trivial,qo dH tn rd B r _ o h E0 E _ w0 w hx hf ⟨gk hs.fr (by simp[aj]),hs.inv,by rw[put_defers]; exact hs.df,hs.bs⟩⟩
  ·rename_i hw
   rw[k7 hs.fr hw]
   simp only[if_true]
   cases hq:step p s with
   |none=>rw[hq]at h; simp at h
   |some q=>
    rw[hq]at h
    refine dH p s q hq rd B E a w _ _ hs (fun s' e E' a' w' gf Gc eY=>?_) (fun v s' e E' w' u gf Gc ie hr=>?_)
    ·subst e
     exact qo dH tn rd B r s' o h E0 E' a' w0 w' (hx.trans gf) (hf.trans Gc) eY
    ·subst e
     simp only[Option.some.injEq]at h
     subst h
     exact⟨E',hx.trans gf,hf.trans Gc,u,rfl,hr,ie,hs.df.mono Gc⟩
theorem eU[ab]{P:Program}{E:Env}{w:World}{fv:AV}{f:Value}{args vJ:List AV}{vs:List Value}{g:FuncId}(hf:aj E true fv f)(ha:an E true args vs)
  (h : bz fv args = some (g, vJ)) (qR : ∃ fn : Func, P.funcs[g]? = some fn ∧ fn.body.isSome = true ∧ (fn.name == "runtime.NumGoroutine") = false) :
  ∃ vs':List Value,an E true vJ vs'∧(do let d ←Deferred.ofValue f vs.toArray; invoke d.target d.args:Sem Next).run P w=.ok (.enter g vs'.toArray) w:=by
 obtain⟨fn,h1,h2,h3⟩:=qR
 have hb:fn.body.isNone=false:=by cases hq:fn.body<;>simp_all
 have run:∀ (first captured:List Value),f=.func (.func g) first.toArray captured.toArray →
   (do let d ←Deferred.ofValue f vs.toArray; invoke d.target d.args:Sem Next).run P w=.ok (.enter g (first++vs++captured).toArray) w:=by
  intro first captured hv
  subst hv
  simp only[Deferred.ofValue,Sem.run_bind,Sem.run_pure,Result.andThen_ok,invoke,callFunc,run_program,h1,h3,hb,Bool.false_eq_true,if_false]
  simp
 cases fv with
 |lit u=>
  cases u with
  |func Vf first captured=>
   cases Vf with
   |func g'=>
    simp only[bz,Option.some.injEq,Prod.mk.injEq]at h
    obtain⟨rfl,rfl⟩:=h
    simp only[aj]at hf
    exact⟨first.toList++vs++captured.toList,((an.lits _).append ha).append (an.lits _),run _ _ (by simpa using hf)⟩
   |_=>simp[bz]at h
  |_=>simp[bz]at h
 |iQ Vf first captured=>
  cases Vf with
  |func g'=>
   simp only[bz,Option.some.injEq,Prod.mk.injEq]at h
   obtain⟨rfl,rfl⟩:=h
   simp only[aj]at hf
   obtain⟨fv,cv,hv,rN,hG⟩:=hf
   exact⟨fv++vs++cv,(rN.append ha).append hG,run _ _ hv⟩
  |_=>simp[bz]at h
 |_=>simp[bz]at h
theorem EX[ab]{P:Program}{E:Env}{hp:ag}{w:World}{o:Oper}{ρ:Operand→Value}{e:dg}(h:Step P E hp w (execOp ρ o) e)(r:Option Nat):o.semAt r ρ=execOp ρ o:=by
 refine Oper.semAt_eq r ρ o fun c hc=>?_
 obtain⟨E',w',v,hr,_⟩:=h
 have hd:(execOp ρ o).run P w=(do pure (.defer (←resolve ρ c o.type)):Sem Next).run P w:=by
  obtain⟨dst,op,type,pos,after,guard⟩:=o
  simp only at hc
  subst hc
  rfl
 unfold Rr at hr
 rw[hd,Sem.run_bind]at hr
 cases cy:(resolve ρ c o.type).run P w with
 |ok d w1=>simp_all
 |halt x w1=>simp_all
theorem wL[ab]{P:Program}{B:oJ}{rd:Option Nat}{E:Env}{s:St}{a:Act}{w:World}(_:cG B E s a w){o:Oper}{e:dg}(h:Step P E s.hp w (execOp a.eval o) e)
  {K:Act→World→Prop} {Q:Exit→Act→World→Prop}
  (hK:∀ E' w' v,Ext E E'→Fr E w E' w'→Inv E' (ai s.hp e.wr) w'→aj E' true e.val v→K (a.put o.dst v) w'):o.wpIn (WF rd) 0 P a w K Q:=by
 have PM:=EX h (WF rd).round
 obtain⟨E',w',v,hr,hx,hI,hf,hv⟩:=h
 refine⟨fun _ _=>trivial,?_⟩
 rw[PM]
 rcases hr with hr|⟨hr,rfl⟩
 ·rw[hr,Oper.uponIn_value]
  exact hK E' w' v hx hf hI hv
 ·rw[hr,Oper.uponIn_skip]
  exact hK E' w' undef hx hf hI hv
theorem wM{P:Program}{g:FuncId}{vs:Array Value}{w:World}{R:Ending→World→Prop}(h:Calls P g vs w R)(rd:Option Nat)(n:Nat):CallsIn (WF rd) n P g vs w R:=
 (callsIn_wide (n:=n)).2 h
theorem xJ{P:Program}{rd:Option Nat}{a:Act}{w:World}{o:Oper}{c:Call}(ho:o.op=.call c){g:FuncId}{vs':List Value}(aV:(execOp a.eval o).run P w=.ok (.enter g vs'.toArray) w)
  {R:Ending→World→Prop} (gQ:Calls P g vs'.toArray w R) {K:Act→World→Prop} {Q:Exit→Act→World→Prop}
  (h1:∀ v w',R (.returned v) w'→K (a.put o.dst v) w') (h2:∀ ch w',R (.panicked ch) w'→Q (.panic ch) a w') (h3:∀ w',¬R .outgrown w'):o.wpIn (WF rd) 0 P a w K Q:=by
 refine⟨fun _ _=>trivial,?_⟩
 rw[Oper.semAt_eq _ _ _ (by rw[ho]; intro c h; cases h),aV,Oper.uponIn_enter]
 refine⟨fun h=>by simp[WF,Fence.wide]at h,(wM gQ rd _).mono fun e w' hR=>?_⟩
 cases e with
 |returned v=>exact h1 v w' hR
 |panicked ch=>exact h2 ch w' hR
 |outgrown=>exact(h3 w' hR).elim
theorem Bb[ab]{P:Program}{E:Env}{w:World}{a:Act}{o:Oper}{rv:Operand}{name:String}{cR:Array Operand}{mj:Array TypeId}(ho:o.op=.call ⟨.invoke rv name,cR,mj⟩){v:AV}(hv:aj E true v (a.eval rv)){g:FuncId}{x:AV}
  {args : List AV} (ha : an E true args (cR.toList.map a.eval)) (h : pc P v name = some (g, x)) (qR : ∃ fn : Func, P.funcs[g]? = some fn ∧ fn.body.isSome = true ∧ (fn.name == "runtime.NumGoroutine") = false) :
  ∃ vs':List Value,an E true (x::args) vs'∧(execOp a.eval o).run P w=.ok (.enter g vs'.toArray) w:=by
 obtain⟨fn,f1,f2,f3⟩:=qR
 have hb:fn.body.isNone=false:=by cases hq:fn.body<;>simp_all
 cases v with
 |fL t y=>
  simp only[pc,Option.map_eq_some_iff,Prod.mk.injEq]at h
  obtain⟨f,hm,rfl,rfl⟩:=h
  simp only[aj]at hv
  obtain⟨u,hv,hu⟩:=hv
  refine⟨u::cR.toList.map a.eval,by simp only[an]; exact⟨hu,ha⟩,?_⟩
  unfold AH at hm
  split at hm
  case h_2=>simp at hm
  rename_i i d hi hd
  split at hm
  ·simp at hm
  ·rename_i m RU Vg
   split at hm
   ·rename_i f' hp hf
    simp only[Option.some.injEq]at hm
    subst hm
    have RW:m.path.toList=[]:=by simpa using hp
    have Y9:0<Made.depth:=by decide
    obtain⟨n,hn⟩:∃ n,P.types.size+Made.depth=n+1:=⟨P.types.size+Made.depth-1,by omega⟩
    have RX:(Go.method (P.types.size+Made.depth) t u name).run P w=.ok (f',u) w:=by
     rw[hn]
     unfold Go.method
     simp only[typeInfo,Sem.run_bind,run_program,Result.andThen_ok,hi,Sem.run_pure,RU,RW,follow,hf,receiverAt,underlying,hd]
     rfl
    have Q2:(callMethod (.iface t u) name (cR.map a.eval)).run P w=.ok (.enter f' (#[u]++cR.map a.eval)) w:=by
     simp only[callMethod,Sem.run_bind,run_program,Result.andThen_ok,RX,callFunc,f1,f3,hb,Bool.false_eq_true,if_false,Sem.run_pure]
    have h0:(#[Value.iface t u]++cR.map a.eval)[0]?=some (Value.iface t u):=by rw[←Array.getElem?_toList]; simp
    have h1:(#[Value.iface t u]++cR.map a.eval).extract 1 (#[Value.iface t u]++cR.map a.eval).size=cR.map a.eval:=by
     apply Array.ext'
     simp
     exact List.take_of_length_le (by simp)
    simp only[execOp,ho,resolve,Sem.run_bind,Sem.run_pure,Result.andThen_ok,hv,invoke,h0,h1,Q2]
    rw[show (#[u]++cR.map a.eval)=(u::cR.toList.map a.eval).toArray by apply Array.ext'; simp]
   ·simp at hm
  ·simp at hm
 |_=>simp[pc]at h
theorem qp{P:Program}{rd:Option Nat}{a:Act}{w:World}{o:Oper}{c:Call}{f:Operand}(ho:o.op=.call c)(hc:c.callee=.value f){g:FuncId}{vs':List Value}
  (aV:(do let d ←Deferred.ofValue (a.eval f) (c.args.toList.map a.eval).toArray; invoke d.target d.args:Sem Next).run P w=.ok (.enter g vs'.toArray) w)
  {R:Ending→World→Prop} (gQ:Calls P g vs'.toArray w R) {K:Act→World→Prop} {Q:Exit→Act→World→Prop}
  (h1:∀ v w',R (.returned v) w'→K (a.put o.dst v) w') (h2:∀ ch w',R (.panicked ch) w'→Q (.panic ch) a w') (h3:∀ w',¬R .outgrown w'):o.wpIn (WF rd) 0 P a w K Q:=by
 refine⟨fun _ _=>trivial,?_⟩
 rw[Oper.semAt_eq _ _ _ (by rw[ho]; intro c h; cases h)]
 have:(execOp a.eval o).run P w=.ok (.enter g vs'.toArray) w:=by
  simp only[execOp,ho,resolve,hc]
  rw[←aV]
  congr 3
  rw[←Array.toList_map]
 rw[this,Oper.uponIn_enter]
 refine⟨fun h=>by simp[WF,Fence.wide]at h,(wM gQ rd _).mono fun e w' hR=>?_⟩
 cases e with
 |returned v=>exact h1 v w' hR
 |panicked ch=>exact h2 ch w' hR
 |outgrown=>exact(h3 w' hR).elim
theorem J9[ab]{E:Env}{hp:ag}{w w':World}(hI:Inv E hp w)(eH:∀ b,E.own b∨(E.m b).isSome=true→w'.heap[b]?=w.heap[b]?)(kF:w.heap.size≤w'.heap.size):Inv E hp w':=by
 have eR:∀ n o,hp[n]?=some (some o)→∀ b,cj E hp n b→E.own b∨(E.m b).isSome=true:=by
  rintro n o ho b ⟨o',l,c6,hl,hb⟩
  rw[ho]at c6
  cases c6
  have h:=hI.objs n o ho
  cases o with
  |arr g cl fz es=>
   obtain⟨l',jO,_,hm⟩:=h
   simp only at hl
   rw[hl]at jO; cases jO
   rw[hb]at hm
   obtain⟨c,T,_,hif,_⟩:=hm
   cases fz with
   |true=>simp_all
   |false=>simp_all
  |gd k vs=>
   obtain⟨l',b',T2,us,h1,h2,h3,h4,h5,_⟩:=h
   simp only at hl
   rw[hl]at h1; cases h1
   rw[hb]at h2; cases h2
   exact .inl h5
 refine⟨hI.len,fun n o hn=>(hI.objs n o hn).other hn fun b hb=>eH b (eR n o hn b hb),hI.free,hI.inj,fun b c h=>?_,fun b h=>Nat.lt_of_lt_of_le (hI.oT b h) kF,hI.jo⟩
 obtain⟨T,fz,hw⟩:=hI.mem b c h
 exact⟨T,fz,by rw[eH b (.inr (by rw[h]; rfl))]; exact hw⟩
theorem vK{F:Fence}{n:Nat}{P:Program}{fn:Func}{tmps:Array Value}{R:Ending→World→Prop}{u:FrameMode}{tl:List Deferred}(hu:u≠.run):∀ (rs:List Nat) (w:World),rs.Nodup→(∀ r∈rs,w.heap[r]?=some (.deferred (some []))) →
  (∀ w',w'.heap.size=w.heap.size→w'.os=w.os→w'.tape=w.tape→w'.output=w.output→(∀ b,b∉rs→w'.heap[b]?=w.heap[b]?)→LeavesInM F n P fn tmps R tl u w') →
  LeavesInM F n P fn tmps R ((rs.map fun r=>{ target:=.collected r,args:=#[] })++tl) u w
 |[],w,_,_,h=>h w rfl rfl rfl rfl (fun _ _=>rfl)
 |r::rs,w,hn,hr,h=>by
  rw[List.nodup_cons]at hn
  refine⟨hu,.inl ⟨r,w.putObj r (.deferred none),rfl,run_takeDeferred (hr r (by simp)),?_⟩⟩
  refine vK hu rs _ hn.2 (fun r' h'=>?_) fun w' h1 h2 h3 h4 h5=>?_
  ·have dM:r'≠r:=by rintro rfl; exact hn.1 h'
   rw[World.putObj_heap_other dM]
   exact hr r' (by simp[h'])
  ·refine h w' (by rw[h1]; simp) h2 h3 h4 fun b hb=>?_
   simp only[List.mem_cons,not_or]at hb
   rw[h5 b hb.2,World.putObj_heap_other hb.1]
theorem jc[ab]{P:Program}{fn:Func}{tmps:Array Value}{R:Ending→World→Prop}{E0 E:Env}{w0 w:World}{hp:ag}{ds:List Deferred}{u:FrameMode}{B:oJ}(hB:B.n=w0.heap.size)(hI:Inv E hp w)(hm:Marks B E w ds)
  (hf:Fr E0 w0 E w) (hu:u≠.run) (h:∀ w',Inv E hp w'→Fr E0 w0 E w'→LeavesInM Fence.wide 0 P fn tmps R B.tl u w'):LeavesInM Fence.wide 0 P fn tmps R ds u w:=by
 obtain⟨rs,rfl,z1,_,Ox⟩:=hm
 refine vK hu rs w z1 (fun r hr=>(Ox r hr).2.2) fun w' h1 h2 h3 h4 h5=>h w' ?_ ?_
 ·refine J9 hI (fun b hb=>h5 b fun hr=>?_) (by omega)
  obtain⟨_,a2,a3⟩:=Ox b hr
  rcases hb with hb|hb
  ·exact a2 hb
  ·cases Pw:E.m b with
   |none=>rw[Pw]at hb; simp at hb
   |some c=>obtain⟨T,fz,h6⟩:=hI.mem b c Pw; rw[a3]at h6; cases h6
 ·refine⟨h2.trans hf.os,h3.trans hf.tape,h4.trans hf.out,by rw[h1]; exact hf.size,fun b hb ho=>?_,hf.own,hf.m,fun b r hr=>?_⟩
  ·rw[h5 b fun hr=>?_]
   ·exact hf.same b hb ho
   ·have:=(Ox b hr).1; omega
  ·obtain⟨r',lr⟩:=hf.lp b r hr
   exact⟨r',by rw[h5 b fun hm=>by rw[(Ox b hm).2.2]at lr; cases lr]; exact lr⟩
theorem ux[ab]{C:Ctx}{k:Nat}{f:FuncId}{args:List AV}{hp:ag}{r:nM×ag}(h:lZ C k f args hp=some r):
  ∃ fn:Func,C.P.funcs[f]?=some fn∧fn.body.isSome=true:=by
 cases k with
 |zero=>simp[lZ]at h
 |succ k=>
  simp only[lZ]at h
  split at h
  ·simp at h
  rename_i fn qR
  split at h
  ·simp at h
  rename_i c hc
  exact⟨fn,qR,by rw[hc]; rfl⟩
theorem Bc[ab]{C:Ctx}{k:Nat}(hC:fq C k){f:FuncId}{args:List AV}{hp:ag}{res:nM}{cm:ag}{fn:Func}{c:Code}(qR:C.P.funcs[f]?=some fn)(hc:fn.body=some c){E:Env}{w:World}{vs:List Value}(hI:Inv E hp w)(ha:an E true args vs)
  (h:(match bS C k c ⟨f,args++List.replicate (fn.ntmps-args.length) .undef,hp⟩ with
    |some (.norm s)|some (.ret s)=>
     match (aU C.P s.fr fn.results.toList).run s.hp with
     |some l=>some (nM.val (cB l),s.hp)
     |none=>none
    |some (.jL v s)=>some (.jL v,s.hp)
    |_=>none)=some (res,cm)):Calls C.P f vs.toArray w (bQ E w cm res):=by
 have hlen:=ha.length
 have hs:cG ⟨w.heap.size,[],true,none⟩ E ⟨f,args++List.replicate (fn.ntmps-args.length) .undef,hp⟩ { tmps:=vs.toArray++Array.replicate (fn.ntmps-vs.toArray.size) undef,defers:=[] } w:=by
  refine⟨?_,hI,Marks.nil,Nat.le_refl _⟩
  simp only[Array.toList_append,Array.toList_replicate,List.size_toArray,←hlen]
  refine ha.append ?_
  have:=an.lits (E:=E) (o:=true) (List.replicate (fn.ntmps-args.length) undef)
  simpa using this
 have ret:∀ s',((bS C k c ⟨f,args++List.replicate (fn.ntmps-args.length) .undef,hp⟩=some (.norm s')) ∨
   (bS C k c ⟨f,args++List.replicate (fn.ntmps-args.length) .undef,hp⟩=some (.ret s'))) →
   (match (aU C.P s'.fr fn.results.toList).run s'.hp with|some l=>some (nM.val (cB l),s'.hp)|none=>none)=some (res,cm) →
   Calls C.P f vs.toArray w (bQ E w cm res):=by
  intro s' bA hr
  split at hr
  case h_2=>simp at hr
  rename_i l hl
  simp only[Option.some.injEq,Prod.mk.injEq]at hr
  obtain⟨rfl,rfl⟩:=hr
  have fin:∀ E' a' w',Ext E E'→Fr E w E' w'→cG ⟨w.heap.size,[],true,none⟩ E' s' a' w'→LeavesInM Fence.wide 0 C.P fn a'.tmps (bQ E w s'.hp (.val (cB l))) a'.defers .returning w':=by
   intro E' a' w' hx hf eY
   refine jc rfl eY.inv eY.df hf (by simp) fun w2 qk hG=>?_
   obtain⟨v,h1,h2⟩:=rL qk eY.fr hl
   exact⟨v,h1,E',hx,qk,hG,h2⟩
  refine callsIn_wide.1 (callsIn_of_wp_marks (F:=Fence.wide) (n:=0) qR hc trivial ?_)
  rcases bA with bA|bA
  ·refine wpIn_mono (hC c _ _ bA none _ (.inl ⟨rfl,rfl⟩) E _ w hs) fun e a' w' cY=>?_
   obtain⟨E',hx,hf,ho⟩:=cY
   cases e with
   |normal=>exact fin E' a' w' hx hf ho
   |_=>exact ho.elim
  ·refine wpIn_mono (hC c _ _ bA none _ (.inl ⟨rfl,rfl⟩) E _ w hs) fun e a' w' cY=>?_
   obtain⟨E',hx,hf,ho⟩:=cY
   cases e with
   |ret=>exact fin E' a' w' hx hf ho
   |_=>exact ho.elim
 split at h
 ·grind
 ·grind
 ·rename_i v s' bA
  simp only[Option.some.injEq,Prod.mk.injEq]at h
  obtain⟨rfl,rfl⟩:=h
  refine callsIn_wide.1 (callsIn_of_wp_marks (F:=Fence.wide) (n:=0) qR hc trivial (wpIn_mono (hC c _ _ bA none _ (.inl ⟨rfl,rfl⟩) E _ w hs) fun e a' w' cY=>?_))
  obtain⟨E',hx,hf,ho⟩:=cY
  cases e with
  |panic ch=>
   obtain⟨u,h1,h2,h3,h4⟩:=ho
   exact jc rfl h3 h4 hf (by simp) fun w2 qk hG=>⟨E',hx,qk,hG,u,h1,h2⟩
  |_=>exact ho.elim
 ·simp at h
theorem Cv[ab]{C:Ctx}(bN:C.Ok){k:Nat}(hF:lI C k):uw C (k+1):=by
 intro g args hp res wr h E w vs hI ha
 simp only[kX,RM.run_bind]at h
 cases hq:(aK 1000 args).run hp with
 |none=>rw[hq]at h; simp at h
 |some as=>
  rw[hq]at h
  simp only[Option.bind_some]at h
  split at h
  ·rename_i hf hh
   split at h
   case h_2=>simp[RM.ae]at h
   rename_i r hr
   exact uu hI ha hq h fun Ec h1 h2=>bN.kn g hf as r hh hr Ec w vs h1 h2
  ·split at h
   case h_2=>simp[RM.ae]at h
   rename_i r gZ hr
   exact uu hI ha hq h fun Ec h1 h2=>hF g as [] r gZ hr Ec w vs h1 h2.gO
theorem z2[ab]{C:Ctx}(bN:C.Ok){k:Nat}{g:FuncId}{args:List AV}{hp:ag}{nm:Nat}{e:dg}(h:(hY C (fun as=>lZ C k g as []) nm g args).run hp=some e):
  ∃ fn : Func, C.P.funcs[g]? = some fn ∧ fn.body.isSome = true ∧ (fn.name == "runtime.NumGoroutine") = false := by
 unfold hY at h
 rw[RM.run_bind]at h
 cases hs:(aK 1000 args).run hp with
 |none=>rw[hs]at h; simp at h
 |some as=>
  rw[hs]at h
  simp only[Option.bind_some]at h
  split at h
  ·rename_i hh hi
   obtain⟨fn,h1,h2⟩:=bN.Ba g hh hi
   exact⟨fn,h1,h2,bN.name g fn h1 h2⟩
  ·split at h
   ·rename_i r gZ hq
    obtain⟨fn,h1,h2⟩:=ux hq
    exact⟨fn,h1,h2,bN.name g fn h1 h2⟩
   ·simp[RM.ae]at h
theorem z3[ab]{C:Ctx}(bN:C.Ok){k:Nat}(hF:lI C k){E:Env}{hp:ag}{w:World}(hI:Inv E hp w){nm:Nat}(mZ:nm=hp.length∨hp[nm]?=some none)
  {g:FuncId} {args:List AV} {vs:List Value} (ha:an E true args vs) {e:dg} (h:(hY C (fun as=>lZ C k g as []) nm g args).run hp=some e) :
  Calls C.P g vs.toArray w (Gw E w hp e):=by
 unfold hY at h
 rw[RM.run_bind]at h
 cases hs:(aK 1000 args).run hp with
 |none=>rw[hs]at h; simp at h
 |some as=>
  rw[hs]at h
  simp only[Option.bind_some]at h
  have lE:=(n4 hI (N:=fun _=>True) 1000).2 args as vs wK hs ha
  split at h
  ·rename_i hh hi
   split at h
   ·rename_i q hq
    exact(bN.iU g hh as q.1 q.2 hi hq _ w vs (kZ hI _) lE).mono fun en w' hp=>by
     obtain⟨r',PL,h1,h2⟩:=hp
     rw[←h2]at h
     exact Gx hI mZ h (fun b hb=>hb) h1
   ·simp[RM.ae]at h
  ·split at h
   ·rename_i r gZ hq
    exact(hF g as [] _ gZ hq _ w vs (kZ hI _) lE.gO).mono fun en w' hp=>Gx hI mZ h (fun b hb=>hb) hp
   ·simp[RM.ae]at h
theorem Bd[ab]{C:Ctx}(bN:C.Ok){k:Nat}{g:FuncId}{args:List AV}{hp:ag}{r:nM×List (Nat×aI)}(h:(kX C k g args).run hp=some r):
  ∃ fn : Func, C.P.funcs[g]? = some fn ∧ fn.body.isSome = true ∧ (fn.name == "runtime.NumGoroutine") = false := by
 have:∃ fn:Func,C.P.funcs[g]?=some fn∧fn.body.isSome=true:=by
  cases k with
  |zero=>simp[kX,RM.ae]at h
  |succ k=>
   simp only[kX,RM.run_bind]at h
   cases hq:(aK 1000 args).run hp with
   |none=>rw[hq]at h; simp at h
   |some as=>
    rw[hq]at h
    simp only[Option.bind_some]at h
    split at h
    ·rename_i hf hh; exact bN.EW g hf hh
    ·split at h
     case h_2=>simp[RM.ae]at h
     rename_i r gZ hr
     exact ux hr
 obtain⟨fn,h1,h2⟩:=this
 exact⟨fn,h1,h2,bN.name g fn h1 h2⟩
theorem pI[ab]{E E':Env}{hp cm:ag}{w w':World}(hI:Inv E hp w)(hx:Ext E E')(ie:Inv E' cm w')(hf:Fr E w E' w'){r:AV}{v:Value}(hr:aj E' true r v):
  ∃ E2,Ext E E2∧Inv E2 (gH hp.length r cm) w'∧Fr E w E2 w'∧aj E2 true r v:=by
 unfold gH
 split
 ·rename_i hc
  simp only[Bool.and_eq_true]at hc
  have hle:hp.length≤cm.length:=by rw[hI.len,ie.len]; exact hx.L
  obtain⟨h1,h2,h3⟩:=tm ie hle hc.2
  refine⟨E'.lower hp.length,⟨hx.m,fun n hn aq l h=>hx.ρ n hn aq l h,by simp[Env.lower,hI.len]⟩,h1,hf.trans h2,aj.down h3 hc.1 hr⟩
 ·exact⟨E',hx,ie,hf,hr⟩
theorem Gz[ab]{E:Env}{hp:ag}{w:World}(hI:Inv E hp w){esz:Nat}:
  ∃ E',Ext E E'∧Inv E' (hp++[some (.arr true true false [])]) w∧Fr E w E' w∧aj E' true (.bp esz hp.length 0 0 0 none) (.slice none 0 0):=by
 let E':Env:={ ρ:=fun n aq=>if n=hp.length then (if aq=0 then some ⟨none,esz,0⟩ else none) else E.ρ n aq,m:=E.m,L:=E.L+1,own:=E.own }
 have hx:Ext E E':=⟨fun _ _ h=>h,fun n hn aq l h=>by
  have:n≠hp.length:=by rw[hI.len]; omega
  simp[E',this,h],by simp[E']⟩
 have dc:∀ n,n≠hp.length→∀ aq,E'.ρ n aq=E.ρ n aq:=fun n hn aq=>by simp[E',hn]
 have lC:∀ n o,n≠hp.length→(hp++[some (.arr true true false [])])[n]?=some o→hp[n]?=some o:=by
  intro n o hn h
  rw[List.getElem?_append]at h
  split at h
  ·exact h
  ·rw[List.getElem?_eq_none (by simp; omega)]at h; simp at h
 have eR:∀ n b,cj E' (hp++[some (.arr true true false [])]) n b→cj E hp n b:=by
  rintro n b ⟨o,l,ho,hl,hb⟩
  by_cases e:n=hp.length
  ·subst e
   simp at ho
   subst ho
   simp[E']at hl
   subst hl
   simp at hb
  ·refine⟨o,l,lC n _ e ho,?_,hb⟩
   cases o with
   |arr=>simpa only[dc n e] using hl
   |gd=>simpa only[dc n e] using hl
 refine⟨E',hx,⟨by simp[E',hI.len],?_,?_,fun n1 n2 b h1 h2=>hI.inj n1 n2 b (eR _ _ h1) (eR _ _ h2),hI.mem,hI.oT,hI.jo⟩,
  ⟨rfl,rfl,rfl,Nat.le_refl _,fun _ _ _=>rfl,fun _ h=>.inl h,fun _ _ h=>.inl h,fun _ r h=>⟨r,h⟩⟩,?_⟩
 ·intro n o ho
  by_cases e:n=hp.length
  ·subst e
   simp at ho
   subst ho
   refine⟨⟨none,esz,0⟩,by simp[E'],fun aq l' h=>?_,rfl,rfl⟩
   simp[E']at h
   simp[h.1]
  ·have c6:=lC n _ e ho
   have h:=hI.objs n o c6
   cases o with
   |arr g cl fz es=>
    obtain⟨l,hl,hv,hm⟩:=h
    refine⟨l,by rw[dc n e]; exact hl,fun aq l' h=>hv aq l' (by rw[dc n e]at h; exact h),?_⟩
    cases hb:l.kB with
    |none=>rw[hb]at hm; exact hm
    |some b=>
     rw[hb]at hm
     obtain⟨c,T,a1,a2,a3,a4,a5,a6,a7⟩:=hm
     exact⟨c,T,a1,a2,a3,a4,a5,a6,fun i x gf=>by obtain⟨v,jP,fo⟩:=a7 i x gf; exact⟨v,jP.mono hx,fo⟩⟩
   |gd k MC=>
    obtain⟨l,b,es,clock,a1,a2,a3,a4,a5,a6,a7,a8⟩:=h
    exact⟨l,b,es,clock,by rw[dc n e]; exact a1,a2,a3,a4,a5,fun aq l' h=>a6 aq l' (by rw[dc n e]at h; exact h),a7,a8.mono hx⟩
 ·intro n aq h
  by_cases e:n=hp.length
  ·subst e; simp at h
  ·rw[dc n e]; exact hI.free n aq (lC n _ e h)
 ·simp only[aj]
  refine⟨trivial,?_,⟨none,esz,0⟩,by simp[E'],rfl,by simp,?_⟩
  ·show hp.length<E.L+1
   rw[hI.len]; omega
  ·simp
theorem gT{α:Type}{l:List α}{n:Nat}{x:α}(h:l[n]?=some x):l.set n x=l:=by
 apply List.ext_getElem?
 intro m
 by_cases hm:n=m
 ·grind
 ·rw[List.getElem?_set_ne hm]
theorem vL[ab]{E E':Env}(hx:Ext E E'){esz j nm:Nat}(mZ:aj E' true (.bp esz nm 0 0 0 none) (.slice none 0 0)){e e':AV}{v:Value}(hr:aj E true e v)(h:kD esz j nm e=some e'):aj E' true e' v:=by
 unfold kD at h
 split at h
 ·rename_i l
  split at h
  case h_2=>simp at h
  rename_i hl
  simp only[Option.some.injEq]at h
  subst h
  simp only[aj]at hr
  obtain⟨c,rfl,hc⟩:=hr
  obtain⟨v,hv,XP,Za⟩:=hc.get hl
  simp only[aj]at XP
  subst XP
  have:=(hc.mono hx).set j mZ Za
  rw[gT hv]at this
  simp only[aj]
  exact⟨c,rfl,this⟩
 ·grind[aj]
 ·simp at h
theorem rO[ab]{E:Env}{hp:ag}{w:World}(hI:Inv E hp w){n i:Nat}{g c f:Bool}{es:List AV}{e e':AV}(ho:hp[n]?=some (some (.arr g c f es)))(hi:es[i]?=some e)
  (hr:∀ v,aj E true e v→aj E true e' v):Inv E (hp.set n (some (.arr g false f (es.set i e')))) w:=by
 have hn:=(List.getElem?_eq_some_iff.1 ho).1
 have lC:∀ m o,(hp.set n (some (.arr g false f (es.set i e'))))[m]?=some o→m=n∧o=some (.arr g false f (es.set i e'))∨m≠n∧hp[m]?=some o:=by
  grind
 have eR:∀ m b,cj E (hp.set n (some (.arr g false f (es.set i e')))) m b→cj E hp m b:=by
  rintro m b ⟨o,l,h1,h2,h3⟩
  rcases lC m _ h1 with ⟨rfl,h5⟩|⟨_,h5⟩
  ·cases h5
   exact⟨_,l,ho,by simpa using h2,h3⟩
  ·exact⟨o,l,h5,h2,h3⟩
 refine⟨by rw[List.length_set]; exact hI.len,fun m o h=>?_,fun m aq h=>?_,fun m m' b h1 h2=>hI.inj m m' b (eR _ _ h1) (eR _ _ h2),hI.mem,hI.oT,hI.jo⟩
 ·rcases lC m _ h with ⟨rfl,h5⟩|⟨_,h5⟩
  ·cases h5
   obtain⟨l,h1,h2,h3⟩:=hI.objs _ _ ho
   refine⟨l,by simpa using h1,fun aq l' h=>by simpa using h2 aq l' h,?_⟩
   cases hb:l.kB with
   |none=>
    rw[hb]at h3
    obtain⟨rfl,rfl⟩:=h3
    simp at hi
   |some b=>
    rw[hb]at h3
    obtain⟨c',T,a1,a2,a3,a4,a5,a6,a7⟩:=h3
    refine⟨c',T,a1,a2,a3,a4,by simpa using a5,fun h=>by simpa using a6 h,fun k x hx=>?_⟩
    by_cases hk:k=i
    ·subst hk
     rw[List.getElem?_set_self (List.getElem?_eq_some_iff.1 hi).1]at hx
     simp only[Option.some.injEq]at hx
     subst hx
     obtain⟨v,hv,fo⟩:=a7 _ _ hi
     exact⟨v,by simpa using hr v hv.AK,fo⟩
    ·rw[List.getElem?_set_ne (Ne.symm hk)]at hx
     obtain⟨v,hv,fo⟩:=a7 _ _ hx
     exact⟨v,by simpa using hv.AK,fo⟩
  ·exact hI.objs m o h5
 ·rcases lC m _ h with ⟨rfl,h5⟩|⟨_,h5⟩
  ·cases h5
  ·exact hI.free m aq h5
theorem Be[ab]{E:Env}{j:Nat}{e e':AV}(h:sL j e=some e')(v:Value)(hr:aj E true e v):aj E true e' v:=by
 unfold sL at h
 split at h
 case h_2=>simp at h
 rename_i l
 split at h
 case h_2=>simp at h
 rename_i hj
 simp only[Option.some.injEq]at h
 subst h
 simp only[aj]at hr ⊢
 obtain⟨c,rfl,hc⟩:=hr
 refine⟨c,rfl,?_⟩
 have Vh:j<l.length:=by simpa using hj
 obtain⟨u,hu,_⟩:=hc.F1.get (List.getElem?_eq_getElem Vh)
 have:=hc.set j (x:=.any) (v:=u) (by simp[aj]) (hc.leaf u (List.mem_iff_getElem?.2 ⟨j,hu⟩))
 rw[gT hu]at this
 exact this
theorem EY[ab]{B:oJ}{E:Env}{s:St}{a:Act}{w:World}(hs:cG B E s a w)(d j:Nat):cG B E (mi s d j) a w:=by
 unfold mi
 split
 ·split
  ·rename_i ho
   split
   ·rename_i e' he
    obtain⟨e,Mg,xK⟩:=Option.bind_eq_some_iff.1 he
    exact⟨hs.fr,rO hs.inv ho Mg fun v hv=>Be xK v hv,hs.df,hs.bs⟩
   ·exact hs
  ·exact hs
 ·exact hs
theorem uy[ab]{B:oJ}{E:Env}{a:Act}{w:World}:∀ (l:List (Nat×Nat)) {s:St},cG B E s a w→cG B E (gF l s) a w
 |[],_,hs=>hs
 |(d,j)::r,_,hs=>uy r (EY hs d j)
theorem Cw(s:St)(d j:Nat):(mi s d j).hp.length=s.hp.length:=by
 grind[mi]
theorem rP:∀ (l:List (Nat×Nat)) (s:St),(gF l s).hp.length=s.hp.length
 |[],_=>rfl
 |(d,j)::r,s=>by
  simp only[gF]
  rw[rP r,Cw]
theorem HG[ab]{B:oJ}{E:Env}{s:St}{a:Act}{w:World}(hs:cG B E s a w)(d:Tmp)(j esz:Nat):∃ E',Ext E E'∧Fr E w E' w∧cG B E' (pb d s j esz) a w:=by
 obtain⟨E',h1,h2,h3,h4⟩:=Gz (esz:=esz) hs.inv
 have same:∃ E',Ext E E'∧Fr E w E' w∧cG B E' s a w:=⟨E,Ext.refl E,Fr.refl E w,hs⟩
 unfold pb
 split
 ·rename_i n aq i k hd
  split
  ·rename_i g c f es ho
   split
   ·rename_i e' he
    obtain⟨e,Mg,xK⟩:=Option.bind_eq_some_iff.1 he
    have hn:=(List.getElem?_eq_some_iff.1 ho).1
    have c6:(s.hp++[some (aI.arr true true false [])])[n]?=some (some (.arr g c f es)):=by rw[List.getElem?_append_left hn]; exact ho
    obtain⟨l,sE,_,Jl⟩:=hs.inv.objs _ _ ho
    cases hb:l.kB with
    |none=>
     simp_all
    |some b=>
     rw[hb]at Jl
     obtain⟨c',T,a1,a2,a3,a4,a5,a6,a7⟩:=Jl
     obtain⟨v0,MJ,_⟩:=a7 _ _ Mg
     have Vi:∀ v,aj E' true e v→aj E' true e' v:=fun v hv=>vL (Ext.refl E') h4 hv xK
     refine⟨E',h1,h3,⟨hs.fr.mono h1,?_,hs.df.mono h3,hs.bs⟩⟩
     have:=rO h2 c6 Mg Vi
     rw[List.set_append_left _ _ hn]at this
     exact this
   ·exact same
  ·exact same
 ·rename_i e _ hd
  split
  ·rename_i e' he
   obtain⟨v,hv,hr⟩:=hs.fr.get hd
   refine⟨E',h1,h3,⟨?_,h2,hs.df.mono h3,hs.bs⟩⟩
   have:=(hs.fr.mono h1).set d (vL h1 h4 hr he)
   rw[gT hv]at this
   exact this
  ·exact same
 ·exact same
theorem GA[ab]{B:oJ}{d:Tmp}{a:Act}{w:World}:∀ (l:List (Nat×Nat)) {E:Env} {s:St},cG B E s a w→∃ E',Ext E E'∧Fr E w E' w∧cG B E' (I3 d l s) a w
 |[],E,s,hs=>⟨E,Ext.refl E,Fr.refl E w,hs⟩
 |(j,esz)::r,E,s,hs=>by
  obtain⟨E1,h1,h2,h3⟩:=HG hs d j esz
  obtain⟨E2,h4,h5,h6⟩:=GA r h3
  exact⟨E2,h1.trans h4,h2.trans h5,h6⟩
theorem Ka[ab]{B:oJ}{l:Tmp→List (Nat×Nat)}{dst:Option Tmp}{a:Act}{w:World}{E:Env}{s:St}(hs:cG B E s a w):∃ E',Ext E E'∧Fr E w E' w∧cG B E' (BT l dst s) a w:=by
 cases dst with
 |none=>exact⟨E,Ext.refl E,Fr.refl E w,hs⟩
 |some d=>exact GA _ hs
theorem iD{hp:ag}{n:Nat}{st:kW}(h:ia hp n=some st):∃ fn ps as bd fr,hp[n]?=some (some (.gd (.loop fn ps as bd st) fr)):=by
 grind[ia]
theorem n7[ab]{E:Env}{hp:ag}{w:World}(hI:Inv E hp w){n:Nat}{fn:FuncId}{ps:Array Tmp}{as bd:Code}{st:kW}{fr:List AV}(ho:hp[n]?=some (some (.gd (.loop fn ps as bd st) fr)))
  {l:Loc} {b:Nat} (hl:E.ρ n 0=some l) (hb:l.kB=some b) :
  ∃ r,w.heap[b]?=some (.loop r)∧r.params=ps∧r.assign=as∧r.body=bd∧st.is r.state r.pending∧an E true fr r.tmps.toList:=by
 obtain⟨l0,b0,ob,us,h1,h2,h3,h4,h5,h6,h7,h8⟩:=hI.objs n _ ho
 rw[hl]at h1; cases h1
 rw[hb]at h2; cases h2
 cases ob with
 |loop r=>
  obtain⟨a1,a2,a3,a4,a5⟩:=h7
  exact⟨r,h3,a1,a2,a3,a4,by rw[a5]; exact h8⟩
 |_=>exact h7.elim
theorem Cx[ab]{E:Env}{hp:ag}{w:World}(hI:Inv E hp w){n:Nat}{fn:FuncId}{ps:Array Tmp}{as bd:Code}{st:kW}{fr:List AV}(ho:hp[n]?=some (some (.gd (.loop fn ps as bd st) fr)))
  {l:Loc} {b:Nat} (hl:E.ρ n 0=some l) (hb:l.kB=some b) {r:Loop} (hr:w.heap[b]?=some (.loop r)) {st':kW} {s':LoopState} {p':Option Code} (Vj:st'.is s' p') :
  Inv E (oG hp n st') (w.putObj b (.loop { r with state:=s',pending:=p' }))∧Fr E w E (w.putObj b (.loop { r with state:=s',pending:=p' })):=by
 obtain⟨r',h1,h2,h3,h4,_,h6⟩:=n7 hI ho hl hb
 rw[hr]at h1
 cases h1
 unfold oG
 rw[ho]
 exact wI hI ho hl hb (k':=.loop fn ps as bd st') (us':=r.tmps.toList) ⟨h2,h3,h4,Vj,rfl⟩ h6 (fun _ _ _ _ _=>⟨_,rfl⟩)
theorem uz{E:Env}{u:List Nat}:∀ (i:Nat) (fr:List AV) (vs:List Value),an E true fr vs→an E true (m9 u i fr) vs
 |_,[],[],h=>by simp[m9,an]
 |i,x::xs,v::vs,h=>by
  simp only[an]at h
  simp only[m9,an]
  refine⟨?_,uz (i+1) xs vs h.2⟩
  split
  ·exact h.1
  ·simp[aj]
 |_,[],_::_,h=>by simp[an]at h
 |_,_::_,[],h=>by simp[an]at h
theorem Cy{E:Env}:∀ (fr:List AV) (vs:List Value),an E true fr vs→an E true (fr.map fun _=>.any) vs
 |[],[],_=>by simp[an]
 |x::xs,v::vs,h=>by
  simp only[an]at h
  simp only[List.map_cons,an,aj]
  exact⟨trivial,Cy xs vs h.2⟩
 |[],_::_,h=>by simp[an]at h
 |_::_,[],h=>by simp[an]at h
theorem Cz[ab]{E:Env}{hp:ag}{w:World}(hI:Inv E hp w){n:Nat}{fn:FuncId}{ps:Array Tmp}{as bd:Code}{st:kW}{fr:List AV}(ho:hp[n]?=some (some (.gd (.loop fn ps as bd st) fr)))
  {l:Loc} {b:Nat} (hl:E.ρ n 0=some l) (hb:l.kB=some b) {r:Loop} (hr:w.heap[b]?=some (.loop r)) {s':LoopState} {p':Option Code} :
  Inv E (qZ hp n) (w.putObj b (.loop { r with state:=s',pending:=p' }))∧Fr E w E (w.putObj b (.loop { r with state:=s',pending:=p' })):=by
 obtain⟨r',h1,h2,h3,h4,_,h6⟩:=n7 hI ho hl hb
 rw[hr]at h1
 cases h1
 unfold qZ
 rw[ho]
 exact wI hI ho hl hb (k':=.loop fn ps as bd .gL) (us':=r.tmps.toList) ⟨h2,h3,h4,trivial,rfl⟩ (Cy _ _ h6) (fun _ _ _ _ _=>⟨_,rfl⟩)
theorem vM{E:Env}:∀ (ps:List Tmp) (xs:List AV) (vs:List Value) (fr:List AV) (t:Array Value),an E true fr t.toList→an E true xs vs →
  an E true (fD fr ps xs) ((ps.zip vs).foldl (fun (t:Array Value) (q:Tmp×Value)=>t.setIfInBounds q.1 q.2) t).toList
 |[],xs,vs,fr,t,h,_=>by simpa[fD] using h
 |p::ps,[],[],fr,t,h,_=>by simpa[fD] using h
 |p::ps,x::xs,v::vs,fr,t,h,hx=>by
  simp only[an]at hx
  simp only[fD,List.zip_cons_cons,List.foldl_cons]
  refine vM ps xs vs _ _ ?_ hx.2
  rw[Array.toList_setIfInBounds]
  exact h.set p hx.1
 |p::ps,[],_::_,_,_,_,h=>by simp[an]at h
 |p::ps,_::_,[],_,_,_,h=>by simp[an]at h
theorem yZ{P:Program}{a:Act}{w:World}{o:Oper}{c:Call}{f:Operand}(ho:o.op=.call c)(hc:c.callee=.value f){b:Nat}(hf:a.eval f=.func (.yield b) #[] #[])
  {r:Loop} (hr:w.heap[b]?=some (.loop r)) (hs:(c.args.map a.eval).size=r.params.size) :
  (execOp a.eval o).run P w=.ok (.round b r.fn ((r.params.zip (c.args.map a.eval)).foldl (fun tmps (t,a)=>tmps.setIfInBounds t a) r.tmps) r.assign r.body) w:=by
 have h1:(execOp a.eval o)=(do let d ←Deferred.ofValue (a.eval f) (c.args.map a.eval); invoke d.target d.args):=by
  simp only[execOp,ho,resolve,hc]
 rw[h1,hf]
 have h2:=run_yield (P:=P) (args:=c.args.map a.eval) hr hs
 simp only[Deferred.ofValue,Sem.run_bind,Sem.run_pure,Result.andThen_ok,invoke,Array.empty_append]
 exact h2
theorem Kb[ab]{C:Ctx}{k:Nat}(hC:fq C k){rd:Option Nat}{B:oJ}{E:Env}{s:St}{a:Act}{w:World}(hs:cG B E s a w){n:Nat}{o:Oper}{c:Call}{f:Operand}(ho:o.op=.call c)(hc:c.callee=.value f)
  (hf:az s.fr f=.mp true n) {r:Out} (aV:gI (fun c s=>bS C k c s) n (c.args.toList.map (az s.fr)) o.dst s=some r) {K:Act→World→Prop} {Q:Exit→Act→World→Prop}
  (hK:∀ s',r=.norm s'→∀ E' a' w',Ext E E'→Fr E w E' w'→cG B E' s' a' w'→K a' w'):o.wpIn (WF rd) 0 C.P a w K Q:=by
 unfold gI at aV
 split at aV
 case h_2=>simp at aV
 rename_i Zb ps as bd fr EZ
 split at aV
 case h_2=>simp at aV
 rename_i HH
 have hlen:=of_decide_eq_true HH
 have bA:=fun y=>gR hs.inv.jo hs.fr y
 have CA:=bA f
 rw[hf]at CA
 simp only[aj]at CA
 obtain⟨_,Hu,l,b,hl,hb,CA⟩:=CA
 obtain⟨r0,g1,g2,g3,g4,g5,g6⟩:=n7 hs.inv EZ hl hb
 have ja:=iZ bA c.args.toList
 have kF:(c.args.map a.eval).size=r0.params.size:=by
  rw[g2,←hlen]
  simp
 refine⟨fun _ _=>trivial,?_⟩
 rw[Oper.semAt_eq _ _ _ (by rw[ho]; intro c h; cases h),yZ ho hc CA g1 kF,Oper.uponIn_round]
 refine⟨fun h=>by simp[WF,Fence.wide]at h,?_⟩
 rw[g3,g4]
 refine roundIn_of_wpIn trivial ?_
 have RY:((r0.params.zip (c.args.map a.eval)).foldl (fun tmps (x:Tmp×Value)=>tmps.setIfInBounds x.1 x.2) r0.tmps)=((ps.toList.zip (c.args.toList.map a.eval)).foldl (fun (t:Array Value) (q:Tmp×Value)=>t.setIfInBounds q.1 q.2) r0.tmps):=by
  rw[←Array.foldl_toList,Array.toList_zip,g2,Array.toList_map]
 split at aV
 case h_2=>simp at aV
 rename_i s1 Vk
 split at aV
 case h_2=>simp at aV
 rename_i Vl
 have Ed:cG ⟨w.heap.size,[],true,some b⟩ E ⟨Zb,fD fr ps.toList (c.args.toList.map (az s.fr)),s.hp⟩ { tmps:=(r0.params.zip (c.args.map a.eval)).foldl (fun tmps (x:Tmp×Value)=>tmps.setIfInBounds x.1 x.2) r0.tmps,defers:=[] } w:=
  ⟨by rw[RY]; exact vM _ _ _ _ _ g6 ja,hs.inv,Marks.U7 g1,Nat.le_refl _⟩
 refine wpIn_mono (hC as _ _ Vk (some b) _ (.inl ⟨rfl,rfl⟩) E _ w Ed) fun e a1 w1 hp=>?_
 obtain⟨E1,Mo,rN,HI⟩:=hp
 cases e with
 |normal=>
  have ny:cG ⟨w.heap.size,[],true,some b⟩ E1 s1 a1 w1:=HI
  obtain⟨fn1,ps1,as1,bd1,fr1,OJ⟩:=iD Vl
  have sE:=Mo.ρ n Hu 0 l hl
  obtain⟨r1,q1,q2,q3,q4,q5,q6⟩:=n7 ny.inv OJ sE hb
  obtain⟨Q3,JQ⟩:=Cx ny.inv OJ sE hb q1 (st':=.busy) (s':=.busy) (p':=r1.pending) ⟨rfl,q5.2⟩
  refine⟨_,run_beginRound q1 q5.1,?_⟩
  have yT:cG ⟨w.heap.size,[],true,some b⟩ E1 { s1 with hp:=oG s1.hp n .busy } a1 (w1.putObj b (.loop { r1 with state:=.busy })):=
   ⟨ny.fr,Q3,ny.df.mono JQ,Nat.le_trans ny.bs JQ.size⟩
  have finish:∀ (s2:St) (bb:Bool) (st:kW) (j:Option Code) (E2:Env) (w2:World),bb=j.isNone→st.is (if j.isNone then .ready else .done) j→wZ n o.dst s bb st s2.hp=some r→Ext E1 E2→Fr E1 (w1.putObj b (.loop { r1 with state:=.busy })) E2 w2→Inv E2 s2.hp w2 →
    ∃ v w',(Instr.endRound b j).run C.P w2=.ok v w'∧K (a.put o.dst v) w':=by
   intro s2 bb st j E2 w2 Po Vj CB j0 hG qk
   unfold wZ at CB
   split at CB
   case h_2=>simp at CB
   rename_i Vm
   simp only[Option.some.injEq]at CB
   obtain⟨fn2,ps2,Ua,bd2,fr2,OK⟩:=iD Vm
   have ra:=j0.ρ n (Nat.lt_of_lt_of_le Hu Mo.L) 0 l sE
   obtain⟨r2,u1,_,_,_,u5,_⟩:=n7 qk OK ra hb
   obtain⟨c1,c2⟩:=Cx qk OK ra hb u1 Vj
   refine⟨_,_,run_endRound j u1,?_⟩
   have hx:=Mo.trans j0
   have eX:=((rN.trans JQ).trans hG).trans c2
   obtain⟨E3,d1,d2,d3,d4⟩:=pI hs.inv hx c1 eX (r:=.lit (.bool bb)) (v:=.bool bb) (by simp[aj])
   subst Po
   exact hK _ CB.symm E3 _ _ d1 d3 ⟨gk (hs.fr.mono d1) d4,d2,by rw[put_defers]; exact hs.df.mono d3,Nat.le_trans hs.bs d3.size⟩
  split at aV
  ·rename_i s2 Kc
   refine wpIn_mono (hC bd _ _ Kc (some b) _ (.inl ⟨rfl,rfl⟩) E1 _ _ yT) fun e a2 w2 hp=>?_
   obtain⟨E2,j0,hG,uv⟩:=hp
   cases e with
   |normal=>exact finish s2 true .ready none E2 w2 rfl ⟨rfl,rfl⟩ aV j0 hG (cG.inv uv)
   |_=>exact uv.elim
  ·rename_i id s2 Kc
   refine wpIn_mono (hC bd _ _ Kc (some b) _ (.inl ⟨rfl,rfl⟩) E1 _ _ yT) fun e a2 w2 hp=>?_
   obtain⟨E2,j0,hG,uv⟩:=hp
   cases e with
   |exit j=>
    obtain⟨rfl,uv⟩:=uv
    exact finish s2 false (.jump (some id)) (some (.exit id)) E2 w2 rfl ⟨rfl,rfl⟩ aV j0 hG uv.inv
   |_=>exact uv.elim
  ·rename_i s2 Kc
   refine wpIn_mono (hC bd _ _ Kc (some b) _ (.inl ⟨rfl,rfl⟩) E1 _ _ yT) fun e a2 w2 hp=>?_
   obtain⟨E2,j0,hG,uv⟩:=hp
   cases e with
   |ret=>exact finish s2 false (.jump none) (some .ret) E2 w2 rfl ⟨rfl,rfl⟩ aV j0 hG (cG.inv uv)
   |_=>exact uv.elim
  ·simp at aV
 |_=>exact HI.elim
theorem E5{run:Code→St→Option Out}{n:Nat}{args:List AV}{dst:Option Tmp}{s:St}{r:Out}(h:gI run n args dst s=some r):∃ s',r=.norm s':=by
 unfold gI at h
 repeat' split at h
 all_goals first
  |simp at h
  |(unfold wZ at h
    split at h
    ·grind
    ·simp at h)
theorem CC[ab]{C:Ctx}(bN:C.Ok){k:Nat}(hF:lI C k)(hP:uw C k)(hC:fq C k):lJ C.P (fun o s=>fE C (k+1) o s):=by
 intro o s r h rd B E a w K Q hs hK hQ
 have bA:=fun x=>gR hs.inv.jo hs.fr x
 have Ub:∀ (res:Option dg),res=(aM C.P s.hp.length (az s.fr) o).run s.hp →
   (match res with|some e=>some (Out.norm { s with fr:=bC s.fr o.dst e.val,hp:=ai s.hp e.wr })|none=>none)=some r→o.wpIn (WF rd) 0 C.P a w K Q:=by
  intro res cy h
  split at h
  case h_2=>simp at h
  rename_i e
  simp only[Option.some.injEq]at h
  refine wL hs (sZ hs.inv (.inl rfl) bA cy.symm) fun E' w' v hx hf ie hv=>?_
  exact hK _ h.symm E' _ w' hx hf ⟨gk (hs.fr.mono hx) hv,ie,by rw[put_defers]; exact hs.df.mono hf,Nat.le_trans hs.bs hf.size⟩
 obtain⟨dst,op,type,pos,after,guard⟩:=o
 simp only[fE]at h
 split at h
 ·rename_i c
  split at h
  ·exact Ub _ rfl h
  ·rename_i f y6
   split at h
   ·split at h
    ·rename_i n hn
     exact Kb hC hs rfl y6 hn h hK
    ·simp at h
   rename_i g args cy
   have ja:=iZ bA c.args.toList
   split at h
   ·-- a result of the caller's own
    split at h
    case h_2=>simp at h
    rename_i e hq
    simp only[Option.some.injEq]at h
    obtain⟨vs',mc,aV⟩:=eU (w:=w) (bA f) ja cy (z2 bN hq)
    refine qp rfl y6 aV (z3 bN hF hs.inv (.inl rfl) mc hq) (fun v w' hp=>?_) (fun ch w' hp=>?_) (fun w' hp=>?_)
    ·obtain⟨v',jP,E',hx,ie,hf,hr⟩:=hp
     cases jP
     exact hK _ h.symm E' _ w' hx hf ⟨gk (hs.fr.mono hx) hr,ie,by rw[put_defers]; exact hs.df.mono hf,Nat.le_trans hs.bs hf.size⟩
    ·obtain⟨v',jP,_⟩:=hp
     cases jP
    ·obtain⟨v',jP,_⟩:=hp
     cases jP
   split at h
   ·-- by value
    rename_i tn
    cases hq:(kX C k g args).run s.hp with
    |none=>rw[hq]at h; simp at h
    |some q=>
     obtain⟨res,wr⟩:=q
     rw[hq]at h
     obtain⟨vs',mc,aV⟩:=eU (w:=w) (bA f) ja cy (Bd bN hq)
     have gQ:=hP g args s.hp res wr hq E w vs' hs.inv mc
     refine qp rfl y6 aV gQ (fun v w' hp=>?_) (fun ch w' hp=>?_) (fun w' hp=>?_)
     ·obtain⟨E',hx,ie,hf,hr⟩:=hp
      cases res with
      |jL _=>exact hr.elim
      |val x=>
       simp only[Option.some.injEq]at h
       exact hK _ h.symm E' _ w' hx hf ⟨gk (hs.fr.mono hx) hr,ie,by rw[put_defers]; exact hs.df.mono hf,Nat.le_trans hs.bs hf.size⟩
     ·obtain⟨E',hx,ie,hf,hr⟩:=hp
      cases res with
      |val _=>exact hr.elim
      |jL x=>
       simp only[Option.some.injEq]at h
       obtain⟨u,rfl,hu⟩:=hr
       exact hQ _ _ h.symm E' w' u hx hf ie hu
     ·obtain⟨E',hx,ie,hf,hr⟩:=hp
      cases res<;>exact hr.elim
   ·-- with the heap
    rename_i tn
    cases hq:lZ C k g args s.hp with
    |none=>rw[hq]at h; simp at h
    |some q=>
     obtain⟨res,cm⟩:=q
     rw[hq]at h
     obtain⟨fn,rN,hG⟩:=ux hq
     obtain⟨vs',mc,aV⟩:=eU (w:=w) (bA f) ja cy ⟨fn,rN,hG,bN.name g fn rN hG⟩
     have gQ:=hF g args s.hp res cm hq E w vs' hs.inv mc
     refine qp rfl y6 aV gQ (fun v w' hp=>?_) (fun ch w' hp=>?_) (fun w' hp=>?_)
     ·obtain⟨E',hx,ie,hf,hr⟩:=hp
      cases res with
      |jL _=>exact hr.elim
      |val x=>
       simp only[Option.some.injEq]at h
       obtain⟨E2,j0,qk,hG,E6⟩:=pI hs.inv hx ie hf hr
       exact hK _ h.symm E2 _ w' j0 hG ⟨gk (hs.fr.mono j0) E6,qk,by rw[put_defers]; exact hs.df.mono hG,Nat.le_trans hs.bs hG.size⟩
     ·obtain⟨E',hx,ie,hf,hr⟩:=hp
      cases res with
      |val _=>exact hr.elim
      |jL x=>
       simp only[Option.some.injEq]at h
       obtain⟨u,rfl,hu⟩:=hr
       obtain⟨E2,j0,qk,hG,E6⟩:=pI hs.inv hx ie hf hu
       exact hQ _ _ h.symm E2 w' u j0 hG qk E6
     ·obtain⟨E',hx,ie,hf,hr⟩:=hp
      cases res<;>exact hr.elim
  ·rename_i rv name y6
   obtain⟨cal,cR,mj⟩:=c
   simp only at y6
   subst y6
   have ja:=iZ bA cR.toList
   split at h
   ·simp at h
   rename_i g x cy
   split at h
   ·cases hq:(kX C k g (x::cR.toList.map (az s.fr))).run s.hp with
    |none=>rw[hq]at h; simp at h
    |some q=>
     obtain⟨res,wr⟩:=q
     rw[hq]at h
     obtain⟨vs',mc,aV⟩:=Bb (w:=w) (o:=⟨dst,.call ⟨.invoke rv name,cR,mj⟩,type,pos,after,guard⟩) rfl (bA rv) ja cy (Bd bN hq)
     have gQ:=hP g _ s.hp res wr hq E w vs' hs.inv mc
     refine xJ rfl aV gQ (fun v w' hp=>?_) (fun ch w' hp=>?_) (fun w' hp=>?_)
     ·obtain⟨E',hx,ie,hf,hr⟩:=hp
      cases res with
      |jL _=>exact hr.elim
      |val x=>
       simp only[Option.some.injEq]at h
       exact hK _ h.symm E' _ w' hx hf ⟨gk (hs.fr.mono hx) hr,ie,by rw[put_defers]; exact hs.df.mono hf,Nat.le_trans hs.bs hf.size⟩
     ·obtain⟨E',hx,ie,hf,hr⟩:=hp
      cases res with
      |val _=>exact hr.elim
      |jL x=>
       simp only[Option.some.injEq]at h
       obtain⟨u,rfl,hu⟩:=hr
       exact hQ _ _ h.symm E' w' u hx hf ie hu
     ·obtain⟨E',hx,ie,hf,hr⟩:=hp
      cases res<;>exact hr.elim
   ·cases hq:lZ C k g (x::cR.toList.map (az s.fr)) s.hp with
    |none=>rw[hq]at h; simp at h
    |some q=>
     obtain⟨res,cm⟩:=q
     rw[hq]at h
     obtain⟨fn,rN,hG⟩:=ux hq
     obtain⟨vs',mc,aV⟩:=Bb (w:=w) (o:=⟨dst,.call ⟨.invoke rv name,cR,mj⟩,type,pos,after,guard⟩) rfl (bA rv) ja cy ⟨fn,rN,hG,bN.name g fn rN hG⟩
     have gQ:=hF g _ s.hp res cm hq E w vs' hs.inv mc
     refine xJ rfl aV gQ (fun v w' hp=>?_) (fun ch w' hp=>?_) (fun w' hp=>?_)
     ·obtain⟨E',hx,ie,hf,hr⟩:=hp
      cases res with
      |jL _=>exact hr.elim
      |val x=>
       simp only[Option.some.injEq]at h
       obtain⟨E2,j0,qk,hG,E6⟩:=pI hs.inv hx ie hf hr
       exact hK _ h.symm E2 _ w' j0 hG ⟨gk (hs.fr.mono j0) E6,qk,by rw[put_defers]; exact hs.df.mono hG,Nat.le_trans hs.bs hG.size⟩
     ·obtain⟨E',hx,ie,hf,hr⟩:=hp
      cases res with
      |val _=>exact hr.elim
      |jL x=>
       simp only[Option.some.injEq]at h
       obtain⟨u,rfl,hu⟩:=hr
       obtain⟨E2,j0,qk,hG,E6⟩:=pI hs.inv hx ie hf hu
       exact hQ _ _ h.symm E2 w' u j0 hG qk E6
     ·obtain⟨E',hx,ie,hf,hr⟩:=hp
      cases res<;>exact hr.elim
 ·-- a slice that begins as nil
  have aV:(execOp a.eval { dst,op:=.assign (.const (.slice none 0 0)),type,pos,after,guard }).run C.P w=.ok (.value (.slice none 0 0)) w:=rfl
  have next:∀ (x:AV) (E':Env) (cm:ag),Ext E E'→Inv E' cm w→Fr E w E' w→aj E' true x (.slice none 0 0) →
    r=.norm { s with fr:=bC s.fr dst x,hp:=cm }→Oper.wpIn (WF rd) 0 C.P { dst,op:=.assign (.const (.slice none 0 0)),type,pos,after,guard } a w K Q:=by
   intro x E' cm hx ie hf hr he
   refine⟨fun _ _=>trivial,?_⟩
   rw[Oper.semAt_eq _ _ _ (by intro c h; cases h),aV,Oper.uponIn_value]
   exact hK _ he E' _ w hx hf ⟨gk (hs.fr.mono hx) hr,ie,by rw[put_defers]; exact hs.df.mono hf,Nat.le_trans hs.bs hf.size⟩
  split at h
  ·rename_i d
   split at h
   ·split at h
    case h_2=>simp at h
    rename_i q hq
    split at h
    case isFalse=>simp at h
    simp only[Option.some.injEq]at h
    obtain⟨E',h1,h2,h3,h4⟩:=Gz (esz:=q.size) hs.inv
    exact next _ E' _ h1 h2 h3 h4 h.symm
   ·simp only[Option.some.injEq]at h
    exact next (.lit cK) E s.hp (Ext.refl E) hs.inv (Fr.refl E w) (by simp[aj]) h.symm
  ·simp only[Option.some.injEq]at h
   exact next (.lit cK) E s.hp (Ext.refl E) hs.inv (Fr.refl E w) (by simp[aj]) h.symm
 ·-- any other operation; nil slices in what it gives may be named anew
  split at h
  case h_2=>simp at h
  rename_i e he
  simp only[Option.some.injEq]at h
  refine wL hs (sZ hs.inv (.inl rfl) bA he) fun E' w' v hx hf ie hv=>?_
  obtain⟨E2,j0,hG,yT⟩:=Ka (l:=C.qP s.fn) (dst:=dst) (s:={ s with fr:=bC s.fr dst e.val,hp:=ai s.hp e.wr }) (B:=B) (a:=a.put dst v)
   ⟨gk (hs.fr.mono hx) hv,ie,by rw[put_defers]; exact hs.df.mono hf,Nat.le_trans hs.bs hf.size⟩
  exact hK _ h.symm E2 _ w' (hx.trans j0) (hf.trans hG) yT
end Go.PI
end
section
/- PI, more fuel gives no other answer. -/
namespace Go.PI
def RM.Le{α:Type}(hp:ag)(r r':RM α):Prop:=∀ x,r.run hp=some x→r'.run hp=some x∧r'.log hp=r.log hp
theorem RM.Le.rfl{α:Type}{hp:ag}{r:RM α}:RM.Le hp r r:=fun _ h=>⟨h,by trivial⟩
theorem RM.eh{α β:Type}(hp:ag)(x:RM α)(f:α→RM β):(x >>= f).log hp=x.log hp++(match x.run hp with|some a=>(f a).log hp|none=>[]):=by
 show (RM.bind x f).log hp=_
 induction x with
 |ret a=>simp[RM.bind,RM.log,RM.run]
 |fail=>simp[RM.bind,RM.log,RM.run]
 |get n k ih=>
  grind[RM.bind,RM.log,RM.run]
theorem RM.Le.bind[ab]{α β:Type}{hp:ag}{x x':RM α}{f f':α→RM β}(h:RM.Le hp x x')(hf:∀ a,RM.Le hp (f a) (f' a)):RM.Le hp (x >>= f) (x' >>= f'):=by
 intro y hy
 rw[RM.run_bind]at hy
 cases hq:x.run hp with
 |none=>rw[hq]at hy; simp at hy
 |some a=>
  rw[hq]at hy
  simp only[Option.bind_some]at hy
  obtain⟨h1,h2⟩:=h a hq
  obtain⟨h3,h4⟩:=hf a y hy
  refine⟨by rw[RM.run_bind,h1]; exact h3,?_⟩
  rw[RM.eh,RM.eh,h1,hq,h2]
  simp only[h4]
theorem iy{st st':Oper→St→Option Out}(h:∀ o s r,st o s=some r→st' o s=some r)(ops:Array Oper):∀ (l:List Oper) (s:St) (r:Out),cE st ops l s=some r→cE st' ops l s=some r
 |[],s,r,hr=>hr
 |o::l,s,r,hr=>by
  simp only[cE]at hr ⊢
  cases hw:cF ops s.fr o with
  |none=>rw[hw]at hr; simp at hr
  |some b=>
   rw[hw]at hr
   cases b with
   |false=>exact iy h ops l _ r hr
   |true=>
    simp only at hr ⊢
    cases hs:st o s with
    |none=>rw[hs]at hr; simp at hr
    |some out=>
     rw[hs]at hr
     rw[h o s out hs]
     cases out with
     |norm s'=>exact iy h ops l s' r hr
     |_=>exact hr
theorem xg[ab]{st st':Nat→Oper→List AV→RM dg}(h:∀ nm o fr hp,RM.Le hp (st nm o fr) (st' nm o fr))(ops:Array Oper)(x:Item)(s:St)(r:St×fk)(hr:e9 st ops x s=some r):e9 st' ops x s=some r:=by
 simp only[e9]at hr ⊢
 cases hw:cF ops s.fr x.o with
 |none=>rw[hw]at hr; simp at hr
 |some b=>
  rw[hw]at hr
  cases b with
  |false=>exact hr
  |true=>
   simp only at hr ⊢
   cases hq:(st (x.at s.hp.length) x.o s.fr).run s.hp with
   |none=>rw[hq]at hr; simp at hr
   |some e=>
    obtain⟨h1,h2⟩:=h (x.at s.hp.length) x.o s.fr s.hp e hq
    rw[hq]at hr
    rw[h1,h2]
    exact hr
theorem nU[ab]{st st':Nat→Oper→List AV→RM dg}(h:∀ nm o fr hp,RM.Le hp (st nm o fr) (st' nm o fr))(ops:Array Oper):∀ (l:List Item) (s:St) (r:St×List fk),cw st ops l s=some r→cw st' ops l s=some r
 |[],s,r,hr=>hr
 |x::l,s,r,hr=>by
  simp only[cw]at hr ⊢
  cases hs:e9 st ops x s with
  |none=>rw[hs]at hr; simp at hr
  |some q=>
   obtain⟨s1,f⟩:=q
   rw[hs]at hr
   rw[xg h ops x s _ hs]
   simp only at hr ⊢
   cases hd:cw st ops l s1 with
   |none=>rw[hd]at hr; simp at hr
   |some q=>
    rw[hd]at hr
    rw[nU h ops l s1 q hd]
    exact hr
theorem Ex[ab]{C:Ctx}{k k':Nat}{o:Oper}{s:St}(h:∀ c,o.op≠.call c):fE C (k+1) o s=fE C (k'+1) o s:=by
 rw[fE,fE]
 split
 ·rename_i c hc; exact absurd hc (h c)
 ·rfl
 ·rfl
theorem vt[ab]{C:Ctx}{F F':List AV→Option (nM×ag)}(h:∀ as r,F as=some r→F' as=some r){nm:Nat}{g:FuncId}{args:List AV}{hp:ag}:
  RM.Le hp (hY C F nm g args) (hY C F' nm g args):=by
 unfold hY
 refine RM.Le.bind .rfl fun as=>?_
 cases hi:C.iU g with
 |some q=>exact .rfl
 |none=>
  simp only
  intro x hx
  cases hq:F as with
  |none=>rw[hq]at hx; simp[RM.ae]at hx
  |some q=>
   rw[hq]at hx
   rw[h as q hq]
   exact⟨hx,rfl⟩
theorem vu{run run':Code→St→Option Out}(h:∀ c s r,run c s=some r→run' c s=some r){n:Nat}{args:List AV}{dst:Option Tmp}{s:St}{r:Out}
  (hy:gI run n args dst s=some r):gI run' n args dst s=some r:=by
 unfold gI at hy ⊢
 split at hy
 case h_2=>simp at hy
 rename_i fn ps as bd fr ho
 split at hy
 case h_2=>simp at hy
 rename_i hc
 try rw[hc]
 try simp only
 split at hy
 case h_2=>simp at hy
 rename_i s1 h1
 rw[h _ _ _ h1]
 simp only
 split at hy
 case h_2=>simp at hy
 rename_i h2
 try rw[h2]
 try simp only
 split at hy
 ·rename_i s2 h3; rw[h _ _ _ h3]; exact hy
 ·rename_i id s2 h3; rw[h _ _ _ h3]; exact hy
 ·rename_i s2 h3; rw[h _ _ _ h3]; exact hy
 ·simp at hy
theorem Jr[ab]{ec MQ:Code→St→Option Out}{eo Rz:Oper→St→Option Out}(hc:∀ c s r,ec c s=some r→MQ c s=some r)(ho:∀ o s r,eo o s=some r→Rz o s=some r):∀ c s r,zp ec eo c s=some r→zp MQ Rz c s=some r:=by
 have leaf:∀ c s r,((ec c s).map fun o=>(o,(none:Option AV)))=some r→((MQ c s).map fun o=>(o,(none:Option AV)))=some r:=by
  intro c s r h
  cases hq:ec c s with
  |none=>rw[hq]at h; simp at h
  |some o=>rw[hc _ _ _ hq]; rw[hq]at h; exact h
 intro c
 induction c with
 |seq x y _ Js=>
  intro s r h
  simp only[zp]at h ⊢
  cases hd:sO x with
  |some q=>
   obtain⟨ops,v⟩:=q
   rw[hd]at h
   simp only at h ⊢
   cases hr:cE eo ops ops.toList.dropLast s with
   |none=>rw[hr]at h; simp at h
   |some o=>
    rw[hr]at h
    rw[iy ho ops _ _ _ hr]
    cases o with
    |norm s1=>
     simp only at h ⊢
     split at h
     ·rename_i q cy
      cases hq:ec y s1 with
      |none=>rw[hq]at h; simp at h
      |some o=>rw[hc _ _ _ hq]; rw[hq]at h; exact h
     ·simp at h
    |_=>simp at h
  |none=>
   rw[hd]at h
   simp only at h ⊢
   cases hq:ec x s with
   |none=>rw[hq]at h; simp at h
   |some o=>
    rw[hq]at h; rw[hc _ _ _ hq]
    cases o with
    |norm s'=>exact Js _ _ h
    |_=>exact h
 |_=>intro s r h; simp only[zp]at h ⊢; exact leaf _ _ _ h
theorem zJ[ab]{ec MQ:Code→St→Option Out}(hc:∀ c s r,ec c s=some r→MQ c s=some r){P:Program}{rs:List ResultVar}{fr:List AV}{hp:ag}{d:Option AV}{r:nM×ag}(h:tX ec P rs fr hp d=some r):tX MQ P rs fr hp d=some r:=by
 cases d with
 |none=>exact h
 |some v=>
  simp only[tX]at h ⊢
  split at h
  ·simp at h
  rename_i g as cy
  split at h
  ·simp at h
  rename_i fg MR
  split at h
  ·simp at h
  rename_i cg MS
  cases hn:cx cg with
  |false=>rw[hn]at h; simp at h
  |true=>
   rw[hn]at h
   cases hq:ec (nR cg) ⟨g,as++List.replicate (fg.ntmps-as.length) .undef,hp⟩ with
   |none=>rw[hq]at h; simp at h
   |some o=>rw[hq]at h; simp only[cy,MR,MS,hn,hc _ _ _ hq]; exact h
theorem Hn[ab]{ec MQ:Code→St→Option Out}{eo Rz:Oper→St→Option Out}(hc:∀ c s r,ec c s=some r→MQ c s=some r)(ho:∀ o s r,eo o s=some r→Rz o s=some r){P:Program}{rs:List ResultVar}{c:Code}{s:St}{r:nM×ag}(h:tY ec eo P rs c s=some r):tY MQ Rz P rs c s=some r:=by
 unfold tY at h ⊢
 cases hn:cx c with
 |false=>rw[hn]at h; simp at h
 |true=>
  rw[hn]at h
  cases hq:zp ec eo c s with
  |none=>rw[hq]at h; simp at h
  |some o=>
   rw[hq]at h
   rw[Jr hc ho _ _ _ hq]
   obtain⟨o,d⟩:=o
   cases o with
   |norm s'=>exact zJ hc h
   |ret s'=>exact zJ hc h
   |exit i s'=>exact h
   |jL v s'=>cases d<;>exact h
structure Pt[ab](C:Ctx)(k k2:Nat):Prop where
 f:∀ g args hp r,lZ C k g args hp=some r→lZ C k2 g args hp=some r
 c:∀ c s r,bS C k c s=some r→bS C k2 c s=some r
 o:∀ o s r,fE C k o s=some r→fE C k2 o s=some r
 p:∀ g args hp,RM.Le hp (kX C k g args) (kX C k2 g args)
 e:∀ nm o fr hp,RM.Le hp (ir C k nm o fr) (ir C k2 nm o fr)
theorem Ho[ab]{C:Ctx}{k k2:Nat}(ih:Pt C k k2):Pt C (k+1) (k2+1) where
 f:=by
  intro g args hp r h
  rw[lZ]at h ⊢
  cases qR:C.P.funcs[g]? with
  |none=>rw[qR]at h; simp at h
  |some fn=>
   rw[qR]at h
   simp only at h ⊢
   cases hb:fn.body with
   |none=>rw[hb]at h; simp at h
   |some c=>
    rw[hb]at h
    simp only at h ⊢
    cases hD:BU c with
    |true=>rw[hD]at h; exact Hn ih.c ih.o h
    |false=>
    rw[hD]at h
    simp only at h ⊢
    cases hc:bS C k c ⟨g,args++List.replicate (fn.ntmps-args.length) .undef,hp⟩ with
    |none=>rw[hc]at h; simp at h
    |some out=>rw[hc]at h; rw[ih.c _ _ _ hc]; exact h
 c:=by
  intro c s r h
  cases c with
  |seq a b=>
   simp only[bS]at h ⊢
   cases ha:bS C k a s with
   |none=>rw[ha]at h; simp at h
   |some out=>
    rw[ha]at h; rw[ih.c _ _ _ ha]
    cases out with
    |norm s'=>exact ih.c _ _ _ h
    |_=>exact h
  |cond o a b=>
   simp only[bS]at h ⊢
   split at h
   ·split at h
    ·exact ih.c _ _ _ h
    ·exact ih.c _ _ _ h
   ·simp at h
  |block id b=>
   simp only[bS]at h ⊢
   cases ha:bS C k b s with
   |none=>rw[ha]at h; simp at h
   |some out=>rw[ha]at h; rw[ih.c _ _ _ ha]; exact h
  |loop b=>
   simp only[bS]at h ⊢
   cases ha:bS C k b s with
   |none=>rw[ha]at h; simp at h
   |some out=>
    rw[ha]at h; rw[ih.c _ _ _ ha]
    cases out with
    |norm s'=>exact ih.c _ _ _ h
    |_=>exact h
  |region id ops draw=>
   simp only[bS]at h ⊢
   cases draw with
   |false=>exact iy ih.o ops _ _ r h
   |true=>
    simp only at h ⊢
    split at h
    case isFalse=>simp at h
    rename_i bN
    rw[if_pos bN]
    split at h
    ·rename_i s' fs hd
     rw[nU ih.e ops _ _ _ hd]
     simp only at h ⊢
     split at h
     case isFalse=>simp at h
     rename_i hc
     rw[if_pos hc]
     exact iy ih.o ops _ _ r h
    ·simp at h
  |scope b=>
   simp only[bS]at h ⊢
   split at h
   ·rename_i c hc
    exact ih.c _ _ _ h
   ·simp at h
  |rangeFunc f ps as bd=>
   simp only[bS]at h ⊢
   split at h
   case h_2=>simp at h
   rename_i g args cy
   cases hq:lZ C k g args (s.hp++[some (.gd (.loop s.fn ps as bd .ready) (tW as bd s.fr))]) with
   |none=>rw[hq]at h; simp at h
   |some q=>rw[hq]at h; rw[ih.f _ _ _ _ hq]; exact h
  |_=>simpa only[bS] using h
 o:=by
  intro o s r h
  obtain⟨dst,op,type,pos,after,guard⟩:=o
  cases op with
  |call c=>
   obtain⟨callee,args,argTypes⟩:=c
   cases callee with
   |value f=>
    simp only[fE]at h ⊢
    cases cy:bz (az s.fr f) (args.toList.map (az s.fr)) with
    |none=>
     rw[cy]at h
     simp only at h ⊢
     split at h
     ·rename_i n hn
      exact vu (fun c s r h=>ih.c c s r h) h
     ·simp at h
    |some q=>
     obtain⟨g,as⟩:=q
     rw[cy]at h
     simp only at h ⊢
     cases pk:au (Op.call ⟨.value f,args,argTypes⟩) with
     |true=>
      rw[pk]at h
      simp only at h ⊢
      cases hq:(hY C (fun as=>lZ C k g as []) s.hp.length g as).run s.hp with
      |none=>rw[hq]at h; simp at h
      |some q=>rw[hq]at h; rw[(vt (fun as r h=>ih.f g as [] r h) _ hq).1]; exact h
     |false=>
     rw[pk]at h
     simp only at h ⊢
     cases hk:C.kind g with
     |pure=>
      rw[hk]at h
      simp only at h ⊢
      cases hq:(kX C k g as).run s.hp with
      |none=>rw[hq]at h; simp at h
      |some q=>rw[hq]at h; rw[(ih.p g as s.hp q hq).1]; exact h
     |imp=>
      rw[hk]at h
      simp only at h ⊢
      cases hq:lZ C k g as s.hp with
      |none=>rw[hq]at h; simp at h
      |some q=>rw[hq]at h; rw[ih.f _ _ _ _ hq]; exact h
   |invoke rv name=>
    simp only[fE]at h ⊢
    cases cy:pc C.P (az s.fr rv) name with
    |none=>rw[cy]at h; simp at h
    |some q=>
     obtain⟨g,x⟩:=q
     rw[cy]at h
     simp only at h ⊢
     cases hk:C.kind g with
     |pure=>
      rw[hk]at h
      simp only at h ⊢
      cases hq:(kX C k g (x::args.toList.map (az s.fr))).run s.hp with
      |none=>rw[hq]at h; simp at h
      |some q=>rw[hq]at h; rw[(ih.p g _ s.hp q hq).1]; exact h
     |imp=>
      rw[hk]at h
      simp only at h ⊢
      cases hq:lZ C k g (x::args.toList.map (az s.fr)) s.hp with
      |none=>rw[hq]at h; simp at h
      |some q=>rw[hq]at h; rw[ih.f _ _ _ _ hq]; exact h
   |_=>simpa only[fE] using h
  |_=>rw[Ex (k':=k) (by intro c hc; cases hc)]; exact h
 p:=by
  intro g args hp
  rw[kX,kX]
  refine RM.Le.bind .rfl fun as=>?_
  cases hi:C.kn g with
  |some h=>exact .rfl
  |none=>
   simp only
   intro x hx
   cases hq:lZ C k g as [] with
   |none=>rw[hq]at hx; simp[RM.ae]at hx
   |some q=>
    rw[hq]at hx
    rw[ih.f _ _ _ _ hq]
    exact⟨hx,rfl⟩
 e:=by
  intro nm o fr hp
  rw[ir,ir]
  obtain⟨dst,op,type,pos,after,guard⟩:=o
  cases op with
  |call c=>
   obtain⟨callee,args,argTypes⟩:=c
   cases callee with
   |value f=>
    simp only
    split
    ·exact .rfl
    ·rename_i g as cy
     cases pk:au (Op.call ⟨.value _,args,argTypes⟩) with
     |true=>exact vt fun as r h=>ih.f g as [] r h
     |false=>
     cases hk:C.kind g with
     |pure=>exact RM.Le.bind (ih.p g as hp) fun _=>.rfl
     |imp=>exact .rfl
   |invoke rv name=>
    simp only
    split
    ·exact .rfl
    ·rename_i g x cy
     cases hk:C.kind g with
     |pure=>exact RM.Le.bind (ih.p g _ hp) fun _=>.rfl
     |imp=>exact .rfl
   |_=>exact .rfl
  |_=>exact .rfl
theorem mono[ab](C:Ctx):∀ k,Pt C k (k+1)
 |0=>{ f:=by intro g args hp r h; simp[lZ]at h
       c:=by intro c s r h; simp[bS]at h
       o:=by intro o s r h; simp[fE]at h
       p:=by intro g args hp x h; simp[kX,RM.ae]at h
       e:=by intro nm o fr hp x h; simp[ir,RM.ae]at h }
 |k+1=>Ho (mono C k)
noncomputable def ma{α:Type}(g:Nat→Option α):Option α:=
 open Classical in if h : ∃ k, (g k).isSome then g (Classical.choose h) else none
def fF{α:Type}(g:Nat→Option α):Prop:=∀ k x,g k=some x→g (k+1)=some x
theorem fF.le{α:Type}{g:Nat→Option α}(h:fF g){k:Nat}{x:α}(hx:g k=some x):∀ d,g (k+d)=some x
 |0=>hx
 |d+1=>h _ _ (h.le hx d)
theorem bg[ab]{α:Type}{g:Nat→Option α}(hg:fF g){x:α}:ma g=some x↔∃ k,g k=some x:=by
 unfold ma
 constructor
 ·intro h
  split at h
  ·rename_i hq; exact⟨_,h⟩
  ·simp at h
 ·rintro⟨k,hk⟩
  have hq:∃ k,(g k).isSome:=⟨k,by simp[hk]⟩
  rw[dif_pos hq]
  obtain⟨y,hy⟩:=Option.isSome_iff_exists.1 (Classical.choose_spec hq)
  have h1:=hg.le hk (Classical.choose hq)
  have h2:=hg.le hy k
  rw[Nat.add_comm]at h2
  rw[h1]at h2
  rw[hy,h2]
theorem kK[ab]{α:Type}{g:Nat→Option α}(hg:fF g){y:Option α}(h1:∀ k x,g k=some x→y=some x)(h2:∀ x,y=some x→∃ k,g k=some x):ma g=y:=by
 cases hl:ma g with
 |some x=>
  obtain⟨k,hk⟩:=(bg hg).1 hl
  exact(h1 k x hk).symm
 |none=>
  cases y with
  |none=>rfl
  |some x=>
   have:=(bg hg).2 (h2 x rfl)
   rw[hl]at this; simp at this
noncomputable def kp[ab](C:Ctx)(f:FuncId)(args:List AV)(hp:ag):Option (nM×ag):=ma fun k=>lZ C k f args hp
noncomputable def cQ[ab](C:Ctx)(c:Code)(s:St):Option Out:=ma fun k=>bS C k c s
noncomputable def ic[ab](C:Ctx)(o:Oper)(s:St):Option Out:=ma fun k=>fE C k o s
noncomputable def Jt[ab](C:Ctx)(g:FuncId)(args:List AV)(hp:ag):Option (nM×List (Nat×aI)):=ma fun k=>(kX C k g args).run hp
theorem mo[ab](C:Ctx)(f:FuncId)(args:List AV)(hp:ag):fF fun k=>lZ C k f args hp:=fun k x h=>(mono C k).f _ _ _ _ h
theorem dJ[ab](C:Ctx)(c:Code)(s:St):fF fun k=>bS C k c s:=fun k x h=>(mono C k).c _ _ _ h
theorem jt[ab](C:Ctx)(o:Oper)(s:St):fF fun k=>fE C k o s:=fun k x h=>(mono C k).o _ _ _ h
theorem B9[ab](C:Ctx)(g:FuncId)(args:List AV)(hp:ag):fF fun k=>(kX C k g args).run hp:=fun k x h=>((mono C k).p g args hp x h).1
end Go.PI
end
section
/- PI, part Za: a scope in which the run jumps back to one label. -/
namespace Go.PI
theorem nB[ab]{C:Ctx}{k:Nat}{o:Oper}{s:St}{r:Out}(h:fE C k o s=some r):(∃ s',r=.norm s')∨∃ v s',r=.jL v s':=by
 cases k with
 |zero=>simp[fE]at h
 |succ k=>
  simp only[fE]at h
  repeat' split at h
  all_goals first
   |(simp only[Option.some.injEq]at h; subst h; first|exact .inl ⟨_,rfl⟩|exact .inr ⟨_,_,rfl⟩)
   |exact .inl (E5 h)
   |simp at h
theorem kP{step:Oper→St→Option Out}(hs:∀ o s r,step o s=some r→(∃ s',r=.norm s')∨∃ v s',r=.jL v s'){ops:Array Oper}:∀ {l:List Oper} {s:St} {r:Out},
  cE step ops l s=some r→(∃ s',r=.norm s')∨∃ v s',r=.jL v s'
 |[],s,r,h=>by simp only[cE,Option.some.injEq]at h; exact .inl ⟨s,h.symm⟩
 |o::l,s,r,h=>by
  simp only[cE]at h
  split at h
  ·simp at h
  ·exact kP hs h
  ·split at h
   ·exact kP hs h
   ·rename_i dM
    exact hs o s r h
theorem uB:∀ {c:Code},c9 c=true→cx c=true:=by
 intro c
 induction c with
 |seq a b GC Ee=>simp_all[c9,cx]
 |cond c a b GC Ee=>simp_all[c9,cx]
 |block id b ih=>simp_all[c9,cx]
 |loop b ih=>simp_all[c9,cx]
 |scope b ih=>intro h; simp[c9]at h
 |rangeFunc f ps a b=>intro h; simp[c9]at h
 |_=>intro _; rfl
theorem Fe[ab]{C:Ctx}:∀ (k:Nat) {c:Code} {s s':St} {i:Nat},c9 c=true→bS C k c s=some (.exit i s')→i<1073741824:=by
 intro k
 induction k with
 |zero=>intro c s s' i _ h; simp[bS]at h
 |succ k ih=>
  intro c s s' i hp h
  cases c with
  |seq a b=>
   grind[c9,bS]
  |cond o a b=>
   grind[c9,bS]
  |block id b=>
   grind[c9,bS,Out.exit.injEq]
  |loop b=>
   grind[c9,bS]
  |exit id=>
   simp_all[bS,Out.exit.injEq,c9]
  |region id ops draw=>
   simp only[bS]at h
   cases draw with
   |false=>
    rcases kP (fun o s r h=>nB h) h with ⟨_,e⟩|⟨_,_,e⟩<;>cases e
   |true=>
    simp only at h
    split at h
    case isFalse=>simp at h
    split at h
    case h_2=>simp at h
    split at h
    case isFalse=>simp at h
    rcases kP (fun o s r h=>nB h) h with ⟨_,e⟩|⟨_,_,e⟩<;>cases e
  |skip=>simp[bS]at h
  |ret=>simp[bS]at h
  |_=>simp[c9]at hp
def Zr[ab](l:Nat)(B:oJ)(E:Env):Out→Exit→Act→World→Prop
 |.exit i s,.goto m,a,w=>i=1073741825∧m=l∧cG B E s a w
 |.exit i s,.exit j,a,w=>i=j∧i<1073741824∧cG B E s a w
 |o,e,a,w=>J8 B E o e a w
def HO[ab](l:Nat)(B:oJ)(E:Env)(w:World)(o:Out)(e:Exit)(a':Act)(w':World):Prop:=
 ∃ E',Ext E E'∧Fr E w E' w'∧Zr l B E' o e a' w'
theorem HO.from[ab]{l:Nat}{B:oJ}{E E1:Env}{w w1:World}{o:Out}{e:Exit}{a:Act}{w':World}(hx:Ext E E1)(hf:Fr E w E1 w1)(h:HO l B E1 w1 o e a w'):HO l B E w o e a w':=by
 obtain⟨E',h1,h2,h3⟩:=h
 exact⟨E',hx.trans h1,hf.trans h2,h3⟩
theorem Km[ab]{C:Ctx}{k:Nat}(hC:∀ j,j≤k→fq C j){l:Nat}{c:Code}(hp:c9 c=true){j:Nat}(hj:j≤k){s:St}{o:Out}(h:bS C j c s=some o)
  (rd:Option Nat) {B:oJ} {E:Env} {a:Act} {w:World} (hs:cG B E s a w):c.wpIn (WF rd) 0 C.P (HO l B E w o) a w:=by
 refine wpIn_mono (hC j hj c s o h rd B (.inr (uB hp)) E a w hs) fun e a' w' hq=>?_
 obtain⟨E',h1,h2,h3⟩:=hq
 refine⟨E',h1,h2,?_⟩
 cases o with
 |exit i s'=>
  have hi:=Fe j hp h
  cases e with
  |exit m=>exact⟨h3.1,hi,h3.2⟩
  |_=>exact h3.elim
 |_=>exact h3
theorem PT[ab]{C:Ctx}{k:Nat}(hC:∀ j,j≤k→fq C j){l:Nat}:∀ (c:Code) {c':Code},qQ l c=some c'→∀ (j:Nat),j≤k→∀ (s:St) (o:Out),bS C j c' s=some o →
  ∀ (rd:Option Nat) (B:oJ) (E:Env) (a:Act) (w:World),cG B E s a w→c.wpIn (WF rd) 0 C.P (HO l B E w o) a w:=by
 intro c
 induction c with
 |seq x y Vu Js=>
  intro c' hc j hj s o h rd B E a w hs
  simp only[qQ]at hc
  cases hx:qQ l x with
  |none=>rw[hx]at hc; simp at hc
  |some x'=>
   cases hy:qQ l y with
   |none=>rw[hx,hy]at hc; simp at hc
   |some y'=>
    rw[hx,hy]at hc
    simp only[Option.bind_some,Option.map_some,Option.some.injEq]at hc
    subst hc
    cases j with
    |zero=>simp[bS]at h
    |succ j=>
     have px:=Vu hx
     have py:=Js hy
     simp only[bS]at h
     refine wpIn_seq ?_
     split at h
     ·rename_i s' gf
      refine wpIn_mono (px j (by omega) s _ gf rd B E a w hs) fun e a' w' hp=>?_
      obtain⟨E',h1,h2,h3⟩:=hp
      cases e with
      |normal=>exact wpIn_mono (py j (by omega) s' o h rd B E' a' w' h3) fun e Ue w8 hp=>HO.from h1 h2 hp
      |_=>exact h3.elim
     ·rename_i dM
      refine wpIn_mono (px j (by omega) s o h rd B E a w hs) fun e a' w' hp=>?_
      obtain⟨E',h1,h2,h3⟩:=hp
      cases e with
      |normal=>
       cases o with
       |norm s'=>exact absurd h (dM s')
       |_=>exact h3.elim
      |_=>exact⟨E',h1,h2,h3⟩
 |cond op x y Vu Js=>
  intro c' hc j hj s o h rd B E a w hs
  simp only[qQ]at hc
  cases hx:qQ l x with
  |none=>rw[hx]at hc; simp at hc
  |some x'=>
   cases hy:qQ l y with
   |none=>rw[hx,hy]at hc; simp at hc
   |some y'=>
    rw[hx,hy]at hc
    simp only[Option.bind_some,Option.map_some,Option.some.injEq]at hc
    subst hc
    cases j with
    |zero=>simp[bS]at h
    |succ j=>
     have px:=Vu hx
     have py:=Js hy
     simp only[bS]at h
     split at h
     case h_2=>simp at h
     rename_i t ht
     have hv:=gR hs.inv.jo hs.fr op
     rw[ht]at hv
     simp only[aj]at hv
     cases t with
     |true=>exact wpIn_cond_true hv (px j (by omega) s o h rd B E a w hs)
     |false=>exact wpIn_cond_false hv (py j (by omega) s o h rd B E a w hs)
 |goto m=>
  intro c' hc j hj s o h rd B E a w hs
  simp only[qQ]at hc
  split at hc
  case isFalse=>simp at hc
  rename_i hm
  simp only[Option.some.injEq]at hc
  subst hc
  cases j with
  |zero=>simp[bS]at h
  |succ j=>
   simp only[bS,Option.some.injEq]at h
   subst h
   exact wpIn_goto ⟨E,Ext.refl E,Fr.refl E w,rfl,hm,hs⟩
 |_=>
  intro c' hc
  simp only[qQ]at hc
  split at hc
  case isFalse=>simp at hc
  rename_i hp
  simp only[Option.some.injEq]at hc
  subst hc
  intro j hj s o h rd B E a w hs
  exact Km hC hp hj h rd hs
section
variable {F:Fence}{n:Nat}{P:Program}{Q:Exit→Act→World→Prop}{a:Act}{w:World}
theorem CM{b:Frame}{k:List Go.Item}{cs:List Frame}{c:Code}:step P (lone (b.atR a (.code (.scope c)::k)) cs w)=.next (lone (b.atR a (.code c::.inScope c::k)) cs w):=
 step_lone_go (by simp[stepG,stepG.exec,Frame.atR])
theorem ri{b:Frame}{k:List Go.Item}{cs:List Frame}{c:Code}:step P (lone (b.atR a (.inScope c::k)) cs w)=.next (lone (b.atR a k) cs w):=
 step_lone_go (by simp[stepG,stepG.exec,Frame.atR])
def mK(F:Fence)(n:Nat)(P:Program)(c r:Code)(Q:Exit→Act→World→Prop)(a:Act)(w:World):Prop:=
 ∀ (b:Frame) (k:List Go.Item) (cs:List Frame),b.roundOf=F.round→F.fn b.fn→F.room (cs.length+1+n) →
   ∃ e a' w',Q e a' w'∧ArrivesIn (Machine.fenced P F) P (lone (b.atR a (.code r::.inScope c::k)) cs w) b k cs e a' w'
def Se(l:Nat)(N:Act→World→Prop)(Q:Exit→Act→World→Prop):Exit→Act→World→Prop
 |.goto m,a,w=>m=l∧N a w
 |e,a,w=>Q e a w
theorem z5{c r rest:Code}{l:Nat}{N:Act→World→Prop}(hf:findLabel c l=some rest)(hN:∀ a w,N a w→mK F n P c rest Q a w)
  (h:r.wpIn F n P (Se l N Q) a w):mK F n P c r Q a w:=by
 intro b k cs dD hb hr
 have hg:gotoIn l (.inScope c::k)=some (.code rest::.inScope c::k):=by simp[gotoIn,hf]
 obtain⟨e,a₁,w₁,hq,cJ⟩:=h b (.inScope c::k) cs dD hb hr
 cases e with
 |normal=>exact⟨.normal,a₁,w₁,hq,StepsIn.trans cJ (.one (fenced_calm hb hr rfl) ri)⟩
 |exit id=>
  have hx:exitTo id (.inScope c::k)=exitTo id k:=by simp[exitTo]
  exact⟨.exit id,a₁,w₁,hq,fun k' hk=>cJ.1 k' (by rw[hx]; exact hk),fun lr hk=>cJ.2 lr (by rw[hx]; exact hk)⟩
 |goto m=>
  obtain⟨rfl,Zs⟩:=hq
  obtain⟨e₂,a₂,w₂,w9,jN⟩:=hN _ _ Zs b k cs dD hb hr
  exact⟨e₂,a₂,w₂,w9,.of_steps (cJ.1 _ hg) jN⟩
 |ret=>exact⟨_,a₁,w₁,hq,cJ⟩
 |panic ch=>exact⟨_,a₁,w₁,hq,cJ⟩
 |outgrown=>exact⟨_,a₁,w₁,hq,cJ⟩
theorem wB{c r:Code}(h:r.wpIn F n P Q a w)(hQ:∀ m a w,¬Q (.goto m) a w):mK F n P c r Q a w:=by
 intro b k cs dD hb hr
 obtain⟨e,a₁,w₁,hq,cJ⟩:=h b (.inScope c::k) cs dD hb hr
 cases e with
 |normal=>exact⟨.normal,a₁,w₁,hq,StepsIn.trans cJ (.one (fenced_calm hb hr rfl) ri)⟩
 |exit id=>
  have hx:exitTo id (.inScope c::k)=exitTo id k:=by simp[exitTo]
  exact⟨.exit id,a₁,w₁,hq,fun k' hk=>cJ.1 k' (by rw[hx]; exact hk),fun lr hk=>cJ.2 lr (by rw[hx]; exact hk)⟩
 |goto m=>exact absurd hq (hQ _ _ _)
 |ret=>exact⟨_,a₁,w₁,hq,cJ⟩
 |panic ch=>exact⟨_,a₁,w₁,hq,cJ⟩
 |outgrown=>exact⟨_,a₁,w₁,hq,cJ⟩
theorem CN{c:Code}(h:mK F n P c c Q a w):(Code.scope c).wpIn F n P Q a w:=by
 intro b k cs dD hb hr
 obtain⟨e,a₁,w₁,hq,cJ⟩:=h b k cs dD hb hr
 exact⟨e,a₁,w₁,hq,.of_steps (.one (fenced_calm hb hr rfl) CM) cJ⟩
end
theorem CO:∀ {c:Code} {l:Nat},c9 c=true→findLabel c l=none:=by
 intro c
 induction c with
 |seq a b GC Ee=>
  simp_all[c9,findLabel]
 |label m=>intro l h; simp[c9]at h
 |_=>intro l _; rfl
theorem Kn{a b:Code}{l:Nat}(h:findLabel a l=none):findLabel (.seq a b) l=findLabel b l:=by
 simp only[findLabel,h]
theorem Ko:∀ {c:Code} {l:Nat} {x r:Code},sP c=some (l,x,r)→findLabel c l=some (.seq .skip r):=by
 intro c
 induction c with
 |seq a b GC Ee=>
  intro l x r h
  cases a with
  |label m=>
   simp_all[sP,findLabel]
  |_=>
   simp only[sP]at h
   split at h
   case isFalse=>simp at h
   rename_i hp
   cases hb:sP b with
   |none=>rw[hb]at h; simp at h
   |some q=>
    obtain⟨l',x',r'⟩:=q
    rw[hb]at h
    simp only[Option.map_some,Option.some.injEq,Prod.mk.injEq]at h
    obtain⟨rfl,rfl,rfl⟩:=h
    exact(Kn (CO (l:=l') hp)).trans (Ee hb)
 |_=>intro l x r h; simp[sP]at h
theorem PU[ab]{C:Ctx}{k:Nat}(hC:∀ j,j≤k→fq C j){Q:Exit→Act→World→Prop}{rd:Option Nat}{B:oJ}{l:Nat}{r:Code}:∀ (c:Code) {x:Code},sP c=some (l,x,r)→∀ (j:Nat),j≤k→∀ (s:St) (q:Out),bS C j x s=some q →
  ∀ (E:Env) (a:Act) (w:World),cG B E s a w→(∀ s1 E1 a1 w1,q=.norm s1→Ext E E1→Fr E w E1 w1→cG B E1 s1 a1 w1→r.wpIn (WF rd) 0 C.P Q a1 w1) →
  (∀ e a' w',(∀ s1,q≠.norm s1)→bo B E w q e a' w'→Q e a' w')→c.wpIn (WF rd) 0 C.P Q a w:=by
 intro c
 induction c with
 |seq a b GC Ee=>
  intro x h j hj s q bA E ac w hs hn ho
  have step:∀ (hp:c9 a=true) (x':Code),sP b=some (l,x',r)→x=.seq a x'→(Code.seq a b).wpIn (WF rd) 0 C.P Q ac w:=by
   intro hp x' hb hx
   subst hx
   cases j with
   |zero=>simp[bS]at bA
   |succ j=>
    simp only[bS]at bA
    refine wpIn_seq ?_
    split at bA
    ·rename_i s1 h1
     refine wpIn_mono (hC j (by omega) _ _ _ h1 rd B (.inr (uB hp)) E ac w hs) fun e a' w' hq=>?_
     obtain⟨E',g1,g2,g3⟩:=hq
     cases e with
     |normal=>exact Ee hb j (by omega) s1 q bA E' a' w' g3 (fun s2 E2 a2 w2 e1 e2 e3 e4=>hn s2 E2 a2 w2 e1 (g1.trans e2) (g2.trans e3) e4) (fun e a2 w2 e1 e2=>ho e a2 w2 e1 (bo.from g1 g2 e2))
     |_=>exact g3.elim
    ·rename_i dM
     refine wpIn_mono (hC j (by omega) _ _ _ bA rd B (.inr (uB hp)) E ac w hs) fun e a' w' hq=>?_
     cases e with
     |normal=>
      obtain⟨E',g1,g2,g3⟩:=hq
      cases q with
      |norm s1=>exact absurd bA (dM s1)
      |_=>exact g3.elim
     |_=>exact ho _ _ _ (fun s1 e=>dM s1 (e▸bA)) hq
  cases a with
  |label m=>
   simp only[sP,Option.some.injEq,Prod.mk.injEq]at h
   obtain⟨rfl,rfl,rfl⟩:=h
   cases j with
   |zero=>simp[bS]at bA
   |succ j=>
    simp only[bS,Option.some.injEq]at bA
    subst bA
    exact wpIn_seq (wpIn_label (hn s E ac w rfl (Ext.refl E) (Fr.refl E w) hs))
  |_=>
   simp only[sP]at h
   split at h
   case isFalse=>simp at h
   rename_i hp
   cases hb:sP b with
   |none=>rw[hb]at h; simp at h
   |some q'=>
    obtain⟨l',x',r'⟩:=q'
    rw[hb]at h
    simp only[Option.map_some,Option.some.injEq,Prod.mk.injEq]at h
    obtain⟨rfl,rfl,rfl⟩:=h
    exact step hp x' hb rfl
 |_=>intro x h; simp[sP]at h
def vP:Out→Out
 |.exit i s=>if i=1073741824 then .norm s else .exit i s
 |o=>o
theorem mK.mono{F:Fence}{n:Nat}{P:Program}{c r:Code}{Q Q':Exit→Act→World→Prop}{a:Act}{w:World}(h:mK F n P c r Q a w)(hq:∀ e a w,Q e a w→Q' e a w):mK F n P c r Q' a w:=
 fun b k cs dD hb hr=>let ⟨e,a',w',q,r⟩:=h b k cs dD hb hr; ⟨e,a',w',hq _ _ _ q,r⟩
theorem Se.mono{l:Nat}{N N':Act→World→Prop}{Q Q':Exit→Act→World→Prop}(hn:∀ a w,N a w→N' a w)(hq:∀ e a w,Q e a w→Q' e a w){e:Exit}{a:Act}{w:World}(h:Se l N Q e a w):Se l N' Q' e a w:=by
 cases e with
 |goto m=>exact⟨h.1,hn _ _ h.2⟩
 |_=>exact hq _ _ _ h
theorem HP[ab]{C:Ctx}{k:Nat}(hC:∀ j,j≤k→fq C j){rd:Option Nat}{l:Nat}{c r r':Code}(hf:findLabel c l=some (.seq .skip r))(hr:qQ l r=some r'){B:oJ}:∀ (j:Nat),j≤k→∀ (s:St) (o:Out),
  bS C j (.loop (.block 1073741825 (.seq r' (.exit 1073741824)))) s=some o→∀ (E:Env) (a:Act) (w:World),cG B E s a w →
  r.wpIn (WF rd) 0 C.P (Se l (fun a1 w1=>mK (WF rd) 0 C.P c (.seq .skip r) (bo B E w (vP o)) a1 w1) (bo B E w (vP o))) a w:=by
 intro j
 induction j with
 |zero=>intro _ s o h; simp[bS]at h
 |succ j ih=>
  intro hj s o h E a w hs
  have Zt:=ih (by omega)
  simp only[bS]at h
  cases hb:bS C j (.block 1073741825 (.seq r' (.exit 1073741824))) s with
  |none=>rw[hb]at h; simp at h
  |some q=>
   rw[hb]at h
   cases j with
   |zero=>simp[bS]at hb
   |succ j=>
    simp only[bS]at hb
    cases j with
    |zero=>simp[bS]at hb
    |succ j=>
     simp only[bS]at hb
     cases hq:bS C j r' s with
     |none=>rw[hq]at hb; simp at hb
     |some p=>
      rw[hq]at hb
      refine wpIn_mono (PT hC r hr j (by omega) s p hq rd B E a w hs) fun e a' w' ho=>?_
      obtain⟨E',g1,g2,g3⟩:=ho
      cases p with
      |norm s1=>
       cases j with
       |zero=>simp[bS]at hq
       |succ j=>
        simp only[bS]at hb
        simp at hb
        subst hb
        simp only[Option.some.injEq]at h
        subst h
        cases e with
        |normal=>exact⟨E',g1,g2,g3⟩
        |_=>exact g3.elim
      |exit i s1=>
       simp only at hb
       cases e with
       |goto m=>
        obtain⟨hi,hm,ny⟩:=g3
        subst hi
        simp only[if_true,Option.some.injEq]at hb
        subst hb
        simp only at h
        refine⟨hm,?_⟩
        have:∃ E2,Ext E E2∧Fr E w E2 w'∧cG B E2 (gG s.hp.length s1) a' w':=by
         unfold gG
         split
         ·rename_i bf
          have hle:s.hp.length≤s1.hp.length:=by rw[hs.inv.len,ny.inv.len]; exact g1.L
          obtain⟨a1,a2,a3⟩:=tm ny.inv hle bf
          exact⟨E'.lower s.hp.length,⟨g1.m,fun n hn aq l h=>g1.ρ n hn aq l h,by simp[Env.lower,hs.inv.len]⟩,g2.trans a2,rM a3 ny.fr,a1,ny.df.mono a2,ny.bs⟩
         ·exact⟨E',g1,g2,ny⟩
        obtain⟨E2,b1,b2,b3⟩:=this
        have hw:=Zt _ o h E2 a' w' b3
        refine z5 hf (N:=fun a w2=>mK (WF rd) 0 C.P c (.seq .skip r) (bo B E w (vP o)) a w2) (fun _ _ h=>h) (wpIn_seq (wpIn_skip (wpIn_mono hw fun e a2 w2 hj=>?_)))
        exact hj.mono (fun _ _ hi=>hi.mono fun _ _ _ hp=>bo.from b1 b2 hp) fun _ _ _ hp=>bo.from b1 b2 hp
       |exit m=>
        obtain⟨hi,cd,ny⟩:=g3
        subst hi
        rw[if_neg (by omega)]at hb
        simp only[Option.some.injEq]at hb
        subst hb
        simp only[Option.some.injEq]at h
        subst h
        have:vP (.exit i s1)=.exit i s1:=by simp only[vP]; rw[if_neg (by omega)]
        rw[this]
        exact⟨E',g1,g2,rfl,ny⟩
       |_=>exact g3.elim
      |ret s1=>
       simp only[Option.some.injEq]at hb
       subst hb
       simp only[Option.some.injEq]at h
       subst h
       cases e with
       |ret=>exact⟨E',g1,g2,g3⟩
       |_=>exact g3.elim
      |jL v s1=>
       simp only[Option.some.injEq]at hb
       subst hb
       simp only[Option.some.injEq]at h
       subst h
       cases e with
       |panic ch=>exact⟨E',g1,g2,g3⟩
       |_=>exact g3.elim
theorem Ff:∀ {c:Code},noGoto c=true→cx c=true:=by
 intro c
 induction c with
 |seq a b GC Ee=>simp_all[noGoto,cx]
 |cond o a b GC Ee=>simp_all[noGoto,cx]
 |block id b ih=>simp_all[noGoto,cx]
 |loop b ih=>simp_all[noGoto,cx]
 |scope b ih=>simp_all[noGoto,cx]
 |rangeFunc _ _ _ _ _ _=>intro h; simp[noGoto]at h
 |_=>intro _; rfl
theorem Ki[ab]{C:Ctx}{k:Nat}(hC:∀ j,j≤k→fq C j){rd:Option Nat}{B:oJ}{E:Env}{s:St}{a:Act}{w:World}(hs:cG B E s a w){b c:Code}{o:Out}
  (hc:pf b=some c) (h:bS C k c s=some o):(Code.scope b).wpIn (WF rd) 0 C.P (bo B E w o) a w:=by
 cases Kk:noGoto b with
 |true=>
  simp only[pf,Kk,Option.some.injEq]at hc
  subst hc
  refine CN (wB (hC k (Nat.le_refl _) b s o h rd B (.inr (Ff Kk)) E a w hs) fun m a' w' hq=>?_)
  obtain⟨E',_,_,hq⟩:=hq
  cases o<;>exact hq.elim
 |false=>
 cases Kp:sP b with
 |none=>simp only[pf,Kk,Kp]at hc; simp at hc
 |some q=>
  obtain⟨l,x,r⟩:=q
  cases hr:qQ l r with
  |none=>simp only[pf,Kk,Kp,hr,Option.map_none]at hc; simp at hc
  |some r'=>
   simp only[pf,Kk,Kp,hr,Option.map_some,Option.some.injEq]at hc
   subst hc
   have hf:=Ko Kp
   cases k with
   |zero=>simp[bS]at h
   |succ k=>
    simp only[bS]at h
    refine CN (z5 hf (N:=fun a w'=>mK (WF rd) 0 C.P b (.seq .skip r) (bo B E w o) a w') (fun _ _ h=>h) ?_)
    cases hx:bS C k x s with
    |none=>rw[hx]at h; simp at h
    |some q=>
     rw[hx]at h
     refine PU hC b Kp k (by omega) s q hx E a w hs (fun s1 E1 a1 w1 hq g1 g2 ny=>?_) (fun e a' w' hq hp=>?_)
     ·subst hq
      simp only at h
      cases k with
      |zero=>simp[bS]at h
      |succ k=>
       simp only[bS]at h
       cases hl:bS C k (.loop (.block 1073741825 (.seq r' (.exit 1073741824)))) s1 with
       |none=>rw[hl]at h; simp at h
       |some oL=>
        rw[hl]at h
        have ho:o=vP oL:=by
         cases oL with
         |exit i s2=>
          grind[vP]
         |_=>simpa[vP] using h.symm
        subst ho
        refine wpIn_mono (HP hC hf hr k (by omega) s1 oL hl E1 a1 w1 ny) fun e a2 w2 hj=>?_
        exact hj.mono (fun _ _ hi=>hi.mono fun _ _ _ hp=>bo.from g1 g2 hp) fun _ _ _ hp=>bo.from g1 g2 hp
     ·have ho:o=q:=by
       simp_all
      subst ho
      cases e with
      |goto m=>obtain⟨_,_,_,h3⟩:=hp; cases o<;>exact h3.elim
      |_=>exact hp
end Go.PI
end
section
/- PI, part Zb: calls that only look, where the order is drawn. -/
namespace Go.PI
def Kd[ab](P:Program):Prop:=∀ (g:FuncId) (args:List AV) (hp:ag) (e:dg),(yN P hp.length g args).run hp=some e→∀ (E:Env) (w:World) (vs:List Value),Inv E hp w→an E true args vs →
 e.wr=[]∧Calls P g vs.toArray w (bQ E w hp (.val e.val))
theorem Nd[ab]{C:Ctx}(bN:C.Ok){nm:Nat}{g:FuncId}{args:List AV}{hp:ag}{e:dg}(h:(yN C.P nm g args).run hp=some e):
  ∃ fn : Func, C.P.funcs[g]? = some fn ∧ fn.body.isSome = true ∧ (fn.name == "runtime.NumGoroutine") = false := by
 unfold yN at h
 split at h
 ·simp[RM.ae]at h
 rename_i fn hf
 split at h
 ·simp[RM.ae]at h
 rename_i c hc
 exact⟨fn,hf,by rw[hc]; rfl,bN.name g fn hf (by rw[hc]; rfl)⟩
def pL(hp:ag):Option (Nat×aI)→ag
 |none=>hp
 |some (m,o')=>match hp[m]? with
  |some (some _)=>hp.set m (some o')
  |_=>hp
theorem CP{hp:ag}{ov:Option (Nat×aI)}(n:Nat):(pL hp ov)[n]?=(hp[n]?).map fun o=>o.map fun o=>match ov with
  |some (m,o')=>(match Nat.beq m n with
   |true=>o'
   |false=>o)
  |none=>o:=by
 cases ov with
 |none=>cases h:hp[n]? with
  |none=>simp[pL,h]
  |some o=>cases o<;>simp[pL,h]
 |some q=>
  obtain⟨m,o'⟩:=q
  simp only[pL]
  by_cases hm:m=n
  ·subst hm
   have hb:Nat.beq m m=true:=Nat.beq_refl m
   split
   ·rename_i o ho
    rw[List.getElem?_set_self (List.getElem?_eq_some_iff.1 ho).1,ho]
    simp
   ·rename_i ho
    cases h:hp[m]? with
    |none=>simp
    |some o=>cases o with
     |none=>simp
     |some o=>exact absurd h (ho o)
  ·have hb:Nat.beq m n=false:=Bool.eq_false_iff.mpr fun h=>hm (Nat.eq_of_beq_eq_true h)
   have:(match hp[m]? with
    |some (some _)=>hp.set m (some o')
    |_=>hp)[n]?=hp[n]?:=by
    split
    ·rw[List.getElem?_set_ne hm]
    ·rfl
   rw[this]
   cases h:hp[n]? with
   |none=>simp
   |some o=>cases o<;>simp[hb]
theorem lL{hp:ag}{ov:Option (Nat×aI)}:(pL hp ov).length=hp.length:=by
 unfold pL
 split
 ·rfl
 ·split<;>simp
def aR(hp:ag)(ov:Option (Nat×aI))(nw:List aI):ag:=pL hp ov++nw.map some
theorem n8{hp:ag}{ov:Option (Nat×aI)}{nw:List aI}:(aR hp ov nw).length=hp.length+nw.length:=by
 simp[aR,lL]
theorem nC{α:Type}{hp:ag}{ov:Option (Nat×aI)}{nw:List aI}(x:RM α):(x.gL hp.length ov nw).run hp=x.run (aR hp ov nw) ∧
  (x.gL hp.length ov nw).log hp=(x.log (aR hp ov nw)).filter (fun n=>Nat.blt n hp.length):=by
 induction x with
 |ret a=>exact⟨rfl,rfl⟩
 |fail=>exact⟨rfl,rfl⟩
 |get n k ih=>
  cases hb:Nat.ble hp.length n with
  |true=>
   have hle:=Nat.le_of_ble_eq_true hb
   have JQ:Nat.blt n hp.length=false:=Bool.eq_false_iff.mpr fun h=>by have:=Nat.le_of_ble_eq_true h; omega
   have e:(aR hp ov nw)[n]?=(nw[n-hp.length]?).map some:=by
    unfold aR
    rw[List.getElem?_append_right (by rw[lL]; exact hle),lL,List.getElem?_map]
   simp only[RM.gL,RM.run,RM.log,hb,e,List.filter_cons,JQ,Bool.false_eq_true,if_false]
   cases h:nw[n-hp.length]? with
   |none=>exact⟨rfl,rfl⟩
   |some o=>exact ih o
  |false=>
   have cd:n<hp.length:=by
    rcases Nat.lt_or_ge n hp.length with h|h
    ·exact h
    ·rw[Nat.ble_eq_true_of_le h]at hb; cases hb
   have JQ:Nat.blt n hp.length=true:=Nat.ble_eq_true_of_le cd
   have e:(aR hp ov nw)[n]?=(pL hp ov)[n]?:=by
    unfold aR
    rw[List.getElem?_append_left (by rw[lL]; exact cd)]
   simp only[RM.gL,RM.run,RM.log,hb,e,CP,List.filter_cons,JQ,if_true]
   cases h:hp[n]? with
   |none=>simp
   |some o=>cases o with
    |none=>simp
    |some o=>exact⟨(ih _).1,congrArg (n::·) (ih _).2⟩
def Bg[ab](hp:ag)(ov:Option (Nat×aI)):Prop:=∀ (E:Env) (w:World),Inv E (pL hp ov) w→Inv E hp w
theorem vQ:∀ (xs l:List AV) (j q:Nat),(q<j∨j+xs.length≤q)→(setCells l j xs)[q]?=l[q]?
 |[],_,_,_,_=>rfl
 |x::xs,l,j,q,h=>by
  simp only[setCells]
  rw[vQ xs _ _ q (by simp only[List.length_cons]at h; omega),List.getElem?_set_ne (by simp only[List.length_cons]at h; omega)]
theorem Kq[ab]{E:Env}{l:List AV}{j s:Nat}{cs:List AV}(hs:cs.length=s)(ha:((l.drop j).take s).all isAny=true)(v:Value)(h:aj E true (.agg (setCells l j cs)) v):aj E true (.agg l) v:=by
 simp only[aj]at h ⊢
 obtain⟨c,rfl,hc⟩:=h
 refine⟨c,rfl,aH.of (an.dX ?_ ?_) hc.leaf⟩
 ·rw[←hc.F1.length,oH]
 ·intro q x u hx hu
  by_cases hq:q<j∨j+cs.length≤q
  ·obtain⟨u',II,hr⟩:=hc.F1.get (i:=q) (x:=x) (by rw[vQ _ _ _ _ hq]; exact hx)
   rw[hu]at II
   cases II
   exact hr
  ·have hm:x∈(l.drop j).take s:=by
    rw[List.mem_iff_getElem?]
    refine⟨q-j,?_⟩
    rw[List.getElem?_take_of_lt (by omega),List.getElem?_drop]
    have:j+(q-j)=q:=by omega
    rw[this]
    exact hx
   have:=List.all_eq_true.1 ha x hm
   unfold isAny at this
   split at this
   ·simp[aj]
   ·simp at this
theorem Fg[ab]{P:Program}{hp H:ag}{ev:Operand→AV}{nm n:Nat}{o:Oper}{o0 o':aI}{e:dg}(h0:hp[n]?=some (some o0))(Zu:H[n]?=some (some o0))(hh:rE P ev o.op n o0=true)
  (he:(aM P nm ev o).run H=some e) (hw:e.wr=[(n,o')]):Bg hp (some (n,o')):=by
 obtain⟨dst,op,type,pos,after,guard⟩:=o
 simp only[rE]at hh
 split at hh
 case h_2=>simp at hh
 rename_i t a x
 split at hh
 case h_2=>simp at hh
 rename_i r n' aq i j g f es ht ha
 split at hh
 case h_2=>simp at hh
 rename_i l hl
 simp only[Bool.and_eq_true]at hh
 obtain⟨⟨h1,h2⟩,h3⟩:=hh
 obtain rfl:=Nat.eq_of_beq_eq_true h1
 simp only[aM,o8,ht,ha,RM.run_bind]at he
 cases hq:(RM.arr n' aq).run H with
 |none=>rw[hq]at he; simp at he
 |some q=>
  obtain⟨g',c',f',es'⟩:=q
  have dR:=RM.kH hq
  rw[hq]at he
  simp only[Option.bind_some]at he
  obtain⟨gE,GD⟩:=dR
  rw[Zu]at gE
  simp only[Option.some.injEq,aI.arr.injEq]at gE
  obtain⟨rfl,rfl,rfl,rfl⟩:=gE
  rw[hl]at he
  simp only[iR]at he
  split at he
  case h_2=>simp[RM.ae]at he
  rename_i e' yX
  split at yX
  case isFalse=>simp at yX
  simp only[Option.some.injEq]at yX
  subst yX
  split at he
  case isFalse=>simp[RM.ae]at he
  rename_i hc
  simp only[RM.run_pure,Option.some.injEq]at he
  subst he
  simp only[List.cons.injEq,Prod.mk.injEq,true_and,and_true,Bool.false_and]at hw
  subst hw
  intro E w hI
  have hn:=(List.getElem?_eq_some_iff.1 h0).1
  have hi:=(List.getElem?_eq_some_iff.1 hl).1
  simp only[pL,h0]at hI
  have:=rO (e':=.agg l) hI (List.getElem?_set_self hn) (List.getElem?_set_self hi) (fun v hv=>Kq hc.2.1 h3 v hv)
  rw[List.set_set,List.set_set,gT hl,gT h0]at this
  exact this
section
variable {C:Ctx}
theorem xO{hp:ag}{n:Nat}{o0 o':aI}{nw:List aI}(h:hp[n]?=some (some o0)):ai (aR hp none nw) [(n,o')]=aR hp (some (n,o')) nw:=by
 have cd:=(List.getElem?_eq_some_iff.1 h).1
 simp only[ai,aR,pL,h]
 rw[iA (by simp; omega),List.set_append_left _ _ cd]
theorem Fh{hp:ag}{ov:Option (Nat×aI)}{nw:List aI}{n:Nat}{o':aI}(h:hp.length≤n):ai (aR hp ov nw) [(n,o')]=aR hp ov (I4 nw (n-hp.length) o'):=by
 have hl:=n8 (hp:=hp) (ov:=ov) (nw:=nw)
 simp only[ai,setObj,hl,I4]
 by_cases e:n=hp.length+nw.length
 ·simp_all[aR]
 ·rw[if_neg e,if_neg (by omega)]
  simp only[aR,List.map_set]
  rw[List.set_append_right _ _ (by rw[lL]; exact h),lL]
theorem pM{hp:ag}{ov:Option (Nat×aI)}:∀ (wr:List (Nat×aI)) {nw:List aI},(∀ q∈wr,hp.length≤q.1)→ai (aR hp ov nw) wr=aR hp ov (pe hp.length nw wr)
 |[],_,_=>rfl
 |(n,o)::r,nw,h=>by
  have h1:=Fh (ov:=ov) (nw:=nw) (o':=o) (h (n,o) (by simp))
  simp only[ai]at h1
  simp only[ai,pe,h1]
  exact pM r fun q hq=>h q (by simp[hq])
theorem z6[ab](ha:∀ f d,C.acc f d=false)(hn:∀ f d,C.qP f d=[]){ops:Array Oper}{f:FuncId}{hp:ag}{r:List Oper}{dst:Option Tmp}{op:Op}{type:TypeId}{pos:String}
  {after:Array Edge} {guard:Option (Nat×Bool)} {q q':wq} (h1:∀ c,op≠.call c) (h2:op≠.assign (.const (.slice none 0 0)))
  (h:(do
      let e ←(aM C.P (hp.length+q.nw.length) (az q.fr) ⟨dst,op,type,pos,after,guard⟩).gL hp.length q.ov q.nw
      match e.wr.all fun q=>Nat.ble hp.length q.1 with
      |true=>iW C.P hp.length ops r { q with fr:=bC q.fr dst e.val,nw:=pe hp.length q.nw e.wr }
      |false=>(match q.ov,e.wr with
       |none,[(n,o')]=>.get n fun o0=>(match rE C.P (az q.fr) op n o0 with
         |true=>iW C.P hp.length ops r { q with fr:=bC q.fr dst e.val,ov:=some (n,o') }
         |false=>.fail)
       |_,_=>.fail):RM wq).run hp=some q') (k:Nat) :
  ∃ q1:wq,fE C (k+1) ⟨dst,op,type,pos,after,guard⟩ ⟨f,q.fr,aR hp q.ov q.nw⟩=some (.norm ⟨f,q1.fr,aR hp q1.ov q1.nw⟩)∧(Bg hp q.ov→Bg hp q1.ov)∧(iW C.P hp.length ops r q1).run hp=some q':=by
 obtain⟨fr,ov,nw⟩:=q
 simp only[RM.run_bind,(nC _).1]at h
 cases he:(aM C.P (hp.length+nw.length) (az fr) ⟨dst,op,type,pos,after,guard⟩).run (aR hp ov nw) with
 |none=>rw[he]at h; simp at h
 |some e=>
  rw[he]at h
  simp only[Option.bind_some]at h
  have Er:C.qP f=fun _=>[]:=funext fun d=>hn f d
  have bA:fE C (k+1) ⟨dst,op,type,pos,after,guard⟩ ⟨f,fr,aR hp ov nw⟩=some (.norm ⟨f,bC fr dst e.val,ai (aR hp ov nw) e.wr⟩):=by
   rw[fE]
   split
   ·rename_i c hc; exact absurd hc (h1 c)
   ·rename_i hc; exact absurd hc h2
   ·simp only[n8,he,Er]
    cases dst<;>rfl
  split at h
  ·rename_i hb
   refine⟨⟨bC fr dst e.val,ov,pe hp.length nw e.wr⟩,bA.trans ?_,id,h⟩
   rw[pM e.wr fun q hq=>Nat.le_of_ble_eq_true (List.all_eq_true.1 hb q hq)]
  ·cases ov with
   |some _=>simp[RM.ae]at h
   |none=>
    split at h
    case h_2=>simp[RM.ae]at h
    rename_i n o' _ Eb
    simp only[RM.run]at h
    split at h
    case h_2=>simp at h
    rename_i o0 ho
    split at h
    case h_2=>simp[RM.ae]at h
    rename_i hh
    have c6:(aR hp none nw)[n]?=some (some o0):=by
     grind[aR,pL]
    refine⟨⟨bC fr dst e.val,some (n,o'),nw⟩,bA.trans ?_,fun _=>Fg (o:=⟨dst,op,type,pos,after,guard⟩) ho c6 hh he Eb,h⟩
    rw[Eb,xO (o':=o') ho]
theorem nD[ab](ha:∀ f d,C.acc f d=false)(hn:∀ f d,C.qP f d=[]){ops:Array Oper}{f:FuncId}{hp:ag}:∀ (l:List Oper) (q q':wq),(iW C.P hp.length ops l q).run hp=some q' →
  (Bg hp q.ov→Bg hp q'.ov)∧∀ k,cE (fun o s=>fE C (k+1) o s) ops l ⟨f,q.fr,aR hp q.ov q.nw⟩=some (.norm ⟨f,q'.fr,aR hp q'.ov q'.nw⟩)
 |[],q,q',h=>by
  simp only[iW,RM.run_pure,Option.some.injEq]at h
  subst h
  exact⟨id,fun k=>rfl⟩
 |o::r,q,q',h=>by
  obtain⟨dst,op,type,pos,after,guard⟩:=o
  simp only[iW]at h
  simp only[cE]
  cases hw:cF ops q.fr ⟨dst,op,type,pos,after,guard⟩ with
  |none=>rw[hw]at h; simp[RM.ae]at h
  |some b=>
   rw[hw]at h
   cases b with
   |false=>exact nD ha hn r { q with fr:=bC q.fr dst .undef } _ h
   |true=>
    simp only at h ⊢
    split at h
    ·simp[RM.ae]at h
    ·cases dst with
     |none=>
      obtain⟨i1,i2⟩:=nD ha hn (f:=f) r q _ h
      refine⟨i1,fun k=>?_⟩
      have bA:fE C (k+1) ⟨none,.assign (.const (.slice none 0 0)),type,pos,after,guard⟩ ⟨f,q.fr,aR hp q.ov q.nw⟩=some (.norm ⟨f,q.fr,aR hp q.ov q.nw⟩):=by
       rw[fE]; rfl
      rw[bA]
      exact i2 k
     |some d=>
      obtain⟨i1,i2⟩:=nD ha hn (f:=f) r { q with fr:=q.fr.set d (.lit cK) } _ h
      refine⟨i1,fun k=>?_⟩
      have bA:fE C (k+1) ⟨some d,.assign (.const (.slice none 0 0)),type,pos,after,guard⟩ ⟨f,q.fr,aR hp q.ov q.nw⟩=some (.norm ⟨f,q.fr.set d (.lit cK),aR hp q.ov q.nw⟩):=by
       rw[fE]
       simp only[ha,Bool.false_eq_true,if_false]
      rw[bA]
      exact i2 k
    ·rename_i h1 h2
     obtain⟨q1,g1,g2,g3⟩:=z6 ha hn (f:=f) h1 h2 h 0
     obtain⟨i1,i2⟩:=nD ha hn (f:=f) r _ _ g3
     refine⟨fun hw=>i1 (g2 hw),fun k=>?_⟩
     obtain⟨q1',Nn,_,Zv⟩:=z6 ha hn (f:=f) h1 h2 h k
     rw[Nn]
     exact(nD ha hn (f:=f) r _ _ Zv).2 k
theorem Kr[ab](ha:∀ f d,C.acc f d=false)(hn:∀ f d,C.qP f d=[])(hh:∀ f d,C.iq f d=[]){f:FuncId}{hp:ag}:∀ (c:Code) (q:wq) (q':wq×Bool),(gC C.P hp.length c q).run hp=some q' →
  (Bg hp q.ov→Bg hp q'.1.ov)∧∃ k,bS C k c ⟨f,q.fr,aR hp q.ov q.nw⟩=some (match q'.2 with|true=>.ret ⟨f,q'.1.fr,aR hp q'.1.ov q'.1.nw⟩|false=>.norm ⟨f,q'.1.fr,aR hp q'.1.ov q'.1.nw⟩):=by
 intro c
 induction c with
 |skip=>intro q q' h; simp only[gC,RM.run_pure,Option.some.injEq]at h; subst h; exact⟨id,1,by simp[bS]⟩
 |ret=>intro q q' h; simp only[gC,RM.run_pure,Option.some.injEq]at h; subst h; exact⟨id,1,by simp[bS]⟩
 |seq a b GC Ee=>
  intro q q' h
  simp only[gC,RM.run_bind]at h
  cases hq:(gC C.P hp.length a q).run hp with
  |none=>rw[hq]at h; simp at h
  |some q1=>
   rw[hq]at h
   simp only[Option.bind_some]at h
   obtain⟨w1,k1,h1⟩:=GC q q1 hq
   obtain⟨q1,r1⟩:=q1
   cases r1 with
   |true=>
    simp only[RM.run_pure,Option.some.injEq]at h
    subst h
    exact⟨w1,k1+1,by simp only[bS,h1]⟩
   |false=>
    simp only at h h1 w1
    obtain⟨w2,k2,h2⟩:=Ee q1 q' h
    refine⟨fun hw=>w2 (w1 hw),k1+k2+1,?_⟩
    have g1:=(dJ C a ⟨f,q.fr,aR hp q.ov q.nw⟩).le h1 k2
    have g2:=(dJ C b ⟨f,q1.fr,aR hp q1.ov q1.nw⟩).le h2 k1
    rw[Nat.add_comm]at g2
    simp only[bS,g1,g2]
 |cond o a b GC Ee=>
  intro q q' h
  simp only[gC]at h
  split at h
  ·rename_i he
   obtain⟨w,k,hk⟩:=GC q q' h
   exact⟨w,k+1,by simp only[bS,he]; exact hk⟩
  ·rename_i he
   obtain⟨w,k,hk⟩:=Ee q q' h
   exact⟨w,k+1,by simp only[bS,he]; exact hk⟩
  ·simp[RM.ae]at h
 |region id ops draw=>
  intro q q' h
  cases draw with
  |true=>simp[gC,RM.ae]at h
  |false=>
   simp only[gC,RM.run_bind]at h
   cases hq:(iW C.P hp.length ops ops.toList q).run hp with
   |none=>rw[hq]at h; simp at h
   |some q1=>
    rw[hq]at h
    simp only[Option.bind_some,RM.run_pure,Option.some.injEq]at h
    subst h
    obtain⟨w1,h1⟩:=nD ha hn (f:=f) _ _ _ hq
    exact⟨w1,2,by simp only[bS,hh,gF]; exact h1 0⟩
 |_=>intro q q' h; simp[gC,RM.ae]at h
def GF(nm:Nat)(ov:Option (Nat×aI)):Prop:=∀ n o,ov=some (n,o)→o.below nm=true
theorem Nm[ab]{g:FuncId}{args:List AV}{hp:ag}{e:dg}{P:Program}(hP:C.P=P)(ha:∀ f d,C.acc f d=false)(hn:∀ f d,C.qP f d=[])(Zw:∀ f d,C.iq f d=[])(h:(yN P hp.length g args).run hp=some e):
  e.wr=[]∧below hp.length e.val=true∧∃ ov nw,Bg hp ov∧GF hp.length ov∧∃ k,lZ C k g args hp=some (.val e.val,aR hp ov nw):=by
 subst hP
 unfold yN at h
 split at h
 ·simp[RM.ae]at h
 rename_i fn hf
 split at h
 ·simp[RM.ae]at h
 rename_i c hc
 split at h
 ·simp[RM.ae]at h
 rename_i hD
 rw[RM.run_bind]at h
 cases hq:(gC C.P hp.length c ⟨args++List.replicate (fn.ntmps-args.length) .undef,none,[]⟩).run hp with
 |none=>rw[hq]at h; simp at h
 |some q=>
  rw[hq]at h
  simp only[Option.bind_some,RM.run_bind,(nC _).1]at h
  cases hl:(aU C.P q.1.fr fn.results.toList).run (aR hp q.1.ov q.1.nw) with
  |none=>rw[hl]at h; simp at h
  |some l=>
   rw[hl]at h
   simp only[Option.bind_some]at h
   split at h
   case h_2=>simp[RM.ae]at h
   rename_i hb
   simp only[RM.run_pure,Option.some.injEq]at h
   subst h
   simp only[Bool.and_eq_true]at hb
   obtain⟨Zx,k,hk⟩:=Kr ha hn Zw (f:=g) c ⟨_,none,[]⟩ q hq
   refine⟨rfl,hb.1,q.1.ov,q.1.nw,Zx (fun _ _ h=>h),?_,k+1,?_⟩
   ·intro n o ho
    have:=hb.2
    rw[ho]at this
    exact this
   have e:aR hp none []=hp:=by simp[aR,pL]
   simp only[e]at hk
   simp only[lZ,hf,hc,hD,hk]
   cases q.2<;>simp only[hl]
mutual
theorem uC{E:Env}{n:Nat}(hn:E.L=n){o:Bool}:∀ {x:AV} {v:Value},aj E o x v→below n x=true
 |.lit _,v,_=>rfl
 |.agg l,v,h=>by
  simp only[aj]at h
  obtain⟨c,_,hc⟩:=h
  simp only[below]
  exact jC hn hc.F1
 |.jn l,v,h=>by
  simp only[aj]at h
  obtain⟨c,_,hc⟩:=h
  simp only[below]
  exact jC hn hc
 |.fL t x,v,h=>by
  simp only[aj]at h
  obtain⟨y,_,hy⟩:=h
  simp only[below]
  exact uC hn hy
 |.iQ fn f c,v,h=>by
  simp only[aj]at h
  obtain⟨_,_,_,h1,h2⟩:=h
  simp only[below,Bool.and_eq_true]
  exact⟨jC hn h1,jC hn h2⟩
 |.sl _,v,_=>rfl
 |.o7 _ _,v,_=>rfl
 |.nz,v,_=>rfl
 |.bc _ _,v,_=>rfl
 |.ref m _ _ _,v,h=>by
  simp_all[aj,below]
 |.bp _ m _ _ _ _,v,h=>by
  simp_all[aj,below]
 |.im m _ _ _ _ _,v,h=>by
  simp_all[aj,below]
 |.mp _ m,v,h=>by
  simp_all[aj,below]
 |.any,v,_=>rfl
theorem jC{E:Env}{n:Nat}(hn:E.L=n){o:Bool}:∀ {l:List AV} {c:List Value},an E o l c→cO n l=true
 |[],_,_=>rfl
 |x::xs,v::vs,h=>by
  simp only[an]at h
  simp only[cO,Bool.and_eq_true]
  exact⟨uC hn h.1,jC hn h.2⟩
 |_::_,[],h=>by simp[an]at h
end
theorem z7{n:Nat}:∀ {l:List AV},(∀ (i:Nat) (x:AV),l[i]?=some x→below n x=true)→cO n l=true
 |[],_=>rfl
 |x::xs,h=>by
  simp only[cO,Bool.and_eq_true]
  exact⟨h 0 x rfl,z7 fun i y hy=>h (i+1) y hy⟩
theorem HQ[ab]{E:Env}{hp:ag}{w:World}(hI:Inv E hp w){n:Nat}{o:aI}(ho:hp[n]?=some (some o)):o.below hp.length=true:=by
 have hl:=hI.len.symm
 cases o with
 |arr g c f es=>
  simp only[aI.below,Bool.or_eq_true]
  refine .inr (z7 fun i x hx=>?_)
  obtain⟨l,_,_,h3⟩:=hI.objs _ _ ho
  cases hb:l.kB with
  |none=>
   simp_all
  |some b=>
   rw[hb]at h3
   obtain⟨_,_,_,_,_,_,_,_,a7⟩:=h3
   obtain⟨v,hv,_⟩:=a7 _ _ hx
   exact uC hl hv
 |gd k vs=>
  simp only[aI.below]
  obtain⟨_,_,_,us,_,_,_,_,_,_,_,h8⟩:=hI.objs _ _ ho
  exact jC hl h8
theorem HN[ab]{E:Env}{hp:ag}{w w':World}(hI:Inv E hp w){ov:Option (Nat×aI)}{nw:List aI}(hw:Bg hp ov)(hb:GF hp.length ov){r:AV}(hr:below hp.length r=true){en:Ending}
  (h:bQ E w (aR hp ov nw) (.val r) en w'):bQ E w hp (.val r) en w':=by
 obtain⟨E',hx,ie,hf,cy⟩:=h
 have ON:(aR hp ov nw).take hp.length=pL hp ov:=by
  unfold aR
  rw[←lL (ov:=ov),List.take_left]
 have bf:((aR hp ov nw).take hp.length).all (kl hp.length)=true:=by
  rw[ON,List.all_eq_true]
  intro o ho
  obtain⟨i,hi⟩:=List.mem_iff_getElem?.1 ho
  rw[CP]at hi
  cases h:hp[i]? with
  |none=>rw[h]at hi; simp at hi
  |some o1=>
   rw[h]at hi
   cases o1 with
   |none=>
    simp only[Option.map_some,Option.map_none,Option.some.injEq]at hi
    subst hi
    rfl
   |some o1=>
    simp only[Option.map_some,Option.some.injEq]at hi
    subst hi
    simp only[kl]
    have h1:=HQ hI h
    cases ov with
    |none=>exact h1
    |some q=>
     obtain⟨m,o'⟩:=q
     simp only
     split
     ·exact hb _ _ rfl
     ·exact h1
 obtain⟨h1,h2,h3⟩:=tm ie (by rw[n8]; omega) bf
 rw[ON]at h1
 refine⟨E'.lower hp.length,⟨hx.m,fun n hn aq l h=>hx.ρ n hn aq l h,by simp[Env.lower,hI.len]⟩,hw _ _ h1,hf.trans h2,?_⟩
 cases en with
 |returned v=>exact aj.down h3 hr cy
 |panicked _=>exact cy.elim
 |outgrown=>exact cy.elim
end
end Go.PI
end
section
/- PI, part Z: the theorem: what the evaluator answers is what the machine does. -/
namespace Go.PI
theorem HJ[ab]{C:Ctx}{k:Nat}:Gy (fun nm o fr=>ir C k nm o fr):=by
 intro nm o fr yY h
 cases k with
 |zero=>rfl
 |succ k=>
  have D4:=Cu (P:=C.P) (nm:=nm) h
  obtain⟨dst,op,type,pos,after,guard⟩:=o
  cases op with
  |call c=>
   obtain⟨callee,args,argTypes⟩:=c
   cases callee with
   |builtin b=>simp only[ir]; exact D4
   |invoke r m=>
    have h1:az fr r=az yY r:=h r (by simp[Op.operands,Call.operands])
    have h2:args.toList.map (az fr)=args.toList.map (az yY):=List.map_congr_left fun x hx=>h x (by simp[Op.operands,Call.operands]; exact .inr (by simpa using hx))
    simp only[ir,h1,h2]
   |value f=>
    have h1:az fr f=az yY f:=h f (by simp[Op.operands,Call.operands])
    have h2:args.toList.map (az fr)=args.toList.map (az yY):=List.map_congr_left fun x hx=>h x (by simp[Op.operands,Call.operands]; exact .inr (by simpa using hx))
    simp only[ir,h1,h2]
  |_=>simp only[ir]; exact D4
theorem CD[ab]{C:Ctx}(bN:C.Ok)(Uc:∀ g,C.kind g=.imp→Kd C.P){k:Nat}(hF:lI C k)(hP:uw C k):rK C.P (fun nm o fr=>ir C (k+1) nm o fr):=by
 intro rd x B E s a w e K Q hs mZ h hK
 have bA:=fun y=>gR hs.inv.jo hs.fr y
 have fo:au x.o.op=false→x.at s.hp.length=s.hp.length:=fun h=>by simp only[Item.at,h]
 have RZ:au x.o.op=true→s.hp[x.at s.hp.length]?=some none:=fun h=>by simp only[Item.at,h]; exact mZ h
 clear mZ
 have mZ:=RZ
 clear RZ
 obtain⟨idx,nm,o⟩:=x
 generalize Item.at ⟨idx,nm,o⟩ s.hp.length=nm at h mZ fo
 simp only at h mZ fo hK ⊢
 have Ub:(aM C.P nm (az s.fr) o).run s.hp=some e→o.wpIn (WF rd) 0 C.P a w K Q:=by
  intro h
  cases pk:au o.op with
  |true=>exact wL hs (sZ hs.inv (.inr (mZ pk)) bA h) hK
  |false=>
   rw[J7 (nm':=s.hp.length) pk]at h
   exact wL hs (sZ hs.inv (.inl rfl) bA h) hK
 obtain⟨dst,op,type,pos,after,guard⟩:=o
 cases op with
 |call c=>
  obtain⟨callee,args,argTypes⟩:=c
  cases callee with
  |builtin b=>simp only[ir]at h; exact Ub h
  |invoke rv m=>
   simp only[ir]at h
   split at h
   ·simp[RM.ae]at h
   rename_i g y cy
   have ja:=iZ bA args.toList
   split at h
   case h_2=>simp[RM.ae]at h
   rw[RM.run_bind]at h
   cases hq:(kX C k g (y::args.toList.map (az s.fr))).run s.hp with
   |none=>rw[hq]at h; simp at h
   |some q=>
    obtain⟨res,wr⟩:=q
    rw[hq]at h
    simp only[Option.bind_some]at h
    cases res with
    |jL v=>simp[RM.ae]at h
    |val r=>
     simp only[RM.run_pure,Option.some.injEq]at h
     subst h
     obtain⟨vs',mc,aV⟩:=Bb (w:=w) (o:=⟨dst,.call ⟨.invoke rv m,args,argTypes⟩,type,pos,after,guard⟩) rfl (bA rv) ja cy (Bd bN hq)
     have gQ:=hP g _ s.hp _ wr hq E w vs' hs.inv mc
     refine xJ rfl aV gQ (fun v w' hp=>?_) (fun ch w' hp=>?_) (fun w' hp=>?_)
     ·obtain⟨E',hx,ie,hf,hr⟩:=hp
      exact hK E' w' v hx hf ie hr
     ·obtain⟨E',hx,ie,hf,hr⟩:=hp
      exact hr.elim
     ·obtain⟨E',hx,ie,hf,hr⟩:=hp
      exact hr.elim
  |value f=>
   simp only[ir]at h
   split at h
   ·simp[RM.ae]at h
   rename_i g vJ cy
   have ja:=iZ bA args.toList
   split at h
   ·rename_i pk
    obtain⟨vs',mc,aV⟩:=eU (w:=w) (bA f) ja cy (z2 bN h)
    refine qp (c:=⟨.value f,args,argTypes⟩) rfl rfl aV (z3 bN hF hs.inv (.inr (mZ pk)) mc h) (fun v w' hp=>?_) (fun ch w' hp=>?_) (fun w' hp=>?_)
    ·obtain⟨v',jP,E',hx,ie,hf,hr⟩:=hp
     cases jP
     exact hK E' w' v hx hf ie hr
    ·obtain⟨v',jP,_⟩:=hp
     cases jP
    ·obtain⟨v',jP,_⟩:=hp
     cases jP
   split at h
   case h_2=>
    rename_i hk
    have fin : (∃ fn : Func, C.P.funcs[g]? = some fn ∧ fn.body.isSome = true ∧ (fn.name == "runtime.NumGoroutine") = false) ∧
      ∀ (vs:List Value),an E true vJ vs→Calls C.P g vs.toArray w (bQ E w (ai s.hp e.wr) (.val e.val)):=by
     split at h
     ·rename_i hh he
      obtain⟨⟨fn,h1,h2⟩,h3⟩:=bN.qY g hh vJ s.hp e he h
      exact⟨⟨fn,h1,h2,bN.name g fn h1 h2⟩,fun vs hv=>h3 E w vs hs.inv hv⟩
     ·refine⟨Nd bN h,fun vs hv=>?_⟩
      rw[fo (by assumption)]at h
      obtain⟨e0,gQ⟩:=Uc g hk g vJ s.hp _ h E w vs hs.inv hv
      rw[e0]
      exact gQ
    obtain⟨vs',mc,aV⟩:=eU (w:=w) (bA f) ja cy fin.1
    refine qp (c:=⟨.value f,args,argTypes⟩) rfl rfl aV (fin.2 vs' mc) (fun v w' hp=>?_) (fun ch w' hp=>?_) (fun w' hp=>?_)
    ·obtain⟨E',hx,ie,hf,hr⟩:=hp
     exact hK E' w' v hx hf ie hr
    ·obtain⟨E',hx,ie,hf,hr⟩:=hp
     exact hr.elim
    ·obtain⟨E',hx,ie,hf,hr⟩:=hp
     exact hr.elim
   rw[RM.run_bind]at h
   cases hq:(kX C k g vJ).run s.hp with
   |none=>rw[hq]at h; simp at h
   |some q=>
    obtain⟨res,wr⟩:=q
    rw[hq]at h
    simp only[Option.bind_some]at h
    cases res with
    |jL v=>simp[RM.ae]at h
    |val r=>
     simp only[RM.run_pure,Option.some.injEq]at h
     subst h
     obtain⟨vs',mc,aV⟩:=eU (w:=w) (bA f) ja cy (Bd bN hq)
     have gQ:=hP g vJ s.hp _ wr hq E w vs' hs.inv mc
     refine qp (c:=⟨.value f,args,argTypes⟩) rfl rfl aV gQ (fun v w' hp=>?_) (fun ch w' hp=>?_) (fun w' hp=>?_)
     ·obtain⟨E',hx,ie,hf,hr⟩:=hp
      exact hK E' w' v hx hf ie hr
     ·obtain⟨E',hx,ie,hf,hr⟩:=hp
      exact hr.elim
     ·obtain⟨E',hx,ie,hf,hr⟩:=hp
      exact hr.elim
 |_=>simp only[ir]at h; exact Ub h
theorem nA{I:Machine→Prop}{P:Program}{m m1 m2:Machine}(h:StepsIn I P m m2)(dM:m≠m2)(hs:step P m=.next m1):StepsIn I P m1 m2:=by
 cases h with
 |refl=>exact absurd rfl dM
 |head _ eY hr=>
  rw[hs]at eY
  cases eY
  exact hr
theorem mJ{id:Nat}:∀ {k k':List Go.Item},exitTo id k=some k'→k'.length<k.length
 |[],k',h=>by simp[exitTo]at h
 |x::r,k',h=>by
  cases x with
  |inBlock I5=>
   simp only[exitTo]at h
   split at h
   ·simp_all
   ·have:=mJ h; simp; omega
  |_=>simp only[exitTo]at h; have:=mJ h; simp; omega
theorem GB{b b':Frame}{a a':Act}{k k':List Go.Item}{cs:List Frame}{w w':World}(h:k.length≠k'.length):lone (b.atR a k) cs w≠lone (b'.atR a' k') cs w':=by
 intro e
 have h1:=congrArg (fun m:Machine=>(m.gs[0]?).map fun g=>g.frame.todo.length) e
 have h2:some k.length=some k'.length:=h1
 simp only[Option.some.injEq]at h2
 exact h h2
def rQ:Go.Item→Bool
 |.code (.loop _)=>true
 |_=>false
theorem CE{b b':Frame}{a a':Act}{k k':List Go.Item}{cs:List Frame}{w w':World}{c:Code}{x:Go.Item}(hx:rQ x=false):lone (b.atR a (.code (.loop c)::k)) cs w≠lone (b'.atR a' (x::k')) cs w':=by
 intro e
 have h1:=congrArg (fun m:Machine=>(m.gs[0]?).map fun g=>(g.frame.todo.head?).map rQ) e
 have h2:some (some true)=some (some (rQ x)):=h1
 rw[hx]at h2
 simp at h2
theorem y7{F:Fence}{n:Nat}{P:Program}{c:Code}{Q:Exit→Act→World→Prop}{a:Act}{w:World}(hg:∀ l a w,¬Q (.goto l) a w)(ho:∀ a w,¬Q .outgrown a w)
  (h:c.wpIn F n P (Exit.then (fun a w=>(Code.loop c).wpIn F n P Q a w) Q) a w):(Code.loop c).wpIn F n P Q a w:=by
 intro b k cs dD hb hr
 have h0:(lone (b.atR a (.code (.loop c)::k)) cs w).fenced P F:=fenced_calm hb hr rfl
 obtain⟨e,a₁,w₁,hq,cJ⟩:=h b (.inLoop c::k) cs dD hb hr
 cases e with
 |normal=>
  obtain⟨e₂,a₂,w₂,w9,jN⟩:=hq b k cs dD hb hr
  have h1:(lone (b.atR a₁ (.inLoop c::k)) cs w₁).fenced P F:=fenced_calm hb hr rfl
  refine⟨e₂,a₂,w₂,w9,ArrivesIn.of_steps (StepsIn.head h0 stepR_loop (StepsIn.trans cJ (.one h1 stepR_inLoop))) ?_⟩
  have hs:step P (lone (b.atR a₁ (.code (.loop c)::k)) cs w₁)=.next (lone (b.atR a₁ (.code c::.inLoop c::k)) cs w₁):=stepR_loop
  cases e₂ with
  |normal=>exact nA jN (GB (k:=.code (.loop c)::k) (k':=k) (by simp)) hs
  |exit id=>
   exact⟨fun k' hk=>nA (jN.1 k' hk) (GB (k:=.code (.loop c)::k) (k':=k') (by have:=mJ hk; simp; omega)) hs,
    fun lr hk=>by
     obtain⟨k₁,e1,e2⟩:=jN.2 lr hk
     exact⟨k₁,e1,nA e2 (CE rfl) hs⟩⟩
  |goto l=>exact absurd w9 (hg _ _ _)
  |ret=>
   refine⟨fun hn=>?_,fun hn=>?_⟩
   ·obtain⟨todo,h1⟩:=jN.1 hn
    refine⟨todo,nA h1 ?_ hs⟩
    intro e
    have h1:=congrArg (fun m:Machine=>(m.gs[0]?).map fun g=>(match g.frame.mode with|.run=>true|_=>false)) e
    have h2:some true=some false:=h1
    simp at h2
   ·obtain⟨k₁,h1⟩:=jN.2 hn
    exact⟨k₁,nA h1 (CE rfl) hs⟩
  |panic ch=>
   obtain⟨todo,h1⟩:=jN
   refine⟨todo,nA h1 ?_ hs⟩
   intro e
   have h1:=congrArg (fun m:Machine=>(m.gs[0]?).map fun g=>(match g.frame.mode with|.run=>true|_=>false)) e
   have h2:some true=some false:=h1
   simp at h2
  |outgrown=>exact absurd w9 (ho _ _)
 |exit id=>exact⟨_,a₁,w₁,hq,.of_steps (.one h0 stepR_loop) (.pass (x:=.inLoop c) rfl (fun _ _=>.inl (by simp)) cJ)⟩
 |goto l=>exact⟨_,a₁,w₁,hq,.of_steps (.one h0 stepR_loop) (.pass (x:=.inLoop c) rfl (fun _ _=>.inl (by simp)) cJ)⟩
 |ret=>exact⟨_,a₁,w₁,hq,.of_steps (.one h0 stepR_loop) (.pass (x:=.inLoop c) rfl (fun _ _=>.inl (by simp)) cJ)⟩
 |panic ch=>exact⟨_,a₁,w₁,hq,.of_steps (.one h0 stepR_loop) (.pass (x:=.inLoop c) rfl (fun _ _=>.inl (by simp)) cJ)⟩
 |outgrown=>exact⟨_,a₁,w₁,hq,.of_steps (.one h0 stepR_loop) (.pass (x:=.inLoop c) rfl (fun _ _=>.inl (by simp)) cJ)⟩
theorem Nf[ab]{B:oJ}{E:Env}{w:World}{o:Out}:∀ l a w',¬bo B E w o (.goto l) a w':=by
 rintro l a w' ⟨E',_,_,h⟩
 cases o<;>exact h
theorem PN[ab]{B:oJ}{E:Env}{w:World}{o:Out}:∀ a w',¬bo B E w o .outgrown a w':=by
 rintro a w' ⟨E',_,_,h⟩
 cases o<;>exact h
theorem Ke[ab]{C:Ctx}(bN:C.Ok){k:Nat}(hF:lI C k){B:oJ}(R0:B.rg=true)(OL:B.lb=none){E:Env}{s:St}{a:Act}{w:World}(hs:cG B E s a w){f:Operand}{ps:Array Tmp}{as bd:Code}{o:Out}
  (h:bS C (k+1) (.rangeFunc f ps as bd) s=some o):(Code.rangeFunc f ps as bd).wpIn (WF none) 0 C.P (bo B E w o) a w:=by
 simp only[bS]at h
 split at h
 case h_2=>simp at h
 rename_i g args cy
 split at h
 case h_2=>simp at h
 rename_i x wu bA
 refine wpIn_rangeFunc fun fn _=>?_
 have Mk:Inv E s.hp (w.alloc (.deferred (some []))):=zW hs.inv (fun b hb=>by simp only[World.alloc,Array.getElem?_push,if_neg (by omega:¬b=w.heap.size)]) (by simp)
 have Zc:Fr E w E (w.alloc (.deferred (some []))):=⟨rfl,rfl,rfl,by simp,fun b hb _=>by simp only[World.alloc,Array.getElem?_push,if_neg (by omega:¬b=w.heap.size)],fun _ h=>.inl h,fun _ _ h=>.inl h,fun b r hr=>⟨r,by have:=(Array.getElem?_eq_some_iff.1 hr).1; simp only[World.alloc,Array.getElem?_push,if_neg (by omega:¬b=w.heap.size)]; exact hr⟩⟩
 obtain⟨j0,qk,OM⟩:=AX Mk (n:=s.hp.length) (.inl rfl) (k:=.loop s.fn ps as bd .ready) (ob:=.loop { state:=.ready,pending:=none,fn,tmps:=a.tmps,params:=ps,assign:=as,body:=bd,defers:=w.heap.size }) (us:=a.tmps.toList)
  ⟨rfl,rfl,rfl,⟨rfl,rfl⟩,rfl⟩ (uz (u:=cX as++cX bd) 0 _ _ hs.fr)
 have eb:setObj s.hp s.hp.length (.gd (.loop s.fn ps as bd .ready) (m9 (cX as++cX bd) 0 s.fr))=s.hp++[some (.gd (.loop s.fn ps as bd .ready) (tW as bd s.fr))]:=by simp[setObj,tW]
 rw[eb]at qk
 have kF:(w.alloc (.deferred (some []))).heap.size=w.heap.size+1:=by simp
 rw[kF]at j0 qk OM
 generalize Q7:E.push s.hp.length 0 ⟨some (w.heap.size+1),1,0⟩=E2 at j0 qk OM
 have dc:E2.ρ s.hp.length 0=some ⟨some (w.heap.size+1),1,0⟩:=by rw[←Q7]; simp[Env.push]
 have hL:s.hp.length<E2.L:=by rw[←Q7]; simp only[Env.push]; omega
 have R1:∀ b,E2.own b→E.own b∨b=w.heap.size+1:=by
  intro b hb
  rw[←Q7]at hb
  rcases hb with hb|hb
  ·exact .inl hb
  ·simp_all
 generalize hW:(w.alloc (.deferred (some []))).alloc (.loop { state:=.ready,pending:=none,fn,tmps:=a.tmps,params:=ps,assign:=as,body:=bd,defers:=w.heap.size })=w2 at qk OM
 have CA:=(gR hs.inv.jo hs.fr f).mono j0
 have hy:an E2 true [.mp true s.hp.length] [Value.func (.yield (w.heap.size+1)) #[] #[]]:=by
  simp_all[an,aj]
 obtain⟨Ng,rN,hG⟩:=ux bA
 obtain⟨vs',mc,aV⟩:=eU (w:=w2) CA hy cy ⟨Ng,rN,hG,bN.name g Ng rN hG⟩
 rw[Sem.run_bind]at aV
 cases Nh:(Deferred.ofValue (a.eval f) #[Value.func (.yield (w.heap.size+1)) #[] #[]]).run C.P w2 with
 |halt x' w'=>
  have E7:(Deferred.ofValue (a.eval f) [Value.func (.yield (w.heap.size+1)) #[] #[]].toArray).run C.P w2=.halt x' w':=Nh
  rw[E7]at aV
  simp[Result.andThen]at aV
 |ok d R2=>
  have E7:(Deferred.ofValue (a.eval f) [Value.func (.yield (w.heap.size+1)) #[] #[]].toArray).run C.P w2=.ok d R2:=Nh
  rw[E7]at aV
  simp only[Result.andThen]at aV
  refine⟨w.heap.size+1,[{ target:=.collected w.heap.size,args:=#[] }],w2,d,R2,g,vs'.toArray,w2,?_,?_,fun _ _=>trivial,aV,fun h=>by simp[WF,Fence.wide]at h,?_⟩
  ·rw[←hW]
   exact run_enterLoop_outer fn a.tmps ps as bd
  ·simpa[resolve,rangeCall,Act.eval] using Nh
  refine(wM (hF g args _ _ _ bA E2 w2 vs' qk mc) none _).mono fun e w3 cY=>?_
  cases e with
  |panicked ch=>obtain⟨_,_,_,_,hr⟩:=cY; exact hr.elim
  |outgrown=>obtain⟨_,_,_,_,hr⟩:=cY; exact hr.elim
  |returned v=>
   obtain⟨E3,Mp,R3,R4,_⟩:=cY
   have CF:=Mp.ρ _ hL 0 _ dc
   have after:∀ (st:kW) (j:Option Code),ia wu s.hp.length=some st→(∀ s' p',st.is s' p'→s'≠.busy∧p'=j) →
     ∃ w4,(Instr.endLoop (w.heap.size+1)).run C.P w3=.ok j w4∧∃ E4,Ext E E4∧Fr E w E4 w4 ∧
       cG B E4 { s with hp:=qZ wu s.hp.length } { a with defers:=[{ target:=.collected w.heap.size,args:=#[] }]++a.defers } w4:=by
    intro st j gJ hj
    obtain⟨Zd,Ze,Zf,Zg,Zh,EZ⟩:=iD gJ
    obtain⟨r3,u1,_,_,_,u5,_⟩:=n7 R3 EZ CF rfl
    obtain⟨j1,j2⟩:=hj _ _ u5
    subst j2
    obtain⟨c1,c2⟩:=Cz R3 EZ CF rfl u1 (s':=.exhausted) (p':=r3.pending)
    have PO:Fr E w E3 (w3.putObj (w.heap.size+1) (.loop { r3 with state:=.exhausted })):=((Zc.trans OM).trans R4).trans c2
    refine⟨_,run_endLoop u1 j1,E3,j0.trans Mp,PO,⟨hs.fr.mono (j0.trans Mp),c1,?_,Nat.le_trans hs.bs PO.size⟩⟩
    obtain⟨rs,PQ,Vn,_,Vo⟩:=hs.df.mono PO
    have Ni:¬E2.own w.heap.size:=fun ho=>by
     rcases R1 _ ho with h|h
     ·have:=hs.inv.oT _ h; omega
     ·omega
    have xL:w.heap.size<w2.heap.size:=by rw[←hW]; simp; omega
    have hold:∀ r∈rs,r<w.heap.size:=by
     intro r hr
     obtain⟨rs0,e1,_,_,e3⟩:=hs.df
     rw[e1]at PQ
     have hm:∀ (l l':List Nat),l.map (fun r=>({ target:=.collected r,args:=#[] }:Deferred))=l'.map (fun r=>{ target:=.collected r,args:=#[] })→l=l':=by
      intro l
      induction l with
      |nil=>simp_all
      |cons y ys ih=>
       intro l' h
       cases l' with
       |nil=>simp at h
       |cons z zs=>
        grind
     have:=hm _ _ (List.append_cancel_right PQ)
     subst this
     exact(Array.getElem?_eq_some_iff.1 (e3 r hr).2.2).1
    refine⟨w.heap.size::rs,by simp only[List.map_cons,List.cons_append,←PQ]; rfl,List.nodup_cons.2 ⟨fun hm=>?_,Vn⟩,⟨fun h=>(by rw[R0]at h; cases h),fun _ h=>(by rw[OL]at h; cases h)⟩,fun r hr=>?_⟩
    ·have:=hold _ hm; omega
    ·rcases List.mem_cons.1 hr with rfl|hr
     ·refine⟨hs.bs,fun ho=>?_,?_⟩
      ·rcases R4.own _ ho with h|h
       ·exact Ni h
       ·omega
      ·rw[World.putObj_heap_other (by omega),R4.same _ xL Ni,←hW]
       show ((w.heap.push _).push _)[w.heap.size]?=_
       simp only[Array.getElem?_push,Array.size_push,if_true]
       rw[if_neg (by omega)]
     ·exact Vo r hr
   unfold vn at h
   split at h
   ·rename_i gJ
    simp only[Option.some.injEq]at h
    subst h
    obtain⟨w4,h1,E4,h2,h3,h4⟩:=after _ none gJ (fun s' p' hp=>⟨by rw[hp.1]; simp,hp.2⟩)
    exact⟨none,w4,h1,E4,h2,h3,h4⟩
   ·rename_i gJ
    simp only[Option.some.injEq]at h
    subst h
    obtain⟨w4,h1,E4,h2,h3,h4⟩:=after _ (some .ret) gJ (fun s' p' hp=>⟨by rw[hp.1]; simp,hp.2⟩)
    exact⟨some .ret,w4,h1,wpIn_ret ⟨E4,h2,h3,h4⟩⟩
   ·rename_i id gJ
    simp only[Option.some.injEq]at h
    subst h
    obtain⟨w4,h1,E4,h2,h3,h4⟩:=after _ (some (.exit id)) gJ (fun s' p' hp=>⟨by rw[hp.1]; simp,hp.2⟩)
    exact⟨some (.exit id),w4,h1,wpIn_exit ⟨E4,h2,h3,rfl,h4⟩⟩
   ·simp at h
theorem Bf{P:Program}{w:World}{l:Nat}{r:Loop}(h:w.heap[l]?=some (.loop r))(fn:FuncId)(tmps:Array Value)(ps:Array Tmp)(as bd:Code):(Instr.enterLoop fn tmps ps as bd (some l)).run P w =
  .ok (w.heap.size,[]) (w.alloc (.loop { state:=.ready,pending:=none,fn,tmps,params:=ps,assign:=as,body:=bd,defers:=r.defers })):=by
 unfold Instr.enterLoop
 simp only[Sem.run_bind,run_getLoop h,run_newObj_alloc,Result.andThen,Sem.run_pure]
theorem Kf[ab]{C:Ctx}(bN:C.Ok){k:Nat}(hF:lI C k){B:oJ}{bl:Nat}(OL:B.lb=some bl){E:Env}{s:St}{a:Act}{w:World}(hs:cG B E s a w){f:Operand}{ps:Array Tmp}{as bd:Code}{o:Out}
  (h:bS C (k+1) (.rangeFunc f ps as bd) s=some o):(Code.rangeFunc f ps as bd).wpIn (WF (some bl)) 0 C.P (bo B E w o) a w:=by
 simp only[bS]at h
 split at h
 case h_2=>simp at h
 rename_i g args cy
 split at h
 case h_2=>simp at h
 rename_i x wu bA
 obtain⟨r0,D9⟩:∃ r0:Loop,w.heap[bl]?=some (.loop r0):=by
  obtain⟨_,_,_,⟨_,h2⟩,_⟩:=hs.df
  exact h2 bl OL
 refine wpIn_rangeFunc fun fn _=>?_
 obtain⟨j0,qk,OM⟩:=AX hs.inv (n:=s.hp.length) (.inl rfl) (k:=.loop s.fn ps as bd .ready) (ob:=.loop { state:=.ready,pending:=none,fn,tmps:=a.tmps,params:=ps,assign:=as,body:=bd,defers:=r0.defers }) (us:=a.tmps.toList)
  ⟨rfl,rfl,rfl,⟨rfl,rfl⟩,rfl⟩ (uz (u:=cX as++cX bd) 0 _ _ hs.fr)
 have eb:setObj s.hp s.hp.length (.gd (.loop s.fn ps as bd .ready) (m9 (cX as++cX bd) 0 s.fr))=s.hp++[some (.gd (.loop s.fn ps as bd .ready) (tW as bd s.fr))]:=by simp[setObj,tW]
 rw[eb]at qk
 generalize Q7:E.push s.hp.length 0 ⟨some w.heap.size,1,0⟩=E2 at j0 qk OM
 have dc:E2.ρ s.hp.length 0=some ⟨some w.heap.size,1,0⟩:=by rw[←Q7]; simp[Env.push]
 have hL:s.hp.length<E2.L:=by rw[←Q7]; simp only[Env.push]; omega
 generalize hW:w.alloc (.loop { state:=.ready,pending:=none,fn,tmps:=a.tmps,params:=ps,assign:=as,body:=bd,defers:=r0.defers })=w2 at qk OM
 have CA:=(gR hs.inv.jo hs.fr f).mono j0
 have hy:an E2 true [.mp true s.hp.length] [Value.func (.yield w.heap.size) #[] #[]]:=by
  simp_all[an,aj]
 obtain⟨Ng,rN,hG⟩:=ux bA
 obtain⟨vs',mc,aV⟩:=eU (w:=w2) CA hy cy ⟨Ng,rN,hG,bN.name g Ng rN hG⟩
 rw[Sem.run_bind]at aV
 cases Nh:(Deferred.ofValue (a.eval f) #[Value.func (.yield w.heap.size) #[] #[]]).run C.P w2 with
 |halt x' w'=>
  have E7:(Deferred.ofValue (a.eval f) [Value.func (.yield w.heap.size) #[] #[]].toArray).run C.P w2=.halt x' w':=Nh
  rw[E7]at aV
  simp[Result.andThen]at aV
 |ok d R2=>
  have E7:(Deferred.ofValue (a.eval f) [Value.func (.yield w.heap.size) #[] #[]].toArray).run C.P w2=.ok d R2:=Nh
  rw[E7]at aV
  simp only[Result.andThen]at aV
  refine⟨w.heap.size,[],w2,d,R2,g,vs'.toArray,w2,?_,?_,fun _ _=>trivial,aV,fun h=>by simp[WF,Fence.wide]at h,?_⟩
  ·rw[←hW]
   exact Bf D9 fn a.tmps ps as bd
  ·simpa[resolve,rangeCall,Act.eval] using Nh
  refine(wM (hF g args _ _ _ bA E2 w2 vs' qk mc) (some bl) _).mono fun e w3 cY=>?_
  cases e with
  |panicked ch=>obtain⟨_,_,_,_,hr⟩:=cY; exact hr.elim
  |outgrown=>obtain⟨_,_,_,_,hr⟩:=cY; exact hr.elim
  |returned v=>
   obtain⟨E3,Mp,R3,R4,_⟩:=cY
   have CF:=Mp.ρ _ hL 0 _ dc
   have after:∀ (st:kW) (j:Option Code),ia wu s.hp.length=some st→(∀ s' p',st.is s' p'→s'≠.busy∧p'=j) →
     ∃ w4,(Instr.endLoop w.heap.size).run C.P w3=.ok j w4∧∃ E4,Ext E E4∧Fr E w E4 w4 ∧
       cG B E4 { s with hp:=qZ wu s.hp.length } { a with defers:=[]++a.defers } w4:=by
    intro st j gJ hj
    obtain⟨Zd,Ze,Zf,Zg,Zh,EZ⟩:=iD gJ
    obtain⟨r3,u1,_,_,_,u5,_⟩:=n7 R3 EZ CF rfl
    obtain⟨j1,j2⟩:=hj _ _ u5
    subst j2
    obtain⟨c1,c2⟩:=Cz R3 EZ CF rfl u1 (s':=.exhausted) (p':=r3.pending)
    have PO:Fr E w E3 (w3.putObj w.heap.size (.loop { r3 with state:=.exhausted })):=(OM.trans R4).trans c2
    exact⟨_,run_endLoop u1 j1,E3,j0.trans Mp,PO,⟨hs.fr.mono (j0.trans Mp),c1,hs.df.mono PO,Nat.le_trans hs.bs PO.size⟩⟩
   unfold vn at h
   split at h
   ·rename_i gJ
    simp only[Option.some.injEq]at h
    subst h
    obtain⟨w4,h1,E4,h2,h3,h4⟩:=after _ none gJ (fun s' p' hp=>⟨by rw[hp.1]; simp,hp.2⟩)
    exact⟨none,w4,h1,E4,h2,h3,h4⟩
   ·rename_i gJ
    simp only[Option.some.injEq]at h
    subst h
    obtain⟨w4,h1,E4,h2,h3,h4⟩:=after _ (some .ret) gJ (fun s' p' hp=>⟨by rw[hp.1]; simp,hp.2⟩)
    exact⟨some .ret,w4,h1,wpIn_ret ⟨E4,h2,h3,h4⟩⟩
   ·rename_i id gJ
    simp only[Option.some.injEq]at h
    subst h
    obtain⟨w4,h1,E4,h2,h3,h4⟩:=after _ (some (.exit id)) gJ (fun s' p' hp=>⟨by rw[hp.1]; simp,hp.2⟩)
    exact⟨some (.exit id),w4,h1,wpIn_exit ⟨E4,h2,h3,rfl,h4⟩⟩
   ·simp at h
section
variable {ops:Array Oper}
theorem Nj[ab]{P:Program}{CG:Oper→St→Option Out}(dH:lJ P CG)(tn:∀ o s r,CG o s=some r→(∃ s',r=.norm s')∨∃ v s',r=.jL v s')(mu:kE 0 ops.toList=true){md:Region.Mode}
  (vF:pd md ops=true) {m:Nat} (vI:mE (ca ops.toList) ops.size m=true) {Q:Exit→Act→World→Prop} {E0:Env} {w0:World} {B:oJ} {r:Option Nat} {out:Out}
  (hQ:∀ s',out=.norm s'→∀ E a w,Ext E0 E→Fr E0 w0 E w→cG B E s' a w→Q .normal a w)
  (hP:∀ v s',out=.jL v s'→∀ E a w u,Ext E0 E→Fr E0 w0 E w→Inv E s'.hp w→aj E true v u→Marks B E w a.defers→Q (.panic [{ v:=u,recovered:=false }]) a w) :
  ∀ (t i:Nat) (aL:Array Bool) (E:Env) (s:St) (a:Act) (w:World),i+t=ops.size→m≤i→aL.size=ops.size→(∀ j,j<i→aL.getD j true=true)→(∀ j,i≤j→j<ops.size→aL.getD j true=false) →
    Ext E0 E→Fr E0 w0 E w→cG B E s a w→cE CG ops (ops.toList.drop i) s=some out→wpAnyIn (WF r) 0 P md ops Q t aL a w:=by
 intro t
 induction t with
 |zero=>
  intro i aL E s a w Zi hm dj Kg Nk hx eX hs aV
  rw[List.drop_of_length_le (by simp; omega)]at aV
  simp only[cE,Option.some.injEq]at aV
  refine⟨?_,hQ s aV.symm E a w hx eX hs⟩
  unfold Region.ready
  rw[List.filter_eq_nil_iff]
  intro j hj hc
  simp only[List.mem_range]at hj
  rw[Kg j (by omega)]at hc
  simp at hc
 |succ t ih=>
  intro i aL E s a w Zi hm dj Kg Nk hx eX hs aV
  have Kh:i<ops.size:=by omega
  refine⟨fun xH=>absurd xH (Cs vF dj Kh (Nk i (Nat.le_refl _) Kh)),fun j hj=>?_⟩
  have vB:∀ k o,ops[k]?=some o→aL.getD k true=true→∀ p,rC (ca ops.toList) k p=true→aL.getD p false=true:=by
   intro k o hk hl p hp
   have U9:k<ops.size:=(Array.getElem?_eq_some_iff.1 hk).1
   have Hi:k<i:=by
    grind
   have Uc:=Nb mu hk hp
   have:=Kg p (by omega)
   rw[←tk (a:=aL) (by omega) true false]
   exact this
  obtain⟨Q0,Mh,Zj⟩:=vG mu dj vB hj
  have Zk:j=i:=by
   rcases Nat.lt_trichotomy j i with h|h|h
   ·rw[Kg j h]at Mh; cases Mh
   ·exact h
   ·have:=Zj i (vH vI (by omega) Q0 h)
    have h2:=Nk i (Nat.le_refl _) Kh
    rw[tk (by omega) true false]at h2
    rw[this]at h2; cases h2
  subst Zk
  obtain⟨o,ho⟩:∃ o,ops[j]?=some o:=⟨ops[j],by simp[Kh]⟩
  have R5:ops.toList.drop j=o::ops.toList.drop (j+1):=by
   have hl:j<ops.toList.length:=by simpa using Kh
   rw[List.drop_eq_getElem_cons hl]
   congr 1
   have:=(Array.getElem?_eq_some_iff.1 ho).2
   simpa using this
  rw[R5]at aV
  have eb:∀ q d,q≠j→(aL.setIfInBounds j true).getD q d=aL.getD q d:=by
   intro q d hq
   simp[Array.getD_eq_getD_getElem?,Ne.symm hq]
  have Ct:∀ d,(aL.setIfInBounds j true).getD j d=true:=by
   simp_all
  have next:∀ (E':Env) (s':St) (a':Act) (w':World),Ext E0 E'→Fr E0 w0 E' w'→cG B E' s' a' w'→cE CG ops (ops.toList.drop (j+1)) s'=some out →
    wpAnyIn (WF r) 0 P md ops Q t (aL.setIfInBounds j true) a' w':=by
   intro E' s' a' w' gf J6 eY lr
   refine ih (j+1) _ E' s' a' w' (by omega) (by omega) (by simpa using dj) (fun q hq=>?_) (fun q hq Zl=>?_) gf J6 eY lr
   ·by_cases e:q=j
    ·subst e; exact Ct _
    ·rw[eb _ _ e]; exact Kg q (by omega)
   ·rw[eb _ _ (by omega)]; exact Nk q (by omega) Zl
  unfold wpOpIn
  rw[ho]
  simp only
  simp only[cE]at aV
  split at aV
  ·simp at aV
  ·rename_i hw
   rw[k7 hs.fr hw]
   simp only[Bool.false_eq_true,if_false]
   exact⟨fun _ _=>trivial,next E { s with fr:=bC s.fr o.dst .undef } _ w hx eX ⟨gk hs.fr (by simp[aj]),hs.inv,by rw[put_defers]; exact hs.df,hs.bs⟩ aV⟩
  ·rename_i hw
   rw[k7 hs.fr hw]
   simp only[if_true]
   cases hq:CG o s with
   |none=>rw[hq]at aV; simp at aV
   |some q=>
    rw[hq]at aV
    refine dH o s q hq r B E a w _ Q hs (fun s' e E' a' w' gf Gc eY=>?_) (fun v s' e E' w' u gf Gc ie hr=>?_)
    ·subst e
     exact next E' s' a' w' (hx.trans gf) (eX.trans Gc) eY aV
    ·subst e
     simp only[Option.some.injEq]at aV
     exact hP v s' aV.symm E' a w' u (hx.trans gf) (eX.trans Gc) ie hr (hs.df.mono Gc)
end
def xM[ab](C:Ctx)(k:Nat):Prop:=
 ∀ id ops draw s o,bS C k (.region id ops draw) s=some o→∀ (rd:Option Nat) (B:oJ) (E:Env) (a:Act) (w:World),cG B E s a w →
   (draw=false→wpOpsIn (WF rd) 0 C.P ops (bo B E w o) (List.range ops.size) a w) ∧
   (draw=true→∀ t,wpOpsIn (WF rd) 0 C.P ops (bo B E w o) (Region.schedule (C.P.follows .mixedOrders) ops t) a { w with drawn:=w.drawn+1 })
theorem vO[ab]{C:Ctx}{k:Nat}(hO:lJ C.P (fun o s=>fE C k o s))(hE:rK C.P (fun nm o fr=>ir C k nm o fr)):xM C (k+1):=by
 intro id ops draw s o h rd B E a w hs
 simp only[bS]at h
 cases draw with
 |false=>
  refine⟨fun _=>?_,fun h=>by cases h⟩
  rw[List.range_eq_range',←Array.length_toList,wpOpsIn_eq_wpListIn ops.toList 0 (by simp)]
  exact qo hO (fun o s r h=>nB h) rd B ops.toList _ o h E E a w w (Ext.refl E) (Fr.refl E w) (uy _ hs)
 |true=>
  simp only at h
  have R6:C.head s.fn id ops≤ops.size:=Nat.sub_le _ _
  generalize C.head s.fn id ops=m at h R6
  have ny:=uy (C.iq s.fn id) hs
  rw[←rP (C.iq s.fn id) s]at h
  clear hs
  generalize gF (C.iq s.fn id) s=s at h ny
  have hs:=ny
  split at h
  case isFalse=>simp at h
  rename_i Nl
  simp only[sN,Bool.and_eq_true]at Nl
  obtain⟨⟨⟨⟨mu,HE⟩,XQ⟩,hgc⟩,PR⟩:=Nl
  split at h
  case h_2=>simp at h
  rename_i s' fs aV
  split at h
  case isFalse=>simp at h
  rename_i Ud
  rw[Bool.and_eq_true]at Ud
  obtain⟨R7,vI⟩:=Ud
  suffices key:∀ md:Region.Mode,pd md ops=true→∀ t,wpOpsIn (WF rd) 0 C.P ops (bo B E w o) (Region.linearise md ops t) a { w with drawn:=w.drawn+1 } by
   refine⟨fun h=>by (cases h),fun _ t=>?_⟩
   unfold Region.schedule
   split
   ·exact key .any HE t
   ·grind
  intro md vF t
  refine wpAnyIn_sound _ _ _ _ _ ?_
  let s0:St:={ s with hp:=s.hp++List.replicate ((ops.toList.take m).filter fun o=>au o.op).length none }
  obtain⟨r1,r2,r3⟩:=EV hs.inv ((ops.toList.take m).filter fun o=>au o.op).length
  have Mk:Inv (E.gm ((ops.toList.take m).filter fun o=>au o.op).length) s0.hp { w with drawn:=w.drawn+1 }:=r2.heap rfl
  have rN:Fr E w (E.gm ((ops.toList.take m).filter fun o=>au o.op).length) { w with drawn:=w.drawn+1 }:=r3.trans (Fr.drew _ w)
  have R8:=pH _ _ _ _ aV
  have uA:∀ (k:Nat) (x:Item),(bD 0 s.hp.length (ops.toList.take m))[k]?=some x→x.idx=k∧ops[k]?=some x.o∧k<m:=by
   intro k x hk
   obtain⟨a1,a2,_,_⟩:=kO _ _ _ _ _ hk
   have XR:k<m:=by
    grind
   rw[List.getElem?_take_of_lt XR]at a2
   exact⟨by omega,by simpa using a2,XR⟩
  have R9:ops.size=m+(ops.size-m):=by omega
  refine Eq.mpr (congrArg (fun fl=>wpAnyIn (WF rd) 0 C.P md ops (bo B E w o) fl _ _ _) R9) ?_
  refine J4 (P:=C.P) HJ hE mu vF R6 vI (s':=s') (E0:=E) (w0:=w) (B:=B) (fun E' a' w' aL b1 b2 b3 b4 b5 b6=>
   Nj hO (fun o s r h=>nB h) mu vF vI (fun tT e E2 a2 w2 c1 c2 c3=>by subst e; exact⟨E2,c1,c2,c3⟩)
    (fun v tT e E2 a2 w2 u c1 c2 c3 c4 c5=>by subst e; exact⟨E2,c1,c2,u,rfl,c4,c3,c5⟩) (ops.size-m) m aL E' s' a' w' (by omega) (Nat.le_refl _) b4 b5 b6 b1 b2 b3 h) m (bD 0 s.hp.length (ops.toList.take m))
   _ fs _ s0 a _ (by rw[lH]; simp; omega) ?_
   r1 rN ⟨hs.fr.mono r1,Mk,hs.df.mono rN,hs.bs⟩ ?_ aV ?_
  ·refine⟨by simp,fun x hx=>?_,?_,fun i hi _ XL=>?_,fun i _ hi=>?_,fun i o ho hl=>?_,?_⟩
   ·obtain⟨k,hk⟩:=List.mem_iff_getElem?.1 hx
    obtain⟨a1,a2,a3⟩:=uA k x hk
    have cd:k<ops.size:=(Array.getElem?_eq_some_iff.1 a2).1
    rw[a1]
    refine⟨a2,?_,a3⟩
    simp[Array.getD,cd]
   ·rw[List.pairwise_iff_getElem]
    intro i j hi hj Mj
    have a1:=(uA i _ (List.getElem?_eq_getElem hi)).1
    have a2:=(uA j _ (List.getElem?_eq_getElem hj)).1
    omega
   ·have ua:i<(bD 0 s.hp.length (ops.toList.take m)).length:=by rw[lH]; simp; omega
    exact⟨_,List.getElem_mem ua,(uA i _ (List.getElem?_eq_getElem ua)).1⟩
   ·simp[Array.getD,hi]
   ·have cd:i<ops.size:=(Array.getElem?_eq_some_iff.1 ho).1
    simp[Array.getD,cd]at hl
   ·rw[List.pairwise_iff_getElem]
    intro i j hi hj Mj ha
    exact xG _ _ _ i j _ _ Mj (List.getElem?_eq_getElem hi) (List.getElem?_eq_getElem hj) ha
  ·intro x hx ha
   obtain⟨k,hk⟩:=List.mem_iff_getElem?.1 hx
   obtain⟨_,_,a3,a4⟩:=kO _ _ _ _ _ hk
   have a5:=a4 ha
   simp only[s0]
   rw[List.getElem?_append_right a3,List.getElem?_replicate,if_pos (by omega)]
  ·intro j k x y f g Na hx hy hf hg
   obtain⟨a1,a2,_⟩:=uA j x hx
   obtain⟨b1,b2,_⟩:=uA k y hy
   have XS:=tj fs R7 j k f g Na hf hg
   have IP:f.idx=j:=by
    have:(fs.map (·.idx))[j]?=some f.idx:=by simp[hf]
    rw[R8]at this
    simp[hx,a1]at this
    exact this.symm
   have Zm:g.idx=k:=by
    have:(fs.map (·.idx))[k]?=some g.idx:=by simp[hg]
    rw[R8]at this
    simp[hy,b1]at this
    exact this.symm
   rcases ti ops.toList 0 PR j k x.o y.o Na (by simpa using a2) (by simpa using b2) with hp|hp
   ·left; rw[a1,b1]; simpa using hp
   ·simp only[rD,Bool.or_eq_true,Bool.and_eq_true]at XS
    rcases XS with hq|⟨h1,h2⟩
    ·left; rw[IP,Zm]at hq; rw[a1,b1]; exact hq
    ·right
     refine⟨hp,fun n hn=>?_,fun n hn=>zZ h2 n hn⟩
     have:=zZ h1 n hn
     simpa using this
theorem CH[ab]{C:Ctx}(bN:C.Ok){k:Nat}(hF:lI C k)(E8:∀ j,j≤k→fq C j)(hO:lJ C.P (fun o s=>fE C k o s))(hE:rK C.P (fun nm o fr=>ir C k nm o fr)):fq C (k+1):=by
 have hC:=E8 k (Nat.le_refl k)
 intro c s o h rd B Mq E a w hs
 have self:bo B E w (.norm s) .normal a w:=⟨E,Ext.refl E,Fr.refl E w,hs⟩
 cases c with
 |skip=>simp only[bS,Option.some.injEq]at h; subst h; exact wpIn_skip self
 |label l=>simp only[bS,Option.some.injEq]at h; subst h; exact wpIn_label self
 |ret=>simp only[bS,Option.some.injEq]at h; subst h; exact wpIn_ret ⟨E,Ext.refl E,Fr.refl E w,hs⟩
 |exit id=>simp only[bS,Option.some.injEq]at h; subst h; exact wpIn_exit ⟨E,Ext.refl E,Fr.refl E w,rfl,hs⟩
 |seq x y=>
  simp only[bS]at h
  have r1:(rd=B.lb∧B.rg=true)∨cx x=true:=Mq.imp id fun h=>by simp only[cx,Bool.and_eq_true]at h; exact h.1
  have r2:(rd=B.lb∧B.rg=true)∨cx y=true:=Mq.imp id fun h=>by simp only[cx,Bool.and_eq_true]at h; exact h.2
  refine wpIn_seq ?_
  split at h
  ·rename_i s' hx
   refine wpIn_mono (hC x s _ hx rd B r1 E a w hs) fun e a' w' hp=>?_
   obtain⟨E',h1,h2,h3⟩:=hp
   cases e with
   |normal=>exact wpIn_mono (hC y s' o h rd B r2 E' a' w' h3) fun e Ue w8 hp=>bo.from h1 h2 hp
   |_=>exact h3.elim
  ·rename_i dM
   refine wpIn_mono (hC x s o h rd B r1 E a w hs) fun e a' w' hp=>?_
   obtain⟨E',h1,h2,h3⟩:=hp
   cases e with
   |normal=>
    cases o with
    |norm s'=>exact absurd h (dM s')
    |_=>exact h3.elim
   |_=>exact⟨E',h1,h2,h3⟩
 |cond op x y=>
  simp only[bS]at h
  have r1:(rd=B.lb∧B.rg=true)∨cx x=true:=Mq.imp id fun h=>by simp only[cx,Bool.and_eq_true]at h; exact h.1
  have r2:(rd=B.lb∧B.rg=true)∨cx y=true:=Mq.imp id fun h=>by simp only[cx,Bool.and_eq_true]at h; exact h.2
  split at h
  case h_2=>simp at h
  rename_i t ht
  have hv:=gR hs.inv.jo hs.fr op
  rw[ht]at hv
  simp only[aj]at hv
  cases t with
  |true=>exact wpIn_cond_true hv (hC x s o h rd B r1 E a w hs)
  |false=>exact wpIn_cond_false hv (hC y s o h rd B r2 E a w hs)
 |block id b=>
  simp only[bS]at h
  have r1:(rd=B.lb∧B.rg=true)∨cx b=true:=Mq.imp (fun h=>h) fun h=>by simpa only[cx] using h
  refine wpIn_block ?_
  split at h
  ·rename_i I5 s' hx
   refine wpIn_mono (hC b s _ hx rd B r1 E a w hs) fun e a' w' hp=>?_
   obtain⟨E',h1,h2,h3⟩:=hp
   cases e with
   |exit j=>
    obtain⟨rfl,h3⟩:=h3
    simp only[Exit.inBlock]
    split at h
    ·rename_i Vp
     rw[if_pos Vp]
     simp only[Option.some.injEq]at h; subst h
     exact⟨E',h1,h2,h3⟩
    ·rename_i Vp
     rw[if_neg Vp]
     simp only[Option.some.injEq]at h; subst h
     exact⟨E',h1,h2,rfl,h3⟩
   |_=>exact h3.elim
  ·rename_i dM
   refine wpIn_mono (hC b s o h rd B r1 E a w hs) fun e a' w' hp=>?_
   obtain⟨E',h1,h2,h3⟩:=hp
   cases e with
   |exit j=>
    cases o with
    |exit i s'=>exact absurd h (dM i s')
    |_=>exact h3.elim
   |_=>exact⟨E',h1,h2,h3⟩
 |loop b=>
  simp only[bS]at h
  have r1:(rd=B.lb∧B.rg=true)∨cx b=true:=Mq.imp (fun h=>h) fun h=>by simpa only[cx] using h
  refine y7 Nf PN ?_
  split at h
  ·rename_i s' hx
   refine wpIn_mono (hC b s _ hx rd B r1 E a w hs) fun e a' w' hp=>?_
   obtain⟨E',h1,h2,h3⟩:=hp
   cases e with
   |normal=>
    have OE:cG B E' s' a' w':=h3
    have:∃ E2,Ext E E2∧Fr E w E2 w'∧cG B E2 (gG s.hp.length s') a' w':=by
     unfold gG
     split
     ·rename_i bf
      have hle:s.hp.length≤s'.hp.length:=by rw[hs.inv.len,OE.inv.len]; exact h1.L
      obtain⟨a1,a2,a3⟩:=tm OE.inv hle bf
      exact⟨E'.lower s.hp.length,⟨h1.m,fun n hn aq l h=>h1.ρ n hn aq l h,by simp[Env.lower,hs.inv.len]⟩,h2.trans a2,rM a3 OE.fr,a1,OE.df.mono a2,OE.bs⟩
     ·exact⟨E',h1,h2,OE⟩
    obtain⟨E2,b1,b2,b3⟩:=this
    exact wpIn_mono (hC (.loop b) _ o h rd B Mq E2 a' w' b3) fun e Ue w8 hp=>bo.from b1 b2 hp
   |_=>exact h3.elim
  ·rename_i dM
   refine wpIn_mono (hC b s o h rd B r1 E a w hs) fun e a' w' hp=>?_
   obtain⟨E',h1,h2,h3⟩:=hp
   cases e with
   |normal=>
    cases o with
    |norm s'=>exact absurd h (dM s')
    |_=>exact h3.elim
   |_=>exact⟨E',h1,h2,h3⟩
 |region id ops draw=>
  have hr:=vO hO hE id ops draw s o h rd B E a w hs
  cases draw with
  |false=>exact wpIn_region (hr.1 rfl)
  |true=>exact wpIn_region_draw fun t=>hr.2 rfl t
 |rangeFunc f ps as bd=>
  rcases Mq with ⟨rfl,Sa⟩|Mq
  ·cases OL:B.lb with
   |none=>exact Ke bN hF Sa OL hs h
   |some b=>exact Kf bN hF OL hs h
  ·simp[cx]at Mq
 |scope b=>
  simp only[bS]at h
  split at h
  ·rename_i c hc
   exact Ki E8 hs hc h
  ·simp at h
 |goto _=>simp[bS]at h
 |refuse _=>simp[bS]at h
theorem E9{F:Fence}{n:Nat}{P:Program}{o:Oper}{a:Act}{w:World}{K N:Act→World→Prop}{Q:Exit→Act→World→Prop}(h:o.wpIn F n P a w K (Exit.then N Q)):o.wpIn F n P a w K Q:=by
 unfold Oper.wpIn at *
 refine⟨h.1,?_⟩
 have h2:=h.2
 generalize (o.semAt F.round a.eval).run P w=r at *
 cases r with
 |ok x w'=>cases x<;>exact h2
 |halt x w'=>cases x<;>exact h2
theorem rR{F:Fence}{n:Nat}{P:Program}{ops:Array Oper}{Q:Exit→Act→World→Prop}{l2:List Oper}:∀ (l1:List Oper) (a:Act) (w:World),wpListIn F n P ops (Exit.then (wpListIn F n P ops Q l2) Q) l1 a w→wpListIn F n P ops Q (l1++l2) a w
 |[],a,w,h=>h
 |o::l1,a,w,h=>by
  simp only[List.cons_append]
  unfold wpListIn at h ⊢
  split at h
  ·rename_i hw
   rw[if_pos hw]
   exact E9 (Oper.wpIn_mono (fun a w h=>rR l1 a w h) h)
  ·rename_i hw
   rw[if_neg hw]
   exact⟨h.1,rR l1 _ _ h.2⟩
theorem pJ{F:Fence}{n:Nat}{P:Program}{ops:Array Oper}{Q Q':Exit→Act→World→Prop}(hq:∀ e a w,Q e a w→Q' e a w):∀ (l:List Oper) (a:Act) (w:World),wpListIn F n P ops Q l a w→wpListIn F n P ops Q' l a w
 |[],a,w,h=>hq _ _ _ h
 |o::l,a,w,h=>by
  unfold wpListIn at h ⊢
  split at h
  ·rename_i hw
   rw[if_pos hw]
   have h1:=Oper.wpIn_mono (fun a w h=>pJ hq l a w h) h
   unfold Oper.wpIn at *
   refine⟨h1.1,?_⟩
   have h2:=h1.2
   generalize (o.semAt F.round a.eval).run P w=r at *
   cases r with
   |ok x w'=>
    cases x<;>simp only[Oper.uponIn]at h2 ⊢<;>first
     |exact h2
     |exact⟨h2.1,CallsIn.mono h2.2 (fun e w8 he=>by cases e<;>first|exact he|exact hq _ _ _ he|exact(let ⟨a0,w0,h0⟩:=he; ⟨a0,w0,hq _ _ _ h0⟩))⟩
     |exact⟨h2.1,RoundIn.mono h2.2 (fun e w8 he=>by cases e<;>first|exact he|exact hq _ _ _ he|exact(let ⟨a0,w0,h0⟩:=he; ⟨a0,w0,hq _ _ _ h0⟩))⟩
   |halt x w'=>cases x<;>simp only[Oper.uponIn]at h2 ⊢<;>first|exact h2|exact hq _ _ _ h2
  ·rename_i hw
   rw[if_neg hw]
   exact⟨h.1,pJ hq l _ _ h.2⟩
theorem Fa{c:Code}{ops:Array Oper}{v:Operand}(h:sO c=some (ops,v)):∃ (id:Nat) (o:Oper) (mj:Array TypeId),c=.region id ops false∧ops.toList=ops.toList.dropLast++[o]∧o.op=.defer { callee:=.value v,args:=#[],argTypes:=mj }∧o.guard=none∧o.dst=none:=by
 unfold sO at h
 split at h
 ·rename_i id Vq
  split at h
  ·rename_i o ho
   split at h
   ·rename_i cc D4 hg PS
    split at h
    ·rename_i x Mo j0
     simp only[Option.some.injEq,Prod.mk.injEq]at h
     obtain⟨rfl,rfl⟩:=h
     obtain⟨c1,c2,c3⟩:=cc
     simp only at Mo j0
     subst Mo
     obtain rfl:=Array.toList_eq_nil_iff.1 j0
     refine⟨id,o,c3,rfl,?_,D4,hg,PS⟩
     have dM:Vq.toList≠[]:=by intro e; rw[e]at ho; simp at ho
     rw[List.getLast?_eq_some_getLast dM,Option.some.injEq]at ho
     rw[←ho]
     exact(List.dropLast_concat_getLast dM).symm
    ·simp at h
   ·simp at h
  ·simp at h
 ·simp at h
def Sb[ab](C:Ctx)(E:Env)(v:AV)(d:Deferred):Prop:=∃ f:Value,aj E true v f∧∀ w,(Deferred.ofValue f #[]).run C.P w=.ok d w
def tp[ab](C:Ctx)(B:oJ)(E:Env)(w:World)(o:Out):Option AV→Exit→Act→World→Prop
 |none,e,a',w'=>bo B E w o e a' w'
 |some v,e,a',w'=>∃ E1 E2 w1 d,Ext E E1∧Fr E w E1 w1∧Sb C E1 v d∧Ext E1 E2∧Fr E1 w1 E2 w'∧J8 { B with tl:=d::B.tl } E2 o e a' w'
theorem pK{E:Env}{fv:AV}{f:Value}{g:FuncId}{as:List AV}(hf:aj E true fv f)(h:bz fv []=some (g,as)):∃ first cap,f=.func (.func g) first cap:=by
 cases fv with
 |lit u=>
  simp only[aj]at hf
  subst hf
  unfold bz at h
  split at h
  ·rename_i hq
   simp only[AV.lit.injEq]at hq
   simp only[Option.some.injEq,Prod.mk.injEq]at h
   obtain⟨rfl,_⟩:=h
   exact⟨_,_,hq⟩
  ·rename_i hq; cases hq
  ·simp at h
 |iQ fn first cap=>
  unfold bz at h
  split at h
  ·rename_i hq; cases hq
  ·rename_i hq
   simp only[AV.iQ.injEq]at hq
   obtain⟨rfl,rfl,rfl⟩:=hq
   simp only[Option.some.injEq,Prod.mk.injEq]at h
   obtain⟨rfl,_⟩:=h
   simp only[aj]at hf
   obtain⟨vs,ws,rfl,_⟩:=hf
   exact⟨_,_,rfl⟩
  ·simp at h
 |_=>simp[bz]at h
theorem tp.from[ab]{C:Ctx}{B:oJ}{E E1:Env}{w w1:World}{o:Out}{d:Option AV}{e:Exit}{a:Act}{w':World}(hx:Ext E E1)(hf:Fr E w E1 w1)(h:tp C B E1 w1 o d e a w'):tp C B E w o d e a w':=by
 cases d with
 |none=>exact bo.from hx hf h
 |some v=>
  obtain⟨E2,E3,w2,d,h1,h2,h3⟩:=h
  exact⟨E2,E3,w2,d,hx.trans h1,hf.trans h2,h3⟩
theorem Fb[ab]{C:Ctx}{k:Nat}(hC:fq C k)(hO:lJ C.P (fun o s=>fE C k o s)):∀ (c:Code) (s:St) (o:Out) (d:Option AV),cx c=true→zp (fun c s=>bS C k c s) (fun o s=>fE C k o s) c s=some (o,d) →
  ∀ (B:oJ) (E:Env) (a:Act) (w:World),B.rg=false→cG B E s a w→c.wpIn (WF none) 0 C.P (tp C B E w o d) a w:=by
 have leaf:∀ c s o d,cx c=true→((bS C k c s).map fun o=>(o,(none:Option AV)))=some (o,d)→∀ (B:oJ) (E:Env) (a:Act) (w:World),B.rg=false→cG B E s a w→c.wpIn (WF none) 0 C.P (tp C B E w o d) a w:=by
  intro c s o d hn h B E a w R0 hs
  cases hq:bS C k c s with
  |none=>rw[hq]at h; simp at h
  |some o1=>
   rw[hq]at h
   simp only[Option.map_some,Option.some.injEq,Prod.mk.injEq]at h
   obtain⟨rfl,rfl⟩:=h
   exact hC c s o1 hq none B (.inr hn) E a w hs
 intro c
 induction c with
 |seq x y _ Js=>
  intro s o d hn h B E a w R0 hs
  simp only[cx,Bool.and_eq_true]at hn
  simp only[zp]at h
  refine wpIn_seq ?_
  cases hd:sO x with
  |some q=>
   obtain⟨ops,v⟩:=q
   rw[hd]at h
   simp only at h
   obtain⟨id,o0,mj,rfl,Vr,D4,hg,PS⟩:=Fa hd
   split at h
   case h_2=>simp at h
   rename_i s1 hr
   split at h
   case h_2=>simp at h
   rename_i q cy
   obtain⟨g,as⟩:=q
   cases hq:bS C k y s1 with
   |none=>rw[hq]at h; simp at h
   |some o1=>
    rw[hq]at h
    simp only[Option.map_some,Option.some.injEq,Prod.mk.injEq]at h
    obtain⟨rfl,rfl⟩:=h
    refine wpIn_region_list ?_
    rw[Vr]
    refine rR _ _ _ (pJ ?_ _ _ _ (qo hO (fun o s r h=>nB h) none B _ _ _ hr E E a w w (Ext.refl E) (Fr.refl E w) hs))
    intro e a1 w1 hp
    obtain⟨E1,Mo,rN,HI⟩:=hp
    cases e with
    |normal=>
     have ny:cG B E1 s1 a1 w1:=HI
     have hv:=gR ny.inv.jo ny.fr v
     obtain⟨first,cap,CA⟩:=pK hv cy
     have aV:∀ w,(Deferred.ofValue (a1.eval v) #[]).run C.P w=.ok { target:=.fn (.func g) cap,args:=first++#[] } w:=by
      intro w; rw[CA]; rfl
     show wpListIn (WF none) 0 C.P ops _ [o0] a1 w1
     unfold wpListIn
     rw[if_pos (by unfold Region.wanted; rw[hg])]
     refine⟨fun _ _=>trivial,?_⟩
     have PM:(o0.semAt (WF none).round a1.eval).run C.P w1=.ok (.defer { target:=.fn (.func g) cap,args:=first++#[] }) w1:=by
      show (execOp a1.eval o0).run C.P w1=_
      unfold execOp
      rw[D4]
      simp only[resolve,Sem.run_bind]
      rw[show (Array.map a1.eval #[]:Array Value)=#[] by simp,aV]
      rfl
     rw[PM,Oper.uponIn_defer,PS]
     have yT:cG { B with tl:={ target:=.fn (.func g) cap,args:=first++#[] }::B.tl } E1 s1 { a1 with defers:={ target:=.fn (.func g) cap,args:=first++#[] }::a1.defers } w1:=by
      refine⟨ny.fr,ny.inv,?_,ny.bs⟩
      obtain⟨rs,e1,e2,e3,e4⟩:=ny.df
      have:=e3.1 R0
      subst this
      exact⟨[],by simp only[List.map_nil,List.nil_append]at e1 ⊢; rw[e1],List.nodup_nil,⟨fun _=>rfl,e3.2⟩,by simp⟩
     refine wpIn_mono (hC y s1 o1 hq none _ (.inr hn.2) E1 _ w1 yT) fun e a2 w2 hp=>?_
     obtain⟨E2,j0,hG,uv⟩:=hp
     exact⟨E1,E2,w1,_,Mo,rN,⟨_,hv,aV⟩,j0,hG,uv⟩
    |_=>exact HI.elim
  |none=>
   rw[hd]at h
   simp only at h
   split at h
   ·rename_i s' hx
    refine wpIn_mono (hC x s _ hx none B (.inr hn.1) E a w hs) fun e a' w' hp=>?_
    obtain⟨E',h1,h2,h3⟩:=hp
    cases e with
    |normal=>exact wpIn_mono (Js s' o d hn.2 h B E' a' w' R0 h3) fun e Ue w8 hp=>tp.from h1 h2 hp
    |_=>exact h3.elim
   ·rename_i o1 dM hx
    simp only[Option.some.injEq,Prod.mk.injEq]at h
    obtain⟨rfl,rfl⟩:=h
    refine wpIn_mono (hC x s o1 hx none B (.inr hn.1) E a w hs) fun e a' w' hp=>?_
    obtain⟨E',h1,h2,h3⟩:=hp
    cases e with
    |normal=>
     cases o1 with
     |norm s'=>exact(dM s' rfl).elim
     |_=>exact h3.elim
    |_=>exact⟨E',h1,h2,h3⟩
   ·simp at h
 |_=>intro s o d hn h; simp only[zp]at h; exact leaf _ s o d hn h
theorem lK{F:Fence}{n:Nat}{P:Program}{ops:Array Oper}{Q Q':Exit→Act→World→Prop}(hq:∀ e a w,Q e a w→Q' e a w):∀ (l:List Nat) (a:Act) (w:World),wpOpsIn F n P ops Q l a w→wpOpsIn F n P ops Q' l a w
 |[],a,w,h=>hq _ _ _ h
 |i::l,a,w,h=>by
  unfold wpOpsIn at h ⊢
  split at h
  ·exact lK hq l a w h
  rename_i o ho
  split at h
  ·rename_i hw
   simp only[if_pos hw]
   have h1:=Oper.wpIn_mono (fun a w h=>lK hq l a w h) h
   unfold Oper.wpIn at *
   refine⟨h1.1,?_⟩
   have h2:=h1.2
   generalize (o.semAt F.round a.eval).run P w=r at *
   cases r with
   |ok x w'=>
    cases x<;>simp only[Oper.uponIn]at h2 ⊢<;>first
     |exact h2
     |exact⟨h2.1,CallsIn.mono h2.2 (fun e w8 he=>by cases e<;>first|exact he|exact hq _ _ _ he|exact(let ⟨a0,w0,h0⟩:=he; ⟨a0,w0,hq _ _ _ h0⟩))⟩
     |exact⟨h2.1,RoundIn.mono h2.2 (fun e w8 he=>by cases e<;>first|exact he|exact hq _ _ _ he|exact(let ⟨a0,w0,h0⟩:=he; ⟨a0,w0,hq _ _ _ h0⟩))⟩
   |halt x w'=>cases x<;>simp only[Oper.uponIn]at h2 ⊢<;>first|exact h2|exact hq _ _ _ h2
  ·rename_i hw
   simp only[if_neg hw]
   exact⟨h.1,lK hq l _ _ h.2⟩
theorem CI(ops:Array Oper)(i:Nat)(f:Array Edge→Bool):(((ops.map dF)[i]?).map fun o=>f o.after)=(ops[i]?).map fun o=>f o.after:=by
 rw[Array.getElem?_map]
 cases ops[i]? with
 |none=>rfl
 |some o=>simp only[Option.map_some,(lq o).2.2]
theorem oK(md:Region.Mode)(ops:Array Oper)(t:Nat):Region.linearise md (ops.map dF) t=Region.linearise md ops t:=by
 unfold Region.linearise
 rw[Array.size_map]
 generalize Array.replicate ops.size false=aL
 generalize ([]:List Nat)=acc
 generalize ops.size=fuel
 induction fuel generalizing t aL acc with
 |zero=>rfl
 |succ fuel ih=>
  have hr:((List.range (ops.map dF).size).filter fun i=>!aL.getD i true&&(((ops.map dF)[i]?).map (·.after.all fun e=>!Region.binds md e||aL.getD e.on false)).getD false) =
    ((List.range ops.size).filter fun i=>!aL.getD i true&&((ops[i]?).map (·.after.all fun e=>!Region.binds md e||aL.getD e.on false)).getD false):=by
   rw[Array.size_map]
   congr 1
   funext i
   rw[CI ops i (fun a=>a.all fun e=>!Region.binds md e||aL.getD e.on false)]
  simp only[Region.linearise.go]
  rw[hr]
  split
  ·exact ih _ _ _
  ·rfl
theorem xN(m:Bool)(ops:Array Oper)(t:Nat):Region.schedule m (ops.map dF) t=Region.schedule m ops t:=by
 unfold Region.schedule
 have hd:Region.departs (ops.map dF)=Region.departs ops:=by
  unfold Region.departs
  rw[Array.any_map]
  congr 1
  funext o
  simp only[Function.comp,(lq o).2.2]
 rw[hd,oK,oK]
theorem HK[ab]{C:Ctx}{k:Nat}(hC:∀ j,j≤k→fq C j)(hR:∀ j,j≤k→xM C j){c:Code}(hn:cx c=true){s:St}{o:Out}(h:bS C k (nR c) s=some o){B:oJ}{E:Env}{a:Act}{w:World}(hs:cG B E s a w):
  Hg (WF none) 0 C.P c (bo B E w o) a w:=by
 by_cases hc:∃ id ops d y,c=.seq (.region id ops d) y
 ·obtain⟨id,ops,d,y,rfl⟩:=hc
  have Ml:cx y=true:=by simp only[cx,Bool.and_eq_true]at hn; exact hn.2
  cases k with
  |zero=>simp[bS]at h
  |succ k=>
   have HF:(ops.toList.map dF).toArray=ops.map dF:=by rw[←Array.toList_map]
   simp only[nR,bS,HF]at h
   refine MB ?_
   have go:∀ o1,bS C k (.region id (ops.map dF) d) s=some o1→(∀ e a' w',bo B E w o1 e a' w'→(match e with|.normal=>Hg (WF none) 0 C.P y (bo B E w o) a' w'|e=>bo B E w o e a' w')) →
     Hg (WF none) 0 C.P (.region id ops d) (fun e a w2=>match e with|.normal=>Hg (WF none) 0 C.P y (bo B E w o) a w2|e=>bo B E w o e a w2) a w:=by
    intro o1 h1 hq
    have hr:=hR k (Nat.le_succ k) _ _ _ _ _ h1 none B E a w hs
    cases d with
    |false=>
     refine Em ?_
     have:=lK hq _ _ _ (hr.1 rfl)
     rw[Array.size_map]at this
     exact this
    |true=>
     refine I8 fun t=>?_
     have:=lK hq _ _ _ (hr.2 rfl t)
     rw[xN]at this
     exact this
   split at h
   ·rename_i s' hx
    refine go _ hx fun e a' w' hp=>?_
    obtain⟨E',h1,h2,h3⟩:=hp
    cases e with
    |normal=>exact I7 (wpIn_mono (hC k (Nat.le_succ k) y s' o h none B (.inr Ml) E' a' w' h3) fun e Ue w8 hp=>bo.from h1 h2 hp)
    |_=>exact h3.elim
   ·rename_i dM
    refine go _ h fun e a' w' hp=>?_
    obtain⟨E',h1,h2,h3⟩:=hp
    cases e with
    |normal=>
     cases o with
     |norm s'=>exact absurd h (dM s')
     |_=>exact h3.elim
    |_=>exact⟨E',h1,h2,h3⟩
 ·have he:nR c=c:=by
   unfold nR
   split
   ·exact absurd ⟨_,_,_,_,rfl⟩ hc
   ·rfl
  rw[he]at h
  exact I7 (hC k (Nat.le_refl k) c s o h none B (.inr hn) E a w hs)
theorem Kj{F:Fence}{n:Nat}{P:Program}{c:Code}{Q Q':Exit→Act→World→Prop}{a:Act}{w:World}(h:Hg F n P c Q a w)(hq:∀ e a w,Q e a w→Q' e a w):Hg F n P c Q' a w:=
 fun b k cs h1 h2 h3 h4 h5 h6=>let ⟨e,a',w',q,r⟩:=h b k cs h1 h2 h3 h4 h5 h6; ⟨e,a',w',hq _ _ _ q,r⟩
theorem z4[ab]{E:Env}{w:World}{hp:ag}{args:List AV}{vs:List Value}(g:FuncId)(n:Nat)(m:Bool)(hI:Inv E hp w)(ha:an E true args vs):
  cG ⟨w.heap.size,[],m,none⟩ E ⟨g,args++List.replicate (n-args.length) .undef,hp⟩ { tmps:=vs.toArray++Array.replicate (n-vs.toArray.size) undef,defers:=[] } w:=by
 have hlen:=ha.length
 refine⟨?_,hI,Marks.nil,Nat.le_refl _⟩
 simp only[Array.toList_append,Array.toList_replicate,List.size_toArray,←hlen]
 refine ha.append ?_
 have:=an.lits (E:=E) (o:=true) (List.replicate (n-args.length) undef)
 simpa using this
theorem HM{n:Nat}{E:Env}{w:World}{ds:List Deferred}(h:Marks ⟨n,[],false,none⟩ E w ds):ds=[]:=by
 obtain⟨rs,h1,_,h3,_⟩:=h
 have:=h3.1 rfl
 subst this
 simpa using h1
theorem Fc[ab]{C:Ctx}(bN:C.Ok){k:Nat}(E8:∀ j,j≤k→fq C j)(Vs:∀ j,j≤k→xM C j)(hO:lJ C.P (fun o s=>fE C k o s)){f:FuncId}{args:List AV}{hp:ag}{res:nM}{cm:ag}{fn:Func}{c:Code}
  (qR:C.P.funcs[f]?=some fn) (hc:fn.body=some c) {E:Env} {w:World} {vs:List Value} (hI:Inv E hp w) (ha:an E true args vs)
  (h:tY (fun c s=>bS C k c s) (fun o s=>fE C k o s) C.P fn.results.toList c ⟨f,args++List.replicate (fn.ntmps-args.length) .undef,hp⟩=some (res,cm)):Calls C.P f vs.toArray w (bQ E w cm res):=by
 have hs:=z4 f fn.ntmps false hI ha
 have fin:∀ (s':St) (wu:ag) E1 (a1:Act) w1,Ext E E1→Fr E w E1 w1→an E1 true s'.fr a1.tmps.toList→Inv E1 wu w1→El C.P fn.results.toList s'.fr wu=some (res,cm)→LeavesIn Fence.wide 0 C.P fn a1.tmps (bQ E w cm res) [] .returning w1:=by
  intro s' wu E1 a1 w1 hx hf eX Mk hr
  unfold El at hr
  split at hr
  case h_2=>simp at hr
  rename_i l hl
  simp only[Option.some.injEq,Prod.mk.injEq]at hr
  obtain⟨rfl,rfl⟩:=hr
  obtain⟨v,h1,h2⟩:=rL Mk eX hl
  exact⟨v,h1,E1,hx,Mk,hf,h2⟩
 have leave:∀ (s':St) (d:Option AV) (e:Exit) a' w',tp C ⟨w.heap.size,[],false,none⟩ E w (.norm s') d .normal a' w'→tX (fun c s=>bS C k c s) C.P fn.results.toList s'.fr s'.hp d=some (res,cm) →
   LeavesInM Fence.wide 0 C.P fn a'.tmps (bQ E w cm res) a'.defers .returning w':=by
  intro s' d e a' w' wu hd
  cases d with
  |none=>
   obtain⟨E',hx,hf,ho⟩:=wu
   have ho:cG ⟨w.heap.size,[],false,none⟩ E' s' a' w':=ho
   exact jc rfl ho.inv ho.df hf (by simp) fun w2 qk hG=>fin s' s'.hp E' a' w2 hx hG ho.fr qk hd
  |some v=>
   obtain⟨E1,E2,w1,dd,Mo,rN,⟨fv,xq,aV⟩,j0,hG,ho⟩:=wu
   have ho:cG ⟨w.heap.size,[dd],false,none⟩ E2 s' a' w':=ho
   refine jc (B:=⟨w.heap.size,[dd],false,none⟩) rfl ho.inv ho.df (rN.trans hG) (by simp) fun w2 qk Zn=>?_
   simp only[tX]at hd
   split at hd
   ·simp at hd
   rename_i g as cy
   split at hd
   ·simp at hd
   rename_i fg MR
   split at hd
   ·simp at hd
   rename_i cg MS
   obtain⟨first,cap,CA⟩:=pK xq cy
   have XT:dd={ target:=.fn (.func g) cap,args:=first++#[] }:=by
    have h1:=aV w2
    rw[CA]at h1
    have h2:(Deferred.ofValue (.func (.func g) first cap) #[]).run C.P w2=.ok { target:=.fn (.func g) cap,args:=first++#[] } w2:=rfl
    rw[h2]at h1
    cases h1
    rfl
   obtain⟨vs',Vt,hinv⟩:=eU (P:=C.P) (w:=w2) (xq.mono j0) (args:=[]) (vs:=[]) trivial cy ⟨fg,MR,by rw[MS]; rfl,bN.name g fg MR (by rw[MS]; rfl)⟩
   rw[Sem.run_bind]at hinv
   have D9:=aV w2
   rw[show ([]:List Value).toArray=#[] from rfl,D9]at hinv
   have Sc:(invoke dd.target dd.args).run C.P w2=.ok (.enter g vs'.toArray) w2:=hinv
   have body:∀ (o:Out) (s2:St) (l2:List AV),(o=.norm s2∨o=.ret s2)→cx cg=true→bS C k (nR cg) ⟨g,as++List.replicate (fg.ntmps-as.length) .undef,s'.hp⟩=some o→(aU C.P s2.fr fg.results.toList).run s2.hp=some l2→El C.P fn.results.toList s'.fr s2.hp=some (res,cm) →
     LeavesInM Fence.wide 0 C.P fn a'.tmps (bQ E w cm res) [dd] .returning w2:=by
    intro o s2 l2 uv Kk bA ra BX
    have yT:=z4 g fg.ntmps false qk Vt
    refine⟨by simp,.inr ⟨fun h=>(by cases h),.func g,cap,g,vs'.toArray,by rw[XT],Sc,fun _ _=>trivial,?_⟩⟩
    refine CallsDIn.mono (yQ (F:=Fence.wide) (n:=0) MR MS trivial (R:=fun e w'=>match e with|.returned _=>LeavesIn Fence.wide 0 C.P fn a'.tmps (bQ E w cm res) [] .returning w'|_=>False) (Kj (HK E8 Vs Kk bA yT) ?_)) ?_
    ·intro e a3 w3 Zo
     obtain⟨E3,Mp,Mr,Uf⟩:=Zo
     have last:cG ⟨w2.heap.size,[],false,none⟩ E3 s2 a3 w3→a3.defers=[]∧∃ v,(results fg a3.tmps).run C.P w3=.ok v w3∧LeavesIn Fence.wide 0 C.P fn a'.tmps (bQ E w cm res) [] .returning w3:=by
      intro Ug
      obtain⟨v3,h1,h2⟩:=rL Ug.inv Ug.fr ra
      exact⟨HM Ug.df,v3,h1,fin s' s2.hp E3 a' w3 ((Mo.trans j0).trans Mp) (Zn.trans Mr) (ho.fr.mono Mp) Ug.inv BX⟩
     rcases uv with rfl|rfl
     ·cases e with
      |normal=>exact last Uf
      |_=>exact Uf.elim
     ·cases e with
      |ret=>exact last Uf
      |_=>exact Uf.elim
    ·intro e u' w3 hh
     obtain⟨rfl,hh⟩:=hh
     cases e with
     |returned v=>exact hh
     |_=>exact hh.elim
   split at hd
   ·rename_i s2 Kk bA
    split at hd
    ·rename_i l2 ra; exact body _ s2 l2 (.inl rfl) Kk bA ra hd
    ·simp at hd
   ·rename_i s2 Kk bA
    split at hd
    ·rename_i l2 ra; exact body _ s2 l2 (.inr rfl) Kk bA ra hd
    ·simp at hd
   ·simp at hd
 have Zp:∀ (s':St) (d:Option AV) (o:Out) (e:Exit) a' w',(o=.norm s'∧e=.normal)∨(o=.ret s'∧e=.ret)→tp C ⟨w.heap.size,[],false,none⟩ E w o d e a' w'→tp C ⟨w.heap.size,[],false,none⟩ E w (.norm s') d .normal a' w':=by
  rintro s' d o e a' w' (⟨rfl,rfl⟩|⟨rfl,rfl⟩) wu
  ·exact wu
  ·cases d with
   |none=>exact wu
   |some v=>exact wu
 unfold tY at h
 split at h
 ·rename_i s' d hn bA
  refine callsIn_wide.1 (callsIn_of_wp_marks (F:=Fence.wide) (n:=0) qR hc trivial (wpIn_mono (Fb (E8 k (Nat.le_refl k)) hO c _ _ d hn bA _ E _ w rfl hs) fun e a' w' cY=>?_))
  cases e with
  |normal=>exact leave s' d .normal a' w' cY h
  |_=>cases d<;>first|exact(let ⟨_,_,_,ho⟩:=cY; ho.elim)|exact(let ⟨_,_,_,_,_,_,_,_,_,ho⟩:=cY; ho.elim)
 ·rename_i s' d hn bA
  refine callsIn_wide.1 (callsIn_of_wp_marks (F:=Fence.wide) (n:=0) qR hc trivial (wpIn_mono (Fb (E8 k (Nat.le_refl k)) hO c _ _ d hn bA _ E _ w rfl hs) fun e a' w' cY=>?_))
  cases e with
  |ret=>exact leave s' d .normal a' w' (Zp s' d _ _ a' w' (.inr ⟨rfl,rfl⟩) cY) h
  |_=>cases d<;>first|exact(let ⟨_,_,_,ho⟩:=cY; ho.elim)|exact(let ⟨_,_,_,_,_,_,_,_,_,ho⟩:=cY; ho.elim)
 ·rename_i v s' hn bA
  simp only[Option.some.injEq,Prod.mk.injEq]at h
  obtain⟨rfl,rfl⟩:=h
  refine callsIn_wide.1 (callsIn_of_wp_marks (F:=Fence.wide) (n:=0) qR hc trivial (wpIn_mono (Fb (E8 k (Nat.le_refl k)) hO c _ _ none hn bA _ E _ w rfl hs) fun e a' w' cY=>?_))
  obtain⟨E',hx,hf,ho⟩:=cY
  cases e with
  |panic ch=>
   obtain⟨u,h1,h2,h3,h4⟩:=ho
   exact jc rfl h3 h4 hf (by simp) fun w2 qk hG=>⟨E',hx,qk,hG,u,h1,h2⟩
  |_=>exact ho.elim
 ·simp at h
theorem CJ[ab]{C:Ctx}(bN:C.Ok){k:Nat}(E8:∀ j,j≤k→fq C j)(Vs:∀ j,j≤k→xM C j)(hO:lJ C.P (fun o s=>fE C k o s)):lI C (k+1):=by
 intro f args hp res cm h E w vs hI ha
 simp only[lZ]at h
 split at h
 ·simp at h
 rename_i fn qR
 split at h
 ·simp at h
 rename_i c hc
 split at h
 ·exact Fc bN E8 Vs hO qR hc hI ha h
 ·exact Bc (E8 k (Nat.le_refl k)) qR hc hI ha h
theorem Kl[ab]{C:Ctx}(bN:C.Ok)(Uc:∀ g,C.kind g=.imp→Kd C.P):∀ k,lI C k∧fq C k∧lJ C.P (fun o s=>fE C k o s)∧uw C k∧rK C.P (fun nm o fr=>ir C k nm o fr):=by
 suffices key:∀ k,(lI C k∧fq C k∧lJ C.P (fun o s=>fE C k o s)∧uw C k∧rK C.P (fun nm o fr=>ir C k nm o fr))∧∀ j,j≤k→fq C j∧xM C j from fun k=>(key k).1
 intro k
 induction k with
 |zero=>
  refine⟨?_,fun j hj=>by obtain rfl:j=0:=by omega
                         exact⟨fun _ _ _ h=>by simp[bS]at h,fun _ _ _ _ _ h=>by simp[bS]at h⟩⟩
  refine⟨fun _ _ _ _ _ h=>by simp[lZ]at h,fun _ _ _ h=>by simp[bS]at h,fun _ _ _ h=>by simp[fE]at h,fun _ _ _ _ _ h=>by simp[kX,RM.ae]at h,?_⟩
  intro rd x B E s a w e K Q _ _ h
  simp[ir,RM.ae]at h
 |succ k ih=>
  obtain⟨⟨hF,hC,hO,hP,hE⟩,E8⟩:=ih
  have XU:=CH bN hF (fun j hj=>(E8 j hj).1) hO hE
  refine⟨⟨CJ bN (fun j hj=>(E8 j hj).1) (fun j hj=>(E8 j hj).2) hO,XU,CC bN hF hP hC,Cv bN hF,CD bN Uc hF hP⟩,fun j hj=>?_⟩
  rcases Nat.lt_or_ge j (k+1) with h|h
  ·exact E8 j (by omega)
  ·obtain rfl:j=k+1:=by omega
   exact⟨XU,vO hO hE⟩
def CL(P:Program):Ctx:={ P:=P,kind:=fun _=>.pure,kn:=fun _=>none,acc:=fun _ _=>false }
theorem Sd[ab]{C:Ctx}(bN:C.Ok):Kd C.P:=by
 have Zq:(CL C.P).Ok:=⟨bN.name,fun g h as r e=>(by cases e),fun g h as r gZ e=>(by cases e),fun g h e=>(by cases e),fun g h as hp e h1=>(by cases h1),fun g h e=>(by cases e)⟩
 intro g args hp e h E w vs hI mc
 obtain⟨e0,hb,ov,nw,hw,ho,k,hk⟩:=Nm (C:=CL C.P) rfl (fun _ _=>rfl) (fun _ _=>rfl) (fun _ _=>rfl) h
 exact⟨e0,((Kl Zq (fun g h=>by cases h) k).1 g args hp _ _ hk E w vs hI mc).mono fun en w' hp=>HN hI hw ho hb hp⟩
theorem sound[ab]{C:Ctx}(bN:C.Ok):∀ k,lI C k∧fq C k∧lJ C.P (fun o s=>fE C k o s)∧uw C k∧rK C.P (fun nm o fr=>ir C k nm o fr):=
 Kl bN fun _ _=>Sd bN
end Go.PI
end
section
/- PI, the laws: arguments that read as data, as abstract values. -/
namespace Go.PI
open Go.ChangeShapes Go.WideShapes
def Env.all(w:World):Env where
 ρ:=fun _ _=>none
 m:=fun b=>match w.heap[b]? with|some (.cells c _ _)=>some c|_=>none
 L:=0
 own:=fun _=>False
theorem MN[ab](w:World)(hg:mG (Env.all w)):Inv (Env.all w) [] w where
 len:=rfl
 objs:=by intro n o h; simp at h
 free:=by intro n aq h; simp at h
 inj:=by rintro n n' b ⟨o,l,h,_⟩; simp at h
 mem:=by
  grind[Env.all]
 oT:=by intro b h; exact h.elim
 jo:=hg
def Shape(P:Program):Nat→TypeId→List AV→Prop
 |0,_,_=>False
 |k+1,t,l=>
  match P.underlying t with
  |some .bool=>∃ b,l=[.lit (.bool b)]
  |some (.int i)=>∃ n,l=[.lit (.int i n)]∧(Lit.int i n).wf=true
  |some .string=>∃ s:ByteArray,l=[.lit (.string s)]∧s.size≤maxLen
  |some (.slice e)=>∃ xs,l=[.sl xs]∧xs.length≤maxLen∧∀ x∈xs,∃ cl,(match P.underlying e with
    |some d=>if ed d then x=.agg cl else cl=[x]
    |none=>False)∧Shape P k e cl
  |some (.struct fs)=>l.length=P.cellsOf t∧∀ f∈fs.toList,Shape P k f.type ((l.drop f.offset).take (P.cellsOf f.type))
  |some (.array n e)=>l.length=P.cellsOf t∧∀ i,i<n→Shape P k e ((l.drop (i*P.cellsOf e)).take (P.cellsOf e))
  |_=>False
def vq(P:Program):Nat→List Field→Option Nat
 |o,[]=>some o
 |o,f::r=>if f.offset=o then vq P (o+P.cellsOf f.type) r else none
def xf(P:Program):Nat→TypeId→Bool
 |0,_=>false
 |k+1,t=>
  match P.underlying t with
  |some .bool|some (.int _)|some .string=>decide (P.cellsOf t=1)
  |some (.slice e)=>decide (P.cellsOf t=1)&&decide (0<P.cellsOf e)&&xf P k e
  |some (.struct fs)=>decide (vq P 0 fs.toList=some (P.cellsOf t))&&fs.toList.all fun f=>xf P k f.type
  |some (.array n e)=>decide (n*P.cellsOf e=P.cellsOf t)&&xf P k e
  |_=>false
theorem mapM_some{α β:Type}{f:α→Option β}:∀ {l:List α} {r:List β},l.mapM f=some r→r.length=l.length∧∀ (i:Nat) (x:α),l[i]?=some x→∃ y,r[i]?=some y∧f x=some y
 |[],r,h=>by
  simp_all
 |a::l,r,h=>by
  simp only[List.mapM_cons,Option.pure_def,Option.bind_eq_bind]at h
  cases hq:f a with
  |none=>rw[hq]at h; simp at h
  |some b=>
   rw[hq]at h
   simp only[Option.bind_some]at h
   cases dR:l.mapM f with
   |none=>rw[dR]at h; simp at h
   |some bs=>
    rw[dR]at h
    simp only[Option.bind_some,Option.some.injEq]at h
    subst h
    obtain⟨h1,h2⟩:=mapM_some dR
    refine⟨by simp[h1],fun i x hx=>?_⟩
    cases i with
    |zero=>simp_all
    |succ i=>simp_all
theorem aH.append{E:Env}{o:Bool}{l l':List AV}{c c':List Value}(h:aH E o l c)(h':aH E o l' c'):aH E o (l++l') (c++c'):=
 aH.of (h.F1.append h'.F1) fun v hv=>by
  rcases List.mem_append.1 hv with h1|h1
  ·exact h.leaf v h1
  ·exact h'.leaf v h1
theorem Hk[ab]{w:World}{base:Nat}{a:Addr}{n:Nat}{l:List Value}(h:w.cells? base a n=some l):l.length=n∧∀ q v,l[q]?=some v→w.cell? (a.add q)=some v:=by
 unfold World.cells? at h
 split at h
 case isFalse=>simp at h
 obtain⟨h1,h2⟩:=mapM_some h
 simp only[List.length_range]at h1
 refine⟨h1,fun q v hq=>?_⟩
 have cd:=aJ hq
 obtain⟨y,hy,hf⟩:=h2 q q (by rw[List.getElem?_range (by omega)])
 rw[hq]at hy
 cases hy
 exact hf
theorem zD{P:Program}:∀ (fs:List Field) (o n:Nat),vq P o fs=some n→o≤n
 |[],o,n,h=>by simp only[vq,Option.some.injEq]at h; omega
 |f::r,o,n,h=>by
  simp only[vq]at h
  split at h
  case isFalse=>simp at h
  have:=zD r _ n h; omega
theorem B5[ab]{E:Env}{P:Program}{S:Field→List AV→Prop}:∀ (fs:List Field) (o n:Nat) (cs:List Value),vq P o fs=some n→cs.length=n →
  (∀ f∈fs,∃ l,aH E false l ((cs.drop f.offset).take (P.cellsOf f.type))∧S f l) →
  ∃ l,aH E false l (cs.drop o)∧∀ f∈fs,o≤f.offset∧S f ((l.drop (f.offset-o)).take (P.cellsOf f.type))
 |[],o,n,cs,h,hl,_=>by
  simp only[vq,Option.some.injEq]at h
  refine⟨[],?_,by simp⟩
  rw[List.drop_eq_nil_of_le (by omega)]
  simp[aH]
 |f::r,o,n,cs,h,hl,hf=>by
  simp only[vq]at h
  split at h
  case isFalse=>simp at h
  rename_i ho
  have uf:=zD r _ n h
  obtain⟨l1,h1,h2⟩:=hf f (by simp)
  obtain⟨l2,h3,h4⟩:=B5 r (o+P.cellsOf f.type) n cs h hl (fun g hg=>hf g (by simp[hg]))
  have Gb:l1.length=P.cellsOf f.type:=by rw[h1.length]; simp; omega
  refine⟨l1++l2,?_,fun g hg=>?_⟩
  ·have:cs.drop o=(cs.drop f.offset).take (P.cellsOf f.type)++cs.drop (o+P.cellsOf f.type):=by
    rw[ho,←List.drop_drop,List.take_append_drop]
   rw[this]
   exact h1.append h3
  ·cases hg with
   |head=>
    simp_all
   |tail _ hg=>
    obtain⟨h5,h6⟩:=h4 g hg
    refine⟨by omega,?_⟩
    have:(l1++l2).drop (g.offset-o)=l2.drop (g.offset-(o+P.cellsOf f.type)):=by
     rw[List.drop_append,List.drop_eq_nil_of_le (by omega),List.nil_append,Gb]
     congr 1; omega
    rw[this]
    exact h6
theorem B6[ab]{E:Env}{size:Nat}{S:List AV→Prop}:∀ (n:Nat) (cs:List Value),cs.length=n*size →
  (∀ i,i<n→∃ l,aH E false l ((cs.drop (i*size)).take size)∧S l)→∃ l,aH E false l cs∧∀ i,i<n→S ((l.drop (i*size)).take size)
 |0,cs,h,_=>by
  have:cs=[]:=List.eq_nil_of_length_eq_zero (by simpa using h)
  subst this
  exact⟨[],by simp[aH],by simp⟩
 |n+1,cs,h,hf=>by
  rw[Nat.succ_mul]at h
  obtain⟨l1,h1,h2⟩:=hf 0 (by omega)
  simp only[Nat.zero_mul,List.drop_zero]at h1
  obtain⟨l2,h3,h4⟩:=B6 (size:=size) (S:=S) n (cs.drop size) (by rw[List.length_drop,h]; omega) (fun i hi=>by
   obtain⟨l,ha,hb⟩:=hf (i+1) (by omega)
   refine⟨l,?_,hb⟩
   rw[List.drop_drop]
   have:size+i*size=(i+1)*size:=by rw[Nat.succ_mul]; omega
   rw[this]; exact ha)
  have Gb:l1.length=size:=by rw[h1.length]; simp; omega
  refine⟨l1++l2,?_,fun i hi=>?_⟩
  ·have:cs=cs.take size++cs.drop size:=(List.take_append_drop size cs).symm
   rw[this]
   exact h1.append h3
  ·cases i with
   |zero=>simp_all
   |succ i=>
    have e1:(i+1)*size=size+i*size:=by rw[Nat.succ_mul]; omega
    rw[e1,List.drop_append,List.drop_eq_nil_of_le (by omega),List.nil_append,Gb]
    have e2:size+i*size-size=i*size:=by omega
    rw[e2]
    exact h4 i (by omega)
theorem B7{P:Program}{k:Nat}{t:TypeId}{d:TypeDesc}(hu:P.underlying t=some d)(bN:xf P k t=true)(ha:ed d=false):P.cellsOf t=1:=by
 cases k with
 |zero=>simp[xf]at bN
 |succ k=>
  simp only[xf,hu]at bN
  cases d with
  |bool=>simpa using bN
  |int _=>simpa using bN
  |string=>simpa using bN
  |slice e=>simp only[Bool.and_eq_true,decide_eq_true_eq]at bN; exact bN.1.1
  |struct _=>simp[ed]at ha
  |array _ _=>simp[ed]at ha
  |_=>simp at bN
theorem MO[ab]{H:Type}{enc:TypeId×Value→H}{P:Program}{w:World}{base:Nat}{spare:Nat→Bool}{held:Bool}:∀ (fuel k:Nat) (t:TypeId) (cs:List Value) (r:DataW H×List MemPlace),
  xf P k t=true→DataW.trod enc P w base spare held fuel t cs=some r→∃ l,aH (Env.all w) false l cs∧Shape P k t l:=by
 intro fuel
 induction fuel with
 |zero=>intro k t cs r _ h; simp[DataW.trod]at h
 |succ fuel ih=>
  intro k t cs r bN h
  cases k with
  |zero=>simp[xf]at bN
  |succ k=>
   have YO:=bN
   simp only[xf]at bN
   cases hu:P.underlying t with
   |none=>rw[hu]at bN; simp at bN
   |some d=>
    rw[hu]at bN
    cases d with
    |bool=>
     obtain⟨b,rfl,_⟩:=DataW.trod_bool hu h
     exact⟨[.lit (.bool b)],by simp[aH,aj,Value.oneCell'],by simp only[Shape,hu]; exact⟨b,rfl⟩⟩
    |int i=>
     obtain⟨n,rfl,_,hw⟩:=DataW.trod_int hu h
     exact⟨[.lit (.int i n)],by simp[aH,aj,Value.oneCell'],by simp only[Shape,hu]; exact⟨n,rfl,hw⟩⟩
    |string=>
     obtain⟨s,rfl,_,hw⟩:=DataW.trod_string hu h
     exact⟨[.lit (.string s)],by simp[aH,aj,Value.oneCell'],by simp only[Shape,hu]; exact⟨s,rfl,hw⟩⟩
    |slice e=>
     simp only[Bool.and_eq_true,decide_eq_true_eq]at bN
     obtain⟨⟨_,fp⟩,Hl⟩:=bN
     obtain⟨de,XA⟩:∃ de,P.underlying e=some de:=by
      cases k with
      |zero=>simp[xf]at Hl
      |succ k=>
       simp only[xf]at Hl
       cases hq:P.underlying e with
       |none=>rw[hq]at Hl; simp at Hl
       |some de=>exact⟨de,rfl⟩
     rcases DataW.trod_slice hu h with ⟨rfl,_⟩|⟨a,len,cap,elems,rest,n,hn,rfl,_,hb,D8,Q2,wA,Jq,_,_⟩
     ·refine⟨[.sl []],?_,?_⟩
      ·simp only[aH,aj]
       exact⟨⟨none,0,rfl,by simp,fun _=>rfl,.inl trivial⟩,rfl,trivial⟩
      ·simp only[Shape,hu]; exact⟨[],rfl,by simp,by simp⟩
     ·have zq:n=fuel:=by omega
      subst zq
      have one:∀ i,i<len→∃ x:AV,∃ v cl,aj (Env.all w) false x v∧v.cells.size=P.cellsOf e∧(∀ q u,v.cells.toList[q]?=some u→w.cell? ((a.add (i*P.cellsOf e)).add q)=some u) ∧
        (∀ u∈v.cells.toList,iu u=true)∧(if ed de then x=.agg cl else cl=[x])∧Shape P k e cl:=by
       intro i hi
       have h1:=Jq i hi
       have h2:elems[i]?=some elems[i]:=by simp[wA,hi]
       rw[h2]at h1
       cases hc:w.cells? base (a.add (i*P.cellsOf e)) (P.cellsOf e) with
       |none=>rw[hc]at h1; simp at h1
       |some ce=>
        rw[hc]at h1
        simp only[Option.bind_some]at h1
        obtain⟨cl,h3,h4⟩:=ih k e ce _ Hl h1
        obtain⟨h5,h6⟩:=Hk hc
        cases o6:ed de with
        |true=>
         refine⟨.agg cl,.agg ce.toArray,cl,h3.toArray,by simp[Value.cells,h5],fun q u hq=>h6 q u (by simpa[Value.cells] using hq),?_,by simp,h4⟩
         intro u II
         exact h3.leaf u (by simpa[Value.cells] using II)
        |false=>
         have h7:=B7 XA Hl o6
         rw[h7]at h5
         match ce,h5,h3 with
         |[v],_,h3=>
          match cl,h3 with
          |[x],h3=>
           simp only[aH]at h3
           have Ps:=fO h3.2.1
           refine⟨x,v,[x],h3.1,by rw[Ps,h7]; rfl,fun q u hq=>h6 q u (by rw[Ps]at hq; simpa using hq),?_,by simp,h4⟩
           intro u II
           rw[Ps]at II
           simp at II
           subst II
           exact h3.2.1
          |[],h3=>simp[aH]at h3
          |_::_::_,h3=>simp[aH]at h3
         |[],h5,_=>simp at h5
         |_::_::_,h5,_=>simp at h5
      let xs:List AV:=(List.range len).map fun i=>if hi:i<len then Classical.choose (one i hi) else .any
      have zE:∀ i x,xs[i]?=some x→∃ v cl,aj (Env.all w) false x v∧v.cells.size=P.cellsOf e ∧
        (∀ q u,v.cells.toList[q]?=some u→w.cell? ((a.add (i*P.cellsOf e)).add q)=some u) ∧
        (∀ u∈v.cells.toList,iu u=true)∧(if ed de then x=.agg cl else cl=[x])∧Shape P k e cl:=by
       intro i x hx
       have hi:=aJ hx
       simp only[xs,List.length_map,List.length_range]at hi
       simp only[xs,List.getElem?_map,List.getElem?_range hi,Option.map_some,dif_pos hi,Option.some.injEq]at hx
       subst hx
       exact Classical.choose_spec (one i hi)
      have En:xs.length=len:=by simp[xs]
      refine⟨[.sl xs],?_,?_⟩
      ·simp only[aH,aj]
       refine⟨⟨some a,cap,by rw[En],by omega,by simp,?_⟩,rfl,trivial⟩
       by_cases h0:len=0
       ·left; exact List.eq_nil_of_length_eq_zero (by omega)
       ·right
        obtain⟨v,_,_,mc,Ps,_,_,_⟩:=zE 0 xs[0] (by simp)
        have Mi:=Ps 0 v.cells[0] (by simp)
        simp only[Nat.zero_mul]at Mi
        have Rx:(a.add 0).add 0=a:=rfl
        rw[Rx]at Mi
        obtain⟨b,o,sp⟩:=a
        simp only[World.cell?]at Mi
        split at Mi
        case h_2=>simp at Mi
        rename_i c T fz eR
        split at Mi
        ·simp at Mi
        rename_i Ry
        have UQ:sp=none:=by cases sp<;>simp_all
        subst UQ
        refine⟨b,o,P.cellsOf e,c,rfl,by simp[Env.all,eR],dN.dX fun i x hx=>?_⟩
        obtain⟨v,_,hr,mc,Ps,UR,_,_⟩:=zE i x hx
        refine⟨v,hr,mc,fun q hq=>?_,UR⟩
        have h1:=Ps q v.cells[q] (by simp)
        rw[di,di]at h1
        simp only[World.cell?,eR]at h1
        simp only[Option.isSome_none,Bool.false_eq_true,if_false]at h1
        rw[h1]; simp
      ·simp only[Shape,hu]
       refine⟨xs,rfl,by omega,fun x hx=>?_⟩
       obtain⟨i,hi⟩:=List.mem_iff_getElem?.1 hx
       obtain⟨v,cl,_,_,_,_,h1,h2⟩:=zE i x hi
       exact⟨cl,by rw[XA]; exact h1,h2⟩
    |struct fs=>
     simp only[Bool.and_eq_true,decide_eq_true_eq]at bN
     obtain⟨xs,n,hn,_,hl,En,hf⟩:=DataW.trod_struct hu h
     have zq:n=fuel:=by omega
     subst zq
     obtain⟨l,h1,h2⟩:=B5 (E:=Env.all w) (S:=fun f l=>Shape P k f.type l) fs.toList 0 (P.cellsOf t) cs bN.1 hl (fun f Gc=>by
      obtain⟨i,hi⟩:=List.mem_iff_getElem?.1 Gc
      have ua:fs[i]?=some f:=by simpa using hi
      have h3:=hf i f ua
      have cd:i<xs.length:=by rw[En]; exact(Array.getElem?_eq_some_iff.1 ua).1
      rw[List.getElem?_eq_getElem cd]at h3
      exact ih k f.type _ _ (List.all_eq_true.1 bN.2 f Gc) h3)
     simp only[List.drop_zero]at h1
     refine⟨l,h1,?_⟩
     simp only[Shape,hu]
     exact⟨by rw[h1.length,hl],fun f Gc=>by simpa using (h2 f Gc).2⟩
    |array n e=>
     simp only[Bool.and_eq_true,decide_eq_true_eq]at bN
     obtain⟨xs,m,hm,_,hl,En,hf⟩:=DataW.trod_array hu h
     have AP:m=fuel:=by omega
     subst AP
     obtain⟨l,h1,h2⟩:=B6 (E:=Env.all w) (S:=fun l=>Shape P k e l) n cs (by rw[hl,bN.1]) (fun i hi=>by
      have h3:=hf i hi
      rw[List.getElem?_eq_getElem (by omega)]at h3
      exact ih k e _ _ bN.2 h3)
     refine⟨l,h1,?_⟩
     simp only[Shape,hu]
     exact⟨by rw[h1.length,hl],h2⟩
    |_=>simp at bN
end Go.PI
end
section
/- PI, the answers of code without fuel, by equations. -/
namespace Go.PI
theorem gi[ab]{α:Type}(y:Option α):ma (fun _=>y)=y:=
 kK (g:=fun _=>y) (fun _ _ h=>h) (fun _ _ h=>h) fun _ h=>⟨0,h⟩
theorem sV[ab]{α β:Type}{g:Nat→Option β}{a:Nat→Option α}{b:α→Nat→Option β}(hg:fF g)(ha:fF a)(hb:∀ x,fF (b x))
  (h0:g 0=none) (h:∀ k,g (k+1)=(a k).bind fun x=>b x k):ma g=(ma a).bind fun x=>ma (b x):=by
 apply kK hg
 ·intro k x hx
  cases k with
  |zero=>rw[h0]at hx; simp at hx
  |succ k=>
   rw[h]at hx
   cases hq:a k with
   |none=>rw[hq]at hx; simp at hx
   |some y=>
    rw[hq]at hx
    rw[(bg ha).2 ⟨k,hq⟩]
    exact(bg (hb y)).2 ⟨k,hx⟩
 ·intro x hx
  cases hq:ma a with
  |none=>rw[hq]at hx; simp at hx
  |some y=>
   rw[hq]at hx
   obtain⟨k1,h1⟩:=(bg ha).1 hq
   obtain⟨k2,h2⟩:=(bg (hb y)).1 hx
   refine⟨k1+k2+1,?_⟩
   rw[h,ha.le h1 k2]
   simp only[Option.bind_some]
   rw[Nat.add_comm]
   exact(hb y).le h2 k1
theorem mr{α:Type}(y:Option α):fF fun _=>y:=fun _ _ h=>h
theorem ei[ab]{α β:Type}{g:Nat→Option β}{a:Nat→Option α}{b:α→Option β}(hg:fF g)(ha:fF a)
  (h0:g 0=none) (h:∀ k,g (k+1)=(a k).bind b):ma g=(ma a).bind b:=by
 rw[sV hg ha (b:=fun x _=>b x) (fun x=>mr _) h0 h]
 congr 1; funext x; exact gi _
theorem bU[ab]{α:Type}{g:Nat→Option α}{y:Option α}(hg:fF g)(h0:g 0=none)(h:∀ k,g (k+1)=y):ma g=y:=by
 apply kK hg
 ·intro k x hx
  cases k with
  |zero=>rw[h0]at hx; simp at hx
  |succ k=>rw[h]at hx; exact hx
 ·intro x hx; exact⟨1,by rw[h]; exact hx⟩
theorem ug[ab]{α:Type}{g a:Nat→Option α}(hg:fF g)(ha:fF a)(h0:g 0=none)(h:∀ k,g (k+1)=a k):ma g=ma a:=by
 have:=ei (b:=some) hg ha h0 (fun k=>by rw[h]; simp)
 rw[this]; simp
variable {C:Ctx}
theorem qf[ab](s:St):cQ C .skip s=some (.norm s):=bU (dJ C _ _) rfl fun _=>rfl
theorem Ey[ab](l:Nat)(s:St):cQ C (.label l) s=some (.norm s):=bU (dJ C _ _) rfl fun _=>rfl
theorem xh[ab](s:St):cQ C .ret s=some (.ret s):=bU (dJ C _ _) rfl fun _=>rfl
theorem uh[ab](id:Nat)(s:St):cQ C (.exit id) s=some (.exit id s):=bU (dJ C _ _) rfl fun _=>rfl
theorem Ez[ab]{b c:Code}(hc:pf b=some c){s:St}{o:Out}(h:cQ C c s=some o):cQ C (.scope b) s=some o:=by
 obtain⟨k,hk⟩:=(bg (dJ C c s)).1 h
 exact(bg (dJ C _ s)).2 ⟨k+1,by simp only[bS,hc]; exact hk⟩
noncomputable def andThen[ab](C:Ctx)(b:Code):Out→Option Out
 |.norm s=>cQ C b s
 |r=>some r
theorem gP[ab](a b:Code)(s:St):cQ C (.seq a b) s=(cQ C a s).bind (andThen C b):=by
 have h:=sV (dJ C (.seq a b) s) (dJ C a s) (b:=fun x k=>match x with|.norm s'=>bS C k b s'|r=>some r)
  (fun x=>by cases x with
    |norm s'=>exact dJ C b s'
    |_=>exact mr _) (by simp[bS]) (fun k=>by
     simp only[bS]
     cases hq:bS C k a s with
     |none=>rfl
     |some r=>cases r<;>rfl)
 unfold cQ at h ⊢
 rw[h]
 congr 1
 funext x
 cases x with
 |norm s'=>rfl
 |_=>exact gi _
noncomputable def TY[ab](C:Ctx)(a b:Code)(s:St):AV→Option Out
 |.lit (.bool t)=>cond t (cQ C a s) (cQ C b s)
 |_=>none
theorem kY[ab](o:Operand)(a b:Code)(s:St):cQ C (.cond o a b) s=TY C a b s (az s.fr o):=by
 unfold TY
 split
 ·rename_i t ht
  cases t with
  |true=>exact ug (dJ C _ _) (dJ C _ _) (by simp[bS]) fun k=>by simp only[bS]; rw[ht]
  |false=>exact ug (dJ C _ _) (dJ C _ _) (by simp[bS]) fun k=>by simp only[bS]; rw[ht]
 ·rename_i hn
  refine bU (dJ C _ _) (by simp[bS]) fun k=>?_
  simp only[bS]
def ui(id:Nat):Out→Option Out
 |.exit i s=>if i=id then some (.norm s) else some (.exit i s)
 |r=>some r
theorem lB[ab](id:Nat)(b:Code)(s:St):cQ C (.block id b) s=(cQ C b s).bind (ui id):=by
 refine ei (dJ C _ _) (dJ C _ _) (by simp[bS]) fun k=>?_
 simp only[bS]
 cases hq:bS C k b s with
 |none=>rfl
 |some r=>cases r<;>rfl
noncomputable def Ju[ab](C:Ctx)(b:Code)(n:Nat):Out→Option Out
 |.norm s=>cQ C (.loop b) (gG n s)
 |r=>some r
theorem nk[ab](b:Code)(s:St):cQ C (.loop b) s=(cQ C b s).bind (Ju C b s.hp.length):=by
 have h:=sV (dJ C (.loop b) s) (dJ C b s) (b:=fun x k=>match x with|.norm s'=>bS C k (.loop b) (gG s.hp.length s')|r=>some r)
  (fun x=>by cases x with
    |norm s'=>exact dJ C (.loop b) (gG s.hp.length s')
    |_=>exact mr _) (by simp[bS]) (fun k=>by
     rw[bS]
     cases hq:bS C k b s with
     |none=>rfl
     |some r=>cases r<;>rfl)
 unfold cQ at h ⊢
 rw[h]
 congr 1
 funext x
 cases x with
 |norm s'=>rfl
 |_=>exact gi _
theorem dU[ab](ops:Array Oper)(l:List Oper)(s:St):fF fun k=>cE (fun o s=>fE C k o s) ops l s:=
 fun k x h=>iy (fun o s r h=>(mono C k).o o s r h) ops l s x h
theorem jA[ab](ops:Array Oper):∀ (l:List Oper) (s:St),ma (fun k=>cE (fun o s=>fE C k o s) ops l s)=cE (ic C) ops l s
 |[],s=>gi _
 |o::l,s=>by
  simp only[cE]
  cases hw:cF ops s.fr o with
  |none=>exact gi _
  |some b=>
   cases b with
   |false=>exact jA ops l _
   |true=>
    simp only
    apply kK
    ·intro k x hx
     have hm:=jt C o s
     simp only at hx ⊢
     cases hq:fE C k o s with
     |none=>rw[hq]at hx; simp at hx
     |some r=>
      rw[hq]at hx
      have uj:=hm k r hq
      simp only at hx uj ⊢
      rw[uj]
      cases r with
      |norm s'=>exact dU ops l s' k x hx
      |_=>exact hx
    ·intro k x hx
     cases hq:fE C k o s with
     |none=>rw[hq]at hx; simp at hx
     |some r=>
      rw[hq]at hx
      have h1:ic C o s=some r:=(bg (jt C o s)).2 ⟨k,hq⟩
      rw[h1]
      cases r with
      |norm s'=>
       simp only at hx ⊢
       rw[←jA ops l s']
       exact(bg (dU ops l s')).2 ⟨k,hx⟩
      |_=>exact hx
    ·intro x hx
     cases hq:ic C o s with
     |none=>rw[hq]at hx; simp at hx
     |some r=>
      rw[hq]at hx
      obtain⟨k1,h1⟩:=(bg (jt C o s)).1 hq
      cases r with
      |norm s'=>
       simp only at hx
       rw[←jA ops l s']at hx
       obtain⟨k2,h2⟩:=(bg (dU ops l s')).1 hx
       refine⟨k1+k2,?_⟩
       rw[(jt C o s).le h1 k2]
       simp only
       rw[Nat.add_comm]
       exact(dU ops l s').le h2 k1
      |_=>exact⟨k1,by rw[h1]; exact hx⟩
theorem Ca[ab](id:Nat)(ops:Array Oper)(s:St):cQ C (.region id ops false) s=cE (ic C) ops ops.toList (gF (C.iq s.fn id) s):=by
 rw[←jA]
 exact ug (dJ C _ _) (dU ops _ _) (by simp[bS]) fun k=>by simp only[bS]
noncomputable def Jv(C:Ctx)(rs:Array ResultVar):Out→Option (nM×ag)
 |.norm s=>((aU C.P s.fr rs.toList).run s.hp).map fun l=>(.val (cB l),s.hp)
 |.ret s=>((aU C.P s.fr rs.toList).run s.hp).map fun l=>(.val (cB l),s.hp)
 |.jL v s=>some (.jL v,s.hp)
 |_=>none
theorem AR[ab]{f:FuncId}{fn:Func}{c:Code}(hf:C.P.funcs[f]?=some fn)(hb:fn.body=some c)(args:List AV)(hp:ag)(hD:BU c=false:=by rfl):
  kp C f args hp=(cQ C c ⟨f,args++List.replicate (fn.ntmps-args.length) .undef,hp⟩).bind (Jv C fn.results):=by
 refine ei (mo C _ _ _) (dJ C _ _) (by simp[lZ]) fun k=>?_
 simp only[lZ,hf,hb,hD]
 cases hq:bS C k c ⟨f,args++List.replicate (fn.ntmps-args.length) .undef,hp⟩ with
 |none=>rfl
 |some r=>
  cases r with
  |norm s=>simp only[Option.bind_some,Jv]; split<;>simp_all
  |ret s=>simp only[Option.bind_some,Jv]; split<;>simp_all
  |_=>rfl
theorem np[ab]{c:Code}{s:St}{o:Out}(h:cQ C c s=some o):∃ k,∀ d,bS C (k+d) c s=some o:=by
 obtain⟨k,hk⟩:=(bg (dJ C c s)).1 h
 exact⟨k,(dJ C c s).le hk⟩
theorem AU[ab]:∀ (c:Code) (s:St) (r:Out×Option AV),zp (cQ C) (ic C) c s=some r→∃ k,∀ d,zp (fun c s=>bS C (k+d) c s) (fun o s=>fE C (k+d) o s) c s=some r:=by
 have leaf:∀ c s (r:Out×Option AV),((cQ C c s).map fun o=>(o,(none:Option AV)))=some r→∃ k,∀ d,((bS C (k+d) c s).map fun o=>(o,(none:Option AV)))=some r:=by
  intro c s r h
  cases hq:cQ C c s with
  |none=>rw[hq]at h; simp at h
  |some o=>
   obtain⟨k,hk⟩:=np hq
   exact⟨k,fun d=>by rw[hk d]; rw[hq]at h; exact h⟩
 intro c
 induction c with
 |seq x y _ Js=>
  intro s r h
  simp only[zp]at h ⊢
  cases hd:sO x with
  |some q=>
   obtain⟨ops,v⟩:=q
   rw[hd]at h
   simp only at h ⊢
   split at h
   case h_2=>simp at h
   rename_i s1 hr
   rw[←jA]at hr
   obtain⟨k1,Pu⟩:=(bg (dU ops _ s)).1 hr
   have h1:=(dU (C:=C) ops _ s).le Pu
   split at h
   case h_2=>simp at h
   rename_i q cy
   cases hq:cQ C y s1 with
   |none=>rw[hq]at h; simp at h
   |some o=>
    obtain⟨k2,EA⟩:=np hq
    refine⟨k1+k2,fun d=>?_⟩
    rw[show k1+k2+d=k1+(k2+d) by omega,h1]
    simp only[cy]
    rw[show k1+(k2+d)=k2+(k1+d) by omega,EA]
    rw[hq]at h; exact h
  |none=>
   rw[hd]at h
   simp only at h ⊢
   split at h
   ·rename_i s' hx
    obtain⟨k1,Pu⟩:=np hx
    obtain⟨k2,EA⟩:=Js _ _ h
    refine⟨k1+k2,fun d=>?_⟩
    rw[show k1+k2+d=k1+(k2+d) by omega,Pu]
    have:=EA (k1+d)
    rw[show k2+(k1+d)=k1+(k2+d) by omega]at this
    exact this
   ·rename_i o dM hx
    obtain⟨k1,Pu⟩:=np hx
    refine⟨k1,fun d=>?_⟩
    rw[Pu d]
    cases o with
    |norm s'=>exact(dM s' rfl).elim
    |_=>exact h
   ·simp at h
 |_=>intro s r h; simp only[zp]at h ⊢; exact leaf _ _ _ h
theorem Cb[ab]{P:Program}{rs:List ResultVar}{fr:List AV}{hp:ag}{d:Option AV}{r:nM×ag}(h:tX (cQ C) P rs fr hp d=some r):∃ k,∀ j,tX (fun c s=>bS C (k+j) c s) P rs fr hp d=some r:=by
 cases d with
 |none=>exact⟨0,fun _=>h⟩
 |some v=>
  simp only[tX]at h ⊢
  split at h
  ·simp at h
  rename_i g as cy
  split at h
  ·simp at h
  rename_i fg MR
  split at h
  ·simp at h
  rename_i cg MS
  cases hn:cx cg with
  |false=>rw[hn]at h; simp at h
  |true=>
   rw[hn]at h
   cases hq:cQ C (nR cg) ⟨g,as++List.replicate (fg.ntmps-as.length) .undef,hp⟩ with
   |none=>rw[hq]at h; simp at h
   |some o=>
    obtain⟨k,hk⟩:=np hq
    exact⟨k,fun j=>by simp only[MR,MS,hn,hk j]; rw[hq]at h; exact h⟩
theorem Jw[ab]{f:FuncId}{fn:Func}{c:Code}(hf:C.P.funcs[f]?=some fn)(hb:fn.body=some c){args:List AV}{hp:ag}(hD:BU c=true){r:nM×ag}
  (h:tY (cQ C) (ic C) C.P fn.results.toList c ⟨f,args++List.replicate (fn.ntmps-args.length) .undef,hp⟩=some r):kp C f args hp=some r:=by
 suffices hs:∃ k,tY (fun c s=>bS C k c s) (fun o s=>fE C k o s) C.P fn.results.toList c ⟨f,args++List.replicate (fn.ntmps-args.length) .undef,hp⟩=some r by
  obtain⟨k,hk⟩:=hs
  exact(bg (mo C f args hp)).2 ⟨k+1,by simp only[lZ,hf,hb,hD]; exact hk⟩
 unfold tY at h
 split at h
 ·rename_i s' d hn he
  obtain⟨k1,h1⟩:=AU _ _ _ he
  obtain⟨k2,h2⟩:=Cb h
  refine⟨k1+k2,?_⟩
  unfold tY
  rw[h1 k2,hn]
  have:=h2 k1
  rw[show k2+k1=k1+k2 by omega]at this
  exact this
 ·rename_i s' d hn he
  obtain⟨k1,h1⟩:=AU _ _ _ he
  obtain⟨k2,h2⟩:=Cb h
  refine⟨k1+k2,?_⟩
  unfold tY
  rw[h1 k2,hn]
  have:=h2 k1
  rw[show k2+k1=k1+k2 by omega]at this
  exact this
 ·rename_i v s' hn he
  obtain⟨k1,h1⟩:=AU _ _ _ he
  refine⟨k1+0,?_⟩
  unfold tY
  rw[h1 0,hn]
  exact h
 ·simp at h
def nq(hp:ag)(args:List AV)(q:nM×ag):Option (nM×List (Nat×aI)):=(gg args q.2 q.1).run hp
theorem MT[ab](g:FuncId)(hi:C.kn g=none)(args:List AV)(hp:ag):
  Jt C g args hp=((aK 1000 args).run hp).bind fun as=>(kp C g as []).bind (nq hp args):=by
 have h1:∀ k,(kX C (k+1) g args).run hp=((aK 1000 args).run hp).bind fun as=>(lZ C k g as []).bind (nq hp args):=by
  intro k
  rw[kX,RM.run_bind]
  congr 1
  funext as
  rw[hi]
  simp only
  cases hq:lZ C k g as [] with
  |none=>rfl
  |some q=>rfl
 cases hs:(aK 1000 args).run hp with
 |none=>exact bU (B9 C _ _ _) (by simp[kX,RM.ae]) fun k=>by rw[h1,hs]; rfl
 |some as=>
  refine ei (B9 C _ _ _) (mo C g as []) (by simp[kX,RM.ae]) fun k=>?_
  rw[h1,hs]; rfl
theorem Hp[ab](g:FuncId){h:List AV→Option AV}(hi:C.kn g=some h)(args:List AV)(hp:ag):
  Jt C g args hp=((aK 1000 args).run hp).bind fun as=>(h as).bind fun r=>nq hp args (.val r,[]):=by
 refine bU (B9 C _ _ _) (by simp[kX,RM.ae]) fun k=>?_
 rw[kX,RM.run_bind]
 congr 1
 funext as
 rw[hi]
 simp only
 cases hq:h as with
 |none=>rfl
 |some q=>rfl
def Jx(o:Oper)(s:St):nM×List (Nat×aI)→Option Out
 |(.val r,wr)=>some (.norm { s with fr:=bC s.fr o.dst r,hp:=ai s.hp wr })
 |(.jL v,wr)=>some (.jL v { s with hp:=ai s.hp wr })
def Ge(o:Oper)(s:St):nM×ag→Option Out
 |(.val r,hp)=>some (.norm { s with fr:=bC s.fr o.dst r,hp:=gH s.hp.length r hp })
 |(.jL v,hp)=>some (.jL v { s with hp:=gH s.hp.length v hp })
def gD(o:Oper)(s:St)(e:dg):Option Out:=some (.norm { s with fr:=bC s.fr o.dst e.val,hp:=ai s.hp e.wr })
def pn(nm:Nat)(lg:List Nat)(hp:ag):nM×ag→Option (dg×List Nat)
 |(.val r,gZ)=>((fN nm r gZ).run hp).map fun e=>(e,lg)
 |_=>none
noncomputable def EB[ab](C:Ctx)(nm:Nat)(g:FuncId)(args:List AV)(hp:ag):Option (dg×List Nat):=
 ((aK 1000 args).run hp).bind fun as=>match C.iU g with
   |some h=>(h as).bind fun q=>((fN nm q.1 q.2).run hp).map fun e=>(e,(aK 1000 args).log hp)
   |none=>(kp C g as []).bind (pn nm ((aK 1000 args).log hp) hp)
theorem xi{nm:Nat}{r:AV}{gZ hp:ag}:(fN nm r gZ).log hp=[]:=by
 unfold fN
 split
 ·split
  ·split<;>rfl
  ·rfl
 ·rfl
theorem zK[ab]{F:List AV→Option (nM×ag)}{nm:Nat}{g:FuncId}{args:List AV}{hp:ag}:
  ((hY C F nm g args).run hp).map (fun e=>(e,(hY C F nm g args).log hp))=((aK 1000 args).run hp).bind fun as=>match C.iU g with
    |some h=>(h as).bind fun q=>((fN nm q.1 q.2).run hp).map fun e=>(e,(aK 1000 args).log hp)
    |none=>(F as).bind (pn nm ((aK 1000 args).log hp) hp):=by
 unfold hY
 rw[RM.run_bind,RM.eh]
 cases hs:(aK 1000 args).run hp with
 |none=>rfl
 |some as=>
  simp only[Option.bind_some]
  cases hi:C.iU g with
  |some h=>
   simp only
   cases hh:h as with
   |none=>rfl
   |some q=>simp only[Option.bind_some,xi,List.append_nil]
  |none=>
   simp only
   cases hq:F as with
   |none=>rfl
   |some q=>
    obtain⟨r,gZ⟩:=q
    cases r with
    |val v=>simp only[Option.bind_some,pn,xi,List.append_nil]
    |jL v=>rfl
theorem EC[ab]{F:List AV→Option (nM×ag)}{nm:Nat}{g:FuncId}{args:List AV}{hp:ag}:
  (hY C F nm g args).run hp=(((aK 1000 args).run hp).bind fun as=>match C.iU g with
    |some h=>(h as).bind fun q=>((fN nm q.1 q.2).run hp).map fun e=>(e,(aK 1000 args).log hp)
    |none=>(F as).bind (pn nm ((aK 1000 args).log hp) hp)).map Prod.fst:=by
 rw[←zK]
 cases (hY C F nm g args).run hp<;>rfl
noncomputable def rf[ab](C:Ctx)(o:Oper)(s:St):FuncId×List AV→Option Out
 |(g,args)=>match au o.op with
  |true=>(EB C s.hp.length g args s.hp).bind fun q=>gD o s q.1
  |false=>match C.kind g with
   |.pure=>(Jt C g args s.hp).bind (Jx o s)
   |.imp=>(kp C g args s.hp).bind (Ge o s)
theorem Cc{run:Code→St→Option Out}{ev:Nat→Code→St→Option Out}(hg:∀ c s,fF fun k=>ev k c s)(hl:∀ c s r,run c s=some r→∃ k,ev k c s=some r)
  {n:Nat} {args:List AV} {dst:Option Tmp} {s:St} {r:Out} (hy:gI run n args dst s=some r):∃ k,gI (ev k) n args dst s=some r:=by
 unfold gI at hy ⊢
 split at hy
 case h_2=>simp at hy
 rename_i fn ps as bd fr ho
 split at hy
 case h_2=>simp at hy
 rename_i hc
 split at hy
 case h_2=>simp at hy
 rename_i s1 h1
 obtain⟨k1,e1⟩:=hl _ _ _ h1
 split at hy
 case h_2=>simp at hy
 rename_i h2
 have two:∀ o,run bd { s1 with hp:=oG s1.hp n .busy }=some o→∃ k,ev k as ⟨fn,fD fr ps.toList args,s.hp⟩=some (.norm s1)∧ev k bd { s1 with hp:=oG s1.hp n .busy }=some o:=by
  intro o h3
  obtain⟨k2,e2⟩:=hl _ _ _ h3
  exact⟨k1+k2,(hg _ _).le e1 k2,by rw[Nat.add_comm]; exact(hg _ _).le e2 k1⟩
 split at hy
 ·rename_i s2 h3
  obtain⟨k,a,b⟩:=two _ h3
  exact⟨k,by simp only[a,h2,b]; exact hy⟩
 ·rename_i id s2 h3
  obtain⟨k,a,b⟩:=two _ h3
  exact⟨k,by simp only[a,h2,b]; exact hy⟩
 ·rename_i s2 h3
  obtain⟨k,a,b⟩:=two _ h3
  exact⟨k,by simp only[a,h2,b]; exact hy⟩
 ·simp at hy
noncomputable def Jy[ab](C:Ctx)(o:Oper)(s:St)(args:List AV):AV→Option Out
 |.mp true n=>gI (fun c s=>cQ C c s) n args o.dst s
 |_=>none
noncomputable def nV[ab](C:Ctx)(o:Oper)(s:St)(args:List AV)(fv:AV):Option (FuncId×List AV)→Option Out
 |some q=>rf C o s q
 |none=>Jy C o s args fv
noncomputable def RA[ab](s:St):nM×ag→Option Out
 |(.val _,wu)=>vn s s.hp.length wu
 |_=>none
theorem ED[ab](f:Operand)(ps:Array Tmp)(as bd:Code)(s:St):cQ C (.rangeFunc f ps as bd) s =
  (bz (az s.fr f) [.mp true s.hp.length]).bind fun q=>(kp C q.1 q.2 (s.hp++[some (.gd (.loop s.fn ps as bd .ready) (tW as bd s.fr))])).bind (RA s):=by
 cases hr:bz (az s.fr f) [.mp true s.hp.length] with
 |none=>exact bU (dJ C _ _) (by simp[bS]) fun k=>by simp only[bS,hr]; rfl
 |some q=>
  obtain⟨g,args⟩:=q
  simp only[Option.bind_some]
  refine ei (dJ C _ _) (mo C g args _) (by simp[bS]) fun k=>?_
  simp only[bS,hr]
  cases hq:lZ C k g args (s.hp++[some (.gd (.loop s.fn ps as bd .ready) (tW as bd s.fr))]) with
  |none=>rfl
  |some q=>obtain⟨r,wu⟩:=q; cases r<;>rfl
theorem nt[ab]{dst:Option Tmp}{f:Operand}{args:Array Operand}{mj:Array TypeId}{type:TypeId}{pos:String}{after:Array Edge}{guard:Option (Nat×Bool)}(s:St):
  ic C ⟨dst,.call ⟨.value f,args,mj⟩,type,pos,after,guard⟩ s=nV C ⟨dst,.call ⟨.value f,args,mj⟩,type,pos,after,guard⟩ s (args.toList.map (az s.fr)) (az s.fr f)
   (bz (az s.fr f) (args.toList.map (az s.fr))):=by
 cases hr:bz (az s.fr f) (args.toList.map (az s.fr)) with
 |none=>
  simp only[nV,Jy]
  split
  ·rename_i n hn
   have dH:∀ k,fE C (k+1) ⟨dst,.call ⟨.value f,args,mj⟩,type,pos,after,guard⟩ s=gI (fun c s=>bS C k c s) n (args.toList.map (az s.fr)) dst s:=fun k=>by simp only[fE,hr]; rw[hn]
   apply kK (jt C _ _)
   ·intro k x hx
    cases k with
    |zero=>simp[fE]at hx
    |succ k=>
     rw[dH]at hx
     exact vu (fun c s r h=>(bg (dJ C c s)).2 ⟨k,h⟩) hx
   ·intro x hx
    obtain⟨k,hk⟩:=Cc (fun c s=>dJ C c s) (fun c s r h=>(bg (dJ C c s)).1 h) hx
    exact⟨k+1,by rw[dH]; exact hk⟩
  ·rename_i dM
   refine bU (jt C _ _) (by simp[fE]) fun k=>?_
   simp only[fE,hr]
 |some q=>
  obtain⟨g,as⟩:=q
  simp only[nV,rf]
  cases pk:au (Op.call ⟨.value f,args,mj⟩) with
  |true=>
   have dH:∀ k,fE C (k+1) ⟨dst,.call ⟨.value f,args,mj⟩,type,pos,after,guard⟩ s =
     (((aK 1000 as).run s.hp).bind fun nW=>match C.iU g with
       |some h=>(h nW).bind fun q=>((fN s.hp.length q.1 q.2).run s.hp).map fun e=>(e,(aK 1000 as).log s.hp)
       |none=>(lZ C k g nW []).bind (pn s.hp.length ((aK 1000 as).log s.hp) s.hp)).bind fun q=>gD ⟨dst,.call ⟨.value f,args,mj⟩,type,pos,after,guard⟩ s q.1:=by
    intro k
    simp only[fE,hr,pk,EC]
    cases (((aK 1000 as).run s.hp).bind fun nW=>match C.iU g with
      |some h=>(h nW).bind fun q=>((fN s.hp.length q.1 q.2).run s.hp).map fun e=>(e,(aK 1000 as).log s.hp)
      |none=>(lZ C k g nW []).bind (pn s.hp.length ((aK 1000 as).log s.hp) s.hp))<;>rfl
   simp only[EB]
   cases hs:(aK 1000 as).run s.hp with
   |none=>exact bU (jt C _ _) (by simp[fE]) fun k=>by rw[dH,hs]; rfl
   |some nW=>
    simp only[Option.bind_some]
    cases hi:C.iU g with
    |some h=>exact bU (jt C _ _) (by simp[fE]) fun k=>by rw[dH,hs]; simp only[Option.bind_some,hi]
    |none=>
     simp only[Option.bind_assoc]
     refine ei (jt C _ _) (mo C g nW []) (by simp[fE]) fun k=>?_
     rw[dH,hs]
     simp only[Option.bind_some,hi,Option.bind_assoc]
  |false=>
  simp only
  cases hk:C.kind g with
  |pure=>
   refine ei (jt C _ _) (B9 C g as s.hp) (by simp[fE]) fun k=>?_
   simp only[fE,hr,pk,hk]
   cases hq:(kX C k g as).run s.hp with
   |none=>rfl
   |some q=>obtain⟨r,wr⟩:=q; cases r<;>rfl
  |imp=>
   refine ei (jt C _ _) (mo C g as s.hp) (by simp[fE]) fun k=>?_
   simp only[fE,hr,pk,hk]
   cases hq:lZ C k g as s.hp with
   |none=>rfl
   |some q=>obtain⟨r,wr⟩:=q; cases r<;>rfl
theorem zM[ab]{dst:Option Tmp}{rv:Operand}{name:String}{args:Array Operand}{mj:Array TypeId}{type:TypeId}{pos:String}{after:Array Edge}{guard:Option (Nat×Bool)}(s:St):
  ic C ⟨dst,.call ⟨.invoke rv name,args,mj⟩,type,pos,after,guard⟩ s=(pc C.P (az s.fr rv) name).bind fun q=>rf C ⟨dst,.call ⟨.invoke rv name,args,mj⟩,type,pos,after,guard⟩ s (q.1,q.2::args.toList.map (az s.fr)):=by
 cases hr:pc C.P (az s.fr rv) name with
 |none=>exact bU (jt C _ _) (by simp[fE]) fun k=>by simp only[fE,hr]; rfl
 |some q=>
  obtain⟨g,x⟩:=q
  simp only[Option.bind_some,rf]
  have pk:au (Op.call ⟨.invoke rv name,args,mj⟩)=false:=rfl
  rw[pk]
  simp only
  cases hk:C.kind g with
  |pure=>
   refine ei (jt C _ _) (B9 C g _ s.hp) (by simp[fE]) fun k=>?_
   simp only[fE,hr,hk]
   cases hq:(kX C k g (x::args.toList.map (az s.fr))).run s.hp with
   |none=>rfl
   |some q=>obtain⟨r,wr⟩:=q; cases r<;>rfl
  |imp=>
   refine ei (jt C _ _) (mo C g _ s.hp) (by simp[fE]) fun k=>?_
   simp only[fE,hr,hk]
   cases hq:lZ C k g (x::args.toList.map (az s.fr)) s.hp with
   |none=>rfl
   |some q=>obtain⟨r,wr⟩:=q; cases r<;>rfl
def qg:Op→Bool
 |.call c=>match c.callee with
  |.builtin _=>true
  |_=>false
 |.assign (.const (.slice none 0 0))=>false
 |_=>true
def Gf(C:Ctx)(o:Oper)(s:St)(e:dg):Option Out:=some (.norm (BT (match o.op with|.call _=>fun _=>[]|_=>C.qP s.fn) o.dst { s with fr:=bC s.fr o.dst e.val,hp:=ai s.hp e.wr }))
theorem xj{dst:Option Tmp}{s:St}:BT (fun _=>[]) dst s=s:=by cases dst<;>rfl
theorem xk[ab]{o:Oper}(h:qg o.op=true)(s:St):ic C o s=((aM C.P s.hp.length (az s.fr) o).run s.hp).bind (Gf C o s):=by
 refine bU (jt C _ _) (by simp[fE]) fun k=>?_
 obtain⟨dst,op,type,pos,after,guard⟩:=o
 rw[fE]
 split
 ·grind[Gf,xj,qg]
 ·simp_all[qg]
 ·grind[Gf]
class jB(C:Ctx):Prop where
 h:C.qP=fun _ _=>[]
 iq:C.iq=fun _ _=>[]
theorem eF[ab][jB C]{o:Oper}(h:qg o.op=true)(s:St):ic C o s=((aM C.P s.hp.length (az s.fr) o).run s.hp).bind (gD o s):=by
 rw[xk h]
 congr 1
 funext e
 have hl:(match o.op with|.call _=>fun _=>[]|_=>C.qP s.fn)=fun _=>[]:=by
  rw[jB.h (C:=C)]; cases o.op<;>rfl
 simp only[Gf,hl,xj,gD]
theorem Jz[ab]{dst:Tmp}{type:TypeId}{pos:String}{after:Array Edge}{guard:Option (Nat×Bool)}(s:St):
  ic C ⟨some dst,.assign (.const (.slice none 0 0)),type,pos,after,guard⟩ s =
   cond (C.acc s.fn dst) ((aP C.P type).bind fun r=>if 0<r.size then some (.norm { s with fr:=s.fr.set dst (.bp r.size s.hp.length 0 0 0 none),hp:=s.hp++[some (.arr true true false [])] }) else none)
    (some (.norm { s with fr:=s.fr.set dst (.lit cK) })):=by
 refine bU (jt C _ _) (by simp[fE]) fun k=>?_
 simp only[fE]
 cases C.acc s.fn dst with
 |true=>
  simp only[if_true,cond_true]
  cases aP C.P type<;>rfl
 |false=>rfl
end Go.PI
end
section
/- PI, drawn regions without fuel. -/
namespace Go.PI
variable {C:Ctx}
noncomputable def Cd[ab](C:Ctx)(nm:Nat)(o:Oper)(fr:List AV)(hp:ag):Option (dg×List Nat):=
 ma fun k=>((ir C k nm o fr).run hp).map fun e=>(e,(ir C k nm o fr).log hp)
theorem Gg[ab](C:Ctx)(nm:Nat)(o:Oper)(fr:List AV)(hp:ag):fF fun k=>((ir C k nm o fr).run hp).map fun e=>(e,(ir C k nm o fr).log hp):=by
 intro k x h
 simp only at h ⊢
 cases hq:(ir C k nm o fr).run hp with
 |none=>rw[hq]at h; simp at h
 |some e=>
  obtain⟨h1,h2⟩:=(mono C k).e nm o fr hp e hq
  rw[hq]at h
  rw[h1,h2]
  exact h
def Pv[ab](x:Item)(s:St):dg×List Nat→Option (St×fk)
 |(e,lg)=>
  if e.wr.all (fun q=>decide (q.1<s.hp.length)&&((au x.o.op&&decide (q.1=x.nm))||(match s.hp[q.1]? with|some (some _)=>true|_=>false)))=true then
   some ({ s with fr:=bC s.fr x.o.dst e.val,hp:=ai s.hp e.wr },⟨x.idx,lg,e.wr.map (·.1)⟩)
  else none
noncomputable def Ce[ab](C:Ctx)(ops:Array Oper)(x:Item)(s:St):Option (St×fk):=
 match cF ops s.fr x.o with
 |none=>none
 |some false=>some ({ s with fr:=bC s.fr x.o.dst .undef },⟨x.idx,[],[]⟩)
 |some true=>(Cd C (x.at s.hp.length) x.o s.fr s.hp).bind (Pv x s)
noncomputable def sW[ab](C:Ctx)(ops:Array Oper):List Item→St→Option (St×List fk)
 |[],s=>some (s,[])
 |x::rest,s=>(Ce C ops x s).bind fun q=>(sW C ops rest q.1).map fun q'=>(q'.1,q.2::q'.2)
theorem xl[ab](ops:Array Oper)(x:Item)(s:St):fF fun k=>e9 (fun nm o fr=>ir C k nm o fr) ops x s:=
 fun k r h=>xg (fun nm o fr hp=>(mono C k).e nm o fr hp) ops x s r h
theorem po[ab](ops:Array Oper)(l:List Item)(s:St):fF fun k=>cw (fun nm o fr=>ir C k nm o fr) ops l s:=
 fun k r h=>nU (fun nm o fr hp=>(mono C k).e nm o fr hp) ops l s r h
theorem Gh[ab]{α β:Type}{a:Nat→Option α}(ha:fF a)(f:α→Option β):ma (fun k=>(a k).bind f)=(ma a).bind f:=by
 apply kK
 ·intro k x h
  cases hq:a k with
  |none=>simp[hq]at h
  |some y=>
   have h2:=ha k y hq
   simp only[hq]at h
   simp only[h2]
   exact h
 ·intro k x h
  cases hq:a k with
  |none=>simp[hq]at h
  |some y=>simp only[hq]at h; rw[(bg ha).2 ⟨k,hq⟩]; exact h
 ·intro x h
  cases hq:ma a with
  |none=>rw[hq]at h; simp at h
  |some y=>
   rw[hq]at h
   obtain⟨k,hk⟩:=(bg ha).1 hq
   exact⟨k,by rw[hk]; exact h⟩
theorem Hq[ab](ops:Array Oper)(x:Item)(s:St):ma (fun k=>e9 (fun nm o fr=>ir C k nm o fr) ops x s)=Ce C ops x s:=by
 unfold Ce
 cases hw:cF ops s.fr x.o with
 |none=>simp only[e9,hw]; exact gi _
 |some b=>
  cases b with
  |false=>simp only[e9,hw]; exact gi _
  |true=>
   rw[show (fun k=>e9 (fun nm o fr=>ir C k nm o fr) ops x s)=fun k=>(((ir C k (x.at s.hp.length) x.o s.fr).run s.hp).map fun e=>(e,(ir C k (x.at s.hp.length) x.o s.fr).log s.hp)).bind (Pv x s) from ?_]
   ·exact Gh (Gg C (x.at s.hp.length) x.o s.fr s.hp) _
   ·funext k
    simp only[e9,hw]
    cases hq:(ir C k (x.at s.hp.length) x.o s.fr).run s.hp<;>rfl
theorem pq[ab](ops:Array Oper):∀ (l:List Item) (s:St),ma (fun k=>cw (fun nm o fr=>ir C k nm o fr) ops l s)=sW C ops l s
 |[],s=>gi _
 |x::l,s=>by
  simp only[sW]
  rw[←Hq]
  apply kK (po ops (x::l) s)
  ·intro k r h
   simp only[cw]at h
   cases hq:e9 (fun nm o fr=>ir C k nm o fr) ops x s with
   |none=>rw[hq]at h; simp at h
   |some q=>
    obtain⟨s1,f⟩:=q
    rw[hq]at h
    simp only at h
    rw[(bg (xl ops x s)).2 ⟨k,hq⟩]
    cases hd:cw (fun nm o fr=>ir C k nm o fr) ops l s1 with
    |none=>rw[hd]at h; simp at h
    |some q2=>
     rw[hd]at h
     simp only[Option.bind_some]
     rw[←pq ops l s1,(bg (po ops l s1)).2 ⟨k,hd⟩]
     exact h
  ·intro r h
   cases hq:ma (fun k=>e9 (fun nm o fr=>ir C k nm o fr) ops x s) with
   |none=>rw[hq]at h; simp at h
   |some q=>
    obtain⟨s1,f⟩:=q
    rw[hq]at h
    simp only[Option.bind_some]at h
    rw[←pq ops l s1]at h
    cases hd:ma (fun k=>cw (fun nm o fr=>ir C k nm o fr) ops l s1) with
    |none=>rw[hd]at h; simp at h
    |some q2=>
     rw[hd]at h
     obtain⟨k1,h1⟩:=(bg (xl ops x s)).1 hq
     obtain⟨k2,h2⟩:=(bg (po ops l s1)).1 hd
     have h3:=(xl ops x s).le h1 k2
     have h4:=(po ops l s1).le h2 k1
     rw[Nat.add_comm]at h4
     refine⟨k1+k2,?_⟩
     simp only[cw]
     rw[h3]
     simp only
     rw[h4]
     exact h
noncomputable def Gi[ab](C:Ctx)(ops:Array Oper)(m:Nat)(q:St×List fk):Option Out:=
 if (eO (ca ops.toList) q.2&&mE (ca ops.toList) ops.size m)=true then cE (ic C) ops (ops.toList.drop m) q.1 else none
theorem Hr[ab](id:Nat)(ops:Array Oper)(h:sN ops=true)(s:St):cQ C (.region id ops true) s =
  (sW C ops (bD 0 s.hp.length (ops.toList.take (C.head s.fn id ops))) { gF (C.iq s.fn id) s with hp:=(gF (C.iq s.fn id) s).hp++List.replicate ((ops.toList.take (C.head s.fn id ops)).filter fun o=>au o.op).length none }).bind (Gi C ops (C.head s.fn id ops)):=by
 rw[←pq]
 refine Eq.trans (sV (dJ C (.region id ops true) s) (po ops _ _) (b:=fun q k=>if (eO (ca ops.toList) q.2&&mE (ca ops.toList) ops.size (C.head s.fn id ops))=true then
   cE (fun o s=>fE C k o s) ops (ops.toList.drop (C.head s.fn id ops)) q.1 else none) (fun q=>by
    by_cases hc:(eO (ca ops.toList) q.2&&mE (ca ops.toList) ops.size (C.head s.fn id ops))=true
    ·simp only[hc,if_true]; exact dU ops _ _
    ·simp only[hc]; exact mr _) (by simp[bS]) (fun k=>by
   simp only[bS,h,if_true]
   cases hq:cw (fun nm o fr=>ir C k nm o fr) ops (bD 0 s.hp.length (ops.toList.take (C.head s.fn id ops))) { gF (C.iq s.fn id) s with hp:=(gF (C.iq s.fn id) s).hp++List.replicate ((ops.toList.take (C.head s.fn id ops)).filter fun o=>au o.op).length none } with
   |none=>rfl
   |some q=>rfl)) ?_
 congr 1
 funext q
 unfold Gi
 by_cases hc:(eO (ca ops.toList) q.2&&mE (ca ops.toList) ops.size (C.head s.fn id ops))=true
 ·simp only[hc,if_true]; exact jA ops _ _
 ·simp only[hc]; exact gi _
theorem EE[ab]{o:Oper}(h:∀ c f,o.op=.call c→c.callee=.value f→False)(h2:∀ c m i,o.op=.call c→c.callee=.invoke m i→False)(nm:Nat)(fr:List AV)(hp:ag):
  Cd C nm o fr hp=((aM C.P nm (az fr) o).run hp).map fun e=>(e,(aM C.P nm (az fr) o).log hp):=by
 refine bU (Gg C _ _ _ _) (by simp[ir,RM.ae]) fun k=>?_
 obtain⟨dst,op,type,pos,after,guard⟩:=o
 cases op with
 |call c=>
  obtain⟨callee,args,mj⟩:=c
  cases callee with
  |builtin b=>simp only[ir]
  |value f=>exact(h _ _ rfl rfl).elim
  |invoke m i=>exact(h2 _ _ _ rfl rfl).elim
 |_=>simp only[ir]
def JA(hp:ag)(args:List AV)(q:nM×ag):List Nat:=(aK 1000 args).log hp++(gg args q.2 q.1).log hp
def nu(hp:ag)(args:List AV)(q:nM×ag):Option (dg×List Nat):=
 (nq hp args q).bind fun r=>match r.1 with
   |.val v=>some (⟨v,r.2⟩,JA hp args q)
   |.jL _=>none
noncomputable def pt[ab](C:Ctx)(nm:Nat)(al:Bool)(hp:ag):FuncId×List AV→Option (dg×List Nat)
 |(g,args)=>match al with
  |true=>EB C nm g args hp
  |false=>match C.kind g with
  |.pure=>match C.kn g with
   |some h=>((aK 1000 args).run hp).bind fun as=>(h as).bind fun r=>nu hp args (.val r,[])
   |none=>((aK 1000 args).run hp).bind fun as=>(kp C g as []).bind (nu hp args)
  |.imp=>(match C.qY g with
   |some h=>((h args).run hp).map fun e=>(e,(h args).log hp)
   |none=>((yN C.P nm g args).run hp).map fun e=>(e,(yN C.P nm g args).log hp))
theorem JB[ab]{hp:ag}{args as:List AV}{g:FuncId}{k:Nat}(hs:(aK 1000 args).run hp=some as)(hi:C.kn g=none){q:nM×ag}(hq:lZ C k g as []=some q):
  (((kX C (k+1) g args >>= fun (x:nM×List (Nat×aI))=>match x.1 with|.val r=>(pure ⟨r,x.2⟩:RM dg)|.jL _=>RM.fail).run hp).map fun e=>(e,(kX C (k+1) g args >>= fun (x:nM×List (Nat×aI))=>match x.1 with|.val r=>(pure ⟨r,x.2⟩:RM dg)|.jL _=>RM.fail).log hp))=nu hp args q:=by
 have h1:(kX C (k+1) g args).run hp=nq hp args q:=by
  rw[kX,RM.run_bind,hs]
  simp only[Option.bind_some,hi,hq]
  rfl
 have h2:(kX C (k+1) g args).log hp=JA hp args q:=by
  rw[kX,RM.eh,hs]
  simp only[hi,hq]
  rfl
 rw[RM.run_bind,RM.eh,h1,h2]
 unfold nu
 cases cm:nq hp args q with
 |none=>rfl
 |some r=>
  obtain⟨r,wr⟩:=r
  cases r with
  |val v=>simp only[Option.bind_some,pure,RM.log,List.append_nil]; rfl
  |jL v=>rfl
theorem xm[ab]{o:Oper}{nm:Nat}{fr:List AV}{hp:ag}{g:FuncId}{as:List AV}(hk:C.kind g=.pure)
  (nX:∀ k,ir C (k+1) nm o fr=(kX C k g as >>= fun (x:nM×List (Nat×aI))=>match x.1 with|.val r=>(pure ⟨r,x.2⟩:RM dg)|.jL _=>RM.fail)) :
  Cd C nm o fr hp=pt C nm false hp (g,as):=by
 have hg:=Gg C nm o fr hp
 have hz:((ir C 0 nm o fr).run hp).map (fun e=>(e,(ir C 0 nm o fr).log hp))=none:=by
  simp[ir,RM.ae]
 simp only[pt,hk]
 cases hs:(aK 1000 as).run hp with
 |none=>
  have bf:∀ k,(kX C k g as).run hp=none:=by
   intro k
   cases k with
   |zero=>simp[kX,RM.ae]
   |succ k=>rw[kX,RM.run_bind,hs]; rfl
  have:(match C.kn g with
    |some h=>(none:Option (List AV)).bind fun nW=>(h nW).bind fun r=>nu hp as (.val r,[])
    |none=>(none:Option (List AV)).bind fun nW=>(kp C g nW []).bind (nu hp as))=none:=by cases C.kn g<;>rfl
  rw[this]
  refine bU hg hz fun k=>?_
  rw[nX,RM.run_bind,bf]; rfl
 |some nW=>
  cases hi:C.kn g with
  |some h=>
   simp only[Option.bind_some]
   have h1:∀ k,(kX C (k+1) g as).run hp=(h nW).bind fun r=>nq hp as (.val r,[]):=by
    intro k
    rw[kX,RM.run_bind,hs]
    simp only[Option.bind_some,hi]
    cases h nW<;>rfl
   have h2:∀ k,(kX C (k+1) g as).log hp=(aK 1000 as).log hp++(match h nW with|some r=>(gg as [] (.val r)).log hp|none=>[]):=by
    intro k
    rw[kX,RM.eh,hs]
    simp only[hi]
    cases h nW<;>rfl
   have h3:∀ k,((ir C (k+1+1) nm o fr).run hp).map (fun e=>(e,(ir C (k+1+1) nm o fr).log hp))=(h nW).bind fun r=>nu hp as (.val r,[]):=by
    intro k
    rw[nX,RM.run_bind,RM.eh,h1,h2]
    cases hh:h nW with
    |none=>rfl
    |some r=>
     simp only[Option.bind_some,nu]
     cases cm:nq hp as (.val r,[]) with
     |none=>rfl
     |some r=>
      obtain⟨r,wr⟩:=r
      cases r with
      |val v=>simp only[Option.bind_some,pure,RM.log,List.append_nil]; rfl
      |jL v=>rfl
   apply kK hg
   ·intro k x hx
    match k with
    |0=>rw[hz]at hx; cases hx
    |1=>
     rw[nX,RM.run_bind]at hx
     simp[kX,RM.ae]at hx
    |k+2=>rw[←h3 k]; exact hx
   ·intro x hx
    exact⟨2,by rw[h3 0]; exact hx⟩
  |none=>
   simp only[Option.bind_some]
   have h3:∀ k,((ir C (k+1+1) nm o fr).run hp).map (fun e=>(e,(ir C (k+1+1) nm o fr).log hp))=(lZ C k g nW []).bind (nu hp as):=by
    intro k
    cases hq:lZ C k g nW [] with
    |none=>
     rw[nX,RM.run_bind,kX,RM.run_bind,hs]
     simp only[Option.bind_some,hi,hq,RM.ae]
     rfl
    |some q=>
     rw[nX]
     exact JB hs hi hq
   have hb:ma (fun k=>(lZ C k g nW []).bind (nu hp as))=(kp C g nW []).bind (nu hp as):=Gh (mo C g nW []) _
   rw[←hb]
   apply kK hg
   ·intro k x hx
    match k with
    |0=>rw[hz]at hx; cases hx
    |1=>
     rw[nX,RM.run_bind]at hx
     simp[kX,RM.ae]at hx
    |k+2=>
     rw[h3 k]at hx
     rw[hb]
     cases hq:lZ C k g nW [] with
     |none=>rw[hq]at hx; simp at hx
     |some q=>rw[hq]at hx; rw[show kp C g nW []=some q from (bg (mo C g nW [])).2 ⟨k,hq⟩]; exact hx
   ·intro x hx
    rw[hb]at hx
    cases hq:kp C g nW [] with
    |none=>rw[hq]at hx; simp at hx
    |some q=>
     rw[hq]at hx
     obtain⟨k,hk⟩:=(bg (mo C g nW [])).1 hq
     exact⟨k+1+1,by rw[h3 k,hk]; exact hx⟩
theorem Ht[ab]{dst:Option Tmp}{rv:Operand}{name:String}{args:Array Operand}{mj:Array TypeId}{type:TypeId}{pos:String}{after:Array Edge}{guard:Option (Nat×Bool)}{nm:Nat}{fr:List AV}{hp:ag}{g:FuncId}{x:AV}
  (hr:pc C.P (az fr rv) name=some (g,x)) (hk:C.kind g=.pure):Cd C nm ⟨dst,.call ⟨.invoke rv name,args,mj⟩,type,pos,after,guard⟩ fr hp=pt C nm false hp (g,x::args.toList.map (az fr)):=by
 refine xm hk fun k=>?_
 simp only[ir,hr,hk]
 congr 1
theorem uk[ab]{dst:Option Tmp}{f:Operand}{args:Array Operand}{mj:Array TypeId}{type:TypeId}{pos:String}{after:Array Edge}{guard:Option (Nat×Bool)}(nm:Nat)(fr:List AV)(hp:ag):
  Cd C nm ⟨dst,.call ⟨.value f,args,mj⟩,type,pos,after,guard⟩ fr hp=(bz (az fr f) (args.toList.map (az fr))).bind (pt C nm (au (Op.call ⟨.value f,args,mj⟩)) hp):=by
 have hg:=Gg C nm ⟨dst,.call ⟨.value f,args,mj⟩,type,pos,after,guard⟩ fr hp
 have hz:((ir C 0 nm ⟨dst,.call ⟨.value f,args,mj⟩,type,pos,after,guard⟩ fr).run hp).map (fun e=>(e,(ir C 0 nm ⟨dst,.call ⟨.value f,args,mj⟩,type,pos,after,guard⟩ fr).log hp))=none:=by
  simp[ir,RM.ae]
 cases hr:bz (az fr f) (args.toList.map (az fr)) with
 |none=>exact bU hg hz fun k=>by simp only[ir,hr,RM.ae]; rfl
 |some q=>
  obtain⟨g,as⟩:=q
  simp only[Option.bind_some,pt]
  cases pk:au (Op.call ⟨.value f,args,mj⟩) with
  |true=>
   have dH:∀ k,((ir C (k+1) nm ⟨dst,.call ⟨.value f,args,mj⟩,type,pos,after,guard⟩ fr).run hp).map (fun e=>(e,(ir C (k+1) nm ⟨dst,.call ⟨.value f,args,mj⟩,type,pos,after,guard⟩ fr).log hp)) =
     ((aK 1000 as).run hp).bind fun nW=>match C.iU g with
       |some h=>(h nW).bind fun q=>((fN nm q.1 q.2).run hp).map fun e=>(e,(aK 1000 as).log hp)
       |none=>(lZ C k g nW []).bind (pn nm ((aK 1000 as).log hp) hp):=by
    intro k
    have:=zK (C:=C) (F:=fun as=>lZ C k g as []) (nm:=nm) (g:=g) (args:=as) (hp:=hp)
    simp only[ir,hr,pk]
    exact this
   simp only[EB]
   cases hs:(aK 1000 as).run hp with
   |none=>exact bU hg hz fun k=>by rw[dH,hs]; rfl
   |some nW=>
    simp only[Option.bind_some]
    cases hi:C.iU g with
    |some h=>exact bU hg hz fun k=>by rw[dH,hs]; simp only[Option.bind_some,hi]
    |none=>
     refine ei hg (mo C g nW []) hz fun k=>?_
     rw[dH,hs]
     simp only[Option.bind_some,hi]
  |false=>
  simp only
  cases hk:C.kind g with
  |imp=>
   cases hi:C.qY g with
   |some h=>exact bU hg hz fun k=>by simp only[ir,hr,pk,hk,hi]
   |none=>exact bU hg hz fun k=>by simp only[ir,hr,pk,hk,hi]
  |pure=>
   rw[xm (g:=g) (as:=as) hk fun k=>by
    simp only[ir,hr,pk,hk]
    congr 1]
   simp only[pt,hk]
end Go.PI
end
section
/- PI, guards resolved. -/
namespace Go.PI
inductive G where
 |always
 |never
 |on (d:Tmp) (w:Bool)
def eQ(ops:Array Oper)(o:Oper):G:=
 match o.guard with
 |none=>.always
 |some (j,w)=>match (ops[j]?).bind (·.dst) with
  |none=>.never
  |some d=>.on d w
def Rq(w:Bool):AV→Option Bool
 |.lit (.bool b)=>some (b==w)
 |.lit (.tuple _)=>some false
 |_=>none
def sQ(fr:List AV):G→Option Bool
 |.always=>some true
 |.never=>some false
 |.on d w=>Rq w (fr.getD d .undef)
theorem BV(ops:Array Oper)(fr:List AV)(o:Oper):cF ops fr o=sQ fr (eQ ops o):=by
 unfold cF eQ
 cases o.guard with
 |none=>rfl
 |some q=>
  obtain⟨j,w⟩:=q
  simp only
  cases (ops[j]?).bind (·.dst) with
  |none=>rfl
  |some d=>
   simp only[sQ,List.getD]
   cases hq:fr[d]? with
   |none=>rfl
   |some v=>
    simp only[Option.getD_some]
    cases v with
    |lit v=>cases v<;>rfl
    |_=>rfl
end Go.PI
end
section
/- PI, looking up in written-out frames. -/
namespace Go.PI
section
variable {α:Type}{x u v:AV}{l:List AV}{n:Nat}
theorem MD:(x::l).getD 0 u=x:=rfl
theorem ME:(x::l).getD (n+1) u=l.getD n u:=rfl
theorem MF:(x::l).set 0 v=v::l:=rfl
theorem MG:(x::l).set (n+1) v=x::l.set n v:=rfl
end
end Go.PI
end
section
/- PI, laws to compute by. -/
namespace Go.PI
abbrev int(n:Int):AV:=.lit (.int .i64 n)
abbrev bol(b:Bool):AV:=.lit (.bool b)
section
variable {P:Program}{t:TypeId}{xo yo:Operand}{k:IntKind}{a b:Int}
theorem ej{op:BinOp}{v w:Value}{α:Type}(K:Unit→Sem α)(h:∀ c,v≠.agg c)(h2:v≠.nilIface):
  bk P (eqGuard op t xo yo v w >>= K)=bk P (K ()):=by
 unfold eqGuard
 cases op<;>first
  |rfl
  |(cases v<;>first|rfl|exact absurd rfl (h _)|exact absurd rfl h2)
theorem qj[ab]:fj P .lss t xo yo (.lit (.int k a)) (.lit (.int k b))=some (bol (decide (a<b))):=by
 simp only[fj,ee,c8]; rw[ej _ (by simp) (by simp)]; simp[binOp,Op.intCmp]; rfl
theorem MY[ab]:fj P .leq t xo yo (.lit (.int k a)) (.lit (.int k b))=some (bol (decide (a≤b))):=by
 simp only[fj,ee,c8]; rw[ej _ (by simp) (by simp)]; simp[binOp,Op.intCmp]; rfl
theorem Gn[ab]:fj P .gtr t xo yo (.lit (.int k a)) (.lit (.int k b))=some (bol (decide (b<a))):=by
 simp only[fj,ee,c8]; rw[ej _ (by simp) (by simp)]; simp[binOp,Op.intCmp]; rfl
theorem MZ[ab]:fj P .geq t xo yo (.lit (.int k a)) (.lit (.int k b))=some (bol (decide (b≤a))):=by
 simp only[fj,ee,c8]; rw[ej _ (by simp) (by simp)]; simp[binOp,Op.intCmp]; rfl
theorem M0[ab]:fj P .eql t xo yo (.lit (.int k a)) (.lit (.int k b))=some (bol (decide (a=b))):=by
 simp only[fj,ee,c8]; rw[ej _ (by simp) (by simp)]; simp[binOp,Op.intCmp]; rfl
theorem M1[ab]:fj P .neq t xo yo (.lit (.int k a)) (.lit (.int k b))=some (bol (!decide (a=b))):=by
 simp only[fj,ee,c8]; rw[ej _ (by simp) (by simp)]; simp[binOp,Op.intCmp]; rfl
theorem A3[ab]:fj P .add t xo yo (.lit (.int k a)) (.lit (.int k b))=some (.lit (.int k (k.wrap (a+b)))):=by
 simp only[fj,ee,c8]; rw[ej _ (by simp) (by simp)]; simp[binOp,Op.intArith]; rfl
theorem Gp[ab]:fj P .sub t xo yo (.lit (.int k a)) (.lit (.int k b))=some (.lit (.int k (k.wrap (a-b)))):=by
 simp only[fj,ee,c8]; rw[ej _ (by simp) (by simp)]; simp[binOp,Op.intArith]; rfl
theorem M3[ab]:fj P .mul t xo yo (.lit (.int k a)) (.lit (.int k b))=some (.lit (.int k (k.wrap (a*b)))):=by
 simp only[fj,ee,c8]; rw[ej _ (by simp) (by simp)]; simp[binOp,Op.intArith]; rfl
end
variable {C:Ctx}
noncomputable def tb[ab](C:Ctx):List (G×Oper)→St→Option Out
 |[],s=>some (.norm s)
 |(g,o)::l,s=>
  match sQ s.fr g with
  |none=>none
  |some false=>tb C l { s with fr:=bC s.fr o.dst .undef }
  |some true=>(ic C o s).bind fun
   |.norm s'=>tb C l s'
   |r=>some r
def pB(ops:Array Oper):List (G×Oper):=ops.toList.map fun o=>(eQ ops o,o)
theorem pC[ab](ops:Array Oper):∀ (l:List Oper) (s:St),cE (ic C) ops l s=tb C (l.map fun o=>(eQ ops o,o)) s
 |[],s=>rfl
 |o::l,s=>by
  simp only[cE,List.map_cons,tb,BV]
  cases hq:sQ s.fr (eQ ops o) with
  |none=>rfl
  |some b=>
   cases b with
   |false=>exact pC ops l _
   |true=>
    simp only
    cases ic C o s with
    |none=>rfl
    |some r=>
     cases r with
     |norm s'=>exact pC ops l s'
     |_=>rfl
theorem zR[ab](id:Nat)(ops:Array Oper)(s:St):cQ C (.region id ops false) s=tb C (pB ops) (gF (C.iq s.fn id) s):=by
 rw[Ca,pC]; rfl
theorem jb[ab][jB C](id:Nat)(ops:Array Oper)(s:St):cQ C (.region id ops false) s=tb C (pB ops) s:=by
 rw[zR,jB.iq (C:=C)]; rfl
theorem ka[ab](s:St):tb C [] s=some (.norm s):=rfl
noncomputable def OF[ab](C:Ctx)(l:List (G×Oper)):Out→Option Out
 |.norm s=>tb C l s
 |r=>some r
theorem dV[ab](o:Oper)(l:List (G×Oper))(s:St):tb C ((.always,o)::l) s=(ic C o s).bind (OF C l):=by
 simp only[tb,sQ]
 congr 1
end Go.PI
namespace Go.PI
variable {C:Ctx}
theorem A4(hp:ag)(x:Option AV):(match x with|some x=>(pure ⟨x,[]⟩:RM dg)|none=>RM.fail).run hp=x.map fun x=>⟨x,[]⟩:=by
 cases x<;>rfl
section
variable {P:Program}{nm:Nat}{ev:Operand→AV}{dst:Option Tmp}{type:TypeId}{pos:String}{after:Array Edge}{guard:Option (Nat×Bool)}{hp:ag}
theorem n5{x:Operand}:(aM P nm ev ⟨dst,.move x,type,pos,after,guard⟩).run hp=some ⟨ev x,[]⟩:=rfl
theorem k6{x:Operand}:(aM P nm ev ⟨dst,.assign x,type,pos,after,guard⟩).run hp=some ⟨ev x,[]⟩:=rfl
theorem xE[ab]{op:BinOp}{t yt:TypeId}{x y:Operand}:(aM P nm ev ⟨dst,.binOp op t x y yt,type,pos,after,guard⟩).run hp=(fj P op t x y (ev x) (ev y)).map fun x=>⟨x,[]⟩:=A4 _ _
end
section
variable {dst:Option Tmp}{type:TypeId}{pos:String}{after:Array Edge}{guard:Option (Nat×Bool)}{s:St}
theorem n6[ab][jB C]{x:Operand}:ic C ⟨dst,.move x,type,pos,after,guard⟩ s=((aM C.P s.hp.length (az s.fr) ⟨dst,.move x,type,pos,after,guard⟩).run s.hp).bind (gD ⟨dst,.move x,type,pos,after,guard⟩ s):=eF rfl s
theorem Gq[ab][jB C]{t:TypeId}{x:Operand}:ic C ⟨dst,.load t x,type,pos,after,guard⟩ s=((aM C.P s.hp.length (az s.fr) ⟨dst,.load t x,type,pos,after,guard⟩).run s.hp).bind (gD ⟨dst,.load t x,type,pos,after,guard⟩ s):=eF rfl s
theorem pD[ab][jB C]{o:BinOp}{t u:TypeId}{x y:Operand}:ic C ⟨dst,.binOp o t x y u,type,pos,after,guard⟩ s=((aM C.P s.hp.length (az s.fr) ⟨dst,.binOp o t x y u,type,pos,after,guard⟩).run s.hp).bind (gD ⟨dst,.binOp o t x y u,type,pos,after,guard⟩ s):=eF rfl s
theorem JV[ab][jB C]{t:TypeId}{x:Operand}{a b c:Option Operand}:ic C ⟨dst,.slice t x a b c,type,pos,after,guard⟩ s=((aM C.P s.hp.length (az s.fr) ⟨dst,.slice t x a b c,type,pos,after,guard⟩).run s.hp).bind (gD ⟨dst,.slice t x a b c,type,pos,after,guard⟩ s):=eF rfl s
theorem tc[ab][jB C]{t:TypeId}{x y:Operand}:ic C ⟨dst,.indexAddr t x y,type,pos,after,guard⟩ s=((aM C.P s.hp.length (az s.fr) ⟨dst,.indexAddr t x y,type,pos,after,guard⟩).run s.hp).bind (gD ⟨dst,.indexAddr t x y,type,pos,after,guard⟩ s):=eF rfl s
theorem lF[ab][jB C]{b:Builtin}{as:Array Operand}{ts:Array TypeId}:ic C ⟨dst,.call ⟨.builtin b,as,ts⟩,type,pos,after,guard⟩ s=((aM C.P s.hp.length (az s.fr) ⟨dst,.call ⟨.builtin b,as,ts⟩,type,pos,after,guard⟩).run s.hp).bind (gD ⟨dst,.call ⟨.builtin b,as,ts⟩,type,pos,after,guard⟩ s):=eF rfl s
theorem pE[ab][jB C]{t:Tmp}:ic C ⟨dst,.assign (.tmp t),type,pos,after,guard⟩ s=((aM C.P s.hp.length (az s.fr) ⟨dst,.assign (.tmp t),type,pos,after,guard⟩).run s.hp).bind (gD ⟨dst,.assign (.tmp t),type,pos,after,guard⟩ s):=eF rfl s
theorem JW[ab][jB C]{k:IntKind}{n:Int}:ic C ⟨dst,.assign (.const (.int k n)),type,pos,after,guard⟩ s=((aM C.P s.hp.length (az s.fr) ⟨dst,.assign (.const (.int k n)),type,pos,after,guard⟩).run s.hp).bind (gD ⟨dst,.assign (.const (.int k n)),type,pos,after,guard⟩ s):=eF rfl s
end
end Go.PI
namespace Go.PI
variable {C:Ctx}
theorem Gr{x:AV}:cB [x]=x:=rfl
theorem Gs{P:Program}{fr:List AV}{hp:ag}:(aU P fr []).run hp=some []:=rfl
theorem Gt[ab]{P:Program}{fr:List AV}{hp:ag}{t:Tmp}{rs:List ResultVar}:(aU P fr (.tmp t::rs)).run hp=((aU P fr rs).run hp).map fun l=>fr.getD t .undef::l:=by
 simp only[aU,jM,RM.run_bind]
 show (some (fr.getD t .undef)).bind _=_
 simp only[Option.bind_some]
 cases (aU P fr rs).run hp<;>rfl
theorem kM{hp:ag}:ai hp []=hp:=rfl
theorem JX{hp:ag}{n:Nat}{o:aI}{l:List (Nat×aI)}:ai hp ((n,o)::l)=ai (setObj hp n o) l:=rfl
theorem EN{hp:ag}{n:Nat}{o:aI}(h:n=hp.length):setObj hp n o=hp++[some o]:=by simp[setObj,h]
def PG:Option (Nat×bH)→AV→Option dg
 |some (off,_),.ref n aq i j=>some ⟨.ref n aq i (j+off),[]⟩
 |some (off,_),.bc e j=>some ⟨.bc e (j+off),[]⟩
 |_,_=>none
def JY(x:Option AV):Option dg:=x.map fun x=>⟨x,[]⟩
def Gu(r:bH)(hp:ag):AV→Option AV
 |.ref n aq i j=>match hp[n]? with
  |some (some (.arr _ _ _ es))=>if es.length=aq then (match es[i]? with|some e=>eE r.isAgg r.size e j|none=>none) else none
  |_=>none
 |.bc e j=>eE r.isAgg r.size e j
 |_=>none
theorem JZ[ab]{P:Program}{t:TypeId}{r:bH}(ht:eZ P t=some r){hp:ag}{a:AV}:(kA P t a).run hp=Gu r hp a:=by
 unfold kA Gu
 rw[ht]
 simp only
 cases a with
 |ref n aq i j=>
  simp only[RM.arr]
  show (RM.bind (.get n _) _).run hp=_
  simp only[RM.bind,RM.run]
  cases hp[n]? with
  |none=>rfl
  |some o=>
   cases o with
   |none=>rfl
   |some o=>
    cases o with
    |gd _ _=>rfl
    |arr g c f es=>
     simp only
     split
     ·simp only[RM.bind]
      cases es[i]? with
      |none=>rfl
      |some e=>simp only[RM.iv]
     ·rfl
 |bc e j=>simp only[RM.iv]
 |_=>rfl
section
variable {P:Program}{nm:Nat}{ev:Operand→AV}{dst:Option Tmp}{type:TypeId}{pos:String}{after:Array Edge}{guard:Option (Nat×Bool)}{hp:ag}
theorem M4[ab]{t:TypeId}{x:Operand}{r:bH}(ht:eZ P t=some r):(aM P nm ev ⟨dst,.load t x,type,pos,after,guard⟩).run hp=JY (Gu r hp (ev x)):=by
 rw[←JZ (P:=P) (t:=t) ht]
 unfold aM
 simp only[RM.run_bind]
 cases (kA P t (ev x)).run hp<;>rfl
end
end Go.PI
namespace Go.PI
variable {C:Ctx}
def M5(hp:ag)(args:List AV)(r':AV):Option (nM×List (Nat×aI)):=
 cond (flat r') (some (.val r',[])) (((cW 1000 (bR args)).run hp).map fun w=>(.val r',w))
theorem zT[ab]{hp gZ:ag}{args:List AV}{r:AV}:nq hp args (.val r,gZ)=((aX 1000 r).run gZ).bind (M5 hp args):=by
 simp only[nq,gg]
 cases hq:(aX 1000 r).run gZ with
 |none=>rfl
 |some r'=>
  simp only[Option.bind_some,M5]
  cases flat r' with
  |true=>rfl
  |false=>
   simp only[Bool.false_eq_true,if_false,RM.run_bind,cond_false]
   cases (cW 1000 (bR args)).run hp<;>rfl
theorem EO{f:FuncId}{args:List AV}:bz (.lit (.func (.func f) #[] #[])) args=some (f,args):=by
 simp[bz]
end Go.PI
namespace Go.PI
variable {C:Ctx}
theorem EP[ab]{a b:Code}{s:St}:TY C a b s (.lit (.bool true))=cQ C a s:=rfl
theorem A5[ab]{a b:Code}{s:St}:TY C a b s (.lit (.bool false))=cQ C b s:=rfl
end Go.PI
namespace Go.PI
variable {C:Ctx}
theorem J0[ab]{b:Code}(Inv:Nat→St→Prop)(Hx:Out→Prop)
  (step:∀ k s,Inv k s→(∃ s',cQ C b s=some (.norm s')∧∃ k',k'<k∧Inv k' (gG s.hp.length s'))∨(∃ o,cQ C b s=some o∧(∀ s',o≠.norm s')∧Hx o)) :
  ∀ k s,Inv k s→∃ o,cQ C (.loop b) s=some o∧Hx o:=by
 intro k
 induction k using Nat.strongRecOn with
 |ind k ih=>
  intro s hs
  rcases step k s hs with ⟨s',h1,k',hk,hi⟩|⟨o,h1,h2,h3⟩
  ·obtain⟨o,h4,h5⟩:=ih k' hk _ hi
   refine⟨o,?_,h5⟩
   rw[nk,h1]
   exact h4
  ·refine⟨o,?_,h3⟩
   rw[nk,h1]
   cases o with
   |norm s'=>exact absurd rfl (h2 s')
   |_=>rfl
theorem zU[ab]{b:Code}{s:St}{β:Type}{K:Out→Option β}{r:Option β}(Inv:Nat→St→Prop)(Hx:Out→Prop)(k0:Nat)(h0:Inv k0 s)
  (step:∀ k s,Inv k s→(∃ s',cQ C b s=some (.norm s')∧∃ k',k'<k∧Inv k' (gG s.hp.length s'))∨(∃ o,cQ C b s=some o∧(∀ s',o≠.norm s')∧Hx o))
  (fin:∀ o,Hx o→K o=r):(cQ C (.loop b) s).bind K=r:=by
 obtain⟨o,h1,h2⟩:=J0 Inv Hx step k0 s h0
 rw[h1]
 exact fin o h2
def Gv(agg:Bool)(size:Nat)(hp:ag):AV→Option AV
 |.ref n aq i j=>match hp[n]? with
  |some (some (.arr _ _ _ es))=>if es.length=aq then (match es[i]? with|some e=>eE agg size e j|none=>none) else none
  |_=>none
 |.bc e j=>eE agg size e j
 |_=>none
theorem M6{r:bH}{agg:Bool}{size:Nat}(h1:r.isAgg=agg)(h2:r.size=size)(hp:ag)(a:AV):Gu r hp a=Gv agg size hp a:=by
 subst h1 h2
 cases a<;>rfl
def nx(agg:Bool)(size:Nat)(i:Nat):AV→Option AV
 |.sl xs=>match xs[i]? with
  |some e=>if aG agg size e=true then some (.bc e 0) else none
  |none=>none
 |.o7 xs _=>match xs[i]? with
  |some e=>if aG agg size e=true then some (.bc e 0) else none
  |none=>none
 |.bp esz n aq off len _=>if i<len∧0<size∧esz=size then some (.ref n aq (off+i) 0) else none
 |.im n aq k j len _=>if i<len then some (.ref n aq k (j+i*size)) else none
 |_=>none
theorem rJ{k:IntKind}{n:Nat}:asNat (.lit (.int k (n:Int)))=some n:=by simp[asNat]
def J1(P:Program)(nm:Nat)(ev:Operand→AV)(o:Oper)(hp:ag):Option dg:=(aM P nm ev o).run hp
def Hy(d:Option dg):AV→Option dg
 |.sl xs=>some ⟨int xs.length,[]⟩
 |.o7 xs _=>some ⟨int xs.length,[]⟩
 |.bp _ _ _ _ len _=>some ⟨int len,[]⟩
 |.im _ _ _ _ len _=>some ⟨int len,[]⟩
 |_=>d
theorem J2{P:Program}{t:TypeId}{r:bH}(h:aP P t=some r)(ha:arrayElem P t=none)(x ix:AV):
  eM P t x ix=(asNat ix).bind fun i=>nx r.isAgg r.size i x:=by
 unfold eM
 cases asNat ix with
 |none=>rfl
 |some i=>
  simp only[Option.bind_some,h,ha]
  cases x with
  |sl xs=>simp only[nx]; cases xs[i]?<;>rfl
  |o7 xs c=>simp only[nx]; cases xs[i]?<;>rfl
  |_=>rfl
section
variable {P:Program}{nm:Nat}{ev:Operand→AV}{dst:Option Tmp}{type:TypeId}{pos:String}{after:Array Edge}{guard:Option (Nat×Bool)}{hp:ag}
theorem td[ab]{t:TypeId}{x y:Operand}:(aM P nm ev ⟨dst,.indexAddr t x y,type,pos,after,guard⟩).run hp=JY (eM P t (ev x) (ev y)):=A4 _ _
theorem ER{t type:TypeId}{x:Operand}(h:bZ P t=true):(aM P nm ev ⟨dst,.call ⟨.builtin .len,#[x],#[t]⟩,type,pos,after,guard⟩).run hp =
  Hy (J1 P nm ev ⟨dst,.call ⟨.builtin .len,#[x],#[t]⟩,type,pos,after,guard⟩ hp) (ev x):=by
 cases hx:ev x with
 |sl xs=>simp[aM,dh,hx,h,nP,Hy]; rfl
 |o7 xs c=>simp[aM,dh,hx,h,nP,Hy]; rfl
 |bp a b c d e f=>simp[aM,dh,hx,h,nP,Hy]; rfl
 |im a b c d e f=>simp[aM,dh,hx,h,nP,Hy]; rfl
 |_=>rfl
end
end Go.PI
namespace Go.PI
variable {C:Ctx}
theorem dt[ab]{b:Code}{s:St}:andThen C b (.norm s)=cQ C b s:=rfl
theorem te[ab]{b:Code}{s:St}{i:Nat}:andThen C b (.exit i s)=some (.exit i s):=rfl
theorem eT[ab]{l:List (G×Oper)}{s:St}:OF C l (.norm s)=tb C l s:=rfl
theorem vC{i:Nat}{s:St}:ui i (.norm s)=some (.norm s):=rfl
theorem zV{i:Nat}{s:St}:ui i (.exit i s)=some (.norm s):=by simp[ui]
theorem Cn{rs:Array ResultVar}{s:St}:Jv C rs (.ret s)=((aU C.P s.fr rs.toList).run s.hp).map fun l=>(.val (cB l),s.hp):=rfl
theorem Co{n:Nat}{s:St}(h:(s.hp.take n).all (kl n)=true):gG n s=⟨s.fn,s.fr.map (forget n),s.hp.take n⟩:=by
 simp[gG,h]
theorem Hz{n:Nat}{v:AV}(h:below n v=true):forget n v=v:=by simp[forget,h]
end Go.PI
namespace Go.PI
theorem A6{d:Option dg}{xs:List AV}:Hy d (.sl xs)=some ⟨int xs.length,[]⟩:=rfl
end Go.PI
namespace Go.PI
end Go.PI
end
section
/- PI, calls whose argument may be a nil slice or not: both are looked at. -/
namespace Go.PI
end Go.PI
end
section
/- PI, the laws: what a law's own call comes to. -/
namespace Go.PI
open Go.RowKit
theorem Hm[ab]{C:Ctx}(bN:C.Ok){f:FuncId}{args:List AV}{cm:ag}(h:kp C f args []=some (.val (.lit (.bool true)),cm))
  {W:World} (hg:mG (Env.all W)) {vs:List Value} (ha:an (Env.all W) false args vs) :
  Calls C.P f vs.toArray W fun e w'=>e=.returned (.bool true)∧Below W.heap.size W w':=by
 obtain⟨k,hk⟩:=(bg (mo C f args [])).1 h
 refine((sound bN k).1 f args [] _ _ hk (Env.all W) W vs (MN W hg) ha.gO).mono fun e w' cY=>?_
 obtain⟨E',_,_,eX,cy⟩:=cY
 refine⟨?_,eX.os,eX.tape,eX.out,eX.size,fun b hb=>eX.same b hb (fun h=>h.elim)⟩
 cases e with
 |returned v=>simp only[Gd,aj]at cy; rw[cy]
 |panicked ch=>exact cy.elim
 |outgrown=>exact cy.elim
end Go.PI
end
section
/- PS, part A: symbolic values over the abstract ones, with typed lists of open length, and the operations on them (definitions only). -/
namespace Go.PI
def aw{α β:Type}(P:α→β→Prop):List α→List β→Prop
 |[],[]=>True
 |x::xs,y::ys=>P x y∧aw P xs ys
 |_,_=>False
def Aa{den:Nat→Type}{t t':Nat}(h:t=t')(l:List (den t)):List (den t'):=h▸l
def KK.D:KK→Type
 |.int _=>Int
 |.str=>ByteArray
 |.bool=>Bool
def KK.v:(kk:KK)→kk.D→Value
 |.int q,k=>.int q k
 |.str,k=>.string k
 |.bool,k=>.bool k
def KK.get:(kk:KK)→Value→Option kk.D
 |.int q,v=>(match v with
  |.int q' k=>if q=q' then some k else none
  |_=>none)
 |.str,v=>(match v with
  |.string k=>some k
  |_=>none)
 |.bool,v=>(match v with
  |.bool k=>some k
  |_=>none)
def KK.beq:(kk:KK)→kk.D→kk.D→Bool
 |.int _,(a:Int),(b:Int)=>a==b
 |.str,(a:ByteArray),(b:ByteArray)=>a==b
 |.bool,(a:Bool),(b:Bool)=>a==b
def kx(kk:KK){α:Type}:List (kk.D×α)→kk.D→Option α
 |[],_=>none
 |(k',v)::r,k=>cond (kk.beq k k') (some v) (kx kk r k)
def mN(kk:KK){α:Type}:List (kk.D×α)→kk.D→α→List (kk.D×α)
 |[],k,v=>[(k,v)]
 |(k',v')::r,k,v=>cond (kk.beq k k') ((k',v)::r) ((k',v')::mN kk r k v)
deriving instance DecidableEq for kW
inductive SV(den:Nat→Type):Type where
 |dead
 |hole
 |lit (v:Value)
 |agg (l:List (SV den))
 |jn (l:List (SV den))
 |sl (xs:List (SV den))
 |jd (t:Nat) (l:List (den t))
 |bc (e:SV den) (j:Nat)
 |ref (n c i j:Nat)
 |im (n c i j len cap:Nat)
 |bp (esz n c:Nat) (rg:Option (Nat×Nat)) (cap:Option Nat)
 |iQ (fn:Fn) (first captured:List (SV den))
 |fL (t:TypeId) (v:SV den)
 |mp (y:Bool) (n:Nat)
 |rW (v:SV den) (aW len i:Nat)
 |wC (t:Nat) (l:List (den t)) (cap:Nat) (b:Bool)
 |nz
instance {den:Nat→Type}:Inhabited (SV den):=⟨.dead⟩
inductive aD(den:Nat→Type):Type where
 |arr (grow cl fz:Bool) (cur:Nat) (es:List (SV den))
 |bX (grow fz:Bool) (cur:Nat) (t:Nat) (l:List (den t))
 |gV
 |kb (kk:KK) (t:Nat) (m:List (kk.D×den t))
 |oU (fn:FuncId) (ps:Array Tmp) (as bd:Code) (fr:List (SV den))
abbrev ah(den:Nat→Type):=List (Option (aD den))
abbrev sG(den:Nat→Type):=List (Nat×SV den)
structure bw(den:Nat→Type)where
 fn:FuncId
 n:Nat
 fr:sG den
 hp:ah den
 wf:List Nat
 wh:List Nat
 js:List (Nat×kW)
inductive oV(den:Nat→Type)where
 |norm (s:bw den)
 |exit (id:Nat) (s:bw den)
 |ret (s:bw den)
inductive Tr:Type→Type 1 where
 |ret {ρ:Type} (r:ρ):Tr ρ
 |fail {ρ:Type}:Tr ρ
 |cond {ρ:Type} (b:Bool) (x y:Tr ρ):Tr ρ
 |bind {ρ α:Type} (e:Option α) (k:α→Tr ρ):Tr ρ
 |loop {ρ τ ω:Type} (f:τ→Tr (τ ⊕ ω)) (x:τ) (k:ω→Tr ρ):Tr ρ
 |sum {ρ α β:Type} (e:α ⊕ β) (k:α→Tr ρ) (l:β→Tr ρ):Tr ρ
 |no {ρ:Type} (why:String):Tr ρ
 |me {ρ:Type} {den:Nat→Type} (s:bw den) (b:Code):Tr ρ
 |bad {ρ:Type} {den:Nat→Type} (key:Nat) (kind:Option (Option Nat)) (s0 s:bw den):Tr ρ
def kC{τ ω:Type}(f:τ→Option (τ ⊕ ω)):Nat→τ→Option ω
 |0,_=>none
 |n+1,x=>match f x with
  |some (.inl y)=>kC f n y
  |some (.inr w)=>some w
  |none=>none
noncomputable def aO{τ ω:Type}(f:τ→Option (τ ⊕ ω))(x:τ):Option ω:=
 match kC f 4096 x with
 |some w=>some w
 |none=>ma fun n=>kC f n x
noncomputable def Tr.run{ρ:Type}:Tr ρ→Option ρ
 |.ret r=>some r
 |.fail|.no _|.me _ _|.bad _ _ _ _=>none
 |.cond b x y=>_root_.cond b x.run y.run
 |.bind e k=>_root_.Option.bind e fun a=>(k a).run
 |.loop f x k=>_root_.Option.bind (aO (fun x=>(f x).run) x) fun w=>(k w).run
 |.sum e k l=>Sum.elim (fun a=>(k a).run) (fun b=>(l b).run) e
structure dk where
 den:Nat→Type
 up:(t:Nat)→den t→SV den
 dn:(t:Nat)→SV den→Option (den t)
 rp:(t:Nat)→den t→AV→Prop
 agg:Nat→Bool
 size:Nat→Nat
 zero:(t:Nat)→Option (den t)
 alt:(t:Nat)→Option ((den t→Bool)×(den t→SV den)×(den t→SV den)):=fun _=>none
section
variable {den:Nat→Type}
def aD.cur:aD den→Nat
 |.arr _ _ _ c _=>c
 |.bX _ _ c _ _=>c
 |_=>0
def aD.len:aD den→Nat
 |.arr _ _ _ _ es=>es.length
 |.bX _ _ _ _ l=>l.length
 |_=>0
def KN:Value→SV den
 |.agg c=>if c.toList.all (fun v=>ba (.lit v))=true then .agg (c.toList.map .lit) else .dead
 |.tuple c=>.jn (c.toList.map .lit)
 |v=>.lit v
def cH:sG den→Nat→SV den
 |[],_=>.lit undef
 |(d,v)::r,t=>match Nat.beq d t with
  |true=>v
  |false=>cH r t
def cV[ab](fr:sG den):Operand→SV den
 |.tmp t=>cH fr t
 |.const v=>KN v
 |.global g=>(match ab.g g with
  |none=>.lit (.pointer (some ⟨g,0,none⟩))
  |some c=>.bc (.agg (c.toList.map .lit)) 0)
 |.func f=>.lit (.func (.func f) #[] #[])
def tA(n:Nat)(fr:sG den)(d:Nat)(v:SV den):sG den:=
 match Nat.ble n d with
 |true=>fr
 |false=>(d,v)::fr
def KO(n:Nat)(fr:sG den)(dst:Option Tmp)(v:SV den):sG den:=
 match dst with
 |some d=>tA n fr d v
 |none=>fr
def mv:Nat→List (SV den)→sG den
 |_,[]=>[]
 |d,v::r=>(d,v)::mv (d+1) r
def bL(hp:ah den)(n:Nat)(o:aD den):ah den:=
 if n=hp.length then hp++[some o] else hp.set n (some o)
def aN(hp:ah den):List (Nat×aD den)→ah den
 |[]=>hp
 |(n,o)::r=>aN (bL hp n o) r
def bP:SV den→Bool
 |.dead=>true
 |_=>false
def gr:SV den→Bool
 |.lit v=>match v with
  |.agg _|.tuple _=>false
  |_=>true
 |.agg _|.jn _|.dead|.hole=>false
 |_=>true
mutual
def aF:SV den→Bool
 |.lit _|.sl _|.jd _ _|.bc _ _|.wC _ _ _ _=>true
 |.agg l|.jn l=>av l
 |.fL _ v=>aF v
 |.rW v _ _ _=>aF v
 |.iQ _ f c=>av f&&av c
 |_=>false
def av:List (SV den)→Bool
 |[]=>true
 |x::xs=>aF x&&av xs
end
mutual
def vU:SV den→Bool
 |.lit _=>true
 |.agg l|.jn l=>Bm l
 |.fL _ v=>vU v
 |_=>false
def Bm:List (SV den)→Bool
 |[]=>true
 |x::xs=>vU x&&Bm xs
end
mutual
def bt(n:Nat):SV den→Bool
 |.lit _|.sl _|.jd _ _|.bc _ _|.wC _ _ _ _|.hole|.nz=>true
 |.agg l|.jn l=>gu n l
 |.fL _ v=>bt n v
 |.iQ _ f c=>gu n f&&gu n c
 |.rW v _ _ _=>bt n v
 |.ref m _ _ _|.im m _ _ _ _ _|.bp _ m _ _ _|.mp _ m=>decide (m<n)
 |.dead=>false
def gu(n:Nat):List (SV den)→Bool
 |[]=>true
 |x::xs=>bt n x&&gu n xs
end
def jT(n:Nat):Option (aD den)→Bool
 |some (.arr _ cl _ _ es)=>cl||gu n es
 |some (.bX ..)=>true
 |some .gV=>true
 |some (.kb ..)=>true
 |some (.oU _ _ _ _ fr)=>fr.all fun v=>bP v||bt n v
 |none=>true
mutual
def mO:SV den→List Nat
 |.ref n _ _ _|.im n _ _ _ _ _|.bp _ n _ _ _|.mp _ n=>[n]
 |.rW v _ _ _=>mO v
 |.agg l|.jn l=>kR l
 |.fL _ v=>mO v
 |.iQ _ f c=>kR f++kR c
 |_=>[]
def kR:List (SV den)→List Nat
 |[]=>[]
 |x::xs=>mO x++kR xs
end
def bK:SV den→List (SV den)
 |.agg l=>l
 |.lit v=>v.cells.toList.map .lit
 |x=>[x]
def mw:List (SV den)→Option (List Value)
 |[]=>some []
 |.lit v::r=>(mw r).map (v::·)
 |_=>none
def mQ:SV den→Option AV
 |.lit v=>some (.lit v)
 |.agg l=>(mw l).map fun c=>.agg (c.map .lit)
 |_=>none
def nI(agg:Bool)(size:Nat)(e:SV den)(j:Nat):Option (SV den):=
 match e with
 |.agg l=>
  if agg then (if j+size≤l.length then some (.agg ((l.drop j).take size)) else none)
  else l[j]?
 |x=>if !agg&&gr x&&decide (j=0) then some x else none
def iG(l:List (SV den))(j:Nat):List (SV den)→List (SV den)
 |[]=>l
 |x::xs=>iG (l.set j x) (j+1) xs
def fT(e:SV den)(j:Nat)(cs:List (SV den)):Option (SV den):=
 match e with
 |.agg l=>if j+cs.length≤l.length then some (.agg (iG l j cs)) else none
 |x=>match cs with
  |[y]=>if gr x&&decide (j=0) then some y else none
  |_=>none
def Ab(place:Nat→Option (Nat×Nat))(cells:List (SV den)):List (Nat×SV den)→Option (List (SV den))
 |[]=>some cells
 |(i,v)::rest=>
  match place i with
  |none=>none
  |some (off,size)=>
   if (bK v).length=size∧off+size≤cells.length∧(bK v).all gr=true then
    Ab place (iG cells off (bK v)) rest
   else none
def kS(agg:Bool)(size:Nat)(e:SV den):Bool:=
 match e with
 |.agg l=>agg&&decide (l.length=size)&&l.all gr
 |x=>!agg&&decide (size=1)&&gr x
def gv:AV→Option (SV den)
 |.lit v=>some (.lit v)
 |.agg l=>(cT l).map fun c=>.agg (c.map .lit)
 |_=>none
def fh(es:List (SV den)):List (Nat×SV den)→List (SV den)
 |[]=>es
 |(i,v)::r=>fh (es.set i v) r
def GM:SV den→Bool
 |.sl xs=>!xs.isEmpty
 |_=>false
def Bn(P:Program)(op:BinOp)(t:TypeId)(x:SV den)(nil:Value):Option AV:=
 match nil with
 |.nilIface=>(match x with
  |.fL _ (.agg _)|.fL _ (.ref ..)=>if ju P t then lf op false else none
  |_=>none)
 |.nilFunc=>(match x with
  |.iQ _ _ _=>if sI P t then lf op false else none
  |_=>none)
 |.slice none 0 0=>if bZ P t&&GM x then lf op false else none
 |_=>none
end
inductive CK where
 |bool
 |int (k:IntKind)
 |str
 deriving DecidableEq
inductive MK where
 |slice (e:Nat)
 |array (n e:Nat)
 |struct (fs:List (Nat×Nat))
 |iface
 |other
 deriving DecidableEq
structure jU where
 agg:Bool
 size:Nat
 bytes:Nat
 zero:Option AV
 kind:MK
 OS:Option (List CK)
 map:Option (KK×Nat)
structure gw where
 P:Program
 M:List (Nat×jU)
 tB:Nat→Bool
def cr{α:Type}:List (Nat×α)→Nat→Option α
 |[],_=>none
 |(m,a)::r,n=>match Nat.beq m n with
  |true=>some a
  |false=>cr r n
def GN{α:Type}:List (Nat×Nat×α)→Nat→Nat→Option α
 |[],_,_=>none
 |(m,m',a)::r,n,n'=>match Nat.beq m n&&Nat.beq m' n' with
  |true=>some a
  |false=>GN r n n'
namespace gw
def ty(Q:gw)(t:Nat):Option jU:=cr Q.M t
def elemOf(Q:gw)(t:Nat):Option (Nat×jU):=
 match Q.ty t with
 |some m=>match m.kind with
  |.slice e=>(Q.ty e).map fun r=>(e,r)
  |_=>none
 |none=>none
def elem(Q:gw)(t:Nat):Option jU:=(Q.elemOf t).map (·.2)
def arr(Q:gw)(t:Nat):Option (Nat×jU):=
 match Q.ty t with
 |some m=>match m.kind with
  |.array n e=>(Q.ty e).map fun r=>(n,r)
  |_=>none
 |none=>none
def Uk(Q:gw)(t f:Nat):Option (Nat×jU):=
 match Q.ty t with
 |some m=>match m.kind with
  |.struct fs=>match fs[f]? with
   |some (off,e)=>match Q.ty e with
    |some r=>if r.size=0 then none else some (off,r)
    |none=>none
   |none=>none
  |_=>none
 |none=>none
def mapOf(Q:gw)(t:Nat):Option (KK×Nat):=(Q.ty t).bind (·.map)
def isSlice(Q:gw)(t:Nat):Option Bool:=
 match Q.ty t with
 |some m=>match m.kind with
  |.slice _=>some true
  |_=>some false
 |none=>none
def uJ(Q:gw):List (Nat×Nat)→Option (List (Nat×Nat))
 |[]=>some []
 |(off,e)::r=>match Q.ty e,uJ Q r with
  |some m,some l=>some ((off,m.size)::l)
  |_,_=>none
end gw
inductive VT where
 |v (t:Nat)
 |l (t:Nat)
 |m (kk:KK) (t:Nat)
 deriving DecidableEq
def VT.den(den:Nat→Type):VT→Type
 |.v t=>den t
 |.l t=>List (den t)
 |.m kk t=>List (kk.D×den t)
def HL(den:Nat→Type):List VT→Type
 |[]=>Unit
 |[t]=>t.den den
 |t::u::r=>t.den den×HL den (u::r)
structure TV(den:Nat→Type)where
 t:VT
 x:t.den den
section
variable {den:Nat→Type}
def TV.as(v:TV den)(t:VT):Option (t.den den):=if h:v.t=t then some (h▸v.x) else none
def uK:(ts:List VT)→List (TV den)→Option (HL den ts)
 |[],l=>(match l with
  |[]=>some ()
  |_::_=>none)
 |[t],l=>(match l with
  |[v]=>v.as t
  |_=>none)
 |t::u::r,l=>(match l with
  |v::l'=>(v.as t).bind fun x=>(uK (u::r) l').map fun y=>(x,y)
  |[]=>none)
def fU:(ts:List VT)→HL den ts→List (TV den)
 |[],_=>[]
 |[t],x=>[⟨t,x⟩]
 |t::u::r,x=>⟨t,x.1⟩::fU (u::r) x.2
end
section
variable (T:dk)
def HX:(ts:List Nat)→List (SV T.den)→Option (List (TV T.den))
 |[],[]=>some []
 |t::ts,v::vs=>(T.dn t v).bind fun x=>(HX ts vs).map fun l=>⟨.v t,x⟩::l
 |_,_=>none
def oM(t:Nat):List (SV T.den)→Option (List (T.den t))
 |[]=>some []
 |v::vs=>(T.dn t v).bind fun x=>(oM t vs).map fun l=>x::l
def Sy:TV T.den→SV T.den
 |⟨.v t,x⟩=>T.up t x
 |⟨.l t,x⟩=>.jd t x
 |⟨.m _ _,_⟩=>.dead
def Qa(l:List (TV T.den)):List (SV T.den):=l.map (Sy T)
end
def qS{den:Nat→Type}:List (SV den)→SV den
 |[x]=>x
 |l=>.jn l
structure uM(T:dk)where
 args:List Nat
 res:List Nat
 fn:HL T.den (args.map .v)→Option (HL T.den (res.map .v))
inductive oW where
 |hole
 |HY (esz n:Nat) (rg:Option (Nat×Nat)) (cap:Option Nat)
 |im (n i j len cap:Nat)
 |val (t:Nat)
 |own (esz n:Nat)
 |Q9 (esz n t:Nat) (k:Bool)
inductive cP where
 |list (t:Nat)
 |fix (t:Nat)
 |one (p:oW)
 |agg (ps:List oW)
 |map (kk:KK) (t:Nat)
inductive oX where
 |gV
 |list (g f:Bool) (t:Nat)
structure Bo where
 kind:Option Nat
 aA:List (Nat×oW)
 ext:List oX
 js:List (Nat×kW)
 more:List (Nat×cP)
structure Hint where
 aA:List (Nat×oW)
 dead:List Nat
 objs:List (Nat×cP)
 outs:List Bo
def oW.jD:oW→List VT
 |.hole|.HY _ _ _ _|.im _ _ _ _ _=>[]
 |.val t=>[.v t]
 |.own _ _=>[]
 |.Q9 _ _ t k=>(match k with
  |true=>[.v t,.v t,.v t]
  |false=>[.v t,.v t])
def cP.jD:cP→List VT
 |.list t|.fix t=>[.l t]
 |.one p=>p.jD
 |.agg ps=>ps.flatMap oW.jD
 |.map kk t=>[.m kk t]
def oX.jD:oX→List VT
 |.gV=>[]
 |.list _ _ t=>[.l t]
def je(objs more:List (Nat×cP)):List (Nat×cP):=objs.filter (fun q=>!(more.map (·.1)).contains q.1)++more
def Bo.jD(objs:List (Nat×cP))(o:Bo):List VT:=o.aA.flatMap (fun q=>q.2.jD)++((je objs o.more).flatMap (fun q=>q.2.jD)++o.ext.flatMap oX.jD)
def Hint.jD(h:Hint):List VT:=h.aA.flatMap (fun q=>q.2.jD)++h.objs.flatMap (fun q=>q.2.jD)
def y8(den:Nat→Type)(objs:List (Nat×cP)):List Bo→Type
 |[]=>Empty
 |[o]=>HL den (o.jD objs)
 |o::p::r=>HL den (o.jD objs) ⊕ y8 den objs (p::r)
end Go.PI
end
