/- Part 2 of the proof: texts of this session laid one behind the other. -/
import Derived.OrdersIn
import Derived.TacticsIn
import Derived.RangeFuncLeaves
import Derived.SizedLaws
import Derived.ChangeSlices
import Derived.OpenShut
import Derived.ShutString
import Derived.IntWalk
import Derived.Below
import Derived.Test.YtomccdllhpolbaaDoorX1
set_option linter.unusedVariables false
set_option linter.unusedSimpArgs false
section
/- PI, part U: regions whose order is drawn: every order comes to the same. -/
namespace Go.PI
theorem RM.run_log{α:Type}:∀ (r:RM α) (hp hp':AHeap),(∀ n∈r.log hp,hp'[n]?=hp[n]?)→r.run hp'=r.run hp∧r.log hp'=r.log hp
 |.ret a,_,_,_=>⟨rfl,rfl⟩
 |.fail,_,_,_=>⟨rfl,rfl⟩
 |.get n k,hp,hp',h=>by
  have hn:=h n (by simp[RM.log])
  simp only[RM.run,RM.log,hn]
  cases hq:hp[n]? with
  |none=>simp
  |some o=>
   cases o with
   |none=>simp
   |some o=>
    have:=RM.run_log (k o) hp hp' (fun m hm=>h m (by simp[RM.log,hq,hm]))
    simp[this.1,this.2]
theorem setObj_lt{hp:AHeap}{n:Nat}{o:AObj}(h:n<hp.length):setObj hp n o=hp.set n (some o):=by
 unfold setObj; rw[if_neg (by omega)]
theorem applyWr_len[Glob]:∀ (wr:List (Nat×AObj)) (hp:AHeap),(∀ q∈wr,q.1<hp.length)→(applyWr hp wr).length=hp.length
 |[],_,_=>rfl
 |(n,o)::r,hp,h=>by
  have hn:n<hp.length:=h (n,o) (by simp)
  simp only[applyWr,setObj_lt hn]
  rw[applyWr_len r _ (fun q hq=>by simpa using h q (by simp[hq]))]
  simp
theorem applyWr_get[Glob]:∀ (wr:List (Nat×AObj)) (hp:AHeap),(∀ q∈wr,q.1<hp.length)→∀ n,n∉wr.map (·.1)→(applyWr hp wr)[n]?=hp[n]?
 |[],_,_,_,_=>rfl
 |(m,o)::r,hp,h,n,hn=>by
  have hm:m<hp.length:=h (m,o) (by simp)
  simp only[List.map_cons,List.mem_cons,not_or]at hn
  simp only[applyWr,setObj_lt hm]
  rw[applyWr_get r _ (fun q hq=>by simpa using h q (by simp[hq])) n hn.2]
  exact getElem?_set_ne (fun e=>hn.1 e.symm)
theorem applyWr_set[Glob]{n:Nat}{x:Option AObj}:∀ (wr:List (Nat×AObj)) (hp:AHeap),(∀ q∈wr,q.1<hp.length)→n∉wr.map (·.1) →
  applyWr (hp.set n x) wr=(applyWr hp wr).set n x
 |[],_,_,_=>rfl
 |(m,o)::r,hp,h,hn=>by
  have hm:m<hp.length:=h (m,o) (by simp)
  simp only[List.map_cons,List.mem_cons,not_or]at hn
  simp only[applyWr,setObj_lt hm,setObj_lt (hp:=hp.set n x) (by simpa using hm)]
  rw[List.set_comm _ _ hn.1]
  exact applyWr_set r _ (fun q hq=>by simpa using h q (by simp[hq])) hn.2
theorem applyWr_comm[Glob]:∀ (a b:List (Nat×AObj)) (hp:AHeap),(∀ q∈a,q.1<hp.length)→(∀ q∈b,q.1<hp.length)→(∀ n∈a.map (·.1),n∉b.map (·.1)) →
  applyWr (applyWr hp a) b=applyWr (applyWr hp b) a
 |[],_,_,_,_,_=>rfl
 |(n,o)::r,b,hp,ha,hb,hd=>by
  have hn:n<hp.length:=ha (n,o) (by simp)
  have hnb:n<(applyWr hp b).length:=by rw[applyWr_len b hp hb]; exact hn
  simp only[applyWr,setObj_lt hn,setObj_lt hnb]
  rw[applyWr_comm r b _ (fun q hq=>by simpa using ha q (by simp[hq])) (fun q hq=>by simpa using hb q hq) (fun m hm=>hd m (by simp only[List.map_cons,List.mem_cons]; exact .inr hm))]
  rw[applyWr_set b hp hb (hd n (by simp))]
section
variable {step:Nat→Oper→List AV→RM Eff}{ops:Array Oper}
def Ind(ops:Array Oper)(x:Item)(fx:Foot)(y:Item)(fy:Foot):Prop:=
 Oper.apart ops x.o y.o=true∧(∀ n∈fx.wr,n∉fy.rd∧n∉fy.wr)∧(∀ n∈fy.wr,n∉fx.rd)
def Looks[Glob](step:Nat→Oper→List AV→RM Eff):Prop:=
 ∀ nm (o:Oper) fr fr',(∀ x∈o.op.operands.toList,evalA fr x=evalA fr' x)→step nm o fr=step nm o fr'
theorem evalA_set[Glob]{fr:List AV}{d:Nat}{v:AV}{x:Operand}(h:x≠.tmp d):evalA (fr.set d v) x=evalA fr x:=by
 cases x with
 |tmp t=>
  have hne:d≠t:=fun e=>h (by rw[e])
  simp[evalA,List.getD,hne]
 |_=>rfl
theorem mem_looks_op{o:Oper}{t:Nat}(h:Operand.tmp t∈o.op.operands.toList):t∈o.looksAt ops:=by
 grind[Oper.looksAt]
theorem evalA_put[Glob]{fr:List AV}{dst:Option Tmp}{v:AV}{o:Oper}(h:∀ d,dst=some d→d∉o.looksAt ops):
  ∀ x∈o.op.operands.toList,evalA (putA fr dst v) x=evalA fr x:=by
 intro x hx
 cases dst with
 |none=>rfl
 |some d=>
  refine evalA_set fun e=>?_
  subst e
  exact h d rfl (mem_looks_op hx)
theorem wanted_put[Glob]{fr:List AV}{dst:Option Tmp}{v:AV}{o:Oper}(h:∀ d,dst=some d→d∉o.looksAt ops):wantedA ops (putA fr dst v) o=wantedA ops fr o:=by
 cases dst with
 |none=>rfl
 |some d=>
  unfold wantedA
  cases hg:o.guard with
  |none=>rfl
  |some g=>
   obtain⟨j,want⟩:=g
   simp only
   cases hd:(ops[j]?).bind (·.dst) with
   |none=>rfl
   |some d'=>
    simp_all[hd,putA,Oper.looksAt]
theorem put_comm{fr:List AV}{d d':Option Tmp}{v v':AV}(h:∀ t,d=some t→d'≠some t):putA (putA fr d v) d' v'=putA (putA fr d' v') d v:=by
 cases d with
 |none=>rfl
 |some t=>
  cases d' with
  |none=>rfl
  |some t'=>
   simp only[putA]
   exact List.set_comm _ _ (fun e=>h t rfl (by rw[e]))
theorem stepD_some[Glob]{x:Item}{s s1:St}{f:Foot}(h:stepD step ops x s=some (s1,f)):
  (wantedA ops s.fr x.o=some false∧s1={ s with fr:=putA s.fr x.o.dst .undef }∧f=⟨x.idx,[],[]⟩) ∨
  (wantedA ops s.fr x.o=some true∧∃ e,(step (x.at s.hp.length) x.o s.fr).run s.hp=some e∧(∀ q∈e.wr,q.1<s.hp.length∧((isAllocOp x.o.op=true∧q.1=x.nm)∨∃ o,s.hp[q.1]?=some (some o))) ∧
    s1={ s with fr:=putA s.fr x.o.dst e.val,hp:=applyWr s.hp e.wr }∧f=⟨x.idx,(step (x.at s.hp.length) x.o s.fr).log s.hp,e.wr.map (·.1)⟩):=by
 unfold stepD at h
 split at h
 ·simp at h
 ·rename_i hw
  simp only[Option.some.injEq,Prod.mk.injEq]at h
  exact .inl ⟨hw,h.1.symm,h.2.symm⟩
 ·rename_i hw
  split at h
  ·simp at h
  rename_i e he
  split at h
  case isFalse=>simp at h
  rename_i hall
  simp only[Option.some.injEq,Prod.mk.injEq]at h
  refine .inr ⟨hw,e,he,fun q hq=>?_,h.1.symm,h.2.symm⟩
  have:=List.all_eq_true.1 hall q hq
  simp only[Bool.and_eq_true,Bool.or_eq_true,decide_eq_true_eq]at this
  refine⟨this.1,this.2.imp id fun h=>?_⟩
  split at h
  ·rename_i o ho; exact⟨o,ho⟩
  ·simp at h
theorem stepD_mk_skip[Glob]{x:Item}{s:St}(h:wantedA ops s.fr x.o=some false):
  stepD step ops x s=some ({ s with fr:=putA s.fr x.o.dst .undef },⟨x.idx,[],[]⟩):=by
 unfold stepD; rw[h]
theorem stepD_mk[Glob]{x:Item}{s:St}(h:wantedA ops s.fr x.o=some true){e:Eff}(he:(step (x.at s.hp.length) x.o s.fr).run s.hp=some e)
  (hall:∀ q∈e.wr,q.1<s.hp.length∧((isAllocOp x.o.op=true∧q.1=x.nm)∨∃ o,s.hp[q.1]?=some (some o))) :
  stepD step ops x s=some ({ s with fr:=putA s.fr x.o.dst e.val,hp:=applyWr s.hp e.wr },⟨x.idx,(step (x.at s.hp.length) x.o s.fr).log s.hp,e.wr.map (·.1)⟩):=by
 unfold stepD
 rw[h]
 simp only[he]
 rw[if_pos]
 refine List.all_eq_true.2 fun q hq=>?_
 obtain⟨h1,h2⟩:=hall q hq
 simp only[Bool.and_eq_true,Bool.or_eq_true,decide_eq_true_eq]
 refine⟨h1,h2.imp id ?_⟩
 rintro⟨o,ho⟩
 simp[ho]
theorem stepD_swap[Glob](hlook:Looks step){x y:Item}{s s1 s2:St}{fx fy:Foot}(hx:stepD step ops x s=some (s1,fx))(hy:stepD step ops y s1=some (s2,fy))
  (hi:Ind ops x fx y fy):∃ s1',stepD step ops y s=some (s1',fy)∧stepD step ops x s1'=some (s2,fx):=by
 obtain⟨hap,hd1,hd2⟩:=hi
 obtain⟨a1,a2,a3⟩:=Oper.apart_spec hap
 rcases stepD_some hx with ⟨wx,rfl,rfl⟩|⟨wx,ex,rx,hwx,rfl,rfl⟩
 ·rcases stepD_some hy with ⟨wy,rfl,rfl⟩|⟨wy,ey,ry,hwy,rfl,rfl⟩
  ·simp only[wanted_put a1]at wy
   refine⟨_,stepD_mk_skip wy,?_⟩
   rw[stepD_mk_skip (by simp only[wanted_put a3]; exact wx)]
   simp only[Option.some.injEq,Prod.mk.injEq,and_true]
   rw[put_comm (fun t ht e=>a2 t e ht |>.elim)]
  ·simp only[wanted_put a1]at wy
   have hst:step (y.at s.hp.length) y.o (putA s.fr x.o.dst .undef)=step (y.at s.hp.length) y.o s.fr:=hlook _ _ _ _ (evalA_put a1)
   simp only[hst]at ry
   refine⟨_,by rw[hst]; exact stepD_mk wy ry hwy,?_⟩
   rw[stepD_mk_skip (by simp only[wanted_put a3]; exact wx)]
   simp only[Option.some.injEq,Prod.mk.injEq,and_true]
   rw[put_comm (fun t ht e=>a2 t e ht |>.elim)]
 ·rcases stepD_some hy with ⟨wy,rfl,rfl⟩|⟨wy,ey,ry,hwy,rfl,rfl⟩
  ·simp only[wanted_put a1]at wy
   refine⟨_,stepD_mk_skip wy,?_⟩
   have hst:step (x.at s.hp.length) x.o (putA s.fr y.o.dst .undef)=step (x.at s.hp.length) x.o s.fr:=hlook _ _ _ _ (evalA_put a3)
   refine(stepD_mk (step:=step) (ops:=ops) (x:=x) (s:={ s with fr:=putA s.fr y.o.dst .undef }) (e:=ex) (by simp only[wanted_put a3]; exact wx) (by simp only[hst]; exact rx) hwx).trans ?_
   simp only[hst,Option.some.injEq,Prod.mk.injEq,and_true]
   rw[put_comm (fun t ht e=>a2 t e ht |>.elim)]
  ·simp only[wanted_put a1]at wy
   have hsty:step (y.at s.hp.length) y.o (putA s.fr x.o.dst ex.val)=step (y.at s.hp.length) y.o s.fr:=hlook _ _ _ _ (evalA_put a1)
   have hstx:step (x.at s.hp.length) x.o (putA s.fr y.o.dst ey.val)=step (x.at s.hp.length) x.o s.fr:=hlook _ _ _ _ (evalA_put a3)
   have hlx:∀ q∈ex.wr,q.1<s.hp.length:=fun q hq=>(hwx q hq).1
   have hlen:=applyWr_len ex.wr s.hp hlx
   simp only[hlen,hsty]at ry hd1 hd2 ⊢
   have hly:∀ q∈ey.wr,q.1<s.hp.length:=fun q hq=>by rw[←hlen]; exact(hwy q hq).1
   have hgy:=RM.run_log (step (y.at s.hp.length) y.o s.fr) (applyWr s.hp ex.wr) s.hp (fun n hn=>(applyWr_get ex.wr s.hp hlx n (fun hm=>(hd1 n hm).1 hn)).symm)
   have hgx:=RM.run_log (step (x.at s.hp.length) x.o s.fr) s.hp (applyWr s.hp ey.wr) (fun n hn=>applyWr_get ey.wr s.hp hly n (fun hm=>hd2 n hm hn))
   refine⟨{ s with fr:=putA s.fr y.o.dst ey.val,hp:=applyWr s.hp ey.wr },?_,?_⟩
   ·refine(stepD_mk (step:=step) (ops:=ops) (x:=y) (s:=s) wy (e:=ey) (by rw[hgy.1]; exact ry) (fun q hq=>⟨hly q hq,(hwy q hq).2.imp id ?_⟩)).trans ?_
    rotate_left
    ·rw[hgy.2]
    ·rintro⟨o,ho⟩
     rw[applyWr_get ex.wr s.hp hlx q.1 (fun hm=>(hd1 q.1 hm).2 (List.mem_map.2 ⟨q,hq,rfl⟩))]at ho
     exact⟨o,ho⟩
   ·refine(stepD_mk (step:=step) (ops:=ops) (x:=x) (s:={ s with fr:=putA s.fr y.o.dst ey.val,hp:=applyWr s.hp ey.wr }) (e:=ex) (by simp only[wanted_put a3]; exact wx)
     (by simp only[applyWr_len ey.wr s.hp hly,hstx]; rw[hgx.1]; exact rx) (fun q hq=>⟨?_,(hwx q hq).2.imp id ?_⟩)).trans ?_
    rotate_left 2
    ·simp only[applyWr_len ey.wr s.hp hly,hstx,hgx.2,Option.some.injEq,Prod.mk.injEq,and_true]
     rw[put_comm (fun t ht e=>a2 t e ht |>.elim),applyWr_comm ey.wr ex.wr s.hp hly hlx (fun n hn hm=>(hd1 n hm).2 hn)]
    ·simp only[applyWr_len ey.wr s.hp hly]; exact(hwx q hq).1
    ·rintro⟨o,ho⟩
     refine⟨o,?_⟩
     simp only
     rw[applyWr_get ey.wr s.hp hly q.1 (fun hm=>(hd1 q.1 (List.mem_map.2 ⟨q,hq,rfl⟩)).2 hm)]
     exact ho
theorem runDraw_cons[Glob]{x:Item}{r:List Item}{s s':St}{fs:List Foot}(h:runDraw step ops (x::r) s=some (s',fs)):
  ∃ s1 f fs',stepD step ops x s=some (s1,f)∧runDraw step ops r s1=some (s',fs')∧fs=f::fs':=by
 simp only[runDraw]at h
 split at h
 ·simp at h
 rename_i s1 f hf
 split at h
 ·simp at h
 rename_i s2 fs' hr
 simp only[Option.some.injEq,Prod.mk.injEq]at h
 obtain⟨rfl,rfl⟩:=h
 exact⟨s1,f,fs',hf,hr,rfl⟩
theorem runDraw_mk[Glob]{x:Item}{r:List Item}{s s1 s':St}{f:Foot}{fs:List Foot}(h:stepD step ops x s=some (s1,f))(hr:runDraw step ops r s1=some (s',fs)):
  runDraw step ops (x::r) s=some (s',f::fs):=by
 simp only[runDraw,h,hr]
theorem runDraw_front[Glob](hlook:Looks step){y:Item}{B:List Item}{s':St}:∀ (A:List Item) (s:St) (fs:List Foot),runDraw step ops (A++y::B) s=some (s',fs) →
  ∀ (fA:List Foot) (fy:Foot) (fB:List Foot),fs=fA++fy::fB→fA.length=A.length→(∀ p∈A.zip fA,Ind ops p.1 p.2 y fy) →
    runDraw step ops (y::(A++B)) s=some (s',fy::(fA++fB))
 |[],s,fs,h,fA,fy,fB,hfs,hlen,_=>by
  simp_all
 |a::A,s,fs,h,fA,fy,fB,hfs,hlen,hind=>by
  obtain⟨s1,f,fs',h1,h2,h3⟩:=runDraw_cons h
  cases fA with
  |nil=>simp at hlen
  |cons g fA=>
   rw[hfs]at h3
   simp only[List.cons_append,List.cons.injEq]at h3
   obtain⟨rfl,h4⟩:=h3
   have ih:=runDraw_front hlook A s1 fs' h2 fA fy fB h4.symm (by simpa using hlen) (fun p hp=>hind p (by simp[hp]))
   obtain⟨s2,f2,fs2,h5,h6,h7⟩:=runDraw_cons ih
   simp only[List.cons.injEq]at h7
   obtain⟨rfl,rfl⟩:=h7
   obtain⟨s3,h8,h9⟩:=stepD_swap hlook h1 h5 (hind (a,g) (by simp))
   exact runDraw_mk h8 (runDraw_mk h9 h6)
end
end Go.PI
end
section
/- PI, part V: a region whose order is drawn, in the world. -/
namespace Go.PI
def WF(r:Option Nat):Fence:={ Fence.wide with round:=r }
def Marks(B:Nat)(E:Env)(w:World)(ds:List Deferred):Prop:=
 ∃ rs:List Nat,ds=rs.map (fun r=>{ target:=.collected r,args:=#[] })∧rs.Nodup∧∀ r∈rs,B≤r∧¬E.own r∧w.heap[r]?=some (.deferred (some []))
theorem Marks.nil{B:Nat}{E:Env}{w:World}:Marks B E w []:=⟨[],rfl,List.nodup_nil,by simp⟩
theorem Marks.mono{B:Nat}{E E':Env}{w w':World}{ds:List Deferred}(h:Marks B E w ds)(hf:Fr E w E' w'):Marks B E' w' ds:=by
 obtain⟨rs,h1,h2,h3⟩:=h
 refine⟨rs,h1,h2,fun r hr=>?_⟩
 obtain⟨a,b,c⟩:=h3 r hr
 have hlt:r<w.heap.size:=(Array.getElem?_eq_some_iff.1 c).1
 refine⟨a,fun ho=>?_,by rw[hf.same r hlt b]; exact c⟩
 rcases hf.own r ho with h|h
 ·exact b h
 ·omega
structure SRel[Glob](B:Nat)(E:Env)(s:St)(a:Act)(w:World):Prop where
 fr:RepT E true s.fr a.tmps.toList
 inv:Inv E s.hp w
 df:Marks B E w a.defers
 bs:B≤w.heap.size
theorem put_rep{E:Env}{fr:List AV}{a:Act}{dst:Option Tmp}{x:AV}{v:Value}(h:RepT E true fr a.tmps.toList)(hx:Rep E true x v):
  RepT E true (putA fr dst x) (a.put dst v).tmps.toList:=by
 cases dst with
 |none=>exact h
 |some d=>
  simp only[putA,Act.put,Array.toList_setIfInBounds]
  exact h.set d hx
theorem put_defers(a:Act)(dst:Option Tmp)(v:Value):(a.put dst v).defers=a.defers:=by cases dst<;>rfl
theorem repL_lits{E:Env}:∀ (c:List Value),(∀ x∈c,leafV x=true)→RepL E false (c.map .lit) c
 |[],_=>by simp[RepL]
 |x::r,h=>by
  simp only[List.map_cons,RepL]
  exact⟨by simp[Rep],h x (by simp),repL_lits r fun y hy=>h y (by simp[hy])⟩
theorem glob_rep[Glob]{E:Env}(hg:GlobOk E)(g:Nat):Rep E true (globA g (Glob.g g)) (.pointer (some ⟨g,0,none⟩)):=by
 cases h:Glob.g g with
 |none=>simp[globA,Rep]
 |some c=>
  obtain⟨h1,h2⟩:=hg g c h
  simp only[globA,Rep]
  refine⟨g,0,c,.agg c,rfl,h1,⟨c.toList,by simp,repL_lits _ h2⟩,?_⟩
  refine⟨rfl,fun q _=>by simp[Value.cells],fun x hx=>h2 x (by simpa[Value.cells] using hx)⟩
theorem eval_rep[Glob]{E:Env}{fr:List AV}{a:Act}(hg:GlobOk E)(h:RepT E true fr a.tmps.toList)(x:Operand):Rep E true (evalA fr x) (a.eval x):=by
 cases x with
 |tmp t=>
  simp only[evalA,Act.eval,List.getD]
  cases hq:fr[t]? with
  |none=>
   have hl:=h.length
   have:a.tmps[t]?=none:=by
    simp_all
   simp[Array.getD_eq_getD_getElem?,this,Rep]
  |some y=>
   obtain⟨v,hv,hr⟩:=h.get hq
   have:a.tmps[t]?=some v:=by simpa using hv
   simpa[Array.getD_eq_getD_getElem?,this] using hr
 |const v=>
  simp only[evalA,Act.eval]
  unfold constA
  split
  ·rename_i c
   split
   ·rename_i h; exact ofVal_rep (.agg c) (fun c' hc=>by cases hc; exact h)
   ·simp[Rep]
  ·rename_i hne
   exact ofVal_rep v (fun c hc=>absurd hc (hne c))
 |global g=>exact glob_rep hg g
 |func f=>simp[evalA,Act.eval,Rep]
def StepOk[Glob](P:Program)(step:Nat→Oper→List AV→RM Eff):Prop:=
 ∀ (r:Option Nat) (x:Item) (B:Nat) (E:Env) (s:St) (a:Act) (w:World) (e:Eff) (K:Act→World→Prop) (Q:Exit→Act→World→Prop),SRel B E s a w →
   (isAllocOp x.o.op=true→s.hp[x.nm]?=some none)→(step (x.at s.hp.length) x.o s.fr).run s.hp=some e →
   (∀ E' w' v,Ext E E'→Fr E w E' w'→Inv E' (applyWr s.hp e.wr) w'→Rep E' true e.val v→K (a.put x.o.dst v) w')→x.o.wpIn (WF r) 0 P a w K Q
theorem wanted_ok{ops:Array Oper}{E:Env}{fr:List AV}{a:Act}(h:RepT E true fr a.tmps.toList){o:Oper}{b:Bool}(hw:wantedA ops fr o=some b):
  Region.wanted o (yielded ops a.tmps)=b:=by
 unfold wantedA at hw
 unfold Region.wanted
 cases hg:o.guard with
 |none=>rw[hg]at hw; simpa using hw
 |some g=>
  obtain⟨j,want⟩:=g
  rw[hg]at hw
  simp only at hw ⊢
  unfold yielded
  cases hd:(ops[j]?).bind (·.dst) with
  |none=>
   rw[hd]at hw
   simp only[Option.some.injEq]at hw; subst hw
   simp
  |some d=>
   rw[hd]at hw
   simp only[Option.bind_some]at hw ⊢
   cases hq:fr[d]? with
   |none=>
    rw[hq]at hw
    simp only[Option.some.injEq]at hw; subst hw
    have hl:=h.length
    have:a.tmps[d]?=none:=by
     simp_all
    simp[this]
   |some y=>
    rw[hq]at hw
    obtain⟨v,hv,hr⟩:=h.get hq
    have hv':a.tmps[d]?=some v:=by simpa using hv
    split at hw
    ·rename_i heq; simp at heq
    ·rename_i b' heq
     simp only[Option.some.injEq]at heq hw
     subst heq
     simp only[Rep]at hr
     subst hr; subst hw
     simp[hv']
    ·rename_i c heq
     simp only[Option.some.injEq]at heq hw
     subst heq
     simp only[Rep]at hr
     subst hr; subst hw
     simp[hv']
    ·simp at hw
section
variable {step:Nat→Oper→List AV→RM Eff}{ops:Array Oper}
theorem predsA_spec:∀ (l:List Oper) (acc:List Nat) (f:List Nat→Oper→List Nat),
  (f=fun acc o=>acc++[maskA acc o.after.toList])→∀ i,i<acc.length→(l.foldl f acc).getD i 0=acc.getD i 0
 |[],acc,f,_,i,_=>rfl
 |o::r,acc,f,hf,i,hi=>by
  simp only[List.foldl_cons]
  rw[predsA_spec r (f acc o) f hf i (by subst hf; simp; omega)]
  subst hf
  simp[List.getD,List.getElem?_append_left hi]
theorem maskA_congr{a b:List Nat}:∀ {l:List Edge},(∀ e∈l,Region.binds .any e=true→a.getD e.on 0=b.getD e.on 0)→maskA a l=maskA b l
 |[],_=>rfl
 |e::l,h=>by
  have:=maskA_congr (l:=l) fun e he=>h e (by simp[he])
  unfold maskA
  split
  ·rename_i hb
   rw[this,h e (by simp) hb]
  ·exact this
theorem maskA_has{a:List Nat}{p:Nat}:∀ {l:List Edge},(maskA a l).testBit p=true→∃ e∈l,Region.binds .any e=true∧(p=e.on∨hasP a e.on p=true)
 |[],h=>by simp[maskA]at h
 |e::l,h=>by
  unfold maskA at h
  split at h
  ·rename_i hb
   simp only[Nat.testBit_or,Bool.or_eq_true]at h
   rcases h with (h|h)|h
   ·grind
   ·exact⟨e,by simp,hb,.inr h⟩
   ·obtain⟨e',he,h'⟩:=maskA_has (l:=l) h
    exact⟨e',by simp[he],h'⟩
  ·obtain⟨e',he,h'⟩:=maskA_has (l:=l) h
   exact⟨e',by simp[he],h'⟩
theorem emask_has{m:Region.Mode}{p:Nat}:∀ {l:List Edge},(∃ e∈l,Region.binds m e=true∧p=e.on)→(emask m l).testBit p=true
 |[],h=>by simp at h
 |e::l,h=>by
  obtain⟨e',he,hb,rfl⟩:=h
  unfold emask
  cases he with
  |head=>simp[hb,Nat.testBit_or]
  |tail _ he=>
   have:=emask_has (l:=l) ⟨e',he,hb,rfl⟩
   split
   ·simp[Nat.testBit_or,this]
   ·exact this
theorem passA_ok[Glob]{m:Region.Mode}{T:Nat→Prop}:∀ (l:List Oper) (i M:Nat),(∀ j,M.testBit j=true→T j) →
  (∀ k o,l[k]?=some o→(∀ e∈o.after.toList,Region.binds m e=true→T e.on)→T (i+k))→∀ j,(passA m i l M).testBit j=true→T j
 |[],i,M,hM,_,j,h=>hM j h
 |o::r,i,M,hM,hs,j,h=>by
  unfold passA at h
  refine passA_ok r (i+1) _ ?_ (fun k o hk he=>by have:=hs (k+1) o (by simpa using hk) he; rwa [show i+1+k=i+(k+1) by omega]) j h
  intro j hj
  split at hj
  ·rename_i hsub
   rw[Nat.testBit_or,Bool.or_eq_true]at hj
   rcases hj with hj|hj
   ·exact hM j hj
   ·rw[Nat.testBit_two_pow]at hj
    have hij:i=j:=by simpa using hj
    subst hij
    refine hs 0 o rfl fun e he hb=>hM _ ?_
    have h1:=emask_has (p:=e.on) ⟨e,he,hb,rfl⟩
    rw[←hsub,Nat.testBit_and,Bool.and_eq_true]at h1
    exact h1.2
  ·exact hM j hj
theorem topoA_ok[Glob]{m:Region.Mode}{T:Nat→Prop}{l:List Oper}(hs:∀ k o,l[k]?=some o→(∀ e∈o.after.toList,Region.binds m e=true→T e.on)→T k):
  ∀ (k M:Nat),(∀ j,M.testBit j=true→T j)→∀ j,(topoA m l k M).testBit j=true→T j
 |0,M,hM,j,h=>hM j h
 |k+1,M,hM,j,h=>by
  unfold topoA at h
  exact topoA_ok hs k _ (passA_ok l 0 M hM (fun q o hq he=>by simpa using hs q o hq he)) j h
theorem topo_ready[Glob]{m:Region.Mode}(h:topoOk m ops=true){T:Nat→Prop}(hs:∀ k o,ops[k]?=some o→(∀ e∈o.after.toList,Region.binds m e=true→T e.on)→T k):∀ i,i<ops.size→T i:=by
 intro i hi
 have h1:=List.all_eq_true.1 h i (List.mem_range.2 hi)
 exact topoA_ok (l:=ops.toList) (fun k o hk he=>hs k o (by simpa using hk) he) 8 0 (by simp) i h1
theorem predsA_at[Glob]:∀ (l:List Oper) (acc:List Nat) (k:Nat) (o:Oper),l[k]?=some o→(∀ e∈o.after.toList,Region.binds .any e=true→e.on<acc.length+k) →
  (l.foldl (fun acc o=>acc++[maskA acc o.after.toList]) acc).getD (acc.length+k) 0 =
    maskA (l.foldl (fun acc o=>acc++[maskA acc o.after.toList]) acc) o.after.toList
 |[],acc,k,o,h,_=>by simp at h
 |p::r,acc,0,o,h,he=>by
  simp only[List.getElem?_cons_zero,Option.some.injEq]at h
  subst h
  simp only[List.foldl_cons,Nat.add_zero]
  rw[predsA_spec r _ _ rfl acc.length (by simp)]
  have h1:(acc++[maskA acc p.after.toList]).getD acc.length 0=maskA acc p.after.toList:=by
   simp[List.getD]
  rw[h1]
  apply maskA_congr
  intro e hem hb
  have hlt:e.on<acc.length:=by simpa using he e hem hb
  rw[predsA_spec r _ _ rfl e.on (by simp; omega)]
  simp[List.getD,List.getElem?_append_left hlt]
 |p::r,acc,k+1,o,h,he=>by
  simp only[List.getElem?_cons_succ]at h
  simp only[List.foldl_cons]
  have:=predsA_at r (acc++[maskA acc p.after.toList]) k o h (fun e hem hb=>by have:=he e hem hb; simp; omega)
  simp only[List.length_append,List.length_cons,List.length_nil]at this
  have e1:acc.length+(0+1)+k=acc.length+(k+1):=by omega
  rw[e1]at this
  exact this
theorem edgesOk_spec:∀ (l:List Oper) (i:Nat),edgesOk i l=true→∀ k o,l[k]?=some o→∀ e∈o.after.toList,Region.binds .any e=true→e.on<i+k
 |[],i,_,k,o,h=>by simp at h
 |p::r,i,h,0,o,hk=>by
  simp only[List.getElem?_cons_zero,Option.some.injEq]at hk
  subst hk
  simp only[edgesOk,Bool.and_eq_true]at h
  intro e he hb
  have:=List.all_eq_true.1 h.1 e he
  simpa[hb] using this
 |p::r,i,h,k+1,o,hk=>by
  simp only[List.getElem?_cons_succ]at hk
  simp only[edgesOk,Bool.and_eq_true]at h
  intro e he hb
  have:=edgesOk_spec r (i+1) h.2 k o hk e he hb
  omega
theorem apartOk_spec{pr:List Nat}:∀ (l:List Oper) (i:Nat),apartOk ops pr i l=true→∀ j k o p,j<k→l[j]?=some o→l[k]?=some p →
  hasP pr (i+k) (i+j)=true∨Oper.apart ops o p=true
 |[],i,_,j,k,o,p,_,h,_=>by simp at h
 |q::r,i,h,0,k+1,o,p,_,ho,hp=>by
  simp only[List.getElem?_cons_zero,Option.some.injEq]at ho
  subst ho
  simp only[List.getElem?_cons_succ]at hp
  simp only[apartOk,Bool.and_eq_true]at h
  have hmem:(p,i+1+k)∈r.zipIdx (i+1):=by
   grind
  have:=List.all_eq_true.1 h.1 _ hmem
  simp only[Bool.or_eq_true]at this
  have e1:i+1+k=i+(k+1):=by omega
  rw[e1]at this
  simpa using this
 |q::r,i,h,j+1,k+1,o,p,hjk,ho,hp=>by
  simp only[List.getElem?_cons_succ]at ho hp
  simp only[apartOk,Bool.and_eq_true]at h
  have:=apartOk_spec r (i+1) h.2 j k o p (by omega) ho hp
  have e1:i+1+j=i+(j+1):=by omega
  have e2:i+1+k=i+(k+1):=by omega
  rw[e1,e2]at this
  exact this
 |q::r,i,h,j,0,o,p,hjk,_,_=>by omega
theorem nameOps_spec[Glob]:∀ (l:List Oper) (i n:Nat) (k:Nat) (x:Item),(nameOps i n l)[k]?=some x →
  x.idx=i+k∧l[k]?=some x.o∧n≤x.nm∧(isAllocOp x.o.op=true→x.nm<n+(l.filter fun o=>isAllocOp o.op).length)
 |[],i,n,k,x,h=>by simp[nameOps]at h
 |o::r,i,n,0,x,h=>by
  simp only[nameOps,List.getElem?_cons_zero,Option.some.injEq]at h
  subst h
  refine⟨rfl,rfl,Nat.le_refl _,fun ha=>?_⟩
  simp only at ha
  simp[ha]
 |o::r,i,n,k+1,x,h=>by
  simp only[nameOps,List.getElem?_cons_succ]at h
  obtain⟨h1,h2,h3,h4⟩:=nameOps_spec r (i+1) _ k x h
  refine⟨by omega,by simpa using h2,?_,fun ha=>?_⟩
  ·split at h3<;>omega
  ·grind
theorem nameOps_nm[Glob]:∀ (l:List Oper) (i n:Nat) (j k:Nat) (x y:Item),j<k→(nameOps i n l)[j]?=some x→(nameOps i n l)[k]?=some y→isAllocOp x.o.op=true→x.nm<y.nm
 |[],i,n,j,k,x,y,_,h,_,_=>by simp[nameOps]at h
 |o::r,i,n,0,k+1,x,y,_,hx,hy,ha=>by
  simp only[nameOps,List.getElem?_cons_zero,Option.some.injEq]at hx
  subst hx
  simp only[nameOps,List.getElem?_cons_succ]at hy
  simp only at ha
  have:=(nameOps_spec r (i+1) _ k y hy).2.2.1
  rw[if_pos ha]at this
  exact this
 |o::r,i,n,j+1,k+1,x,y,hjk,hx,hy,ha=>by
  simp only[nameOps,List.getElem?_cons_succ]at hx hy
  exact nameOps_nm r (i+1) _ j k x y (by omega) hx hy ha
 |o::r,i,n,j,0,x,y,hjk,_,_,_=>by omega
theorem nameOps_length[Glob]:∀ (l:List Oper) (i n:Nat),(nameOps i n l).length=l.length
 |[],_,_=>rfl
 |o::r,i,n=>by simp[nameOps,nameOps_length r]
theorem runDraw_idx[Glob]:∀ (R:List Item) (s s':St) (fs:List Foot),runDraw step ops R s=some (s',fs)→fs.map (·.idx)=R.map (·.idx)
 |[],s,s',fs,h=>by
  simp_all[runDraw]
 |x::r,s,s',fs,h=>by
  obtain⟨s1,f,fs',h1,h2,rfl⟩:=runDraw_cons h
  have ih:=runDraw_idx r s1 s' fs' h2
  have:f.idx=x.idx:=by
   rcases stepD_some h1 with ⟨_,_,rfl⟩|⟨_,_,_,_,_,rfl⟩<;>rfl
  simp[ih,this]
theorem footsOk_spec{pr:List Nat}:∀ (fs:List Foot),footsOk pr fs=true→∀ (j k:Nat) (f g:Foot),j<k→fs[j]?=some f→fs[k]?=some g→footOk pr f g=true
 |[],_,j,k,f,g,_,h,_=>by simp at h
 |q::r,h,0,k+1,f,g,_,hf,hg=>by
  grind[footsOk]
 |q::r,h,j+1,k+1,f,g,hjk,hf,hg=>by
  simp only[List.getElem?_cons_succ]at hf hg
  simp only[footsOk,Bool.and_eq_true]at h
  exact footsOk_spec r h.2 j k f g (by omega) hf hg
 |q::r,h,j,0,f,g,hjk,_,_=>by omega
theorem disj_spec{a b:List Nat}(h:disj a b=true):∀ n∈a,n∉b:=by
 intro n hn hb
 have:=List.all_eq_true.1 h n hn
 simp[hb]at this
end
end Go.PI
end
section
/- PI, part W: a region whose order is drawn, in the world: the induction. -/
namespace Go.PI
section
variable {step:Nat→Oper→List AV→RM Eff}{ops:Array Oper}
structure Left[Glob](ops:Array Oper)(pr:List Nat)(m:Nat)(R:List Item)(listed:Array Bool):Prop where
 size:listed.size=ops.size
 item:∀ x∈R,ops[x.idx]?=some x.o∧listed.getD x.idx true=false∧x.idx<m
 sorted:R.Pairwise (fun x y=>x.idx<y.idx)
 all:∀ i,i<ops.size→listed.getD i true=false→i<m→∃ x∈R,x.idx=i
 rest:∀ i,m≤i→i<ops.size→listed.getD i true=false
 down:∀ i o,ops[i]?=some o→listed.getD i true=true→∀ p,hasP pr i p=true→listed.getD p false=true
 names:R.Pairwise (fun x y=>isAllocOp x.o.op=true→x.nm<y.nm)
theorem getD_lt{a:Array Bool}{i:Nat}(h:i<a.size)(x y:Bool):a.getD i x=a.getD i y:=by
 simp[Array.getD,h]
theorem binds_any{m:Region.Mode}{e:Edge}(h:Region.binds .any e=true):Region.binds m e=true:=by
 grind[Region.binds]
theorem ready_ne[Glob]{md:Region.Mode}(htopo:topoOk md ops=true){listed:Array Bool}(hsize:listed.size=ops.size){i:Nat}(hlt:i<ops.size)(hi:listed.getD i true=false):Region.ready md ops listed≠[]:=by
 intro hempty
 have hall:=topo_ready htopo (T:=fun i=>i<ops.size∧listed.getD i true=true) (fun k o hk he=>by
  have hkl:k<ops.size:=(Array.getElem?_eq_some_iff.1 hk).1
  refine⟨hkl,?_⟩
  cases hq:listed.getD k true with
  |true=>rfl
  |false=>
   have hmem:k∈Region.ready md ops listed:=by
    unfold Region.ready
    rw[List.mem_filter]
    refine⟨List.mem_range.2 hkl,?_⟩
    simp only[hq,Bool.not_false,Bool.true_and,hk,Option.map_some,Option.getD_some]
    rw[←Array.all_toList]
    refine List.all_eq_true.2 fun e hee=>?_
    cases hb:Region.binds md e with
    |false=>rfl
    |true=>
     grind
   rw[hempty]at hmem
   simp at hmem) i hlt
 rw[hi]at hall
 simp at hall
theorem ready_preds[Glob]{md:Region.Mode}(hedge:edgesOk 0 ops.toList=true){listed:Array Bool}(hsize:listed.size=ops.size)
  (hdown:∀ i o,ops[i]?=some o→listed.getD i true=true→∀ p,hasP (predsA ops.toList) i p=true→listed.getD p false=true) {i:Nat} (hi:i∈Region.ready md ops listed) :
  i<ops.size∧listed.getD i true=false∧∀ p,hasP (predsA ops.toList) i p=true→listed.getD p false=true:=by
 have hpreds:∀ i o,ops[i]?=some o→(predsA ops.toList).getD i 0=maskA (predsA ops.toList) o.after.toList:=by
  intro i o ho
  have ho':ops.toList[i]?=some o:=by simpa using ho
  have:=predsA_at ops.toList [] i o ho' (fun e he hb=>by have:=edgesOk_spec ops.toList 0 hedge i o ho' e he hb; simpa using this)
  simpa[predsA] using this
 unfold Region.ready at hi
 rw[List.mem_filter]at hi
 obtain⟨hi1,hi2⟩:=hi
 simp only[List.mem_range]at hi1
 simp only[Bool.and_eq_true,Bool.not_eq_true']at hi2
 obtain⟨hun,hafter⟩:=hi2
 refine⟨hi1,hun,fun p hp=>?_⟩
 obtain⟨o,hoy⟩:∃ o,ops[i]?=some o:=⟨ops[i],by simp[hi1]⟩
 simp only[hoy,Option.map_some,Option.getD_some]at hafter
 rw[←Array.all_toList]at hafter
 unfold hasP at hp
 rw[hpreds i o hoy]at hp
 obtain⟨e,he,hany,hp⟩:=maskA_has hp
 have hb:=(edgesOk_spec ops.toList 0 hedge i o (by simpa using hoy) e he hany)
 have h1:=List.all_eq_true.1 hafter e he
 simp only[binds_any hany,Bool.not_true,Bool.false_or]at h1
 rcases hp with rfl|hp
 ·exact h1
 ·have hlt:e.on<ops.size:=by omega
  have h1':listed.getD e.on true=true:=by rw[getD_lt (by rw[hsize]; exact hlt) true false]; exact h1
  obtain⟨o2,ho2⟩:∃ o2,ops[e.on]?=some o2:=⟨ops[e.on],by simp[hlt]⟩
  exact hdown e.on o2 ho2 h1' p hp
theorem hasP_lt[Glob](hedge:edgesOk 0 ops.toList=true):∀ {k:Nat} {o:Oper},ops[k]?=some o→∀ {p:Nat},hasP (predsA ops.toList) k p=true→p<k:=by
 have hpreds:∀ i o,ops[i]?=some o→(predsA ops.toList).getD i 0=maskA (predsA ops.toList) o.after.toList:=by
  intro i o ho
  have ho':ops.toList[i]?=some o:=by simpa using ho
  have:=predsA_at ops.toList [] i o ho' (fun e he hb=>by have:=edgesOk_spec ops.toList 0 hedge i o ho' e he hb; simpa using this)
  simpa[predsA] using this
 intro k
 induction k using Nat.strongRecOn with
 |ind k ih=>
  intro o hk p hp
  unfold hasP at hp
  rw[hpreds k o hk]at hp
  obtain⟨e,he,hany,hp⟩:=maskA_has hp
  have hb:=(edgesOk_spec ops.toList 0 hedge k o (by simpa using hk) e he hany)
  rcases hp with rfl|hp
  ·omega
  ·grind
theorem tailOk_spec{pr:List Nat}{n m:Nat}(h:tailOk pr n m=true){i j:Nat}(h1:m≤i)(h2:i<n)(h3:j<i):hasP pr i j=true:=by
 have:=List.all_eq_true.1 h (i-m) (List.mem_range.2 (by omega))
 have:=List.all_eq_true.1 this j (List.mem_range.2 (by omega))
 have e:m+(i-m)=i:=by omega
 rw[e]at this
 exact this
theorem draw_any[Glob]{P:Program}(hlook:Looks step)(hstep:StepOk P step)(hedge:edgesOk 0 ops.toList=true){md:Region.Mode}(htopo:topoOk md ops=true){m:Nat}(hm:m≤ops.size)(htail:tailOk (predsA ops.toList) ops.size m=true){s':St}{Q:Exit→Act→World→Prop}
  {E0:Env} {w0:World} {B:Nat} {r:Option Nat}
  (hQ:∀ E a w (listed:Array Bool),Ext E0 E→Fr E0 w0 E w→SRel B E s' a w→listed.size=ops.size→(∀ j,j<m→listed.getD j true=true)→(∀ j,m≤j→j<ops.size→listed.getD j true=false) →
    wpAnyIn (WF r) 0 P md ops Q (ops.size-m) listed a w) :
  ∀ (fuel:Nat) (R:List Item) (listed:Array Bool) (fs:List Foot) (E:Env) (s:St) (a:Act) (w:World),R.length=fuel→Left ops (predsA ops.toList) m R listed →
    Ext E0 E→Fr E0 w0 E w→SRel B E s a w→(∀ x∈R,isAllocOp x.o.op=true→s.hp[x.nm]?=some none)→runDraw step ops R s=some (s',fs) →
    (∀ (j k:Nat) (x y:Item) (f g:Foot),j<k→R[j]?=some x→R[k]?=some y→fs[j]?=some f→fs[k]?=some g →
      hasP (predsA ops.toList) y.idx x.idx=true∨Ind ops x f y g) →
    wpAnyIn (WF r) 0 P md ops Q (fuel+(ops.size-m)) listed a w:=by
 have hpreds:∀ i o,ops[i]?=some o→(predsA ops.toList).getD i 0=maskA (predsA ops.toList) o.after.toList:=by
  intro i o ho
  have ho':ops.toList[i]?=some o:=by simpa using ho
  have:=predsA_at ops.toList [] i o ho' (fun e he hb=>by have:=edgesOk_spec ops.toList 0 hedge i o ho' e he hb; simpa using this)
  simpa[predsA] using this
 intro fuel
 induction fuel with
 |zero=>
  intro R listed fs E s a w hlen hL hx hfr hs _ hrun _
  have hR:R=[]:=List.eq_nil_of_length_eq_zero hlen
  subst hR
  simp only[runDraw,Option.some.injEq,Prod.mk.injEq]at hrun
  obtain⟨rfl,_⟩:=hrun
  rw[Nat.zero_add]
  refine hQ E a w listed hx hfr hs hL.size (fun j hj=>?_) hL.rest
  cases hq:listed.getD j true with
  |true=>rfl
  |false=>
   obtain⟨x,hx,_⟩:=hL.all j (by omega) hq hj
   simp at hx
 |succ fuel ih=>
  intro R listed fs E s a w hlen hL hx hfr hs hnone hrun hpair
  rw[show fuel+1+(ops.size-m)=(fuel+(ops.size-m))+1 by omega]
  refine⟨fun hempty=>?_,fun i hi=>?_⟩
  ·-- the first of what is left is ready
   exfalso
   cases R with
   |nil=>simp at hlen
   |cons x r=>
    obtain⟨hox,hlx,_⟩:=hL.item x (by simp)
    exact ready_ne htopo hL.size (Array.getElem?_eq_some_iff.1 hox).1 hlx hempty
  ·obtain⟨hi1,hun,hpl⟩:=ready_preds hedge hL.size hL.down hi
   have him:i<m:=by
    rcases Nat.lt_or_ge i m with h|h
    ·exact h
    ·exfalso
     cases R with
     |nil=>simp at hlen
     |cons x r=>
      obtain⟨hox,hlx,hxm⟩:=hL.item x (by simp)
      have:=hpl x.idx (tailOk_spec htail h hi1 (by omega))
      rw[getD_lt (by rw[hL.size]; omega) true false]at hlx
      rw[this]at hlx; cases hlx
   obtain⟨y,hy,hyi⟩:=hL.all i hi1 hun him
   subst hyi
   obtain⟨hoy,_,hym⟩:=hL.item y hy
   obtain⟨A,B',rfl⟩:=List.append_of_mem hy
   have hlenf:fs.length=(A++y::B').length:=by
    have:=congrArg List.length (runDraw_idx _ _ _ _ hrun)
    simpa using this
   have hAlt:A.length<fs.length:=by rw[hlenf]; simp
   have hfs:fs=fs.take A.length++fs[A.length]::fs.drop (A.length+1):=by
    simp_all
   have hind:∀ p∈A.zip (fs.take A.length),Ind ops p.1 p.2 y fs[A.length]:=by
    intro p hp
    obtain⟨j,hj⟩:=List.mem_iff_getElem?.1 hp
    have hjx:=(List.getElem?_zip_eq_some).1 hj
    obtain⟨h1,h2⟩:=hjx
    have hjA:=getElem?_lt h1
    rw[List.getElem?_take_of_lt hjA]at h2
    rcases hpair j A.length p.1 y p.2 fs[A.length] hjA (by rw[List.getElem?_append_left hjA]; exact h1) (by simp) h2 (by simp[hAlt]) with h|h
    ·exfalso
     have h3:=hpl _ h
     have h4:=(hL.item p.1 (List.mem_append_left _ (List.mem_of_getElem? h1))).2.1
     have hlt:p.1.idx<ops.size:=(Array.getElem?_eq_some_iff.1 (hL.item p.1 (List.mem_append_left _ (List.mem_of_getElem? h1))).1).1
     rw[getD_lt (by rw[hL.size]; exact hlt) true false]at h4
     rw[h3]at h4; simp at h4
    ·exact h
   have hfront:=runDraw_front hlook A s fs hrun (fs.take A.length) fs[A.length] (fs.drop (A.length+1)) hfs (by simp; omega) hind
   obtain⟨s1,f,fs',hst,hrun',hfe⟩:=runDraw_cons hfront
   simp only[List.cons.injEq]at hfe
   obtain⟨rfl,rfl⟩:=hfe
   have hne:∀ x∈A++B',x.idx≠y.idx:=by
    intro x hx
    have hp:=List.pairwise_append.1 hL.sorted
    rcases List.mem_append.1 hx with h|h
    ·have:=hp.2.2 x h y (by simp); omega
    ·have:=List.rel_of_pairwise_cons hp.2.1 h; omega
   have hsub:(A++B').Sublist (A++y::B'):=List.Sublist.append (List.Sublist.refl A) (List.sublist_cons_self y B')
   have hL':Left ops (predsA ops.toList) m (A++B') (listed.setIfInBounds y.idx true):=by
    have hset:∀ j d,j≠y.idx→(listed.setIfInBounds y.idx true).getD j d=listed.getD j d:=by
     intro j d hj
     simp[Array.getD_eq_getD_getElem?,Ne.symm hj]
    have hyset:∀ d,(listed.setIfInBounds y.idx true).getD y.idx d=true:=by
     intro d
     have:y.idx<listed.size:=by rw[hL.size]; exact hi1
     simp[Array.getD_eq_getD_getElem?,this]
    refine⟨by simpa using hL.size,fun x hx=>?_,hL.sorted.sublist hsub,fun j hj hu hjm=>?_,fun j hj hjl=>?_,fun j o ho hl p hp=>?_,hL.names.sublist hsub⟩
    ·obtain⟨h1,h2,h3⟩:=hL.item x (hsub.subset hx)
     exact⟨h1,by rw[hset _ _ (hne x hx)]; exact h2,h3⟩
    ·have hjy:j≠y.idx:=by intro e; subst e; rw[hyset]at hu; simp at hu
     rw[hset _ _ hjy]at hu
     obtain⟨x,hx,hxi⟩:=hL.all j hj hu hjm
     refine⟨x,?_,hxi⟩
     rcases List.mem_append.1 hx with h|h
     ·exact List.mem_append_left _ h
     ·cases h with
      |head=>omega
      |tail _ h=>exact List.mem_append_right _ h
    ·rw[hset _ _ (by omega)]
     exact hL.rest j hj hjl
    ·by_cases hjy:j=y.idx
     ·subst hjy
      rw[hoy]at ho; cases ho
      by_cases hpy:p=y.idx
      ·subst hpy; exact hyset _
      ·rw[hset _ _ hpy]; exact hpl p hp
     ·rw[hset _ _ hjy]at hl
      by_cases hpy:p=y.idx
      ·subst hpy; exact hyset _
      ·rw[hset _ _ hpy]; exact hL.down j o ho hl p hp
   have hlen':(A++B').length=fuel:=by simp at hlen ⊢; omega
   have hpair':∀ (j k:Nat) (x z:Item) (f g:Foot),j<k→(A++B')[j]?=some x→(A++B')[k]?=some z→(fs.take A.length++fs.drop (A.length+1))[j]?=some f →
     (fs.take A.length++fs.drop (A.length+1))[k]?=some g→hasP (predsA ops.toList) z.idx x.idx=true∨Ind ops x f z g:=by
    have tr:∀ (j:Nat) (x:Item) (f:Foot),(A++B')[j]?=some x→(fs.take A.length++fs.drop (A.length+1))[j]?=some f →
      (A++y::B')[if j<A.length then j else j+1]?=some x∧fs[if j<A.length then j else j+1]?=some f:=by
     intro j x f h1 h2
     have htl:(fs.take A.length).length=A.length:=by simp; omega
     by_cases hj:j<A.length
     ·rw[if_pos hj]
      rw[List.getElem?_append_left hj]at h1
      rw[List.getElem?_append_left (by omega),List.getElem?_take_of_lt hj]at h2
      exact⟨by rw[List.getElem?_append_left hj]; exact h1,h2⟩
     ·rw[if_neg hj]
      rw[List.getElem?_append_right (by omega)]at h1
      rw[List.getElem?_append_right (by omega),htl,List.getElem?_drop]at h2
      refine⟨?_,?_⟩
      ·rw[List.getElem?_append_right (by omega)]
       have:j+1-A.length=(j-A.length)+1:=by omega
       rw[this]; simpa using h1
      ·have:A.length+1+(j-A.length)=j+1:=by omega
       rw[this]at h2; exact h2
    intro j k x z f g hjk h1 h2 h3 h4
    obtain⟨a1,a2⟩:=tr j x f h1 h3
    obtain⟨b1,b2⟩:=tr k z g h2 h4
    refine hpair _ _ x z f g ?_ a1 b1 a2 b2
    split<;>split<;>omega
   unfold wpOpIn
   rw[hoy]
   simp only
   rcases stepD_some hst with ⟨hw,rfl,_⟩|⟨hw,e,he,hwr,rfl,_⟩
   ·rw[wanted_ok hs.fr hw]
    simp only[Bool.false_eq_true,if_false]
    refine⟨fun _ _=>trivial,?_⟩
    refine ih (A++B') _ _ E { s with fr:=putA s.fr y.o.dst .undef } _ w hlen' hL' hx hfr ⟨put_rep hs.fr (by simp[Rep]),hs.inv,by rw[put_defers]; exact hs.df,hs.bs⟩ (fun x hx=>hnone x (hsub.subset hx)) hrun' hpair'
   ·rw[wanted_ok hs.fr hw]
    simp only[if_true]
    refine hstep r y B E s a w e _ Q hs (hnone y (by simp)) he fun E' w' v hx' hfr' hI' hr=>?_
    refine ih (A++B') _ _ E' { s with fr:=putA s.fr y.o.dst e.val,hp:=applyWr s.hp e.wr } _ w' hlen' hL' (hx.trans hx') (hfr.trans hfr') ⟨put_rep (hs.fr.mono hx') hr,hI',by rw[put_defers]; exact hs.df.mono hfr',Nat.le_trans hs.bs hfr'.size⟩ (fun x hx ha=>?_) hrun' hpair'
    have hn:=hnone x (hsub.subset hx) ha
    have hnot:x.nm∉e.wr.map (·.1):=by
     intro hm
     obtain⟨q,hq,hqn⟩:=List.mem_map.1 hm
     rcases (hwr q hq).2 with h|⟨o,ho⟩
     ·have hxn:y.nm=x.nm:=by rw[←h.2]; exact hqn
      have hp:=List.pairwise_append.1 hL.names
      rcases List.mem_append.1 hx with h'|h'
      ·have:=hp.2.2 x h' y (by simp) ha; omega
      ·have:=List.rel_of_pairwise_cons hp.2.1 h' h.1; omega
     ·rw[hqn]at ho; rw[hn]at ho; simp at ho
    simp only
    rw[applyWr_get e.wr s.hp (fun q hq=>(hwr q hq).1) x.nm hnot]
    exact hn
end
end Go.PI
end
section
/- PI, part X: results, calls, what is dropped. -/
namespace Go.PI
theorem opEff_congr{P:Program}{nm:Nat}{ev ev':Operand→AV}{o:Oper}(h:∀ x∈o.op.operands.toList,ev x=ev' x):opEff P nm ev o=opEff P nm ev' o:=by
 obtain⟨dst,op,type,pos,after,guard⟩:=o
 have hmap:∀ (l:List Operand),(∀ x∈l,x∈op.operands.toList)→l.map ev=l.map ev':=fun l hl=>List.map_congr_left fun x hx=>h x (hl x hx)
 unfold opEff
 cases op with
 |build t parts=>
  have:(parts.toList.map fun p=>(p.1,ev p.2))=(parts.toList.map fun p=>(p.1,ev' p.2)):=
   List.map_congr_left fun p hp=>by rw[h p.2 (by simp only[Op.operands]; exact List.mem_map.2 ⟨p,hp,rfl⟩)]
  simp only[this]
 |buildSlice t len parts=>
  have:(parts.toList.map fun p=>(p.1,ev p.2))=(parts.toList.map fun p=>(p.1,ev' p.2)):=
   List.map_congr_left fun p hp=>by rw[h p.2 (by simp only[Op.operands]; exact List.mem_map.2 ⟨p,hp,rfl⟩)]
  simp only[this]
 |makeFunc fn first captured=>
  have h1:=hmap first.toList (fun x hx=>by simp only[Op.operands,Array.toList_append,List.mem_append]; exact .inl hx)
  have h2:=hmap captured.toList (fun x hx=>by simp only[Op.operands,Array.toList_append,List.mem_append]; exact .inr hx)
  simp only[h1,h2]
 |slice t x lo hi mx=>
  have h0:=h x (by simp[Op.operands])
  have h1:lo.map ev=lo.map ev':=by cases lo with|none=>rfl|some y=>simp[h y (by simp[Op.operands])]
  have h2:hi.map ev=hi.map ev':=by cases hi with|none=>rfl|some y=>simp[h y (by simp[Op.operands])]
  have h3:mx.map ev=mx.map ev':=by cases mx with|none=>rfl|some y=>simp[h y (by simp[Op.operands])]
  simp only[h0,h1,h2,h3]
 |call c=>
  obtain⟨callee,args,argTypes⟩:=c
  cases callee with
  |builtin b=>
   have h1:=hmap args.toList (fun x hx=>by simp[Op.operands,Call.operands]; simpa using hx)
   simp only[h1]
  |value f=>rfl
  |invoke r m=>rfl
 |move x=>simp only[h x (by simp[Op.operands])]
 |assign x=>simp only[h x (by simp[Op.operands])]
 |pick c a b=>simp_all[Op.operands]
 |box t x=>simp only[h x (by simp[Op.operands])]
 |load t a=>simp only[h a (by simp[Op.operands])]
 |store t a x=>simp_all[Op.operands]
 |nilCheck x=>simp only[h x (by simp[Op.operands])]
 |binOp b t x y yt=>simp_all[Op.operands]
 |unOp u t x=>simp only[h x (by simp[Op.operands])]
 |convert s d x=>simp only[h x (by simp[Op.operands])]
 |makeInterface t x=>simp only[h x (by simp[Op.operands])]
 |makeSlice t l c=>simp_all[Op.operands]
 |sliceToArrayPointer t x=>simp only[h x (by simp[Op.operands])]
 |fieldAddr s x f=>simp only[h x (by simp[Op.operands])]
 |field s x f=>simp only[h x (by simp[Op.operands])]
 |indexAddr t x i=>simp_all[Op.operands]
 |index t x i=>simp_all[Op.operands]
 |extract t i=>simp only[h t (by simp[Op.operands])]
 |makeMap t r=>
  have h1:r.map ev=r.map ev':=by cases r with|none=>rfl|some y=>simp[h y (by simp[Op.operands])]
  simp only[h1]
 |lookup t x i c=>simp_all[Op.operands]
 |mapUpdate t m k x=>simp_all[Op.operands]
 |_=>rfl
theorem opEff_nm[Glob]{P:Program}{nm nm':Nat}{ev:Operand→AV}{o:Oper}(h:isAllocOp o.op=false):opEff P nm ev o=opEff P nm' ev o:=by
 obtain⟨dst,op,type,pos,after,guard⟩:=o
 unfold opEff
 cases op with
 |alloc _=>simp[isAllocOp]at h
 |box _ _=>simp[isAllocOp]at h
 |buildSlice _ _ _=>simp[isAllocOp]at h
 |makeSlice _ _ _=>simp[isAllocOp]at h
 |makeMap _ _=>simp[isAllocOp]at h
 |call c=>
  obtain⟨callee,args,argTypes⟩:=c
  cases callee with
  |builtin b=>
   cases b with
   |append=>simp[isAllocOp]at h
   |_=>rfl
  |_=>rfl
 |_=>rfl
theorem RM.run_arr_mk{hp:AHeap}{n:Nat}{g c f:Bool}{es:List AV}(h:hp[n]?=some (some (.arr g c f es))):(RM.arr n es.length).run hp=some (g,c,f,es):=by
 simp[RM.arr,RM.run,h]
theorem results_ok[Glob]{P:Program}{E:Env}{hp:AHeap}{w:World}(hI:Inv E hp w){fr:List AV}{a:Act}(hfr:RepT E true fr a.tmps.toList){fn:Func}{l:List AV}
  (h:(resultsL P fr fn.results.toList).run hp=some l):∃ v,(results fn a.tmps).run P w=.ok v w∧Rep E true (tupOf l) v:=by
 have one:∀ (r:ResultVar) (x:AV),(resultA P fr r).run hp=some x →
   ∃ v,(match r with|.tmp t=>pure (a.tmps.getD t undef)|.cell ad t=>(do loadVar t (←asAddr (a.tmps.getD ad undef))):Sem Value).run P w=.ok v w∧Rep E true x v:=by
  intro r x hx
  cases r with
  |tmp t=>
   simp only[resultA,RM.run_pure,Option.some.injEq]at hx
   subst hx
   exact⟨_,rfl,eval_rep hI.glob hfr (.tmp t)⟩
  |cell ad t=>
   simp only[resultA]at hx
   have hr:=eval_rep hI.glob hfr (.tmp ad)
   obtain⟨v,h1,h2⟩:=load_ok hI (va:=a.tmps.getD ad undef) hr hx
   refine⟨v,?_,h2⟩
   simp only[Instr.loadAt,Sem.run_bind]at h1
   simp only[Sem.run_bind]
   cases hq:a.tmps.getD ad undef with
   |pointer p=>
    cases p with
    |some p=>rw[hq]at h1; simpa[asAddr,Instr.sureAddr] using h1
    |none=>rw[hq]at h1; simp[Instr.sureAddr]at h1
   |_=>rw[hq]at h1; simp[Instr.sureAddr]at h1
 have many:∀ (rs:List ResultVar) (l:List AV),(resultsL P fr rs).run hp=some l →
   ∃ vs:List Value,(rs.mapM fun|.tmp t=>pure (a.tmps.getD t undef)|.cell ad t=>(do loadVar t (←asAddr (a.tmps.getD ad undef))):Sem (List Value)).run P w=.ok vs w ∧
     RepT E true l vs:=by
  intro rs
  induction rs with
  |nil=>
   intro l h
   simp only[resultsL,RM.run_pure,Option.some.injEq]at h
   subst h
   exact⟨[],by simp[List.mapM_nil],by simp[RepT]⟩
  |cons r rs ih=>
   intro l h
   simp only[resultsL,RM.run_bind]at h
   cases hq:(resultA P fr r).run hp with
   |none=>rw[hq]at h; simp at h
   |some x=>
    rw[hq]at h
    simp only[Option.bind_some]at h
    cases hq2:(resultsL P fr rs).run hp with
    |none=>rw[hq2]at h; simp at h
    |some xs=>
     rw[hq2]at h
     simp only[Option.bind_some,RM.run_pure,Option.some.injEq]at h
     subst h
     obtain⟨v,h1,h2⟩:=one r x hq
     obtain⟨vs,h3,h4⟩:=ih xs hq2
     refine⟨v::vs,?_,by simp only[RepT]; exact⟨h2,h4⟩⟩
     rw[List.mapM_cons,Sem.run_bind,h1,Result.andThen_ok,Sem.run_bind,h3]
     rfl
 obtain⟨vs,h1,h2⟩:=many _ _ h
 have hm:(fn.results.mapM fun|.tmp t=>pure (a.tmps.getD t undef)|.cell ad t=>(do loadVar t (←asAddr (a.tmps.getD ad undef))):Sem (Array Value)).run P w=.ok vs.toArray w:=by
  rw[Array.mapM_eq_mapM_toList,Sem.run_map,h1]
  rfl
 refine⟨if h:vs.toArray.size=1 then vs.toArray[0] else .tuple vs.toArray,?_,?_⟩
 ·unfold results
  rw[Sem.run_bind]
  exact congrArg (fun (r:Result (Array Value))=>r.andThen fun vs w'=>(pure (if h:vs.size=1 then vs[0] else .tuple vs):Sem Value).run P w') hm
 ·have hlen:=h2.length
  match l,vs,h2,hlen with
  |[],[],_,_=>simp[tupOf,Rep,RepT]
  |[x],[v],h2,_=>simp only[RepT]at h2; simpa[tupOf] using h2.1
  |x::y::r,v::u::s,h2,_=>
   simp only[tupOf,Rep]
   exact⟨v::u::s,by simp,h2⟩
  |[],_::_,_,h=>simp at h
  |_::_,[],_,h=>simp at h
  |[_],_::_::_,_,h=>simp at h
  |_::_::_,[_],_,h=>simp at h
def Env.reserve(E:Env)(k:Nat):Env where
 ρ:=fun n ver=>if n<E.L then E.ρ n ver else none
 m:=E.m
 L:=E.L+k
 own:=E.own
theorem reserve_ok[Glob]{E:Env}{hp:AHeap}{w:World}(hI:Inv E hp w)(k:Nat):
  Ext E (E.reserve k)∧Inv (E.reserve k) (hp++List.replicate k none) w∧Fr E w (E.reserve k) w:=by
 have hx:Ext E (E.reserve k):=⟨fun _ _ h=>h,fun n hn ver l h=>by simp[Env.reserve,hn,h],by simp[Env.reserve]⟩
 have hold:∀ n o,(hp++List.replicate k none)[n]?=some (some o)→hp[n]?=some (some o)∧n<E.L:=by
  intro n o h
  rw[List.getElem?_append]at h
  split at h
  ·rename_i hlt; exact⟨h,by rw[←hI.len]; exact hlt⟩
  ·simp[List.getElem?_replicate]at h
 have hrho:∀ n,n<E.L→∀ ver,(E.reserve k).ρ n ver=E.ρ n ver:=fun n hn ver=>by simp[Env.reserve,hn]
 have hblk:∀ n b,BlkOf (E.reserve k) (hp++List.replicate k none) n b→BlkOf E hp n b:=by
  rintro n b ⟨o,l,ho,hl,hb⟩
  obtain⟨h1,h2⟩:=hold n o ho
  refine⟨o,l,h1,?_,hb⟩
  cases o with
  |arr=>simpa only[hrho n h2] using hl
  |oth=>simpa only[hrho n h2] using hl
 refine⟨hx,⟨by simp[Env.reserve,hI.len],?_,?_,fun n1 n2 b h1 h2=>hI.inj n1 n2 b (hblk _ _ h1) (hblk _ _ h2),hI.mem,hI.ownb,hI.glob⟩,
  ⟨rfl,rfl,rfl,Nat.le_refl _,fun _ _ _=>rfl,fun _ h=>.inl h,fun _ _ h=>.inl h⟩⟩
 ·intro n o ho
  obtain⟨h1,h2⟩:=hold n o ho
  have h:=hI.objs n o h1
  cases o with
  |arr g cl fz es=>
   obtain⟨l,hl,hv,hm⟩:=h
   refine⟨l,by rw[hrho n h2]; exact hl,fun ver l' h=>hv ver l' (by rw[hrho n h2]at h; exact h),?_⟩
   cases hb:l.blk with
   |none=>rw[hb]at hm; exact hm
   |some b=>
    rw[hb]at hm
    obtain⟨c,T,a1,a2,a3,a4,a5,a6,a7⟩:=hm
    exact⟨c,T,a1,a2,a3,a4,a5,a6,fun i e he=>by obtain⟨v,hv',hat⟩:=a7 i e he; exact⟨v,hv'.mono hx,hat⟩⟩
  |oth k ents=>
   obtain⟨l,b,es,clock,a1,a2,a3,a4,a5,a6,a7,a8⟩:=h
   exact⟨l,b,es,clock,by rw[hrho n h2]; exact a1,a2,a3,a4,a5,fun ver l' h=>a6 ver l' (by rw[hrho n h2]at h; exact h),a7,a8.mono hx⟩
 ·intro n ver h
  rw[List.getElem?_append]at h
  split at h
  ·rename_i hlt
   have:n<E.L:=by rw[←hI.len]; exact hlt
   rw[hrho n this]
   exact hI.free n ver h
  ·rename_i hge
   have:¬n<E.L:=by rw[←hI.len]; exact hge
   simp[Env.reserve,this]
def Env.lower(E:Env)(n:Nat):Env:={ E with L:=n }
theorem lower_ok[Glob]{E:Env}{hp:AHeap}{w:World}(hI:Inv E hp w){n:Nat}(hn:n≤hp.length)(hall:(hp.take n).all (oBelow n)=true):
  Inv (E.lower n) (hp.take n) w∧Fr E w (E.lower n) w∧Down E (E.lower n):=by
 have hdn:Down E (E.lower n):=⟨fun _ _ h=>h,fun _ _ _ _ h=>h⟩
 have hold:∀ i o,(hp.take n)[i]?=some o→hp[i]?=some o∧i<n:=by
  grind
 have hblk:∀ i b,BlkOf (E.lower n) (hp.take n) i b→BlkOf E hp i b:=by
  rintro i b ⟨o,l,ho,hl,hb⟩
  exact⟨o,l,(hold i _ ho).1,hl,hb⟩
 refine⟨⟨by simp[Env.lower]; omega,?_,fun i ver h=>hI.free i ver (hold i _ h).1,fun n1 n2 b h1 h2=>hI.inj n1 n2 b (hblk _ _ h1) (hblk _ _ h2),hI.mem,hI.ownb,hI.glob⟩,
  ⟨rfl,rfl,rfl,Nat.le_refl _,fun _ _ _=>rfl,fun _ h=>.inl h,fun _ _ h=>.inl h⟩,hdn⟩
 intro i o ho
 obtain⟨h1,h2⟩:=hold i _ ho
 have hb:=List.all_eq_true.1 hall _ (List.mem_of_getElem? ho)
 simp only[oBelow]at hb
 have h:=hI.objs i o h1
 cases o with
 |arr g cl fz es=>
  obtain⟨l,hl,hv,hm⟩:=h
  refine⟨l,hl,hv,?_⟩
  cases hbl:l.blk with
  |none=>rw[hbl]at hm; exact hm
  |some b=>
   rw[hbl]at hm
   obtain⟨c,T,a1,a2,a3,a4,a5,a6,a7⟩:=hm
   refine⟨c,T,a1,a2,a3,a4,a5,a6,fun j e he=>?_⟩
   obtain⟨v,hv',hat⟩:=a7 j e he
   refine⟨v,?_,hat⟩
   cases cl with
   |true=>exact Rep.mono0 ⟨hdn.m⟩ hv'
   |false=>
    simp only[AObj.below,Bool.false_or]at hb
    refine Rep.down hdn ?_ hv'
    have:∀ (l:List AV),belowL n l=true→∀ x∈l,below n x=true:=by
     intro l
     induction l with
     |nil=>simp
     |cons y ys ih=>
      simp_all[belowL]
    exact this es hb e (List.mem_of_getElem? he)
 |oth k ents=>
  obtain⟨l,b,es,clock,a1,a2,a3,a4,a5,a6,a7,a8⟩:=h
  refine⟨l,b,es,clock,a1,a2,a3,a4,a5,a6,a7,?_⟩
  simp only[AObj.below]at hb
  exact RepT.down hdn hb a8
theorem forget_rep[Glob]{E:Env}{n:Nat}(hdn:Down E (E.lower n)):∀ {fr:List AV} {vs:List Value},RepT E true fr vs→RepT (E.lower n) true (fr.map (forget n)) vs
 |[],[],_=>by simp[RepT]
 |x::xs,v::vs,h=>by
  simp only[RepT]at h
  simp only[List.map_cons,RepT]
  refine⟨?_,forget_rep hdn h.2⟩
  unfold forget
  split
  ·rename_i hb; exact Rep.down hdn hb h.1
  ·simp[Rep]
 |[],_::_,h=>by simp[RepT]at h
 |_::_,[],h=>by simp[RepT]at h
end Go.PI
end
section
/- PI, part Y: the evaluator's answers are what the machine does, on every tape and in every order. -/
namespace Go.PI
def OutOk[Glob](B:Nat)(E:Env):Out→Exit→Act→World→Prop
 |.norm s,.normal,a,w=>SRel B E s a w
 |.exit i s,.exit j,a,w=>i=j∧SRel B E s a w
 |.ret s,.ret,a,w=>SRel B E s a w
 |.pnc v s,.panic ch,a,w=>∃ u,ch=[{ v:=u,recovered:=false }]∧Rep E true v u∧Inv E s.hp w∧Marks B E w a.defers
 |_,_,_,_=>False
def OutPost[Glob](B:Nat)(E:Env)(w:World)(o:Out)(e:Exit)(a':Act)(w':World):Prop:=
 ∃ E',Ext E E'∧Fr E w E' w'∧OutOk B E' o e a' w'
theorem OutPost.from[Glob]{B:Nat}{E E1:Env}{w w1:World}{o:Out}{e:Exit}{a:Act}{w':World}(hx:Ext E E1)(hf:Fr E w E1 w1)(h:OutPost B E1 w1 o e a w'):OutPost B E w o e a w':=by
 obtain⟨E',h1,h2,h3⟩:=h
 exact⟨E',hx.trans h1,hf.trans h2,h3⟩
structure Ctx.Ok[Glob](C:Ctx):Prop where
 name : ∀ (f : FuncId) (fn : Func), C.P.funcs[f]? = some fn → fn.body.isSome = true → (fn.name == "runtime.NumGoroutine") = false
 intr:∀ (g:FuncId) (h:List AV→Option AV) (as:List AV) (r:AV),C.intr g=some h→h as=some r→∀ (Ec:Env) (w:World) (vs:List Value),Inv Ec [] w→RepT Ec false as vs →
  Calls C.P g vs.toArray w (CallPost Ec w [] (.val r))
 intrO:∀ (g:FuncId) (h:List AV→Option (AV×AHeap)) (as:List AV) (r:AV) (hpf:AHeap),C.intrO g=some h→h as=some (r,hpf) →
  ∀ (Ec:Env) (w:World) (vs:List Value),Inv Ec [] w→RepT Ec false as vs →
    Calls C.P g vs.toArray w (fun en w'=>∃ r' hpf',CallPost Ec w hpf' (.val r') en w'∧∀ nm,ownOut nm r' hpf'=ownOut nm r hpf)
 intrOFn:∀ (g:FuncId) (h:List AV→Option (AV×AHeap)),C.intrO g=some h→∃ fn:Func,C.P.funcs[g]?=some fn∧fn.body.isSome=true
 intrE:∀ (g:FuncId) (h:List AV→RM Eff) (args:List AV) (hp:AHeap) (e:Eff),C.intrE g=some h→(h args).run hp=some e→(∃ fn:Func,C.P.funcs[g]?=some fn∧fn.body.isSome=true) ∧
  ∀ (E:Env) (w:World) (vs:List Value),Inv E hp w→RepT E true args vs→Calls C.P g vs.toArray w (CallPost E w (applyWr hp e.wr) (.val e.val))
 intrFn:∀ (g:FuncId) (h:List AV→Option AV),C.intr g=some h→∃ fn:Func,C.P.funcs[g]?=some fn∧fn.body.isSome=true
def SoundF[Glob](C:Ctx)(k:Nat):Prop:=
 ∀ f args hp res hp',evF C k f args hp=some (res,hp')→∀ (E:Env) (w:World) (vs:List Value),Inv E hp w→RepT E true args vs →
   Calls C.P f vs.toArray w (CallPost E w hp' res)
def SoundC[Glob](C:Ctx)(k:Nat):Prop:=
 ∀ c s o,evC C k c s=some o→∀ (r:Option Nat),(r=none∨noRng c=true)→∀ (B:Nat) (E:Env) (a:Act) (w:World),SRel B E s a w→c.wpIn (WF r) 0 C.P (OutPost B E w o) a w
def SoundO[Glob](P:Program)(step:Oper→St→Option Out):Prop:=
 ∀ (o:Oper) (s:St) (r:Out),step o s=some r→∀ (rd:Option Nat) (B:Nat) (E:Env) (a:Act) (w:World) (K:Act→World→Prop) (Q:Exit→Act→World→Prop),SRel B E s a w →
   (∀ s',r=.norm s'→∀ E' a' w',Ext E E'→Fr E w E' w'→SRel B E' s' a' w'→K a' w') →
   (∀ v s',r=.pnc v s'→∀ E' w' u,Ext E E'→Fr E w E' w'→Inv E' s'.hp w'→Rep E' true v u→Q (.panic [{ v:=u,recovered:=false }]) a w') →
   o.wpIn (WF rd) 0 P a w K Q
def SoundP[Glob](C:Ctx)(k:Nat):Prop:=
 ∀ g args hp res wr,(evP C k g args).run hp=some (res,wr)→∀ (E:Env) (w:World) (vs:List Value),Inv E hp w→RepT E true args vs →
   Calls C.P g vs.toArray w (CallPost E w (applyWr hp wr) res)
theorem runOps_ok[Glob]{P:Program}{step:Oper→St→Option Out}(hstep:SoundO P step)(hkind:∀ o s r,step o s=some r→(∃ s',r=.norm s')∨∃ v s',r=.pnc v s')
  {ops:Array Oper} (rd:Option Nat) (B:Nat):∀ (l:List Oper) (s:St) (o:Out),runOps step ops l s=some o→∀ (E0 E:Env) (a:Act) (w0 w:World),Ext E0 E→Fr E0 w0 E w→SRel B E s a w →
    wpListIn (WF rd) 0 P ops (OutPost B E0 w0 o) l a w
 |[],s,o,h,E0,E,a,w0,w,hx,hf,hs=>by
  simp only[runOps,Option.some.injEq]at h
  subst h
  exact⟨E,hx,hf,hs⟩
 |p::r,s,o,h,E0,E,a,w0,w,hx,hf,hs=>by
  simp only[runOps]at h
  unfold wpListIn
  split at h
  ·simp at h
  ·rename_i hw
   rw[wanted_ok hs.fr hw]
   simp only[Bool.false_eq_true,if_false]
   exact⟨fun _ _=>trivial,runOps_ok hstep hkind rd B r _ o h E0 E _ w0 w hx hf ⟨put_rep hs.fr (by simp[Rep]),hs.inv,by rw[put_defers]; exact hs.df,hs.bs⟩⟩
  ·rename_i hw
   rw[wanted_ok hs.fr hw]
   simp only[if_true]
   cases hq:step p s with
   |none=>rw[hq]at h; simp at h
   |some q=>
    rw[hq]at h
    refine hstep p s q hq rd B E a w _ _ hs (fun s' e E' a' w' hx' hf' hs'=>?_) (fun v s' e E' w' u hx' hf' hI' hr=>?_)
    ·subst e
     exact runOps_ok hstep hkind rd B r s' o h E0 E' a' w0 w' (hx.trans hx') (hf.trans hf') hs'
    ·subst e
     simp only[Option.some.injEq]at h
     subst h
     exact⟨E',hx.trans hx',hf.trans hf',u,rfl,hr,hI',hs.df.mono hf'⟩
theorem resolve_ok[Glob]{P:Program}{E:Env}{w:World}{fv:AV}{f:Value}{args args':List AV}{vs:List Value}{g:FuncId}(hf:Rep E true fv f)(ha:RepT E true args vs)
  (h : resolveA fv args = some (g, args')) (hfn : ∃ fn : Func, P.funcs[g]? = some fn ∧ fn.body.isSome = true ∧ (fn.name == "runtime.NumGoroutine") = false) :
  ∃ vs':List Value,RepT E true args' vs'∧(do let d ←Deferred.ofValue f vs.toArray; invoke d.target d.args:Sem Next).run P w=.ok (.enter g vs'.toArray) w:=by
 obtain⟨fn,h1,h2,h3⟩:=hfn
 have hb:fn.body.isNone=false:=by cases hq:fn.body<;>simp_all
 have run:∀ (first captured:List Value),f=.func (.func g) first.toArray captured.toArray →
   (do let d ←Deferred.ofValue f vs.toArray; invoke d.target d.args:Sem Next).run P w=.ok (.enter g (first++vs++captured).toArray) w:=by
  intro first captured hv
  subst hv
  simp only[Deferred.ofValue,Sem.run_bind,Sem.run_pure,Result.andThen_ok,invoke,callFunc,run_program,h1,h3,hb,Bool.false_eq_true,if_false]
  simp
 cases fv with
 |lit u=>
  cases u with
  |func fnv first captured=>
   cases fnv with
   |func g'=>
    simp only[resolveA,Option.some.injEq,Prod.mk.injEq]at h
    obtain⟨rfl,rfl⟩:=h
    simp only[Rep]at hf
    exact⟨first.toList++vs++captured.toList,((RepT.lits _).append ha).append (RepT.lits _),run _ _ (by simpa using hf)⟩
   |_=>simp[resolveA]at h
  |_=>simp[resolveA]at h
 |clo fnv first captured=>
  cases fnv with
  |func g'=>
   simp only[resolveA,Option.some.injEq,Prod.mk.injEq]at h
   obtain⟨rfl,rfl⟩:=h
   simp only[Rep]at hf
   obtain⟨fv,cv,hv,hf1,hf2⟩:=hf
   exact⟨fv++vs++cv,(hf1.append ha).append hf2,run _ _ hv⟩
  |_=>simp[resolveA]at h
 |_=>simp[resolveA]at h
theorem semAt_same[Glob]{P:Program}{E:Env}{hp:AHeap}{w:World}{o:Oper}{ρ:Operand→Value}{e:Eff}(h:Step P E hp w (execOp ρ o) e)(r:Option Nat):o.semAt r ρ=execOp ρ o:=by
 refine Oper.semAt_eq r ρ o fun c hc=>?_
 obtain⟨E',w',v,hr,_⟩:=h
 have hd:(execOp ρ o).run P w=(do pure (.defer (←resolve ρ c o.type)):Sem Next).run P w:=by
  obtain⟨dst,op,type,pos,after,guard⟩:=o
  simp only at hc
  subst hc
  rfl
 unfold Runs at hr
 rw[hd,Sem.run_bind]at hr
 cases hres:(resolve ρ c o.type).run P w with
 |ok d w1=>simp_all
 |halt x w1=>simp_all
theorem wp_step[Glob]{P:Program}{B:Nat}{rd:Option Nat}{E:Env}{s:St}{a:Act}{w:World}(_:SRel B E s a w){o:Oper}{e:Eff}(h:Step P E s.hp w (execOp a.eval o) e)
  {K:Act→World→Prop} {Q:Exit→Act→World→Prop}
  (hK:∀ E' w' v,Ext E E'→Fr E w E' w'→Inv E' (applyWr s.hp e.wr) w'→Rep E' true e.val v→K (a.put o.dst v) w'):o.wpIn (WF rd) 0 P a w K Q:=by
 have hsem:=semAt_same h (WF rd).round
 obtain⟨E',w',v,hr,hx,hI,hf,hv⟩:=h
 refine⟨fun _ _=>trivial,?_⟩
 rw[hsem]
 rcases hr with hr|⟨hr,rfl⟩
 ·rw[hr,Oper.uponIn_value]
  exact hK E' w' v hx hf hI hv
 ·rw[hr,Oper.uponIn_skip]
  exact hK E' w' undef hx hf hI hv
theorem callsWF{P:Program}{g:FuncId}{vs:Array Value}{w:World}{R:Ending→World→Prop}(h:Calls P g vs w R)(rd:Option Nat)(n:Nat):CallsIn (WF rd) n P g vs w R:=
 (callsIn_wide (n:=n)).2 h
theorem wp_call{P:Program}{rd:Option Nat}{a:Act}{w:World}{o:Oper}{c:Call}{f:Operand}(ho:o.op=.call c)(hc:c.callee=.value f){g:FuncId}{vs':List Value}
  (hrun:(do let d ←Deferred.ofValue (a.eval f) (c.args.toList.map a.eval).toArray; invoke d.target d.args:Sem Next).run P w=.ok (.enter g vs'.toArray) w)
  {R:Ending→World→Prop} (hcall:Calls P g vs'.toArray w R) {K:Act→World→Prop} {Q:Exit→Act→World→Prop}
  (h1:∀ v w',R (.returned v) w'→K (a.put o.dst v) w') (h2:∀ ch w',R (.panicked ch) w'→Q (.panic ch) a w') (h3:∀ w',¬R .outgrown w'):o.wpIn (WF rd) 0 P a w K Q:=by
 refine⟨fun _ _=>trivial,?_⟩
 rw[Oper.semAt_eq _ _ _ (by rw[ho]; intro c h; cases h)]
 have:(execOp a.eval o).run P w=.ok (.enter g vs'.toArray) w:=by
  simp only[execOp,ho,resolve,hc]
  rw[←hrun]
  congr 3
  rw[←Array.toList_map]
 rw[this,Oper.uponIn_enter]
 refine⟨fun h=>by simp[WF,Fence.wide]at h,(callsWF hcall rd _).mono fun e w' hR=>?_⟩
 cases e with
 |returned v=>exact h1 v w' hR
 |panicked ch=>exact h2 ch w' hR
 |outgrown=>exact(h3 w' hR).elim
theorem inv_same[Glob]{E:Env}{hp:AHeap}{w w':World}(hI:Inv E hp w)(hsame:∀ b,E.own b∨(E.m b).isSome=true→w'.heap[b]?=w.heap[b]?)(hsz:w.heap.size≤w'.heap.size):Inv E hp w':=by
 have hblk:∀ n o,hp[n]?=some (some o)→∀ b,BlkOf E hp n b→E.own b∨(E.m b).isSome=true:=by
  rintro n o ho b ⟨o',l,ho',hl,hb⟩
  rw[ho]at ho'
  cases ho'
  have h:=hI.objs n o ho
  cases o with
  |arr g cl fz es=>
   obtain⟨l',hl',_,hm⟩:=h
   simp only at hl
   rw[hl]at hl'; cases hl'
   rw[hb]at hm
   obtain⟨c,T,_,hif,_⟩:=hm
   cases fz with
   |true=>simp_all
   |false=>simp_all
  |oth k vs=>
   obtain⟨l',b',ob',us,h1,h2,h3,h4,h5,_⟩:=h
   simp only at hl
   rw[hl]at h1; cases h1
   rw[hb]at h2; cases h2
   exact .inl h5
 refine⟨hI.len,fun n o hn=>(hI.objs n o hn).other hn fun b hb=>hsame b (hblk n o hn b hb),hI.free,hI.inj,fun b c h=>?_,fun b h=>Nat.lt_of_lt_of_le (hI.ownb b h) hsz,hI.glob⟩
 obtain⟨T,fz,hw⟩:=hI.mem b c h
 exact⟨T,fz,by rw[hsame b (.inr (by rw[h]; rfl))]; exact hw⟩
theorem leaves_list{F:Fence}{n:Nat}{P:Program}{fn:Func}{tmps:Array Value}{R:Ending→World→Prop}{u:FrameMode}(hu:u≠.run):∀ (rs:List Nat) (w:World),rs.Nodup→(∀ r∈rs,w.heap[r]?=some (.deferred (some []))) →
  (∀ w',w'.heap.size=w.heap.size→w'.os=w.os→w'.tape=w.tape→w'.output=w.output→(∀ b,b∉rs→w'.heap[b]?=w.heap[b]?)→LeavesIn F n P fn tmps R [] u w') →
  LeavesInM F n P fn tmps R (rs.map fun r=>{ target:=.collected r,args:=#[] }) u w
 |[],w,_,_,h=>h w rfl rfl rfl rfl (fun _ _=>rfl)
 |r::rs,w,hn,hr,h=>by
  rw[List.nodup_cons]at hn
  refine⟨hu,.inl ⟨r,w.putObj r (.deferred none),rfl,run_takeDeferred (hr r (by simp)),?_⟩⟩
  refine leaves_list hu rs _ hn.2 (fun r' h'=>?_) fun w' h1 h2 h3 h4 h5=>?_
  ·have hne:r'≠r:=by rintro rfl; exact hn.1 h'
   rw[World.putObj_heap_other hne]
   exact hr r' (by simp[h'])
  ·refine h w' (by rw[h1]; simp) h2 h3 h4 fun b hb=>?_
   simp only[List.mem_cons,not_or]at hb
   rw[h5 b hb.2,World.putObj_heap_other hb.1]
theorem leaves_marks[Glob]{P:Program}{fn:Func}{tmps:Array Value}{R:Ending→World→Prop}{E0 E:Env}{w0 w:World}{hp:AHeap}{ds:List Deferred}{u:FrameMode}(hI:Inv E hp w)(hm:Marks w0.heap.size E w ds)
  (hf:Fr E0 w0 E w) (hu:u≠.run) (h:∀ w',Inv E hp w'→Fr E0 w0 E w'→LeavesIn Fence.wide 0 P fn tmps R [] u w'):LeavesInM Fence.wide 0 P fn tmps R ds u w:=by
 obtain⟨rs,rfl,hnd,hrs⟩:=hm
 refine leaves_list hu rs w hnd (fun r hr=>(hrs r hr).2.2) fun w' h1 h2 h3 h4 h5=>h w' ?_ ?_
 ·refine inv_same hI (fun b hb=>h5 b fun hr=>?_) (by omega)
  obtain⟨_,a2,a3⟩:=hrs b hr
  rcases hb with hb|hb
  ·exact a2 hb
  ·cases hmb:E.m b with
   |none=>rw[hmb]at hb; simp at hb
   |some c=>obtain⟨T,fz,h6⟩:=hI.mem b c hmb; rw[a3]at h6; cases h6
 ·refine⟨h2.trans hf.os,h3.trans hf.tape,h4.trans hf.out,by rw[h1]; exact hf.size,fun b hb ho=>?_,hf.own,hf.m⟩
  rw[h5 b fun hr=>?_]
  ·exact hf.same b hb ho
  ·have:=(hrs b hr).1; omega
theorem evF_fn[Glob]{C:Ctx}{k:Nat}{f:FuncId}{args:List AV}{hp:AHeap}{r:Res×AHeap}(h:evF C k f args hp=some r):
  ∃ fn:Func,C.P.funcs[f]?=some fn∧fn.body.isSome=true:=by
 cases k with
 |zero=>simp[evF]at h
 |succ k=>
  simp only[evF]at h
  split at h
  ·simp at h
  rename_i fn hfn
  split at h
  ·simp at h
  rename_i c hc
  exact⟨fn,hfn,by rw[hc]; rfl⟩
theorem soundF_succ[Glob]{C:Ctx}{k:Nat}(hC:SoundC C k):SoundF C (k+1):=by
 intro f args hp res hp' h E w vs hI ha
 simp only[evF]at h
 split at h
 ·simp at h
 rename_i fn hfn
 split at h
 ·simp at h
 rename_i c hc
 have hlen:=ha.length
 have hs:SRel w.heap.size E ⟨f,args++List.replicate (fn.ntmps-args.length) .undef,hp⟩ { tmps:=vs.toArray++Array.replicate (fn.ntmps-vs.toArray.size) undef,defers:=[] } w:=by
  refine⟨?_,hI,Marks.nil,Nat.le_refl _⟩
  simp only[Array.toList_append,Array.toList_replicate,List.size_toArray,←hlen]
  refine ha.append ?_
  have:=RepT.lits (E:=E) (o:=true) (List.replicate (fn.ntmps-args.length) undef)
  simpa using this
 have ret:∀ s',((evC C k c ⟨f,args++List.replicate (fn.ntmps-args.length) .undef,hp⟩=some (.norm s')) ∨
   (evC C k c ⟨f,args++List.replicate (fn.ntmps-args.length) .undef,hp⟩=some (.ret s'))) →
   (match (resultsL C.P s'.fr fn.results.toList).run s'.hp with|some l=>some (Res.val (tupOf l),s'.hp)|none=>none)=some (res,hp') →
   Calls C.P f vs.toArray w (CallPost E w hp' res):=by
  intro s' hev hr
  split at hr
  case h_2=>simp at hr
  rename_i l hl
  simp only[Option.some.injEq,Prod.mk.injEq]at hr
  obtain⟨rfl,rfl⟩:=hr
  have fin:∀ E' a' w',Ext E E'→Fr E w E' w'→SRel w.heap.size E' s' a' w'→LeavesInM Fence.wide 0 C.P fn a'.tmps (CallPost E w s'.hp (.val (tupOf l))) a'.defers .returning w':=by
   intro E' a' w' hx hf hs'
   refine leaves_marks hs'.inv hs'.df hf (by simp) fun w2 hI2 hf2=>?_
   obtain⟨v,h1,h2⟩:=results_ok hI2 hs'.fr hl
   exact⟨v,h1,E',hx,hI2,hf2,h2⟩
  refine callsIn_wide.1 (callsIn_of_wp_marks (F:=Fence.wide) (n:=0) hfn hc trivial ?_)
  rcases hev with hev|hev
  ·refine wpIn_mono (hC c _ _ hev none (.inl rfl) _ E _ w hs) fun e a' w' hpost=>?_
   obtain⟨E',hx,hf,ho⟩:=hpost
   cases e with
   |normal=>exact fin E' a' w' hx hf ho
   |_=>exact ho.elim
  ·refine wpIn_mono (hC c _ _ hev none (.inl rfl) _ E _ w hs) fun e a' w' hpost=>?_
   obtain⟨E',hx,hf,ho⟩:=hpost
   cases e with
   |ret=>exact fin E' a' w' hx hf ho
   |_=>exact ho.elim
 split at h
 ·grind
 ·grind
 ·rename_i v s' hev
  simp only[Option.some.injEq,Prod.mk.injEq]at h
  obtain⟨rfl,rfl⟩:=h
  refine callsIn_wide.1 (callsIn_of_wp_marks (F:=Fence.wide) (n:=0) hfn hc trivial (wpIn_mono (hC c _ _ hev none (.inl rfl) _ E _ w hs) fun e a' w' hpost=>?_))
  obtain⟨E',hx,hf,ho⟩:=hpost
  cases e with
  |panic ch=>
   obtain⟨u,h1,h2,h3,h4⟩:=ho
   exact leaves_marks h3 h4 hf (by simp) fun w2 hI2 hf2=>⟨E',hx,hI2,hf2,u,h1,h2⟩
  |_=>exact ho.elim
 ·simp at h
theorem soundP_succ[Glob]{C:Ctx}(hok:C.Ok){k:Nat}(hF:SoundF C k):SoundP C (k+1):=by
 intro g args hp res wr h E w vs hI ha
 simp only[evP,RM.run_bind]at h
 cases hq:(sealL 1000 args).run hp with
 |none=>rw[hq]at h; simp at h
 |some as=>
  rw[hq]at h
  simp only[Option.bind_some]at h
  split at h
  ·rename_i hf hh
   split at h
   case h_2=>simp[RM.run_fail]at h
   rename_i r hr
   exact pure_call hI ha hq h fun Ec h1 h2=>hok.intr g hf as r hh hr Ec w vs h1 h2
  ·split at h
   case h_2=>simp[RM.run_fail]at h
   rename_i r hpf hr
   exact pure_call hI ha hq h fun Ec h1 h2=>hF g as [] r hpf hr Ec w vs h1 h2.widen
theorem ownRun_fn[Glob]{C:Ctx}(hok:C.Ok){k:Nat}{g:FuncId}{args:List AV}{hp:AHeap}{nm:Nat}{e:Eff}(h:(ownRun C (fun as=>evF C k g as []) nm g args).run hp=some e):
  ∃ fn : Func, C.P.funcs[g]? = some fn ∧ fn.body.isSome = true ∧ (fn.name == "runtime.NumGoroutine") = false := by
 unfold ownRun at h
 rw[RM.run_bind]at h
 cases hs:(sealL 1000 args).run hp with
 |none=>rw[hs]at h; simp at h
 |some as=>
  rw[hs]at h
  simp only[Option.bind_some]at h
  split at h
  ·rename_i hh hi
   obtain⟨fn,h1,h2⟩:=hok.intrOFn g hh hi
   exact⟨fn,h1,h2,hok.name g fn h1 h2⟩
  ·split at h
   ·rename_i r hpf hq
    obtain⟨fn,h1,h2⟩:=evF_fn hq
    exact⟨fn,h1,h2,hok.name g fn h1 h2⟩
   ·simp[RM.run_fail]at h
theorem ownRun_ok[Glob]{C:Ctx}(hok:C.Ok){k:Nat}(hF:SoundF C k){E:Env}{hp:AHeap}{w:World}(hI:Inv E hp w){nm:Nat}(hnm:nm=hp.length∨hp[nm]?=some none)
  {g:FuncId} {args:List AV} {vs:List Value} (ha:RepT E true args vs) {e:Eff} (h:(ownRun C (fun as=>evF C k g as []) nm g args).run hp=some e) :
  Calls C.P g vs.toArray w (OwnPost E w hp e):=by
 unfold ownRun at h
 rw[RM.run_bind]at h
 cases hs:(sealL 1000 args).run hp with
 |none=>rw[hs]at h; simp at h
 |some as=>
  rw[hs]at h
  simp only[Option.bind_some]at h
  have hseal:=(seal_ok hI (N:=fun _=>True) 1000).2 args as vs sealAll hs ha
  split at h
  ·rename_i hh hi
   split at h
   ·rename_i q hq
    exact(hok.intrO g hh as q.1 q.2 hi hq _ w vs (still_inv hI _) hseal).mono fun en w' hp=>by
     obtain⟨r',hpf',h1,h2⟩:=hp
     rw[←h2]at h
     exact own_out hI hnm h (fun b hb=>hb) h1
   ·simp[RM.run_fail]at h
  ·split at h
   ·rename_i r hpf hq
    exact(hF g as [] _ hpf hq _ w vs (still_inv hI _) hseal.widen).mono fun en w' hp=>own_out hI hnm h (fun b hb=>hb) hp
   ·simp[RM.run_fail]at h
theorem evP_fn[Glob]{C:Ctx}(hok:C.Ok){k:Nat}{g:FuncId}{args:List AV}{hp:AHeap}{r:Res×List (Nat×AObj)}(h:(evP C k g args).run hp=some r):
  ∃ fn : Func, C.P.funcs[g]? = some fn ∧ fn.body.isSome = true ∧ (fn.name == "runtime.NumGoroutine") = false := by
 have:∃ fn:Func,C.P.funcs[g]?=some fn∧fn.body.isSome=true:=by
  cases k with
  |zero=>simp[evP,RM.run_fail]at h
  |succ k=>
   simp only[evP,RM.run_bind]at h
   cases hq:(sealL 1000 args).run hp with
   |none=>rw[hq]at h; simp at h
   |some as=>
    rw[hq]at h
    simp only[Option.bind_some]at h
    split at h
    ·rename_i hf hh; exact hok.intrFn g hf hh
    ·split at h
     case h_2=>simp[RM.run_fail]at h
     rename_i r hpf hr
     exact evF_fn hr
 obtain⟨fn,h1,h2⟩:=this
 exact⟨fn,h1,h2,hok.name g fn h1 h2⟩
theorem trunc_ok[Glob]{E E':Env}{hp hp':AHeap}{w w':World}(hI:Inv E hp w)(hx:Ext E E')(hI':Inv E' hp' w')(hf:Fr E w E' w'){r:AV}{v:Value}(hr:Rep E' true r v):
  ∃ E2,Ext E E2∧Inv E2 (truncA hp.length r hp') w'∧Fr E w E2 w'∧Rep E2 true r v:=by
 unfold truncA
 split
 ·rename_i hc
  simp only[Bool.and_eq_true]at hc
  have hle:hp.length≤hp'.length:=by rw[hI.len,hI'.len]; exact hx.L
  obtain⟨h1,h2,h3⟩:=lower_ok hI' hle hc.2
  refine⟨E'.lower hp.length,⟨hx.m,fun n hn ver l h=>hx.ρ n hn ver l h,by simp[Env.lower,hI.len]⟩,h1,hf.trans h2,Rep.down h3 hc.1 hr⟩
 ·exact⟨E',hx,hI',hf,hr⟩
theorem virt_ok[Glob]{E:Env}{hp:AHeap}{w:World}(hI:Inv E hp w){esz:Nat}:
  ∃ E',Ext E E'∧Inv E' (hp++[some (.arr true true false [])]) w∧Fr E w E' w∧Rep E' true (.osl esz hp.length 0 0 0 none) (.slice none 0 0):=by
 let E':Env:={ ρ:=fun n ver=>if n=hp.length then (if ver=0 then some ⟨none,esz,0⟩ else none) else E.ρ n ver,m:=E.m,L:=E.L+1,own:=E.own }
 have hx:Ext E E':=⟨fun _ _ h=>h,fun n hn ver l h=>by
  have:n≠hp.length:=by rw[hI.len]; omega
  simp[E',this,h],by simp[E']⟩
 have hrho:∀ n,n≠hp.length→∀ ver,E'.ρ n ver=E.ρ n ver:=fun n hn ver=>by simp[E',hn]
 have hget:∀ n o,n≠hp.length→(hp++[some (.arr true true false [])])[n]?=some o→hp[n]?=some o:=by
  intro n o hn h
  rw[List.getElem?_append]at h
  split at h
  ·exact h
  ·rw[List.getElem?_eq_none (by simp; omega)]at h; simp at h
 have hblk:∀ n b,BlkOf E' (hp++[some (.arr true true false [])]) n b→BlkOf E hp n b:=by
  rintro n b ⟨o,l,ho,hl,hb⟩
  by_cases e:n=hp.length
  ·subst e
   simp at ho
   subst ho
   simp[E']at hl
   subst hl
   simp at hb
  ·refine⟨o,l,hget n _ e ho,?_,hb⟩
   cases o with
   |arr=>simpa only[hrho n e] using hl
   |oth=>simpa only[hrho n e] using hl
 refine⟨E',hx,⟨by simp[E',hI.len],?_,?_,fun n1 n2 b h1 h2=>hI.inj n1 n2 b (hblk _ _ h1) (hblk _ _ h2),hI.mem,hI.ownb,hI.glob⟩,
  ⟨rfl,rfl,rfl,Nat.le_refl _,fun _ _ _=>rfl,fun _ h=>.inl h,fun _ _ h=>.inl h⟩,?_⟩
 ·intro n o ho
  by_cases e:n=hp.length
  ·subst e
   simp at ho
   subst ho
   refine⟨⟨none,esz,0⟩,by simp[E'],fun ver l' h=>?_,rfl,rfl⟩
   simp[E']at h
   simp[h.1]
  ·have ho':=hget n _ e ho
   have h:=hI.objs n o ho'
   cases o with
   |arr g cl fz es=>
    obtain⟨l,hl,hv,hm⟩:=h
    refine⟨l,by rw[hrho n e]; exact hl,fun ver l' h=>hv ver l' (by rw[hrho n e]at h; exact h),?_⟩
    cases hb:l.blk with
    |none=>rw[hb]at hm; exact hm
    |some b=>
     rw[hb]at hm
     obtain⟨c,T,a1,a2,a3,a4,a5,a6,a7⟩:=hm
     exact⟨c,T,a1,a2,a3,a4,a5,a6,fun i x hx'=>by obtain⟨v,hv',hat⟩:=a7 i x hx'; exact⟨v,hv'.mono hx,hat⟩⟩
   |oth k ents=>
    obtain⟨l,b,es,clock,a1,a2,a3,a4,a5,a6,a7,a8⟩:=h
    exact⟨l,b,es,clock,by rw[hrho n e]; exact a1,a2,a3,a4,a5,fun ver l' h=>a6 ver l' (by rw[hrho n e]at h; exact h),a7,a8.mono hx⟩
 ·intro n ver h
  by_cases e:n=hp.length
  ·subst e; simp at h
  ·rw[hrho n e]; exact hI.free n ver (hget n _ e h)
 ·simp only[Rep]
  refine⟨trivial,?_,⟨none,esz,0⟩,by simp[E'],rfl,by simp,?_⟩
  ·show hp.length<E.L+1
   rw[hI.len]; omega
  ·simp
theorem set_same{α:Type}{l:List α}{n:Nat}{x:α}(h:l[n]?=some x):l.set n x=l:=by
 apply List.ext_getElem?
 intro m
 by_cases hm:n=m
 ·grind
 ·rw[List.getElem?_set_ne hm]
theorem nilCell_rep[Glob]{E E':Env}(hx:Ext E E'){esz j nm:Nat}(hnm:Rep E' true (.osl esz nm 0 0 0 none) (.slice none 0 0)){e e':AV}{v:Value}(hr:Rep E true e v)(h:nilCell esz j nm e=some e'):Rep E' true e' v:=by
 unfold nilCell at h
 split at h
 ·rename_i l
  split at h
  case h_2=>simp at h
  rename_i hl
  simp only[Option.some.injEq]at h
  subst h
  simp only[Rep]at hr
  obtain⟨c,rfl,hc⟩:=hr
  obtain⟨v,hv,hrv,hlv⟩:=hc.get hl
  simp only[Rep]at hrv
  subst hrv
  have:=(hc.mono hx).set j hnm hlv
  rw[set_same hv]at this
  simp only[Rep]
  exact⟨c,rfl,this⟩
 ·grind[Rep]
 ·simp at h
theorem inv_rename[Glob]{E:Env}{hp:AHeap}{w:World}(hI:Inv E hp w){n i:Nat}{g c f:Bool}{es:List AV}{e e':AV}(ho:hp[n]?=some (some (.arr g c f es)))(hi:es[i]?=some e)
  (hr:∀ v,Rep E true e v→Rep E true e' v):Inv E (hp.set n (some (.arr g false f (es.set i e')))) w:=by
 have hn:=(List.getElem?_eq_some_iff.1 ho).1
 have hget:∀ m o,(hp.set n (some (.arr g false f (es.set i e'))))[m]?=some o→m=n∧o=some (.arr g false f (es.set i e'))∨m≠n∧hp[m]?=some o:=by
  grind
 have hblk:∀ m b,BlkOf E (hp.set n (some (.arr g false f (es.set i e')))) m b→BlkOf E hp m b:=by
  rintro m b ⟨o,l,h1,h2,h3⟩
  rcases hget m _ h1 with ⟨rfl,h5⟩|⟨_,h5⟩
  ·cases h5
   exact⟨_,l,ho,by simpa using h2,h3⟩
  ·exact⟨o,l,h5,h2,h3⟩
 refine⟨by rw[List.length_set]; exact hI.len,fun m o h=>?_,fun m ver h=>?_,fun m m' b h1 h2=>hI.inj m m' b (hblk _ _ h1) (hblk _ _ h2),hI.mem,hI.ownb,hI.glob⟩
 ·rcases hget m _ h with ⟨rfl,h5⟩|⟨_,h5⟩
  ·cases h5
   obtain⟨l,h1,h2,h3⟩:=hI.objs _ _ ho
   refine⟨l,by simpa using h1,fun ver l' h=>by simpa using h2 ver l' h,?_⟩
   cases hb:l.blk with
   |none=>
    rw[hb]at h3
    obtain⟨rfl,rfl⟩:=h3
    simp at hi
   |some b=>
    rw[hb]at h3
    obtain⟨c',T,a1,a2,a3,a4,a5,a6,a7⟩:=h3
    refine⟨c',T,a1,a2,a3,a4,by simpa using a5,fun h=>by simpa using a6 h,fun k x hx=>?_⟩
    by_cases hk:k=i
    ·subst hk
     rw[List.getElem?_set_self (List.getElem?_eq_some_iff.1 hi).1]at hx
     simp only[Option.some.injEq]at hx
     subst hx
     obtain⟨v,hv,hat⟩:=a7 _ _ hi
     exact⟨v,by simpa using hr v hv.toTrue,hat⟩
    ·rw[List.getElem?_set_ne (Ne.symm hk)]at hx
     obtain⟨v,hv,hat⟩:=a7 _ _ hx
     exact⟨v,by simpa using hv.toTrue,hat⟩
  ·exact hI.objs m o h5
 ·rcases hget m _ h with ⟨rfl,h5⟩|⟨_,h5⟩
  ·cases h5
  ·exact hI.free m ver h5
theorem holeCell_rep[Glob]{E:Env}{j:Nat}{e e':AV}(h:holeCell j e=some e')(v:Value)(hr:Rep E true e v):Rep E true e' v:=by
 unfold holeCell at h
 split at h
 case h_2=>simp at h
 rename_i l
 split at h
 case h_2=>simp at h
 rename_i hj
 simp only[Option.some.injEq]at h
 subst h
 simp only[Rep]at hr ⊢
 obtain⟨c,rfl,hc⟩:=hr
 refine⟨c,rfl,?_⟩
 have hj':j<l.length:=by simpa using hj
 obtain⟨u,hu,_⟩:=hc.toT.get (List.getElem?_eq_getElem hj')
 have:=hc.set j (x:=.any) (v:=u) (by simp[Rep]) (hc.leaf u (List.mem_iff_getElem?.2 ⟨j,hu⟩))
 rw[set_same hu]at this
 exact this
theorem holeOne_ok[Glob]{B:Nat}{E:Env}{s:St}{a:Act}{w:World}(hs:SRel B E s a w)(d j:Nat):SRel B E (holeOne s d j) a w:=by
 unfold holeOne
 split
 ·split
  ·rename_i ho
   split
   ·rename_i e' he
    obtain⟨e,he1,he2⟩:=Option.bind_eq_some_iff.1 he
    exact⟨hs.fr,inv_rename hs.inv ho he1 fun v hv=>holeCell_rep he2 v hv,hs.df,hs.bs⟩
   ·exact hs
  ·exact hs
 ·exact hs
theorem holesA_ok[Glob]{B:Nat}{E:Env}{a:Act}{w:World}:∀ (l:List (Nat×Nat)) {s:St},SRel B E s a w→SRel B E (holesA l s) a w
 |[],_,hs=>hs
 |(d,j)::r,_,hs=>holesA_ok r (holeOne_ok hs d j)
theorem holeOne_len(s:St)(d j:Nat):(holeOne s d j).hp.length=s.hp.length:=by
 grind[holeOne]
theorem holesA_len:∀ (l:List (Nat×Nat)) (s:St),(holesA l s).hp.length=s.hp.length
 |[],_=>rfl
 |(d,j)::r,s=>by
  simp only[holesA]
  rw[holesA_len r,holeOne_len]
theorem nilOne_ok[Glob]{B:Nat}{E:Env}{s:St}{a:Act}{w:World}(hs:SRel B E s a w)(d:Tmp)(j esz:Nat):∃ E',Ext E E'∧Fr E w E' w∧SRel B E' (nilOne d s j esz) a w:=by
 obtain⟨E',h1,h2,h3,h4⟩:=virt_ok (esz:=esz) hs.inv
 have same:∃ E',Ext E E'∧Fr E w E' w∧SRel B E' s a w:=⟨E,Ext.refl E,Fr.refl E w,hs⟩
 unfold nilOne
 split
 ·rename_i n ver i k hd
  split
  ·rename_i g c f es ho
   split
   ·rename_i e' he
    obtain⟨e,he1,he2⟩:=Option.bind_eq_some_iff.1 he
    have hn:=(List.getElem?_eq_some_iff.1 ho).1
    have ho':(s.hp++[some (AObj.arr true true false [])])[n]?=some (some (.arr g c f es)):=by rw[List.getElem?_append_left hn]; exact ho
    obtain⟨l,hl1,_,hl3⟩:=hs.inv.objs _ _ ho
    cases hb:l.blk with
    |none=>
     simp_all
    |some b=>
     rw[hb]at hl3
     obtain⟨c',T,a1,a2,a3,a4,a5,a6,a7⟩:=hl3
     obtain⟨v0,hv0,_⟩:=a7 _ _ he1
     have hren:∀ v,Rep E' true e v→Rep E' true e' v:=fun v hv=>nilCell_rep (Ext.refl E') h4 hv he2
     refine⟨E',h1,h3,⟨hs.fr.mono h1,?_,hs.df.mono h3,hs.bs⟩⟩
     have:=inv_rename h2 ho' he1 hren
     rw[List.set_append_left _ _ hn]at this
     exact this
   ·exact same
  ·exact same
 ·rename_i e _ hd
  split
  ·rename_i e' he
   obtain⟨v,hv,hr⟩:=hs.fr.get hd
   refine⟨E',h1,h3,⟨?_,h2,hs.df.mono h3,hs.bs⟩⟩
   have:=(hs.fr.mono h1).set d (nilCell_rep h1 h4 hr he)
   rw[set_same hv]at this
   exact this
  ·exact same
 ·exact same
theorem nilL_ok[Glob]{B:Nat}{d:Tmp}{a:Act}{w:World}:∀ (l:List (Nat×Nat)) {E:Env} {s:St},SRel B E s a w→∃ E',Ext E E'∧Fr E w E' w∧SRel B E' (nilL d l s) a w
 |[],E,s,hs=>⟨E,Ext.refl E,Fr.refl E w,hs⟩
 |(j,esz)::r,E,s,hs=>by
  obtain⟨E1,h1,h2,h3⟩:=nilOne_ok hs d j esz
  obtain⟨E2,h4,h5,h6⟩:=nilL_ok r h3
  exact⟨E2,h1.trans h4,h2.trans h5,h6⟩
theorem nilsA_ok[Glob]{B:Nat}{l:Tmp→List (Nat×Nat)}{dst:Option Tmp}{a:Act}{w:World}{E:Env}{s:St}(hs:SRel B E s a w):∃ E',Ext E E'∧Fr E w E' w∧SRel B E' (nilsA l dst s) a w:=by
 cases dst with
 |none=>exact⟨E,Ext.refl E,Fr.refl E w,hs⟩
 |some d=>exact nilL_ok _ hs
theorem loopSt_some{hp:AHeap}{n:Nat}{st:LSt}(h:loopSt hp n=some st):∃ fn ps as bd fr,hp[n]?=some (some (.oth (.loop fn ps as bd st) fr)):=by
 grind[loopSt]
theorem loop_at[Glob]{E:Env}{hp:AHeap}{w:World}(hI:Inv E hp w){n:Nat}{fn:FuncId}{ps:Array Tmp}{as bd:Code}{st:LSt}{fr:List AV}(ho:hp[n]?=some (some (.oth (.loop fn ps as bd st) fr)))
  {l:Loc} {b:Nat} (hl:E.ρ n 0=some l) (hb:l.blk=some b) :
  ∃ r,w.heap[b]?=some (.loop r)∧r.params=ps∧r.assign=as∧r.body=bd∧st.is r.state r.pending∧RepT E true fr r.tmps.toList:=by
 obtain⟨l0,b0,ob,us,h1,h2,h3,h4,h5,h6,h7,h8⟩:=hI.objs n _ ho
 rw[hl]at h1; cases h1
 rw[hb]at h2; cases h2
 cases ob with
 |loop r=>
  obtain⟨a1,a2,a3,a4,a5⟩:=h7
  exact⟨r,h3,a1,a2,a3,a4,by rw[a5]; exact h8⟩
 |_=>exact h7.elim
theorem loop_set[Glob]{E:Env}{hp:AHeap}{w:World}(hI:Inv E hp w){n:Nat}{fn:FuncId}{ps:Array Tmp}{as bd:Code}{st:LSt}{fr:List AV}(ho:hp[n]?=some (some (.oth (.loop fn ps as bd st) fr)))
  {l:Loc} {b:Nat} (hl:E.ρ n 0=some l) (hb:l.blk=some b) {r:Loop} (hr:w.heap[b]?=some (.loop r)) {st':LSt} {s':LoopState} {p':Option Code} (his:st'.is s' p') :
  Inv E (setSt hp n st') (w.putObj b (.loop { r with state:=s',pending:=p' }))∧Fr E w E (w.putObj b (.loop { r with state:=s',pending:=p' })):=by
 obtain⟨r',h1,h2,h3,h4,_,h6⟩:=loop_at hI ho hl hb
 rw[hr]at h1
 cases h1
 unfold setSt
 rw[ho]
 exact oth_set hI ho hl hb (k':=.loop fn ps as bd st') (us':=r.tmps.toList) ⟨h2,h3,h4,his,rfl⟩ h6
theorem keepF_rep{E:Env}{u:List Nat}:∀ (i:Nat) (fr:List AV) (vs:List Value),RepT E true fr vs→RepT E true (keepF u i fr) vs
 |_,[],[],h=>by simp[keepF,RepT]
 |i,x::xs,v::vs,h=>by
  simp only[RepT]at h
  simp only[keepF,RepT]
  refine⟨?_,keepF_rep (i+1) xs vs h.2⟩
  split
  ·exact h.1
  ·simp[Rep]
 |_,[],_::_,h=>by simp[RepT]at h
 |_,_::_,[],h=>by simp[RepT]at h
theorem anyF_rep{E:Env}:∀ (fr:List AV) (vs:List Value),RepT E true fr vs→RepT E true (fr.map fun _=>.any) vs
 |[],[],_=>by simp[RepT]
 |x::xs,v::vs,h=>by
  simp only[RepT]at h
  simp only[List.map_cons,RepT,Rep]
  exact⟨trivial,anyF_rep xs vs h.2⟩
 |[],_::_,h=>by simp[RepT]at h
 |_::_,[],h=>by simp[RepT]at h
theorem loop_end[Glob]{E:Env}{hp:AHeap}{w:World}(hI:Inv E hp w){n:Nat}{fn:FuncId}{ps:Array Tmp}{as bd:Code}{st:LSt}{fr:List AV}(ho:hp[n]?=some (some (.oth (.loop fn ps as bd st) fr)))
  {l:Loc} {b:Nat} (hl:E.ρ n 0=some l) (hb:l.blk=some b) {r:Loop} (hr:w.heap[b]?=some (.loop r)) {s':LoopState} {p':Option Code} :
  Inv E (endSt hp n) (w.putObj b (.loop { r with state:=s',pending:=p' }))∧Fr E w E (w.putObj b (.loop { r with state:=s',pending:=p' })):=by
 obtain⟨r',h1,h2,h3,h4,_,h6⟩:=loop_at hI ho hl hb
 rw[hr]at h1
 cases h1
 unfold endSt
 rw[ho]
 exact oth_set hI ho hl hb (k':=.loop fn ps as bd .over) (us':=r.tmps.toList) ⟨h2,h3,h4,trivial,rfl⟩ (anyF_rep _ _ h6)
theorem putArgs_rep{E:Env}:∀ (ps:List Tmp) (xs:List AV) (vs:List Value) (fr:List AV) (t:Array Value),RepT E true fr t.toList→RepT E true xs vs →
  RepT E true (putArgs fr ps xs) ((ps.zip vs).foldl (fun (t:Array Value) (q:Tmp×Value)=>t.setIfInBounds q.1 q.2) t).toList
 |[],xs,vs,fr,t,h,_=>by simpa[putArgs] using h
 |p::ps,[],[],fr,t,h,_=>by simpa[putArgs] using h
 |p::ps,x::xs,v::vs,fr,t,h,hx=>by
  simp only[RepT]at hx
  simp only[putArgs,List.zip_cons_cons,List.foldl_cons]
  refine putArgs_rep ps xs vs _ _ ?_ hx.2
  rw[Array.toList_setIfInBounds]
  exact h.set p hx.1
 |p::ps,[],_::_,_,_,_,h=>by simp[RepT]at h
 |p::ps,_::_,[],_,_,_,h=>by simp[RepT]at h
theorem run_yieldCall{P:Program}{a:Act}{w:World}{o:Oper}{c:Call}{f:Operand}(ho:o.op=.call c)(hc:c.callee=.value f){b:Nat}(hf:a.eval f=.func (.yield b) #[] #[])
  {r:Loop} (hr:w.heap[b]?=some (.loop r)) (hs:(c.args.map a.eval).size=r.params.size) :
  (execOp a.eval o).run P w=.ok (.round b r.fn ((r.params.zip (c.args.map a.eval)).foldl (fun tmps (t,a)=>tmps.setIfInBounds t a) r.tmps) r.assign r.body) w:=by
 have h1:(execOp a.eval o)=(do let d ←Deferred.ofValue (a.eval f) (c.args.map a.eval); invoke d.target d.args):=by
  simp only[execOp,ho,resolve,hc]
 rw[h1,hf]
 have h2:=run_yield (P:=P) (args:=c.args.map a.eval) hr hs
 simp only[Deferred.ofValue,Sem.run_bind,Sem.run_pure,Result.andThen_ok,invoke,Array.empty_append]
 exact h2
theorem yield_ok[Glob]{C:Ctx}{k:Nat}(hC:SoundC C k){rd:Option Nat}{B:Nat}{E:Env}{s:St}{a:Act}{w:World}(hs:SRel B E s a w){n:Nat}{o:Oper}{c:Call}{f:Operand}(ho:o.op=.call c)(hc:c.callee=.value f)
  (hf:evalA s.fr f=.mp true n) {r:Out} (hrun:yieldA (fun c s=>evC C k c s) n (c.args.toList.map (evalA s.fr)) o.dst s=some r) {K:Act→World→Prop} {Q:Exit→Act→World→Prop}
  (hK:∀ s',r=.norm s'→∀ E' a' w',Ext E E'→Fr E w E' w'→SRel B E' s' a' w'→K a' w'):o.wpIn (WF rd) 0 C.P a w K Q:=by
 unfold yieldA at hrun
 split at hrun
 case h_2=>simp at hrun
 rename_i fn0 ps as bd fr hobj
 split at hrun
 case h_2=>simp at hrun
 rename_i hchk
 simp only[Bool.and_eq_true,decide_eq_true_eq]at hchk
 obtain⟨⟨hlen,hna⟩,hnb⟩:=hchk
 have hev:=fun y=>eval_rep hs.inv.glob hs.fr y
 have hfv:=hev f
 rw[hf]at hfv
 simp only[Rep]at hfv
 obtain⟨_,hnL,l,b,hl,hb,hfv⟩:=hfv
 obtain⟨r0,g1,g2,g3,g4,g5,g6⟩:=loop_at hs.inv hobj hl hb
 have hargs:=repT_map hev c.args.toList
 have hsz:(c.args.map a.eval).size=r0.params.size:=by
  rw[g2,←hlen]
  simp
 refine⟨fun _ _=>trivial,?_⟩
 rw[Oper.semAt_eq _ _ _ (by rw[ho]; intro c h; cases h),run_yieldCall ho hc hfv g1 hsz,Oper.uponIn_round]
 refine⟨fun h=>by simp[WF,Fence.wide]at h,?_⟩
 rw[g3,g4]
 refine roundIn_of_wpIn trivial ?_
 have hfold:((r0.params.zip (c.args.map a.eval)).foldl (fun tmps (x:Tmp×Value)=>tmps.setIfInBounds x.1 x.2) r0.tmps)=((ps.toList.zip (c.args.toList.map a.eval)).foldl (fun (t:Array Value) (q:Tmp×Value)=>t.setIfInBounds q.1 q.2) r0.tmps):=by
  rw[←Array.foldl_toList,Array.toList_zip,g2,Array.toList_map]
 split at hrun
 case h_2=>simp at hrun
 rename_i s1 hev1
 split at hrun
 case h_2=>simp at hrun
 rename_i hst1
 have hs0:SRel w.heap.size E ⟨fn0,putArgs fr ps.toList (c.args.toList.map (evalA s.fr)),s.hp⟩ { tmps:=(r0.params.zip (c.args.map a.eval)).foldl (fun tmps (x:Tmp×Value)=>tmps.setIfInBounds x.1 x.2) r0.tmps,defers:=[] } w:=
  ⟨by rw[hfold]; exact putArgs_rep _ _ _ _ _ g6 hargs,hs.inv,Marks.nil,Nat.le_refl _⟩
 refine wpIn_mono (hC as _ _ hev1 (some b) (.inr hna) _ E _ w hs0) fun e a1 w1 hp=>?_
 obtain⟨E1,hx1,hf1,ho1⟩:=hp
 cases e with
 |normal=>
  have hs1:SRel w.heap.size E1 s1 a1 w1:=ho1
  obtain⟨fn1,ps1,as1,bd1,fr1,hobj1⟩:=loopSt_some hst1
  have hl1:=hx1.ρ n hnL 0 l hl
  obtain⟨r1,q1,q2,q3,q4,q5,q6⟩:=loop_at hs1.inv hobj1 hl1 hb
  obtain⟨hb1,hb2⟩:=loop_set hs1.inv hobj1 hl1 hb q1 (st':=.busy) (s':=.busy) (p':=r1.pending) ⟨rfl,q5.2⟩
  refine⟨_,run_beginRound q1 q5.1,?_⟩
  have hs2:SRel w.heap.size E1 { s1 with hp:=setSt s1.hp n .busy } a1 (w1.putObj b (.loop { r1 with state:=.busy })):=
   ⟨hs1.fr,hb1,hs1.df.mono hb2,Nat.le_trans hs1.bs hb2.size⟩
  have finish:∀ (s2:St) (bb:Bool) (st:LSt) (j:Option Code) (E2:Env) (w2:World),bb=j.isNone→st.is (if j.isNone then .ready else .done) j→endY n o.dst s bb st s2.hp=some r→Ext E1 E2→Fr E1 (w1.putObj b (.loop { r1 with state:=.busy })) E2 w2→Inv E2 s2.hp w2 →
    ∃ v w',(Instr.endRound b j).run C.P w2=.ok v w'∧K (a.put o.dst v) w':=by
   intro s2 bb st j E2 w2 hbb his hend hx2 hf2 hI2
   unfold endY at hend
   split at hend
   case h_2=>simp at hend
   rename_i hst2
   simp only[Option.some.injEq]at hend
   obtain⟨fn2,ps2,as2,bd2,fr2,hobj2⟩:=loopSt_some hst2
   have hl2:=hx2.ρ n (Nat.lt_of_lt_of_le hnL hx1.L) 0 l hl1
   obtain⟨r2,u1,_,_,_,u5,_⟩:=loop_at hI2 hobj2 hl2 hb
   obtain⟨c1,c2⟩:=loop_set hI2 hobj2 hl2 hb u1 his
   refine⟨_,_,run_endRound j u1,?_⟩
   have hx:=hx1.trans hx2
   have hfr:=((hf1.trans hb2).trans hf2).trans c2
   obtain⟨E3,d1,d2,d3,d4⟩:=trunc_ok hs.inv hx c1 hfr (r:=.lit (.bool bb)) (v:=.bool bb) (by simp[Rep])
   subst hbb
   exact hK _ hend.symm E3 _ _ d1 d3 ⟨put_rep (hs.fr.mono d1) d4,d2,by rw[put_defers]; exact hs.df.mono d3,Nat.le_trans hs.bs d3.size⟩
  split at hrun
  ·rename_i s2 hev2
   refine wpIn_mono (hC bd _ _ hev2 (some b) (.inr hnb) _ E1 _ _ hs2) fun e a2 w2 hp=>?_
   obtain⟨E2,hx2,hf2,ho2⟩:=hp
   cases e with
   |normal=>exact finish s2 true .ready none E2 w2 rfl ⟨rfl,rfl⟩ hrun hx2 hf2 (SRel.inv ho2)
   |_=>exact ho2.elim
  ·rename_i id s2 hev2
   refine wpIn_mono (hC bd _ _ hev2 (some b) (.inr hnb) _ E1 _ _ hs2) fun e a2 w2 hp=>?_
   obtain⟨E2,hx2,hf2,ho2⟩:=hp
   cases e with
   |exit j=>
    obtain⟨rfl,ho2⟩:=ho2
    exact finish s2 false (.jump (some id)) (some (.exit id)) E2 w2 rfl ⟨rfl,rfl⟩ hrun hx2 hf2 ho2.inv
   |_=>exact ho2.elim
  ·rename_i s2 hev2
   refine wpIn_mono (hC bd _ _ hev2 (some b) (.inr hnb) _ E1 _ _ hs2) fun e a2 w2 hp=>?_
   obtain⟨E2,hx2,hf2,ho2⟩:=hp
   cases e with
   |ret=>exact finish s2 false (.jump none) (some .ret) E2 w2 rfl ⟨rfl,rfl⟩ hrun hx2 hf2 (SRel.inv ho2)
   |_=>exact ho2.elim
  ·simp at hrun
 |_=>exact ho1.elim
theorem yield_norm{run:Code→St→Option Out}{n:Nat}{args:List AV}{dst:Option Tmp}{s:St}{r:Out}(h:yieldA run n args dst s=some r):∃ s',r=.norm s':=by
 unfold yieldA at h
 repeat' split at h
 all_goals first
  |simp at h
  |(unfold endY at h
    split at h
    ·grind
    ·simp at h)
theorem soundO_succ[Glob]{C:Ctx}(hok:C.Ok){k:Nat}(hF:SoundF C k)(hP:SoundP C k)(hC:SoundC C k):SoundO C.P (fun o s=>evO C (k+1) o s):=by
 intro o s r h rd B E a w K Q hs hK hQ
 have hev:=fun x=>eval_rep hs.inv.glob hs.fr x
 have eff:∀ (res:Option Eff),res=(opEff C.P s.hp.length (evalA s.fr) o).run s.hp →
   (match res with|some e=>some (Out.norm { s with fr:=putA s.fr o.dst e.val,hp:=applyWr s.hp e.wr })|none=>none)=some r→o.wpIn (WF rd) 0 C.P a w K Q:=by
  intro res hres h
  split at h
  case h_2=>simp at h
  rename_i e
  simp only[Option.some.injEq]at h
  refine wp_step hs (opEff_ok hs.inv (.inl rfl) hev hres.symm) fun E' w' v hx hf hI' hv=>?_
  exact hK _ h.symm E' _ w' hx hf ⟨put_rep (hs.fr.mono hx) hv,hI',by rw[put_defers]; exact hs.df.mono hf,Nat.le_trans hs.bs hf.size⟩
 obtain⟨dst,op,type,pos,after,guard⟩:=o
 simp only[evO]at h
 split at h
 ·rename_i c
  split at h
  ·exact eff _ rfl h
  ·rename_i f hcal
   split at h
   ·split at h
    ·rename_i n hn
     exact yield_ok hC hs rfl hcal hn h hK
    ·simp at h
   rename_i g args hres
   have hargs:=repT_map hev c.args.toList
   split at h
   ·-- a result of the caller's own
    split at h
    case h_2=>simp at h
    rename_i e hq
    simp only[Option.some.injEq]at h
    obtain⟨vs',hvs,hrun⟩:=resolve_ok (w:=w) (hev f) hargs hres (ownRun_fn hok hq)
    refine wp_call rfl hcal hrun (ownRun_ok hok hF hs.inv (.inl rfl) hvs hq) (fun v w' hp=>?_) (fun ch w' hp=>?_) (fun w' hp=>?_)
    ·obtain⟨v',hv',E',hx,hI',hf,hr⟩:=hp
     cases hv'
     exact hK _ h.symm E' _ w' hx hf ⟨put_rep (hs.fr.mono hx) hr,hI',by rw[put_defers]; exact hs.df.mono hf,Nat.le_trans hs.bs hf.size⟩
    ·obtain⟨v',hv',_⟩:=hp
     cases hv'
    ·obtain⟨v',hv',_⟩:=hp
     cases hv'
   split at h
   ·-- by value
    rename_i hkind
    cases hq:(evP C k g args).run s.hp with
    |none=>rw[hq]at h; simp at h
    |some q=>
     obtain⟨res,wr⟩:=q
     rw[hq]at h
     obtain⟨vs',hvs,hrun⟩:=resolve_ok (w:=w) (hev f) hargs hres (evP_fn hok hq)
     have hcall:=hP g args s.hp res wr hq E w vs' hs.inv hvs
     refine wp_call rfl hcal hrun hcall (fun v w' hp=>?_) (fun ch w' hp=>?_) (fun w' hp=>?_)
     ·obtain⟨E',hx,hI',hf,hr⟩:=hp
      cases res with
      |pnc _=>exact hr.elim
      |val x=>
       simp only[Option.some.injEq]at h
       exact hK _ h.symm E' _ w' hx hf ⟨put_rep (hs.fr.mono hx) hr,hI',by rw[put_defers]; exact hs.df.mono hf,Nat.le_trans hs.bs hf.size⟩
     ·obtain⟨E',hx,hI',hf,hr⟩:=hp
      cases res with
      |val _=>exact hr.elim
      |pnc x=>
       simp only[Option.some.injEq]at h
       obtain⟨u,rfl,hu⟩:=hr
       exact hQ _ _ h.symm E' w' u hx hf hI' hu
     ·obtain⟨E',hx,hI',hf,hr⟩:=hp
      cases res<;>exact hr.elim
   ·-- with the heap
    rename_i hkind
    cases hq:evF C k g args s.hp with
    |none=>rw[hq]at h; simp at h
    |some q=>
     obtain⟨res,hp'⟩:=q
     rw[hq]at h
     obtain⟨fn,hf1,hf2⟩:=evF_fn hq
     obtain⟨vs',hvs,hrun⟩:=resolve_ok (w:=w) (hev f) hargs hres ⟨fn,hf1,hf2,hok.name g fn hf1 hf2⟩
     have hcall:=hF g args s.hp res hp' hq E w vs' hs.inv hvs
     refine wp_call rfl hcal hrun hcall (fun v w' hp=>?_) (fun ch w' hp=>?_) (fun w' hp=>?_)
     ·obtain⟨E',hx,hI',hf,hr⟩:=hp
      cases res with
      |pnc _=>exact hr.elim
      |val x=>
       simp only[Option.some.injEq]at h
       obtain⟨E2,hx2,hI2,hf2,hr2⟩:=trunc_ok hs.inv hx hI' hf hr
       exact hK _ h.symm E2 _ w' hx2 hf2 ⟨put_rep (hs.fr.mono hx2) hr2,hI2,by rw[put_defers]; exact hs.df.mono hf2,Nat.le_trans hs.bs hf2.size⟩
     ·obtain⟨E',hx,hI',hf,hr⟩:=hp
      cases res with
      |val _=>exact hr.elim
      |pnc x=>
       simp only[Option.some.injEq]at h
       obtain⟨u,rfl,hu⟩:=hr
       obtain⟨E2,hx2,hI2,hf2,hr2⟩:=trunc_ok hs.inv hx hI' hf hu
       exact hQ _ _ h.symm E2 w' u hx2 hf2 hI2 hr2
     ·obtain⟨E',hx,hI',hf,hr⟩:=hp
      cases res<;>exact hr.elim
  ·simp at h
 ·-- a slice that begins as nil
  have hrun:(execOp a.eval { dst,op:=.assign (.const (.slice none 0 0)),type,pos,after,guard }).run C.P w=.ok (.value (.slice none 0 0)) w:=rfl
  have next:∀ (x:AV) (E':Env) (hp':AHeap),Ext E E'→Inv E' hp' w→Fr E w E' w→Rep E' true x (.slice none 0 0) →
    r=.norm { s with fr:=putA s.fr dst x,hp:=hp' }→Oper.wpIn (WF rd) 0 C.P { dst,op:=.assign (.const (.slice none 0 0)),type,pos,after,guard } a w K Q:=by
   intro x E' hp' hx hI' hf hr he
   refine⟨fun _ _=>trivial,?_⟩
   rw[Oper.semAt_eq _ _ _ (by intro c h; cases h),hrun,Oper.uponIn_value]
   exact hK _ he E' _ w hx hf ⟨put_rep (hs.fr.mono hx) hr,hI',by rw[put_defers]; exact hs.df.mono hf,Nat.le_trans hs.bs hf.size⟩
  split at h
  ·rename_i d
   split at h
   ·split at h
    case h_2=>simp at h
    rename_i q hq
    split at h
    case isFalse=>simp at h
    simp only[Option.some.injEq]at h
    obtain⟨E',h1,h2,h3,h4⟩:=virt_ok (esz:=q.size) hs.inv
    exact next _ E' _ h1 h2 h3 h4 h.symm
   ·simp only[Option.some.injEq]at h
    exact next (.lit nilSl) E s.hp (Ext.refl E) hs.inv (Fr.refl E w) (by simp[Rep]) h.symm
  ·simp only[Option.some.injEq]at h
   exact next (.lit nilSl) E s.hp (Ext.refl E) hs.inv (Fr.refl E w) (by simp[Rep]) h.symm
 ·-- any other operation; nil slices in what it gives may be named anew
  split at h
  case h_2=>simp at h
  rename_i e he
  simp only[Option.some.injEq]at h
  refine wp_step hs (opEff_ok hs.inv (.inl rfl) hev he) fun E' w' v hx hf hI' hv=>?_
  obtain⟨E2,hx2,hf2,hs2⟩:=nilsA_ok (l:=C.nils s.fn) (dst:=dst) (s:={ s with fr:=putA s.fr dst e.val,hp:=applyWr s.hp e.wr }) (B:=B) (a:=a.put dst v)
   ⟨put_rep (hs.fr.mono hx) hv,hI',by rw[put_defers]; exact hs.df.mono hf,Nat.le_trans hs.bs hf.size⟩
  exact hK _ h.symm E2 _ w' (hx.trans hx2) (hf.trans hf2) hs2
end Go.PI
end
section
/- PI, more fuel gives no other answer. -/
namespace Go.PI
def RM.Le{α:Type}(hp:AHeap)(r r':RM α):Prop:=∀ x,r.run hp=some x→r'.run hp=some x∧r'.log hp=r.log hp
theorem RM.Le.rfl{α:Type}{hp:AHeap}{r:RM α}:RM.Le hp r r:=fun _ h=>⟨h,by trivial⟩
theorem RM.log_bind{α β:Type}(hp:AHeap)(x:RM α)(f:α→RM β):(x >>= f).log hp=x.log hp++(match x.run hp with|some a=>(f a).log hp|none=>[]):=by
 show (RM.bind x f).log hp=_
 induction x with
 |ret a=>simp[RM.bind,RM.log,RM.run]
 |fail=>simp[RM.bind,RM.log,RM.run]
 |get n k ih=>
  grind[RM.bind,RM.log,RM.run]
theorem RM.Le.bind[Glob]{α β:Type}{hp:AHeap}{x x':RM α}{f f':α→RM β}(h:RM.Le hp x x')(hf:∀ a,RM.Le hp (f a) (f' a)):RM.Le hp (x >>= f) (x' >>= f'):=by
 intro y hy
 rw[RM.run_bind]at hy
 cases hq:x.run hp with
 |none=>rw[hq]at hy; simp at hy
 |some a=>
  rw[hq]at hy
  simp only[Option.bind_some]at hy
  obtain⟨h1,h2⟩:=h a hq
  obtain⟨h3,h4⟩:=hf a y hy
  refine⟨by rw[RM.run_bind,h1]; exact h3,?_⟩
  rw[RM.log_bind,RM.log_bind,h1,hq,h2]
  simp only[h4]
theorem runOps_mono{st st':Oper→St→Option Out}(h:∀ o s r,st o s=some r→st' o s=some r)(ops:Array Oper):∀ (l:List Oper) (s:St) (r:Out),runOps st ops l s=some r→runOps st' ops l s=some r
 |[],s,r,hr=>hr
 |o::l,s,r,hr=>by
  simp only[runOps]at hr ⊢
  cases hw:wantedA ops s.fr o with
  |none=>rw[hw]at hr; simp at hr
  |some b=>
   rw[hw]at hr
   cases b with
   |false=>exact runOps_mono h ops l _ r hr
   |true=>
    simp only at hr ⊢
    cases hs:st o s with
    |none=>rw[hs]at hr; simp at hr
    |some out=>
     rw[hs]at hr
     rw[h o s out hs]
     cases out with
     |norm s'=>exact runOps_mono h ops l s' r hr
     |_=>exact hr
theorem stepD_mono[Glob]{st st':Nat→Oper→List AV→RM Eff}(h:∀ nm o fr hp,RM.Le hp (st nm o fr) (st' nm o fr))(ops:Array Oper)(x:Item)(s:St)(r:St×Foot)(hr:stepD st ops x s=some r):stepD st' ops x s=some r:=by
 simp only[stepD]at hr ⊢
 cases hw:wantedA ops s.fr x.o with
 |none=>rw[hw]at hr; simp at hr
 |some b=>
  rw[hw]at hr
  cases b with
  |false=>exact hr
  |true=>
   simp only at hr ⊢
   cases hq:(st (x.at s.hp.length) x.o s.fr).run s.hp with
   |none=>rw[hq]at hr; simp at hr
   |some e=>
    obtain⟨h1,h2⟩:=h (x.at s.hp.length) x.o s.fr s.hp e hq
    rw[hq]at hr
    rw[h1,h2]
    exact hr
theorem runDraw_mono[Glob]{st st':Nat→Oper→List AV→RM Eff}(h:∀ nm o fr hp,RM.Le hp (st nm o fr) (st' nm o fr))(ops:Array Oper):∀ (l:List Item) (s:St) (r:St×List Foot),runDraw st ops l s=some r→runDraw st' ops l s=some r
 |[],s,r,hr=>hr
 |x::l,s,r,hr=>by
  simp only[runDraw]at hr ⊢
  cases hs:stepD st ops x s with
  |none=>rw[hs]at hr; simp at hr
  |some q=>
   obtain⟨s1,f⟩:=q
   rw[hs]at hr
   rw[stepD_mono h ops x s _ hs]
   simp only at hr ⊢
   cases hd:runDraw st ops l s1 with
   |none=>rw[hd]at hr; simp at hr
   |some q=>
    rw[hd]at hr
    rw[runDraw_mono h ops l s1 q hd]
    exact hr
theorem evO_nocall[Glob]{C:Ctx}{k k':Nat}{o:Oper}{s:St}(h:∀ c,o.op≠.call c):evO C (k+1) o s=evO C (k'+1) o s:=by
 rw[evO,evO]
 split
 ·rename_i c hc; exact absurd hc (h c)
 ·rfl
 ·rfl
theorem ownRun_mono[Glob]{C:Ctx}{F F':List AV→Option (Res×AHeap)}(h:∀ as r,F as=some r→F' as=some r){nm:Nat}{g:FuncId}{args:List AV}{hp:AHeap}:
  RM.Le hp (ownRun C F nm g args) (ownRun C F' nm g args):=by
 unfold ownRun
 refine RM.Le.bind .rfl fun as=>?_
 cases hi:C.intrO g with
 |some q=>exact .rfl
 |none=>
  simp only
  intro x hx
  cases hq:F as with
  |none=>rw[hq]at hx; simp[RM.run_fail]at hx
  |some q=>
   rw[hq]at hx
   rw[h as q hq]
   exact⟨hx,rfl⟩
theorem yieldA_mono{run run':Code→St→Option Out}(h:∀ c s r,run c s=some r→run' c s=some r){n:Nat}{args:List AV}{dst:Option Tmp}{s:St}{r:Out}
  (hy:yieldA run n args dst s=some r):yieldA run' n args dst s=some r:=by
 unfold yieldA at hy ⊢
 split at hy
 case h_2=>simp at hy
 rename_i fn ps as bd fr ho
 split at hy
 case h_2=>simp at hy
 rename_i hc
 try rw[hc]
 try simp only
 split at hy
 case h_2=>simp at hy
 rename_i s1 h1
 rw[h _ _ _ h1]
 simp only
 split at hy
 case h_2=>simp at hy
 rename_i h2
 try rw[h2]
 try simp only
 split at hy
 ·rename_i s2 h3; rw[h _ _ _ h3]; exact hy
 ·rename_i id s2 h3; rw[h _ _ _ h3]; exact hy
 ·rename_i s2 h3; rw[h _ _ _ h3]; exact hy
 ·simp at hy
structure Mono[Glob](C:Ctx)(k k2:Nat):Prop where
 f:∀ g args hp r,evF C k g args hp=some r→evF C k2 g args hp=some r
 c:∀ c s r,evC C k c s=some r→evC C k2 c s=some r
 o:∀ o s r,evO C k o s=some r→evO C k2 o s=some r
 p:∀ g args hp,RM.Le hp (evP C k g args) (evP C k2 g args)
 e:∀ nm o fr hp,RM.Le hp (evE C k nm o fr) (evE C k2 nm o fr)
theorem mono_succ[Glob]{C:Ctx}{k k2:Nat}(ih:Mono C k k2):Mono C (k+1) (k2+1) where
 f:=by
  intro g args hp r h
  rw[evF]at h ⊢
  cases hfn:C.P.funcs[g]? with
  |none=>rw[hfn]at h; simp at h
  |some fn=>
   rw[hfn]at h
   simp only at h ⊢
   cases hb:fn.body with
   |none=>rw[hb]at h; simp at h
   |some c=>
    rw[hb]at h
    simp only at h ⊢
    cases hc:evC C k c ⟨g,args++List.replicate (fn.ntmps-args.length) .undef,hp⟩ with
    |none=>rw[hc]at h; simp at h
    |some out=>rw[hc]at h; rw[ih.c _ _ _ hc]; exact h
 c:=by
  intro c s r h
  cases c with
  |seq a b=>
   simp only[evC]at h ⊢
   cases ha:evC C k a s with
   |none=>rw[ha]at h; simp at h
   |some out=>
    rw[ha]at h; rw[ih.c _ _ _ ha]
    cases out with
    |norm s'=>exact ih.c _ _ _ h
    |_=>exact h
  |cond o a b=>
   simp only[evC]at h ⊢
   split at h
   ·split at h
    ·exact ih.c _ _ _ h
    ·exact ih.c _ _ _ h
   ·simp at h
  |block id b=>
   simp only[evC]at h ⊢
   cases ha:evC C k b s with
   |none=>rw[ha]at h; simp at h
   |some out=>rw[ha]at h; rw[ih.c _ _ _ ha]; exact h
  |loop b=>
   simp only[evC]at h ⊢
   cases ha:evC C k b s with
   |none=>rw[ha]at h; simp at h
   |some out=>
    rw[ha]at h; rw[ih.c _ _ _ ha]
    cases out with
    |norm s'=>exact ih.c _ _ _ h
    |_=>exact h
  |region id ops draw=>
   simp only[evC]at h ⊢
   cases draw with
   |false=>exact runOps_mono ih.o ops _ _ r h
   |true=>
    simp only at h ⊢
    split at h
    case isFalse=>simp at h
    rename_i hok
    rw[if_pos hok]
    split at h
    ·rename_i s' fs hd
     rw[runDraw_mono ih.e ops _ _ _ hd]
     simp only at h ⊢
     split at h
     case isFalse=>simp at h
     rename_i hc
     rw[if_pos hc]
     exact runOps_mono ih.o ops _ _ r h
    ·simp at h
  |scope b=>
   simp only[evC]at h ⊢
   split at h
   ·rename_i c hc
    exact ih.c _ _ _ h
   ·simp at h
  |rangeFunc f ps as bd=>
   simp only[evC]at h ⊢
   split at h
   case h_2=>simp at h
   rename_i g args hres
   cases hq:evF C k g args (s.hp++[some (.oth (.loop s.fn ps as bd .ready) (recF as bd s.fr))]) with
   |none=>rw[hq]at h; simp at h
   |some q=>rw[hq]at h; rw[ih.f _ _ _ _ hq]; exact h
  |_=>simpa only[evC] using h
 o:=by
  intro o s r h
  obtain⟨dst,op,type,pos,after,guard⟩:=o
  cases op with
  |call c=>
   obtain⟨callee,args,argTypes⟩:=c
   cases callee with
   |value f=>
    simp only[evO]at h ⊢
    cases hres:resolveA (evalA s.fr f) (args.toList.map (evalA s.fr)) with
    |none=>
     rw[hres]at h
     simp only at h ⊢
     split at h
     ·rename_i n hn
      exact yieldA_mono (fun c s r h=>ih.c c s r h) h
     ·simp at h
    |some q=>
     obtain⟨g,as⟩:=q
     rw[hres]at h
     simp only at h ⊢
     cases hal:isAllocOp (Op.call ⟨.value f,args,argTypes⟩) with
     |true=>
      rw[hal]at h
      simp only at h ⊢
      cases hq:(ownRun C (fun as=>evF C k g as []) s.hp.length g as).run s.hp with
      |none=>rw[hq]at h; simp at h
      |some q=>rw[hq]at h; rw[(ownRun_mono (fun as r h=>ih.f g as [] r h) _ hq).1]; exact h
     |false=>
     rw[hal]at h
     simp only at h ⊢
     cases hk:C.kind g with
     |pure=>
      rw[hk]at h
      simp only at h ⊢
      cases hq:(evP C k g as).run s.hp with
      |none=>rw[hq]at h; simp at h
      |some q=>rw[hq]at h; rw[(ih.p g as s.hp q hq).1]; exact h
     |imp=>
      rw[hk]at h
      simp only at h ⊢
      cases hq:evF C k g as s.hp with
      |none=>rw[hq]at h; simp at h
      |some q=>rw[hq]at h; rw[ih.f _ _ _ _ hq]; exact h
   |_=>simpa only[evO] using h
  |_=>rw[evO_nocall (k':=k) (by intro c hc; cases hc)]; exact h
 p:=by
  intro g args hp
  rw[evP,evP]
  refine RM.Le.bind .rfl fun as=>?_
  cases hi:C.intr g with
  |some h=>exact .rfl
  |none=>
   simp only
   intro x hx
   cases hq:evF C k g as [] with
   |none=>rw[hq]at hx; simp[RM.run_fail]at hx
   |some q=>
    rw[hq]at hx
    rw[ih.f _ _ _ _ hq]
    exact⟨hx,rfl⟩
 e:=by
  intro nm o fr hp
  rw[evE,evE]
  obtain⟨dst,op,type,pos,after,guard⟩:=o
  cases op with
  |call c=>
   obtain⟨callee,args,argTypes⟩:=c
   cases callee with
   |value f=>
    simp only
    split
    ·exact .rfl
    ·rename_i g as hres
     cases hal:isAllocOp (Op.call ⟨.value _,args,argTypes⟩) with
     |true=>exact ownRun_mono fun as r h=>ih.f g as [] r h
     |false=>
     cases hk:C.kind g with
     |pure=>exact RM.Le.bind (ih.p g as hp) fun _=>.rfl
     |imp=>exact .rfl
   |_=>exact .rfl
  |_=>exact .rfl
theorem mono[Glob](C:Ctx):∀ k,Mono C k (k+1)
 |0=>{ f:=by intro g args hp r h; simp[evF]at h
       c:=by intro c s r h; simp[evC]at h
       o:=by intro o s r h; simp[evO]at h
       p:=by intro g args hp x h; simp[evP,RM.run_fail]at h
       e:=by intro nm o fr hp x h; simp[evE,RM.run_fail]at h }
 |k+1=>mono_succ (mono C k)
noncomputable def lim{α:Type}(g:Nat→Option α):Option α:=
 open Classical in if h : ∃ k, (g k).isSome then g (Classical.choose h) else none
def Grows{α:Type}(g:Nat→Option α):Prop:=∀ k x,g k=some x→g (k+1)=some x
theorem Grows.le{α:Type}{g:Nat→Option α}(h:Grows g){k:Nat}{x:α}(hx:g k=some x):∀ d,g (k+d)=some x
 |0=>hx
 |d+1=>h _ _ (h.le hx d)
theorem lim_some[Glob]{α:Type}{g:Nat→Option α}(hg:Grows g){x:α}:lim g=some x↔∃ k,g k=some x:=by
 unfold lim
 constructor
 ·intro h
  split at h
  ·rename_i hq; exact⟨_,h⟩
  ·simp at h
 ·rintro⟨k,hk⟩
  have hq:∃ k,(g k).isSome:=⟨k,by simp[hk]⟩
  rw[dif_pos hq]
  obtain⟨y,hy⟩:=Option.isSome_iff_exists.1 (Classical.choose_spec hq)
  have h1:=hg.le hk (Classical.choose hq)
  have h2:=hg.le hy k
  rw[Nat.add_comm]at h2
  rw[h1]at h2
  rw[hy,h2]
theorem lim_ext[Glob]{α:Type}{g:Nat→Option α}(hg:Grows g){y:Option α}(h1:∀ k x,g k=some x→y=some x)(h2:∀ x,y=some x→∃ k,g k=some x):lim g=y:=by
 cases hl:lim g with
 |some x=>
  obtain⟨k,hk⟩:=(lim_some hg).1 hl
  exact(h1 k x hk).symm
 |none=>
  cases y with
  |none=>rfl
  |some x=>
   have:=(lim_some hg).2 (h2 x rfl)
   rw[hl]at this; simp at this
noncomputable def runF[Glob](C:Ctx)(f:FuncId)(args:List AV)(hp:AHeap):Option (Res×AHeap):=lim fun k=>evF C k f args hp
noncomputable def runC[Glob](C:Ctx)(c:Code)(s:St):Option Out:=lim fun k=>evC C k c s
noncomputable def runO[Glob](C:Ctx)(o:Oper)(s:St):Option Out:=lim fun k=>evO C k o s
noncomputable def runP[Glob](C:Ctx)(g:FuncId)(args:List AV)(hp:AHeap):Option (Res×List (Nat×AObj)):=lim fun k=>(evP C k g args).run hp
theorem growF[Glob](C:Ctx)(f:FuncId)(args:List AV)(hp:AHeap):Grows fun k=>evF C k f args hp:=fun k x h=>(mono C k).f _ _ _ _ h
theorem growC[Glob](C:Ctx)(c:Code)(s:St):Grows fun k=>evC C k c s:=fun k x h=>(mono C k).c _ _ _ h
theorem growO[Glob](C:Ctx)(o:Oper)(s:St):Grows fun k=>evO C k o s:=fun k x h=>(mono C k).o _ _ _ h
theorem growP[Glob](C:Ctx)(g:FuncId)(args:List AV)(hp:AHeap):Grows fun k=>(evP C k g args).run hp:=fun k x h=>((mono C k).p g args hp x h).1
end Go.PI
end
section
/- PI, part Za: a scope in which the run jumps back to one label. -/
namespace Go.PI
theorem evO_kinds[Glob]{C:Ctx}{k:Nat}{o:Oper}{s:St}{r:Out}(h:evO C k o s=some r):(∃ s',r=.norm s')∨∃ v s',r=.pnc v s':=by
 cases k with
 |zero=>simp[evO]at h
 |succ k=>
  simp only[evO]at h
  repeat' split at h
  all_goals first
   |(simp only[Option.some.injEq]at h; subst h; first|exact .inl ⟨_,rfl⟩|exact .inr ⟨_,_,rfl⟩)
   |exact .inl (yield_norm h)
   |simp at h
theorem runOps_kinds{step:Oper→St→Option Out}(hs:∀ o s r,step o s=some r→(∃ s',r=.norm s')∨∃ v s',r=.pnc v s'){ops:Array Oper}:∀ {l:List Oper} {s:St} {r:Out},
  runOps step ops l s=some r→(∃ s',r=.norm s')∨∃ v s',r=.pnc v s'
 |[],s,r,h=>by simp only[runOps,Option.some.injEq]at h; exact .inl ⟨s,h.symm⟩
 |o::l,s,r,h=>by
  simp only[runOps]at h
  split at h
  ·simp at h
  ·exact runOps_kinds hs h
  ·split at h
   ·exact runOps_kinds hs h
   ·rename_i hne
    exact hs o s r h
theorem plain_rng:∀ {c:Code},plainC c=true→noRng c=true:=by
 intro c
 induction c with
 |seq a b iha ihb=>simp_all[plainC,noRng]
 |cond c a b iha ihb=>simp_all[plainC,noRng]
 |block id b ih=>simp_all[plainC,noRng]
 |loop b ih=>simp_all[plainC,noRng]
 |scope b ih=>intro h; simp[plainC]at h
 |rangeFunc f ps a b=>intro h; simp[plainC]at h
 |_=>intro _; rfl
theorem plain_exit[Glob]{C:Ctx}:∀ (k:Nat) {c:Code} {s s':St} {i:Nat},plainC c=true→evC C k c s=some (.exit i s')→i<1073741824:=by
 intro k
 induction k with
 |zero=>intro c s s' i _ h; simp[evC]at h
 |succ k ih=>
  intro c s s' i hp h
  cases c with
  |seq a b=>
   grind[plainC,evC]
  |cond o a b=>
   grind[plainC,evC]
  |block id b=>
   grind[plainC,evC,Out.exit.injEq]
  |loop b=>
   grind[plainC,evC]
  |exit id=>
   simp_all[evC,Out.exit.injEq,plainC]
  |region id ops draw=>
   simp only[evC]at h
   cases draw with
   |false=>
    rcases runOps_kinds (fun o s r h=>evO_kinds h) h with ⟨_,e⟩|⟨_,_,e⟩<;>cases e
   |true=>
    simp only at h
    split at h
    case isFalse=>simp at h
    split at h
    case h_2=>simp at h
    split at h
    case isFalse=>simp at h
    rcases runOps_kinds (fun o s r h=>evO_kinds h) h with ⟨_,e⟩|⟨_,_,e⟩<;>cases e
  |skip=>simp[evC]at h
  |ret=>simp[evC]at h
  |_=>simp[plainC]at hp
def OkJ[Glob](l:Nat)(B:Nat)(E:Env):Out→Exit→Act→World→Prop
 |.exit i s,.goto m,a,w=>i=1073741825∧m=l∧SRel B E s a w
 |.exit i s,.exit j,a,w=>i=j∧i<1073741824∧SRel B E s a w
 |o,e,a,w=>OutOk B E o e a w
def OutJ[Glob](l:Nat)(B:Nat)(E:Env)(w:World)(o:Out)(e:Exit)(a':Act)(w':World):Prop:=
 ∃ E',Ext E E'∧Fr E w E' w'∧OkJ l B E' o e a' w'
theorem OutJ.from[Glob]{l B:Nat}{E E1:Env}{w w1:World}{o:Out}{e:Exit}{a:Act}{w':World}(hx:Ext E E1)(hf:Fr E w E1 w1)(h:OutJ l B E1 w1 o e a w'):OutJ l B E w o e a w':=by
 obtain⟨E',h1,h2,h3⟩:=h
 exact⟨E',hx.trans h1,hf.trans h2,h3⟩
theorem plain_ok[Glob]{C:Ctx}{k:Nat}(hC:∀ j,j≤k→SoundC C j){l:Nat}{c:Code}(hp:plainC c=true){j:Nat}(hj:j≤k){s:St}{o:Out}(h:evC C j c s=some o)
  (rd:Option Nat) {B:Nat} {E:Env} {a:Act} {w:World} (hs:SRel B E s a w):c.wpIn (WF rd) 0 C.P (OutJ l B E w o) a w:=by
 refine wpIn_mono (hC j hj c s o h rd (.inr (plain_rng hp)) B E a w hs) fun e a' w' hq=>?_
 obtain⟨E',h1,h2,h3⟩:=hq
 refine⟨E',h1,h2,?_⟩
 cases o with
 |exit i s'=>
  have hi:=plain_exit j hp h
  cases e with
  |exit m=>exact⟨h3.1,hi,h3.2⟩
  |_=>exact h3.elim
 |_=>exact h3
theorem sub_ok[Glob]{C:Ctx}{k:Nat}(hC:∀ j,j≤k→SoundC C j){l:Nat}:∀ (c:Code) {c':Code},subC l c=some c'→∀ (j:Nat),j≤k→∀ (s:St) (o:Out),evC C j c' s=some o →
  ∀ (rd:Option Nat) (B:Nat) (E:Env) (a:Act) (w:World),SRel B E s a w→c.wpIn (WF rd) 0 C.P (OutJ l B E w o) a w:=by
 intro c
 induction c with
 |seq x y ihx ihy=>
  intro c' hc j hj s o h rd B E a w hs
  simp only[subC]at hc
  cases hx:subC l x with
  |none=>rw[hx]at hc; simp at hc
  |some x'=>
   cases hy:subC l y with
   |none=>rw[hx,hy]at hc; simp at hc
   |some y'=>
    rw[hx,hy]at hc
    simp only[Option.bind_some,Option.map_some,Option.some.injEq]at hc
    subst hc
    cases j with
    |zero=>simp[evC]at h
    |succ j=>
     have px:=ihx hx
     have py:=ihy hy
     simp only[evC]at h
     refine wpIn_seq ?_
     split at h
     ·rename_i s' hx'
      refine wpIn_mono (px j (by omega) s _ hx' rd B E a w hs) fun e a' w' hp=>?_
      obtain⟨E',h1,h2,h3⟩:=hp
      cases e with
      |normal=>exact wpIn_mono (py j (by omega) s' o h rd B E' a' w' h3) fun e a'' w'' hp=>OutJ.from h1 h2 hp
      |_=>exact h3.elim
     ·rename_i hne
      refine wpIn_mono (px j (by omega) s o h rd B E a w hs) fun e a' w' hp=>?_
      obtain⟨E',h1,h2,h3⟩:=hp
      cases e with
      |normal=>
       cases o with
       |norm s'=>exact absurd h (hne s')
       |_=>exact h3.elim
      |_=>exact⟨E',h1,h2,h3⟩
 |cond op x y ihx ihy=>
  intro c' hc j hj s o h rd B E a w hs
  simp only[subC]at hc
  cases hx:subC l x with
  |none=>rw[hx]at hc; simp at hc
  |some x'=>
   cases hy:subC l y with
   |none=>rw[hx,hy]at hc; simp at hc
   |some y'=>
    rw[hx,hy]at hc
    simp only[Option.bind_some,Option.map_some,Option.some.injEq]at hc
    subst hc
    cases j with
    |zero=>simp[evC]at h
    |succ j=>
     have px:=ihx hx
     have py:=ihy hy
     simp only[evC]at h
     split at h
     case h_2=>simp at h
     rename_i t ht
     have hv:=eval_rep hs.inv.glob hs.fr op
     rw[ht]at hv
     simp only[Rep]at hv
     cases t with
     |true=>exact wpIn_cond_true hv (px j (by omega) s o h rd B E a w hs)
     |false=>exact wpIn_cond_false hv (py j (by omega) s o h rd B E a w hs)
 |goto m=>
  intro c' hc j hj s o h rd B E a w hs
  simp only[subC]at hc
  split at hc
  case isFalse=>simp at hc
  rename_i hm
  simp only[Option.some.injEq]at hc
  subst hc
  cases j with
  |zero=>simp[evC]at h
  |succ j=>
   simp only[evC,Option.some.injEq]at h
   subst h
   exact wpIn_goto ⟨E,Ext.refl E,Fr.refl E w,rfl,hm,hs⟩
 |_=>
  intro c' hc
  simp only[subC]at hc
  split at hc
  case isFalse=>simp at hc
  rename_i hp
  simp only[Option.some.injEq]at hc
  subst hc
  intro j hj s o h rd B E a w hs
  exact plain_ok hC hp hj h rd hs
section
variable {F:Fence}{n:Nat}{P:Program}{Q:Exit→Act→World→Prop}{a:Act}{w:World}
theorem stepR_scope{b:Frame}{k:List Go.Item}{cs:List Frame}{c:Code}:step P (lone (b.atR a (.code (.scope c)::k)) cs w)=.next (lone (b.atR a (.code c::.inScope c::k)) cs w):=
 step_lone_go (by simp[stepG,stepG.exec,Frame.atR])
theorem stepR_inScope{b:Frame}{k:List Go.Item}{cs:List Frame}{c:Code}:step P (lone (b.atR a (.inScope c::k)) cs w)=.next (lone (b.atR a k) cs w):=
 step_lone_go (by simp[stepG,stepG.exec,Frame.atR])
def Inside(F:Fence)(n:Nat)(P:Program)(c r:Code)(Q:Exit→Act→World→Prop)(a:Act)(w:World):Prop:=
 ∀ (b:Frame) (k:List Go.Item) (cs:List Frame),b.roundOf=F.round→F.fn b.fn→F.room (cs.length+1+n) →
   ∃ e a' w',Q e a' w'∧ArrivesIn (Machine.fenced P F) P (lone (b.atR a (.code r::.inScope c::k)) cs w) b k cs e a' w'
def Jmp(l:Nat)(N:Act→World→Prop)(Q:Exit→Act→World→Prop):Exit→Act→World→Prop
 |.goto m,a,w=>m=l∧N a w
 |e,a,w=>Q e a w
theorem inside_of{c r rest:Code}{l:Nat}{N:Act→World→Prop}(hf:findLabel c l=some rest)(hN:∀ a w,N a w→Inside F n P c rest Q a w)
  (h:r.wpIn F n P (Jmp l N Q) a w):Inside F n P c r Q a w:=by
 intro b k cs hro hb hr
 have hg:gotoIn l (.inScope c::k)=some (.code rest::.inScope c::k):=by simp[gotoIn,hf]
 obtain⟨e,a₁,w₁,hq,harr⟩:=h b (.inScope c::k) cs hro hb hr
 cases e with
 |normal=>exact⟨.normal,a₁,w₁,hq,StepsIn.trans harr (.one (fenced_calm hb hr rfl) stepR_inScope)⟩
 |exit id=>
  have hx:exitTo id (.inScope c::k)=exitTo id k:=by simp[exitTo]
  exact⟨.exit id,a₁,w₁,hq,fun k' hk=>harr.1 k' (by rw[hx]; exact hk),fun hr' hk=>harr.2 hr' (by rw[hx]; exact hk)⟩
 |goto m=>
  obtain⟨rfl,hN'⟩:=hq
  obtain⟨e₂,a₂,w₂,hq₂,harr₂⟩:=hN _ _ hN' b k cs hro hb hr
  exact⟨e₂,a₂,w₂,hq₂,.of_steps (harr.1 _ hg) harr₂⟩
 |ret=>exact⟨_,a₁,w₁,hq,harr⟩
 |panic ch=>exact⟨_,a₁,w₁,hq,harr⟩
 |outgrown=>exact⟨_,a₁,w₁,hq,harr⟩
theorem inside_straight{c r:Code}(h:r.wpIn F n P Q a w)(hQ:∀ m a w,¬Q (.goto m) a w):Inside F n P c r Q a w:=by
 intro b k cs hro hb hr
 obtain⟨e,a₁,w₁,hq,harr⟩:=h b (.inScope c::k) cs hro hb hr
 cases e with
 |normal=>exact⟨.normal,a₁,w₁,hq,StepsIn.trans harr (.one (fenced_calm hb hr rfl) stepR_inScope)⟩
 |exit id=>
  have hx:exitTo id (.inScope c::k)=exitTo id k:=by simp[exitTo]
  exact⟨.exit id,a₁,w₁,hq,fun k' hk=>harr.1 k' (by rw[hx]; exact hk),fun hr' hk=>harr.2 hr' (by rw[hx]; exact hk)⟩
 |goto m=>exact absurd hq (hQ _ _ _)
 |ret=>exact⟨_,a₁,w₁,hq,harr⟩
 |panic ch=>exact⟨_,a₁,w₁,hq,harr⟩
 |outgrown=>exact⟨_,a₁,w₁,hq,harr⟩
theorem scope_of{c:Code}(h:Inside F n P c c Q a w):(Code.scope c).wpIn F n P Q a w:=by
 intro b k cs hro hb hr
 obtain⟨e,a₁,w₁,hq,harr⟩:=h b k cs hro hb hr
 exact⟨e,a₁,w₁,hq,.of_steps (.one (fenced_calm hb hr rfl) stepR_scope) harr⟩
end
theorem plain_label:∀ {c:Code} {l:Nat},plainC c=true→findLabel c l=none:=by
 intro c
 induction c with
 |seq a b iha ihb=>
  simp_all[plainC,findLabel]
 |label m=>intro l h; simp[plainC]at h
 |_=>intro l _; rfl
theorem find_seq{a b:Code}{l:Nat}(h:findLabel a l=none):findLabel (.seq a b) l=findLabel b l:=by
 simp only[findLabel,h]
theorem cut_find:∀ {c:Code} {l:Nat} {x r:Code},cutC c=some (l,x,r)→findLabel c l=some (.seq .skip r):=by
 intro c
 induction c with
 |seq a b iha ihb=>
  intro l x r h
  cases a with
  |label m=>
   simp_all[cutC,findLabel]
  |_=>
   simp only[cutC]at h
   split at h
   case isFalse=>simp at h
   rename_i hp
   cases hb:cutC b with
   |none=>rw[hb]at h; simp at h
   |some q=>
    obtain⟨l',x',r'⟩:=q
    rw[hb]at h
    simp only[Option.map_some,Option.some.injEq,Prod.mk.injEq]at h
    obtain⟨rfl,rfl,rfl⟩:=h
    exact(find_seq (plain_label (l:=l') hp)).trans (ihb hb)
 |_=>intro l x r h; simp[cutC]at h
theorem cut_wp[Glob]{C:Ctx}{k:Nat}(hC:∀ j,j≤k→SoundC C j){Q:Exit→Act→World→Prop}{rd:Option Nat}{B:Nat}{l:Nat}{r:Code}:∀ (c:Code) {x:Code},cutC c=some (l,x,r)→∀ (j:Nat),j≤k→∀ (s:St) (q:Out),evC C j x s=some q →
  ∀ (E:Env) (a:Act) (w:World),SRel B E s a w→(∀ s1 E1 a1 w1,q=.norm s1→Ext E E1→Fr E w E1 w1→SRel B E1 s1 a1 w1→r.wpIn (WF rd) 0 C.P Q a1 w1) →
  (∀ e a' w',(∀ s1,q≠.norm s1)→OutPost B E w q e a' w'→Q e a' w')→c.wpIn (WF rd) 0 C.P Q a w:=by
 intro c
 induction c with
 |seq a b iha ihb=>
  intro x h j hj s q hev E ac w hs hn ho
  have step:∀ (hp:plainC a=true) (x':Code),cutC b=some (l,x',r)→x=.seq a x'→(Code.seq a b).wpIn (WF rd) 0 C.P Q ac w:=by
   intro hp x' hb hx
   subst hx
   cases j with
   |zero=>simp[evC]at hev
   |succ j=>
    simp only[evC]at hev
    refine wpIn_seq ?_
    split at hev
    ·rename_i s1 h1
     refine wpIn_mono (hC j (by omega) _ _ _ h1 rd (.inr (plain_rng hp)) B E ac w hs) fun e a' w' hq=>?_
     obtain⟨E',g1,g2,g3⟩:=hq
     cases e with
     |normal=>exact ihb hb j (by omega) s1 q hev E' a' w' g3 (fun s2 E2 a2 w2 e1 e2 e3 e4=>hn s2 E2 a2 w2 e1 (g1.trans e2) (g2.trans e3) e4) (fun e a2 w2 e1 e2=>ho e a2 w2 e1 (OutPost.from g1 g2 e2))
     |_=>exact g3.elim
    ·rename_i hne
     refine wpIn_mono (hC j (by omega) _ _ _ hev rd (.inr (plain_rng hp)) B E ac w hs) fun e a' w' hq=>?_
     cases e with
     |normal=>
      obtain⟨E',g1,g2,g3⟩:=hq
      cases q with
      |norm s1=>exact absurd hev (hne s1)
      |_=>exact g3.elim
     |_=>exact ho _ _ _ (fun s1 e=>hne s1 (e▸hev)) hq
  cases a with
  |label m=>
   simp only[cutC,Option.some.injEq,Prod.mk.injEq]at h
   obtain⟨rfl,rfl,rfl⟩:=h
   cases j with
   |zero=>simp[evC]at hev
   |succ j=>
    simp only[evC,Option.some.injEq]at hev
    subst hev
    exact wpIn_seq (wpIn_label (hn s E ac w rfl (Ext.refl E) (Fr.refl E w) hs))
  |_=>
   simp only[cutC]at h
   split at h
   case isFalse=>simp at h
   rename_i hp
   cases hb:cutC b with
   |none=>rw[hb]at h; simp at h
   |some q'=>
    obtain⟨l',x',r'⟩:=q'
    rw[hb]at h
    simp only[Option.map_some,Option.some.injEq,Prod.mk.injEq]at h
    obtain⟨rfl,rfl,rfl⟩:=h
    exact step hp x' hb rfl
 |_=>intro x h; simp[cutC]at h
def outSc:Out→Out
 |.exit i s=>if i=1073741824 then .norm s else .exit i s
 |o=>o
theorem Inside.mono{F:Fence}{n:Nat}{P:Program}{c r:Code}{Q Q':Exit→Act→World→Prop}{a:Act}{w:World}(h:Inside F n P c r Q a w)(hq:∀ e a w,Q e a w→Q' e a w):Inside F n P c r Q' a w:=
 fun b k cs hro hb hr=>let ⟨e,a',w',q,r⟩:=h b k cs hro hb hr; ⟨e,a',w',hq _ _ _ q,r⟩
theorem Jmp.mono{l:Nat}{N N':Act→World→Prop}{Q Q':Exit→Act→World→Prop}(hn:∀ a w,N a w→N' a w)(hq:∀ e a w,Q e a w→Q' e a w){e:Exit}{a:Act}{w:World}(h:Jmp l N Q e a w):Jmp l N' Q' e a w:=by
 cases e with
 |goto m=>exact⟨h.1,hn _ _ h.2⟩
 |_=>exact hq _ _ _ h
theorem rounds_ok[Glob]{C:Ctx}{k:Nat}(hC:∀ j,j≤k→SoundC C j){rd:Option Nat}{l:Nat}{c r r':Code}(hf:findLabel c l=some (.seq .skip r))(hr:subC l r=some r'){B:Nat}:∀ (j:Nat),j≤k→∀ (s:St) (o:Out),
  evC C j (.loop (.block 1073741825 (.seq r' (.exit 1073741824)))) s=some o→∀ (E:Env) (a:Act) (w:World),SRel B E s a w →
  r.wpIn (WF rd) 0 C.P (Jmp l (fun a1 w1=>Inside (WF rd) 0 C.P c (.seq .skip r) (OutPost B E w (outSc o)) a1 w1) (OutPost B E w (outSc o))) a w:=by
 intro j
 induction j with
 |zero=>intro _ s o h; simp[evC]at h
 |succ j ih=>
  intro hj s o h E a w hs
  have ih':=ih (by omega)
  simp only[evC]at h
  cases hb:evC C j (.block 1073741825 (.seq r' (.exit 1073741824))) s with
  |none=>rw[hb]at h; simp at h
  |some q=>
   rw[hb]at h
   cases j with
   |zero=>simp[evC]at hb
   |succ j=>
    simp only[evC]at hb
    cases j with
    |zero=>simp[evC]at hb
    |succ j=>
     simp only[evC]at hb
     cases hq:evC C j r' s with
     |none=>rw[hq]at hb; simp at hb
     |some p=>
      rw[hq]at hb
      refine wpIn_mono (sub_ok hC r hr j (by omega) s p hq rd B E a w hs) fun e a' w' ho=>?_
      obtain⟨E',g1,g2,g3⟩:=ho
      cases p with
      |norm s1=>
       cases j with
       |zero=>simp[evC]at hq
       |succ j=>
        simp only[evC]at hb
        simp at hb
        subst hb
        simp only[Option.some.injEq]at h
        subst h
        cases e with
        |normal=>exact⟨E',g1,g2,g3⟩
        |_=>exact g3.elim
      |exit i s1=>
       simp only at hb
       cases e with
       |goto m=>
        obtain⟨hi,hm,hs1⟩:=g3
        subst hi
        simp only[if_true,Option.some.injEq]at hb
        subst hb
        simp only at h
        refine⟨hm,?_⟩
        have:∃ E2,Ext E E2∧Fr E w E2 w'∧SRel B E2 (resetA s.hp.length s1) a' w':=by
         unfold resetA
         split
         ·rename_i hall
          have hle:s.hp.length≤s1.hp.length:=by rw[hs.inv.len,hs1.inv.len]; exact g1.L
          obtain⟨a1,a2,a3⟩:=lower_ok hs1.inv hle hall
          exact⟨E'.lower s.hp.length,⟨g1.m,fun n hn ver l h=>g1.ρ n hn ver l h,by simp[Env.lower,hs.inv.len]⟩,g2.trans a2,forget_rep a3 hs1.fr,a1,hs1.df.mono a2,hs1.bs⟩
         ·exact⟨E',g1,g2,hs1⟩
        obtain⟨E2,b1,b2,b3⟩:=this
        have hw:=ih' _ o h E2 a' w' b3
        refine inside_of hf (N:=fun a w2=>Inside (WF rd) 0 C.P c (.seq .skip r) (OutPost B E w (outSc o)) a w2) (fun _ _ h=>h) (wpIn_seq (wpIn_skip (wpIn_mono hw fun e a2 w2 hj=>?_)))
        exact hj.mono (fun _ _ hi=>hi.mono fun _ _ _ hp=>OutPost.from b1 b2 hp) fun _ _ _ hp=>OutPost.from b1 b2 hp
       |exit m=>
        obtain⟨hi,hlt,hs1⟩:=g3
        subst hi
        rw[if_neg (by omega)]at hb
        simp only[Option.some.injEq]at hb
        subst hb
        simp only[Option.some.injEq]at h
        subst h
        have:outSc (.exit i s1)=.exit i s1:=by simp only[outSc]; rw[if_neg (by omega)]
        rw[this]
        exact⟨E',g1,g2,rfl,hs1⟩
       |_=>exact g3.elim
      |ret s1=>
       simp only[Option.some.injEq]at hb
       subst hb
       simp only[Option.some.injEq]at h
       subst h
       cases e with
       |ret=>exact⟨E',g1,g2,g3⟩
       |_=>exact g3.elim
      |pnc v s1=>
       simp only[Option.some.injEq]at hb
       subst hb
       simp only[Option.some.injEq]at h
       subst h
       cases e with
       |panic ch=>exact⟨E',g1,g2,g3⟩
       |_=>exact g3.elim
theorem noGoto_rng:∀ {c:Code},noGoto c=true→noRng c=true:=by
 intro c
 induction c with
 |seq a b iha ihb=>simp_all[noGoto,noRng]
 |cond o a b iha ihb=>simp_all[noGoto,noRng]
 |block id b ih=>simp_all[noGoto,noRng]
 |loop b ih=>simp_all[noGoto,noRng]
 |scope b ih=>simp_all[noGoto,noRng]
 |rangeFunc _ _ _ _ _ _=>intro h; simp[noGoto]at h
 |_=>intro _; rfl
theorem scope_ok[Glob]{C:Ctx}{k:Nat}(hC:∀ j,j≤k→SoundC C j){rd:Option Nat}{B:Nat}{E:Env}{s:St}{a:Act}{w:World}(hs:SRel B E s a w){b c:Code}{o:Out}
  (hc:scopeC b=some c) (h:evC C k c s=some o):(Code.scope b).wpIn (WF rd) 0 C.P (OutPost B E w o) a w:=by
 cases hng:noGoto b with
 |true=>
  simp only[scopeC,hng,Option.some.injEq]at hc
  subst hc
  refine scope_of (inside_straight (hC k (Nat.le_refl _) b s o h rd (.inr (noGoto_rng hng)) B E a w hs) fun m a' w' hq=>?_)
  obtain⟨E',_,_,hq⟩:=hq
  cases o<;>exact hq.elim
 |false=>
 cases hcut:cutC b with
 |none=>simp only[scopeC,hng,hcut]at hc; simp at hc
 |some q=>
  obtain⟨l,x,r⟩:=q
  cases hr:subC l r with
  |none=>simp only[scopeC,hng,hcut,hr,Option.map_none]at hc; simp at hc
  |some r'=>
   simp only[scopeC,hng,hcut,hr,Option.map_some,Option.some.injEq]at hc
   subst hc
   have hf:=cut_find hcut
   cases k with
   |zero=>simp[evC]at h
   |succ k=>
    simp only[evC]at h
    refine scope_of (inside_of hf (N:=fun a w'=>Inside (WF rd) 0 C.P b (.seq .skip r) (OutPost B E w o) a w') (fun _ _ h=>h) ?_)
    cases hx:evC C k x s with
    |none=>rw[hx]at h; simp at h
    |some q=>
     rw[hx]at h
     refine cut_wp hC b hcut k (by omega) s q hx E a w hs (fun s1 E1 a1 w1 hq g1 g2 hs1=>?_) (fun e a' w' hq hp=>?_)
     ·subst hq
      simp only at h
      cases k with
      |zero=>simp[evC]at h
      |succ k=>
       simp only[evC]at h
       cases hl:evC C k (.loop (.block 1073741825 (.seq r' (.exit 1073741824)))) s1 with
       |none=>rw[hl]at h; simp at h
       |some oL=>
        rw[hl]at h
        have ho:o=outSc oL:=by
         cases oL with
         |exit i s2=>
          grind[outSc]
         |_=>simpa[outSc] using h.symm
        subst ho
        refine wpIn_mono (rounds_ok hC hf hr k (by omega) s1 oL hl E1 a1 w1 hs1) fun e a2 w2 hj=>?_
        exact hj.mono (fun _ _ hi=>hi.mono fun _ _ _ hp=>OutPost.from g1 g2 hp) fun _ _ _ hp=>OutPost.from g1 g2 hp
     ·have ho:o=q:=by
       simp_all
      subst ho
      cases e with
      |goto m=>obtain⟨_,_,_,h3⟩:=hp; cases o<;>exact h3.elim
      |_=>exact hp
end Go.PI
end
section
/- PI, part Zb: calls that only look, where the order is drawn. -/
namespace Go.PI
def Peeks[Glob](P:Program):Prop:=∀ (g:FuncId) (args:List AV) (hp:AHeap) (e:Eff),(peek P hp.length g args).run hp=some e→∀ (E:Env) (w:World) (vs:List Value),Inv E hp w→RepT E true args vs →
 e.wr=[]∧Calls P g vs.toArray w (CallPost E w hp (.val e.val))
theorem peek_fn[Glob]{C:Ctx}(hok:C.Ok){nm:Nat}{g:FuncId}{args:List AV}{hp:AHeap}{e:Eff}(h:(peek C.P nm g args).run hp=some e):
  ∃ fn : Func, C.P.funcs[g]? = some fn ∧ fn.body.isSome = true ∧ (fn.name == "runtime.NumGoroutine") = false := by
 unfold peek at h
 split at h
 ·simp[RM.run_fail]at h
 rename_i fn hf
 split at h
 ·simp[RM.run_fail]at h
 rename_i c hc
 exact⟨fn,hf,by rw[hc]; rfl,hok.name g fn hf (by rw[hc]; rfl)⟩
def ovHp(hp:AHeap):Option (Nat×AObj)→AHeap
 |none=>hp
 |some (m,o')=>match hp[m]? with
  |some (some _)=>hp.set m (some o')
  |_=>hp
theorem over_get{hp:AHeap}{ov:Option (Nat×AObj)}(n:Nat):(ovHp hp ov)[n]?=(hp[n]?).map fun o=>o.map fun o=>match ov with
  |some (m,o')=>(match Nat.beq m n with
   |true=>o'
   |false=>o)
  |none=>o:=by
 cases ov with
 |none=>cases h:hp[n]? with
  |none=>simp[ovHp,h]
  |some o=>cases o<;>simp[ovHp,h]
 |some q=>
  obtain⟨m,o'⟩:=q
  simp only[ovHp]
  by_cases hm:m=n
  ·subst hm
   have hb:Nat.beq m m=true:=Nat.beq_refl m
   split
   ·rename_i o ho
    rw[List.getElem?_set_self (List.getElem?_eq_some_iff.1 ho).1,ho]
    simp
   ·rename_i ho
    cases h:hp[m]? with
    |none=>simp
    |some o=>cases o with
     |none=>simp
     |some o=>exact absurd h (ho o)
  ·have hb:Nat.beq m n=false:=Bool.eq_false_iff.mpr fun h=>hm (Nat.eq_of_beq_eq_true h)
   have:(match hp[m]? with
    |some (some _)=>hp.set m (some o')
    |_=>hp)[n]?=hp[n]?:=by
    split
    ·rw[List.getElem?_set_ne hm]
    ·rfl
   rw[this]
   cases h:hp[n]? with
   |none=>simp
   |some o=>cases o<;>simp[hb]
theorem ovHp_len{hp:AHeap}{ov:Option (Nat×AObj)}:(ovHp hp ov).length=hp.length:=by
 unfold ovHp
 split
 ·rfl
 ·split<;>simp
def lookHp(hp:AHeap)(ov:Option (Nat×AObj))(nw:List AObj):AHeap:=ovHp hp ov++nw.map some
theorem lookHp_len{hp:AHeap}{ov:Option (Nat×AObj)}{nw:List AObj}:(lookHp hp ov nw).length=hp.length+nw.length:=by
 simp[lookHp,ovHp_len]
theorem over_run{α:Type}{hp:AHeap}{ov:Option (Nat×AObj)}{nw:List AObj}(x:RM α):(x.over hp.length ov nw).run hp=x.run (lookHp hp ov nw) ∧
  (x.over hp.length ov nw).log hp=(x.log (lookHp hp ov nw)).filter (fun n=>Nat.blt n hp.length):=by
 induction x with
 |ret a=>exact⟨rfl,rfl⟩
 |fail=>exact⟨rfl,rfl⟩
 |get n k ih=>
  cases hb:Nat.ble hp.length n with
  |true=>
   have hle:=Nat.le_of_ble_eq_true hb
   have hb2:Nat.blt n hp.length=false:=Bool.eq_false_iff.mpr fun h=>by have:=Nat.le_of_ble_eq_true h; omega
   have e:(lookHp hp ov nw)[n]?=(nw[n-hp.length]?).map some:=by
    unfold lookHp
    rw[List.getElem?_append_right (by rw[ovHp_len]; exact hle),ovHp_len,List.getElem?_map]
   simp only[RM.over,RM.run,RM.log,hb,e,List.filter_cons,hb2,Bool.false_eq_true,if_false]
   cases h:nw[n-hp.length]? with
   |none=>exact⟨rfl,rfl⟩
   |some o=>exact ih o
  |false=>
   have hlt:n<hp.length:=by
    rcases Nat.lt_or_ge n hp.length with h|h
    ·exact h
    ·rw[Nat.ble_eq_true_of_le h]at hb; cases hb
   have hb2:Nat.blt n hp.length=true:=Nat.ble_eq_true_of_le hlt
   have e:(lookHp hp ov nw)[n]?=(ovHp hp ov)[n]?:=by
    unfold lookHp
    rw[List.getElem?_append_left (by rw[ovHp_len]; exact hlt)]
   simp only[RM.over,RM.run,RM.log,hb,e,over_get,List.filter_cons,hb2,if_true]
   cases h:hp[n]? with
   |none=>simp
   |some o=>cases o with
    |none=>simp
    |some o=>exact⟨(ih _).1,congrArg (n::·) (ih _).2⟩
def Weak[Glob](hp:AHeap)(ov:Option (Nat×AObj)):Prop:=∀ (E:Env) (w:World),Inv E (ovHp hp ov) w→Inv E hp w
theorem setCells_in:∀ (xs l:List AV) (j q:Nat),(q<j∨j+xs.length≤q)→(setCells l j xs)[q]?=l[q]?
 |[],_,_,_,_=>rfl
 |x::xs,l,j,q,h=>by
  simp only[setCells]
  rw[setCells_in xs _ _ q (by simp only[List.length_cons]at h; omega),List.getElem?_set_ne (by simp only[List.length_cons]at h; omega)]
theorem hole_rep[Glob]{E:Env}{l:List AV}{j s:Nat}{cs:List AV}(hs:cs.length=s)(ha:((l.drop j).take s).all isAny=true)(v:Value)(h:Rep E true (.agg (setCells l j cs)) v):Rep E true (.agg l) v:=by
 simp only[Rep]at h ⊢
 obtain⟨c,rfl,hc⟩:=h
 refine⟨c,rfl,RepL.of (RepT.of_get ?_ ?_) hc.leaf⟩
 ·rw[←hc.toT.length,setCells_length]
 ·intro q x u hx hu
  by_cases hq:q<j∨j+cs.length≤q
  ·obtain⟨u',hu',hr⟩:=hc.toT.get (i:=q) (x:=x) (by rw[setCells_in _ _ _ _ hq]; exact hx)
   rw[hu]at hu'
   cases hu'
   exact hr
  ·have hm:x∈(l.drop j).take s:=by
    rw[List.mem_iff_getElem?]
    refine⟨q-j,?_⟩
    rw[List.getElem?_take_of_lt (by omega),List.getElem?_drop]
    have:j+(q-j)=q:=by omega
    rw[this]
    exact hx
   have:=List.all_eq_true.1 ha x hm
   unfold isAny at this
   split at this
   ·simp[Rep]
   ·simp at this
theorem weak_store[Glob]{P:Program}{hp H:AHeap}{ev:Operand→AV}{nm n:Nat}{o:Oper}{o0 o':AObj}{e:Eff}(h0:hp[n]?=some (some o0))(h0':H[n]?=some (some o0))(hh:holeSt P ev o.op n o0=true)
  (he:(opEff P nm ev o).run H=some e) (hw:e.wr=[(n,o')]):Weak hp (some (n,o')):=by
 obtain⟨dst,op,type,pos,after,guard⟩:=o
 simp only[holeSt]at hh
 split at hh
 case h_2=>simp at hh
 rename_i t a x
 split at hh
 case h_2=>simp at hh
 rename_i r n' ver i j g f es ht ha
 split at hh
 case h_2=>simp at hh
 rename_i l hl
 simp only[Bool.and_eq_true]at hh
 obtain⟨⟨h1,h2⟩,h3⟩:=hh
 obtain rfl:=Nat.eq_of_beq_eq_true h1
 simp only[opEff,storeA,ht,ha,RM.run_bind]at he
 cases hq:(RM.arr n' ver).run H with
 |none=>rw[hq]at he; simp at he
 |some q=>
  obtain⟨g',c',f',es'⟩:=q
  have hq2:=RM.run_arr hq
  rw[hq]at he
  simp only[Option.bind_some]at he
  obtain⟨hq3,hq4⟩:=hq2
  rw[h0']at hq3
  simp only[Option.some.injEq,AObj.arr.injEq]at hq3
  obtain⟨rfl,rfl,rfl,rfl⟩:=hq3
  rw[hl]at he
  simp only[setPart]at he
  split at he
  case h_2=>simp[RM.run_fail]at he
  rename_i e' hse
  split at hse
  case isFalse=>simp at hse
  simp only[Option.some.injEq]at hse
  subst hse
  split at he
  case isFalse=>simp[RM.run_fail]at he
  rename_i hc
  simp only[RM.run_pure,Option.some.injEq]at he
  subst he
  simp only[List.cons.injEq,Prod.mk.injEq,true_and,and_true,Bool.false_and]at hw
  subst hw
  intro E w hI
  have hn:=(List.getElem?_eq_some_iff.1 h0).1
  have hi:=(List.getElem?_eq_some_iff.1 hl).1
  simp only[ovHp,h0]at hI
  have:=inv_rename (e':=.agg l) hI (List.getElem?_set_self hn) (List.getElem?_set_self hi) (fun v hv=>hole_rep hc.2.1 h3 v hv)
  rw[List.set_set,List.set_set,set_same hl,set_same h0]at this
  exact this
section
variable {C:Ctx}
theorem lookHp_set{hp:AHeap}{n:Nat}{o0 o':AObj}{nw:List AObj}(h:hp[n]?=some (some o0)):applyWr (lookHp hp none nw) [(n,o')]=lookHp hp (some (n,o')) nw:=by
 have hlt:=(List.getElem?_eq_some_iff.1 h).1
 simp only[applyWr,lookHp,ovHp,h]
 rw[setObj_lt (by simp; omega),List.set_append_left _ _ hlt]
theorem lookHp_new{hp:AHeap}{ov:Option (Nat×AObj)}{nw:List AObj}{n:Nat}{o':AObj}(h:hp.length≤n):applyWr (lookHp hp ov nw) [(n,o')]=lookHp hp ov (setNw nw (n-hp.length) o'):=by
 have hl:=lookHp_len (hp:=hp) (ov:=ov) (nw:=nw)
 simp only[applyWr,setObj,hl,setNw]
 by_cases e:n=hp.length+nw.length
 ·simp_all[lookHp]
 ·rw[if_neg e,if_neg (by omega)]
  simp only[lookHp,List.map_set]
  rw[List.set_append_right _ _ (by rw[ovHp_len]; exact h),ovHp_len]
theorem lookHp_news{hp:AHeap}{ov:Option (Nat×AObj)}:∀ (wr:List (Nat×AObj)) {nw:List AObj},(∀ q∈wr,hp.length≤q.1)→applyWr (lookHp hp ov nw) wr=lookHp hp ov (setNws hp.length nw wr)
 |[],_,_=>rfl
 |(n,o)::r,nw,h=>by
  have h1:=lookHp_new (ov:=ov) (nw:=nw) (o':=o) (h (n,o) (by simp))
  simp only[applyWr]at h1
  simp only[applyWr,setNws,h1]
  exact lookHp_news r fun q hq=>h q (by simp[hq])
theorem plainStep[Glob](ha:∀ f d,C.acc f d=false)(hn:∀ f d,C.nils f d=[]){ops:Array Oper}{f:FuncId}{hp:AHeap}{r:List Oper}{dst:Option Tmp}{op:Op}{type:TypeId}{pos:String}
  {after:Array Edge} {guard:Option (Nat×Bool)} {q q':Look} (h1:∀ c,op≠.call c) (h2:op≠.assign (.const (.slice none 0 0)))
  (h:(do
      let e ←(opEff C.P (hp.length+q.nw.length) (evalA q.fr) ⟨dst,op,type,pos,after,guard⟩).over hp.length q.ov q.nw
      match e.wr.all fun q=>Nat.ble hp.length q.1 with
      |true=>peekO C.P hp.length ops r { q with fr:=putA q.fr dst e.val,nw:=setNws hp.length q.nw e.wr }
      |false=>(match q.ov,e.wr with
       |none,[(n,o')]=>.get n fun o0=>(match holeSt C.P (evalA q.fr) op n o0 with
         |true=>peekO C.P hp.length ops r { q with fr:=putA q.fr dst e.val,ov:=some (n,o') }
         |false=>.fail)
       |_,_=>.fail):RM Look).run hp=some q') (k:Nat) :
  ∃ q1:Look,evO C (k+1) ⟨dst,op,type,pos,after,guard⟩ ⟨f,q.fr,lookHp hp q.ov q.nw⟩=some (.norm ⟨f,q1.fr,lookHp hp q1.ov q1.nw⟩)∧(Weak hp q.ov→Weak hp q1.ov)∧(peekO C.P hp.length ops r q1).run hp=some q':=by
 obtain⟨fr,ov,nw⟩:=q
 simp only[RM.run_bind,(over_run _).1]at h
 cases he:(opEff C.P (hp.length+nw.length) (evalA fr) ⟨dst,op,type,pos,after,guard⟩).run (lookHp hp ov nw) with
 |none=>rw[he]at h; simp at h
 |some e=>
  rw[he]at h
  simp only[Option.bind_some]at h
  have hnil:C.nils f=fun _=>[]:=funext fun d=>hn f d
  have hev:evO C (k+1) ⟨dst,op,type,pos,after,guard⟩ ⟨f,fr,lookHp hp ov nw⟩=some (.norm ⟨f,putA fr dst e.val,applyWr (lookHp hp ov nw) e.wr⟩):=by
   rw[evO]
   split
   ·rename_i c hc; exact absurd hc (h1 c)
   ·rename_i hc; exact absurd hc h2
   ·simp only[lookHp_len,he,hnil]
    cases dst<;>rfl
  split at h
  ·rename_i hb
   refine⟨⟨putA fr dst e.val,ov,setNws hp.length nw e.wr⟩,hev.trans ?_,id,h⟩
   rw[lookHp_news e.wr fun q hq=>Nat.le_of_ble_eq_true (List.all_eq_true.1 hb q hq)]
  ·cases ov with
   |some _=>simp[RM.run_fail]at h
   |none=>
    split at h
    case h_2=>simp[RM.run_fail]at h
    rename_i n o' _ hwr
    simp only[RM.run]at h
    split at h
    case h_2=>simp at h
    rename_i o0 ho
    split at h
    case h_2=>simp[RM.run_fail]at h
    rename_i hh
    have ho':(lookHp hp none nw)[n]?=some (some o0):=by
     grind[lookHp,ovHp]
    refine⟨⟨putA fr dst e.val,some (n,o'),nw⟩,hev.trans ?_,fun _=>weak_store (o:=⟨dst,op,type,pos,after,guard⟩) ho ho' hh he hwr,h⟩
    rw[hwr,lookHp_set (o':=o') ho]
theorem peekO_ev[Glob](ha:∀ f d,C.acc f d=false)(hn:∀ f d,C.nils f d=[]){ops:Array Oper}{f:FuncId}{hp:AHeap}:∀ (l:List Oper) (q q':Look),(peekO C.P hp.length ops l q).run hp=some q' →
  (Weak hp q.ov→Weak hp q'.ov)∧∀ k,runOps (fun o s=>evO C (k+1) o s) ops l ⟨f,q.fr,lookHp hp q.ov q.nw⟩=some (.norm ⟨f,q'.fr,lookHp hp q'.ov q'.nw⟩)
 |[],q,q',h=>by
  simp only[peekO,RM.run_pure,Option.some.injEq]at h
  subst h
  exact⟨id,fun k=>rfl⟩
 |o::r,q,q',h=>by
  obtain⟨dst,op,type,pos,after,guard⟩:=o
  simp only[peekO]at h
  simp only[runOps]
  cases hw:wantedA ops q.fr ⟨dst,op,type,pos,after,guard⟩ with
  |none=>rw[hw]at h; simp[RM.run_fail]at h
  |some b=>
   rw[hw]at h
   cases b with
   |false=>exact peekO_ev ha hn r { q with fr:=putA q.fr dst .undef } _ h
   |true=>
    simp only at h ⊢
    split at h
    ·simp[RM.run_fail]at h
    ·cases dst with
     |none=>
      obtain⟨i1,i2⟩:=peekO_ev ha hn (f:=f) r q _ h
      refine⟨i1,fun k=>?_⟩
      have hev:evO C (k+1) ⟨none,.assign (.const (.slice none 0 0)),type,pos,after,guard⟩ ⟨f,q.fr,lookHp hp q.ov q.nw⟩=some (.norm ⟨f,q.fr,lookHp hp q.ov q.nw⟩):=by
       rw[evO]; rfl
      rw[hev]
      exact i2 k
     |some d=>
      obtain⟨i1,i2⟩:=peekO_ev ha hn (f:=f) r { q with fr:=q.fr.set d (.lit nilSl) } _ h
      refine⟨i1,fun k=>?_⟩
      have hev:evO C (k+1) ⟨some d,.assign (.const (.slice none 0 0)),type,pos,after,guard⟩ ⟨f,q.fr,lookHp hp q.ov q.nw⟩=some (.norm ⟨f,q.fr.set d (.lit nilSl),lookHp hp q.ov q.nw⟩):=by
       rw[evO]
       simp only[ha,Bool.false_eq_true,if_false]
      rw[hev]
      exact i2 k
    ·rename_i h1 h2
     obtain⟨q1,g1,g2,g3⟩:=plainStep ha hn (f:=f) h1 h2 h 0
     obtain⟨i1,i2⟩:=peekO_ev ha hn (f:=f) r _ _ g3
     refine⟨fun hw=>i1 (g2 hw),fun k=>?_⟩
     obtain⟨q1',g1',_,g3'⟩:=plainStep ha hn (f:=f) h1 h2 h k
     rw[g1']
     exact(peekO_ev ha hn (f:=f) r _ _ g3').2 k
theorem peekC_ev[Glob](ha:∀ f d,C.acc f d=false)(hn:∀ f d,C.nils f d=[])(hh:∀ f d,C.holes f d=[]){f:FuncId}{hp:AHeap}:∀ (c:Code) (q:Look) (q':Look×Bool),(peekC C.P hp.length c q).run hp=some q' →
  (Weak hp q.ov→Weak hp q'.1.ov)∧∃ k,evC C k c ⟨f,q.fr,lookHp hp q.ov q.nw⟩=some (match q'.2 with|true=>.ret ⟨f,q'.1.fr,lookHp hp q'.1.ov q'.1.nw⟩|false=>.norm ⟨f,q'.1.fr,lookHp hp q'.1.ov q'.1.nw⟩):=by
 intro c
 induction c with
 |skip=>intro q q' h; simp only[peekC,RM.run_pure,Option.some.injEq]at h; subst h; exact⟨id,1,by simp[evC]⟩
 |ret=>intro q q' h; simp only[peekC,RM.run_pure,Option.some.injEq]at h; subst h; exact⟨id,1,by simp[evC]⟩
 |seq a b iha ihb=>
  intro q q' h
  simp only[peekC,RM.run_bind]at h
  cases hq:(peekC C.P hp.length a q).run hp with
  |none=>rw[hq]at h; simp at h
  |some q1=>
   rw[hq]at h
   simp only[Option.bind_some]at h
   obtain⟨w1,k1,h1⟩:=iha q q1 hq
   obtain⟨q1,r1⟩:=q1
   cases r1 with
   |true=>
    simp only[RM.run_pure,Option.some.injEq]at h
    subst h
    exact⟨w1,k1+1,by simp only[evC,h1]⟩
   |false=>
    simp only at h h1 w1
    obtain⟨w2,k2,h2⟩:=ihb q1 q' h
    refine⟨fun hw=>w2 (w1 hw),k1+k2+1,?_⟩
    have g1:=(growC C a ⟨f,q.fr,lookHp hp q.ov q.nw⟩).le h1 k2
    have g2:=(growC C b ⟨f,q1.fr,lookHp hp q1.ov q1.nw⟩).le h2 k1
    rw[Nat.add_comm]at g2
    simp only[evC,g1,g2]
 |region id ops draw=>
  intro q q' h
  cases draw with
  |true=>simp[peekC,RM.run_fail]at h
  |false=>
   simp only[peekC,RM.run_bind]at h
   cases hq:(peekO C.P hp.length ops ops.toList q).run hp with
   |none=>rw[hq]at h; simp at h
   |some q1=>
    rw[hq]at h
    simp only[Option.bind_some,RM.run_pure,Option.some.injEq]at h
    subst h
    obtain⟨w1,h1⟩:=peekO_ev ha hn (f:=f) _ _ _ hq
    exact⟨w1,2,by simp only[evC,hh,holesA]; exact h1 0⟩
 |_=>intro q q' h; simp[peekC,RM.run_fail]at h
def ovBelow(nm:Nat)(ov:Option (Nat×AObj)):Prop:=∀ n o,ov=some (n,o)→o.below nm=true
theorem peek_ev[Glob]{g:FuncId}{args:List AV}{hp:AHeap}{e:Eff}{P:Program}(hP:C.P=P)(ha:∀ f d,C.acc f d=false)(hn:∀ f d,C.nils f d=[])(hho:∀ f d,C.holes f d=[])(h:(peek P hp.length g args).run hp=some e):
  e.wr=[]∧below hp.length e.val=true∧∃ ov nw,Weak hp ov∧ovBelow hp.length ov∧∃ k,evF C k g args hp=some (.val e.val,lookHp hp ov nw):=by
 subst hP
 unfold peek at h
 split at h
 ·simp[RM.run_fail]at h
 rename_i fn hf
 split at h
 ·simp[RM.run_fail]at h
 rename_i c hc
 rw[RM.run_bind]at h
 cases hq:(peekC C.P hp.length c ⟨args++List.replicate (fn.ntmps-args.length) .undef,none,[]⟩).run hp with
 |none=>rw[hq]at h; simp at h
 |some q=>
  rw[hq]at h
  simp only[Option.bind_some,RM.run_bind,(over_run _).1]at h
  cases hl:(resultsL C.P q.1.fr fn.results.toList).run (lookHp hp q.1.ov q.1.nw) with
  |none=>rw[hl]at h; simp at h
  |some l=>
   rw[hl]at h
   simp only[Option.bind_some]at h
   split at h
   case h_2=>simp[RM.run_fail]at h
   rename_i hb
   simp only[RM.run_pure,Option.some.injEq]at h
   subst h
   simp only[Bool.and_eq_true]at hb
   obtain⟨hwk,k,hk⟩:=peekC_ev ha hn hho (f:=g) c ⟨_,none,[]⟩ q hq
   refine⟨rfl,hb.1,q.1.ov,q.1.nw,hwk (fun _ _ h=>h),?_,k+1,?_⟩
   ·intro n o ho
    have:=hb.2
    rw[ho]at this
    exact this
   have e:lookHp hp none []=hp:=by simp[lookHp,ovHp]
   simp only[e]at hk
   simp only[evF,hf,hc,hk]
   cases q.2<;>simp only[hl]
mutual
theorem rep_below{E:Env}{n:Nat}(hn:E.L=n){o:Bool}:∀ {x:AV} {v:Value},Rep E o x v→below n x=true
 |.lit _,v,_=>rfl
 |.agg l,v,h=>by
  simp only[Rep]at h
  obtain⟨c,_,hc⟩:=h
  simp only[below]
  exact repT_below hn hc.toT
 |.tup l,v,h=>by
  simp only[Rep]at h
  obtain⟨c,_,hc⟩:=h
  simp only[below]
  exact repT_below hn hc
 |.ifc t x,v,h=>by
  simp only[Rep]at h
  obtain⟨y,_,hy⟩:=h
  simp only[below]
  exact rep_below hn hy
 |.clo fn f c,v,h=>by
  simp only[Rep]at h
  obtain⟨_,_,_,h1,h2⟩:=h
  simp only[below,Bool.and_eq_true]
  exact⟨repT_below hn h1,repT_below hn h2⟩
 |.sl _,v,_=>rfl
 |.slx _ _,v,_=>rfl
 |.nz,v,_=>rfl
 |.eref _ _,v,_=>rfl
 |.ref m _ _ _,v,h=>by
  simp_all[Rep,below]
 |.osl _ m _ _ _ _,v,h=>by
  simp_all[Rep,below]
 |.asl m _ _ _ _ _,v,h=>by
  simp_all[Rep,below]
 |.mp _ m,v,h=>by
  simp_all[Rep,below]
 |.any,v,_=>rfl
theorem repT_below{E:Env}{n:Nat}(hn:E.L=n){o:Bool}:∀ {l:List AV} {c:List Value},RepT E o l c→belowL n l=true
 |[],_,_=>rfl
 |x::xs,v::vs,h=>by
  simp only[RepT]at h
  simp only[belowL,Bool.and_eq_true]
  exact⟨rep_below hn h.1,repT_below hn h.2⟩
 |_::_,[],h=>by simp[RepT]at h
end
theorem belowL_of{n:Nat}:∀ {l:List AV},(∀ (i:Nat) (x:AV),l[i]?=some x→below n x=true)→belowL n l=true
 |[],_=>rfl
 |x::xs,h=>by
  simp only[belowL,Bool.and_eq_true]
  exact⟨h 0 x rfl,belowL_of fun i y hy=>h (i+1) y hy⟩
theorem obj_below[Glob]{E:Env}{hp:AHeap}{w:World}(hI:Inv E hp w){n:Nat}{o:AObj}(ho:hp[n]?=some (some o)):o.below hp.length=true:=by
 have hl:=hI.len.symm
 cases o with
 |arr g c f es=>
  simp only[AObj.below,Bool.or_eq_true]
  refine .inr (belowL_of fun i x hx=>?_)
  obtain⟨l,_,_,h3⟩:=hI.objs _ _ ho
  cases hb:l.blk with
  |none=>
   simp_all
  |some b=>
   rw[hb]at h3
   obtain⟨_,_,_,_,_,_,_,_,a7⟩:=h3
   obtain⟨v,hv,_⟩:=a7 _ _ hx
   exact rep_below hl hv
 |oth k vs=>
  simp only[AObj.below]
  obtain⟨_,_,_,us,_,_,_,_,_,_,_,h8⟩:=hI.objs _ _ ho
  exact repT_below hl h8
theorem look_post[Glob]{E:Env}{hp:AHeap}{w w':World}(hI:Inv E hp w){ov:Option (Nat×AObj)}{nw:List AObj}(hw:Weak hp ov)(hb:ovBelow hp.length ov){r:AV}(hr:below hp.length r=true){en:Ending}
  (h:CallPost E w (lookHp hp ov nw) (.val r) en w'):CallPost E w hp (.val r) en w':=by
 obtain⟨E',hx,hI',hf,hres⟩:=h
 have htake:(lookHp hp ov nw).take hp.length=ovHp hp ov:=by
  unfold lookHp
  rw[←ovHp_len (ov:=ov),List.take_left]
 have hall:((lookHp hp ov nw).take hp.length).all (oBelow hp.length)=true:=by
  rw[htake,List.all_eq_true]
  intro o ho
  obtain⟨i,hi⟩:=List.mem_iff_getElem?.1 ho
  rw[over_get]at hi
  cases h:hp[i]? with
  |none=>rw[h]at hi; simp at hi
  |some o1=>
   rw[h]at hi
   cases o1 with
   |none=>
    simp only[Option.map_some,Option.map_none,Option.some.injEq]at hi
    subst hi
    rfl
   |some o1=>
    simp only[Option.map_some,Option.some.injEq]at hi
    subst hi
    simp only[oBelow]
    have h1:=obj_below hI h
    cases ov with
    |none=>exact h1
    |some q=>
     obtain⟨m,o'⟩:=q
     simp only
     split
     ·exact hb _ _ rfl
     ·exact h1
 obtain⟨h1,h2,h3⟩:=lower_ok hI' (by rw[lookHp_len]; omega) hall
 rw[htake]at h1
 refine⟨E'.lower hp.length,⟨hx.m,fun n hn ver l h=>hx.ρ n hn ver l h,by simp[Env.lower,hI.len]⟩,hw _ _ h1,hf.trans h2,?_⟩
 cases en with
 |returned v=>exact Rep.down h3 hr hres
 |panicked _=>exact hres.elim
 |outgrown=>exact hres.elim
end
end Go.PI
end
section
/- PI, part Z: the theorem: what the evaluator answers is what the machine does. -/
namespace Go.PI
theorem evE_looks[Glob]{C:Ctx}{k:Nat}:Looks (fun nm o fr=>evE C k nm o fr):=by
 intro nm o fr fr' h
 cases k with
 |zero=>rfl
 |succ k=>
  have hop:=opEff_congr (P:=C.P) (nm:=nm) h
  obtain⟨dst,op,type,pos,after,guard⟩:=o
  cases op with
  |call c=>
   obtain⟨callee,args,argTypes⟩:=c
   cases callee with
   |builtin b=>simp only[evE]; exact hop
   |invoke r m=>rfl
   |value f=>
    have h1:evalA fr f=evalA fr' f:=h f (by simp[Op.operands,Call.operands])
    have h2:args.toList.map (evalA fr)=args.toList.map (evalA fr'):=List.map_congr_left fun x hx=>h x (by simp[Op.operands,Call.operands]; exact .inr (by simpa using hx))
    simp only[evE,h1,h2]
  |_=>simp only[evE]; exact hop
theorem soundE_succ[Glob]{C:Ctx}(hok:C.Ok)(hpk:∀ g,C.kind g=.imp→Peeks C.P){k:Nat}(hF:SoundF C k)(hP:SoundP C k):StepOk C.P (fun nm o fr=>evE C (k+1) nm o fr):=by
 intro rd x B E s a w e K Q hs hnm h hK
 have hev:=fun y=>eval_rep hs.inv.glob hs.fr y
 have hat:isAllocOp x.o.op=false→x.at s.hp.length=s.hp.length:=fun h=>by simp only[Item.at,h]
 have hnm':isAllocOp x.o.op=true→s.hp[x.at s.hp.length]?=some none:=fun h=>by simp only[Item.at,h]; exact hnm h
 clear hnm
 have hnm:=hnm'
 clear hnm'
 obtain⟨idx,nm,o⟩:=x
 generalize Item.at ⟨idx,nm,o⟩ s.hp.length=nm at h hnm hat
 simp only at h hnm hat hK ⊢
 have eff:(opEff C.P nm (evalA s.fr) o).run s.hp=some e→o.wpIn (WF rd) 0 C.P a w K Q:=by
  intro h
  cases hal:isAllocOp o.op with
  |true=>exact wp_step hs (opEff_ok hs.inv (.inr (hnm hal)) hev h) hK
  |false=>
   rw[opEff_nm (nm':=s.hp.length) hal]at h
   exact wp_step hs (opEff_ok hs.inv (.inl rfl) hev h) hK
 obtain⟨dst,op,type,pos,after,guard⟩:=o
 cases op with
 |call c=>
  obtain⟨callee,args,argTypes⟩:=c
  cases callee with
  |builtin b=>simp only[evE]at h; exact eff h
  |invoke r m=>simp[evE,RM.run_fail]at h
  |value f=>
   simp only[evE]at h
   split at h
   ·simp[RM.run_fail]at h
   rename_i g args' hres
   have hargs:=repT_map hev args.toList
   split at h
   ·rename_i hal
    obtain⟨vs',hvs,hrun⟩:=resolve_ok (w:=w) (hev f) hargs hres (ownRun_fn hok h)
    refine wp_call (c:=⟨.value f,args,argTypes⟩) rfl rfl hrun (ownRun_ok hok hF hs.inv (.inr (hnm hal)) hvs h) (fun v w' hp=>?_) (fun ch w' hp=>?_) (fun w' hp=>?_)
    ·obtain⟨v',hv',E',hx,hI',hf,hr⟩:=hp
     cases hv'
     exact hK E' w' v hx hf hI' hr
    ·obtain⟨v',hv',_⟩:=hp
     cases hv'
    ·obtain⟨v',hv',_⟩:=hp
     cases hv'
   split at h
   case h_2=>
    rename_i hk
    have fin : (∃ fn : Func, C.P.funcs[g]? = some fn ∧ fn.body.isSome = true ∧ (fn.name == "runtime.NumGoroutine") = false) ∧
      ∀ (vs:List Value),RepT E true args' vs→Calls C.P g vs.toArray w (CallPost E w (applyWr s.hp e.wr) (.val e.val)):=by
     split at h
     ·rename_i hh he
      obtain⟨⟨fn,h1,h2⟩,h3⟩:=hok.intrE g hh args' s.hp e he h
      exact⟨⟨fn,h1,h2,hok.name g fn h1 h2⟩,fun vs hv=>h3 E w vs hs.inv hv⟩
     ·refine⟨peek_fn hok h,fun vs hv=>?_⟩
      rw[hat (by assumption)]at h
      obtain⟨e0,hcall⟩:=hpk g hk g args' s.hp _ h E w vs hs.inv hv
      rw[e0]
      exact hcall
    obtain⟨vs',hvs,hrun⟩:=resolve_ok (w:=w) (hev f) hargs hres fin.1
    refine wp_call (c:=⟨.value f,args,argTypes⟩) rfl rfl hrun (fin.2 vs' hvs) (fun v w' hp=>?_) (fun ch w' hp=>?_) (fun w' hp=>?_)
    ·obtain⟨E',hx,hI',hf,hr⟩:=hp
     exact hK E' w' v hx hf hI' hr
    ·obtain⟨E',hx,hI',hf,hr⟩:=hp
     exact hr.elim
    ·obtain⟨E',hx,hI',hf,hr⟩:=hp
     exact hr.elim
   rw[RM.run_bind]at h
   cases hq:(evP C k g args').run s.hp with
   |none=>rw[hq]at h; simp at h
   |some q=>
    obtain⟨res,wr⟩:=q
    rw[hq]at h
    simp only[Option.bind_some]at h
    cases res with
    |pnc v=>simp[RM.run_fail]at h
    |val r=>
     simp only[RM.run_pure,Option.some.injEq]at h
     subst h
     obtain⟨vs',hvs,hrun⟩:=resolve_ok (w:=w) (hev f) hargs hres (evP_fn hok hq)
     have hcall:=hP g args' s.hp _ wr hq E w vs' hs.inv hvs
     refine wp_call (c:=⟨.value f,args,argTypes⟩) rfl rfl hrun hcall (fun v w' hp=>?_) (fun ch w' hp=>?_) (fun w' hp=>?_)
     ·obtain⟨E',hx,hI',hf,hr⟩:=hp
      exact hK E' w' v hx hf hI' hr
     ·obtain⟨E',hx,hI',hf,hr⟩:=hp
      exact hr.elim
     ·obtain⟨E',hx,hI',hf,hr⟩:=hp
      exact hr.elim
 |_=>simp only[evE]at h; exact eff h
theorem unstepIn{I:Machine→Prop}{P:Program}{m m1 m2:Machine}(h:StepsIn I P m m2)(hne:m≠m2)(hs:step P m=.next m1):StepsIn I P m1 m2:=by
 cases h with
 |refl=>exact absurd rfl hne
 |head _ hs' hr=>
  rw[hs]at hs'
  cases hs'
  exact hr
theorem exitTo_length{id:Nat}:∀ {k k':List Go.Item},exitTo id k=some k'→k'.length<k.length
 |[],k',h=>by simp[exitTo]at h
 |x::r,k',h=>by
  cases x with
  |inBlock id'=>
   simp only[exitTo]at h
   split at h
   ·simp_all
   ·have:=exitTo_length h; simp; omega
  |_=>simp only[exitTo]at h; have:=exitTo_length h; simp; omega
theorem lone_ne{b b':Frame}{a a':Act}{k k':List Go.Item}{cs:List Frame}{w w':World}(h:k.length≠k'.length):lone (b.atR a k) cs w≠lone (b'.atR a' k') cs w':=by
 intro e
 have h1:=congrArg (fun m:Machine=>(m.gs[0]?).map fun g=>g.frame.todo.length) e
 have h2:some k.length=some k'.length:=h1
 simp only[Option.some.injEq]at h2
 exact h h2
def isLoopItem:Go.Item→Bool
 |.code (.loop _)=>true
 |_=>false
theorem lone_ne2{b b':Frame}{a a':Act}{k k':List Go.Item}{cs:List Frame}{w w':World}{c:Code}{x:Go.Item}(hx:isLoopItem x=false):lone (b.atR a (.code (.loop c)::k)) cs w≠lone (b'.atR a' (x::k')) cs w':=by
 intro e
 have h1:=congrArg (fun m:Machine=>(m.gs[0]?).map fun g=>(g.frame.todo.head?).map isLoopItem) e
 have h2:some (some true)=some (some (isLoopItem x)):=h1
 rw[hx]at h2
 simp at h2
theorem wp_loop_round{F:Fence}{n:Nat}{P:Program}{c:Code}{Q:Exit→Act→World→Prop}{a:Act}{w:World}(hg:∀ l a w,¬Q (.goto l) a w)(ho:∀ a w,¬Q .outgrown a w)
  (h:c.wpIn F n P (Exit.then (fun a w=>(Code.loop c).wpIn F n P Q a w) Q) a w):(Code.loop c).wpIn F n P Q a w:=by
 intro b k cs hro hb hr
 have h0:(lone (b.atR a (.code (.loop c)::k)) cs w).fenced P F:=fenced_calm hb hr rfl
 obtain⟨e,a₁,w₁,hq,harr⟩:=h b (.inLoop c::k) cs hro hb hr
 cases e with
 |normal=>
  obtain⟨e₂,a₂,w₂,hq₂,harr₂⟩:=hq b k cs hro hb hr
  have h1:(lone (b.atR a₁ (.inLoop c::k)) cs w₁).fenced P F:=fenced_calm hb hr rfl
  refine⟨e₂,a₂,w₂,hq₂,ArrivesIn.of_steps (StepsIn.head h0 stepR_loop (StepsIn.trans harr (.one h1 stepR_inLoop))) ?_⟩
  have hs:step P (lone (b.atR a₁ (.code (.loop c)::k)) cs w₁)=.next (lone (b.atR a₁ (.code c::.inLoop c::k)) cs w₁):=stepR_loop
  cases e₂ with
  |normal=>exact unstepIn harr₂ (lone_ne (k:=.code (.loop c)::k) (k':=k) (by simp)) hs
  |exit id=>
   exact⟨fun k' hk=>unstepIn (harr₂.1 k' hk) (lone_ne (k:=.code (.loop c)::k) (k':=k') (by have:=exitTo_length hk; simp; omega)) hs,
    fun hr' hk=>by
     obtain⟨k₁,e1,e2⟩:=harr₂.2 hr' hk
     exact⟨k₁,e1,unstepIn e2 (lone_ne2 rfl) hs⟩⟩
  |goto l=>exact absurd hq₂ (hg _ _ _)
  |ret=>
   refine⟨fun hn=>?_,fun hn=>?_⟩
   ·obtain⟨todo,h1⟩:=harr₂.1 hn
    refine⟨todo,unstepIn h1 ?_ hs⟩
    intro e
    have h1:=congrArg (fun m:Machine=>(m.gs[0]?).map fun g=>(match g.frame.mode with|.run=>true|_=>false)) e
    have h2:some true=some false:=h1
    simp at h2
   ·obtain⟨k₁,h1⟩:=harr₂.2 hn
    exact⟨k₁,unstepIn h1 (lone_ne2 rfl) hs⟩
  |panic ch=>
   obtain⟨todo,h1⟩:=harr₂
   refine⟨todo,unstepIn h1 ?_ hs⟩
   intro e
   have h1:=congrArg (fun m:Machine=>(m.gs[0]?).map fun g=>(match g.frame.mode with|.run=>true|_=>false)) e
   have h2:some true=some false:=h1
   simp at h2
  |outgrown=>exact absurd hq₂ (ho _ _)
 |exit id=>exact⟨_,a₁,w₁,hq,.of_steps (.one h0 stepR_loop) (.pass (x:=.inLoop c) rfl (fun _ _=>.inl (by simp)) harr)⟩
 |goto l=>exact⟨_,a₁,w₁,hq,.of_steps (.one h0 stepR_loop) (.pass (x:=.inLoop c) rfl (fun _ _=>.inl (by simp)) harr)⟩
 |ret=>exact⟨_,a₁,w₁,hq,.of_steps (.one h0 stepR_loop) (.pass (x:=.inLoop c) rfl (fun _ _=>.inl (by simp)) harr)⟩
 |panic ch=>exact⟨_,a₁,w₁,hq,.of_steps (.one h0 stepR_loop) (.pass (x:=.inLoop c) rfl (fun _ _=>.inl (by simp)) harr)⟩
 |outgrown=>exact⟨_,a₁,w₁,hq,.of_steps (.one h0 stepR_loop) (.pass (x:=.inLoop c) rfl (fun _ _=>.inl (by simp)) harr)⟩
theorem no_goto[Glob]{B:Nat}{E:Env}{w:World}{o:Out}:∀ l a w',¬OutPost B E w o (.goto l) a w':=by
 rintro l a w' ⟨E',_,_,h⟩
 cases o<;>exact h
theorem no_out[Glob]{B:Nat}{E:Env}{w:World}{o:Out}:∀ a w',¬OutPost B E w o .outgrown a w':=by
 rintro a w' ⟨E',_,_,h⟩
 cases o<;>exact h
theorem range_ok[Glob]{C:Ctx}(hok:C.Ok){k:Nat}(hF:SoundF C k){B:Nat}{E:Env}{s:St}{a:Act}{w:World}(hs:SRel B E s a w){f:Operand}{ps:Array Tmp}{as bd:Code}{o:Out}
  (h:evC C (k+1) (.rangeFunc f ps as bd) s=some o):(Code.rangeFunc f ps as bd).wpIn (WF none) 0 C.P (OutPost B E w o) a w:=by
 simp only[evC]at h
 split at h
 case h_2=>simp at h
 rename_i g args hres
 split at h
 case h_2=>simp at h
 rename_i x hp1 hev
 refine wpIn_rangeFunc fun fn _=>?_
 have hI1:Inv E s.hp (w.alloc (.deferred (some []))):=inv_still hs.inv (fun b hb=>by simp only[World.alloc,Array.getElem?_push,if_neg (by omega:¬b=w.heap.size)]) (by simp)
 have hF1:Fr E w E (w.alloc (.deferred (some []))):=⟨rfl,rfl,rfl,by simp,fun b hb _=>by simp only[World.alloc,Array.getElem?_push,if_neg (by omega:¬b=w.heap.size)],fun _ h=>.inl h,fun _ _ h=>.inl h⟩
 obtain⟨hx2,hI2,hF2⟩:=oth_new hI1 (n:=s.hp.length) (.inl rfl) (k:=.loop s.fn ps as bd .ready) (ob:=.loop { state:=.ready,pending:=none,fn,tmps:=a.tmps,params:=ps,assign:=as,body:=bd,defers:=w.heap.size }) (us:=a.tmps.toList)
  ⟨rfl,rfl,rfl,⟨rfl,rfl⟩,rfl⟩ (keepF_rep (u:=usesC as++usesC bd) 0 _ _ hs.fr)
 have hset:setObj s.hp s.hp.length (.oth (.loop s.fn ps as bd .ready) (keepF (usesC as++usesC bd) 0 s.fr))=s.hp++[some (.oth (.loop s.fn ps as bd .ready) (recF as bd s.fr))]:=by simp[setObj,recF]
 rw[hset]at hI2
 have hsz:(w.alloc (.deferred (some []))).heap.size=w.heap.size+1:=by simp
 rw[hsz]at hx2 hI2 hF2
 generalize hE2:E.push s.hp.length 0 ⟨some (w.heap.size+1),1,0⟩=E2 at hx2 hI2 hF2
 have hrho:E2.ρ s.hp.length 0=some ⟨some (w.heap.size+1),1,0⟩:=by rw[←hE2]; simp[Env.push]
 have hL:s.hp.length<E2.L:=by rw[←hE2]; simp only[Env.push]; omega
 have hown2:∀ b,E2.own b→E.own b∨b=w.heap.size+1:=by
  intro b hb
  rw[←hE2]at hb
  rcases hb with hb|hb
  ·exact .inl hb
  ·simp_all
 generalize hW:(w.alloc (.deferred (some []))).alloc (.loop { state:=.ready,pending:=none,fn,tmps:=a.tmps,params:=ps,assign:=as,body:=bd,defers:=w.heap.size })=w2 at hI2 hF2
 have hfv:=(eval_rep hs.inv.glob hs.fr f).mono hx2
 have hy:RepT E2 true [.mp true s.hp.length] [Value.func (.yield (w.heap.size+1)) #[] #[]]:=by
  simp_all[RepT,Rep]
 obtain⟨fn',hf1,hf2⟩:=evF_fn hev
 obtain⟨vs',hvs,hrun⟩:=resolve_ok (w:=w2) hfv hy hres ⟨fn',hf1,hf2,hok.name g fn' hf1 hf2⟩
 rw[Sem.run_bind]at hrun
 cases hdr:(Deferred.ofValue (a.eval f) #[Value.func (.yield (w.heap.size+1)) #[] #[]]).run C.P w2 with
 |halt x' w'=>
  have hdr':(Deferred.ofValue (a.eval f) [Value.func (.yield (w.heap.size+1)) #[] #[]].toArray).run C.P w2=.halt x' w':=hdr
  rw[hdr']at hrun
  simp[Result.andThen]at hrun
 |ok d w2'=>
  have hdr':(Deferred.ofValue (a.eval f) [Value.func (.yield (w.heap.size+1)) #[] #[]].toArray).run C.P w2=.ok d w2':=hdr
  rw[hdr']at hrun
  simp only[Result.andThen]at hrun
  refine⟨w.heap.size+1,[{ target:=.collected w.heap.size,args:=#[] }],w2,d,w2',g,vs'.toArray,w2,?_,?_,fun _ _=>trivial,hrun,fun h=>by simp[WF,Fence.wide]at h,?_⟩
  ·rw[←hW]
   exact run_enterLoop_outer fn a.tmps ps as bd
  ·simpa[resolve,rangeCall,Act.eval] using hdr
  refine(callsWF (hF g args _ _ _ hev E2 w2 vs' hI2 hvs) none _).mono fun e w3 hpost=>?_
  cases e with
  |panicked ch=>obtain⟨_,_,_,_,hr⟩:=hpost; exact hr.elim
  |outgrown=>obtain⟨_,_,_,_,hr⟩:=hpost; exact hr.elim
  |returned v=>
   obtain⟨E3,hx3,hI3,hF3,_⟩:=hpost
   have hrho3:=hx3.ρ _ hL 0 _ hrho
   have after:∀ (st:LSt) (j:Option Code),loopSt hp1 s.hp.length=some st→(∀ s' p',st.is s' p'→s'≠.busy∧p'=j) →
     ∃ w4,(Instr.endLoop (w.heap.size+1)).run C.P w3=.ok j w4∧∃ E4,Ext E E4∧Fr E w E4 w4 ∧
       SRel B E4 { s with hp:=endSt hp1 s.hp.length } { a with defers:=[{ target:=.collected w.heap.size,args:=#[] }]++a.defers } w4:=by
    intro st j hst hj
    obtain⟨fn3,ps3,as3,bd3,fr3,hobj⟩:=loopSt_some hst
    obtain⟨r3,u1,_,_,_,u5,_⟩:=loop_at hI3 hobj hrho3 rfl
    obtain⟨j1,j2⟩:=hj _ _ u5
    subst j2
    obtain⟨c1,c2⟩:=loop_end hI3 hobj hrho3 rfl u1 (s':=.exhausted) (p':=r3.pending)
    have hFa:Fr E w E3 (w3.putObj (w.heap.size+1) (.loop { r3 with state:=.exhausted })):=((hF1.trans hF2).trans hF3).trans c2
    refine⟨_,run_endLoop u1 j1,E3,hx2.trans hx3,hFa,⟨hs.fr.mono (hx2.trans hx3),c1,?_,Nat.le_trans hs.bs hFa.size⟩⟩
    obtain⟨rs,hrs1,hrs2,hrs3⟩:=hs.df.mono hFa
    have hne2:¬E2.own w.heap.size:=fun ho=>by
     rcases hown2 _ ho with h|h
     ·have:=hs.inv.ownb _ h; omega
     ·omega
    have hlt2:w.heap.size<w2.heap.size:=by rw[←hW]; simp; omega
    have hold:∀ r∈rs,r<w.heap.size:=by
     intro r hr
     obtain⟨rs0,e1,_,e3⟩:=hs.df
     rw[e1]at hrs1
     have hm:∀ (l l':List Nat),l.map (fun r=>({ target:=.collected r,args:=#[] }:Deferred))=l'.map (fun r=>{ target:=.collected r,args:=#[] })→l=l':=by
      intro l
      induction l with
      |nil=>simp_all
      |cons y ys ih=>
       intro l' h
       cases l' with
       |nil=>simp at h
       |cons z zs=>
        grind
     have:=hm _ _ hrs1
     subst this
     exact(Array.getElem?_eq_some_iff.1 (e3 r hr).2.2).1
    refine⟨w.heap.size::rs,by simp only[List.map_cons,←hrs1]; rfl,List.nodup_cons.2 ⟨fun hm=>?_,hrs2⟩,fun r hr=>?_⟩
    ·have:=hold _ hm; omega
    ·rcases List.mem_cons.1 hr with rfl|hr
     ·refine⟨hs.bs,fun ho=>?_,?_⟩
      ·rcases hF3.own _ ho with h|h
       ·exact hne2 h
       ·omega
      ·rw[World.putObj_heap_other (by omega),hF3.same _ hlt2 hne2,←hW]
       show ((w.heap.push _).push _)[w.heap.size]?=_
       simp only[Array.getElem?_push,Array.size_push,if_true]
       rw[if_neg (by omega)]
     ·exact hrs3 r hr
   unfold overA at h
   split at h
   ·rename_i hst
    simp only[Option.some.injEq]at h
    subst h
    obtain⟨w4,h1,E4,h2,h3,h4⟩:=after _ none hst (fun s' p' hp=>⟨by rw[hp.1]; simp,hp.2⟩)
    exact⟨none,w4,h1,E4,h2,h3,h4⟩
   ·rename_i hst
    simp only[Option.some.injEq]at h
    subst h
    obtain⟨w4,h1,E4,h2,h3,h4⟩:=after _ (some .ret) hst (fun s' p' hp=>⟨by rw[hp.1]; simp,hp.2⟩)
    exact⟨some .ret,w4,h1,wpIn_ret ⟨E4,h2,h3,h4⟩⟩
   ·rename_i id hst
    simp only[Option.some.injEq]at h
    subst h
    obtain⟨w4,h1,E4,h2,h3,h4⟩:=after _ (some (.exit id)) hst (fun s' p' hp=>⟨by rw[hp.1]; simp,hp.2⟩)
    exact⟨some (.exit id),w4,h1,wpIn_exit ⟨E4,h2,h3,rfl,h4⟩⟩
   ·simp at h
section
variable {ops:Array Oper}
theorem seq_any[Glob]{P:Program}{stepO:Oper→St→Option Out}(hstep:SoundO P stepO)(hkind:∀ o s r,stepO o s=some r→(∃ s',r=.norm s')∨∃ v s',r=.pnc v s')(hedge:edgesOk 0 ops.toList=true){md:Region.Mode}
  (htopo:topoOk md ops=true) {m:Nat} (htail:tailOk (predsA ops.toList) ops.size m=true) {Q:Exit→Act→World→Prop} {E0:Env} {w0:World} {B:Nat} {r:Option Nat} {out:Out}
  (hQ:∀ s',out=.norm s'→∀ E a w,Ext E0 E→Fr E0 w0 E w→SRel B E s' a w→Q .normal a w)
  (hP:∀ v s',out=.pnc v s'→∀ E a w u,Ext E0 E→Fr E0 w0 E w→Inv E s'.hp w→Rep E true v u→Marks B E w a.defers→Q (.panic [{ v:=u,recovered:=false }]) a w) :
  ∀ (t i:Nat) (listed:Array Bool) (E:Env) (s:St) (a:Act) (w:World),i+t=ops.size→m≤i→listed.size=ops.size→(∀ j,j<i→listed.getD j true=true)→(∀ j,i≤j→j<ops.size→listed.getD j true=false) →
    Ext E0 E→Fr E0 w0 E w→SRel B E s a w→runOps stepO ops (ops.toList.drop i) s=some out→wpAnyIn (WF r) 0 P md ops Q t listed a w:=by
 intro t
 induction t with
 |zero=>
  intro i listed E s a w hit hm hsize hbef haft hx hfr hs hrun
  rw[List.drop_of_length_le (by simp; omega)]at hrun
  simp only[runOps,Option.some.injEq]at hrun
  refine⟨?_,hQ s hrun.symm E a w hx hfr hs⟩
  unfold Region.ready
  rw[List.filter_eq_nil_iff]
  intro j hj hc
  simp only[List.mem_range]at hj
  rw[hbef j (by omega)]at hc
  simp at hc
 |succ t ih=>
  intro i listed E s a w hit hm hsize hbef haft hx hfr hs hrun
  have hilt:i<ops.size:=by omega
  refine⟨fun hempty=>absurd hempty (ready_ne htopo hsize hilt (haft i (Nat.le_refl _) hilt)),fun j hj=>?_⟩
  have hdown:∀ k o,ops[k]?=some o→listed.getD k true=true→∀ p,hasP (predsA ops.toList) k p=true→listed.getD p false=true:=by
   intro k o hk hl p hp
   have hkl:k<ops.size:=(Array.getElem?_eq_some_iff.1 hk).1
   have hki:k<i:=by
    grind
   have hpk:=hasP_lt hedge hk hp
   have:=hbef p (by omega)
   rw[←getD_lt (a:=listed) (by omega) true false]
   exact this
  obtain⟨hj1,hj2,hj3⟩:=ready_preds hedge hsize hdown hj
  have hji:j=i:=by
   rcases Nat.lt_trichotomy j i with h|h|h
   ·rw[hbef j h]at hj2; cases hj2
   ·exact h
   ·have:=hj3 i (tailOk_spec htail (by omega) hj1 h)
    have h2:=haft i (Nat.le_refl _) hilt
    rw[getD_lt (by omega) true false]at h2
    rw[this]at h2; cases h2
  subst hji
  obtain⟨o,ho⟩:∃ o,ops[j]?=some o:=⟨ops[j],by simp[hilt]⟩
  have hdrop:ops.toList.drop j=o::ops.toList.drop (j+1):=by
   have hl:j<ops.toList.length:=by simpa using hilt
   rw[List.drop_eq_getElem_cons hl]
   congr 1
   have:=(Array.getElem?_eq_some_iff.1 ho).2
   simpa using this
  rw[hdrop]at hrun
  have hset:∀ q d,q≠j→(listed.setIfInBounds j true).getD q d=listed.getD q d:=by
   intro q d hq
   simp[Array.getD_eq_getD_getElem?,Ne.symm hq]
  have hyset:∀ d,(listed.setIfInBounds j true).getD j d=true:=by
   simp_all
  have next:∀ (E':Env) (s':St) (a':Act) (w':World),Ext E0 E'→Fr E0 w0 E' w'→SRel B E' s' a' w'→runOps stepO ops (ops.toList.drop (j+1)) s'=some out →
    wpAnyIn (WF r) 0 P md ops Q t (listed.setIfInBounds j true) a' w':=by
   intro E' s' a' w' hx' hfr' hs' hr'
   refine ih (j+1) _ E' s' a' w' (by omega) (by omega) (by simpa using hsize) (fun q hq=>?_) (fun q hq hql=>?_) hx' hfr' hs' hr'
   ·by_cases e:q=j
    ·subst e; exact hyset _
    ·rw[hset _ _ e]; exact hbef q (by omega)
   ·rw[hset _ _ (by omega)]; exact haft q (by omega) hql
  unfold wpOpIn
  rw[ho]
  simp only
  simp only[runOps]at hrun
  split at hrun
  ·simp at hrun
  ·rename_i hw
   rw[wanted_ok hs.fr hw]
   simp only[Bool.false_eq_true,if_false]
   exact⟨fun _ _=>trivial,next E { s with fr:=putA s.fr o.dst .undef } _ w hx hfr ⟨put_rep hs.fr (by simp[Rep]),hs.inv,by rw[put_defers]; exact hs.df,hs.bs⟩ hrun⟩
  ·rename_i hw
   rw[wanted_ok hs.fr hw]
   simp only[if_true]
   cases hq:stepO o s with
   |none=>rw[hq]at hrun; simp at hrun
   |some q=>
    rw[hq]at hrun
    refine hstep o s q hq r B E a w _ Q hs (fun s' e E' a' w' hx' hf' hs'=>?_) (fun v s' e E' w' u hx' hf' hI' hr=>?_)
    ·subst e
     exact next E' s' a' w' (hx.trans hx') (hfr.trans hf') hs' hrun
    ·subst e
     simp only[Option.some.injEq]at hrun
     exact hP v s' hrun.symm E' a w' u (hx.trans hx') (hfr.trans hf') hI' hr (hs.df.mono hf')
end
theorem soundC_succ[Glob]{C:Ctx}(hok:C.Ok){k:Nat}(hF:SoundF C k)(hCs:∀ j,j≤k→SoundC C j)(hO:SoundO C.P (fun o s=>evO C k o s))(hE:StepOk C.P (fun nm o fr=>evE C k nm o fr)):SoundC C (k+1):=by
 have hC:=hCs k (Nat.le_refl k)
 intro c s o h rd hrd B E a w hs
 have self:OutPost B E w (.norm s) .normal a w:=⟨E,Ext.refl E,Fr.refl E w,hs⟩
 cases c with
 |skip=>simp only[evC,Option.some.injEq]at h; subst h; exact wpIn_skip self
 |label l=>simp only[evC,Option.some.injEq]at h; subst h; exact wpIn_label self
 |ret=>simp only[evC,Option.some.injEq]at h; subst h; exact wpIn_ret ⟨E,Ext.refl E,Fr.refl E w,hs⟩
 |exit id=>simp only[evC,Option.some.injEq]at h; subst h; exact wpIn_exit ⟨E,Ext.refl E,Fr.refl E w,rfl,hs⟩
 |seq x y=>
  simp only[evC]at h
  have r1:rd=none∨noRng x=true:=hrd.imp id fun h=>by simp only[noRng,Bool.and_eq_true]at h; exact h.1
  have r2:rd=none∨noRng y=true:=hrd.imp id fun h=>by simp only[noRng,Bool.and_eq_true]at h; exact h.2
  refine wpIn_seq ?_
  split at h
  ·rename_i s' hx
   refine wpIn_mono (hC x s _ hx rd r1 B E a w hs) fun e a' w' hp=>?_
   obtain⟨E',h1,h2,h3⟩:=hp
   cases e with
   |normal=>exact wpIn_mono (hC y s' o h rd r2 B E' a' w' h3) fun e a'' w'' hp=>OutPost.from h1 h2 hp
   |_=>exact h3.elim
  ·rename_i hne
   refine wpIn_mono (hC x s o h rd r1 B E a w hs) fun e a' w' hp=>?_
   obtain⟨E',h1,h2,h3⟩:=hp
   cases e with
   |normal=>
    cases o with
    |norm s'=>exact absurd h (hne s')
    |_=>exact h3.elim
   |_=>exact⟨E',h1,h2,h3⟩
 |cond op x y=>
  simp only[evC]at h
  have r1:rd=none∨noRng x=true:=hrd.imp id fun h=>by simp only[noRng,Bool.and_eq_true]at h; exact h.1
  have r2:rd=none∨noRng y=true:=hrd.imp id fun h=>by simp only[noRng,Bool.and_eq_true]at h; exact h.2
  split at h
  case h_2=>simp at h
  rename_i t ht
  have hv:=eval_rep hs.inv.glob hs.fr op
  rw[ht]at hv
  simp only[Rep]at hv
  cases t with
  |true=>exact wpIn_cond_true hv (hC x s o h rd r1 B E a w hs)
  |false=>exact wpIn_cond_false hv (hC y s o h rd r2 B E a w hs)
 |block id b=>
  simp only[evC]at h
  have r1:rd=none∨noRng b=true:=hrd.imp (fun h=>h) fun h=>by simpa only[noRng] using h
  refine wpIn_block ?_
  split at h
  ·rename_i id' s' hx
   refine wpIn_mono (hC b s _ hx rd r1 B E a w hs) fun e a' w' hp=>?_
   obtain⟨E',h1,h2,h3⟩:=hp
   cases e with
   |exit j=>
    obtain⟨rfl,h3⟩:=h3
    simp only[Exit.inBlock]
    split at h
    ·rename_i hid
     rw[if_pos hid]
     simp only[Option.some.injEq]at h; subst h
     exact⟨E',h1,h2,h3⟩
    ·rename_i hid
     rw[if_neg hid]
     simp only[Option.some.injEq]at h; subst h
     exact⟨E',h1,h2,rfl,h3⟩
   |_=>exact h3.elim
  ·rename_i hne
   refine wpIn_mono (hC b s o h rd r1 B E a w hs) fun e a' w' hp=>?_
   obtain⟨E',h1,h2,h3⟩:=hp
   cases e with
   |exit j=>
    cases o with
    |exit i s'=>exact absurd h (hne i s')
    |_=>exact h3.elim
   |_=>exact⟨E',h1,h2,h3⟩
 |loop b=>
  simp only[evC]at h
  have r1:rd=none∨noRng b=true:=hrd.imp (fun h=>h) fun h=>by simpa only[noRng] using h
  refine wp_loop_round no_goto no_out ?_
  split at h
  ·rename_i s' hx
   refine wpIn_mono (hC b s _ hx rd r1 B E a w hs) fun e a' w' hp=>?_
   obtain⟨E',h1,h2,h3⟩:=hp
   cases e with
   |normal=>
    have h3':SRel B E' s' a' w':=h3
    have:∃ E2,Ext E E2∧Fr E w E2 w'∧SRel B E2 (resetA s.hp.length s') a' w':=by
     unfold resetA
     split
     ·rename_i hall
      have hle:s.hp.length≤s'.hp.length:=by rw[hs.inv.len,h3'.inv.len]; exact h1.L
      obtain⟨a1,a2,a3⟩:=lower_ok h3'.inv hle hall
      exact⟨E'.lower s.hp.length,⟨h1.m,fun n hn ver l h=>h1.ρ n hn ver l h,by simp[Env.lower,hs.inv.len]⟩,h2.trans a2,forget_rep a3 h3'.fr,a1,h3'.df.mono a2,h3'.bs⟩
     ·exact⟨E',h1,h2,h3'⟩
    obtain⟨E2,b1,b2,b3⟩:=this
    exact wpIn_mono (hC (.loop b) _ o h rd hrd B E2 a' w' b3) fun e a'' w'' hp=>OutPost.from b1 b2 hp
   |_=>exact h3.elim
  ·rename_i hne
   refine wpIn_mono (hC b s o h rd r1 B E a w hs) fun e a' w' hp=>?_
   obtain⟨E',h1,h2,h3⟩:=hp
   cases e with
   |normal=>
    cases o with
    |norm s'=>exact absurd h (hne s')
    |_=>exact h3.elim
   |_=>exact⟨E',h1,h2,h3⟩
 |region id ops draw=>
  simp only[evC]at h
  cases draw with
  |false=>exact wpIn_region_list (runOps_ok hO (fun o s r h=>evO_kinds h) rd B ops.toList _ o h E E a w w (Ext.refl E) (Fr.refl E w) (holesA_ok _ hs))
  |true=>
   simp only at h
   have hmle:C.head s.fn id ops≤ops.size:=Nat.sub_le _ _
   generalize C.head s.fn id ops=m at h hmle
   have hs1:=holesA_ok (C.holes s.fn id) hs
   rw[←holesA_len (C.holes s.fn id) s]at h
   clear hs
   generalize holesA (C.holes s.fn id) s=s at h hs1
   have hs:=hs1
   split at h
   case isFalse=>simp at h
   rename_i hreg
   simp only[regionOk,Bool.and_eq_true]at hreg
   obtain⟨⟨⟨⟨hedge,hany⟩,htext⟩,hgc⟩,hapart⟩:=hreg
   split at h
   case h_2=>simp at h
   rename_i s' fs hrun
   split at h
   case isFalse=>simp at h
   rename_i hft
   rw[Bool.and_eq_true]at hft
   obtain⟨hfeet,htail⟩:=hft
   suffices key:∀ md:Region.Mode,topoOk md ops=true→∀ t,wpOpsIn (WF rd) 0 C.P ops (OutPost B E w o) (Region.linearise md ops t) a { w with drawn:=w.drawn+1 } by
    refine wpIn_region_draw fun t=>?_
    unfold Region.schedule
    split
    ·exact key .any hany t
    ·grind
   intro md htopo t
   refine wpAnyIn_sound _ _ _ _ _ ?_
   let s0:St:={ s with hp:=s.hp++List.replicate ((ops.toList.take m).filter fun o=>isAllocOp o.op).length none }
   obtain⟨r1,r2,r3⟩:=reserve_ok hs.inv ((ops.toList.take m).filter fun o=>isAllocOp o.op).length
   have hI1:Inv (E.reserve ((ops.toList.take m).filter fun o=>isAllocOp o.op).length) s0.hp { w with drawn:=w.drawn+1 }:=r2.heap rfl
   have hf1:Fr E w (E.reserve ((ops.toList.take m).filter fun o=>isAllocOp o.op).length) { w with drawn:=w.drawn+1 }:=r3.trans (Fr.drew _ w)
   have hidx:=runDraw_idx _ _ _ _ hrun
   have hitems:∀ (k:Nat) (x:Item),(nameOps 0 s.hp.length (ops.toList.take m))[k]?=some x→x.idx=k∧ops[k]?=some x.o∧k<m:=by
    intro k x hk
    obtain⟨a1,a2,_,_⟩:=nameOps_spec _ _ _ _ _ hk
    have hkm:k<m:=by
     grind
    rw[List.getElem?_take_of_lt hkm]at a2
    exact⟨by omega,by simpa using a2,hkm⟩
   have hfuel:ops.size=m+(ops.size-m):=by omega
   refine Eq.mpr (congrArg (fun fl=>wpAnyIn (WF rd) 0 C.P md ops (OutPost B E w o) fl _ _ _) hfuel) ?_
   refine draw_any (P:=C.P) evE_looks hE hedge htopo hmle htail (s':=s') (E0:=E) (w0:=w) (B:=B) (fun E' a' w' listed b1 b2 b3 b4 b5 b6=>
    seq_any hO (fun o s r h=>evO_kinds h) hedge htopo htail (fun s'' e E2 a2 w2 c1 c2 c3=>by subst e; exact⟨E2,c1,c2,c3⟩)
     (fun v s'' e E2 a2 w2 u c1 c2 c3 c4 c5=>by subst e; exact⟨E2,c1,c2,u,rfl,c4,c3,c5⟩) (ops.size-m) m listed E' s' a' w' (by omega) (Nat.le_refl _) b4 b5 b6 b1 b2 b3 h) m (nameOps 0 s.hp.length (ops.toList.take m))
    _ fs _ s0 a _ (by rw[nameOps_length]; simp; omega) ?_
    r1 hf1 ⟨hs.fr.mono r1,hI1,hs.df.mono hf1,hs.bs⟩ ?_ hrun ?_
   ·refine⟨by simp,fun x hx=>?_,?_,fun i hi _ him=>?_,fun i _ hi=>?_,fun i o ho hl=>?_,?_⟩
    ·obtain⟨k,hk⟩:=List.mem_iff_getElem?.1 hx
     obtain⟨a1,a2,a3⟩:=hitems k x hk
     have hlt:k<ops.size:=(Array.getElem?_eq_some_iff.1 a2).1
     rw[a1]
     refine⟨a2,?_,a3⟩
     simp[Array.getD,hlt]
    ·rw[List.pairwise_iff_getElem]
     intro i j hi hj hij
     have a1:=(hitems i _ (List.getElem?_eq_getElem hi)).1
     have a2:=(hitems j _ (List.getElem?_eq_getElem hj)).1
     omega
    ·have hi':i<(nameOps 0 s.hp.length (ops.toList.take m)).length:=by rw[nameOps_length]; simp; omega
     exact⟨_,List.getElem_mem hi',(hitems i _ (List.getElem?_eq_getElem hi')).1⟩
    ·simp[Array.getD,hi]
    ·have hlt:i<ops.size:=(Array.getElem?_eq_some_iff.1 ho).1
     simp[Array.getD,hlt]at hl
    ·rw[List.pairwise_iff_getElem]
     intro i j hi hj hij ha
     exact nameOps_nm _ _ _ i j _ _ hij (List.getElem?_eq_getElem hi) (List.getElem?_eq_getElem hj) ha
   ·intro x hx ha
    obtain⟨k,hk⟩:=List.mem_iff_getElem?.1 hx
    obtain⟨_,_,a3,a4⟩:=nameOps_spec _ _ _ _ _ hk
    have a5:=a4 ha
    simp only[s0]
    rw[List.getElem?_append_right a3,List.getElem?_replicate,if_pos (by omega)]
   ·intro j k x y f g hjk hx hy hf hg
    obtain⟨a1,a2,_⟩:=hitems j x hx
    obtain⟨b1,b2,_⟩:=hitems k y hy
    have hfo:=footsOk_spec fs hfeet j k f g hjk hf hg
    have hfi:f.idx=j:=by
     have:(fs.map (·.idx))[j]?=some f.idx:=by simp[hf]
     rw[hidx]at this
     simp[hx,a1]at this
     exact this.symm
    have hgi:g.idx=k:=by
     have:(fs.map (·.idx))[k]?=some g.idx:=by simp[hg]
     rw[hidx]at this
     simp[hy,b1]at this
     exact this.symm
    rcases apartOk_spec ops.toList 0 hapart j k x.o y.o hjk (by simpa using a2) (by simpa using b2) with hp|hp
    ·left; rw[a1,b1]; simpa using hp
    ·simp only[footOk,Bool.or_eq_true,Bool.and_eq_true]at hfo
     rcases hfo with hq|⟨h1,h2⟩
     ·left; rw[hfi,hgi]at hq; rw[a1,b1]; exact hq
     ·right
      refine⟨hp,fun n hn=>?_,fun n hn=>disj_spec h2 n hn⟩
      have:=disj_spec h1 n hn
      simpa using this
 |rangeFunc f ps as bd=>
  rcases hrd with rfl|hrd
  ·exact range_ok hok hF hs h
  ·simp[noRng]at hrd
 |scope b=>
  simp only[evC]at h
  split at h
  ·rename_i c hc
   exact scope_ok hCs hs hc h
  ·simp at h
 |goto _=>simp[evC]at h
 |refuse _=>simp[evC]at h
theorem sound'[Glob]{C:Ctx}(hok:C.Ok)(hpk:∀ g,C.kind g=.imp→Peeks C.P):∀ k,SoundF C k∧SoundC C k∧SoundO C.P (fun o s=>evO C k o s)∧SoundP C k∧StepOk C.P (fun nm o fr=>evE C k nm o fr):=by
 suffices key:∀ k,(SoundF C k∧SoundC C k∧SoundO C.P (fun o s=>evO C k o s)∧SoundP C k∧StepOk C.P (fun nm o fr=>evE C k nm o fr))∧∀ j,j≤k→SoundC C j from fun k=>(key k).1
 intro k
 induction k with
 |zero=>
  refine⟨?_,fun j hj=>by obtain rfl:j=0:=by omega
                         exact fun _ _ _ h=>by simp[evC]at h⟩
  refine⟨fun _ _ _ _ _ h=>by simp[evF]at h,fun _ _ _ h=>by simp[evC]at h,fun _ _ _ h=>by simp[evO]at h,fun _ _ _ _ _ h=>by simp[evP,RM.run_fail]at h,?_⟩
  intro rd x B E s a w e K Q _ _ h
  simp[evE,RM.run_fail]at h
 |succ k ih=>
  obtain⟨⟨hF,hC,hO,hP,hE⟩,hCs⟩:=ih
  have hC1:=soundC_succ hok hF hCs hO hE
  refine⟨⟨soundF_succ hC,hC1,soundO_succ hok hF hP hC,soundP_succ hok hF,soundE_succ hok hpk hF hP⟩,fun j hj=>?_⟩
  rcases Nat.lt_or_ge j (k+1) with h|h
  ·exact hCs j (by omega)
  ·grind
def plainCtx(P:Program):Ctx:={ P:=P,kind:=fun _=>.pure,intr:=fun _=>none,acc:=fun _ _=>false }
theorem peeks[Glob]{C:Ctx}(hok:C.Ok):Peeks C.P:=by
 have ok0:(plainCtx C.P).Ok:=⟨hok.name,fun g h as r e=>(by cases e),fun g h as r hpf e=>(by cases e),fun g h e=>(by cases e),fun g h as hp e h1=>(by cases h1),fun g h e=>(by cases e)⟩
 intro g args hp e h E w vs hI hvs
 obtain⟨e0,hb,ov,nw,hw,ho,k,hk⟩:=peek_ev (C:=plainCtx C.P) rfl (fun _ _=>rfl) (fun _ _=>rfl) (fun _ _=>rfl) h
 exact⟨e0,((sound' ok0 (fun g h=>by cases h) k).1 g args hp _ _ hk E w vs hI hvs).mono fun en w' hp=>look_post hI hw ho hb hp⟩
theorem sound[Glob]{C:Ctx}(hok:C.Ok):∀ k,SoundF C k∧SoundC C k∧SoundO C.P (fun o s=>evO C k o s)∧SoundP C k∧StepOk C.P (fun nm o fr=>evE C k nm o fr):=
 sound' hok fun _ _=>peeks hok
end Go.PI
end
section
/- PI, the laws: arguments that read as data, as abstract values. -/
namespace Go.PI
open Go.ChangeShapes Go.WideShapes
def Env.all(w:World):Env where
 ρ:=fun _ _=>none
 m:=fun b=>match w.heap[b]? with|some (.cells c _ _)=>some c|_=>none
 L:=0
 own:=fun _=>False
theorem all_inv[Glob](w:World)(hg:GlobOk (Env.all w)):Inv (Env.all w) [] w where
 len:=rfl
 objs:=by intro n o h; simp at h
 free:=by intro n ver h; simp at h
 inj:=by rintro n n' b ⟨o,l,h,_⟩; simp at h
 mem:=by
  grind[Env.all]
 ownb:=by intro b h; exact h.elim
 glob:=hg
def Shape(P:Program):Nat→TypeId→List AV→Prop
 |0,_,_=>False
 |k+1,t,l=>
  match P.underlying t with
  |some .bool=>∃ b,l=[.lit (.bool b)]
  |some (.int i)=>∃ n,l=[.lit (.int i n)]∧(Lit.int i n).wf=true
  |some .string=>∃ s:ByteArray,l=[.lit (.string s)]∧s.size≤maxLen
  |some (.slice e)=>∃ xs,l=[.sl xs]∧xs.length≤maxLen∧∀ x∈xs,∃ cl,(match P.underlying e with
    |some d=>if isAggD d then x=.agg cl else cl=[x]
    |none=>False)∧Shape P k e cl
  |some (.struct fs)=>l.length=P.cellsOf t∧∀ f∈fs.toList,Shape P k f.type ((l.drop f.offset).take (P.cellsOf f.type))
  |some (.array n e)=>l.length=P.cellsOf t∧∀ i,i<n→Shape P k e ((l.drop (i*P.cellsOf e)).take (P.cellsOf e))
  |_=>False
def seqOk(P:Program):Nat→List Field→Option Nat
 |o,[]=>some o
 |o,f::r=>if f.offset=o then seqOk P (o+P.cellsOf f.type) r else none
def okTy(P:Program):Nat→TypeId→Bool
 |0,_=>false
 |k+1,t=>
  match P.underlying t with
  |some .bool|some (.int _)|some .string=>decide (P.cellsOf t=1)
  |some (.slice e)=>decide (P.cellsOf t=1)&&decide (0<P.cellsOf e)&&okTy P k e
  |some (.struct fs)=>decide (seqOk P 0 fs.toList=some (P.cellsOf t))&&fs.toList.all fun f=>okTy P k f.type
  |some (.array n e)=>decide (n*P.cellsOf e=P.cellsOf t)&&okTy P k e
  |_=>false
theorem mapM_some{α β:Type}{f:α→Option β}:∀ {l:List α} {r:List β},l.mapM f=some r→r.length=l.length∧∀ (i:Nat) (x:α),l[i]?=some x→∃ y,r[i]?=some y∧f x=some y
 |[],r,h=>by
  simp_all
 |a::l,r,h=>by
  simp only[List.mapM_cons,Option.pure_def,Option.bind_eq_bind]at h
  cases hq:f a with
  |none=>rw[hq]at h; simp at h
  |some b=>
   rw[hq]at h
   simp only[Option.bind_some]at h
   cases hq2:l.mapM f with
   |none=>rw[hq2]at h; simp at h
   |some bs=>
    rw[hq2]at h
    simp only[Option.bind_some,Option.some.injEq]at h
    subst h
    obtain⟨h1,h2⟩:=mapM_some hq2
    refine⟨by simp[h1],fun i x hx=>?_⟩
    cases i with
    |zero=>simp_all
    |succ i=>simp_all
theorem RepL.append{E:Env}{o:Bool}{l l':List AV}{c c':List Value}(h:RepL E o l c)(h':RepL E o l' c'):RepL E o (l++l') (c++c'):=
 RepL.of (h.toT.append h'.toT) fun v hv=>by
  rcases List.mem_append.1 hv with h1|h1
  ·exact h.leaf v h1
  ·exact h'.leaf v h1
theorem cells_get[Glob]{w:World}{base:Nat}{a:Addr}{n:Nat}{l:List Value}(h:w.cells? base a n=some l):l.length=n∧∀ q v,l[q]?=some v→w.cell? (a.add q)=some v:=by
 unfold World.cells? at h
 split at h
 case isFalse=>simp at h
 obtain⟨h1,h2⟩:=mapM_some h
 simp only[List.length_range]at h1
 refine⟨h1,fun q v hq=>?_⟩
 have hlt:=getElem?_lt hq
 obtain⟨y,hy,hf⟩:=h2 q q (by rw[List.getElem?_range (by omega)])
 rw[hq]at hy
 cases hy
 exact hf
theorem seq_total{P:Program}:∀ (fs:List Field) (o n:Nat),seqOk P o fs=some n→o≤n
 |[],o,n,h=>by simp only[seqOk,Option.some.injEq]at h; omega
 |f::r,o,n,h=>by
  simp only[seqOk]at h
  split at h
  case isFalse=>simp at h
  have:=seq_total r _ n h; omega
theorem seq_read[Glob]{E:Env}{P:Program}{S:Field→List AV→Prop}:∀ (fs:List Field) (o n:Nat) (cs:List Value),seqOk P o fs=some n→cs.length=n →
  (∀ f∈fs,∃ l,RepL E false l ((cs.drop f.offset).take (P.cellsOf f.type))∧S f l) →
  ∃ l,RepL E false l (cs.drop o)∧∀ f∈fs,o≤f.offset∧S f ((l.drop (f.offset-o)).take (P.cellsOf f.type))
 |[],o,n,cs,h,hl,_=>by
  simp only[seqOk,Option.some.injEq]at h
  refine⟨[],?_,by simp⟩
  rw[List.drop_eq_nil_of_le (by omega)]
  simp[RepL]
 |f::r,o,n,cs,h,hl,hf=>by
  simp only[seqOk]at h
  split at h
  case isFalse=>simp at h
  rename_i ho
  have htot:=seq_total r _ n h
  obtain⟨l1,h1,h2⟩:=hf f (by simp)
  obtain⟨l2,h3,h4⟩:=seq_read r (o+P.cellsOf f.type) n cs h hl (fun g hg=>hf g (by simp[hg]))
  have hlen1:l1.length=P.cellsOf f.type:=by rw[h1.length]; simp; omega
  refine⟨l1++l2,?_,fun g hg=>?_⟩
  ·have:cs.drop o=(cs.drop f.offset).take (P.cellsOf f.type)++cs.drop (o+P.cellsOf f.type):=by
    rw[ho,←List.drop_drop,List.take_append_drop]
   rw[this]
   exact h1.append h3
  ·cases hg with
   |head=>
    simp_all
   |tail _ hg=>
    obtain⟨h5,h6⟩:=h4 g hg
    refine⟨by omega,?_⟩
    have:(l1++l2).drop (g.offset-o)=l2.drop (g.offset-(o+P.cellsOf f.type)):=by
     rw[List.drop_append,List.drop_eq_nil_of_le (by omega),List.nil_append,hlen1]
     congr 1; omega
    rw[this]
    exact h6
theorem arr_read[Glob]{E:Env}{size:Nat}{S:List AV→Prop}:∀ (n:Nat) (cs:List Value),cs.length=n*size →
  (∀ i,i<n→∃ l,RepL E false l ((cs.drop (i*size)).take size)∧S l)→∃ l,RepL E false l cs∧∀ i,i<n→S ((l.drop (i*size)).take size)
 |0,cs,h,_=>by
  have:cs=[]:=List.eq_nil_of_length_eq_zero (by simpa using h)
  subst this
  exact⟨[],by simp[RepL],by simp⟩
 |n+1,cs,h,hf=>by
  rw[Nat.succ_mul]at h
  obtain⟨l1,h1,h2⟩:=hf 0 (by omega)
  simp only[Nat.zero_mul,List.drop_zero]at h1
  obtain⟨l2,h3,h4⟩:=arr_read (size:=size) (S:=S) n (cs.drop size) (by rw[List.length_drop,h]; omega) (fun i hi=>by
   obtain⟨l,ha,hb⟩:=hf (i+1) (by omega)
   refine⟨l,?_,hb⟩
   rw[List.drop_drop]
   have:size+i*size=(i+1)*size:=by rw[Nat.succ_mul]; omega
   rw[this]; exact ha)
  have hlen1:l1.length=size:=by rw[h1.length]; simp; omega
  refine⟨l1++l2,?_,fun i hi=>?_⟩
  ·have:cs=cs.take size++cs.drop size:=(List.take_append_drop size cs).symm
   rw[this]
   exact h1.append h3
  ·cases i with
   |zero=>simp_all
   |succ i=>
    have e1:(i+1)*size=size+i*size:=by rw[Nat.succ_mul]; omega
    rw[e1,List.drop_append,List.drop_eq_nil_of_le (by omega),List.nil_append,hlen1]
    have e2:size+i*size-size=i*size:=by omega
    rw[e2]
    exact h4 i (by omega)
theorem isAgg_cells{P:Program}{k:Nat}{t:TypeId}{d:TypeDesc}(hu:P.underlying t=some d)(hok:okTy P k t=true)(ha:isAggD d=false):P.cellsOf t=1:=by
 cases k with
 |zero=>simp[okTy]at hok
 |succ k=>
  simp only[okTy,hu]at hok
  cases d with
  |bool=>simpa using hok
  |int _=>simpa using hok
  |string=>simpa using hok
  |slice e=>simp only[Bool.and_eq_true,decide_eq_true_eq]at hok; exact hok.1.1
  |struct _=>simp[isAggD]at ha
  |array _ _=>simp[isAggD]at ha
  |_=>simp at hok
theorem read_ok[Glob]{H:Type}{enc:TypeId×Value→H}{P:Program}{w:World}{base:Nat}{spare:Nat→Bool}{held:Bool}:∀ (fuel k:Nat) (t:TypeId) (cs:List Value) (r:DataW H×List MemPlace),
  okTy P k t=true→DataW.trod enc P w base spare held fuel t cs=some r→∃ l,RepL (Env.all w) false l cs∧Shape P k t l:=by
 intro fuel
 induction fuel with
 |zero=>intro k t cs r _ h; simp[DataW.trod]at h
 |succ fuel ih=>
  intro k t cs r hok h
  cases k with
  |zero=>simp[okTy]at hok
  |succ k=>
   have hok0:=hok
   simp only[okTy]at hok
   cases hu:P.underlying t with
   |none=>rw[hu]at hok; simp at hok
   |some d=>
    rw[hu]at hok
    cases d with
    |bool=>
     obtain⟨b,rfl,_⟩:=DataW.trod_bool hu h
     exact⟨[.lit (.bool b)],by simp[RepL,Rep,Value.oneCell'],by simp only[Shape,hu]; exact⟨b,rfl⟩⟩
    |int i=>
     obtain⟨n,rfl,_,hw⟩:=DataW.trod_int hu h
     exact⟨[.lit (.int i n)],by simp[RepL,Rep,Value.oneCell'],by simp only[Shape,hu]; exact⟨n,rfl,hw⟩⟩
    |string=>
     obtain⟨s,rfl,_,hw⟩:=DataW.trod_string hu h
     exact⟨[.lit (.string s)],by simp[RepL,Rep,Value.oneCell'],by simp only[Shape,hu]; exact⟨s,rfl,hw⟩⟩
    |slice e=>
     simp only[Bool.and_eq_true,decide_eq_true_eq]at hok
     obtain⟨⟨_,hpos⟩,hoke⟩:=hok
     obtain⟨de,hue⟩:∃ de,P.underlying e=some de:=by
      cases k with
      |zero=>simp[okTy]at hoke
      |succ k=>
       simp only[okTy]at hoke
       cases hq:P.underlying e with
       |none=>rw[hq]at hoke; simp at hoke
       |some de=>exact⟨de,rfl⟩
     rcases DataW.trod_slice hu h with ⟨rfl,_⟩|⟨a,len,cap,elems,rest,n,hn,rfl,_,hb,hlc,hcm,hel,helem,_,_⟩
     ·refine⟨[.sl []],?_,?_⟩
      ·simp only[RepL,Rep]
       exact⟨⟨none,0,rfl,by simp,fun _=>rfl,.inl trivial⟩,rfl,trivial⟩
      ·simp only[Shape,hu]; exact⟨[],rfl,by simp,by simp⟩
     ·have hn':n=fuel:=by omega
      subst hn'
      have one:∀ i,i<len→∃ x:AV,∃ v cl,Rep (Env.all w) false x v∧v.cells.size=P.cellsOf e∧(∀ q u,v.cells.toList[q]?=some u→w.cell? ((a.add (i*P.cellsOf e)).add q)=some u) ∧
        (∀ u∈v.cells.toList,leafV u=true)∧(if isAggD de then x=.agg cl else cl=[x])∧Shape P k e cl:=by
       intro i hi
       have h1:=helem i hi
       have h2:elems[i]?=some elems[i]:=by simp[hel,hi]
       rw[h2]at h1
       cases hc:w.cells? base (a.add (i*P.cellsOf e)) (P.cellsOf e) with
       |none=>rw[hc]at h1; simp at h1
       |some ce=>
        rw[hc]at h1
        simp only[Option.bind_some]at h1
        obtain⟨cl,h3,h4⟩:=ih k e ce _ hoke h1
        obtain⟨h5,h6⟩:=cells_get hc
        cases hag:isAggD de with
        |true=>
         refine⟨.agg cl,.agg ce.toArray,cl,h3.toArray,by simp[Value.cells,h5],fun q u hq=>h6 q u (by simpa[Value.cells] using hq),?_,by simp,h4⟩
         intro u hu'
         exact h3.leaf u (by simpa[Value.cells] using hu')
        |false=>
         have h7:=isAgg_cells hue hoke hag
         rw[h7]at h5
         match ce,h5,h3 with
         |[v],_,h3=>
          match cl,h3 with
          |[x],h3=>
           simp only[RepL]at h3
           have hvc:=cells_leaf h3.2.1
           refine⟨x,v,[x],h3.1,by rw[hvc,h7]; rfl,fun q u hq=>h6 q u (by rw[hvc]at hq; simpa using hq),?_,by simp,h4⟩
           intro u hu'
           rw[hvc]at hu'
           simp at hu'
           subst hu'
           exact h3.2.1
          |[],h3=>simp[RepL]at h3
          |_::_::_,h3=>simp[RepL]at h3
         |[],h5,_=>simp at h5
         |_::_::_,h5,_=>simp at h5
      let xs:List AV:=(List.range len).map fun i=>if hi:i<len then Classical.choose (one i hi) else .any
      have hxs:∀ i x,xs[i]?=some x→∃ v cl,Rep (Env.all w) false x v∧v.cells.size=P.cellsOf e ∧
        (∀ q u,v.cells.toList[q]?=some u→w.cell? ((a.add (i*P.cellsOf e)).add q)=some u) ∧
        (∀ u∈v.cells.toList,leafV u=true)∧(if isAggD de then x=.agg cl else cl=[x])∧Shape P k e cl:=by
       intro i x hx
       have hi:=getElem?_lt hx
       simp only[xs,List.length_map,List.length_range]at hi
       simp only[xs,List.getElem?_map,List.getElem?_range hi,Option.map_some,dif_pos hi,Option.some.injEq]at hx
       subst hx
       exact Classical.choose_spec (one i hi)
      have hxl:xs.length=len:=by simp[xs]
      refine⟨[.sl xs],?_,?_⟩
      ·simp only[RepL,Rep]
       refine⟨⟨some a,cap,by rw[hxl],by omega,by simp,?_⟩,rfl,trivial⟩
       by_cases h0:len=0
       ·left; exact List.eq_nil_of_length_eq_zero (by omega)
       ·right
        obtain⟨v,_,_,hvs,hvc,_,_,_⟩:=hxs 0 xs[0] (by simp)
        have hc0:=hvc 0 v.cells[0] (by simp)
        simp only[Nat.zero_mul]at hc0
        have hadd0:(a.add 0).add 0=a:=rfl
        rw[hadd0]at hc0
        obtain⟨b,o,sp⟩:=a
        simp only[World.cell?]at hc0
        split at hc0
        case h_2=>simp at hc0
        rename_i c T fz hblk
        split at hc0
        ·simp at hc0
        rename_i hsp
        have hsp':sp=none:=by cases sp<;>simp_all
        subst hsp'
        refine⟨b,o,P.cellsOf e,c,rfl,by simp[Env.all,hblk],RepS.of_get fun i x hx=>?_⟩
        obtain⟨v,_,hr,hvs,hvc,hvl,_,_⟩:=hxs i x hx
        refine⟨v,hr,hvs,fun q hq=>?_,hvl⟩
        have h1:=hvc q v.cells[q] (by simp)
        rw[add_addr,add_addr]at h1
        simp only[World.cell?,hblk]at h1
        simp only[Option.isSome_none,Bool.false_eq_true,if_false]at h1
        rw[h1]; simp
      ·simp only[Shape,hu]
       refine⟨xs,rfl,by omega,fun x hx=>?_⟩
       obtain⟨i,hi⟩:=List.mem_iff_getElem?.1 hx
       obtain⟨v,cl,_,_,_,_,h1,h2⟩:=hxs i x hi
       exact⟨cl,by rw[hue]; exact h1,h2⟩
    |struct fs=>
     simp only[Bool.and_eq_true,decide_eq_true_eq]at hok
     obtain⟨xs,n,hn,_,hl,hxl,hf⟩:=DataW.trod_struct hu h
     have hn':n=fuel:=by omega
     subst hn'
     obtain⟨l,h1,h2⟩:=seq_read (E:=Env.all w) (S:=fun f l=>Shape P k f.type l) fs.toList 0 (P.cellsOf t) cs hok.1 hl (fun f hf'=>by
      obtain⟨i,hi⟩:=List.mem_iff_getElem?.1 hf'
      have hi':fs[i]?=some f:=by simpa using hi
      have h3:=hf i f hi'
      have hlt:i<xs.length:=by rw[hxl]; exact(Array.getElem?_eq_some_iff.1 hi').1
      rw[List.getElem?_eq_getElem hlt]at h3
      exact ih k f.type _ _ (List.all_eq_true.1 hok.2 f hf') h3)
     simp only[List.drop_zero]at h1
     refine⟨l,h1,?_⟩
     simp only[Shape,hu]
     exact⟨by rw[h1.length,hl],fun f hf'=>by simpa using (h2 f hf').2⟩
    |array n e=>
     simp only[Bool.and_eq_true,decide_eq_true_eq]at hok
     obtain⟨xs,m,hm,_,hl,hxl,hf⟩:=DataW.trod_array hu h
     have hm':m=fuel:=by omega
     subst hm'
     obtain⟨l,h1,h2⟩:=arr_read (E:=Env.all w) (S:=fun l=>Shape P k e l) n cs (by rw[hl,hok.1]) (fun i hi=>by
      have h3:=hf i hi
      rw[List.getElem?_eq_getElem (by omega)]at h3
      exact ih k e _ _ hok.2 h3)
     refine⟨l,h1,?_⟩
     simp only[Shape,hu]
     exact⟨by rw[h1.length,hl],h2⟩
    |_=>simp at hok
end Go.PI
end
section
/- PI, the answers of code without fuel, by equations. -/
namespace Go.PI
theorem lim_const[Glob]{α:Type}(y:Option α):lim (fun _=>y)=y:=
 lim_ext (g:=fun _=>y) (fun _ _ h=>h) (fun _ _ h=>h) fun _ h=>⟨0,h⟩
theorem lim_bind[Glob]{α β:Type}{g:Nat→Option β}{a:Nat→Option α}{b:α→Nat→Option β}(hg:Grows g)(ha:Grows a)(hb:∀ x,Grows (b x))
  (h0:g 0=none) (h:∀ k,g (k+1)=(a k).bind fun x=>b x k):lim g=(lim a).bind fun x=>lim (b x):=by
 apply lim_ext hg
 ·intro k x hx
  cases k with
  |zero=>rw[h0]at hx; simp at hx
  |succ k=>
   rw[h]at hx
   cases hq:a k with
   |none=>rw[hq]at hx; simp at hx
   |some y=>
    rw[hq]at hx
    rw[(lim_some ha).2 ⟨k,hq⟩]
    exact(lim_some (hb y)).2 ⟨k,hx⟩
 ·intro x hx
  cases hq:lim a with
  |none=>rw[hq]at hx; simp at hx
  |some y=>
   rw[hq]at hx
   obtain⟨k1,h1⟩:=(lim_some ha).1 hq
   obtain⟨k2,h2⟩:=(lim_some (hb y)).1 hx
   refine⟨k1+k2+1,?_⟩
   rw[h,ha.le h1 k2]
   simp only[Option.bind_some]
   rw[Nat.add_comm]
   exact(hb y).le h2 k1
theorem grows_const{α:Type}(y:Option α):Grows fun _=>y:=fun _ _ h=>h
theorem lim_bind'[Glob]{α β:Type}{g:Nat→Option β}{a:Nat→Option α}{b:α→Option β}(hg:Grows g)(ha:Grows a)
  (h0:g 0=none) (h:∀ k,g (k+1)=(a k).bind b):lim g=(lim a).bind b:=by
 rw[lim_bind hg ha (b:=fun x _=>b x) (fun x=>grows_const _) h0 h]
 congr 1; funext x; exact lim_const _
theorem lim_step[Glob]{α:Type}{g:Nat→Option α}{y:Option α}(hg:Grows g)(h0:g 0=none)(h:∀ k,g (k+1)=y):lim g=y:=by
 apply lim_ext hg
 ·intro k x hx
  cases k with
  |zero=>rw[h0]at hx; simp at hx
  |succ k=>rw[h]at hx; exact hx
 ·intro x hx; exact⟨1,by rw[h]; exact hx⟩
theorem lim_shift[Glob]{α:Type}{g a:Nat→Option α}(hg:Grows g)(ha:Grows a)(h0:g 0=none)(h:∀ k,g (k+1)=a k):lim g=lim a:=by
 have:=lim_bind' (b:=some) hg ha h0 (fun k=>by rw[h]; simp)
 rw[this]; simp
variable {C:Ctx}
theorem runC_skip[Glob](s:St):runC C .skip s=some (.norm s):=lim_step (growC C _ _) rfl fun _=>rfl
theorem runC_label[Glob](l:Nat)(s:St):runC C (.label l) s=some (.norm s):=lim_step (growC C _ _) rfl fun _=>rfl
theorem runC_ret[Glob](s:St):runC C .ret s=some (.ret s):=lim_step (growC C _ _) rfl fun _=>rfl
theorem runC_exit[Glob](id:Nat)(s:St):runC C (.exit id) s=some (.exit id s):=lim_step (growC C _ _) rfl fun _=>rfl
theorem runC_scope[Glob]{b c:Code}(hc:scopeC b=some c){s:St}{o:Out}(h:runC C c s=some o):runC C (.scope b) s=some o:=by
 obtain⟨k,hk⟩:=(lim_some (growC C c s)).1 h
 exact(lim_some (growC C _ s)).2 ⟨k+1,by simp only[evC,hc]; exact hk⟩
noncomputable def andThen[Glob](C:Ctx)(b:Code):Out→Option Out
 |.norm s=>runC C b s
 |r=>some r
theorem runC_seq[Glob](a b:Code)(s:St):runC C (.seq a b) s=(runC C a s).bind (andThen C b):=by
 have h:=lim_bind (growC C (.seq a b) s) (growC C a s) (b:=fun x k=>match x with|.norm s'=>evC C k b s'|r=>some r)
  (fun x=>by cases x with
    |norm s'=>exact growC C b s'
    |_=>exact grows_const _) (by simp[evC]) (fun k=>by
     simp only[evC]
     cases hq:evC C k a s with
     |none=>rfl
     |some r=>cases r<;>rfl)
 unfold runC at h ⊢
 rw[h]
 congr 1
 funext x
 cases x with
 |norm s'=>rfl
 |_=>exact lim_const _
noncomputable def ifA[Glob](C:Ctx)(a b:Code)(s:St):AV→Option Out
 |.lit (.bool t)=>cond t (runC C a s) (runC C b s)
 |_=>none
theorem runC_cond[Glob](o:Operand)(a b:Code)(s:St):runC C (.cond o a b) s=ifA C a b s (evalA s.fr o):=by
 unfold ifA
 split
 ·rename_i t ht
  cases t with
  |true=>exact lim_shift (growC C _ _) (growC C _ _) (by simp[evC]) fun k=>by simp only[evC]; rw[ht]
  |false=>exact lim_shift (growC C _ _) (growC C _ _) (by simp[evC]) fun k=>by simp only[evC]; rw[ht]
 ·rename_i hn
  refine lim_step (growC C _ _) (by simp[evC]) fun k=>?_
  simp only[evC]
def blockA(id:Nat):Out→Option Out
 |.exit i s=>if i=id then some (.norm s) else some (.exit i s)
 |r=>some r
theorem runC_block[Glob](id:Nat)(b:Code)(s:St):runC C (.block id b) s=(runC C b s).bind (blockA id):=by
 refine lim_bind' (growC C _ _) (growC C _ _) (by simp[evC]) fun k=>?_
 simp only[evC]
 cases hq:evC C k b s with
 |none=>rfl
 |some r=>cases r<;>rfl
noncomputable def againA[Glob](C:Ctx)(b:Code)(n:Nat):Out→Option Out
 |.norm s=>runC C (.loop b) (resetA n s)
 |r=>some r
theorem runC_loop[Glob](b:Code)(s:St):runC C (.loop b) s=(runC C b s).bind (againA C b s.hp.length):=by
 have h:=lim_bind (growC C (.loop b) s) (growC C b s) (b:=fun x k=>match x with|.norm s'=>evC C k (.loop b) (resetA s.hp.length s')|r=>some r)
  (fun x=>by cases x with
    |norm s'=>exact growC C (.loop b) (resetA s.hp.length s')
    |_=>exact grows_const _) (by simp[evC]) (fun k=>by
     rw[evC]
     cases hq:evC C k b s with
     |none=>rfl
     |some r=>cases r<;>rfl)
 unfold runC at h ⊢
 rw[h]
 congr 1
 funext x
 cases x with
 |norm s'=>rfl
 |_=>exact lim_const _
theorem grows_runOps[Glob](ops:Array Oper)(l:List Oper)(s:St):Grows fun k=>runOps (fun o s=>evO C k o s) ops l s:=
 fun k x h=>runOps_mono (fun o s r h=>(mono C k).o o s r h) ops l s x h
theorem lim_runOps[Glob](ops:Array Oper):∀ (l:List Oper) (s:St),lim (fun k=>runOps (fun o s=>evO C k o s) ops l s)=runOps (runO C) ops l s
 |[],s=>lim_const _
 |o::l,s=>by
  simp only[runOps]
  cases hw:wantedA ops s.fr o with
  |none=>exact lim_const _
  |some b=>
   cases b with
   |false=>exact lim_runOps ops l _
   |true=>
    simp only
    apply lim_ext
    ·intro k x hx
     have hm:=growO C o s
     simp only at hx ⊢
     cases hq:evO C k o s with
     |none=>rw[hq]at hx; simp at hx
     |some r=>
      rw[hq]at hx
      have hm1:=hm k r hq
      simp only at hx hm1 ⊢
      rw[hm1]
      cases r with
      |norm s'=>exact grows_runOps ops l s' k x hx
      |_=>exact hx
    ·intro k x hx
     cases hq:evO C k o s with
     |none=>rw[hq]at hx; simp at hx
     |some r=>
      rw[hq]at hx
      have h1:runO C o s=some r:=(lim_some (growO C o s)).2 ⟨k,hq⟩
      rw[h1]
      cases r with
      |norm s'=>
       simp only at hx ⊢
       rw[←lim_runOps ops l s']
       exact(lim_some (grows_runOps ops l s')).2 ⟨k,hx⟩
      |_=>exact hx
    ·intro x hx
     cases hq:runO C o s with
     |none=>rw[hq]at hx; simp at hx
     |some r=>
      rw[hq]at hx
      obtain⟨k1,h1⟩:=(lim_some (growO C o s)).1 hq
      cases r with
      |norm s'=>
       simp only at hx
       rw[←lim_runOps ops l s']at hx
       obtain⟨k2,h2⟩:=(lim_some (grows_runOps ops l s')).1 hx
       refine⟨k1+k2,?_⟩
       rw[(growO C o s).le h1 k2]
       simp only
       rw[Nat.add_comm]
       exact(grows_runOps ops l s').le h2 k1
      |_=>exact⟨k1,by rw[h1]; exact hx⟩
theorem runC_region[Glob](id:Nat)(ops:Array Oper)(s:St):runC C (.region id ops false) s=runOps (runO C) ops ops.toList (holesA (C.holes s.fn id) s):=by
 rw[←lim_runOps]
 exact lim_shift (growC C _ _) (grows_runOps ops _ _) (by simp[evC]) fun k=>by simp only[evC]
noncomputable def endF(C:Ctx)(rs:Array ResultVar):Out→Option (Res×AHeap)
 |.norm s=>((resultsL C.P s.fr rs.toList).run s.hp).map fun l=>(.val (tupOf l),s.hp)
 |.ret s=>((resultsL C.P s.fr rs.toList).run s.hp).map fun l=>(.val (tupOf l),s.hp)
 |.pnc v s=>some (.pnc v,s.hp)
 |_=>none
theorem runF_eq[Glob]{f:FuncId}{fn:Func}{c:Code}(hf:C.P.funcs[f]?=some fn)(hb:fn.body=some c)(args:List AV)(hp:AHeap):
  runF C f args hp=(runC C c ⟨f,args++List.replicate (fn.ntmps-args.length) .undef,hp⟩).bind (endF C fn.results):=by
 refine lim_bind' (growF C _ _ _) (growC C _ _) (by simp[evF]) fun k=>?_
 simp only[evF,hf,hb]
 cases hq:evC C k c ⟨f,args++List.replicate (fn.ntmps-args.length) .undef,hp⟩ with
 |none=>rfl
 |some r=>
  cases r with
  |norm s=>simp only[Option.bind_some,endF]; split<;>simp_all
  |ret s=>simp only[Option.bind_some,endF]; split<;>simp_all
  |_=>rfl
def pdone(hp:AHeap)(args:List AV)(q:Res×AHeap):Option (Res×List (Nat×AObj)):=(pureOut args q.2 q.1).run hp
theorem runP_eq[Glob](g:FuncId)(hi:C.intr g=none)(args:List AV)(hp:AHeap):
  runP C g args hp=((sealL 1000 args).run hp).bind fun as=>(runF C g as []).bind (pdone hp args):=by
 have h1:∀ k,(evP C (k+1) g args).run hp=((sealL 1000 args).run hp).bind fun as=>(evF C k g as []).bind (pdone hp args):=by
  intro k
  rw[evP,RM.run_bind]
  congr 1
  funext as
  rw[hi]
  simp only
  cases hq:evF C k g as [] with
  |none=>rfl
  |some q=>rfl
 cases hs:(sealL 1000 args).run hp with
 |none=>exact lim_step (growP C _ _ _) (by simp[evP,RM.run_fail]) fun k=>by rw[h1,hs]; rfl
 |some as=>
  refine lim_bind' (growP C _ _ _) (growF C g as []) (by simp[evP,RM.run_fail]) fun k=>?_
  rw[h1,hs]; rfl
theorem runP_intr[Glob](g:FuncId){h:List AV→Option AV}(hi:C.intr g=some h)(args:List AV)(hp:AHeap):
  runP C g args hp=((sealL 1000 args).run hp).bind fun as=>(h as).bind fun r=>pdone hp args (.val r,[]):=by
 refine lim_step (growP C _ _ _) (by simp[evP,RM.run_fail]) fun k=>?_
 rw[evP,RM.run_bind]
 congr 1
 funext as
 rw[hi]
 simp only
 cases hq:h as with
 |none=>rfl
 |some q=>rfl
def doneP(o:Oper)(s:St):Res×List (Nat×AObj)→Option Out
 |(.val r,wr)=>some (.norm { s with fr:=putA s.fr o.dst r,hp:=applyWr s.hp wr })
 |(.pnc v,wr)=>some (.pnc v { s with hp:=applyWr s.hp wr })
def doneI(o:Oper)(s:St):Res×AHeap→Option Out
 |(.val r,hp)=>some (.norm { s with fr:=putA s.fr o.dst r,hp:=truncA s.hp.length r hp })
 |(.pnc v,hp)=>some (.pnc v { s with hp:=truncA s.hp.length v hp })
def doneE(o:Oper)(s:St)(e:Eff):Option Out:=some (.norm { s with fr:=putA s.fr o.dst e.val,hp:=applyWr s.hp e.wr })
def ownFin(nm:Nat)(lg:List Nat)(hp:AHeap):Res×AHeap→Option (Eff×List Nat)
 |(.val r,hpf)=>((ownOut nm r hpf).run hp).map fun e=>(e,lg)
 |_=>none
noncomputable def ownA[Glob](C:Ctx)(nm:Nat)(g:FuncId)(args:List AV)(hp:AHeap):Option (Eff×List Nat):=
 ((sealL 1000 args).run hp).bind fun as=>match C.intrO g with
   |some h=>(h as).bind fun q=>((ownOut nm q.1 q.2).run hp).map fun e=>(e,(sealL 1000 args).log hp)
   |none=>(runF C g as []).bind (ownFin nm ((sealL 1000 args).log hp) hp)
theorem ownOut_log{nm:Nat}{r:AV}{hpf hp:AHeap}:(ownOut nm r hpf).log hp=[]:=by
 unfold ownOut
 split
 ·split
  ·split<;>rfl
  ·rfl
 ·rfl
theorem ownRun_eq[Glob]{F:List AV→Option (Res×AHeap)}{nm:Nat}{g:FuncId}{args:List AV}{hp:AHeap}:
  ((ownRun C F nm g args).run hp).map (fun e=>(e,(ownRun C F nm g args).log hp))=((sealL 1000 args).run hp).bind fun as=>match C.intrO g with
    |some h=>(h as).bind fun q=>((ownOut nm q.1 q.2).run hp).map fun e=>(e,(sealL 1000 args).log hp)
    |none=>(F as).bind (ownFin nm ((sealL 1000 args).log hp) hp):=by
 unfold ownRun
 rw[RM.run_bind,RM.log_bind]
 cases hs:(sealL 1000 args).run hp with
 |none=>rfl
 |some as=>
  simp only[Option.bind_some]
  cases hi:C.intrO g with
  |some h=>
   simp only
   cases hh:h as with
   |none=>rfl
   |some q=>simp only[Option.bind_some,ownOut_log,List.append_nil]
  |none=>
   simp only
   cases hq:F as with
   |none=>rfl
   |some q=>
    obtain⟨r,hpf⟩:=q
    cases r with
    |val v=>simp only[Option.bind_some,ownFin,ownOut_log,List.append_nil]
    |pnc v=>rfl
theorem ownRun_run[Glob]{F:List AV→Option (Res×AHeap)}{nm:Nat}{g:FuncId}{args:List AV}{hp:AHeap}:
  (ownRun C F nm g args).run hp=(((sealL 1000 args).run hp).bind fun as=>match C.intrO g with
    |some h=>(h as).bind fun q=>((ownOut nm q.1 q.2).run hp).map fun e=>(e,(sealL 1000 args).log hp)
    |none=>(F as).bind (ownFin nm ((sealL 1000 args).log hp) hp)).map Prod.fst:=by
 rw[←ownRun_eq]
 cases (ownRun C F nm g args).run hp<;>rfl
noncomputable def callA[Glob](C:Ctx)(o:Oper)(s:St):FuncId×List AV→Option Out
 |(g,args)=>match isAllocOp o.op with
  |true=>(ownA C s.hp.length g args s.hp).bind fun q=>doneE o s q.1
  |false=>match C.kind g with
   |.pure=>(runP C g args s.hp).bind (doneP o s)
   |.imp=>(runF C g args s.hp).bind (doneI o s)
theorem yieldA_find{run:Code→St→Option Out}{ev:Nat→Code→St→Option Out}(hg:∀ c s,Grows fun k=>ev k c s)(hl:∀ c s r,run c s=some r→∃ k,ev k c s=some r)
  {n:Nat} {args:List AV} {dst:Option Tmp} {s:St} {r:Out} (hy:yieldA run n args dst s=some r):∃ k,yieldA (ev k) n args dst s=some r:=by
 unfold yieldA at hy ⊢
 split at hy
 case h_2=>simp at hy
 rename_i fn ps as bd fr ho
 split at hy
 case h_2=>simp at hy
 rename_i hc
 split at hy
 case h_2=>simp at hy
 rename_i s1 h1
 obtain⟨k1,e1⟩:=hl _ _ _ h1
 split at hy
 case h_2=>simp at hy
 rename_i h2
 have two:∀ o,run bd { s1 with hp:=setSt s1.hp n .busy }=some o→∃ k,ev k as ⟨fn,putArgs fr ps.toList args,s.hp⟩=some (.norm s1)∧ev k bd { s1 with hp:=setSt s1.hp n .busy }=some o:=by
  intro o h3
  obtain⟨k2,e2⟩:=hl _ _ _ h3
  exact⟨k1+k2,(hg _ _).le e1 k2,by rw[Nat.add_comm]; exact(hg _ _).le e2 k1⟩
 split at hy
 ·rename_i s2 h3
  obtain⟨k,a,b⟩:=two _ h3
  exact⟨k,by simp only[a,h2,b]; exact hy⟩
 ·rename_i id s2 h3
  obtain⟨k,a,b⟩:=two _ h3
  exact⟨k,by simp only[a,h2,b]; exact hy⟩
 ·rename_i s2 h3
  obtain⟨k,a,b⟩:=two _ h3
  exact⟨k,by simp only[a,h2,b]; exact hy⟩
 ·simp at hy
noncomputable def roundR[Glob](C:Ctx)(o:Oper)(s:St)(args:List AV):AV→Option Out
 |.mp true n=>yieldA (fun c s=>runC C c s) n args o.dst s
 |_=>none
noncomputable def calleeA[Glob](C:Ctx)(o:Oper)(s:St)(args:List AV)(fv:AV):Option (FuncId×List AV)→Option Out
 |some q=>callA C o s q
 |none=>roundR C o s args fv
noncomputable def overR[Glob](s:St):Res×AHeap→Option Out
 |(.val _,hp1)=>overA s s.hp.length hp1
 |_=>none
theorem runC_range[Glob](f:Operand)(ps:Array Tmp)(as bd:Code)(s:St):runC C (.rangeFunc f ps as bd) s =
  (resolveA (evalA s.fr f) [.mp true s.hp.length]).bind fun q=>(runF C q.1 q.2 (s.hp++[some (.oth (.loop s.fn ps as bd .ready) (recF as bd s.fr))])).bind (overR s):=by
 cases hr:resolveA (evalA s.fr f) [.mp true s.hp.length] with
 |none=>exact lim_step (growC C _ _) (by simp[evC]) fun k=>by simp only[evC,hr]; rfl
 |some q=>
  obtain⟨g,args⟩:=q
  simp only[Option.bind_some]
  refine lim_bind' (growC C _ _) (growF C g args _) (by simp[evC]) fun k=>?_
  simp only[evC,hr]
  cases hq:evF C k g args (s.hp++[some (.oth (.loop s.fn ps as bd .ready) (recF as bd s.fr))]) with
  |none=>rfl
  |some q=>obtain⟨r,hp1⟩:=q; cases r<;>rfl
theorem runO_call[Glob]{dst:Option Tmp}{f:Operand}{args:Array Operand}{ats:Array TypeId}{type:TypeId}{pos:String}{after:Array Edge}{guard:Option (Nat×Bool)}(s:St):
  runO C ⟨dst,.call ⟨.value f,args,ats⟩,type,pos,after,guard⟩ s=calleeA C ⟨dst,.call ⟨.value f,args,ats⟩,type,pos,after,guard⟩ s (args.toList.map (evalA s.fr)) (evalA s.fr f)
   (resolveA (evalA s.fr f) (args.toList.map (evalA s.fr))):=by
 cases hr:resolveA (evalA s.fr f) (args.toList.map (evalA s.fr)) with
 |none=>
  simp only[calleeA,roundR]
  split
  ·rename_i n hn
   have hstep:∀ k,evO C (k+1) ⟨dst,.call ⟨.value f,args,ats⟩,type,pos,after,guard⟩ s=yieldA (fun c s=>evC C k c s) n (args.toList.map (evalA s.fr)) dst s:=fun k=>by simp only[evO,hr]; rw[hn]
   apply lim_ext (growO C _ _)
   ·intro k x hx
    cases k with
    |zero=>simp[evO]at hx
    |succ k=>
     rw[hstep]at hx
     exact yieldA_mono (fun c s r h=>(lim_some (growC C c s)).2 ⟨k,h⟩) hx
   ·intro x hx
    obtain⟨k,hk⟩:=yieldA_find (fun c s=>growC C c s) (fun c s r h=>(lim_some (growC C c s)).1 h) hx
    exact⟨k+1,by rw[hstep]; exact hk⟩
  ·rename_i hne
   refine lim_step (growO C _ _) (by simp[evO]) fun k=>?_
   simp only[evO,hr]
 |some q=>
  obtain⟨g,as⟩:=q
  simp only[calleeA,callA]
  cases hal:isAllocOp (Op.call ⟨.value f,args,ats⟩) with
  |true=>
   have hstep:∀ k,evO C (k+1) ⟨dst,.call ⟨.value f,args,ats⟩,type,pos,after,guard⟩ s =
     (((sealL 1000 as).run s.hp).bind fun as'=>match C.intrO g with
       |some h=>(h as').bind fun q=>((ownOut s.hp.length q.1 q.2).run s.hp).map fun e=>(e,(sealL 1000 as).log s.hp)
       |none=>(evF C k g as' []).bind (ownFin s.hp.length ((sealL 1000 as).log s.hp) s.hp)).bind fun q=>doneE ⟨dst,.call ⟨.value f,args,ats⟩,type,pos,after,guard⟩ s q.1:=by
    intro k
    simp only[evO,hr,hal,ownRun_run]
    cases (((sealL 1000 as).run s.hp).bind fun as'=>match C.intrO g with
      |some h=>(h as').bind fun q=>((ownOut s.hp.length q.1 q.2).run s.hp).map fun e=>(e,(sealL 1000 as).log s.hp)
      |none=>(evF C k g as' []).bind (ownFin s.hp.length ((sealL 1000 as).log s.hp) s.hp))<;>rfl
   simp only[ownA]
   cases hs:(sealL 1000 as).run s.hp with
   |none=>exact lim_step (growO C _ _) (by simp[evO]) fun k=>by rw[hstep,hs]; rfl
   |some as'=>
    simp only[Option.bind_some]
    cases hi:C.intrO g with
    |some h=>exact lim_step (growO C _ _) (by simp[evO]) fun k=>by rw[hstep,hs]; simp only[Option.bind_some,hi]
    |none=>
     simp only[Option.bind_assoc]
     refine lim_bind' (growO C _ _) (growF C g as' []) (by simp[evO]) fun k=>?_
     rw[hstep,hs]
     simp only[Option.bind_some,hi,Option.bind_assoc]
  |false=>
  simp only
  cases hk:C.kind g with
  |pure=>
   refine lim_bind' (growO C _ _) (growP C g as s.hp) (by simp[evO]) fun k=>?_
   simp only[evO,hr,hal,hk]
   cases hq:(evP C k g as).run s.hp with
   |none=>rfl
   |some q=>obtain⟨r,wr⟩:=q; cases r<;>rfl
  |imp=>
   refine lim_bind' (growO C _ _) (growF C g as s.hp) (by simp[evO]) fun k=>?_
   simp only[evO,hr,hal,hk]
   cases hq:evF C k g as s.hp with
   |none=>rfl
   |some q=>obtain⟨r,wr⟩:=q; cases r<;>rfl
def plainOp:Op→Bool
 |.call c=>match c.callee with
  |.builtin _=>true
  |_=>false
 |.assign (.const (.slice none 0 0))=>false
 |_=>true
def doneN(C:Ctx)(o:Oper)(s:St)(e:Eff):Option Out:=some (.norm (nilsA (match o.op with|.call _=>fun _=>[]|_=>C.nils s.fn) o.dst { s with fr:=putA s.fr o.dst e.val,hp:=applyWr s.hp e.wr }))
theorem nilsA_none{dst:Option Tmp}{s:St}:nilsA (fun _=>[]) dst s=s:=by cases dst<;>rfl
theorem runO_plain[Glob]{o:Oper}(h:plainOp o.op=true)(s:St):runO C o s=((opEff C.P s.hp.length (evalA s.fr) o).run s.hp).bind (doneN C o s):=by
 refine lim_step (growO C _ _) (by simp[evO]) fun k=>?_
 obtain⟨dst,op,type,pos,after,guard⟩:=o
 rw[evO]
 split
 ·grind[doneN,nilsA_none,plainOp]
 ·simp_all[plainOp]
 ·grind[doneN]
class NoNils(C:Ctx):Prop where
 h:C.nils=fun _ _=>[]
 holes:C.holes=fun _ _=>[]
theorem runO_plain0[Glob][NoNils C]{o:Oper}(h:plainOp o.op=true)(s:St):runO C o s=((opEff C.P s.hp.length (evalA s.fr) o).run s.hp).bind (doneE o s):=by
 rw[runO_plain h]
 congr 1
 funext e
 have hl:(match o.op with|.call _=>fun _=>[]|_=>C.nils s.fn)=fun _=>[]:=by
  rw[NoNils.h (C:=C)]; cases o.op<;>rfl
 simp only[doneN,hl,nilsA_none,doneE]
theorem runO_nil[Glob]{dst:Tmp}{type:TypeId}{pos:String}{after:Array Edge}{guard:Option (Nat×Bool)}(s:St):
  runO C ⟨some dst,.assign (.const (.slice none 0 0)),type,pos,after,guard⟩ s =
   cond (C.acc s.fn dst) ((sliceElem C.P type).bind fun r=>if 0<r.size then some (.norm { s with fr:=s.fr.set dst (.osl r.size s.hp.length 0 0 0 none),hp:=s.hp++[some (.arr true true false [])] }) else none)
    (some (.norm { s with fr:=s.fr.set dst (.lit nilSl) })):=by
 refine lim_step (growO C _ _) (by simp[evO]) fun k=>?_
 simp only[evO]
 cases C.acc s.fn dst with
 |true=>
  simp only[if_true,cond_true]
  cases sliceElem C.P type<;>rfl
 |false=>rfl
end Go.PI
end
section
/- PI, drawn regions without fuel. -/
namespace Go.PI
variable {C:Ctx}
noncomputable def runE[Glob](C:Ctx)(nm:Nat)(o:Oper)(fr:List AV)(hp:AHeap):Option (Eff×List Nat):=
 lim fun k=>((evE C k nm o fr).run hp).map fun e=>(e,(evE C k nm o fr).log hp)
theorem growE[Glob](C:Ctx)(nm:Nat)(o:Oper)(fr:List AV)(hp:AHeap):Grows fun k=>((evE C k nm o fr).run hp).map fun e=>(e,(evE C k nm o fr).log hp):=by
 intro k x h
 simp only at h ⊢
 cases hq:(evE C k nm o fr).run hp with
 |none=>rw[hq]at h; simp at h
 |some e=>
  obtain⟨h1,h2⟩:=(mono C k).e nm o fr hp e hq
  rw[hq]at h
  rw[h1,h2]
  exact h
def putE[Glob](x:Item)(s:St):Eff×List Nat→Option (St×Foot)
 |(e,lg)=>
  if e.wr.all (fun q=>decide (q.1<s.hp.length)&&((isAllocOp x.o.op&&decide (q.1=x.nm))||(match s.hp[q.1]? with|some (some _)=>true|_=>false)))=true then
   some ({ s with fr:=putA s.fr x.o.dst e.val,hp:=applyWr s.hp e.wr },⟨x.idx,lg,e.wr.map (·.1)⟩)
  else none
noncomputable def stepE[Glob](C:Ctx)(ops:Array Oper)(x:Item)(s:St):Option (St×Foot):=
 match wantedA ops s.fr x.o with
 |none=>none
 |some false=>some ({ s with fr:=putA s.fr x.o.dst .undef },⟨x.idx,[],[]⟩)
 |some true=>(runE C (x.at s.hp.length) x.o s.fr s.hp).bind (putE x s)
noncomputable def runDE[Glob](C:Ctx)(ops:Array Oper):List Item→St→Option (St×List Foot)
 |[],s=>some (s,[])
 |x::rest,s=>(stepE C ops x s).bind fun q=>(runDE C ops rest q.1).map fun q'=>(q'.1,q.2::q'.2)
theorem growStep[Glob](ops:Array Oper)(x:Item)(s:St):Grows fun k=>stepD (fun nm o fr=>evE C k nm o fr) ops x s:=
 fun k r h=>stepD_mono (fun nm o fr hp=>(mono C k).e nm o fr hp) ops x s r h
theorem growDraw[Glob](ops:Array Oper)(l:List Item)(s:St):Grows fun k=>runDraw (fun nm o fr=>evE C k nm o fr) ops l s:=
 fun k r h=>runDraw_mono (fun nm o fr hp=>(mono C k).e nm o fr hp) ops l s r h
theorem lim_map[Glob]{α β:Type}{a:Nat→Option α}(ha:Grows a)(f:α→Option β):lim (fun k=>(a k).bind f)=(lim a).bind f:=by
 apply lim_ext
 ·intro k x h
  cases hq:a k with
  |none=>simp[hq]at h
  |some y=>
   have h2:=ha k y hq
   simp only[hq]at h
   simp only[h2]
   exact h
 ·intro k x h
  cases hq:a k with
  |none=>simp[hq]at h
  |some y=>simp only[hq]at h; rw[(lim_some ha).2 ⟨k,hq⟩]; exact h
 ·intro x h
  cases hq:lim a with
  |none=>rw[hq]at h; simp at h
  |some y=>
   rw[hq]at h
   obtain⟨k,hk⟩:=(lim_some ha).1 hq
   exact⟨k,by rw[hk]; exact h⟩
theorem lim_stepD[Glob](ops:Array Oper)(x:Item)(s:St):lim (fun k=>stepD (fun nm o fr=>evE C k nm o fr) ops x s)=stepE C ops x s:=by
 unfold stepE
 cases hw:wantedA ops s.fr x.o with
 |none=>simp only[stepD,hw]; exact lim_const _
 |some b=>
  cases b with
  |false=>simp only[stepD,hw]; exact lim_const _
  |true=>
   rw[show (fun k=>stepD (fun nm o fr=>evE C k nm o fr) ops x s)=fun k=>(((evE C k (x.at s.hp.length) x.o s.fr).run s.hp).map fun e=>(e,(evE C k (x.at s.hp.length) x.o s.fr).log s.hp)).bind (putE x s) from ?_]
   ·exact lim_map (growE C (x.at s.hp.length) x.o s.fr s.hp) _
   ·funext k
    simp only[stepD,hw]
    cases hq:(evE C k (x.at s.hp.length) x.o s.fr).run s.hp<;>rfl
theorem lim_runDraw[Glob](ops:Array Oper):∀ (l:List Item) (s:St),lim (fun k=>runDraw (fun nm o fr=>evE C k nm o fr) ops l s)=runDE C ops l s
 |[],s=>lim_const _
 |x::l,s=>by
  simp only[runDE]
  rw[←lim_stepD]
  apply lim_ext (growDraw ops (x::l) s)
  ·intro k r h
   simp only[runDraw]at h
   cases hq:stepD (fun nm o fr=>evE C k nm o fr) ops x s with
   |none=>rw[hq]at h; simp at h
   |some q=>
    obtain⟨s1,f⟩:=q
    rw[hq]at h
    simp only at h
    rw[(lim_some (growStep ops x s)).2 ⟨k,hq⟩]
    cases hd:runDraw (fun nm o fr=>evE C k nm o fr) ops l s1 with
    |none=>rw[hd]at h; simp at h
    |some q2=>
     rw[hd]at h
     simp only[Option.bind_some]
     rw[←lim_runDraw ops l s1,(lim_some (growDraw ops l s1)).2 ⟨k,hd⟩]
     exact h
  ·intro r h
   cases hq:lim (fun k=>stepD (fun nm o fr=>evE C k nm o fr) ops x s) with
   |none=>rw[hq]at h; simp at h
   |some q=>
    obtain⟨s1,f⟩:=q
    rw[hq]at h
    simp only[Option.bind_some]at h
    rw[←lim_runDraw ops l s1]at h
    cases hd:lim (fun k=>runDraw (fun nm o fr=>evE C k nm o fr) ops l s1) with
    |none=>rw[hd]at h; simp at h
    |some q2=>
     rw[hd]at h
     obtain⟨k1,h1⟩:=(lim_some (growStep ops x s)).1 hq
     obtain⟨k2,h2⟩:=(lim_some (growDraw ops l s1)).1 hd
     have h3:=(growStep ops x s).le h1 k2
     have h4:=(growDraw ops l s1).le h2 k1
     rw[Nat.add_comm]at h4
     refine⟨k1+k2,?_⟩
     simp only[runDraw]
     rw[h3]
     simp only
     rw[h4]
     exact h
noncomputable def doneD[Glob](C:Ctx)(ops:Array Oper)(m:Nat)(q:St×List Foot):Option Out:=
 if (footsOk (predsA ops.toList) q.2&&tailOk (predsA ops.toList) ops.size m)=true then runOps (runO C) ops (ops.toList.drop m) q.1 else none
theorem runC_draw[Glob](id:Nat)(ops:Array Oper)(h:regionOk ops=true)(s:St):runC C (.region id ops true) s =
  (runDE C ops (nameOps 0 s.hp.length (ops.toList.take (C.head s.fn id ops))) { holesA (C.holes s.fn id) s with hp:=(holesA (C.holes s.fn id) s).hp++List.replicate ((ops.toList.take (C.head s.fn id ops)).filter fun o=>isAllocOp o.op).length none }).bind (doneD C ops (C.head s.fn id ops)):=by
 rw[←lim_runDraw]
 refine Eq.trans (lim_bind (growC C (.region id ops true) s) (growDraw ops _ _) (b:=fun q k=>if (footsOk (predsA ops.toList) q.2&&tailOk (predsA ops.toList) ops.size (C.head s.fn id ops))=true then
   runOps (fun o s=>evO C k o s) ops (ops.toList.drop (C.head s.fn id ops)) q.1 else none) (fun q=>by
    by_cases hc:(footsOk (predsA ops.toList) q.2&&tailOk (predsA ops.toList) ops.size (C.head s.fn id ops))=true
    ·simp only[hc,if_true]; exact grows_runOps ops _ _
    ·simp only[hc]; exact grows_const _) (by simp[evC]) (fun k=>by
   simp only[evC,h,if_true]
   cases hq:runDraw (fun nm o fr=>evE C k nm o fr) ops (nameOps 0 s.hp.length (ops.toList.take (C.head s.fn id ops))) { holesA (C.holes s.fn id) s with hp:=(holesA (C.holes s.fn id) s).hp++List.replicate ((ops.toList.take (C.head s.fn id ops)).filter fun o=>isAllocOp o.op).length none } with
   |none=>rfl
   |some q=>rfl)) ?_
 congr 1
 funext q
 unfold doneD
 by_cases hc:(footsOk (predsA ops.toList) q.2&&tailOk (predsA ops.toList) ops.size (C.head s.fn id ops))=true
 ·simp only[hc,if_true]; exact lim_runOps ops _ _
 ·simp only[hc]; exact lim_const _
theorem runE_plain[Glob]{o:Oper}(h:∀ c f,o.op=.call c→c.callee=.value f→False)(h2:∀ c m i,o.op=.call c→c.callee=.invoke m i→False)(nm:Nat)(fr:List AV)(hp:AHeap):
  runE C nm o fr hp=((opEff C.P nm (evalA fr) o).run hp).map fun e=>(e,(opEff C.P nm (evalA fr) o).log hp):=by
 refine lim_step (growE C _ _ _ _) (by simp[evE,RM.run_fail]) fun k=>?_
 obtain⟨dst,op,type,pos,after,guard⟩:=o
 cases op with
 |call c=>
  obtain⟨callee,args,ats⟩:=c
  cases callee with
  |builtin b=>simp only[evE]
  |value f=>exact(h _ _ rfl rfl).elim
  |invoke m i=>exact(h2 _ _ _ rfl rfl).elim
 |_=>simp only[evE]
def logP(hp:AHeap)(args:List AV)(q:Res×AHeap):List Nat:=(sealL 1000 args).log hp++(pureOut args q.2 q.1).log hp
def doneV(hp:AHeap)(args:List AV)(q:Res×AHeap):Option (Eff×List Nat):=
 (pdone hp args q).bind fun r=>match r.1 with
   |.val v=>some (⟨v,r.2⟩,logP hp args q)
   |.pnc _=>none
noncomputable def callE[Glob](C:Ctx)(nm:Nat)(al:Bool)(hp:AHeap):FuncId×List AV→Option (Eff×List Nat)
 |(g,args)=>match al with
  |true=>ownA C nm g args hp
  |false=>match C.kind g with
  |.pure=>match C.intr g with
   |some h=>((sealL 1000 args).run hp).bind fun as=>(h as).bind fun r=>doneV hp args (.val r,[])
   |none=>((sealL 1000 args).run hp).bind fun as=>(runF C g as []).bind (doneV hp args)
  |.imp=>(match C.intrE g with
   |some h=>((h args).run hp).map fun e=>(e,(h args).log hp)
   |none=>((peek C.P nm g args).run hp).map fun e=>(e,(peek C.P nm g args).log hp))
theorem bind_log[Glob]{hp:AHeap}{args as:List AV}{g:FuncId}{k:Nat}(hs:(sealL 1000 args).run hp=some as)(hi:C.intr g=none){q:Res×AHeap}(hq:evF C k g as []=some q):
  (((evP C (k+1) g args >>= fun (x:Res×List (Nat×AObj))=>match x.1 with|.val r=>(pure ⟨r,x.2⟩:RM Eff)|.pnc _=>RM.fail).run hp).map fun e=>(e,(evP C (k+1) g args >>= fun (x:Res×List (Nat×AObj))=>match x.1 with|.val r=>(pure ⟨r,x.2⟩:RM Eff)|.pnc _=>RM.fail).log hp))=doneV hp args q:=by
 have h1:(evP C (k+1) g args).run hp=pdone hp args q:=by
  rw[evP,RM.run_bind,hs]
  simp only[Option.bind_some,hi,hq]
  rfl
 have h2:(evP C (k+1) g args).log hp=logP hp args q:=by
  rw[evP,RM.log_bind,hs]
  simp only[hi,hq]
  rfl
 rw[RM.run_bind,RM.log_bind,h1,h2]
 unfold doneV
 cases hp':pdone hp args q with
 |none=>rfl
 |some r=>
  obtain⟨r,wr⟩:=r
  cases r with
  |val v=>simp only[Option.bind_some,pure,RM.log,List.append_nil]; rfl
  |pnc v=>rfl
theorem runE_call[Glob]{dst:Option Tmp}{f:Operand}{args:Array Operand}{ats:Array TypeId}{type:TypeId}{pos:String}{after:Array Edge}{guard:Option (Nat×Bool)}(nm:Nat)(fr:List AV)(hp:AHeap):
  runE C nm ⟨dst,.call ⟨.value f,args,ats⟩,type,pos,after,guard⟩ fr hp=(resolveA (evalA fr f) (args.toList.map (evalA fr))).bind (callE C nm (isAllocOp (Op.call ⟨.value f,args,ats⟩)) hp):=by
 have hg:=growE C nm ⟨dst,.call ⟨.value f,args,ats⟩,type,pos,after,guard⟩ fr hp
 have hz:((evE C 0 nm ⟨dst,.call ⟨.value f,args,ats⟩,type,pos,after,guard⟩ fr).run hp).map (fun e=>(e,(evE C 0 nm ⟨dst,.call ⟨.value f,args,ats⟩,type,pos,after,guard⟩ fr).log hp))=none:=by
  simp[evE,RM.run_fail]
 cases hr:resolveA (evalA fr f) (args.toList.map (evalA fr)) with
 |none=>exact lim_step hg hz fun k=>by simp only[evE,hr,RM.run_fail]; rfl
 |some q=>
  obtain⟨g,as⟩:=q
  simp only[Option.bind_some,callE]
  cases hal:isAllocOp (Op.call ⟨.value f,args,ats⟩) with
  |true=>
   have hstep:∀ k,((evE C (k+1) nm ⟨dst,.call ⟨.value f,args,ats⟩,type,pos,after,guard⟩ fr).run hp).map (fun e=>(e,(evE C (k+1) nm ⟨dst,.call ⟨.value f,args,ats⟩,type,pos,after,guard⟩ fr).log hp)) =
     ((sealL 1000 as).run hp).bind fun as'=>match C.intrO g with
       |some h=>(h as').bind fun q=>((ownOut nm q.1 q.2).run hp).map fun e=>(e,(sealL 1000 as).log hp)
       |none=>(evF C k g as' []).bind (ownFin nm ((sealL 1000 as).log hp) hp):=by
    intro k
    have:=ownRun_eq (C:=C) (F:=fun as=>evF C k g as []) (nm:=nm) (g:=g) (args:=as) (hp:=hp)
    simp only[evE,hr,hal]
    exact this
   simp only[ownA]
   cases hs:(sealL 1000 as).run hp with
   |none=>exact lim_step hg hz fun k=>by rw[hstep,hs]; rfl
   |some as'=>
    simp only[Option.bind_some]
    cases hi:C.intrO g with
    |some h=>exact lim_step hg hz fun k=>by rw[hstep,hs]; simp only[Option.bind_some,hi]
    |none=>
     refine lim_bind' hg (growF C g as' []) hz fun k=>?_
     rw[hstep,hs]
     simp only[Option.bind_some,hi]
  |false=>
  simp only
  cases hk:C.kind g with
  |imp=>
   cases hi:C.intrE g with
   |some h=>exact lim_step hg hz fun k=>by simp only[evE,hr,hal,hk,hi]
   |none=>exact lim_step hg hz fun k=>by simp only[evE,hr,hal,hk,hi]
  |pure=>
   simp only
   have hshape:∀ k,evE C (k+1) nm ⟨dst,.call ⟨.value f,args,ats⟩,type,pos,after,guard⟩ fr =
     (evP C k g as >>= fun (x:Res×List (Nat×AObj))=>match x.1 with|.val r=>(pure ⟨r,x.2⟩:RM Eff)|.pnc _=>RM.fail):=by
    intro k
    simp only[evE,hr,hal,hk]
    congr 1
   cases hs:(sealL 1000 as).run hp with
   |none=>
    have hall:∀ k,(evP C k g as).run hp=none:=by
     intro k
     cases k with
     |zero=>simp[evP,RM.run_fail]
     |succ k=>rw[evP,RM.run_bind,hs]; rfl
    have:(match C.intr g with
      |some h=>(none:Option (List AV)).bind fun as'=>(h as').bind fun r=>doneV hp as (.val r,[])
      |none=>(none:Option (List AV)).bind fun as'=>(runF C g as' []).bind (doneV hp as))=none:=by cases C.intr g<;>rfl
    rw[this]
    refine lim_step hg hz fun k=>?_
    rw[hshape,RM.run_bind,hall]; rfl
   |some as'=>
    cases hi:C.intr g with
    |some h=>
     simp only[Option.bind_some]
     have h1:∀ k,(evP C (k+1) g as).run hp=(h as').bind fun r=>pdone hp as (.val r,[]):=by
      intro k
      rw[evP,RM.run_bind,hs]
      simp only[Option.bind_some,hi]
      cases h as'<;>rfl
     have h2:∀ k,(evP C (k+1) g as).log hp=(sealL 1000 as).log hp++(match h as' with|some r=>(pureOut as [] (.val r)).log hp|none=>[]):=by
      intro k
      rw[evP,RM.log_bind,hs]
      simp only[hi]
      cases h as'<;>rfl
     have h3:∀ k,((evE C (k+1+1) nm ⟨dst,.call ⟨.value f,args,ats⟩,type,pos,after,guard⟩ fr).run hp).map (fun e=>(e,(evE C (k+1+1) nm ⟨dst,.call ⟨.value f,args,ats⟩,type,pos,after,guard⟩ fr).log hp))=(h as').bind fun r=>doneV hp as (.val r,[]):=by
      intro k
      rw[hshape,RM.run_bind,RM.log_bind,h1,h2]
      cases hh:h as' with
      |none=>rfl
      |some r=>
       simp only[Option.bind_some,doneV]
       cases hp':pdone hp as (.val r,[]) with
       |none=>rfl
       |some r=>
        obtain⟨r,wr⟩:=r
        cases r with
        |val v=>simp only[Option.bind_some,pure,RM.log,List.append_nil]; rfl
        |pnc v=>rfl
     apply lim_ext hg
     ·intro k x hx
      match k with
      |0=>rw[hz]at hx; cases hx
      |1=>
       rw[hshape,RM.run_bind]at hx
       simp[evP,RM.run_fail]at hx
      |k+2=>rw[←h3 k]; exact hx
     ·intro x hx
      exact⟨2,by rw[h3 0]; exact hx⟩
    |none=>
     simp only[Option.bind_some]
     have h3:∀ k,((evE C (k+1+1) nm ⟨dst,.call ⟨.value f,args,ats⟩,type,pos,after,guard⟩ fr).run hp).map (fun e=>(e,(evE C (k+1+1) nm ⟨dst,.call ⟨.value f,args,ats⟩,type,pos,after,guard⟩ fr).log hp))=(evF C k g as' []).bind (doneV hp as):=by
      intro k
      cases hq:evF C k g as' [] with
      |none=>
       rw[hshape,RM.run_bind,evP,RM.run_bind,hs]
       simp only[Option.bind_some,hi,hq,RM.run_fail]
       rfl
      |some q=>
       rw[hshape]
       exact bind_log hs hi hq
     have hb:lim (fun k=>(evF C k g as' []).bind (doneV hp as))=(runF C g as' []).bind (doneV hp as):=lim_map (growF C g as' []) _
     rw[←hb]
     apply lim_ext hg
     ·intro k x hx
      match k with
      |0=>rw[hz]at hx; cases hx
      |1=>
       rw[hshape,RM.run_bind]at hx
       simp[evP,RM.run_fail]at hx
      |k+2=>
       rw[h3 k]at hx
       rw[hb]
       cases hq:evF C k g as' [] with
       |none=>rw[hq]at hx; simp at hx
       |some q=>rw[hq]at hx; rw[show runF C g as' []=some q from (lim_some (growF C g as' [])).2 ⟨k,hq⟩]; exact hx
     ·intro x hx
      rw[hb]at hx
      cases hq:runF C g as' [] with
      |none=>rw[hq]at hx; simp at hx
      |some q=>
       rw[hq]at hx
       obtain⟨k,hk⟩:=(lim_some (growF C g as' [])).1 hq
       exact⟨k+1+1,by rw[h3 k,hk]; exact hx⟩
end Go.PI
end
section
/- PI, guards resolved. -/
namespace Go.PI
inductive G where
 |always
 |never
 |on (d:Tmp) (w:Bool)
def guardG(ops:Array Oper)(o:Oper):G:=
 match o.guard with
 |none=>.always
 |some (j,w)=>match (ops[j]?).bind (·.dst) with
  |none=>.never
  |some d=>.on d w
def wantV(w:Bool):AV→Option Bool
 |.lit (.bool b)=>some (b==w)
 |.lit (.tuple _)=>some false
 |_=>none
def wantG(fr:List AV):G→Option Bool
 |.always=>some true
 |.never=>some false
 |.on d w=>wantV w (fr.getD d .undef)
theorem wantG_eq(ops:Array Oper)(fr:List AV)(o:Oper):wantedA ops fr o=wantG fr (guardG ops o):=by
 unfold wantedA guardG
 cases o.guard with
 |none=>rfl
 |some q=>
  obtain⟨j,w⟩:=q
  simp only
  cases (ops[j]?).bind (·.dst) with
  |none=>rfl
  |some d=>
   simp only[wantG,List.getD]
   cases hq:fr[d]? with
   |none=>rfl
   |some v=>
    simp only[Option.getD_some]
    cases v with
    |lit v=>cases v<;>rfl
    |_=>rfl
end Go.PI
end
section
/- PI, looking up in written-out frames. -/
namespace Go.PI
section
variable {α:Type}{x u v:AV}{l:List AV}{n:Nat}
theorem fgz:(x::l).getD 0 u=x:=rfl
theorem fgs:(x::l).getD (n+1) u=l.getD n u:=rfl
theorem fsz:(x::l).set 0 v=v::l:=rfl
theorem fss:(x::l).set (n+1) v=x::l.set n v:=rfl
end
end Go.PI
end
section
/- PI, laws to compute by. -/
namespace Go.PI
abbrev int(n:Int):AV:=.lit (.int .i64 n)
abbrev bol(b:Bool):AV:=.lit (.bool b)
section
variable {P:Program}{t:TypeId}{xo yo:Operand}{k:IntKind}{a b:Int}
theorem pr_guard{op:BinOp}{v w:Value}{α:Type}(K:Unit→Sem α)(h:∀ c,v≠.agg c)(h2:v≠.nilIface):
  pureRun P (eqGuard op t xo yo v w >>= K)=pureRun P (K ()):=by
 unfold eqGuard
 cases op<;>first
  |rfl
  |(cases v<;>first|rfl|exact absurd rfl (h _)|exact absurd rfl h2)
theorem bin_lss[Glob]:binA P .lss t xo yo (.lit (.int k a)) (.lit (.int k b))=some (bol (decide (a<b))):=by
 simp only[binA,eqAggA,toVal?]; rw[pr_guard _ (by simp) (by simp)]; simp[binOp,Op.intCmp]; rfl
theorem bin_leq[Glob]:binA P .leq t xo yo (.lit (.int k a)) (.lit (.int k b))=some (bol (decide (a≤b))):=by
 simp only[binA,eqAggA,toVal?]; rw[pr_guard _ (by simp) (by simp)]; simp[binOp,Op.intCmp]; rfl
theorem bin_gtr[Glob]:binA P .gtr t xo yo (.lit (.int k a)) (.lit (.int k b))=some (bol (decide (b<a))):=by
 simp only[binA,eqAggA,toVal?]; rw[pr_guard _ (by simp) (by simp)]; simp[binOp,Op.intCmp]; rfl
theorem bin_geq[Glob]:binA P .geq t xo yo (.lit (.int k a)) (.lit (.int k b))=some (bol (decide (b≤a))):=by
 simp only[binA,eqAggA,toVal?]; rw[pr_guard _ (by simp) (by simp)]; simp[binOp,Op.intCmp]; rfl
theorem bin_eql[Glob]:binA P .eql t xo yo (.lit (.int k a)) (.lit (.int k b))=some (bol (decide (a=b))):=by
 simp only[binA,eqAggA,toVal?]; rw[pr_guard _ (by simp) (by simp)]; simp[binOp,Op.intCmp]; rfl
theorem bin_neq[Glob]:binA P .neq t xo yo (.lit (.int k a)) (.lit (.int k b))=some (bol (!decide (a=b))):=by
 simp only[binA,eqAggA,toVal?]; rw[pr_guard _ (by simp) (by simp)]; simp[binOp,Op.intCmp]; rfl
theorem bin_add[Glob]:binA P .add t xo yo (.lit (.int k a)) (.lit (.int k b))=some (.lit (.int k (k.wrap (a+b)))):=by
 simp only[binA,eqAggA,toVal?]; rw[pr_guard _ (by simp) (by simp)]; simp[binOp,Op.intArith]; rfl
theorem bin_sub[Glob]:binA P .sub t xo yo (.lit (.int k a)) (.lit (.int k b))=some (.lit (.int k (k.wrap (a-b)))):=by
 simp only[binA,eqAggA,toVal?]; rw[pr_guard _ (by simp) (by simp)]; simp[binOp,Op.intArith]; rfl
theorem bin_mul[Glob]:binA P .mul t xo yo (.lit (.int k a)) (.lit (.int k b))=some (.lit (.int k (k.wrap (a*b)))):=by
 simp only[binA,eqAggA,toVal?]; rw[pr_guard _ (by simp) (by simp)]; simp[binOp,Op.intArith]; rfl
end
variable {C:Ctx}
noncomputable def runG[Glob](C:Ctx):List (G×Oper)→St→Option Out
 |[],s=>some (.norm s)
 |(g,o)::l,s=>
  match wantG s.fr g with
  |none=>none
  |some false=>runG C l { s with fr:=putA s.fr o.dst .undef }
  |some true=>(runO C o s).bind fun
   |.norm s'=>runG C l s'
   |r=>some r
def preps(ops:Array Oper):List (G×Oper):=ops.toList.map fun o=>(guardG ops o,o)
theorem runG_ops[Glob](ops:Array Oper):∀ (l:List Oper) (s:St),runOps (runO C) ops l s=runG C (l.map fun o=>(guardG ops o,o)) s
 |[],s=>rfl
 |o::l,s=>by
  simp only[runOps,List.map_cons,runG,wantG_eq]
  cases hq:wantG s.fr (guardG ops o) with
  |none=>rfl
  |some b=>
   cases b with
   |false=>exact runG_ops ops l _
   |true=>
    simp only
    cases runO C o s with
    |none=>rfl
    |some r=>
     cases r with
     |norm s'=>exact runG_ops ops l s'
     |_=>rfl
theorem runC_opsH[Glob](id:Nat)(ops:Array Oper)(s:St):runC C (.region id ops false) s=runG C (preps ops) (holesA (C.holes s.fn id) s):=by
 rw[runC_region,runG_ops]; rfl
theorem runC_ops[Glob][NoNils C](id:Nat)(ops:Array Oper)(s:St):runC C (.region id ops false) s=runG C (preps ops) s:=by
 rw[runC_opsH,NoNils.holes (C:=C)]; rfl
theorem runG_nil[Glob](s:St):runG C [] s=some (.norm s):=rfl
noncomputable def thenG[Glob](C:Ctx)(l:List (G×Oper)):Out→Option Out
 |.norm s=>runG C l s
 |r=>some r
theorem runG_always[Glob](o:Oper)(l:List (G×Oper))(s:St):runG C ((.always,o)::l) s=(runO C o s).bind (thenG C l):=by
 simp only[runG,wantG]
 congr 1
end Go.PI
namespace Go.PI
variable {C:Ctx}
theorem run_opt(hp:AHeap)(x:Option AV):(match x with|some x=>(pure ⟨x,[]⟩:RM Eff)|none=>RM.fail).run hp=x.map fun x=>⟨x,[]⟩:=by
 cases x<;>rfl
section
variable {P:Program}{nm:Nat}{ev:Operand→AV}{dst:Option Tmp}{type:TypeId}{pos:String}{after:Array Edge}{guard:Option (Nat×Bool)}{hp:AHeap}
theorem op_move{x:Operand}:(opEff P nm ev ⟨dst,.move x,type,pos,after,guard⟩).run hp=some ⟨ev x,[]⟩:=rfl
theorem op_assign{x:Operand}:(opEff P nm ev ⟨dst,.assign x,type,pos,after,guard⟩).run hp=some ⟨ev x,[]⟩:=rfl
theorem op_bin[Glob]{op:BinOp}{t yt:TypeId}{x y:Operand}:(opEff P nm ev ⟨dst,.binOp op t x y yt,type,pos,after,guard⟩).run hp=(binA P op t x y (ev x) (ev y)).map fun x=>⟨x,[]⟩:=run_opt _ _
end
section
variable {dst:Option Tmp}{type:TypeId}{pos:String}{after:Array Edge}{guard:Option (Nat×Bool)}{s:St}
theorem ro_move[Glob][NoNils C]{x:Operand}:runO C ⟨dst,.move x,type,pos,after,guard⟩ s=((opEff C.P s.hp.length (evalA s.fr) ⟨dst,.move x,type,pos,after,guard⟩).run s.hp).bind (doneE ⟨dst,.move x,type,pos,after,guard⟩ s):=runO_plain0 rfl s
theorem ro_buildSlice[Glob][NoNils C]{t:TypeId}{n:Nat}{ps:Array (Nat×Operand)}:runO C ⟨dst,.buildSlice t n ps,type,pos,after,guard⟩ s=((opEff C.P s.hp.length (evalA s.fr) ⟨dst,.buildSlice t n ps,type,pos,after,guard⟩).run s.hp).bind (doneE ⟨dst,.buildSlice t n ps,type,pos,after,guard⟩ s):=runO_plain0 rfl s
theorem ro_load[Glob][NoNils C]{t:TypeId}{x:Operand}:runO C ⟨dst,.load t x,type,pos,after,guard⟩ s=((opEff C.P s.hp.length (evalA s.fr) ⟨dst,.load t x,type,pos,after,guard⟩).run s.hp).bind (doneE ⟨dst,.load t x,type,pos,after,guard⟩ s):=runO_plain0 rfl s
theorem ro_binOp[Glob][NoNils C]{o:BinOp}{t u:TypeId}{x y:Operand}:runO C ⟨dst,.binOp o t x y u,type,pos,after,guard⟩ s=((opEff C.P s.hp.length (evalA s.fr) ⟨dst,.binOp o t x y u,type,pos,after,guard⟩).run s.hp).bind (doneE ⟨dst,.binOp o t x y u,type,pos,after,guard⟩ s):=runO_plain0 rfl s
theorem ro_slice[Glob][NoNils C]{t:TypeId}{x:Operand}{a b c:Option Operand}:runO C ⟨dst,.slice t x a b c,type,pos,after,guard⟩ s=((opEff C.P s.hp.length (evalA s.fr) ⟨dst,.slice t x a b c,type,pos,after,guard⟩).run s.hp).bind (doneE ⟨dst,.slice t x a b c,type,pos,after,guard⟩ s):=runO_plain0 rfl s
theorem ro_indexAddr[Glob][NoNils C]{t:TypeId}{x y:Operand}:runO C ⟨dst,.indexAddr t x y,type,pos,after,guard⟩ s=((opEff C.P s.hp.length (evalA s.fr) ⟨dst,.indexAddr t x y,type,pos,after,guard⟩).run s.hp).bind (doneE ⟨dst,.indexAddr t x y,type,pos,after,guard⟩ s):=runO_plain0 rfl s
theorem ro_builtin[Glob][NoNils C]{b:Builtin}{as:Array Operand}{ts:Array TypeId}:runO C ⟨dst,.call ⟨.builtin b,as,ts⟩,type,pos,after,guard⟩ s=((opEff C.P s.hp.length (evalA s.fr) ⟨dst,.call ⟨.builtin b,as,ts⟩,type,pos,after,guard⟩).run s.hp).bind (doneE ⟨dst,.call ⟨.builtin b,as,ts⟩,type,pos,after,guard⟩ s):=runO_plain0 rfl s
theorem ro_asTmp[Glob][NoNils C]{t:Tmp}:runO C ⟨dst,.assign (.tmp t),type,pos,after,guard⟩ s=((opEff C.P s.hp.length (evalA s.fr) ⟨dst,.assign (.tmp t),type,pos,after,guard⟩).run s.hp).bind (doneE ⟨dst,.assign (.tmp t),type,pos,after,guard⟩ s):=runO_plain0 rfl s
theorem ro_asInt[Glob][NoNils C]{k:IntKind}{n:Int}:runO C ⟨dst,.assign (.const (.int k n)),type,pos,after,guard⟩ s=((opEff C.P s.hp.length (evalA s.fr) ⟨dst,.assign (.const (.int k n)),type,pos,after,guard⟩).run s.hp).bind (doneE ⟨dst,.assign (.const (.int k n)),type,pos,after,guard⟩ s):=runO_plain0 rfl s
end
end Go.PI
namespace Go.PI
variable {C:Ctx}
theorem tup_one{x:AV}:tupOf [x]=x:=rfl
theorem res_nil{P:Program}{fr:List AV}{hp:AHeap}:(resultsL P fr []).run hp=some []:=rfl
theorem res_tmp[Glob]{P:Program}{fr:List AV}{hp:AHeap}{t:Tmp}{rs:List ResultVar}:(resultsL P fr (.tmp t::rs)).run hp=((resultsL P fr rs).run hp).map fun l=>fr.getD t .undef::l:=by
 simp only[resultsL,resultA,RM.run_bind]
 show (some (fr.getD t .undef)).bind _=_
 simp only[Option.bind_some]
 cases (resultsL P fr rs).run hp<;>rfl
theorem app_nil{hp:AHeap}:applyWr hp []=hp:=rfl
theorem app_cons{hp:AHeap}{n:Nat}{o:AObj}{l:List (Nat×AObj)}:applyWr hp ((n,o)::l)=applyWr (setObj hp n o) l:=rfl
theorem setObj_new{hp:AHeap}{n:Nat}{o:AObj}(h:n=hp.length):setObj hp n o=hp++[some o]:=by simp[setObj,h]
def fieldAddrA:Option (Nat×TyRow)→AV→Option Eff
 |some (off,_),.ref n ver i j=>some ⟨.ref n ver i (j+off),[]⟩
 |some (off,_),.eref e j=>some ⟨.eref e (j+off),[]⟩
 |_,_=>none
def oneE(x:Option AV):Option Eff:=x.map fun x=>⟨x,[]⟩
def loadV(r:TyRow)(hp:AHeap):AV→Option AV
 |.ref n ver i j=>match hp[n]? with
  |some (some (.arr _ _ _ es))=>if es.length=ver then (match es[i]? with|some e=>partA r.isAgg r.size e j|none=>none) else none
  |_=>none
 |.eref e j=>partA r.isAgg r.size e j
 |_=>none
theorem load_run[Glob]{P:Program}{t:TypeId}{r:TyRow}(ht:tyOf P t=some r){hp:AHeap}{a:AV}:(loadA P t a).run hp=loadV r hp a:=by
 unfold loadA loadV
 rw[ht]
 simp only
 cases a with
 |ref n ver i j=>
  simp only[RM.arr]
  show (RM.bind (.get n _) _).run hp=_
  simp only[RM.bind,RM.run]
  cases hp[n]? with
  |none=>rfl
  |some o=>
   cases o with
   |none=>rfl
   |some o=>
    cases o with
    |oth _ _=>rfl
    |arr g c f es=>
     simp only
     split
     ·simp only[RM.bind]
      cases es[i]? with
      |none=>rfl
      |some e=>simp only[RM.run_ofOpt]
     ·rfl
 |eref e j=>simp only[RM.run_ofOpt]
 |_=>rfl
section
variable {P:Program}{nm:Nat}{ev:Operand→AV}{dst:Option Tmp}{type:TypeId}{pos:String}{after:Array Edge}{guard:Option (Nat×Bool)}{hp:AHeap}
theorem op_load[Glob]{t:TypeId}{x:Operand}{r:TyRow}(ht:tyOf P t=some r):(opEff P nm ev ⟨dst,.load t x,type,pos,after,guard⟩).run hp=oneE (loadV r hp (ev x)):=by
 rw[←load_run (P:=P) (t:=t) ht]
 unfold opEff
 simp only[RM.run_bind]
 cases (loadA P t (ev x)).run hp<;>rfl
end
end Go.PI
namespace Go.PI
variable {C:Ctx}
def pend(hp:AHeap)(args:List AV)(r':AV):Option (Res×List (Nat×AObj)):=
 cond (flat r') (some (.val r',[])) (((freezeR 1000 (namesL args)).run hp).map fun w=>(.val r',w))
theorem pdone_val[Glob]{hp hpf:AHeap}{args:List AV}{r:AV}:pdone hp args (.val r,hpf)=((sealV 1000 r).run hpf).bind (pend hp args):=by
 simp only[pdone,pureOut]
 cases hq:(sealV 1000 r).run hpf with
 |none=>rfl
 |some r'=>
  simp only[Option.bind_some,pend]
  cases flat r' with
  |true=>rfl
  |false=>
   simp only[Bool.false_eq_true,if_false,RM.run_bind,cond_false]
   cases (freezeR 1000 (namesL args)).run hp<;>rfl
theorem resolve_fn{f:FuncId}{args:List AV}:resolveA (.lit (.func (.func f) #[] #[])) args=some (f,args):=by
 simp[resolveA]
end Go.PI
namespace Go.PI
variable {C:Ctx}
theorem ifA_tt[Glob]{a b:Code}{s:St}:ifA C a b s (.lit (.bool true))=runC C a s:=rfl
theorem ifA_ff[Glob]{a b:Code}{s:St}:ifA C a b s (.lit (.bool false))=runC C b s:=rfl
end Go.PI
namespace Go.PI
variable {C:Ctx}
theorem loop_run[Glob]{b:Code}(Inv:Nat→St→Prop)(Post:Out→Prop)
  (step:∀ k s,Inv k s→(∃ s',runC C b s=some (.norm s')∧∃ k',k'<k∧Inv k' (resetA s.hp.length s'))∨(∃ o,runC C b s=some o∧(∀ s',o≠.norm s')∧Post o)) :
  ∀ k s,Inv k s→∃ o,runC C (.loop b) s=some o∧Post o:=by
 intro k
 induction k using Nat.strongRecOn with
 |ind k ih=>
  intro s hs
  rcases step k s hs with ⟨s',h1,k',hk,hi⟩|⟨o,h1,h2,h3⟩
  ·obtain⟨o,h4,h5⟩:=ih k' hk _ hi
   refine⟨o,?_,h5⟩
   rw[runC_loop,h1]
   exact h4
  ·refine⟨o,?_,h3⟩
   rw[runC_loop,h1]
   cases o with
   |norm s'=>exact absurd rfl (h2 s')
   |_=>rfl
theorem loop_bind[Glob]{b:Code}{s:St}{β:Type}{K:Out→Option β}{r:Option β}(Inv:Nat→St→Prop)(Post:Out→Prop)(k0:Nat)(h0:Inv k0 s)
  (step:∀ k s,Inv k s→(∃ s',runC C b s=some (.norm s')∧∃ k',k'<k∧Inv k' (resetA s.hp.length s'))∨(∃ o,runC C b s=some o∧(∀ s',o≠.norm s')∧Post o))
  (fin:∀ o,Post o→K o=r):(runC C (.loop b) s).bind K=r:=by
 obtain⟨o,h1,h2⟩:=loop_run Inv Post step k0 s h0
 rw[h1]
 exact fin o h2
def loadN(agg:Bool)(size:Nat)(hp:AHeap):AV→Option AV
 |.ref n ver i j=>match hp[n]? with
  |some (some (.arr _ _ _ es))=>if es.length=ver then (match es[i]? with|some e=>partA agg size e j|none=>none) else none
  |_=>none
 |.eref e j=>partA agg size e j
 |_=>none
theorem loadV_N{r:TyRow}{agg:Bool}{size:Nat}(h1:r.isAgg=agg)(h2:r.size=size)(hp:AHeap)(a:AV):loadV r hp a=loadN agg size hp a:=by
 subst h1 h2
 cases a<;>rfl
def sliceIxA(agg:Bool)(size:Nat)(i:Nat):AV→Option AV
 |.sl xs=>match xs[i]? with
  |some e=>if okElem agg size e=true then some (.eref e 0) else none
  |none=>none
 |.slx xs _=>match xs[i]? with
  |some e=>if okElem agg size e=true then some (.eref e 0) else none
  |none=>none
 |.osl esz n ver off len _=>if i<len∧0<size∧esz=size then some (.ref n ver (off+i) 0) else none
 |.asl n ver k j len _=>if i<len then some (.ref n ver k (j+i*size)) else none
 |_=>none
theorem asNat_cast{k:IntKind}{n:Nat}:asNat (.lit (.int k (n:Int)))=some n:=by simp[asNat]
def restE(P:Program)(nm:Nat)(ev:Operand→AV)(o:Oper)(hp:AHeap):Option Eff:=(opEff P nm ev o).run hp
def lenE(d:Option Eff):AV→Option Eff
 |.sl xs=>some ⟨int xs.length,[]⟩
 |.slx xs _=>some ⟨int xs.length,[]⟩
 |.osl _ _ _ _ len _=>some ⟨int len,[]⟩
 |.asl _ _ _ _ len _=>some ⟨int len,[]⟩
 |_=>d
theorem ix_slice{P:Program}{t:TypeId}{r:TyRow}(h:sliceElem P t=some r)(ha:arrayElem P t=none)(x ix:AV):
  indexAddrA P t x ix=(asNat ix).bind fun i=>sliceIxA r.isAgg r.size i x:=by
 unfold indexAddrA
 cases asNat ix with
 |none=>rfl
 |some i=>
  simp only[Option.bind_some,h,ha]
  cases x with
  |sl xs=>simp only[sliceIxA]; cases xs[i]?<;>rfl
  |slx xs c=>simp only[sliceIxA]; cases xs[i]?<;>rfl
  |_=>rfl
section
variable {P:Program}{nm:Nat}{ev:Operand→AV}{dst:Option Tmp}{type:TypeId}{pos:String}{after:Array Edge}{guard:Option (Nat×Bool)}{hp:AHeap}
theorem op_indexAddr[Glob]{t:TypeId}{x y:Operand}:(opEff P nm ev ⟨dst,.indexAddr t x y,type,pos,after,guard⟩).run hp=oneE (indexAddrA P t (ev x) (ev y)):=run_opt _ _
theorem op_len{t type:TypeId}{x:Operand}(h:isSliceTy P t=true):(opEff P nm ev ⟨dst,.call ⟨.builtin .len,#[x],#[t]⟩,type,pos,after,guard⟩).run hp =
  lenE (restE P nm ev ⟨dst,.call ⟨.builtin .len,#[x],#[t]⟩,type,pos,after,guard⟩ hp) (ev x):=by
 cases hx:ev x with
 |sl xs=>simp[opEff,builtinA,hx,h,lenA,lenE]; rfl
 |slx xs c=>simp[opEff,builtinA,hx,h,lenA,lenE]; rfl
 |osl a b c d e f=>simp[opEff,builtinA,hx,h,lenA,lenE]; rfl
 |asl a b c d e f=>simp[opEff,builtinA,hx,h,lenA,lenE]; rfl
 |_=>rfl
end
end Go.PI
namespace Go.PI
variable {C:Ctx}
theorem andThen_norm[Glob]{b:Code}{s:St}:andThen C b (.norm s)=runC C b s:=rfl
theorem andThen_exit[Glob]{b:Code}{s:St}{i:Nat}:andThen C b (.exit i s)=some (.exit i s):=rfl
theorem thenG_norm[Glob]{l:List (G×Oper)}{s:St}:thenG C l (.norm s)=runG C l s:=rfl
theorem blockA_norm{i:Nat}{s:St}:blockA i (.norm s)=some (.norm s):=rfl
theorem blockA_eq{i:Nat}{s:St}:blockA i (.exit i s)=some (.norm s):=by simp[blockA]
theorem endF_ret{rs:Array ResultVar}{s:St}:endF C rs (.ret s)=((resultsL C.P s.fr rs.toList).run s.hp).map fun l=>(.val (tupOf l),s.hp):=rfl
theorem reset_eq{n:Nat}{s:St}(h:(s.hp.take n).all (oBelow n)=true):resetA n s=⟨s.fn,s.fr.map (forget n),s.hp.take n⟩:=by
 simp[resetA,h]
theorem forget_eq{n:Nat}{v:AV}(h:below n v=true):forget n v=v:=by simp[forget,h]
end Go.PI
namespace Go.PI
theorem lenE_sl{d:Option Eff}{xs:List AV}:lenE d (.sl xs)=some ⟨int xs.length,[]⟩:=rfl
end Go.PI
namespace Go.PI
end Go.PI
end
section
/- PI, calls whose argument may be a nil slice or not: both are looked at. -/
namespace Go.PI
end Go.PI
end
section
/- PI, the laws: what a law's own call comes to. -/
namespace Go.PI
open Go.RowKit
theorem law_calls[Glob]{C:Ctx}(hok:C.Ok){f:FuncId}{args:List AV}{hp':AHeap}(h:runF C f args []=some (.val (.lit (.bool true)),hp'))
  {W:World} (hg:GlobOk (Env.all W)) {vs:List Value} (ha:RepT (Env.all W) false args vs) :
  Calls C.P f vs.toArray W fun e w'=>e=.returned (.bool true)∧Below W.heap.size W w':=by
 obtain⟨k,hk⟩:=(lim_some (growF C f args [])).1 h
 refine((sound hok k).1 f args [] _ _ hk (Env.all W) W vs (all_inv W hg) ha.widen).mono fun e w' hpost=>?_
 obtain⟨E',_,_,hfr,hres⟩:=hpost
 refine⟨?_,hfr.os,hfr.tape,hfr.out,hfr.size,fun b hb=>hfr.same b hb (fun h=>h.elim)⟩
 cases e with
 |returned v=>simp only[ResOk,Rep]at hres; rw[hres]
 |panicked ch=>exact hres.elim
 |outgrown=>exact hres.elim
end Go.PI
end
section
/- PS, part A: symbolic values over the abstract ones, with typed lists of open length, and the operations on them (definitions only). -/
namespace Go.PI
def All2{α β:Type}(P:α→β→Prop):List α→List β→Prop
 |[],[]=>True
 |x::xs,y::ys=>P x y∧All2 P xs ys
 |_,_=>False
def castL{den:Nat→Type}{t t':Nat}(h:t=t')(l:List (den t)):List (den t'):=h▸l
def KK.D:KK→Type
 |.int _=>Int
 |.str=>ByteArray
 |.bool=>Bool
def KK.v:(kk:KK)→kk.D→Value
 |.int q,k=>.int q k
 |.str,k=>.string k
 |.bool,k=>.bool k
def KK.get:(kk:KK)→Value→Option kk.D
 |.int q,v=>(match v with
  |.int q' k=>if q=q' then some k else none
  |_=>none)
 |.str,v=>(match v with
  |.string k=>some k
  |_=>none)
 |.bool,v=>(match v with
  |.bool k=>some k
  |_=>none)
def KK.beq:(kk:KK)→kk.D→kk.D→Bool
 |.int _,(a:Int),(b:Int)=>a==b
 |.str,(a:ByteArray),(b:ByteArray)=>a==b
 |.bool,(a:Bool),(b:Bool)=>a==b
def mapGet(kk:KK){α:Type}:List (kk.D×α)→kk.D→Option α
 |[],_=>none
 |(k',v)::r,k=>cond (kk.beq k k') (some v) (mapGet kk r k)
def mapPut(kk:KK){α:Type}:List (kk.D×α)→kk.D→α→List (kk.D×α)
 |[],k,v=>[(k,v)]
 |(k',v')::r,k,v=>cond (kk.beq k k') ((k',v)::r) ((k',v')::mapPut kk r k v)
deriving instance DecidableEq for LSt
inductive SV(den:Nat→Type):Type where
 |dead
 |hole
 |lit (v:Value)
 |agg (l:List (SV den))
 |tup (l:List (SV den))
 |sl (xs:List (SV den))
 |tsl (t:Nat) (l:List (den t))
 |eref (e:SV den) (j:Nat)
 |ref (n c i j:Nat)
 |asl (n c i j len cap:Nat)
 |osl (esz n c:Nat) (rg:Option (Nat×Nat)) (cap:Option Nat)
 |clo (fn:Fn) (first captured:List (SV den))
 |ifc (t:TypeId) (v:SV den)
 |mp (y:Bool) (n:Nat)
 |xat (v:SV den) (stride len i:Nat)
 |tsx (t:Nat) (l:List (den t)) (cap:Nat) (b:Bool)
 |nz
instance {den:Nat→Type}:Inhabited (SV den):=⟨.dead⟩
inductive SObj(den:Nat→Type):Type where
 |arr (grow cl fz:Bool) (cur:Nat) (es:List (SV den))
 |tarr (grow fz:Bool) (cur:Nat) (t:Nat) (l:List (den t))
 |junk
 |tmap (kk:KK) (t:Nat) (m:List (kk.D×den t))
 |recd (fn:FuncId) (ps:Array Tmp) (as bd:Code) (fr:List (SV den))
abbrev SHeap(den:Nat→Type):=List (Option (SObj den))
abbrev SFr(den:Nat→Type):=List (Nat×SV den)
structure SSt(den:Nat→Type)where
 fn:FuncId
 n:Nat
 fr:SFr den
 hp:SHeap den
 wf:List Nat
 wh:List Nat
 js:List (Nat×LSt)
inductive SOut(den:Nat→Type)where
 |norm (s:SSt den)
 |exit (id:Nat) (s:SSt den)
 |ret (s:SSt den)
inductive Tr:Type→Type 1 where
 |ret {ρ:Type} (r:ρ):Tr ρ
 |fail {ρ:Type}:Tr ρ
 |cond {ρ:Type} (b:Bool) (x y:Tr ρ):Tr ρ
 |bind {ρ α:Type} (e:Option α) (k:α→Tr ρ):Tr ρ
 |loop {ρ τ ω:Type} (f:τ→Tr (τ ⊕ ω)) (x:τ) (k:ω→Tr ρ):Tr ρ
 |sum {ρ α β:Type} (e:α ⊕ β) (k:α→Tr ρ) (l:β→Tr ρ):Tr ρ
 |no {ρ:Type} (why:String):Tr ρ
 |need {ρ:Type} {den:Nat→Type} (s:SSt den) (b:Code):Tr ρ
 |bad {ρ:Type} {den:Nat→Type} (key:Nat) (kind:Option (Option Nat)) (s0 s:SSt den):Tr ρ
def loopN{τ ω:Type}(f:τ→Option (τ ⊕ ω)):Nat→τ→Option ω
 |0,_=>none
 |n+1,x=>match f x with
  |some (.inl y)=>loopN f n y
  |some (.inr w)=>some w
  |none=>none
noncomputable def loopM{τ ω:Type}(f:τ→Option (τ ⊕ ω))(x:τ):Option ω:=
 match loopN f 4096 x with
 |some w=>some w
 |none=>lim fun n=>loopN f n x
noncomputable def Tr.run{ρ:Type}:Tr ρ→Option ρ
 |.ret r=>some r
 |.fail|.no _|.need _ _|.bad _ _ _ _=>none
 |.cond b x y=>_root_.cond b x.run y.run
 |.bind e k=>_root_.Option.bind e fun a=>(k a).run
 |.loop f x k=>_root_.Option.bind (loopM (fun x=>(f x).run) x) fun w=>(k w).run
 |.sum e k l=>Sum.elim (fun a=>(k a).run) (fun b=>(l b).run) e
structure Tys where
 den:Nat→Type
 up:(t:Nat)→den t→SV den
 dn:(t:Nat)→SV den→Option (den t)
 rp:(t:Nat)→den t→AV→Prop
 agg:Nat→Bool
 size:Nat→Nat
 zero:(t:Nat)→Option (den t)
section
variable {den:Nat→Type}
def SObj.cur:SObj den→Nat
 |.arr _ _ _ c _=>c
 |.tarr _ _ c _ _=>c
 |_=>0
def SObj.len:SObj den→Nat
 |.arr _ _ _ _ es=>es.length
 |.tarr _ _ _ _ l=>l.length
 |_=>0
def constS:Value→SV den
 |.agg c=>if c.toList.all (fun v=>isLeaf (.lit v))=true then .agg (c.toList.map .lit) else .dead
 |.tuple c=>.tup (c.toList.map .lit)
 |v=>.lit v
def getF:SFr den→Nat→SV den
 |[],_=>.lit undef
 |(d,v)::r,t=>match Nat.beq d t with
  |true=>v
  |false=>getF r t
def evalS[Glob](fr:SFr den):Operand→SV den
 |.tmp t=>getF fr t
 |.const v=>constS v
 |.global g=>(match Glob.g g with
  |none=>.lit (.pointer (some ⟨g,0,none⟩))
  |some c=>.eref (.agg (c.toList.map .lit)) 0)
 |.func f=>.lit (.func (.func f) #[] #[])
def setF(n:Nat)(fr:SFr den)(d:Nat)(v:SV den):SFr den:=
 match Nat.ble n d with
 |true=>fr
 |false=>(d,v)::fr
def putS(n:Nat)(fr:SFr den)(dst:Option Tmp)(v:SV den):SFr den:=
 match dst with
 |some d=>setF n fr d v
 |none=>fr
def argsF:Nat→List (SV den)→SFr den
 |_,[]=>[]
 |d,v::r=>(d,v)::argsF (d+1) r
def setObjS(hp:SHeap den)(n:Nat)(o:SObj den):SHeap den:=
 if n=hp.length then hp++[some o] else hp.set n (some o)
def applyWrS(hp:SHeap den):List (Nat×SObj den)→SHeap den
 |[]=>hp
 |(n,o)::r=>applyWrS (setObjS hp n o) r
def isDead:SV den→Bool
 |.dead=>true
 |_=>false
def isLeafS:SV den→Bool
 |.lit v=>match v with
  |.agg _|.tuple _=>false
  |_=>true
 |.agg _|.tup _|.dead|.hole=>false
 |_=>true
mutual
def closedS:SV den→Bool
 |.lit _|.sl _|.tsl _ _|.eref _ _|.tsx _ _ _ _=>true
 |.agg l|.tup l=>closedLS l
 |.ifc _ v=>closedS v
 |.xat v _ _ _=>closedS v
 |.clo _ f c=>closedLS f&&closedLS c
 |_=>false
def closedLS:List (SV den)→Bool
 |[]=>true
 |x::xs=>closedS x&&closedLS xs
end
mutual
def flatS:SV den→Bool
 |.lit _=>true
 |.agg l|.tup l=>flatLS l
 |.ifc _ v=>flatS v
 |_=>false
def flatLS:List (SV den)→Bool
 |[]=>true
 |x::xs=>flatS x&&flatLS xs
end
mutual
def belowS(n:Nat):SV den→Bool
 |.lit _|.sl _|.tsl _ _|.eref _ _|.tsx _ _ _ _|.hole|.nz=>true
 |.agg l|.tup l=>belowLS n l
 |.ifc _ v=>belowS n v
 |.clo _ f c=>belowLS n f&&belowLS n c
 |.xat v _ _ _=>belowS n v
 |.ref m _ _ _|.asl m _ _ _ _ _|.osl _ m _ _ _|.mp _ m=>decide (m<n)
 |.dead=>false
def belowLS(n:Nat):List (SV den)→Bool
 |[]=>true
 |x::xs=>belowS n x&&belowLS n xs
end
def oBelowS(n:Nat):Option (SObj den)→Bool
 |some (.arr _ cl _ _ es)=>cl||belowLS n es
 |some (.tarr ..)=>true
 |some .junk=>true
 |some (.tmap ..)=>true
 |some (.recd _ _ _ _ fr)=>fr.all fun v=>isDead v||belowS n v
 |none=>true
mutual
def namesS:SV den→List Nat
 |.ref n _ _ _|.asl n _ _ _ _ _|.osl _ n _ _ _|.mp _ n=>[n]
 |.xat v _ _ _=>namesS v
 |.agg l|.tup l=>namesLS l
 |.ifc _ v=>namesS v
 |.clo _ f c=>namesLS f++namesLS c
 |_=>[]
def namesLS:List (SV den)→List Nat
 |[]=>[]
 |x::xs=>namesS x++namesLS xs
end
def cellsS:SV den→List (SV den)
 |.agg l=>l
 |.lit v=>v.cells.toList.map .lit
 |x=>[x]
def litsS:List (SV den)→Option (List Value)
 |[]=>some []
 |.lit v::r=>(litsS r).map (v::·)
 |_=>none
def plainS:SV den→Option AV
 |.lit v=>some (.lit v)
 |.agg l=>(litsS l).map fun c=>.agg (c.map .lit)
 |_=>none
def partS(agg:Bool)(size:Nat)(e:SV den)(j:Nat):Option (SV den):=
 match e with
 |.agg l=>
  if agg then (if j+size≤l.length then some (.agg ((l.drop j).take size)) else none)
  else l[j]?
 |x=>if !agg&&isLeafS x&&decide (j=0) then some x else none
def setCellsS(l:List (SV den))(j:Nat):List (SV den)→List (SV den)
 |[]=>l
 |x::xs=>setCellsS (l.set j x) (j+1) xs
def setPartS(e:SV den)(j:Nat)(cs:List (SV den)):Option (SV den):=
 match e with
 |.agg l=>if j+cs.length≤l.length then some (.agg (setCellsS l j cs)) else none
 |x=>match cs with
  |[y]=>if isLeafS x&&decide (j=0) then some y else none
  |_=>none
def fillS(place:Nat→Option (Nat×Nat))(cells:List (SV den)):List (Nat×SV den)→Option (List (SV den))
 |[]=>some cells
 |(i,v)::rest=>
  match place i with
  |none=>none
  |some (off,size)=>
   if (cellsS v).length=size∧off+size≤cells.length∧(cellsS v).all isLeafS=true then
    fillS place (setCellsS cells off (cellsS v)) rest
   else none
def okElemS(agg:Bool)(size:Nat)(e:SV den):Bool:=
 match e with
 |.agg l=>agg&&decide (l.length=size)&&l.all isLeafS
 |x=>!agg&&decide (size=1)&&isLeafS x
def ofPlain:AV→Option (SV den)
 |.lit v=>some (.lit v)
 |.agg l=>(litsOf l).map fun c=>.agg (c.map .lit)
 |_=>none
def setPartsS(es:List (SV den)):List (Nat×SV den)→List (SV den)
 |[]=>es
 |(i,v)::r=>setPartsS (es.set i v) r
def notNilS:SV den→Bool
 |.sl xs=>!xs.isEmpty
 |_=>false
def nilEqS(P:Program)(op:BinOp)(t:TypeId)(x:SV den)(nil:Value):Option AV:=
 match nil with
 |.nilIface=>(match x with
  |.ifc _ (.agg _)|.ifc _ (.ref ..)=>if isIfaceTy P t then eqVal op false else none
  |_=>none)
 |.nilFunc=>(match x with
  |.clo _ _ _=>if isFuncTy P t then eqVal op false else none
  |_=>none)
 |.slice none 0 0=>if isSliceTy P t&&notNilS x then eqVal op false else none
 |_=>none
end
inductive CK where
 |bool
 |int (k:IntKind)
 |str
 deriving DecidableEq
inductive MK where
 |slice (e:Nat)
 |array (n e:Nat)
 |struct (fs:List (Nat×Nat))
 |iface
 |other
 deriving DecidableEq
structure MTy where
 agg:Bool
 size:Nat
 bytes:Nat
 zero:Option AV
 kind:MK
 eqk:Option (List CK)
 map:Option (KK×Nat)
structure Prg where
 P:Program
 M:List (Nat×MTy)
 sel:Nat→Bool
def lookS{α:Type}:List (Nat×α)→Nat→Option α
 |[],_=>none
 |(m,a)::r,n=>match Nat.beq m n with
  |true=>some a
  |false=>lookS r n
def look2{α:Type}:List (Nat×Nat×α)→Nat→Nat→Option α
 |[],_,_=>none
 |(m,m',a)::r,n,n'=>match Nat.beq m n&&Nat.beq m' n' with
  |true=>some a
  |false=>look2 r n n'
namespace Prg
def ty(Q:Prg)(t:Nat):Option MTy:=lookS Q.M t
def elemOf(Q:Prg)(t:Nat):Option (Nat×MTy):=
 match Q.ty t with
 |some m=>match m.kind with
  |.slice e=>(Q.ty e).map fun r=>(e,r)
  |_=>none
 |none=>none
def elem(Q:Prg)(t:Nat):Option MTy:=(Q.elemOf t).map (·.2)
def arr(Q:Prg)(t:Nat):Option (Nat×MTy):=
 match Q.ty t with
 |some m=>match m.kind with
  |.array n e=>(Q.ty e).map fun r=>(n,r)
  |_=>none
 |none=>none
def fld(Q:Prg)(t f:Nat):Option (Nat×MTy):=
 match Q.ty t with
 |some m=>match m.kind with
  |.struct fs=>match fs[f]? with
   |some (off,e)=>match Q.ty e with
    |some r=>if r.size=0 then none else some (off,r)
    |none=>none
   |none=>none
  |_=>none
 |none=>none
def mapOf(Q:Prg)(t:Nat):Option (KK×Nat):=(Q.ty t).bind (·.map)
def isSlice(Q:Prg)(t:Nat):Option Bool:=
 match Q.ty t with
 |some m=>match m.kind with
  |.slice _=>some true
  |_=>some false
 |none=>none
def places(Q:Prg):List (Nat×Nat)→Option (List (Nat×Nat))
 |[]=>some []
 |(off,e)::r=>match Q.ty e,places Q r with
  |some m,some l=>some ((off,m.size)::l)
  |_,_=>none
end Prg
inductive VT where
 |v (t:Nat)
 |l (t:Nat)
 |m (kk:KK) (t:Nat)
 deriving DecidableEq
def VT.den(den:Nat→Type):VT→Type
 |.v t=>den t
 |.l t=>List (den t)
 |.m kk t=>List (kk.D×den t)
def HL(den:Nat→Type):List VT→Type
 |[]=>Unit
 |[t]=>t.den den
 |t::u::r=>t.den den×HL den (u::r)
structure TV(den:Nat→Type)where
 t:VT
 x:t.den den
section
variable {den:Nat→Type}
def TV.as(v:TV den)(t:VT):Option (t.den den):=if h:v.t=t then some (h▸v.x) else none
def toHL:(ts:List VT)→List (TV den)→Option (HL den ts)
 |[],l=>(match l with
  |[]=>some ()
  |_::_=>none)
 |[t],l=>(match l with
  |[v]=>v.as t
  |_=>none)
 |t::u::r,l=>(match l with
  |v::l'=>(v.as t).bind fun x=>(toHL (u::r) l').map fun y=>(x,y)
  |[]=>none)
def ofHL:(ts:List VT)→HL den ts→List (TV den)
 |[],_=>[]
 |[t],x=>[⟨t,x⟩]
 |t::u::r,x=>⟨t,x.1⟩::ofHL (u::r) x.2
end
section
variable (T:Tys)
def dnL:(ts:List Nat)→List (SV T.den)→Option (List (TV T.den))
 |[],[]=>some []
 |t::ts,v::vs=>(T.dn t v).bind fun x=>(dnL ts vs).map fun l=>⟨.v t,x⟩::l
 |_,_=>none
def dnAll(t:Nat):List (SV T.den)→Option (List (T.den t))
 |[]=>some []
 |v::vs=>(T.dn t v).bind fun x=>(dnAll t vs).map fun l=>x::l
def upV:TV T.den→SV T.den
 |⟨.v t,x⟩=>T.up t x
 |⟨.l t,x⟩=>.tsl t x
 |⟨.m _ _,_⟩=>.dead
def upL(l:List (TV T.den)):List (SV T.den):=l.map (upV T)
end
def tupS{den:Nat→Type}:List (SV den)→SV den
 |[x]=>x
 |l=>.tup l
structure Summ(T:Tys)where
 args:List Nat
 res:List Nat
 fn:HL T.den (args.map .v)→Option (HL T.den (res.map .v))
inductive Pat where
 |hole
 |ofix (esz n:Nat) (rg:Option (Nat×Nat)) (cap:Option Nat)
 |asl (n i j len cap:Nat)
 |val (t:Nat)
 |own (esz n:Nat)
 |rng (esz n t:Nat) (k:Bool)
inductive OPat where
 |list (t:Nat)
 |fix (t:Nat)
 |one (p:Pat)
 |agg (ps:List Pat)
 |map (kk:KK) (t:Nat)
inductive SExt where
 |junk
 |list (g f:Bool) (t:Nat)
structure HOut where
 kind:Option Nat
 slots:List (Nat×Pat)
 ext:List SExt
 js:List (Nat×LSt)
 more:List (Nat×OPat)
structure Hint where
 slots:List (Nat×Pat)
 dead:List Nat
 objs:List (Nat×OPat)
 outs:List HOut
def Pat.tys:Pat→List VT
 |.hole|.ofix _ _ _ _|.asl _ _ _ _ _=>[]
 |.val t=>[.v t]
 |.own _ _=>[]
 |.rng _ _ t k=>(match k with
  |true=>[.v t,.v t,.v t]
  |false=>[.v t,.v t])
def OPat.tys:OPat→List VT
 |.list t|.fix t=>[.l t]
 |.one p=>p.tys
 |.agg ps=>ps.flatMap Pat.tys
 |.map kk t=>[.m kk t]
def SExt.tys:SExt→List VT
 |.junk=>[]
 |.list _ _ t=>[.l t]
def outObjs(objs more:List (Nat×OPat)):List (Nat×OPat):=objs.filter (fun q=>!(more.map (·.1)).contains q.1)++more
def HOut.tys(objs:List (Nat×OPat))(o:HOut):List VT:=o.slots.flatMap (fun q=>q.2.tys)++((outObjs objs o.more).flatMap (fun q=>q.2.tys)++o.ext.flatMap SExt.tys)
def Hint.tys(h:Hint):List VT:=h.slots.flatMap (fun q=>q.2.tys)++h.objs.flatMap (fun q=>q.2.tys)
def SumD(den:Nat→Type)(objs:List (Nat×OPat)):List HOut→Type
 |[]=>Empty
 |[o]=>HL den (o.tys objs)
 |o::p::r=>HL den (o.tys objs) ⊕ SumD den objs (p::r)
end Go.PI
end
