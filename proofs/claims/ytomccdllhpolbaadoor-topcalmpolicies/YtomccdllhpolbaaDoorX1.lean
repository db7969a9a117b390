/- Part 1 of the proof: texts of this session laid one behind the other. -/
import Derived.Recover
import Derived.Laws.CopyRow
import Derived.DeepKeys
import Derived.Orders
import Derived.Laws.Rows
import Derived.RangeFuncRecord
set_option linter.unusedVariables false
set_option linter.unusedSimpArgs false
section
/- PI, equality of structs and arrays of plain cells. -/
namespace Go.PI
def chunk(P:Program)(cs:List Value)(off:Nat)(t:TypeId):List Value:=(cs.drop off).take (P.cellsOf t)
def eqFieldsA(rec:TypeId→List Value→List Value→Option Bool)(P:Program)(cs cs':List Value):List Field→Option Bool
 |[]=>some true
 | f :: fs => if f.name = "_" then none else
   match rec f.type (chunk P cs f.offset f.type) (chunk P cs' f.offset f.type) with
   |some a=>(eqFieldsA rec P cs cs' fs).map fun b=>a&&b
   |none=>none
def eqItemsA(rec:TypeId→List Value→List Value→Option Bool)(P:Program)(e:TypeId)(cs cs':List Value):List Nat→Option Bool
 |[]=>some true
 |i::is=>
  match rec e (chunk P cs (i*P.cellsOf e) e) (chunk P cs' (i*P.cellsOf e) e) with
  |some a=>(eqItemsA rec P e cs cs' is).map fun b=>a&&b
  |none=>none
def eqIn(P:Program):Nat→TypeId→List Value→List Value→Option Bool
 |0,_,_,_=>none
 |d+1,t,cs,cs'=>
  match P.underlying t with
  |some .bool=>(match cs,cs' with
   |[.bool a],[.bool b]=>some (a==b)
   |_,_=>none)
  |some (.int _)=>(match cs,cs' with
   |[.int k a],[.int k' b]=>if k=k' then some (a==b) else none
   |_,_=>none)
  |some .string=>(match cs,cs' with
   |[.string a],[.string b]=>some (a==b)
   |_,_=>none)
  |some (.array n e)=>if (P.info? e).isSome&&(P.underlying e).isSome then eqItemsA (eqIn P d) P e cs cs' (List.range n) else none
  |some (.struct fs)=>if P.stoodInHeld t then none else eqFieldsA (eqIn P d) P cs cs' fs.toList
  |_=>none
def mkV(P:Program)(t:TypeId)(cs:List Value):Value:=
 match P.underlying t with
 |some (.struct _)|some (.array _ _)=>.agg cs.toArray
 |_=>cs.headD undef
def EqKind(P:Program)(e:TypeId):Prop:=P.plainKey e=true∨(∃ n e',P.underlying e=some (.array n e'))∨∃ fs,P.underlying e=some (.struct fs)
theorem eqIn_kind{P:Program}{d:Nat}{e:TypeId}{c c':List Value}{r:Bool}(h:eqIn P d e c c'=some r):
  EqKind P e∧(P.plainKey e=true→(∃ v,c=[v])∧∃ v,c'=[v]):=by
 cases d with
 |zero=>simp[eqIn]at h
 |succ d=>
  cases hu:P.underlying e with
  |none=>simp[eqIn,hu]at h
  |some kd=>
   cases kd with
   |bool=>
    simp only[eqIn,hu]at h
    split at h
    ·exact⟨.inl (by simp[Program.plainKey,hu]),fun _=>⟨⟨_,rfl⟩,⟨_,rfl⟩⟩⟩
    ·simp at h
   |int q=>
    simp only[eqIn,hu]at h
    split at h
    ·exact⟨.inl (by simp[Program.plainKey,hu]),fun _=>⟨⟨_,rfl⟩,⟨_,rfl⟩⟩⟩
    ·simp at h
   |string=>
    simp only[eqIn,hu]at h
    split at h
    ·exact⟨.inl (by simp[Program.plainKey,hu]),fun _=>⟨⟨_,rfl⟩,⟨_,rfl⟩⟩⟩
    ·simp at h
   |array n e'=>exact⟨.inr (.inl ⟨n,e',hu⟩),fun hp=>by simp[Program.plainKey,hu]at hp⟩
   |struct fs=>exact⟨.inr (.inr ⟨fs,hu⟩),fun hp=>by simp[Program.plainKey,hu]at hp⟩
   |_=>simp[eqIn,hu]at h
theorem part_mk{P:Program}{e:TypeId}{xs:Array Value}{off:Nat}(hk:EqKind P e)(h1:P.plainKey e=true→∃ v,chunk P xs.toList off e=[v])(w:World):
  (part e xs off).run P w=.ok (mkV P e (chunk P xs.toList off e)) w:=by
 have hl:(xs.extract off (off+P.cellsOf e))=(chunk P xs.toList off e).toArray:=by
  grind[chunk]
 rcases hk with hp|⟨n,e',hu⟩|⟨fs,hu⟩
 ·obtain⟨v,hv⟩:=h1 hp
  have hm:mkV P e (chunk P xs.toList off e)=v:=by
   grind[Program.plainKey,mkV]
  rw[hm]
  exact run_part_plain w hp (getElem?_of_chunk hv)
 ·obtain⟨i,hi⟩:=info_of_underlying hu
  simp[part,isAgg,run_underlying hu,run_sizeOf w hi,mkV,hu,hl]
 ·obtain⟨i,hi⟩:=info_of_underlying hu
  simp[part,isAgg,run_underlying hu,run_sizeOf w hi,mkV,hu,hl]
theorem eqFields_ok{P:Program}{rec:TypeId→List Value→List Value→Option Bool}{dd:Nat}{w:World}{xs ys:Array Value}
  (hk:∀ t c c' r,rec t c c'=some r→EqKind P t∧(P.plainKey t=true→(∃ v,c=[v])∧∃ v,c'=[v]))
  (IH:∀ t c c' r,rec t c c'=some r→(Op.equalIn dd t (mkV P t c) (mkV P t c')).run P w=.ok r w) :
  ∀ (fs:List Field) (r:Bool),eqFieldsA rec P xs.toList ys.toList fs=some r→(Op.eqFields dd xs ys fs).run P w=.ok r w
 |[],r,h=>by
  simp_all[eqFieldsA,Op.eqFields]
 |f::fs,r,h=>by
  simp only[eqFieldsA]at h
  split at h
  ·simp at h
  rename_i hn
  split at h
  ·rename_i a ha
   simp only[Option.map_eq_some_iff]at h
   obtain⟨b,hb,rfl⟩:=h
   obtain⟨k1,k2⟩:=hk _ _ _ _ ha
   have p1:=part_mk (xs:=xs) (off:=f.offset) k1 (fun hp=>(k2 hp).1) w
   have p2:=part_mk (xs:=ys) (off:=f.offset) k1 (fun hp=>(k2 hp).2) w
   have p3:=IH _ _ _ _ ha
   have p4:=eqFields_ok hk IH fs b hb
   simp only[Op.eqFields,hn,ne_eq,not_false_eq_true,if_true,Sem.run_bind,p1,p2,p3,Result.andThen_ok]
   cases a
   ·simp
   ·simpa using p4
  ·simp at h
theorem eqItems_ok{P:Program}{rec:TypeId→List Value→List Value→Option Bool}{dd:Nat}{w:World}{xs ys:Array Value}{e:TypeId}
  (hk:∀ t c c' r,rec t c c'=some r→EqKind P t∧(P.plainKey t=true→(∃ v,c=[v])∧∃ v,c'=[v]))
  (IH:∀ t c c' r,rec t c c'=some r→(Op.equalIn dd t (mkV P t c) (mkV P t c')).run P w=.ok r w) :
  ∀ (is:List Nat) (r:Bool),eqItemsA rec P e xs.toList ys.toList is=some r→(Op.eqItems dd e (P.cellsOf e) xs ys is).run P w=.ok r w
 |[],r,h=>by
  simp_all[eqItemsA,Op.eqItems]
 |i::is,r,h=>by
  simp only[eqItemsA]at h
  split at h
  ·rename_i a ha
   simp only[Option.map_eq_some_iff]at h
   obtain⟨b,hb,rfl⟩:=h
   obtain⟨k1,k2⟩:=hk _ _ _ _ ha
   have p1:=part_mk (xs:=xs) (off:=i*P.cellsOf e) k1 (fun hp=>(k2 hp).1) w
   have p2:=part_mk (xs:=ys) (off:=i*P.cellsOf e) k1 (fun hp=>(k2 hp).2) w
   have p3:=IH _ _ _ _ ha
   have p4:=eqItems_ok hk IH is b hb
   simp only[Op.eqItems,Sem.run_bind,p1,p2,p3,Result.andThen_ok]
   cases a
   ·simp
   ·simpa using p4
  ·simp at h
theorem eqIn_ok{P:Program}{w:World}(dd:Nat):∀ (d:Nat) (t:TypeId) (c c':List Value) (r:Bool),eqIn P d t c c'=some r →
  (Op.equalIn (dd+d) t (mkV P t c) (mkV P t c')).run P w=.ok r w
 |0,t,c,c',r,h=>by simp[eqIn]at h
 |d+1,t,c,c',r,h=>by
  have IH:=eqIn_ok (P:=P) (w:=w) dd d
  have hk:∀ t c c' r,eqIn P d t c c'=some r→EqKind P t∧(P.plainKey t=true→(∃ v,c=[v])∧∃ v,c'=[v]):=fun t c c' r h=>eqIn_kind h
  cases hu:P.underlying t with
  |none=>simp[eqIn,hu]at h
  |some kd=>
   cases kd with
   |bool=>
    simp only[eqIn,hu]at h
    split at h
    ·simp only[Option.some.injEq]at h; subst h
     simp[mkV,hu,Op.equalIn,run_underlying hu]
    ·simp at h
   |int q=>
    simp only[eqIn,hu]at h
    split at h
    ·split at h
     ·rename_i hkk
      simp only[Option.some.injEq]at h; subst h
      simp[mkV,hu,Op.equalIn,run_underlying hu,hkk]
     ·simp at h
    ·simp at h
   |string=>
    simp only[eqIn,hu]at h
    split at h
    ·simp only[Option.some.injEq]at h; subst h
     simp[mkV,hu,Op.equalIn,run_underlying hu]
    ·simp at h
   |array n e=>
    simp only[eqIn,hu]at h
    split at h
    ·rename_i hc
     simp only[Bool.and_eq_true]at hc
     obtain⟨i,hi⟩:=Option.isSome_iff_exists.1 hc.1
     have h2:=eqItems_ok (xs:=c.toArray) (ys:=c'.toArray) hk IH (List.range n) r (by simpa using h)
     simp only[mkV,hu]
     rw[←Nat.add_assoc,run_equalIn_array w (dd+d) _ _ hu hi]
     exact h2
    ·simp at h
   |struct fs=>
    simp only[eqIn,hu]at h
    split at h
    ·simp at h
    ·rename_i hs
     have h2:=eqFields_ok (xs:=c.toArray) (ys:=c'.toArray) hk IH fs.toList r (by simpa using h)
     simp only[mkV,hu]
     rw[←Nat.add_assoc,run_equalIn_struct w (dd+d) t _ _ (by simp[Program.fieldsOf,hu]) (by simpa using hs)]
     have hfs:P.fieldsOf t=fs:=by simp[Program.fieldsOf,hu]
     rw[hfs]
     exact h2
   |_=>simp[eqIn,hu]at h
end Go.PI
end
section
/- PI, part A: abstract values, the reading monad and the evaluator of the model's code over abstract values (definitions only). -/
namespace Go.PI
class Glob where
 g:Nat→Option (Array Value)
 own:Nat→Bool:=fun _=>false
inductive AV where
 |lit (v:Value)
 |agg (l:List AV)
 |tup (l:List AV)
 |sl (xs:List AV)
 |slx (xs:List AV) (cap:Nat)
 |eref (e:AV) (j:Nat)
 |ref (n ver i j:Nat)
 |osl (esz n ver off len:Nat) (cap:Option Nat)
 |asl (n ver i j len cap:Nat)
 |clo (fn:Fn) (first captured:List AV)
 |ifc (t:TypeId) (v:AV)
 |mp (y:Bool) (n:Nat)
 |any
 |nz
 deriving Inhabited
abbrev AV.undef:AV:=.lit Go.undef
def globA(g:Nat):Option (Array Value)→AV
 |none=>.lit (.pointer (some ⟨g,0,none⟩))
 |some c=>.eref (.agg (c.toList.map .lit)) 0
inductive KK where
 |int (k:IntKind)
 |str
 |bool
 deriving DecidableEq
inductive LSt where
 |ready
 |busy
 |jump (j:Option Nat)
 |over
inductive OKind where
 |map (kk:KK) (keys:List Value)
 |loop (fn:FuncId) (ps:Array Tmp) (as bd:Code) (st:LSt)
inductive AObj where
 |arr (grow cl fz:Bool) (es:List AV)
 |oth (k:OKind) (vs:List AV)
instance:Inhabited AObj:=⟨.arr false false false []⟩
abbrev AHeap:=List (Option AObj)
def cellsOf:AV→List AV
 |.agg l=>l
 |.lit v=>v.cells.toList.map .lit
 |x=>[x]
def ofVal:Value→AV
 |.agg c=>.agg (c.toList.map .lit)
 |.tuple c=>.tup (c.toList.map .lit)
 |v=>.lit v
def ofPure:Value→Option AV
 |.agg _|.tuple _=>none
 |v=>some (.lit v)
mutual
def closed:AV→Bool
 |.lit _|.sl _|.slx _ _|.eref _ _=>true
 |.agg l|.tup l=>closedL l
 |.ifc _ v=>closed v
 |.clo _ f c=>closedL f&&closedL c
 |_=>false
def closedL:List AV→Bool
 |[]=>true
 |x::xs=>closed x&&closedL xs
end
mutual
def flat:AV→Bool
 |.lit _=>true
 |.agg l|.tup l=>flatL l
 |.ifc _ v=>flat v
 |_=>false
def flatL:List AV→Bool
 |[]=>true
 |x::xs=>flat x&&flatL xs
end
mutual
def below(n:Nat):AV→Bool
 |.lit _|.sl _|.slx _ _|.eref _ _|.any|.nz=>true
 |.agg l|.tup l=>belowL n l
 |.ifc _ v=>below n v
 |.clo _ f c=>belowL n f&&belowL n c
 |.ref m _ _ _|.osl _ m _ _ _ _|.asl m _ _ _ _ _|.mp _ m=>decide (m<n)
def belowL(n:Nat):List AV→Bool
 |[]=>true
 |x::xs=>below n x&&belowL n xs
end
def AObj.below(n:Nat):AObj→Bool
 |.arr _ cl _ es=>cl||belowL n es
 |.oth _ vs=>belowL n vs
def oBelow(n:Nat):Option AObj→Bool
 |some o=>o.below n
 |none=>true
def isLeaf:AV→Bool
 |.lit v=>match v with
  |.agg _|.tuple _=>false
  |_=>true
 |.agg _|.tup _|.any=>false
 |_=>true
def litsOf:List AV→Option (List Value)
 |[]=>some []
 |.lit v::r=>(litsOf r).map (v::·)
 |_=>none
def toVal?:AV→Option Value
 |.lit v=>some v
 |.agg l=>(litsOf l).map fun c=>.agg c.toArray
 |.ifc t (.lit v)=>some (.iface t v)
 |_=>none
def pureRun(P:Program){α:Type}:Sem α→Option α
 |.pure a=>some a
 |.program k=>pureRun P (k P)
 |.mark _ k=>pureRun P k
 |_=>none
inductive RM(α:Type)where
 |ret (a:α)
 |fail
 |get (n:Nat) (k:AObj→RM α)
namespace RM
variable {α β:Type}
def bind:RM α→(α→RM β)→RM β
 |.ret a,f=>f a
 |.fail,_=>.fail
 |.get n k,f=>.get n fun o=>(k o).bind f
instance:Monad RM where
 pure:=.ret
 bind:=bind
def ofOpt:Option α→RM α
 |some a=>.ret a
 |none=>.fail
def run(hp:AHeap):RM α→Option α
 |.ret a=>some a
 |.fail=>none
 |.get n k=>match hp[n]? with
  |some (some o)=>(k o).run hp
  |_=>none
def log(hp:AHeap):RM α→List Nat
 |.ret _=>[]
 |.fail=>[]
 |.get n k=>n::match hp[n]? with
  |some (some o)=>(k o).log hp
  |_=>[]
def over(nm:Nat)(ov:Option (Nat×AObj))(nw:List AObj):RM α→RM α
 |.ret a=>.ret a
 |.fail=>.fail
 |.get n k=>(match Nat.ble nm n with
  |true=>(match nw[n-nm]? with
   |some o=>(k o).over nm ov nw
   |none=>.fail)
  |false=>.get n fun o=>(k (match ov with
   |some (m,o')=>(match Nat.beq m n with
    |true=>o'
    |false=>o)
   |none=>o)).over nm ov nw)
def arr(n ver:Nat):RM (Bool×Bool×Bool×List AV):=.get n fun
 |.arr g c f es=>if es.length=ver then .ret (g,c,f,es) else .fail
 |_=>.fail
end RM
structure TyRow where
 desc:TypeDesc
 size:Nat
 bytes:Nat
 zero:Option Value
 comparable:Bool
def tyOf(P:Program)(t:TypeId):Option TyRow:=
 match P.info? t,P.underlying t with
 |some i,some d=>some ⟨d,i.size,i.bytes,i.zero,i.comparable⟩
 |_,_=>none
def isAggD:TypeDesc→Bool
 |.struct _|.array _ _=>true
 |_=>false
def TyRow.isAgg(r:TyRow):Bool:=isAggD r.desc
def partA(agg:Bool)(size:Nat)(e:AV)(j:Nat):Option AV:=
 match e with
 |.agg l=>
  if agg then (if j+size≤l.length then some (.agg ((l.drop j).take size)) else none)
  else l[j]?
 |x=>if !agg&&isLeaf x&&decide (j=0) then some x else none
def setCells(l:List AV)(j:Nat):List AV→List AV
 |[]=>l
 |x::xs=>setCells (l.set j x) (j+1) xs
def setPart(e:AV)(j:Nat)(cs:List AV):Option AV:=
 match e with
 |.agg l=>if j+cs.length≤l.length then some (.agg (setCells l j cs)) else none
 |x=>match cs with
  |[y]=>if isLeaf x&&decide (j=0) then some y else none
  |_=>none
def fillA(place:Nat→Option (Nat×Nat))(cells:List AV):List (Nat×AV)→Option (List AV)
 |[]=>some cells
 |(i,v)::rest=>
  match place i with
  |none=>none
  |some (off,size)=>
   if (cellsOf v).length=size∧off+size≤cells.length∧(cellsOf v).all isLeaf=true then
    fillA place (setCells cells off (cellsOf v)) rest
   else none
structure Eff where
 val:AV
 wr:List (Nat×AObj)
def asNat(v:AV):Option Nat:=
 match v with
 |.lit (.int _ n)=>if 0≤n then some n.toNat else none
 |_=>none
def isAggV:Value→Bool
 |.agg _=>true
 |_=>false
def isTupV:Value→Bool
 |.tuple _=>true
 |_=>false
def elemZero(r:TyRow):Option AV:=
 match r.zero with
 |some z=>if z.cells.size=r.size∧r.isAgg=isAggV z∧z.cells.toList.all (fun v=>isLeaf (.lit v))=true∧isTupV z=false then some (ofVal z) else none
 |none=>none
mutual
def sealV:Nat→AV→RM AV
 |0,_=>.fail
 |k+1,.osl _ n ver off len _=>do
  let (_,c,_,es) ←RM.arr n ver
  if off+len≤es.length then
   if c then pure (.sl ((es.drop off).take len)) else do
    let l ←sealL k ((es.drop off).take len)
    pure (.sl l)
  else RM.fail
 |k+1,.ref n ver i j=>do
  let (_,c,_,es) ←RM.arr n ver
  match es[i]? with
  |some e=>if c then pure (.eref e j) else do
   let e' ←sealV k e
   pure (.eref e' j)
  |none=>RM.fail
 |k+1,.asl n ver i j len cap=>do
  let (_,c,_,es) ←RM.arr n ver
  match es[i]? with
  |some (.agg cs)=>
   if len≤cap∧j+len≤cs.length then
    (if c then pure (.sl ((cs.drop j).take len)) else (do
      let l ←sealL k ((cs.drop j).take len)
      pure (.sl l)))
   else RM.fail
  |_=>RM.fail
 |k+1,.agg l=>do pure (.agg (←sealL k l))
 |k+1,.tup l=>do pure (.tup (←sealL k l))
 |k+1,.ifc t v=>do pure (.ifc t (←sealV k v))
 |k+1,.clo fn f c=>do pure (.clo fn (←sealL k f) (←sealL k c))
 |_+1,.slx xs _=>pure (.sl xs)
 |_+1,.sl xs=>pure (.sl xs)
 |_+1,.nz=>pure (.sl [])
 |_+1,.eref e j=>pure (.eref e j)
 |_+1,.lit v=>match v with
  |.slice none 0 0=>pure (.sl [])
  |v=>pure (.lit v)
 |_+1,_=>.fail
def sealL:Nat→List AV→RM (List AV)
 |0,_=>.fail
 |_+1,[]=>pure []
 |k+1,x::xs=>do
  let y ←sealV k x
  let ys ←sealL k xs
  pure (y::ys)
end
abbrev nilSl:Value:=.slice none 0 0
def notNil:AV→Bool
 |.sl xs=>!xs.isEmpty
 |.slx _ _=>true
 |.osl _ _ ver _ _ _=>decide (0<ver)
 |_=>false
def isSliceTy(P:Program)(t:TypeId):Bool:=
 match P.underlying t with
 |some (.slice _)=>true
 |_=>false
def isIfaceTy(P:Program)(t:TypeId):Bool:=
 match P.underlying t with
 |some (.interface _)=>true
 |_=>false
def isFuncTy(P:Program)(t:TypeId):Bool:=
 match P.underlying t with
 |some (.func ..)=>true
 |_=>false
def eqVal(op:BinOp)(b:Bool):Option AV:=
 match op with
 |.eql=>some (.lit (.bool b))
 |.neq=>some (.lit (.bool (!b)))
 |_=>none
def nilEqA(P:Program)(op:BinOp)(t:TypeId)(x:AV)(nil:Value):Option AV:=
 match nil with
 |.nilIface=>(match x with
  |.ifc _ _=>if isIfaceTy P t then eqVal op false else none
  |_=>none)
 |.nilFunc=>(match x with
  |.clo _ _ _=>if isFuncTy P t then eqVal op false else none
  |_=>none)
 |.slice none 0 0=>if isSliceTy P t&&notNil x then eqVal op false else none
 |_=>none
def eqAggA(P:Program)(op:BinOp)(t:TypeId)(x y:AV):Option AV:=
 match x,y with
 |.agg l,.agg l'=>
  match litsOf l,litsOf l' with
  |some c,some c'=>
   match P.underlying t with
   |some (.struct _)|some (.array _ _)=>
    if P.eqGuardType P.depth t then none else (eqIn P 20 t c c').bind (eqVal op)
   |_=>none
  |_,_=>none
 |_,_=>none
def binA(P:Program)(op:BinOp)(t:TypeId)(xo yo:Operand)(x y:AV):Option AV:=
 match eqAggA P op t x y with
 |some r=>some r
 |none=>
 match toVal? x,toVal? y with
 |some a,some b=>(pureRun P (do eqGuard op t xo yo a b; binOp op t a b)).bind ofPure
 |_,_=>
  match y with
  |.lit b=>nilEqA P op t x b
  |_=>match x with
   |.lit a=>nilEqA P op t y a
   |_=>none
def structFields(P:Program)(t:TypeId):Option (Array Field):=
 match P.underlying t with
 |some (.struct fs)=>some fs
 |_=>none
def fieldOf(P:Program)(s:TypeId)(f:Nat):Option (Nat×TyRow):=
 match structFields P s with
 |some fs=>match fs[f]? with
  |some fd=>match tyOf P fd.type with
   |some r=>if r.size=0 then none else some (fd.offset,r)
   |none=>none
  |none=>none
 |none=>none
def sliceElem(P:Program)(t:TypeId):Option TyRow:=
 match P.underlying t with
 |some (.slice e)=>tyOf P e
 |_=>none
def arrayElem(P:Program)(t:TypeId):Option (Nat×TyRow):=
 match P.underlying t with
 |some (.array n e)=>(tyOf P e).map fun r=>(n,r)
 |_=>none
def okElem(agg:Bool)(size:Nat)(e:AV):Bool:=
 match e with
 |.agg l=>agg&&decide (l.length=size)&&l.all isLeaf
 |x=>!agg&&decide (size=1)&&isLeaf x
def loadA(P:Program)(t:TypeId)(a:AV):RM AV:=
 match tyOf P t with
 |none=>.fail
 |some r=>
  match a with
  |.ref n ver i j=>do
   let (_,_,_,es) ←RM.arr n ver
   match es[i]? with
   |some e=>.ofOpt (partA r.isAgg r.size e j)
   |none=>.fail
  |.eref e j=>.ofOpt (partA r.isAgg r.size e j)
  |_=>.fail
def storeA(P:Program)(t:TypeId)(a v:AV):RM Eff:=
 match tyOf P t with
 |none=>.fail
 |some r=>
  match a with
  |.ref n ver i j=>do
   let (g,c,f,es) ←RM.arr n ver
   match es[i]? with
   |some e=>
    match setPart e j (cellsOf v) with
    |some e'=>
     if f=false∧(cellsOf v).length=r.size∧(cellsOf v).all isLeaf=true then
      pure ⟨.undef,[(n,.arr g (c&&closedL (cellsOf v)) f (es.set i e'))]⟩
     else .fail
    |none=>.fail
   |none=>.fail
  |_=>.fail
def placesA(P:Program):List Field→Option (List (Nat×Nat))
 |[]=>some []
 |f::r=>match tyOf P f.type,placesA P r with
  |some q,some l=>some ((f.offset,q.size)::l)
  |_,_=>none
def buildA(P:Program)(t:TypeId)(parts:List (Nat×AV)):Option AV:=
 match P.underlying t,tyOf P t with
 |some (.struct fs),some r=>
  match r.zero,placesA P fs.toList with
  |some z,some pl=>if z.cells.toList.all (fun v=>isLeaf (.lit v)) then (fillA (fun i=>pl[i]?) (z.cells.toList.map .lit) parts).map .agg else none
  |_,_=>none
 |some (.array _ e),some r=>
  match r.zero,tyOf P e with
  |some z,some q=>if z.cells.toList.all (fun v=>isLeaf (.lit v)) then
    (fillA (fun i=>some (i*q.size,q.size)) (z.cells.toList.map .lit) parts).map .agg else none
  |_,_=>none
 |_,_=>none
def setParts(es:List AV):List (Nat×AV)→List AV
 |[]=>es
 |(i,v)::r=>setParts (es.set i v) r
def buildSliceA(P:Program)(nm:Nat)(t:TypeId)(len:Nat)(parts:List (Nat×AV)):Option Eff:=
 match sliceElem P t with
 |some r=>
  match elemZero r with
  |some z=>
   if 0<r.size∧len*r.size≤2^24∧parts.all (fun p=>decide (p.1<len)&&okElem r.isAgg r.size p.2)=true then
    some ⟨.osl r.size nm len 0 len (some len),[(nm,.arr false (closedL (parts.map (·.2))) false (setParts (List.replicate len z) parts))]⟩
   else none
  |none=>none
 |none=>none
def makeSliceA(P:Program)(nm:Nat)(t:TypeId)(l c:AV):Option Eff:=
 match sliceElem P t,asNat l,asNat c with
 |some r,some l,some c=>
  match elemZero r with
  |some z=>
   if 0<r.size∧l≤c∧c*r.bytes≤2^47∧c<2^62 then
    some ⟨.osl r.size nm c 0 l (some c),[(nm,.arr false true false (List.replicate c z))]⟩
   else none
  |none=>none
 |_,_,_=>none
def optNat(d:Nat):Option AV→Option Nat
 |none=>some d
 |some v=>asNat v
def optLit:Option AV→Option (Option Value)
 |none=>some none
 |some (.lit v)=>some (some v)
 |some _=>none
def cutA(P:Program)(t:TypeId)(x:AV)(lo hi mx:Option AV):Option AV:=
 match x with
 |.lit (.string s)=>(match optLit lo,optLit hi,optLit mx with
  |some l,some h,some m=>(pureRun P (Instr.sliceAt t (.string s) l h m)).bind ofPure
  |_,_,_=>none)
 |.lit (.slice none 0 0)=>
  match sliceElem P t,optNat 0 lo,optNat 0 hi,optNat 0 mx with
  |some _,some 0,some 0,some 0=>if mx.isSome&&hi.isNone then none else some (match mx with|some _=>.nz|none=>x)
  |_,_,_,_=>none
 |.sl xs=>
  match sliceElem P t,optNat 0 lo,optNat xs.length hi,mx with
  |some r,some l,some h,none=>
   if l≤h∧h≤xs.length∧xs.all (okElem r.isAgg r.size)=true then some (.sl ((xs.drop l).take (h-l))) else none
  |some r,some l,some h,some m=>
   match asNat m,hi with
   |some m,some _=>
    if l≤h∧h≤m∧m≤xs.length∧xs.all (okElem r.isAgg r.size)=true then
     (if m=0 then some .nz else if xs.isEmpty then some (.sl []) else some (.slx ((xs.drop l).take (h-l)) (m-l))) else none
   |_,_=>none
  |_,_,_,_=>none
 |.slx xs c=>
  match sliceElem P t,optNat 0 lo,optNat xs.length hi,optNat c mx with
  |some r,some l,some h,some m=>
   if l≤h∧h≤xs.length∧h≤m∧m≤c∧(mx.isSome&&hi.isNone)=false∧xs.all (okElem r.isAgg r.size)=true then
    some (.slx ((xs.drop l).take (h-l)) (m-l)) else none
  |_,_,_,_=>none
 |.osl esz n ver off len cap=>
  match sliceElem P t,optNat 0 lo,optNat len hi,mx with
  |some r,some l,some h,none=>
   if l≤h∧h≤cap.getD (ver-off)∧0<ver∧esz=r.size then some (.osl esz n ver (off+l) (h-l) (cap.map (·-l))) else none
  |some r,some l,some h,some m=>
   match asNat m,hi with
   |some m,some _=>if l≤h∧h≤m∧m≤cap.getD (ver-off)∧0<ver∧esz=r.size then some (.osl esz n ver (off+l) (h-l) (some (m-l))) else none
   |_,_=>none
  |_,_,_,_=>none
 |.ref n ver i j=>
  match arrayElem P t,optNat 0 lo,mx with
  |some (len,r),some l,none=>
   match optNat len hi with
   |some h=>if l≤h∧h≤len∧l<len then some (.asl n ver i (j+l*r.size) (h-l) (len-l)) else none
   |none=>none
  |_,_,_=>none
 |_=>none
def indexAddrA(P:Program)(t:TypeId)(x ix:AV):Option AV:=
 match asNat ix with
 |none=>none
 |some i=>
  match x with
  |.sl xs|.slx xs _=>
   match sliceElem P t,xs[i]? with
   |some r,some e=>if okElem r.isAgg r.size e then some (.eref e 0) else none
   |_,_=>none
  |.osl esz n ver off len _=>
   match sliceElem P t with
   |some r=>if i<len∧0<r.size∧esz=r.size then some (.ref n ver (off+i) 0) else none
   |none=>none
  |.asl n ver k j len _=>
   match sliceElem P t with
   |some r=>if i<len then some (.ref n ver k (j+i*r.size)) else none
   |none=>none
  |.ref n ver k j=>
   match arrayElem P t with
   |some (len,r)=>if i<len then some (.ref n ver k (j+i*r.size)) else none
   |none=>none
  |.eref e j=>
   match arrayElem P t with
   |some (len,r)=>if i<len then some (.eref e (j+i*r.size)) else none
   |none=>none
  |_=>none
def indexA(P:Program)(t:TypeId)(x ix:AV):Option AV:=
 match x with
 |.lit (.string s)=>match ix with
  |.lit i=>(pureRun P (Instr.index t (.string s) i)).bind ofPure
  |_=>none
 |.agg l=>
  match arrayElem P t,asNat ix with
  |some (n,r),some i=>if i<n then partA r.isAgg r.size (.agg l) (i*r.size) else none
  |_,_=>none
 |_=>none
def elemsA:AV→RM (List AV×Bool)
 |.lit (.slice none 0 0)|.nz=>pure ([],true)
 |.sl xs|.slx xs _=>pure (xs,true)
 |.osl _ n ver off len _=>do
  let (_,c,_,es) ←RM.arr n ver
  if off+len≤es.length then pure ((es.drop off).take len,c) else RM.fail
 |_=>.fail
def lenA:AV→Option Nat
 |.lit (.slice none 0 0)|.nz=>some 0
 |.sl xs|.slx xs _=>some xs.length
 |.osl _ _ _ _ len _=>some len
 |.asl _ _ _ _ len _=>some len
 |_=>none
def putElems(es:List AV)(i:Nat):List AV→List AV
 |[]=>es
 |y::ys=>putElems (es.set i y) (i+1) ys
def srcA(P:Program)(r:TyRow)(xt:TypeId)(x:AV):RM (List AV×Bool):=
 match isSliceTy P xt with
 |true=>elemsA x
 |false=>(match P.underlying xt,asNat x,elemZero r with
  |some (.int _),some k,some z=>if k*r.bytes≤2^44∧k≤2^44 then pure (List.replicate k z,true) else .fail
  |_,_,_=>.fail)
def appendA(P:Program)(nm:Nat)(t xt:TypeId)(s x:AV):RM Eff:=
 match sliceElem P t with
 |none=>.fail
 |some r=>do
  let (ys,yc) ←srcA P r xt x
  match (elemZero r).isSome&&decide (0<r.size)&&ys.all (okElem r.isAgg r.size) with
  |false=>.fail
  |true=>
   match ys.isEmpty with
   |true=>(match s with
    |.slx xs _=>pure ⟨.sl xs,[]⟩
    |.lit (.slice none 0 0)|.sl _|.osl _ _ _ _ _ _|.nz=>pure ⟨s,[]⟩
    |_=>.fail)
   |false=>
    match s with
    |.lit (.slice none 0 0)|.nz=>
     if ys.length*r.bytes≤2^44∧ys.length≤2^44 then
      pure ⟨.osl r.size nm ys.length 0 ys.length none,[(nm,.arr true yc false ys)]⟩ else .fail
    |.slx xs c=>
     if c<xs.length+ys.length∧(xs.length+ys.length)*r.bytes≤2^44∧xs.length+ys.length≤2^44∧xs.all (okElem r.isAgg r.size)=true then
      pure ⟨.osl r.size nm (xs.length+ys.length) 0 (xs.length+ys.length) none,[(nm,.arr true yc false (xs++ys))]⟩ else .fail
    |.osl esz n ver off len cap=>do
     let (g,c,f,es) ←RM.arr n ver
     if f=true∨es.length<off+len∨esz≠r.size then RM.fail else
     if len+ys.length≤cap.getD (ver-off) then
      if off+len+ys.length≤es.length then
       pure ⟨.osl esz n ver off (len+ys.length) cap,[(n,.arr g (c&&yc) f (putElems es (off+len) ys))]⟩
      else RM.fail
     else if (len+ys.length)*r.bytes≤2^44∧len+ys.length≤2^44 then
      (match cap with
      |none=>if g=true∧off=0∧len=ver then
        pure ⟨.osl esz n (len+ys.length) 0 (len+ys.length) none,[(n,.arr true (c&&yc) f (es++ys))]⟩
       else RM.fail
      |some _=>if es.all (okElem r.isAgg r.size)=true then
        pure ⟨.osl esz nm (len+ys.length) 0 (len+ys.length) none,[(nm,.arr true (c&&yc) false ((es.drop off).take len++ys))]⟩
       else RM.fail)
     else RM.fail
    |_=>.fail
def copyA(P:Program)(t:TypeId)(d x:AV):RM Eff:=
 match sliceElem P t with
 |none=>.fail
 |some r=>do
  let (ys,yc) ←elemsA x
  match decide (0<r.size)&&ys.all (okElem r.isAgg r.size) with
  |false=>RM.fail
  |true=>
   match d with
   |.osl esz n ver off len _=>(match (ys.take len).isEmpty with
    |true=>pure ⟨.lit (.int .i64 0),[]⟩
    |false=>do
     let (g,c,f,es) ←RM.arr n ver
     if esz=r.size∧f=false∧off+len≤es.length∧0<ver then
      pure ⟨.lit (.int .i64 (ys.take len).length),[(n,.arr g (c&&yc) f (putElems es off (ys.take len)))]⟩
     else RM.fail)
   |.lit (.slice none 0 0)=>pure ⟨.lit (.int .i64 0),[]⟩
   |_=>RM.fail
def builtinA(P:Program)(nm:Nat)(b:Builtin)(argTypes:Array TypeId)(type:TypeId)(args:List AV):RM Eff:=
 match b with
 |.append=>(match argTypes.toList,args with
  |[t,xt],[s,x]=>appendA P nm t xt s x
  |_,_=>.fail)
 |.copy=>(match argTypes.toList,args with
  |[t,_],[d,x]=>copyA P t d x
  |_,_=>.fail)
 |.len=>(match argTypes.toList,args with
  |[t],[x]=>(match x with
   |.lit (.slice none 0 0)|.sl _|.slx _ _|.osl _ _ _ _ _ _|.asl _ _ _ _ _ _|.nz=>
    (match isSliceTy P t,lenA x with
    |true,some n=>pure ⟨.lit (.int .i64 n),[]⟩
    |_,_=>.fail)
   |.lit v=>(match (pureRun P (Builtin.len_ argTypes type #[v])).bind ofPure with
    |some r=>pure ⟨r,[]⟩
    |none=>.fail)
   |_=>(match arrayElem P t with
    |some (n,_)=>pure ⟨.lit (.int .i64 n),[]⟩
    |none=>.fail))
  |_,_=>.fail)
 |.cap=>(match argTypes.toList,args with
  |[t],[x]=>(match isSliceTy P t,x with
   |true,.lit (.slice none 0 0)=>pure ⟨.lit (.int .i64 0),[]⟩
   |true,.slx _ c=>pure ⟨.lit (.int .i64 c),[]⟩
   |true,.osl _ _ ver _ _ (some c)=>if 0<ver then pure ⟨.lit (.int .i64 c),[]⟩ else .fail
   |_,_=>.fail)
  |_,_=>.fail)
 |.max=>(match litsOf args with
  |some vs=>(match (pureRun P (Builtin.max_ argTypes type vs.toArray)).bind ofPure with
   |some r=>pure ⟨r,[]⟩
   |none=>.fail)
  |none=>.fail)
 |.min=>(match litsOf args with
  |some vs=>(match (pureRun P (Builtin.min_ argTypes type vs.toArray)).bind ofPure with
   |some r=>pure ⟨r,[]⟩
   |none=>.fail)
  |none=>.fail)
 |_=>.fail
def KK.ok:KK→Value→Bool
 |.int q,.int q' _=>decide (q=q')
 |.str,.string _=>true
 |.bool,.bool _=>true
 |_,_=>false
def eqKey:Value→Value→Bool
 |.int _ a,.int _ b=>a==b
 |.string a,.string b=>a==b
 |.bool a,.bool b=>a==b
 |_,_=>false
def findA(k:Value):List Value→Nat→Option Nat
 |[],_=>none
 |x::xs,i=>cond (eqKey k x) (some i) (findA k xs (i+1))
def mapTy(P:Program)(t:TypeId):Option (KK×TypeId):=
 match P.underlying t with
 |some (.map k e)=>(match P.underlying k with
  |some (.int q)=>some (.int q,e)
  |some .string=>some (.str,e)
  |some .bool=>some (.bool,e)
  |_=>none)
 |_=>none
def lookR(commaOk:Bool)(v:AV)(b:Bool):AV:=
 match commaOk with
 |true=>.tup [v,.lit (.bool b)]
 |false=>v
def lookupA(P:Program)(t:TypeId)(x ix:AV)(commaOk:Bool):RM Eff:=
 match mapTy P t with
 |some (kk,et)=>(match (tyOf P et).bind elemZero,ix with
  |some z,.lit k=>(match kk.ok k,x with
   |true,.lit (.map none)=>pure ⟨lookR commaOk z false,[]⟩
   |true,.mp false n=>.get n fun
    |.oth (.map kk' keys) vs=>
     if kk'=kk then (match findA k keys 0 with
      |some i=>(match vs[i]? with
       |some v=>pure ⟨lookR commaOk v true,[]⟩
       |none=>.fail)
      |none=>pure ⟨lookR commaOk z false,[]⟩)
     else .fail
    |_=>.fail
   |_,_=>.fail)
  |_,_=>.fail)
 |none=>.fail
def mapUpdateA(P:Program)(t:TypeId)(x ix v:AV):RM Eff:=
 match mapTy P t with
 |some (kk,_)=>(match ix,x with
  |.lit k,.mp false n=>(match kk.ok k with
   |true=>.get n fun
    |.oth (.map kk' keys) vs=>
     if kk'=kk then (match findA k keys 0 with
      |some i=>pure ⟨.undef,[(n,.oth (.map kk keys) (vs.set i v))]⟩
      |none=>pure ⟨.undef,[(n,.oth (.map kk (keys++[k])) (vs++[v]))]⟩)
     else .fail
    |_=>.fail
   |false=>.fail)
  |_,_=>.fail)
 |none=>.fail
def makeMapA(P:Program)(nm:Nat)(t:TypeId)(r:Option AV):Option Eff:=
 match mapTy P t,optNat 0 r with
 |some (kk,_),some _=>some ⟨.mp false nm,[(nm,.oth (.map kk []) [])]⟩
 |_,_=>none
def opEff(P:Program)(nm:Nat)(ev:Operand→AV)(o:Oper):RM Eff:=
 let v (x:Option AV):RM Eff:=match x with
  |some x=>pure ⟨x,[]⟩
  |none=>.fail
 match o.op with
 |.move x|.assign x=>pure ⟨ev x,[]⟩
 |.pick c a b=>(match ev c with
  |.lit (.bool t)=>pure ⟨cond t (ev a) (ev b),[]⟩
  |_=>.fail)
 |.alloc t=>(match tyOf P t with
  |some r=>(match elemZero r with
   |some z=>if 0<r.size then pure ⟨.ref nm 1 0 0,[(nm,.arr false true false [z])]⟩ else .fail
   |none=>.fail)
  |none=>.fail)
 |.box _ x=>
  if (cellsOf (ev x)).all isLeaf=true∧0<(cellsOf (ev x)).length then
   pure ⟨.ref nm 1 0 0,[(nm,.arr false (closedL (cellsOf (ev x))) false [ev x])]⟩ else .fail
 |.build t parts=>v (buildA P t (parts.toList.map fun p=>(p.1,ev p.2)))
 |.buildSlice t len parts=>.ofOpt (buildSliceA P nm t len (parts.toList.map fun p=>(p.1,ev p.2)))
 |.load t a=>do pure ⟨←loadA P t (ev a),[]⟩
 |.store t a x=>storeA P t (ev a) (ev x)
 |.nilCheck x=>(match ev x with
  |.ref n ver i j=>pure ⟨.ref n ver i j,[]⟩
  |.eref e j=>pure ⟨.eref e j,[]⟩
  |.ifc t y=>pure ⟨.ifc t y,[]⟩
  |.clo (.func f) a c=>pure ⟨.clo (.func f) a c,[]⟩
  |.lit (.func (.func f) a c)=>pure ⟨.lit (.func (.func f) a c),[]⟩
  |_=>.fail)
 |.binOp op t x y _=>v (binA P op t x y (ev x) (ev y))
 |.unOp op _ x=>(match ev x with
  |.lit a=>v ((pureRun P (Op.unary op a)).bind ofPure)
  |_=>.fail)
 |.convert s d x=>(match ev x with
  |.lit a=>v ((pureRun P (convert s d a)).bind ofPure)
  |_=>.fail)
 |.makeInterface t x=>if isIfaceTy P t||(P.underlying t).isNone then .fail else pure ⟨.ifc t (ev x),[]⟩
 |.makeFunc fn first captured=>
  if first.isEmpty&&captured.isEmpty then pure ⟨.lit (.func fn #[] #[]),[]⟩
  else pure ⟨.clo fn (first.toList.map ev) (captured.toList.map ev),[]⟩
 |.makeSlice t l c=>.ofOpt (makeSliceA P nm t (ev l) (ev c))
 |.slice t x lo hi mx=>v (cutA P t (ev x) (lo.map ev) (hi.map ev) (mx.map ev))
 |.sliceToArrayPointer t x=>(match arrayElem P t,ev x with
  |some (len,_),.asl n ver i j l _=>if len≤l then pure ⟨.ref n ver i j,[]⟩ else .fail
  |_,_=>.fail)
 |.fieldAddr s x f=>(match fieldOf P s f,ev x with
  |some (off,_),.ref n ver i j=>pure ⟨.ref n ver i (j+off),[]⟩
  |some (off,_),.eref e j=>pure ⟨.eref e (j+off),[]⟩
  |_,_=>.fail)
 |.field s x f=>(match fieldOf P s f,ev x with
  |some (off,r),.agg l=>v (partA r.isAgg r.size (.agg l) off)
  |_,_=>.fail)
 |.indexAddr t x ix=>v (indexAddrA P t (ev x) (ev ix))
 |.index t x ix=>v (indexA P t (ev x) (ev ix))
 |.extract t ix=>(match ev t with
  |.tup l=>v l[ix]?
  |_=>.fail)
 |.makeMap t r=>.ofOpt (makeMapA P nm t (r.map ev))
 |.lookup t x ix c=>lookupA P t (ev x) (ev ix) c
 |.mapUpdate t m k x=>mapUpdateA P t (ev m) (ev k) (ev x)
 |.call c=>(match c.callee with
  |.builtin b=>builtinA P nm b c.argTypes o.type (c.args.toList.map ev)
  |_=>.fail)
 |_=>.fail
end Go.PI
end
section
/- PI, part B: the evaluator of code, operation lists and calls. -/
namespace Go.PI
inductive Kind where
 |pure
 |imp
 deriving DecidableEq
structure Ctx where
 P:Program
 kind:FuncId→Kind
 intr:FuncId→Option (List AV→Option AV)
 acc:FuncId→Tmp→Bool
 intrO:FuncId→Option (List AV→Option (AV×AHeap)):=fun _=>none
 nils:FuncId→Tmp→List (Nat×Nat):=fun _ _=>[]
 intrE:FuncId→Option (List AV→RM Eff):=fun _=>none
 holes:FuncId→Nat→List (Nat×Nat):=fun _ _=>[]
 cuts:FuncId→Nat→Nat:=fun _ _=>0
def Ctx.head(C:Ctx)(f:FuncId)(id:Nat)(ops:Array Oper):Nat:=ops.size-C.cuts f id
structure St where
 fn:FuncId
 fr:List AV
 hp:AHeap
inductive Out where
 |norm (s:St)
 |exit (id:Nat) (s:St)
 |ret (s:St)
 |pnc (v:AV) (s:St)
inductive Res where
 |val (v:AV)
 |pnc (v:AV)
def constA:Value→AV
 |.agg c=>if c.toList.all (fun v=>isLeaf (.lit v))=true then .agg (c.toList.map .lit) else .any
 |v=>ofVal v
def evalA[Glob](fr:List AV):Operand→AV
 |.tmp t=>fr.getD t .undef
 |.const v=>constA v
 |.global g=>globA g (Glob.g g)
 |.func f=>.lit (.func (.func f) #[] #[])
def putA(fr:List AV)(dst:Option Tmp)(v:AV):List AV:=
 match dst with
 |some d=>fr.set d v
 |none=>fr
def setObj(hp:AHeap)(n:Nat)(o:AObj):AHeap:=
 if n=hp.length then hp++[some o] else hp.set n (some o)
def applyWr(hp:AHeap):List (Nat×AObj)→AHeap
 |[]=>hp
 |(n,o)::r=>applyWr (setObj hp n o) r
def nilCell(esz j nm:Nat)(e:AV):Option AV:=
 match e with
 |.agg l=>(match l[j]? with
  |some (.lit (.slice none 0 0))=>some (.agg (l.set j (.osl esz nm 0 0 0 none)))
  |_=>none)
 |.lit (.slice none 0 0)=>if j=0 then some (.osl esz nm 0 0 0 none) else none
 |_=>none
def nilOne(d:Tmp)(s:St)(j esz:Nat):St:=
 match s.fr[d]? with
 |some (.ref n _ i k)=>(match s.hp[n]? with
  |some (some (.arr g _ f es))=>(match (es[i]?).bind (nilCell esz (k+j) s.hp.length) with
   |some e'=>{ s with hp:=s.hp.set n (some (.arr g false f (es.set i e')))++[some (.arr true true false [])] }
   |none=>s)
  |_=>s)
 |some e=>(match nilCell esz j s.hp.length e with
  |some e'=>{ s with fr:=s.fr.set d e',hp:=s.hp++[some (.arr true true false [])] }
  |none=>s)
 |none=>s
def nilL(d:Tmp):List (Nat×Nat)→St→St
 |[],s=>s
 |(j,esz)::r,s=>nilL d r (nilOne d s j esz)
def nilsA(l:Tmp→List (Nat×Nat))(dst:Option Tmp)(s:St):St:=
 match dst with
 |some d=>nilL d (l d) s
 |none=>s
def holeCell(j:Nat):AV→Option AV
 |.agg l=>(match Nat.blt j l.length with
  |true=>some (.agg (l.set j .any))
  |false=>none)
 |_=>none
def holeOne(s:St)(d j:Nat):St:=
 match s.fr.getD d .undef with
 |.ref n _ i k=>(match s.hp[n]? with
  |some (some (.arr g _ f es))=>(match (es[i]?).bind (holeCell (k+j)) with
   |some e'=>{ s with hp:=s.hp.set n (some (.arr g false f (es.set i e'))) }
   |none=>s)
  |_=>s)
 |_=>s
def holesA:List (Nat×Nat)→St→St
 |[],s=>s
 |(d,j)::r,s=>holesA r (holeOne s d j)
def wantedA(ops:Array Oper)(fr:List AV)(o:Oper):Option Bool:=
 match o.guard with
 |none=>some true
 |some (j,want)=>
  match (ops[j]?).bind (·.dst) with
  |none=>some false
  |some d=>match fr[d]? with
   |none=>some false
   |some (.lit (.bool b))=>some (b==want)
   |some (.lit (.tuple _))=>some false
   |_=>none
def resolveA(fv:AV)(args:List AV):Option (FuncId×List AV):=
 match fv with
 |.lit (.func (.func f) first captured)=>some (f,first.toList.map .lit++args++captured.toList.map .lit)
 |.clo (.func f) first captured=>some (f,first++args++captured)
 |_=>none
mutual
def names:AV→List Nat
 |.ref n _ _ _|.osl _ n _ _ _ _|.asl n _ _ _ _ _|.mp _ n=>[n]
 |.agg l|.tup l=>namesL l
 |.ifc _ v=>names v
 |.clo _ f c=>namesL f++namesL c
 |_=>[]
def namesL:List AV→List Nat
 |[]=>[]
 |x::xs=>names x++namesL xs
end
def freezeR:Nat→List Nat→RM (List (Nat×AObj))
 |0,_=>.fail
 |_+1,[]=>pure []
 |k+1,n::r=>.get n fun
  |.arr g c _ es=>if c then do
    let l ←freezeR k r
    pure ((n,.arr g true true es)::l)
   else do
    let es' ←sealL 1000 es
    let l ←freezeR k (namesL es++r)
    pure ((n,.arr g true true es')::l)
  |_=>.fail
def forget(n:Nat)(v:AV):AV:=if below n v then v else .any
def resetA(n:Nat)(s:St):St:=
 if (s.hp.take n).all (oBelow n) then { s with fr:=s.fr.map (forget n),hp:=s.hp.take n } else s
def truncA(n:Nat)(r:AV)(hp:AHeap):AHeap:=
 if below n r&&(hp.take n).all (oBelow n) then hp.take n else hp
def resultA(P:Program)(fr:List AV):ResultVar→RM AV
 |.tmp t=>pure (fr.getD t .undef)
 |.cell a t=>loadA P t (fr.getD a .undef)
def resultsL(P:Program)(fr:List AV):List ResultVar→RM (List AV)
 |[]=>pure []
 |r::rs=>do
  let x ←resultA P fr r
  let xs ←resultsL P fr rs
  pure (x::xs)
def tupOf:List AV→AV
 |[x]=>x
 |l=>.tup l
def pureOut(args:List AV)(hpf:AHeap):Res→RM (Res×List (Nat×AObj))
 |.val r=>(match (sealV 1000 r).run hpf with
  |some r'=>if flat r' then pure (.val r',[]) else do
    let w ←freezeR 1000 (namesL args)
    pure (.val r',w)
  |none=>.fail)
 |.pnc r=>if flat r then pure (.pnc r,[]) else .fail
def isAllocOp[Glob]:Op→Bool
 |.alloc _|.box _ _|.buildSlice _ _ _|.makeSlice _ _ _|.makeMap _ _=>true
 |.call c=>match c.callee with
  |.builtin .append=>true
  |.value (.func g)=>Glob.own g
  |_=>false
 |_=>false
structure Item where
 idx:Nat
 nm:Nat
 o:Oper
def Item.at[Glob](x:Item)(len:Nat):Nat:=
 match isAllocOp x.o.op with
 |true=>x.nm
 |false=>len
def nameOps[Glob]:Nat→Nat→List Oper→List Item
 |_,_,[]=>[]
 |i,n,o::r=>⟨i,n,o⟩::nameOps (i+1) (if isAllocOp o.op then n+1 else n) r
structure Foot where
 idx:Nat
 rd:List Nat
 wr:List Nat
def disj(a b:List Nat):Bool:=a.all fun x=>!b.contains x
def maskA(acc:List Nat):List Edge→Nat
 |[]=>0
 |e::l=>if Region.binds .any e then (2^e.on ||| acc.getD e.on 0) ||| maskA acc l else maskA acc l
def emask(m:Region.Mode):List Edge→Nat
 |[]=>0
 |e::l=>if Region.binds m e then 2^e.on ||| emask m l else emask m l
def passA(m:Region.Mode):Nat→List Oper→Nat→Nat
 |_,[],M=>M
 |i,o::r,M=>passA m (i+1) r (if emask m o.after.toList &&& M=emask m o.after.toList then M ||| 2^i else M)
def topoA(m:Region.Mode)(ops:List Oper):Nat→Nat→Nat
 |0,M=>M
 |k+1,M=>topoA m ops k (passA m 0 ops M)
def topoOk(m:Region.Mode)(ops:Array Oper):Bool:=(List.range ops.size).all (topoA m ops.toList 8 0).testBit
def predsA(ops:List Oper):List Nat:=
 ops.foldl (fun acc o=>acc++[maskA acc o.after.toList]) []
def hasP(pr:List Nat)(j i:Nat):Bool:=(pr.getD j 0).testBit i
def tailOk(pr:List Nat)(n m:Nat):Bool:=(List.range (n-m)).all fun i=>(List.range (m+i)).all fun j=>hasP pr (m+i) j
def edgesOk:Nat→List Oper→Bool
 |_,[]=>true
 |i,o::r=>(o.after.toList.all fun e=>!Region.binds .any e||decide (e.on<i))&&edgesOk (i+1) r
def apartOk(ops:Array Oper)(pr:List Nat):Nat→List Oper→Bool
 |_,[]=>true
 |i,o::r=>((r.zipIdx (i+1)).all fun q=>hasP pr q.2 i||Oper.apart ops o q.1)&&apartOk ops pr (i+1) r
def regionOk(ops:Array Oper):Bool:=
 edgesOk 0 ops.toList&&topoOk .any ops&&topoOk .text ops&&topoOk .gc ops&&apartOk ops (predsA ops.toList) 0 ops.toList
def footOk(pr:List Nat)(x y:Foot):Bool:=
 hasP pr y.idx x.idx||(disj x.wr (y.rd++y.wr)&&disj y.wr x.rd)
def footsOk(pr:List Nat):List Foot→Bool
 |[]=>true
 |x::r=>r.all (footOk pr x)&&footsOk pr r
def runOps(step:Oper→St→Option Out)(ops:Array Oper):List Oper→St→Option Out
 |[],s=>some (.norm s)
 |o::rest,s=>
  match wantedA ops s.fr o with
  |none=>none
  |some false=>runOps step ops rest { s with fr:=putA s.fr o.dst .undef }
  |some true=>
   match step o s with
   |some (.norm s')=>runOps step ops rest s'
   |r=>r
def stepD[Glob](step:Nat→Oper→List AV→RM Eff)(ops:Array Oper)(x:Item)(s:St):Option (St×Foot):=
 match wantedA ops s.fr x.o with
 |none=>none
 |some false=>some ({ s with fr:=putA s.fr x.o.dst .undef },⟨x.idx,[],[]⟩)
 |some true=>
  match (step (x.at s.hp.length) x.o s.fr).run s.hp with
  |none=>none
  |some e=>
   if e.wr.all (fun q=>decide (q.1<s.hp.length)&&((isAllocOp x.o.op&&decide (q.1=x.nm))||(match s.hp[q.1]? with|some (some _)=>true|_=>false)))=true then
    some ({ s with fr:=putA s.fr x.o.dst e.val,hp:=applyWr s.hp e.wr },⟨x.idx,(step (x.at s.hp.length) x.o s.fr).log s.hp,e.wr.map (·.1)⟩)
   else none
def runDraw[Glob](step:Nat→Oper→List AV→RM Eff)(ops:Array Oper):List Item→St→Option (St×List Foot)
 |[],s=>some (s,[])
 |x::rest,s=>
  match stepD step ops x s with
  |none=>none
  |some (s1,f)=>
   match runDraw step ops rest s1 with
   |none=>none
   |some (s2,fs)=>some (s2,f::fs)
def ownOut(nm:Nat)(r:AV)(hpf:AHeap):RM Eff:=
 match r with
 |.osl esz n ver 0 len none=>
  (match hpf[n]? with
  |some (some (.arr true _ false es))=>
   (match decide (ver=es.length)&&decide (len=es.length)&&es.all flat with
   |true=>pure ⟨.osl esz nm ver 0 len none,[(nm,.arr true true false es)]⟩
   |false=>.fail)
  |_=>.fail)
 |_=>.fail
def isAny:AV→Bool
 |.any=>true
 |_=>false
def holeSt(P:Program)(ev:Operand→AV)(op:Op)(n:Nat)(o0:AObj):Bool:=
 match op with
 |.store t a _=>(match tyOf P t,ev a,o0 with
  |some r,.ref n' _ i j,.arr _ false _ es=>(match es[i]? with
   |some (.agg l)=>Nat.beq n' n&&Nat.ble (j+r.size) l.length&&((l.drop j).take r.size).all isAny
   |_=>false)
  |_,_,_=>false)
 |_=>false
structure Look where
 fr:List AV
 ov:Option (Nat×AObj)
 nw:List AObj
def setNw(l:List AObj)(i:Nat)(o:AObj):List AObj:=if i=l.length then l++[o] else l.set i o
def setNws(nm:Nat)(l:List AObj):List (Nat×AObj)→List AObj
 |[]=>l
 |(n,o)::r=>setNws nm (setNw l (n-nm) o) r
def peekO[Glob](P:Program)(nm:Nat)(ops:Array Oper):List Oper→Look→RM Look
 |[],q=>pure q
 |o::r,q=>(match wantedA ops q.fr o with
  |none=>.fail
  |some false=>peekO P nm ops r { q with fr:=putA q.fr o.dst .undef }
  |some true=>(match o.op with
   |.call _=>.fail
   |.assign (.const (.slice none 0 0))=>(match o.dst with
    |some d=>peekO P nm ops r { q with fr:=q.fr.set d (.lit nilSl) }
    |none=>peekO P nm ops r q)
   |op=>do
     let e ←(opEff P (nm+q.nw.length) (evalA q.fr) o).over nm q.ov q.nw
     match e.wr.all fun q=>Nat.ble nm q.1 with
     |true=>peekO P nm ops r { q with fr:=putA q.fr o.dst e.val,nw:=setNws nm q.nw e.wr }
     |false=>(match q.ov,e.wr with
      |none,[(n,o')]=>.get n fun o0=>(match holeSt P (evalA q.fr) op n o0 with
        |true=>peekO P nm ops r { q with fr:=putA q.fr o.dst e.val,ov:=some (n,o') }
        |false=>.fail)
      |_,_=>.fail)))
def peekC[Glob](P:Program)(nm:Nat):Code→Look→RM (Look×Bool)
 |.skip,q=>pure (q,false)
 |.ret,q=>pure (q,true)
 |.seq a b,q=>do
  let q ←peekC P nm a q
  match q.2 with
  |true=>pure q
  |false=>peekC P nm b q.1
 |.region _ ops false,q=>do
  let q ←peekO P nm ops ops.toList q
  pure (q,false)
 |_,_=>.fail
def peek[Glob](P:Program)(nm:Nat)(g:FuncId)(args:List AV):RM Eff:=
 match P.funcs[g]? with
 |none=>.fail
 |some fn=>(match fn.body with
  |none=>.fail
  |some c=>do
   let q ←peekC P nm c ⟨args++List.replicate (fn.ntmps-args.length) .undef,none,[]⟩
   let l ←(resultsL P q.1.fr fn.results.toList).over nm q.1.ov q.1.nw
   match below nm (tupOf l)&&(match q.1.ov with
    |some (_,o)=>o.below nm
    |none=>true) with
   |true=>pure ⟨tupOf l,[]⟩
   |false=>.fail)
def ownRun(C:Ctx)(F:List AV→Option (Res×AHeap))(nm:Nat)(g:FuncId)(args:List AV):RM Eff:=do
 let as ←sealL 1000 args
 match C.intrO g with
 |some h=>(match h as with
  |some q=>ownOut nm q.1 q.2
  |none=>.fail)
 |none=>(match F as with
  |some (.val r,hpf)=>ownOut nm r hpf
  |_=>.fail)
def noRng:Code→Bool
 |.seq a b|.cond _ a b=>noRng a&&noRng b
 |.block _ b|.loop b|.scope b=>noRng b
 |.rangeFunc _ _ _ _=>false
 |_=>true
def plainC:Code→Bool
 |.seq a b|.cond _ a b=>plainC a&&plainC b
 |.block id b=>Nat.blt id 1073741824&&plainC b
 |.loop b=>plainC b
 |.exit id=>Nat.blt id 1073741824
 |.skip|.ret|.region _ _ _=>true
 |_=>false
def subC(l:Nat):Code→Option Code
 |.seq a b=>(subC l a).bind fun a=>(subC l b).map fun b=>.seq a b
 |.cond c a b=>(subC l a).bind fun a=>(subC l b).map fun b=>.cond c a b
 |.goto m=>if m=l then some (.exit 1073741825) else none
 |c=>if plainC c then some c else none
def cutC:Code→Option (Nat×Code×Code)
 |.seq (.label l) b=>some (l,.skip,b)
 |.seq a b=>if plainC a then (cutC b).map fun q=>(q.1,.seq a q.2.1,q.2.2) else none
 |_=>none
def noGoto:Code→Bool
 |.seq a b|.cond _ a b=>noGoto a&&noGoto b
 |.block _ b|.loop b|.scope b=>noGoto b
 |.rangeFunc _ _ _ _|.goto _=>false
 |_=>true
def scopeC(b:Code):Option Code:=
 match noGoto b with
 |true=>some b
 |false=>match cutC b with
 |some (l,a,r)=>(subC l r).map fun r'=>.seq a (.block 1073741824 (.loop (.block 1073741825 (.seq r' (.exit 1073741824)))))
 |none=>none
def usesO(o:Oper):List Nat:=o.op.operands.toList.filterMap fun|.tmp t=>some t|_=>none
def usesC:Code→List Nat
 |.seq a b=>usesC a++usesC b
 |.cond c a b=>(match c with|.tmp t=>[t]|_=>[])++(usesC a++usesC b)
 |.block _ b|.loop b|.scope b=>usesC b
 |.region _ ops _=>ops.toList.flatMap usesO
 |.rangeFunc f _ a b=>(match f with|.tmp t=>[t]|_=>[])++(usesC a++usesC b)
 |_=>[]
def keepF(u:List Nat):Nat→List AV→List AV
 |_,[]=>[]
 |i,x::xs=>(if u.contains i then x else .any)::keepF u (i+1) xs
def recF(as bd:Code)(fr:List AV):List AV:=keepF (usesC as++usesC bd) 0 fr
def putArgs(fr:List AV):List Tmp→List AV→List AV
 |p::ps,x::xs=>putArgs (fr.set p x) ps xs
 |_,_=>fr
def setSt(hp:AHeap)(n:Nat)(st:LSt):AHeap:=
 match hp[n]? with
 |some (some (.oth (.loop fn ps as bd _) fr))=>hp.set n (some (.oth (.loop fn ps as bd st) fr))
 |_=>hp
def endSt(hp:AHeap)(n:Nat):AHeap:=
 match hp[n]? with
 |some (some (.oth (.loop fn ps as bd _) fr))=>hp.set n (some (.oth (.loop fn ps as bd .over) (fr.map fun _=>.any)))
 |_=>hp
def loopSt(hp:AHeap)(n:Nat):Option LSt:=
 match hp[n]? with
 |some (some (.oth (.loop _ _ _ _ st) _))=>some st
 |_=>none
def endY(n:Nat)(dst:Option Tmp)(s:St)(b:Bool)(st:LSt)(hp:AHeap):Option Out:=
 match loopSt hp n with
 |some .busy=>some (.norm { s with fr:=putA s.fr dst (.lit (.bool b)),hp:=truncA s.hp.length (.lit (.bool b)) (setSt hp n st) })
 |_=>none
def yieldA(run:Code→St→Option Out)(n:Nat)(args:List AV)(dst:Option Tmp)(s:St):Option Out:=
 match s.hp[n]? with
 |some (some (.oth (.loop fn ps as bd .ready) fr))=>
  (match decide (args.length=ps.size)&&noRng as&&noRng bd with
  |true=>(match run as ⟨fn,putArgs fr ps.toList args,s.hp⟩ with
   |some (.norm s1)=>(match loopSt s1.hp n with
    |some .ready=>(match run bd { s1 with hp:=setSt s1.hp n .busy } with
     |some (.norm s2)=>endY n dst s true .ready s2.hp
     |some (.exit id s2)=>endY n dst s false (.jump (some id)) s2.hp
     |some (.ret s2)=>endY n dst s false (.jump none) s2.hp
     |_=>none)
    |_=>none)
   |_=>none)
  |false=>none)
 |_=>none
def overA(s:St)(n:Nat)(hp:AHeap):Option Out:=
 match loopSt hp n with
 |some .ready=>some (.norm { s with hp:=endSt hp n })
 |some (.jump none)=>some (.ret { s with hp:=endSt hp n })
 |some (.jump (some id))=>some (.exit id { s with hp:=endSt hp n })
 |_=>none
mutual
def evF[Glob](C:Ctx):Nat→FuncId→List AV→AHeap→Option (Res×AHeap)
 |0,_,_,_=>none
 |k+1,f,args,hp=>
  match C.P.funcs[f]? with
  |none=>none
  |some fn=>
   match fn.body with
   |none=>none
   |some c=>
    match evC C k c ⟨f,args++List.replicate (fn.ntmps-args.length) .undef,hp⟩ with
    |some (.norm s)|some (.ret s)=>
     match (resultsL C.P s.fr fn.results.toList).run s.hp with
     |some l=>some (.val (tupOf l),s.hp)
     |none=>none
    |some (.pnc v s)=>some (.pnc v,s.hp)
    |_=>none
def evC[Glob](C:Ctx):Nat→Code→St→Option Out
 |0,_,_=>none
 |k+1,c,s=>
  match c with
  |.skip|.label _=>some (.norm s)
  |.ret=>some (.ret s)
  |.exit id=>some (.exit id s)
  |.seq a b=>
   match evC C k a s with
   |some (.norm s')=>evC C k b s'
   |r=>r
  |.cond o a b=>
   match evalA s.fr o with
   |.lit (.bool t)=>match t with
    |true=>evC C k a s
    |false=>evC C k b s
   |_=>none
  |.block id b=>
   match evC C k b s with
   |some (.exit id' s')=>if id'=id then some (.norm s') else some (.exit id' s')
   |r=>r
  |.loop b=>
   match evC C k b s with
   |some (.norm s')=>evC C k (.loop b) (resetA s.hp.length s')
   |r=>r
  |.region id ops draw=>
   match draw with
   |false=>runOps (fun o s=>evO C k o s) ops ops.toList (holesA (C.holes s.fn id) s)
   |true=>
    if regionOk ops=true then
     match runDraw (fun nm o fr=>evE C k nm o fr) ops (nameOps 0 s.hp.length (ops.toList.take (C.head s.fn id ops)))
       { holesA (C.holes s.fn id) s with hp:=(holesA (C.holes s.fn id) s).hp++List.replicate ((ops.toList.take (C.head s.fn id ops)).filter fun o=>isAllocOp o.op).length none } with
     |some (s',fs)=>if (footsOk (predsA ops.toList) fs&&tailOk (predsA ops.toList) ops.size (C.head s.fn id ops))=true then runOps (fun o s=>evO C k o s) ops (ops.toList.drop (C.head s.fn id ops)) s' else none
     |none=>none
    else none
  |.scope b=>
   (match scopeC b with
   |some c=>evC C k c s
   |none=>none)
  |.rangeFunc f ps as bd=>
   (match resolveA (evalA s.fr f) [.mp true s.hp.length] with
   |some (g,args)=>(match evF C k g args (s.hp++[some (.oth (.loop s.fn ps as bd .ready) (recF as bd s.fr))]) with
    |some (.val _,hp1)=>overA s s.hp.length hp1
    |_=>none)
   |none=>none)
  |_=>none
def evO[Glob](C:Ctx):Nat→Oper→St→Option Out
 |0,_,_=>none
 |k+1,o,s=>
  match o.op with
  |.call c=>
   match c.callee with
   |.builtin _=>
    match (opEff C.P s.hp.length (evalA s.fr) o).run s.hp with
    |some e=>some (.norm { s with fr:=putA s.fr o.dst e.val,hp:=applyWr s.hp e.wr })
    |none=>none
   |.value f=>
    match resolveA (evalA s.fr f) (c.args.toList.map (evalA s.fr)) with
    |none=>(match evalA s.fr f with
     |.mp true n=>yieldA (fun c s=>evC C k c s) n (c.args.toList.map (evalA s.fr)) o.dst s
     |_=>none)
    |some (g,args)=>
     match isAllocOp o.op with
     |true=>match (ownRun C (fun as=>evF C k g as []) s.hp.length g args).run s.hp with
      |some e=>some (.norm { s with fr:=putA s.fr o.dst e.val,hp:=applyWr s.hp e.wr })
      |none=>none
     |false=>
     match C.kind g with
     |.pure=>match (evP C k g args).run s.hp with
      |some (.val r,wr)=>some (.norm { s with fr:=putA s.fr o.dst r,hp:=applyWr s.hp wr })
      |some (.pnc v,wr)=>some (.pnc v { s with hp:=applyWr s.hp wr })
      |none=>none
     |.imp=>
      match evF C k g args s.hp with
      |some (.val r,hp)=>some (.norm { s with fr:=putA s.fr o.dst r,hp:=truncA s.hp.length r hp })
      |some (.pnc v,hp)=>some (.pnc v { s with hp:=truncA s.hp.length v hp })
      |none=>none
   |.invoke _ _=>none
  |.assign (.const (.slice none 0 0))=>
   match o.dst with
   |some d=>
    if C.acc s.fn d then
     match sliceElem C.P o.type with
     |some r=>if 0<r.size then some (.norm { s with fr:=s.fr.set d (.osl r.size s.hp.length 0 0 0 none),hp:=s.hp++[some (.arr true true false [])] }) else none
     |none=>none
    else some (.norm { s with fr:=s.fr.set d (.lit nilSl) })
   |none=>some (.norm s)
  |_=>
   match (opEff C.P s.hp.length (evalA s.fr) o).run s.hp with
   |some e=>some (.norm (nilsA (C.nils s.fn) o.dst { s with fr:=putA s.fr o.dst e.val,hp:=applyWr s.hp e.wr }))
   |none=>none
def evP[Glob](C:Ctx):Nat→FuncId→List AV→RM (Res×List (Nat×AObj))
 |0,_,_=>.fail
 |k+1,g,args=>do
  let as ←sealL 1000 args
  match C.intr g with
  |some h=>(match h as with
   |some r=>pureOut args [] (.val r)
   |none=>.fail)
  |none=>
   match evF C k g as [] with
   |some (r,hpf)=>pureOut args hpf r
   |none=>.fail
def evE[Glob](C:Ctx):Nat→Nat→Oper→List AV→RM Eff
 |0,_,_,_=>.fail
 |k+1,nm,o,fr=>
  match o.op with
  |.call c=>
   match c.callee with
   |.builtin _=>opEff C.P nm (evalA fr) o
   |.value f=>
    match resolveA (evalA fr f) (c.args.toList.map (evalA fr)) with
    |none=>.fail
    |some (g,args)=>
     match isAllocOp o.op with
     |true=>ownRun C (fun as=>evF C k g as []) nm g args
     |false=>
     match C.kind g with
     |.pure=>do
      let (r,wr) ←evP C k g args
      match r with
      |.val r=>pure ⟨r,wr⟩
      |.pnc _=>RM.fail
     |.imp=>(match C.intrE g with
      |some h=>h args
      |none=>peek C.P nm g args)
   |.invoke _ _=>.fail
  |_=>opEff C.P nm (evalA fr) o
end
end Go.PI
end
section
/- PI, part C: what an abstract value stands for; the state's invariant; basic lemmas. -/
namespace Go.PI
structure Loc where
 blk:Option Nat
 esz:Nat
 tot:Nat
structure Env where
 ρ:Nat→Nat→Option Loc
 m:Nat→Option (Array Value)
 L:Nat
 own:Nat→Prop
abbrev leafV(v:Value):Bool:=v.oneCell'
def At(c:Array Value)(pos esz:Nat)(v:Value):Prop:=
 v.cells.size=esz∧(∀ q,q<esz→c[pos+q]?=v.cells[q]?)∧(∀ x,x∈v.cells.toList→leafV x=true)
mutual
def Rep(E:Env)(o:Bool):AV→Value→Prop
 |.lit x,v=>v=x
 |.agg l,v=>∃ c:List Value,v=.agg c.toArray∧RepL E o l c
 |.tup l,v=>∃ c:List Value,v=.tuple c.toArray∧RepT E o l c
 |.ifc t x,v=>∃ y,v=.iface t y∧Rep E o x y
 |.clo fn f c,v=>∃ fv cv:List Value,v=.func fn fv.toArray cv.toArray∧RepT E o f fv∧RepT E o c cv
 |.sl xs,v=>∃ a cap,v=.slice a xs.length cap∧xs.length≤cap∧(a=none→cap=0) ∧
   (xs=[]∨∃ b of esz c,a=some ⟨b,of,none⟩∧E.m b=some c∧RepS E xs c of esz)
 |.slx xs cap,v=>∃ a,v=.slice (some a) xs.length cap∧xs.length≤cap ∧
   (xs=[]∨∃ b of esz c,a=⟨b,of,none⟩∧E.m b=some c∧RepS E xs c of esz)
 |.eref e j,v=>∃ b of c ve,v=.pointer (some ⟨b,of+j,none⟩)∧E.m b=some c∧Rep E false e ve∧At c of ve.cells.size ve
 |.ref n ver i j,v=>o=true∧n<E.L∧∃ l b,E.ρ n ver=some l∧l.blk=some b∧v=.pointer (some ⟨b,i*l.esz+j,none⟩)
 |.osl esz n ver off len cap,v=>o=true∧n<E.L∧∃ l,E.ρ n ver=some l∧l.esz=esz∧ver≤l.tot ∧
   match l.blk with
   |none=>v=.slice none 0 0∧ver=0∧off=0∧len=0∧cap=none
   |some b=>∃ a ccap,v=.slice (some a) len ccap∧(∀ k,cap=some k→ccap=k)∧(cap=none→ccap=l.tot-off)∧len≤ccap ∧
     off+ccap≤l.tot∧0<l.esz∧(ccap≠0→a=⟨b,off*l.esz,none⟩)
 |.asl n ver i j len cap,v=>o=true∧n<E.L∧0<cap∧∃ l b,E.ρ n ver=some l∧l.blk=some b∧v=.slice (some ⟨b,i*l.esz+j,none⟩) len cap
 |.mp y n,v=>o=true∧n<E.L∧∃ l b,E.ρ n 0=some l∧l.blk=some b∧v=(match y with|true=>.func (.yield b) #[] #[]|false=>.map (some b))
 |.any,_=>o=true
 |.nz,v=>∃ a,v=.slice a 0 0
def RepL(E:Env)(o:Bool):List AV→List Value→Prop
 |[],[]=>True
 |x::xs,v::vs=>Rep E o x v∧leafV v=true∧RepL E o xs vs
 |_,_=>False
def RepT(E:Env)(o:Bool):List AV→List Value→Prop
 |[],[]=>True
 |x::xs,v::vs=>Rep E o x v∧RepT E o xs vs
 |_,_=>False
def RepS(E:Env):List AV→Array Value→Nat→Nat→Prop
 |[],_,_,_=>True
 |x::xs,c,pos,esz=>(∃ v,Rep E false x v∧At c pos esz v)∧RepS E xs c (pos+esz) esz
end
theorem RepL.toT{E:Env}{o:Bool}:∀ {l:List AV} {c:List Value},RepL E o l c→RepT E o l c
 |[],[],_=>by simp[RepT]
 |x::xs,v::vs,h=>by
  simp only[RepL]at h
  simp only[RepT]
  exact⟨h.1,RepL.toT h.2.2⟩
 |[],_::_,h=>by simp[RepL]at h
 |_::_,[],h=>by simp[RepL]at h
theorem RepT.length{E:Env}{o:Bool}:∀ {l:List AV} {c:List Value},RepT E o l c→l.length=c.length
 |[],[],_=>rfl
 |x::xs,v::vs,h=>by
  simp only[RepT]at h
  simp[RepT.length h.2]
 |[],_::_,h=>by simp[RepT]at h
 |_::_,[],h=>by simp[RepT]at h
theorem RepT.get{E:Env}{o:Bool}:∀ {l:List AV} {c:List Value},RepT E o l c→∀ {i:Nat} {x:AV},l[i]?=some x →
  ∃ v,c[i]?=some v∧Rep E o x v
 |[],[],_,i,x,hx=>by simp at hx
 |y::ys,v::vs,h,i,x,hx=>by
  simp only[RepT]at h
  cases i with
  |zero=>simp_all
  |succ i=>simp at hx; obtain⟨u,hu,hr⟩:=RepT.get h.2 hx; exact⟨u,by simpa using hu,hr⟩
 |[],_::_,h,_,_,_=>by simp[RepT]at h
 |_::_,[],h,_,_,_=>by simp[RepT]at h
theorem RepT.of_get{E:Env}{o:Bool}:∀ {l:List AV} {c:List Value},l.length=c.length →
  (∀ (i:Nat) (x:AV) (v:Value),l[i]?=some x→c[i]?=some v→Rep E o x v)→RepT E o l c
 |[],[],_,_=>by simp[RepT]
 |y::ys,v::vs,hl,h=>by
  simp only[RepT]
  refine⟨h 0 y v rfl rfl,RepT.of_get (by simpa using hl) fun i x u hx hu=>h (i+1) x u (by simpa using hx) (by simpa using hu)⟩
 |[],_::_,h,_=>by simp at h
 |_::_,[],h,_=>by simp at h
theorem RepT.append{E:Env}{o:Bool}:∀ {l l':List AV} {c c':List Value},RepT E o l c→RepT E o l' c'→RepT E o (l++l') (c++c')
 |[],_,[],_,_,h=>by simpa using h
 |x::xs,_,v::vs,_,h,h'=>by
  simp only[RepT,List.cons_append]at h ⊢
  exact⟨h.1,RepT.append h.2 h'⟩
 |[],_,_::_,_,h,_=>by simp[RepT]at h
 |_::_,_,[],_,h,_=>by simp[RepT]at h
theorem RepT.set{E:Env}{o:Bool}:∀ {l:List AV} {c:List Value},RepT E o l c→∀ (i:Nat) {x:AV} {v:Value},Rep E o x v →
  RepT E o (l.set i x) (c.set i v)
 |[],[],_,_,_,_,_=>by simp[RepT]
 |y::ys,u::us,h,i,x,v,hx=>by
  simp only[RepT]at h
  cases i with
  |zero=>simp_all[RepT]
  |succ i=>simp only[List.set_cons_succ,RepT]; exact⟨h.1,RepT.set h.2 i hx⟩
 |[],_::_,h,_,_,_,_=>by simp[RepT]at h
 |_::_,[],h,_,_,_,_=>by simp[RepT]at h
theorem RepL.leaf{E:Env}{o:Bool}:∀ {l:List AV} {c:List Value},RepL E o l c→∀ v∈c,leafV v=true
 |[],[],_,v,hv=>by simp at hv
 |x::xs,u::us,h,v,hv=>by
  simp only[RepL]at h
  cases hv with
  |head=>exact h.2.1
  |tail _ hv=>exact RepL.leaf h.2.2 v hv
 |[],_::_,h,_,_=>by simp[RepL]at h
 |_::_,[],h,_,_=>by simp[RepL]at h
theorem RepL.of{E:Env}{o:Bool}:∀ {l:List AV} {c:List Value},RepT E o l c→(∀ v∈c,leafV v=true)→RepL E o l c
 |[],[],_,_=>by simp[RepL]
 |x::xs,u::us,h,hv=>by
  simp only[RepT]at h
  simp only[RepL]
  exact⟨h.1,hv u (by simp),RepL.of h.2 fun v hm=>hv v (by simp[hm])⟩
 |[],_::_,h,_=>by simp[RepT]at h
 |_::_,[],h,_=>by simp[RepT]at h
theorem RepS.get{E:Env}{c:Array Value}{esz:Nat}:∀ {xs:List AV} {pos:Nat},RepS E xs c pos esz→∀ {i:Nat} {x:AV},xs[i]?=some x →
  ∃ v,Rep E false x v∧At c (pos+i*esz) esz v
 |[],_,_,i,x,hx=>by simp at hx
 |y::ys,pos,h,i,x,hx=>by
  simp only[RepS]at h
  cases i with
  |zero=>simp at hx; subst hx; simpa using h.1
  |succ i=>
   simp at hx
   obtain⟨v,hv,ha⟩:=RepS.get h.2 hx
   refine⟨v,hv,?_⟩
   have:pos+esz+i*esz=pos+(i+1)*esz:=by rw[Nat.succ_mul]; omega
   rwa [this]at ha
theorem RepS.of_get{E:Env}{c:Array Value}{esz:Nat}:∀ {xs:List AV} {pos:Nat},
  (∀ (i:Nat) (x:AV),xs[i]?=some x→∃ v,Rep E false x v∧At c (pos+i*esz) esz v)→RepS E xs c pos esz
 |[],_,_=>by simp[RepS]
 |y::ys,pos,h=>by
  simp only[RepS]
  refine⟨by simpa using h 0 y rfl,RepS.of_get fun i x hx=>?_⟩
  obtain⟨v,hv,ha⟩:=h (i+1) x (by simpa using hx)
  refine⟨v,hv,?_⟩
  have:pos+esz+i*esz=pos+(i+1)*esz:=by rw[Nat.succ_mul]; omega
  rwa [this]
structure Ext(E E':Env):Prop where
 m:∀ b c,E.m b=some c→E'.m b=some c
 ρ:∀ n,n<E.L→∀ ver l,E.ρ n ver=some l→E'.ρ n ver=some l
 L:E.L≤E'.L
theorem Ext.refl(E:Env):Ext E E:=⟨fun _ _ h=>h,fun _ _ _ _ h=>h,Nat.le_refl _⟩
theorem Ext.trans{A B C:Env}(h:Ext A B)(h':Ext B C):Ext A C:=
 ⟨fun b c x=>h'.m b c (h.m b c x),fun n hn ver l x=>h'.ρ n (Nat.lt_of_lt_of_le hn h.L) ver l (h.ρ n hn ver l x),Nat.le_trans h.L h'.L⟩
mutual
theorem Rep.mono{E E':Env}(h:Ext E E'){o:Bool}:∀ {x:AV} {v:Value},Rep E o x v→Rep E' o x v
 |.lit _,v,hr=>by simpa[Rep] using hr
 |.agg l,v,hr=>by
  simp only[Rep]at hr ⊢
  obtain⟨c,rfl,hc⟩:=hr
  exact⟨c,rfl,RepL.mono h hc⟩
 |.tup l,v,hr=>by
  simp only[Rep]at hr ⊢
  obtain⟨c,rfl,hc⟩:=hr
  exact⟨c,rfl,RepT.mono h hc⟩
 |.ifc t x,v,hr=>by
  simp only[Rep]at hr ⊢
  obtain⟨y,rfl,hy⟩:=hr
  exact⟨y,rfl,Rep.mono h hy⟩
 |.clo fn f c,v,hr=>by
  simp only[Rep]at hr ⊢
  obtain⟨fv,cv,rfl,hf,hc⟩:=hr
  exact⟨fv,cv,rfl,RepT.mono h hf,RepT.mono h hc⟩
 |.sl xs,v,hr=>by
  simp only[Rep]at hr ⊢
  obtain⟨a,cap,rfl,hl,hn,hx⟩:=hr
  refine⟨a,cap,rfl,hl,hn,hx.imp id ?_⟩
  rintro⟨b,of,esz,c,rfl,hm,hs⟩
  exact⟨b,of,esz,c,rfl,h.m _ _ hm,RepS.mono h hs⟩
 |.slx xs cap,v,hr=>by
  simp only[Rep]at hr ⊢
  obtain⟨a,rfl,hl,hx⟩:=hr
  refine⟨a,rfl,hl,hx.imp id ?_⟩
  rintro⟨b,of,esz,c,rfl,hm,hs⟩
  exact⟨b,of,esz,c,rfl,h.m _ _ hm,RepS.mono h hs⟩
 |.eref e j,v,hr=>by
  simp only[Rep]at hr ⊢
  obtain⟨b,of,c,ve,rfl,hm,he,ha⟩:=hr
  exact⟨b,of,c,ve,rfl,h.m _ _ hm,Rep.mono h he,ha⟩
 |.ref n ver i j,v,hr=>by
  simp only[Rep]at hr ⊢
  obtain⟨ho,hn,l,b,hl,hb,hv⟩:=hr
  exact⟨ho,Nat.lt_of_lt_of_le hn h.L,l,b,h.ρ n hn ver l hl,hb,hv⟩
 |.osl esz n ver off len cap,v,hr=>by
  simp only[Rep]at hr ⊢
  obtain⟨ho,hn,l,hl,hv⟩:=hr
  exact⟨ho,Nat.lt_of_lt_of_le hn h.L,l,h.ρ n hn ver l hl,hv⟩
 |.asl n ver i j len cap,v,hr=>by
  simp only[Rep]at hr ⊢
  obtain⟨ho,hn,hc,l,b,hl,hb,hv⟩:=hr
  exact⟨ho,Nat.lt_of_lt_of_le hn h.L,hc,l,b,h.ρ n hn ver l hl,hb,hv⟩
 |.mp y n,v,hr=>by
  simp only[Rep]at hr ⊢
  obtain⟨ho,hn,l,b,hl,hb,hv⟩:=hr
  exact⟨ho,Nat.lt_of_lt_of_le hn h.L,l,b,h.ρ n hn 0 l hl,hb,hv⟩
 |.any,v,hr=>by simpa[Rep] using hr
 |.nz,v,hr=>by simpa only[Rep] using hr
theorem RepL.mono{E E':Env}(h:Ext E E'){o:Bool}:∀ {l:List AV} {c:List Value},RepL E o l c→RepL E' o l c
 |[],[],_=>by simp[RepL]
 |x::xs,v::vs,hr=>by
  simp only[RepL]at hr ⊢
  exact⟨Rep.mono h hr.1,hr.2.1,RepL.mono h hr.2.2⟩
 |[],_::_,h=>by simp[RepL]at h
 |_::_,[],h=>by simp[RepL]at h
theorem RepT.mono{E E':Env}(h:Ext E E'){o:Bool}:∀ {l:List AV} {c:List Value},RepT E o l c→RepT E' o l c
 |[],[],_=>by simp[RepT]
 |x::xs,v::vs,hr=>by
  simp only[RepT]at hr ⊢
  exact⟨Rep.mono h hr.1,RepT.mono h hr.2⟩
 |[],_::_,h=>by simp[RepT]at h
 |_::_,[],h=>by simp[RepT]at h
theorem RepS.mono{E E':Env}(h:Ext E E'):∀ {xs:List AV} {c:Array Value} {pos esz:Nat},RepS E xs c pos esz→RepS E' xs c pos esz
 |[],_,_,_,_=>by simp[RepS]
 |x::xs,c,pos,esz,hr=>by
  simp only[RepS]at hr ⊢
  obtain⟨⟨v,hv,ha⟩,hs⟩:=hr
  exact⟨⟨v,Rep.mono h hv,ha⟩,RepS.mono h hs⟩
end
end Go.PI
end
section
/- PI, part D: the invariant of a state; reading and writing the world's cells. -/
namespace Go.PI
mutual
theorem Rep.widen{E:Env}:∀ {x:AV} {v:Value},Rep E false x v→Rep E true x v
 |.lit _,v,hr=>by simpa[Rep] using hr
 |.agg l,v,hr=>by
  simp only[Rep]at hr ⊢
  obtain⟨c,rfl,hc⟩:=hr
  exact⟨c,rfl,RepL.widen hc⟩
 |.tup l,v,hr=>by
  simp only[Rep]at hr ⊢
  obtain⟨c,rfl,hc⟩:=hr
  exact⟨c,rfl,RepT.widen hc⟩
 |.ifc t x,v,hr=>by
  simp only[Rep]at hr ⊢
  obtain⟨y,rfl,hy⟩:=hr
  exact⟨y,rfl,Rep.widen hy⟩
 |.clo fn f c,v,hr=>by
  simp only[Rep]at hr ⊢
  obtain⟨fv,cv,rfl,hf,hc⟩:=hr
  exact⟨fv,cv,rfl,RepT.widen hf,RepT.widen hc⟩
 |.sl xs,v,hr=>by simpa only[Rep] using hr
 |.slx xs cap,v,hr=>by simpa only[Rep] using hr
 |.eref e j,v,hr=>by simpa only[Rep] using hr
 |.ref n ver i j,v,hr=>by simp[Rep]at hr
 |.osl _ n ver off len cap,v,hr=>by simp[Rep]at hr
 |.asl _ _ _ _ _ _,v,hr=>by simp[Rep]at hr
 |.mp y n,v,hr=>by simp[Rep]at hr
 |.any,v,hr=>by simp[Rep]at hr
 |.nz,v,hr=>by simpa only[Rep] using hr
theorem RepL.widen{E:Env}:∀ {l:List AV} {c:List Value},RepL E false l c→RepL E true l c
 |[],[],_=>by simp[RepL]
 |x::xs,v::vs,hr=>by
  simp only[RepL]at hr ⊢
  exact⟨Rep.widen hr.1,hr.2.1,RepL.widen hr.2.2⟩
 |[],_::_,h=>by simp[RepL]at h
 |_::_,[],h=>by simp[RepL]at h
theorem RepT.widen{E:Env}:∀ {l:List AV} {c:List Value},RepT E false l c→RepT E true l c
 |[],[],_=>by simp[RepT]
 |x::xs,v::vs,hr=>by
  simp only[RepT]at hr ⊢
  exact⟨Rep.widen hr.1,RepT.widen hr.2⟩
 |[],_::_,h=>by simp[RepT]at h
 |_::_,[],h=>by simp[RepT]at h
end
mutual
theorem Rep.narrow{E:Env}:∀ {x:AV} {v:Value},closed x=true→Rep E true x v→Rep E false x v
 |.lit _,v,_,hr=>by simpa[Rep] using hr
 |.agg l,v,hc,hr=>by
  simp only[Rep]at hr ⊢
  obtain⟨c,rfl,h⟩:=hr
  exact⟨c,rfl,RepL.narrow (by simpa[closed] using hc) h⟩
 |.tup l,v,hc,hr=>by
  simp only[Rep]at hr ⊢
  obtain⟨c,rfl,h⟩:=hr
  exact⟨c,rfl,RepT.narrow (by simpa[closed] using hc) h⟩
 |.ifc t x,v,hc,hr=>by
  simp only[Rep]at hr ⊢
  obtain⟨y,rfl,hy⟩:=hr
  exact⟨y,rfl,Rep.narrow (by simpa[closed] using hc) hy⟩
 |.clo fn f c,v,hc,hr=>by
  simp only[Rep]at hr ⊢
  simp only[closed,Bool.and_eq_true]at hc
  obtain⟨fv,cv,rfl,h1,h2⟩:=hr
  exact⟨fv,cv,rfl,RepT.narrow hc.1 h1,RepT.narrow hc.2 h2⟩
 |.sl xs,v,_,hr=>by simpa only[Rep] using hr
 |.nz,v,_,hr=>by simpa only[Rep] using hr
 |.slx xs cap,v,_,hr=>by simpa only[Rep] using hr
 |.eref e j,v,_,hr=>by simpa only[Rep] using hr
 |.ref n ver i j,v,hc,hr=>by simp[closed]at hc
 |.osl _ n ver off len cap,v,hc,hr=>by simp[closed]at hc
 |.asl _ _ _ _ _ _,v,hc,hr=>by simp[closed]at hc
 |.mp y n,v,hc,hr=>by simp[closed]at hc
 |.any,v,hc,hr=>by simp[closed]at hc
theorem RepL.narrow{E:Env}:∀ {l:List AV} {c:List Value},closedL l=true→RepL E true l c→RepL E false l c
 |[],[],_,_=>by simp[RepL]
 |x::xs,v::vs,hc,hr=>by
  simp only[RepL]at hr ⊢
  simp only[closedL,Bool.and_eq_true]at hc
  exact⟨Rep.narrow hc.1 hr.1,hr.2.1,RepL.narrow hc.2 hr.2.2⟩
 |[],_::_,_,h=>by simp[RepL]at h
 |_::_,[],_,h=>by simp[RepL]at h
theorem RepT.narrow{E:Env}:∀ {l:List AV} {c:List Value},closedL l=true→RepT E true l c→RepT E false l c
 |[],[],_,_=>by simp[RepT]
 |x::xs,v::vs,hc,hr=>by
  simp only[RepT]at hr ⊢
  simp only[closedL,Bool.and_eq_true]at hc
  exact⟨Rep.narrow hc.1 hr.1,RepT.narrow hc.2 hr.2⟩
 |[],_::_,_,h=>by simp[RepT]at h
 |_::_,[],_,h=>by simp[RepT]at h
end
structure Ext0(E E':Env):Prop where
 m:∀ b c,E.m b=some c→E'.m b=some c
mutual
theorem Rep.mono0{E E':Env}(h:Ext0 E E'):∀ {x:AV} {v:Value},Rep E false x v→Rep E' false x v
 |.lit _,v,hr=>by simpa[Rep] using hr
 |.agg l,v,hr=>by
  simp only[Rep]at hr ⊢
  obtain⟨c,rfl,hc⟩:=hr
  exact⟨c,rfl,RepL.mono0 h hc⟩
 |.tup l,v,hr=>by
  simp only[Rep]at hr ⊢
  obtain⟨c,rfl,hc⟩:=hr
  exact⟨c,rfl,RepT.mono0 h hc⟩
 |.ifc t x,v,hr=>by
  simp only[Rep]at hr ⊢
  obtain⟨y,rfl,hy⟩:=hr
  exact⟨y,rfl,Rep.mono0 h hy⟩
 |.clo fn f c,v,hr=>by
  simp only[Rep]at hr ⊢
  obtain⟨fv,cv,rfl,hf,hc⟩:=hr
  exact⟨fv,cv,rfl,RepT.mono0 h hf,RepT.mono0 h hc⟩
 |.sl xs,v,hr=>by
  simp only[Rep]at hr ⊢
  obtain⟨a,cap,rfl,hl,hn,hx⟩:=hr
  refine⟨a,cap,rfl,hl,hn,hx.imp id ?_⟩
  rintro⟨b,of,esz,c,rfl,hm,hs⟩
  exact⟨b,of,esz,c,rfl,h.m _ _ hm,RepS.mono0 h hs⟩
 |.slx xs cap,v,hr=>by
  simp only[Rep]at hr ⊢
  obtain⟨a,rfl,hl,hx⟩:=hr
  refine⟨a,rfl,hl,hx.imp id ?_⟩
  rintro⟨b,of,esz,c,rfl,hm,hs⟩
  exact⟨b,of,esz,c,rfl,h.m _ _ hm,RepS.mono0 h hs⟩
 |.eref e j,v,hr=>by
  simp only[Rep]at hr ⊢
  obtain⟨b,of,c,ve,rfl,hm,he,ha⟩:=hr
  exact⟨b,of,c,ve,rfl,h.m _ _ hm,Rep.mono0 h he,ha⟩
 |.ref n ver i j,v,hr=>by simp[Rep]at hr
 |.osl _ n ver off len cap,v,hr=>by simp[Rep]at hr
 |.asl _ _ _ _ _ _,v,hr=>by simp[Rep]at hr
 |.mp y n,v,hr=>by simp[Rep]at hr
 |.any,v,hr=>by simp[Rep]at hr
 |.nz,v,hr=>by simpa only[Rep] using hr
theorem RepL.mono0{E E':Env}(h:Ext0 E E'):∀ {l:List AV} {c:List Value},RepL E false l c→RepL E' false l c
 |[],[],_=>by simp[RepL]
 |x::xs,v::vs,hr=>by
  simp only[RepL]at hr ⊢
  exact⟨Rep.mono0 h hr.1,hr.2.1,RepL.mono0 h hr.2.2⟩
 |[],_::_,h=>by simp[RepL]at h
 |_::_,[],h=>by simp[RepL]at h
theorem RepT.mono0{E E':Env}(h:Ext0 E E'):∀ {l:List AV} {c:List Value},RepT E false l c→RepT E' false l c
 |[],[],_=>by simp[RepT]
 |x::xs,v::vs,hr=>by
  simp only[RepT]at hr ⊢
  exact⟨Rep.mono0 h hr.1,RepT.mono0 h hr.2⟩
 |[],_::_,h=>by simp[RepT]at h
 |_::_,[],h=>by simp[RepT]at h
theorem RepS.mono0{E E':Env}(h:Ext0 E E'):∀ {xs:List AV} {c:Array Value} {pos esz:Nat},RepS E xs c pos esz→RepS E' xs c pos esz
 |[],_,_,_,_=>by simp[RepS]
 |x::xs,c,pos,esz,hr=>by
  simp only[RepS]at hr ⊢
  obtain⟨⟨v,hv,ha⟩,hs⟩:=hr
  exact⟨⟨v,Rep.mono0 h hv,ha⟩,RepS.mono0 h hs⟩
end
mutual
theorem Rep.flat{E E':Env}:∀ {o o':Bool} {x:AV} {v:Value},flat x=true→Rep E o x v→Rep E' o' x v
 |_,_,.lit _,v,_,hr=>by simpa[Rep] using hr
 |_,_,.agg l,v,hc,hr=>by
  simp only[Rep]at hr ⊢
  obtain⟨c,rfl,h⟩:=hr
  exact⟨c,rfl,RepL.flat (by simpa[PI.flat] using hc) h⟩
 |_,_,.tup l,v,hc,hr=>by
  simp only[Rep]at hr ⊢
  obtain⟨c,rfl,h⟩:=hr
  exact⟨c,rfl,RepT.flat (by simpa[PI.flat] using hc) h⟩
 |_,_,.ifc t x,v,hc,hr=>by
  simp only[Rep]at hr ⊢
  obtain⟨y,rfl,hy⟩:=hr
  exact⟨y,rfl,Rep.flat (by simpa[PI.flat] using hc) hy⟩
 |_,_,.clo fn f c,v,hc,hr=>by simp[PI.flat]at hc
 |_,_,.sl xs,v,hc,hr=>by simp[PI.flat]at hc
 |_,_,.slx xs cap,v,hc,hr=>by simp[PI.flat]at hc
 |_,_,.eref e j,v,hc,hr=>by simp[PI.flat]at hc
 |_,_,.ref n ver i j,v,hc,hr=>by simp[PI.flat]at hc
 |_,_,.osl _ n ver off len cap,v,hc,hr=>by simp[PI.flat]at hc
 |_,_,.asl _ _ _ _ _ _,v,hc,hr=>by simp[PI.flat]at hc
 |_,_,.mp y n,v,hc,hr=>by simp[PI.flat]at hc
 |_,_,.any,v,hc,hr=>by simp[PI.flat]at hc
 |_,_,.nz,v,hc,hr=>by simp[PI.flat]at hc
theorem RepL.flat{E E':Env}:∀ {o o':Bool} {l:List AV} {c:List Value},flatL l=true→RepL E o l c→RepL E' o' l c
 |_,_,[],[],_,_=>by simp[RepL]
 |_,_,x::xs,v::vs,hc,hr=>by
  simp only[RepL]at hr ⊢
  simp only[flatL,Bool.and_eq_true]at hc
  exact⟨Rep.flat hc.1 hr.1,hr.2.1,RepL.flat hc.2 hr.2.2⟩
 |_,_,[],_::_,_,h=>by simp[RepL]at h
 |_,_,_::_,[],_,h=>by simp[RepL]at h
theorem RepT.flat{E E':Env}:∀ {o o':Bool} {l:List AV} {c:List Value},flatL l=true→RepT E o l c→RepT E' o' l c
 |_,_,[],[],_,_=>by simp[RepT]
 |_,_,x::xs,v::vs,hc,hr=>by
  simp only[RepT]at hr ⊢
  simp only[flatL,Bool.and_eq_true]at hc
  exact⟨Rep.flat hc.1 hr.1,RepT.flat hc.2 hr.2⟩
 |_,_,[],_::_,_,h=>by simp[RepT]at h
 |_,_,_::_,[],_,h=>by simp[RepT]at h
end
structure Down(E E':Env):Prop where
 m:∀ b c,E.m b=some c→E'.m b=some c
 ρ:∀ n,n<E'.L→∀ ver l,E.ρ n ver=some l→E'.ρ n ver=some l
mutual
theorem Rep.down{E E':Env}(h:Down E E'){o:Bool}:∀ {x:AV} {v:Value},below E'.L x=true→Rep E o x v→Rep E' o x v
 |.lit _,v,_,hr=>by simpa[Rep] using hr
 |.agg l,v,hb,hr=>by
  simp only[Rep]at hr ⊢
  obtain⟨c,rfl,hc⟩:=hr
  exact⟨c,rfl,RepL.down h (by simpa[below] using hb) hc⟩
 |.tup l,v,hb,hr=>by
  simp only[Rep]at hr ⊢
  obtain⟨c,rfl,hc⟩:=hr
  exact⟨c,rfl,RepT.down h (by simpa[below] using hb) hc⟩
 |.ifc t x,v,hb,hr=>by
  simp only[Rep]at hr ⊢
  obtain⟨y,rfl,hy⟩:=hr
  exact⟨y,rfl,Rep.down h (by simpa[below] using hb) hy⟩
 |.clo fn f c,v,hb,hr=>by
  simp only[Rep]at hr ⊢
  simp only[below,Bool.and_eq_true]at hb
  obtain⟨fv,cv,rfl,hf,hc⟩:=hr
  exact⟨fv,cv,rfl,RepT.down h hb.1 hf,RepT.down h hb.2 hc⟩
 |.sl xs,v,_,hr=>by
  simp only[Rep]at hr ⊢
  obtain⟨a,cap,rfl,hl,hn,hx⟩:=hr
  refine⟨a,cap,rfl,hl,hn,hx.imp id ?_⟩
  rintro⟨b,of,esz,c,rfl,hm,hs⟩
  exact⟨b,of,esz,c,rfl,h.m _ _ hm,RepS.mono0 ⟨h.m⟩ hs⟩
 |.nz,v,_,hr=>by simpa only[Rep] using hr
 |.slx xs cap,v,_,hr=>by
  simp only[Rep]at hr ⊢
  obtain⟨a,rfl,hl,hx⟩:=hr
  refine⟨a,rfl,hl,hx.imp id ?_⟩
  rintro⟨b,of,esz,c,rfl,hm,hs⟩
  exact⟨b,of,esz,c,rfl,h.m _ _ hm,RepS.mono0 ⟨h.m⟩ hs⟩
 |.eref e j,v,_,hr=>by
  simp only[Rep]at hr ⊢
  obtain⟨b,of,c,ve,rfl,hm,he,ha⟩:=hr
  exact⟨b,of,c,ve,rfl,h.m _ _ hm,Rep.mono0 ⟨h.m⟩ he,ha⟩
 |.ref n ver i j,v,hb,hr=>by
  simp only[Rep]at hr ⊢
  have hn':n<E'.L:=by simpa[below] using hb
  obtain⟨ho,hn,l,b,hl,hbl,hv⟩:=hr
  exact⟨ho,hn',l,b,h.ρ n hn' ver l hl,hbl,hv⟩
 |.osl _ n ver off len cap,v,hb,hr=>by
  simp only[Rep]at hr ⊢
  have hn':n<E'.L:=by simpa[below] using hb
  obtain⟨ho,hn,l,hl,hv⟩:=hr
  exact⟨ho,hn',l,h.ρ n hn' ver l hl,hv⟩
 |.asl n ver i j len cap,v,hb,hr=>by
  simp only[Rep]at hr ⊢
  have hn':n<E'.L:=by simpa[below] using hb
  obtain⟨ho,hn,hc,l,b,hl,hbl,hv⟩:=hr
  exact⟨ho,hn',hc,l,b,h.ρ n hn' ver l hl,hbl,hv⟩
 |.mp y n,v,hb,hr=>by
  simp only[Rep]at hr ⊢
  have hn':n<E'.L:=by simpa[below] using hb
  obtain⟨ho,hn,l,b,hl,hbl,hv⟩:=hr
  exact⟨ho,hn',l,b,h.ρ n hn' 0 l hl,hbl,hv⟩
 |.any,v,_,hr=>by simpa[Rep] using hr
theorem RepL.down{E E':Env}(h:Down E E'){o:Bool}:∀ {l:List AV} {c:List Value},belowL E'.L l=true→RepL E o l c→RepL E' o l c
 |[],[],_,_=>by simp[RepL]
 |x::xs,v::vs,hb,hr=>by
  simp only[RepL]at hr ⊢
  simp only[belowL,Bool.and_eq_true]at hb
  exact⟨Rep.down h hb.1 hr.1,hr.2.1,RepL.down h hb.2 hr.2.2⟩
 |[],_::_,_,h=>by simp[RepL]at h
 |_::_,[],_,h=>by simp[RepL]at h
theorem RepT.down{E E':Env}(h:Down E E'){o:Bool}:∀ {l:List AV} {c:List Value},belowL E'.L l=true→RepT E o l c→RepT E' o l c
 |[],[],_,_=>by simp[RepT]
 |x::xs,v::vs,hb,hr=>by
  simp only[RepT]at hr ⊢
  simp only[belowL,Bool.and_eq_true]at hb
  exact⟨Rep.down h hb.1 hr.1,RepT.down h hb.2 hr.2⟩
 |[],_::_,_,h=>by simp[RepT]at h
 |_::_,[],_,h=>by simp[RepT]at h
end
def LSt.is:LSt→LoopState→Option Code→Prop
 |.ready,s,p=>s=.ready∧p=none
 |.busy,s,p=>s=.busy∧p=none
 |.jump none,s,p=>s=.done∧p=some .ret
 |.jump (some id),s,p=>s=.done∧p=some (.exit id)
 |.over,_,_=>True
def OKind.is:OKind→Obj→List Value→Prop
 |.map kk keys,.map es _,us=>es.toList.map (·.key)=keys∧es.toList.map (·.val)=us∧∀ k∈keys,kk.ok k=true
 |.loop _ ps as bd st,.loop r,us=>r.params=ps∧r.assign=as∧r.body=bd∧st.is r.state r.pending∧r.tmps.toList=us
 |_,_,_=>False
def ObjOk(E:Env)(w:World)(n:Nat):AObj→Prop
 |.arr g cl fz es=>∃ l,E.ρ n es.length=some l∧(∀ ver l',E.ρ n ver=some l'→ver≤es.length) ∧
   match l.blk with
   |none=>g=true∧es=[]
   |some b=>∃ c T,w.heap[b]?=some (.cells c T (0,0))∧(if fz then E.m b=some c else E.m b=none∧E.own b) ∧
     0<l.esz∧c.size=l.tot*l.esz∧es.length≤l.tot∧(g=false→l.tot=es.length) ∧
     (∀ (i:Nat) (e:AV),es[i]?=some e→∃ v,Rep E (!cl) e v∧At c (i*l.esz) l.esz v)
 |.oth k vs=>∃ l b ob us,E.ρ n 0=some l∧l.blk=some b∧w.heap[b]?=some ob∧E.m b=none∧E.own b ∧
   (∀ ver l',E.ρ n ver=some l'→ver=0) ∧
   k.is ob us∧RepT E true vs us
def BlkOf(E:Env)(hp:AHeap)(n b:Nat):Prop:=
 ∃ o l,hp[n]?=some (some o)∧(match o with
   |.arr _ _ _ es=>E.ρ n es.length=some l
   |.oth _ _=>E.ρ n 0=some l)∧l.blk=some b
def GlobOk[Glob](E:Env):Prop:=∀ b c,Glob.g b=some c→E.m b=some c∧∀ x∈c.toList,leafV x=true
theorem GlobOk.mono[Glob]{E E':Env}(h:GlobOk E)(hx:∀ b c,E.m b=some c→E'.m b=some c):GlobOk E':=fun b c hb=>⟨hx _ _ (h b c hb).1,(h b c hb).2⟩
structure Inv[Glob](E:Env)(hp:AHeap)(w:World):Prop where
 len:hp.length=E.L
 objs:∀ n o,hp[n]?=some (some o)→ObjOk E w n o
 free:∀ n ver,hp[n]?=some none→E.ρ n ver=none
 inj:∀ n n' b,BlkOf E hp n b→BlkOf E hp n' b→n=n'
 mem:∀ b c,E.m b=some c→∃ T fz,w.heap[b]?=some (.cells c T fz)
 ownb:∀ b,E.own b→b<w.heap.size
 glob:GlobOk E
structure Fr(E:Env)(w:World)(E':Env)(w':World):Prop where
 os:w'.os=w.os
 tape:w'.tape=w.tape
 out:w'.output=w.output
 size:w.heap.size≤w'.heap.size
 same:∀ b,b<w.heap.size→¬E.own b→w'.heap[b]?=w.heap[b]?
 own:∀ b,E'.own b→E.own b∨w.heap.size≤b
 m:∀ b c,E'.m b=some c→E.m b=some c∨E.own b∨w.heap.size≤b
theorem Fr.refl(E:Env)(w:World):Fr E w E w:=⟨rfl,rfl,rfl,Nat.le_refl _,fun _ _ _=>rfl,fun _ h=>.inl h,fun _ _ h=>.inl h⟩
theorem Fr.trans{A B C:Env}{u v w:World}(h:Fr A u B v)(h':Fr B v C w):Fr A u C w where
 os:=h'.os.trans h.os
 tape:=h'.tape.trans h.tape
 out:=h'.out.trans h.out
 size:=Nat.le_trans h.size h'.size
 same b hb ho:=by
  have h1:¬B.own b:=fun hB=>by
   rcases h.own b hB with h2|h2
   ·exact ho h2
   ·omega
  rw[h'.same b (Nat.lt_of_lt_of_le hb h.size) h1,h.same b hb ho]
 own b hb:=by
  rcases h'.own b hb with h1|h1
  ·exact h.own b h1
  ·exact .inr (Nat.le_trans h.size h1)
 m b c hb:=by
   rcases h'.m b c hb with h1|h1|h1
   ·exact h.m b c h1
   ·rcases h.own b h1 with h2|h2
    ·exact .inr (.inl h2)
    ·exact .inr (.inr h2)
   ·exact .inr (.inr (Nat.le_trans h.size h1))
end Go.PI
end
section
/- PI, part E: parts of values; loads. -/
namespace Go.PI
theorem Rep.leaf{E:Env}{o:Bool}{x:AV}{v:Value}(hl:isLeaf x=true)(h:Rep E o x v):leafV v=true:=by
 cases x with
 |lit y=>
  simp only[Rep]at h; subst h
  cases v<;>simp_all[isLeaf,Value.oneCell']
 |agg l=>simp[isLeaf]at hl
 |tup l=>simp[isLeaf]at hl
 |any=>simp[isLeaf]at hl
 |asl n ver i j len cap=>simp only[Rep]at h; obtain⟨_,_,_,_,_,_,_,rfl⟩:=h; rfl
 |sl xs=>simp only[Rep]at h; obtain⟨a,cap,rfl,_⟩:=h; rfl
 |nz=>simp only[Rep]at h; obtain⟨a,rfl⟩:=h; rfl
 |slx xs c=>simp only[Rep]at h; obtain⟨a,rfl,_⟩:=h; rfl
 |eref e j=>simp only[Rep]at h; obtain⟨_,_,_,_,rfl,_⟩:=h; rfl
 |ref n ver i j=>simp only[Rep]at h; obtain⟨_,_,_,_,_,_,rfl⟩:=h; rfl
 |osl esz n ver off len cap=>
  simp only[Rep]at h
  obtain⟨_,_,l,_,_,_,h⟩:=h
  cases hb:l.blk with
  |none=>simp only[hb]at h; rw[h.1]; rfl
  |some b=>simp only[hb]at h; obtain⟨_,_,rfl,_⟩:=h; rfl
 |clo fn f c=>simp only[Rep]at h; obtain⟨_,_,rfl,_⟩:=h; rfl
 |ifc t y=>simp only[Rep]at h; obtain⟨_,rfl,_⟩:=h; rfl
 |mp y n=>simp only[Rep]at h; obtain⟨_,_,_,_,_,_,rfl⟩:=h; cases y<;>rfl
theorem cells_leaf{v:Value}(h:leafV v=true):v.cells=#[v]:=by
 cases v<;>first|rfl|simp[Value.oneCell']at h
theorem RepL.toArray{E:Env}{o:Bool}{l:List AV}{c:List Value}(h:RepL E o l c):Rep E o (.agg l) (.agg c.toArray):=by
 simp only[Rep]; exact⟨c,rfl,h⟩
theorem RepL.length{E:Env}{o:Bool}{l:List AV}{c:List Value}(h:RepL E o l c):l.length=c.length:=RepT.length h.toT
theorem RepL.of_get{E:Env}{o:Bool}{l:List AV}{c:List Value}(hl:l.length=c.length)
  (h:∀ (i:Nat) (x:AV) (v:Value),l[i]?=some x→c[i]?=some v→Rep E o x v∧leafV v=true):RepL E o l c:=by
 refine RepL.of (RepT.of_get hl fun i x v hx hv=>(h i x v hx hv).1) fun v hv=>?_
 obtain⟨i,hi,he⟩:=List.mem_iff_getElem.1 hv
 have hi':i<l.length:=by omega
 exact(h i l[i] v (by simp[hi']) (by simp[hi,he])).2
theorem RepL.get{E:Env}{o:Bool}{l:List AV}{c:List Value}(h:RepL E o l c){i:Nat}{x:AV}(hx:l[i]?=some x):
  ∃ v,c[i]?=some v∧Rep E o x v∧leafV v=true:=by
 obtain⟨v,hv,hr⟩:=RepT.get h.toT hx
 exact⟨v,hv,hr,h.leaf v (List.mem_of_getElem? hv)⟩
theorem RepL.part[Glob]{E:Env}{o:Bool}{l:List AV}{c:List Value}(h:RepL E o l c)(j n:Nat):
  RepL E o ((l.drop j).take n) ((c.drop j).take n):=by
 have hlen:=h.length
 refine RepL.of_get (by simp[hlen]) fun i x v hx hv=>?_
 by_cases hi:i<n
 ·rw[List.getElem?_take_of_lt hi,List.getElem?_drop]at hx hv
  obtain⟨u,hu,hr,hl⟩:=h.get hx
  rw[hu]at hv; cases hv
  exact⟨hr,hl⟩
 ·rw[List.getElem?_take]at hx
  simp[hi]at hx
theorem run_isAgg{P:Program}{t:TypeId}{d:TypeDesc}(h:P.underlying t=some d)(w:World):(isAgg t).run P w=.ok (isAggD d) w:=by
 unfold isAgg
 rw[Sem.run_bind,run_underlying h w]
 cases d<;>rfl
theorem tyOf_some{P:Program}{t:TypeId}{r:TyRow}(h:tyOf P t=some r):P.underlying t=some r.desc ∧
  ∃ i,P.info? t=some i∧i.size=r.size∧i.bytes=r.bytes∧i.zero=r.zero∧i.comparable=r.comparable:=by
 unfold tyOf at h
 split at h
 ·rename_i i d hi hd
  simp only[Option.some.injEq]at h
  subst h
  exact⟨hd,i,hi,rfl,rfl,rfl,rfl⟩
 ·simp at h
theorem run_sizeOf'[Glob]{P:Program}{t:TypeId}{r:TyRow}(h:tyOf P t=some r)(w:World):(sizeOf t).run P w=.ok r.size w:=by
 obtain⟨_,i,hi,hs,_⟩:=tyOf_some h
 simp[sizeOf,typeInfo,hi,hs]
theorem load_part[Glob]{P:Program}{E:Env}{o:Bool}{w:World}{b pos esz:Nat}{c:Array Value}{T:TypeId}{fz:Nat×Nat}{e:AV}{ve:Value}
  {t:TypeId} {r:TyRow} {j:Nat} {x:AV}
  (hw:w.heap[b]?=some (.cells c T fz)) (ha:At c pos esz ve) (he:Rep E o e ve) (ht:tyOf P t=some r)
  (hp:partA r.isAgg r.size e j=some x) :
  ∃ v,(loadVar t ⟨b,pos+j,none⟩).run P w=.ok v w∧Rep E o x v:=by
 obtain⟨hsz,hcells,hleaf⟩:=ha
 have hcell:∀ q,w.cell? ⟨b,q,none⟩=c[q]?:=fun q=>by simp[World.cell?,hw]
 have hagg:=run_isAgg (tyOf_some ht).1 w
 have hso:=run_sizeOf' ht w
 change partA (isAggD r.desc) r.size e j=some x at hp
 generalize isAggD r.desc=A at hagg hp
 unfold loadVar
 rw[Sem.run_bind,hagg,Result.andThen_ok]
 cases A with
 |true=>
  simp only[if_true]
  unfold partA at hp
  split at hp
  ·rename_i l
   simp only[if_true]at hp
   split at hp
   case isFalse=>simp at hp
   rename_i hle
   simp only[Option.some.injEq]at hp
   subst hp
   simp only[Rep]at he
   obtain⟨cl,rfl,hcl⟩:=he
   have hlen:=hcl.length
   simp only[Value.cells,List.size_toArray]at hsz hcells
   have hload:=run_loadCells_list (P:=P) w ⟨b,pos+j,none⟩ ((cl.drop j).take r.size) (fun q v hv=>by
    have hq:q<r.size:=by
     rcases Nat.lt_or_ge q r.size with h|h
     ·exact h
     ·rw[List.getElem?_take]at hv; simp[Nat.not_lt.2 h]at hv
    rw[List.getElem?_take_of_lt hq,List.getElem?_drop]at hv
    have hadd:(⟨b,pos+j,none⟩:Addr).add q=⟨b,pos+(j+q),none⟩:=by
     unfold Addr.add; split
     ·subst_vars; simp
     ·simp[Nat.add_assoc]
    rw[hadd,hcell,hcells (j+q) (by omega)]
    simpa using hv)
   have hl2:((cl.drop j).take r.size).length=r.size:=by simp; omega
   rw[hl2]at hload
   refine⟨.agg ((cl.drop j).take r.size).toArray,?_,?_⟩
   ·simp[hso,hload]
   ·exact(hcl.part j r.size).toArray
  ·simp at hp
 |false=>
  simp only[Bool.false_eq_true,if_false]
  unfold partA at hp
  split at hp
  ·rename_i l
   simp only[Bool.false_eq_true,if_false]at hp
   simp only[Rep]at he
   obtain⟨cl,rfl,hcl⟩:=he
   simp only[Value.cells,List.size_toArray]at hsz hcells
   obtain⟨v,hv,hr,_⟩:=hcl.get hp
   have hj:j<cl.length:=by
    grind
   refine⟨v,?_,hr⟩
   rw[run_load,hcell,hcells j (by omega)]
   simp[hv]
  ·rename_i y
   simp only[Bool.not_false,Bool.true_and,Bool.and_eq_true,decide_eq_true_eq]at hp
   split at hp
   case isFalse=>simp at hp
   rename_i hc
   simp only[Option.some.injEq]at hp
   subst hp
   obtain⟨hlf,rfl⟩:=hc
   have hv:=cells_leaf (Rep.leaf hlf he)
   refine⟨ve,?_,he⟩
   rw[run_load,hcell,hcells 0 (by rw[←hsz,hv]; simp)]
   simp[hv]
end Go.PI
end
section
/- PI, part F: writing to an object; a new object; stores. -/
namespace Go.PI
theorem BlkOf.fun{E:Env}{hp:AHeap}{n b b':Nat}(h:BlkOf E hp n b)(h':BlkOf E hp n b'):b=b':=by
 obtain⟨o,l,ho,hl,hb⟩:=h
 obtain⟨o',l',ho',hl',hb'⟩:=h'
 rw[ho]at ho'
 cases ho'
 cases o with
 |arr g cl fz es=>simp_all
 |oth k es=>simp_all
theorem ObjOk.blk_lt{E:Env}{w:World}{n:Nat}{o:AObj}{hp:AHeap}{b:Nat}(hn:hp[n]?=some (some o))(h:ObjOk E w n o)(hb:BlkOf E hp n b):
  ∃ ob,w.heap[b]?=some ob:=by
 obtain⟨o',l,ho,hl,hbl⟩:=hb
 rw[hn]at ho; cases ho
 cases o with
 |arr g cl fz es=>
  obtain⟨l',hl',_,hm⟩:=h
  simp only at hl; rw[hl]at hl'; cases hl'
  rw[hbl]at hm
  obtain⟨c,T,hw,_⟩:=hm
  exact⟨_,hw⟩
 |oth k es=>
  obtain⟨l',b',es',clock,hl',hb',hw,_⟩:=h
  simp only at hl; rw[hl]at hl'; cases hl'
  rw[hbl]at hb'; cases hb'
  exact⟨_,hw⟩
theorem ObjOk.other{E:Env}{w w':World}{n:Nat}{o:AObj}{hp:AHeap}(hn:hp[n]?=some (some o))(h:ObjOk E w n o)
  (hs:∀ b,BlkOf E hp n b→w'.heap[b]?=w.heap[b]?):ObjOk E w' n o:=by
 cases o with
 |arr g cl fz es=>
  obtain⟨l,hl,hv,hm⟩:=h
  refine⟨l,hl,hv,?_⟩
  cases hb:l.blk with
  |none=>rw[hb]at hm; exact hm
  |some b=>
   rw[hb]at hm
   obtain⟨c,T,hw,rest⟩:=hm
   exact⟨c,T,by rw[hs b ⟨_,l,hn,hl,hb⟩]; exact hw,rest⟩
 |oth k es=>
  obtain⟨l,b,es',clock,hl,hb,hw,rest⟩:=h
  exact⟨l,b,es',clock,hl,hb,by rw[hs b ⟨_,l,hn,hl,hb⟩]; exact hw,rest⟩
theorem getElem?_set_ne{α:Type}{l:List α}{i j:Nat}{a:α}(h:i≠j):(l.set i a)[j]?=l[j]?:=by
 simp[h]
theorem getElem?_set_eq{α:Type}{l:List α}{i:Nat}{a x:α}(h:l[i]?=some x):(l.set i a)[i]?=some a:=by
 grind
theorem inv_write[Glob]{E:Env}{hp:AHeap}{w:World}(hI:Inv E hp w){n:Nat}{g cl:Bool}{es:List AV}(hn:hp[n]?=some (some (.arr g cl false es)))
  {l:Loc} (hl:E.ρ n es.length=some l) {b:Nat} (hb:l.blk=some b) {c:Array Value} {T:TypeId} (hw:w.heap[b]?=some (.cells c T (0,0)))
  {c':Array Value} (hc:c'.size=c.size) {cl':Bool} {es':List AV} (hes:es'.length=es.length)
  (hnew:∀ (i:Nat) (e:AV),es'[i]?=some e→∃ v,Rep E (!cl') e v∧At c' (i*l.esz) l.esz v) :
  Inv E (hp.set n (some (.arr g cl' false es'))) (w.setRow b c')∧Fr E w E (w.setRow b c'):=by
 obtain⟨l0,hl0,hver,hm⟩:=hI.objs n _ hn
 rw[hl]at hl0; cases hl0
 rw[hb]at hm
 obtain⟨c0,T0,hw0,hown,hez,hcs,hle,hg,_⟩:=hm
 rw[hw]at hw0; cases hw0
 simp only[Bool.false_eq_true,if_false]at hown
 have hbn:BlkOf E hp n b:=⟨_,l,hn,hl,hb⟩
 have hblk:∀ n' b',BlkOf E (hp.set n (some (.arr g cl' false es'))) n' b'→BlkOf E hp n' b':=by
  rintro n' b' ⟨o,l',ho,hl',hb'⟩
  by_cases h:n=n'
  ·grind
  ·rw[getElem?_set_ne h]at ho
   exact⟨o,l',ho,hl',hb'⟩
 refine⟨⟨by simpa using hI.len,?_,?_,?_,?_,?_,hI.glob⟩,⟨rfl,rfl,rfl,by simp,?_,fun _ h=>.inl h,fun _ _ h=>.inl h⟩⟩
 ·intro n' o ho
  by_cases h:n=n'
  ·subst h
   rw[getElem?_set_eq hn]at ho
   cases ho
   refine⟨l,by rw[hes]; exact hl,by rw[hes]; exact hver,?_⟩
   rw[hb]
   exact⟨c',T,setRow_heap w b c c' T _ hw,by simpa using hown,hez,by rw[hc]; exact hcs,by rw[hes]; exact hle,by rw[hes]; exact hg,hnew⟩
  ·rw[getElem?_set_ne h]at ho
   refine(hI.objs n' o ho).other ho fun b' hb'=>setRow_other w b b' c' ?_
   intro e
   subst e
   exact h (hI.inj n n' b' hbn hb')
 ·intro n' ver h0
  by_cases h:n=n'
  ·subst h; rw[getElem?_set_eq hn]at h0; simp at h0
  ·rw[getElem?_set_ne h]at h0
   exact hI.free n' ver h0
 ·exact fun n1 n2 b' h1 h2=>hI.inj n1 n2 b' (hblk _ _ h1) (hblk _ _ h2)
 ·intro b' c1 h1
  have:b'≠b:=by
   grind
  rw[setRow_other w b b' c' this]
  exact hI.mem b' c1 h1
 ·intro b' h1
  simpa using hI.ownb b' h1
 ·intro b' _ h1
  refine setRow_other w b b' c' ?_
  intro e; subst e
  exact h1 hown.2
def Env.push(E:Env)(n ver:Nat)(l:Loc):Env where
 ρ:=fun n' ver'=>if n'=n then (if ver'=ver then some l else none) else E.ρ n' ver'
 m:=E.m
 L:=max E.L (n+1)
 own:=fun b=>E.own b∨l.blk=some b
theorem Ext.push[Glob]{E:Env}{hp:AHeap}{w:World}(hI:Inv E hp w){n:Nat}(hn:n=hp.length∨hp[n]?=some none)(ver:Nat)(l:Loc):Ext E (E.push n ver l) where
 m:=fun _ _ h=>h
 ρ:=by
  intro n' hn' ver' l' h
  simp only[Env.push]
  by_cases e:n'=n
  ·subst e
   rcases hn with e|e
   ·rw[hI.len]at e; omega
   ·rw[hI.free n' ver' e]at h; simp at h
  ·simp[e,h]
 L:=Nat.le_max_left _ _
theorem setObj_len{hp:AHeap}{n:Nat}{o:AObj}(hn:n=hp.length∨hp[n]?=some none):(setObj hp n o).length=max hp.length (n+1):=by
 grind[setObj]
theorem setObj_get[Glob]{hp:AHeap}{n:Nat}{o:AObj}(hn:n=hp.length∨hp[n]?=some none)(n':Nat):
  (setObj hp n o)[n']?=if n'=n then some (some o) else hp[n']?:=by
 unfold setObj
 split
 ·rename_i h; subst h
  by_cases e:n'=hp.length
  ·subst e; simp
  ·simp only[e,if_false]
   rw[List.getElem?_append]
   split
   ·rfl
   ·rw[List.getElem?_eq_none (by simp; omega),List.getElem?_eq_none (by omega)]
 ·rcases hn with h|h
  ·contradiction
  ·have:n<hp.length:=by
    grind
   by_cases e:n'=n
   ·subst e; simp[this]
   ·simp only[e,if_false]
    exact getElem?_set_ne (fun h=>e h.symm)
theorem inv_new[Glob]{E:Env}{hp:AHeap}{w:World}(hI:Inv E hp w){n:Nat}(hn:n=hp.length∨hp[n]?=some none)
  (g cl:Bool) (es:List AV) (esz tot:Nat) (c:Array Value) (T:TypeId) (hez:0<esz) (hcs:c.size=tot*esz) (hle:es.length≤tot)
  (hg:g=false→tot=es.length)
  (hnew:∀ (i:Nat) (e:AV),es[i]?=some e→∃ v,Rep E (!cl) e v∧At c (i*esz) esz v) :
  let E':=E.push n es.length ⟨some w.heap.size,esz,tot⟩
  Ext E E'∧Inv E' (setObj hp n (.arr g cl false es)) (w.alloc (.cells c T))∧Fr E w E' (w.alloc (.cells c T)):=by
 intro E'
 have hx:Ext E E':=Ext.push hI hn _ _
 have hold:∀ b,b<w.heap.size→(w.alloc (.cells c T)).heap[b]?=w.heap[b]?:=fun b hb=>by
  simp only[World.alloc,Array.getElem?_push,if_neg (by omega:¬b=w.heap.size)]
 have hnewb:(w.alloc (.cells c T)).heap[w.heap.size]?=some (.cells c T (0,0)):=by show (w.heap.push _)[w.heap.size]?=_; simp
 have hmnew:E.m w.heap.size=none:=by
  cases h:E.m w.heap.size with
  |none=>rfl
  |some c1=>obtain⟨T1,fz,h1⟩:=hI.mem _ _ h; simp at h1
 have hother:∀ n' o,n'≠n→(setObj hp n (.arr g cl false es))[n']?=some (some o)→hp[n']?=some (some o):=by
  intro n' o hne h
  rw[setObj_get hn n',if_neg hne]at h
  exact h
 have hrho:∀ n',n'≠n→∀ ver,E'.ρ n' ver=E.ρ n' ver:=fun n' hne ver=>by simp[E',Env.push,hne]
 have hself:∀ ver,E'.ρ n ver=if ver=es.length then some ⟨some w.heap.size,esz,tot⟩ else none:=fun ver=>by simp[E',Env.push]
 have hblk:∀ n' b,BlkOf E' (setObj hp n (.arr g cl false es)) n' b→(n'=n∧b=w.heap.size)∨(n'≠n∧BlkOf E hp n' b):=by
  rintro n' b ⟨o,l,ho,hl,hb⟩
  by_cases e:n'=n
  ·grind
  ·refine .inr ⟨e,o,l,hother n' o e ho,?_,hb⟩
   cases o with
   |arr=>simpa only[hrho n' e] using hl
   |oth=>simpa only[hrho n' e] using hl
 have hlt:∀ n' b,BlkOf E hp n' b→b<w.heap.size:=by
  intro n' b h
  have h':=h
  obtain⟨o,l,ho,_,_⟩:=h
  obtain⟨ob,hob⟩:=(hI.objs n' o ho).blk_lt ho h'
  exact(Array.getElem?_eq_some_iff.1 hob).1
 refine⟨hx,⟨?_,?_,?_,?_,?_,?_,hI.glob.mono hx.m⟩,⟨rfl,rfl,rfl,(by show _≤(w.heap.push _).size; simp),fun b hb _=>hold b hb,?_,fun _ _ h=>.inl h⟩⟩
 ·rw[setObj_len hn,hI.len]; rfl
 ·intro n' o ho
  by_cases e:n'=n
  ·subst e
   rw[setObj_get hn n',if_pos rfl]at ho
   cases ho
   refine⟨⟨some w.heap.size,esz,tot⟩,by simp[hself],?_,?_⟩
   ·intro ver l' h
    rw[hself]at h
    split at h
    ·omega
    ·simp at h
   ·refine⟨c,T,hnewb,?_,hez,hcs,hle,hg,?_⟩
    ·simp only[Bool.false_eq_true,if_false]
     exact⟨hmnew,.inr rfl⟩
    ·intro i e hi
     obtain⟨v,hv,ha⟩:=hnew i e hi
     exact⟨v,hv.mono hx,ha⟩
  ·have ho':=hother n' o e ho
   have h:=hI.objs n' o ho'
   cases o with
   |arr g1 cl1 fz1 es1=>
    obtain⟨l,hl,hv,hm⟩:=h
    refine⟨l,by rw[hrho n' e]; exact hl,fun ver l' h=>hv ver l' (by rw[hrho n' e]at h; exact h),?_⟩
    cases hb:l.blk with
    |none=>rw[hb]at hm; exact hm
    |some b=>
     rw[hb]at hm
     obtain⟨c1,T1,hw1,h1,h2,h3,h4,h5,h6⟩:=hm
     refine⟨c1,T1,?_,?_,h2,h3,h4,h5,fun i x hx'=>?_⟩
     ·rw[hold b (Array.getElem?_eq_some_iff.1 hw1).1]; exact hw1
     ·cases fz1 with
      |true=>simp only[if_true]at h1 ⊢; exact h1
      |false=>simp only[Bool.false_eq_true,if_false]at h1 ⊢; exact⟨h1.1,.inl h1.2⟩
     ·obtain⟨v,hv',ha⟩:=h6 i x hx'
      exact⟨v,hv'.mono hx,ha⟩
   |oth k ents=>
    obtain⟨l,b,es1,clock,h1,h2,h3,h4,h5,h6,h7,h8⟩:=h
    exact⟨l,b,es1,clock,by rw[hrho n' e]; exact h1,h2,by rw[hold b (Array.getElem?_eq_some_iff.1 h3).1]; exact h3,h4,.inl h5,
     fun ver l' h=>h6 ver l' (by rw[hrho n' e]at h; exact h),h7,h8.mono hx⟩
 ·intro n' ver h0
  by_cases e:n'=n
  ·subst e; rw[setObj_get hn n',if_pos rfl]at h0; simp at h0
  ·rw[setObj_get hn n',if_neg e]at h0
   rw[hrho n' e]
   exact hI.free n' ver h0
 ·intro n1 n2 b h1 h2
  rcases hblk _ _ h1 with ⟨e1,b1⟩|⟨e1,b1⟩<;>rcases hblk _ _ h2 with ⟨e2,b2⟩|⟨e2,b2⟩
  ·rw[e1,e2]
  ·have:=hlt _ _ b2; omega
  ·have:=hlt _ _ b1; omega
  ·exact hI.inj n1 n2 b b1 b2
 ·intro b c1 h1
  obtain⟨T1,fz1,h2⟩:=hI.mem b c1 h1
  exact⟨T1,fz1,by rw[hold b (Array.getElem?_eq_some_iff.1 h2).1]; exact h2⟩
 ·intro b h
  rcases h with h|h
  ·have:=hI.ownb b h
   show b<(w.heap.push _).size
   simp; omega
  ·simp only[Option.some.injEq]at h
   show b<(w.heap.push _).size
   simp; omega
 ·intro b h
  rcases h with h|h
  ·exact .inl h
  ·simp only[Option.some.injEq]at h
   exact .inr (by omega)
end Go.PI
end
section
/- PI, part G: stores, new variables. -/
namespace Go.PI
theorem RM.run_bind{α β:Type}(hp:AHeap)(x:RM α)(f:α→RM β):(x >>= f).run hp=(x.run hp).bind fun a=>(f a).run hp:=by
 show (RM.bind x f).run hp=_
 induction x with
 |ret a=>rfl
 |fail=>rfl
 |get n k ih=>
  grind[RM.bind,RM.run]
theorem RM.run_pure{α:Type}(hp:AHeap)(a:α):(pure a:RM α).run hp=some a:=rfl
theorem RM.run_fail{α:Type}(hp:AHeap):(RM.fail:RM α).run hp=none:=rfl
theorem RM.run_arr{hp:AHeap}{n ver:Nat}{x:Bool×Bool×Bool×List AV}(h:(RM.arr n ver).run hp=some x):
  hp[n]?=some (some (.arr x.1 x.2.1 x.2.2.1 x.2.2.2))∧x.2.2.2.length=ver:=by
 simp only[RM.arr,RM.run]at h
 split at h
 case h_2=>simp at h
 rename_i o ho
 cases o with
 |oth k vs=>simp[RM.run]at h
 |arr g c f es=>
  simp only at h
  split at h
  ·simp only[RM.run,Option.some.injEq]at h
   subst h
   exact⟨ho,by assumption⟩
  ·simp[RM.run]at h
theorem RM.run_ofOpt{α:Type}(hp:AHeap)(x:Option α):(RM.ofOpt x).run hp=x:=by cases x<;>rfl
theorem cells_rep[Glob]{E:Env}{o:Bool}{x:AV}{v:Value}(hl:(cellsOf x).all isLeaf=true)(h:Rep E o x v):RepL E o (cellsOf x) v.cells.toList:=by
 have one:isLeaf x=true→cellsOf x=[x]→RepL E o (cellsOf x) v.cells.toList:=fun h1 h2=>by
  have hv:=Rep.leaf h1 h
  rw[h2,cells_leaf hv]
  simp only[RepL]
  exact⟨h,hv,trivial⟩
 cases x with
 |lit y=>
  simp only[Rep]at h; subst h
  simp only[cellsOf]at hl ⊢
  refine RepL.of_get (by simp) fun i x u hx hu=>?_
  simp only[List.getElem?_map,hu,Option.map_some,Option.some.injEq]at hx
  subst hx
  have hu':u∈v.cells.toList:=List.mem_of_getElem? hu
  have:=List.all_eq_true.1 hl (.lit u) (List.mem_map.2 ⟨u,hu',rfl⟩)
  exact⟨by simp[Rep],Rep.leaf (E:=E) (o:=o) this (by simp[Rep])⟩
 |agg l=>
  simp only[Rep]at h
  obtain⟨c,rfl,hc⟩:=h
  exact hc
 |_=>simp_all[cellsOf]
theorem closed_cells{x:AV}(h:closedL (cellsOf x)=true):closed x=true:=by
 cases x with
 |lit y=>rfl
 |agg l=>simpa[closed,cellsOf] using h
 |_=>simpa[cellsOf,closedL] using h
def setVals(l:List Value)(j:Nat):List Value→List Value
 |[]=>l
 |x::xs=>setVals (l.set j x) (j+1) xs
theorem setVals_length:∀ (xs l:List Value) (j:Nat),(setVals l j xs).length=l.length
 |[],_,_=>rfl
 |x::xs,l,j=>by simp[setVals,setVals_length xs]
theorem setCells_length:∀ (xs l:List AV) (j:Nat),(setCells l j xs).length=l.length
 |[],_,_=>rfl
 |x::xs,l,j=>by simp[setCells,setCells_length xs]
theorem setVals_get[Glob]:∀ (xs l:List Value) (j q:Nat),j+xs.length≤l.length →
  (setVals l j xs)[q]?=if j≤q∧q<j+xs.length then xs[q-j]? else l[q]?
 |[],l,j,q,_=>by
  grind[setVals]
 |x::xs,l,j,q,h=>by
  simp only[setVals,List.length_cons]at h ⊢
  rw[setVals_get xs (l.set j x) (j+1) q (by simp; omega)]
  by_cases h1:q=j
  ·grind
  ·grind
theorem RepL.set{E:Env}{o:Bool}{l:List AV}{c:List Value}(h:RepL E o l c)(i:Nat){x:AV}{v:Value}(hx:Rep E o x v)(hv:leafV v=true):
  RepL E o (l.set i x) (c.set i v):=by
 refine RepL.of (RepT.set h.toT i hx) fun u hu=>?_
 rcases List.mem_or_eq_of_mem_set hu with h1|h1
 ·exact h.leaf u h1
 ·subst h1; exact hv
theorem RepL.setCells[Glob]{E:Env}{o:Bool}:∀ {xs:List AV} {vs:List Value} {l:List AV} {c:List Value} (j:Nat),RepL E o l c→RepL E o xs vs →
  RepL E o (setCells l j xs) (setVals c j vs)
 |[],[],_,_,_,h,_=>by simpa[PI.setCells,setVals] using h
 |x::xs,v::vs,l,c,j,h,hx=>by
  simp only[RepL]at hx
  simp only[PI.setCells,setVals]
  exact RepL.setCells (j+1) (h.set j hx.1 hx.2.1) hx.2.2
 |[],_::_,_,_,_,_,h=>by simp[RepL]at h
 |_::_,[],_,_,_,_,h=>by simp[RepL]at h
theorem RepL.widenTo[Glob]{E:Env}{cl cl':Bool}(hc:cl'=true→cl=true){l:List AV}{c:List Value}(h:RepL E (!cl) l c):RepL E (!cl') l c:=by
 cases cl with
 |false=>cases cl' with
  |false=>exact h
  |true=>simp at hc
 |true=>cases cl' with
  |false=>exact RepL.widen h
  |true=>exact h
theorem Rep.widenTo[Glob]{E:Env}{cl cl':Bool}(hc:cl'=true→cl=true){x:AV}{v:Value}(h:Rep E (!cl) x v):Rep E (!cl') x v:=by
 cases cl with
 |false=>cases cl' with
  |false=>exact h
  |true=>simp at hc
 |true=>cases cl' with
  |false=>exact Rep.widen h
  |true=>exact h
theorem Rep.toTrue[Glob]{E:Env}{o:Bool}{x:AV}{v:Value}(h:Rep E o x v):Rep E true x v:=by
 cases o with
 |true=>exact h
 |false=>exact h.widen
theorem setPart_rep[Glob]{E:Env}{o:Bool}{e e':AV}{j:Nat}{cs:List AV}{ve:Value}{vs:List Value}(he:Rep E o e ve)(hs:RepL E o cs vs)
  (hp:setPart e j cs=some e'):∃ ve',Rep E o e' ve'∧ve'.cells.toList=setVals ve.cells.toList j vs∧j+vs.length≤ve.cells.size:=by
 have hlen:=hs.length
 unfold setPart at hp
 split at hp
 ·rename_i l
  split at hp
  case isFalse=>simp at hp
  rename_i hle
  simp only[Option.some.injEq]at hp
  subst hp
  simp only[Rep]at he
  obtain⟨c,rfl,hc⟩:=he
  have:=hc.length
  exact⟨.agg (setVals c j vs).toArray,(hc.setCells j hs).toArray,by simp[Value.cells],by simp[Value.cells]; omega⟩
 ·split at hp
  case h_2=>simp at hp
  rename_i y
  split at hp
  case isFalse=>simp at hp
  rename_i hc
  simp only[Bool.and_eq_true,decide_eq_true_eq]at hc
  obtain⟨hl,rfl⟩:=hc
  simp only[Option.some.injEq]at hp
  subst hp
  have hv:=cells_leaf (Rep.leaf hl he)
  cases vs with
  |nil=>simp at hlen
  |cons v r=>
   cases r with
   |cons _ _=>simp at hlen
   |nil=>
    simp only[RepL]at hs
    exact⟨v,hs.1,by rw[hv,cells_leaf hs.2.1]; simp[setVals],by rw[hv]; simp⟩
theorem run_storeVar[Glob]{P:Program}{w:World}{t:TypeId}{r:TyRow}(ht:tyOf P t=some r){b o:Nat}{c:Array Value}{T:TypeId}
  (hw:w.heap[b]?=some (.cells c T (0,0))) {v:Value} (hs:v.cells.size=r.size) (hfit:o+v.cells.size≤c.size) (hl:∀ x∈v.cells.toList,leafV x=true) :
  (storeVar t ⟨b,o,none⟩ v).run P w=.ok () (w.setRow b (setVals c.toList o v.cells.toList).toArray):=by
 have h1:=run_storeCells_at P b o T v.cells.toList 0 c w hw (by simpa using hfit) hl
 have h2:=run_sizeOf' ht w
 have e:(c.toList.take (o+0)++v.cells.toList++c.toList.drop (o+0+v.cells.toList.length))=setVals c.toList o v.cells.toList:=by
  apply List.ext_getElem?
  intro q
  rw[setVals_get _ _ _ _ (by simpa using hfit)]
  simp only[Nat.add_zero,List.append_assoc]
  by_cases h1:q<o
  ·grind
  ·grind
 rw[e]at h1
 unfold storeVar
 simp only[Sem.run_bind,h2,Result.andThen_ok,hs,ne_eq,not_true,if_false,h1]
theorem at_set[Glob]{c:Array Value}{pos esz j:Nat}{ve ve':Value}{vs:List Value}(h:At c pos esz ve)(hfit:pos+esz≤c.size)(hj:j+vs.length≤esz)
  (hc:ve'.cells.toList=setVals ve.cells.toList j vs) (hl:∀ x∈vs,leafV x=true):At (setVals c.toList (pos+j) vs).toArray pos esz ve':=by
 obtain⟨h1,h2,h3⟩:=h
 have hsz:ve'.cells.size=esz:=by rw[←h1,←Array.length_toList,hc,setVals_length,Array.length_toList]
 refine⟨hsz,fun q hq=>?_,fun x hx=>?_⟩
 ·have e1:ve'.cells[q]?=ve'.cells.toList[q]?:=by simp
  rw[e1,hc,setVals_get _ _ _ _ (by simp; omega)]
  simp only[List.getElem?_toArray]
  rw[setVals_get _ _ _ _ (by simp; omega)]
  by_cases h4:j≤q∧q<j+vs.length
  ·rw[if_pos h4,if_pos (by omega)]
   congr 1; omega
  ·rw[if_neg h4,if_neg (by omega)]
   have:=h2 q hq
   simpa using this
 ·rw[hc]at hx
  obtain⟨q,hq,he⟩:=List.mem_iff_getElem.1 hx
  have hg:(setVals ve.cells.toList j vs)[q]?=some x:=by simp[hq,he]
  rw[setVals_get _ _ _ _ (by simp; omega)]at hg
  split at hg
  ·exact hl x (List.mem_of_getElem? hg)
  ·exact h3 x (List.mem_of_getElem? hg)
theorem at_other[Glob]{c:Array Value}{pos esz o:Nat}{v:Value}{vs:List Value}(h:At c pos esz v)(hfit:o+vs.length≤c.size)
  (hd:pos+esz≤o∨o+vs.length≤pos):At (setVals c.toList o vs).toArray pos esz v:=by
 obtain⟨h1,h2,h3⟩:=h
 refine⟨h1,fun q hq=>?_,h3⟩
 simp only[List.getElem?_toArray]
 rw[setVals_get _ _ _ _ (by simpa using hfit),if_neg (by omega)]
 simpa using h2 q hq
theorem mul_sep{i k esz:Nat}(h:i≠k):i*esz+esz≤k*esz∨k*esz+esz≤i*esz:=by
 rcases Nat.lt_or_gt_of_ne h with h|h
 ·left
  have:=Nat.mul_le_mul_right esz h
  rw[Nat.succ_mul]at this; omega
 ·right
  have:=Nat.mul_le_mul_right esz h
  rw[Nat.succ_mul]at this; omega
end Go.PI
end
section
/- PI, part H: each operation's effect is what the model's operation does (memory: load, store, new variables, slices). -/
namespace Go.PI
def Runs(P:Program)(s:Sem Next)(w:World)(v:Value)(w':World):Prop:=
 s.run P w=.ok (.value v) w'∨(s.run P w=.ok .skip w'∧v=undef)
def Step[Glob](P:Program)(E:Env)(hp:AHeap)(w:World)(s:Sem Next)(e:Eff):Prop:=
 ∃ E' w' v,Runs P s w v w'∧Ext E E'∧Inv E' (applyWr hp e.wr) w'∧Fr E w E' w'∧Rep E' true e.val v
theorem Step.plain[Glob]{P:Program}{E:Env}{hp:AHeap}{w:World}{s:Sem Value}{x:AV}{v:Value}(hI:Inv E hp w)(hr:s.run P w=.ok v w)
  (hv:Rep E true x v):Step P E hp w (do pure (.value (←s))) ⟨x,[]⟩:=
 ⟨E,w,v,.inl (by simp[hr]),Ext.refl E,hI,Fr.refl E w,hv⟩
theorem arr_ok[Glob]{E:Env}{hp:AHeap}{w:World}(hI:Inv E hp w){n:Nat}{g cl fz:Bool}{es:List AV}(hn:hp[n]?=some (some (.arr g cl fz es)))
  {i j:Nat} {v:Value} (hr:Rep E true (.ref n es.length i j) v) :
  ∃ l b c T,E.ρ n es.length=some l∧l.blk=some b∧v=.pointer (some ⟨b,i*l.esz+j,none⟩)∧w.heap[b]?=some (.cells c T (0,0)) ∧
    (if fz then E.m b=some c else E.m b=none∧E.own b)∧0<l.esz∧c.size=l.tot*l.esz∧es.length≤l.tot ∧
    (∀ (i:Nat) (e:AV),es[i]?=some e→∃ v,Rep E (!cl) e v∧At c (i*l.esz) l.esz v):=by
 simp only[Rep]at hr
 obtain⟨_,_,l,b,hl,hb,hv⟩:=hr
 obtain⟨l',hl',_,hm⟩:=hI.objs n _ hn
 rw[hl]at hl'; cases hl'
 rw[hb]at hm
 obtain⟨c,T,hw,h1,h2,h3,h4,_,h5⟩:=hm
 exact⟨l,b,c,T,hl,hb,hv,hw,h1,h2,h3,h4,h5⟩
theorem getElem?_lt{α:Type}{l:List α}{i:Nat}{x:α}(h:l[i]?=some x):i<l.length:=by
 grind
theorem load_ok[Glob]{P:Program}{E:Env}{hp:AHeap}{w:World}(hI:Inv E hp w){t:TypeId}{a x:AV}{va:Value}(ha:Rep E true a va)
  (h:(loadA P t a).run hp=some x):∃ v,(Instr.loadAt t va).run P w=.ok v w∧Rep E true x v:=by
 unfold loadA at h
 split at h
 ·simp[RM.run_fail]at h
 rename_i r ht
 split at h
 ·rename_i n ver i j
  rw[RM.run_bind]at h
  cases hq:(RM.arr n ver).run hp with
  |none=>rw[hq]at h; simp at h
  |some q=>
   obtain⟨g,cl,fz,es⟩:=q
   obtain⟨hn,hv⟩:=RM.run_arr hq
   rw[hq]at h
   simp only[Option.bind_some]at h
   subst hv
   split at h
   case h_2=>simp[RM.run_fail]at h
   rename_i e he
   rw[RM.run_ofOpt]at h
   obtain⟨l,b,c,T,_,_,rfl,hw,_,_,_,_,hes⟩:=arr_ok hI hn ha
   obtain⟨ve,hve,hat⟩:=hes i e he
   obtain⟨v,hrun,hr⟩:=load_part hw hat hve ht h
   exact⟨v,by simpa[Instr.loadAt,Instr.sureAddr] using hrun,hr.toTrue⟩
 ·rename_i e j
  rw[RM.run_ofOpt]at h
  simp only[Rep]at ha
  obtain⟨b,of,c,ve,rfl,hm,he,hat⟩:=ha
  obtain⟨T,fz,hw⟩:=hI.mem b c hm
  obtain⟨v,hrun,hr⟩:=load_part hw hat he ht h
  exact⟨v,by simpa[Instr.loadAt,Instr.sureAddr] using hrun,hr.toTrue⟩
 ·simp[RM.run_fail]at h
theorem store_ok[Glob]{P:Program}{E:Env}{hp:AHeap}{w:World}(hI:Inv E hp w){t:TypeId}{a x:AV}{va vx:Value}(ha:Rep E true a va)(hx:Rep E true x vx)
  {e:Eff} (h:(storeA P t a x).run hp=some e) :
  ∃ w',(Instr.storeAt t va vx).run P w=.ok () w'∧Inv E (applyWr hp e.wr) w'∧Fr E w E w'∧e.val=.undef:=by
 unfold storeA at h
 split at h
 ·simp[RM.run_fail]at h
 rename_i r ht
 split at h
 case h_2=>simp[RM.run_fail]at h
 rename_i n ver i j
 rw[RM.run_bind]at h
 cases hq:(RM.arr n ver).run hp with
 |none=>rw[hq]at h; simp at h
 |some q=>
  obtain⟨g,cl,fz,es⟩:=q
  obtain⟨hn,hv⟩:=RM.run_arr hq
  rw[hq]at h
  simp only[Option.bind_some]at h
  subst hv
  split at h
  case h_2=>simp[RM.run_fail]at h
  rename_i e0 he0
  split at h
  case h_2=>simp[RM.run_fail]at h
  rename_i e1 he1
  split at h
  case isFalse=>simp[RM.run_fail]at h
  rename_i hc
  obtain⟨hfz,hsz,hleaf⟩:=hc
  simp only at hfz hn he0
  subst hfz
  simp only[RM.run_pure,Option.some.injEq]at h
  subst h
  obtain⟨l,b,c,T,hl,hb,rfl,hw,_,hez,hcs,hle,hes⟩:=arr_ok hI hn ha
  obtain⟨ve,hve,hat⟩:=hes i e0 he0
  have hxl:=cells_rep hleaf hx
  have hxlen:=hxl.length
  have hi:=getElem?_lt he0
  have hfit:i*l.esz+l.esz≤c.size:=by
   rw[hcs]
   have:=Nat.mul_le_mul_right l.esz (Nat.lt_of_lt_of_le hi hle)
   rw[Nat.succ_mul]at this; exact this
  have hxo:RepL E (!(cl&&closedL (cellsOf x))) (cellsOf x) vx.cells.toList:=by
   cases hcc:closedL (cellsOf x) with
   |false=>simpa using hxl
   |true=>exact RepL.widenTo (cl:=true) (by simp) (by simpa using hxl.narrow hcc)
  have hve':Rep E (!(cl&&closedL (cellsOf x))) e0 ve:=Rep.widenTo (cl:=cl) (by simp; intro h _; exact h) hve
  obtain⟨ve1,hr1,hc1,hj1⟩:=setPart_rep hve' hxo he1
  have hj2:j+vx.cells.toList.length≤l.esz:=by rw[←hat.1]; exact hj1
  have hrun:=run_storeVar (P:=P) ht hw (o:=i*l.esz+j) (v:=vx) (by rw[←Array.length_toList,←hxlen,hsz]) (by simp at hj2 ⊢; omega) hxl.leaf
  have hset:(setObj hp n (.arr g (cl&&closedL (cellsOf x)) false (es.set i e1)))=hp.set n (some (.arr g (cl&&closedL (cellsOf x)) false (es.set i e1))):=by
   unfold setObj
   rw[if_neg (by have:=getElem?_lt hn; omega)]
  obtain⟨h1,h2⟩:=inv_write hI hn hl hb hw (c':=(setVals c.toList (i*l.esz+j) vx.cells.toList).toArray) (by simp[setVals_length])
   (cl':=cl&&closedL (cellsOf x)) (es':=es.set i e1) (by simp) (fun k e hk=>by
     by_cases hki:i=k
     ·subst hki
      rw[getElem?_set_eq he0]at hk
      cases hk
      exact⟨ve1,hr1,at_set hat hfit hj2 hc1 hxl.leaf⟩
     ·rw[getElem?_set_ne hki]at hk
      obtain⟨v,hv,hat'⟩:=hes k e hk
      refine⟨v,Rep.widenTo (cl:=cl) (by simp; intro h _; exact h) hv,at_other hat' (by omega) ?_⟩
      rcases mul_sep (esz:=l.esz) hki with h|h<;>omega)
  refine⟨_,by simpa[Instr.storeAt,Instr.sureAddr] using hrun,?_,h2,rfl⟩
  simp only[applyWr,hset]
  exact h1
theorem cells_size[Glob]{E:Env}{o:Bool}{x:AV}{v:Value}(hl:(cellsOf x).all isLeaf=true)(h:Rep E o x v):v.cells.size=(cellsOf x).length:=by
 rw[←Array.length_toList,(cells_rep hl h).length]
theorem box_ok[Glob]{P:Program}{E:Env}{hp:AHeap}{w:World}(hI:Inv E hp w){nm:Nat}(hnm:nm=hp.length∨hp[nm]?=some none){t:TypeId}{x:AV}{vx:Value}
  (hx:Rep E true x vx) (hl:(cellsOf x).all isLeaf=true) (hpos:0<(cellsOf x).length) {cl:Bool} (hcl:cl=true→closedL (cellsOf x)=true) :
  ∃ E' w' v,(do pure (Value.pointer (some (←newVar t vx))):Sem Value).run P w=.ok v w'∧Ext E E'∧Inv E' (setObj hp nm (.arr false cl false [x])) w' ∧
    Fr E w E' w'∧Rep E' true (.ref nm 1 0 0) v:=by
 have hsz:=cells_size hl hx
 have hxl:=cells_rep hl hx
 have hat:At vx.cells 0 (cellsOf x).length vx:=⟨hsz,fun q _=>by simp,hxl.leaf⟩
 have hxo:Rep E (!cl) x vx:=by
  cases cl with
  |false=>exact hx
  |true=>exact Rep.narrow (closed_cells (hcl rfl)) hx
 obtain⟨h1,h2,h3⟩:=inv_new hI hnm false cl [x] (cellsOf x).length 1 vx.cells t hpos (by simpa using hsz) (by simp) (by simp) (fun i e he=>by
  cases i with
  |zero=>simp at he; subst he; exact⟨vx,hxo,by simpa using hat⟩
  |succ i=>simp at he)
 refine⟨_,w.alloc (.cells vx.cells t),.pointer (some ⟨w.heap.size,0,none⟩),?_,h1,h2,h3,?_⟩
 ·simp[newVar,newRow]
 ·simp only[Rep]
  refine⟨trivial,?_,_,w.heap.size,by simp[Env.push]; rfl,rfl,by simp⟩
  show nm<max E.L (nm+1)
  omega
theorem elemZero_ok{r:TyRow}{z:AV}(h:elemZero r=some z):∃ v,r.zero=some v∧v.cells.size=r.size∧z=ofVal v∧r.isAgg=isAggV v ∧
  v.cells.toList.all (fun v=>isLeaf (.lit v))=true∧isTupV v=false:=by
 unfold elemZero at h
 split at h
 ·rename_i v hv
  split at h
  ·rename_i hc
   simp only[Option.some.injEq]at h
   exact⟨v,hv,hc.1,h.symm,hc.2⟩
  ·simp at h
 ·simp at h
theorem RepT.lits{E:Env}{o:Bool}(c:List Value):RepT E o (c.map .lit) c:=by
 induction c with
 |nil=>simp[RepT]
 |cons v vs ih=>simp_all[RepT,Rep]
end Go.PI
end
section
/- PI, part I: structs and arrays built; parts of values; addresses of parts. -/
namespace Go.PI
theorem fold_set(off:Nat):∀ (l:List Value) (k:Nat) (cells:Array Value),
  (l.zipIdx k).foldl (fun cs (p:Value×Nat)=>cs.setIfInBounds (off+p.2) p.1) cells=(setVals cells.toList (off+k) l).toArray
 |[],_,_=>by simp[setVals]
 |x::xs,k,cells=>by
  simp only[List.zipIdx_cons,List.foldl_cons]
  rw[fold_set off xs (k+1)]
  simp[setVals,Nat.add_assoc]
theorem fold_set'[Glob](off:Nat)(v cells:Array Value):
  v.zipIdx.foldl (fun cs (p:Value×Nat)=>cs.setIfInBounds (off+p.2) p.1) cells=(setVals cells.toList off v.toList).toArray:=by
 rw[←Array.foldl_toList,Array.toList_zipIdx]
 exact fold_set off v.toList 0 cells
inductive RepP(E:Env):List (Nat×AV)→List (Nat×Value)→Prop
 |nil:RepP E [] []
 |cons {i:Nat} {x:AV} {v:Value} {l:List (Nat×AV)} {c:List (Nat×Value)}:Rep E true x v→RepP E l c→RepP E ((i,x)::l) ((i,v)::c)
theorem fill_ok[Glob]{E:Env}{place:Nat→Option (Nat×Nat)}:∀ {parts:List (Nat×AV)} {vs:List (Nat×Value)} {cells:List AV} {cv:Array Value} {out:List AV},
  RepP E parts vs→RepL E true cells cv.toList→fillA place cells parts=some out→∃ cv',Instr.fill place cv vs=some cv'∧RepL E true out cv'.toList:=by
 intro parts
 induction parts with
 |nil=>
  intro vs cells cv out hp hc h
  cases hp
  simp only[fillA,Option.some.injEq]at h
  subst h
  exact⟨cv,rfl,hc⟩
 |cons p rest ih=>
  intro vs cells cv out hp hc h
  cases hp with
  |@cons i x v _ c hx hr=>
   simp only[fillA]at h
   cases hpl:place i with
   |none=>rw[hpl]at h; simp at h
   |some os=>
    obtain⟨off,size⟩:=os
    rw[hpl]at h
    simp only at h
    split at h
    case isFalse=>simp at h
    rename_i hcnd
    obtain⟨h1,h2,h3⟩:=hcnd
    have hxl:=cells_rep h3 hx
    have hsz:v.cells.size=size:=by rw[←Array.length_toList,←hxl.length,h1]
    have hcl:=hc.length
    have hnew:RepL E true (setCells cells off (cellsOf x)) (setVals cv.toList off v.cells.toList).toArray.toList:=by
     simpa using hc.setCells off hxl
    obtain⟨cv',h4,h5⟩:=ih hr hnew h
    refine⟨cv',?_,h5⟩
    simp only[Instr.fill,hpl,hsz,ne_eq,not_true,decide_false,Bool.false_or,decide_eq_true_eq]
    rw[if_neg (by simp at hcl; omega),fold_set']
    exact h4
theorem places_ok[Glob]{P:Program}{w:World}:∀ {fs:List Field} {pl:List (Nat×Nat)},placesA P fs=some pl →
  (fs.mapM fun f=>(do pure (f.offset,←sizeOf f.type):Sem (Nat×Nat))).run P w=.ok pl w
 |[],pl,h=>by
  simp_all[placesA]
 |f::fs,pl,h=>by
  simp only[placesA]at h
  split at h
  case h_2=>simp at h
  rename_i q l hq hl
  simp only[Option.some.injEq]at h
  subst h
  have ih:=places_ok (w:=w) hl
  have hs:=run_sizeOf' hq w
  simp only[List.mapM_cons,Sem.run_bind,hs,Result.andThen_ok,Sem.run_pure,ih]
theorem run_zero[Glob]{P:Program}{t:TypeId}{r:TyRow}(h:tyOf P t=some r){z:Value}(hz:r.zero=some z)(w:World):(zeroValue t).run P w=.ok z w:=by
 obtain⟨_,i,hi,_,_,h3,_⟩:=tyOf_some h
 simp[zeroValue,typeInfo,hi,h3,hz]
theorem lits_repL[Glob]{E:Env}{o:Bool}{c:List Value}(h:c.all (fun v=>isLeaf (.lit v))=true):RepL E o (c.map .lit) c:=by
 refine RepL.of (RepT.lits c) fun v hv=>?_
 have:=List.all_eq_true.1 h v hv
 exact Rep.leaf (E:=E) (o:=o) this (by simp[Rep])
theorem build_ok[Glob]{P:Program}{E:Env}{t:TypeId}{parts:List (Nat×AV)}{vs:Array (Nat×Value)}{x:AV}(hp:RepP E parts vs.toList)(h:buildA P t parts=some x)
  (w:World):∃ v,(Instr.build t vs).run P w=.ok v w∧Rep E true x v:=by
 unfold buildA at h
 split at h
 ·rename_i fs r hu ht
  split at h
  case h_2=>simp at h
  rename_i z pl hz hpl
  split at h
  case isFalse=>simp at h
  rename_i hleaf
  cases hf:fillA (fun i=>pl[i]?) (z.cells.toList.map .lit) parts with
  |none=>rw[hf]at h; simp at h
  |some out=>
   rw[hf]at h
   simp only[Option.map_some,Option.some.injEq]at h
   subst h
   obtain⟨cv',h1,h2⟩:=fill_ok (cv:=z.cells) hp (lits_repL hleaf) hf
   refine⟨.agg cv',?_,by simpa using h2.toArray⟩
   have hm:(fs.mapM fun f=>(do pure (f.offset,←sizeOf f.type):Sem (Nat×Nat))).run P w=.ok pl.toArray w:=by
    rw[Array.mapM_eq_mapM_toList,Sem.run_map,places_ok hpl]
    rfl
   have hfun:(fun (i:Nat)=>pl.toArray[i]?)=(fun (i:Nat)=>pl[i]?):=by funext i; simp
   simp only[Instr.build,Sem.run_bind,run_zero ht hz w,Result.andThen_ok,run_underlying hu w]
   rw[hm]
   simp only[Result.andThen_ok]
   rw[hfun,h1]
   simp
 ·rename_i n el r hu ht
  split at h
  case h_2=>simp at h
  rename_i z q hz hq
  split at h
  case isFalse=>simp at h
  rename_i hleaf
  cases hf:fillA (fun i=>some (i*q.size,q.size)) (z.cells.toList.map .lit) parts with
  |none=>rw[hf]at h; simp at h
  |some out=>
   rw[hf]at h
   simp only[Option.map_some,Option.some.injEq]at h
   subst h
   obtain⟨cv',h1,h2⟩:=fill_ok (cv:=z.cells) hp (lits_repL hleaf) hf
   refine⟨.agg cv',?_,by simpa using h2.toArray⟩
   simp only[Instr.build,Sem.run_bind,run_zero ht hz w,Result.andThen_ok,run_underlying hu w,run_sizeOf' hq w]
   rw[h1]
   simp
 ·simp at h
theorem run_part[Glob]{P:Program}{E:Env}{o:Bool}{t:TypeId}{r:TyRow}(ht:tyOf P t=some r){l:List AV}{c:List Value}(hl:RepL E o l c){j:Nat}{x:AV}
  (h:partA r.isAgg r.size (.agg l) j=some x) (w:World):∃ v,(part t c.toArray j).run P w=.ok v w∧Rep E o x v:=by
 have hagg:=run_isAgg (tyOf_some ht).1 w
 have hso:=run_sizeOf' ht w
 change partA (isAggD r.desc) r.size (.agg l) j=some x at h
 generalize isAggD r.desc=A at hagg h
 unfold part
 rw[Sem.run_bind,hagg,Result.andThen_ok]
 unfold partA at h
 cases A with
 |true=>
  simp only[if_true]at h ⊢
  split at h
  case isFalse=>simp at h
  rename_i hle
  simp only[Option.some.injEq]at h
  subst h
  have hlen:=hl.length
  refine⟨.agg ((c.drop j).take r.size).toArray,?_,(hl.part j r.size).toArray⟩
  simp only[Sem.run_bind,hso,Result.andThen_ok,Sem.run_pure]
  congr 2
  simp[List.extract_toArray,List.extract_eq_take_drop]
 |false=>
  simp only[Bool.false_eq_true,if_false]at h ⊢
  obtain⟨v,hv,hr,_⟩:=hl.get h
  refine⟨v,?_,hr⟩
  have:c.toArray[j]?=some v:=by simpa using hv
  rw[this]
  rfl
theorem fieldOf_some{P:Program}{s:TypeId}{f:Nat}{off:Nat}{r:TyRow}(h:fieldOf P s f=some (off,r)):
  ∃ fs fd,P.underlying s=some (.struct fs)∧fs[f]?=some fd∧fd.offset=off∧tyOf P fd.type=some r∧0<r.size:=by
 unfold fieldOf structFields at h
 split at h
 case h_2=>simp at h
 rename_i fs hfs
 split at hfs
 case h_2=>simp at hfs
 rename_i fs' hu
 simp only[Option.some.injEq]at hfs
 subst hfs
 split at h
 case h_2=>simp at h
 rename_i fd hfd
 split at h
 case h_2=>simp at h
 rename_i r' hr
 split at h
 ·simp at h
 ·simp only[Option.some.injEq,Prod.mk.injEq]at h
  obtain⟨h1,rfl⟩:=h
  exact⟨fs',fd,hu,hfd,h1,hr,by omega⟩
theorem add_addr(b o n:Nat):(⟨b,o,none⟩:Addr).add n=⟨b,o+n,none⟩:=by
 simp_all[Addr.add]
theorem fieldAt_ok[Glob]{P:Program}{s:TypeId}{f off:Nat}{r:TyRow}(h:fieldOf P s f=some (off,r))(b o:Nat)(w:World):
  (Instr.fieldAt s (.pointer (some ⟨b,o,none⟩)) f).run P w=.ok (.pointer (some ⟨b,o+off,none⟩)) w:=by
 obtain⟨fs,fd,hu,hf,ho,hr,hpos⟩:=fieldOf_some h
 have hne:¬r.size=0:=by omega
 simp only[Instr.fieldAt,Sem.run_bind,run_underlying hu w,Result.andThen_ok,hf,Instr.sureAddr,Sem.run_pure,fieldPlace,run_sizeOf' hr w,if_neg hne,ho,add_addr]
theorem field_ok[Glob]{P:Program}{E:Env}{s:TypeId}{f off:Nat}{r:TyRow}(h:fieldOf P s f=some (off,r)){l:List AV}{v:Value}(hl:Rep E true (.agg l) v){x:AV}
  (hx:partA r.isAgg r.size (.agg l) off=some x) (w:World):∃ u,(Instr.field s v f).run P w=.ok u w∧Rep E true x u:=by
 obtain⟨fs,fd,hu,hf,ho,hr,hpos⟩:=fieldOf_some h
 simp only[Rep]at hl
 obtain⟨c,rfl,hc⟩:=hl
 obtain⟨u,h1,h2⟩:=run_part hr hc hx w
 refine⟨u,?_,h2⟩
 simp only[Instr.field,Sem.run_bind,run_underlying hu w,Result.andThen_ok,hf,asAgg,Sem.run_pure,ho]
 exact h1
theorem asNat_some{x:AV}{i:Nat}(h:asNat x=some i):∃ k,x=.lit (.int k i):=by
 unfold asNat at h
 split at h
 case h_2=>simp at h
 rename_i k n
 split at h
 case isFalse=>simp at h
 rename_i hn
 simp only[Option.some.injEq]at h
 exact⟨k,by rw[←h,Int.toNat_of_nonneg hn]⟩
theorem asNat_val[Glob]{E:Env}{o:Bool}{x:AV}{i:Nat}{v:Value}(h:asNat x=some i)(hr:Rep E o x v):∃ k,v=.int k i:=by
 obtain⟨k,rfl⟩:=asNat_some h
 simp only[Rep]at hr
 exact⟨k,hr⟩
theorem sliceElem_some{P:Program}{t:TypeId}{r:TyRow}(h:sliceElem P t=some r):∃ e,P.underlying t=some (.slice e)∧tyOf P e=some r:=by
 grind[sliceElem]
theorem arrayElem_some{P:Program}{t:TypeId}{n:Nat}{r:TyRow}(h:arrayElem P t=some (n,r)):∃ e,P.underlying t=some (.array n e)∧tyOf P e=some r:=by
 unfold arrayElem at h
 split at h
 ·simp_all
 ·simp at h
theorem okElem_cells{agg:Bool}{size:Nat}{e:AV}(h:okElem agg size e=true):(cellsOf e).length=size∧(cellsOf e).all isLeaf=true:=by
 unfold okElem at h
 split at h
 ·rename_i l
  simp only[Bool.and_eq_true,decide_eq_true_eq]at h
  exact⟨h.1.2,h.2⟩
 ·rename_i x hx
  simp only[Bool.and_eq_true,decide_eq_true_eq,Bool.not_eq_true']at h
  have:cellsOf e=[e]:=by
   cases e with
   |agg l=>exact absurd rfl (hx l)
   |lit y=>cases y<;>first|rfl|(simp[isLeaf]at h)
   |_=>rfl
  rw[this]
  exact⟨by simp[h.1.2],by simpa using h.2⟩
theorem indexAddr_ok[Glob]{P:Program}{E:Env}{t:TypeId}{x ix r:AV}{vx vi:Value}(hx:Rep E true x vx)(hi:Rep E true ix vi)(h:indexAddrA P t x ix=some r)
  (w:World):∃ v,(Instr.indexAt t vx vi).run P w=.ok v w∧Rep E true r v:=by
 unfold indexAddrA at h
 split at h
 ·simp at h
 rename_i i hix
 obtain⟨k,rfl⟩:=asNat_val hix hi
 have slice:∀ (xs:List AV) (a:Option Addr) (cap:Nat),(xs=[]∨∃ b of esz c,a=some ⟨b,of,none⟩∧E.m b=some c∧RepS E xs c of esz) →
   (match sliceElem P t,xs[i]? with|some r,some e=>if okElem r.isAgg r.size e then some (AV.eref e 0) else none|_,_=>none)=some r →
   ∃ v,(Instr.indexAt t (.slice a xs.length cap) (.int k i)).run P w=.ok v w∧Rep E true r v:=by
  intro xs a cap hs h
  split at h
  case h_2=>simp at h
  rename_i q e hq he
  split at h
  case isFalse=>simp at h
  rename_i hok
  simp only[Option.some.injEq]at h
  subst h
  have hlt:=getElem?_lt he
  rcases hs with rfl|⟨b,of,esz,c,rfl,hm,hs⟩
  ·simp at he
  obtain⟨ve,hve,hat⟩:=hs.get he
  obtain⟨el,hu,hte⟩:=sliceElem_some hq
  obtain⟨hlen,hleaf⟩:=okElem_cells hok
  have hsz:=cells_size hleaf hve
  have hesz:esz=q.size:=by rw[←hat.1,hsz,hlen]
  refine⟨.pointer (some ⟨b,of+i*esz,none⟩),?_,?_⟩
  ·simp only[Instr.indexAt,asIntOf,Sem.run_bind,Sem.run_pure,Result.andThen_ok,run_underlying hu w]
   rw[Sem.run_ite,if_pos ⟨by omega,by omega⟩]
   simp only[Sem.run_bind,run_sizeOf' hte w,Result.andThen_ok,Sem.run_pure,add_addr,Int.toNat_natCast,hesz]
  ·simp only[Rep]
   exact⟨b,of+i*esz,c,ve,rfl,hm,hve,by rw[hat.1]; exact hat⟩
 split at h
 ·rename_i xs
  simp only[Rep]at hx
  obtain⟨a,cap,rfl,_,_,hs⟩:=hx
  exact slice xs a cap hs h
 ·rename_i xs c
  simp only[Rep]at hx
  obtain⟨a,rfl,_,hs⟩:=hx
  refine slice xs (some a) c (hs.imp id ?_) h
  rintro⟨b,of,esz,c',rfl,hm,hs⟩
  exact⟨b,of,esz,c',rfl,hm,hs⟩
 ·rename_i esz n ver off len cap
  split at h
  case h_2=>simp at h
  rename_i q hq
  split at h
  case isFalse=>simp at h
  rename_i hlt
  simp only[Option.some.injEq]at h
  subst h
  obtain⟨el,hu,hte⟩:=sliceElem_some hq
  simp only[Rep]at hx
  obtain⟨_,hn,l,hl,hez,_,hm⟩:=hx
  cases hb:l.blk with
  |none=>rw[hb]at hm; omega
  |some b=>
   rw[hb]at hm
   simp only at hm
   obtain⟨a,ccap,rfl,_,_,hcl,_,_,ha⟩:=hm
   have ha':=ha (by omega)
   subst ha'
   have he:l.esz=q.size:=hez.trans hlt.2.2
   refine⟨.pointer (some ⟨b,(off+i)*l.esz+0,none⟩),?_,?_⟩
   ·simp only[Instr.indexAt,asIntOf,Sem.run_bind,Sem.run_pure,Result.andThen_ok,run_underlying hu w]
    rw[Sem.run_ite,if_pos ⟨by omega,by omega⟩]
    simp only[Sem.run_bind,run_sizeOf' hte w,Result.andThen_ok,Sem.run_pure,add_addr,Int.toNat_natCast,he,Nat.add_mul,Nat.add_zero]
   ·simp only[Rep]
    exact⟨trivial,hn,l,b,hl,hb,rfl⟩
 ·rename_i n ver i0 j len cap
  split at h
  case h_2=>simp at h
  rename_i q hq
  split at h
  case isFalse=>simp at h
  rename_i hlt
  simp only[Option.some.injEq]at h
  subst h
  obtain⟨el,hu,hte⟩:=sliceElem_some hq
  simp only[Rep]at hx
  obtain⟨_,hn,_,l,b,hl,hb,rfl⟩:=hx
  refine⟨.pointer (some ⟨b,i0*l.esz+(j+i*q.size),none⟩),?_,?_⟩
  ·simp only[Instr.indexAt,asIntOf,Sem.run_bind,Sem.run_pure,Result.andThen_ok,run_underlying hu w]
   rw[Sem.run_ite,if_pos ⟨by omega,by omega⟩]
   simp only[Sem.run_bind,run_sizeOf' hte w,Result.andThen_ok,Sem.run_pure,add_addr,Int.toNat_natCast,Nat.add_assoc]
  ·simp only[Rep]
   exact⟨trivial,hn,l,b,hl,hb,rfl⟩
 ·rename_i n ver i0 j
  split at h
  case h_2=>simp at h
  rename_i len q hq
  split at h
  case isFalse=>simp at h
  rename_i hlt
  simp only[Option.some.injEq]at h
  subst h
  obtain⟨el,hu,hte⟩:=arrayElem_some hq
  simp only[Rep]at hx
  obtain⟨_,hn,l,b,hl,hb,rfl⟩:=hx
  refine⟨.pointer (some ⟨b,i0*l.esz+(j+i*q.size),none⟩),?_,?_⟩
  ·simp only[Instr.indexAt,asIntOf,Sem.run_bind,Sem.run_pure,Result.andThen_ok,run_underlying hu w,Instr.sureAddr]
   rw[Sem.run_ite,if_pos ⟨by omega,by omega⟩]
   simp only[Sem.run_bind,run_sizeOf' hte w,Result.andThen_ok,Sem.run_pure,add_addr,Int.toNat_natCast,Nat.add_assoc]
  ·simp only[Rep]
   exact⟨trivial,hn,l,b,hl,hb,rfl⟩
 ·rename_i e j
  split at h
  case h_2=>simp at h
  rename_i len q hq
  split at h
  case isFalse=>simp at h
  rename_i hlt
  simp only[Option.some.injEq]at h
  subst h
  obtain⟨el,hu,hte⟩:=arrayElem_some hq
  simp only[Rep]at hx
  obtain⟨b,of,c,ve,rfl,hm,he,hat⟩:=hx
  refine⟨.pointer (some ⟨b,of+(j+i*q.size),none⟩),?_,?_⟩
  ·simp only[Instr.indexAt,asIntOf,Sem.run_bind,Sem.run_pure,Result.andThen_ok,run_underlying hu w,Instr.sureAddr]
   rw[Sem.run_ite,if_pos ⟨by omega,by omega⟩]
   simp only[Sem.run_bind,run_sizeOf' hte w,Result.andThen_ok,Sem.run_pure,add_addr,Int.toNat_natCast,Nat.add_assoc]
  ·simp only[Rep]
   exact⟨b,of,c,ve,rfl,hm,he,hat⟩
 ·simp at h
end Go.PI
end
section
/- PI, part J: slices cut; operations that ask nothing of the world. -/
namespace Go.PI
theorem pureRun_ok{P:Program}{α:Type}:∀ {s:Sem α} {a:α},pureRun P s=some a→∀ w,s.run P w=.ok a w
 |.pure b,a,h,w=>by simp only[pureRun,Option.some.injEq]at h; subst h; rfl
 |.program k,a,h,w=>by
  simp only[pureRun]at h
  simp only[Sem.run]
  exact pureRun_ok h w
 |.mark m k,a,h,w=>by
  simp only[pureRun]at h
  simp only[Sem.run]
  exact pureRun_ok h w
 |.load _ _ _,_,h,_=>by simp[pureRun]at h
 |.store _ _ _ _,_,h,_=>by simp[pureRun]at h
 |.new _ _,_,h,_=>by simp[pureRun]at h
 |.shape _ _,_,h,_=>by simp[pureRun]at h
 |.freeze _ _ _,_,h,_=>by simp[pureRun]at h
 |.frozen _ _,_,h,_=>by simp[pureRun]at h
 |.getObj _ _,_,h,_=>by simp[pureRun]at h
 |.setObj _ _ _,_,h,_=>by simp[pureRun]at h
 |.choose _ _,_,h,_=>by simp[pureRun]at h
 |.sys _ _,_,h,_=>by simp[pureRun]at h
 |.halt _,_,h,_=>by simp[pureRun]at h
theorem ofVal_rep[Glob]{E:Env}{o:Bool}(v:Value)(h:∀ c,v=.agg c→c.toList.all (fun x=>isLeaf (.lit x))=true):Rep E o (ofVal v) v:=by
 cases v with
 |agg c=>
  simp only[ofVal,Rep]
  exact⟨c.toList,by simp,lits_repL (h c rfl)⟩
 |tuple c=>
  simp only[ofVal,Rep]
  exact⟨c.toList,by simp,RepT.lits c.toList⟩
 |_=>simp[ofVal,Rep]
def RepO(E:Env):Option AV→Option Value→Prop
 |none,none=>True
 |some x,some v=>Rep E true x v
 |_,_=>False
theorem bound_ok[Glob]{P:Program}{E:Env}{x:AV}{v:Value}{i y:Nat}{code:BoundsCode}(h:asNat x=some i)(hr:Rep E true x v)(hy:i≤y)(w:World):
  (Instr.sliceBound v y code).run P w=.ok i w:=by
 obtain⟨k,rfl⟩:=asNat_val h hr
 simp only[Instr.sliceBound,asIntOf,Sem.run_bind,Sem.run_pure,Result.andThen_ok]
 rw[Sem.run_ite,if_pos ⟨by omega,by omega⟩]
 simp
theorem bounds_ok[Glob]{P:Program}{E:Env}{isSlice:Bool}{len cap l h m:Nat}{lo hi mx:Option AV}{vlo vhi vmx:Option Value}
  (r1:RepO E lo vlo) (r2:RepO E hi vhi) (r3:RepO E mx vmx) (h1:optNat 0 lo=some l) (h2:optNat len hi=some h) (h3:optNat cap mx=some m)
  (hlh:l≤h) (hhm:h≤m) (hmc:m≤cap) (hn:(mx.isSome&&hi.isNone)=false) (w:World) :
  (Instr.sliceBounds isSlice len cap vlo vhi vmx).run P w=.ok (l,h,m) w:=by
 unfold Instr.sliceBounds
 cases mx with
 |none=>
  cases vmx with
  |some _=>simp[RepO]at r3
  |none=>
   simp only[optNat,Option.some.injEq]at h3
   subst h3
   cases hi with
   |none=>
    cases vhi with
    |some _=>simp[RepO]at r2
    |none=>
     simp only[optNat,Option.some.injEq]at h2
     subst h2
     cases lo with
     |none=>
      cases vlo with
      |some _=>simp[RepO]at r1
      |none=>
       simp only[optNat,Option.some.injEq]at h1
       subst h1
       simp
     |some x=>
      cases vlo with
      |none=>simp[RepO]at r1
      |some v=>simp[bound_ok (by simpa[optNat] using h1) (by simpa[RepO] using r1) hlh w]
   |some y=>
    cases vhi with
    |none=>simp[RepO]at r2
    |some u=>
     have e2:=fun code=>bound_ok (P:=P) (code:=code) (by simpa[optNat] using h2) (by simpa[RepO] using r2) hhm w
     cases lo with
     |none=>
      cases vlo with
      |some _=>simp[RepO]at r1
      |none=>
       simp only[optNat,Option.some.injEq]at h1
       subst h1
       simp[e2]
     |some x=>
      cases vlo with
      |none=>simp[RepO]at r1
      |some v=>simp[e2,bound_ok (by simpa[optNat] using h1) (by simpa[RepO] using r1) hlh w]
 |some z=>
  cases vmx with
  |none=>simp[RepO]at r3
  |some v3=>
   have e3:=fun code=>bound_ok (P:=P) (code:=code) (by simpa[optNat] using h3) (by simpa[RepO] using r3) hmc w
   cases hi with
   |none=>simp at hn
   |some y=>
    cases vhi with
    |none=>simp[RepO]at r2
    |some u=>
     have e2:=fun code=>bound_ok (P:=P) (code:=code) (by simpa[optNat] using h2) (by simpa[RepO] using r2) hhm w
     cases lo with
     |none=>
      cases vlo with
      |some _=>simp[RepO]at r1
      |none=>
       simp only[optNat,Option.some.injEq]at h1
       subst h1
       simp[e2,e3]
     |some x=>
      cases vlo with
      |none=>simp[RepO]at r1
      |some v=>simp[e2,e3,bound_ok (by simpa[optNat] using h1) (by simpa[RepO] using r1) hlh w]
theorem RepS.cut{E:Env}{xs:List AV}{c:Array Value}{of esz:Nat}(h:RepS E xs c of esz)(l n:Nat):
  RepS E ((xs.drop l).take n) c (of+l*esz) esz:=by
 refine RepS.of_get fun i x hx=>?_
 have hi:i<n:=by
  grind
 rw[List.getElem?_take_of_lt hi,List.getElem?_drop]at hx
 obtain⟨v,hv,ha⟩:=h.get hx
 refine⟨v,hv,?_⟩
 have:of+l*esz+i*esz=of+(l+i)*esz:=by rw[Nat.add_mul]; omega
 rwa [this]
theorem RepS.size[Glob]{E:Env}{xs:List AV}{c:Array Value}{of esz:Nat}(h:RepS E xs c of esz){agg:Bool}{size:Nat}(hx:xs≠[])
  (hall:xs.all (okElem agg size)=true):esz=size:=by
 cases xs with
 |nil=>exact absurd rfl hx
 |cons x r=>
  obtain⟨v,hv,ha⟩:=h.get (i:=0) (x:=x) rfl
  have hok:=List.all_eq_true.1 hall x (by simp)
  obtain⟨h1,h2⟩:=okElem_cells hok
  rw[←ha.1,cells_size h2 hv,h1]
theorem sliceTy{P:Program}{t:TypeId}(h:isSliceTy P t=true):∃ e,P.underlying t=some (.slice e):=by
 grind[isSliceTy]
theorem ofPure_rep{E:Env}{o:Bool}{v:Value}{x:AV}(h:ofPure v=some x):Rep E o x v:=by
 cases v<;>simp only[ofPure,Option.some.injEq,reduceCtorEq]at h<;>(subst h; simp[Rep])
theorem pure_ok[Glob]{P:Program}{E:Env}{s:Sem Value}{r:AV}(h:(pureRun P s).bind ofPure=some r)(w:World):∃ v,s.run P w=.ok v w∧Rep E true r v:=by
 cases hq:pureRun P s with
 |none=>rw[hq]at h; simp at h
 |some v=>
  rw[hq]at h
  exact⟨v,pureRun_ok hq w,ofPure_rep h⟩
theorem optLit_ok{E:Env}{x:Option AV}{v v':Option Value}(h:optLit x=some v)(hr:RepO E x v'):v'=v:=by
 cases x with
 |none=>
  grind[optLit,RepO]
 |some y=>
  cases v' with
  |none=>simp[RepO]at hr
  |some u=>
   cases y with
   |lit z=>
    simp_all[optLit,RepO,Rep]
   |_=>simp[optLit]at h
theorem run_cut[Glob]{P:Program}{t el:TypeId}{r:TyRow}(hu:P.underlying t=some (.slice el))(hr:tyOf P el=some r){a:Option Addr}{len cap l h m:Nat}
  {vlo vhi vmx:Option Value} {w:World} (hb:(Instr.sliceBounds true len cap vlo vhi vmx).run P w=.ok (l,h,m) w) :
  (Instr.sliceAt t (.slice a len cap) vlo vhi vmx).run P w=.ok (.slice (if m=l then a else a.map (·.add (l*r.size))) (h-l) (m-l)) w:=by
 simp only[Instr.sliceAt,Sem.run_bind,run_underlying hu w,Result.andThen_ok,Instr.slice,hb,run_sizeOf' hr w,Sem.run_pure]
theorem cut_ok[Glob]{P:Program}{E:Env}{t:TypeId}{x r:AV}{lo hi mx:Option AV}{vx:Value}{vlo vhi vmx:Option Value}(hx:Rep E true x vx)
  (r1:RepO E lo vlo) (r2:RepO E hi vhi) (r3:RepO E mx vmx) (h:cutA P t x lo hi mx=some r) (w:World) :
  ∃ v,(Instr.sliceAt t vx vlo vhi vmx).run P w=.ok v w∧Rep E true r v:=by
 unfold cutA at h
 split at h
 ·rename_i s
  simp only[Rep]at hx
  subst hx
  split at h
  case h_2=>simp at h
  rename_i l hh m h1 h2 h3
  rw[optLit_ok h1 r1,optLit_ok h2 r2,optLit_ok h3 r3]
  exact pure_ok h w
 ·-- nil
  split at h
  case h_2=>simp at h
  rename_i q hq h1 h2 h3
  split at h
  ·simp at h
  rename_i hn
  simp only[Option.some.injEq]at h
  subst h
  simp only[Rep]at hx
  subst hx
  obtain⟨e,hu,hte⟩:=sliceElem_some hq
  have hb:=bounds_ok (P:=P) (isSlice:=true) r1 r2 r3 h1 h2 h3 (Nat.le_refl _) (Nat.le_refl _) (Nat.le_refl _) (by revert hn; cases (mx.isSome&&hi.isNone)<;>simp) w
  refine⟨_,run_cut hu hte hb,?_⟩
  cases mx with
  |none=>simp[Rep]
  |some _=>simp only[Rep]; exact⟨none,by simp⟩
 ·-- by value
  rename_i xs
  simp only[Rep]at hx
  obtain⟨a,cap,rfl,hcap,hnil,hcont⟩:=hx
  split at h
  ·rename_i q l hh hq h1 h2
   split at h
   case isFalse=>simp at h
   rename_i hc
   obtain⟨hl1,hl2,hall⟩:=hc
   simp only[Option.some.injEq]at h
   subst h
   obtain⟨el,hu,hte⟩:=sliceElem_some hq
   have hb:=bounds_ok (P:=P) (isSlice:=true) (cap:=cap) r1 r2 r3 h1 h2 rfl hl1 (by omega) (Nat.le_refl _) (by simp) w
   refine⟨_,run_cut hu hte hb,?_⟩
   simp only[Rep]
   have hlen:((xs.drop l).take (hh-l)).length=hh-l:=by simp; omega
   refine⟨_,_,by rw[hlen],by rw[hlen]; omega,?_,?_⟩
   ·intro hnone
    split at hnone
    ·omega
    ·have:=hnil (by simpa using hnone); omega
   ·rcases hcont with rfl|⟨b,of,esz,c,rfl,hm,hsx⟩
    ·left; simp
    ·by_cases he:hh=l
     ·left; subst he; simp
     ·right
      have hne:xs≠[]:=by intro e; subst e; simp at hl2; omega
      have hsize:=hsx.size hne hall
      refine⟨b,of+l*q.size,esz,c,?_,hm,?_⟩
      ·rw[if_neg (by omega)]; simp[add_addr]
      ·rw[←hsize]; exact hsx.cut l (hh-l)
  ·rename_i q l hh mm hq h1 h2
   split at h
   case h_2=>simp at h
   rename_i _ m _ hm0
   split at h
   case isFalse=>simp at h
   rename_i hc
   obtain⟨hl1,hl2,hl3,hall⟩:=hc
   obtain⟨el,hu,hte⟩:=sliceElem_some hq
   have hb:=bounds_ok (P:=P) (isSlice:=true) (cap:=cap) r1 r2 r3 h1 h2 (by simpa[optNat] using hm0) hl1 hl2 (by omega) (by simp) w
   refine⟨_,run_cut hu hte hb,?_⟩
   split at h
   ·rename_i hz
    simp only[Option.some.injEq]at h
    subst h
    subst hz
    have e1:hh=0:=by omega
    have e2:l=0:=by omega
    subst e1; subst e2
    simp only[Rep]
    exact⟨a,by simp⟩
   split at h
   ·rename_i hemp
    simp only[Option.some.injEq]at h
    subst h
    have hemp':xs=[]:=by simpa using hemp
    subst hemp'
    simp at hl3
    subst hl3
    have e1:hh=0:=by omega
    have e2:l=0:=by omega
    subst e1; subst e2
    simp only[Rep]
    exact⟨a,0,by simp,by simp,fun _=>rfl,.inl trivial⟩
   ·rename_i hemp
    simp only[Option.some.injEq]at h
    subst h
    have hne:xs≠[]:=by simpa using hemp
    rcases hcont with rfl|⟨b,of,esz,c,rfl,hm,hsx⟩
    ·exact absurd rfl hne
    simp only[Rep]
    have hlen:((xs.drop l).take (hh-l)).length=hh-l:=by simp; omega
    have hsize:=hsx.size hne hall
    by_cases hml:m=l
    ·refine⟨⟨b,of,none⟩,by rw[hlen,if_pos hml],by rw[hlen]; omega,.inl ?_⟩
     have:hh-l=0:=by omega
     rw[this]; simp
    ·refine⟨⟨b,of+l*q.size,none⟩,by rw[hlen,if_neg hml]; simp[add_addr],by rw[hlen]; omega,.inr ⟨b,of+l*q.size,esz,c,rfl,hm,?_⟩⟩
     rw[←hsize]; exact hsx.cut l (hh-l)
  ·simp at h
 ·rename_i xs cp
  simp only[Rep]at hx
  obtain⟨a,rfl,hcap,hcont⟩:=hx
  split at h
  case h_2=>simp at h
  rename_i q l hh m hq h1 h2 h3
  split at h
  case isFalse=>simp at h
  rename_i hc
  obtain⟨hl1,hl2,hl3,hl4,hn,hall⟩:=hc
  simp only[Option.some.injEq]at h
  subst h
  obtain⟨el,hu,hte⟩:=sliceElem_some hq
  have hb:=bounds_ok (P:=P) (isSlice:=true) (cap:=cp) r1 r2 r3 h1 h2 h3 hl1 hl3 hl4 hn w
  refine⟨_,run_cut hu hte hb,?_⟩
  simp only[Rep]
  have hlen:((xs.drop l).take (hh-l)).length=hh-l:=by simp; omega
  by_cases hml:m=l
  ·refine⟨a,by rw[hlen,if_pos hml],by rw[hlen]; omega,.inl ?_⟩
   have:hh-l=0:=by omega
   rw[this]; simp
  ·refine⟨a.add (l*q.size),by rw[hlen,if_neg hml]; simp,by rw[hlen]; omega,?_⟩
   rcases hcont with rfl|⟨b,of,esz,c,rfl,hm,hsx⟩
   ·left; simp
   ·by_cases he:hh=l
    ·left; subst he; simp
    ·right
     have hne:xs≠[]:=by intro e; subst e; simp at hl2; omega
     have hsize:=hsx.size hne hall
     refine⟨b,of+l*q.size,esz,c,by simp[add_addr],hm,?_⟩
     rw[←hsize]; exact hsx.cut l (hh-l)
 ·rename_i esz n ver off len cp
  simp only[Rep]at hx
  obtain⟨_,hn,l0,hl0,hez,hvt,hblk⟩:=hx
  have main:∀ (q:TyRow) (l hh m:Nat) (cp':Option Nat),sliceElem P t=some q→esz=q.size→0<ver →
    (∀ ccap,(∀ k,cp=some k→ccap=k)→(cp=none→ccap=l0.tot-off)→(off+ccap≤l0.tot)→∃ m,(Instr.sliceBounds true len ccap vlo vhi vmx).run P w=.ok (l,hh,m) w∧l≤hh∧hh≤m∧m≤ccap ∧
      (∀ k,cp'=some k→m-l=k)∧(cp'=none→cp=none∧m=ccap)) →
    ∃ v,(Instr.sliceAt t vx vlo vhi vmx).run P w=.ok v w∧Rep E true (.osl esz n ver (off+l) (hh-l) cp') v:=by
   intro q l hh m cp' hq he hver hbs
   obtain⟨el,hu,hte⟩:=sliceElem_some hq
   cases hb:l0.blk with
   |none=>rw[hb]at hblk; omega
   |some b=>
    rw[hb]at hblk
    simp only at hblk
    obtain⟨a,ccap,rfl,hk,hno,hlc,hoc,hpos,haddr⟩:=hblk
    obtain⟨m,hbb,h1,h2,h3,h4,h5⟩:=hbs ccap hk hno hoc
    refine⟨_,run_cut hu hte hbb,?_⟩
    simp only[Rep]
    refine⟨trivial,hn,l0,hl0,hez,hvt,?_⟩
    rw[hb]
    simp only
    refine⟨if m=l then a else a.add (l*q.size),m-l,by split<;>simp_all,h4,fun e=>?_,by omega,by omega,hpos,fun hne=>?_⟩
    ·obtain⟨e1,e2⟩:=h5 e
     rw[e2,hno e1]; omega
    ·rw[if_neg (by omega),haddr (by omega),add_addr,←he,hez,Nat.add_mul]
  split at h
  ·rename_i q l hh hq h1 h2
   split at h
   case isFalse=>simp at h
   rename_i hc
   obtain⟨hl1,hl2,hv0,he⟩:=hc
   simp only[Option.some.injEq]at h
   subst h
   refine main q l hh 0 _ hq he hv0 fun ccap hk hno hoc=>?_
   have hle:hh≤ccap:=by
    cases cp with
    |none=>have:=hno rfl; simp at hl2; omega
    |some k=>have:=hk k rfl; simp at hl2; omega
   refine⟨ccap,bounds_ok (P:=P) (isSlice:=true) (cap:=ccap) r1 r2 r3 h1 h2 rfl hl1 hle (Nat.le_refl _) (by simp) w,hl1,hle,Nat.le_refl _,?_,?_⟩
   ·intro k hk'
    cases cp with
    |none=>simp at hk'
    |some k0=>have:=hk k0 rfl; simp at hk'; omega
   ·intro e
    cases cp with
    |none=>exact⟨rfl,rfl⟩
    |some k0=>simp at e
  ·rename_i q l hh mm hq h1 h2
   split at h
   case h_2=>simp at h
   rename_i _ m _ hm0
   split at h
   case isFalse=>simp at h
   rename_i hc
   obtain⟨hl1,hl2,hl3,hv0,he⟩:=hc
   simp only[Option.some.injEq]at h
   subst h
   refine main q l hh m _ hq he hv0 fun ccap hk hno hoc=>?_
   have hle:m≤ccap:=by
    cases cp with
    |none=>have:=hno rfl; simp at hl3; omega
    |some k=>have:=hk k rfl; simp at hl3; omega
   exact⟨m,bounds_ok (P:=P) (isSlice:=true) (cap:=ccap) r1 r2 r3 h1 h2 (by simpa[optNat] using hm0) hl1 hl2 hle (by simp) w,hl1,hl2,hle,
    fun k hk'=>by simpa using hk',fun e=>by simp at e⟩
  ·simp at h
 ·rename_i n ver i j
  split at h
  case h_2=>simp at h
  rename_i len q l hq h1
  split at h
  case h_2=>simp at h
  rename_i hh h2
  split at h
  case isFalse=>simp at h
  rename_i hc
  obtain⟨hl1,hl2,hl3⟩:=hc
  simp only[Option.some.injEq]at h
  subst h
  obtain⟨el,hu,hte⟩:=arrayElem_some hq
  simp only[Rep]at hx
  obtain⟨_,hn,lo,b,hl,hb,rfl⟩:=hx
  have hbd:=bounds_ok (P:=P) (isSlice:=false) (len:=len) (cap:=len) (m:=len) r1 r2 r3 h1 h2 rfl hl1 hl2 (Nat.le_refl _) (by simp) w
  refine⟨.slice (some ⟨b,i*lo.esz+(j+l*q.size),none⟩) (hh-l) (len-l),?_,?_⟩
  ·simp only[Instr.sliceAt,Sem.run_bind,run_underlying hu w,Result.andThen_ok,Instr.sureAddr,Sem.run_pure,hbd,run_sizeOf' hte w]
   rw[if_neg (by omega)]
   simp only[add_addr,Nat.add_assoc]
  ·simp only[Rep]
   exact⟨trivial,hn,by omega,lo,b,hl,hb,rfl⟩
 ·simp at h
end Go.PI
end
section
/- PI, part K: arrays of elements in a block; new slices. -/
namespace Go.PI
def Els(E:Env)(cl:Bool)(es:List AV)(c:Array Value)(esz:Nat):Prop:=
 c.size=es.length*esz∧∀ (i:Nat) (e:AV),es[i]?=some e→∃ v,Rep E (!cl) e v∧At c (i*esz) esz v
theorem wrap_i64{n:Int}(h0 : -9223372036854775808≤n)(h1:n<9223372036854775808):IntKind.i64.wrap n=n:=by
 grind[ge_iff_le,IntKind.wrap,IntKind.bits,IntKind.signed]
theorem zero_at[Glob]{z:Value}{size n i:Nat}(hz:z.cells.size=size)(hi:i<n)(hl:z.cells.toList.all (fun v=>isLeaf (.lit v))=true):
  At ((Array.range (n*size)).map (z.cells[·%z.cells.size]!)) (i*size) size z:=by
 refine⟨hz,fun q hq=>?_,fun x hx=>?_⟩
 ·have h1:i*size+q<n*size:=by
   have:=Nat.mul_le_mul_right size hi
   rw[Nat.succ_mul]at this; omega
  have h2:(i*size+q)%size=q:=by
   rw[Nat.mul_comm,Nat.mul_add_mod]
   exact Nat.mod_eq_of_lt hq
  have h3:q<z.cells.size:=by omega
  have h4:z.cells[q]?=some z.cells[q]!:=by rw[Array.getElem?_eq_getElem h3,getElem!_pos z.cells q h3]
  rw[h4]
  simp[h1,hz,h2]
 ·have:=List.all_eq_true.1 hl x hx
  exact Rep.leaf (E:=⟨fun _ _=>none,fun _=>none,0,fun _=>False⟩) (o:=true) this (by simp[Rep])
theorem zero_els[Glob]{E:Env}{cl:Bool}{z:Value}{size n:Nat}(hz:z.cells.size=size)(hl:z.cells.toList.all (fun v=>isLeaf (.lit v))=true):
  Els E cl (List.replicate n (ofVal z)) ((Array.range (n*size)).map (z.cells[·%z.cells.size]!)) size:=by
 refine⟨by simp,fun i e he=>?_⟩
 have hi:=getElem?_lt he
 simp only[List.length_replicate]at hi
 simp only[List.getElem?_replicate,hi,if_true,Option.some.injEq]at he
 subst he
 exact⟨z,ofVal_rep z (fun c hc=>by subst hc; simpa[Value.cells] using hl),zero_at hz hi hl⟩
theorem Els.set[Glob]{E:Env}{cl cl':Bool}{es:List AV}{c:Array Value}{esz:Nat}(h:Els E cl es c esz)(hc:cl'=true→cl=true){i:Nat}(hi:i<es.length)
  {x:AV} {v:Value} (hx:Rep E (!cl') x v) (hs:v.cells.size=esz) (hl:∀ y∈v.cells.toList,leafV y=true) :
  Els E cl' (es.set i x) (setVals c.toList (i*esz) v.cells.toList).toArray esz:=by
 obtain⟨h1,h2⟩:=h
 have hfit:i*esz+esz≤c.size:=by
  rw[h1]
  have:=Nat.mul_le_mul_right esz hi
  rw[Nat.succ_mul]at this; exact this
 refine⟨by simp[setVals_length,h1],fun k e hk=>?_⟩
 by_cases e1:i=k
 ·subst e1
  have:es[i]?=some es[i]:=by simp[hi]
  rw[getElem?_set_eq this]at hk
  cases hk
  obtain⟨u,_,hat⟩:=h2 i _ this
  refine⟨v,hx,?_⟩
  have:=at_set (j:=0) (vs:=v.cells.toList) (ve':=v) hat hfit (by simp[hs]) ?_ hl
  ·simpa using this
  ·apply List.ext_getElem?
   intro q
   rw[setVals_get _ _ _ _ (by simp[hat.1,hs])]
   by_cases hq:q<v.cells.toList.length
   ·rw[if_pos ⟨by omega,by omega⟩]; simp
   ·rw[if_neg (by omega),List.getElem?_eq_none (by omega),List.getElem?_eq_none (by simp[hat.1,←hs]; simpa using hq)]
 ·rw[getElem?_set_ne e1]at hk
  obtain⟨u,hu,hat⟩:=h2 k e hk
  refine⟨u,Rep.widenTo (cl:=cl) hc hu,at_other hat (by simp[hs]; omega) ?_⟩
  simp only[Array.length_toList,hs]
  rcases mul_sep (esz:=esz) e1 with h|h<;>omega
theorem fill_els[Glob]{E:Env}{cl:Bool}{size n:Nat}:∀ {parts:List (Nat×AV)} {vs:List (Nat×Value)} {es:List AV} {c:Array Value} {agg:Bool},
  RepP E parts vs→(cl=true→closedL (parts.map (·.2))=true)→parts.all (fun p=>decide (p.1<n)&&okElem agg size p.2)=true→es.length=n→Els E cl es c size →
  ∃ c',Instr.fill (fun i=>some (i*size,size)) c vs=some c'∧Els E cl (setParts es parts) c' size:=by
 intro parts
 induction parts with
 |nil=>
  intro vs es c agg hp _ _ _ he
  cases hp
  exact⟨c,rfl,he⟩
 |cons p rest ih=>
  intro vs es c agg hp hcl hall hlen he
  cases hp with
  |@cons i x v _ cv hx hr=>
   simp only[List.all_cons,Bool.and_eq_true,decide_eq_true_eq]at hall
   obtain⟨⟨hi,hok⟩,hrest⟩:=hall
   obtain⟨hl1,hl2⟩:=okElem_cells hok
   have hsz:=cells_size hl2 hx
   have hxo:Rep E (!cl) x v:=by
    cases cl with
    |false=>exact hx
    |true=>
     have:=hcl rfl
     simp only[List.map_cons,closedL,Bool.and_eq_true]at this
     exact hx.narrow this.1
   have hstep:=he.set (cl':=cl) (fun h=>h) (by omega:i<es.length) hxo (by rw[hsz,hl1]) (cells_rep hl2 hx).leaf
   obtain⟨c',h1,h2⟩:=ih hr (fun h=>by have:=hcl h; simp only[List.map_cons,closedL,Bool.and_eq_true]at this; exact this.2) hrest (by simpa using hlen) hstep
   refine⟨c',?_,h2⟩
   have hfit:i*size+size≤c.size:=by
    rw[he.1,hlen]
    have:=Nat.mul_le_mul_right size hi
    rw[Nat.succ_mul]at this; exact this
   simp only[Instr.fill,hsz,hl1,ne_eq,not_true,decide_false,Bool.false_or,decide_eq_true_eq]
   rw[if_neg (by omega),fold_set']
   exact h1
theorem setParts_length:∀ (parts:List (Nat×AV)) (es:List AV),(setParts es parts).length=es.length
 |[],_=>rfl
 |(i,v)::r,es=>by simp[setParts,setParts_length r]
theorem new_ok[Glob]{E:Env}{hp:AHeap}{w:World}(hI:Inv E hp w){nm:Nat}(hnm:nm=hp.length∨hp[nm]?=some none){g cl:Bool}{es:List AV}{c:Array Value}{esz tot:Nat}
  (T:TypeId) (hez:0<esz) (hcs:c.size=tot*esz) (hle:es.length≤tot) (hg:g=false→tot=es.length)
  (hels:∀ (i:Nat) (e:AV),es[i]?=some e→∃ v,Rep E (!cl) e v∧At c (i*esz) esz v) {len:Nat} {cap:Option Nat} (hlen:len≤tot)
  (hcap:∀ k,cap=some k→tot=k) :
  ∃ E',Ext E E'∧Inv E' (setObj hp nm (.arr g cl false es)) (w.alloc (.cells c T))∧Fr E w E' (w.alloc (.cells c T)) ∧
    Rep E' true (.osl esz nm es.length 0 len cap) (.slice (some ⟨w.heap.size,0,none⟩) len tot):=by
 obtain⟨h1,h2,h3⟩:=inv_new hI hnm g cl es esz tot c T hez hcs hle hg hels
 refine⟨_,h1,h2,h3,?_⟩
 simp only[Rep]
 refine⟨trivial,?_,⟨some w.heap.size,esz,tot⟩,by simp[Env.push],rfl,hle,_,tot,rfl,hcap,fun _=>by simp,hlen,by simp,hez,fun _=>by simp⟩
 show nm<max E.L (nm+1)
 omega
theorem buildSlice_ok[Glob]{P:Program}{E:Env}{hp:AHeap}{w:World}(hI:Inv E hp w){nm:Nat}(hnm:nm=hp.length∨hp[nm]?=some none){t:TypeId}{len:Nat}
  {parts:List (Nat×AV)} {vs:Array (Nat×Value)} (hp':RepP E parts vs.toList) {e:Eff} (h:buildSliceA P nm t len parts=some e) :
  ∃ E' w' v,(Instr.buildSlice t len vs).run P w=.ok v w'∧Ext E E'∧Inv E' (applyWr hp e.wr) w'∧Fr E w E' w'∧Rep E' true e.val v:=by
 unfold buildSliceA at h
 split at h
 case h_2=>simp at h
 rename_i r hr
 split at h
 case h_2=>simp at h
 rename_i z hz
 split at h
 case isFalse=>simp at h
 rename_i hc
 obtain⟨hpos,hroom,hall⟩:=hc
 simp only[Option.some.injEq]at h
 subst h
 obtain⟨el,hu,hte⟩:=sliceElem_some hr
 obtain⟨zv,hzv,hzs,rfl,_,hzl,_⟩:=elemZero_ok hz
 have hels:=zero_els (E:=E) (cl:=closedL (parts.map (·.2))) (n:=len) hzs hzl
 obtain⟨c',h1,h2⟩:=fill_els hp' (fun h=>h) hall (by simp) hels
 obtain⟨E',x1,x2,x3,x4⟩:=new_ok hI hnm (g:=false) (cl:=closedL (parts.map (·.2))) (es:=setParts (List.replicate len (ofVal zv)) parts) (c:=c') (tot:=len) el hpos
  (by rw[h2.1,setParts_length]; simp) (by rw[setParts_length]; simp) (fun _=>by rw[setParts_length]; simp) h2.2 (len:=len) (cap:=some len) (Nat.le_refl _)
  (fun k hk=>by simpa using hk)
 have hl':(setParts (List.replicate len (ofVal zv)) parts).length=len:=by rw[setParts_length]; simp
 rw[hl']at x4
 refine⟨E',w.alloc (.cells c' el),.slice (some ⟨w.heap.size,0,none⟩) len len,?_,x1,x2,x3,x4⟩
 have hsz:=run_sizeOf' hte w
 have hzr:=run_zero hte hzv w
 have hroom':¬len*r.size>2^24:=by omega
 simp only[Instr.buildSlice,Sem.run_bind,run_underlying hu w,Result.andThen_ok,hsz]
 rw[Sem.run_ite,if_neg hroom']
 by_cases h0:len*r.size=0
 ·have hl0:len=0:=by
   rcases Nat.mul_eq_zero.1 h0 with h|h
   ·exact h
   ·omega
  subst hl0
  have hnil:parts=[]:=by
   cases parts with
   |nil=>rfl
   |cons p ps=>simp at hall
  subst hnil
  cases vs with
  |mk l=>
   cases hp'
   simp only[Instr.fill,Option.some.injEq]at h1
   subst h1
   have hr0:Array.range 0=#[]:=rfl
   simp[Instr.fill,newRow,hr0]
 ·simp only[h0,if_false,Sem.run_bind,hzr,Result.andThen_ok,Sem.run_pure]
  rw[h1]
  simp[newRow]
theorem makeSlice_ok[Glob]{P:Program}{E:Env}{hp:AHeap}{w:World}(hI:Inv E hp w){nm:Nat}(hnm:nm=hp.length∨hp[nm]?=some none){t:TypeId}{l c:AV}{vl vc:Value}
  (hl:Rep E true l vl) (hc:Rep E true c vc) {e:Eff} (h:makeSliceA P nm t l c=some e) :
  ∃ E' w' v,(Instr.makeSlice t vl vc).run P w=.ok v w'∧Ext E E'∧Inv E' (applyWr hp e.wr) w'∧Fr E w E' w'∧Rep E' true e.val v:=by
 unfold makeSliceA at h
 split at h
 case h_2=>simp at h
 rename_i r ln cn hr hln hcn
 split at h
 case h_2=>simp at h
 rename_i z hz
 split at h
 case isFalse=>simp at h
 rename_i hcond
 obtain⟨hpos,hlc,hbytes,hc62⟩:=hcond
 simp only[Option.some.injEq]at h
 subst h
 obtain⟨el,hu,hte⟩:=sliceElem_some hr
 obtain⟨zv,hzv,hzs,rfl,_,hzl,_⟩:=elemZero_ok hz
 obtain⟨k1,rfl⟩:=asNat_val hln hl
 obtain⟨k2,rfl⟩:=asNat_val hcn hc
 have hels:=zero_els (E:=E) (cl:=true) (n:=cn) hzs hzl
 obtain⟨E',x1,x2,x3,x4⟩:=new_ok hI hnm (g:=false) (cl:=true) (es:=List.replicate cn (ofVal zv)) (tot:=cn) el hpos (by rw[hels.1]; simp) (by simp) (fun _=>by simp) hels.2
  (len:=ln) (cap:=some cn) hlc (fun k hk=>by simpa using hk)
 simp only[List.length_replicate]at x4
 refine⟨E',_,_,?_,x1,x2,x3,x4⟩
 have hsz:=run_sizeOf' hte w
 have hzr:=run_zero hte hzv w
 obtain⟨_,i,hi,hi1,hi2,_⟩:=tyOf_some hte
 have hti:(typeInfo el).run P w=.ok i w:=by simp[typeInfo,hi]
 have w1:IntKind.i64.wrap (ln:Int)=ln:=wrap_i64 (by omega) (by omega)
 have w2:IntKind.i64.wrap (cn:Int)=cn:=wrap_i64 (by omega) (by omega)
 have hb:¬((i.bytes:Int)*(cn:Int)>2^48):=by
  grind
 have hne:¬((cn:Int)<0):=by omega
 have hl0:¬((ln:Int)<0):=by omega
 have hlc':¬((ln:Int)>(cn:Int)):=by omega
 simp only[Instr.makeSlice,asInt,asIntOf,Sem.run_bind,run_underlying hu w,Result.andThen_ok,Sem.run_pure,hti,w1,w2,hne,hb,hl0,hlc',decide_false,Bool.or_false,
  Bool.false_eq_true,if_false,Int.toNat_natCast,run_askRoom,hsz]
 by_cases h0:cn*r.size=0
 ·have hc0:cn=0:=by
   rcases Nat.mul_eq_zero.1 h0 with h|h
   ·exact h
   ·omega
  subst hc0
  have hr0:Array.range 0=#[]:=rfl
  simp[newRow,hr0]
 ·simp only[h0,if_false,Sem.run_bind,hzr,Result.andThen_ok,Sem.run_pure]
  simp[newRow]
end Go.PI
end
section
/- PI, part L: what a slice holds; append and copy. -/
namespace Go.PI
theorem Inv.heap[Glob]{E:Env}{hp:AHeap}{w w':World}(h:Inv E hp w)(hw:w'.heap=w.heap):Inv E hp w':=by
 refine⟨h.len,fun n o ho=>(h.objs n o ho).other ho fun b _=>by rw[hw],h.free,h.inj,fun b c hb=>by rw[hw]; exact h.mem b c hb,fun b hb=>by rw[hw]; exact h.ownb b hb,h.glob⟩
theorem Fr.drew(E:Env)(w:World):Fr E w E { w with drawn:=w.drawn+1 }:=
 ⟨rfl,rfl,rfl,Nat.le_refl _,fun _ _ _=>rfl,fun _ h=>.inl h,fun _ _ h=>.inl h⟩
theorem els_extract[Glob]{E:Env}{o:Bool}{xs:List AV}{c:Array Value}{of esz:Nat}(h:∀ (i:Nat) (e:AV),xs[i]?=some e→∃ v,Rep E o e v∧At c (of+i*esz) esz v)
  (hfit:of+xs.length*esz≤c.size) :
  (c.extract of (of+xs.length*esz)).size=xs.length*esz ∧
  ∀ (i:Nat) (e:AV),xs[i]?=some e→∃ v,Rep E o e v∧At (c.extract of (of+xs.length*esz)) (i*esz) esz v:=by
 refine⟨by simp; omega,fun i e he=>?_⟩
 obtain⟨v,hv,h1,h2,h3⟩:=h i e he
 have hi:=getElem?_lt he
 refine⟨v,hv,h1,fun q hq=>?_,h3⟩
 have hlt:i*esz+q<xs.length*esz:=by
  have:=Nat.mul_le_mul_right esz hi
  rw[Nat.succ_mul]at this; omega
 rw[Array.getElem?_extract]
 rw[if_pos (by omega)]
 rw[←h2 q hq]
 congr 1
 omega
theorem els_fit{E:Env}{o:Bool}{xs:List AV}{c:Array Value}{of esz:Nat}(h:∀ (i:Nat) (e:AV),xs[i]?=some e→∃ v,Rep E o e v∧At c (of+i*esz) esz v)
  (hne:xs≠[]) (hpos:0<esz):of+xs.length*esz≤c.size:=by
 have hl:0<xs.length:=List.length_pos_iff.2 hne
 have hi:xs.length-1<xs.length:=by omega
 obtain⟨v,_,h1,h2,_⟩:=h (xs.length-1) xs[xs.length-1] (by simp[hi])
 have h3:=h2 (esz-1) (by omega)
 have h4:v.cells[esz-1]?=some v.cells[esz-1]:=by simp
 rw[h4]at h3
 have h5:=(Array.getElem?_eq_some_iff.1 h3).1
 have h6:xs.length*esz=(xs.length-1)*esz+esz:=by
  rw[←Nat.succ_mul]; congr 1; omega
 omega
theorem load_row[Glob]{P:Program}{w:World}{b o n:Nat}{c:Array Value}{T:TypeId}{fz:Nat×Nat}(hw:w.heap[b]?=some (.cells c T fz))(hfit:o+n≤c.size):
  (loadCells ⟨b,o,none⟩ n).run P w=.ok (c.extract o (o+n)) w:=by
 have h:=run_loadCells_list (P:=P) w ⟨b,o,none⟩ ((c.toList.drop o).take n) (fun j v hv=>by
  have hj:j<n:=by
   grind
  rw[List.getElem?_take_of_lt hj,List.getElem?_drop]at hv
  simp only[add_addr,World.cell?,hw]
  simpa using hv)
 have hlen:((c.toList.drop o).take n).length=n:=by simp; omega
 rw[hlen]at h
 rw[h]
 congr 1
 apply Array.ext'
 simp[Array.toList_extract,List.extract_eq_take_drop]
theorem elems_ok[Glob]{P:Program}{E:Env}{hp:AHeap}{w:World}(hI:Inv E hp w){x:AV}{vx:Value}(hx:Rep E true x vx){ys:List AV}{yc:Bool}
  (h:(elemsA x).run hp=some (ys,yc)) {agg:Bool} {size:Nat} (hsize:0<size) (hall:ys.all (okElem agg size)=true∨∃ n ver off len cap,x=.osl size n ver off len cap) :
  (Builtin.lenOf vx).run P w=.ok ys.length w∧∀ n,n≤ys.length→∃ c,(∀ w',w'.heap=w.heap→(Builtin.firstCells size n vx).run P w'=.ok c w')∧c.size=n*size ∧
    ∀ (i:Nat) (e:AV),i<n→ys[i]?=some e→∃ v,Rep E (!yc) e v∧At c (i*size) size v:=by
 have fin:∀ (xs:List AV) (a:Option Addr) (cap:Nat) (o:Bool),
   (xs=[]∨∃ b of esz c T fz,a=some ⟨b,of,none⟩∧w.heap[b]?=some (.cells c T fz)∧(esz=size∨xs.all (okElem agg size)=true) ∧
     ∀ (i:Nat) (e:AV),xs[i]?=some e→∃ v,Rep E o e v∧At c (of+i*esz) esz v) →
   ∀ n,n≤xs.length→∃ c,(∀ w',w'.heap=w.heap→(Builtin.firstCells size n (.slice a xs.length cap)).run P w'=.ok c w')∧c.size=n*size ∧
     ∀ (i:Nat) (e:AV),i<n→xs[i]?=some e→∃ v,Rep E o e v∧At c (i*size) size v:=by
  intro xs a cap o hs n hn
  rcases hs with rfl|⟨b,of,esz,c,T,fz,rfl,hw,hall,hels⟩
  ·have hn0:n=0:=by simpa using hn
   subst hn0
   refine⟨#[],fun w' _=>?_,by simp,fun i e hi=>by omega⟩
   cases a with
   |none=>simp[Builtin.firstCells]
   |some a=>simp[Builtin.firstCells,loadCells,loadCellsFrom]
  ·cases xs with
   |nil=>
    have hn0:n=0:=by simpa using hn
    subst hn0
    refine⟨#[],fun w' _=>by simp[Builtin.firstCells,loadCells,loadCellsFrom],by simp,fun i e hi=>by omega⟩
   |cons x r=>
    obtain⟨v,hv,hat⟩:=hels 0 x rfl
    have hsz:esz=size:=by
     rcases hall with h|h
     ·exact h
     ·obtain⟨h1,h2⟩:=okElem_cells (List.all_eq_true.1 h x (by simp))
      rw[←hat.1,cells_size h2 hv,h1]
    subst hsz
    have hfit:=els_fit hels (by simp) hsize
    have hfit':of+n*esz≤c.size:=by
     have:=Nat.mul_le_mul_right esz hn
     omega
    refine⟨c.extract of (of+n*esz),fun w' hw'=>?_,by simp; omega,fun i e hi he=>?_⟩
    ·simp only[Builtin.firstCells]
     exact load_row (by rw[hw']; exact hw) hfit'
    ·have hels':∀ (i:Nat) (e:AV),((x::r).take n)[i]?=some e→∃ v,Rep E o e v∧At c (of+i*esz) esz v:=fun i e he=>by
      grind
     have hl:((x::r).take n).length=n:=by simp only[List.length_take]; simp only[List.length_cons]at hn ⊢; omega
     have:=(els_extract hels' (by rw[hl]; exact hfit')).2 i e (by rw[List.getElem?_take_of_lt hi]; exact he)
     rw[hl]at this
     exact this
 unfold elemsA at h
 split at h
 ·simp only[RM.run_pure,Option.some.injEq,Prod.mk.injEq]at h
  obtain⟨rfl,rfl⟩:=h
  simp only[Rep]at hx
  subst hx
  exact⟨by simp[Builtin.lenOf],fin [] none 0 _ (.inl rfl)⟩
 ·simp only[RM.run_pure,Option.some.injEq,Prod.mk.injEq]at h
  obtain⟨rfl,rfl⟩:=h
  simp only[Rep]at hx
  obtain⟨a,rfl⟩:=hx
  exact⟨by simp[Builtin.lenOf],fin [] a 0 _ (.inl rfl)⟩
 ·rename_i xs
  simp only[RM.run_pure,Option.some.injEq,Prod.mk.injEq]at h
  obtain⟨rfl,rfl⟩:=h
  simp only[Rep]at hx
  obtain⟨a,cap,rfl,_,_,hs⟩:=hx
  refine⟨by simp[Builtin.lenOf],fin xs a cap false (hs.imp id ?_)⟩
  rintro⟨b,of,esz,c,rfl,hm,hs⟩
  obtain⟨T,fz,hw⟩:=hI.mem b c hm
  exact⟨b,of,esz,c,T,fz,rfl,hw,.inr (hall.resolve_right (by rintro⟨_,_,_,_,_,h⟩; simp at h)),fun i e he=>hs.get he⟩
 ·rename_i xs cp
  simp only[RM.run_pure,Option.some.injEq,Prod.mk.injEq]at h
  obtain⟨rfl,rfl⟩:=h
  simp only[Rep]at hx
  obtain⟨a,rfl,_,hs⟩:=hx
  refine⟨by simp[Builtin.lenOf],fin xs (some a) cp false (hs.imp id ?_)⟩
  rintro⟨b,of,esz,c,rfl,hm,hs⟩
  obtain⟨T,fz,hw⟩:=hI.mem b c hm
  exact⟨b,of,esz,c,T,fz,rfl,hw,.inr (hall.resolve_right (by rintro⟨_,_,_,_,_,h⟩; simp at h)),fun i e he=>hs.get he⟩
 ·rename_i esz n ver off len cap
  rw[RM.run_bind]at h
  cases hq:(RM.arr n ver).run hp with
  |none=>rw[hq]at h; simp at h
  |some q=>
   obtain⟨g,cl,fz,es⟩:=q
   obtain⟨hn,hv⟩:=RM.run_arr hq
   rw[hq]at h
   simp only[Option.bind_some]at h
   subst hv
   simp only at hn hx h
   split at h
   case isFalse=>simp[RM.run_fail]at h
   rename_i hle
   simp only[RM.run_pure,Option.some.injEq,Prod.mk.injEq]at h
   obtain⟨rfl,rfl⟩:=h
   have hlen:((es.drop off).take len).length=len:=by simp; omega
   simp only[Rep]at hx
   obtain⟨_,_,l,hl,hez,hvt,hm⟩:=hx
   cases hb:l.blk with
   |none=>
    rw[hb]at hm
    obtain⟨rfl,_,_,rfl,_⟩:=hm
    simp only[List.take_zero]
    exact⟨by simp[Builtin.lenOf],fin [] none 0 _ (.inl rfl)⟩
   |some b=>
    rw[hb]at hm
    simp only at hm
    obtain⟨a,ccap,rfl,hk,hno,hlc,hoc,hpos,haddr⟩:=hm
    refine⟨by simp[Builtin.lenOf,hlen],?_⟩
    have:=fin ((es.drop off).take len) (some a) ccap (!cl) ?_
    ·rw[hlen]at this ⊢; exact this
    ·by_cases h0:len=0
     ·left; subst h0; simp
     ·right
      have ha:=haddr (by omega)
      subst ha
      obtain⟨l',hl',_,hm'⟩:=hI.objs n _ hn
      rw[hl]at hl'; cases hl'
      rw[hb]at hm'
      obtain⟨c,T,hw,_,_,hcs,htot,_,hels⟩:=hm'
      refine⟨b,off*l.esz,l.esz,c,T,(0,0),rfl,hw,hall.symm.imp (by rintro⟨_,_,_,_,_,h⟩; simp only[AV.osl.injEq]at h; rw[hez]; exact h.1) id,fun i e he=>?_⟩
      ·have hi:=getElem?_lt he
       simp only[List.length_take,List.length_drop]at hi
       rw[List.getElem?_take_of_lt (by omega),List.getElem?_drop]at he
       obtain⟨v,hv,hat⟩:=hels (off+i) e he
       exact⟨v,hv,by rw[←Nat.add_mul]; exact hat⟩
 ·simp[RM.run_fail]at h
end Go.PI
end
section
/- PI, part M: append. -/
namespace Go.PI
open Builtin in
def appTail(elem:TypeId)(size n sLen sCap:Nat)(zeros:Bool)(base:Option Addr)(s x:Value)(appended:Sem (Array Value)):Sem Value:=do
 let need:=sLen+n
 if need≤sCap then
  let new ←appended
  if let some a:=base then storeCells (a.add (sLen*size)) new.toList
  pure (.slice base need sCap)
 else
  if (need : Int) > IntKind.i64.max ∧ (zeros ∨ (← typeInfo elem).bytes = 0) then runtimePanic (.error "growslice: len out of range")
  if nextslicecap need sCap * (← typeInfo elem).bytes > 2 ^ 48 then (if zeros then runtimePanic (.error "growslice: len out of range") else do
   if !(←mayShare size sLen n base x) then mark .noRoom
   unsupported (.resourceLimit "append: a slice or a string whose bytes no memory bears"))
  let newCap ←choose (.appendCap need sCap elem)
  askRoom (newCap*(←typeInfo elem).bytes)
  let old ←firstCells size sLen s
  let new ←appended
  let rest:=zeroCells (←zeroValue elem).cells (newCap-need)
  pure (.slice (some (←newRow elem (old++new++rest))) need newCap)
theorem growBy_le(newLen:Nat):∀ (k c:Nat),c≤2*newLen+192→c<newLen∨Builtin.growBy newLen k c=c→Builtin.growBy newLen k c≤2*newLen+192
 |0,c,h,_=>by simpa[Builtin.growBy] using h
 |k+1,c,h,h'=>by
  simp only[Builtin.growBy]at h' ⊢
  split
  ·exact h
  ·rename_i hc
   have hlt:c<newLen:=by omega
   have h2:c+(c+768)/4≤2*newLen+192:=by omega
   by_cases h3:c+(c+768)/4<newLen
   ·exact growBy_le newLen k _ h2 (.inl h3)
   ·have:Builtin.growBy newLen k (c+(c+768)/4)=c+(c+768)/4:=by
     cases k with
     |zero=>rfl
     |succ k=>simp_all[Builtin.growBy]
    rw[this]; exact h2
theorem nextcap_le[Glob]{need cap:Nat}(h:cap<need):Builtin.nextslicecap need cap≤2*need∨(256≤need∧Builtin.nextslicecap need cap≤2*need+192):=by
 unfold Builtin.nextslicecap
 split
 ·left; omega
 ·split
  ·left; omega
  ·right
   exact⟨by omega,growBy_le need 4 cap (by omega) (.inl h)⟩
theorem nextcap_bytes[Glob]{need cap bytes:Nat}(h:cap<need)(hb:need*bytes≤2^44):¬(Builtin.nextslicecap need cap*bytes>2^48):=by
 rcases nextcap_le h with h1|⟨h1,h2⟩
 ·have:=Nat.mul_le_mul_right bytes h1
  rw[Nat.mul_assoc]at this
  omega
 ·have h3:=Nat.mul_le_mul_right bytes h2
  rw[Nat.add_mul,Nat.mul_assoc]at h3
  have h4:=Nat.mul_le_mul_right bytes h1
  omega
theorem tail_room{P:Program}{w:World}{elem:TypeId}{size n sLen sCap:Nat}{zeros:Bool}{a:Addr}{s x:Value}{appended:Sem (Array Value)}{arr:Array Value}
  (ha:appended.run P w=.ok arr w) (hroom:sLen+n≤sCap) {w':World} (hst:(storeCells (a.add (sLen*size)) arr.toList).run P w=.ok () w') :
  (appTail elem size n sLen sCap zeros (some a) s x appended).run P w=.ok (.slice (some a) (sLen+n) sCap) w':=by
 unfold appTail
 simp only
 rw[Sem.run_ite,if_pos hroom]
 simp only[Sem.run_bind,ha,Result.andThen_ok,hst,Sem.run_pure]
theorem tail_new[Glob]{P:Program}{w:World}{elem:TypeId}{r:TyRow}(hr:tyOf P elem=some r){z:Value}(hz:r.zero=some z)(hzs:z.cells.size=r.size)
  {n sLen sCap:Nat} {zeros:Bool} {base:Option Addr} {s x:Value} {appended:Sem (Array Value)} {arr old:Array Value}
  (ha:∀ w',w'.heap=w.heap→appended.run P w'=.ok arr w') (ho:∀ w',w'.heap=w.heap→(Builtin.firstCells r.size sLen s).run P w'=.ok old w')
  (hroom:sCap<sLen+n) (hb:(sLen+n)*r.bytes≤2^44) (hn:sLen+n≤2^44) :
  ∃ newCap rest,sLen+n≤newCap∧rest.size=(newCap-(sLen+n))*r.size ∧
    (appTail elem r.size n sLen sCap zeros base s x appended).run P w =
      .ok (.slice (some ⟨w.heap.size,0,none⟩) (sLen+n) newCap) (World.alloc { w with drawn:=w.drawn+1 } (.cells (old++arr++rest) elem)):=by
 obtain⟨_,i,hi,hi1,hi2,hi3,_⟩:=tyOf_some hr
 have hti:∀ w:World,(typeInfo elem).run P w=.ok i w:=fun w=>by simp[typeInfo,hi]
 have hzr:=fun w=>run_zero hr hz w
 let w1:World:={ w with drawn:=w.drawn+1 }
 let newCap:=(Question.appendCap (sLen+n) sCap elem).cut (w.tape w.drawn (.appendCap (sLen+n) sCap elem))
 refine⟨newCap,Builtin.zeroCells z.cells (newCap-(sLen+n)),?_,?_,?_⟩
 ·show _≤_+_
  omega
 ·simp[Builtin.zeroCells,hzs]
 ·unfold appTail
  simp only
  rw[Sem.run_ite,if_neg (by omega)]
  have hmax:¬(((sLen+n:Nat):Int)>IntKind.i64.max∧(zeros=true∨i.bytes=0)):=by
   intro h
   have h1:((sLen+n:Nat):Int)>IntKind.i64.max:=h.1
   have h2:IntKind.i64.max=9223372036854775807:=by decide
   rw[h2]at h1
   omega
  have hbytes:¬(Builtin.nextslicecap (sLen+n) sCap*i.bytes>2^48):=by rw[hi2]; exact nextcap_bytes hroom hb
  have hch:(choose (.appendCap (sLen+n) sCap elem)).run P w=.ok newCap w1:=by
   rw[run_choose]; rfl
  simp only[Sem.run_bind,hti,Result.andThen_ok]
  rw[Sem.run_ite,if_neg hmax]
  simp only[Result.andThen_ok,Sem.run_bind,hti]
  rw[Sem.run_ite,if_neg hbytes]
  simp only[Sem.run_pure,Result.andThen_ok,Sem.run_bind,hch,hti,run_askRoom,ho w1 rfl,ha w1 rfl,hzr,newRow,run_newObj]
  rfl
end Go.PI
end
section
/- PI, part N: append, put together. -/
namespace Go.PI
theorem at_left{c1 c2:Array Value}{pos esz:Nat}{v:Value}(h:At c1 pos esz v)(hf:pos+esz≤c1.size):At (c1++c2) pos esz v:=by
 obtain⟨h1,h2,h3⟩:=h
 refine⟨h1,fun q hq=>?_,h3⟩
 rw[Array.getElem?_append_left (by omega)]
 exact h2 q hq
theorem at_right{c1 c2:Array Value}{pos esz:Nat}{v:Value}(h:At c2 pos esz v):At (c1++c2) (c1.size+pos) esz v:=by
 obtain⟨h1,h2,h3⟩:=h
 refine⟨h1,fun q hq=>?_,h3⟩
 rw[Array.getElem?_append_right (by omega),←h2 q hq]
 congr 1; omega
theorem els_app[Glob]{E:Env}{o:Bool}{xs ys:List AV}{c1 c2 rest:Array Value}{esz:Nat}(h1:c1.size=xs.length*esz)
  (hx:∀ (i:Nat) (e:AV),xs[i]?=some e→∃ v,Rep E o e v∧At c1 (i*esz) esz v) (h2:c2.size=ys.length*esz)
  (hy:∀ (i:Nat) (e:AV),ys[i]?=some e→∃ v,Rep E o e v∧At c2 (i*esz) esz v) :
  ∀ (i:Nat) (e:AV),(xs++ys)[i]?=some e→∃ v,Rep E o e v∧At (c1++c2++rest) (i*esz) esz v:=by
 intro i e he
 by_cases hi:i<xs.length
 ·rw[List.getElem?_append_left hi]at he
  obtain⟨v,hv,ha⟩:=hx i e he
  have hf:i*esz+esz≤c1.size:=by
   rw[h1]
   have:=Nat.mul_le_mul_right esz hi
   rw[Nat.succ_mul]at this; exact this
  exact⟨v,hv,at_left (at_left ha hf) (by simp; omega)⟩
 ·rw[List.getElem?_append_right (by omega)]at he
  obtain⟨v,hv,ha⟩:=hy (i-xs.length) e he
  have hlt:=getElem?_lt he
  have hf:(i-xs.length)*esz+esz≤c2.size:=by
   rw[h2]
   have:=Nat.mul_le_mul_right esz hlt
   rw[Nat.succ_mul]at this; exact this
  have e1:i*esz=c1.size+(i-xs.length)*esz:=by
   rw[h1,←Nat.add_mul]; congr 1; omega
  rw[e1]
  exact⟨v,hv,at_left (at_right ha) (by simp; omega)⟩
def Env.bump(E:Env)(n ver:Nat)(l:Loc):Env where
 ρ:=fun n' ver'=>if n'=n∧ver'=ver then some l else E.ρ n' ver'
 m:=E.m
 L:=E.L
 own:=fun b=>E.own b∨l.blk=some b
theorem inv_grow[Glob]{E:Env}{hp:AHeap}{w w':World}(hI:Inv E hp w){n:Nat}{cl cl':Bool}{es es':List AV}(hn:hp[n]?=some (some (.arr true cl false es)))
  (hgrow:es.length<es'.length) {b esz tot:Nat} {c:Array Value} {T:TypeId} (hw:w'.heap[b]?=some (.cells c T (0,0))) (hez:0<esz) (hcs:c.size=tot*esz)
  (htot:es'.length≤tot) (hnew:∀ (i:Nat) (e:AV),es'[i]?=some e→∃ v,Rep E (!cl') e v∧At c (i*esz) esz v)
  (hsame:∀ b',b'≠b→b'<w.heap.size→w'.heap[b']?=w.heap[b']?) (hsize:w.heap.size≤w'.heap.size)
  (hb:(E.own b∧E.m b=none∧∀ n2,BlkOf E hp n2 b→n2=n)∨b=w.heap.size)
  (hos:w'.os=w.os) (htape:w'.tape=w.tape) (hout:w'.output=w.output) :
  let E':=E.bump n es'.length ⟨some b,esz,tot⟩
  Ext E E'∧Inv E' (hp.set n (some (.arr true cl' false es'))) w'∧Fr E w E' w' ∧
   Rep E' true (.osl esz n es'.length 0 es'.length none) (.slice (some ⟨b,0,none⟩) es'.length tot):=by
 intro E'
 obtain⟨l0,hl0,hver,hm0⟩:=hI.objs n _ hn
 have hnL:n<E.L:=by rw[←hI.len]; exact getElem?_lt hn
 have hundef:∀ l,E.ρ n es'.length≠some l:=fun l h=>by have:=hver _ _ h; omega
 have hx:Ext E E':=by
  refine⟨fun _ _ h=>h,fun n' _ ver l h=>?_,Nat.le_refl _⟩
  simp only[E',Env.bump]
  split
  ·simp_all
  ·exact h
 have hrho:∀ n',n'≠n→∀ ver,E'.ρ n' ver=E.ρ n' ver:=fun n' hne ver=>by simp[E',Env.bump,hne]
 have hself:E'.ρ n es'.length=some ⟨some b,esz,tot⟩:=by simp[E',Env.bump]
 have hlt:∀ n' b',BlkOf E hp n' b'→b'<w.heap.size:=by
  intro n' b' h
  have h':=h
  obtain⟨o,l,ho,_,_⟩:=h
  obtain⟨ob,hob⟩:=(hI.objs n' o ho).blk_lt ho h'
  exact(Array.getElem?_eq_some_iff.1 hob).1
 have hne_b:∀ n' b',n'≠n→BlkOf E hp n' b'→b'≠b:=by
  grind
 have hget:∀ n' o,n'≠n→(hp.set n (some (.arr true cl' false es')))[n']?=some (some o)→hp[n']?=some (some o):=by
  grind
 have hblk:∀ n' b',BlkOf E' (hp.set n (some (.arr true cl' false es'))) n' b'→(n'=n∧b'=b)∨(n'≠n∧BlkOf E hp n' b'):=by
  rintro n' b' ⟨o,l,ho,hl,hb'⟩
  by_cases e:n'=n
  ·grind
  ·refine .inr ⟨e,o,l,hget n' o e ho,?_,hb'⟩
   cases o with
   |arr=>simpa only[hrho n' e] using hl
   |oth=>simpa only[hrho n' e] using hl
 have hmb:E.m b=none:=by
  rcases hb with ⟨_,h,_⟩|h
  ·exact h
  ·cases h1:E.m b with
   |none=>rfl
   |some c1=>obtain⟨T1,fz,h2⟩:=hI.mem _ _ h1; subst h; simp at h2
 refine⟨hx,⟨(by rw[List.length_set]; exact hI.len),?_,?_,?_,?_,?_,hI.glob.mono hx.m⟩,⟨hos,htape,hout,hsize,?_,?_,fun _ _ h=>.inl h⟩,?_⟩
 ·intro n' o ho
  by_cases e:n'=n
  ·subst e
   rw[getElem?_set_eq hn]at ho
   cases ho
   refine⟨⟨some b,esz,tot⟩,hself,?_,c,T,hw,?_,hez,hcs,htot,by simp,?_⟩
   ·intro ver l' h
    simp only[E',Env.bump]at h
    split at h
    ·rename_i hc; omega
    ·have:=hver ver l' h; omega
   ·simp only[Bool.false_eq_true,if_false]
    exact⟨hmb,.inr rfl⟩
   ·intro i e he
    obtain⟨v,hv,ha⟩:=hnew i e he
    exact⟨v,hv.mono hx,ha⟩
  ·have ho':=hget n' o e ho
   have h:=(hI.objs n' o ho').other (w':=w') ho' fun b' hb'=>hsame b' (hne_b n' b' e hb') (hlt _ _ hb')
   cases o with
   |arr g1 cl1 fz1 es1=>
    obtain⟨l,hl,hv,hm⟩:=h
    refine⟨l,by rw[hrho n' e]; exact hl,fun ver l' h=>hv ver l' (by rw[hrho n' e]at h; exact h),?_⟩
    cases hb1:l.blk with
    |none=>rw[hb1]at hm; exact hm
    |some b1=>
     rw[hb1]at hm
     obtain⟨c1,T1,hw1,h1,h2,h3,h4,h5,h6⟩:=hm
     refine⟨c1,T1,hw1,?_,h2,h3,h4,h5,fun i x hx'=>?_⟩
     ·cases fz1 with
      |true=>simp only[if_true]at h1 ⊢; exact h1
      |false=>simp only[Bool.false_eq_true,if_false]at h1 ⊢; exact⟨h1.1,.inl h1.2⟩
     ·obtain⟨v,hv',ha⟩:=h6 i x hx'
      exact⟨v,hv'.mono hx,ha⟩
   |oth k vs=>
    obtain⟨l,b1,es1,clock,h1,h2,h3,h4,h5,h6,h7,h8⟩:=h
    exact⟨l,b1,es1,clock,by rw[hrho n' e]; exact h1,h2,h3,h4,.inl h5,fun ver l' h=>h6 ver l' (by rw[hrho n' e]at h; exact h),h7,h8.mono hx⟩
 ·intro n' ver h0
  by_cases e:n'=n
  ·subst e; rw[getElem?_set_eq hn]at h0; simp at h0
  ·rw[getElem?_set_ne (fun e'=>e e'.symm)]at h0
   rw[hrho n' e]
   exact hI.free n' ver h0
 ·intro n1 n2 b' h1 h2
  rcases hblk _ _ h1 with ⟨e1,b1⟩|⟨e1,b1⟩<;>rcases hblk _ _ h2 with ⟨e2,b2⟩|⟨e2,b2⟩
  ·rw[e1,e2]
  ·exact absurd b1 (hne_b _ _ e2 b2)
  ·exact absurd b2 (hne_b _ _ e1 b1)
  ·exact hI.inj n1 n2 b' b1 b2
 ·intro b' c1 h1
  obtain⟨T1,fz1,h2⟩:=hI.mem b' c1 h1
  have hne:b'≠b:=by intro e; subst e; have:E.m b'=some c1:=h1; rw[hmb]at this; simp at this
  exact⟨T1,fz1,by rw[hsame b' hne (Array.getElem?_eq_some_iff.1 h2).1]; exact h2⟩
 ·intro b' h
  rcases h with h|h
  ·exact Nat.lt_of_lt_of_le (hI.ownb b' h) hsize
  ·simp only[Option.some.injEq]at h
   subst h
   exact(Array.getElem?_eq_some_iff.1 hw).1
 ·intro b' hb' ho
  by_cases e:b'=b
  ·subst e
   rcases hb with ⟨h,_⟩|h
   ·exact absurd h ho
   ·omega
  ·exact hsame b' e hb'
 ·intro b' h
  rcases h with h|h
  ·exact .inl h
  ·simp only[Option.some.injEq]at h
   subst h
   rcases hb with ⟨h,_⟩|h
   ·exact .inl h
   ·exact .inr (by omega)
 ·simp only[Rep]
  exact⟨trivial,hnL,⟨some b,esz,tot⟩,hself,rfl,htot,_,tot,rfl,by simp,fun _=>by simp,htot,by simp,hez,fun _=>by simp⟩
end Go.PI
end
section
/- PI, part Na: objects that are no cells: maps, and the records of ranges over functions. -/
namespace Go.PI
theorem run_setObj'{P:Program}{w:World}{b:Nat}{x ob:Obj}(h:w.heap[b]?=some x)(hc:∀ c T fz,x≠.cells c T fz):(Go.setObj b ob).run P w=.ok () (w.putObj b ob):=by
 simp_all[Go.setObj,Sem.run,h,World.putObj]
theorem putObj_same{w:World}{b:Nat}{x ob:Obj}(h:w.heap[b]?=some x):(w.putObj b ob).heap[b]?=some ob:=
 World.putObj_heap_same (Array.getElem?_eq_some_iff.1 h).1
theorem oth_new[Glob]{E:Env}{hp:AHeap}{w:World}(hI:Inv E hp w){n:Nat}(hn:n=hp.length∨hp[n]?=some none){k:OKind}{vs:List AV}{us:List Value}{ob:Obj}
  (hk:k.is ob us) (hv:RepT E true vs us) :
  let E':=E.push n 0 ⟨some w.heap.size,1,0⟩
  Ext E E'∧Inv E' (setObj hp n (.oth k vs)) (w.alloc ob)∧Fr E w E' (w.alloc ob):=by
 intro E'
 have hx:Ext E E':=Ext.push hI hn _ _
 have hold:∀ b,b<w.heap.size→(w.alloc ob).heap[b]?=w.heap[b]?:=fun b hb=>by
  simp only[World.alloc,Array.getElem?_push,if_neg (by omega:¬b=w.heap.size)]
 have hnewb:(w.alloc ob).heap[w.heap.size]?=some ob:=World.alloc_heap_new w ob
 have hmnew:E.m w.heap.size=none:=by
  cases h:E.m w.heap.size with
  |none=>rfl
  |some c1=>obtain⟨T1,fz,h1⟩:=hI.mem _ _ h; simp at h1
 have hother:∀ n' o,n'≠n→(setObj hp n (.oth k vs))[n']?=some (some o)→hp[n']?=some (some o):=by
  intro n' o hne h
  rw[setObj_get hn n',if_neg hne]at h
  exact h
 have hrho:∀ n',n'≠n→∀ ver,E'.ρ n' ver=E.ρ n' ver:=fun n' hne ver=>by simp[E',Env.push,hne]
 have hself:∀ ver,E'.ρ n ver=if ver=0 then some ⟨some w.heap.size,1,0⟩ else none:=fun ver=>by simp[E',Env.push]
 have hblk:∀ n' b,BlkOf E' (setObj hp n (.oth k vs)) n' b→(n'=n∧b=w.heap.size)∨(n'≠n∧BlkOf E hp n' b):=by
  rintro n' b ⟨o,l,ho,hl,hb⟩
  by_cases e:n'=n
  ·grind
  ·refine .inr ⟨e,o,l,hother n' o e ho,?_,hb⟩
   cases o with
   |arr=>simpa only[hrho n' e] using hl
   |oth=>simpa only[hrho n' e] using hl
 have hlt:∀ n' b,BlkOf E hp n' b→b<w.heap.size:=by
  intro n' b h
  have h':=h
  obtain⟨o,l,ho,_,_⟩:=h
  obtain⟨ob,hob⟩:=(hI.objs n' o ho).blk_lt ho h'
  exact(Array.getElem?_eq_some_iff.1 hob).1
 refine⟨hx,⟨?_,?_,?_,?_,?_,?_,hI.glob.mono hx.m⟩,⟨rfl,rfl,rfl,(by show _≤(w.heap.push _).size; simp),fun b hb _=>hold b hb,?_,fun _ _ h=>.inl h⟩⟩
 ·rw[setObj_len hn,hI.len]; rfl
 ·intro n' o ho
  by_cases e:n'=n
  ·subst e
   rw[setObj_get hn n',if_pos rfl]at ho
   cases ho
   refine⟨⟨some w.heap.size,1,0⟩,w.heap.size,ob,us,by simp[hself],rfl,hnewb,hmnew,.inr rfl,?_,hk,hv.mono hx⟩
   intro ver l' h
   rw[hself]at h
   split at h
   ·assumption
   ·simp at h
  ·have ho':=hother n' o e ho
   have h:=hI.objs n' o ho'
   cases o with
   |arr g1 cl1 fz1 es1=>
    obtain⟨l,hl,hv,hm⟩:=h
    refine⟨l,by rw[hrho n' e]; exact hl,fun ver l' h=>hv ver l' (by rw[hrho n' e]at h; exact h),?_⟩
    cases hb:l.blk with
    |none=>rw[hb]at hm; exact hm
    |some b=>
     rw[hb]at hm
     obtain⟨c1,T1,hw1,h1,h2,h3,h4,h5,h6⟩:=hm
     refine⟨c1,T1,?_,?_,h2,h3,h4,h5,fun i x hx'=>?_⟩
     ·rw[hold b (Array.getElem?_eq_some_iff.1 hw1).1]; exact hw1
     ·cases fz1 with
      |true=>simp only[if_true]at h1 ⊢; exact h1
      |false=>simp only[Bool.false_eq_true,if_false]at h1 ⊢; exact⟨h1.1,.inl h1.2⟩
     ·obtain⟨v,hv',ha⟩:=h6 i x hx'
      exact⟨v,hv'.mono hx,ha⟩
   |oth k1 ents=>
    obtain⟨l,b,ob1,us1,h1,h2,h3,h4,h5,h6,h7,h8⟩:=h
    exact⟨l,b,ob1,us1,by rw[hrho n' e]; exact h1,h2,by rw[hold b (Array.getElem?_eq_some_iff.1 h3).1]; exact h3,h4,.inl h5,
     fun ver l' h=>h6 ver l' (by rw[hrho n' e]at h; exact h),h7,h8.mono hx⟩
 ·intro n' ver h0
  by_cases e:n'=n
  ·subst e; rw[setObj_get hn n',if_pos rfl]at h0; simp at h0
  ·rw[setObj_get hn n',if_neg e]at h0
   rw[hrho n' e]
   exact hI.free n' ver h0
 ·intro n1 n2 b h1 h2
  rcases hblk _ _ h1 with ⟨e1,b1⟩|⟨e1,b1⟩<;>rcases hblk _ _ h2 with ⟨e2,b2⟩|⟨e2,b2⟩
  ·rw[e1,e2]
  ·have:=hlt _ _ b2; omega
  ·have:=hlt _ _ b1; omega
  ·exact hI.inj n1 n2 b b1 b2
 ·intro b c1 h1
  obtain⟨T1,fz1,h2⟩:=hI.mem b c1 h1
  exact⟨T1,fz1,by rw[hold b (Array.getElem?_eq_some_iff.1 h2).1]; exact h2⟩
 ·intro b h
  rcases h with h|h
  ·have:=hI.ownb b h
   show b<(w.heap.push _).size
   simp; omega
  ·simp only[Option.some.injEq]at h
   show b<(w.heap.push _).size
   simp; omega
 ·intro b h
  rcases h with h|h
  ·exact .inl h
  ·simp only[Option.some.injEq]at h
   exact .inr (by omega)
theorem oth_set[Glob]{E:Env}{hp:AHeap}{w:World}(hI:Inv E hp w){n:Nat}{k k':OKind}{vs vs':List AV}{us':List Value}{ob:Obj}(hn:hp[n]?=some (some (.oth k vs)))
  {l:Loc} {b:Nat} (hl:E.ρ n 0=some l) (hb:l.blk=some b) (hk:k'.is ob us') (hv:RepT E true vs' us') :
  Inv E (hp.set n (some (.oth k' vs'))) (w.putObj b ob)∧Fr E w E (w.putObj b ob):=by
 obtain⟨l0,b0,ob0,us0,h1,h2,h3,h4,h5,h6,h7,h8⟩:=hI.objs n _ hn
 rw[hl]at h1; cases h1
 rw[hb]at h2; cases h2
 have hbn:BlkOf E hp n b:=⟨_,l,hn,hl,hb⟩
 have hblk:∀ n' b',BlkOf E (hp.set n (some (.oth k' vs'))) n' b'→BlkOf E hp n' b':=by
  rintro n' b' ⟨o,l',ho,hl',hb'⟩
  by_cases h:n=n'
  ·grind
  ·rw[getElem?_set_ne h]at ho
   exact⟨o,l',ho,hl',hb'⟩
 refine⟨⟨by simpa using hI.len,?_,?_,?_,?_,?_,hI.glob⟩,⟨rfl,rfl,rfl,by simp,?_,fun _ h=>.inl h,fun _ _ h=>.inl h⟩⟩
 ·intro n' o ho
  by_cases h:n=n'
  ·subst h
   rw[getElem?_set_eq hn]at ho
   cases ho
   exact⟨l,b,ob,us',hl,hb,putObj_same h3,h4,h5,h6,hk,hv⟩
  ·rw[getElem?_set_ne h]at ho
   refine(hI.objs n' o ho).other ho fun b' hb'=>World.putObj_heap_other ?_
   intro e
   subst e
   exact h (hI.inj n n' b' hbn hb')
 ·intro n' ver h0
  by_cases h:n=n'
  ·subst h; rw[getElem?_set_eq hn]at h0; simp at h0
  ·rw[getElem?_set_ne h]at h0
   exact hI.free n' ver h0
 ·exact fun n1 n2 b' h1 h2=>hI.inj n1 n2 b' (hblk _ _ h1) (hblk _ _ h2)
 ·intro b' c1 h1
  have:b'≠b:=by
   grind
  rw[World.putObj_heap_other this]
  exact hI.mem b' c1 h1
 ·intro b' h1
  simpa using hI.ownb b' h1
 ·intro b' _ h1
  refine World.putObj_heap_other ?_
  intro e; subst e
  exact h1 h5
end Go.PI
end
section
/- PI, part O: append and copy are what the model's are. -/
namespace Go.PI
theorem src_ok[Glob]{P:Program}{E:Env}{hp:AHeap}{w:World}(hI:Inv E hp w){t xt type:TypeId}{x:AV}{vs vx:Value}(hx:Rep E true x vx){el:TypeId}{r:TyRow}
  (hu:P.underlying t=some (.slice el)) (hr:tyOf P el=some r) (hpos:0<r.size) {z:Value} (hz:r.zero=some z) (hzs:z.cells.size=r.size)
  (hzl:z.cells.toList.all (fun v=>isLeaf (.lit v))=true) {ys:List AV} {yc:Bool} (h:(srcA P r xt x).run hp=some (ys,yc)) (hall:ys.all (okElem r.isAgg r.size)=true)
  {base:Option Addr} {sLen sCap:Nat} (hvs:vs=.slice base sLen sCap) :
  ∃ zeros appended arr,(∀ w',w'.heap=w.heap→(appended:Sem (Array Value)).run P w'=.ok arr w')∧arr.size=ys.length*r.size ∧
    (∀ (i:Nat) (e:AV),ys[i]?=some e→∃ v,Rep E (!yc) e v∧At arr (i*r.size) r.size v) ∧
    (Builtin.append_ #[t,xt] type #[vs,vx]).run P w=(appTail el r.size ys.length sLen sCap zeros base vs vx appended).run P w:=by
 subst hvs
 have hsz:=run_sizeOf' hr w
 unfold srcA at h
 split at h
 ·rename_i hxt
  obtain⟨e2,hu2⟩:=sliceTy hxt
  obtain⟨h1,h2⟩:=elems_ok (P:=P) hI hx h hpos (.inl hall)
  obtain⟨c,h3,h4,h5⟩:=h2 ys.length (Nat.le_refl _)
  refine⟨false,Builtin.firstCells r.size ys.length vx,c,h3,h4,fun i e he=>h5 i e (getElem?_lt he) he,?_⟩
  have hmatch:((TypeDesc.slice e2) matches .int _)=false:=rfl
  simp only[Builtin.append_,List.getElem?_toArray,List.getElem?_cons_zero,List.getElem?_cons_succ,Sem.run_bind,run_underlying hu w,Result.andThen_ok,hsz,run_underlying hu2 w,
   Sem.run_pure,Bool.false_eq_true,if_false,h1,Bool.not_false,if_true,appTail]
  rfl
 ·rename_i hxt
  split at h
  case h_2=>simp[RM.run_fail]at h
  rename_i k n z' hu2 hn hz'
  split at h
  case isFalse=>simp[RM.run_fail]at h
  rename_i hc
  simp only[RM.run_pure,Option.some.injEq,Prod.mk.injEq]at h
  obtain⟨rfl,rfl⟩:=h
  obtain⟨kk,rfl⟩:=asNat_val hn hx
  obtain⟨zv,hzv,hzs',rfl,_⟩:=elemZero_ok hz'
  rw[hz]at hzv; cases hzv
  obtain⟨_,i,hi,hi1,hi2,_⟩:=tyOf_some hr
  have hti:∀ w:World,(typeInfo el).run P w=.ok i w:=fun w=>by simp[typeInfo,hi]
  have hels:=zero_els (E:=E) (cl:=true) (n:=n) hzs hzl
  have hw1:IntKind.i64.wrap (n:Int)=n:=wrap_i64 (by omega) (by omega)
  have hb:¬((n:Int)*(i.bytes:Int)>2^48):=by
   grind
  have hne:¬((n:Int)<0):=by omega
  simp only[List.length_replicate]
  refine⟨true,if n*r.size=0 then pure #[] else (do pure (Builtin.zeroCells (←zeroValue el).cells n)),Builtin.zeroCells z.cells n,?_,by simp[Builtin.zeroCells,hzs],?_,?_⟩
  ·intro w' _
   have hzr:=run_zero hr hz w'
   by_cases h0:n*r.size=0
   ·have hn0:n=0:=by
     rcases Nat.mul_eq_zero.1 h0 with h|h
     ·exact h
     ·omega
    subst hn0
    have hr0:Array.range 0=#[]:=rfl
    simp[Builtin.zeroCells,hr0]
   ·simp[h0,hzr]
  ·intro i e he
   obtain⟨v,hv,ha⟩:=hels.2 i e he
   refine⟨v,hv,?_⟩
   have:Builtin.zeroCells z.cells n=(Array.range (n*r.size)).map (z.cells[·%z.cells.size]!):=by simp[Builtin.zeroCells,hzs]
   rw[this]; exact ha
  ·simp only[Builtin.append_,List.getElem?_toArray,List.getElem?_cons_zero,List.getElem?_cons_succ,Sem.run_bind,run_underlying hu w,Result.andThen_ok,hsz,run_underlying hu2 w,
    Sem.run_pure,if_true,asInt,asIntOf,hw1]
   rw[Sem.run_ite,if_neg hne]
   simp only[Result.andThen_ok,Sem.run_bind,hti]
   rw[Sem.run_ite,if_neg hb]
   simp only[Int.toNat_natCast,Bool.not_true,Bool.false_eq_true,if_false,appTail]
   rfl
theorem run_storeRow[Glob]{P:Program}{w:World}{b o:Nat}{c:Array Value}{T:TypeId}(hw:w.heap[b]?=some (.cells c T (0,0))){vs:List Value}
  (hfit:o+vs.length≤c.size) (hl:∀ x∈vs,leafV x=true):(storeCells ⟨b,o,none⟩ vs).run P w=.ok () (w.setRow b (setVals c.toList o vs).toArray):=by
 have h1:=run_storeCells_at P b o T vs 0 c w hw (by simpa using hfit) hl
 have e:(c.toList.take (o+0)++vs++c.toList.drop (o+0+vs.length))=setVals c.toList o vs:=by
  apply List.ext_getElem?
  intro q
  rw[setVals_get _ _ _ _ (by simpa using hfit)]
  simp only[Nat.add_zero,List.append_assoc]
  have e1:min o c.toList.length=o:=by simp at hfit ⊢; omega
  by_cases h1:q<o
  ·grind
  ·grind
 rw[e]at h1
 exact h1
theorem arr_leaf{E:Env}{o:Bool}{ys:List AV}{arr:Array Value}{size:Nat}(hs:arr.size=ys.length*size)(hpos:0<size)
  (hel:∀ (i:Nat) (e:AV),ys[i]?=some e→∃ v,Rep E o e v∧At arr (i*size) size v):∀ x∈arr.toList,leafV x=true:=by
 intro x hx
 obtain⟨k,hk,he⟩:=List.mem_iff_getElem.1 hx
 have hk':k<ys.length*size:=by simpa[hs] using hk
 have hi:k/size<ys.length:=Nat.div_lt_of_lt_mul (by rw[Nat.mul_comm]; exact hk')
 obtain⟨v,_,h1,h2,h3⟩:=hel (k/size) ys[k/size] (by simp[hi])
 have hq:k%size<size:=Nat.mod_lt _ hpos
 have h4:=h2 (k%size) hq
 have e1:k/size*size+k%size=k:=by rw[Nat.mul_comm]; exact Nat.div_add_mod k size
 rw[e1]at h4
 have h5:arr[k]?=some x:=by
  simp_all
 rw[h5]at h4
 refine h3 x (List.mem_of_getElem? (i:=k%size) ?_)
 simpa using h4.symm
theorem putElems_length:∀ (ys es:List AV) (i:Nat),(putElems es i ys).length=es.length
 |[],_,_=>rfl
 |y::ys,es,i=>by simp[putElems,putElems_length ys]
theorem putElems_get[Glob]:∀ (ys es:List AV) (i k:Nat),i+ys.length≤es.length →
  (putElems es i ys)[k]?=if i≤k∧k<i+ys.length then ys[k-i]? else es[k]?
 |[],es,i,k,_=>by
  grind[putElems]
 |y::ys,es,i,k,h=>by
  simp only[putElems,List.length_cons]at h ⊢
  rw[putElems_get ys (es.set i y) (i+1) k (by simp; omega)]
  by_cases h1:k=i
  ·grind
  ·grind
theorem put_els[Glob]{E:Env}{cl yc:Bool}{es ys:List AV}{c arr:Array Value}{size i:Nat}(hel:∀ (k:Nat) (e:AV),es[k]?=some e→∃ v,Rep E (!cl) e v∧At c (k*size) size v)
  (hasz:arr.size=ys.length*size) (hael:∀ (k:Nat) (e:AV),ys[k]?=some e→∃ v,Rep E (!yc) e v∧At arr (k*size) size v)
  (hfit:es.length*size≤c.size) (hi:i+ys.length≤es.length) :
  ∀ (k:Nat) (e:AV),(putElems es i ys)[k]?=some e→∃ v,Rep E (!(cl&&yc)) e v∧At (setVals c.toList (i*size) arr.toList).toArray (k*size) size v:=by
 intro k e he
 have hlen:i*size+arr.toList.length≤c.toList.length:=by
  simp only[Array.length_toList,hasz,←Nat.add_mul]
  exact Nat.le_trans (Nat.mul_le_mul_right _ hi) hfit
 rw[putElems_get _ _ _ _ hi]at he
 split at he
 ·rename_i hk
  obtain⟨v,hv,h1,h2,h3⟩:=hael (k-i) e he
  refine⟨v,Rep.widenTo (cl:=yc) (by simp) hv,h1,fun q hq=>?_,h3⟩
  have hlt:=getElem?_lt he
  have h4:(k-i)*size+size≤ys.length*size:=by
   have:=Nat.mul_le_mul_right size hlt
   rw[Nat.succ_mul]at this; exact this
  have h5:k*size=i*size+(k-i)*size:=by rw[←Nat.add_mul]; congr 1; omega
  simp only[List.getElem?_toArray]
  rw[setVals_get _ _ _ _ hlen,if_pos (by simp only[Array.length_toList,hasz]; omega)]
  rw[←h2 q hq]
  simp only[Array.getElem?_toList]
  congr 1; omega
 ·rename_i hk
  obtain⟨v,hv,hat⟩:=hel k e he
  refine⟨v,Rep.widenTo (cl:=cl) (by simp; intro h _; exact h) hv,at_other hat (by simpa using hlen) ?_⟩
  have hcase:k<i∨i+ys.length≤k:=by
   grind
  rcases hcase with h|h
  ·left
   have:=Nat.mul_le_mul_right size h
   rw[Nat.succ_mul]at this; exact this
  ·right
   simp only[Array.length_toList,hasz,←Nat.add_mul]
   exact Nat.mul_le_mul_right _ h
theorem append_ok[Glob]{P:Program}{E:Env}{hp:AHeap}{w:World}(hI:Inv E hp w){nm:Nat}(hnm:nm=hp.length∨hp[nm]?=some none){t xt type:TypeId}{s x:AV}
  {vs vx:Value} (hs:Rep E true s vs) (hx:Rep E true x vx) {e:Eff} (h:(appendA P nm t xt s x).run hp=some e) :
  ∃ E' w' v,(Builtin.append_ #[t,xt] type #[vs,vx]).run P w=.ok v w'∧Ext E E'∧Inv E' (applyWr hp e.wr) w'∧Fr E w E' w'∧Rep E' true e.val v:=by
 unfold appendA at h
 split at h
 ·simp[RM.run_fail]at h
 rename_i r hr
 rw[RM.run_bind]at h
 cases hq:(srcA P r xt x).run hp with
 |none=>rw[hq]at h; simp at h
 |some q=>
  obtain⟨ys,yc⟩:=q
  rw[hq]at h
  simp only[Option.bind_some]at h
  split at h
  ·simp[RM.run_fail]at h
  rename_i hcond
  simp only[Bool.and_eq_true,decide_eq_true_eq]at hcond
  obtain⟨⟨hzi,hpos⟩,hall⟩:=hcond
  obtain⟨el,hu,hte⟩:=sliceElem_some hr
  obtain⟨z',hz'⟩:=Option.isSome_iff_exists.1 hzi
  obtain⟨z,hz,hzs,_,_,hzl,_⟩:=elemZero_ok hz'
  have hsrc:=fun (base:Option Addr) (sLen sCap:Nat) (hv:vs=.slice base sLen sCap)=>
   src_ok (type:=type) hI hx hu hte hpos hz hzs hzl hq hall hv
  have fresh:∀ (xs:List AV) (xc:Bool) (base:Option Addr) (cap:Nat),vs=.slice base xs.length cap→xs.all (okElem r.isAgg r.size)=true→(elemsA s).run hp=some (xs,xc) →
    cap<xs.length+ys.length→(xs.length+ys.length)*r.bytes≤2^44→xs.length+ys.length≤2^44 →
    ∃ E' w' v,(Builtin.append_ #[t,xt] type #[vs,vx]).run P w=.ok v w'∧Ext E E'∧Inv E' (setObj hp nm (.arr true (xc&&yc) false (xs++ys))) w'∧Fr E w E' w' ∧
      Rep E' true (.osl r.size nm (xs.length+ys.length) 0 (xs.length+ys.length) none) v:=by
   intro xs xc base cap hv hxall hxs hcap hb hn
   obtain⟨zeros,app,arr,ha,hasz,hael,hrun⟩:=hsrc base xs.length cap hv
   obtain⟨_,h2⟩:=elems_ok (P:=P) hI hs hxs hpos (.inl hxall)
   obtain⟨old,ho,hosz,hoel⟩:=h2 xs.length (Nat.le_refl _)
   obtain⟨newCap,rest,hnc,hrs,hrun2⟩:=tail_new (zeros:=zeros) (base:=base) (s:=vs) (x:=vx) hte hz hzs ha ho hcap hb hn
   have hI1:Inv E hp { w with drawn:=w.drawn+1 }:=hI.heap rfl
   obtain⟨E',x1,x2,x3,x4⟩:=new_ok hI1 hnm (g:=true) (cl:=xc&&yc) (es:=xs++ys) (c:=old++arr++rest) (esz:=r.size) (tot:=newCap) el hpos
    (by simp only[Array.size_append,hosz,hasz,hrs,←Nat.add_mul]; congr 1; omega) (by simpa using hnc) (by simp)
    (els_app hosz (fun i e he=>by
      obtain⟨v,hv,hat⟩:=hoel i e (getElem?_lt he) he
      exact⟨v,Rep.widenTo (cl:=xc) (by simp; intro h _; exact h) hv,hat⟩) hasz
      (fun i e he=>by
        obtain⟨v,hv,hat⟩:=hael i e he
        exact⟨v,Rep.widenTo (cl:=yc) (by simp) hv,hat⟩)) (len:=xs.length+ys.length) (cap:=none) hnc (by simp)
   simp only[List.length_append]at x4
   exact⟨E',_,_,by rw[hrun]; exact hrun2,x1,x2,(Fr.drew E w).trans x3,x4⟩
  split at h
  ·-- nothing is added
   rename_i hemp
   have hys:ys=[]:=by simpa using hemp
   subst hys
   have main:∀ (base:Option Addr) (sLen sCap:Nat) (s2:AV),vs=.slice base sLen sCap→sLen≤sCap→e=⟨s2,[]⟩→Rep E true s2 vs →
     ∃ E' w' v,(Builtin.append_ #[t,xt] type #[vs,vx]).run P w=.ok v w'∧Ext E E'∧Inv E' (applyWr hp e.wr) w'∧Fr E w E' w'∧Rep E' true e.val v:=by
    intro base sLen sCap s2 hv hle he hs2
    subst he
    obtain⟨zeros,app,arr,ha,hasz,hael,hrun⟩:=hsrc base sLen sCap hv
    have harr:arr=#[]:=by
     simp_all
    subst harr
    refine⟨E,w,vs,?_,Ext.refl E,hI,Fr.refl E w,hs2⟩
    rw[hrun,hv]
    unfold appTail
    simp only[List.length_nil,Nat.add_zero]
    rw[Sem.run_ite,if_pos hle]
    cases base with
    |none=>simp[ha w rfl]
    |some a=>simp[ha w rfl,storeCells]
   split at h
   ·simp only[RM.run_pure,Option.some.injEq]at h
    have hs':=hs
    simp only[Rep]at hs'
    obtain⟨a,hv,hle,hx⟩:=hs'
    refine main (some a) _ _ _ hv hle h.symm ?_
    simp only[Rep]
    refine⟨some a,_,hv,hle,by simp,hx.imp id ?_⟩
    rintro⟨b,of,esz,c,rfl,hm,hs⟩
    exact⟨b,of,esz,c,rfl,hm,hs⟩
   ·simp only[RM.run_pure,Option.some.injEq]at h
    have hs':=hs
    simp only[Rep]at hs'
    exact main none 0 0 _ hs' (Nat.le_refl _) h.symm hs
   ·simp only[RM.run_pure,Option.some.injEq]at h
    have hs':=hs
    simp only[Rep]at hs'
    obtain⟨a,cap,hv,hle,_⟩:=hs'
    exact main a _ cap _ hv hle h.symm hs
   ·simp only[RM.run_pure,Option.some.injEq]at h
    have hs':=hs
    simp only[Rep]at hs'
    obtain⟨_,_,l,_,_,_,hm⟩:=hs'
    cases hb:l.blk with
    |none=>
     rw[hb]at hm
     exact main none 0 0 _ hm.1 (Nat.le_refl _) h.symm hs
    |some b=>
     rw[hb]at hm
     obtain⟨a,ccap,hv,_,_,hlc,_⟩:=hm
     exact main (some a) _ ccap _ hv hlc h.symm hs
   ·simp only[RM.run_pure,Option.some.injEq]at h
    have hs':=hs
    simp only[Rep]at hs'
    obtain⟨a,hv⟩:=hs'
    exact main a 0 0 _ hv (Nat.le_refl _) h.symm hs
   ·simp[RM.run_fail]at h
  ·rename_i hemp
   have hlen:0<ys.length:=by
    grind
   split at h
   ·-- to nil
    split at h
    case isFalse=>simp[RM.run_fail]at h
    rename_i hc
    simp only[RM.run_pure,Option.some.injEq]at h
    subst h
    have hs':=hs
    simp only[Rep]at hs'
    have:=fresh [] true none 0 hs' (by simp) rfl (by simpa using hlen) (by simpa using hc.1) (by simpa using hc.2)
    simpa[applyWr] using this
   ·-- to one that is empty and has no room
    split at h
    case isFalse=>simp[RM.run_fail]at h
    rename_i hc
    simp only[RM.run_pure,Option.some.injEq]at h
    subst h
    have hs':=hs
    simp only[Rep]at hs'
    obtain⟨a,hv⟩:=hs'
    have:=fresh [] true a 0 hv (by simp) rfl (by simpa using hlen) (by simpa using hc.1) (by simpa using hc.2)
    simpa[applyWr] using this
   ·-- to a slice of known capacity
    rename_i xs cp
    split at h
    case isFalse=>simp[RM.run_fail]at h
    rename_i hc
    obtain⟨h1,h2,h3,h4⟩:=hc
    simp only[RM.run_pure,Option.some.injEq]at h
    subst h
    have hs':=hs
    simp only[Rep]at hs'
    obtain⟨a,hv,_,_⟩:=hs'
    have:=fresh xs true (some a) cp hv h4 rfl h1 h2 h3
    simpa[applyWr] using this
   ·-- to an array of the heap
    rename_i esz n ver off len cap
    rw[RM.run_bind]at h
    cases hq2:(RM.arr n ver).run hp with
    |none=>rw[hq2]at h; simp at h
    |some q2=>
     obtain⟨g,cl,fz,es⟩:=q2
     obtain⟨hn,hver⟩:=RM.run_arr hq2
     rw[hq2]at h
     simp only[Option.bind_some]at h
     subst hver
     simp only at hn h hs hq2
     split at h
     ·simp[RM.run_fail]at h
     rename_i hc1
     have hfz:fz=false:=by cases fz<;>simp_all
     have hle:off+len≤es.length:=by omega
     have hez:esz=r.size:=by
      simp_all
     subst hfz
     have hs':=hs
     simp only[Rep]at hs'
     obtain⟨_,hnL,l,hl,hle2,hvt,hm⟩:=hs'
     obtain⟨l',hl',hverb,hmo⟩:=hI.objs n _ hn
     rw[hl]at hl'; cases hl'
     have helems:(elemsA (.osl esz n es.length off len cap)).run hp=some ((es.drop off).take len,cl):=by
      simp_all[elemsA,RM.run_bind,hq2,RM.run_pure]
     have hxlen:((es.drop off).take len).length=len:=by simp; omega
     split at h
     ·-- in place,over what is there
      rename_i hin
      split at h
      case isFalse=>simp[RM.run_fail]at h
      rename_i hthere
      simp only[RM.run_pure,Option.some.injEq]at h
      subst h
      cases hb:l.blk with
      |none=>
       rw[hb]at hm
       obtain⟨_,h1,h2,h3,h4⟩:=hm
       subst h4
       simp only[Option.getD_none]at hin; omega
      |some b=>
       rw[hb]at hm
       simp only at hm
       obtain⟨a,ccap,hv,hk,hno,hlc,hoc,hpos',haddr⟩:=hm
       have hcc:len+ys.length≤ccap:=by
        cases cap with
        |none=>have:=hno rfl; simp only[Option.getD_none]at hin; omega
        |some k=>have:=hk k rfl; simp only[Option.getD_some]at hin; omega
       have ha0:=haddr (by omega)
       rw[hb]at hmo
       obtain⟨c,T,hw,hown,_,hcs,htot,hgt,hel⟩:=hmo
       simp only[Bool.false_eq_true,if_false]at hown
       obtain⟨zeros,app,arr,ha,hasz,hael,hrun⟩:=hsrc (some a) len ccap hv
       have hlf:=arr_leaf hasz hpos hael
       have hle3:es.length*l.esz≤c.size:=by rw[hcs]; exact Nat.mul_le_mul_right _ htot
       have hsize:l.esz=r.size:=hle2.trans hez
       have hfit:(off+len)*r.size+arr.toList.length≤c.size:=by
        simp only[Array.length_toList,hasz,←Nat.add_mul]
        rw[hsize]at hle3
        exact Nat.le_trans (Nat.mul_le_mul_right _ hthere) hle3
       have hst:(storeCells (a.add (len*r.size)) arr.toList).run P w=.ok () (w.setRow b (setVals c.toList ((off+len)*r.size) arr.toList).toArray):=by
        rw[ha0,add_addr,hsize,←Nat.add_mul]
        exact run_storeRow hw hfit hlf
       have hset:(setObj hp n (.arr g (cl&&yc) false (putElems es (off+len) ys)))=hp.set n (some (.arr g (cl&&yc) false (putElems es (off+len) ys))):=by
        unfold setObj
        rw[if_neg (by have:=getElem?_lt hn; omega)]
       obtain⟨i1,i2⟩:=inv_write hI hn hl hb hw (c':=(setVals c.toList ((off+len)*r.size) arr.toList).toArray) (by simp[setVals_length]) (cl':=cl&&yc)
        (es':=putElems es (off+len) ys) (putElems_length _ _ _) (by rw[hsize]at hel hle3 ⊢; exact put_els hel hasz hael hle3 hthere)
       refine⟨E,_,.slice (some a) (len+ys.length) ccap,by rw[hrun]; exact tail_room (ha w rfl) hcc hst,Ext.refl E,by simp only[applyWr,hset]; exact i1,i2,?_⟩
       simp only[Rep]
       refine⟨trivial,hnL,l,hl,hle2,hvt,?_⟩
       rw[hb]
       exact⟨a,ccap,rfl,hk,hno,hcc,hoc,hpos',haddr⟩
     ·rename_i hout
      split at h
      case isFalse=>simp[RM.run_fail]at h
      rename_i hroom
      split at h
      ·-- it grows
       split at h
       case isFalse=>simp[RM.run_fail]at h
       rename_i hc2
       obtain⟨rfl,rfl,rfl⟩:=hc2
       simp only[RM.run_pure,Option.some.injEq]at h
       subst h
       have hset:(setObj hp n (.arr true (cl&&yc) false (es++ys)))=hp.set n (some (.arr true (cl&&yc) false (es++ys))):=by
        unfold setObj
        rw[if_neg (by have:=getElem?_lt hn; omega)]
       have hlen':(es++ys).length=es.length+ys.length:=by simp
       have halle:∀ (base:Option Addr) (ccap:Nat),vs=.slice base es.length ccap→ccap<es.length+ys.length →
         ∃ E' w' v,(Builtin.append_ #[t,xt] type #[vs,vx]).run P w=.ok v w'∧Ext E E'∧Inv E' (applyWr hp [(n,.arr true (cl&&yc) false (es++ys))]) w'∧Fr E w E' w' ∧
           Rep E' true (.osl esz n (es.length+ys.length) 0 (es.length+ys.length) none) v:=by
        intro base ccap hv hcc
        obtain⟨zeros,app,arr,ha,hasz,hael,hrun⟩:=hsrc base es.length ccap hv
        obtain⟨_,h2⟩:=elems_ok (P:=P) (agg:=r.isAgg) hI hs helems hpos (.inr ⟨_,_,_,_,_,by rw[hez]⟩)
        obtain⟨old,ho,hosz,hoel⟩:=h2 es.length (by simp)
        obtain⟨newCap,rest,hnc,hrs,hrun2⟩:=tail_new (zeros:=zeros) (base:=base) (s:=vs) (x:=vx) hte hz hzs ha ho hcc hroom.1 hroom.2
        have hels:=els_app (E:=E) (o:=!(cl&&yc)) (rest:=rest) hosz (fun i e he=>by
          obtain⟨v,hv,hat⟩:=hoel i e (getElem?_lt he) (by simpa using he)
          exact⟨v,Rep.widenTo (cl:=cl) (by simp; intro h _; exact h) hv,hat⟩) hasz
         (fun i e he=>by
           obtain⟨v,hv,hat⟩:=hael i e he
           exact⟨v,Rep.widenTo (cl:=yc) (by simp) hv,hat⟩)
        obtain⟨x1,x2,x3,x4⟩:=inv_grow (w':=World.alloc { w with drawn:=w.drawn+1 } (.cells (old++arr++rest) el)) hI hn (cl':=cl&&yc) (es':=es++ys) (by simp; omega)
         (b:=w.heap.size) (esz:=r.size) (tot:=newCap) (c:=old++arr++rest) (T:=el) (by show (w.heap.push _)[w.heap.size]?=_; simp) hpos
         (by simp only[Array.size_append,hosz,hasz,hrs,←Nat.add_mul]; congr 1; omega) (by simpa using hnc) hels
         (fun b' hb' hlt=>by show (w.heap.push _)[b']?=_; rw[Array.getElem?_push,if_neg hb']) (by show _≤(w.heap.push _).size; simp) (.inr rfl) rfl rfl rfl
        rw[hlen']at x1 x2 x3 x4
        exact⟨_,_,_,by rw[hrun]; exact hrun2,x1,by simp only[applyWr,hset]; exact x2,x3,by rw[hez]; exact x4⟩
       cases hb:l.blk with
       |none=>
        rw[hb]at hm hmo
        obtain⟨_,hes⟩:=hmo
        obtain⟨hv,_⟩:=hm
        subst hes
        exact halle none 0 hv (by simpa using hlen)
       |some b=>
        rw[hb]at hm
        simp only at hm
        obtain⟨a,ccap,hv,hk,hno,hlc,hoc,hpos',haddr⟩:=hm
        have hct:=hno trivial
        simp only[Nat.sub_zero]at hct
        subst hct
        rw[hb]at hmo
        obtain⟨c,T,hw,hown,_,hcs,htot,hgt,hel⟩:=hmo
        simp only[Bool.false_eq_true,if_false]at hown
        have hsize:l.esz=r.size:=hle2.trans hez
        by_cases hfits:es.length+ys.length≤l.tot
        ·have ha0:=haddr (by omega)
         simp only[Nat.zero_mul]at ha0
         obtain⟨zeros,app,arr,ha,hasz,hael,hrun⟩:=hsrc (some a) es.length l.tot hv
         have hlf:=arr_leaf hasz hpos hael
         have hfit:es.length*r.size+arr.toList.length≤c.size:=by
          simp only[Array.length_toList,hasz,←Nat.add_mul]
          rw[hcs,hsize]
          exact Nat.mul_le_mul_right _ hfits
         have hst:(storeCells (a.add (es.length*r.size)) arr.toList).run P w=.ok () (w.setRow b (setVals c.toList (es.length*r.size) arr.toList).toArray):=by
          rw[ha0,add_addr,Nat.zero_add]
          exact run_storeRow hw hfit hlf
         have hels:∀ (i:Nat) (e:AV),(es++ys)[i]?=some e→∃ v,Rep E (!(cl&&yc)) e v ∧
           At (setVals c.toList (es.length*r.size) arr.toList).toArray (i*r.size) r.size v:=by
          intro i e he
          rw[hsize]at hel
          by_cases hi:i<es.length
          ·rw[List.getElem?_append_left hi]at he
           obtain⟨v,hv',hat⟩:=hel i e he
           refine⟨v,Rep.widenTo (cl:=cl) (by simp; intro h _; exact h) hv',at_other hat hfit (.inl ?_)⟩
           have:=Nat.mul_le_mul_right r.size hi
           rw[Nat.succ_mul]at this; exact this
          ·rw[List.getElem?_append_right (by omega)]at he
           obtain⟨v,hv',h1,h2,h3⟩:=hael (i-es.length) e he
           refine⟨v,Rep.widenTo (cl:=yc) (by simp) hv',h1,fun q hq=>?_,h3⟩
           have hlt:=getElem?_lt he
           have h4:(i-es.length)*r.size+r.size≤ys.length*r.size:=by
            have:=Nat.mul_le_mul_right r.size hlt
            rw[Nat.succ_mul]at this; exact this
           have h5:i*r.size=es.length*r.size+(i-es.length)*r.size:=by rw[←Nat.add_mul]; congr 1; omega
           simp only[List.getElem?_toArray]
           rw[setVals_get _ _ _ _ (by simpa using hfit),if_pos (by simp only[Array.length_toList,hasz]; omega)]
           rw[←h2 q hq]
           simp only[Array.getElem?_toList]
           congr 1; omega
         obtain⟨x1,x2,x3,x4⟩:=inv_grow (w':=w.setRow b (setVals c.toList (es.length*r.size) arr.toList).toArray) hI hn (cl':=cl&&yc) (es':=es++ys) (by simp; omega)
          (b:=b) (esz:=r.size) (tot:=l.tot) (c:=(setVals c.toList (es.length*r.size) arr.toList).toArray) (T:=T) (setRow_heap w b c _ T _ hw) hpos
          (by simp[setVals_length,hcs,hsize]) (by simpa using hfits) hels (fun b' hb' _=>setRow_other w b b' _ hb') (by simp)
          (.inl ⟨hown.2,hown.1,fun n2 h2=>hI.inj n2 n b h2 ⟨_,l,hn,hl,hb⟩⟩) rfl rfl rfl
         rw[hlen']at x1 x2 x3 x4
         refine⟨_,_,.slice (some a) (es.length+ys.length) l.tot,by rw[hrun]; exact tail_room (ha w rfl) hfits hst,x1,by simp only[applyWr,hset]; exact x2,x3,?_⟩
         rw[hez,ha0]; exact x4
        ·exact halle (some a) l.tot hv (by omega)
      ·-- beyond a known capacity
       rename_i k
       split at h
       case isFalse=>simp[RM.run_fail]at h
       rename_i hc2
       have hall2:=hc2
       simp only[RM.run_pure,Option.some.injEq]at h
       subst h
       simp only[Option.getD_some]at hout
       cases hb:l.blk with
       |none=>rw[hb]at hm; simp at hm
       |some b=>
        rw[hb]at hm
        obtain⟨a,ccap,hv,hk,_,_⟩:=hm
        have hcc:=hk k rfl
        subst hcc
        have hxall:((es.drop off).take len).all (okElem r.isAgg r.size)=true:=by
         rw[List.all_eq_true]at hall2 ⊢
         intro x hx
         exact hall2 x (List.mem_of_mem_drop (List.mem_of_mem_take hx))
        have:=fresh ((es.drop off).take len) cl (some a) ccap (by rw[hxlen]; exact hv) hxall helems (by rw[hxlen]; omega) (by rw[hxlen]; exact hroom.1) (by rw[hxlen]; exact hroom.2)
        rw[hxlen]at this
        subst hez
        simpa[applyWr] using this
   ·simp[RM.run_fail]at h
end Go.PI
end
section
/- PI, part P: copy; the other builtins; operators; every operation's effect. -/
namespace Go.PI
theorem copy_ok[Glob]{P:Program}{E:Env}{hp:AHeap}{w:World}(hI:Inv E hp w){t xt type:TypeId}{d x:AV}
  {vd vx:Value} (hd:Rep E true d vd) (hx:Rep E true x vx) {e:Eff} (h:(copyA P t d x).run hp=some e) :
  ∃ w' v,(Builtin.copy_ #[t,xt] type #[vd,vx]).run P w=.ok v w'∧Inv E (applyWr hp e.wr) w'∧Fr E w E w'∧Rep E true e.val v:=by
 unfold copyA at h
 split at h
 ·simp[RM.run_fail]at h
 rename_i r hr
 obtain⟨el,hu,hte⟩:=sliceElem_some hr
 have hsz:=run_sizeOf' hte w
 rw[RM.run_bind]at h
 cases hq:(elemsA x).run hp with
 |none=>rw[hq]at h; simp at h
 |some q=>
  obtain⟨ys,yc⟩:=q
  rw[hq]at h
  simp only[Option.bind_some]at h
  split at h
  ·simp[RM.run_fail]at h
  rename_i hcnd
  simp only[Bool.and_eq_true,decide_eq_true_eq]at hcnd
  obtain⟨hpos,hall⟩:=hcnd
  obtain⟨hlen,hcells⟩:=elems_ok (P:=P) hI hx hq hpos (.inl hall)
  have run:∀ (base:Option Addr) (dLen cap n:Nat) (arr:Array Value) (w':World),vd=.slice base dLen cap→Nat.min ys.length dLen=n →
    (Builtin.firstCells r.size n vx).run P w=.ok arr w→(∀ a,base=some a→(storeCells a arr.toList).run P w=.ok () w')→(base=none→w'=w) →
    (Builtin.copy_ #[t,xt] type #[vd,vx]).run P w=.ok (.int .i64 n) w':=by
   intro base dLen cap n arr w' hv hn hf hst hno
   subst hv
   simp only[Builtin.copy_,List.getElem?_toArray,List.getElem?_cons_zero,List.getElem?_cons_succ,Sem.run_bind,run_underlying hu w,Result.andThen_ok,hlen,hn,hsz,hf]
   cases base with
   |none=>rw[hno rfl]; rfl
   |some a=>simp[hst a rfl,goInt]
  split at h
  ·rename_i esz n ver off len cap
   split at h
   ·rename_i hemp
    simp only[RM.run_pure,Option.some.injEq]at h
    subst h
    have h0:(ys.take len).length=0:=by
     simp_all
    have hmin:Nat.min ys.length len=0:=by rw[←h0]; simp[Nat.min_comm]
    obtain⟨arr,ha,hasz,_⟩:=hcells 0 (Nat.zero_le _)
    have harr:arr=#[]:=by apply Array.eq_empty_of_size_eq_zero; rw[hasz]; simp
    subst harr
    have hs':=hd
    simp only[Rep]at hs'
    obtain⟨_,hnL,l,hl,hle2,hvt,hm⟩:=hs'
    cases hb:l.blk with
    |none=>
     rw[hb]at hm
     obtain⟨hv,_,_,hl0,_⟩:=hm
     subst hl0
     exact⟨w,_,run none 0 0 0 #[] w hv hmin (ha w rfl) (fun a' h=>by cases h) (fun _=>rfl),hI,Fr.refl E w,by simp[Rep]⟩
    |some b=>
     rw[hb]at hm
     obtain⟨a,ccap,hv,_⟩:=hm
     exact⟨w,_,run (some a) len ccap 0 #[] w hv hmin (ha w rfl) (fun a' _=>by simp[storeCells]) (by simp),hI,Fr.refl E w,by simp[Rep]⟩
   rename_i hemp
   rw[RM.run_bind]at h
   cases hq2:(RM.arr n ver).run hp with
   |none=>rw[hq2]at h; simp at h
   |some q2=>
    obtain⟨g,cl,fz,es⟩:=q2
    obtain⟨hn,hver⟩:=RM.run_arr hq2
    rw[hq2]at h
    simp only[Option.bind_some]at h
    subst hver
    simp only at hn h hd
    split at h
    case isFalse=>simp[RM.run_fail]at h
    rename_i hc
    obtain⟨hez,hfz,hle,hv0⟩:=hc
    subst hfz
    have hs':=hd
    simp only[Rep]at hs'
    obtain⟨_,hnL,l,hl,hle2,hvt,hm⟩:=hs'
    obtain⟨l',hl',hverb,hmo⟩:=hI.objs n _ hn
    rw[hl]at hl'; cases hl'
    cases hb:l.blk with
    |none=>rw[hb]at hm; omega
    |some b=>
     rw[hb]at hm
     simp only at hm
     obtain⟨a,ccap,hv,hk,hno,hlc,hoc,hpos',haddr⟩:=hm
     have hmin:Nat.min ys.length len=(ys.take len).length:=by simp[Nat.min_comm]
     have hleq:(ys.take len).length≤ys.length:=by simp; omega
     obtain⟨arr,ha,hasz,hael⟩:=hcells (ys.take len).length hleq
     ·simp only[RM.run_pure,Option.some.injEq]at h
      subst h
      have hne:0<(ys.take len).length:=by
       grind
      have hlen0:(ys.take len).length≤len:=by simp; omega
      have ha0:=haddr (by omega)
      rw[hb]at hmo
      obtain⟨c,T,hw,hown,_,hcs,htot,hgt,hel⟩:=hmo
      simp only[Bool.false_eq_true,if_false]at hown
      have hsize:l.esz=r.size:=hle2.trans hez
      have hael':∀ (k:Nat) (e:AV),(ys.take len)[k]?=some e→∃ v,Rep E (!yc) e v∧At arr (k*r.size) r.size v:=by
       grind
      have hlf:=arr_leaf hasz hpos hael'
      have hle3:es.length*l.esz≤c.size:=by rw[hcs]; exact Nat.mul_le_mul_right _ htot
      have hthere:off+(ys.take len).length≤es.length:=by omega
      have hfit:off*r.size+arr.toList.length≤c.size:=by
       simp only[Array.length_toList,hasz,←Nat.add_mul]
       rw[hsize]at hle3
       exact Nat.le_trans (Nat.mul_le_mul_right _ hthere) hle3
      have hset:(setObj hp n (.arr g (cl&&yc) false (putElems es off (ys.take len))))=hp.set n (some (.arr g (cl&&yc) false (putElems es off (ys.take len)))):=by
       grind[setObj]
      obtain⟨i1,i2⟩:=inv_write hI hn hl hb hw (c':=(setVals c.toList (off*r.size) arr.toList).toArray) (by simp[setVals_length]) (cl':=cl&&yc)
       (es':=putElems es off (ys.take len)) (putElems_length _ _ _) (by rw[hsize]at hel hle3 ⊢; exact put_els hel hasz hael' hle3 hthere)
      refine⟨_,_,run (some a) len ccap _ arr (w.setRow b (setVals c.toList (off*r.size) arr.toList).toArray) hv hmin (ha w rfl) (fun a' e'=>?_) (by simp),by simp only[applyWr,hset]; exact i1,i2,by simp[Rep]⟩
      simp only[Option.some.injEq]at e'
      subst e'
      rw[ha0,hsize]
      exact run_storeRow hw hfit hlf
  ·simp only[RM.run_pure,Option.some.injEq]at h
   subst h
   simp only[Rep]at hd
   obtain⟨arr,ha,hasz,_⟩:=hcells 0 (Nat.zero_le _)
   exact⟨w,_,run none 0 0 0 arr w hd (by simp) (ha w rfl) (by simp) (fun _=>rfl),hI,Fr.refl E w,by simp[Rep]⟩
  ·simp[RM.run_fail]at h
theorem litsOf_ok{E:Env}{o:Bool}:∀ {l:List AV} {vs:List Value} {cs:List Value},litsOf l=some vs→RepT E o l cs→cs=vs
 |[],vs,cs,h,hr=>by
  grind[litsOf,RepT]
 |x::xs,vs,cs,h,hr=>by
  cases cs with
  |nil=>simp[RepT]at hr
  |cons c cs=>
   simp only[RepT]at hr
   cases x with
   |lit v=>
    simp only[litsOf]at h
    cases hq:litsOf xs with
    |none=>rw[hq]at h; simp at h
    |some l=>
     rw[hq]at h
     simp only[Option.map_some,Option.some.injEq]at h
     subst h
     have h1:=hr.1
     simp only[Rep]at h1
     rw[h1,litsOf_ok hq hr.2]
   |_=>simp[litsOf]at h
theorem toVal_ok[Glob]{E:Env}{o:Bool}{x:AV}{v u:Value}(h:toVal? x=some v)(hr:Rep E o x u):u=v:=by
 cases x with
 |lit y=>simp only[toVal?,Option.some.injEq]at h; subst h; simpa[Rep] using hr
 |agg l=>
  simp only[toVal?]at h
  cases hq:litsOf l with
  |none=>rw[hq]at h; simp at h
  |some vs=>
   rw[hq]at h
   simp only[Option.map_some,Option.some.injEq]at h
   subst h
   simp only[Rep]at hr
   obtain⟨c,rfl,hc⟩:=hr
   rw[litsOf_ok hq hc.toT]
 |ifc t y=>
  cases y with
  |lit z=>
   simp only[toVal?,Option.some.injEq]at h
   subst h
   simp only[Rep]at hr
   obtain⟨y,rfl,hy⟩:=hr
   rw[hy]
  |_=>simp[toVal?]at h
 |_=>simp[toVal?]at h
theorem notNil_val{E:Env}{o:Bool}{x:AV}{v:Value}(h:notNil x=true)(hr:Rep E o x v):∃ a n c,v=.slice (some a) n c:=by
 cases x with
 |sl xs=>
  grind[Rep,notNil]
 |slx xs c=>grind[Rep]
 |osl esz n ver off len cap=>
  grind[Rep,notNil]
 |_=>simp[notNil]at h
theorem isIfaceTy_some{P:Program}{t:TypeId}(h:isIfaceTy P t=true):∃ m,P.underlying t=some (.interface m):=by
 grind[isIfaceTy]
theorem isFuncTy_some{P:Program}{t:TypeId}(h:isFuncTy P t=true):∃ a b c,P.underlying t=some (.func a b c):=by
 grind[isFuncTy]
theorem eq_false_ok{P:Program}{E:Env}{op:BinOp}{t:TypeId}{xo yo:Operand}{vx vy:Value}{r:AV}{w:World}(h:eqVal op false=some r)
  (hg:(eqGuard op t xo yo vx vy).run P w=.ok () w) (he:(Op.equal t vx vy).run P w=.ok false w)
  (hb1:binOp .eql t vx vy=(do pure (.bool (←Op.equal t vx vy)))) (hb2:binOp .neq t vx vy=(do pure (.bool (!(←Op.equal t vx vy))))) :
  ∃ v,(do eqGuard op t xo yo vx vy; binOp op t vx vy:Sem Value).run P w=.ok v w∧Rep E true r v:=by
 cases op<;>simp only[eqVal,Option.some.injEq,reduceCtorEq]at h
 ·subst h
  exact⟨.bool false,by simp[hg,hb1,he],by simp[Rep]⟩
 ·subst h
  exact⟨.bool true,by simp[hg,hb2,he],by simp[Rep]⟩
theorem eqIn_iface{P:Program}{t:TypeId}{m:Array (String×TypeId)}(t':TypeId)(u:Value)(_:Unit)(hu:P.underlying t=some (.interface m))(d:Nat)(w:World):
  (Op.equalIn (d+1) t (.iface t' u) .nilIface).run P w=.ok false w∧(Op.equalIn (d+1) t .nilIface (.iface t' u)).run P w=.ok false w:=by
 constructor<;>simp[Op.equalIn,run_underlying hu w]
theorem eqIn_func{P:Program}{t:TypeId}{a b:Array TypeId}{c:Bool}(fn:Fn)(x y:Array Value)(hu:P.underlying t=some (.func a b c))(d:Nat)(w:World):
  (Op.equalIn (d+1) t (.func fn x y) .nilFunc).run P w=.ok false w∧(Op.equalIn (d+1) t .nilFunc (.func fn x y)).run P w=.ok false w:=by
 constructor<;>simp[Op.equalIn,run_underlying hu w]
theorem eqIn_slice{P:Program}{t e:TypeId}(a:Addr)(n c:Nat)(hu:P.underlying t=some (.slice e))(d:Nat)(w:World):
  (Op.equalIn (d+1) t (.slice (some a) n c) (.slice none 0 0)).run P w=.ok false w∧(Op.equalIn (d+1) t (.slice none 0 0) (.slice (some a) n c)).run P w=.ok false w:=by
 constructor<;>simp[Op.equalIn,run_underlying hu w]
theorem nilEq_ok[Glob]{P:Program}{E:Env}{op:BinOp}{t:TypeId}{xo yo:Operand}{x r:AV}{vx nil:Value}(hx:Rep E true x vx)(h:nilEqA P op t x nil=some r)(w:World):
  (∃ v,(do eqGuard op t xo yo vx nil; binOp op t vx nil:Sem Value).run P w=.ok v w∧Rep E true r v) ∧
  (∃ v,(do eqGuard op t xo yo nil vx; binOp op t nil vx:Sem Value).run P w=.ok v w∧Rep E true r v):=by
 unfold nilEqA at h
 split at h
 ·split at h
  case h_2=>simp at h
  rename_i t' y
  split at h
  case isFalse=>simp at h
  rename_i hty
  obtain⟨m,hu⟩:=isIfaceTy_some hty
  simp only[Rep]at hx
  obtain⟨u,rfl,_⟩:=hx
  refine⟨eq_false_ok h (by unfold eqGuard; cases op<;>rfl) ?_ rfl rfl,eq_false_ok h (by unfold eqGuard; cases op<;>rfl) ?_ rfl rfl⟩
  ·exact(eqIn_iface _ _ () hu 9999 w).1
  ·exact(eqIn_iface _ _ () hu 9999 w).2
 ·split at h
  case h_2=>simp at h
  rename_i fn a c
  split at h
  case isFalse=>simp at h
  rename_i hty
  obtain⟨_,_,_,hu⟩:=isFuncTy_some hty
  simp only[Rep]at hx
  obtain⟨fv,cv,rfl,_⟩:=hx
  refine⟨eq_false_ok h (by unfold eqGuard; cases op<;>rfl) ?_ rfl rfl,eq_false_ok h (by unfold eqGuard; cases op<;>rfl) ?_ rfl rfl⟩
  ·exact(eqIn_func _ _ _ hu 9999 w).1
  ·exact(eqIn_func _ _ _ hu 9999 w).2
 ·split at h
  case isFalse=>simp at h
  rename_i hc
  simp only[Bool.and_eq_true]at hc
  obtain⟨e,hu⟩:=sliceTy hc.1
  obtain⟨a,n,c,rfl⟩:=notNil_val hc.2 hx
  refine⟨eq_false_ok h (by unfold eqGuard; cases op<;>rfl) ?_ rfl rfl,eq_false_ok h (by unfold eqGuard; cases op<;>rfl) ?_ rfl rfl⟩
  ·exact(eqIn_slice _ _ _ hu 9999 w).1
  ·exact(eqIn_slice _ _ _ hu 9999 w).2
 ·simp at h
theorem eqAgg_ok[Glob]{P:Program}{E:Env}{op:BinOp}{t:TypeId}{xo yo:Operand}{x y r:AV}{vx vy:Value}(hx:Rep E true x vx)(hy:Rep E true y vy)
  (h:eqAggA P op t x y=some r) (w:World):∃ v,(do eqGuard op t xo yo vx vy; binOp op t vx vy:Sem Value).run P w=.ok v w∧Rep E true r v:=by
 unfold eqAggA at h
 split at h
 case h_2=>simp at h
 rename_i l l'
 split at h
 case h_2=>simp at h
 rename_i c c' h1 h2
 have ex:vx=.agg c.toArray:=toVal_ok (x:=.agg l) (by simp[toVal?,h1]) hx
 have ey:vy=.agg c'.toArray:=toVal_ok (x:=.agg l') (by simp[toVal?,h2]) hy
 subst ex ey
 have main:(∀ cs,mkV P t cs=.agg cs.toArray)→(if P.eqGuardType P.depth t then none else (eqIn P 20 t c c').bind (eqVal op))=some r →
   ∃ v,(do eqGuard op t xo yo (.agg c.toArray) (.agg c'.toArray); binOp op t (.agg c.toArray) (.agg c'.toArray):Sem Value).run P w=.ok v w∧Rep E true r v:=by
  intro hm h
  split at h
  ·simp at h
  rename_i hg
  simp only[Option.bind_eq_some_iff]at h
  obtain⟨b,hb,hr⟩:=h
  have he:=eqIn_ok (w:=w) 9980 20 t c c' b hb
  rw[hm,hm]at he
  have he':(Op.equal t (.agg c.toArray) (.agg c'.toArray)).run P w=.ok b w:=he
  cases op with
  |eql=>
   simp only[eqVal,Option.some.injEq]at hr; subst hr
   exact⟨.bool b,by simp[eqGuard,hg,binOp,he',Sem.run_bind],by simp[Rep]⟩
  |neq=>
   simp only[eqVal,Option.some.injEq]at hr; subst hr
   exact⟨.bool (!b),by simp[eqGuard,hg,binOp,he',Sem.run_bind],by simp[Rep]⟩
  |_=>simp[eqVal]at hr
 split at h
 ·rename_i fs hu; exact main (fun cs=>by simp[mkV,hu]) h
 ·rename_i n e hu; exact main (fun cs=>by simp[mkV,hu]) h
 ·simp at h
theorem bin_ok[Glob]{P:Program}{E:Env}{op:BinOp}{t:TypeId}{xo yo:Operand}{x y r:AV}{vx vy:Value}(hx:Rep E true x vx)(hy:Rep E true y vy)
  (h:binA P op t xo yo x y=some r) (w:World):∃ v,(do eqGuard op t xo yo vx vy; binOp op t vx vy:Sem Value).run P w=.ok v w∧Rep E true r v:=by
 unfold binA at h
 split at h
 ·rename_i r' hq
  simp only[Option.some.injEq]at h; subst h
  exact eqAgg_ok hx hy hq w
 split at h
 ·rename_i a b h1 h2
  rw[toVal_ok h1 hx,toVal_ok h2 hy]
  exact pure_ok h w
 ·split at h
  ·rename_i b
   simp only[Rep]at hy
   subst hy
   exact(nilEq_ok hx h w).1
  ·split at h
   ·rename_i a
    simp only[Rep]at hx
    subst hx
    exact(nilEq_ok hy h w).2
   ·simp at h
end Go.PI
end
section
/- PI, part Q: every operation's effect is what the model's operation does. -/
namespace Go.PI
theorem repP_map{E:Env}{ev:Operand→AV}{ρ:Operand→Value}(hev:∀ x,Rep E true (ev x) (ρ x))(parts:Array (Nat×Operand)):
  RepP E (parts.toList.map fun p=>(p.1,ev p.2)) (parts.map fun (p:Nat×Operand)=>(p.1,ρ p.2)).toList:=by
 rw[Array.toList_map]
 induction parts.toList with
 |nil=>exact .nil
 |cons p r ih=>exact .cons (hev p.2) ih
theorem repT_map{E:Env}{ev:Operand→AV}{ρ:Operand→Value}(hev:∀ x,Rep E true (ev x) (ρ x)):∀ (l:List Operand),RepT E true (l.map ev) (l.map ρ)
 |[]=>by simp[RepT]
 |x::r=>by simp only[List.map_cons,RepT]; exact⟨hev x,repT_map hev r⟩
theorem repO_map{E:Env}{ev:Operand→AV}{ρ:Operand→Value}(hev:∀ x,Rep E true (ev x) (ρ x))(x:Option Operand):RepO E (x.map ev) (x.map ρ):=by
 cases x with
 |none=>simp[RepO]
 |some y=>exact hev y
theorem step_val[Glob]{P:Program}{E:Env}{hp:AHeap}{w:World}(hI:Inv E hp w){s:Sem Value}{x:AV}(h:∃ v,s.run P w=.ok v w∧Rep E true x v):
  Step P E hp w (do pure (.value (←s))) ⟨x,[]⟩:=by
 obtain⟨v,h1,h2⟩:=h
 exact Step.plain hI h1 h2
theorem step_mk[Glob]{P:Program}{E:Env}{hp:AHeap}{w:World}{s:Sem Value}{e:Eff}
  (h:∃ E' w' v,s.run P w=.ok v w'∧Ext E E'∧Inv E' (applyWr hp e.wr) w'∧Fr E w E' w'∧Rep E' true e.val v):Step P E hp w (do pure (.value (←s))) e:=by
 obtain⟨E',w',v,h1,h2⟩:=h
 exact⟨E',w',v,.inl (by simp[h1]),h2⟩
theorem repT_two{E:Env}{o:Bool}{a b:AV}{c:List Value}(h:RepT E o [a,b] c):∃ u v,c=[u,v]∧Rep E o a u∧Rep E o b v:=by
 match c,h with
 |[u,v],h=>grind[RepT]
 |[],h=>simp[RepT]at h
 |[_],h=>simp[RepT]at h
 |_::_::_::_,h=>simp[RepT]at h
theorem repT_one{E:Env}{o:Bool}{a:AV}{c:List Value}(h:RepT E o [a] c):∃ u,c=[u]∧Rep E o a u:=by
 match c,h with
 |[u],h=>simp_all[RepT]
 |[],h=>simp[RepT]at h
 |_::_::_,h=>simp[RepT]at h
theorem len_ok[Glob]{P:Program}{E:Env}{t type:TypeId}{x:AV}{v:Value}{n:Nat}(ht:isSliceTy P t=true)(h:lenA x=some n)(hr:Rep E true x v)(w:World):
  (Builtin.len_ #[t] type #[v]).run P w=.ok (.int .i64 n) w:=by
 obtain⟨e,hu⟩:=sliceTy ht
 have run:∀ a c,(Builtin.len_ #[t] type #[.slice a n c]).run P w=.ok (.int .i64 n) w:=fun a c=>by
  simp[Builtin.len_,run_underlying hu w,goInt]
 unfold lenA at h
 split at h
 ·simp only[Option.some.injEq]at h; subst h; simp only[Rep]at hr; subst hr; exact run _ _
 ·simp only[Option.some.injEq]at h; subst h; simp only[Rep]at hr; obtain⟨a,rfl⟩:=hr; exact run _ _
 ·simp only[Option.some.injEq]at h; subst h; simp only[Rep]at hr; obtain⟨a,cap,rfl,_⟩:=hr; exact run _ _
 ·simp only[Option.some.injEq]at h; subst h; simp only[Rep]at hr; obtain⟨a,rfl,_⟩:=hr; exact run _ _
 ·simp only[Option.some.injEq]at h; subst h
  simp only[Rep]at hr
  obtain⟨_,_,l,_,_,_,hm⟩:=hr
  cases hb:l.blk with
  |none=>rw[hb]at hm; obtain⟨rfl,_,_,rfl,_⟩:=hm; exact run _ _
  |some b=>rw[hb]at hm; obtain⟨a,ccap,rfl,_⟩:=hm; exact run _ _
 ·simp only[Option.some.injEq]at h; subst h
  simp only[Rep]at hr
  obtain⟨_,_,_,l,b,_,_,rfl⟩:=hr
  exact run _ _
 ·simp at h
theorem builtin_ok[Glob]{P:Program}{E:Env}{hp:AHeap}{w:World}(hI:Inv E hp w){nm:Nat}(hnm:nm=hp.length∨hp[nm]?=some none){b:Builtin}{argTypes:Array TypeId}
  {type:TypeId} {consts:Array Bool} {args:List AV} {vs:List Value} (ha:RepT E true args vs) {e:Eff} (h:(builtinA P nm b argTypes type args).run hp=some e) :
  Step P E hp w (builtin b argTypes type consts vs.toArray) e:=by
 obtain⟨ts⟩:=argTypes
 unfold builtinA at h
 split at h
 ·-- append
  split at h
  case h_2=>simp[RM.run_fail]at h
  rename_i t xt s x hts
  simp only at hts; subst hts
  obtain⟨u,v,rfl,h1,h2⟩:=repT_two ha
  exact step_mk (append_ok hI hnm h1 h2 h)
 ·-- copy
  split at h
  case h_2=>simp[RM.run_fail]at h
  rename_i t xt s x hts
  simp only at hts; subst hts
  obtain⟨u,v,rfl,h1,h2⟩:=repT_two ha
  obtain⟨w',r,h3,h4,h5,h6⟩:=copy_ok (P:=P) (xt:=xt) (type:=type) hI h1 h2 h
  exact step_mk ⟨E,w',r,h3,Ext.refl E,h4,h5,h6⟩
 ·-- len
  split at h
  case h_2=>simp[RM.run_fail]at h
  rename_i t x hts
  simp only at hts; subst hts
  obtain⟨u,rfl,h1⟩:=repT_one ha
  have sl:(match isSliceTy P t,lenA x with|true,some n=>(pure ⟨.lit (.int .i64 n),[]⟩:RM Eff)|_,_=>.fail).run hp=some e →
    Step P E hp w (builtin .len ⟨[t]⟩ type consts [u].toArray) e:=by
   intro h
   split at h
   case h_2=>simp[RM.run_fail]at h
   rename_i n hty hn
   simp only[RM.run_pure,Option.some.injEq]at h
   subst h
   exact step_val hI ⟨_,len_ok hty hn h1 w,by simp[Rep]⟩
  split at h
  ·exact sl h
  ·exact sl h
  ·exact sl h
  ·exact sl h
  ·exact sl h
  ·exact sl h
  ·rename_i v _
   split at h
   case h_2=>simp[RM.run_fail]at h
   rename_i r hr
   simp only[RM.run_pure,Option.some.injEq]at h
   subst h
   simp only[Rep]at h1
   subst h1
   exact step_val hI (pure_ok hr w)
  ·split at h
   case h_2=>simp[RM.run_fail]at h
   rename_i n q hn
   simp only[RM.run_pure,Option.some.injEq]at h
   subst h
   obtain⟨el,hu,_⟩:=arrayElem_some hn
   refine step_val hI ⟨.int .i64 n,?_,by simp[Rep]⟩
   simp[Builtin.len_,run_underlying hu w,goInt]
 ·-- cap
  split at h
  case h_2=>simp[RM.run_fail]at h
  rename_i t x hts
  simp only at hts; subst hts
  obtain⟨u,rfl,h1⟩:=repT_one ha
  have run:∀ (k:Nat) (a:Option Addr) (n:Nat),isSliceTy P t=true→u=.slice a n k→Step P E hp w (builtin .cap ⟨[t]⟩ type consts [u].toArray) ⟨.lit (.int .i64 k),[]⟩:=by
   intro k a n ht hv
   obtain⟨el,hu⟩:=sliceTy ht
   subst hv
   refine step_val hI ⟨.int .i64 k,?_,by simp[Rep]⟩
   simp[Builtin.cap_,run_underlying hu w,goInt]
  split at h
  ·rename_i ht
   simp only[RM.run_pure,Option.some.injEq]at h
   subst h
   simp only[Rep]at h1
   exact run 0 _ _ ht h1
  ·rename_i xs c ht
   simp only[RM.run_pure,Option.some.injEq]at h
   subst h
   simp only[Rep]at h1
   obtain⟨a,hv,_⟩:=h1
   exact run _ _ _ ht hv
  ·rename_i esz n ver off len c ht
   split at h
   case isFalse=>simp[RM.run_fail]at h
   rename_i hv0
   simp only[RM.run_pure,Option.some.injEq]at h
   subst h
   simp only[Rep]at h1
   obtain⟨_,_,l,_,_,_,hm⟩:=h1
   cases hb:l.blk with
   |none=>rw[hb]at hm; omega
   |some b=>
    rw[hb]at hm
    obtain⟨a,ccap,hv,hk,_⟩:=hm
    have:=hk c rfl
    subst this
    exact run _ _ _ ht hv
  ·simp[RM.run_fail]at h
 ·-- max
  split at h
  case h_2=>simp[RM.run_fail]at h
  rename_i l hl
  split at h
  case h_2=>simp[RM.run_fail]at h
  rename_i r hr
  simp only[RM.run_pure,Option.some.injEq]at h
  subst h
  rw[litsOf_ok hl ha]
  exact step_val hI (pure_ok hr w)
 ·split at h
  case h_2=>simp[RM.run_fail]at h
  rename_i l hl
  split at h
  case h_2=>simp[RM.run_fail]at h
  rename_i r hr
  simp only[RM.run_pure,Option.some.injEq]at h
  subst h
  rw[litsOf_ok hl ha]
  exact step_val hI (pure_ok hr w)
 ·simp[RM.run_fail]at h
theorem opt_run{hp:AHeap}{x:Option AV}{e:Eff}(h:(match x with|some x=>(pure ⟨x,[]⟩:RM Eff)|none=>.fail).run hp=some e):∃ y,x=some y∧e=⟨y,[]⟩:=by
 grind[RM.run_fail,RM.run_pure]
theorem cellsOf_ofVal(z:Value)(hz:isTupV z=false):cellsOf (ofVal z)=z.cells.toList.map .lit:=by
 cases z<;>first|rfl|(simp[isTupV]at hz)
theorem closedL_lits(l:List Value):closedL (l.map .lit)=true:=by
 induction l with
 |nil=>rfl
 |cons v r ih=>simp[closedL,closed,ih]
end Go.PI
end
section
/- PI, part Nb: maps. -/
namespace Go.PI
def KK.desc:KK→TypeDesc
 |.int q=>.int q
 |.str=>.string
 |.bool=>.bool
theorem sameNow_ok{kk:KK}{k x:Value}(hk:kk.ok k=true)(hx:kk.ok x=true):Instr.sameNow kk.desc k x=some (eqKey k x):=by
 cases kk<;>cases k<;>simp[KK.ok]at hk<;>cases x<;>simp[KK.ok]at hx<;>simp_all[Instr.sameNow,KK.desc,eqKey]
theorem findA_ge{k:Value}:∀ {l:List Value} {i j:Nat},findA k l i=some j→i≤j∧j<i+l.length
 |[],i,j,h=>by simp[findA]at h
 |x::xs,i,j,h=>by
  simp only[findA]at h
  cases hx:eqKey k x
  ·rw[hx]at h
   have:=findA_ge h
   simp only[List.length_cons]; omega
  ·simp_all
theorem findNow_ok{kk:KK}{k:Value}(hk:kk.ok k=true):∀ (es:List MapEntry) (i:Nat),(∀ e∈es,kk.ok e.key=true) →
  Instr.findNow kk.desc k es i=some (match findA k (es.map (·.key)) i with|some j=>(es[j-i]?).map (fun e=>(j,e.val))|none=>none)
 |[],i,_=>rfl
 |e::es,i,h=>by
  simp only[Instr.findNow,sameNow_ok hk (h e (by simp)),List.map_cons,findA]
  cases hx:eqKey k e.key
  ·simp only[cond_false]
   rw[findNow_ok hk es (i+1) (fun e he=>h e (by simp[he]))]
   cases hf:findA k (es.map (·.key)) (i+1) with
   |none=>rfl
   |some j=>
    have:=findA_ge hf
    simp only[show j-i=(j-(i+1))+1 by omega,List.getElem?_cons_succ]
  ·simp
theorem bytes_eq{a b:ByteArray}(h:(a==b)=true):b=a:=by
 cases a with|mk x=>cases b with|mk y=>
 have:(x==y)=true:=h
 rw[eq_of_beq this]
theorem eqKey_eq{kk:KK}{k x:Value}(hk:kk.ok k=true)(hx:kk.ok x=true)(h:eqKey k x=true):x=k:=by
 cases kk<;>cases k<;>simp[KK.ok]at hk<;>cases x<;>simp[KK.ok]at hx<;>simp only[eqKey]at h
 ·simp_all
 ·rw[bytes_eq h]
 ·simp at h; subst h; rfl
theorem mapTy_some{P:Program}{t:TypeId}{kk:KK}{e:TypeId}(h:mapTy P t=some (kk,e)):∃ k,P.underlying t=some (.map k e)∧P.underlying k=some kk.desc:=by
 unfold mapTy at h
 split at h
 ·rename_i k e' hu
  refine⟨k,?_⟩
  split at h<;>simp only[Option.some.injEq,Prod.mk.injEq,reduceCtorEq]at h
  all_goals
   rename_i hk
   obtain⟨rfl,rfl⟩:=h
   exact⟨hu,hk⟩
 ·simp at h
theorem run_und{P:Program}{t:TypeId}{d:TypeDesc}(h:P.underlying t=some d)(w:World):(underlying t).run P w=.ok d w:=by
 simp[underlying,Sem.run_bind,run_program,h]
theorem run_checkKey{P:Program}{kk:KK}{kt:TypeId}(h:P.underlying kt=some kk.desc)(e:Bool)(v:Value)(w:World):(Instr.checkKey e 10000 kt v).run P w=.ok () w:=by
 show (Instr.checkKey e (9999+1) kt v).run P w=.ok () w
 unfold Instr.checkKey
 cases kk<;>simp[Sem.run_bind,run_und h,KK.desc,Result.andThen]
theorem run_findKey{P:Program}{kk:KK}{kt:TypeId}(h:P.underlying kt=some kk.desc){k:Value}(hk:kk.ok k=true){es:List MapEntry}(he:∀ e∈es,kk.ok e.key=true)(w:World):
  (Instr.findKey kt k es).run P w=.ok (match findA k (es.map (·.key)) 0 with|some j=>(es[j]?).map (fun e=>(j,e.val))|none=>none) w:=by
 unfold Instr.findKey
 simp only[Sem.run_bind,run_und h,Result.andThen]
 rw[findNow_ok hk es 0 he]
 rfl
theorem run_getObj'{P:Program}{w:World}{b:Nat}{es:Array MapEntry}{c:Nat}(h:w.heap[b]?=some (.map es c)):(Go.getObj b).run P w=.ok (.map es c) w:=by
 simp[Go.getObj,Sem.run,h]
theorem makeMap_ok[Glob]{P:Program}{E:Env}{hp:AHeap}{w:World}(hI:Inv E hp w){nm:Nat}(hnm:nm=hp.length∨hp[nm]?=some none){t:TypeId}{r:Option AV}{vr:Option Value}
  (hr:∀ x,r=some x→∃ v,vr=some v∧Rep E true x v) (hn:r=none→vr=none) {e:Eff} (h:makeMapA P nm t r=some e) :
  ∃ E' w' v,(Instr.makeMap t vr).run P w=.ok v w'∧Ext E E'∧Inv E' (applyWr hp e.wr) w'∧Fr E w E' w'∧Rep E' true e.val v:=by
 unfold makeMapA at h
 split at h
 case h_2=>simp at h
 rename_i kk et m hmt hon
 simp only[Option.some.injEq]at h
 subst h
 obtain⟨kt,h1,h2⟩:=mapTy_some hmt
 obtain⟨a1,a2,a3⟩:=oth_new hI hnm (k:=.map kk []) (vs:=[]) (us:=[]) (ob:=.map #[] 0) (by simp[OKind.is]) (by simp[RepT])
 refine⟨_,_,.map (some w.heap.size),?_,a1,a2,a3,?_⟩
 ·cases r with
  |none=>
   rw[hn rfl]
   simp[Instr.makeMap,Result.andThen]
  |some x=>
   obtain⟨v,rfl,hx⟩:=hr x rfl
   simp only[optNat]at hon
   obtain⟨q,rfl⟩:=asNat_val hon hx
   simp[Instr.makeMap,Sem.run_bind,Result.andThen,run_und h1,asInt,asIntOf]
 ·simp only[Rep]
  refine⟨trivial,?_,⟨some w.heap.size,1,0⟩,w.heap.size,by simp[Env.push],rfl,rfl⟩
  simp only[Env.push]; omega
theorem lookup_ok[Glob]{P:Program}{E:Env}{hp:AHeap}{w:World}(hI:Inv E hp w){t:TypeId}{x ix:AV}{vx vi:Value}(hx:Rep E true x vx)(hi:Rep E true ix vi){c:Bool}{e:Eff}
  (h:(lookupA P t x ix c).run hp=some e):e.wr=[]∧∃ v,(Instr.lookup t vx vi c).run P w=.ok v w∧Rep E true e.val v:=by
 unfold lookupA at h
 split at h
 case h_2=>simp[RM.run_fail]at h
 rename_i kk et hmt
 obtain⟨kt,h1,h2⟩:=mapTy_some hmt
 split at h
 case h_2=>simp[RM.run_fail]at h
 rename_i z k hz
 obtain⟨r,hr,hez⟩:=Option.bind_eq_some_iff.1 hz
 obtain⟨zv,hzv,hzs,rfl,_,hzl,hzt⟩:=elemZero_ok hez
 have hrep:Rep E true (ofVal zv) zv:=ofVal_rep zv (fun c hc=>by subst hc; simpa[Value.cells] using hzl)
 simp only[Rep]at hi
 subst hi
 have fin:∀ (a:AV) (v:Value) (b:Bool),Rep E true a v→Rep E true (lookR c a b) (if c then .tuple #[v,.bool b] else v):=by
  grind[lookR,Rep,RepT]
 split at h
 ·rename_i hok
  simp only[Rep]at hx
  subst hx
  simp only[RM.run_pure,Option.some.injEq]at h
  subst h
  refine⟨rfl,_,?_,fin _ _ false hrep⟩
  have:=run_findKey (P:=P) h2 hok (es:=[]) (by simp) w
  simp only[Instr.lookup,Sem.run_bind,run_und h1,Result.andThen,Sem.run_pure,run_checkKey h2]
  have h3:(Instr.findKey kt vi ([]:List MapEntry)).run P w=.ok none w:=this
  simp[h3,run_zero hr hzv w,Result.andThen]
 ·rename_i n hok
  simp only[Rep]at hx
  obtain⟨_,hnL,l,b,hl,hb,rfl⟩:=hx
  simp only[RM.run]at h
  split at h
  case h_2=>simp at h
  rename_i o ho
  split at h
  case h_2=>simp[RM.run_fail]at h
  rename_i kk' keys vs
  split at h
  case isFalse=>simp[RM.run_fail]at h
  rename_i hkk
  subst hkk
  obtain⟨l0,b0,ob,us,g1,g2,g3,g4,g5,g6,g7,g8⟩:=hI.objs n _ ho
  rw[hl]at g1; cases g1
  rw[hb]at g2; cases g2
  cases ob with
  |map es clock=>
   obtain⟨k1,k2,k3⟩:=g7
   have hes:∀ e∈es.toList,kk'.ok e.key=true:=fun e he=>k3 _ (by rw[←k1]; exact List.mem_map.2 ⟨e,he,rfl⟩)
   have hf:=run_findKey (P:=P) h2 hok hes w
   rw[k1]at hf
   split at h
   ·rename_i i hfi
    rw[hfi]at hf
    split at h
    case h_2=>simp[RM.run_fail]at h
    rename_i v hv
    simp only[RM.run_pure,Option.some.injEq]at h
    subst h
    obtain⟨u,hu,hru⟩:=g8.get hv
    rw[←k2]at hu
    obtain⟨e,he,rfl⟩:∃ e,es.toList[i]?=some e∧e.val=u:=by simpa using hu
    refine⟨rfl,_,?_,fin _ _ true hru⟩
    simp only[he,Option.map_some]at hf
    simp only[Instr.lookup,Sem.run_bind,run_und h1,Result.andThen,Sem.run_pure,run_checkKey h2,run_getObj' g3]
    simp[hf]
   ·rename_i hfi
    rw[hfi]at hf
    simp only[RM.run_pure,Option.some.injEq]at h
    subst h
    refine⟨rfl,_,?_,fin _ _ false hrep⟩
    simp only at hf
    simp only[Instr.lookup,Sem.run_bind,run_und h1,Result.andThen,Sem.run_pure,run_checkKey h2,run_getObj' g3]
    simp[hf,run_zero hr hzv w]
  |_=>exact g7.elim
 ·simp[RM.run_fail]at h
theorem findA_key{k:Value}:∀ {l:List Value} {i j:Nat},findA k l i=some j→∃ x,l[j-i]?=some x∧eqKey k x=true
 |[],i,j,h=>by simp[findA]at h
 |x::xs,i,j,h=>by
  simp only[findA]at h
  cases hx:eqKey k x
  ·rw[hx]at h
   have hge:=findA_ge h
   obtain⟨y,hy,hk⟩:=findA_key h
   refine⟨y,?_,hk⟩
   rw[show j-i=(j-(i+1))+1 by omega,List.getElem?_cons_succ]
   exact hy
  ·simp_all
theorem sameBits_self{kk:KK}{k:Value}(h:kk.ok k=true):Instr.sameBits 10000 k k=true:=by
 show Instr.sameBits (9999+1) k k=true
 have hb:∀ (s:ByteArray),(s==s)=true:=fun s=>by
  cases s with|mk x=>exact(show (x==x)=true by simp)
 cases kk<;>cases k<;>simp[KK.ok]at h<;>simp[Instr.sameBits,hb]
theorem mapUpdate_ok[Glob]{P:Program}{E:Env}{hp:AHeap}{w:World}(hI:Inv E hp w){t:TypeId}{x ix a:AV}{vx vi va:Value}(hx:Rep E true x vx)(hi:Rep E true ix vi)(ha:Rep E true a va){e:Eff}
  (h:(mapUpdateA P t x ix a).run hp=some e):e.val=.undef∧∃ w',(Instr.mapUpdate t vx vi va).run P w=.ok () w'∧Inv E (applyWr hp e.wr) w'∧Fr E w E w':=by
 unfold mapUpdateA at h
 split at h
 case h_2=>simp[RM.run_fail]at h
 rename_i kk et hmt
 obtain⟨kt,h1,h2⟩:=mapTy_some hmt
 split at h
 case h_2=>simp[RM.run_fail]at h
 rename_i k n
 simp only[Rep]at hi hx
 subst hi
 obtain⟨_,hnL,l,b,hl,hb,rfl⟩:=hx
 split at h
 case h_2=>simp[RM.run_fail]at h
 rename_i hok
 simp only[RM.run]at h
 split at h
 case h_2=>simp at h
 rename_i o ho
 split at h
 case h_2=>simp[RM.run_fail]at h
 rename_i kk' keys vs
 split at h
 case isFalse=>simp[RM.run_fail]at h
 rename_i hkk
 subst hkk
 obtain⟨l0,b0,ob,us,g1,g2,g3,g4,g5,g6,g7,g8⟩:=hI.objs n _ ho
 rw[hl]at g1; cases g1
 rw[hb]at g2; cases g2
 have hnl:n≠hp.length:=by have:=getElem?_lt ho; omega
 have hwr:∀ ob',applyWr hp [(n,ob')]=hp.set n (some ob'):=fun ob'=>by simp[applyWr,setObj,hnl]
 cases ob with
 |map es clock=>
  obtain⟨k1,k2,k3⟩:=g7
  have hes:∀ e∈es.toList,kk'.ok e.key=true:=fun e he=>k3 _ (by rw[←k1]; exact List.mem_map.2 ⟨e,he,rfl⟩)
  have hf:=run_findKey (P:=P) h2 hok hes w
  rw[k1]at hf
  have hlen:us.length=keys.length:=by rw[←k1,←k2]; simp
  have start:∀ (f:Option (Nat×Value)),(Instr.findKey kt vi es.toList).run P w=.ok f w→(Instr.mapUpdate t (.map (some b)) vi va).run P w =
    ((match f with
      |some (i,_)=>do
       let key ←Instr.keyThatStays (((es[i]?).map (·.key)).getD vi) vi
       Go.setObj b (.map (es.modify i fun e=>{ e with key,val:=va }) clock)
      |none=>Go.setObj b (.map (es.push { key:=vi,val:=va,born:=clock }) (clock+1)):Sem Unit)).run P w:=by
   intro f hf
   simp only[Instr.mapUpdate,Sem.run_bind,run_und h1,Result.andThen,run_getObj' g3,run_checkKey h2,hf]
   rfl
  split at h
  ·rename_i i hfi
   simp only[RM.run_pure,Option.some.injEq]at h
   subst h
   refine⟨rfl,?_⟩
   rw[hfi]at hf
   obtain⟨y,hy,hky⟩:=findA_key hfi
   simp only[Nat.sub_zero]at hy
   have hyk:y=vi:=eqKey_eq hok (k3 y (List.mem_of_getElem? hy)) hky
   subst hyk
   have hy':=hy
   rw[←k1,List.getElem?_map]at hy'
   obtain⟨e,he,hek⟩:=Option.map_eq_some_iff.1 hy'
   simp only[he,Option.map_some]at hf
   have hei:es[i]?=some e:=by simpa using he
   have hst:=start _ hf
   simp only[hei,Option.map_some,Option.getD_some,hek,Instr.keyThatStays,sameBits_self hok,if_true]at hst
   have hset:=oth_set (k':=.map kk' keys) (vs':=vs.set i a) (us':=us.set i va) (ob:=.map (es.modify i fun e=>{ e with key:=y,val:=va }) clock) hI ho hl hb
    ⟨by
      rw[←k1]
      apply List.ext_getElem?
      intro j
      simp only[List.getElem?_map,Array.getElem?_toList,Array.getElem?_modify]
      split
      ·rename_i hij; subst hij; rw[hei]; simp[hek]
      ·rfl,by
      rw[←k2]
      apply List.ext_getElem?
      intro j
      simp only[List.getElem?_map,Array.getElem?_toList,Array.getElem?_modify,List.getElem?_set,List.length_map,Array.length_toList]
      split
      ·rename_i hij; subst hij
       have:i<es.size:=(Array.getElem?_eq_some_iff.1 hei).1
       rw[hei]; simp[this]
      ·rfl,k3⟩ (g8.set i ha)
   refine⟨_,?_,by rw[hwr]; exact hset.1,hset.2⟩
   rw[hst]
   simp only[Sem.run_bind,Sem.run_pure,Result.andThen]
   exact run_setObj' g3 (by intro c T fz h; cases h)
  ·rename_i hfi
   simp only[RM.run_pure,Option.some.injEq]at h
   subst h
   refine⟨rfl,?_⟩
   rw[hfi]at hf
   have hset:=oth_set (k':=.map kk' (keys++[vi])) (vs':=vs++[a]) (us':=us++[va]) (ob:=.map (es.push { key:=vi,val:=va,born:=clock }) (clock+1)) hI ho hl hb
    ⟨by simp[←k1],by simp[←k2],by
      intro q hq
      rcases List.mem_append.1 hq with hq|hq
      ·exact k3 q hq
      ·simp only[List.mem_singleton]at hq; subst hq; exact hok⟩ (g8.append (by simp only[RepT]; exact⟨ha,trivial⟩))
   refine⟨_,?_,by rw[hwr]; exact hset.1,hset.2⟩
   rw[start none hf]
   exact run_setObj' g3 (by intro c T fz h; cases h)
 |_=>exact g7.elim
end Go.PI
end
section
/- PI, part R: the theorem on one operation. -/
namespace Go.PI
theorem opEff_ok[Glob]{P:Program}{E:Env}{hp:AHeap}{w:World}(hI:Inv E hp w){nm:Nat}(hnm:nm=hp.length∨hp[nm]?=some none){ev:Operand→AV}{ρ:Operand→Value}
  (hev:∀ x,Rep E true (ev x) (ρ x)) {o:Oper} {e:Eff} (h:(opEff P nm ev o).run hp=some e):Step P E hp w (execOp ρ o) e:=by
 obtain⟨dst,op,type,pos,after,guard⟩:=o
 unfold opEff at h
 simp only at h
 cases op with
 |move x=>
  simp only[RM.run_pure,Option.some.injEq]at h; subst h
  exact⟨E,w,ρ x,.inl rfl,Ext.refl E,hI,Fr.refl E w,hev x⟩
 |assign x=>
  simp only[RM.run_pure,Option.some.injEq]at h; subst h
  exact⟨E,w,ρ x,.inl rfl,Ext.refl E,hI,Fr.refl E w,hev x⟩
 |pick c a b=>
  simp only at h
  split at h
  case h_2=>simp[RM.run_fail]at h
  rename_i t ht
  simp only[RM.run_pure,Option.some.injEq]at h; subst h
  have hc:=hev c
  rw[ht]at hc
  simp only[Rep]at hc
  refine⟨E,w,if t then ρ a else ρ b,.inl ?_,Ext.refl E,hI,Fr.refl E w,?_⟩
  ·simp[execOp,hc,asBool]
  ·cases t
   ·exact hev b
   ·exact hev a
 |alloc t=>
  simp only at h
  split at h
  case h_2=>simp[RM.run_fail]at h
  rename_i r hr
  split at h
  case h_2=>simp[RM.run_fail]at h
  rename_i z hz
  split at h
  case isFalse=>simp[RM.run_fail]at h
  rename_i hpos
  simp only[RM.run_pure,Option.some.injEq]at h; subst h
  obtain⟨zv,hzv,hzs,rfl,_,hzl,hzt⟩:=elemZero_ok hz
  have hrep:Rep E true (ofVal zv) zv:=ofVal_rep zv (fun c hc=>by subst hc; simpa[Value.cells] using hzl)
  have hcells:=cellsOf_ofVal zv hzt
  obtain⟨E',w',v,h1,h2⟩:=box_ok (P:=P) hI hnm (t:=t) hrep (by rw[hcells]; simpa[List.all_map] using hzl) (by rw[hcells]; simp; omega) (cl:=true)
   (fun _=>by rw[hcells]; exact closedL_lits _)
  refine step_mk ⟨E',w',v,?_,h2⟩
  simpa[Instr.alloc,run_zero hr hzv w] using h1
 |box t x=>
  simp only at h
  split at h
  case isFalse=>simp[RM.run_fail]at h
  rename_i hc
  simp only[RM.run_pure,Option.some.injEq]at h; subst h
  obtain⟨E',w',v,h1,h2⟩:=box_ok (P:=P) hI hnm (t:=t) (hev x) hc.1 hc.2 (cl:=closedL (cellsOf (ev x))) (fun h=>h)
  exact step_mk ⟨E',w',v,h1,h2⟩
 |build t parts=>
  obtain⟨y,hy,rfl⟩:=opt_run h
  exact step_val hI (build_ok (repP_map hev parts) hy w)
 |buildSlice t len parts=>
  simp only[RM.run_ofOpt]at h
  exact step_mk (buildSlice_ok hI hnm (repP_map hev parts) h)
 |load t a=>
  simp only[RM.run_bind]at h
  cases hq:(loadA P t (ev a)).run hp with
  |none=>rw[hq]at h; simp at h
  |some x=>
   rw[hq]at h
   simp only[Option.bind_some,RM.run_pure,Option.some.injEq]at h; subst h
   exact step_val hI (load_ok hI (hev a) hq)
 |store t a x=>
  obtain⟨w',h1,h2,h3,h4⟩:=store_ok (P:=P) hI (hev a) (hev x) h
  refine⟨E,w',undef,.inr ⟨?_,rfl⟩,Ext.refl E,h2,h3,?_⟩
  ·simp[execOp,h1]
  ·rw[h4]; simp[Rep]
 |nilCheck x=>
  simp only at h
  have hx:=hev x
  split at h
  ·rename_i n ver i j hq
   simp only[RM.run_pure,Option.some.injEq]at h; subst h
   rw[hq]at hx
   have hx':=hx
   simp only[Rep]at hx
   obtain⟨_,_,_,b,_,_,hv⟩:=hx
   exact⟨E,w,ρ x,.inl (by simp[execOp,hv]),Ext.refl E,hI,Fr.refl E w,hx'⟩
  ·rename_i e j hq
   simp only[RM.run_pure,Option.some.injEq]at h; subst h
   rw[hq]at hx
   have hx':=hx
   simp only[Rep]at hx
   obtain⟨_,_,_,_,hv,_⟩:=hx
   exact⟨E,w,ρ x,.inl (by simp[execOp,hv]),Ext.refl E,hI,Fr.refl E w,hx'⟩
  ·rename_i t y hq
   simp only[RM.run_pure,Option.some.injEq]at h; subst h
   rw[hq]at hx
   have hx':=hx
   simp only[Rep]at hx
   obtain⟨_,hv,_⟩:=hx
   exact⟨E,w,ρ x,.inl (by simp[execOp,hv]),Ext.refl E,hI,Fr.refl E w,hx'⟩
  ·rename_i f a c hq
   simp only[RM.run_pure,Option.some.injEq]at h; subst h
   rw[hq]at hx
   have hx':=hx
   simp only[Rep]at hx
   obtain⟨fv,cv,hv,_⟩:=hx
   exact⟨E,w,ρ x,.inl (by simp[execOp,hv]),Ext.refl E,hI,Fr.refl E w,hx'⟩
  ·rename_i f a c hq
   simp only[RM.run_pure,Option.some.injEq]at h; subst h
   rw[hq]at hx
   have hx':=hx
   simp only[Rep]at hx
   exact⟨E,w,ρ x,.inl (by simp[execOp,hx]),Ext.refl E,hI,Fr.refl E w,hx'⟩
  ·simp[RM.run_fail]at h
 |binOp bop t x y yt=>
  obtain⟨r,hr,rfl⟩:=opt_run h
  exact step_val hI (bin_ok (hev x) (hev y) hr w)
 |unOp uop t x=>
  simp only at h
  split at h
  case h_2=>simp[RM.run_fail]at h
  rename_i a hq
  obtain⟨r,hr,rfl⟩:=opt_run h
  have hx:=hev x
  rw[hq]at hx
  simp only[Rep]at hx
  refine step_val hI ?_
  rw[hx]
  exact pure_ok hr w
 |convert s d x=>
  simp only at h
  split at h
  case h_2=>simp[RM.run_fail]at h
  rename_i a hq
  obtain⟨r,hr,rfl⟩:=opt_run h
  have hx:=hev x
  rw[hq]at hx
  simp only[Rep]at hx
  refine step_val hI ?_
  rw[hx]
  exact pure_ok hr w
 |makeInterface t x=>
  simp only at h
  split at h
  ·simp[RM.run_fail]at h
  rename_i hc
  simp only[RM.run_pure,Option.some.injEq]at h; subst h
  refine step_val hI ⟨.iface t (ρ x),?_,by simp only[Rep]; exact⟨_,rfl,hev x⟩⟩
  cases hu:P.underlying t with
  |none=>rw[hu]at hc; simp at hc
  |some d=>
   simp only[Instr.makeInterface,Sem.run_bind,run_underlying hu w,Result.andThen_ok]
   cases d<;>first|rfl|(simp[isIfaceTy,hu]at hc)
 |makeFunc fn first captured=>
  simp only at h
  split at h
  ·rename_i hc
   simp only[RM.run_pure,Option.some.injEq]at h; subst h
   simp only[Bool.and_eq_true,Array.isEmpty_iff]at hc
   obtain⟨rfl,rfl⟩:=hc
   exact step_val hI ⟨.func fn #[] #[],by simp[Instr.makeFunc],by simp[Rep]⟩
  ·simp only[RM.run_pure,Option.some.injEq]at h; subst h
   refine step_val hI ⟨.func fn (first.map ρ) (captured.map ρ),by simp[Instr.makeFunc],?_⟩
   simp only[Rep]
   refine⟨first.toList.map ρ,captured.toList.map ρ,?_,repT_map hev _,repT_map hev _⟩
   rw[←Array.toList_map,←Array.toList_map]
 |makeSlice t l c=>
  simp only[RM.run_ofOpt]at h
  exact step_mk (makeSlice_ok hI hnm (hev l) (hev c) h)
 |slice t x lo hi mx=>
  obtain⟨r,hr,rfl⟩:=opt_run h
  exact step_val hI (cut_ok (hev x) (repO_map hev lo) (repO_map hev hi) (repO_map hev mx) hr w)
 |sliceToArrayPointer t x=>
  simp only at h
  have hx:=hev x
  split at h
  case h_2=>simp[RM.run_fail]at h
  rename_i len r n ver i j l cap hf hq
  split at h
  case isFalse=>simp[RM.run_fail]at h
  rename_i hle
  simp only[RM.run_pure,Option.some.injEq]at h; subst h
  rw[hq]at hx
  simp only[Rep]at hx
  obtain⟨ho,hn,_,lo,b,hl,hb,hv⟩:=hx
  obtain⟨el,hu,hte⟩:=arrayElem_some hf
  refine step_val hI ⟨.pointer (some ⟨b,i*lo.esz+j,none⟩),?_,?_⟩
  ·rw[hv]
   simp only[Instr.arrayAt,Sem.run_bind,run_underlying hu w,Result.andThen_ok]
   rw[Sem.run_ite,if_neg (by omega)]
   rfl
  ·simp only[Rep]
   exact⟨trivial,hn,lo,b,hl,hb,rfl⟩
 |fieldAddr s x f=>
  simp only at h
  have hx:=hev x
  split at h
  ·rename_i off r n ver i j hf hq
   simp only[RM.run_pure,Option.some.injEq]at h; subst h
   rw[hq]at hx
   simp only[Rep]at hx
   obtain⟨ho,hn,l,b,hl,hb,hv⟩:=hx
   refine step_val hI ⟨_,by rw[hv]; exact fieldAt_ok hf _ _ w,?_⟩
   simp only[Rep]
   exact⟨trivial,hn,l,b,hl,hb,by rw[Nat.add_assoc]⟩
  ·rename_i off r e j hf hq
   simp only[RM.run_pure,Option.some.injEq]at h; subst h
   rw[hq]at hx
   simp only[Rep]at hx
   obtain⟨b,of,c,ve,hv,hm,he,hat⟩:=hx
   refine step_val hI ⟨_,by rw[hv]; exact fieldAt_ok hf _ _ w,?_⟩
   simp only[Rep]
   exact⟨b,of,c,ve,by rw[Nat.add_assoc],hm,he,hat⟩
  ·simp[RM.run_fail]at h
 |field s x f=>
  simp only at h
  have hx:=hev x
  split at h
  case h_2=>simp[RM.run_fail]at h
  rename_i off r l hf hq
  obtain⟨y,hy,rfl⟩:=opt_run h
  rw[hq]at hx
  exact step_val hI (field_ok hf hx hy w)
 |indexAddr t x ix=>
  obtain⟨r,hr,rfl⟩:=opt_run h
  exact step_val hI (indexAddr_ok (hev x) (hev ix) hr w)
 |index t x ix=>
  obtain⟨r,hr,rfl⟩:=opt_run h
  refine step_val hI ?_
  have hx:=hev x
  have hi:=hev ix
  unfold indexA at hr
  split at hr
  ·rename_i s hq
   rw[hq]at hx
   simp only[Rep]at hx
   split at hr
   case h_2=>simp at hr
   rename_i i hq2
   rw[hq2]at hi
   simp only[Rep]at hi
   rw[hx,hi]
   exact pure_ok hr w
  ·rename_i l hq
   split at hr
   case h_2=>simp at hr
   rename_i n q i ha hn
   split at hr
   case isFalse=>simp at hr
   rename_i hlt
   rw[hq]at hx
   simp only[Rep]at hx
   obtain⟨c,hv,hc⟩:=hx
   obtain⟨k,hk⟩:=asNat_val hn hi
   obtain⟨el,hu,hte⟩:=arrayElem_some ha
   obtain⟨u,h1,h2⟩:=run_part hte hc hr w
   refine⟨u,?_,h2⟩
   rw[hv,hk]
   simp only[Instr.index,asIntOf,Sem.run_bind,Sem.run_pure,Result.andThen_ok,run_underlying hu w]
   rw[Sem.run_ite,if_pos ⟨by omega,by omega⟩]
   simp only[Sem.run_bind,run_sizeOf' hte w,Result.andThen_ok,Int.toNat_natCast]
   exact h1
  ·simp at hr
 |extract t ix=>
  simp only at h
  have hx:=hev t
  split at h
  case h_2=>simp[RM.run_fail]at h
  rename_i l hq
  obtain⟨y,hy,rfl⟩:=opt_run h
  rw[hq]at hx
  simp only[Rep]at hx
  obtain⟨c,hv,hc⟩:=hx
  obtain⟨u,hu,hr⟩:=hc.get hy
  refine step_val hI ⟨u,?_,hr⟩
  rw[hv]
  simp[Instr.extract,hu]
 |makeMap t r=>
  simp only[RM.run_ofOpt]at h
  refine step_mk (makeMap_ok hI hnm (vr:=r.map ρ) (fun x hx=>?_) (fun hx=>?_) h)
  ·cases r with
   |none=>simp at hx
   |some y=>simp only[Option.map_some,Option.some.injEq]at hx; subst hx; exact⟨_,rfl,hev y⟩
  ·cases r with
   |none=>rfl
   |some y=>simp at hx
 |lookup t x ix c=>
  obtain⟨h1,v,h2,h3⟩:=lookup_ok hI (hev x) (hev ix) h
  obtain⟨ev,ew⟩:=e
  simp only at h1 h3
  subst h1
  exact step_val hI ⟨v,h2,h3⟩
 |mapUpdate t m k x=>
  obtain⟨h1,w',h2,h3,h4⟩:=mapUpdate_ok hI (hev m) (hev k) (hev x) h
  exact⟨E,w',undef,.inr ⟨by simp[execOp,h2,Result.andThen],rfl⟩,Ext.refl E,h3,h4,by rw[h1]; simp[Rep]⟩
 |call c=>
  obtain⟨callee,args,argTypes⟩:=c
  cases callee with
  |builtin b=>
   simp only at h
   have ha:=repT_map hev args.toList
   have:=builtin_ok (consts:=args.map fun|.const _=>true|_=>false) hI hnm ha h
   obtain⟨E',w',v,h1,h2⟩:=this
   refine⟨E',w',v,?_,h2⟩
   have hargs:(args.toList.map ρ).toArray=args.map ρ:=by rw[←Array.toList_map]
   rw[hargs]at h1
   exact h1
  |value f=>simp[RM.run_fail]at h
  |invoke r m=>simp[RM.run_fail]at h
 |_=>simp[RM.run_fail]at h
end Go.PI
end
section
/- PI, part S: values handed over by value. -/
namespace Go.PI
noncomputable def Env.still(E:Env)(hp:AHeap)(w:World)(N:Nat→Prop):Env where
 ρ:=fun _ _=>none
 m:=fun b=>match E.m b with
  |some c=>some c
  |none=>open Classical in if ∃ n,N n∧BlkOf E hp n b then (match w.heap[b]? with|some (.cells c _ _)=>some c|_=>none) else none
 L:=0
 own:=fun _=>False
theorem still_ext{E:Env}{hp:AHeap}{w:World}{N:Nat→Prop}:Ext0 E (E.still hp w N):=⟨fun b c h=>by simp[Env.still,h]⟩
theorem still_blk[Glob]{E:Env}{hp:AHeap}{w:World}(hI:Inv E hp w){N:Nat→Prop}{n:Nat}(hN:N n){g cl fz:Bool}{es:List AV}(hn:hp[n]?=some (some (.arr g cl fz es)))
  {l:Loc} (hl:E.ρ n es.length=some l) {b:Nat} (hb:l.blk=some b) {c:Array Value} {T:TypeId} (hw:w.heap[b]?=some (.cells c T (0,0)))
  (hf:if fz then E.m b=some c else E.m b=none∧E.own b):(E.still hp w N).m b=some c:=by
 cases fz with
 |true=>simp only[if_true]at hf; simp[Env.still,hf]
 |false=>
  simp only[Bool.false_eq_true,if_false]at hf
  have:∃ n,N n∧BlkOf E hp n b:=⟨n,hN,_,l,hn,hl,hb⟩
  simp[Env.still,hf.1,this,hw]
def SealH(hp:AHeap)(N:Nat→Prop)(l:List Nat):Prop:=
 (∀ n∈l,N n)∧∀ n,N n→∀ g f es,hp[n]?=some (some (.arr g false f es))→∀ m∈namesL es,N m
theorem namesL_get{x:AV}:∀ {l:List AV} {i:Nat},l[i]?=some x→∀ n∈names x,n∈namesL l
 |[],i,h=>by simp at h
 |y::l,0,h=>by
  simp only[List.getElem?_cons_zero,Option.some.injEq]at h; subst h
  intro n hn; simp[namesL,hn]
 |y::l,i+1,h=>by
  simp only[List.getElem?_cons_succ]at h
  intro n hn; simp[namesL,namesL_get h n hn]
theorem mem_namesL{n:Nat}:∀ {l:List AV},n∈namesL l→∃ x∈l,n∈names x
 |[],h=>by simp[namesL]at h
 |y::l,h=>by
  simp only[namesL,List.mem_append]at h
  rcases h with h|h
  ·exact⟨y,by simp,h⟩
  ·obtain⟨x,hx,hn⟩:=mem_namesL h
   exact⟨x,by simp[hx],hn⟩
theorem namesL_sub[Glob]{l l':List AV}(h:∀ x∈l',x∈l):∀ n∈namesL l',n∈namesL l:=by
 intro n hn
 obtain⟨x,hx,hn'⟩:=mem_namesL hn
 obtain⟨i,hi⟩:=List.mem_iff_getElem?.1 (h x hx)
 exact namesL_get hi n hn'
theorem seal_ok[Glob]{E:Env}{hp:AHeap}{w:World}(hI:Inv E hp w){N:Nat→Prop}:∀ k,
  (∀ (x y:AV) (v:Value),SealH hp N (names x)→(sealV k x).run hp=some y→Rep E true x v→Rep (E.still hp w N) false y v) ∧
  (∀ (l l':List AV) (vs:List Value),SealH hp N (namesL l)→(sealL k l).run hp=some l'→RepT E true l vs→RepT (E.still hp w N) false l' vs):=by
 intro k
 induction k with
 |zero=>exact⟨fun _ _ _ _ h=>by simp[sealV,RM.run_fail]at h,fun _ _ _ _ h=>by simp[sealL,RM.run_fail]at h⟩
 |succ k ih=>
  obtain⟨ihV,ihL⟩:=ih
  refine⟨fun x y v hH h hr=>?_,fun l l' vs hH h hr=>?_⟩
  ·cases x with
   |lit u=>
    simp only[sealV]at h
    split at h
    ·simp only[RM.run_pure,Option.some.injEq]at h; subst h
     simp only[Rep]at hr ⊢
     subst hr
     exact⟨none,0,rfl,by simp,fun _=>rfl,.inl trivial⟩
    ·simp only[RM.run_pure,Option.some.injEq]at h; subst h
     simpa only[Rep] using hr
   |agg l=>
    simp only[sealV,RM.run_bind]at h
    cases hq:(sealL k l).run hp with
    |none=>rw[hq]at h; simp at h
    |some l'=>
     rw[hq]at h
     simp only[Option.bind_some,RM.run_pure,Option.some.injEq]at h; subst h
     simp only[Rep]at hr ⊢
     obtain⟨c,rfl,hc⟩:=hr
     exact⟨c,rfl,RepL.of (ihL l l' c (by simpa[names] using hH) hq hc.toT) hc.leaf⟩
   |tup l=>
    simp only[sealV,RM.run_bind]at h
    cases hq:(sealL k l).run hp with
    |none=>rw[hq]at h; simp at h
    |some l'=>
     rw[hq]at h
     simp only[Option.bind_some,RM.run_pure,Option.some.injEq]at h; subst h
     simp only[Rep]at hr ⊢
     obtain⟨c,rfl,hc⟩:=hr
     exact⟨c,rfl,ihL l l' c (by simpa[names] using hH) hq hc⟩
   |ifc t u=>
    simp only[sealV,RM.run_bind]at h
    cases hq:(sealV k u).run hp with
    |none=>rw[hq]at h; simp at h
    |some u'=>
     rw[hq]at h
     simp only[Option.bind_some,RM.run_pure,Option.some.injEq]at h; subst h
     simp only[Rep]at hr ⊢
     obtain⟨c,rfl,hc⟩:=hr
     exact⟨c,rfl,ihV u u' c (by simpa[names] using hH) hq hc⟩
   |clo fn f c=>
    simp only[sealV,RM.run_bind]at h
    cases hq:(sealL k f).run hp with
    |none=>rw[hq]at h; simp at h
    |some f'=>
     rw[hq]at h
     simp only[Option.bind_some]at h
     cases hq2:(sealL k c).run hp with
     |none=>rw[hq2]at h; simp at h
     |some c'=>
      rw[hq2]at h
      simp only[Option.bind_some,RM.run_pure,Option.some.injEq]at h; subst h
      simp only[Rep]at hr ⊢
      obtain⟨fv,cv,rfl,h1,h2⟩:=hr
      have hH1:SealH hp N (namesL f):=⟨fun n hn=>hH.1 n (by simp[names,hn]),hH.2⟩
      have hH2:SealH hp N (namesL c):=⟨fun n hn=>hH.1 n (by simp[names,hn]),hH.2⟩
      exact⟨fv,cv,rfl,ihL f f' fv hH1 hq h1,ihL c c' cv hH2 hq2 h2⟩
   |sl xs=>
    simp only[sealV,RM.run_pure,Option.some.injEq]at h; subst h
    exact Rep.mono0 still_ext (x:=.sl xs) (by simpa only[Rep] using hr)
   |slx xs cp=>
    simp only[sealV,RM.run_pure,Option.some.injEq]at h; subst h
    simp only[Rep]at hr ⊢
    obtain⟨a,rfl,hl,hx⟩:=hr
    refine⟨some a,cp,rfl,hl,by simp,hx.imp id ?_⟩
    rintro⟨b,of,esz,c,rfl,hm,hs⟩
    exact⟨b,of,esz,c,rfl,still_ext.m _ _ hm,RepS.mono0 still_ext hs⟩
   |eref e j=>
    simp only[sealV,RM.run_pure,Option.some.injEq]at h; subst h
    exact Rep.mono0 still_ext (x:=.eref e j) (by simpa only[Rep] using hr)
   |nz=>
    simp only[sealV,RM.run_pure,Option.some.injEq]at h; subst h
    simp only[Rep]at hr ⊢
    obtain⟨a,rfl⟩:=hr
    exact⟨a,0,rfl,by simp,fun _=>rfl,.inl trivial⟩
   |osl esz n ver off len cap=>
    simp only[sealV,RM.run_bind]at h
    cases hq:(RM.arr n ver).run hp with
    |none=>rw[hq]at h; simp at h
    |some q=>
     obtain⟨g,cl,fz,es⟩:=q
     obtain⟨hn,hv⟩:=RM.run_arr hq
     rw[hq]at h
     simp only[Option.bind_some]at h
     subst hv
     simp only at hn h hr
     split at h
     case isFalse=>simp[RM.run_fail]at h
     rename_i hle
     have hlen:((es.drop off).take len).length=len:=by simp; omega
     have hN:N n:=hH.1 n (by simp[names])
     simp only[Rep]at hr
     obtain⟨_,hnL,l,hl,hez,hvt,hm⟩:=hr
     cases hb:l.blk with
     |none=>
      rw[hb]at hm
      obtain⟨rfl,_,_,rfl,_⟩:=hm
      have hnil:y=.sl []:=by
       split at h
       ·simp_all[RM.run_pure]
       ·simp only[List.take_zero,RM.run_bind]at h
        cases k with
        |zero=>simp[sealL,RM.run_fail]at h
        |succ k=>simp_all[sealL,RM.run_pure]
      subst hnil
      simp only[Rep]
      exact⟨none,0,rfl,by simp,fun _=>rfl,.inl trivial⟩
     |some b=>
      rw[hb]at hm
      simp only at hm
      obtain⟨a,ccap,rfl,hk,hno,hlc,hoc,hpos,haddr⟩:=hm
      obtain⟨l',hl',_,hmo⟩:=hI.objs n _ hn
      rw[hl]at hl'; cases hl'
      rw[hb]at hmo
      obtain⟨c,T,hw,hown,_,hcs,htot,hgt,hel⟩:=hmo
      have hstill:=still_blk hI hN hn hl hb hw hown
      have fin:∀ ys:List AV,ys.length=len→(∀ (i:Nat) (e:AV),ys[i]?=some e→∃ v,Rep (E.still hp w N) false e v∧At c (off*l.esz+i*l.esz) l.esz v) →
        Rep (E.still hp w N) false (.sl ys) (.slice (some a) len ccap):=by
       intro ys hys hels
       simp only[Rep]
       refine⟨some a,ccap,by rw[hys],by omega,by simp,?_⟩
       by_cases h0:len=0
       ·left; apply List.eq_nil_of_length_eq_zero; omega
       ·right
        exact⟨b,off*l.esz,l.esz,c,by rw[haddr (by omega)],hstill,RepS.of_get hels⟩
      have hels:∀ (i:Nat) (e:AV),((es.drop off).take len)[i]?=some e→∃ v,Rep E (!cl) e v∧At c (off*l.esz+i*l.esz) l.esz v:=by
       intro i e he
       have hi:=getElem?_lt he
       rw[hlen]at hi
       rw[List.getElem?_take_of_lt hi,List.getElem?_drop]at he
       obtain⟨v,hv,hat⟩:=hel (off+i) e he
       exact⟨v,hv,by rw[←Nat.add_mul]; exact hat⟩
      cases cl with
      |true=>
       simp only[if_true,RM.run_pure,Option.some.injEq]at h; subst h
       exact fin _ hlen fun i e he=>by
        obtain⟨v,hv,hat⟩:=hels i e he
        exact⟨v,Rep.mono0 still_ext hv,hat⟩
      |false=>
       have hall:SealH hp N (namesL ((es.drop off).take len)):=
        ⟨fun m hm=>hH.2 n hN g fz es hn m (namesL_sub (fun x hx=>List.mem_of_mem_drop (List.mem_of_mem_take hx)) m hm),hH.2⟩
       simp only[Bool.false_eq_true,if_false,RM.run_bind]at h
       cases hq2:(sealL k ((es.drop off).take len)).run hp with
       |none=>rw[hq2]at h; simp at h
       |some ys=>
        rw[hq2]at h
        simp only[Option.bind_some,RM.run_pure,Option.some.injEq]at h; subst h
        have hvals:∃ vs:List Value,vs.length=len∧(∀ (i:Nat) (e:AV) (v:Value),((es.drop off).take len)[i]?=some e→vs[i]?=some v→Rep E true e v∧At c (off*l.esz+i*l.esz) l.esz v):=by
         refine⟨(List.range len).map fun i=>if hi:i<((es.drop off).take len).length then Classical.choose (hels i _ (List.getElem?_eq_getElem hi)) else undef,by simp,fun i e v he hv=>?_⟩
         have hi:=getElem?_lt he
         have hi':i<len:=by omega
         simp only[List.getElem?_map,List.getElem?_range hi',Option.map_some,Option.some.injEq,dif_pos hi]at hv
         have hsp:=Classical.choose_spec (hels i _ (List.getElem?_eq_getElem hi))
         rw[hv]at hsp
         rw[List.getElem?_eq_getElem hi]at he
         simp only[Option.some.injEq]at he
         rw[he]at hsp
         exact hsp
        obtain⟨vs,hvl,hvs⟩:=hvals
        have hT:RepT E true ((es.drop off).take len) vs:=RepT.of_get (by omega) fun i e v he hv=>(hvs i e v he hv).1
        have hT':=ihL _ _ vs hall hq2 hT
        have hyl:=hT'.length
        refine fin ys (by omega) fun i e he=>?_
        obtain⟨v,hv,hr⟩:=hT'.get he
        have hi:=getElem?_lt he
        have hi2:i<((es.drop off).take len).length:=by omega
        exact⟨v,hr,(hvs i _ v (List.getElem?_eq_getElem hi2) hv).2⟩
   |ref n ver i j=>
    simp only[sealV,RM.run_bind]at h
    cases hq:(RM.arr n ver).run hp with
    |none=>rw[hq]at h; simp at h
    |some q=>
     obtain⟨g,cl,fz,es⟩:=q
     obtain⟨hn,hv⟩:=RM.run_arr hq
     rw[hq]at h
     simp only[Option.bind_some]at h
     subst hv
     simp only at hn h hr
     split at h
     case h_2=>simp[RM.run_fail]at h
     rename_i e he
     have hN:N n:=hH.1 n (by simp[names])
     simp only[Rep]at hr
     obtain⟨_,hnL,l,b,hl,hb,rfl⟩:=hr
     obtain⟨l',hl',_,hmo⟩:=hI.objs n _ hn
     rw[hl]at hl'; cases hl'
     rw[hb]at hmo
     obtain⟨c,T,hw,hown,_,hcs,htot,hgt,hel⟩:=hmo
     have hstill:=still_blk hI hN hn hl hb hw hown
     obtain⟨ve,hve,hat⟩:=hel i e he
     cases cl with
     |true=>
      simp only[if_true,RM.run_pure,Option.some.injEq]at h; subst h
      simp only[Rep]
      exact⟨b,i*l.esz,c,ve,rfl,hstill,Rep.mono0 still_ext hve,by rw[hat.1]; exact hat⟩
     |false=>
      simp only[Bool.false_eq_true,if_false,RM.run_bind]at h
      cases hq2:(sealV k e).run hp with
      |none=>rw[hq2]at h; simp at h
      |some e'=>
       rw[hq2]at h
       simp only[Option.bind_some,RM.run_pure,Option.some.injEq]at h; subst h
       simp only[Rep]
       have hsub:SealH hp N (names e):=⟨fun m hm=>hH.2 n hN g fz es hn m (namesL_get he m hm),hH.2⟩
       exact⟨b,i*l.esz,c,ve,rfl,hstill,ihV e e' ve hsub hq2 hve,by rw[hat.1]; exact hat⟩
   |asl n ver i j len cap=>
    simp only[sealV,RM.run_bind]at h
    cases hq:(RM.arr n ver).run hp with
    |none=>rw[hq]at h; simp at h
    |some q=>
     obtain⟨g,cl,fz,es⟩:=q
     obtain⟨hn,hv⟩:=RM.run_arr hq
     rw[hq]at h
     simp only[Option.bind_some]at h
     subst hv
     simp only at hn h hr
     split at h
     case h_2=>simp[RM.run_fail]at h
     rename_i cs he
     split at h
     case isFalse=>simp[RM.run_fail]at h
     rename_i hle
     have hlen:((cs.drop j).take len).length=len:=by simp; omega
     have hN:N n:=hH.1 n (by simp[names])
     simp only[Rep]at hr
     obtain⟨_,hnL,_,l,b,hl,hb,rfl⟩:=hr
     obtain⟨l',hl',_,hmo⟩:=hI.objs n _ hn
     rw[hl]at hl'; cases hl'
     rw[hb]at hmo
     obtain⟨c,T,hw,hown,_,hcs,htot,hgt,hel⟩:=hmo
     have hstill:=still_blk hI hN hn hl hb hw hown
     obtain⟨ve,hve,hat⟩:=hel i _ he
     simp only[Rep]at hve
     obtain⟨cv,rfl,hcv⟩:=hve
     have hvl:=hcv.toT.length
     have hat2:=hat.2.1
     have hcell:∀ (t:Nat) (u:Value),cv[t]?=some u→At c (i*l.esz+t) 1 u:=by
      intro t u hu
      have hlu:leafV u=true:=hcv.leaf u (List.mem_of_getElem? hu)
      have hlt:t<l.esz:=by
       have h1:=hat.1
       have h2:(Value.agg cv.toArray).cells.size=cv.length:=by simp[Value.cells]
       have:=getElem?_lt hu
       omega
      have h3:=hat2 t hlt
      have h4:(Value.agg cv.toArray).cells[t]?=some u:=by simpa[Value.cells] using hu
      refine⟨by rw[cells_leaf hlu]; rfl,fun q hq=>?_,fun x hx=>?_⟩
      ·obtain rfl:q=0:=by omega
       rw[Nat.add_zero,h3,h4,cells_leaf hlu]
       rfl
      ·rw[cells_leaf hlu]at hx
       have:x=u:=by simpa using hx
       rw[this]; exact hlu
     have fin:∀ ys:List AV,ys.length=len→(∀ (t:Nat) (e:AV),ys[t]?=some e→∃ v,Rep (E.still hp w N) false e v∧cv[j+t]?=some v) →
       Rep (E.still hp w N) false (.sl ys) (.slice (some ⟨b,i*l.esz+j,none⟩) len cap):=by
      intro ys hys hels
      simp only[Rep]
      refine⟨_,cap,by rw[hys],by omega,by simp,.inr ⟨b,i*l.esz+j,1,c,rfl,hstill,RepS.of_get fun t e he=>?_⟩⟩
      obtain⟨v,h1,h2⟩:=hels t e he
      exact⟨v,h1,by rw[Nat.mul_one,Nat.add_assoc]; exact hcell _ _ h2⟩
     have hget:∀ (t:Nat) (e:AV),((cs.drop j).take len)[t]?=some e→∃ v,Rep E (!cl) e v∧cv[j+t]?=some v:=by
      intro t e he
      have ht:=getElem?_lt he
      rw[hlen]at ht
      rw[List.getElem?_take_of_lt ht,List.getElem?_drop]at he
      obtain⟨v,h1,h2⟩:=hcv.toT.get he
      exact⟨v,h2,h1⟩
     cases cl with
     |true=>
      simp only[if_true,RM.run_pure,Option.some.injEq]at h; subst h
      exact fin _ hlen fun t e he=>by
       obtain⟨v,hv,hat⟩:=hget t e he
       exact⟨v,Rep.mono0 still_ext hv,hat⟩
     |false=>
      have hall:SealH hp N (namesL ((cs.drop j).take len)):=
       ⟨fun m hm=>hH.2 n hN g fz es hn m (namesL_get he m (by simpa only[names] using namesL_sub (fun x hx=>List.mem_of_mem_drop (List.mem_of_mem_take hx)) m hm)),hH.2⟩
      simp only[Bool.false_eq_true,if_false,RM.run_bind]at h
      cases hq2:(sealL k ((cs.drop j).take len)).run hp with
      |none=>rw[hq2]at h; simp at h
      |some ys=>
       rw[hq2]at h
       simp only[Option.bind_some,RM.run_pure,Option.some.injEq]at h; subst h
       have hcvl:((cv.drop j).take len).length=len:=by simp; omega
       have hT:RepT E true ((cs.drop j).take len) ((cv.drop j).take len):=RepT.of_get (by omega) fun t e v he hv=>by
        obtain⟨u,h1,h2⟩:=hget t e he
        have ht:=getElem?_lt he
        rw[hlen]at ht
        rw[List.getElem?_take_of_lt ht,List.getElem?_drop,h2]at hv
        simp only[Option.some.injEq]at hv
        rw[←hv]; exact h1
       have hT':=ihL _ _ _ hall hq2 hT
       have hyl:=hT'.length
       refine fin ys (by omega) fun t e he=>?_
       obtain⟨v,hv,hr⟩:=hT'.get he
       have ht:=getElem?_lt he
       have ht2:t<len:=by omega
       rw[List.getElem?_take_of_lt ht2,List.getElem?_drop]at hv
       exact⟨v,hr,hv⟩
   |mp n=>simp[sealV,RM.run_fail]at h
   |any=>simp[sealV,RM.run_fail]at h
  ·cases l with
   |nil=>
    simp only[sealL,RM.run_pure,Option.some.injEq]at h; subst h
    cases vs with
    |nil=>simp[RepT]
    |cons _ _=>simp[RepT]at hr
   |cons x xs=>
    cases vs with
    |nil=>simp[RepT]at hr
    |cons v vs=>
     simp only[RepT]at hr
     simp only[sealL,RM.run_bind]at h
     cases hq:(sealV k x).run hp with
     |none=>rw[hq]at h; simp at h
     |some y=>
      rw[hq]at h
      simp only[Option.bind_some]at h
      cases hq2:(sealL k xs).run hp with
      |none=>rw[hq2]at h; simp at h
      |some ys=>
       rw[hq2]at h
       simp only[Option.bind_some,RM.run_pure,Option.some.injEq]at h; subst h
       simp only[RepT]
       exact⟨ihV x y v (⟨fun n hn=>hH.1 n (by simp[namesL,hn]),hH.2⟩) hq hr.1,ihL xs ys vs (⟨fun n hn=>hH.1 n (by simp[namesL,hn]),hH.2⟩) hq2 hr.2⟩
end Go.PI
end
section
/- PI, part T: a call by value. -/
namespace Go.PI
def ResOk(E:Env):Res→Ending→Prop
 |.val r,.returned v=>Rep E true r v
 |.pnc r,.panicked ch=>∃ u,ch=[{ v:=u,recovered:=false }]∧Rep E true r u
 |_,_=>False
def CallPost[Glob](E:Env)(w:World)(hp':AHeap)(res:Res)(e:Ending)(w':World):Prop:=
 ∃ E',Ext E E'∧Inv E' hp' w'∧Fr E w E' w'∧ResOk E' res e
theorem still_inv[Glob]{E:Env}{hp:AHeap}{w:World}(hI:Inv E hp w)(N:Nat→Prop):Inv (E.still hp w N) [] w where
 len:=rfl
 objs:=by intro n o h; simp at h
 free:=by intro n ver h; simp at h
 inj:=by rintro n n' b ⟨o,l,h,_⟩; simp at h
 mem:=by
  intro b c h
  simp only[Env.still]at h
  split at h
  ·rename_i c' h'
   simp only[Option.some.injEq]at h; subst h
   exact hI.mem b c' h'
  ·split at h
   ·grind
   ·simp at h
 ownb:=by intro b h; exact h.elim
 glob:=hI.glob.mono still_ext.m
def FrozenAs(hp:AHeap)(n:Nat)(x:Option (Option AObj)):Prop:=
 ∃ g c f es es',hp[n]?=some (some (.arr g c f es))∧x=some (some (.arr g true true es'))∧(if c then es'=es else (sealL 1000 es).run hp=some es')
theorem freeze_ok[Glob]{hp:AHeap}:∀ {k:Nat} {l:List Nat} {wr:List (Nat×AObj)},(freezeR k l).run hp=some wr →
  ∃ S:Nat→Prop,(∀ n∈l,S n)∧(∀ n,S n→∃ g c f es,hp[n]?=some (some (.arr g c f es))) ∧
    (∀ n,S n→∀ g f es,hp[n]?=some (some (.arr g false f es))→∀ m∈namesL es,S m) ∧
    ∀ H:AHeap,H.length=hp.length→(applyWr H wr).length=H.length∧(∀ n,S n→FrozenAs hp n (applyWr H wr)[n]?)∧∀ n,¬S n→(applyWr H wr)[n]?=H[n]?:=by
 intro k
 induction k with
 |zero=>intro l wr h; simp[freezeR,RM.run_fail]at h
 |succ k ih=>
  intro l wr h
  cases l with
  |nil=>
   simp only[freezeR,RM.run_pure,Option.some.injEq]at h; subst h
   exact⟨fun _=>False,by simp,fun _ h=>h.elim,fun _ h=>h.elim,fun H _=>⟨rfl,fun _ h=>h.elim,fun _ _=>rfl⟩⟩
  |cons n r=>
   simp only[freezeR,RM.run]at h
   split at h
   case h_2=>simp at h
   rename_i o ho
   cases o with
   |oth k vs=>simp[RM.run]at h
   |arr g c f es=>
    simp only at h
    have main:∀ (l':List Nat) (wr':List (Nat×AObj)) (es':List AV),(freezeR k l').run hp=some wr'→(∀ m∈r,m∈l')→(c=false→∀ m∈namesL es,m∈l') →
      (if c then es'=es else (sealL 1000 es).run hp=some es')→wr=(n,.arr g true true es')::wr' →
      ∃ S:Nat→Prop,(∀ m∈n::r,S m)∧(∀ n,S n→∃ g c f es,hp[n]?=some (some (.arr g c f es))) ∧
        (∀ n,S n→∀ g f es,hp[n]?=some (some (.arr g false f es))→∀ m∈namesL es,S m) ∧
        ∀ H:AHeap,H.length=hp.length→(applyWr H wr).length=H.length∧(∀ n,S n→FrozenAs hp n (applyWr H wr)[n]?)∧∀ n,¬S n→(applyWr H wr)[n]?=H[n]?:=by
     intro l' wr' es' hq hr hin hes hwr
     subst hwr
     obtain⟨S,h1,h2,h3,h4⟩:=ih hq
     refine⟨fun m=>m=n∨S m,fun m hm=>?_,fun m hm=>?_,fun m hm g2 f2 es2 hm2 x hx=>?_,fun H hH=>?_⟩
     ·cases hm with
      |head=>exact .inl rfl
      |tail _ hm=>exact .inr (h1 m (hr m hm))
     ·rcases hm with rfl|hm
      ·exact⟨g,c,f,es,ho⟩
      ·exact h2 m hm
     ·rcases hm with rfl|hm
      ·rw[ho]at hm2; cases hm2
       exact .inr (h1 x (hin rfl x hx))
      ·exact .inr (h3 m hm g2 f2 es2 hm2 x hx)
     ·have hlt:n<H.length:=by rw[hH]; exact getElem?_lt ho
      have hset:setObj H n (.arr g true true es')=H.set n (some (.arr g true true es')):=by unfold setObj; rw[if_neg (by omega)]
      simp only[applyWr,hset]
      obtain⟨h5,h6,h7⟩:=h4 (H.set n (some (.arr g true true es'))) (by simpa using hH)
      refine⟨by simpa using h5,fun m hm=>?_,fun m hm=>?_⟩
      ·by_cases hS:S m
       ·exact h6 m hS
       ·rcases hm with rfl|hm
        ·rw[h7 m hS]
         exact⟨g,c,f,es,es',ho,by simp[hlt],hes⟩
        ·exact absurd hm hS
      ·rw[h7 m (fun h=>hm (.inr h))]
       exact getElem?_set_ne (fun e=>hm (.inl e.symm))
    cases c with
    |true=>
     simp only[if_true,RM.run_bind]at h
     cases hq:(freezeR k r).run hp with
     |none=>rw[hq]at h; simp at h
     |some wr'=>
      rw[hq]at h
      simp only[Option.bind_some,RM.run_pure,Option.some.injEq]at h
      exact main r wr' es hq (fun _ h=>h) (fun h=>by simp at h) (by simp) h.symm
    |false=>
     simp only[Bool.false_eq_true,if_false,RM.run_bind]at h
     cases hs:(sealL 1000 es).run hp with
     |none=>rw[hs]at h; simp at h
     |some es'=>
      rw[hs]at h
      simp only[Option.bind_some]at h
      cases hq:(freezeR k (namesL es++r)).run hp with
      |none=>rw[hq]at h; simp at h
      |some wr'=>
       rw[hq]at h
       simp only[Option.bind_some,RM.run_pure,Option.some.injEq]at h
       exact main _ wr' es' hq (fun m hm=>by simp[hm]) (fun _ m hm=>by simp[hm]) (by simpa using hs) h.symm
theorem sealAll{hp:AHeap}{l:List Nat}:SealH hp (fun _=>True) l:=⟨fun _ _=>trivial,fun _ _ _ _ _ _ _ _=>trivial⟩
theorem sealL_get[Glob]{hp:AHeap}:∀ {k:Nat} {l l':List AV},(sealL k l).run hp=some l'→l'.length=l.length∧∀ (i:Nat) (y:AV),l'[i]?=some y→∃ x j,l[i]?=some x∧(sealV j x).run hp=some y
 |0,l,l',h=>by simp[sealL,RM.run_fail]at h
 |k+1,[],l',h=>by
  simp_all[sealL,RM.run_pure]
 |k+1,x::xs,l',h=>by
  simp only[sealL,RM.run_bind]at h
  cases hq:(sealV k x).run hp with
  |none=>rw[hq]at h; simp at h
  |some y=>
   rw[hq]at h
   simp only[Option.bind_some]at h
   cases hq2:(sealL k xs).run hp with
   |none=>rw[hq2]at h; simp at h
   |some ys=>
    rw[hq2]at h
    simp only[Option.bind_some,RM.run_pure,Option.some.injEq]at h; subst h
    obtain⟨h1,h2⟩:=sealL_get hq2
    refine⟨by simp[h1],fun i z hz=>?_⟩
    cases i with
    |zero=>grind
    |succ i=>simp_all
theorem FrozenAs.len[Glob]{hp:AHeap}{g c f:Bool}{es es':List AV}(h:if c then es'=es else (sealL 1000 es).run hp=some es'):es'.length=es.length:=by
 cases c with
 |true=>simp only[if_true]at h; rw[h]
 |false=>simp only[Bool.false_eq_true,if_false]at h; exact(sealL_get h).1
theorem pure_call[Glob]{P:Program}{E:Env}{hp:AHeap}{w:World}(hI:Inv E hp w){g:FuncId}{args as:List AV}{vs:List Value}(ha:RepT E true args vs)
  (hs:(sealL 1000 args).run hp=some as) {hpf:AHeap} {res res':Res} {wr:List (Nat×AObj)} (ho:(pureOut args hpf res).run hp=some (res',wr))
  (hcall:∀ Ec,Inv Ec [] w→RepT Ec false as vs→Calls P g vs.toArray w (CallPost Ec w hpf res)) :
  Calls P g vs.toArray w (CallPost E w (applyWr hp wr) res'):=by
 have flatCase:∀ {r:AV},wr=[]→(∀ Ec,Inv Ec [] w→RepT Ec false as vs→Calls P g vs.toArray w fun e w'=>∃ E',Fr Ec w E' w'∧ResOk E res' e)→Calls P g vs.toArray w (CallPost E w (applyWr hp wr) res'):=by
  intro _ hw h
  subst hw
  have hseal:=(seal_ok hI (N:=fun _=>True) 1000).2 args as vs sealAll hs ha
  refine(h _ (still_inv hI _) hseal).mono fun e w' hpost=>?_
  obtain⟨E',hfr,hm⟩:=hpost
  have hsame:∀ b,b<w.heap.size→w'.heap[b]?=w.heap[b]?:=fun b hb=>hfr.same b hb (fun h=>h.elim)
  refine⟨E,Ext.refl E,?_,⟨hfr.os,hfr.tape,hfr.out,hfr.size,fun b hb _=>hsame b hb,fun _ h=>.inl h,fun _ _ h=>.inl h⟩,hm⟩
  simp only[applyWr]
  refine⟨hI.len,fun n o hn=>(hI.objs n o hn).other hn fun b hb=>?_,hI.free,hI.inj,fun b c h=>?_,fun b h=>Nat.lt_of_lt_of_le (hI.ownb b h) hfr.size,hI.glob⟩
  ·obtain⟨ob,hob⟩:=(hI.objs n o hn).blk_lt hn hb
   exact hsame b (Array.getElem?_eq_some_iff.1 hob).1
  ·obtain⟨T,fz,hw⟩:=hI.mem b c h
   exact⟨T,fz,by rw[hsame b (Array.getElem?_eq_some_iff.1 hw).1]; exact hw⟩
 cases res with
 |pnc r=>
  simp only[pureOut]at ho
  split at ho
  case isFalse=>simp[RM.run_fail]at ho
  rename_i hf
  simp only[RM.run_pure,Option.some.injEq,Prod.mk.injEq]at ho
  obtain⟨rfl,rfl⟩:=ho
  refine flatCase (r:=r) rfl fun Ec h1 h2=>(hcall Ec h1 h2).mono fun e w' hpost=>?_
  obtain⟨E',_,_,hfr,hm⟩:=hpost
  refine⟨E',hfr,?_⟩
  cases e with
  |panicked ch=>
   obtain⟨u,h3,h4⟩:=hm
   exact⟨u,h3,h4.flat hf⟩
  |returned v=>exact hm
  |outgrown=>exact hm
 |val r=>
  simp only[pureOut]at ho
  split at ho
  case h_2=>simp[RM.run_fail]at ho
  rename_i r' hr'
  split at ho
  ·rename_i hf
   simp only[RM.run_pure,Option.some.injEq,Prod.mk.injEq]at ho
   obtain⟨rfl,rfl⟩:=ho
   refine flatCase (r:=r) rfl fun Ec h1 h2=>(hcall Ec h1 h2).mono fun e w' hpost=>?_
   obtain⟨E',_,hI',hfr,hm⟩:=hpost
   refine⟨E',hfr,?_⟩
   cases e with
   |returned v=>
    have:=(seal_ok hI' (N:=fun _=>True) 1000).1 r r' v sealAll hr' hm
    exact this.flat hf
   |panicked ch=>exact hm
   |outgrown=>exact hm
  ·rename_i hf
   rw[RM.run_bind]at ho
   cases hq:(freezeR 1000 (namesL args)).run hp with
   |none=>rw[hq]at ho; simp at ho
   |some wr'=>
    rw[hq]at ho
    simp only[Option.bind_some,RM.run_pure,Option.some.injEq,Prod.mk.injEq]at ho
    obtain⟨rfl,rfl⟩:=ho
    obtain⟨S,hin,hcl,hcls,hfz⟩:=freeze_ok hq
    obtain⟨hlen,hgetS,hgetN⟩:=hfz hp rfl
    have hseal:=(seal_ok hI (N:=S) 1000).2 args as vs ⟨hin,hcls⟩ hs ha
    refine(hcall _ (still_inv hI _) hseal).mono fun e w' hpost=>?_
    obtain⟨E',hx',hI',hfr,hm⟩:=hpost
    cases e with
    |panicked ch=>exact hm.elim
    |outgrown=>exact hm.elim
    |returned v=>
     have hsame:∀ b,b<w.heap.size→w'.heap[b]?=w.heap[b]?:=fun b hb=>hfr.same b hb (fun h=>h.elim)
     have hres:=(seal_ok hI' (N:=fun _=>True) 1000).1 r r' v sealAll hr' hm
     let Ec:=E.still hp w S
     let Es:=E'.still hpf w' (fun _=>True)
     have hup:∀ b c,Ec.m b=some c→Es.m b=some c:=fun b c h=>still_ext.m _ _ (hx'.m b c h)
     have hEm:∀ b c,E.m b=some c→Es.m b=some c:=fun b c h=>hup b c (still_ext.m _ _ h)
     have hdown:∀ b c,Es.m b=some c→b<w.heap.size→Ec.m b=some c:=by
      intro b c h hb
      have hE':E'.m b=some c→Ec.m b=some c:=fun h=>by
       rcases hfr.m b c h with h1|h1|h1
       ·exact h1
       ·exact h1.elim
       ·omega
      simp only[Es,Env.still]at h
      split at h
      ·simp_all
      ·rename_i hnone
       split at h
       case isFalse=>simp at h
       rename_i hex
       obtain⟨n,_,hbn⟩:=hex
       have hbn':=hbn
       obtain⟨o,l,ho',hl,hbl⟩:=hbn
       have hob:=hI'.objs n o ho'
       have hown:E'.own b:=by
        cases o with
        |arr g1 c1 f1 es1=>
         obtain⟨l',hl',_,hmm⟩:=hob
         simp only at hl; rw[hl]at hl'; cases hl'
         rw[hbl]at hmm
         obtain⟨cc,T,_,hff,_⟩:=hmm
         cases f1 with
         |true=>simp_all
         |false=>simp_all
        |oth k vs=>
         obtain⟨l',b',es1,clock,hl',hb',_,_,hoo,_⟩:=hob
         simp only at hl; rw[hl]at hl'; cases hl'
         rw[hbl]at hb'; cases hb'
         exact hoo
       rcases hfr.own b hown with h1|h1
       ·exact h1.elim
       ·omega
     let E2:Env:={ ρ:=E.ρ,m:=Es.m,L:=E.L,own:=E.own }
     have hx2:Ext E E2:=⟨hEm,fun _ _ _ _ h=>h,Nat.le_refl _⟩
     have hlt:∀ n o b,hp[n]?=some (some o)→BlkOf E hp n b→b<w.heap.size:=fun n o b hn hb=>by
      obtain⟨ob,hob⟩:=(hI.objs n o hn).blk_lt hn hb
      exact(Array.getElem?_eq_some_iff.1 hob).1
     have hfree:∀ n o b,hp[n]?=some (some o)→BlkOf E hp n b→¬S n→E.m b=none→Es.m b=none:=by
      intro n o b hn hb hnot hmn
      cases hq:Es.m b with
      |none=>rfl
      |some c=>
       have h1:=hdown b c hq (hlt n o b hn hb)
       simp only[Ec,Env.still,hmn]at h1
       split at h1
       ·rename_i hex
        obtain⟨n2,hn2,hb2⟩:=hex
        have:=hI.inj n n2 b hb hb2
        subst this
        exact absurd hn2 hnot
       ·simp at h1
     have hblk2:∀ n b,BlkOf E2 (applyWr hp wr') n b→BlkOf E hp n b:=by
      rintro n b ⟨o,l,ho',hl,hbl⟩
      by_cases hmem:S n
      ·obtain⟨g1,c1,f1,es1,es2,h1,h2,h3⟩:=hgetS n hmem
       rw[h2]at ho'
       simp only[Option.some.injEq]at ho'
       subst ho'
       simp only[FrozenAs.len (g:=g1) (f:=f1) h3]at hl
       exact⟨_,l,h1,hl,hbl⟩
      ·rw[hgetN n hmem]at ho'
       exact⟨o,l,ho',hl,hbl⟩
     refine⟨E2,hx2,⟨by rw[hlen]; exact hI.len,?_,?_,?_,?_,?_,hI.glob.mono hx2.m⟩,⟨hfr.os,hfr.tape,hfr.out,hfr.size,fun b hb _=>hsame b hb,fun _ h=>.inl h,?_⟩,Rep.mono0 (E:=Es) (E':=E2) ⟨fun _ _ h=>h⟩ hres |>.widen⟩
     ·intro n o hn
      by_cases hmem:S n
      ·obtain⟨g1,c1,f1,es1,es2,h1,h2,h3⟩:=hgetS n hmem
       have hle:=FrozenAs.len (g:=g1) (f:=f1) h3
       rw[h2]at hn
       simp only[Option.some.injEq]at hn
       subst hn
       obtain⟨l,hl,hv,hmm⟩:=hI.objs n _ h1
       refine⟨l,by rw[hle]; exact hl,by rw[hle]; exact hv,?_⟩
       cases hb:l.blk with
       |none=>
        rw[hb]at hmm
        refine⟨hmm.1,?_⟩
        have:es1.length=0:=by rw[hmm.2]; rfl
        exact List.eq_nil_of_length_eq_zero (by omega)
       |some b=>
        rw[hb]at hmm
        obtain⟨c,T,hw,hff,h2',h3',h4,h5,h6⟩:=hmm
        have hbn:BlkOf E hp n b:=⟨_,l,h1,hl,hb⟩
        refine⟨c,T,by rw[hsame b (hlt n _ b h1 hbn)]; exact hw,?_,h2',h3',by rw[hle]; exact h4,fun hg=>by rw[hle]; exact h5 hg,fun i e he=>?_⟩
        ·simp only[if_true]
         exact hup b c (still_blk hI hmem h1 hl hb hw hff)
        ·cases c1 with
         |true=>
          simp only[if_true]at h3; subst h3
          obtain⟨v,hv',hat⟩:=h6 i e he
          exact⟨v,hv'.mono hx2,hat⟩
         |false=>
          simp only[Bool.false_eq_true,if_false]at h3
          obtain⟨x,j,hx,hsx⟩:=(sealL_get h3).2 i e he
          obtain⟨v,hv',hat⟩:=h6 i x hx
          have hse:=(seal_ok hI (N:=S) j).1 x e v ⟨fun m hm=>hcls n hmem g1 f1 es1 h1 m (namesL_get hx m hm),hcls⟩ hsx hv'
          exact⟨v,Rep.mono0 (E:=Ec) (E':=E2) ⟨hup⟩ hse,hat⟩
      ·have hnot:=hmem
       rw[hgetN n hnot]at hn
       have h:=(hI.objs n o hn).other (w':=w') hn fun b hb=>hsame b (hlt n o b hn hb)
       cases o with
       |arr g1 c1 f1 es1=>
        obtain⟨l,hl,hv,hmm⟩:=h
        refine⟨l,hl,hv,?_⟩
        cases hb:l.blk with
        |none=>rw[hb]at hmm; exact hmm
        |some b=>
         rw[hb]at hmm
         obtain⟨c,T,hw,hff,h2,h3,h4,h5,h6⟩:=hmm
         refine⟨c,T,hw,?_,h2,h3,h4,h5,fun i e he=>?_⟩
         ·cases f1 with
          |true=>simp only[if_true]at hff ⊢; exact hEm b c hff
          |false=>
           simp only[Bool.false_eq_true,if_false]at hff ⊢
           exact⟨hfree n _ b hn ⟨_,l,hn,hl,hb⟩ hnot hff.1,hff.2⟩
         ·obtain⟨v,hv',hat⟩:=h6 i e he
          exact⟨v,hv'.mono hx2,hat⟩
       |oth k vs=>
        obtain⟨l,b,es1,clock,h1,h2,h3,h4,h5,h6,h7,h8⟩:=h
        exact⟨l,b,es1,clock,h1,h2,h3,hfree n _ b hn ⟨_,l,hn,h1,h2⟩ hnot h4,h5,h6,h7,h8.mono hx2⟩
     ·intro n ver hn
      by_cases hmem:S n
      ·obtain⟨g1,c1,f1,es1,es2,h1,h2,h3⟩:=hgetS n hmem
       rw[h2]at hn; simp at hn
      ·rw[hgetN n hmem]at hn
       exact hI.free n ver hn
     ·exact fun n1 n2 b h1 h2=>hI.inj n1 n2 b (hblk2 _ _ h1) (hblk2 _ _ h2)
     ·intro b c h
      exact(still_inv hI' (fun _=>True)).mem b c h
     ·exact fun b h=>Nat.lt_of_lt_of_le (hI.ownb b h) hfr.size
     ·intro b c h
      by_cases hb:b<w.heap.size
      ·have h1:=hdown b c h hb
       simp only[Ec,Env.still]at h1
       split at h1
       ·rename_i c' h'
        simp only[Option.some.injEq]at h1; subst h1
        exact .inl h'
       ·rename_i hnone
        split at h1
        case isFalse=>simp at h1
        rename_i hex
        obtain⟨n,hmem,hbn⟩:=hex
        obtain⟨g1,c1,f1,es1,h2⟩:=hcl n hmem
        obtain⟨o,l,ho',hl,hbl⟩:=hbn
        rw[h2]at ho'; cases ho'
        obtain⟨l',hl',_,hmm⟩:=hI.objs n _ h2
        simp only at hl; rw[hl]at hl'; cases hl'
        rw[hbl]at hmm
        obtain⟨cc,T,_,hff,_⟩:=hmm
        cases f1 with
        |true=>simp only[if_true]at hff; rw[hnone]at hff; simp at hff
        |false=>simp only[Bool.false_eq_true,if_false]at hff; exact .inr (.inl hff.2)
      ·exact .inr (.inr (by omega))
end Go.PI
end
section
/- PI: calls whose result is a slice of the caller's own. -/
namespace Go.PI
theorem inv_adopt[Glob]{E:Env}{hp:AHeap}{w:World}(hI:Inv E hp w){n:Nat}(hn:n=hp.length∨hp[n]?=some none)(l:Loc)(es:List AV)
  (hl:match l.blk with
    |none=>es=[]
    |some b=>∃ c T,w.heap[b]?=some (.cells c T (0,0))∧0<l.esz∧c.size=l.tot*l.esz∧es.length≤l.tot ∧
     (∀ (i:Nat) (e:AV),es[i]?=some e→∃ v,Rep E false e v∧At c (i*l.esz) l.esz v)∧E.m b=none)
  (hnb:∀ b,l.blk=some b→∀ n',¬BlkOf E hp n' b) :
  Ext E (E.push n es.length l)∧Inv (E.push n es.length l) (setObj hp n (.arr true true false es)) w:=by
 have hx:Ext E (E.push n es.length l):=Ext.push hI hn _ _
 have hother:∀ n' o,n'≠n→(setObj hp n (.arr true true false es))[n']?=some (some o)→hp[n']?=some (some o):=by
  intro n' o hne h
  rw[setObj_get hn n',if_neg hne]at h
  exact h
 have hrho:∀ n',n'≠n→∀ ver,(E.push n es.length l).ρ n' ver=E.ρ n' ver:=fun n' hne ver=>by simp[Env.push,hne]
 have hself:∀ ver,(E.push n es.length l).ρ n ver=if ver=es.length then some l else none:=fun ver=>by simp[Env.push]
 have hblk:∀ n' b,BlkOf (E.push n es.length l) (setObj hp n (.arr true true false es)) n' b→(n'=n∧l.blk=some b)∨(n'≠n∧BlkOf E hp n' b):=by
  rintro n' b ⟨o,l',ho,hl',hb⟩
  by_cases e:n'=n
  ·grind
  ·refine .inr ⟨e,o,l',hother n' o e ho,?_,hb⟩
   cases o with
   |arr=>simpa only[hrho n' e] using hl'
   |oth=>simpa only[hrho n' e] using hl'
 refine⟨hx,⟨?_,?_,?_,?_,?_,?_,hI.glob.mono hx.m⟩⟩
 ·rw[setObj_len hn,hI.len]; rfl
 ·intro n' o ho
  by_cases e:n'=n
  ·subst e
   rw[setObj_get hn n',if_pos rfl]at ho
   cases ho
   refine⟨l,by simp[hself],?_,?_⟩
   ·intro ver l' h
    rw[hself]at h
    split at h
    ·omega
    ·simp at h
   ·cases hb:l.blk with
    |none=>rw[hb]at hl; exact⟨rfl,hl⟩
    |some b=>
     rw[hb]at hl
     obtain⟨c,T,h1,h2,h3,h4,h5,h6⟩:=hl
     refine⟨c,T,h1,?_,h2,h3,h4,(fun h=>by cases h),?_⟩
     ·simp only[Bool.false_eq_true,if_false]
      exact⟨h6,.inr hb⟩
     ·intro i e hi
      obtain⟨v,hv,ha⟩:=h5 i e hi
      exact⟨v,hv.mono hx,ha⟩
  ·have ho':=hother n' o e ho
   have h:=hI.objs n' o ho'
   cases o with
   |arr g1 cl1 fz1 es1=>
    obtain⟨l1,hl1,hv,hm⟩:=h
    refine⟨l1,by rw[hrho n' e]; exact hl1,fun ver l' h=>hv ver l' (by rw[hrho n' e]at h; exact h),?_⟩
    cases hb:l1.blk with
    |none=>rw[hb]at hm; exact hm
    |some b=>
     rw[hb]at hm
     obtain⟨c1,T1,hw1,h1,h2,h3,h4,h5,h6⟩:=hm
     refine⟨c1,T1,hw1,?_,h2,h3,h4,h5,fun i x hx'=>?_⟩
     ·cases fz1 with
      |true=>simp only[if_true]at h1 ⊢; exact h1
      |false=>simp only[Bool.false_eq_true,if_false]at h1 ⊢; exact⟨h1.1,.inl h1.2⟩
     ·obtain⟨v,hv',ha⟩:=h6 i x hx'
      exact⟨v,hv'.mono hx,ha⟩
   |oth k vs=>
    obtain⟨l1,b,es1,clock,h1,h2,h3,h4,h5,h6,h7,h8⟩:=h
    exact⟨l1,b,es1,clock,by rw[hrho n' e]; exact h1,h2,h3,h4,.inl h5,
     fun ver l' h=>h6 ver l' (by rw[hrho n' e]at h; exact h),h7,h8.mono hx⟩
 ·intro n' ver h0
  by_cases e:n'=n
  ·subst e; rw[setObj_get hn n',if_pos rfl]at h0; simp at h0
  ·rw[setObj_get hn n',if_neg e]at h0
   rw[hrho n' e]
   exact hI.free n' ver h0
 ·intro n1 n2 b h1 h2
  rcases hblk _ _ h1 with ⟨e1,b1⟩|⟨e1,b1⟩<;>rcases hblk _ _ h2 with ⟨e2,b2⟩|⟨e2,b2⟩
  ·rw[e1,e2]
  ·exact absurd b2 (hnb b b1 n2)
  ·exact absurd b1 (hnb b b2 n1)
  ·exact hI.inj n1 n2 b b1 b2
 ·intro b c1 h1
  exact hI.mem b c1 h1
 ·intro b h
  rcases h with h|h
  ·exact hI.ownb b h
  ·rw[h]at hl
   obtain⟨c,T,h1,_⟩:=hl
   exact(Array.getElem?_eq_some_iff.1 h1).1
theorem inv_still[Glob]{E:Env}{hp:AHeap}{w w':World}(hI:Inv E hp w)(hsame:∀ b,b<w.heap.size→w'.heap[b]?=w.heap[b]?)(hsz:w.heap.size≤w'.heap.size):Inv E hp w':=by
 refine⟨hI.len,fun n o hn=>(hI.objs n o hn).other hn fun b hb=>?_,hI.free,hI.inj,fun b c h=>?_,fun b h=>Nat.lt_of_lt_of_le (hI.ownb b h) hsz,hI.glob⟩
 ·obtain⟨ob,hob⟩:=(hI.objs n o hn).blk_lt hn hb
  exact hsame b (Array.getElem?_eq_some_iff.1 hob).1
 ·obtain⟨T,fz,hw⟩:=hI.mem b c h
  exact⟨T,fz,by rw[hsame b (Array.getElem?_eq_some_iff.1 hw).1]; exact hw⟩
def OwnPost[Glob](E:Env)(w:World)(hp:AHeap)(e:Eff)(en:Ending)(w':World):Prop:=
 ∃ v,en=.returned v∧∃ E',Ext E E'∧Inv E' (applyWr hp e.wr) w'∧Fr E w E' w'∧Rep E' true e.val v
theorem own_out[Glob]{E:Env}{hp:AHeap}{w:World}(hI:Inv E hp w){nm:Nat}(hnm:nm=hp.length∨hp[nm]?=some none){r:AV}{hpf:AHeap}{e:Eff}
  (ho:(ownOut nm r hpf).run hp=some e) {Ec:Env} (hown:∀ b,¬Ec.own b) {en:Ending} {w':World} (hpost:CallPost Ec w hpf (.val r) en w'):OwnPost E w hp e en w':=by
 obtain⟨E1,_,hI1,hfr,hm⟩:=hpost
 cases en with
 |panicked ch=>exact hm.elim
 |outgrown=>exact hm.elim
 |returned v=>
  have hsame:∀ b,b<w.heap.size→w'.heap[b]?=w.heap[b]?:=fun b hb=>hfr.same b hb (hown b)
  have hI':=inv_still hI hsame hfr.size
  unfold ownOut at ho
  split at ho
  case h_2=>simp[RM.run_fail]at ho
  rename_i esz n ver len
  split at ho
  case h_2=>simp[RM.run_fail]at ho
  rename_i cl es hob
  split at ho
  case h_2=>simp[RM.run_fail]at ho
  rename_i hcond
  simp only[RM.run_pure,Option.some.injEq]at ho
  subst ho
  simp only[Bool.and_eq_true,decide_eq_true_eq]at hcond
  obtain⟨⟨hver,hlen⟩,hflat⟩:=hcond
  subst hver
  subst hlen
  obtain⟨l,hl,_,hcase⟩:=hI1.objs n _ hob
  have hr:=hm
  simp only[ResOk,Rep]at hr
  obtain⟨_,_,l2,hl2,hesz,hvt,hmm⟩:=hr
  rw[hl]at hl2
  cases hl2
  have hbig:∀ b,l.blk=some b→w.heap.size≤b:=by
   intro b hb
   rw[hb]at hcase
   obtain⟨c,T,_,hff,_⟩:=hcase
   simp only[Bool.false_eq_true,if_false]at hff
   rcases hfr.own b hff.2 with h|h
   ·exact absurd h (hown b)
   ·exact h
  have hnb:∀ b,l.blk=some b→∀ n',¬BlkOf E hp n' b:=by
   intro b hb n' h
   have h':=h
   obtain⟨o,l',ho',_,_⟩:=h
   obtain⟨ob,hob'⟩:=(hI.objs n' o ho').blk_lt ho' h'
   have:=(Array.getElem?_eq_some_iff.1 hob').1
   have:=hbig b hb
   omega
  have hloc:match l.blk with
   |none=>es=[]
   |some b=>∃ c T,w'.heap[b]?=some (.cells c T (0,0))∧0<l.esz∧c.size=l.tot*l.esz∧es.length≤l.tot ∧
    (∀ (i:Nat) (e:AV),es[i]?=some e→∃ v,Rep E false e v∧At c (i*l.esz) l.esz v)∧E.m b=none:=by
   cases hb:l.blk with
   |none=>rw[hb]at hcase; exact hcase.2
   |some b=>
    have hge:=hbig b hb
    rw[hb]at hcase
    obtain⟨c,T,h1,_,h2,h3,h4,_,h5⟩:=hcase
    refine⟨c,T,h1,h2,h3,h4,fun i e hi=>?_,?_⟩
    ·obtain⟨v',hv',ha⟩:=h5 i e hi
     exact⟨v',hv'.flat (List.all_eq_true.1 hflat e (List.mem_of_getElem? hi)),ha⟩
    ·cases hmb:E.m b with
     |none=>rfl
     |some c1=>
      obtain⟨T1,fz,hw⟩:=hI.mem _ _ hmb
      have:=(Array.getElem?_eq_some_iff.1 hw).1
      omega
  obtain⟨hx,hI2⟩:=inv_adopt hI' hnm l es hloc hnb
  refine⟨v,rfl,E.push nm es.length l,hx,hI2,⟨hfr.os,hfr.tape,hfr.out,hfr.size,fun b hb _=>hsame b hb,?_,fun _ _ h=>.inl h⟩,?_⟩
  ·intro b h
   rcases h with h|h
   ·exact .inl h
   ·exact .inr (hbig b h)
  ·simp only[Rep]
   refine⟨trivial,?_,l,by simp[Env.push],hesz,hvt,hmm⟩
   show nm<max E.L (nm+1)
   omega
end Go.PI
end
