/- Part 3 of the proof: texts of this session laid one behind the other. -/
import Derived.Test.YtomccdllhpolbaaDoorX2
set_option linter.unusedVariables false
set_option linter.unusedSimpArgs false
section
/- PS, part B: the operations on symbolic values, and the evaluator of code to a tree. -/
namespace Go.PI
structure OSumm(T:Tys)where
 args:List Nat
 el:Nat
 esz:Nat
 fn:HL T.den (args.map .v)→Option (List (T.den el))
inductive Tw where
 |num (d j b:Nat)
 |lst (d j n:Nat)
 |arr (d n:Nat)
 |name (d:Nat)
 |int (d j:Nat)
structure SCtx where
 C:Ctx
 T:Tys
 sum:FuncId→Option (Summ T)
 hint:FuncId→Nat→Option Hint
 roll:FuncId→Nat→Bool
 M:List (Nat×MTy)
 own:FuncId→Option (OSumm T):=fun _=>none
 sel:FuncId→Nat→Bool:=fun _ _=>false
 tw:FuncId→Tmp→List Tw:=fun _ _=>[]
def SCtx.Q(S:SCtx):Prg:=⟨S.C.P,S.M,fun _=>false⟩
def SCtx.Qf(S:SCtx)(f:FuncId):Prg:=⟨S.C.P,S.M,S.sel f⟩
section
variable {T:Tys}{ρ:Type}
abbrev EK(T:Tys)(ρ:Type):=SV T.den→List (Nat×SObj T.den)→List Nat→Tr ρ
def viaAV(r:Option AV)(K:EK T ρ):Tr ρ:=
 match r with
 |some (.lit v)=>K (.lit v) [] []
 | _ => .no "via"
def oneK(r:Option (SV T.den))(rd:List Nat)(K:EK T ρ):Tr ρ:=
 match r with
 |some v=>K v [] rd
 | none => .no "part"
def asNatS(v:SV T.den)(K:Nat→Tr ρ):Tr ρ:=
 match v with
 |.lit (.int _ n)=>.cond (decide (0≤n)) (K n.toNat) .fail
 |_=>.fail
def isZ{den:Nat→Type}:SV den→Bool
 |.lit (.int _ n)=>decide (n=0)
 |_=>false
def optNatS(d:Nat)(v:Option (SV T.den))(K:Nat→Tr ρ):Tr ρ:=
 match v with
 |none=>K d
 |some v=>asNatS v K
def chainS(i:Nat):Nat→Nat→(Nat→Tr ρ)→Tr ρ
 |0,_,_=>.fail
 |len+1,m,K=>.cond (decide (i=m)) (K m) (chainS i len (m+1) K)
def shiftS(d:Nat):SV T.den→SV T.den
 |.ref n c i j=>.ref n c i (j+d)
 |.eref e j=>.eref e (j+d)
 |.xat v s l i=>.xat (shiftS d v) s l i
 |v=>v
def stepCells(e:SV T.den)(j stride:Nat):Nat→Option (List (SV T.den))
 |0=>some []
 |n+1=>(partS false 1 e j).bind fun x=>(stepCells e (j+stride) stride n).map fun l=>x::l
def intsOf(k:IntKind):List (SV T.den)→Option (List Int)
 |[]=>some []
 |.lit (.int k' n)::r=>if k'=k then (intsOf k r).map fun l=>n::l else none
 |_=>none
def boolsOf:List (SV T.den)→Option (List Bool)
 |[]=>some []
 |.lit (.bool b)::r=>(boolsOf r).map fun l=>b::l
 |_=>none
def selOf{α:Type}(l:List α)(i:Nat)(d:α):α:=l.getD i d
def selS(i:Nat)(xs:List (SV T.den)):Option (SV T.den):=
 match xs with
 |.lit (.int k n)::r=>(intsOf k r).map fun l=>.lit (.int k (selOf (n::l) i n))
 |.lit (.bool b)::r=>(boolsOf r).map fun l=>.lit (.bool (selOf (b::l) i b))
 |_=>none
def loadS1(r:MTy)(H:SHeap T.den)(a:SV T.den)(K:EK T ρ):Tr ρ:=
 match a with
 |.ref n c i j=>
  match H[n]? with
  |some (some (.arr _ _ _ cur es))=>(match Nat.beq c cur with
   |true=>(match es[i]? with
    |some e=>oneK (partS r.agg r.size e j) [n] K
    | none => .no "memory")
   | false => .no "memory")
  |some (some (.tarr _ _ cur t l))=>(match Nat.beq c cur with
   |true=>.bind l[i]? fun x=>oneK (partS r.agg r.size (T.up t x) j) [n] K
   | false => .no "memory")
  | _ => .no "memory"
 |.eref e j=>oneK (partS r.agg r.size e j) [] K
 | _ => .no "memory"
def xcells(H:SHeap T.den)(a:SV T.den)(stride len:Nat):Option (List (SV T.den)×List Nat):=
 match a with
 |.ref n c i j=>(match H[n]? with
  |some (some (.arr _ _ _ cur es))=>(match Nat.beq c cur with
   |true=>(es[i]?).bind fun e=>(stepCells e j stride len).map fun l=>(l,[n])
   |false=>none)
  |_=>none)
 |.eref e j=>(stepCells e j stride len).map fun l=>(l,[])
 |_=>none
def loadS(r:MTy)(H:SHeap T.den)(a:SV T.den)(K:EK T ρ):Tr ρ:=
 match a with
 |.xat v stride len i=>
  (match !r.agg&&Nat.beq r.size 1,xcells H v stride len with
  |true,some (xs,rd)=>(match selS i xs with
   |some x=>K x [] rd
   |none=>chainS i len 0 fun m=>loadS1 r H (shiftS (m*stride) v) K)
  |_,_=>chainS i len 0 fun m=>loadS1 r H (shiftS (m*stride) v) K)
 |a=>loadS1 r H a K
def storeS1(r:MTy)(H:SHeap T.den)(a v:SV T.den)(K:EK T ρ):Tr ρ:=
 match isDead v,decide ((cellsS v).length=r.size)&&(cellsS v).all isLeafS with
 |false,true=>(match a with
  |.ref n c i j=>
   match H[n]? with
   |some (some (.arr g cl f cur es))=>(match Nat.beq c cur&&!f with
    |true=>(match es[i]? with
     |some e=>(match setPartS e j (cellsS v) with
      |some e'=>K (.lit undef) [(n,.arr g (cl&&closedLS (cellsS v)) f cur (es.set i e'))] [n]
      | none => .no "memory")
     | none => .no "memory")
    | false => .no "memory")
   |some (some (.tarr g f cur t l))=>(match Nat.beq c cur&&!f&&closedLS (cellsS v) with
    |true=>.bind l[i]? fun x=>(match setPartS (T.up t x) j (cellsS v) with
     |some e'=>(match T.dn t e' with
      |some y=>K (.lit undef) [(n,.tarr g f cur t (l.set i y))] [n]
      | none => .no "memory")
     | none => .no "memory")
    | false => .no "memory")
   | _ => .no "memory"
  | _ => .no "memory")
 | _, _ => .no "memory"
def xset(l:List (SV T.den))(j stride i m:Nat)(k:IntKind)(y:Int):List Int→List (SV T.den)
 |[]=>l
 |x::r=>xset (l.set j (.lit (.int k (cond (Nat.beq i m) y x)))) (j+stride) stride i (m+1) k y r
def storeX(H:SHeap T.den)(a v:SV T.den)(stride len i:Nat):Option (Nat×SObj T.den):=
 match a,v with
 |.ref n c i0 j,.lit (.int k y)=>(match H[n]? with
  |some (some (.arr g cl f cur es))=>(match Nat.beq c cur&&!f&&Nat.blt 0 stride,es[i0]? with
   |true,some (.agg l)=>((stepCells (.agg l) j stride len).bind (intsOf k)).map fun ns=>
    (n,.arr g cl f cur (es.set i0 (.agg (xset l j stride i 0 k y ns))))
   |_,_=>none)
  |_=>none)
 |_,_=>none
def storeS(r:MTy)(H:SHeap T.den)(a v:SV T.den)(K:EK T ρ):Tr ρ:=
 match a with
 |.xat b stride len i=>(match Nat.beq r.size 1,storeX H b v stride len i with
  |true,some (n,o)=>K (.lit undef) [(n,o)] [n]
  |_,_=>chainS i len 0 fun m=>storeS1 r H (shiftS (m*stride) b) v K)
 |a=>storeS1 r H a v K
def buildS(Q:Prg)(t:TypeId)(parts:List (Nat×SV T.den)):Option (SV T.den):=
 match Q.ty t with
 |some r=>
  match r.kind,r.zero.bind ofPlain with
  |.struct fs,some z=>(match Q.places fs with
   |some pl=>(fillS (fun i=>pl[i]?) (cellsS z) parts).map .agg
   |none=>none)
  |.array _ e,some z=>(match Q.ty e with
   |some q=>(fillS (fun i=>some (i*q.size,q.size)) (cellsS z) parts).map .agg
   |none=>none)
  |_,_=>none
 |none=>none
def buildSliceS(Q:Prg)(nm:Nat)(t:TypeId)(len:Nat)(parts:List (Nat×SV T.den))(K:EK T ρ):Tr ρ:=
 match Q.elem t with
 |some r=>
  match (r.zero).bind ofPlain with
  |some z=>
   if 0<r.size∧len*r.size≤2^24∧parts.all (fun p=>decide (p.1<len)&&okElemS r.agg r.size p.2)=true then
    K (.osl r.size nm 0 none (some len)) [(nm,.arr false (closedLS (parts.map (·.2))) false 0 (setPartsS (List.replicate len z) parts))] []
   else .no "buildSlice"
  | none => .no "buildSlice"
 | none => .no "buildSlice"
def makeSliceS(Q:Prg)(nm:Nat)(t:TypeId)(l c:SV T.den)(K:EK T ρ):Tr ρ:=
 match Q.elemOf t with
 |some (e,r)=>
  match r.zero,T.zero e,decide (0<r.size) with
  |some _,some z,true=>
   asNatS l fun l=>asNatS c fun c=>
    .cond (decide (l≤c)&&decide (c*r.bytes≤2^47)&&decide (c<2^62))
     (K (.osl r.size nm 0 (some (0,l)) (some c)) [(nm,.tarr false false 0 e (List.replicate c z))] []) .fail
  |_,_,_=>.fail
 |none=>.fail
def makeSlice1(Q:Prg)(nm:Nat)(t:TypeId)(l:SV T.den)(K:EK T ρ):Tr ρ:=
 match Q.elemOf t with
 |some (e,r)=>
  match r.zero,T.zero e,decide (0<r.size) with
  |some _,some z,true=>
   asNatS l fun c=>.cond (decide (c*r.bytes≤2^47)&&decide (c<2^62)) (K (.osl r.size nm 0 none (some c)) [(nm,.tarr false false 0 e (List.replicate c z))] []) .fail
  |_,_,_=>.fail
 |none=>.fail
def sameOp:Operand→Operand→Bool
 |.tmp a,.tmp b=>Nat.beq a b
 |_,_=>false
def rangeS(H:SHeap T.den)(n c:Nat)(rg:Option (Nat×Nat)):Option (Nat×Nat):=
 match rg with
 |some q=>some q
 |none=>match H[n]? with
  |some (some o)=>if Nat.beq c o.cur then some (0,o.len) else none
  |_=>none
def plainO:Option (SV T.den)→Option (Option AV)
 |none=>some none
 |some v=>(plainS v).map some
def cutS(Q:Prg)(H:SHeap T.den)(t:TypeId)(x:SV T.den)(lo hi mx:Option (SV T.den))(K:EK T ρ):Tr ρ:=
 match x with
 |.lit v=>(match plainO lo,plainO hi,plainO mx with
  |some l,some h,some m=>(match cutA Q.P t (.lit v) l h m with
   |some (.lit v)=>K (.lit v) [] []
   |some .nz=>K .nz [] []
   | _ => .no "via")
  | _, _, _ => .no "index")
 |.sl xs=>
  (match Q.elem t,mx with
  |some r,none=>optNatS 0 lo fun l=>optNatS xs.length hi fun h=>
   chainS l (xs.length+1) 0 fun l=>chainS h (xs.length+1) 0 fun h=>
    (match decide (l≤h)&&decide (h≤xs.length)&&xs.all (okElemS r.agg r.size) with
    |true=>K (.sl ((xs.drop l).take (h-l))) [] []
    | false => .no "index")
  | _, _ => .no "index")
 |.tsl t' l=>
  (match Q.elem t,mx with
  |some r,none=>(match decide (r.agg=T.agg t')&&decide (r.size=T.size t') with
   |true=>(match lo,hi with
    |none,none=>K (.tsl t' l) [] []
    |some lo,none=>asNatS lo fun a=>.cond (decide (a≤l.length)) (K (.tsl t' (l.drop a)) [] []) .fail
    |none,some hi=>asNatS hi fun b=>.cond (decide (b≤l.length)) (K (.tsl t' (l.take b)) [] []) .fail
    |some lo,some hi=>asNatS lo fun a=>asNatS hi fun b=>
     .cond (decide (a≤b)&&decide (b≤l.length)) (K (.tsl t' ((l.drop a).take (b-a))) [] []) .fail)
   | false => .no "index")
  |some r,some mx=>(match decide (r.agg=T.agg t')&&decide (r.size=T.size t'),hi with
   |true,some hi=>(match lo.isNone&&(isZ hi&&isZ mx) with
    |true=>K .nz [] []
    |false=>optNatS 0 lo fun a=>asNatS hi fun b=>asNatS mx fun m=>
    .cond (decide (a≤b)&&decide (b≤m)&&decide (m≤l.length)&&decide (a<m)) (K (.tsx t' ((l.drop a).take (b-a)) (m-a) (!l.isEmpty)) [] []) .fail)
   | _, _ => .no "index")
  | _, _ => .no "index")
 |.osl esz n c rg cap=>
  (match Q.elem t,mx,rangeS H n c rg,H[n]? with
  |some r,none,some (off,len),some (some o)=>(match Nat.beq c o.cur&&decide (esz=r.size) with
   |true=>optNatS 0 lo fun a=>optNatS len hi fun b=>
    .cond (decide (a≤b)&&decide (b≤cap.getD (o.len-off))&&decide (0<o.len))
     (K (.osl esz n c (some (off+a,b-a)) (cap.map (·-a))) [] []) .fail
   | false => .no "index")
  |some r,some mx,some (off,len),some (some o)=>(match Nat.beq c o.cur&&decide (esz=r.size),hi with
   |true,some hi=>optNatS 0 lo fun a=>asNatS hi fun b=>asNatS mx fun m=>
    .cond (decide (a≤b)&&decide (b≤m)&&decide (m≤cap.getD (o.len-off))&&decide (0<o.len))
     (K (.osl esz n c (some (off+a,b-a)) (some (m-a))) [] []) .fail
   | _, _ => .no "index")
  | _, _, _, _ => .no "index")
 |.ref n c i j=>(match Q.arr t,mx with
  |some (len,r),none=>optNatS 0 lo fun l=>optNatS len hi fun h=>
   chainS l len 0 fun l=>chainS h (len+1) 0 fun h=>(match decide (l≤h) with
    |true=>K (.asl n c i (j+l*r.size) (h-l) (len-l)) [] []
    |false=>.fail)
  | _, _ => .no "index")
 | _ => .no "index"
def toArrS(Q:Prg)(t:TypeId)(x:SV T.den)(K:EK T ρ):Tr ρ:=
 match Q.arr t,x with
 |some (len,_),.asl n c i j l _=>(match decide (len≤l) with
  |true=>K (.ref n c i j) [] []
  |false=>.fail)
 | _, _ => .no "an array"
def indexAddrS(Q:Prg)(sel:Bool)(H:SHeap T.den)(t:TypeId)(x ix:SV T.den)(K:EK T ρ):Tr ρ:=
 asNatS ix fun i=>
  match x with
  |.sl xs=>(match Q.elem t with
   |some r=>chainS i xs.length 0 fun m=>(match xs[m]? with
    |some e=>(match okElemS r.agg r.size e with
     |true=>K (.eref e 0) [] []
     | false => .no "index")
    | none => .no "index")
   | none => .no "index")
  |.tsl t' l=>(match Q.elem t with
   |some r=>(match decide (r.agg=T.agg t')&&decide (r.size=T.size t') with
    |true=>.bind l[i]? fun x=>K (.eref (T.up t' x) 0) [] []
    | false => .no "index")
   | none => .no "index")
  |.osl esz n c rg _=>(match Q.elem t with
   |some r=>(match decide (0<r.size)&&decide (esz=r.size),rangeS H n c rg,H[n]? with
    |true,some (off,len),some (some (.arr ..))=>chainS i len 0 fun m=>K (.ref n c (off+m) 0) [] []
    |true,some (off,len),some (some (.tarr ..))=>.cond (decide (i<len)) (K (.ref n c (off+i) 0) [] []) .fail
    | _, _, _ => .no "index")
   | none => .no "index")
  |.asl n c k j len _=>(match Q.elem t with
   |some r=>chainS i len 0 fun m=>K (.ref n c k (j+m*r.size)) [] []
   | none => .no "index")
  |.ref n c k j=>(match Q.arr t with
   |some (len,r)=>(match sel with
    |true=>.cond (decide (i<len)) (K (.xat (.ref n c k j) r.size len i) [] []) .fail
    |false=>chainS i len 0 fun m=>K (.ref n c k (j+m*r.size)) [] [])
   | none => .no "index")
  |.eref e j=>(match Q.arr t with
   |some (len,r)=>(match sel with
    |true=>.cond (decide (i<len)) (K (.xat (.eref e j) r.size len i) [] []) .fail
    |false=>chainS i len 0 fun m=>K (.eref e (j+m*r.size)) [] [])
   | none => .no "index")
  | _ => .no "index"
def indexS(Q:Prg)(sel:Bool)(t:TypeId)(x ix:SV T.den)(K:EK T ρ):Tr ρ:=
 match x with
 |.lit v=>(match plainS ix with
  |some i=>viaAV (indexA Q.P t (.lit v) i) K
  | none => .no "index")
 |.agg l=>
  (match Q.arr t with
  |some (n,r)=>asNatS ix fun i=>(match sel&&!r.agg&&Nat.beq r.size 1,(stepCells (.agg l) 0 1 n).bind (selS i) with
   |true,some x=>.cond (decide (i<n)) (K x [] []) .fail
   |_,_=>chainS i n 0 fun m=>oneK (partS r.agg r.size (.agg l) (m*r.size)) [] K)
  | none => .no "index")
 | _ => .no "index"
inductive Src(den:Nat→Type)where
 |conc (l:List (SV den)) (cl:Bool)
 |typ (t:Nat) (l:List (den t))
def srcS(Q:Prg)(H:SHeap T.den)(xt:TypeId)(x:SV T.den)(K:Src T.den→List Nat→Tr ρ):Tr ρ:=
 match Q.isSlice xt with
 |some true=>(match x with
  |.lit (.slice none 0 0)=>K (.conc [] true) []
  |.sl xs=>K (.conc xs true) []
  |.tsl t l=>K (.typ t l) []
  |.osl _ n c rg _=>(match H[n]? with
   |some (some (.arr _ cl _ cur es))=>(match Nat.beq c cur with
    |true=>(match rg with
     |none=>K (.conc es cl) [n]
     |some (off,len)=>if off+len≤es.length then K (.conc ((es.drop off).take len) cl) [n] else .fail)
    | _ => .no "append source")
   |some (some (.tarr _ _ cur t l))=>(match Nat.beq c cur with
    |true=>(match rg with
     |none=>K (.typ t l) [n]
     |some (off,len)=>.cond (decide (off+len≤l.length)) (K (.typ t ((l.drop off).take len)) [n]) .fail)
    | _ => .no "append source")
   | _ => .no "append source")
  | _ => .no "append source")
 | _ => .no "append source"
def Src.ok(T:Tys)(r:MTy):Src T.den→Bool
 |.conc l _=>l.all (okElemS r.agg r.size)
 |.typ t _=>decide (r.agg=T.agg t)&&decide (r.size=T.size t)
def Src.len{den:Nat→Type}:Src den→Nat
 |.conc l _=>l.length
 |.typ _ l=>l.length
def fitsS(r:MTy)(n:Nat):Bool:=decide (n*r.bytes≤2^44)&&decide (n≤2^44)
def addSrc(T:Tys)(cur:Nat):SObj T.den→Src T.den→Option (SObj T.den)
 |.arr _ cl f _ es,.conc ys ycl=>some (.arr true (cl&&ycl) f cur (es++ys))
 |.arr _ true f _ es,.typ t l=>(dnAll T t es).map fun l0=>.tarr true f cur t (l0++l)
 |.tarr _ f _ t l,.conc ys true=>(dnAll T t ys).map fun l2=>.tarr true f cur t (l++l2)
 |.tarr _ f _ t l,.typ t' l2=>if h:t'=t then some (.tarr true f cur t (l++castL h l2)) else none
 |_,_=>none
def SObj.flags{den:Nat→Type}:SObj den→Bool×Bool×Bool
 |.arr g cl f _ _=>(g,cl,f)
 |.tarr g f _ _ _=>(g,true,f)
 |.junk|.tmap _ _ _=>(false,true,true)
 |.recd _ _ _ _ _=>(false,false,true)
def SObj.okAll(T:Tys)(r:MTy):SObj T.den→Bool
 |.arr _ _ _ _ es=>es.all (okElemS r.agg r.size)
 |.tarr _ _ _ t _=>decide (r.agg=T.agg t)&&decide (r.size=T.size t)
 |_=>false
def ofSrc{den:Nat→Type}:Src den→SObj den
 |.conc l cl=>.arr true cl false 0 l
 |.typ t l=>.tarr true false 0 t l
def ifEmpty(T:Tys)(y:Src T.den)(a b:Tr ρ):Tr ρ:=
 match y with
 |.conc l _=>(match l with
  |[]=>a
  |_::_=>b)
 |.typ _ l=>.cond l.isEmpty a b
def putL{α:Type}(l:List α)(i:Nat)(ys:List α):List α:=l.take i++(ys++l.drop (i+ys.length))
def putSrc(T:Tys):SObj T.den→Nat→Src T.den→Option (SObj T.den)
 |.tarr g f cur t l,i,.typ t' l2=>if h:t'=t then some (.tarr g f cur t (putL l i (castL h l2))) else none
 |.tarr g f cur t l,i,.conc ys true=>(dnAll T t ys).map fun l2=>.tarr g f cur t (putL l i l2)
 |_,_,_=>none
def appendS(Q:Prg)(nm:Nat)(H:SHeap T.den)(t xt:TypeId)(s x:SV T.den)(K:EK T ρ):Tr ρ:=
 match Q.elem t with
 | none => .no "append"
 |some r=>srcS Q H xt x fun y rd=>
  match (r.zero).isSome&&decide (0<r.size)&&y.ok T r with
  | false => .no "append"
  |true=>(match s with
   |.lit (.slice none 0 0)=>ifEmpty T y (K s [] rd)
     (.cond (fitsS r y.len) (K (.osl r.size nm 0 none none) [(nm,ofSrc y)] rd) .fail)
   |.nz=>ifEmpty T y (K s [] rd)
     (.cond (fitsS r y.len) (K (.osl r.size nm 0 none none) [(nm,ofSrc y)] rd) .fail)
   |.sl _|.tsl _ _=>ifEmpty T y (K s [] rd) .fail
   |.tsx t' l c b=>ifEmpty T y (K (.tsl t' l) [] rd)
     (.cond (b&&decide (c<l.length+y.len)&&fitsS r (l.length+y.len))
       (match decide (r.agg=T.agg t')&&decide (r.size=T.size t'),addSrc T 0 (.tarr true false 0 t' l) y with
       |true,some o'=>K (.osl r.size nm 0 none none) [(nm,o')] rd
       | _, _ => .no "append") .fail)
   |.osl esz n c rg cap=>(match H[n]? with
    |some (some o)=>(match Nat.beq c o.cur&&!o.flags.2.2&&decide (esz=r.size) with
     |true=>(match cap,rg with
      |none,none=>(match y with
       |.conc [] _=>K s [] rd
       |_=>(match o.flags.1,addSrc T (o.cur+1) o y with
        |true,some o'=>.cond (fitsS r (o.len+y.len)) (K (.osl esz n (o.cur+1) none none) [(n,o')] (n::rd)) .fail
        | _, _ => .no "append"))
      |some k,none=>ifEmpty T y (K s [] rd)
       (.cond (decide (o.len+y.len≤k)) .fail
         (match o.okAll T r,addSrc T 0 o y with
         |true,some o'=>.cond (fitsS r (o.len+y.len)) (K (.osl esz nm 0 none none) [(nm,o')] (n::rd)) .fail
         | _, _ => .no "append"))
      |some k,some (off,len)=>(match putSrc T o (off+len) y with
        |some o'=>.cond (decide (len+y.len≤k)&&decide (off+len+y.len≤o.len)) (K (.osl esz n c (some (off,len+y.len)) (some k)) [(n,o')] (n::rd)) .fail
        | none => .no "append")
      | _, _ => .no "append")
     | false => .no "append")
    | _ => .no "append")
   | _ => .no "append")
def copyS(Q:Prg)(H:SHeap T.den)(t:TypeId)(d x:SV T.den)(K:EK T ρ):Tr ρ:=
 match Q.elem t,Q.isSlice t with
 |some r,some true=>srcS Q H t x fun y rd=>(match y.ok T r&&decide (0<r.size),d with
  |true,.osl esz n c rg _=>(match rangeS H n c rg,H[n]? with
   |some (off,len),some (some o)=>(match Nat.beq c o.cur&&!o.flags.2.2&&decide (esz=r.size),putSrc T o off y with
    |true,some o'=>.cond (decide (off+len≤o.len)&&decide (y.len≤len)) (K (.lit (.int .i64 y.len)) [(n,o')] (n::rd)) .fail
    | _, _ => .no "copy")
   | _, _ => .no "copy")
  | _, _ => .no "copy")
 | _, _ => .no "copy"
def lenS(Q:Prg)(H:SHeap T.den)(argTypes:Array TypeId)(type:TypeId)(x:SV T.den)(K:EK T ρ):Tr ρ:=
 match argTypes.toList with
 |[t]=>(match Q.isSlice t with
  |some true=>(match x with
   |.lit (.slice none 0 0)=>K (.lit (.int .i64 0)) [] []
   |.nz=>K (.lit (.int .i64 0)) [] []
   |.sl xs=>K (.lit (.int .i64 xs.length)) [] []
   |.tsl _ l|.tsx _ l _ _=>K (.lit (.int .i64 l.length)) [] []
   |.osl _ n c rg _=>(match rangeS H n c rg with
    |some (_,len)=>K (.lit (.int .i64 len)) [] []
    | none => .no "builtin")
   |.asl _ _ _ _ len _=>K (.lit (.int .i64 len)) [] []
   | _ => .no "builtin")
  | none => .no "builtin"
  |some false=>(match x with
   | .lit (.slice none 0 0) => .no "builtin"
   |.lit v=>viaAV ((pureRun Q.P (Builtin.len_ argTypes type #[v])).bind ofPure) K
   |.agg _|.ref ..|.eref ..=>(match Q.arr t with
    |some (n,_)=>K (.lit (.int .i64 n)) [] []
    | none => .no "builtin")
   | _ => .no "builtin"))
 | _ => .no "builtin"
def builtinS(Q:Prg)(nm:Nat)(H:SHeap T.den)(b:Builtin)(argTypes:Array TypeId)(type:TypeId)(args:List (SV T.den))(K:EK T ρ):Tr ρ:=
 match b with
 |.append=>(match argTypes.toList,args with
  |[t,xt],[s,x]=>appendS Q nm H t xt s x K
  | _, _ => .no "builtin")
 |.copy=>(match argTypes.toList,args with
  |[t,_],[d,x]=>copyS Q H t d x K
  | _, _ => .no "builtin")
 |.len=>(match args with
  |[x]=>lenS Q H argTypes type x K
  | _ => .no "builtin")
 |.max=>(match litsS args with
  |some vs=>viaAV ((pureRun Q.P (Builtin.max_ argTypes type vs.toArray)).bind ofPure) K
  | none => .no "builtin")
 |.min=>(match litsS args with
  |some vs=>viaAV ((pureRun Q.P (Builtin.min_ argTypes type vs.toArray)).bind ofPure) K
  | none => .no "builtin")
 | _ => .no "builtin"
def intS(op:BinOp)(k:IntKind)(a b:Int):Option Value:=
 match op with
 |.lss=>some (.bool (decide (a<b)))
 |.leq=>some (.bool (decide (a≤b)))
 |.gtr=>some (.bool (decide (b<a)))
 |.geq=>some (.bool (decide (b≤a)))
 |.eql=>some (.bool (a==b))
 |.neq=>some (.bool (!(a==b)))
 |.add=>some (.int k (k.wrap (a+b)))
 |.sub=>some (.int k (k.wrap (a-b)))
 |.mul=>some (.int k (k.wrap (a*b)))
 |_=>none
def divS(op:BinOp)(k:IntKind)(a b:Int):Option Value:=
 match op with
 |.quo=>some (.int k (k.wrap (a.tdiv b)))
 |.rem=>some (.int k (a.tmod b))
 |_=>none
def shS(op:BinOp)(k:IntKind)(a b:Int):Option Value:=
 match op with
 |.shl=>some (.int k (k.wrap (a*2^min b.toNat k.bits)))
 |.shr=>some (.int k (a.fdiv (2^min b.toNat k.bits)))
 |_=>none
def isTmp:Operand→Bool
 |.tmp _=>true
 |_=>false
def CK.fits:CK→Value→Bool
 |.bool,.bool _=>true
 |.int k,.int k' _=>decide (k=k')
 |.str,.string _=>true
 |_,_=>false
def fitsCK:List CK→List Value→Bool
 |[],[]=>true
 |k::ks,v::vs=>k.fits v&&fitsCK ks vs
 |_,_=>false
def eqCell:Value→Value→Bool
 |.bool a,.bool b=>a==b
 |.int _ a,.int _ b=>a==b
 |.string a,.string b=>a==b
 |_,_=>false
def eqCells:List Value→List Value→Bool
 |[],[]=>true
 |x::xs,y::ys=>eqCell x y&&eqCells xs ys
 |_,_=>false
def eqCellK(x y:Value)(K:Bool→Tr ρ):Tr ρ:=
 match x,y with
 |.bool a,.bool b=>K (a==b)
 |.int _ a,.int _ b=>K (a==b)
 |.string a,.string b=>K (a==b)
 |_,_=>K false
def eqListK:List Value→List Value→(Bool→Tr ρ)→Tr ρ
 |[],[],K=>K true
 |[x],[y],K=>eqCellK x y K
 |x::x'::xs,y::y'::ys,K=>eqCellK x y fun e=>eqListK (x'::xs) (y'::ys) fun r=>K (e&&r)
 |_,_,K=>K false
def eqAggS(Q:Prg)(op:BinOp)(t:TypeId)(l l':List (SV T.den))(K:EK T ρ):Tr ρ:=
 match litsS l,litsS l',Q.ty t with
 |some c,some c',some m=>
  (match m.eqk with
  |some ks=>(match m.agg&&fitsCK ks c&&fitsCK ks c' with
   |true=>eqListK c c' fun e=>(match op with
    |.eql=>K (.lit (.bool e)) [] []
    |.neq=>K (.lit (.bool (!e))) [] []
    | _ => .no "==")
   | false => .no "==")
  | none => .no "==")
 | _, _, _ => .no "=="
def binS(Q:Prg)(op:BinOp)(t:TypeId)(xo yo:Operand)(x y:SV T.den)(K:EK T ρ):Tr ρ:=
 match x,y with
 |.lit (.int k a),.lit (.int k' b)=>(match decide (k=k'),intS op k a b with
  |true,some v=>K (.lit v) [] []
  |_,_=>(match decide (k=k'),divS op k a b with
   |true,some v=>.cond (decide (b=0)) .fail (K (.lit v) [] [])
   |_,_=>(match isTmp yo,shS op k a b with
    |true,some v=>.cond (decide (b<0)) .fail (K (.lit v) [] [])
    |_,_=>viaAV (binA Q.P op t xo yo (.lit (.int k a)) (.lit (.int k' b))) K)))
 |.agg l,.agg l'=>eqAggS Q op t l l' K
 |_,_=>(match plainS x,plainS y with
  |some a,some b=>viaAV (binA Q.P op t xo yo a b) K
  |_,_=>(match y with
   |.lit b=>viaAV (nilEqS Q.P op t x b) K
   |_=>(match x with
    |.lit a=>viaAV (nilEqS Q.P op t y a) K
    |_=>.fail)))
def pickS(t:Bool)(a b:SV T.den)(K:EK T ρ):Tr ρ:=
 match a,b with
 |.lit (.bool x),.lit (.bool y)=>K (.lit (.bool (cond t x y))) [] []
 |.lit (.int k x),.lit (.int k' y)=>if k=k' then K (.lit (.int k (cond t x y))) [] [] else .cond t (K a [] []) (K b [] [])
 |_,_=>.cond t (K a [] []) (K b [] [])
def lookRS(c:Bool)(v:SV T.den)(b:Bool):SV T.den:=
 match c with
 |true=>.tup [v,.lit (.bool b)]
 |false=>v
def mapCast{kk kk':KK}{t t':Nat}(h:kk=kk'∧t=t')(m:List (kk.D×T.den t)):List (kk'.D×T.den t'):=by
 obtain⟨rfl,rfl⟩:=h; exact m
def lookupS(Q:Prg)(H:SHeap T.den)(t:TypeId)(x ix:SV T.den)(c:Bool)(K:EK T ρ):Tr ρ:=
 match Q.mapOf t with
 |some (kk,et)=>(match (Q.ty et).bind (·.zero),T.zero et,ix with
  |some _,some z,.lit k=>(match kk.get k,x with
   |some _,.lit (.map none)=>K (lookRS c (T.up et z) false) [] []
   |some k',.mp false n=>(match H[n]? with
    |some (some (.tmap kk' t' m))=>
     if h:kk'=kk∧t'=et then
      K (lookRS c (T.up et ((mapGet kk (mapCast h m) k').getD z)) (mapGet kk (mapCast h m) k').isSome) [] [n]
     else .no "map"
    | _ => .no "map")
   | _, _ => .no "map")
  | _, _, _ => .no "map")
 | none => .no "map"
def mapUpdateS(Q:Prg)(H:SHeap T.den)(t:TypeId)(x ix v:SV T.den)(K:EK T ρ):Tr ρ:=
 match Q.mapOf t with
 |some (kk,_)=>(match ix,x with
  |.lit k,.mp false n=>(match kk.get k,H[n]? with
   |some k',some (some (.tmap kk' t' m))=>
    (match isDead v,T.dn t' v with
    | false, some y => if h : kk' = kk ∧ t' = t' then K (.lit undef) [(n, .tmap kk t' (mapPut kk (mapCast h m) k' y))] [n] else .no "map"
    | _, _ => .no "map")
   | _, _ => .no "map")
  | _, _ => .no "map")
 | none => .no "map"
def makeMapS(Q:Prg)(nm:Nat)(t:TypeId)(r:Option (SV T.den))(K:EK T ρ):Tr ρ:=
 match Q.mapOf t with
 |some (kk,et)=>optNatS 0 r fun _=>K (.mp false nm) [(nm,.tmap kk et [])] []
 | none => .no "map"
def opS(Q:Prg)(nm:Nat)(H:SHeap T.den)(ev:Operand→SV T.den)(o:Oper)(K:EK T ρ):Tr ρ:=
 match o.op with
 |.move x|.assign x=>K (ev x) [] []
 |.pick c a b=>(match ev c with
  |.lit (.bool t)=>pickS t (ev a) (ev b) K
  | _ => .no "pick")
 |.alloc t=>(match Q.ty t with
  |some r=>(match (r.zero).bind ofPlain with
   |some z=>if 0<r.size then K (.ref nm 0 0 0) [(nm,.arr false true false 0 [z])] [] else .fail
   |none=>.fail)
  |none=>.fail)
 |.box _ x=>
  if (cellsS (ev x)).all isLeafS=true∧0<(cellsS (ev x)).length∧isDead (ev x)=false then
   K (.ref nm 0 0 0) [(nm, .arr false (closedLS (cellsS (ev x))) false 0 [ev x])] [] else .no "box"
 | .build t parts => if ((parts.toList.map fun p => (p.1, ev p.2)).any fun p => isDead p.2) = true then .no "build" else oneK (buildS Q t (parts.toList.map fun p => (p.1, ev p.2))) [] K
 | .buildSlice t len parts => if ((parts.toList.map fun p => (p.1, ev p.2)).any fun p => isDead p.2) = true then .no "build" else buildSliceS Q nm t len (parts.toList.map fun p => (p.1, ev p.2)) K
 |.load t a=>(match Q.ty t with
  |some r=>loadS r H (ev a) K
  |none=>.fail)
 |.store t a x=>(match Q.ty t with
  |some r=>storeS r H (ev a) (ev x) K
  |none=>.fail)
 |.nilCheck x=>(match ev x with
  |.ref n c i j=>K (.ref n c i j) [] []
  |.eref e j=>K (.eref e j) [] []
  |.ifc t y=>K (.ifc t y) [] []
  |.clo (.func f) a c=>K (.clo (.func f) a c) [] []
  |.lit (.func (.func f) a c)=>K (.lit (.func (.func f) a c)) [] []
  | _ => .no "nilCheck")
 |.binOp op t x y _=>binS Q op t x y (ev x) (ev y) K
 |.unOp op _ x=>(match ev x with
  |.lit a=>viaAV ((pureRun Q.P (Op.unary op a)).bind ofPure) K
  | _ => .no "unOp")
 |.convert s d x=>(match ev x with
  |.lit a=>viaAV ((pureRun Q.P (convert s d a)).bind ofPure) K
  | _ => .no "convert")
 |.makeInterface t x=>if (isIfaceTy Q.P t||(Q.P.underlying t).isNone||isDead (ev x))=true then .fail else K (.ifc t (ev x)) [] []
 |.makeFunc fn first captured=>
  if first.isEmpty&&captured.isEmpty then K (.lit (.func fn #[] #[])) [] []
  else if (first.toList.map ev).any isDead||(captured.toList.map ev).any isDead then .fail
  else K (.clo fn (first.toList.map ev) (captured.toList.map ev)) [] []
 |.makeSlice t l c=>(match sameOp l c with
  |true=>makeSlice1 Q nm t (ev l) K
  |false=>makeSliceS Q nm t (ev l) (ev c) K)
 |.slice t x lo hi mx=>cutS Q H t (ev x) (lo.map ev) (hi.map ev) (mx.map ev) K
 |.sliceToArrayPointer t x=>toArrS Q t (ev x) K
 |.fieldAddr s x f=>(match Q.fld s f,ev x with
  |some (off,_),.ref n c i j=>K (.ref n c i (j+off)) [] []
  |some (off,_),.eref e j=>K (.eref e (j+off)) [] []
  |some (off,_),.xat v stride len i=>K (.xat (shiftS off v) stride len i) [] []
  | _, _ => .no "fieldAddr")
 |.field s x f=>(match Q.fld s f,ev x with
  |some (off,r),.agg l=>oneK (partS r.agg r.size (.agg l) off) [] K
  | _, _ => .no "field")
 |.indexAddr t x ix=>indexAddrS Q (match o.dst with|some d=>Q.sel d|none=>false) H t (ev x) (ev ix) K
 |.index t x ix=>indexS Q (match o.dst with|some d=>Q.sel d|none=>false) t (ev x) (ev ix) K
 |.makeMap t r=>makeMapS Q nm t (r.map ev) K
 |.lookup t x ix c=>lookupS Q H t (ev x) (ev ix) c K
 |.mapUpdate t m k x=>mapUpdateS Q H t (ev m) (ev k) (ev x) K
 |.extract t ix=>(match ev t with
  |.tup l=>oneK l[ix]? [] K
  | _ => .no "extract")
 |.call c=>(match c.callee with
  |.builtin b=>builtinS Q nm H b c.argTypes o.type (c.args.toList.map ev) K
  | _ => .no "call")
 | _ => .no "op"
end
section
variable {T:Tys}{ρ:Type}
def wfOf(dst:Option Tmp)(wf:List Nat):List Nat:=
 match dst with
 |some d=>d::wf
 |none=>wf
def SSt.step(s:SSt T.den)(dst:Option Tmp)(v:SV T.den)(wr:List (Nat×SObj T.den)):SSt T.den:=
 { s with fr:=putS s.n s.fr dst v,hp:=applyWrS s.hp wr,wf:=wfOf dst s.wf,wh:=wr.map (·.1)++s.wh }
def forceLit(v:Value)(K:Value→Tr ρ):Tr ρ:=
 match v with
 |.int k n=>K (.int k n)
 |.bool b=>K (.bool b)
 |.string s=>K (.string s)
 |v=>K v
mutual
def forceV:SV T.den→(SV T.den→Tr ρ)→Tr ρ
 |.lit v,K=>forceLit v fun v=>K (.lit v)
 |.agg l,K=>forceL l fun l=>K (.agg l)
 |.tup l,K=>forceL l fun l=>K (.tup l)
 |.sl l,K=>forceL l fun l=>K (.sl l)
 |.eref e j,K=>forceV e fun e=>K (.eref e j)
 |.clo fn f c,K=>forceL f fun f=>forceL c fun c=>K (.clo fn f c)
 |.ifc t v,K=>forceV v fun v=>K (.ifc t v)
 |.dead,K=>K .dead
 |.hole,K=>K .hole
 |.tsl t l,K=>K (.tsl t l)
 |.ref n c i j,K=>K (.ref n c i j)
 |.asl n c i j ln cp,K=>K (.asl n c i j ln cp)
 |.osl esz n c rg cap,K=>K (.osl esz n c rg cap)
 |.mp y n,K=>K (.mp y n)
 |.tsx t l c b,K=>K (.tsx t l c b)
 |.nz,K=>K .nz
 |.xat v s len i,K=>forceV v fun v=>K (.xat v s len i)
def forceL:List (SV T.den)→(List (SV T.den)→Tr ρ)→Tr ρ
 |[],K=>K []
 |x::xs,K=>forceV x fun x=>forceL xs fun xs=>K (x::xs)
end
def forceO(o:SObj T.den)(K:SObj T.den→Tr ρ):Tr ρ:=
 match o with
 |.arr g cl f c es=>forceL es fun es=>K (.arr g cl f c es)
 |.tarr g f c t l=>K (.tarr g f c t l)
 |.junk=>K .junk
 |.tmap kk t m=>K (.tmap kk t m)
 |.recd fn ps as bd fr=>forceL fr fun fr=>K (.recd fn ps as bd fr)
def forceH:SHeap T.den→(SHeap T.den→Tr ρ)→Tr ρ
 |[],K=>K []
 |none::r,K=>forceH r fun r=>K (none::r)
 |some o::r,K=>forceO o fun o=>forceH r fun r=>K (some o::r)
def forceN:List Nat→(List Nat→Tr ρ)→Tr ρ
 |[],K=>K []
 |x::r,K=>forceN r fun r=>K (x::r)
def forceF:SFr T.den→(SFr T.den→Tr ρ)→Tr ρ
 |[],K=>K []
 |(d,v)::r,K=>forceV v fun v=>forceF r fun r=>K ((d,v)::r)
def SSt.force(s:SSt T.den)(K:SSt T.den→Tr ρ):Tr ρ:=
 match s with
 |⟨fn,n,fr,hp,wf,wh,js⟩=>forceF fr fun fr=>forceH hp fun hp=>forceN wf fun wf=>forceN wh fun wh=>K ⟨fn,n,fr,hp,wf,wh,js⟩
def applyK(hp:SHeap T.den)(wh:List Nat)(wr:List (Nat×SObj T.den))(K:SHeap T.den→List Nat→Tr ρ):Tr ρ:=
 match wr with
 |[]=>K hp wh
 |w::r=>forceH (applyWrS hp (w::r)) fun hp=>forceN ((w::r).map (·.1)++wh) fun wh=>K hp wh
def SSt.stepK(s:SSt T.den)(dst:Option Tmp)(v:SV T.den)(wr:List (Nat×SObj T.den))(K:SSt T.den→Tr ρ):Tr ρ:=
 match s with
 |⟨fn,n,fr,hp,wf,wh,js⟩=>applyK hp wh wr fun hp wh=>
  match dst with
  |none=>K ⟨fn,n,fr,hp,wf,wh,js⟩
  |some d=>(match Nat.ble n d with
   |true=>K ⟨fn,n,fr,hp,d::wf,wh,js⟩
   |false=>forceV v fun v=>K ⟨fn,n,(d,v)::fr,hp,d::wf,wh,js⟩)
def forceG(ops:Array Oper):List Oper→(List (G×Oper)→Tr ρ)→Tr ρ
 |[],K=>K []
 |o::r,K=>(match guardG ops o with
  |.always=>forceG ops r fun l=>K ((.always,o)::l)
  |.never=>forceG ops r fun l=>K ((.never,o)::l)
  |.on d w=>forceG ops r fun l=>K ((.on d w,o)::l))
def wantedS(g:G)(s:SSt T.den)(K:SSt T.den→Bool→Tr ρ):Tr ρ:=
 match g with
 |.always=>K s true
 |.never=>K s false
 |.on d want=>(match getF s.fr d with
  |.lit (.bool b)=>.cond b (s.stepK (some d) (.lit (.bool true)) [] fun s=>K s (true==want)) (s.stepK (some d) (.lit (.bool false)) [] fun s=>K s (false==want))
  |.lit (.tuple _)=>K s false
  | _ => .no "guard")
def resolveS(fv:SV T.den)(args:List (SV T.den)):Option (FuncId×List (SV T.den)):=
 match fv with
 |.lit (.func (.func f) first captured)=>some (f,first.toList.map .lit++args++captured.toList.map .lit)
 |.clo (.func f) first captured=>some (f,first++args++captured)
 |_=>none
mutual
def sealS(T:Tys)(H:SHeap T.den):Nat→SV T.den→(SV T.den→List Nat→Tr ρ)→Tr ρ
 | 0, _, _ => .no "seal"
 |k+1,v,K=>match v with
  |.osl _ n c rg _=>(match H[n]? with
   |some (some (.arr _ cl _ cur es))=>(match Nat.beq c cur with
    |true=>(match rg with
     |none=>(match cl with
      |true=>K (.sl es) [n]
      |false=>sealLS T H k es fun l rd=>K (.sl l) (n::rd))
     |some (off,len)=>if off+len≤es.length then (match cl with
      |true=>K (.sl ((es.drop off).take len)) [n]
      | false => sealLS T H k ((es.drop off).take len) fun l rd => K (.sl l) (n :: rd)) else .no "seal")
    | false => .no "seal")
   |some (some (.tarr _ _ cur t l))=>(match Nat.beq c cur with
    |true=>(match rg with
     |none=>K (.tsl t l) [n]
     |some (off,len)=>.cond (decide (off+len≤l.length)) (K (.tsl t ((l.drop off).take len)) [n]) .fail)
    | false => .no "seal")
   | _ => .no "seal")
  |.ref n c i j=>(match H[n]? with
   |some (some (.arr _ cl _ cur es))=>(match Nat.beq c cur,es[i]? with
    |true,some e=>(match cl with
     |true=>K (.eref e j) [n]
     |false=>sealS T H k e fun e' rd=>K (.eref e' j) (n::rd))
    | _, _ => .no "seal")
   | _ => .no "seal")
  |.asl n c i j ln cp=>(match H[n]? with
   |some (some (.arr _ cl _ cur es))=>(match Nat.beq c cur,es[i]? with
    |true,some (.agg cs)=>(match decide (ln≤cp)&&decide (j+ln≤cs.length) with
     |true=>(match cl with
      |true=>K (.sl ((cs.drop j).take ln)) [n]
      |false=>sealLS T H k ((cs.drop j).take ln) fun l rd=>K (.sl l) (n::rd))
     | false => .no "seal")
    | _, _ => .no "seal")
   | _ => .no "seal")
  |.agg l=>sealLS T H k l fun l rd=>K (.agg l) rd
  |.tup l=>sealLS T H k l fun l rd=>K (.tup l) rd
  |.ifc t v=>sealS T H k v fun v rd=>K (.ifc t v) rd
  |.clo fn f c=>sealLS T H k f fun f rd=>sealLS T H k c fun c rd2=>K (.clo fn f c) (rd++rd2)
  |.sl xs=>K (.sl xs) []
  |.tsl t l=>K (.tsl t l) []
  |.tsx t l _ _=>K (.tsl t l) []
  |.nz=>K (.sl []) []
  |.eref e j=>K (.eref e j) []
  |.lit v=>(match v with
   |.slice none 0 0=>K (.sl []) []
   |v=>K (.lit v) [])
  | _ => .no "seal"
def sealLS(T:Tys)(H:SHeap T.den):Nat→List (SV T.den)→(List (SV T.den)→List Nat→Tr ρ)→Tr ρ
 | 0, _, _ => .no "seal"
 |k+1,xs,K=>match xs with
  |[]=>K [] []
  |x::xs=>sealS T H k x fun y rd=>sealLS T H k xs fun ys rd2=>K (y::ys) (rd++rd2)
end
def freezeS(T:Tys)(H:SHeap T.den):Nat→List Nat→(List (Nat×SObj T.den)→List Nat→Tr ρ)→Tr ρ
 | 0, _, _ => .no "seal"
 |k+1,ns,K=>match ns with
  |[]=>K [] []
  |n::r=>(match H[n]? with
   |some (some (.arr g cl _ cur es))=>(match cl with
    |true=>freezeS T H k r fun l rd=>K ((n,.arr g true true cur es)::l) (n::rd)
    |false=>sealLS T H 1000 es fun es' rd=>freezeS T H k (namesLS es++r) fun l rd2=>K ((n,.arr g true true cur es')::l) (n::rd++rd2))
   |some (some (.tarr g _ cur t l))=>freezeS T H k r fun w rd=>K ((n,.tarr g true cur t l)::w) (n::rd)
   | _ => .no "seal")
def sumS(T:Tys)(σ:Summ T)(H:SHeap T.den)(args:List (SV T.den))(K:EK T ρ):Tr ρ:=
 sealLS T H 1000 args fun as rd=>
  match (dnL T σ.args as).bind (toHL (σ.args.map .v)) with
  |some xs=>.bind (σ.fn xs) fun r=>
   match tupS (upL T (ofHL (σ.res.map .v) r)) with
   |v=>(match flatS v with
    |true=>K v [] rd
    |false=>freezeS T H 1000 (namesLS args) fun wr rd2=>K v wr (rd++rd2))
  | none => .no "seal"
def ownS(T:Tys)(σ:OSumm T)(nm:Nat)(H:SHeap T.den)(args:List (SV T.den))(K:EK T ρ):Tr ρ:=
 sealLS T H 1000 args fun as rd=>
  match (dnL T σ.args as).bind (toHL (σ.args.map .v)) with
  |some xs=>.bind (σ.fn xs) fun l=>K (.osl σ.esz nm 0 none none) [(nm,.tarr true false 0 σ.el l)] rd
  | none => .no "seal"
def truncS(n:Nat)(r:SV T.den)(hp:SHeap T.den):SHeap T.den:=
 if belowS n r&&(hp.take n).all (oBelowS n) then hp.take n else hp
def forgetS(n:Nat)(v:SV T.den):SV T.den:=if belowS n v then v else .dead
def resetS(n:Nat)(s:SSt T.den):SSt T.den:=
 if (s.hp.take n).all (oBelowS n) then { s with fr:=s.fr.map fun q=>(q.1,forgetS n q.2),hp:=s.hp.take n } else s
def resS(T:Tys)(Q:Prg)(s:SSt T.den):List ResultVar→(List (SV T.den)→Tr ρ)→Tr ρ
 |[],K=>K []
 |.tmp t::rs,K=>(match getF s.fr t with
  |.dead=>.fail
  |v=>resS T Q s rs fun l=>K (v::l))
 |.cell a t::rs,K=>(match Q.ty t with
  |some r=>loadS r s.hp (getF s.fr a) fun v _ _=>resS T Q s rs fun l=>K (v::l)
  |none=>.fail)
def keyOf:Code→Nat
 |.region id _ _=>id
 |.seq a _=>keyOf a
 |.cond _ a _=>keyOf a
 |.block _ b|.loop b|.scope b=>keyOf b
 |_=>0
def hkey(b:Code)(s:SSt T.den):Nat:=keyOf b+1000*s.hp.length
def numV(T:Tys)(x:TV T.den):Nat:=
 match upV T x with
 |.lit (.int _ m)=>m.toNat
 |_=>0
def isHole{den:Nat→Type}:SV den→Bool
 |.hole=>true
 |_=>false
def concPat(H:SHeap T.den):Pat→List (TV T.den)→SV T.den×List (TV T.den)
 |.hole,l=>(.hole,l)
 |.ofix esz n rg cap,l=>((match H[n]? with
  |some (some o)=>.osl esz n o.cur rg cap
  |_=>.dead),l)
 |.asl n i j len cap,l=>((match H[n]? with
  |some (some o)=>.asl n o.cur i j len cap
  |_=>.dead),l)
 |.val _,l=>(match l with
  |x::r=>(upV T x,r)
  |[]=>(.dead,[]))
 |.own esz n,l=>((match H[n]? with
  |some (some o)=>.osl esz n o.cur none none
  |_=>.dead),l)
 |.rng esz n _ k,l=>(match k with
  |false=>(match l with
   |x::y::r=>((match H[n]? with
    |some (some o)=>.osl esz n o.cur (some (numV T x,numV T y)) none
    |_=>.dead),r)
   |_=>(.dead,[]))
  |true=>(match l with
   |x::y::z::r=>((match H[n]? with
    |some (some o)=>.osl esz n o.cur (some (numV T x,numV T y)) (some (numV T z))
    |_=>.dead),r)
   |_=>(.dead,[])))
def concPats(H:SHeap T.den):List Pat→List (TV T.den)→List (SV T.den)×List (TV T.den)
 |[],l=>([],l)
 |p::ps,l=>match concPat H p l with
  |(v,l')=>match concPats H ps l' with
   |(vs,l'')=>(v::vs,l'')
def bumpO:SObj T.den→OPat→SObj T.den
 |.arr g _ f c _,.list t=>.tarr g f (c+1) t []
 |.tarr g f c _ _,.list t=>.tarr g f (c+1) t []
 |.arr g _ f c _,.fix t=>.tarr g f c t []
 |.tarr g f c _ _,.fix t=>.tarr g f c t []
 |.tmap kk t _,.map _ _=>.tmap kk t []
 |o,_=>o
def bumpH(H:SHeap T.den):List (Nat×OPat)→SHeap T.den
 |[]=>H
 |(n,p)::r=>match H[n]? with
  |some (some o)=>bumpH (H.set n (some (bumpO o p))) r
  |_=>bumpH H r
def concObj(H:SHeap T.den)(o:SObj T.den):OPat→List (TV T.den)→SObj T.den×List (TV T.den)
 |.list _,l|.fix _,l=>(match o,l with
  |.tarr g f c _ _,⟨.l t,x⟩::r=>(.tarr g f c t x,r)
  |_,_=>(o,l))
 |.one p,l=>(match o,concPat H p l with
  |.arr g cl f c _,(v,r)=>(.arr g cl f c [v],r)
  |_,_=>(o,l))
 |.agg ps,l=>(match o,concPats H ps l with
  |.arr g cl f c _,(vs,r)=>(.arr g cl f c [.agg vs],r)
  |_,_=>(o,l))
 |.map _ _,l=>(match o,l with
  |.tmap _ _ _,⟨.m kk t,x⟩::r=>(.tmap kk t x,r)
  |_,_=>(o,l))
def concObjs:SHeap T.den→List (Nat×OPat)→List (TV T.den)→SHeap T.den
 |H,[],_=>H
 |H,(n,p)::r,l=>match H[n]? with
  |some (some o)=>(match concObj H o p l with
   |(o',l')=>concObjs (H.set n (some o')) r l')
  |_=>concObjs H r l
def concSlots(n:Nat)(H:SHeap T.den):SFr T.den→List (Nat×Pat)→List (TV T.den)→SFr T.den×List (TV T.den)
 |fr,[],l=>(fr,l)
 |fr,(d,p)::r,l=>match concPat H p l with
  |(v,l')=>concSlots n H (setF n fr d v) r l'
def killS(n:Nat)(fr:SFr T.den):List Nat→SFr T.den
 |[]=>fr
 |d::r=>killS n (setF n fr d .dead) r
def extO:SExt→Option (SObj T.den)
 |.junk=>some .junk
 |.list g f t=>some (.tarr g f 0 t [])
def extObjs:Nat→List SExt→List (Nat×OPat)
 |_,[]=>[]
 |n,.junk::r=>extObjs (n+1) r
 |n,.list _ _ t::r=>(n,.list t)::extObjs (n+1) r
def concS(slots:List (Nat×Pat))(dead:List Nat)(objs:List (Nat×OPat))(ext:List SExt)(s:SSt T.den)(l:List (TV T.den)):SSt T.den:=
 match concSlots s.n (bumpH s.hp objs++ext.map extO) (killS s.n s.fr dead) slots l with
 |(fr,l')=>{ s with fr:=fr,hp:=concObjs (bumpH s.hp objs++ext.map extO) (objs++extObjs s.hp.length ext) l' }
def absPat(H:SHeap T.den)(p:Pat)(v:SV T.den):Option (List (TV T.den)):=
 match p with
 |.hole=>(match isHole v with
  |true=>some []
  |false=>none)
 |.ofix esz n rg cap=>(match v with
  |.osl esz' n' c rg' cap'=>(match H[n]? with
   |some (some o)=>if esz'=esz∧n'=n∧c=o.cur∧rg'=rg∧cap'=cap then some [] else none
   |_=>none)
  |_=>none)
 |.asl n i j len cap=>(match v with
  |.asl n' c i' j' len' cap'=>(match H[n]? with
   |some (some o)=>if n'=n∧c=o.cur∧i'=i∧j'=j∧len'=len∧cap'=cap then some [] else none
   |_=>none)
  |_=>none)
 |.val t=>(match isDead v with
  |true=>none
  |false=>match T.dn t v with
   |some x=>some [⟨.v t,x⟩]
   |none=>none)
 |.own esz n=>match v with
  |.osl esz' n' c none none=>(match H[n]? with
   |some (some o)=>if esz'=esz∧n'=n∧c=o.cur then some [] else none
   |_=>none)
  |_=>none
 |.rng esz n t k=>match v with
  |.osl esz' n' c rg cap=>(match H[n]?,rangeS H n' c rg with
   |some (some o),some (off,len)=>if esz'=esz∧n'=n∧c=o.cur then
     (T.dn t (.lit (.int .i64 off))).bind fun x=>(T.dn t (.lit (.int .i64 len))).bind fun y=>(match k,cap with
       |false,none=>some [⟨.v t,x⟩,⟨.v t,y⟩]
       |true,some m=>(T.dn t (.lit (.int .i64 m))).map fun z=>[⟨.v t,x⟩,⟨.v t,y⟩,⟨.v t,z⟩]
       |_,_=>none) else none
   |_,_=>none)
  |_=>none
def absPats(H:SHeap T.den):List Pat→List (SV T.den)→Option (List (TV T.den))
 |[],[]=>some []
 |p::ps,v::vs=>(absPat H p v).bind fun l=>(absPats H ps vs).map fun r=>l++r
 |_,_=>none
def absObj(H:SHeap T.den)(o:SObj T.den):OPat→Option (List (TV T.den))
 |.list t|.fix t=>(match o with
  |.tarr _ _ _ t' l=>if h:t'=t then some [⟨.l t,castL h l⟩] else none
  |.arr _ true _ _ es=>(dnAll T t es).map fun l=>[⟨.l t,l⟩]
  |_=>none)
 |.one p=>(match o with
  |.arr _ _ _ _ [v]=>absPat H p v
  |_=>none)
 |.agg ps=>(match o with
  |.arr _ _ _ _ [.agg vs]=>absPats H ps vs
  |_=>none)
 |.map kk t=>(match o with
  |.tmap kk' t' m=>if kk'=kk∧t'=t then some [⟨.m kk' t',m⟩] else none
  |_=>none)
def absObjs(H:SHeap T.den):List (Nat×OPat)→Option (List (TV T.den))
 |[]=>some []
 |(n,p)::r=>match H[n]? with
  |some (some o)=>(absObj H o p).bind fun l=>(absObjs H r).map fun m=>l++m
  |_=>none
def absSlots(H:SHeap T.den)(fr:SFr T.den):List (Nat×Pat)→Option (List (TV T.den))
 |[]=>some []
 |(d,p)::r=>(absPat H p (getF fr d)).bind fun l=>(absSlots H fr r).map fun m=>l++m
def absS(slots:List (Nat×Pat))(objs:List (Nat×OPat))(s:SSt T.den):Option (List (TV T.den)):=
 (absSlots s.hp s.fr slots).bind fun l=>(absObjs s.hp objs).map fun m=>l++m
def sameFlags(H H':SHeap T.den)(objs:List (Nat×OPat)):Bool:=
 objs.all fun q=>match H[q.1]?,H'[q.1]? with
  |some (some o),some (some o')=>decide (o.flags=o'.flags)
  |_,_=>false
def lenGuard(H0 H:SHeap T.den):List (Nat×OPat)→Tr ρ→Tr ρ
 |[],K=>K
 |(n,.fix _)::r,K=>(match H0[n]?,H[n]? with
  |some (some o),some (some o')=>.cond (decide (o'.len=o.len)) (lenGuard H0 H r K) .fail
  | _, _ => .no "fix")
 |_::r,K=>lenGuard H0 H r K
def sameCur(H0 H:SHeap T.den)(objs:List (Nat×OPat)):Bool:=
 objs.all fun q=>match q.2 with
  |.list _=>true
  |_=>match H0[q.1]?,H[q.1]? with
   |some (some o),some (some o')=>Nat.beq o.cur o'.cur
   |_,_=>false
def subset(a b:List Nat):Bool:=a.all fun x=>b.contains x
def nodupB:List Nat→Bool
 |[]=>true
 |x::r=>!r.contains x&&nodupB r
def extOk(H:SHeap T.den):Nat→List SExt→Bool
 |_,[]=>true
 |n,e::r=>(match H[n]?,e with
  |some (some o),.junk=>o.flags.2.1
  |some (some o),.list g f _=>decide (o.flags=(g,true,f))
  |_,_=>false)&&extOk H (n+1) r
def Pat.owns:Pat→List Nat
 |.val _|.hole=>[]
 |.own _ n|.rng _ n _ _|.ofix _ n _ _|.asl n _ _ _ _=>[n]
def OPat.owns:OPat→List Nat
 |.list _|.fix _|.map _ _=>[]
 |.one p=>p.owns
 |.agg ps=>ps.flatMap Pat.owns
def ownsOk(lim:Nat)(slots:List (Nat×Pat))(objs:List (Nat×OPat)):Bool:=
 (slots.flatMap (fun q=>q.2.owns)++objs.flatMap (fun q=>q.2.owns)).all fun n=>Nat.blt n lim||(objs.map (·.1)).contains n
def slotsOk(n:Nat)(slots:List (Nat×Pat))(dead:List Nat):Bool:=(slots.map (·.1)++dead).all fun d=>Nat.blt d n
def leaveS(slots:List (Nat×Pat))(dead:List Nat)(objs:List (Nat×OPat))(ext:List SExt)(s0 s:SSt T.den):Bool:=
 slotsOk s0.n slots dead&&ownsOk s0.hp.length slots (objs++extObjs s0.hp.length ext)&&subset s.wf (slots.map (·.1)++dead)&&subset (s.wh.filter fun n=>decide (n<s0.hp.length)) (objs.map (·.1)) &&
  decide (s.hp.length=s0.hp.length+ext.length)&&sameFlags s0.hp s.hp objs&&sameCur s0.hp s.hp objs&&extOk s.hp s0.hp.length ext
def startOk(H:SHeap T.den)(l:List (Nat×OPat)):Bool:=l.all fun q=>match H[q.1]?,q.2 with
 |some (some (.arr _ _ _ _ [_])),.one _=>true
 |some (some (.arr _ _ _ _ [_])),.agg _=>true
 |_,_=>false
def outX(h:Hint)(s0 s:SSt T.den)(kind:Option Nat)(o:HOut):Option (HL T.den (o.tys h.objs)):=
 match decide (o.kind=kind)&&decide (s.js=o.js)&&(leaveS o.slots (h.slots.map (·.1)++h.dead) (outObjs h.objs o.more) o.ext s0 s&&(nodupB ((outObjs h.objs o.more).map (·.1))&&startOk s0.hp o.more)) with
 |true=>(absS o.slots ((outObjs h.objs o.more)++extObjs s0.hp.length o.ext) s).bind (toHL (o.tys h.objs))
 |false=>none
def outK(key:Nat)(h:Hint)(s0 s:SSt T.den)(kind:Option Nat):(l:List HOut)→(SumD T.den h.objs l→Tr ρ)→Tr ρ
 |[],_=>.bad key (some kind) s0 s
 |[o],K=>(match outX h s0 s kind o with
  |some x=>lenGuard s0.hp s.hp h.objs (K x)
  |none=>.bad key (some kind) s0 s)
 |o::p::r,K=>(match outX h s0 s kind o with
  |some x=>lenGuard s0.hp s.hp h.objs (K (.inl x))
  |none=>outK key h s0 s kind (p::r) fun x=>K (.inr x))
def afterS(h:Hint)(s:SSt T.den)(o:HOut)(x:HL T.den (o.tys h.objs)):SSt T.den:=
 let s':=concS o.slots (h.slots.map (·.1)++h.dead) (outObjs h.objs o.more) o.ext s (ofHL (o.tys h.objs) x)
 { s' with wf:=o.slots.map (·.1)++(h.slots.map (·.1)++(h.dead++s.wf)),wh:=(outObjs h.objs o.more).map (·.1)++s.wh,js:=o.js }
def outS(s:SSt T.den)(kind:Option Nat):SOut T.den:=
 match kind with
 |some id=>.exit id s
 |none=>.ret s
def inK(h:Hint)(s:SSt T.den):(l:List HOut)→SumD T.den h.objs l→(SOut T.den→Tr ρ)→Tr ρ
 |[],_,_=>.fail
 |[o],w,K=>(afterS h s o w).force fun s=>K (outS s o.kind)
 |o::p::r,w,K=>.sum w (fun x=>(afterS h s o x).force fun s=>K (outS s o.kind)) fun w=>inK h s (p::r) w K
def Hint.ok(h:Hint):Bool:=
 nodupB (h.slots.map (·.1)++h.dead)&&nodupB (h.objs.map (·.1))&&h.outs.all fun o=>nodupB (o.slots.map (·.1))
def exOps(step:Oper→SSt T.den→(SSt T.den→Tr ρ)→Tr ρ):List (G×Oper)→SSt T.den→(SSt T.den→Tr ρ)→Tr ρ
 |[],s,K=>K s
 |(g,o)::rest,s,K=>wantedS g s fun s want=>
  match want with
  |false=>s.stepK o.dst (.lit undef) [] fun s=>exOps step rest s K
  |true=>step o s fun s'=>exOps step rest s' K
def mapItems:List Item→List (G×Oper)→List (G×Item)
 |x::r,(g,_)::l=>(g,x)::mapItems r l
 |_,_=>[]
def forceI:List (G×Item)→(List (G×Item)→Tr ρ)→Tr ρ
 |[],K=>K []
 |(g,⟨i,nm,o⟩)::r,K=>forceI r fun l=>K ((g,⟨i,nm,o⟩)::l)
def exDraw[Glob](step:Nat→Oper→SSt T.den→EK T ρ→Tr ρ):List (G×Item)→SSt T.den→List Foot→(SSt T.den→List Foot→Tr ρ)→Tr ρ
 |[],s,fs,K=>K s fs
 |(g,x)::rest,s,fs,K=>wantedS g s fun s want=>
  match want with
  |false=>s.stepK x.o.dst (.lit undef) [] fun s=>exDraw step rest s (fs++[⟨x.idx,[],[]⟩]) K
  |true=>step (x.at s.hp.length) x.o s fun v wr rd=>
   match wr.all (fun q=>decide (q.1<s.hp.length)&&((isAllocOp x.o.op&&decide (q.1=x.nm))||(match s.hp[q.1]? with|some (some _)=>true|_=>false))) with
   |true=>s.stepK x.o.dst v wr fun s=>exDraw step rest s (fs++[⟨x.idx,rd,wr.map (·.1)⟩]) K
   |false=>.fail
end
def nilCellS{T:Tys}(esz j nm:Nat)(e:SV T.den):Option (SV T.den):=
 match e with
 |.agg l=>(match l[j]? with
  |some (.lit (.slice none 0 0))=>some (.agg (l.set j (.osl esz nm 0 none none)))
  |_=>none)
 |.lit (.slice none 0 0)=>if j=0 then some (.osl esz nm 0 none none) else none
 |_=>none
def nilK{T:Tys}{ρ:Type}(d:Tmp):List (Nat×Nat)→SSt T.den→(SSt T.den→Tr ρ)→Tr ρ
 |[],s,K=>K s
 |(j,esz)::r,s,K=>(match getF s.fr d with
  |.ref n _ i k=>(match s.hp[n]? with
   |some (some (.arr g _ f cur es))=>(match (es[i]?).bind (nilCellS esz (k+j) s.hp.length) with
    |some e'=>s.stepK none (.lit undef) [(n,.arr g false f cur (es.set i e')),(s.hp.length,.arr true true false 0 [])] fun s=>nilK d r s K
    | none => .no "nil")
   | _ => .no "nil")
  |v=>(match nilCellS esz j s.hp.length v with
   |some v'=>s.stepK (some d) v' [(s.hp.length,.arr true true false 0 [])] fun s=>nilK d r s K
   | none => .no "nil"))
def nilsK{T:Tys}{ρ:Type}(l:Tmp→List (Nat×Nat))(dst:Option Tmp)(s:SSt T.den)(K:SSt T.den→Tr ρ):Tr ρ:=
 match dst with
 |some d=>nilK d (l d) s K
 |none=>K s
def holeCellS{den:Nat→Type}(j:Nat):SV den→Option (SV den)
 |.agg l=>(match Nat.blt j l.length with
  |true=>some (.agg (l.set j .hole))
  |false=>none)
 |_=>none
def holesK{T:Tys}{ρ:Type}:List (Nat×Nat)→SSt T.den→(SSt T.den→Tr ρ)→Tr ρ
 |[],s,K=>K s
 |(d,j)::r,s,K=>(match getF s.fr d with
  |.ref n _ i k=>(match s.hp[n]? with
   |some (some (.arr g _ f cur es))=>(match (es[i]?).bind (holeCellS (k+j)) with
    |some e'=>s.stepK none (.lit undef) [(n,.arr g false f cur (es.set i e'))] fun s=>holesK r s K
    | none => .no "a hole")
   | _ => .no "a hole")
  | _ => .no "a hole")
def cellOf{T:Tys}(s:SSt T.den)(d j:Nat):Option (SV T.den):=
 match getF s.fr d with
 |.ref n _ i k=>(match s.hp[n]? with
  |some (some (.arr _ _ _ _ es))=>(match es[i]? with
   |some (.agg l)=>l[k+j]?
   |_=>none)
  |_=>none)
 |.agg l=>l[j]?
 |v=>(match Nat.beq j 0 with
  |true=>some v
  |false=>none)
def setCell{T:Tys}(s:SSt T.den)(d j:Nat)(v:SV T.den):SSt T.den:=
 match getF s.fr d with
 |.ref n _ i k=>(match s.hp[n]? with
  |some (some (.arr g cl f cur es))=>(match es[i]? with
   |some (.agg l)=>{ s with hp:=s.hp.set n (some (.arr g cl f cur (es.set i (.agg (l.set (k+j) v))))),wh:=n::s.wh }
   |_=>s)
  |_=>s)
 |.agg l=>{ s with fr:=setF s.n s.fr d (.agg (l.set j v)),wf:=d::s.wf }
 |_=>{ s with fr:=setF s.n s.fr d v,wf:=d::s.wf }
def numK{ρ:Type}:Nat→Nat→Int→(Int→Tr ρ)→Tr ρ
 |0,_,_,_=>.fail
 |b+1,m,n,K=>.cond (n==Int.ofNat m) (K (Int.ofNat m)) (numK b (m+1) n K)
def listK{T:Tys}{ρ:Type}(t:Nat)(l:List (T.den t)):Nat→Nat→(List (SV T.den)→Tr ρ)→Tr ρ
 |0,_,K=>K []
 |b+1,i,K=>.bind l[i]? fun x=>listK t l b (i+1) fun xs=>K (T.up t x::xs)
def twOne{T:Tys}{ρ:Type}(s:SSt T.den)(w:Tw)(K:SSt T.den→Tr ρ):Tr ρ:=
 match w with
 |.num d j b=>(match cellOf s d j with
  |some (.lit (.int k n))=>numK b 0 n fun m=>(setCell s d j (.lit (.int k m))).force K
  | _ => .no "a number")
 |.lst d j n=>(match cellOf s d j with
  |some (.tsl t l)=>.cond (Nat.blt 0 n&&decide (l.length=n)) (listK t l n 0 fun xs=>(setCell s d j (.sl xs)).force K) .fail
  | _ => .no "a list")
 |.arr d n=>(match getF s.fr d with
  |.osl _ nm _ _ _=>(match s.hp[nm]? with
   |some (some (.tarr g f cur t l))=>.cond (decide (l.length=n)) (listK t l n 0 fun xs=>SSt.force { s with hp:=s.hp.set nm (some (.arr g true f cur xs)),wh:=nm::s.wh } K) .fail
   | _ => .no "an array")
  | _ => .no "an array")
 |.int d j=>(match cellOf s d j with
  |some (.lit (.int k n))=>.bind (some n) fun n=>(setCell s d j (.lit (.int k n))).force K
  | _ => .no "a number")
 |.name d=>(match getF s.fr d with
  |.osl esz nm c rg cap=>(match s.hp[nm]? with
   |some (some (.tarr g f cur t l))=>.bind (some l) fun l=>(match rg with
    |none=>SSt.force { s with hp:=s.hp.set nm (some (.tarr g f cur t l)),wh:=nm::s.wh } K
    |some (off,len)=>.bind (some off) fun off=>.bind (some len) fun len=>
     SSt.force { s with fr:=setF s.n s.fr d (.osl esz nm c (some (off,len)) cap),hp:=s.hp.set nm (some (.tarr g f cur t l)),wf:=d::s.wf,wh:=nm::s.wh } K)
   | _ => .no "a name")
  | _ => .no "a name")
def twL{T:Tys}{ρ:Type}:List Tw→SSt T.den→(SSt T.den→Tr ρ)→Tr ρ
 |[],s,K=>K s
 |w::r,s,K=>twOne s w fun s=>twL r s K
def twK{T:Tys}{ρ:Type}(l:Tmp→List Tw)(dst:Option Tmp)(s:SSt T.den)(K:SSt T.den→Tr ρ):Tr ρ:=
 match dst with
 |some d=>twL (l d) s K
 |none=>K s
def recS{den:Nat→Type}(u:List Nat)(fr:SFr den):List Nat→List (SV den)
 |[]=>[]
 |d::r=>(match u.contains d with
  |true=>getF fr d
  |false=>.dead)::recS u fr r
def putArgsS{den:Nat→Type}(n:Nat)(fr:SFr den):List Tmp→List (SV den)→SFr den
 |p::ps,x::xs=>putArgsS n (setF n fr p x) ps xs
 |_,_=>fr
def setJ(js:List (Nat×LSt))(n:Nat)(st:LSt):List (Nat×LSt):=js.map fun q=>match Nat.beq q.1 n with
 |true=>(q.1,st)
 |false=>q
def dropJ(js:List (Nat×LSt))(n:Nat):List (Nat×LSt):=js.filter fun q=>!Nat.beq q.1 n
def belowJ(js:List (Nat×LSt))(n:Nat):Bool:=js.all fun q=>Nat.blt q.1 n
def SSt.over{T:Tys}(s:SSt T.den)(n:Nat)(hp:SHeap T.den)(wh:List Nat)(js:List (Nat×LSt)):SSt T.den:=
 { s with hp:=hp.set n (some .junk),wh:=wh,js:=dropJ js n }
def endK{T:Tys}{ρ:Type}(s:SSt T.den)(n:Nat)(dst:Option Tmp)(b:Bool)(st:LSt)(s2:SSt T.den)(K:SSt T.den→Tr ρ):Tr ρ:=
 match lookS s2.js n with
 |some .busy=>(match belowJ s2.js s.hp.length with
  |true=>forceH (truncS s.hp.length (.lit (.bool b)) s2.hp) fun hp=>SSt.stepK ⟨s.fn,s.n,s.fr,hp,s.wf,s2.wh,setJ s2.js n st⟩ dst (.lit (.bool b)) [] K
  | false => .no "a round's end")
 | _ => .no "a round's end"
def footsFast(pr:List Nat)(fs:List Foot):Bool:=
 match fs.all fun f=>f.wr.isEmpty with
 |true=>true
 |false=>footsOk pr fs
def holeStS{T:Tys}(Q:Prg)(ev:Operand→SV T.den)(op:Op)(H:SHeap T.den)(n:Nat)(o':SObj T.den):Bool:=
 match op with
 |.store t a _=>(match Q.ty t,ev a,H[n]? with
  |some r,.ref n' _ i j,some (some (.arr _ false _ cur es))=>(match es[i]? with
   |some (.agg l)=>Nat.beq n' n&&Nat.ble (j+r.size) l.length&&((l.drop j).take r.size).all isHole&&Nat.beq cur o'.cur&&Nat.beq es.length o'.len
   |_=>false)
  |_,_,_=>false)
 |_=>false
def peekOS[Glob]{T:Tys}(Q:Prg)(nm:Nat){ρ:Type}:List Oper→SSt T.den→Option Nat→List Nat→(SSt T.den→Option Nat→List Nat→Tr ρ)→Tr ρ
 |[],s,ov,rd,K=>K s ov rd
 |o::r,s,ov,rd,K=>(match o.guard with
  | some _ => .no "a look"
  |none=>(match o.op with
   | .call _ => .no "a look"
   |.assign (.const (.slice none 0 0))=>s.stepK o.dst (.lit nilSl) [] fun s=>peekOS Q nm r s ov rd K
   |op=>opS Q s.hp.length s.hp (evalS s.fr) o fun v wr rd'=>(match wr.all fun q=>Nat.ble nm q.1 with
     |true=>s.stepK o.dst v wr fun s=>peekOS Q nm r s ov (rd++rd') K
     |false=>(match ov,wr with
      |none,[(n,o')]=>(match Nat.blt n nm&&holeStS Q (evalS s.fr) op s.hp n o' with
       |true=>s.stepK o.dst v [(n,o')] fun s=>peekOS Q nm r s (some n) (rd++(rd'++[n])) K
       | false => .no "a look")
      | _, _ => .no "a look"))))
def peekCS[Glob]{T:Tys}(Q:Prg)(nm:Nat){ρ:Type}:Code→SSt T.den→Option Nat→List Nat→(Bool→SSt T.den→Option Nat→List Nat→Tr ρ)→Tr ρ
 |.skip,s,ov,rd,K=>K false s ov rd
 |.ret,s,ov,rd,K=>K true s ov rd
 |.seq a b,s,ov,rd,K=>peekCS Q nm a s ov rd fun q s ov rd=>(match q with
  |true=>K true s ov rd
  |false=>peekCS Q nm b s ov rd K)
 |.region _ ops false,s,ov,rd,K=>peekOS Q nm ops.toList s ov rd (K false)
 | _, _, _, _, _ => .no "a look"
def resRd{den:Nat→Type}(fr:SFr den)(rs:List ResultVar):List Nat:=rs.flatMap fun
 |.tmp _=>[]
 |.cell a _=>namesS (getF fr a)
def resLive{den:Nat→Type}(fr:SFr den)(rs:List ResultVar):Bool:=rs.all fun
 |.tmp _=>true
 |.cell a _=>!isDead (getF fr a)
def peekS[Glob](S:SCtx){ρ:Type}(g:FuncId)(args:List (SV S.T.den))(H:SHeap S.T.den)(K:EK S.T ρ):Tr ρ:=
 match S.C.kind g,S.C.intrE g,S.C.P.funcs[g]? with
 |.imp,none,some fn=>(match fn.body with
  |some c=>peekCS (S.Qf g) H.length c ⟨g,max fn.ntmps args.length,argsF 0 args,H,[],[],[]⟩ none [] fun _ s ov rd=>resS S.T S.Q s fn.results.toList fun l=>
   (match belowS H.length (tupS l)&&resLive s.fr fn.results.toList&&(match ov with
     |some n=>(match s.hp[n]? with
      |some o=>oBelowS H.length o
      |none=>false)
     |none=>true) with
   |true=>K (tupS l) [] ((rd++resRd s.fr fn.results.toList).filter fun n=>Nat.blt n H.length)
   | false => .no "a look's answer")
  | none => .no "a look")
 | _, _, _ => .no "a call without an answer"
def exE[Glob](S:SCtx){ρ:Type}(nm:Nat)(o:Oper)(s:SSt S.T.den)(K:EK S.T ρ):Tr ρ:=
 match o.op with
 |.call c=>
  (match c.callee with
  |.builtin _=>opS (S.Qf s.fn) nm s.hp (evalS s.fr) o K
  |.value f=>
   (match resolveS (evalS s.fr f) (c.args.toList.map (evalS s.fr)) with
   |none=>.fail
   |some (g,args)=>(match isAllocOp o.op with
    |true=>(match args.any isDead,S.own g with
     |false,some σ=>ownS S.T σ nm s.hp args K
     | _, _ => .no "a call of one's own without an answer")
    |false=>(match args.any isDead,S.sum g with
     |false,some σ=>sumS S.T σ s.hp args K
     |false,none=>peekS S g args s.hp K
     | _, _ => .no "a call without an answer")))
  | .invoke _ _ => .no "invoke")
 |_=>opS (S.Qf s.fn) nm s.hp (evalS s.fr) o K
mutual
def exF[Glob](S:SCtx):Nat→(ρ:Type)→FuncId→List (SV S.T.den)→SHeap S.T.den→List Nat→List (Nat×LSt)→(SV S.T.den→SHeap S.T.den→List Nat→List (Nat×LSt)→Tr ρ)→Tr ρ
 | 0, _, _, _, _, _, _, _ => .no "fuel"
 |k+1,ρ,f,args,hp,wh,js,K=>
  match S.C.P.funcs[f]? with
  |none=>.fail
  |some fn=>
   match fn.body with
   |none=>.fail
   |some c=>forceN [max fn.ntmps args.length] fun _=>SSt.force ⟨f,max fn.ntmps args.length,argsF 0 args,hp,[],wh,js⟩ fun s=>exC S k ρ c s fun
    |.norm s|.ret s=>resS S.T S.Q s fn.results.toList fun l=>K (tupS l) s.hp s.wh s.js
    |.exit _ _=>.fail
def exC[Glob](S:SCtx):Nat→(ρ:Type)→Code→SSt S.T.den→(SOut S.T.den→Tr ρ)→Tr ρ
 | 0, _, _, _, _ => .no "fuel"
 |k+1,ρ,c,s,K=>
  match c with
  |.skip|.label _=>K (.norm s)
  |.ret=>K (.ret s)
  |.exit id=>K (.exit id s)
  |.seq a b=>exC S k ρ a s fun
   |.norm s'=>exC S k ρ b s' K
   |r=>K r
  |.cond o a b=>
   (match evalS s.fr o with
   |.lit (.bool t)=>.cond t (exC S k ρ a s K) (exC S k ρ b s K)
   | _ => .no "cond")
  |.block id b=>exC S k ρ b s fun
   |.exit id' s'=>if id'=id then K (.norm s') else K (.exit id' s')
   |r=>K r
  |.scope b=>
   (match scopeC b with
   |some c=>exC S k ρ c s K
   | none => .no "code")
  |.loop b=>
   (match S.hint s.fn (hkey b s) with
   |none=>(match S.roll s.fn (keyOf b) with
    |true=>exC S k ρ b s fun
     |.norm s'=>(match belowJ s'.js s.hp.length with
      |true=>(resetS s.hp.length s').force fun s'=>exC S k ρ (.loop b) s' K
      | false => .no "a round's end")
     |r=>K r
    |false=>.need s b)
   |some h=>
    (match h.ok&&slotsOk s.n h.slots h.dead&&ownsOk s.hp.length h.slots h.objs,(absS h.slots h.objs s).bind (toHL h.tys) with
    |true,some x0=>.loop (τ:=HL S.T.den h.tys) (ω:=SumD S.T.den h.objs h.outs)
      (fun x=>SSt.force { concS h.slots h.dead h.objs [] s (ofHL h.tys x) with wf:=[],wh:=[] } fun s1=>exC S k _ b s1 fun
        |.norm s'=>
         (match resetS s.hp.length s' with
         |s''=>(match decide (s''.js=s.js)&&leaveS h.slots h.dead h.objs [] s s'',(absS h.slots h.objs s'').bind (toHL h.tys) with
          |true,some y=>lenGuard s.hp s''.hp h.objs (.ret (.inl y))
          |_,_=>.bad (hkey b s) none s s''))
        |.exit id s'=>outK (hkey b s) h s s' (some id) h.outs fun w=>.ret (.inr w)
        |.ret s'=>outK (hkey b s) h s s' none h.outs fun w=>.ret (.inr w))
      x0 fun w=>inK h s h.outs w K
    |_,_=>.bad (hkey b s) none s s))
  |.region id ops draw=>
   (match draw with
   |false=>holesK (S.C.holes s.fn id) s fun s=>twL (S.tw s.fn (1000000+id)) s fun s=>forceG ops ops.toList fun l=>exOps (fun o s K=>exO S k ρ o s K) l s fun s'=>K (.norm s')
   |true=>
    if regionOk ops=true then
     holesK (S.C.holes s.fn id) s fun s1=>twL (S.tw s.fn (1000000+id)) s1 fun s1=>forceG ops ops.toList fun l=>forceI (mapItems (nameOps 0 s1.hp.length (ops.toList.take (S.C.head s.fn id ops))) l) fun li=>exDraw (fun nm o s K=>exE S nm o s K) li
       { s1 with hp:=s1.hp++List.replicate ((ops.toList.take (S.C.head s.fn id ops)).filter fun o=>isAllocOp o.op).length none } [] fun s' fs=>
      if (footsFast (predsA ops.toList) fs && tailOk (predsA ops.toList) ops.size (S.C.head s.fn id ops)) = true then exOps (fun o s K => exO S k ρ o s K) (l.drop (S.C.head s.fn id ops)) s' fun s' => K (.norm s') else .no "an order"
    else .no "a region")
  |.rangeFunc f ps as bd=>
   (match resolveS (evalS s.fr f) [.mp true s.hp.length] with
   |some (g,args)=>(match !args.any isDead&&(usesC as++usesC bd).all (fun d=>!isDead (getF s.fr d)||!Nat.blt d s.n) with
    |true=>exF S k ρ g args (s.hp++[some (.recd s.fn ps as bd (recS (usesC as++usesC bd) s.fr (List.range s.n)))]) s.wh ((s.hp.length,.ready)::s.js) fun _ hp wh js=>
     (match lookS js s.hp.length with
     |some .ready=>K (.norm (s.over s.hp.length hp wh js))
     |some (.jump none)=>K (.ret (s.over s.hp.length hp wh js))
     |some (.jump (some id))=>K (.exit id (s.over s.hp.length hp wh js))
     | _ => .no "a range's end")
    | false => .no "a range over what is dead")
   | none => .no "a range")
  | _ => .no "code"
def exO[Glob](S:SCtx):Nat→(ρ:Type)→Oper→SSt S.T.den→(SSt S.T.den→Tr ρ)→Tr ρ
 | 0, _, _, _, _ => .no "fuel"
 |k+1,ρ,o,s,K=>
  match o.op with
  |.call c=>
   (match c.callee with
   |.builtin _=>opS (S.Qf s.fn) s.hp.length s.hp (evalS s.fr) o fun v wr _=>s.stepK o.dst v wr K
   |.value f=>
    (match resolveS (evalS s.fr f) (c.args.toList.map (evalS s.fr)) with
    |none=>(match evalS s.fr f with
     |.mp true n=>(match s.hp[n]?,lookS s.js n,(c.args.toList.map (evalS s.fr)).any isDead with
      |some (some (.recd fn ps as bd fr)),some .ready,false=>
       (match Nat.beq c.args.size ps.size&&noRng as&&noRng bd with
       |true=>SSt.force ⟨fn,fr.length,putArgsS fr.length (argsF 0 fr) ps.toList (c.args.toList.map (evalS s.fr)),s.hp,[],s.wh,s.js⟩ fun s0=>
        exC S k ρ as s0 fun
        |.norm s1=>(match lookS s1.js n with
         |some .ready=>exC S k ρ bd { s1 with js:=setJ s1.js n .busy } fun
          |.norm s2=>endK s n o.dst true .ready s2 K
          |.exit id s2=>endK s n o.dst false (.jump (some id)) s2 K
          |.ret s2=>endK s n o.dst false (.jump none) s2 K
         | _ => .no "a round")
        | _ => .no "a round"
       | false => .no "a round")
      | _, _, _ => .no "a round")
     | _ => .no "what is called")
    |some (g,args)=>(match isAllocOp o.op with
     |true=>(match args.any isDead,S.own g with
      |false,some σ=>ownS S.T σ s.hp.length s.hp args fun v wr _=>s.stepK o.dst v wr K
      | _, _ => .no "a call of one's own without an answer")
     |false=>(match args.any isDead,S.sum g with
     |false,some σ=>sumS S.T σ s.hp args fun v wr _=>s.stepK o.dst v wr K
     |false,none=>(match S.C.kind g with
      | .pure => .no "a call without an answer"
      |.imp=>exF S k ρ g args s.hp s.wh s.js fun v hp wh js=>(match belowJ js s.hp.length with
       |true=>forceH (truncS s.hp.length v hp) fun hp=>SSt.stepK ⟨s.fn,s.n,s.fr,hp,s.wf,wh,js⟩ o.dst v [] K
       | false => .no "a call's end"))
     | true, _ => .no "a dead argument")))
   | .invoke _ _ => .no "invoke")
  |.assign (.const (.slice none 0 0))=>
   (match o.dst with
   |some d=>
    if S.C.acc s.fn d then
     match S.Q.elem o.type with
     |some r=>if 0<r.size then s.stepK (some d) (.osl r.size s.hp.length 0 none none) [(s.hp.length,.arr true true false 0 [])] K else .fail
     |none=>.fail
    else s.stepK (some d) (.lit nilSl) [] K
   |none=>K s)
  |_=>opS (S.Qf s.fn) s.hp.length s.hp (evalS s.fr) o fun v wr _=>s.stepK o.dst v wr fun s=>nilsK (S.C.nils s.fn) o.dst s fun s=>twK (S.tw s.fn) o.dst s K
end
end Go.PI
namespace Go.PI
def compS{den:Nat→Type}(res:List Nat)(v:SV den):List (SV den):=
 match res with
 |[_]=>[v]
 |_=>match v with
  |.tup l=>l
  |_=>[.dead]
def fnTr[Glob](S:SCtx)(k:Nat)(f:FuncId)(args res:List Nat)(xs:HL S.T.den (args.map .v)):Tr (HL S.T.den (res.map .v)):=
 exF S k _ f (upL S.T (ofHL _ xs)) [] [] [] fun v hp _ _=>
  sealS S.T hp 1000 v fun v' _=>match (dnL S.T res (compS res v')).bind (toHL (res.map .v)) with
  |some r=>.ret r
  | none => .no "a result"
end Go.PI
end
section
/- PS: words for the printed tables of a seat's types. -/
namespace Go.PI
section
variable {den:Nat→Type}{α:Type}
def dI(k:IntKind):SV den→Option Int
 |.lit (.int k' n)=>if k=k' then some n else none
 |_=>none
def dB:SV den→Option Bool
 |.lit (.bool b)=>some b
 |_=>none
def dS:SV den→Option ByteArray
 |.lit (.string s)=>some s
 |_=>none
def dlG(d:SV den→Option α):List (SV den)→Option (List α)
 |[]=>some []
 |v::vs=>(d v).bind fun x=>(dlG d vs).map fun l=>x::l
def dnG(e:Nat)(d:SV den→Option (den e)):SV den→Option (List (den e))
 |.tsl t l=>if h:t=e then some (castL h l) else none
 |.sl vs=>dlG d vs
 |.lit (.slice none 0 0)=>some []
 |_=>none
def dnP(d:SV den→Option α):SV den→Option α
 |.eref v 0=>d v
 |_=>none
end
abbrev rpG{α:Type}(q:α→AV→Prop)(x:List α)(a:AV):Prop:=(∃ l,a=.sl l∧All2 q x l)∨(x=[]∧a=.lit nilSl)
abbrev rpP{α:Type}(q:α→AV→Prop)(x:α)(a:AV):Prop:=∃ b,a=.eref b 0∧q x b
abbrev gd{α:Type}(c:Bool)(x:Option α):Option α:=bif c then x else none
abbrev lc{α:Type}(n m:Nat)(l:List α):Bool:=decide (n+m≤l.length)
abbrev tk{α:Type}(n m:Nat)(l:List α):List α:=List.take m (List.drop n l)
def zI:AV:=.lit (.int .i64 0)
def zB:AV:=.lit (.bool false)
def zF:AV:=.lit .nilFunc
def zL:AV:=.lit (.slice none 0 0)
def zS:AV:=.lit (.string ByteArray.empty)
def kI:CK:=.int .i64
def kB:CK:=.bool
def mI:MTy:=⟨false,1,8,some zI,.other,none,none⟩
def mF:MTy:=⟨false,1,8,some zF,.other,none,none⟩
def mP:MTy:=⟨false,1,8,some (.lit (.pointer none)),.other,none,none⟩
def mS:MTy:=⟨false,1,16,some zS,.other,none,none⟩
def mL(e:Nat):MTy:=⟨false,1,24,some zL,.slice e,none,none⟩
end Go.PI
end
section
/- PS, part C: what a symbolic value stands for. -/
namespace Go.PI
section
variable {α β:Type}{P:α→β→Prop}
theorem All2.length:∀ {l:List α} {m:List β},All2 P l m→l.length=m.length
 |[],[],_=>rfl
 |_::_,_::_,h=>by simp[All2.length h.2]
theorem All2.get:∀ {l:List α} {m:List β},All2 P l m→∀ {i:Nat} {x:α},l[i]?=some x→∃ y,m[i]?=some y∧P x y
 |x::xs,y::ys,h,0,z,e=>by simp at e; subst e; exact⟨y,rfl,h.1⟩
 |x::xs,y::ys,h,i+1,z,e=>by simp at e ⊢; exact All2.get h.2 e
 |[],[],_,i,z,e=>by simp at e
theorem All2.get':∀ {l:List α} {m:List β},All2 P l m→∀ {i:Nat} {y:β},m[i]?=some y→∃ x,l[i]?=some x∧P x y
 |x::xs,y::ys,h,0,z,e=>by simp at e; subst e; exact⟨x,rfl,h.1⟩
 |x::xs,y::ys,h,i+1,z,e=>by simp at e ⊢; exact All2.get' h.2 e
 |[],[],_,i,z,e=>by simp at e
theorem All2.mono{Q:α→β→Prop}(hpq:∀ x y,P x y→Q x y):∀ {l:List α} {m:List β},All2 P l m→All2 Q l m
 |[],[],_=>trivial
 |_::_,_::_,h=>⟨hpq _ _ h.1,All2.mono hpq h.2⟩
theorem All2.append:∀ {l l':List α} {m m':List β},All2 P l m→All2 P l' m'→All2 P (l++l') (m++m')
 |[],_,[],_,_,h=>h
 |_::_,_,_::_,_,h,h'=>⟨h.1,All2.append h.2 h'⟩
theorem All2.set:∀ {l:List α} {m:List β},All2 P l m→∀ (i:Nat) {x:α} {y:β},P x y→All2 P (l.set i x) (m.set i y)
 |[],[],_,_,_,_,_=>trivial
 |_::_,_::_,h,0,_,_,hp=>⟨hp,h.2⟩
 |_::_,_::_,h,i+1,_,_,hp=>⟨h.1,All2.set h.2 i hp⟩
theorem All2.drop:∀ {l:List α} {m:List β},All2 P l m→∀ i,All2 P (l.drop i) (m.drop i)
 |[],[],_,i=>by simp[All2]
 |_::_,_::_,h,0=>h
 |_::_,_::_,h,i+1=>All2.drop h.2 i
theorem All2.take:∀ {l:List α} {m:List β},All2 P l m→∀ i,All2 P (l.take i) (m.take i)
 |[],[],_,i=>by simp[All2]
 |_::_,_::_,h,0=>trivial
 |_::_,_::_,h,i+1=>⟨h.1,All2.take h.2 i⟩
theorem All2.replicate{x:α}{y:β}(h:P x y):∀ n,All2 P (List.replicate n x) (List.replicate n y)
 |0=>trivial
 |n+1=>⟨h,All2.replicate h n⟩
theorem All2.nil_left{m:List β}(h:All2 P [] m):m=[]:=by cases m with
 |nil=>rfl
 |cons y ys=>exact h.elim
theorem All2.of_get:∀ {l:List α} {m:List β},l.length=m.length→(∀ (i:Nat) (x:α) (y:β),l[i]?=some x→m[i]?=some y→P x y)→All2 P l m
 |[],[],_,_=>trivial
 |x::xs,y::ys,h,hg=>⟨hg 0 x y rfl rfl,All2.of_get (by simpa using h) fun i a b ha hb=>hg (i+1) a b (by simpa using ha) (by simpa using hb)⟩
end
variable {T:Tys}
def verOk{den:Nat→Type}(H:SHeap den)(n c ver:Nat):Prop:=
 ∃ o:SObj den,H[n]?=some (some o)∧c≤o.cur∧(c=o.cur→ver=o.len)
def AtX(a0:AV)(d:Nat)(a:AV):Prop:=
 (∃ n ver k j,a0=.ref n ver k j∧a=.ref n ver k (j+d))∨∃ e j,a0=.eref e j∧a=.eref e (j+d)
mutual
def R(T:Tys)(H:SHeap T.den):SV T.den→AV→Prop
 |.dead,_=>False
 |.hole,a=>a=.any
 |.lit v,a=>a=.lit v
 |.agg l,a=>∃ l',a=.agg l'∧RL T H l l'
 |.tup l,a=>∃ l',a=.tup l'∧RL T H l l'
 |.sl l,a=>∃ l',a=.sl l'∧RL T H l l'∧closedLS l=true
 |.tsl t l,a=>(∃ l',a=.sl l'∧All2 (T.rp t) l l')∨(l=[]∧a=.lit nilSl)
 |.eref e j,a=>∃ e',a=.eref e' j∧R T H e e'∧closedS e=true
 |.ref n c i j,a=>∃ ver,a=.ref n ver i j∧verOk H n c ver
 |.asl n c i j ln cp,a=>∃ ver,a=.asl n ver i j ln cp∧verOk H n c ver
 |.osl esz n c rg cap,a=>∃ ver,verOk H n c ver∧(match rg with
  |none=>a=.osl esz n ver 0 ver cap
  |some (off,len)=>a=.osl esz n ver off len cap)
 |.clo fn f c,a=>∃ f' c',a=.clo fn f' c'∧RL T H f f'∧RL T H c c'
 |.ifc t v,a=>∃ v',a=.ifc t v'∧R T H v v'
 |.tsx t l c b,a=>(b=true∧∃ l',a=.slx l' c∧All2 (T.rp t) l l')∨(b=false∧l=[]∧(a=.sl []∨a=.lit nilSl))
 |.nz,a=>a=.nz
 |.mp y n,a=>a=.mp y n∧∃ o:SObj T.den,H[n]?=some (some o)
 |.xat v s len i,a=>∃ a0,R T H v a0∧i<len∧AtX a0 (i*s) a
def RL(T:Tys)(H:SHeap T.den):List (SV T.den)→List AV→Prop
 |[],[]=>True
 |x::xs,y::ys=>R T H x y∧RL T H xs ys
 |_,_=>False
end
theorem RL_iff{H:SHeap T.den}:∀ {l:List (SV T.den)} {m:List AV},RL T H l m↔All2 (R T H) l m
 |[],[]=>by simp[RL,All2]
 |x::xs,y::ys=>by simp only[RL,All2]; rw[RL_iff]
 |[],_::_=>by simp[RL,All2]
 |_::_,[]=>by simp[RL,All2]
def RV(T:Tys)(H:SHeap T.den)(v:SV T.den)(a:AV):Prop:=v=.dead∨R T H v a
theorem RV.live{H:SHeap T.den}{v:SV T.den}{a:AV}(h:RV T H v a)(hd:isDead v=false):R T H v a:=by
 rcases h with h|h
 ·subst h; simp[isDead]at hd
 ·exact h
def RD(T:Tys)(H:SHeap T.den)(v:SV T.den)(a:AV):Prop:=(v=.dead∧a=.any)∨R T H v a
def RO(T:Tys)(H:SHeap T.den):SObj T.den→AObj→Prop
 |.arr g cl f _ es,a=>∃ es',a=.arr g cl f es'∧RL T H es es'∧(cl=true→closedLS es=true)
 |.tarr g f _ t l,a=>∃ es',a=.arr g true f es'∧All2 (T.rp t) l es'
 |.junk,a=>(∃ g f es',a=.arr g true f es')∨∃ k vs,a=.oth k vs∧∀ n,belowL n vs=true
 |.tmap kk t m,a=>∃ vs,a=.oth (.map kk (m.map fun q=>kk.v q.1)) vs∧All2 (T.rp t) (m.map (·.2)) vs
 |.recd fn ps as bd fr,a=>∃ st vs,a=.oth (.loop fn ps as bd st) vs∧All2 (RD T H) fr vs
def ROo(T:Tys)(H:SHeap T.den):Option (SObj T.den)→Option AObj→Prop
 |none,none=>True
 |some o,some a=>RO T H o a
 |_,_=>False
def RH(T:Tys)(H:SHeap T.den)(hp:AHeap):Prop:=All2 (ROo T H) H hp
def SObj.isRec{den:Nat→Type}:SObj den→Bool
 |.recd ..=>true
 |_=>false
def recAt{den:Nat→Type}(H:SHeap den)(n:Nat):Bool:=
 match H[n]? with
 |some (some o)=>o.isRec
 |_=>false
def Grow{den:Nat→Type}(H H':SHeap den):Prop:=
 ∀ (n:Nat) (o:SObj den),H[n]?=some (some o)→∃ o':SObj den,H'[n]?=some (some o')∧o.cur≤o'.cur∧(o'.cur=o.cur→o'.len=o.len)
theorem Grow.refl{den:Nat→Type}(H:SHeap den):Grow H H:=fun _ o h=>⟨o,h,Nat.le_refl _,fun _=>rfl⟩
theorem Grow.trans{den:Nat→Type}{H H' H'':SHeap den}(h:Grow H H')(h':Grow H' H''):Grow H H'':=by
 intro n o ho
 obtain⟨o',h1,h2,h3⟩:=h n o ho
 obtain⟨o'',h4,h5,h6⟩:=h' n o' h1
 exact⟨o'',h4,Nat.le_trans h2 h5,fun e=>by rw[h6 (by omega),h3 (by omega)]⟩
theorem verOk.mono{den:Nat→Type}{H H':SHeap den}(h:Grow H H'){n c ver:Nat}(hv:verOk H n c ver):verOk H' n c ver:=by
 obtain⟨o,h1,h2,h3⟩:=hv
 obtain⟨o',h4,h5,h6⟩:=h n o h1
 exact⟨o',h4,Nat.le_trans h2 h5,fun e=>by rw[h3 (by omega),h6 (by omega)]⟩
mutual
theorem R.mono{H H':SHeap T.den}(hg:Grow H H'):∀ {v:SV T.den} {a:AV},R T H v a→R T H' v a
 |.dead,_,h=>by simp[R]at h
 |.hole,a,h=>by simpa[R] using h
 |.lit v,a,h=>by simpa[R] using h
 |.agg l,a,h=>by
  simp only[R]at h ⊢
  obtain⟨l',h1,h2⟩:=h
  exact⟨l',h1,RL.mono hg h2⟩
 |.tup l,a,h=>by
  simp only[R]at h ⊢
  obtain⟨l',h1,h2⟩:=h
  exact⟨l',h1,RL.mono hg h2⟩
 |.sl l,a,h=>by
  simp only[R]at h ⊢
  obtain⟨l',h1,h2,h3⟩:=h
  exact⟨l',h1,RL.mono hg h2,h3⟩
 |.tsl t l,a,h=>by simpa[R] using h
 |.tsx t l c b,a,h=>by simp only[R]at h ⊢; exact h
 |.nz,a,h=>by simp only[R]at h ⊢; exact h
 |.eref e j,a,h=>by
  simp only[R]at h ⊢
  obtain⟨e',h1,h2,h3⟩:=h
  exact⟨e',h1,R.mono hg h2,h3⟩
 |.ref n c i j,a,h=>by
  simp only[R]at h ⊢
  obtain⟨ver,h1,h2⟩:=h
  exact⟨ver,h1,h2.mono hg⟩
 |.asl n c i j ln cp,a,h=>by
  simp only[R]at h ⊢
  obtain⟨ver,h1,h2⟩:=h
  exact⟨ver,h1,h2.mono hg⟩
 |.osl esz n c rg cap,a,h=>by
  simp only[R]at h ⊢
  obtain⟨ver,h1,h2⟩:=h
  exact⟨ver,h1.mono hg,h2⟩
 |.clo fn f c,a,h=>by
  simp only[R]at h ⊢
  obtain⟨f',c',h1,h2,h3⟩:=h
  exact⟨f',c',h1,RL.mono hg h2,RL.mono hg h3⟩
 |.ifc t v,a,h=>by
  simp only[R]at h ⊢
  obtain⟨v',h1,h2⟩:=h
  exact⟨v',h1,R.mono hg h2⟩
 |.mp y n,a,h=>by
  simp only[R]at h ⊢
  obtain⟨h1,o,h2⟩:=h
  obtain⟨o',h3,_⟩:=hg n o h2
  exact⟨h1,o',h3⟩
 |.xat v s len i,a,h=>by
  simp only[R]at h ⊢
  obtain⟨a0,h1,h2,h3⟩:=h
  exact⟨a0,R.mono hg h1,h2,h3⟩
theorem RL.mono{H H':SHeap T.den}(hg:Grow H H'):∀ {l:List (SV T.den)} {m:List AV},RL T H l m→RL T H' l m
 |[],[],_=>by simp[RL]
 |x::xs,y::ys,h=>by
  simp only[RL]at h ⊢
  exact⟨R.mono hg h.1,RL.mono hg h.2⟩
 |[],_::_,h=>by simp[RL]at h
 |_::_,[],h=>by simp[RL]at h
end
theorem RV.mono[Glob]{H H':SHeap T.den}(hg:Grow H H'){v:SV T.den}{a:AV}(h:RV T H v a):RV T H' v a:=h.imp id (R.mono hg)
theorem RO.mono[Glob]{H H':SHeap T.den}(hg:Grow H H'){o:SObj T.den}{a:AObj}(h:RO T H o a):RO T H' o a:=by
 cases o with
 |arr g cl f cur es=>
  obtain⟨es',h1,h2,h3⟩:=h
  exact⟨es',h1,RL.mono hg h2,h3⟩
 |tarr g f cur t l=>exact h
 |junk=>exact h
 |tmap kk t m=>exact h
 |recd fn ps as bd fr=>
  obtain⟨st,vs,h1,h2⟩:=h
  exact⟨st,vs,h1,All2.mono (fun _ _ h=>h.imp id (R.mono hg)) h2⟩
theorem ROo.mono[Glob]{H H':SHeap T.den}(hg:Grow H H'){o:Option (SObj T.den)}{a:Option AObj}(h:ROo T H o a):ROo T H' o a:=by
 cases o<;>cases a<;>first|exact h|exact RO.mono hg h
theorem RH.length[Glob]{H:SHeap T.den}{hp:AHeap}(h:RH T H hp):H.length=hp.length:=All2.length h
theorem RH.obj[Glob]{H:SHeap T.den}{hp:AHeap}(h:RH T H hp){n:Nat}{o:SObj T.den}(ho:H[n]?=some (some o)):∃ a,hp[n]?=some (some a)∧RO T H o a:=by
 obtain⟨a,h1,h2⟩:=All2.get h ho
 cases a with
 |none=>exact h2.elim
 |some a=>exact⟨a,h1,h2⟩
theorem RH.none[Glob]{H:SHeap T.den}{hp:AHeap}(h:RH T H hp){n:Nat}(ho:H[n]?=some none):hp[n]?=some none:=by
 obtain⟨a,h1,h2⟩:=All2.get h ho
 cases a with
 |none=>exact h1
 |some a=>exact h2.elim
theorem RH.upd[Glob]{H:SHeap T.den}{hp:AHeap}(h:RH T H hp){n:Nat}{o o':SObj T.den}{a':AObj}(ho:H[n]?=some (some o))(hc:o.cur≤o'.cur)(hl:o'.cur=o.cur→o'.len=o.len)
  (hr:RO T H o' a'):Grow H (H.set n (some o'))∧RH T (H.set n (some o')) (hp.set n (some a')):=by
 have hg:Grow H (H.set n (some o')):=by
  intro m q hq
  by_cases e:m=n
  ·grind
  ·grind
 exact⟨hg,All2.set (All2.mono (fun _ _=>ROo.mono hg) h) n (show ROo T _ (some o') (some a') from RO.mono hg hr)⟩
theorem RH.new[Glob]{H:SHeap T.den}{hp:AHeap}(h:RH T H hp){nm:Nat}{o':SObj T.den}{a':AObj}(hn:nm=H.length∨H[nm]?=some .none)(hr:RO T H o' a'):
  Grow H (setObjS H nm o')∧RH T (setObjS H nm o') (setObj hp nm a'):=by
 have hlen:=h.length
 unfold setObjS setObj
 by_cases e:nm=H.length
 ·rw[if_pos e,if_pos (by omega)]
  have hg:Grow H (H++[some o']):=by
   intro m q hq
   have hlt:=(List.getElem?_eq_some_iff.1 hq).1
   exact⟨q,by rw[List.getElem?_append_left hlt]; exact hq,Nat.le_refl _,fun _=>rfl⟩
  exact⟨hg,All2.append (All2.mono (fun _ _=>ROo.mono hg) h) ⟨RO.mono hg hr,trivial⟩⟩
 ·rw[if_neg e,if_neg (by omega)]
  have hn:H[nm]?=some .none:=hn.resolve_left e
  have hg:Grow H (H.set nm (some o')):=by
   intro m q hq
   by_cases e:m=nm
   ·subst e; rw[hn]at hq; simp at hq
   ·grind
  exact⟨hg,All2.set (All2.mono (fun _ _=>ROo.mono hg) h) nm (show ROo T _ (some o') (some a') from RO.mono hg hr)⟩
structure Tys.Ok(T:Tys):Prop where
 up:∀ t x a H,T.rp t x a→R T H (T.up t x) a
 dn:∀ t v x a H,T.dn t v=some x→R T H v a→T.rp t x a
 ok:∀ t x a,T.rp t x a→okElem (T.agg t) (T.size t) a=true
 closed:∀ t x a,T.rp t x a→closed a=true
theorem closedLS_all{den:Nat→Type}:∀ (l:List (SV den)),closedLS l=l.all closedS
 |[]=>rfl
 |x::xs=>by simp only[closedLS,List.all_cons]; rw[closedLS_all xs]
theorem closed_mem[Glob]{den:Nat→Type}{l:List (SV den)}(h:closedLS l=true){x:SV den}(hx:x∈l):closedS x=true:=by
 rw[closedLS_all]at h
 exact List.all_eq_true.1 h x hx
theorem closed_of[Glob]{den:Nat→Type}{l:List (SV den)}(h:∀ x,x∈l→closedS x=true):closedLS l=true:=by
 rw[closedLS_all]
 exact List.all_eq_true.2 h
theorem closed_part[Glob]{den:Nat→Type}{l:List (SV den)}(h:closedLS l=true)(a b:Nat):closedLS ((l.drop a).take b)=true:=
 closed_of fun _ hx=>closed_mem h (List.mem_of_mem_drop (List.mem_of_mem_take hx))
theorem closed_app[Glob]{den:Nat→Type}{l m:List (SV den)}(h:closedLS l=true)(h':closedLS m=true):closedLS (l++m)=true:=
 closed_of fun _ hx=>(List.mem_append.1 hx).elim (closed_mem h) (closed_mem h')
theorem closed_set[Glob]{den:Nat→Type}{l:List (SV den)}(h:closedLS l=true){x:SV den}(hx:closedS x=true)(i:Nat):closedLS (l.set i x)=true:=
 closed_of fun _ hy=>(List.mem_or_eq_of_mem_set hy).elim (closed_mem h) fun e=>e▸hx
theorem closed_setCells[Glob]{den:Nat→Type}:∀ {cs l:List (SV den)} (j:Nat),closedLS l=true→closedLS cs=true→closedLS (setCellsS l j cs)=true
 |[],_,_,h,_=>h
 |x::xs,l,j,h,hc=>by
  simp only[closedLS,Bool.and_eq_true]at hc
  simp only[setCellsS]
  exact closed_setCells (j+1) (closed_set h hc.1 j) hc.2
theorem closed_setPart[Glob]{den:Nat→Type}{e e':SV den}{j:Nat}{cs:List (SV den)}(h:setPartS e j cs=some e')(he:closedS e=true)(hc:closedLS cs=true):closedS e'=true:=by
 unfold setPartS at h
 split at h
 ·split at h
  case isFalse=>simp at h
  simp only[Option.some.injEq]at h
  subst h
  simp only[closedS]at he ⊢
  exact closed_setCells j he hc
 ·grind[closedLS]
theorem closedS_cells[Glob]{den:Nat→Type}(v:SV den):closedLS (cellsS v)=closedS v:=by
 cases v with
 |lit v=>
  simp only[cellsS,closedS]
  exact closed_of fun x hx=>by obtain⟨y,_,rfl⟩:=List.mem_map.1 hx; rfl
 |agg l=>rfl
 |_=>simp[cellsS,closedLS]
theorem closed_setParts[Glob]{den:Nat→Type}:∀ {ps:List (Nat×SV den)} {es:List (SV den)},closedLS es=true→closedLS (ps.map (·.2))=true→closedLS (setPartsS es ps)=true
 |[],_,h,_=>h
 |(i,v)::ps,es,h,hc=>by
  simp only[List.map_cons,closedLS,Bool.and_eq_true]at hc
  simp only[setPartsS]
  exact closed_setParts (closed_set h hc.1 i) hc.2
theorem closed_plain[Glob]{den:Nat→Type}{a:AV}{v:SV den}(h:(ofPlain a:Option (SV den))=some v):closedS v=true:=by
 cases a with
 |lit x=>simp[ofPlain]at h; subst h; rfl
 |agg l=>
  simp only[ofPlain,Option.map_eq_some_iff]at h
  obtain⟨c,_,rfl⟩:=h
  simp only[closedS]
  exact closed_of fun x hx=>by obtain⟨y,_,rfl⟩:=List.mem_map.1 hx; rfl
 |_=>simp[ofPlain]at h
end Go.PI
end
section
/- PS, part D: parts of values, by value, flat, below: on both sides alike. -/
namespace Go.PI
def Yld{α:Type}(hp:AHeap)(r:RM α)(a:α)(rd:List Nat):Prop:=r.run hp=some a∧∀ n,n∈r.log hp→n∈rd
section
variable {α β:Type}{hp:AHeap}
theorem Yld.pure(a:α):Yld hp (pure a:RM α) a []:=⟨rfl,fun n h=>by simp[Pure.pure,RM.log]at h⟩
theorem Yld.ret(a:α):Yld hp (RM.ret a:RM α) a []:=⟨rfl,fun n h=>by simp[RM.log]at h⟩
theorem Yld.mono{r:RM α}{a:α}{rd rd':List Nat}(h:Yld hp r a rd)(hs:∀ n,n∈rd→n∈rd'):Yld hp r a rd':=⟨h.1,fun n hn=>hs n (h.2 n hn)⟩
theorem Yld.bind[Glob]{r:RM α}{f:α→RM β}{a:α}{b:β}{rd rd':List Nat}(h:Yld hp r a rd)(h':Yld hp (f a) b rd'):Yld hp (r >>= f) b (rd++rd'):=by
 refine⟨by rw[RM.run_bind,h.1]; exact h'.1,fun n hn=>?_⟩
 rw[RM.log_bind,h.1]at hn
 simp only[List.mem_append]at hn ⊢
 exact hn.imp (h.2 n) (h'.2 n)
theorem Yld.get{n:Nat}{k:AObj→RM α}{o:AObj}{a:α}{rd:List Nat}(ho:hp[n]?=some (some o))(h:Yld hp (k o) a rd):Yld hp (.get n k) a (n::rd):=by
 refine⟨by simp[RM.run,ho,h.1],fun m hm=>?_⟩
 simp only[RM.log,ho,List.mem_cons]at hm ⊢
 exact hm.imp id (h.2 m)
theorem Yld.arr[Glob]{n ver:Nat}{g c f:Bool}{es:List AV}(ho:hp[n]?=some (some (.arr g c f es)))(hl:es.length=ver):Yld hp (RM.arr n ver) (g,c,f,es) [n]:=by
 refine Yld.get ho ?_
 simp only[hl,if_true]
 exact Yld.ret _
theorem Yld.ofOpt[Glob]{x:Option α}{a:α}(h:x=some a):Yld hp (RM.ofOpt x) a []:=by subst h; exact Yld.ret a
end
variable {T:Tys}
mutual
theorem R.closed{H:SHeap T.den}:∀ {v:SV T.den} {a:AV},R T H v a→closedS v=closed a
 |.dead,a,h=>by simp[R]at h
 |.hole,a,h=>by simp only[R]at h; subst h; rfl
 |.lit v,a,h=>by simp only[R]at h; subst h; rfl
 |.agg l,a,h=>by
  simp only[R]at h
  obtain⟨l',rfl,h2⟩:=h
  simp only[closedS,Go.PI.closed]; exact RL.closed h2
 |.tup l,a,h=>by
  simp only[R]at h
  obtain⟨l',rfl,h2⟩:=h
  simp only[closedS,Go.PI.closed]; exact RL.closed h2
 |.sl l,a,h=>by
  simp only[R]at h
  obtain⟨l',rfl,h2⟩:=h
  rfl
 |.tsl t l,a,h=>by
  simp only[R]at h
  rcases h with ⟨l',rfl,_⟩|⟨_,rfl⟩<;>rfl
 |.tsx t l c b,a,h=>by
  simp only[R]at h
  rcases h with ⟨_,l',rfl,_⟩|⟨_,_,rfl|rfl⟩<;>rfl
 |.nz,a,h=>by
  simp only[R]at h
  subst h; rfl
 |.eref e j,a,h=>by
  simp only[R]at h
  obtain⟨e',rfl,h2⟩:=h
  rfl
 |.ref n c i j,a,h=>by
  simp only[R]at h
  obtain⟨ver,rfl,h2⟩:=h
  rfl
 |.asl n c i j ln cp,a,h=>by
  simp only[R]at h
  obtain⟨ver,rfl,h2⟩:=h
  rfl
 |.osl esz n c rg cap,a,h=>by
  simp only[R]at h
  obtain⟨ver,h1,h2⟩:=h
  rcases rg with _|⟨off,len⟩<;>simp only at h2<;>subst h2<;>rfl
 |.clo fn f c,a,h=>by
  simp only[R]at h
  obtain⟨f',c',rfl,h2,h3⟩:=h
  simp only[closedS,Go.PI.closed]; rw[RL.closed h2,RL.closed h3]
 |.ifc t v,a,h=>by
  simp only[R]at h
  obtain⟨v',rfl,h2⟩:=h
  simp only[closedS,Go.PI.closed]; exact R.closed h2
 |.mp y n,a,h=>by
  simp only[R]at h
  obtain⟨rfl,_⟩:=h
  rfl
 |.xat v s len i,a,h=>by
  simp only[R]at h
  obtain⟨a0,h1,_,h2⟩:=h
  have:=R.closed h1
  simp only[closedS]
  rcases h2 with ⟨n,ver,k,j,rfl,rfl⟩|⟨e,j,rfl,rfl⟩<;>exact this
theorem RL.closed{H:SHeap T.den}:∀ {l:List (SV T.den)} {m:List AV},RL T H l m→closedLS l=closedL m
 |[],[],_=>rfl
 |x::xs,y::ys,h=>by
  simp only[RL]at h
  simp only[closedLS,closedL]; rw[R.closed h.1,RL.closed h.2]
 |[],_::_,h=>by simp[RL]at h
 |_::_,[],h=>by simp[RL]at h
end
mutual
theorem R.below{H:SHeap T.den}{k:Nat}:∀ {v:SV T.den} {a:AV},R T H v a→belowS k v=below k a
 |.dead,a,h=>by simp[R]at h
 |.hole,a,h=>by simp only[R]at h; subst h; rfl
 |.lit v,a,h=>by simp only[R]at h; subst h; rfl
 |.agg l,a,h=>by
  simp only[R]at h
  obtain⟨l',rfl,h2⟩:=h
  simp only[belowS,Go.PI.below]; exact RL.below h2
 |.tup l,a,h=>by
  simp only[R]at h
  obtain⟨l',rfl,h2⟩:=h
  simp only[belowS,Go.PI.below]; exact RL.below h2
 |.sl l,a,h=>by
  simp only[R]at h
  obtain⟨l',rfl,h2⟩:=h
  rfl
 |.tsl t l,a,h=>by
  simp only[R]at h
  rcases h with ⟨l',rfl,_⟩|⟨_,rfl⟩<;>rfl
 |.tsx t l c b,a,h=>by
  simp only[R]at h
  rcases h with ⟨_,l',rfl,_⟩|⟨_,_,rfl|rfl⟩<;>rfl
 |.nz,a,h=>by
  simp only[R]at h
  subst h; rfl
 |.eref e j,a,h=>by
  simp only[R]at h
  obtain⟨e',rfl,h2⟩:=h
  rfl
 |.ref n c i j,a,h=>by
  simp only[R]at h
  obtain⟨ver,rfl,h2⟩:=h
  rfl
 |.asl n c i j ln cp,a,h=>by
  simp only[R]at h
  obtain⟨ver,rfl,h2⟩:=h
  rfl
 |.osl esz n c rg cap,a,h=>by
  simp only[R]at h
  obtain⟨ver,h1,h2⟩:=h
  rcases rg with _|⟨off,len⟩<;>simp only at h2<;>subst h2<;>rfl
 |.clo fn f c,a,h=>by
  simp only[R]at h
  obtain⟨f',c',rfl,h2,h3⟩:=h
  simp only[belowS,Go.PI.below]; rw[RL.below h2,RL.below h3]
 |.ifc t v,a,h=>by
  simp only[R]at h
  obtain⟨v',rfl,h2⟩:=h
  simp only[belowS,Go.PI.below]; exact R.below h2
 |.mp y n,a,h=>by
  simp only[R]at h
  obtain⟨rfl,_⟩:=h
  rfl
 |.xat v s len i,a,h=>by
  simp only[R]at h
  obtain⟨a0,h1,_,h2⟩:=h
  have:=R.below (k:=k) h1
  simp only[belowS]
  rcases h2 with ⟨n,ver,k,j,rfl,rfl⟩|⟨e,j,rfl,rfl⟩<;>exact this
theorem RL.below{H:SHeap T.den}{k:Nat}:∀ {l:List (SV T.den)} {m:List AV},RL T H l m→belowLS k l=belowL k m
 |[],[],_=>rfl
 |x::xs,y::ys,h=>by
  simp only[RL]at h
  simp only[belowLS,belowL]; rw[R.below h.1,RL.below h.2]
 |[],_::_,h=>by simp[RL]at h
 |_::_,[],h=>by simp[RL]at h
end
mutual
theorem R.names{H:SHeap T.den}:∀ {v:SV T.den} {a:AV},R T H v a→namesS v=names a
 |.dead,a,h=>by simp[R]at h
 |.hole,a,h=>by simp only[R]at h; subst h; rfl
 |.lit v,a,h=>by simp only[R]at h; subst h; rfl
 |.agg l,a,h=>by
  simp only[R]at h
  obtain⟨l',rfl,h2⟩:=h
  simp only[namesS,Go.PI.names]; exact RL.names h2
 |.tup l,a,h=>by
  simp only[R]at h
  obtain⟨l',rfl,h2⟩:=h
  simp only[namesS,Go.PI.names]; exact RL.names h2
 |.sl l,a,h=>by
  simp only[R]at h
  obtain⟨l',rfl,h2⟩:=h
  rfl
 |.tsl t l,a,h=>by
  simp only[R]at h
  rcases h with ⟨l',rfl,_⟩|⟨_,rfl⟩<;>rfl
 |.tsx t l c b,a,h=>by
  simp only[R]at h
  rcases h with ⟨_,l',rfl,_⟩|⟨_,_,rfl|rfl⟩<;>rfl
 |.nz,a,h=>by
  simp only[R]at h
  subst h; rfl
 |.eref e j,a,h=>by
  simp only[R]at h
  obtain⟨e',rfl,h2⟩:=h
  rfl
 |.ref n c i j,a,h=>by
  simp only[R]at h
  obtain⟨ver,rfl,h2⟩:=h
  rfl
 |.asl n c i j ln cp,a,h=>by
  simp only[R]at h
  obtain⟨ver,rfl,h2⟩:=h
  rfl
 |.osl esz n c rg cap,a,h=>by
  simp only[R]at h
  obtain⟨ver,h1,h2⟩:=h
  rcases rg with _|⟨off,len⟩<;>simp only at h2<;>subst h2<;>rfl
 |.clo fn f c,a,h=>by
  simp only[R]at h
  obtain⟨f',c',rfl,h2,h3⟩:=h
  simp only[namesS,Go.PI.names]; rw[RL.names h2,RL.names h3]
 |.ifc t v,a,h=>by
  simp only[R]at h
  obtain⟨v',rfl,h2⟩:=h
  simp only[namesS,Go.PI.names]; exact R.names h2
 |.mp y n,a,h=>by
  simp only[R]at h
  obtain⟨rfl,_⟩:=h
  rfl
 |.xat v s len i,a,h=>by
  simp only[R]at h
  obtain⟨a0,h1,_,h2⟩:=h
  have:=R.names h1
  simp only[namesS]
  rcases h2 with ⟨n,ver,k,j,rfl,rfl⟩|⟨e,j,rfl,rfl⟩<;>exact this
theorem RL.names{H:SHeap T.den}:∀ {l:List (SV T.den)} {m:List AV},RL T H l m→namesLS l=namesL m
 |[],[],_=>rfl
 |x::xs,y::ys,h=>by
  simp only[RL]at h
  simp only[namesLS,namesL]; rw[R.names h.1,RL.names h.2]
 |[],_::_,h=>by simp[RL]at h
 |_::_,[],h=>by simp[RL]at h
end
theorem R.leaf{H:SHeap T.den}{v:SV T.den}{a:AV}(h:R T H v a):isLeafS v=isLeaf a:=by
 cases v with
 |dead=>simp[R]at h
 |hole=>simp only[R]at h; subst h; rfl
 |lit v=>simp only[R]at h; subst h; rfl
 |agg l=>simp only[R]at h; obtain⟨l',rfl,h2⟩:=h; rfl
 |tup l=>simp only[R]at h; obtain⟨l',rfl,h2⟩:=h; rfl
 |sl l=>simp only[R]at h; obtain⟨l',rfl,h2⟩:=h; rfl
 |tsl t l=>simp only[R]at h; rcases h with ⟨l',rfl,_⟩|⟨_,rfl⟩<;>rfl
 |tsx t l c b=>simp only[R]at h; rcases h with ⟨_,l',rfl,_⟩|⟨_,_,rfl|rfl⟩<;>rfl
 |nz=>simp only[R]at h; subst h; rfl
 |eref e j=>simp only[R]at h; obtain⟨e',rfl,h2⟩:=h; rfl
 |ref n c i j=>simp only[R]at h; obtain⟨ver,rfl,h2⟩:=h; rfl
 |asl n c i j ln cp=>simp only[R]at h; obtain⟨ver,rfl,h2⟩:=h; rfl
 |osl esz n c rg cap=>
  simp only[R]at h
  obtain⟨ver,h1,h2⟩:=h
  rcases rg with _|⟨off,len⟩<;>simp only at h2<;>subst h2<;>rfl
 |clo fn f c=>simp only[R]at h; obtain⟨f',c',rfl,h2,h3⟩:=h; rfl
 |ifc t v=>simp only[R]at h; obtain⟨v',rfl,h2⟩:=h; rfl
 |mp y n=>simp only[R]at h; obtain⟨rfl,h2⟩:=h; rfl
 |xat v s len i=>simp only[R]at h; obtain⟨a0,_,_,h2⟩:=h; rcases h2 with ⟨n,ver,k,j,rfl,rfl⟩|⟨e,j,rfl,rfl⟩<;>rfl
theorem R.notAgg{H:SHeap T.den}{v:SV T.den}{a:AV}(h:R T H v a)(hv:∀ l,v≠.agg l):∀ l,a≠.agg l:=by
 intro l e
 subst e
 cases v with
 |dead=>simp[R]at h
 |hole=>simp[R]at h
 |lit v=>simp[R]at h
 |agg l=>exact hv l rfl
 |tup l=>simp[R]at h
 |sl l=>simp[R]at h
 |tsl t l=>simp[R]at h
 |eref e j=>simp[R]at h
 |ref n c i j=>simp[R]at h
 |asl n c i j ln cp=>simp[R]at h
 |osl esz n c rg cap=>
  grind[R]
 |clo fn f c=>simp[R]at h
 |ifc t v=>simp[R]at h
 |mp y n=>simp[R]at h
 |xat v s len i=>simp[R,AtX]at h
 |tsx t l c b=>simp[R]at h
 |nz=>simp[R]at h
theorem RL.length[Glob]{H:SHeap T.den}{l:List (SV T.den)}{m:List AV}(h:RL T H l m):l.length=m.length:=All2.length (RL_iff.1 h)
theorem RL.lits{H:SHeap T.den}:∀ (c:List Value),RL T H (c.map .lit) (c.map .lit)
 |[]=>by simp[RL]
 |v::vs=>by simp only[List.map_cons,RL]; exact⟨by simp[R],RL.lits vs⟩
theorem R.cells[Glob]{H:SHeap T.den}{v:SV T.den}{a:AV}(h:R T H v a):RL T H (cellsS v) (cellsOf a):=by
 cases v with
 |dead=>simp[R]at h
 |hole=>simp_all[R,cellsS,cellsOf,RL]
 |lit v=>simp only[R]at h; subst h; exact RL.lits _
 |agg l=>simp only[R]at h; obtain⟨l',rfl,h2⟩:=h; exact h2
 |tsl t l=>
  have h':=h
  simp only[R]at h
  rcases h with ⟨l',rfl,_⟩|⟨_,rfl⟩
  ·simp_all[cellsS,cellsOf,RL]
  ·show RL T H [_] [AV.lit nilSl]
   simp only[RL]; exact⟨h',trivial⟩
 |tup l=>grind[R,cellsS,cellsOf,RL]
 |sl l=>grind[R,cellsS,cellsOf,RL]
 |eref e j=>grind[R,cellsS,cellsOf,RL]
 |ref n c i j=>grind[R,cellsS,cellsOf,RL]
 |asl n c i j ln cp=>grind[R,cellsS,cellsOf,RL]
 |osl esz n c rg cap=>
  grind[R,cellsS,cellsOf,RL]
 |clo fn f c=>grind[R,cellsS,cellsOf,RL]
 |ifc t v=>grind[R,cellsS,cellsOf,RL]
 |nz=>
  simp_all[R,cellsS,cellsOf,RL]
 |tsx t l c b=>
  have h':=h
  simp only[R]at h
  rcases h with ⟨_,l',rfl,_⟩|⟨_,_,rfl|rfl⟩
  ·simp_all[cellsS,cellsOf,RL]
  ·simp_all[cellsS,cellsOf,RL]
  ·show RL T H [_] [AV.lit nilSl]
   simp only[RL]; exact⟨h',trivial⟩
 |mp y n=>simp_all[R,cellsS,cellsOf,RL]
 |xat v s len i=>
  have h':=h
  simp only[R]at h
  obtain⟨a0,_,_,h2⟩:=h
  rcases h2 with ⟨n,ver,k,j,rfl,rfl⟩|⟨e,j,rfl,rfl⟩<;>simp only[cellsS,cellsOf,RL]<;>exact⟨h',trivial⟩
theorem RL.all{H:SHeap T.den}{p:SV T.den→Bool}{q:AV→Bool}(hpq:∀ v a,R T H v a→p v=q a):∀ {l:List (SV T.den)} {m:List AV},RL T H l m→l.all p=m.all q
 |[],[],_=>rfl
 |x::xs,y::ys,h=>by
  simp only[RL]at h
  simp only[List.all_cons]; rw[hpq _ _ h.1,RL.all hpq h.2]
 |[],_::_,h=>by simp[RL]at h
 |_::_,[],h=>by simp[RL]at h
theorem RL.leafs[Glob]{H:SHeap T.den}{l:List (SV T.den)}{m:List AV}(h:RL T H l m):l.all isLeafS=m.all isLeaf:=RL.all (fun _ _=>R.leaf) h
theorem partA_other{agg:Bool}{size:Nat}{a:AV}{j:Nat}(ha:∀ l,a≠.agg l):partA agg size a j=if !agg&&isLeaf a&&decide (j=0) then some a else none:=by
 cases a<;>first|rfl|exact absurd rfl (ha _)
theorem partS_other{agg:Bool}{size:Nat}{v:SV T.den}{j:Nat}(ha:∀ l,v≠.agg l):partS agg size v j=if !agg&&isLeafS v&&decide (j=0) then some v else none:=by
 cases v<;>first|rfl|exact absurd rfl (ha _)
theorem R.part[Glob]{H:SHeap T.den}{agg:Bool}{size:Nat}{v x:SV T.den}{a:AV}{j:Nat}(h:R T H v a)(hp:partS agg size v j=some x):∃ b,partA agg size a j=some b∧R T H x b:=by
 by_cases hv:∃ l,v=.agg l
 ·obtain⟨l,rfl⟩:=hv
  simp only[R]at h
  obtain⟨l',rfl,h2⟩:=h
  have hl:=h2.length
  cases agg with
  |true=>
   simp only[partS,if_true]at hp
   split at hp
   case isFalse=>simp at hp
   simp only[Option.some.injEq]at hp
   subst hp
   refine⟨_,by simp only[partA,if_true]; rw[if_pos (by omega)],?_⟩
   simp only[R]
   exact⟨_,rfl,RL_iff.2 (((RL_iff.1 h2).drop j).take size)⟩
  |false=>
   simp only[partS,Bool.false_eq_true,if_false]at hp
   obtain⟨b,h3,h4⟩:=All2.get (RL_iff.1 h2) hp
   exact⟨b,by simpa[partA] using h3,h4⟩
 ·have hv':∀ l,v≠.agg l:=fun l e=>hv ⟨l,e⟩
  rw[partS_other hv']at hp
  rw[partA_other (h.notAgg hv'),←h.leaf]
  split at hp
  case isFalse=>simp at hp
  rename_i hc
  simp only[Option.some.injEq]at hp
  subst hp
  exact⟨a,by rw[if_pos hc],h⟩
theorem RL.setCells[Glob]{H:SHeap T.den}:∀ {cs:List (SV T.den)} {cs':List AV} {l:List (SV T.den)} {l':List AV} (j:Nat),RL T H l l'→RL T H cs cs'→RL T H (setCellsS l j cs) (setCells l' j cs')
 |[],[],l,l',j,h,_=>h
 |x::xs,y::ys,l,l',j,h,hc=>by
  simp only[RL]at hc
  simp only[setCellsS,Go.PI.setCells]
  exact RL.setCells (j+1) (RL_iff.2 ((RL_iff.1 h).set j hc.1)) hc.2
 |[],_::_,_,_,_,_,h=>by simp[RL]at h
 |_::_,[],_,_,_,_,h=>by simp[RL]at h
theorem setPart_other{a y:AV}{j:Nat}(ha:∀ l,a≠.agg l)(hl:isLeaf a=true)(hj:j=0):setPart a j [y]=some y:=by
 simp_all[setPart,hl]
theorem setPartS_other{v e':SV T.den}{cs:List (SV T.den)}{j:Nat}(ha:∀ l,v≠.agg l)(h:setPartS v j cs=some e'):∃ y,cs=[y]∧e'=y∧isLeafS v=true∧j=0:=by
 match cs with
 |[]=>simp_all[setPartS]
 |[y]=>simp_all[setPartS]
 |_::_::_=>simp_all[setPartS]
theorem R.setPart[Glob]{H:SHeap T.den}{v e':SV T.den}{a:AV}{j:Nat}{cs:List (SV T.den)}{cs':List AV}(h:R T H v a)(hc:RL T H cs cs')(hp:setPartS v j cs=some e'):
  ∃ b,Go.PI.setPart a j cs'=some b∧R T H e' b:=by
 by_cases hv:∃ l,v=.agg l
 ·obtain⟨l,rfl⟩:=hv
  simp only[R]at h
  obtain⟨l',rfl,h2⟩:=h
  simp only[setPartS]at hp
  split at hp
  case isFalse=>simp at hp
  simp only[Option.some.injEq]at hp
  subst hp
  have h3:=h2.length
  have h4:=hc.length
  exact⟨_,by simp only[Go.PI.setPart]; rw[if_pos (by omega)],by simp only[R]; exact⟨_,rfl,RL.setCells j h2 hc⟩⟩
 ·have hv':∀ l,v≠.agg l:=fun l e=>hv ⟨l,e⟩
  obtain⟨y,rfl,rfl,h3,h4⟩:=setPartS_other hv' hp
  match cs',hc with
  |[b],hc=>
   simp only[RL]at hc
   exact⟨b,setPart_other (h.notAgg hv') (by rw[←h.leaf]; exact h3) h4,hc.1⟩
  |[],hc=>simp[RL]at hc
  |_::_::_,hc=>simp[RL]at hc
def RP(T:Tys)(H:SHeap T.den):List (Nat×SV T.den)→List (Nat×AV)→Prop:=All2 fun p q=>p.1=q.1∧R T H p.2 q.2
theorem RP.fill[Glob]{H:SHeap T.den}{place:Nat→Option (Nat×Nat)}:∀ {ps:List (Nat×SV T.den)} {qs:List (Nat×AV)} {l r:List (SV T.den)} {l':List AV},RP T H ps qs→RL T H l l'→fillS place l ps=some r →
  ∃ r',fillA place l' qs=some r'∧RL T H r r'
 |[],[],l,r,l',_,hl,h=>by
  simp only[fillS,Option.some.injEq]at h
  subst h
  exact⟨l',rfl,hl⟩
 |(i,v)::ps,(i',a)::qs,l,r,l',hp,hl,h=>by
  obtain⟨⟨h1,h2⟩,h3⟩:=hp
  simp only at h1 h2
  subst h1
  simp only[fillS]at h
  simp only[fillA]
  cases hpl:place i with
  |none=>rw[hpl]at h; simp at h
  |some q=>
   obtain⟨off,size⟩:=q
   rw[hpl]at h
   simp only at h ⊢
   split at h
   case isFalse=>simp at h
   rename_i hc
   have hcl:=h2.cells
   rw[if_pos ⟨by rw[←hcl.length]; exact hc.1,by rw[←hl.length]; exact hc.2.1,by rw[←hcl.leafs]; exact hc.2.2⟩]
   exact RP.fill h3 (RL.setCells off hl hcl) h
 |[],_::_,_,_,_,h,_,_=>h.elim
 |_::_,[],_,_,_,h,_,_=>h.elim
theorem R.okElem[Glob]{H:SHeap T.den}{agg:Bool}{size:Nat}{v:SV T.den}{a:AV}(h:R T H v a):okElemS agg size v=okElem agg size a:=by
 by_cases hv:∃ l,v=.agg l
 ·obtain⟨l,rfl⟩:=hv
  simp only[R]at h
  obtain⟨l',rfl,h2⟩:=h
  simp only[okElemS,Go.PI.okElem]
  rw[h2.length,h2.leafs]
 ·have hv':∀ l,v≠.agg l:=fun l e=>hv ⟨l,e⟩
  have e1:okElemS agg size v=(!agg&&decide (size=1)&&isLeafS v):=by cases v<;>first|rfl|exact absurd rfl (hv' _)
  have e2:Go.PI.okElem agg size a=(!agg&&decide (size=1)&&isLeaf a):=by
   have:=h.notAgg hv'
   cases a<;>first|rfl|exact absurd rfl (this _)
  rw[e1,e2,h.leaf]
theorem RL.litsOf{H:SHeap T.den}:∀ {l:List (SV T.den)} {m:List AV} {c:List Value},RL T H l m→litsS l=some c→Go.PI.litsOf m=some c∧m=c.map .lit
 |[],[],c,_,h=>by simp[litsS]at h; subst h; exact⟨rfl,rfl⟩
 |x::xs,y::ys,c,h,hc=>by
  simp only[RL]at h
  cases x with
  |lit v=>
   simp only[litsS,Option.map_eq_some_iff]at hc
   obtain⟨c',h1,rfl⟩:=hc
   have h2:=h.1
   simp only[R]at h2
   subst h2
   obtain⟨h3,h4⟩:=RL.litsOf h.2 h1
   exact⟨by simp[Go.PI.litsOf,h3],by simp[h4]⟩
  |_=>simp[litsS]at hc
 |[],_::_,_,h,_=>by simp[RL]at h
 |_::_,[],_,h,_=>by simp[RL]at h
theorem R.plain[Glob]{H:SHeap T.den}{v:SV T.den}{a b:AV}(h:R T H v a)(hp:plainS v=some b):a=b:=by
 cases v with
 |lit v=>simp_all[R,plainS]
 |agg l=>
  simp only[R]at h
  obtain⟨l',rfl,h2⟩:=h
  simp only[plainS,Option.map_eq_some_iff]at hp
  obtain⟨c,h3,rfl⟩:=hp
  rw[(RL.litsOf h2 h3).2]
 |_=>simp[plainS]at hp
theorem ofPlain_R[Glob]{H:SHeap T.den}{a:AV}{v:SV T.den}(h:(ofPlain a:Option (SV T.den))=some v):R T H v a:=by
 cases a with
 |lit x=>simp[ofPlain]at h; subst h; simp[R]
 |agg l=>
  simp only[ofPlain,Option.map_eq_some_iff]at h
  obtain⟨c,h1,rfl⟩:=h
  simp only[R]
  refine⟨l,rfl,?_⟩
  have:l=c.map .lit:=by
   revert c
   induction l with
   |nil=>simp_all[Go.PI.litsOf]
   |cons x xs ih=>
    intro c h1
    cases x with
    |lit v=>
     simp only[Go.PI.litsOf,Option.map_eq_some_iff]at h1
     obtain⟨c',h2,rfl⟩:=h1
     rw[ih c' h2]; rfl
    |_=>simp[Go.PI.litsOf]at h1
  rw[this]
  exact RL.lits c
 |_=>simp[ofPlain]at h
end Go.PI
end
section
/- PS, part E: the tables looked up before. -/
namespace Go.PI
def kindOf:TypeDesc→MK
 |.slice e=>.slice e
 |.array n e=>.array n e
 |.struct fs=>.struct (fs.toList.map fun f=>(f.offset,f.type))
 |.interface _=>.iface
 |_=>.other
def kindsFields(rec:TypeId→Option (List CK))(P:Program):Nat→List Field→Option (List CK)
 |_,[]=>some []
 | off, f :: fs => if f.name = "_" then none else
   if f.offset=off then
    match rec f.type with
    |some ks=>if ks.length=P.cellsOf f.type then (kindsFields rec P (off+ks.length) fs).map fun l=>ks++l else none
    |none=>none
   else none
def kindsIn(P:Program):Nat→TypeId→Option (List CK)
 |0,_=>none
 |d+1,t=>
  match P.underlying t with
  |some .bool=>some [.bool]
  |some (.int k)=>some [.int k]
  |some .string=>some [.str]
  |some (.array n e)=>if (P.info? e).isSome&&(P.underlying e).isSome then
    match kindsIn P d e with
    |some ks=>if ks.length=P.cellsOf e then some (List.replicate n ks).flatten else none
    |none=>none
   else none
  |some (.struct fs)=>if P.stoodInHeld t then none else kindsFields (kindsIn P d) P 0 fs.toList
  |_=>none
theorem fits_length:∀ {ks:List CK} {vs:List Value},fitsCK ks vs=true→ks.length=vs.length
 |[],[],_=>rfl
 |_::_,_::_,h=>by simp only[fitsCK,Bool.and_eq_true]at h; simp[fits_length h.2]
 |[],_::_,h=>by simp[fitsCK]at h
 |_::_,[],h=>by simp[fitsCK]at h
theorem fits_app:∀ {ks ls:List CK} {vs:List Value},fitsCK (ks++ls) vs=true→fitsCK ks (vs.take ks.length)=true∧fitsCK ls (vs.drop ks.length)=true
 |[],ls,vs,h=>by simpa[fitsCK] using h
 |k::ks,ls,[],h=>by simp[fitsCK]at h
 |k::ks,ls,v::vs,h=>by
  simp only[List.cons_append,fitsCK,Bool.and_eq_true]at h
  obtain⟨h1,h2⟩:=fits_app h.2
  simp only[List.length_cons,List.take_succ_cons,List.drop_succ_cons,fitsCK,Bool.and_eq_true]
  exact⟨⟨h.1,h1⟩,h2⟩
theorem eqCells_app:∀ {a a' b b':List Value},a.length=a'.length→eqCells (a++b) (a'++b')=(eqCells a a'&&eqCells b b')
 |[],[],b,b',_=>by simp[eqCells]
 |x::xs,y::ys,b,b',h=>by
  simp only[List.cons_append,eqCells]
  rw[eqCells_app (by simpa using h),Bool.and_assoc]
theorem eqFields_kinds[Glob]{P:Program}{rec:TypeId→List Value→List Value→Option Bool}{kr:TypeId→Option (List CK)}
  (hr:∀ t ks c c',kr t=some ks→fitsCK ks c=true→fitsCK ks c'=true→rec t c c'=some (eqCells c c')) :
  ∀ (fs:List Field) (off:Nat) (ks:List CK) (cs cs':List Value),kindsFields kr P off fs=some ks→fitsCK ks (cs.drop off)=true→fitsCK ks (cs'.drop off)=true →
    eqFieldsA rec P cs cs' fs=some (eqCells (cs.drop off) (cs'.drop off))
 |[],off,ks,cs,cs',h,h1,h2=>by
  simp only[kindsFields,Option.some.injEq]at h
  subst h
  have e1:cs.drop off=[]:=by cases hq:cs.drop off with
   |nil=>rfl
   |cons x xs=>rw[hq]at h1; simp[fitsCK]at h1
  have e2:cs'.drop off=[]:=by cases hq:cs'.drop off with
   |nil=>rfl
   |cons x xs=>rw[hq]at h2; simp[fitsCK]at h2
  rw[e1,e2]; rfl
 |f::fs,off,ks,cs,cs',h,h1,h2=>by
  simp only[kindsFields]at h
  split at h
  ·simp at h
  rename_i hn
  split at h
  case isFalse=>simp at h
  rename_i ho
  cases hk:kr f.type with
  |none=>rw[hk]at h; simp at h
  |some k1=>
   rw[hk]at h
   simp only at h
   split at h
   case isFalse=>simp at h
   rename_i hs
   rw[Option.map_eq_some_iff]at h
   obtain⟨k2,h3,rfl⟩:=h
   obtain⟨a1,a2⟩:=fits_app h1
   obtain⟨b1,b2⟩:=fits_app h2
   rw[List.drop_drop]at a2 b2
   have ih:=eqFields_kinds hr fs (off+k1.length) k2 cs cs' h3 a2 b2
   have hc:chunk P cs f.offset f.type=(cs.drop off).take k1.length:=by simp[chunk,ho,hs]
   have hc':chunk P cs' f.offset f.type=(cs'.drop off).take k1.length:=by simp[chunk,ho,hs]
   simp only[eqFieldsA,hn,if_false]
   rw[hc,hc',hr _ _ _ _ hk a1 b1]
   simp only
   rw[ih,Option.map_some]
   congr 1
   have l1:=fits_length a1
   have l2:=fits_length b1
   conv=>rhs; rw[←List.take_append_drop k1.length (cs.drop off),←List.take_append_drop k1.length (cs'.drop off)]
   rw[eqCells_app (by omega),List.drop_drop,List.drop_drop]
theorem eqItems_kinds[Glob]{P:Program}{rec:TypeId→List Value→List Value→Option Bool}{e:TypeId}{ks:List CK}(hs:ks.length=P.cellsOf e)
  (hr:∀ c c',fitsCK ks c=true→fitsCK ks c'=true→rec e c c'=some (eqCells c c')) :
  ∀ (n m:Nat) (cs cs':List Value),fitsCK (List.replicate n ks).flatten (cs.drop (m*ks.length))=true→fitsCK (List.replicate n ks).flatten (cs'.drop (m*ks.length))=true →
    eqItemsA rec P e cs cs' (List.range' m n)=some (eqCells (cs.drop (m*ks.length)) (cs'.drop (m*ks.length)))
 |0,m,cs,cs',h1,h2=>by
  simp only[List.replicate_zero,List.flatten_nil]at h1 h2
  have e1:cs.drop (m*ks.length)=[]:=by cases hq:cs.drop (m*ks.length) with
   |nil=>rfl
   |cons x xs=>rw[hq]at h1; simp[fitsCK]at h1
  have e2:cs'.drop (m*ks.length)=[]:=by cases hq:cs'.drop (m*ks.length) with
   |nil=>rfl
   |cons x xs=>rw[hq]at h2; simp[fitsCK]at h2
  rw[e1,e2]; rfl
 |n+1,m,cs,cs',h1,h2=>by
  simp only[List.replicate_succ,List.flatten_cons]at h1 h2
  obtain⟨a1,a2⟩:=fits_app h1
  obtain⟨b1,b2⟩:=fits_app h2
  rw[List.drop_drop]at a2 b2
  have em:m*ks.length+ks.length=(m+1)*ks.length:=by rw[Nat.succ_mul]
  rw[em]at a2 b2
  have ih:=eqItems_kinds hs hr n (m+1) cs cs' a2 b2
  have hc:chunk P cs (m*P.cellsOf e) e=(cs.drop (m*ks.length)).take ks.length:=by simp[chunk,hs]
  have hc':chunk P cs' (m*P.cellsOf e) e=(cs'.drop (m*ks.length)).take ks.length:=by simp[chunk,hs]
  rw[List.range'_succ]
  simp only[eqItemsA]
  rw[hc,hc',hr _ _ a1 b1]
  simp only
  rw[ih,Option.map_some]
  congr 1
  have l1:=fits_length a1
  have l2:=fits_length b1
  conv=>rhs; rw[←List.take_append_drop ks.length (cs.drop (m*ks.length)),←List.take_append_drop ks.length (cs'.drop (m*ks.length))]
  rw[eqCells_app (by omega),List.drop_drop,List.drop_drop,em]
theorem eqIn_kinds[Glob]{P:Program}:∀ (d:Nat) (t:TypeId) (ks:List CK) (c c':List Value),kindsIn P d t=some ks→fitsCK ks c=true→fitsCK ks c'=true→eqIn P d t c c'=some (eqCells c c')
 |0,_,_,_,_,h,_,_=>by simp[kindsIn]at h
 |d+1,t,ks,c,c',h,h1,h2=>by
  simp only[kindsIn]at h
  simp only[eqIn]
  cases hu:P.underlying t with
  |none=>rw[hu]at h; simp at h
  |some ds=>
   rw[hu]at h
   cases ds with
   |bool=>
    simp only[Option.some.injEq]at h
    subst h
    match c,c',h1,h2 with
    |[.bool a],[.bool b],_,_=>simp[eqCells,eqCell]
    |[],_,h1,_=>simp[fitsCK]at h1
    |_::_::_,_,h1,_=>simp[fitsCK]at h1
    |_,[],_,h2=>simp[fitsCK]at h2
    |_,_::_::_,_,h2=>simp[fitsCK]at h2
    |[v],[w],h1,h2=>
     cases v<;>simp[fitsCK,CK.fits]at h1
     cases w<;>simp[fitsCK,CK.fits]at h2
     simp[eqCells,eqCell]
   |int k=>
    simp only[Option.some.injEq]at h
    subst h
    match c,c',h1,h2 with
    |[],_,h1,_=>simp[fitsCK]at h1
    |_::_::_,_,h1,_=>simp[fitsCK]at h1
    |_,[],_,h2=>simp[fitsCK]at h2
    |_,_::_::_,_,h2=>simp[fitsCK]at h2
    |[v],[w],h1,h2=>
     cases v<;>simp[fitsCK,CK.fits]at h1
     cases w<;>simp[fitsCK,CK.fits]at h2
     subst h1; subst h2
     simp[eqCells,eqCell]
   |string=>
    simp only[Option.some.injEq]at h
    subst h
    match c,c',h1,h2 with
    |[],_,h1,_=>simp[fitsCK]at h1
    |_::_::_,_,h1,_=>simp[fitsCK]at h1
    |_,[],_,h2=>simp[fitsCK]at h2
    |_,_::_::_,_,h2=>simp[fitsCK]at h2
    |[v],[w],h1,h2=>
     cases v<;>simp[fitsCK,CK.fits]at h1
     cases w<;>simp[fitsCK,CK.fits]at h2
     simp[eqCells,eqCell]
   |array n e=>
    simp only at h ⊢
    split at h
    case isFalse=>simp at h
    rename_i hc
    rw[if_pos hc]
    cases hk:kindsIn P d e with
    |none=>rw[hk]at h; simp at h
    |some k1=>
     rw[hk]at h
     simp only at h
     split at h
     case isFalse=>simp at h
     rename_i hs
     simp only[Option.some.injEq]at h
     subst h
     have:=eqItems_kinds (rec:=eqIn P d) hs (fun c c'=>eqIn_kinds d e k1 c c' hk) n 0 c c' (by simpa using h1) (by simpa using h2)
     rw[List.range_eq_range']
     simpa using this
   |struct fs=>
    simp only at h ⊢
    split at h
    ·simp at h
    rename_i hc
    rw[if_neg hc]
    have:=eqFields_kinds (rec:=eqIn P d) (fun t ks c c' hk=>eqIn_kinds d t ks c c' hk) fs.toList 0 ks c c' h (by simpa using h1) (by simpa using h2)
    simpa using this
   |_=>simp at h
structure Prg.Ok(Q:Prg):Prop where
 row:∀ t m,Q.ty t=some m→∃ r,tyOf Q.P t=some r∧r.isAgg=m.agg∧r.size=m.size∧r.bytes=m.bytes∧(∀ z,m.zero=some z→elemZero r=some z)
 kind:∀ t m,Q.ty t=some m→∃ d,Q.P.underlying t=some d∧kindOf d=m.kind
 eqk:∀ t m ks,Q.ty t=some m→m.eqk=some ks→Q.P.eqGuardType Q.P.depth t=false∧kindsIn Q.P 20 t=some ks
 map:∀ t q,Q.mapOf t=some q→mapTy Q.P t=some q
theorem lookS_mem{α:Type}:∀ {l:List (Nat×α)} {n:Nat} {a:α},lookS l n=some a→(n,a)∈l
 |[],_,_,h=>by simp[lookS]at h
 |(m,b)::r,n,a,h=>by
  simp only[lookS]at h
  split at h
  ·simp_all
  ·exact List.mem_cons_of_mem _ (lookS_mem h)
def rowOf(P:Program)(t:Nat):Option (Bool×Nat×Nat):=(tyOf P t).map fun r=>(r.isAgg,r.size,r.bytes)
def zeroOf(P:Program)(m:MTy)(t:Nat):Option AV:=match m.zero with
 |none=>none
 |some _=>(tyOf P t).bind elemZero
def eqkOf(P:Program)(m:MTy)(t:Nat):Option (List CK):=match m.eqk with
 |none=>none
 |some _=>if P.eqGuardType P.depth t=false then kindsIn P 20 t else none
def mapOf'(P:Program)(m:MTy)(t:Nat):Option (KK×Nat):=match m.map with
 |none=>none
 |some _=>mapTy P t
theorem map_at{α β:Type}{f g:α→β}:∀ {l:List α},l.map f=l.map g→∀ x,x∈l→f x=g x
 |[],_,x,h=>by simp at h
 |y::ys,h,x,hx=>by
  simp only[List.map_cons,List.cons.injEq]at h
  rcases List.mem_cons.1 hx with rfl|hx
  ·exact h.1
  ·exact map_at h.2 x hx
theorem Prg.Ok.of[Glob]{Q:Prg}(h1:(Q.M.map fun q=>rowOf Q.P q.1)=Q.M.map fun q=>some (q.2.agg,q.2.size,q.2.bytes))
  (h2:(Q.M.map fun q=>zeroOf Q.P q.2 q.1)=Q.M.map fun q=>q.2.zero)
  (h3:(Q.M.map fun q=>(Q.P.underlying q.1).map kindOf)=Q.M.map fun q=>some q.2.kind)
  (h4:(Q.M.map fun q=>eqkOf Q.P q.2 q.1)=Q.M.map fun q=>q.2.eqk) (h5:(Q.M.map fun q=>mapOf' Q.P q.2 q.1)=Q.M.map fun q=>q.2.map):Q.Ok where
 row:=by
  intro t m h
  have hm:=lookS_mem h
  have e1:=map_at h1 _ hm
  have e2:=map_at h2 _ hm
  simp only[rowOf,Option.map_eq_some_iff,Prod.mk.injEq]at e1
  obtain⟨r,hr,a1,a2,a3⟩:=e1
  refine⟨r,hr,a1,a2,a3,fun z hz=>?_⟩
  simp only[zeroOf]at e2
  rw[hz]at e2
  simpa[hr] using e2
 kind:=by
  intro t m h
  have e:=map_at h3 _ (lookS_mem h)
  simp only[Option.map_eq_some_iff]at e
  exact e
 eqk:=by
  intro t m ks h hk
  have e:=map_at h4 _ (lookS_mem h)
  simp only[eqkOf]at e
  rw[hk]at e
  simp only at e
  split at e
  ·exact⟨by assumption,e⟩
  ·simp at e
 map:=by
  intro t q h
  unfold Prg.mapOf at h
  obtain⟨m,h1,h2⟩:=Option.bind_eq_some_iff.1 h
  have e:=map_at h5 _ (lookS_mem h1)
  simp only[mapOf']at e
  rw[h2]at e
  exact e
end Go.PI
end
section
/- PS, part F: operations that only compute, and those on one object. -/
namespace Go.PI
variable {T:Tys}{ρ:Type}
structure RE(T:Tys)(H:SHeap T.den)(hp:AHeap)(v:SV T.den)(wr:List (Nat×SObj T.den))(e:Eff):Prop where
 val:RV T (applyWrS H wr) v e.val
 hp:RH T (applyWrS H wr) (applyWr hp e.wr)
 grow:Grow H (applyWrS H wr)
 names:∀ q,q∈e.wr→q.1∈wr.map (·.1)
 keep:∀ n:Nat,n∉wr.map (·.1)→n<H.length→(applyWrS H wr)[n]?=H[n]?
 len:H.length≤(applyWrS H wr).length
 recs:∀ n,recAt H n=true→n∉wr.map (·.1)
def Gives(T:Tys)(H:SHeap T.den)(hp:AHeap)(m:RM Eff)(K:EK T ρ)(r:ρ):Prop:=
 ∃ v wr rd e,Yld hp m e rd∧RE T H hp v wr e∧(K v wr rd).run=some r
section
variable {H:SHeap T.den}{hp:AHeap}{K:EK T ρ}{r:ρ}
theorem gives_pure[Glob](hh:RH T H hp){m:RM Eff}{v:SV T.den}{a:AV}{rd:List Nat}(hv:RV T H v a)(hm:Yld hp m ⟨a,[]⟩ rd)(hk:(K v [] rd).run=some r):Gives T H hp m K r:=
 ⟨v,[],rd,_,hm,⟨hv,hh,Grow.refl _,fun q h=>by simp at h,fun _ _ _=>rfl,Nat.le_refl _,fun _ _ h=>by simp at h⟩,hk⟩
theorem setObjS_len{n:Nat}{o:SObj T.den}(hn:n=H.length∨n<H.length):H.length≤(setObjS H n o).length:=by
 unfold setObjS
 split<;>simp
theorem setObjS_ne{n m:Nat}{o:SObj T.den}(hm:m<H.length)(hne:m≠n):(setObjS H n o)[m]?=H[m]?:=by
 grind[setObjS]
theorem gives_new[Glob](hh:RH T H hp){m:RM Eff}{nm:Nat}(hn:nm=H.length∨H[nm]?=some none){o:SObj T.den}{a':AObj}(ho:RO T H o a'){v:SV T.den}{a:AV}{rd:List Nat}
  (hv:RV T (setObjS H nm o) v a) (hm:Yld hp m ⟨a,[(nm,a')]⟩ rd) (hk:(K v [(nm,o)] rd).run=some r):Gives T H hp m K r:=by
 obtain⟨hg,hr⟩:=hh.new hn ho
 refine⟨v,[(nm,o)],rd,_,hm,⟨hv,hr,hg,fun q h=>?_,fun n h hl=>?_,?_,fun n h1 h2=>?_⟩,hk⟩
 ·simp at h; subst h; simp
 ·simp at h; exact setObjS_ne hl h
 ·exact setObjS_len (hn.imp id fun h=>(List.getElem?_eq_some_iff.1 h).1)
 ·simp at h2
  subst h2
  unfold recAt at h1
  rcases hn with hn|hn
  ·rw[List.getElem?_eq_none (by omega)]at h1; simp at h1
  ·rw[hn]at h1; simp at h1
theorem gives_upd[Glob](hh:RH T H hp){m:RM Eff}{n:Nat}{o o':SObj T.den}{a':AObj}(ho:H[n]?=some (some o))(hc:o.cur≤o'.cur)(hl:o'.cur=o.cur→o'.len=o.len)(hro:RO T H o' a')
  {v:SV T.den} {a:AV} {rd:List Nat} (hv:RV T (H.set n (some o')) v a) (hm:Yld hp m ⟨a,[(n,a')]⟩ rd) (hk:(K v [(n,o')] rd).run=some r) (hnr:o.isRec=false:=by rfl):Gives T H hp m K r:=by
 obtain⟨hg,hr⟩:=hh.upd ho hc hl hro
 have hlt:=(List.getElem?_eq_some_iff.1 ho).1
 have e1:applyWrS H [(n,o')]=H.set n (some o'):=by simp[applyWrS,setObjS]; omega
 have e2:applyWr hp [(n,a')]=hp.set n (some a'):=by simp[applyWr,setObj]; have:=hh.length; omega
 refine⟨v,[(n,o')],rd,_,hm,⟨by rw[e1]; exact hv,by rw[e1,e2]; exact hr,by rw[e1]; exact hg,fun q h=>?_,fun k h hl=>?_,?_,fun m h1 h2=>?_⟩,hk⟩
 ·simp at h; subst h; simp
 ·rw[e1]; simp at h; rw[List.getElem?_set_ne (Ne.symm h)]
 ·rw[e1]; simp
 ·simp at h2
  subst h2
  unfold recAt at h1
  rw[ho]at h1
  simp only at h1
  rw[hnr]at h1
  simp at h1
theorem via_some{x:Option AV}(h:(viaAV (T:=T) x K).run=some r):∃ v,x=some (.lit v)∧(K (.lit v) [] []).run=some r:=by
 unfold viaAV at h
 split at h
 ·exact⟨_,rfl,h⟩
 ·simp[Tr.run]at h
theorem one_some{x:Option (SV T.den)}{rd:List Nat}(h:(oneK x rd K).run=some r):∃ v,x=some v∧(K v [] rd).run=some r:=by
 unfold oneK at h
 split at h
 ·exact⟨_,rfl,h⟩
 ·simp[Tr.run]at h
theorem cond_some{b:Bool}{x y:Tr ρ}(h:(Tr.cond b x y).run=some r):(b=true∧x.run=some r)∨(b=false∧y.run=some r):=by
 cases b with
 |true=>exact .inl ⟨rfl,h⟩
 |false=>exact .inr ⟨rfl,h⟩
theorem guard_some[Glob]{b:Bool}{x:Tr ρ}(h:(Tr.cond b x .fail).run=some r):b=true∧x.run=some r:=by
 grind[Tr.run]
theorem bind_some{α:Type}{e:Option α}{k:α→Tr ρ}(h:(Tr.bind e k).run=some r):∃ a,e=some a∧(k a).run=some r:=by
 simp only[Tr.run,Option.bind_eq_some_iff]at h
 exact h
theorem asNatS_some[Glob]{v:SV T.den}{K:Nat→Tr ρ}(h:(asNatS v K).run=some r):∃ k n,v=.lit (.int k n)∧0≤n∧(K n.toNat).run=some r:=by
 unfold asNatS at h
 split at h
 ·obtain⟨h1,h2⟩:=guard_some h
  exact⟨_,_,rfl,by simpa using h1,h2⟩
 ·simp[Tr.run]at h
theorem asNat_R[Glob]{v:SV T.den}{a:AV}{k:IntKind}{n:Int}(hv:RV T H v a)(e:v=.lit (.int k n))(hn:0≤n):asNat a=some n.toNat:=by
 subst e
 have:=hv.live rfl
 simp only[R]at this
 subst this
 simp[asNat,hn]
theorem chain_some[Glob]{i:Nat}{K:Nat→Tr ρ}:∀ {len m:Nat},(chainS i len m K).run=some r→m≤i∧i<m+len∧(K i).run=some r
 |0,m,h=>by simp[chainS,Tr.run]at h
 |len+1,m,h=>by
  simp only[chainS]at h
  rcases cond_some h with ⟨h1,h2⟩|⟨h1,h2⟩
  ·simp_all
  ·obtain⟨h3,h4,h5⟩:=chain_some h2
   exact⟨by omega,by omega,h5⟩
theorem RV.lit[Glob]{v:SV T.den}{a:AV}{x:Value}(hv:RV T H v a)(e:v=.lit x):a=.lit x:=by
 subst e
 have:=hv.live rfl
 simpa only[R] using this
theorem RV_lit(x:Value):RV T H (.lit x) (.lit x):=.inr (by simp[R])
theorem verOk.arr(hh:RH T H hp){n c ver:Nat}(hv:verOk H n c ver){o:SObj T.den}(ho:H[n]?=some (some o))(hc:Nat.beq c o.cur=true):ver=o.len:=by
 obtain⟨o',h1,h2,h3⟩:=hv
 rw[ho]at h1
 simp only[Option.some.injEq]at h1
 subst h1
 exact h3 (Nat.eq_of_beq_eq_true hc)
theorem shift_R:∀ {v:SV T.den} {a0 a:AV} {d:Nat},R T H v a0→AtX a0 d a→R T H (shiftS d v) a
 |.ref n c i j,a0,a,d,h,hx=>by
  simp only[R]at h
  obtain⟨ver,rfl,hv⟩:=h
  rcases hx with ⟨n,ver,k,j,h1,rfl⟩|⟨e,j,h1,rfl⟩<;>cases h1
  simp only[shiftS,R]
  exact⟨_,rfl,hv⟩
 |.eref e j,a0,a,d,h,hx=>by
  simp only[R]at h
  obtain⟨e',rfl,hv⟩:=h
  rcases hx with ⟨n,ver,k,j,h1,rfl⟩|⟨e,j,h1,rfl⟩<;>cases h1
  simp only[shiftS,R]
  exact⟨_,rfl,hv⟩
 |.xat v s l i,a0,a,d,h,hx=>by
  simp only[R]at h
  obtain⟨a1,h1,h2,h3⟩:=h
  simp only[shiftS,R]
  rcases h3 with ⟨n,ver,k,j,rfl,rfl⟩|⟨e,j,rfl,rfl⟩<;>rcases hx with ⟨n',ver',k',j',e1,rfl⟩|⟨e',j',e1,rfl⟩<;>cases e1
  ·exact⟨.ref n ver k (j+d),shift_R h1 (.inl ⟨_,_,_,_,rfl,rfl⟩),h2,.inl ⟨_,_,_,_,rfl,by rw[Nat.add_right_comm]⟩⟩
  ·exact⟨.eref e (j+d),shift_R h1 (.inr ⟨_,_,rfl,rfl⟩),h2,.inr ⟨_,_,rfl,by rw[Nat.add_right_comm]⟩⟩
 |.dead,_,_,_,h,_=>by simp[R]at h
 |.lit v,_,_,_,h,hx=>by
  simp only[R]at h; subst h
  rcases hx with ⟨n,ver,k,j,h1,_⟩|⟨e,j,h1,_⟩<;>cases h1
 |.agg l,_,_,_,h,hx=>by
  simp only[R]at h; obtain⟨_,rfl,_⟩:=h
  rcases hx with ⟨n,ver,k,j,h1,_⟩|⟨e,j,h1,_⟩<;>cases h1
 |.tup l,_,_,_,h,hx=>by
  simp only[R]at h; obtain⟨_,rfl,_⟩:=h
  rcases hx with ⟨n,ver,k,j,h1,_⟩|⟨e,j,h1,_⟩<;>cases h1
 |.sl l,_,_,_,h,hx=>by
  simp only[R]at h; obtain⟨_,rfl,_⟩:=h
  rcases hx with ⟨n,ver,k,j,h1,_⟩|⟨e,j,h1,_⟩<;>cases h1
 |.tsl t l,_,_,_,h,hx=>by
  simp only[R]at h
  rcases h with ⟨_,rfl,_⟩|⟨_,rfl⟩<;>rcases hx with ⟨n,ver,k,j,h1,_⟩|⟨e,j,h1,_⟩<;>cases h1
 |.asl n c i j ln cp,_,_,_,h,hx=>by
  simp only[R]at h; obtain⟨_,rfl,_⟩:=h
  rcases hx with ⟨n,ver,k,j,h1,_⟩|⟨e,j,h1,_⟩<;>cases h1
 |.osl esz n c rg cap,_,_,_,h,hx=>by
  simp only[R]at h
  obtain⟨ver,_,h2⟩:=h
  rcases rg with _|⟨off,len⟩<;>simp only at h2<;>subst h2<;>rcases hx with ⟨n,ver,k,j,h1,_⟩|⟨e,j,h1,_⟩<;>cases h1
 |.clo fn f c,_,_,_,h,hx=>by
  simp only[R]at h; obtain⟨_,_,rfl,_⟩:=h
  rcases hx with ⟨n,ver,k,j,h1,_⟩|⟨e,j,h1,_⟩<;>cases h1
 |.ifc t v,_,_,_,h,hx=>by
  simp only[R]at h; obtain⟨_,rfl,_⟩:=h
  rcases hx with ⟨n,ver,k,j,h1,_⟩|⟨e,j,h1,_⟩<;>cases h1
 |.tsx t l c b,_,_,_,h,hx=>by
  simp only[R]at h
  rcases h with ⟨_,_,rfl,_⟩|⟨_,_,rfl|rfl⟩<;>rcases hx with ⟨n,ver,k,j,h1,_⟩|⟨e,j,h1,_⟩<;>cases h1
 |.nz,_,_,_,h,hx=>by
  simp only[R]at h
  subst h
  rcases hx with ⟨n,ver,k,j,h1,_⟩|⟨e,j,h1,_⟩<;>cases h1
 |.mp y n,_,_,_,h,hx=>by
  simp only[R]at h; obtain⟨rfl,_⟩:=h
  rcases hx with ⟨n,ver,k,j,h1,_⟩|⟨e,j,h1,_⟩<;>cases h1
theorem stepCells_get{e:SV T.den}{s:Nat}:∀ {n j:Nat} {xs:List (SV T.den)},stepCells e j s n=some xs→xs.length=n∧∀ m x,xs[m]?=some x→partS false 1 e (j+m*s)=some x
 |0,j,xs,h=>by simp only[stepCells,Option.some.injEq]at h; subst h; simp
 |n+1,j,xs,h=>by
  simp only[stepCells,Option.bind_eq_some_iff,Option.map_eq_some_iff]at h
  obtain⟨x,hx,l,hl,rfl⟩:=h
  obtain⟨h1,h2⟩:=stepCells_get hl
  refine⟨by simp[h1],fun m y hy=>?_⟩
  cases m with
  |zero=>simp at hy; subst hy; simpa using hx
  |succ m=>
   grind
theorem intsOf_get{k:IntKind}:∀ {xs:List (SV T.den)} {l:List Int},intsOf k xs=some l→xs=l.map fun n=>.lit (.int k n)
 |[],l,h=>by simp only[intsOf,Option.some.injEq]at h; subst h; rfl
 |x::r,l,h=>by
  unfold intsOf at h
  split at h
  ·simp at *
  ·rename_i k' n r' he
   cases he
   split at h
   case isFalse=>simp at h
   rename_i hk
   subst hk
   rw[Option.map_eq_some_iff]at h
   obtain⟨l',hl,rfl⟩:=h
   rw[intsOf_get hl]; rfl
  ·simp at h
theorem boolsOf_get:∀ {xs:List (SV T.den)} {l:List Bool},boolsOf xs=some l→xs=l.map fun n=>.lit (.bool n)
 |[],l,h=>by simp only[boolsOf,Option.some.injEq]at h; subst h; rfl
 |x::r,l,h=>by
  unfold boolsOf at h
  split at h
  ·simp at *
  ·rename_i n r' he
   cases he
   rw[Option.map_eq_some_iff]at h
   obtain⟨l',hl,rfl⟩:=h
   rw[boolsOf_get hl]; rfl
  ·simp at h
theorem selOf_get{α:Type}{l:List α}{i:Nat}{d x:α}(h:l[i]?=some x):selOf l i d=x:=by
 simp_all[selOf,h]
theorem selS_get{xs:List (SV T.den)}{i:Nat}{x y:SV T.den}(h:selS i xs=some y)(hx:xs[i]?=some x):y=x:=by
 unfold selS at h
 split at h
 ·rename_i k n r
  rw[Option.map_eq_some_iff]at h
  obtain⟨l,hl,rfl⟩:=h
  rw[intsOf_get hl]at hx
  have:(List.map (fun n=>(SV.lit (Value.int k n):SV T.den)) (n::l))[i]?=some x:=hx
  rw[List.getElem?_map,Option.map_eq_some_iff]at this
  obtain⟨z,hz,rfl⟩:=this
  rw[selOf_get hz]
 ·rename_i n r
  rw[Option.map_eq_some_iff]at h
  obtain⟨l,hl,rfl⟩:=h
  rw[boolsOf_get hl]at hx
  have:(List.map (fun n=>(SV.lit (Value.bool n):SV T.den)) (n::l))[i]?=some x:=hx
  rw[List.getElem?_map,Option.map_eq_some_iff]at this
  obtain⟨z,hz,rfl⟩:=this
  rw[selOf_get hz]
 ·simp at h
theorem xcells_load{m:MTy}{v x:SV T.den}{stride len i:Nat}{xs:List (SV T.den)}{rd:List Nat}(h:xcells H v stride len=some (xs,rd))(hx:selS i xs=some x)(hi:i<len)(h1:m.agg=false)(h2:m.size=1):
  loadS1 m H (shiftS (i*stride) v) K=K x [] rd:=by
 have fin:∀ (e:SV T.den) (j:Nat),stepCells e j stride len=some xs→partS m.agg m.size e (j+i*stride)=some x:=by
  intro e j hs
  obtain⟨g1,g2⟩:=stepCells_get hs
  have hlt:i<xs.length:=by omega
  have hg:=List.getElem?_eq_getElem hlt
  rw[selS_get hx hg,h1,h2]
  exact g2 _ _ hg
 unfold xcells at h
 split at h
 ·rename_i n c k j
  split at h
  case h_2=>simp at h
  rename_i g cl f cur es ho
  split at h
  case h_2=>simp at h
  rename_i hc
  simp only[Option.bind_eq_some_iff,Option.map_eq_some_iff,Prod.mk.injEq]at h
  obtain⟨e,he,l,hl,rfl,rfl⟩:=h
  simp only[shiftS,loadS1,ho,hc,he,fin e j hl,oneK]
 ·rename_i e j
  simp only[Option.map_eq_some_iff,Prod.mk.injEq]at h
  obtain⟨l,hl,rfl,rfl⟩:=h
  simp only[shiftS,loadS1,fin e j hl,oneK]
 ·simp at h
theorem set_id{α:Type}{l:List α}{n:Nat}{x:α}(h:l[n]?=some x):l.set n x=l:=Go.PI.set_same h
theorem xset_far{k:IntKind}{y:Int}{stride i:Nat}:∀ {ns:List Int} {l:List (SV T.den)} {j m:Nat},i<m→(∀ p n,ns[p]?=some n→l[j+p*stride]?=some (.lit (.int k n)))→xset l j stride i m k y ns=l
 |[],l,j,m,_,_=>rfl
 |n::ns,l,j,m,hm,h=>by
  have h0:l[j]?=some (.lit (.int k n)):=by simpa using h 0 n rfl
  have hb:Nat.beq i m=false:=by
   cases hb:Nat.beq i m
   ·rfl
   ·have:=Nat.eq_of_beq_eq_true hb; omega
  simp only[xset,hb,cond_false]
  rw[set_id h0]
  refine xset_far (by omega) fun p x hp=>?_
  have:=h (p+1) x (by simpa using hp)
  rwa [Nat.succ_mul,Nat.add_comm _ stride,←Nat.add_assoc]at this
theorem xset_one{k:IntKind}{y:Int}{stride i:Nat}(hs:0<stride):∀ {ns:List Int} {l:List (SV T.den)} {j m:Nat},m≤i→i<m+ns.length→(∀ p n,ns[p]?=some n→l[j+p*stride]?=some (.lit (.int k n))) →
  xset l j stride i m k y ns=l.set (j+(i-m)*stride) (.lit (.int k y))
 |[],l,j,m,h1,h2,_=>by simp at h2; omega
 |n::ns,l,j,m,h1,h2,h=>by
  have h0:l[j]?=some (.lit (.int k n)):=by simpa using h 0 n rfl
  have hn:∀ (l':List (SV T.den)),(∀ q,j<q→l'[q]?=l[q]?)→∀ p x,ns[p]?=some x→l'[j+stride+p*stride]?=some (.lit (.int k x)):=by
   intro l' hl p x hp
   have:=h (p+1) x (by simpa using hp)
   rw[Nat.succ_mul,Nat.add_comm _ stride,←Nat.add_assoc]at this
   rw[hl _ (by omega)]; exact this
  by_cases hm:i=m
  ·subst hm
   have hb:Nat.beq i i=true:=by simp
   simp only[xset,hb,cond_true,Nat.sub_self,Nat.zero_mul,Nat.add_zero]
   exact xset_far (by omega) (hn _ fun q hq=>by rw[List.getElem?_set_ne (by omega)])
  ·have hb:Nat.beq i m=false:=by
    cases hb:Nat.beq i m
    ·rfl
    ·simp_all
   simp only[xset,hb,cond_false]
   rw[set_id h0,xset_one hs (by omega) (by simp at h2; omega) (hn _ fun _ _=>rfl)]
   have:i-m=(i-(m+1))+1:=by omega
   rw[this,Nat.succ_mul,Nat.add_assoc,Nat.add_comm stride]
theorem storeX_store{m:MTy}{b v:SV T.den}{stride len i n:Nat}{o:SObj T.den}(h:storeX H b v stride len i=some (n,o))(hi:i<len)(h2:m.size=1):
  storeS1 m H (shiftS (i*stride) b) v K=K (.lit undef) [(n,o)] [n]:=by
 unfold storeX at h
 split at h
 case h_2=>simp at h
 rename_i n' c i0 j k y
 split at h
 case h_2=>simp at h
 rename_i g cl f cur es ho
 split at h
 case h_2=>simp at h
 rename_i l hc he
 simp only[Bool.and_eq_true]at hc
 obtain⟨⟨hc1,hc2⟩,hc3⟩:=hc
 have hs:0<stride:=Nat.le_of_ble_eq_true hc3
 simp only[Option.map_eq_some_iff,Option.bind_eq_some_iff,Prod.mk.injEq]at h
 obtain⟨ns,⟨xs,hxs,hns⟩,rfl,rfl⟩:=h
 obtain⟨g1,g2⟩:=stepCells_get hxs
 have hxe:=intsOf_get hns
 have hcell:∀ p x,ns[p]?=some x→l[j+p*stride]?=some (.lit (.int k x)):=by
  simp_all[partS]
 have hlen:ns.length=len:=by rw[←g1,hxe,List.length_map]
 have hone:=xset_one (y:=y) hs (Nat.zero_le i) (by omega) hcell
 rw[Nat.sub_zero]at hone
 rw[hone]
 have hlt:j+i*stride<l.length:=by
  have:=hcell i _ (List.getElem?_eq_getElem (by omega:i<ns.length))
  exact(List.getElem?_eq_some_iff.1 this).1
 have hcs:(cellsS (SV.lit (Value.int k y):SV T.den))=[.lit (.int k y)]:=rfl
 simp only[shiftS,storeS1,isDead,hcs,ho,hc1,hc2,he,h2]
 simp[setPartS,setCellsS,isLeafS,closedLS,closedS]
 rw[if_pos (show j+i*stride+1≤l.length from hlt)]
theorem loadS1_ok[Glob](hT:T.Ok){P:Program}{t:TypeId}{m:MTy}{q:TyRow}(hq:tyOf P t=some q)(h1:q.isAgg=m.agg)(h2:q.size=m.size)(hh:RH T H hp){a:SV T.den}{b:AV}(ha:RV T H a b)
  (h:(loadS1 m H a K).run=some r):∃ v c rd,Yld hp (loadA P t b) c rd∧R T H v c∧(K v [] rd).run=some r:=by
 unfold loadA
 rw[hq]
 simp only
 unfold loadS1 at h
 split at h
 ·-- a reference
  rename_i n c i j
  have ha:=ha.live rfl
  simp only[R]at ha
  obtain⟨ver,rfl,hver⟩:=ha
  simp only
  split at h
  ·rename_i g cl f cur es ho
   obtain⟨o,ho',hro⟩:=hh.obj ho
   obtain⟨es',rfl,hes,hcl0⟩:=hro
   split at h
   case h_2=>simp[Tr.run]at h
   rename_i hc
   have hver:=hver.arr hh ho hc
   simp only[SObj.len]at hver
   split at h
   case h_2=>simp[Tr.run]at h
   rename_i e he
   obtain⟨v,hv,hk⟩:=one_some h
   obtain⟨e',he',hre⟩:=All2.get (RL_iff.1 hes) he
   rw[←h1,←h2]at hv
   obtain⟨c',hc',hrc⟩:=R.part hre hv
   refine⟨v,c',[n],?_,hrc,hk⟩
   refine Yld.mono (Yld.bind (Yld.arr ho' (by rw[hver]; exact(RL.length hes).symm)) ?_) (rd:=[n]++[]) (fun _ h=>by simpa using h)
   simp only[he']
   exact Yld.ofOpt hc'
  ·rename_i g f cur t' l ho
   obtain⟨o,ho',hro⟩:=hh.obj ho
   obtain⟨es',rfl,hes⟩:=hro
   split at h
   case h_2=>simp[Tr.run]at h
   rename_i hc
   have hver:=hver.arr hh ho hc
   simp only[SObj.len]at hver
   obtain⟨x,hx,h⟩:=bind_some h
   obtain⟨v,hv,hk⟩:=one_some h
   obtain⟨e',he',hre⟩:=All2.get hes hx
   rw[←h1,←h2]at hv
   obtain⟨c',hc',hrc⟩:=R.part (hT.up _ _ _ H hre) hv
   refine⟨v,c',[n],?_,hrc,hk⟩
   refine Yld.mono (Yld.bind (Yld.arr ho' (by rw[hver]; exact(All2.length hes).symm)) ?_) (rd:=[n]++[]) (fun _ h=>by simpa using h)
   simp only[he']
   exact Yld.ofOpt hc'
  ·simp[Tr.run]at h
 ·rename_i e j
  have ha:=ha.live rfl
  simp only[R]at ha
  obtain⟨e',rfl,hre,_⟩:=ha
  obtain⟨v,hv,hk⟩:=one_some h
  rw[←h1,←h2]at hv
  obtain⟨c',hc',hrc⟩:=R.part hre hv
  exact⟨v,c',[],Yld.ofOpt hc',hrc,hk⟩
 ·simp[Tr.run]at h
theorem loadS_ok[Glob](hT:T.Ok){P:Program}{t:TypeId}{m:MTy}{q:TyRow}(hq:tyOf P t=some q)(h1:q.isAgg=m.agg)(h2:q.size=m.size)(hh:RH T H hp){a:SV T.den}{b:AV}(ha:RV T H a b)
  (h:(loadS m H a K).run=some r):∃ v c rd,Yld hp (loadA P t b) c rd∧R T H v c∧(K v [] rd).run=some r:=by
 unfold loadS at h
 split at h
 ·rename_i v stride len i
  have ha:=ha.live rfl
  simp only[R]at ha
  obtain⟨a0,g1,g2,g3⟩:=ha
  have hR:=shift_R g1 g3
  have chain:(chainS i len 0 fun k=>loadS1 m H (shiftS (k*stride) v) K).run=some r→∃ v c rd,Yld hp (loadA P t b) c rd∧R T H v c∧(K v [] rd).run=some r:=by
   intro h
   obtain⟨_,_,h⟩:=chain_some h
   exact loadS1_ok hT hq h1 h2 hh (.inr hR) h
  split at h
  ·rename_i xs rd hs hx
   simp only[Bool.and_eq_true,Bool.not_eq_true']at hs
   split at h
   ·rename_i x hsel
    rw[←xcells_load (K:=K) (m:=m) hx hsel g2 hs.1 (Nat.eq_of_beq_eq_true hs.2)]at h
    exact loadS1_ok hT hq h1 h2 hh (.inr hR) h
   ·exact chain h
  ·exact chain h
 ·exact loadS1_ok hT hq h1 h2 hh ha h
def SObj.isArr{den:Nat→Type}:SObj den→Bool
 |.arr ..|.tarr ..=>true
 |_=>false
theorem RO.arrOf[Glob]{o:SObj T.den}{a:AObj}(hro:RO T H o a)(hj:o.isArr=true):∃ es,a=.arr o.flags.1 o.flags.2.1 o.flags.2.2 es∧es.length=o.len:=by
 cases o with
 |arr g cl f cur es=>obtain⟨es',rfl,hes,_⟩:=hro; exact⟨es',rfl,(RL.length hes).symm⟩
 |tarr g f cur t l=>obtain⟨es',rfl,hes⟩:=hro; exact⟨es',rfl,(All2.length hes).symm⟩
 |_=>simp[SObj.isArr]at hj
theorem storeS1_ok[Glob](hT:T.Ok){P:Program}{t:TypeId}{m:MTy}{q:TyRow}(hq:tyOf P t=some q)(h2:q.size=m.size)(hh:RH T H hp){a v:SV T.den}{b c:AV}(ha:RV T H a b)(hv:RV T H v c)
  (h:(storeS1 m H a v K).run=some r):Gives T H hp (storeA P t b c) K r:=by
 unfold storeA
 rw[hq]
 simp only
 unfold storeS1 at h
 split at h
 case h_2=>simp[Tr.run]at h
 rename_i hd hsz
 simp only[Bool.and_eq_true,decide_eq_true_eq]at hsz
 have hv:=hv.live hd
 have hcl:=hv.cells
 split at h
 case h_2=>simp[Tr.run]at h
 rename_i n cc i j
 have ha:=ha.live rfl
 simp only[R]at ha
 obtain⟨ver,rfl,hver⟩:=ha
 simp only
 split at h
 ·rename_i g cl f cur es ho
  obtain⟨o,ho',hro⟩:=hh.obj ho
  obtain⟨es',rfl,hes,hcl0⟩:=hro
  split at h
  case h_2=>simp[Tr.run]at h
  rename_i hc
  simp only[Bool.and_eq_true,Bool.not_eq_true']at hc
  have hver:=hver.arr hh ho hc.1
  simp only[SObj.len]at hver
  split at h
  case h_2=>simp[Tr.run]at h
  rename_i e he
  split at h
  case h_2=>simp[Tr.run]at h
  rename_i e' hse
  obtain⟨b',hb',hrb⟩:=All2.get (RL_iff.1 hes) he
  obtain⟨e2,he2,hre2⟩:=R.setPart hrb hcl hse
  have hset:RL T H (es.set i e') (es'.set i e2):=RL_iff.2 ((RL_iff.1 hes).set i hre2)
  refine gives_upd (o':=.arr g (cl&&closedLS (cellsS v)) f cur (es.set i e')) hh ho (Nat.le_refl _) (fun _=>by simp[SObj.len]) (a':=.arr g (cl&&closedL (cellsOf c)) f (es'.set i e2)) ⟨_,by rw[RL.closed hcl],hset,fun hcc=>by simp only[Bool.and_eq_true]at hcc; exact closed_set (hcl0 hcc.1) (closed_setPart hse (closed_mem (hcl0 hcc.1) (List.mem_of_getElem? he)) hcc.2) i⟩ (RV_lit undef) ?_ h
  refine Yld.mono (Yld.bind (Yld.arr ho' (by rw[hver]; exact(RL.length hes).symm)) ?_) (rd:=[n]++[]) (fun _ h=>by simpa using h)
  simp only[hb',he2]
  rw[if_pos ⟨hc.2,by rw[←hcl.length,h2]; exact hsz.1,by rw[←hcl.leafs]; exact hsz.2⟩]
  exact Yld.ret _
 ·rename_i g f cur t' l ho
  obtain⟨o,ho',hro⟩:=hh.obj ho
  obtain⟨es',rfl,hes⟩:=hro
  split at h
  case h_2=>simp[Tr.run]at h
  rename_i hc
  simp only[Bool.and_eq_true,Bool.not_eq_true']at hc
  have hver:=hver.arr hh ho hc.1.1
  simp only[SObj.len]at hver
  obtain⟨x,hx,h⟩:=bind_some h
  split at h
  case h_2=>simp[Tr.run]at h
  rename_i e' hse
  split at h
  case h_2=>simp[Tr.run]at h
  rename_i y hy
  obtain⟨b',hb',hrb⟩:=All2.get hes hx
  obtain⟨e2,he2,hre2⟩:=R.setPart (hT.up _ _ _ H hrb) hcl hse
  have hset:All2 (T.rp t') (l.set i y) (es'.set i e2):=hes.set i (hT.dn _ _ _ _ H hy hre2)
  refine gives_upd (o':=.tarr g f cur t' (l.set i y)) hh ho (Nat.le_refl _) (fun _=>by simp[SObj.len]) (a':=.arr g (true&&closedL (cellsOf c)) f (es'.set i e2)) ⟨_,by rw[←RL.closed hcl,hc.2]; rfl,hset⟩ (RV_lit undef) ?_ h
  refine Yld.mono (Yld.bind (Yld.arr ho' (by rw[hver]; exact(All2.length hes).symm)) ?_) (rd:=[n]++[]) (fun _ h=>by simpa using h)
  simp only[hb',he2]
  rw[if_pos ⟨hc.1.2,by rw[←hcl.length,h2]; exact hsz.1,by rw[←hcl.leafs]; exact hsz.2⟩]
  exact Yld.ret _
 ·simp[Tr.run]at h
theorem storeS_ok[Glob](hT:T.Ok){P:Program}{t:TypeId}{m:MTy}{q:TyRow}(hq:tyOf P t=some q)(h2:q.size=m.size)(hh:RH T H hp){a v:SV T.den}{b c:AV}(ha:RV T H a b)(hv:RV T H v c)
  (h:(storeS m H a v K).run=some r):Gives T H hp (storeA P t b c) K r:=by
 unfold storeS at h
 split at h
 ·rename_i w stride len i
  have ha:=ha.live rfl
  simp only[R]at ha
  obtain⟨a0,g1,g2,g3⟩:=ha
  have hR:=shift_R g1 g3
  split at h
  ·rename_i n o hs hx
   rw[←storeX_store (K:=K) (m:=m) hx g2 (Nat.eq_of_beq_eq_true hs)]at h
   exact storeS1_ok hT hq h2 hh (.inr hR) hv h
  ·obtain⟨_,_,h⟩:=chain_some h
   exact storeS1_ok hT hq h2 hh (.inr hR) hv h
 ·exact storeS1_ok hT hq h2 hh ha hv h
end
end Go.PI
end
section
/- PS, part G: the other operations. -/
namespace Go.PI
variable {T:Tys}{ρ:Type}
section
variable {H:SHeap T.den}{hp:AHeap}{K:EK T ρ}{r:ρ}{Q:Prg}
theorem Prg.Ok.slice(hQ:Q.Ok){t e:Nat}{m:MTy}(h:Q.elemOf t=some (e,m)):Q.P.underlying t=some (.slice e)∧Q.ty e=some m:=by
 unfold Prg.elemOf at h
 cases ht:Q.ty t with
 |none=>rw[ht]at h; simp at h
 |some m1=>
  rw[ht]at h
  simp only at h
  obtain⟨d,hd,hk⟩:=hQ.kind t m1 ht
  cases hm:m1.kind with
  |slice e'=>
   rw[hm]at h hk
   simp only[Option.map_eq_some_iff,Prod.mk.injEq]at h
   obtain⟨m2,h1,rfl,rfl⟩:=h
   cases d<;>simp[kindOf]at hk
   subst hk
   exact⟨hd,h1⟩
  |_=>rw[hm]at h; simp at h
theorem Prg.Ok.elem[Glob](hQ:Q.Ok){t:Nat}{m:MTy}(h:Q.elem t=some m):∃ r,sliceElem Q.P t=some r∧r.isAgg=m.agg∧r.size=m.size∧r.bytes=m.bytes∧(∀ z,m.zero=some z→elemZero r=some z):=by
 unfold Prg.elem at h
 rw[Option.map_eq_some_iff]at h
 obtain⟨⟨e,m'⟩,h1,rfl⟩:=h
 obtain⟨h2,h3⟩:=hQ.slice h1
 obtain⟨r,h4,h5⟩:=hQ.row e _ h3
 exact⟨r,by simp[sliceElem,h2,h4],h5⟩
theorem Prg.Ok.arrT(hQ:Q.Ok){t n:Nat}{m:MTy}(h:Q.arr t=some (n,m)):∃ r,arrayElem Q.P t=some (n,r)∧r.isAgg=m.agg∧r.size=m.size:=by
 unfold Prg.arr at h
 cases ht:Q.ty t with
 |none=>rw[ht]at h; simp at h
 |some m1=>
  rw[ht]at h
  simp only at h
  obtain⟨d,hd,hk⟩:=hQ.kind t m1 ht
  cases hm:m1.kind with
  |array n' e=>
   rw[hm]at h hk
   simp only[Option.map_eq_some_iff,Prod.mk.injEq]at h
   obtain⟨m2,h1,rfl,rfl⟩:=h
   cases d<;>simp[kindOf]at hk
   obtain⟨rfl,rfl⟩:=hk
   obtain⟨r,h4,h5,h6,_⟩:=hQ.row _ _ h1
   exact⟨r,by simp[arrayElem,hd,h4],h5,h6⟩
  |_=>rw[hm]at h; simp at h
theorem Prg.Ok.fldT(hQ:Q.Ok){t f off:Nat}{m:MTy}(h:Q.fld t f=some (off,m)):∃ r,fieldOf Q.P t f=some (off,r)∧r.isAgg=m.agg∧r.size=m.size:=by
 unfold Prg.fld at h
 cases ht:Q.ty t with
 |none=>rw[ht]at h; simp at h
 |some m1=>
  rw[ht]at h
  simp only at h
  obtain⟨d,hd,hk⟩:=hQ.kind t m1 ht
  cases hm:m1.kind with
  |struct fs=>
   rw[hm]at h hk
   simp only at h
   cases d<;>simp[kindOf]at hk
   rename_i fs'
   subst hk
   cases hf:(List.map (fun f=>(f.offset,f.type)) fs'.toList)[f]? with
   |none=>rw[hf]at h; simp at h
   |some q=>
    obtain⟨off',e⟩:=q
    rw[hf]at h
    simp only at h
    rw[List.getElem?_map,Option.map_eq_some_iff]at hf
    obtain⟨fd,hfd,hq⟩:=hf
    simp only[Prod.mk.injEq]at hq
    obtain⟨rfl,rfl⟩:=hq
    cases he:Q.ty fd.type with
    |none=>rw[he]at h; simp at h
    |some m2=>
     rw[he]at h
     simp only at h
     split at h
     ·simp at h
     rename_i hz
     simp only[Option.some.injEq,Prod.mk.injEq]at h
     obtain⟨rfl,rfl⟩:=h
     obtain⟨r,h4,h5,h6,_⟩:=hQ.row _ _ he
     refine⟨r,?_,h5,h6⟩
     have hfd':fs'[f]?=some fd:=by simpa using hfd
     simp[fieldOf,structFields,hd,hfd',h4]
     omega
  |_=>rw[hm]at h; simp at h
theorem Prg.Ok.isSl(hQ:Q.Ok){t:Nat}{b:Bool}(h:Q.isSlice t=some b):isSliceTy Q.P t=b:=by
 unfold Prg.isSlice at h
 cases ht:Q.ty t with
 |none=>rw[ht]at h; simp at h
 |some m1=>
  rw[ht]at h
  simp only at h
  obtain⟨d,hd,hk⟩:=hQ.kind t m1 ht
  unfold isSliceTy
  rw[hd]
  cases hm:m1.kind<;>rw[hm]at h hk<;>cases d<;>simp[kindOf]at hk<;>simp_all
theorem bin_int[Glob]{P:Program}{op:BinOp}{t:TypeId}{xo yo:Operand}{k:IntKind}{a b:Int}{v:Value}(h:intS op k a b=some v):
  binA P op t xo yo (.lit (.int k a)) (.lit (.int k b))=some (.lit v):=by
 cases op<;>simp only[intS,Option.some.injEq,reduceCtorEq]at h<;>subst h
 ·exact bin_add
 ·exact bin_sub
 ·exact bin_mul
 ·rw[bin_eql]; congr
 ·rw[bin_neq]; congr
 ·exact bin_lss
 ·exact bin_leq
 ·exact bin_gtr
 ·exact bin_geq
theorem bin_div[Glob]{P:Program}{op:BinOp}{t:TypeId}{xo yo:Operand}{k:IntKind}{a b:Int}{v:Value}(h:divS op k a b=some v)(hb:b≠0):
  binA P op t xo yo (.lit (.int k a)) (.lit (.int k b))=some (.lit v):=by
 cases op<;>simp only[divS,Option.some.injEq,reduceCtorEq]at h<;>subst h
 ·simp only[binA,eqAggA,toVal?]; rw[pr_guard _ (by simp) (by simp)]; simp[binOp,Op.intDiv,hb]; rfl
 ·simp only[binA,eqAggA,toVal?]; rw[pr_guard _ (by simp) (by simp)]; simp[binOp,Op.intDiv,hb]; rfl
theorem bin_sh[Glob]{P:Program}{op:BinOp}{t:TypeId}{xo yo:Operand}{k k':IntKind}{a b:Int}{v:Value}(h:shS op k a b=some v)(hb:¬b<0):
  binA P op t xo yo (.lit (.int k a)) (.lit (.int k' b))=some (.lit v):=by
 cases op<;>simp only[shS,Option.some.injEq,reduceCtorEq]at h<;>subst h
 ·simp only[binA,eqAggA,toVal?]; rw[pr_guard _ (by simp) (by simp)]; simp[binOp,Op.shift,hb]; rfl
 ·simp only[binA,eqAggA,toVal?]; rw[pr_guard _ (by simp) (by simp)]; simp[binOp,Op.shift,hb]; rfl
theorem eqCellK_run{x y:Value}{K:Bool→Tr ρ}:eqCellK x y K=K (eqCell x y):=by
 unfold eqCellK eqCell
 split<;>simp_all
theorem eqListK_run[Glob]:∀ {c c':List Value} {K:Bool→Tr ρ},eqListK c c' K=K (eqCells c c')
 |[],[],K=>rfl
 |[x],[y],K=>by simp[eqListK,eqCellK_run,eqCells]
 |x::x'::xs,y::y'::ys,K=>by
  simp only[eqListK,eqCellK_run]
  rw[eqListK_run]
  rfl
 |[],_::_,K=>by simp[eqListK,eqCells]
 |_::_,[],K=>by simp[eqListK,eqCells]
 |[x],y::y'::ys,K=>by simp[eqListK,eqCells]
 |x::x'::xs,[y],K=>by simp[eqListK,eqCells]
theorem litsOf_map:∀ (c:List Value),litsOf (c.map .lit)=some c
 |[]=>rfl
 |v::vs=>by simp[litsOf,litsOf_map vs]
theorem eqAggS_ok[Glob](hQ:Q.Ok){op:BinOp}{t:TypeId}{xo yo:Operand}{l l':List (SV T.den)}{a b:List AV}(h1:RL T H l a)(h2:RL T H l' b)(h:(eqAggS Q op t l l' K).run=some r):
  ∃ v,binA Q.P op t xo yo (.agg a) (.agg b)=some (.lit v)∧(K (.lit v) [] []).run=some r:=by
 unfold eqAggS at h
 split at h
 case h_2=>simp[Tr.run]at h
 rename_i c c' m hc hc' hm
 split at h
 case h_2=>simp[Tr.run]at h
 rename_i ks hks
 split at h
 case h_2=>simp[Tr.run]at h
 rename_i hf
 simp only[Bool.and_eq_true]at hf
 obtain⟨_,rfl⟩:=RL.litsOf h1 hc
 obtain⟨_,rfl⟩:=RL.litsOf h2 hc'
 obtain⟨hg,hki⟩:=hQ.eqk _ _ _ hm hks
 have he:=eqIn_kinds 20 t ks c c' hki hf.1.2 hf.2
 obtain⟨rr,hr1,hr2,_⟩:=hQ.row _ _ hm
 have hd:∃ d,Q.P.underlying t=some d∧isAggD d=true:=by
  unfold tyOf at hr1
  cases hi:Q.P.info? t with
  |none=>rw[hi]at hr1; simp at hr1
  |some i=>
   cases hu:Q.P.underlying t with
   |none=>rw[hi,hu]at hr1; simp at hr1
   |some d=>
    rw[hi,hu]at hr1
    simp only[Option.some.injEq]at hr1
    refine⟨d,rfl,?_⟩
    rw[←hf.1.1,←hr2,←hr1]
    rfl
 obtain⟨d,hd1,hd2⟩:=hd
 have hA:∀ op,eqAggA Q.P op t (.agg (c.map .lit)) (.agg (c'.map .lit))=eqVal op (eqCells c c'):=by
  intro op
  unfold eqAggA
  simp only[litsOf_map,hd1]
  cases d<;>simp[isAggD]at hd2<;>simp[hg,he]
 have hB:∀ op x,eqVal op (eqCells c c')=some x→binA Q.P op t xo yo (.agg (c.map .lit)) (.agg (c'.map .lit))=some x:=by
  intro op x hx
  unfold binA
  rw[hA,hx]
 rw[eqListK_run]at h
 cases op<;>simp only[Tr.run,reduceCtorEq]at h
 ·exact⟨_,hB _ _ rfl,h⟩
 ·exact⟨_,hB _ _ rfl,h⟩
theorem plain_RV[Glob]{v:SV T.den}{a b:AV}(hv:RV T H v a)(h:plainS v=some b):a=b:=by
 rcases hv with hv|hv
 ·subst hv; simp[plainS]at h
 ·exact hv.plain h
theorem eqAggA_other{P:Program}{op:BinOp}{t:TypeId}{a b:AV}(ha:(∀ l,a≠.agg l)∨∀ l,b≠.agg l):eqAggA P op t a b=none:=by
 unfold eqAggA
 split
 ·simp_all
 ·rfl
theorem nilEqS_ok[Glob]{P:Program}{op:BinOp}{t:TypeId}{x:SV T.den}{a:AV}{n:Value}{y:AV}(hx:RV T H x a)(h:nilEqS P op t x n=some y):
  nilEqA P op t a n=some y∧toVal? a=none∧∀ l,a≠.agg l:=by
 unfold nilEqS at h
 split at h
 ·split at h
  ·have:=hx.live rfl
   simp only[R]at this
   obtain⟨v',rfl,l',rfl,_⟩:=this
   exact⟨by simpa[nilEqA] using h,rfl,by simp⟩
  ·have:=hx.live rfl
   simp only[R]at this
   obtain⟨v',rfl,l',rfl,_⟩:=this
   exact⟨by simpa[nilEqA] using h,rfl,by simp⟩
  ·simp at h
 ·split at h
  ·have:=hx.live rfl
   simp only[R]at this
   obtain⟨f',c',rfl,_⟩:=this
   exact⟨by simpa[nilEqA] using h,rfl,by simp⟩
  ·simp at h
 ·split at h
  case isFalse=>simp at h
  rename_i hc
  simp only[Bool.and_eq_true]at hc
  cases x<;>simp[notNilS]at hc
  rename_i xs
  have:=hx.live rfl
  simp only[R]at this
  obtain⟨l',rfl,hl,_⟩:=this
  have:notNil (.sl l')=true:=by
   simp only[notNil]
   have:=hl.length
   cases l' with
   |nil=>simp at this; exact absurd this hc.2
   |cons=>rfl
  refine⟨?_,rfl,by simp⟩
  simp only[nilEqA,hc.1,this,Bool.and_self,if_true]
  exact h
 ·simp at h
theorem binS_ok[Glob](hQ:Q.Ok){op:BinOp}{t:TypeId}{xo yo:Operand}{x y:SV T.den}{a b:AV}(hx:RV T H x a)(hy:RV T H y b)(h:(binS Q op t xo yo x y K).run=some r):
  ∃ v,binA Q.P op t xo yo a b=some (.lit v)∧(K (.lit v) [] []).run=some r:=by
 unfold binS at h
 split at h
 ·rename_i k m k' m'
  have ha:=hx.lit rfl
  have hb:=hy.lit rfl
  subst ha; subst hb
  split at h
  ·rename_i v hk hv
   simp only[decide_eq_true_eq]at hk
   subst hk
   exact⟨v,bin_int hv,h⟩
  ·split at h
   ·rename_i v hk hv
    simp only[decide_eq_true_eq]at hk
    subst hk
    rcases cond_some h with ⟨_,h⟩|⟨h0,h⟩
    ·simp[Tr.run]at h
    ·exact⟨v,bin_div hv (by simpa using h0),h⟩
   ·split at h
    ·rename_i v hk hv
     rcases cond_some h with ⟨_,h⟩|⟨h0,h⟩
     ·simp[Tr.run]at h
     ·exact⟨v,bin_sh hv (by simpa using h0),h⟩
    ·exact via_some h
 ·rename_i l l'
  have ha:=hx.live rfl
  have hb:=hy.live rfl
  simp only[R]at ha hb
  obtain⟨a',rfl,ha⟩:=ha
  obtain⟨b',rfl,hb⟩:=hb
  exact eqAggS_ok hQ ha hb h
 ·split at h
  ·rename_i a' b' h1 h2
   rw[plain_RV hx h1,plain_RV hy h2]
   exact via_some h
  ·split at h
   ·rename_i n
    obtain⟨v,hv,hk⟩:=via_some h
    obtain⟨h1,h2,h3⟩:=nilEqS_ok hx hv
    have hb:=hy.lit rfl
    subst hb
    refine⟨v,?_,hk⟩
    unfold binA
    rw[eqAggA_other (.inl h3),h2]
    exact h1
   ·rename_i hyn
    split at h
    ·rename_i n
     obtain⟨v,hv,hk⟩:=via_some h
     obtain⟨h1,h2,h3⟩:=nilEqS_ok hy hv
     have ha:=hx.lit rfl
     subst ha
     refine⟨v,?_,hk⟩
     unfold binA
     rw[eqAggA_other (.inr h3),h2]
     cases b with
     |lit b=>
      exfalso
      simp[toVal?]at h2
     |_=>exact h1
    ·simp[Tr.run]at h
theorem pick_ok[Glob]{t:Bool}{x y:SV T.den}{a b:AV}(hx:RV T H x a)(hy:RV T H y b)(h:(pickS t x y K).run=some r):
  ∃ v,RV T H v (cond t a b)∧(K v [] []).run=some r:=by
 unfold pickS at h
 split at h
 ·have ha:=hx.lit rfl
  have hb:=hy.lit rfl
  subst ha; subst hb
  refine⟨_,?_,h⟩
  cases t<;>exact RV_lit _
 ·rename_i k m k' m'
  have ha:=hx.lit rfl
  have hb:=hy.lit rfl
  subst ha; subst hb
  split at h
  ·rename_i hk
   subst hk
   refine⟨_,?_,h⟩
   cases t<;>exact RV_lit _
  ·rcases cond_some h with ⟨rfl,h⟩|⟨rfl,h⟩
   ·exact⟨_,RV_lit _,h⟩
   ·exact⟨_,RV_lit _,h⟩
 ·rcases cond_some h with ⟨rfl,h⟩|⟨rfl,h⟩
  ·exact⟨_,hx,h⟩
  ·exact⟨_,hy,h⟩
end
end Go.PI
end
section
/- PS, part H: structs and slices built, cut, indexed. -/
namespace Go.PI
variable {T:Tys}{ρ:Type}
section
variable {H:SHeap T.den}{hp:AHeap}{K:EK T ρ}{r:ρ}{Q:Prg}
theorem placesS_ok(hQ:Q.Ok):∀ {fs:List Field} {pl:List (Nat×Nat)},Q.places (fs.map fun f=>(f.offset,f.type))=some pl→placesA Q.P fs=some pl
 |[],pl,h=>by simpa[Prg.places,placesA] using h
 |f::fs,pl,h=>by
  simp only[List.map_cons,Prg.places]at h
  cases hm:Q.ty f.type with
  |none=>rw[hm]at h; simp at h
  |some m=>
   cases hp:Q.places (fs.map fun f=>(f.offset,f.type)) with
   |none=>rw[hm,hp]at h; simp at h
   |some l=>
    rw[hm,hp]at h
    simp only[Option.some.injEq]at h
    subst h
    obtain⟨r,h1,_,h2,_⟩:=hQ.row _ _ hm
    simp[placesA,h1,placesS_ok hQ hp,h2]
theorem zero_cells[Glob]{q:TyRow}{z:AV}{zs:SV T.den}(h:elemZero q=some z)(hz:(ofPlain z:Option (SV T.den))=some zs):
  ∃ v,q.zero=some v∧v.cells.toList.all (fun v=>isLeaf (.lit v))=true∧RL T H (cellsS zs) (v.cells.toList.map .lit):=by
 unfold elemZero at h
 cases hv:q.zero with
 |none=>rw[hv]at h; simp at h
 |some v=>
  rw[hv]at h
  simp only at h
  split at h
  case isFalse=>simp at h
  rename_i hc
  simp only[Option.some.injEq]at h
  refine⟨v,rfl,hc.2.2.1,?_⟩
  have h1:=(ofPlain_R (H:=H) hz).cells
  rw[←h]at h1
  cases v<;>first|exact h1|(simp[isTupV]at hc)
theorem buildS_ok[Glob](hQ:Q.Ok){t:TypeId}{ps:List (Nat×SV T.den)}{qs:List (Nat×AV)}(hp:RP T H ps qs){v:SV T.den}(h:buildS Q t ps=some v):∃ a,buildA Q.P t qs=some a∧R T H v a:=by
 unfold buildS at h
 split at h
 case h_2=>simp at h
 rename_i m hm
 obtain⟨q,hq1,hq2,hq3,_,hq4⟩:=hQ.row _ _ hm
 obtain⟨d,hd,hk⟩:=hQ.kind _ _ hm
 split at h
 ·rename_i fs z hmk hz
  rw[Option.bind_eq_some_iff]at hz
  obtain⟨z0,hz0,hz⟩:=hz
  obtain⟨zv,hz1,hz2,hz3⟩:=zero_cells (H:=H) (hq4 _ hz0) hz
  rw[hmk]at hk
  cases d<;>simp[kindOf]at hk
  rename_i fs'
  subst hk
  split at h
  case h_2=>simp at h
  rename_i pl hpl
  rw[Option.map_eq_some_iff]at h
  obtain⟨l,h1,rfl⟩:=h
  obtain⟨l',h2,h3⟩:=RP.fill hp hz3 h1
  refine⟨.agg l',?_,by simp only[R]; exact⟨l',rfl,h3⟩⟩
  unfold buildA
  simp only[hd,hq1,hz1,placesS_ok hQ hpl,hz2,if_true]
  rw[h2]; rfl
 ·rename_i n e z hmk hz
  rw[Option.bind_eq_some_iff]at hz
  obtain⟨z0,hz0,hz⟩:=hz
  obtain⟨zv,hz1,hz2,hz3⟩:=zero_cells (H:=H) (hq4 _ hz0) hz
  rw[hmk]at hk
  cases d<;>simp[kindOf]at hk
  obtain⟨rfl,rfl⟩:=hk
  split at h
  case h_2=>simp at h
  rename_i m2 hm2
  obtain⟨q2,hr1,_,hr3,_⟩:=hQ.row _ _ hm2
  rw[Option.map_eq_some_iff]at h
  obtain⟨l,h1,rfl⟩:=h
  obtain⟨l',h2,h3⟩:=RP.fill hp hz3 h1
  refine⟨.agg l',?_,by simp only[R]; exact⟨l',rfl,h3⟩⟩
  unfold buildA
  simp only[hd,hq1,hz1,hr1,hz2,if_true,hr3]
  rw[h2]; rfl
 ·simp at h
theorem setParts_ok[Glob]:∀ {ps:List (Nat×SV T.den)} {qs:List (Nat×AV)} {es:List (SV T.den)} {es':List AV},RP T H ps qs→RL T H es es'→RL T H (setPartsS es ps) (setParts es' qs)
 |[],[],es,es',_,h=>h
 |(i,v)::ps,(i',a)::qs,es,es',hp,h=>by
  obtain⟨⟨h1,h2⟩,h3⟩:=hp
  simp only at h1 h2
  subst h1
  simp only[setPartsS,setParts]
  exact setParts_ok h3 (RL_iff.2 ((RL_iff.1 h).set i h2))
 |[],_::_,_,_,h,_=>h.elim
 |_::_,[],_,_,h,_=>h.elim
theorem RP.snd:∀ {ps:List (Nat×SV T.den)} {qs:List (Nat×AV)},RP T H ps qs→RL T H (ps.map (·.2)) (qs.map (·.2))
 |[],[],_=>by simp[RL]
 |(i,v)::ps,(i',a)::qs,h=>by
  obtain⟨⟨_,h2⟩,h3⟩:=h
  simp only[List.map_cons,RL]
  exact⟨h2,RP.snd h3⟩
 |[],_::_,h=>h.elim
 |_::_,[],h=>h.elim
theorem RP.all{p:Nat×SV T.den→Bool}{q:Nat×AV→Bool}(hpq:∀ i v a,R T H v a→p (i,v)=q (i,a)):∀ {ps:List (Nat×SV T.den)} {qs:List (Nat×AV)},RP T H ps qs→ps.all p=qs.all q
 |[],[],_=>rfl
 |(i,v)::ps,(i',a)::qs,h=>by
  obtain⟨⟨h1,h2⟩,h3⟩:=h
  simp only at h1 h2
  subst h1
  simp only[List.all_cons]
  rw[hpq i v a h2,RP.all hpq h3]
 |[],_::_,h=>h.elim
 |_::_,[],h=>h.elim
theorem verOk_new(hh:RH T H hp){nm:Nat}(hn:nm=H.length∨H[nm]?=some none){o:SObj T.den}:verOk (setObjS H nm o) nm o.cur o.len:=by
 refine⟨o,?_,Nat.le_refl _,fun _=>rfl⟩
 unfold setObjS
 split
 ·rename_i h; subst h; simp
 ·grind
theorem setPartsS_len:∀ (ps:List (Nat×SV T.den)) (es:List (SV T.den)),(setPartsS es ps).length=es.length
 |[],es=>rfl
 |(i,v)::ps,es=>by simp only[setPartsS]; rw[setPartsS_len ps]; simp
theorem buildSliceS_ok[Glob](hQ:Q.Ok)(hh:RH T H hp){nm:Nat}(hn:nm=H.length∨H[nm]?=some none){t:TypeId}{len:Nat}{ps:List (Nat×SV T.den)}{qs:List (Nat×AV)}(hps:RP T H ps qs)
  (h:(buildSliceS Q nm t len ps K).run=some r):Gives T H hp (.ofOpt (buildSliceA Q.P nm t len qs)) K r:=by
 unfold buildSliceS at h
 split at h
 case h_2=>simp[Tr.run]at h
 rename_i m hm
 obtain⟨q,hq1,hq2,hq3,hq4,hq5⟩:=hQ.elem hm
 split at h
 case h_2=>simp[Tr.run]at h
 rename_i z hz
 rw[Option.bind_eq_some_iff]at hz
 obtain⟨z0,hz0,hz⟩:=hz
 split at h
 case isFalse=>simp[Tr.run]at h
 rename_i hc
 have hez:=hq5 _ hz0
 have hes:=setParts_ok hps (RL_iff.2 (All2.replicate (ofPlain_R (H:=H) hz) len))
 refine gives_new hh hn (o:=.arr false (closedLS (ps.map (·.2))) false 0 (setPartsS (List.replicate len z) ps)) (a':=.arr false (closedL (qs.map (·.2))) false (setParts (List.replicate len z0) qs))
  ⟨_,by rw[RL.closed (RP.snd hps)],hes,fun hcc=>closed_setParts (closed_of fun x hx=>by rw[List.eq_of_mem_replicate hx]; exact closed_plain hz) hcc⟩ (a:=.osl q.size nm len 0 len (some len)) (rd:=[]) ?_ ?_ h
 ·right
  simp only[R]
  have hv:=verOk_new hh hn (o:=.arr false (closedLS (ps.map (·.2))) false 0 (setPartsS (List.replicate len z) ps))
  simp only[SObj.cur,SObj.len,setPartsS_len,List.length_replicate]at hv
  exact⟨len,hv,by rw[hq3]⟩
 ·have hall:qs.all (fun p=>decide (p.1<len)&&okElem q.isAgg q.size p.2)=true:=by
   rw[←RP.all (p:=fun p=>decide (p.1<len)&&okElemS m.agg m.size p.2) (fun i v a hva=>by simp only[hq2,hq3,R.okElem hva]) hps]; exact hc.2.2
  refine Yld.ofOpt ?_
  unfold buildSliceA
  simp only[hq1,hez]
  rw[if_pos ⟨by rw[hq3]; exact hc.1,by rw[hq3]; exact hc.2.1,hall⟩]
def Tys.Zeros(T:Tys)(Q:Prg):Prop:=∀ t m z za,Q.ty t=some m→m.zero=some za→T.zero t=some z→T.rp t z za
theorem makeSliceS_ok[Glob](hQ:Q.Ok)(hZ:T.Zeros Q)(hh:RH T H hp){nm:Nat}(hn:nm=H.length∨H[nm]?=some none){t:TypeId}{l c:SV T.den}{a b:AV}(hl:RV T H l a)(hc:RV T H c b)
  (h:(makeSliceS Q nm t l c K).run=some r):Gives T H hp (.ofOpt (makeSliceA Q.P nm t a b)) K r:=by
 unfold makeSliceS at h
 split at h
 case h_2=>simp[Tr.run]at h
 rename_i e m hm
 obtain⟨hu,hte⟩:=hQ.slice hm
 obtain⟨q,hq1,hq2,hq3,hq4,hq5⟩:=hQ.row _ _ hte
 have hse:sliceElem Q.P t=some q:=by simp[sliceElem,hu,hq1]
 split at h
 case h_2=>simp[Tr.run]at h
 rename_i za z hza hz hs0
 simp only[decide_eq_true_eq]at hs0
 have hez:=hq5 _ hza
 have hrz:=hZ _ _ _ _ hte hza hz
 obtain⟨k,n,e1,hn0,h⟩:=asNatS_some h
 obtain⟨k',n',e2,hn0',h⟩:=asNatS_some h
 have ha:=asNat_R hl e1 hn0
 have hb:=asNat_R hc e2 hn0'
 obtain⟨hg,h⟩:=guard_some h
 simp only[Bool.and_eq_true,decide_eq_true_eq]at hg
 have hrep:All2 (T.rp e) (List.replicate n'.toNat z) (List.replicate n'.toNat za):=All2.replicate hrz _
 have hA:makeSliceA Q.P nm t a b=some ⟨.osl q.size nm n'.toNat 0 n.toNat (some n'.toNat),[(nm,.arr false true false (List.replicate n'.toNat za))]⟩:=by
  simp_all[hse,ha,hb,hez,makeSliceA]
 have hv:=verOk_new hh hn (o:=.tarr false false 0 e (List.replicate n'.toNat z))
 simp only[SObj.cur,SObj.len,List.length_replicate]at hv
 refine gives_new hh hn (o:=.tarr false false 0 e (List.replicate n'.toNat z)) ⟨_,rfl,hrep⟩ ?_ (Yld.ofOpt hA) h
 right
 simp only[R]
 exact⟨n'.toNat,hv,by rw[hq3]⟩
theorem makeSlice1_ok[Glob](hQ:Q.Ok)(hZ:T.Zeros Q)(hh:RH T H hp){nm:Nat}(hn:nm=H.length∨H[nm]?=some none){t:TypeId}{l:SV T.den}{a:AV}(hl:RV T H l a)
  (h:(makeSlice1 Q nm t l K).run=some r):Gives T H hp (.ofOpt (makeSliceA Q.P nm t a a)) K r:=by
 unfold makeSlice1 at h
 split at h
 case h_2=>simp[Tr.run]at h
 rename_i e m hm
 obtain⟨hu,hte⟩:=hQ.slice hm
 obtain⟨q,hq1,hq2,hq3,hq4,hq5⟩:=hQ.row _ _ hte
 have hse:sliceElem Q.P t=some q:=by simp[sliceElem,hu,hq1]
 split at h
 case h_2=>simp[Tr.run]at h
 rename_i za z hza hz hs0
 simp only[decide_eq_true_eq]at hs0
 have hez:=hq5 _ hza
 have hrz:=hZ _ _ _ _ hte hza hz
 obtain⟨k,n,e1,hn0,h⟩:=asNatS_some h
 have ha:=asNat_R hl e1 hn0
 obtain⟨hg,h⟩:=guard_some h
 simp only[Bool.and_eq_true,decide_eq_true_eq]at hg
 have hrep:All2 (T.rp e) (List.replicate n.toNat z) (List.replicate n.toNat za):=All2.replicate hrz _
 have hA:makeSliceA Q.P nm t a a=some ⟨.osl q.size nm n.toNat 0 n.toNat (some n.toNat),[(nm,.arr false true false (List.replicate n.toNat za))]⟩:=by
  simp_all[hse,ha,hez,makeSliceA]
 have hv:=verOk_new hh hn (o:=.tarr false false 0 e (List.replicate n.toNat z))
 simp only[SObj.cur,SObj.len,List.length_replicate]at hv
 refine gives_new hh hn (o:=.tarr false false 0 e (List.replicate n.toNat z)) ⟨_,rfl,hrep⟩ ?_ (Yld.ofOpt hA) h
 right
 simp only[R]
 exact⟨n.toNat,hv,by rw[hq3]⟩
theorem allocS_ok[Glob](hQ:Q.Ok)(hh:RH T H hp){nm:Nat}(hn:nm=H.length∨H[nm]?=some none){t:TypeId}{m:MTy}(hm:Q.ty t=some m){z:SV T.den}(hz:m.zero.bind ofPlain=some z)(hs:0<m.size)
  (h:(K (.ref nm 0 0 0) [(nm,.arr false true false 0 [z])] []).run=some r) {ev:Operand→AV} {dst:Option Tmp} {type:TypeId} {pos:String} {after:Array Edge} {guard:Option (Nat×Bool)} :
  Gives T H hp (opEff Q.P nm ev ⟨dst,.alloc t,type,pos,after,guard⟩) K r:=by
 obtain⟨q,hq1,hq2,hq3,hq4,hq5⟩:=hQ.row _ _ hm
 rw[Option.bind_eq_some_iff]at hz
 obtain⟨z0,hz0,hz⟩:=hz
 have hez:=hq5 _ hz0
 refine gives_new hh hn (o:=.arr false true false 0 [z]) (a':=.arr false true false [z0]) ⟨_,rfl,by simp only[RL]; exact⟨ofPlain_R hz,trivial⟩,fun _=>by simp only[closedLS,closed_plain hz,Bool.and_self]⟩ (a:=.ref nm 1 0 0) (rd:=[]) ?_ ?_ h
 ·right
  simp only[R]
  exact⟨1,rfl,verOk_new hh hn (o:=.arr false true false 0 [z])⟩
 ·simp only[opEff,hq1,hez]
  rw[if_pos (by omega)]
  exact Yld.ret _
def RVo(T:Tys)(H:SHeap T.den)(x:Option (SV T.den))(y:Option AV):Prop:=
 match x,y with
 |none,none=>True
 |some v,some a=>RV T H v a
 |_,_=>False
theorem optNat_R[Glob]{d:Nat}{x:Option (SV T.den)}{y:Option AV}(hxy:RVo T H x y){K:Nat→Tr ρ}(h:(optNatS d x K).run=some r):∃ n,optNat d y=some n∧(K n).run=some r:=by
 unfold optNatS at h
 split at h
 ·cases y with
  |none=>exact⟨d,rfl,h⟩
  |some a=>exact hxy.elim
 ·cases y with
  |none=>exact hxy.elim
  |some a=>
   obtain⟨k,n,e1,hn0,h⟩:=asNatS_some h
   exact⟨n.toNat,asNat_R hxy e1 hn0,h⟩
theorem asNat_R2[Glob]{d:Nat}{v:SV T.den}{y:Option AV}(hxy:RVo T H (some v) y){K:Nat→Tr ρ}(h:(asNatS v K).run=some r):∃ n,optNat d y=some n∧(K n).run=some r:=
 optNat_R (d:=d) hxy h
theorem plainO_RVo[Glob]{x:Option (SV T.den)}{y z:Option AV}(hxy:RVo T H x y)(h:plainO x=some z):y=z:=by
 cases x with
 |none=>
  cases y with
  |none=>simpa[plainO] using h
  |some a=>exact hxy.elim
 |some v=>
  cases y with
  |none=>exact hxy.elim
  |some a=>
   simp only[plainO,Option.map_eq_some_iff]at h
   obtain⟨b,hb,rfl⟩:=h
   rw[plain_RV hxy hb]
theorem RVo.isSome{x:Option (SV T.den)}{y:Option AV}(hxy:RVo T H x y):x.isSome=y.isSome:=by
 cases x<;>cases y<;>first|rfl|exact hxy.elim
theorem range_R[Glob](hh:RH T H hp){esz n c:Nat}{rg:Option (Nat×Nat)}{cap:Option Nat}{a:AV}(ha:R T H (.osl esz n c rg cap) a){off len:Nat}(hr:rangeS H n c rg=some (off,len)){o:SObj T.den}
  (ho:H[n]?=some (some o)):∃ ver,a=.osl esz n ver off len cap∧verOk H n c ver∧(Nat.beq c o.cur=true→ver=o.len):=by
 simp only[R]at ha
 obtain⟨ver,hv,ha⟩:=ha
 have hver:Nat.beq c o.cur=true→ver=o.len:=hv.arr hh ho
 cases rg with
 |some q=>
  obtain⟨off',len'⟩:=q
  simp only[rangeS,Option.some.injEq,Prod.mk.injEq]at hr
  obtain⟨rfl,rfl⟩:=hr
  exact⟨ver,ha,hv,hver⟩
 |none=>
  simp only[rangeS,ho]at hr
  split at hr
  case isFalse=>simp at hr
  rename_i hc
  simp only[Option.some.injEq,Prod.mk.injEq]at hr
  obtain⟨rfl,rfl⟩:=hr
  have:=hver hc
  subst this
  exact⟨_,ha,hv,fun _=>rfl⟩
theorem rp_all(hT:T.Ok){t:Nat}{agg:Bool}{size:Nat}(h1:agg=T.agg t)(h2:size=T.size t):∀ {l:List (T.den t)} {l':List AV},All2 (T.rp t) l l'→l'.all (okElem agg size)=true
 |[],[],_=>rfl
 |_::_,_::_,h=>by
  subst h1; subst h2
  simp only[List.all_cons,Bool.and_eq_true]
  exact⟨hT.ok _ _ _ h.1,rp_all hT rfl rfl h.2⟩
theorem cutS_ok[Glob](hT:T.Ok)(hQ:Q.Ok)(hh:RH T H hp){t:TypeId}{x:SV T.den}{a:AV}(hx:RV T H x a){lo hi mx:Option (SV T.den)}{lo' hi' mx':Option AV}(h1:RVo T H lo lo')(h2:RVo T H hi hi')(h3:RVo T H mx mx')
  (h:(cutS Q H t x lo hi mx K).run=some r):∃ v b,cutA Q.P t a lo' hi' mx'=some b∧RV T H v b∧(K v [] []).run=some r:=by
 unfold cutS at h
 split at h
 ·rename_i v
  have ha:=hx.lit rfl
  subst ha
  split at h
  ·rename_i l hh' m e1 e2 e3
   rw[plainO_RVo h1 e1,plainO_RVo h2 e2,plainO_RVo h3 e3]
   split at h
   ·rename_i w hw
    exact⟨_,_,hw,RV_lit w,h⟩
   ·rename_i hw
    exact⟨_,_,hw,.inr (by simp only[R]),h⟩
   ·simp[Tr.run]at h
  ·simp[Tr.run]at h
 ·rename_i xs
  have ha:=hx.live rfl
  simp only[R]at ha
  obtain⟨l',rfl,hl,hlc⟩:=ha
  split at h
  ·rename_i m hm
   obtain⟨q,hq1,hq2,hq3,_⟩:=hQ.elem hm
   obtain⟨n1,e1,h⟩:=optNat_R h1 h
   obtain⟨n2,e2,h⟩:=optNat_R h2 h
   obtain⟨_,_,h⟩:=chain_some h
   obtain⟨_,_,h⟩:=chain_some h
   split at h
   case h_2=>simp[Tr.run]at h
   rename_i hc
   simp only[Bool.and_eq_true,decide_eq_true_eq]at hc
   cases mx' with
   |some _=>exact h3.elim
   |none=>
    refine⟨_,.sl ((l'.drop n1).take (n2-n1)),?_,?_,h⟩
    ·have hall:l'.all (okElem q.isAgg q.size)=true:=by
      rw[hq2,hq3,←RL.all (fun _ _=>R.okElem) hl]; exact hc.2
     simp only[cutA,hq1,e1]
     rw[show optNat l'.length hi'=some n2 by rw[←hl.length]; exact e2]
     simp only
     rw[if_pos ⟨hc.1.1,by rw[←hl.length]; exact hc.1.2,hall⟩]
    ·right
     simp only[R]
     exact⟨_,rfl,RL_iff.2 (((RL_iff.1 hl).drop n1).take (n2-n1)),closed_part hlc _ _⟩
  ·simp[Tr.run]at h
 ·rename_i t' l
  split at h
  ·rename_i m hm
   obtain⟨q,hq1,hq2,hq3,_⟩:=hQ.elem hm
   split at h
   case h_2=>simp[Tr.run]at h
   rename_i hc
   simp only[Bool.and_eq_true,decide_eq_true_eq]at hc
   have ha:=hx.live rfl
   cases mx' with
   |some _=>exact h3.elim
   |none=>
    have key:∀ n1 n2,optNat 0 lo'=some n1→optNat l.length hi'=some n2→n1≤n2→n2≤l.length →
      ∃ b,cutA Q.P t a lo' hi' none=some b∧RV T H (.tsl t' ((l.drop n1).take (n2-n1))) b:=by
     intro n1 n2 e1 e2 hle hle2
     simp only[R]at ha
     rcases ha with ⟨l',rfl,hl⟩|⟨rfl,rfl⟩
     ·refine⟨.sl ((l'.drop n1).take (n2-n1)),?_,?_⟩
      ·simp only[cutA,hq1,e1]
       rw[show optNat l'.length hi'=some n2 by rw[←hl.length]; exact e2]
       simp only
       rw[if_pos ⟨hle,by rw[←hl.length]; exact hle2,rp_all hT (by rw[hq2]; exact hc.1) (by rw[hq3]; exact hc.2) hl⟩]
      ·right
       simp only[R]
       exact .inl ⟨_,rfl,(hl.drop n1).take (n2-n1)⟩
     ·simp only[List.length_nil,Nat.le_zero]at hle2
      subst hle2
      have:n1=0:=by omega
      subst this
      refine⟨.lit nilSl,?_,?_⟩
      ·simp only[List.length_nil]at e2
       simp only[cutA,hq1,e1,e2]
       rfl
      ·right
       show R T H (.tsl t' _) (.lit nilSl)
       unfold R
       exact .inr ⟨by simp,rfl⟩
    cases lo with
    |none=>
     cases lo' with
     |some _=>exact h1.elim
     |none=>
      cases hi with
      |none=>
       cases hi' with
       |some _=>exact h2.elim
       |none=>
        obtain⟨b,hb,hr⟩:=key 0 l.length rfl rfl (Nat.zero_le _) (Nat.le_refl _)
        simp only[List.drop_zero,Nat.sub_zero,List.take_length]at hr
        exact⟨_,b,hb,hr,h⟩
      |some hi=>
       obtain⟨n2,e2,h⟩:=asNat_R2 (d:=l.length) h2 h
       obtain⟨hg,h⟩:=guard_some h
       simp only[decide_eq_true_eq]at hg
       obtain⟨b,hb,hr⟩:=key 0 n2 rfl e2 (Nat.zero_le _) hg
       simp only[List.drop_zero,Nat.sub_zero]at hr
       exact⟨_,b,hb,hr,h⟩
    |some lo=>
     cases hi with
     |none=>
      cases hi' with
      |some _=>exact h2.elim
      |none=>
       obtain⟨n1,e1,h⟩:=asNat_R2 (d:=0) h1 h
       obtain⟨hg,h⟩:=guard_some h
       simp only[decide_eq_true_eq]at hg
       obtain⟨b,hb,hr⟩:=key n1 l.length e1 rfl hg (Nat.le_refl _)
       rw[List.take_of_length_le (by simp)]at hr
       exact⟨_,b,hb,hr,h⟩
     |some hi=>
      obtain⟨n1,e1,h⟩:=asNat_R2 (d:=0) h1 h
      obtain⟨n2,e2,h⟩:=asNat_R2 (d:=l.length) h2 h
      obtain⟨hg,h⟩:=guard_some h
      simp only[Bool.and_eq_true,decide_eq_true_eq]at hg
      obtain⟨b,hb,hr⟩:=key n1 n2 e1 e2 hg.1 hg.2
      exact⟨_,b,hb,hr,h⟩
  ·rename_i m mx hm
   obtain⟨q,hq1,hq2,hq3,_⟩:=hQ.elem hm
   split at h
   case h_2=>simp[Tr.run]at h
   rename_i hi hc
   simp only[Bool.and_eq_true,decide_eq_true_eq]at hc
   cases hi' with
   |none=>exact h2.elim
   |some hi0=>
   cases mx' with
   |none=>exact h3.elim
   |some mx0=>
   have ha:=hx.live rfl
   simp only[R]at ha
   split at h
   ·rename_i hz
    simp only[Bool.and_eq_true]at hz
    obtain⟨hz1,hz2,hz3⟩:=hz
    cases lo with
    |some _=>simp at hz1
    |none=>
    cases lo' with
    |some _=>exact h1.elim
    |none=>
    have z0:∀ {v:SV T.den} {a:AV},isZ v=true→RV T H v a→asNat a=some 0:=by
     intro v a hv hr
     unfold isZ at hv
     split at hv
     ·simp only[decide_eq_true_eq]at hv
      subst hv
      have:=hr.live rfl
      simp only[R]at this
      subst this
      rfl
     ·simp at hv
    have e2:=z0 hz2 h2
    have e3:=z0 hz3 h3
    rcases ha with ⟨l',rfl,hl⟩|⟨rfl,rfl⟩
    ·have hall:=rp_all hT (agg:=q.isAgg) (size:=q.size) (by rw[hq2]; exact hc.1) (by rw[hq3]; exact hc.2) hl
     refine⟨_,.nz,?_,.inr (by simp only[R]),h⟩
     simp only[cutA,hq1,optNat,e2,e3]
     rw[if_pos ⟨Nat.zero_le _,Nat.zero_le _,Nat.zero_le _,hall⟩]
     rfl
    ·refine⟨_,.nz,?_,.inr (by simp only[R]),h⟩
     simp only[cutA,hq1,optNat,e2,e3,Option.isSome_some,Option.isNone_some,Bool.and_false,Bool.false_eq_true,if_false]
   obtain⟨n1,e1,h⟩:=optNat_R h1 h
   obtain⟨n2,e2,h⟩:=asNat_R2 (d:=l.length) h2 h
   obtain⟨n3,e3,h⟩:=asNat_R2 (d:=l.length) h3 h
   obtain⟨hg,h⟩:=guard_some h
   simp only[Bool.and_eq_true,decide_eq_true_eq]at hg
   have e2':asNat hi0=some n2:=e2
   have e3':asNat mx0=some n3:=e3
   have f2:∀ d,optNat d (some hi0)=some n2:=fun _=>e2'
   rcases ha with ⟨l',rfl,hl⟩|⟨rfl,rfl⟩
   ·have hlen:=hl.length
    have hall:=rp_all hT (agg:=q.isAgg) (size:=q.size) (by rw[hq2]; exact hc.1) (by rw[hq3]; exact hc.2) hl
    have hne:l'.isEmpty=false:=by
     grind
    have hne2:n3≠0:=by omega
    refine⟨_,.slx ((l'.drop n1).take (n2-n1)) (n3-n1),?_,.inr (by simp only[R]; exact .inl ⟨by cases l with
      |nil=>exfalso; cases l' with
       |nil=>simp at hne
       |cons=>simp at hlen
      |cons=>rfl,_,rfl,(hl.drop n1).take (n2-n1)⟩),h⟩
    simp only[cutA,hq1,e1,f2,e3']
    rw[if_pos ⟨hg.1.1.1,hg.1.1.2,by rw[←hlen]; exact hg.1.2,hall⟩,if_neg hne2,hne]
    rfl
   ·exfalso
    simp only[List.length_nil]at hg
    omega
  ·simp[Tr.run]at h
 ·rename_i esz n c rg cap
  have ha:=hx.live rfl
  split at h
  ·rename_i m off len o hm hr ho
   obtain⟨q,hq1,hq2,hq3,_⟩:=hQ.elem hm
   split at h
   case h_2=>simp[Tr.run]at h
   rename_i hc
   simp only[Bool.and_eq_true,decide_eq_true_eq]at hc
   obtain⟨ver,rfl,hv,hver⟩:=range_R hh ha hr ho
   have hver:=hver hc.1
   obtain⟨n1,e1,h⟩:=optNat_R h1 h
   obtain⟨n2,e2,h⟩:=optNat_R h2 h
   obtain⟨hg,h⟩:=guard_some h
   simp only[Bool.and_eq_true,decide_eq_true_eq]at hg
   cases mx' with
   |some _=>exact h3.elim
   |none=>
    refine⟨_,.osl esz n ver (off+n1) (n2-n1) (cap.map (·-n1)),?_,?_,h⟩
    ·simp only[cutA,hq1,e1,e2]
     rw[if_pos ⟨hg.1.1,by rw[hver]; exact hg.1.2,by rw[hver]; exact hg.2,by rw[hq3]; exact hc.2⟩]
    ·right
     simp only[R]
     exact⟨ver,hv,rfl⟩
  ·rename_i m mx off len o hm hr ho
   obtain⟨q,hq1,hq2,hq3,_⟩:=hQ.elem hm
   split at h
   case h_2=>simp[Tr.run]at h
   rename_i hi hc
   simp only[Bool.and_eq_true,decide_eq_true_eq]at hc
   cases hi' with
   |none=>exact h2.elim
   |some hi0=>
   cases mx' with
   |none=>exact h3.elim
   |some mx0=>
   obtain⟨ver,rfl,hv,hver⟩:=range_R hh ha hr ho
   have hver:=hver hc.1
   obtain⟨n1,e1,h⟩:=optNat_R h1 h
   obtain⟨n2,e2,h⟩:=asNat_R2 (d:=len) h2 h
   obtain⟨n3,e3,h⟩:=asNat_R2 (d:=len) h3 h
   obtain⟨hg,h⟩:=guard_some h
   simp only[Bool.and_eq_true,decide_eq_true_eq]at hg
   have e2':asNat hi0=some n2:=e2
   have e3':asNat mx0=some n3:=e3
   have f2:∀ d,optNat d (some hi0)=some n2:=fun _=>e2'
   have f3:∀ d,optNat d (some mx0)=some n3:=fun _=>e3'
   refine⟨_,.osl esz n ver (off+n1) (n2-n1) (some (n3-n1)),?_,?_,h⟩
   ·simp only[cutA,hq1,e1,f2,e3']
    rw[if_pos ⟨hg.1.1.1,hg.1.1.2,by rw[hver]; exact hg.1.2,by rw[hver]; exact hg.2,by rw[hq3]; exact hc.2⟩]
   ·right
    simp only[R]
    exact⟨ver,hv,rfl⟩
  ·simp[Tr.run]at h
 ·rename_i n' c k' j
  have ha:=hx.live rfl
  simp only[R]at ha
  obtain⟨ver,rfl,hv⟩:=ha
  split at h
  case h_2=>simp[Tr.run]at h
  rename_i len m hm
  obtain⟨q,hq1,hq2,hq3⟩:=hQ.arrT hm
  cases mx' with
  |some _=>exact h3.elim
  |none=>
   obtain⟨n1,e1,h⟩:=optNat_R h1 h
   obtain⟨n2,e2,h⟩:=optNat_R h2 h
   obtain⟨_,hl,h⟩:=chain_some h
   obtain⟨_,hl2,h⟩:=chain_some h
   split at h
   case h_2=>simp[Tr.run]at h
   rename_i hle
   simp only[decide_eq_true_eq]at hle
   refine⟨_,.asl n' ver k' (j+n1*q.size) (n2-n1) (len-n1),?_,.inr (by simp only[R]; exact⟨ver,by rw[hq3],hv⟩),h⟩
   simp only[cutA,hq1,e1,e2]
   rw[if_pos ⟨hle,by omega,by omega⟩]
 ·simp[Tr.run]at h
theorem up_closed[Glob](hT:T.Ok){t:Nat}{x:T.den t}{a:AV}(h:T.rp t x a):closedS (T.up t x)=true:=by
 rw[R.closed (hT.up t x a [] h)]
 exact hT.closed _ _ _ h
theorem indexAddrS_ok[Glob](hT:T.Ok)(hQ:Q.Ok)(hh:RH T H hp){t:TypeId}{x ix:SV T.den}{a b:AV}(hx:RV T H x a)(hi:RV T H ix b){sel:Bool}(h:(indexAddrS Q sel H t x ix K).run=some r):
  ∃ v c,indexAddrA Q.P t a b=some c∧RV T H v c∧(K v [] []).run=some r:=by
 unfold indexAddrS at h
 obtain⟨k,n,e1,hn0,h⟩:=asNatS_some h
 have hb:=asNat_R hi e1 hn0
 unfold indexAddrA
 rw[hb]
 simp only
 split at h
 ·rename_i xs
  have ha:=hx.live rfl
  simp only[R]at ha
  obtain⟨l',rfl,hl,hlc⟩:=ha
  split at h
  case h_2=>simp[Tr.run]at h
  rename_i m hm
  obtain⟨q,hq1,hq2,hq3,_⟩:=hQ.elem hm
  obtain⟨_,_,h⟩:=chain_some h
  split at h
  case h_2=>simp[Tr.run]at h
  rename_i e he
  split at h
  case h_2=>simp[Tr.run]at h
  rename_i hok
  obtain⟨e',he',hr⟩:=All2.get (RL_iff.1 hl) he
  refine⟨_,.eref e' 0,?_,.inr (by simp only[R]; exact⟨e',rfl,hr,closed_mem hlc (List.mem_of_getElem? he)⟩),h⟩
  simp only[hq1,he']
  rw[if_pos (by rw[hq2,hq3,←R.okElem hr]; exact hok)]
 ·rename_i t' l
  have ha:=hx.live rfl
  split at h
  case h_2=>simp[Tr.run]at h
  rename_i m hm
  obtain⟨q,hq1,hq2,hq3,_⟩:=hQ.elem hm
  split at h
  case h_2=>simp[Tr.run]at h
  rename_i hc
  simp only[Bool.and_eq_true,decide_eq_true_eq]at hc
  obtain⟨y,hy,h⟩:=bind_some h
  simp only[R]at ha
  rcases ha with ⟨l',rfl,hl⟩|⟨rfl,_⟩
  ·obtain⟨e',he',hr⟩:=All2.get hl hy
   refine⟨_,.eref e' 0,?_,.inr (by simp only[R]; exact⟨e',rfl,hT.up _ _ _ H hr,up_closed hT hr⟩),h⟩
   simp only[hq1,he']
   rw[if_pos (by rw[hq2,hq3,hc.1,hc.2]; exact hT.ok _ _ _ hr)]
  ·simp at hy
 ·rename_i esz n' c rg cap _
  have ha:=hx.live rfl
  split at h
  case h_2=>simp[Tr.run]at h
  rename_i m hm
  obtain⟨q,hq1,hq2,hq3,_⟩:=hQ.elem hm
  split at h
  ·rename_i off len g cl f cu es hc hr ho
   simp only[Bool.and_eq_true,decide_eq_true_eq]at hc
   obtain⟨ver,rfl,hv,_⟩:=range_R hh ha hr ho
   obtain⟨_,hlt,h⟩:=chain_some h
   refine⟨_,.ref n' ver (off+n.toNat) 0,?_,.inr (by simp only[R]; exact⟨ver,rfl,hv⟩),h⟩
   simp only[hq1]
   rw[if_pos ⟨by omega,by rw[hq3]; exact hc.1,by rw[hq3]; exact hc.2⟩]
  ·rename_i off len g f cu t' l hc hr ho
   simp only[Bool.and_eq_true,decide_eq_true_eq]at hc
   obtain⟨ver,rfl,hv,_⟩:=range_R hh ha hr ho
   obtain⟨hlt,h⟩:=guard_some h
   simp only[decide_eq_true_eq]at hlt
   refine⟨_,.ref n' ver (off+n.toNat) 0,?_,.inr (by simp only[R]; exact⟨ver,rfl,hv⟩),h⟩
   simp only[hq1]
   rw[if_pos ⟨hlt,by rw[hq3]; exact hc.1,by rw[hq3]; exact hc.2⟩]
  ·simp[Tr.run]at h
 ·rename_i n' c k' j len cap _
  have ha:=hx.live rfl
  simp only[R]at ha
  obtain⟨ver,rfl,hv⟩:=ha
  split at h
  case h_2=>simp[Tr.run]at h
  rename_i m hm
  obtain⟨q,hq1,hq2,hq3,_⟩:=hQ.elem hm
  obtain⟨_,hlt,h⟩:=chain_some h
  refine⟨_,.ref n' ver k' (j+n.toNat*q.size),?_,.inr (by simp only[R]; exact⟨ver,by rw[hq3],hv⟩),h⟩
  simp only[hq1]
  rw[if_pos (by omega)]
 ·rename_i n' c k' j _
  have ha:=hx.live rfl
  simp only[R]at ha
  obtain⟨ver,rfl,hv⟩:=ha
  split at h
  case h_2=>simp[Tr.run]at h
  rename_i len m hm
  obtain⟨q,hq1,hq2,hq3⟩:=hQ.arrT hm
  split at h
  ·obtain⟨hlt,h⟩:=guard_some h
   simp only[decide_eq_true_eq]at hlt
   refine⟨_,.ref n' ver k' (j+n.toNat*q.size),?_,.inr (by simp only[R]; exact⟨.ref n' ver k' j,⟨ver,rfl,hv⟩,hlt,.inl ⟨_,_,_,_,rfl,by rw[hq3]⟩⟩),h⟩
   simp only[hq1]
   rw[if_pos (by omega)]
  obtain⟨_,hlt,h⟩:=chain_some h
  refine⟨_,.ref n' ver k' (j+n.toNat*q.size),?_,.inr (by simp only[R]; exact⟨ver,by rw[hq3],hv⟩),h⟩
  simp only[hq1]
  rw[if_pos (by omega)]
 ·rename_i e j _
  have ha:=hx.live rfl
  simp only[R]at ha
  obtain⟨e',rfl,hr,hec⟩:=ha
  split at h
  case h_2=>simp[Tr.run]at h
  rename_i len m hm
  obtain⟨q,hq1,hq2,hq3⟩:=hQ.arrT hm
  split at h
  ·obtain⟨hlt,h⟩:=guard_some h
   simp only[decide_eq_true_eq]at hlt
   refine⟨_,.eref e' (j+n.toNat*q.size),?_,.inr (by simp only[R]; exact⟨.eref e' j,⟨e',rfl,hr,hec⟩,hlt,.inr ⟨_,_,rfl,by rw[hq3]⟩⟩),h⟩
   simp only[hq1]
   rw[if_pos (by omega)]
  obtain⟨_,hlt,h⟩:=chain_some h
  refine⟨_,.eref e' (j+n.toNat*q.size),?_,.inr (by simp only[R]; exact⟨e',by rw[hq3],hr,hec⟩),h⟩
  simp only[hq1]
  rw[if_pos (by omega)]
 ·simp[Tr.run]at h
theorem indexS_ok[Glob](hQ:Q.Ok){t:TypeId}{x ix:SV T.den}{a b:AV}(hx:RV T H x a)(hi:RV T H ix b){sel:Bool}(h:(indexS Q sel t x ix K).run=some r):
  ∃ v c,indexA Q.P t a b=some c∧RV T H v c∧(K v [] []).run=some r:=by
 unfold indexS at h
 split at h
 ·have ha:=hx.lit rfl
  subst ha
  split at h
  ·rename_i i hi'
   rw[plain_RV hi hi']
   obtain⟨w,hw,hk⟩:=via_some h
   exact⟨_,_,hw,RV_lit w,hk⟩
  ·simp[Tr.run]at h
 ·rename_i l
  have ha:=hx.live rfl
  have ha':=ha
  simp only[R]at ha
  obtain⟨l',rfl,hl⟩:=ha
  split at h
  case h_2=>simp[Tr.run]at h
  rename_i n m hm
  obtain⟨q,hq1,hq2,hq3⟩:=hQ.arrT hm
  obtain⟨k,n',e1,hn0,h⟩:=asNatS_some h
  have hb:=asNat_R hi e1 hn0
  split at h
  ·rename_i y hs hsel
   simp only[Bool.and_eq_true,Bool.not_eq_true']at hs
   obtain⟨hlt,h⟩:=guard_some h
   simp only[decide_eq_true_eq]at hlt
   obtain⟨xs,hxs,hsel⟩:=Option.bind_eq_some_iff.1 hsel
   obtain⟨g1,g2⟩:=stepCells_get hxs
   have hg:=List.getElem?_eq_getElem (by omega:n'.toNat<xs.length)
   have hy:=g2 _ _ hg
   rw[←selS_get hsel hg,Nat.zero_add,Nat.mul_one]at hy
   obtain⟨c,hc,hr⟩:=R.part ha' hy
   refine⟨y,c,?_,.inr hr,h⟩
   simp only[indexA,hq1,hb]
   rw[if_pos (by omega),hq2,hq3,hs.1.2,Nat.eq_of_beq_eq_true hs.2,Nat.mul_one]
   exact hc
  obtain⟨_,hlt,h⟩:=chain_some h
  obtain⟨v,hv,hk⟩:=one_some h
  rw[←hq2,←hq3]at hv
  obtain⟨c,hc,hr⟩:=R.part ha' hv
  refine⟨v,c,?_,.inr hr,hk⟩
  simp only[indexA,hq1,hb]
  rw[if_pos (by omega)]
  exact hc
 ·simp[Tr.run]at h
end
end Go.PI
end
section
/- PS, part I: append, and the builtins. -/
namespace Go.PI
variable {T:Tys}{ρ:Type}
section
variable {H:SHeap T.den}{hp:AHeap}{K:EK T ρ}{r:ρ}{Q:Prg}
def RSrc(T:Tys)(H:SHeap T.den)(y:Src T.den)(ys:List AV)(yc:Bool):Prop:=
 match y with
 |.conc l cl=>RL T H l ys∧yc=cl∧(cl=true→closedLS l=true)
 |.typ t l=>All2 (T.rp t) l ys∧yc=true
theorem RSrc.len[Glob]{y:Src T.den}{ys:List AV}{yc:Bool}(h:RSrc T H y ys yc):y.len=ys.length:=by
 cases y with
 |conc l cl=>exact h.1.length
 |typ t l=>exact h.1.length
theorem srcS_ok[Glob](hQ:Q.Ok)(hh:RH T H hp){q:TyRow}{xt:TypeId}{x:SV T.den}{a:AV}(hx:RV T H x a){K:Src T.den→List Nat→Tr ρ}(h:(srcS Q H xt x K).run=some r):
  ∃ y rd ys yc,Yld hp (srcA Q.P q xt a) (ys,yc) rd∧RSrc T H y ys yc∧(K y rd).run=some r:=by
 unfold srcS at h
 split at h
 case h_2=>simp[Tr.run]at h
 rename_i hs
 have hs:=hQ.isSl hs
 unfold srcA
 rw[hs]
 simp only
 split at h
 ·have ha:=hx.lit rfl
  subst ha
  exact⟨.conc [] true,_,[],true,Yld.pure _,⟨by simp[RL],rfl,fun _=>rfl⟩,h⟩
 ·have ha:=hx.live rfl
  simp only[R]at ha
  obtain⟨l',rfl,hl,hlc⟩:=ha
  exact⟨.conc _ true,_,l',true,Yld.pure _,⟨hl,rfl,fun _=>hlc⟩,h⟩
 ·have ha:=hx.live rfl
  simp only[R]at ha
  rcases ha with ⟨l',rfl,hl⟩|⟨rfl,rfl⟩
  ·exact⟨.typ _ _,_,l',true,Yld.pure _,⟨hl,rfl⟩,h⟩
  ·exact⟨.typ _ _,_,[],true,Yld.pure _,⟨(show All2 (T.rp _) [] [] from trivial),rfl⟩,h⟩
 ·rename_i esz n c rg cap
  have ha:=hx.live rfl
  simp only[R]at ha
  obtain⟨ver,hv,ha⟩:=ha
  split at h
  ·rename_i g cl f cur es ho
   obtain⟨o,ho',hro⟩:=hh.obj ho
   obtain⟨es',rfl,hes,hcl0⟩:=hro
   split at h
   case h_2=>simp[Tr.run]at h
   rename_i hc
   have hver:=hv.arr hh ho hc
   simp only[SObj.len]at hver
   have hl:=hes.length
   split at h
   ·simp only at ha
    subst ha
    refine⟨.conc es cl,_,es',cl,?_,⟨hes,rfl,hcl0⟩,h⟩
    simp only[elemsA]
    refine Yld.mono (Yld.bind (Yld.arr ho' (by omega)) ?_) (rd:=[n]++[]) (fun _ h=>by simpa using h)
    simp only
    rw[if_pos (by omega)]
    simp only[List.drop_zero]
    rw[List.take_of_length_le (by omega)]
    exact Yld.pure _
   ·rename_i off len
    simp only at ha
    subst ha
    split at h
    case isFalse=>simp[Tr.run]at h
    rename_i hle
    refine⟨.conc _ cl,_,(es'.drop off).take len,cl,?_,⟨RL_iff.2 (((RL_iff.1 hes).drop off).take len),rfl,fun hcc=>closed_part (hcl0 hcc) _ _⟩,h⟩
    simp only[elemsA]
    refine Yld.mono (Yld.bind (Yld.arr ho' (by omega)) ?_) (rd:=[n]++[]) (fun _ h=>by simpa using h)
    simp only
    rw[if_pos (by omega)]
    exact Yld.pure _
  ·rename_i g f cur t l ho
   obtain⟨o,ho',hro⟩:=hh.obj ho
   obtain⟨es',rfl,hes⟩:=hro
   split at h
   case h_2=>simp[Tr.run]at h
   rename_i hc
   have hver:=hv.arr hh ho hc
   simp only[SObj.len]at hver
   have hl:=hes.length
   split at h
   ·simp only at ha
    subst ha
    refine⟨.typ t l,_,es',true,?_,⟨hes,rfl⟩,h⟩
    simp only[elemsA]
    refine Yld.mono (Yld.bind (Yld.arr ho' (by omega)) ?_) (rd:=[n]++[]) (fun _ h=>by simpa using h)
    simp only
    rw[if_pos (by omega)]
    simp only[List.drop_zero]
    rw[List.take_of_length_le (by omega)]
    exact Yld.pure _
   ·rename_i off len
    simp only at ha
    subst ha
    obtain⟨hle,h⟩:=guard_some h
    simp only[decide_eq_true_eq]at hle
    refine⟨.typ t _,_,(es'.drop off).take len,true,?_,⟨(hes.drop off).take len,rfl⟩,h⟩
    simp only[elemsA]
    refine Yld.mono (Yld.bind (Yld.arr ho' (by omega)) ?_) (rd:=[n]++[]) (fun _ h=>by simpa using h)
    simp only
    rw[if_pos (by omega)]
    exact Yld.pure _
  ·simp[Tr.run]at h
 ·simp[Tr.run]at h
theorem RSrc.okAll[Glob](hT:T.Ok){y:Src T.den}{ys:List AV}{yc:Bool}(h:RSrc T H y ys yc){m:MTy}{q:TyRow}(h1:q.isAgg=m.agg)(h2:q.size=m.size)(hok:y.ok T m=true):ys.all (okElem q.isAgg q.size)=true:=by
 cases y with
 |conc l cl=>
  rw[h1,h2,←RL.all (fun _ _=>R.okElem) h.1]
  exact hok
 |typ t l=>
  simp only[Src.ok,Bool.and_eq_true,decide_eq_true_eq]at hok
  exact rp_all hT (by rw[h1,hok.1]) (by rw[h2,hok.2]) h.1
theorem ifEmpty_some[Glob]{y:Src T.den}{ys:List AV}{yc:Bool}(hy:RSrc T H y ys yc){a b:Tr ρ}(h:(ifEmpty T y a b).run=some r):(ys.isEmpty=true∧a.run=some r)∨(ys.isEmpty=false∧b.run=some r):=by
 have hl:=hy.len
 unfold ifEmpty at h
 split at h
 ·grind[Src.len]
 ·rename_i t l
  rcases cond_some h with ⟨he,h⟩|⟨he,h⟩
  ·grind[Src.len]
  ·grind[Src.len]
theorem dnAll_ok(hT:T.Ok){t:Nat}:∀ {l:List (SV T.den)} {m:List AV} {xs:List (T.den t)},RL T H l m→dnAll T t l=some xs→All2 (T.rp t) xs m
 |[],[],xs,_,h=>by simp[dnAll]at h; subst h; trivial
 |v::vs,a::as,xs,hr,h=>by
  simp only[RL]at hr
  simp only[dnAll,Option.bind_eq_some_iff,Option.map_eq_some_iff]at h
  obtain⟨x,h1,ys,h2,rfl⟩:=h
  exact⟨hT.dn _ _ _ _ H h1 hr.1,dnAll_ok hT hr.2 h2⟩
 |[],_::_,_,h,_=>by simp[RL]at h
 |_::_,[],_,h,_=>by simp[RL]at h
theorem castL_all2{t t':Nat}(h:t=t'){l:List (T.den t)}{m:List AV}(hl:All2 (T.rp t) l m):All2 (T.rp t') (castL h l) m:=by subst h; exact hl
theorem castL_len{den:Nat→Type}{t t':Nat}(h:t=t')(l:List (den t)):(castL h l).length=l.length:=by subst h; rfl
theorem addSrc_ok[Glob](hT:T.Ok){cur:Nat}{o o':SObj T.den}{y:Src T.den}{g c f:Bool}{es ys:List AV}{yc:Bool}(ho:RO T H o (.arr g c f es))(hy:RSrc T H y ys yc)(h:addSrc T cur o y=some o'):
  o'.cur=cur∧o'.len=o.len+y.len∧RO T H o' (.arr true (c&&yc) f (es++ys)):=by
 unfold addSrc at h
 split at h
 ·rename_i cl f' cu es0 ys0 ycl
  simp only[Option.some.injEq]at h
  subst h
  obtain⟨es',e,hes,hcl0⟩:=ho
  simp only[AObj.arr.injEq]at e
  obtain⟨rfl,rfl,rfl,rfl⟩:=e
  obtain⟨hy1,rfl,hyc⟩:=hy
  exact⟨rfl,by simp[SObj.len,Src.len],_,rfl,RL_iff.2 ((RL_iff.1 hes).append (RL_iff.1 hy1)),fun hcc=>by simp only[Bool.and_eq_true]at hcc; exact closed_app (hcl0 hcc.1) (hyc hcc.2)⟩
 ·rename_i f' cu es0 t l
  rw[Option.map_eq_some_iff]at h
  obtain⟨l0,h1,rfl⟩:=h
  obtain⟨es',e,hes,_⟩:=ho
  simp only[AObj.arr.injEq]at e
  obtain⟨rfl,rfl,rfl,rfl⟩:=e
  obtain⟨hy1,rfl⟩:=hy
  have h2:=dnAll_ok hT hes h1
  refine⟨rfl,?_,_,rfl,h2.append hy1⟩
  simp[SObj.len,Src.len,h2.length,hes.length]
 ·rename_i f' cu t l ys0
  rw[Option.map_eq_some_iff]at h
  obtain⟨l0,h1,rfl⟩:=h
  obtain⟨es',e,hes⟩:=ho
  simp only[AObj.arr.injEq]at e
  obtain⟨rfl,rfl,rfl,rfl⟩:=e
  obtain⟨hy1,rfl,_⟩:=hy
  have h2:=dnAll_ok hT hy1 h1
  refine⟨rfl,?_,_,rfl,hes.append h2⟩
  simp[SObj.len,Src.len,h2.length,hy1.length]
 ·rename_i f' cu t l t' l2
  split at h
  case isFalse=>simp at h
  rename_i ht
  simp only[Option.some.injEq]at h
  subst h
  obtain⟨es',e,hes⟩:=ho
  simp only[AObj.arr.injEq]at e
  obtain⟨rfl,rfl,rfl,rfl⟩:=e
  obtain⟨hy1,rfl⟩:=hy
  refine⟨rfl,?_,_,rfl,hes.append (castL_all2 ht hy1)⟩
  simp[SObj.len,Src.len,castL_len]
 ·simp at h
theorem ofSrc_ok{y:Src T.den}{ys:List AV}{yc:Bool}(hy:RSrc T H y ys yc):(ofSrc y).cur=0∧(ofSrc y).len=y.len∧RO T H (ofSrc y) (.arr true yc false ys):=by
 cases y with
 |conc l cl=>obtain⟨h1,rfl,h2⟩:=hy; exact⟨rfl,rfl,_,rfl,h1,h2⟩
 |typ t l=>obtain⟨h1,rfl⟩:=hy; exact⟨rfl,rfl,_,rfl,h1⟩
theorem okAll_ok[Glob](hT:T.Ok){o:SObj T.den}{g c f:Bool}{es:List AV}(ho:RO T H o (.arr g c f es)){m:MTy}{q:TyRow}(h1:q.isAgg=m.agg)(h2:q.size=m.size)(hok:o.okAll T m=true):es.all (okElem q.isAgg q.size)=true:=by
 cases o with
 |arr g' cl f' cu es0=>
  obtain⟨es',e,hes,_⟩:=ho
  simp only[AObj.arr.injEq]at e
  obtain⟨rfl,rfl,rfl,rfl⟩:=e
  rw[h1,h2,←RL.all (fun _ _=>R.okElem) hes]
  exact hok
 |tarr g' f' cu t l=>
  obtain⟨es',e,hes⟩:=ho
  simp only[AObj.arr.injEq]at e
  obtain⟨rfl,rfl,rfl,rfl⟩:=e
  simp only[SObj.okAll,Bool.and_eq_true,decide_eq_true_eq]at hok
  exact rp_all hT (by rw[h1,hok.1]) (by rw[h2,hok.2]) hes
 |_=>simp[SObj.okAll]at hok
theorem addSrc_arr{cur:Nat}{o o':SObj T.den}{y:Src T.den}(h:addSrc T cur o y=some o'):o.isArr=true:=by
 cases o<;>first|rfl|(cases y<;>simp[addSrc]at h)
theorem isArr_rec{o:SObj T.den}(h:o.isArr=true):o.isRec=false:=by cases o<;>first|rfl|simp[SObj.isArr]at h
theorem putElems_eq:∀ (ys es:List AV) (i:Nat),i+ys.length≤es.length→putElems es i ys=es.take i++(ys++es.drop (i+ys.length))
 |[],es,i,_=>by simp[putElems]
 |y::ys,es,i,h=>by
  simp only[List.length_cons]at h
  simp only[putElems]
  rw[putElems_eq ys (es.set i y) (i+1) (by simp; omega)]
  have e1:(es.set i y).take (i+1)=es.take i++[y]:=by
   rw[List.take_succ_eq_append_getElem (by simp; omega),List.take_set_of_le (Nat.le_refl i)]
   simp
  have e2:(es.set i y).drop (i+1+ys.length)=es.drop (i+(ys.length+1)):=by
   rw[List.drop_set_of_lt (by omega)]
   congr 1; omega
  rw[e1,e2]
  simp
theorem putL_all2{α β:Type}{P:α→β→Prop}{l l2:List α}{m m2:List β}(h:All2 P l m)(h2:All2 P l2 m2)(i:Nat):All2 P (putL l i l2) (m.take i++(m2++m.drop (i+m2.length))):=by
 unfold putL
 rw[h2.length]
 exact(h.take i).append (h2.append (h.drop _))
theorem putSrc_ok[Glob](hT:T.Ok){i:Nat}{o o':SObj T.den}{y:Src T.den}{ao:AObj}{ys:List AV}{yc:Bool}(ho:RO T H o ao)(hy:RSrc T H y ys yc)(hi:i+y.len≤o.len)(h:putSrc T o i y=some o'):
  o.isArr=true∧o'.cur=o.cur∧o'.len=o.len∧∃ es,ao=.arr o.flags.1 o.flags.2.1 o.flags.2.2 es∧RO T H o' (.arr o.flags.1 (o.flags.2.1&&yc) o.flags.2.2 (putElems es i ys)):=by
 have hlen:=hy.len
 unfold putSrc at h
 split at h
 ·rename_i g f cu t l t' l2
  split at h
  case isFalse=>simp at h
  rename_i ht
  simp only[Option.some.injEq]at h
  subst h
  obtain⟨es',rfl,hes⟩:=ho
  obtain⟨hy1,rfl⟩:=hy
  have hl:=hes.length
  simp only[SObj.len,Src.len]at hi hlen
  refine⟨rfl,rfl,?_,es',rfl,_,rfl,?_⟩
  ·simp[SObj.len,putL,castL_len]; omega
  ·rw[putElems_eq _ _ _ (by omega)]
   exact putL_all2 hes (castL_all2 ht hy1) i
 ·rename_i g f cu t l ys0
  rw[Option.map_eq_some_iff]at h
  obtain⟨l0,h1,rfl⟩:=h
  obtain⟨es',rfl,hes⟩:=ho
  obtain⟨hy1,rfl,_⟩:=hy
  have h2:=dnAll_ok hT hy1 h1
  have hl:=hes.length
  have hl2:=h2.length
  simp only[SObj.len,Src.len]at hi hlen
  refine⟨rfl,rfl,?_,es',rfl,_,rfl,?_⟩
  ·simp[SObj.len,putL]; omega
  ·rw[putElems_eq _ _ _ (by omega)]
   exact putL_all2 hes h2 i
 ·simp at h
def appendRest(q:TyRow)(nm:Nat)(a:AV)(ys:List AV)(yc:Bool):RM Eff:=
   (match (elemZero q).isSome&&decide (0<q.size)&&ys.all (okElem q.isAgg q.size) with
     |false=>RM.fail
     |true=>match ys.isEmpty with
      |true=>(match a with
       |.slx xs _=>pure ⟨.sl xs,[]⟩
       |.lit (.slice none 0 0)|.sl _|.osl _ _ _ _ _ _|.nz=>pure ⟨a,[]⟩
       |_=>.fail)
      |false=>match a with
       |.lit (.slice none 0 0)|.nz=>
        if ys.length*q.bytes≤2^44∧ys.length≤2^44 then
         pure ⟨.osl q.size nm ys.length 0 ys.length none,[(nm,.arr true yc false ys)]⟩ else .fail
       |.slx xs c=>
        if c<xs.length+ys.length∧(xs.length+ys.length)*q.bytes≤2^44∧xs.length+ys.length≤2^44∧xs.all (okElem q.isAgg q.size)=true then
         pure ⟨.osl q.size nm (xs.length+ys.length) 0 (xs.length+ys.length) none,[(nm,.arr true yc false (xs++ys))]⟩ else .fail
       |.osl esz n ver off len cap=>do
        let (g,c,f,es) ←RM.arr n ver
        if f=true∨es.length<off+len∨esz≠q.size then RM.fail else
        if len+ys.length≤cap.getD (ver-off) then
         if off+len+ys.length≤es.length then
          pure ⟨.osl esz n ver off (len+ys.length) cap,[(n,.arr g (c&&yc) f (putElems es (off+len) ys))]⟩
         else RM.fail
        else if (len+ys.length)*q.bytes≤2^44∧len+ys.length≤2^44 then
         (match cap with
         |none=>if g=true∧off=0∧len=ver then
           pure ⟨.osl esz n (len+ys.length) 0 (len+ys.length) none,[(n,.arr true (c&&yc) f (es++ys))]⟩
          else RM.fail
         |some _=>if es.all (okElem q.isAgg q.size)=true then
           pure ⟨.osl esz nm (len+ys.length) 0 (len+ys.length) none,[(nm,.arr true (c&&yc) false ((es.drop off).take len++ys))]⟩
          else RM.fail)
        else RM.fail
       |_=>.fail)
theorem appendA_eq{P:Program}{t xt:TypeId}{q:TyRow}(h:sliceElem P t=some q)(nm:Nat)(a b:AV):
  appendA P nm t xt a b=(srcA P q xt b >>= fun p=>appendRest q nm a p.1 p.2):=by
 unfold appendA
 rw[h]
 rfl
theorem putSrc_yc{i:Nat}{o o':SObj T.den}{y:Src T.den}{ys:List AV}{yc:Bool}(hy:RSrc T H y ys yc)(h:putSrc T o i y=some o'):yc=true:=by
 cases y with
 |conc l cl=>cases cl with
  |true=>exact hy.2.1
  |false=>unfold putSrc at h; cases o<;>simp at h
 |typ t l=>exact hy.2
theorem gives_same[Glob](hh:RH T H hp){n:Nat}{o o':SObj T.den}{ao:AObj}(ho:H[n]?=some (some o))(hc:o.cur≤o'.cur)(hl:o'.cur=o.cur→o'.len=o.len)(ho':hp[n]?=some (some ao))(hro:RO T H o' ao)
  {v:SV T.den} {a:AV} (hv:RV T (H.set n (some o')) v a) {m:RM Eff} {rd:List Nat} (hy:Yld hp m ⟨a,[]⟩ rd) (h:(K v [(n,o')] rd).run=some r) (hj:o.isArr=true):Gives T H hp m K r:=by
 obtain⟨hgr,hrh⟩:=hh.upd ho (o':=o') hc hl hro
 rw[set_same ho']at hrh
 have hlt:=(List.getElem?_eq_some_iff.1 ho).1
 have e1:applyWrS H [(n,o')]=H.set n (some o'):=by simp[applyWrS,setObjS]; omega
 refine⟨_,_,_,⟨a,[]⟩,hy,⟨by rw[e1]; exact hv,by rw[e1]; exact hrh,by rw[e1]; exact hgr,fun q h=>by simp at h,fun k hk hl=>?_,by rw[e1]; simp,fun k hk hk'=>by
  simp at hk'
  subst hk'
  simp only[recAt,ho,isArr_rec hj,Bool.false_eq_true]at hk⟩,h⟩
 rw[e1]; simp at hk; rw[List.getElem?_set_ne (Ne.symm hk)]
theorem appendS_ok[Glob](hT:T.Ok)(hQ:Q.Ok)(hh:RH T H hp){nm:Nat}(hn:nm=H.length∨H[nm]?=some none){t xt:TypeId}{s x:SV T.den}{a b:AV}(hs:RV T H s a)(hx:RV T H x b)
  (h:(appendS Q nm H t xt s x K).run=some r):Gives T H hp (appendA Q.P nm t xt a b) K r:=by
 unfold appendS at h
 split at h
 ·simp[Tr.run]at h
 rename_i m hm
 obtain⟨q,hq1,hq2,hq3,hq4,hq5⟩:=hQ.elem hm
 obtain⟨y,rd,ys,yc,hy1,hy2,h⟩:=srcS_ok hQ hh (q:=q) hx h
 split at h
 ·simp[Tr.run]at h
 rename_i hok
 simp only[Bool.and_eq_true,decide_eq_true_eq]at hok
 have hz:(elemZero q).isSome=true:=by
  cases hzz:m.zero with
  |none=>rw[hzz]at hok; simp at hok
  |some z=>rw[hq5 z hzz]; rfl
 have hall:=hy2.okAll hT hq2 hq3 hok.2
 have hcond:((elemZero q).isSome&&decide (0<q.size)&&ys.all (okElem q.isAgg q.size))=true:=by
  rw[hz,hall,hq3]; simpa using hok.1.2
 have hylen:=hy2.len
 have abs:∀ {rest:RM Eff} {e:Eff} {rd2:List Nat},(∀ n,n∈rd→n∈rd2)→Yld hp rest e rd2 →
   appendRest q nm a ys yc=rest→Yld hp (appendA Q.P nm t xt a b) e rd2:=by
  intro rest e rd2 h1 h2 h3
  rw[appendA_eq hq1]
  refine⟨?_,fun n hn=>?_⟩
  ·rw[RM.run_bind,hy1.1]
   simp only[Option.bind_some]
   rw[h3]
   exact h2.1
  ·rw[RM.log_bind,hy1.1]at hn
   simp only[List.mem_append]at hn
   rw[h3]at hn
   exact hn.elim (fun h=>h1 n (hy1.2 n h)) (h2.2 n)
 unfold appendRest at abs
 rw[hcond]at abs
 split at h
 ·-- nil
  have ha:=hs.lit rfl
  subst ha
  rcases ifEmpty_some hy2 h with ⟨he,h⟩|⟨he,h⟩
  ·rw[he]at abs
   exact gives_pure hh (RV_lit nilSl) (abs (fun _ h=>h) (Yld.mono (Yld.pure _) (fun _ h=>by simp at h)) rfl) h
  ·rw[he]at abs
   obtain⟨hg,h⟩:=guard_some h
   simp only[fitsS,Bool.and_eq_true,decide_eq_true_eq]at hg
   obtain⟨o1,o2,o3⟩:=ofSrc_ok hy2
   refine gives_new hh hn o3 (v:=.osl m.size nm 0 none none) (a:=.osl q.size nm ys.length 0 ys.length none) ?_ (abs (fun _ h=>h) (Yld.mono (Yld.pure _) (fun _ h=>by simp at h)) ?_) h
   ·right
    simp only[R]
    have hv:=verOk_new hh hn (o:=ofSrc y)
    rw[o1,o2,hylen]at hv
    exact⟨_,hv,by rw[hq3]⟩
   ·simp only
    rw[if_pos ⟨by rw[←hylen,hq4]; exact hg.1,by rw[←hylen]; exact hg.2⟩]
 ·-- empty,without room
  have ha:=hs.live rfl
  simp only[R]at ha
  rcases ifEmpty_some hy2 h with ⟨he,h⟩|⟨he,h⟩
  ·rw[he]at abs
   subst ha
   exact gives_pure hh hs (abs (fun _ h=>h) (Yld.mono (Yld.pure _) (fun _ h=>by simp at h)) rfl) h
  ·rw[he]at abs
   obtain⟨hg,h⟩:=guard_some h
   simp only[fitsS,Bool.and_eq_true,decide_eq_true_eq]at hg
   obtain⟨o1,o2,o3⟩:=ofSrc_ok hy2
   have key:∀ rest:RM Eff,rest=(if ys.length*q.bytes≤2^44∧ys.length≤2^44 then
        pure ⟨.osl q.size nm ys.length 0 ys.length none,[(nm,.arr true yc false ys)]⟩ else .fail)→rest=pure ⟨.osl q.size nm ys.length 0 ys.length none,[(nm,.arr true yc false ys)]⟩:=by
    intro rest hr
    rw[hr,if_pos ⟨by rw[←hylen,hq4]; exact hg.1,by rw[←hylen]; exact hg.2⟩]
   refine gives_new hh hn o3 (v:=.osl m.size nm 0 none none) (a:=.osl q.size nm ys.length 0 ys.length none) ?_ (abs (fun _ h=>h) (Yld.mono (Yld.pure _) (fun _ h=>by simp at h)) ?_) h
   ·right
    simp only[R]
    have hv:=verOk_new hh hn (o:=ofSrc y)
    rw[o1,o2,hylen]at hv
    exact⟨_,hv,by rw[hq3]⟩
   ·subst ha
    exact key _ rfl
 ·-- a slice by value
  have ha:=hs.live rfl
  rcases ifEmpty_some hy2 h with ⟨he,h⟩|⟨_,h⟩
  ·rw[he]at abs
   simp only[R]at ha
   obtain⟨l',rfl,hl⟩:=ha
   exact gives_pure hh hs (abs (fun _ h=>h) (Yld.mono (Yld.pure _) (fun _ h=>by simp at h)) rfl) h
  ·simp[Tr.run]at h
 ·have ha:=hs.live rfl
  rcases ifEmpty_some hy2 h with ⟨he,h⟩|⟨_,h⟩
  ·rw[he]at abs
   have ha':=ha
   simp only[R]at ha
   rcases ha with ⟨l',rfl,hl⟩|⟨_,rfl⟩
   ·exact gives_pure hh hs (abs (fun _ h=>h) (Yld.mono (Yld.pure _) (fun _ h=>by simp at h)) rfl) h
   ·exact gives_pure hh hs (abs (fun _ h=>h) (Yld.mono (Yld.pure _) (fun _ h=>by simp at h)) rfl) h
  ·simp[Tr.run]at h
 ·-- a slice by value,of known room
  rename_i t' l c b _
  have ha:=hs.live rfl
  have ha':=ha
  simp only[R]at ha
  rcases ifEmpty_some hy2 h with ⟨he,h⟩|⟨he,h⟩
  ·rw[he]at abs
   rcases ha with ⟨_,l',rfl,hl⟩|⟨_,hl0,rfl|rfl⟩
   ·exact gives_pure hh (v:=.tsl t' l) (a:=.sl l') (.inr (by simp only[R]; exact .inl ⟨l',rfl,hl⟩)) (abs (fun _ h=>h) (Yld.mono (Yld.pure _) (fun _ h=>by simp at h)) rfl) h
   ·exact gives_pure hh (v:=.tsl t' l) (a:=.sl []) (.inr (by simp only[R]; exact .inl ⟨[],rfl,by rw[hl0]; trivial⟩)) (abs (fun _ h=>h) (Yld.mono (Yld.pure _) (fun _ h=>by simp at h)) rfl) h
   ·exact gives_pure hh (v:=.tsl t' l) (a:=.lit nilSl) (.inr (by simp only[R]; exact .inr ⟨hl0,trivial⟩)) (abs (fun _ h=>h) (Yld.mono (Yld.pure _) (fun _ h=>by simp at h)) rfl) h
  ·rw[he]at abs
   obtain⟨hg,h⟩:=guard_some h
   simp only[fitsS,Bool.and_eq_true,decide_eq_true_eq]at hg
   obtain⟨⟨hb,hc⟩,hf1,hf2⟩:=hg
   split at h
   case h_2=>simp[Tr.run]at h
   rename_i o' hT1 hadd
   simp only[Bool.and_eq_true,decide_eq_true_eq]at hT1
   rcases ha with ⟨_,l',rfl,hl⟩|⟨hb',_⟩
   ·have hlen:=hl.length
    have hro:RO T H (.tarr true false 0 t' l) (.arr true true false l'):=⟨l',rfl,hl⟩
    obtain⟨a1,a2,a3⟩:=addSrc_ok hT hro hy2 hadd
    have hyc:yc=true:=by
     cases y with
     |conc ys0 cl=>
      obtain⟨_,hcl,_⟩:=hy2
      cases yc with
      |true=>rfl
      |false=>rw[show cl=false from by simpa using hcl.symm]at hadd; simp[addSrc]at hadd
     |typ _ _=>exact hy2.2
    subst hyc
    have hall:=rp_all hT (agg:=q.isAgg) (size:=q.size) (by rw[hq2]; exact hT1.1) (by rw[hq3]; exact hT1.2) hl
    refine gives_new hh hn a3 (v:=.osl m.size nm 0 none none) (a:=.osl q.size nm (l'.length+ys.length) 0 (l'.length+ys.length) none) ?_ (abs (fun _ h=>h) (Yld.mono (Yld.pure _) (fun _ h=>by simp at h)) ?_) h
    ·right
     simp only[R]
     have hv:=verOk_new hh hn (o:=o')
     rw[a1,a2,hylen]at hv
     simp only[SObj.len,hlen]at hv
     exact⟨_,hv,by rw[hq3]⟩
    ·simp only
     rw[if_pos ⟨by rw[←hlen,←hylen]; exact hc,by rw[←hlen,←hylen,hq4]; exact hf1,by rw[←hlen,←hylen]; exact hf2,hall⟩]
     rfl
   ·rw[hb]at hb'; simp at hb'
 ·rename_i esz n c rg cap _
  have ha:=hs.live rfl
  split at h
  case h_2=>simp[Tr.run]at h
  rename_i o ho
  obtain⟨ao,ho',hro⟩:=hh.obj ho
  split at h
  case h_2=>simp[Tr.run]at h
  rename_i hc
  simp only[Bool.and_eq_true,Bool.not_eq_true',decide_eq_true_eq]at hc
  simp only[R]at ha
  obtain⟨ver,hv,ha⟩:=ha
  have hver:=hv.arr hh ho hc.1.1
  split at h
  ·-- the whole of a growing array
   simp only at ha
   subst ha
   split at h
   ·rename_i cl0
    have:ys=[]:=by
     have:=hylen
     cases ys with
     |nil=>rfl
     |cons=>simp[Src.len]at this
    subst this
    simp only[List.isEmpty_nil]at abs
    exact gives_pure hh hs (abs (fun _ h=>h) (Yld.mono (Yld.pure _) (fun _ h=>by simp at h)) rfl) h
   ·rename_i hne
    split at h
    case h_2=>simp[Tr.run]at h
    rename_i o' hg1 hadd
    obtain⟨hg,h⟩:=guard_some h
    simp only[fitsS,Bool.and_eq_true,decide_eq_true_eq]at hg
    have hj:=addSrc_arr hadd
    obtain⟨es,rfl,hel⟩:=hro.arrOf hj
    obtain⟨a1,a2,a3⟩:=addSrc_ok hT hro hy2 hadd
    rw[hg1]at ho'
    cases he:ys.isEmpty with
    |true=>
     rw[he]at abs
     have hye:ys=[]:=by simpa using he
     subst hye
     have hyc:yc=true:=by
      cases y with
      |conc l cl=>
       exfalso
       have:=hylen
       simp only[Src.len,List.length_nil]at this
       have hl0:l=[]:=by simpa using this
       subst hl0
       exact hne _ rfl
      |typ t l=>exact hy2.2
     subst hyc
     simp only[Bool.and_true,List.append_nil]at a3
     obtain⟨hgr,hrh⟩:=hh.upd ho (o':=o') (by omega) (fun e=>by omega) a3
     rw[set_same ho']at hrh
     have hlt:=(List.getElem?_eq_some_iff.1 ho).1
     have e1:applyWrS H [(n,o')]=H.set n (some o'):=by simp[applyWrS,setObjS]; omega
     refine⟨_,_,_,⟨.osl esz n ver 0 ver none,[]⟩,abs (fun _ h=>List.mem_cons_of_mem _ h) (Yld.mono (Yld.pure _) (fun _ h=>by simp at h)) rfl,⟨?_,by rw[e1]; exact hrh,by rw[e1]; exact hgr,fun q h=>by simp at h,fun k hk hl=>?_,by rw[e1]; simp,fun k hk hk'=>by
      simp at hk'
      subst hk'
      simp only[recAt,ho,isArr_rec hj,Bool.false_eq_true]at hk⟩,h⟩
     ·rw[e1]
      right
      simp only[R]
      refine⟨ver,⟨o',by rw[List.getElem?_set_self hlt],by omega,fun _=>?_⟩,rfl⟩
      rw[a2,hver,hylen]; rfl
     ·rw[e1]; simp at hk; rw[List.getElem?_set_ne (Ne.symm hk)]
    |false=>
     rw[he]at abs
     have hys:0<ys.length:=by cases ys with
      |nil=>simp at he
      |cons=>simp
     refine gives_upd hh ho (o':=o') (by omega) (fun e=>by omega) a3 (v:=.osl esz n (o.cur+1) none none) (a:=.osl esz n (ver+ys.length) 0 (ver+ys.length) none) ?_
      (abs (fun _ h=>List.mem_cons_of_mem _ h) (rd2:=n::rd) (Yld.mono (Yld.bind (Yld.arr ho' (by omega)) (rd':=[]) (b:=(⟨.osl esz n (ver+ys.length) 0 (ver+ys.length) none,[(n,.arr true (o.flags.2.1&&yc) o.flags.2.2 (es++ys))]⟩:Eff)) ?_) (fun k hk=>by simp at hk; simp[hk])) rfl) h (isArr_rec hj)
     ·right
      simp only[R]
      have hlt:=(List.getElem?_eq_some_iff.1 ho).1
      refine⟨_,⟨o',by rw[List.getElem?_set_self hlt],by omega,fun _=>?_⟩,rfl⟩
      rw[a2,hver,hylen]
     ·simp only
      rw[if_neg (by rw[hc.1.2]; simp only[Bool.false_eq_true,false_or,not_or]; exact⟨by omega,by rw[hq3]; simp[hc.2]⟩),if_neg (by simp only[Option.getD_none]; omega),
       if_pos ⟨by rw[hver,←hylen,hq4]; exact hg.1,by rw[hver,←hylen]; exact hg.2⟩]
      simp only[and_self,if_true]
      exact Yld.pure _
  ·-- of an array of fixed room
   rename_i k
   simp only at ha
   subst ha
   rcases ifEmpty_some hy2 h with ⟨he,h⟩|⟨he,h⟩
   ·rw[he]at abs
    exact gives_pure hh hs (abs (fun _ h=>h) (Yld.mono (Yld.pure _) (fun _ h=>by simp at h)) rfl) h
   ·rw[he]at abs
    rcases cond_some h with ⟨_,h⟩|⟨hk,h⟩
    ·simp[Tr.run]at h
    simp only[decide_eq_false_iff_not]at hk
    split at h
    case h_2=>simp[Tr.run]at h
    rename_i o' hoa hadd
    obtain⟨hg,h⟩:=guard_some h
    simp only[fitsS,Bool.and_eq_true,decide_eq_true_eq]at hg
    have hj:=addSrc_arr hadd
    obtain⟨es,rfl,hel⟩:=hro.arrOf hj
    obtain⟨a1,a2,a3⟩:=addSrc_ok hT hro hy2 hadd
    rw[hc.1.2]at a3
    refine gives_new hh hn a3 (v:=.osl esz nm 0 none none) (a:=.osl esz nm (ver+ys.length) 0 (ver+ys.length) none) ?_
     (abs (fun _ h=>List.mem_cons_of_mem _ h) (rd2:=n::rd) (Yld.mono (Yld.bind (Yld.arr ho' (by omega)) (rd':=[]) (b:=(⟨.osl esz nm (ver+ys.length) 0 (ver+ys.length) none,[(nm,.arr true (o.flags.2.1&&yc) false (es++ys))]⟩:Eff)) ?_) (fun k hk=>by simp at hk; simp[hk])) rfl) h
    ·right
     simp only[R]
     have hv:=verOk_new hh hn (o:=o')
     rw[a1,a2,hylen,←hver]at hv
     exact⟨_,hv,rfl⟩
    ·simp only
     rw[if_neg (by rw[hc.1.2]; simp only[Bool.false_eq_true,false_or,not_or]; exact⟨by omega,by rw[hq3]; simp[hc.2]⟩),if_neg (by simp only[Option.getD_some]; omega),
      if_pos ⟨by rw[hver,←hylen,hq4]; exact hg.1,by rw[hver,←hylen]; exact hg.2⟩]
     rw[if_pos (okAll_ok hT hro hq2 hq3 hoa)]
     simp only[List.drop_zero]
     rw[List.take_of_length_le (by omega)]
     exact Yld.pure _
  ·-- into the room that there is
   rename_i k off len _
   simp only at ha
   subst ha
   split at h
   case h_2=>simp[Tr.run]at h
   rename_i o' hput
   obtain⟨hg,h⟩:=guard_some h
   simp only[Bool.and_eq_true,decide_eq_true_eq]at hg
   obtain⟨hj,a1,a2,es,e0,a3⟩:=putSrc_ok hT hro hy2 (by omega) hput
   obtain⟨es',e1,hel⟩:=hro.arrOf hj
   rw[e1]at e0
   simp only[AObj.arr.injEq,true_and]at e0
   subst e0
   subst e1
   cases he:ys.isEmpty with
   |true=>
    rw[he]at abs
    have hye:ys=[]:=by simpa using he
    subst hye
    obtain rfl:=putSrc_yc hy2 hput
    simp only[Bool.and_true,putElems]at a3
    refine gives_same hh ho (by omega) (fun _=>a2) ho' a3 (v:=.osl esz n c (some (off,len+y.len)) (some k)) (a:=.osl esz n ver off len (some k)) ?_
     (abs (fun _ h=>List.mem_cons_of_mem _ h) (Yld.mono (Yld.pure _) (fun _ h=>by simp at h)) rfl) h hj
    right
    simp only[R]
    have hlt:=(List.getElem?_eq_some_iff.1 ho).1
    refine⟨ver,⟨o',by rw[List.getElem?_set_self hlt],by rw[a1]; exact Nat.le_of_eq (Nat.eq_of_beq_eq_true hc.1.1),fun _=>by rw[a2,hver]⟩,by rw[hylen]; rfl⟩
   |false=>
    rw[he]at abs
    refine gives_upd hh ho (o':=o') (by omega) (fun _=>a2) a3 (v:=.osl esz n c (some (off,len+y.len)) (some k)) (a:=.osl esz n ver off (len+ys.length) (some k)) ?_
     (abs (fun _ h=>List.mem_cons_of_mem _ h) (rd2:=n::rd) (Yld.mono (Yld.bind (Yld.arr ho' (by omega)) (rd':=[]) (b:=(⟨.osl esz n ver off (len+ys.length) (some k),[(n,.arr o.flags.1 (o.flags.2.1&&yc) o.flags.2.2 (putElems es' (off+len) ys))]⟩:Eff)) ?_) (fun k hk=>by simp at hk; simp[hk])) rfl) h (isArr_rec hj)
    ·right
     simp only[R]
     have hlt:=(List.getElem?_eq_some_iff.1 ho).1
     refine⟨ver,⟨o',by rw[List.getElem?_set_self hlt],by rw[a1]; exact Nat.le_of_eq (Nat.eq_of_beq_eq_true hc.1.1),fun _=>by rw[a2,hver]⟩,by rw[hylen]⟩
    ·simp only
     rw[if_neg (by rw[hc.1.2]; simp only[Bool.false_eq_true,false_or,not_or]; exact⟨by omega,by rw[hq3]; simp[hc.2]⟩),if_pos (by simp only[Option.getD_some]; omega),if_pos (by omega)]
     exact Yld.pure _
  ·simp[Tr.run]at h
 ·simp[Tr.run]at h
def copyRest(q:TyRow)(d:AV)(ys:List AV)(yc:Bool):RM Eff:=
 match decide (0<q.size)&&ys.all (okElem q.isAgg q.size) with
  |false=>RM.fail
  |true=>
   match d with
   |.osl esz n ver off len _=>(match (ys.take len).isEmpty with
    |true=>pure ⟨.lit (.int .i64 0),[]⟩
    |false=>do
     let (g,c,f,es) ←RM.arr n ver
     if esz=q.size∧f=false∧off+len≤es.length∧0<ver then
      pure ⟨.lit (.int .i64 (ys.take len).length),[(n,.arr g (c&&yc) f (putElems es off (ys.take len)))]⟩
     else RM.fail)
   |.lit (.slice none 0 0)=>pure ⟨.lit (.int .i64 0),[]⟩
   |_=>RM.fail
theorem copyA_eq{P:Program}{t:TypeId}{q:TyRow}(h:sliceElem P t=some q)(a b:AV):copyA P t a b=(elemsA b >>= fun p=>copyRest q a p.1 p.2):=by
 unfold copyA
 rw[h]
 rfl
theorem copyS_ok[Glob](hT:T.Ok)(hQ:Q.Ok)(hh:RH T H hp){t:TypeId}{d x:SV T.den}{a b:AV}(hd:RV T H d a)(hx:RV T H x b)
  (h:(copyS Q H t d x K).run=some r):Gives T H hp (copyA Q.P t a b) K r:=by
 unfold copyS at h
 split at h
 case h_2=>simp[Tr.run]at h
 rename_i m hm hs
 have hs:=hQ.isSl hs
 obtain⟨q,hq1,hq2,hq3,hq4,hq5⟩:=hQ.elem hm
 obtain⟨y,rd,ys,yc,hy1,hy2,h⟩:=srcS_ok hQ hh (q:=q) hx h
 have hy1:Yld hp (elemsA b) (ys,yc) rd:=by
  simp_all[srcA]
 split at h
 case h_2=>simp[Tr.run]at h
 rename_i esz n c rg cap hok _
 simp only[Bool.and_eq_true,decide_eq_true_eq]at hok
 split at h
 case h_2=>simp[Tr.run]at h
 rename_i off len o hr ho
 split at h
 case h_2=>simp[Tr.run]at h
 rename_i o' hc hput
 simp only[Bool.and_eq_true,Bool.not_eq_true',decide_eq_true_eq]at hc
 have ha:=hd.live rfl
 obtain⟨ver,rfl,hv,hver⟩:=range_R hh ha hr ho
 have hver:=hver hc.1.1
 obtain⟨ao,ho',hro⟩:=hh.obj ho
 have hylen:=hy2.len
 have hall:=hy2.okAll hT hq2 hq3 hok.1
 have hcond:(decide (0<q.size)&&ys.all (okElem q.isAgg q.size))=true:=by
  rw[hall,hq3]; simpa using hok.2
 have abs:∀ {rest:RM Eff} {e:Eff} {rd2:List Nat},(∀ n,n∈rd→n∈rd2)→Yld hp rest e rd2 →
   copyRest q (.osl esz n ver off len cap) ys yc=rest→Yld hp (copyA Q.P t (.osl esz n ver off len cap) b) e rd2:=by
  intro rest e rd2 h1 h2 h3
  rw[copyA_eq hq1]
  refine⟨?_,fun k hk=>?_⟩
  ·rw[RM.run_bind,hy1.1]
   simp only[Option.bind_some]
   rw[h3]
   exact h2.1
  ·rw[RM.log_bind,hy1.1]at hk
   simp only[List.mem_append]at hk
   rw[h3]at hk
   exact hk.elim (fun h=>h1 k (hy1.2 k h)) (h2.2 k)
 unfold copyRest at abs
 rw[hcond]at abs
 obtain⟨hg,h⟩:=guard_some h
 simp only[Bool.and_eq_true,decide_eq_true_eq]at hg
 cases he:ys.isEmpty with
 |true=>
  have hye:ys=[]:=by simpa using he
  subst hye
  obtain⟨hj,a1,a2,es,e0,a3⟩:=putSrc_ok hT hro hy2 (by omega) hput
  obtain⟨es',e1,hel⟩:=hro.arrOf hj
  rw[e1]at e0
  simp only[AObj.arr.injEq,true_and]at e0
  subst e0
  subst e1
  obtain rfl:=putSrc_yc hy2 hput
  simp only[Bool.and_true,putElems]at a3
  have hy0:y.len=0:=by rw[hylen]; rfl
  rw[hy0]at h
  exact gives_same hh ho (by omega) (fun _=>a2) ho' a3 (RV_lit (.int .i64 0)) (abs (fun _ h=>List.mem_cons_of_mem _ h) (Yld.mono (Yld.pure _) (fun _ h=>by simp at h)) (by simp only[List.take_nil,List.isEmpty_nil])) h hj
 |false=>
  have hys:0<ys.length:=by cases ys with
   |nil=>simp at he
   |cons=>simp
  have htk:ys.take len=ys:=List.take_of_length_le (by omega)
  obtain⟨hj,a1,a2,es,e0,a3⟩:=putSrc_ok hT hro hy2 (by omega) hput
  obtain⟨es',e1,hel⟩:=hro.arrOf hj
  rw[e1]at e0
  simp only[AObj.arr.injEq,true_and]at e0
  subst e0
  subst e1
  have heq:∀ (f t:RM Eff),(match (ys.take len).isEmpty with|true=>t|false=>f)=f:=by
   intro f t
   rw[htk,he]
  refine gives_upd hh ho (o':=o') (by omega) (fun _=>a2) a3 (v:=.lit (.int .i64 y.len)) (a:=.lit (.int .i64 y.len)) (RV_lit _)
   (abs (fun _ h=>List.mem_cons_of_mem _ h) (rd2:=n::rd) (Yld.mono (Yld.bind (Yld.arr ho' (by omega)) (rd':=[]) (b:=(⟨.lit (.int .i64 y.len),[(n,.arr o.flags.1 (o.flags.2.1&&yc) o.flags.2.2 (putElems es' off ys))]⟩:Eff)) ?_) (fun k hk=>by simp at hk; simp[hk])) (heq _ _)) h (isArr_rec hj)
  simp only
  rw[if_pos ⟨by rw[hq3]; exact hc.2,hc.1.2,by omega,by omega⟩,hylen,htk]
  exact Yld.pure _
theorem lenS_ok[Glob](hQ:Q.Ok)(hh:RH T H hp){ts:Array TypeId}{type:TypeId}{x:SV T.den}{a:AV}(hx:RV T H x a)(h:(lenS Q H ts type x K).run=some r){nm:Nat}:
  Gives T H hp (builtinA Q.P nm .len ts type [a]) K r:=by
 unfold lenS at h
 unfold builtinA
 simp only
 split at h
 case h_2=>simp[Tr.run]at h
 rename_i t ht
 rw[ht]
 simp only
 split at h
 ·rename_i hs
  have hs:=hQ.isSl hs
  split at h
  ·have ha:=hx.lit rfl
   subst ha
   refine gives_pure hh (RV_lit (.int .i64 0)) (rd:=[]) ?_ h
   simp only[hs,lenA]
   exact Yld.pure _
  ·have ha:=hx.live rfl
   simp only[R]at ha
   subst ha
   refine gives_pure hh (RV_lit (.int .i64 0)) (rd:=[]) ?_ h
   simp only[hs,lenA]
   exact Yld.pure _
  ·have ha:=hx.live rfl
   simp only[R]at ha
   obtain⟨l',rfl,hl,_⟩:=ha
   refine gives_pure hh (a:=.lit (.int .i64 l'.length)) (by rw[hl.length]; exact RV_lit _) (rd:=[]) ?_ h
   simp only[hs,lenA]
   exact Yld.pure _
  ·rename_i t' l
   have ha:=hx.live rfl
   simp only[R]at ha
   rcases ha with ⟨l',rfl,hl⟩|⟨rfl,rfl⟩
   ·refine gives_pure hh (a:=.lit (.int .i64 l'.length)) (by rw[hl.length]; exact RV_lit _) (rd:=[]) ?_ h
    simp only[hs,lenA]
    exact Yld.pure _
   ·refine gives_pure hh (RV_lit (.int .i64 0)) (rd:=[]) ?_ h
    simp only[hs,lenA]
    exact Yld.pure _
  ·rename_i t' l c b
   have ha:=hx.live rfl
   simp only[R]at ha
   rcases ha with ⟨_,l',rfl,hl⟩|⟨_,rfl,rfl|rfl⟩
   ·refine gives_pure hh (a:=.lit (.int .i64 l'.length)) (by rw[hl.length]; exact RV_lit _) (rd:=[]) ?_ h
    simp only[hs,lenA]
    exact Yld.pure _
   ·refine gives_pure hh (RV_lit (.int .i64 0)) (rd:=[]) ?_ h
    simp only[hs,lenA]
    exact Yld.pure _
   ·refine gives_pure hh (RV_lit (.int .i64 0)) (rd:=[]) ?_ h
    simp only[hs,lenA]
    exact Yld.pure _
  ·rename_i esz n c rg cap
   have ha:=hx.live rfl
   split at h
   case h_2=>simp[Tr.run]at h
   rename_i off len hr
   have:∃ o,H[n]?=some (some o):=by
    simp only[R]at ha
    obtain⟨_,⟨o,ho,_⟩,_⟩:=ha
    exact⟨o,ho⟩
   obtain⟨o,ho⟩:=this
   obtain⟨ver,rfl,_,_⟩:=range_R hh ha hr ho
   refine gives_pure hh (RV_lit (.int .i64 len)) (rd:=[]) ?_ h
   simp only[hs,lenA]
   exact Yld.pure _
  ·rename_i n c k j len cap
   have ha:=hx.live rfl
   simp only[R]at ha
   obtain⟨ver,rfl,_⟩:=ha
   refine gives_pure hh (RV_lit (.int .i64 len)) (rd:=[]) ?_ h
   simp only[hs,lenA]
   exact Yld.pure _
  ·simp[Tr.run]at h
 ·simp[Tr.run]at h
 ·rename_i hs
  have hs:=hQ.isSl hs
  split at h
  ·simp[Tr.run]at h
  ·rename_i v hv
   have ha:=hx.lit rfl
   subst ha
   obtain⟨w,hw,hk⟩:=via_some h
   refine gives_pure hh (RV_lit w) (rd:=[]) ?_ hk
   split
   ·rename_i heq; injection heq with e; exact(hv e).elim
   ·rename_i heq; cases heq
   ·rename_i heq; cases heq
   ·rename_i heq; cases heq
   ·rename_i heq; cases heq
   ·rename_i heq; cases heq
   ·rename_i heq; injection heq with e; subst e; rw[hw]; exact Yld.pure _
   ·rename_i h; exact(h v rfl).elim
  ·rename_i l
   have ha:=hx.live rfl
   simp only[R]at ha
   obtain⟨l',rfl,hl⟩:=ha
   split at h
   case h_2=>simp[Tr.run]at h
   rename_i n m hm
   obtain⟨q,hq1,_⟩:=hQ.arrT hm
   refine gives_pure hh (RV_lit (.int .i64 n)) (rd:=[]) ?_ h
   simp only[hq1]
   exact Yld.pure _
  ·have ha:=hx.live rfl
   simp only[R]at ha
   obtain⟨ver,rfl,hl⟩:=ha
   split at h
   case h_2=>simp[Tr.run]at h
   rename_i n m hm
   obtain⟨q,hq1,_⟩:=hQ.arrT hm
   refine gives_pure hh (RV_lit (.int .i64 n)) (rd:=[]) ?_ h
   simp only[hq1]
   exact Yld.pure _
  ·have ha:=hx.live rfl
   simp only[R]at ha
   obtain⟨ver,rfl,hl⟩:=ha
   split at h
   case h_2=>simp[Tr.run]at h
   rename_i n m hm
   obtain⟨q,hq1,_⟩:=hQ.arrT hm
   refine gives_pure hh (RV_lit (.int .i64 n)) (rd:=[]) ?_ h
   simp only[hq1]
   exact Yld.pure _
  ·simp[Tr.run]at h
theorem lits_RV[Glob]{l:List (SV T.den)}{m:List AV}(hv:All2 (RV T H) l m){c:List Value}(hc:litsS l=some c):litsOf m=some c:=by
 revert c
 induction l generalizing m with
 |nil=>
  intro c hc
  cases m with
  |nil=>simp[litsS]at hc; subst hc; rfl
  |cons=>exact hv.elim
 |cons x xs ih=>
  intro c hc
  cases m with
  |nil=>exact hv.elim
  |cons a as=>
   cases x with
   |lit v=>
    simp only[litsS,Option.map_eq_some_iff]at hc
    obtain⟨c',h1,rfl⟩:=hc
    have:=RV.lit hv.1 rfl
    subst this
    simp[litsOf,ih hv.2 h1]
   |_=>simp[litsS]at hc
theorem builtinS_ok[Glob](hT:T.Ok)(hQ:Q.Ok)(hh:RH T H hp){nm:Nat}(hn:nm=H.length∨H[nm]?=some none){b:Builtin}{ts:Array TypeId}{type:TypeId}{args:List (SV T.den)}{as:List AV}
  (ha:All2 (RV T H) args as) (h:(builtinS Q nm H b ts type args K).run=some r):Gives T H hp (builtinA Q.P nm b ts type as) K r:=by
 unfold builtinS at h
 split at h
 ·split at h
  ·rename_i t xt s x ht
   match as,ha with
   |[a,b],ha=>
    simp only[builtinA,ht]
    exact appendS_ok hT hQ hh hn ha.1 ha.2.1 h
  ·simp[Tr.run]at h
 ·split at h
  ·rename_i t _ d x ht
   match as,ha with
   |[a,b],ha=>
    simp only[builtinA,ht]
    exact copyS_ok hT hQ hh ha.1 ha.2.1 h
  ·simp[Tr.run]at h
 ·split at h
  ·rename_i x
   match as,ha with
   |[a],ha=>exact lenS_ok hQ hh ha.1 h
  ·simp[Tr.run]at h
 ·split at h
  ·rename_i vs hvs
   obtain⟨w,hw,hk⟩:=via_some h
   refine gives_pure hh (RV_lit w) (rd:=[]) ?_ hk
   simp only[builtinA,lits_RV ha hvs,hw]
   exact Yld.pure _
  ·simp[Tr.run]at h
 ·split at h
  ·rename_i vs hvs
   obtain⟨w,hw,hk⟩:=via_some h
   refine gives_pure hh (RV_lit w) (rd:=[]) ?_ hk
   simp only[builtinA,lits_RV ha hvs,hw]
   exact Yld.pure _
  ·simp[Tr.run]at h
 ·simp[Tr.run]at h
end
end Go.PI
end
section
/- PS, part Ia: maps. -/
namespace Go.PI
variable {T:Tys}{ρ:Type}
theorem eqKey_v(kk:KK)(a b:kk.D):eqKey (kk.v a) (kk.v b)=kk.beq a b:=by cases kk<;>rfl
theorem get_v{kk:KK}{v:Value}{k:kk.D}(h:kk.get v=some k):v=kk.v k∧kk.ok v=true:=by
 cases kk with
 |int q=>
  cases v<;>simp[KK.get]at h
  obtain⟨rfl,h⟩:=h
  cases h
  exact⟨rfl,by simp[KK.ok]⟩
 |str=>
  cases v<;>simp[KK.get]at h
  cases h
  exact⟨rfl,rfl⟩
 |bool=>
  cases v<;>simp[KK.get]at h
  cases h
  exact⟨rfl,rfl⟩
theorem find_none{kk:KK}{α:Type}{k:kk.D}:∀ {m:List (kk.D×α)} {i:Nat},mapGet kk m k=none→findA (kk.v k) (m.map fun q=>kk.v q.1) i=none
 |[],i,_=>rfl
 |(k',v)::m,i,h=>by
  simp only[mapGet]at h
  cases hb:kk.beq k k' with
  |true=>rw[hb]at h; simp at h
  |false=>
   rw[hb]at h
   simp only[List.map_cons,findA,eqKey_v,hb,cond_false]
   exact find_none h
theorem find_some{kk:KK}{α:Type}{k:kk.D}{x:α}:∀ {m:List (kk.D×α)} {i:Nat},mapGet kk m k=some x→∃ j,findA (kk.v k) (m.map fun q=>kk.v q.1) i=some (i+j)∧(m.map (·.2))[j]?=some x ∧
  ∀ y,(mapPut kk m k y).map (fun q=>kk.v q.1)=m.map (fun q=>kk.v q.1)∧(mapPut kk m k y).map (·.2)=(m.map (·.2)).set j y
 |[],i,h=>by simp[mapGet]at h
 |(k',v)::m,i,h=>by
  simp only[mapGet]at h
  cases hb:kk.beq k k' with
  |true=>
   simp_all[cond_true,findA,eqKey_v,hb,mapPut]
  |false=>
   rw[hb]at h
   obtain⟨j,h1,h2,h3⟩:=find_some (i:=i+1) h
   refine⟨j+1,?_,by simpa using h2,fun y=>?_⟩
   ·simp only[List.map_cons,findA,eqKey_v,hb,cond_false,h1]
    congr 1; omega
   ·obtain⟨h4,h5⟩:=h3 y
    simp[mapPut,hb,h4,h5]
theorem put_none{kk:KK}{α:Type}{k:kk.D}{y:α}:∀ {m:List (kk.D×α)},mapGet kk m k=none→mapPut kk m k y=m++[(k,y)]
 |[],_=>rfl
 |(k',v)::m,h=>by
  simp only[mapGet]at h
  cases hb:kk.beq k k' with
  |true=>rw[hb]at h; simp at h
  |false=>
   rw[hb]at h
   simp only[mapPut,hb,cond_false,List.cons_append]
   rw[put_none h]
section
variable {H:SHeap T.den}{hp:AHeap}{K:EK T ρ}{r:ρ}{Q:Prg}
theorem lookR_R{c:Bool}{v:SV T.den}{a:AV}{b:Bool}(h:R T H v a):R T H (lookRS c v b) (lookR c a b):=by
 cases c with
 |false=>exact h
 |true=>
  simp only[lookRS,lookR,R]
  exact⟨_,rfl,h,rfl,trivial⟩
theorem lookupS_ok[Glob](hT:T.Ok)(hQ:Q.Ok)(hZ:T.Zeros Q)(hh:RH T H hp){t:TypeId}{x ix:SV T.den}{a b:AV}(hx:RV T H x a)(hi:RV T H ix b){c:Bool}(h:(lookupS Q H t x ix c K).run=some r):
  Gives T H hp (lookupA Q.P t a b c) K r:=by
 unfold lookupS at h
 split at h
 case h_2=>simp[Tr.run]at h
 rename_i kk et hmo
 have hmt:=hQ.map _ _ hmo
 split at h
 case h_2=>simp[Tr.run]at h
 rename_i za z k hza hz
 obtain⟨m,hm,hmz⟩:=Option.bind_eq_some_iff.1 hza
 obtain⟨q,hq1,_,_,_,hq5⟩:=hQ.row _ _ hm
 have hez:=hq5 _ hmz
 have hrp:=hZ et m z za hm hmz hz
 have hi:=hi.lit rfl
 subst hi
 have hz2:(tyOf Q.P et).bind elemZero=some za:=by rw[hq1]; exact hez
 unfold lookupA
 simp only[hmt,hz2]
 split at h
 ·rename_i k' hk
  obtain⟨rfl,hok⟩:=get_v hk
  have hx:=hx.lit rfl
  subst hx
  simp only[hok]
  exact gives_pure hh (.inr (lookR_R (hT.up _ _ _ H hrp))) (Yld.pure _) h
 ·rename_i k' n hk
  obtain⟨rfl,hok⟩:=get_v hk
  have hx:=hx.live rfl
  simp only[R]at hx
  obtain⟨rfl,_⟩:=hx
  split at h
  case h_2=>simp[Tr.run]at h
  rename_i kk' t' mp ho
  split at h
  case isFalse=>simp[Tr.run]at h
  rename_i hc
  obtain⟨rfl,rfl⟩:=hc
  simp only[mapCast]at h
  obtain⟨ao,ho',hro⟩:=hh.obj ho
  obtain⟨vs,rfl,hvs⟩:=hro
  simp only[hok]
  cases hg:mapGet kk' mp k' with
  |none=>
   rw[hg]at h
   simp only[Option.getD_none,Option.isSome_none]at h
   refine gives_pure hh (.inr (lookR_R (hT.up _ _ _ H hrp))) (rd:=[n]) (Yld.get ho' ?_) h
   simp only[if_true,find_none hg]
   exact Yld.pure _
  |some y=>
   rw[hg]at h
   simp only[Option.getD_some,Option.isSome_some]at h
   obtain⟨j,h1,h2,_⟩:=find_some (i:=0) hg
   obtain⟨v,hv,hr⟩:=All2.get hvs h2
   refine gives_pure hh (.inr (lookR_R (hT.up _ _ _ H hr))) (rd:=[n]) (Yld.get ho' ?_) h
   simp only[if_true,h1,Nat.zero_add,hv]
   exact Yld.pure _
 ·simp[Tr.run]at h
theorem mapUpdateS_ok[Glob](hT:T.Ok)(hQ:Q.Ok)(hh:RH T H hp){t:TypeId}{x ix v:SV T.den}{a b d:AV}(hx:RV T H x a)(hi:RV T H ix b)(hv:RV T H v d)(h:(mapUpdateS Q H t x ix v K).run=some r):
  Gives T H hp (mapUpdateA Q.P t a b d) K r:=by
 unfold mapUpdateS at h
 split at h
 case h_2=>simp[Tr.run]at h
 rename_i kk et hmo
 have hmt:=hQ.map _ _ hmo
 split at h
 case h_2=>simp[Tr.run]at h
 rename_i k n
 split at h
 case h_2=>simp[Tr.run]at h
 rename_i k' kk' t' mp hk ho
 split at h
 case h_2=>simp[Tr.run]at h
 rename_i y hd hy
 split at h
 case isFalse=>simp[Tr.run]at h
 rename_i hc
 obtain⟨rfl,hc2⟩:=hc
 obtain⟨rfl,hok⟩:=get_v hk
 have hi:=hi.lit rfl
 subst hi
 have hx:=hx.live rfl
 simp only[R]at hx
 obtain⟨rfl,_⟩:=hx
 have hrp:=hT.dn _ _ _ _ H hy (hv.live hd)
 obtain⟨ao,ho',hro⟩:=hh.obj ho
 obtain⟨vs,rfl,hvs⟩:=hro
 unfold mapUpdateA
 simp only[hmt,hok]
 simp only[mapCast]at h
 cases hg:mapGet kk' mp k' with
 |none=>
  have e:=put_none (y:=y) hg
  refine gives_upd hh ho (o':=.tmap kk' t' (mapPut kk' mp k' y)) (Nat.le_refl _) (fun _=>rfl) (a':=.oth (.map kk' ((mp.map fun q=>kk'.v q.1)++[kk'.v k'])) (vs++[d])) ?_ (RV_lit undef) (rd:=[n]) (Yld.get ho' ?_) h
  ·rw[e]
   refine⟨vs++[d],by simp,?_⟩
   rw[List.map_append]
   exact hvs.append (show All2 (T.rp t') [y] [d] from ⟨hrp,trivial⟩)
  ·simp only[if_true,find_none hg]
   exact Yld.pure _
 |some x0=>
  obtain⟨j,h1,h2,h3⟩:=find_some (i:=0) hg
  obtain⟨h4,h5⟩:=h3 y
  refine gives_upd hh ho (o':=.tmap kk' t' (mapPut kk' mp k' y)) (Nat.le_refl _) (fun _=>rfl) (a':=.oth (.map kk' (mp.map fun q=>kk'.v q.1)) (vs.set j d)) ?_ (RV_lit undef) (rd:=[n]) (Yld.get ho' ?_) h
  ·exact⟨_,by rw[h4],by rw[h5]; exact hvs.set j hrp⟩
  ·simp only[if_true,h1,Nat.zero_add]
   exact Yld.pure _
theorem makeMapS_ok[Glob](hQ:Q.Ok)(hh:RH T H hp){nm:Nat}(hn:nm=H.length∨H[nm]?=some none){t:TypeId}{x:Option (SV T.den)}{a:Option AV}(hx:RVo T H x a)(h:(makeMapS Q nm t x K).run=some r):
  Gives T H hp (.ofOpt (makeMapA Q.P nm t a)) K r:=by
 unfold makeMapS at h
 split at h
 case h_2=>simp[Tr.run]at h
 rename_i kk et hmo
 have hmt:=hQ.map _ _ hmo
 obtain⟨n,hn1,h⟩:=optNat_R hx h
 refine gives_new hh hn (o:=.tmap kk et []) (a':=.oth (.map kk []) []) ⟨[],rfl,trivial⟩ (a:=.mp false nm) (rd:=[]) (.inr ?_) ?_ h
 ·simp only[R]
  refine⟨trivial,.tmap kk et [],?_⟩
  unfold setObjS
  rcases hn with rfl|hn
  ·simp
  ·have hlt:=(List.getElem?_eq_some_iff.1 hn).1
   rw[if_neg (by omega),List.getElem?_set_self hlt]
 ·simp only[makeMapA,hmt,hn1]
  exact Yld.ofOpt rfl
end
end Go.PI
end
section
/- PS, part J: every operation. -/
namespace Go.PI
variable {T:Tys}{ρ:Type}
section
variable {H:SHeap T.den}{hp:AHeap}{K:EK T ρ}{r:ρ}{Q:Prg}
theorem ev_list{ev:Operand→SV T.den}{eva:Operand→AV}(hev:∀ x,RV T H (ev x) (eva x)):∀ (l:List Operand),All2 (RV T H) (l.map ev) (l.map eva)
 |[]=>trivial
 |x::xs=>⟨hev x,ev_list hev xs⟩
theorem live_list[Glob]:∀ {l:List (SV T.den)} {m:List AV},All2 (RV T H) l m→l.any isDead=false→RL T H l m
 |[],[],_,_=>by simp[RL]
 |x::xs,y::ys,h,hd=>by
  simp only[List.any_cons,Bool.or_eq_false_iff]at hd
  simp only[RL]
  exact⟨h.1.live hd.1,live_list h.2 hd.2⟩
theorem ev_parts[Glob]{ev:Operand→SV T.den}{eva:Operand→AV}(hev:∀ x,RV T H (ev x) (eva x)):∀ (l:List (Nat×Operand)),((l.map fun p=>(p.1,ev p.2)).any fun p=>isDead p.2)=false →
  RP T H (l.map fun p=>(p.1,ev p.2)) (l.map fun p=>(p.1,eva p.2))
 |[],_=>trivial
 |x::xs,hd=>by
  simp only[List.map_cons,List.any_cons,Bool.or_eq_false_iff]at hd
  exact⟨⟨rfl,(hev _).live hd.1⟩,ev_parts hev xs hd.2⟩
theorem opS_ok[Glob](hT:T.Ok)(hQ:Q.Ok)(hZ:T.Zeros Q)(hh:RH T H hp){nm:Nat}(hn:nm=H.length∨H[nm]?=some none){ev:Operand→SV T.den}{eva:Operand→AV}(hev:∀ x,RV T H (ev x) (eva x)){o:Oper}
  (h:(opS Q nm H ev o K).run=some r):Gives T H hp (opEff Q.P nm eva o) K r:=by
 obtain⟨dst,op,type,pos,after,guard⟩:=o
 unfold opS at h
 cases op with
 |move x=>exact gives_pure hh (hev x) (Yld.ret _) h
 |assign x=>exact gives_pure hh (hev x) (Yld.ret _) h
 |pick c a b=>
  simp only at h
  split at h
  ·rename_i t ht
   have hc:=(hev c).lit ht
   obtain⟨v,hv,hk⟩:=pick_ok (hev a) (hev b) h
   refine gives_pure hh hv (rd:=[]) ?_ hk
   simp only[opEff,hc]
   exact Yld.pure _
  ·simp[Tr.run]at h
 |alloc t=>
  simp only at h
  split at h
  case h_2=>simp[Tr.run]at h
  rename_i m hm
  split at h
  case h_2=>simp[Tr.run]at h
  rename_i z hz
  split at h
  case isFalse=>simp[Tr.run]at h
  rename_i hs
  exact allocS_ok hQ hh hn hm hz hs h
 |box t x=>
  simp only at h
  split at h
  case isFalse=>simp[Tr.run]at h
  rename_i hc
  have hv:=(hev x).live hc.2.2
  have hcl:=hv.cells
  refine gives_new hh hn (o:=.arr false (closedLS (cellsS (ev x))) false 0 [ev x]) (a':=.arr false (closedL (cellsOf (eva x))) false [eva x]) ⟨_,by rw[RL.closed hcl],by simp only[RL]; exact⟨hv,trivial⟩,fun hcc=>by rw[closedS_cells]at hcc; simp only[closedLS,hcc,Bool.and_self]⟩
   (a:=.ref nm 1 0 0) (rd:=[]) ?_ ?_ h
  ·right
   simp only[R]
   exact⟨1,rfl,verOk_new hh hn (o:=.arr false (closedLS (cellsS (ev x))) false 0 [ev x])⟩
  ·simp only[opEff]
   rw[if_pos ⟨by rw[←hcl.leafs]; exact hc.1,by rw[←hcl.length]; exact hc.2.1⟩]
   exact Yld.pure _
 |build t parts=>
  simp only at h
  split at h
  ·simp[Tr.run]at h
  rename_i hd
  simp only[Bool.not_eq_true]at hd
  obtain⟨v,hv,hk⟩:=one_some h
  obtain⟨a,ha,hr⟩:=buildS_ok hQ (ev_parts hev _ hd) hv
  refine gives_pure hh (.inr hr) (rd:=[]) ?_ hk
  simp only[opEff,ha]
  exact Yld.pure _
 |buildSlice t len parts=>
  simp only at h
  split at h
  ·simp[Tr.run]at h
  rename_i hd
  simp only[Bool.not_eq_true]at hd
  exact buildSliceS_ok hQ hh hn (ev_parts hev _ hd) h
 |load t a=>
  simp only at h
  split at h
  case h_2=>simp[Tr.run]at h
  rename_i m hm
  obtain⟨q,h1,h2,h3,_⟩:=hQ.row _ _ hm
  have:∃ v c rd,Yld hp (loadA Q.P t (eva a)) c rd∧R T H v c∧(K v [] rd).run=some r:=loadS_ok hT h1 h2 h3 hh (hev a) h
  obtain⟨v,c,rd,hy,hr,hk⟩:=this
  refine gives_pure hh (.inr hr) (rd:=rd) ?_ hk
  simp only[opEff]
  exact Yld.mono (Yld.bind hy (Yld.pure _)) (fun _ h=>by simpa using h)
 |store t a x=>
  simp only at h
  split at h
  case h_2=>simp[Tr.run]at h
  rename_i m hm
  obtain⟨q,h1,h2,h3,_⟩:=hQ.row _ _ hm
  exact storeS_ok hT h1 h3 hh (hev a) (hev x) h
 |nilCheck x=>
  simp only at h
  have hx:=hev x
  split at h
  ·rename_i n c i j he
   rw[he]at hx
   have hx':=hx.live rfl
   simp only[R]at hx'
   obtain⟨ver,e,hv⟩:=hx'
   refine gives_pure hh (a:=.ref n ver i j) (.inr (by simp only[R]; exact⟨ver,rfl,hv⟩)) (rd:=[]) ?_ h
   simp only[opEff,e]; exact Yld.pure _
  ·rename_i e0 j he
   rw[he]at hx
   have hx':=hx.live rfl
   have hx2:=hx'
   simp only[R]at hx'
   obtain⟨e',e,hv⟩:=hx'
   refine gives_pure hh (a:=.eref e' j) (.inr (by rw[←e]; exact hx2)) (rd:=[]) ?_ h
   simp only[opEff,e]; exact Yld.pure _
  ·rename_i t y he
   rw[he]at hx
   have hx':=hx.live rfl
   have hx2:=hx'
   simp only[R]at hx'
   obtain⟨e',e,hv⟩:=hx'
   refine gives_pure hh (a:=.ifc t e') (.inr (by rw[←e]; exact hx2)) (rd:=[]) ?_ h
   simp only[opEff,e]; exact Yld.pure _
  ·rename_i f a c he
   rw[he]at hx
   have hx':=hx.live rfl
   have hx2:=hx'
   simp only[R]at hx'
   obtain⟨f',c',e,hv⟩:=hx'
   refine gives_pure hh (a:=.clo (.func f) f' c') (.inr (by rw[←e]; exact hx2)) (rd:=[]) ?_ h
   simp only[opEff,e]; exact Yld.pure _
  ·rename_i f a c he
   have e:=hx.lit he
   refine gives_pure hh (RV_lit (.func (.func f) a c)) (rd:=[]) ?_ h
   simp only[opEff,e]; exact Yld.pure _
  ·simp[Tr.run]at h
 |binOp op t x y u=>
  simp only at h
  obtain⟨v,hv,hk⟩:=binS_ok hQ (hev x) (hev y) h
  refine gives_pure hh (RV_lit v) (rd:=[]) ?_ hk
  simp only[opEff,hv]
  exact Yld.pure _
 |unOp op t x=>
  simp only at h
  split at h
  ·rename_i a ha
   have hx:=(hev x).lit ha
   obtain⟨v,hv,hk⟩:=via_some h
   refine gives_pure hh (RV_lit v) (rd:=[]) ?_ hk
   simp only[opEff,hx,hv]
   exact Yld.pure _
  ·simp[Tr.run]at h
 |convert s d x=>
  simp only at h
  split at h
  ·rename_i a ha
   have hx:=(hev x).lit ha
   obtain⟨v,hv,hk⟩:=via_some h
   refine gives_pure hh (RV_lit v) (rd:=[]) ?_ hk
   simp only[opEff,hx,hv]
   exact Yld.pure _
  ·simp[Tr.run]at h
 |makeInterface t x=>
  simp only at h
  split at h
  ·simp[Tr.run]at h
  rename_i hc
  simp only[Bool.or_eq_true,not_or,Bool.not_eq_true]at hc
  have hx:=(hev x).live hc.2
  refine gives_pure hh (a:=.ifc t (eva x)) (.inr (by simp only[R]; exact⟨_,rfl,hx⟩)) (rd:=[]) ?_ h
  simp only[opEff]
  rw[if_neg (by simp[hc.1.1,hc.1.2])]
  exact Yld.pure _
 |makeFunc fn first captured=>
  simp only at h
  split at h
  ·rename_i hc
   refine gives_pure hh (RV_lit (.func fn #[] #[])) (rd:=[]) ?_ h
   simp only[opEff,hc,if_true]
   exact Yld.pure _
  ·rename_i hc
   split at h
   ·simp[Tr.run]at h
   rename_i hd
   simp only[Bool.or_eq_true,not_or,Bool.not_eq_true]at hd
   have h1:=live_list (ev_list hev first.toList) hd.1
   have h2:=live_list (ev_list hev captured.toList) hd.2
   refine gives_pure hh (a:=.clo fn (first.toList.map eva) (captured.toList.map eva)) (.inr (by simp only[R]; exact⟨_,_,rfl,h1,h2⟩)) (rd:=[]) ?_ h
   simp only[opEff]
   rw[if_neg hc]
   exact Yld.pure _
 |makeSlice t l c=>
  simp only at h
  split at h
  ·rename_i hs
   have e:l=c:=by
    unfold sameOp at hs
    split at hs
    ·rw[Nat.eq_of_beq_eq_true hs]
    ·simp at hs
   subst e
   exact makeSlice1_ok hQ hZ hh hn (hev l) h
  ·exact makeSliceS_ok hQ hZ hh hn (hev l) (hev c) h
 |slice t x lo hi mx=>
  simp only at h
  have ho:∀ o:Option Operand,RVo T H (o.map ev) (o.map eva):=by
   intro o
   cases o with
   |none=>trivial
   |some o=>exact hev o
  obtain⟨v,b,hb,hv,hk⟩:=cutS_ok hT hQ hh (hev x) (ho lo) (ho hi) (ho mx) h
  refine gives_pure hh hv (rd:=[]) ?_ hk
  simp only[opEff,hb]
  exact Yld.pure _
 |sliceToArrayPointer t x=>
  simp only at h
  have hx:=hev x
  unfold toArrS at h
  split at h
  case h_2=>simp[Tr.run]at h
  rename_i len m n c i j l cp hf he
  obtain⟨q,hq1,hq2,hq3⟩:=hQ.arrT hf
  split at h
  case h_2=>simp[Tr.run]at h
  rename_i hle
  simp only[decide_eq_true_eq]at hle
  rw[he]at hx
  have hx':=hx.live rfl
  simp only[R]at hx'
  obtain⟨ver,e,hv⟩:=hx'
  refine gives_pure hh (a:=.ref n ver i j) (.inr (by simp only[R]; exact⟨ver,rfl,hv⟩)) (rd:=[]) ?_ h
  simp only[opEff,e,hq1]
  rw[if_pos hle]
  exact Yld.pure _
 |fieldAddr s x f=>
  simp only at h
  have hx:=hev x
  split at h
  ·rename_i off m n c i j hf he
   obtain⟨q,hq,_⟩:=hQ.fldT hf
   rw[he]at hx
   have hx':=hx.live rfl
   simp only[R]at hx'
   obtain⟨ver,e,hv⟩:=hx'
   refine gives_pure hh (a:=.ref n ver i (j+off)) (.inr (by simp only[R]; exact⟨ver,rfl,hv⟩)) (rd:=[]) ?_ h
   simp only[opEff,e,hq]; exact Yld.pure _
  ·rename_i off m e0 j hf he
   obtain⟨q,hq,_⟩:=hQ.fldT hf
   rw[he]at hx
   have hx':=hx.live rfl
   simp only[R]at hx'
   obtain⟨e',e,hv⟩:=hx'
   refine gives_pure hh (a:=.eref e' (j+off)) (.inr (by simp only[R]; exact⟨e',rfl,hv.1,hv.2⟩)) (rd:=[]) ?_ h
   simp only[opEff,e,hq]; exact Yld.pure _
  ·rename_i off m v stride len i hf he
   obtain⟨q,hq,_⟩:=hQ.fldT hf
   rw[he]at hx
   have hx':=hx.live rfl
   simp only[R]at hx'
   obtain⟨a0,h1,h2,h3⟩:=hx'
   rcases h3 with ⟨n,ver,k,j,rfl,e⟩|⟨e',j,rfl,e⟩
   ·refine gives_pure hh (a:=.ref n ver k (j+i*stride+off)) (.inr (by simp only[R]; exact⟨.ref n ver k (j+off),shift_R h1 (.inl ⟨_,_,_,_,rfl,rfl⟩),h2,.inl ⟨_,_,_,_,rfl,by rw[Nat.add_right_comm]⟩⟩)) (rd:=[]) ?_ h
    simp only[opEff,e,hq]; exact Yld.pure _
   ·refine gives_pure hh (a:=.eref e' (j+i*stride+off)) (.inr (by simp only[R]; exact⟨.eref e' (j+off),shift_R h1 (.inr ⟨_,_,rfl,rfl⟩),h2,.inr ⟨_,_,rfl,by rw[Nat.add_right_comm]⟩⟩)) (rd:=[]) ?_ h
    simp only[opEff,e,hq]; exact Yld.pure _
  ·simp[Tr.run]at h
 |field s x f=>
  simp only at h
  have hx:=hev x
  split at h
  ·rename_i off m l hf he
   obtain⟨q,hq,hq2,hq3⟩:=hQ.fldT hf
   rw[he]at hx
   have hx':=hx.live rfl
   obtain⟨v,hv,hk⟩:=one_some h
   rw[←hq2,←hq3]at hv
   obtain⟨c,hc,hr⟩:=R.part hx' hv
   simp only[R]at hx'
   obtain⟨l',e,_⟩:=hx'
   refine gives_pure hh (.inr hr) (rd:=[]) ?_ hk
   rw[e]at hc
   simp only[opEff,e,hq,hc]; exact Yld.pure _
  ·simp[Tr.run]at h
 |indexAddr t x ix=>
  simp only at h
  obtain⟨v,b,hb,hv,hk⟩:=indexAddrS_ok hT hQ hh (hev x) (hev ix) h
  refine gives_pure hh hv (rd:=[]) ?_ hk
  simp only[opEff,hb]
  exact Yld.pure _
 |index t x ix=>
  simp only at h
  obtain⟨v,b,hb,hv,hk⟩:=indexS_ok hQ (hev x) (hev ix) h
  refine gives_pure hh hv (rd:=[]) ?_ hk
  simp only[opEff,hb]
  exact Yld.pure _
 |makeMap t x=>
  simp only at h
  have ho:RVo T H (x.map ev) (x.map eva):=by
   cases x with
   |none=>trivial
   |some o=>exact hev o
  have:=makeMapS_ok (T:=T) hQ hh hn ho h
  exact this
 |lookup t x ix c=>
  simp only at h
  exact lookupS_ok hT hQ hZ hh (hev x) (hev ix) h
 |mapUpdate t x k v=>
  simp only at h
  exact mapUpdateS_ok hT hQ hh (hev x) (hev k) (hev v) h
 |extract t ix=>
  simp only at h
  have hx:=hev t
  split at h
  ·rename_i l he
   rw[he]at hx
   have hx':=hx.live rfl
   simp only[R]at hx'
   obtain⟨l',e,hl⟩:=hx'
   obtain⟨v,hv,hk⟩:=one_some h
   obtain⟨b,hb,hr⟩:=All2.get (RL_iff.1 hl) hv
   refine gives_pure hh (.inr hr) (rd:=[]) ?_ hk
   simp only[opEff,e,hb]; exact Yld.pure _
  ·simp[Tr.run]at h
 |call c=>
  obtain⟨callee,args,ats⟩:=c
  cases callee with
  |builtin b=>exact builtinS_ok hT hQ hh hn (ev_list hev args.toList) h
  |_=>simp[Tr.run]at h
 |_=>simp[Tr.run]at h
end
end Go.PI
end
section
/- PS, part K: by value, frozen, and calls of which an answer is known. -/
namespace Go.PI
variable {T:Tys}{ρ:Type}
mutual
def noNil:AV→Bool
 |.lit v=>match v with
  |.slice none 0 0=>false
  |_=>true
 |.agg l|.tup l=>noNilL l
 |.ifc _ v=>noNil v
 |.clo _ f c=>noNilL f&&noNilL c
 |_=>true
def noNilL:List AV→Bool
 |[]=>true
 |x::xs=>noNil x&&noNilL xs
end
section
variable {H:SHeap T.den}{hp:AHeap}{r:ρ}
mutual
theorem R.flat:∀ {v:SV T.den} {a:AV},R T H v a→noNil a=true→flatS v=flat a
 |.dead,a,h,_=>by simp[R]at h
 |.hole,a,h,_=>by simp only[R]at h; subst h; rfl
 |.lit v,a,h,_=>by simp only[R]at h; subst h; rfl
 |.agg l,a,h,hn=>by
  simp only[R]at h
  obtain⟨l',rfl,h2⟩:=h
  simp only[noNil]at hn
  simp only[flatS,Go.PI.flat]; exact RL.flat h2 hn
 |.tup l,a,h,hn=>by
  simp only[R]at h
  obtain⟨l',rfl,h2⟩:=h
  simp only[noNil]at hn
  simp only[flatS,Go.PI.flat]; exact RL.flat h2 hn
 |.sl l,a,h,_=>by
  simp only[R]at h
  obtain⟨l',rfl,h2⟩:=h
  rfl
 |.tsl t l,a,h,hn=>by
  simp only[R]at h
  rcases h with ⟨l',rfl,_⟩|⟨_,rfl⟩
  ·rfl
  ·simp[noNil]at hn
 |.eref e j,a,h,_=>by
  simp only[R]at h
  obtain⟨e',rfl,h2⟩:=h
  rfl
 |.ref n c i j,a,h,_=>by
  simp only[R]at h
  obtain⟨ver,rfl,h2⟩:=h
  rfl
 |.asl n c i j ln cp,a,h,_=>by
  simp only[R]at h
  obtain⟨ver,rfl,h2⟩:=h
  rfl
 |.osl esz n c rg cap,a,h,_=>by
  simp only[R]at h
  obtain⟨ver,h1,h2⟩:=h
  rcases rg with _|⟨off,len⟩<;>simp only at h2<;>subst h2<;>rfl
 |.clo fn f c,a,h,hn=>by
  simp only[R]at h
  obtain⟨f',c',rfl,h2,h3⟩:=h
  rfl
 |.ifc t v,a,h,hn=>by
  simp only[R]at h
  obtain⟨v',rfl,h2⟩:=h
  simp only[noNil]at hn
  simp only[flatS,Go.PI.flat]; exact R.flat h2 hn
 |.tsx t l c b,a,h,hn=>by
  simp only[R]at h
  rcases h with ⟨_,l',rfl,_⟩|⟨_,_,rfl|rfl⟩
  ·rfl
  ·rfl
  ·simp[noNil]at hn
 |.nz,a,h,hn=>by
  simp only[R]at h
  subst h
  rfl
 |.mp y n,a,h,_=>by
  simp only[R]at h
  obtain⟨rfl,_⟩:=h
  rfl
 |.xat v s len i,a,h,_=>by
  simp only[R]at h
  obtain⟨a0,_,_,h2⟩:=h
  rcases h2 with ⟨n,ver,k,j,rfl,rfl⟩|⟨e,j,rfl,rfl⟩<;>rfl
theorem RL.flat:∀ {l:List (SV T.den)} {m:List AV},RL T H l m→noNilL m=true→flatLS l=flatL m
 |[],[],_,_=>rfl
 |x::xs,y::ys,h,hn=>by
  simp only[RL]at h
  simp only[noNilL,Bool.and_eq_true]at hn
  simp only[flatLS,flatL]; rw[R.flat h.1 hn.1,RL.flat h.2 hn.2]
 |[],_::_,h,_=>by simp[RL]at h
 |_::_,[],h,_=>by simp[RL]at h
end
theorem closedLS_get{den:Nat→Type}:∀ {l:List (SV den)} {i:Nat} {e:SV den},closedLS l=true→l[i]?=some e→closedS e=true
 |[],_,_,_,h=>by simp at h
 |x::xs,0,e,hc,h=>by
  simp_all[closedLS]
 |x::xs,i+1,e,hc,h=>by
  simp only[closedLS,Bool.and_eq_true]at hc
  simp only[List.getElem?_cons_succ]at h
  exact closedLS_get hc.2 h
theorem seal_ok_both[Glob](hh:RH T H hp):∀ k:Nat,
  (∀ (v:SV T.den) (a:AV) (K:SV T.den→List Nat→Tr ρ),R T H v a→(sealS T H k v K).run=some r →
    ∃ v' rd a',Yld hp (sealV k a) a' rd∧R T H v' a'∧(noNil a'=true∧closedS v'=true)∧(K v' rd).run=some r) ∧
  (∀ (l:List (SV T.den)) (m:List AV) (K:List (SV T.den)→List Nat→Tr ρ),RL T H l m→(sealLS T H k l K).run=some r →
    ∃ l' rd m',Yld hp (sealL k m) m' rd∧RL T H l' m'∧(noNilL m'=true∧closedLS l'=true)∧l'.length=l.length∧(K l' rd).run=some r)
 |0=>⟨fun v a K _ h=>by simp[sealS,Tr.run]at h,fun l m K _ h=>by simp[sealLS,Tr.run]at h⟩
 |k+1=>by
  obtain⟨ihv,ihl⟩:=seal_ok_both hh k
  refine⟨fun v a K hr h=>?_,fun l m K hr h=>?_⟩
  ·cases v with
   |dead=>simp[R]at hr
   |hole=>simp[sealS,Tr.run]at h
   |lit v=>
    simp only[R]at hr
    subst hr
    simp only[sealS]at h
    split at h
    ·exact⟨_,_,.sl [],Yld.pure _,by simp[R,RL,closedLS],⟨rfl,rfl⟩,h⟩
    ·rename_i hv
     refine⟨_,_,.lit v,?_,by simp[R],⟨?_,rfl⟩,h⟩
     ·simp only[sealV]
      exact Yld.pure _
     ·simp only[noNil]
   |agg l=>
    simp only[R]at hr
    obtain⟨l',rfl,hl⟩:=hr
    simp only[sealS]at h
    obtain⟨l2,rd,m2,h1,h2,h3,_,h4⟩:=ihl _ _ _ hl h
    refine⟨_,_,.agg m2,?_,by simp only[R]; exact⟨_,rfl,h2⟩,⟨by simpa only[noNil] using h3.1,by simpa only[closedS] using h3.2⟩,h4⟩
    simp only[sealV]
    exact Yld.mono (Yld.bind h1 (Yld.pure _)) (fun _ h=>by simpa using h)
   |tup l=>
    simp only[R]at hr
    obtain⟨l',rfl,hl⟩:=hr
    simp only[sealS]at h
    obtain⟨l2,rd,m2,h1,h2,h3,_,h4⟩:=ihl _ _ _ hl h
    refine⟨_,_,.tup m2,?_,by simp only[R]; exact⟨_,rfl,h2⟩,⟨by simpa only[noNil] using h3.1,by simpa only[closedS] using h3.2⟩,h4⟩
    simp only[sealV]
    exact Yld.mono (Yld.bind h1 (Yld.pure _)) (fun _ h=>by simpa using h)
   |sl l=>
    have hr':=hr
    simp only[R]at hr
    obtain⟨l',rfl,hl⟩:=hr
    simp only[sealS]at h
    exact⟨_,_,.sl l',Yld.pure _,hr',⟨rfl,rfl⟩,h⟩
   |tsl t l=>
    have hr':=hr
    simp only[R]at hr
    simp only[sealS]at h
    rcases hr with ⟨l',rfl,hl⟩|⟨rfl,rfl⟩
    ·exact⟨_,_,.sl l',Yld.pure _,hr',⟨rfl,rfl⟩,h⟩
    ·exact⟨_,_,.sl [],Yld.pure _,by simp only[R]; exact .inl ⟨[],rfl,trivial⟩,⟨rfl,rfl⟩,h⟩
   |eref e j=>
    have hr':=hr
    simp only[R]at hr
    obtain⟨e',rfl,he⟩:=hr
    simp only[sealS]at h
    exact⟨_,_,.eref e' j,Yld.pure _,hr',⟨rfl,rfl⟩,h⟩
   |ref n c i j=>
    simp only[R]at hr
    obtain⟨ver,rfl,hv⟩:=hr
    simp only[sealS]at h
    split at h
    case h_2=>simp[Tr.run]at h
    rename_i g cl f cur es ho
    obtain⟨o,ho',hro⟩:=hh.obj ho
    obtain⟨es',rfl,hes,hcl0⟩:=hro
    split at h
    case h_2=>simp[Tr.run]at h
    rename_i e hc he
    have hver:=hv.arr hh ho hc
    simp only[SObj.len]at hver
    have hl:=hes.length
    obtain⟨e2,he2,hre⟩:=All2.get (RL_iff.1 hes) he
    cases cl with
    |true=>
     simp only at h
     refine⟨_,_,.eref e2 j,?_,by simp only[R]; exact⟨_,rfl,hre,closedLS_get (hcl0 rfl) he⟩,⟨rfl,rfl⟩,h⟩
     simp only[sealV]
     refine Yld.mono (Yld.bind (Yld.arr ho' (by omega)) ?_) (rd:=[n]++[]) (fun _ h=>by simpa using h)
     simp only[he2]
     simp only[if_true]
     exact Yld.pure _
    |false=>
     simp only at h
     obtain⟨v2,rd,a2,h1,h2,h3,h⟩:=ihv _ _ _ hre h
     refine⟨_,_,.eref a2 j,?_,by simp only[R]; exact⟨_,rfl,h2,h3.2⟩,⟨rfl,rfl⟩,h⟩
     simp only[sealV]
     refine Yld.mono (Yld.bind (Yld.arr ho' (by omega)) (rd':=rd) ?_) (fun _ h=>by simpa using h)
     simp only[he2,Bool.false_eq_true,if_false]
     exact Yld.mono (Yld.bind h1 (Yld.pure _)) (fun _ h=>by simpa using h)
   |asl n c i j ln cp=>
    simp only[R]at hr
    obtain⟨ver,rfl,hv⟩:=hr
    simp only[sealS]at h
    split at h
    case h_2=>simp[Tr.run]at h
    rename_i g cl f cur es ho
    obtain⟨o,ho',hro⟩:=hh.obj ho
    obtain⟨es',rfl,hes,hcl0⟩:=hro
    split at h
    case h_2=>simp[Tr.run]at h
    rename_i cs hc he
    have hver:=hv.arr hh ho hc
    simp only[SObj.len]at hver
    have hl:=hes.length
    obtain⟨e2,he2,hre⟩:=All2.get (RL_iff.1 hes) he
    simp only[R]at hre
    obtain⟨cs',rfl,hcs⟩:=hre
    have hcl:=hcs.length
    split at h
    case h_2=>simp[Tr.run]at h
    rename_i hle
    simp only[Bool.and_eq_true,decide_eq_true_eq]at hle
    have hrl:RL T H ((cs.drop j).take ln) ((cs'.drop j).take ln):=RL_iff.2 (((RL_iff.1 hcs).drop j).take ln)
    cases cl with
    |true=>
     simp only at h
     have hcc:closedLS cs=true:=by
      have:=closedLS_get (hcl0 rfl) he
      simpa only[closedS] using this
     refine⟨_,_,.sl ((cs'.drop j).take ln),?_,by simp only[R]; exact⟨_,rfl,hrl,closed_part hcc _ _⟩,⟨rfl,rfl⟩,h⟩
     simp only[sealV]
     refine Yld.mono (Yld.bind (Yld.arr ho' (by omega)) ?_) (rd:=[n]++[]) (fun _ h=>by simpa using h)
     simp only[he2]
     rw[if_pos ⟨hle.1,by omega⟩]
     simp only[if_true]
     exact Yld.pure _
    |false=>
     simp only at h
     obtain⟨l2,rd,m2,h1,h2,h3,_,h⟩:=ihl _ _ _ hrl h
     refine⟨_,_,.sl m2,?_,by simp only[R]; exact⟨_,rfl,h2,h3.2⟩,⟨rfl,rfl⟩,h⟩
     simp only[sealV]
     refine Yld.mono (Yld.bind (Yld.arr ho' (by omega)) (rd':=rd) ?_) (fun _ h=>by simpa using h)
     simp only[he2]
     rw[if_pos ⟨hle.1,by omega⟩]
     simp only[Bool.false_eq_true,if_false]
     exact Yld.mono (Yld.bind h1 (Yld.pure _)) (fun _ h=>by simpa using h)
   |clo fn f c=>
    simp only[R]at hr
    obtain⟨f',c',rfl,hf,hc⟩:=hr
    simp only[sealS]at h
    obtain⟨l2,rd,m2,h1,h2,h3,_,h⟩:=ihl _ _ _ hf h
    obtain⟨l3,rd3,m3,g1,g2,g3,_,h⟩:=ihl _ _ _ hc h
    refine⟨_,_,.clo fn m2 m3,?_,by simp only[R]; exact⟨_,_,rfl,h2,g2⟩,⟨by simp[noNil,h3.1,g3.1],by simp[closedS,h3.2,g3.2]⟩,h⟩
    simp only[sealV]
    exact Yld.mono (Yld.bind h1 (Yld.bind g1 (Yld.pure _))) (fun _ h=>by simpa using h)
   |ifc t v=>
    simp only[R]at hr
    obtain⟨v',rfl,hv⟩:=hr
    simp only[sealS]at h
    obtain⟨v2,rd,a2,h1,h2,h3,h⟩:=ihv _ _ _ hv h
    refine⟨_,_,.ifc t a2,?_,by simp only[R]; exact⟨_,rfl,h2⟩,⟨by simpa only[noNil] using h3.1,by simpa only[closedS] using h3.2⟩,h⟩
    simp only[sealV]
    exact Yld.mono (Yld.bind h1 (Yld.pure _)) (fun _ h=>by simpa using h)
   |osl esz n c rg cap=>
    simp only[R]at hr
    obtain⟨ver,hv,ha⟩:=hr
    simp only[sealS]at h
    split at h
    ·rename_i g cl f cur es ho
     obtain⟨o,ho',hro⟩:=hh.obj ho
     obtain⟨es',rfl,hes,hcl0⟩:=hro
     split at h
     case h_2=>simp[Tr.run]at h
     rename_i hc
     have hver:=hv.arr hh ho hc
     simp only[SObj.len]at hver
     have hl:=hes.length
     have key:∀ (off len:Nat) (part:List (SV T.den)) (h:(match cl with
        |true=>K (.sl part) [n]
        |false=>sealLS T H k part fun l rd=>K (.sl l) (n::rd)).run=some r),part=(es.drop off).take len→off+len≤es.length →
       ∃ v' rd a',Yld hp (sealV (k+1) (.osl esz n ver off len cap)) a' rd∧R T H v' a'∧(noNil a'=true∧closedS v'=true)∧(K v' rd).run=some r:=by
      intro off len part h hpart hle
      have hrl:RL T H part ((es'.drop off).take len):=by subst hpart; exact RL_iff.2 (((RL_iff.1 hes).drop off).take len)
      cases cl with
      |true=>
       simp only at h
       refine⟨_,_,.sl ((es'.drop off).take len),?_,by simp only[R]; exact⟨_,rfl,hrl,by subst hpart; exact closed_part (hcl0 rfl) _ _⟩,⟨rfl,rfl⟩,h⟩
       simp only[sealV]
       refine Yld.mono (Yld.bind (Yld.arr ho' (by omega)) ?_) (rd:=[n]++[]) (fun _ h=>by simpa using h)
       simp only
       rw[if_pos (by omega)]
       simp only[if_true]
       exact Yld.pure _
      |false=>
       simp only at h
       obtain⟨l2,rd,m2,h1,h2,h3,_,h⟩:=ihl _ _ _ hrl h
       refine⟨_,_,.sl m2,?_,by simp only[R]; exact⟨_,rfl,h2,h3.2⟩,⟨rfl,rfl⟩,h⟩
       simp only[sealV]
       refine Yld.mono (Yld.bind (Yld.arr ho' (by omega)) (rd':=rd) ?_) (fun _ h=>by simpa using h)
       simp only
       rw[if_pos (by omega)]
       simp only[Bool.false_eq_true,if_false]
       exact Yld.mono (Yld.bind h1 (Yld.pure _)) (fun _ h=>by simpa using h)
     split at h
     ·simp only at ha
      subst ha
      exact key 0 ver es h (by simp only[List.drop_zero]; rw[List.take_of_length_le (by omega)]) (by omega)
     ·grind[Tr.run]
    ·rename_i g f cur t l ho
     obtain⟨o,ho',hro⟩:=hh.obj ho
     obtain⟨es',rfl,hes⟩:=hro
     split at h
     case h_2=>simp[Tr.run]at h
     rename_i hc
     have hver:=hv.arr hh ho hc
     simp only[SObj.len]at hver
     have hl:=hes.length
     have key:∀ off len,off+len≤l.length→Yld hp (sealV (k+1) (.osl esz n ver off len cap)) (.sl ((es'.drop off).take len)) [n]:=by
      intro off len hle
      simp only[sealV]
      refine Yld.mono (Yld.bind (Yld.arr ho' (by omega)) (rd':=[]) ?_) (fun _ h=>by simpa using h)
      simp only
      rw[if_pos (by omega)]
      simp only[if_true]
      exact Yld.pure _
     split at h
     ·simp only at ha
      subst ha
      refine⟨_,_,_,key 0 ver (by omega),?_,⟨rfl,rfl⟩,h⟩
      simp only[R,List.drop_zero]
      rw[List.take_of_length_le (by omega)]
      exact .inl ⟨_,rfl,hes⟩
     ·rename_i off len
      simp only at ha
      subst ha
      obtain⟨hle,h⟩:=guard_some h
      simp only[decide_eq_true_eq]at hle
      refine⟨_,_,_,key off len hle,?_,⟨rfl,rfl⟩,h⟩
      simp only[R]
      exact .inl ⟨_,rfl,(hes.drop off).take len⟩
    ·simp[Tr.run]at h
   |mp y n=>simp[sealS,Tr.run]at h
   |tsx t l c b=>
    simp only[R]at hr
    simp only[sealS]at h
    rcases hr with ⟨_,l',rfl,hl⟩|⟨_,rfl,rfl|rfl⟩
    ·exact⟨_,_,.sl l',by simp only[sealV]; exact Yld.pure _,by simp only[R]; exact .inl ⟨_,rfl,hl⟩,⟨rfl,rfl⟩,h⟩
    ·exact⟨_,_,.sl [],by simp only[sealV]; exact Yld.pure _,by simp only[R]; exact .inl ⟨_,rfl,trivial⟩,⟨rfl,rfl⟩,h⟩
    ·exact⟨_,_,.sl [],by simp only[sealV]; exact Yld.pure _,by simp only[R]; exact .inl ⟨_,rfl,trivial⟩,⟨rfl,rfl⟩,h⟩
   |nz=>
    simp only[R]at hr
    simp only[sealS]at h
    subst hr
    exact⟨_,_,.sl [],by simp only[sealV]; exact Yld.pure _,by simp only[R]; exact⟨[],rfl,trivial,rfl⟩,⟨rfl,rfl⟩,h⟩
   |xat v s len i=>simp[sealS,Tr.run]at h
  ·cases l with
   |nil=>
    cases m with
    |nil=>
     simp only[sealLS]at h
     exact⟨[],[],[],Yld.pure _,by simp[RL],⟨rfl,rfl⟩,rfl,h⟩
    |cons=>simp[RL]at hr
   |cons x xs=>
    cases m with
    |nil=>simp[RL]at hr
    |cons y ys=>
     simp only[RL]at hr
     simp only[sealLS]at h
     obtain⟨v2,rd,a2,h1,h2,h3,h⟩:=ihv _ _ _ hr.1 h
     obtain⟨l2,rd2,m2,g1,g2,g3,g4,h⟩:=ihl _ _ _ hr.2 h
     refine⟨_,_,a2::m2,?_,by simp only[RL]; exact⟨h2,g2⟩,⟨by simp[noNilL,h3.1,g3.1],by simp[closedLS,h3.2,g3.2]⟩,by simp[g4],h⟩
     simp only[sealL]
     exact Yld.mono (Yld.bind h1 (Yld.bind g1 (Yld.pure _))) (fun _ h=>by simpa using h)
theorem sealS_ok[Glob](hh:RH T H hp){k:Nat}{v:SV T.den}{a:AV}{K:SV T.den→List Nat→Tr ρ}(hr:R T H v a)(h:(sealS T H k v K).run=some r):
  ∃ v' rd a',Yld hp (sealV k a) a' rd∧R T H v' a'∧(noNil a'=true∧closedS v'=true)∧(K v' rd).run=some r:=(seal_ok_both hh k).1 v a K hr h
theorem sealLS_ok[Glob](hh:RH T H hp){k:Nat}{l:List (SV T.den)}{m:List AV}{K:List (SV T.den)→List Nat→Tr ρ}(hr:RL T H l m)(h:(sealLS T H k l K).run=some r):
  ∃ l' rd m',Yld hp (sealL k m) m' rd∧RL T H l' m'∧(noNilL m'=true∧closedLS l'=true)∧l'.length=l.length∧(K l' rd).run=some r:=(seal_ok_both hh k).2 l m K hr h
def FW(T:Tys)(H:SHeap T.den):List (Nat×SObj T.den)→List (Nat×AObj)→Prop:=
 All2 fun p q=>p.1=q.1∧RO T H p.2 q.2∧∃ o,H[p.1]?=some (some o)∧p.2.cur=o.cur∧p.2.len=o.len∧o.isRec=false∧p.2.isRec=false
theorem freezeS_ok[Glob](hh:RH T H hp):∀ {k:Nat} {ns:List Nat} {K:List (Nat×SObj T.den)→List Nat→Tr ρ},(freezeS T H k ns K).run=some r →
  ∃ wr rd w,Yld hp (freezeR k ns) w rd∧FW T H wr w∧(K wr rd).run=some r
 |0,ns,K,h=>by simp[freezeS,Tr.run]at h
 |k+1,[],K,h=>by
  simp only[freezeS]at h
  exact⟨[],[],[],Yld.pure _,trivial,h⟩
 |k+1,n::ns,K,h=>by
  simp only[freezeS]at h
  split at h
  ·rename_i g cl f cur es ho
   obtain⟨o,ho',hro⟩:=hh.obj ho
   obtain⟨es',rfl,hes,hcl0⟩:=hro
   split at h
   ·obtain⟨wr,rd,w,h1,h2,h⟩:=freezeS_ok hh h
    refine⟨(n,.arr g true true cur es)::wr,n::rd,(n,.arr g true true es')::w,?_,⟨⟨rfl,⟨_,rfl,hes,hcl0⟩,_,ho,rfl,rfl,rfl,rfl⟩,h2⟩,h⟩
    simp only[freezeR]
    refine Yld.get ho' ?_
    simp only[if_true]
    exact Yld.mono (Yld.bind h1 (Yld.pure _)) (fun _ h=>by simpa using h)
   ·obtain⟨es2,rd,m2,g1,g2,g3,g4,h⟩:=sealLS_ok hh hes h
    obtain⟨wr,rd2,w,h1,h2,h⟩:=freezeS_ok hh h
    rw[RL.names hes]at h1
    refine⟨(n,.arr g true true cur es2)::wr,n::rd++rd2,(n,.arr g true true m2)::w,?_,⟨⟨rfl,⟨_,rfl,g2,fun _=>g3.2⟩,_,ho,rfl,by simp[SObj.len,g4],rfl,rfl⟩,h2⟩,h⟩
    simp only[freezeR]
    refine Yld.get ho' ?_
    simp only[Bool.false_eq_true,if_false]
    exact Yld.mono (Yld.bind g1 (Yld.bind h1 (Yld.pure _))) (fun _ h=>by simpa using h)
  ·rename_i g f cur t l ho
   obtain⟨o,ho',hro⟩:=hh.obj ho
   obtain⟨es',rfl,hes⟩:=hro
   obtain⟨wr,rd,w,h1,h2,h⟩:=freezeS_ok hh h
   refine⟨(n,.tarr g true cur t l)::wr,n::rd,(n,.arr g true true es')::w,?_,⟨⟨rfl,⟨_,rfl,hes⟩,_,ho,rfl,rfl,rfl,rfl⟩,h2⟩,h⟩
   simp only[freezeR]
   refine Yld.get ho' ?_
   simp only[if_true]
   exact Yld.mono (Yld.bind h1 (Yld.pure _)) (fun _ h=>by simpa using h)
  ·simp[Tr.run]at h
theorem FW.names:∀ {wr:List (Nat×SObj T.den)} {w:List (Nat×AObj)},FW T H wr w→wr.map (·.1)=w.map (·.1)
 |[],[],_=>rfl
 |_::_,_::_,h=>by simp only[List.map_cons]; rw[h.1.1,FW.names h.2]
 |[],_::_,h=>h.elim
 |_::_,[],h=>h.elim
theorem FW.apply[Glob]:∀ {wr:List (Nat×SObj T.den)} {w:List (Nat×AObj)} {H:SHeap T.den} {hp:AHeap},RH T H hp→FW T H wr w →
  Grow H (applyWrS H wr)∧RH T (applyWrS H wr) (applyWr hp w)∧(∀ n:Nat,n∉wr.map (·.1)→(applyWrS H wr)[n]?=H[n]?)∧(applyWrS H wr).length=H.length
 |[],[],H,hp,hh,_=>⟨Grow.refl _,hh,fun _ _=>rfl,rfl⟩
 |(n,o')::wr,(n',a')::w,H,hp,hh,h=>by
  obtain⟨⟨e1,h2,o,h3,h4,h5,hr1,hr2⟩,h6⟩:=h
  simp only at e1 h2 h3 h4 h5 hr1 hr2
  subst e1
  obtain⟨hg,hrh⟩:=hh.upd h3 (o':=o') (by omega) (fun _=>h5) h2
  have hlt:=(List.getElem?_eq_some_iff.1 h3).1
  have e1:setObjS H n o'=H.set n (some o'):=by simp[setObjS]; omega
  have e2:setObj hp n a'=hp.set n (some a'):=by simp[setObj]; have:=hh.length; omega
  have h7:FW T (H.set n (some o')) wr w:=by
   refine All2.mono (fun p q hpq=>?_) h6
   obtain⟨q1,q2,o2,q3,q4,q5,q6,q7⟩:=hpq
   refine⟨q1,RO.mono hg q2,?_⟩
   by_cases e:p.1=n
   ·simp_all
   ·grind
  obtain⟨i1,i2,i3,i4⟩:=FW.apply hrh h7
  simp only[applyWrS,applyWr]
  rw[e1,e2]
  refine⟨hg.trans i1,i2,fun m hm=>?_,by rw[i4]; simp⟩
  simp only[List.map_cons,List.mem_cons,not_or]at hm
  rw[i3 m hm.2,List.getElem?_set_ne (Ne.symm hm.1)]
 |[],_::_,_,_,_,h=>h.elim
 |_::_,[],_,_,_,h=>h.elim
theorem FW.recs:∀ {wr:List (Nat×SObj T.den)} {w:List (Nat×AObj)},FW T H wr w→∀ n,recAt H n=true→n∉wr.map (·.1)
 |[],[],_,n,_=>by simp
 |(m,o')::wr,_::w,h,n,hn=>by
  obtain⟨⟨_,_,o,h3,_,_,hr1,_⟩,h6⟩:=h
  simp only at h3
  simp only[List.map_cons,List.mem_cons,not_or]
  refine⟨?_,FW.recs h6 n hn⟩
  rintro rfl
  simp only[recAt,h3,hr1,Bool.false_eq_true]at hn
 |[],_::_,h,_,_=>h.elim
 |_::_,[],h,_,_=>h.elim
theorem FW.re[Glob]{wr:List (Nat×SObj T.den)}{w:List (Nat×AObj)}(hh:RH T H hp)(h:FW T H wr w){v:SV T.den}{a:AV}(hv:∀ H,R T H v a):RE T H hp v wr ⟨a,w⟩:=by
 obtain⟨h1,h2,h3,h4⟩:=FW.apply hh h
 exact⟨.inr (hv _),h2,h1,fun q hq=>by rw[h.names]; exact List.mem_map_of_mem hq,fun n hn _=>h3 n hn,by rw[h4]; exact Nat.le_refl _,h.recs⟩
end
def rpV(T:Tys)(v:TV T.den)(a:AV):Prop:=
 match v with
 |⟨.v t,x⟩=>T.rp t x a
 |⟨.l t,l⟩=>∃ l',a=.sl l'∧All2 (T.rp t) l l'
 |⟨.m _ _,_⟩=>False
theorem upV_R(hT:T.Ok){v:TV T.den}{a:AV}(h:rpV T v a)(H:SHeap T.den):R T H (upV T v) a:=by
 obtain⟨t,x⟩:=v
 cases t with
 |v t=>exact hT.up _ _ _ H h
 |l t=>
  obtain⟨l',rfl,hl⟩:=h
  simp only[upV,R]
  exact .inl ⟨l',rfl,hl⟩
 |m kk t=>exact h.elim
theorem upL_R[Glob](hT:T.Ok)(H:SHeap T.den):∀ {l:List (TV T.den)} {m:List AV},All2 (rpV T) l m→RL T H (upL T l) m
 |[],[],_=>by simp[upL,RL]
 |v::vs,a::as,h=>by
  simp only[upL,List.map_cons,RL]
  exact⟨upV_R hT h.1 H,upL_R hT H h.2⟩
 |[],_::_,h=>h.elim
 |_::_,[],h=>h.elim
theorem tup_R{H:SHeap T.den}{l:List (SV T.den)}{m:List AV}(h:RL T H l m):R T H (tupS l) (tupOf m):=by
 match l,m,h with
 |[],[],h=>simp_all[tupS,tupOf,R]
 |[x],[y],h=>simp only[RL]at h; exact h.1
 |x::x'::xs,y::y'::ys,h=>simp_all[tupS,tupOf,R]
 |[],_::_,h=>simp[RL]at h
 |_::_,[],h=>simp[RL]at h
 |[x],_::_::_,h=>simp[RL]at h
 |_::_::_,[y],h=>simp[RL]at h
theorem dnL_ok(hT:T.Ok){H:SHeap T.den}{ts:List Nat}:∀ {l:List (SV T.den)} {m:List AV} {xs:List (TV T.den)},RL T H l m→dnL T ts l=some xs→All2 (rpV T) xs m:=by
 induction ts with
 |nil=>
  intro l m xs hr h
  cases l with
  |cons=>simp[dnL]at h
  |nil=>
   cases m with
   |cons=>simp[RL]at hr
   |nil=>
    simp[dnL]at h
    subst h
    trivial
 |cons t ts ih=>
  intro l m xs hr h
  cases l with
  |nil=>simp[dnL]at h
  |cons v vs=>
   cases m with
   |nil=>simp[RL]at hr
   |cons a as=>
    simp only[RL]at hr
    simp only[dnL,Option.bind_eq_some_iff,Option.map_eq_some_iff]at h
    obtain⟨x,h1,ys,h2,rfl⟩:=h
    exact⟨hT.dn _ _ _ _ H h1 hr.1,ih hr.2 h2⟩
theorem as_some{den:Nat→Type}{v:TV den}{t:VT}{x:t.den den}(h:v.as t=some x):v=⟨t,x⟩:=by
 obtain⟨t',y⟩:=v
 unfold TV.as at h
 split at h
 ·grind
 ·simp at h
theorem toHL_ok[Glob]{den:Nat→Type}:∀ (ts:List VT) (l:List (TV den)) (x:HL den ts),toHL ts l=some x→ofHL ts x=l
 |[],l,x,h=>by
  cases l with
  |nil=>rfl
  |cons=>cases h
 |[t],l,x,h=>by
  match l,h with
  |[v],h=>
   have h':v.as t=some x:=h
   rw[as_some h']; rfl
  |[],h=>cases h
  |_::_::_,h=>cases h
 |t::u::us,l,x,h=>by
  match l,h with
  |[],h=>cases h
  |v::l',h=>
   change VT.den den t×HL den (u::us) at x
   have h':((v.as t).bind fun x=>(toHL (u::us) l').map fun y=>(x,y))=some x:=h
   obtain⟨a,h1,h2⟩:=Option.bind_eq_some_iff.1 h'
   obtain⟨b,h3,h4⟩:=Option.map_eq_some_iff.1 h2
   subst h4
   have:=toHL_ok _ _ _ h3
   rw[as_some h1,←this]
   rfl
noncomputable def ansC[Glob](C:Ctx)(g:FuncId)(as:List AV):Option (AV×AHeap):=
 match C.intr g with
 |some h=>(h as).map fun r=>(r,[])
 |none=>match runF C g as [] with
  |some (.val v,hpf)=>some (v,hpf)
  |_=>none
noncomputable def ownC[Glob](C:Ctx)(g:FuncId)(as:List AV):Option (AV×AHeap):=
 match C.intrO g with
 |some h=>h as
 |none=>match runF C g as [] with
  |some (.val v,hpf)=>some (v,hpf)
  |_=>none
structure OwnOk[Glob](C:Ctx)(T:Tys)(g:FuncId)(σ:OSumm T):Prop where
 ans:∀ (x:HL T.den (σ.args.map .v)) (as:List AV) (l:List (T.den σ.el)),All2 (rpV T) (ofHL _ x) as→σ.fn x=some l →
  ∃ n cl es hpf,ownC C g as=some (.osl σ.esz n es.length 0 es.length none,hpf)∧hpf[n]?=some (some (.arr true cl false es))∧es.all flat=true∧All2 (T.rp σ.el) l es
structure SumOk[Glob](C:Ctx)(T:Tys)(g:FuncId)(σ:Summ T):Prop where
 kind:C.kind g=.pure
 ans:∀ (x:HL T.den (σ.args.map .v)) (as:List AV) (y:HL T.den (σ.res.map .v)),All2 (rpV T) (ofHL _ x) as→σ.fn x=some y →
  ∃ v hpf l,ansC C g as=some (v,hpf)∧(sealV 1000 v).run hpf=some (tupOf l)∧noNil (tupOf l)=true∧All2 (rpV T) (ofHL _ y) l
section
variable {H:SHeap T.den}{hp:AHeap}{r:ρ}
theorem ownS_ok[Glob](hT:T.Ok){C:Ctx}{g:FuncId}{σ:OSumm T}(hσ:OwnOk C T g σ)(hh:RH T H hp){nm:Nat}(hn:nm=H.length∨H[nm]?=some none){args:List (SV T.den)}{as:List AV}(ha:RL T H args as){K:EK T ρ}
  (h:(ownS T σ nm H args K).run=some r) :
  ∃ v wr rd e lg,ownA C nm g as hp=some (e,lg)∧(∀ n,n∈lg→n∈rd)∧RE T H hp v wr e∧(K v wr rd).run=some r:=by
 unfold ownS at h
 obtain⟨as',rd,as2,h1,h2,_,_,h⟩:=sealLS_ok hh ha h
 split at h
 case h_2=>simp[Tr.run]at h
 rename_i x hx
 rw[Option.bind_eq_some_iff]at hx
 obtain⟨l,hl,hx⟩:=hx
 obtain⟨y,hy,h⟩:=bind_some h
 have hrp:=dnL_ok hT h2 hl
 rw[←toHL_ok _ _ _ hx]at hrp
 obtain⟨n,cl,es,hpf,hans,hob,hfl,hres⟩:=hσ.ans x as2 y hrp hy
 have hlen:y.length=es.length:=All2.length hres
 have hout:(ownOut nm (.osl σ.esz n es.length 0 es.length none) hpf).run hp=some ⟨.osl σ.esz nm es.length 0 es.length none,[(nm,.arr true true false es)]⟩:=by
  simp only[ownOut,hob,hfl,decide_true,Bool.and_self]
  rfl
 have hA:ownA C nm g as hp=some (⟨.osl σ.esz nm es.length 0 es.length none,[(nm,.arr true true false es)]⟩,(sealL 1000 as).log hp):=by
  unfold ownA
  rw[h1.1]
  simp only[Option.bind_some]
  unfold ownC at hans
  cases hi:C.intrO g with
  |some f=>
   simp_all
  |none=>
   rw[hi]at hans
   simp only at hans
   split at hans
   case h_2=>simp at hans
   rename_i v0 hpf0 hrun
   simp only[Option.some.injEq,Prod.mk.injEq]at hans
   obtain⟨rfl,rfl⟩:=hans
   simp only[hrun,Option.bind_some,ownFin,hout,Option.map_some]
 have hg:Gives T H hp (RM.ret (⟨.osl σ.esz nm es.length 0 es.length none,[(nm,.arr true true false es)]⟩:Eff)) (fun v wr _=>K v wr rd) r:=by
  have hv:=verOk_new hh hn (o:=.tarr true false 0 σ.el y)
  simp only[SObj.cur,SObj.len,hlen]at hv
  refine gives_new hh hn (o:=.tarr true false 0 σ.el y) ⟨es,rfl,hres⟩ ?_ (Yld.ret _) h
  right
  simp only[R]
  exact⟨es.length,hv,rfl⟩
 obtain⟨v,wr,rd',e,g1,g2,g3⟩:=hg
 have he:e=⟨.osl σ.esz nm es.length 0 es.length none,[(nm,.arr true true false es)]⟩:=by
  have:=g1.1
  simp only[RM.run,Option.some.injEq]at this
  exact this.symm
 subst he
 exact⟨v,wr,rd,_,_,hA,h1.2,g2,g3⟩
theorem sumS_ok[Glob](hT:T.Ok){C:Ctx}{g:FuncId}{σ:Summ T}(hσ:SumOk C T g σ)(hh:RH T H hp){args:List (SV T.den)}{as:List AV}(ha:RL T H args as){K:EK T ρ}(h:(sumS T σ H args K).run=some r):
  ∃ v wr rd a w lg,runP C g as hp=some (.val a,w)∧(∀ nm,callE C nm false hp (g,as)=some (⟨a,w⟩,lg))∧(∀ n,n∈lg→n∈rd)∧RE T H hp v wr ⟨a,w⟩∧(K v wr rd).run=some r:=by
 unfold sumS at h
 obtain⟨as',rd,as2,h1,h2,_,_,h⟩:=sealLS_ok hh ha h
 split at h
 case h_2=>simp[Tr.run]at h
 rename_i x hx
 rw[Option.bind_eq_some_iff]at hx
 obtain⟨l,hl,hx⟩:=hx
 obtain⟨y,hy,h⟩:=bind_some h
 have hrp:=dnL_ok hT h2 hl
 rw[←toHL_ok _ _ _ hx]at hrp
 obtain⟨v,hpf,m,hans,hseal,hnn,hres⟩:=hσ.ans x as2 y hrp hy
 have hR:∀ H,R T H (tupS (upL T (ofHL _ y))) (tupOf m):=fun H=>tup_R (upL_R hT H hres)
 have hfl:flatS (tupS (upL T (ofHL _ y)))=flat (tupOf m):=R.flat (hR H) hnn
 have hrunP:∀ w,pdone hp as (.val v,hpf)=some (.val (tupOf m),w)→runP C g as hp=some (.val (tupOf m),w)∧(∀ nm,callE C nm false hp (g,as)=some (⟨tupOf m,w⟩,logP hp as (.val v,hpf))):=by
  intro w hw
  unfold ansC at hans
  cases hi:C.intr g with
  |some f=>
   rw[hi]at hans
   simp only[Option.map_eq_some_iff,Prod.mk.injEq]at hans
   obtain⟨r0,hr0,rfl,rfl⟩:=hans
   constructor
   ·rw[runP_intr g hi,h1.1]
    simp only[Option.bind_some,hr0,hw]
   ·intro nm; simp only[callE,hσ.kind,hi,h1.1,Option.bind_some,hr0,doneV,hw]
  |none=>
   rw[hi]at hans
   simp only at hans
   split at hans
   case h_2=>simp at hans
   rename_i v0 hpf0 hrun
   simp only[Option.some.injEq,Prod.mk.injEq]at hans
   obtain⟨rfl,rfl⟩:=hans
   constructor
   ·rw[runP_eq g hi,h1.1]
    simp only[Option.bind_some,hrun,hw]
   ·intro nm; simp only[callE,hσ.kind,hi,h1.1,Option.bind_some,hrun,doneV,hw]
 simp only at h
 split at h
 ·rename_i hf
  rw[hfl]at hf
  have hp1:pdone hp as (.val v,hpf)=some (.val (tupOf m),[]):=by
   rw[pdone_val,hseal]
   simp only[Option.bind_some,pend,hf,cond_true]
  obtain⟨q1,q2⟩:=hrunP _ hp1
  refine⟨_,[],_,_,_,_,q1,q2,fun n hn=>?_,⟨.inr (hR _),hh,Grow.refl _,fun q hq=>by simp at hq,fun _ _ _=>rfl,Nat.le_refl _,fun _ _ h=>by simp at h⟩,h⟩
  simp only[logP,List.mem_append,pureOut,hseal,hf,if_true]at hn
  rcases hn with hn|hn
  ·exact h1.2 n hn
  ·simp[Pure.pure,RM.log]at hn
 ·rename_i hf
  rw[hfl]at hf
  obtain⟨wr,rd2,w,f1,f2,h⟩:=freezeS_ok hh h
  rw[RL.names ha]at f1
  have hp1:pdone hp as (.val v,hpf)=some (.val (tupOf m),w):=by
   rw[pdone_val,hseal]
   simp only[Option.bind_some,pend,hf,cond_false,f1.1,Option.map_some]
  obtain⟨q1,q2⟩:=hrunP _ hp1
  refine⟨_,_,_,_,_,_,q1,q2,fun n hn=>?_,FW.re hh f2 hR,h⟩
  simp only[logP,List.mem_append,pureOut,hseal,hf,Bool.false_eq_true,if_false]at hn
  simp only[List.mem_append]
  rcases hn with hn|hn
  ·exact .inl (h1.2 n hn)
  ·rw[RM.log_bind,f1.1]at hn
   simp only[List.mem_append]at hn
   rcases hn with hn|hn
   ·exact .inr (f1.2 n hn)
   ·simp[Pure.pure,RM.log]at hn
end
end Go.PI
end
section
/- PS, part L: states, regions. -/
namespace Go.PI
variable {T:Tys}{ρ:Type}
theorem forceLit_eq{v:Value}{K:Value→Tr ρ}:forceLit v K=K v:=by
 unfold forceLit
 split<;>rfl
mutual
theorem forceV_eq:∀ {v:SV T.den} {K:SV T.den→Tr ρ},forceV v K=K v
 |.lit v,K=>by simp only[forceV]; exact forceLit_eq
 |.agg l,K=>by simp only[forceV]; exact forceL_eq
 |.tup l,K=>by simp only[forceV]; exact forceL_eq
 |.sl l,K=>by simp only[forceV]; exact forceL_eq
 |.eref e j,K=>by simp only[forceV]; exact forceV_eq
 |.clo fn f c,K=>by simp only[forceV]; rw[forceL_eq,forceL_eq]
 |.ifc t v,K=>by simp only[forceV]; exact forceV_eq
 |.dead,K=>by simp only[forceV]
 |.hole,K=>by simp only[forceV]
 |.tsl t l,K=>by simp only[forceV]
 |.ref n c i j,K=>by simp only[forceV]
 |.asl n c i j ln cp,K=>by simp only[forceV]
 |.osl esz n c rg cap,K=>by simp only[forceV]
 |.mp y n,K=>by simp only[forceV]
 |.tsx t l c b,K=>by simp only[forceV]
 |.nz,K=>by simp only[forceV]
 |.xat v s l i,K=>by simp only[forceV]; exact forceV_eq
theorem forceL_eq:∀ {l:List (SV T.den)} {K:List (SV T.den)→Tr ρ},forceL l K=K l
 |[],K=>by simp only[forceL]
 |x::xs,K=>by simp only[forceL]; rw[forceV_eq,forceL_eq]
end
theorem forceO_eq[Glob]{o:SObj T.den}{K:SObj T.den→Tr ρ}:forceO o K=K o:=by
 cases o with
 |arr g cl f c es=>exact forceL_eq
 |recd fn ps as bd fr=>exact forceL_eq
 |_=>rfl
theorem forceH_eq[Glob]:∀ {H:SHeap T.den} {K:SHeap T.den→Tr ρ},forceH H K=K H
 |[],K=>rfl
 |none::r,K=>by simp only[forceH]; exact forceH_eq
 |some o::r,K=>by simp only[forceH]; rw[forceO_eq,forceH_eq]
theorem forceN_eq:∀ {l:List Nat} {K:List Nat→Tr ρ},forceN l K=K l
 |[],K=>rfl
 |x::r,K=>by simp only[forceN]; exact forceN_eq
theorem forceF_eq[Glob]:∀ {l:SFr T.den} {K:SFr T.den→Tr ρ},forceF l K=K l
 |[],K=>rfl
 |(d,v)::r,K=>by simp only[forceF]; rw[forceV_eq,forceF_eq]
theorem force_eq[Glob]{s:SSt T.den}{K:SSt T.den→Tr ρ}:s.force K=K s:=by
 obtain⟨fn,n,fr,hp,wf,wh,js⟩:=s
 simp only[SSt.force]
 rw[forceF_eq,forceH_eq,forceN_eq,forceN_eq]
theorem stepK_eq[Glob]{s:SSt T.den}{dst:Option Tmp}{v:SV T.den}{wr:List (Nat×SObj T.den)}{K:SSt T.den→Tr ρ}:s.stepK dst v wr K=K (s.step dst v wr):=by
 obtain⟨fn,n,fr,hp,wf,wh,js⟩:=s
 have h1:∀ {K':SHeap T.den→List Nat→Tr ρ},applyK hp wh wr K'=K' (applyWrS hp wr) (wr.map (·.1)++wh):=by
  intro K'
  cases wr with
  |nil=>rfl
  |cons w r=>simp only[applyK]; rw[forceH_eq,forceN_eq]
 simp only[SSt.stepK,h1]
 cases dst with
 |none=>rfl
 |some d=>
  simp only
  split
  ·rename_i hd
   simp only[SSt.step,putS,setF,hd,wfOf]
  ·rename_i hd
   rw[forceV_eq]
   simp only[SSt.step,putS,setF,hd,wfOf]
theorem forceG_eq{ops:Array Oper}:∀ {l:List Oper} {K:List (G×Oper)→Tr ρ},forceG ops l K=K (l.map fun o=>(guardG ops o,o))
 |[],K=>rfl
 |o::r,K=>by
  simp only[forceG,List.map_cons]
  split<;>rename_i h<;>rw[forceG_eq,h]
theorem forceI_eq:∀ {l:List (G×Item)} {K:List (G×Item)→Tr ρ},forceI l K=K l
 |[],K=>rfl
 |(g,⟨i,nm,o⟩)::r,K=>by simp only[forceI]; exact forceI_eq
theorem mapItems_take[Glob]{ops:Array Oper}:∀ (l:List Oper) (m i n:Nat),mapItems (nameOps i n (l.take m)) (l.map fun o=>(guardG ops o,o))=(nameOps i n (l.take m)).map fun x=>(guardG ops x.o,x)
 |[],m,i,n=>by simp[nameOps,mapItems]
 |o::r,0,i,n=>by simp[nameOps,mapItems]
 |o::r,m+1,i,n=>by
  simp only[List.take_succ_cons,nameOps,List.map_cons,mapItems]
  rw[mapItems_take]
def JsOk{den:Nat→Type}(js:List (Nat×LSt))(H:SHeap den)(hp:AHeap):Prop:=∀ n st,lookS js n=some st→recAt H n=true∧loopSt hp n=some st
theorem recAt_lt{den:Nat→Type}{H:SHeap den}{n:Nat}(h:recAt H n=true):n<H.length:=by
 grind[recAt]
theorem recAt_eq{den:Nat→Type}{H H':SHeap den}{n:Nat}(h:H'[n]?=H[n]?):recAt H' n=recAt H n:=by unfold recAt; rw[h]
theorem loopSt_eq{hp hp':AHeap}{n:Nat}(h:hp'[n]?=hp[n]?):loopSt hp' n=loopSt hp n:=by unfold loopSt; rw[h]
theorem JsOk.keep{den:Nat→Type}{js:List (Nat×LSt)}{H H':SHeap den}{hp hp':AHeap}(h:JsOk js H hp)(hk:∀ n,recAt H n=true→H'[n]?=H[n]?∧hp'[n]?=hp[n]?):JsOk js H' hp':=by
 intro n st hn
 obtain⟨h1,h2⟩:=h n st hn
 obtain⟨h3,h4⟩:=hk n h1
 exact⟨by rw[recAt_eq h3]; exact h1,by rw[loopSt_eq h4]; exact h2⟩
theorem applyWr_keep{n:Nat}:∀ {wr:List (Nat×AObj)} {hp:AHeap},n<hp.length→n∉wr.map (·.1)→(applyWr hp wr)[n]?=hp[n]?
 |[],hp,_,_=>rfl
 |(m,o)::wr,hp,hn,hm=>by
  simp only[List.map_cons,List.mem_cons,not_or]at hm
  simp only[applyWr]
  have:n<(setObj hp m o).length∧(setObj hp m o)[n]?=hp[n]?:=by
   grind[setObj]
  rw[applyWr_keep this.1 hm.2,this.2]
theorem JsOk.re[Glob]{js:List (Nat×LSt)}{H:SHeap T.den}{hp:AHeap}(h:JsOk js H hp)(hh:RH T H hp){v:SV T.den}{wr:List (Nat×SObj T.den)}{e:Eff}(he:RE T H hp v wr e):JsOk js (applyWrS H wr) (applyWr hp e.wr):=by
 refine h.keep fun n hn=>⟨he.keep n (he.recs n hn) (recAt_lt hn),applyWr_keep (by rw[←hh.length]; exact recAt_lt hn) fun hc=>?_⟩
 obtain⟨q,hq,rfl⟩:=List.mem_map.1 hc
 exact he.recs _ hn (he.names q hq)
structure RS(T:Tys)(s:SSt T.den)(st:St):Prop where
 fn:s.fn=st.fn
 n:st.fr.length=s.n
 fr:∀ t,RV T s.hp (getF s.fr t) (st.fr.getD t .undef)
 hp:RH T s.hp st.hp
 js:JsOk s.js s.hp st.hp
structure Agree(s s':SSt T.den):Prop where
 fn:s'.fn=s.fn
 n:s'.n=s.n
 fr:∀ t,t∉s'.wf→getF s'.fr t=getF s.fr t
 wf:∀ t,t∈s.wf→t∈s'.wf
 hp:∀ n:Nat,n<s.hp.length→n∉s'.wh→s'.hp[n]?=s.hp[n]?
 wh:∀ n,n∈s.wh→n∈s'.wh
 len:s.hp.length≤s'.hp.length
 grow:Grow s.hp s'.hp
theorem Agree.refl[Glob](s:SSt T.den):Agree s s:=⟨rfl,rfl,fun _ _=>rfl,fun _ h=>h,fun _ _ _=>rfl,fun _ h=>h,Nat.le_refl _,Grow.refl _⟩
theorem Agree.trans[Glob]{s s' s'':SSt T.den}(h:Agree s s')(h':Agree s' s''):Agree s s'' where
 fn:=h'.fn.trans h.fn
 n:=h'.n.trans h.n
 fr:=fun t ht=>by rw[h'.fr t ht,h.fr t (fun hc=>ht (h'.wf t hc))]
 wf:=fun t ht=>h'.wf t (h.wf t ht)
 hp:=fun n hn ht=>by rw[h'.hp n (Nat.lt_of_lt_of_le hn h.len) ht,h.hp n hn (fun hc=>ht (h'.wh n hc))]
 wh:=fun t ht=>h'.wh t (h.wh t ht)
 len:=Nat.le_trans h.len h'.len
 grow:=h.grow.trans h'.grow
theorem getF_set{n d t:Nat}{fr:SFr T.den}{v:SV T.den}:getF (setF n fr d v) t=if t=d∧d<n then v else getF fr t:=by
 unfold setF
 split
 ·rename_i h
  have:=Nat.le_of_ble_eq_true h
  rw[if_neg (by omega)]
 ·rename_i h
  have:¬n≤d:=fun hc=>by rw[Nat.ble_eq_true_of_le hc]at h; simp at h
  simp only[getF]
  split
  ·rename_i he
   have:=Nat.eq_of_beq_eq_true he
   rw[if_pos (by omega)]
  ·rename_i he
   have:¬d=t:=fun hc=>by subst hc; simp at he
   rw[if_neg (by omega)]
theorem getD_set{l:List AV}{d t:Nat}{a u:AV}:(l.set d a).getD t u=if t=d∧d<l.length then a else l.getD t u:=by
 grind
theorem RS.step[Glob]{s:SSt T.den}{st:St}(h:RS T s st){v:SV T.den}{wr:List (Nat×SObj T.den)}{e:Eff}(he:RE T s.hp st.hp v wr e)(dst:Option Tmp):
  RS T (s.step dst v wr) { st with fr:=putA st.fr dst e.val,hp:=applyWr st.hp e.wr }∧Agree s (s.step dst v wr):=by
 refine⟨⟨h.fn,?_,fun t=>?_,he.hp,h.js.re h.hp he⟩,⟨rfl,rfl,fun t ht=>?_,fun t ht=>?_,fun n hn ht=>?_,fun n hn=>?_,he.len,he.grow⟩⟩
 ·simp only[SSt.step,putA]; cases dst<;>simp[h.n]
 ·simp only[SSt.step]
  cases dst with
  |none=>exact(h.fr t).mono he.grow
  |some d=>
   simp only[putS,putA]
   rw[getF_set,getD_set,h.n]
   split
   ·exact he.val
   ·exact(h.fr t).mono he.grow
 ·simp only[SSt.step]at ht ⊢
  cases dst with
  |none=>rfl
  |some d=>
   simp only[wfOf,List.mem_cons,not_or]at ht
   simp only[putS,getF_set]
   rw[if_neg (by omega)]
 ·simp only[SSt.step]
  cases dst with
  |none=>exact ht
  |some d=>exact List.mem_cons_of_mem _ ht
 ·simp only[SSt.step,List.mem_append,not_or]at ht ⊢
  exact he.keep n ht.1 hn
 ·simp only[SSt.step,List.mem_append]
  exact .inr hn
theorem RE_undef[Glob]{H:SHeap T.den}{hp:AHeap}(hh:RH T H hp):RE T H hp (.lit undef) [] ⟨.undef,[]⟩:=
 ⟨RV_lit undef,hh,Grow.refl _,fun q h=>by simp at h,fun _ _ _=>rfl,Nat.le_refl _,fun _ _ h=>by simp at h⟩
theorem closedLS_lits:∀ (c:List Value),closedLS (den:=T.den) (c.map .lit)=true
 |[]=>by simp[closedLS]
 |x::r=>by simp only[List.map_cons,closedLS,closedS,closedLS_lits r,Bool.and_self]
theorem RS.ev[Glob]{s:SSt T.den}{st:St}(h:RS T s st)(o:Operand):RV T s.hp (evalS s.fr o) (evalA st.fr o):=by
 cases o with
 |tmp t=>exact h.fr t
 |const v=>
  simp only[evalS,evalA,constS,constA]
  cases v with
  |agg c=>
   simp only
   by_cases hc:c.toList.all (fun v=>isLeaf (.lit v))=true
   ·rw[if_pos hc,if_pos hc]
    right
    simp only[R]
    exact⟨_,rfl,RL.lits _⟩
   ·rw[if_neg hc]
    exact .inl rfl
  |tuple c=>
   right
   simp only[ofVal,R]
   exact⟨_,rfl,RL.lits _⟩
  |_=>exact RV_lit _
 |global g=>
  simp only[evalS,evalA,globA]
  cases Glob.g g with
  |none=>exact RV_lit _
  |some c=>
   right
   simp only[R]
   exact⟨_,rfl,⟨_,rfl,RL.lits _⟩,by simp only[closedS]; exact closedLS_lits _⟩
 |func f=>exact RV_lit _
theorem wantedS_ok[Glob]{g:G}{s:SSt T.den}{st:St}(h:RS T s st){K:SSt T.den→Bool→Tr ρ}{r:ρ}(hk:(wantedS g s K).run=some r):
  ∃ s' b,RS T s' st∧Agree s s'∧wantG st.fr g=some b∧s'.hp=s.hp∧(K s' b).run=some r:=by
 unfold wantedS at hk
 split at hk
 ·exact⟨s,true,h,Agree.refl _,rfl,rfl,hk⟩
 ·exact⟨s,false,h,Agree.refl _,rfl,rfl,hk⟩
 ·rename_i d want
  split at hk
  ·rename_i b hb
   have ha:=(h.fr d).lit hb
   have key:∀ b',b=b'→RS T (s.step (some d) (.lit (.bool b')) []) st∧Agree s (s.step (some d) (.lit (.bool b')) []):=by
    rintro b' rfl
    have h1:=h.step (v:=.lit (.bool b)) (wr:=[]) (e:=⟨.lit (.bool b),[]⟩) ⟨RV_lit _,h.hp,Grow.refl _,fun q hq=>by simp at hq,fun _ _ _=>rfl,Nat.le_refl _,fun _ _ h=>by simp at h⟩ (some d)
    refine⟨?_,h1.2⟩
    have e:({ st with fr:=putA st.fr (some d) (AV.lit (.bool b)),hp:=applyWr st.hp [] }:St)=st:=by
     have:st.fr.set d (.lit (.bool b))=st.fr:=by
      by_cases hd:d<st.fr.length
      ·refine set_same ?_
       rw[List.getD_eq_getElem?_getD]at ha
       rw[List.getElem?_eq_getElem hd]at ha ⊢
       exact congrArg some ha
      ·exact List.set_eq_of_length_le (Nat.le_of_not_lt hd)
     simp only[putA,applyWr,this]
    rw[e]at h1
    exact h1.1
   have hw:wantG st.fr (.on d want)=some (b==want):=by simp only[wantG]; rw[ha]; rfl
   rcases cond_some hk with ⟨hbb,hk2⟩|⟨hbb,hk2⟩
   ·subst hbb
    rw[stepK_eq]at hk2
    obtain⟨k1,k2⟩:=key true rfl
    exact⟨_,_,k1,k2,hw,rfl,hk2⟩
   ·subst hbb
    rw[stepK_eq]at hk2
    obtain⟨k1,k2⟩:=key false rfl
    exact⟨_,_,k1,k2,hw,rfl,hk2⟩
  ·rename_i x hx
   have ha:=(h.fr d).lit hx
   refine⟨s,false,h,Agree.refl _,?_,rfl,hk⟩
   simp only[wantG]; rw[ha]; rfl
  ·simp[Tr.run]at hk
theorem exOps_ok[Glob]{C:Ctx}{step:Oper→SSt T.den→(SSt T.den→Tr ρ)→Tr ρ}{r:ρ}
  (hstep:∀ o s st K,RS T s st→(step o s K).run=some r→∃ s' st',runO C o st=some (.norm st')∧RS T s' st'∧Agree s s'∧(K s').run=some r) :
  ∀ (l:List (G×Oper)) (s:SSt T.den) (st:St) (K:SSt T.den→Tr ρ),RS T s st→(exOps step l s K).run=some r→∃ s' st',runG C l st=some (.norm st')∧RS T s' st'∧Agree s s'∧(K s').run=some r
 |[],s,st,K,h,hk=>⟨s,st,rfl,h,Agree.refl _,hk⟩
 |(g,o)::l,s,st,K,h,hk=>by
  simp only[exOps]at hk
  obtain⟨s1,b,h1,h2,h3,_,hk⟩:=wantedS_ok h hk
  cases b with
  |false=>
   simp only at hk
   rw[stepK_eq]at hk
   obtain⟨g1,g2⟩:=h1.step (RE_undef h1.hp) o.dst
   obtain⟨s',st',i1,i2,i3,hk⟩:=exOps_ok hstep l _ _ K g1 hk
   refine⟨s',st',?_,i2,(h2.trans g2).trans i3,hk⟩
   simp only[runG,h3]
   exact i1
  |true=>
   simp only at hk
   obtain⟨s2,st2,g1,g2,g3,hk⟩:=hstep o s1 st _ h1 hk
   obtain⟨s',st',i1,i2,i3,hk⟩:=exOps_ok hstep l _ _ K g2 hk
   refine⟨s',st',?_,i2,(h2.trans g3).trans i3,hk⟩
   simp only[runG,h3,g1,Option.bind_some]
   exact i1
def FootLe(a b:Foot):Prop:=a.idx=b.idx∧(∀ n,n∈a.rd→n∈b.rd)∧∀ n,n∈a.wr→n∈b.wr
theorem disj_le{a a' b b':List Nat}(ha:∀ n,n∈a→n∈a')(hb:∀ n,n∈b→n∈b')(h:disj a' b'=true):disj a b=true:=by
 grind[decide_eq_false_iff_not,disj]
theorem footOk_le[Glob]{pr:List Nat}{x x' y y':Foot}(hx:FootLe x x')(hy:FootLe y y')(h:footOk pr x' y'=true):footOk pr x y=true:=by
 unfold footOk at h ⊢
 rw[hx.1,hy.1]
 simp only[Bool.or_eq_true,Bool.and_eq_true]at h ⊢
 refine h.imp id fun h=>⟨disj_le hx.2.2 (fun n hn=>?_) h.1,disj_le hy.2.2 hx.2.1 h.2⟩
 simp only[List.mem_append]at hn ⊢
 exact hn.imp (hy.2.1 n) (hy.2.2 n)
theorem footsOk_le[Glob]{pr:List Nat}:∀ {l l':List Foot},All2 FootLe l l'→footsOk pr l'=true→footsOk pr l=true
 |[],[],_,_=>rfl
 |x::xs,y::ys,h,hk=>by
  simp only[footsOk,Bool.and_eq_true]at hk ⊢
  refine⟨?_,footsOk_le h.2 hk.2⟩
  rw[List.all_eq_true]at hk ⊢
  intro z hz
  obtain⟨i,hi⟩:=List.getElem?_of_mem hz
  obtain⟨z',hz',hle⟩:=All2.get h.2 hi
  exact footOk_le h.1 hle (hk.1 z' (List.mem_of_getElem? hz'))
theorem footsFast_ok{pr:List Nat}{fs:List Foot}(h:footsFast pr fs=true):footsOk pr fs=true:=by
 unfold footsFast at h
 split at h
 ·rename_i hw
  clear h
  induction fs with
  |nil=>rfl
  |cons x xs ih=>
   simp only[List.all_cons,Bool.and_eq_true]at hw
   simp only[footsOk,Bool.and_eq_true]
   refine⟨?_,ih hw.2⟩
   rw[List.all_eq_true]
   intro y hy
   have h2:=List.all_eq_true.1 hw.2 y hy
   have e1:x.wr=[]:=by simpa using hw.1
   have e2:y.wr=[]:=by simpa using h2
   simp[footOk,e1,e2,disj]
 ·exact h
def Named[Glob]:Nat→List Item→Prop
 |_,[]=>True
 |n,x::r=>x.nm=n∧Named (if isAllocOp x.o.op then n+1 else n) r
def countA[Glob](l:List Item):Nat:=(l.filter fun x=>isAllocOp x.o.op).length
theorem countA_cons[Glob](x:Item)(l:List Item):countA (x::l)=(if isAllocOp x.o.op then 1 else 0)+countA l:=by
 grind[countA]
theorem countA_ops[Glob]:∀ (l:List Oper) (i n:Nat),countA (nameOps i n l)=(l.filter fun o=>isAllocOp o.op).length
 |[],_,_=>rfl
 |o::r,i,n=>by
  rw[nameOps,countA_cons,countA_ops r,List.filter_cons]
  split<;>simp[*]<;>omega
theorem named_ops[Glob]:∀ (l:List Oper) (i n:Nat),Named n (nameOps i n l)
 |[],_,_=>trivial
 |_::r,i,n=>⟨rfl,named_ops r (i+1) _⟩
theorem applyWrS_len:∀ {wr:List (Nat×SObj T.den)} {H:SHeap T.den},(∀ q,q∈wr→q.1<H.length)→(applyWrS H wr).length=H.length
 |[],H,_=>rfl
 |(n,o)::wr,H,h=>by
  have h0:=h (n,o) (by simp)
  have e:(setObjS H n o).length=H.length:=by
   grind[setObjS]
  simp only[applyWrS]
  rw[applyWrS_len (fun q hq=>by rw[e]; exact h q (List.mem_cons_of_mem _ hq)),e]
theorem exDraw_ok[Glob]{C:Ctx}{ops:Array Oper}{step:Nat→Oper→SSt T.den→EK T ρ→Tr ρ}{r:ρ}
  (hstep:∀ nm o s st K,RS T s st→(nm=s.hp.length∨s.hp[nm]?=some none)→(isAllocOp o.op=false→nm=s.hp.length)→(step nm o s K).run=some r →
    ∃ v wr rd e lg,runE C nm o st.fr st.hp=some (e,lg)∧(∀ n,n∈lg→n∈rd)∧RE T s.hp st.hp v wr e∧(K v wr rd).run=some r) :
  ∀ (l:List Item) (n:Nat) (s:SSt T.den) (st:St) (fs:List Foot) (K:SSt T.den→List Foot→Tr ρ),Named n l→n+countA l=s.hp.length→(∀ m:Nat,n≤m→m<s.hp.length→s.hp[m]?=some none)→RS T s st →
    (exDraw step (l.map fun x=>(guardG ops x.o,x)) s fs K).run=some r →
    ∃ s' st' fs1 fs2,runDE C ops l st=some (st',fs2)∧All2 FootLe fs2 fs1∧RS T s' st'∧Agree s s'∧(K s' (fs++fs1)).run=some r
 |[],n,s,st,fs,K,_,_,_,h,hk=>⟨s,st,[],[],rfl,trivial,h,Agree.refl _,by simpa[exDraw] using hk⟩
 |x::l,n,s,st,fs,K,hn,hle,hnone,h,hk=>by
  obtain⟨hn1,hn2⟩:=hn
  simp only[List.map_cons,exDraw]at hk
  obtain⟨s1,b,h1,h2,h3,h4,hk⟩:=wantedS_ok h hk
  have hw:wantedA ops st.fr x.o=some b:=by rw[wantG_eq]; exact h3
  cases b with
  |false=>
   simp only at hk
   rw[stepK_eq]at hk
   obtain⟨g1,g2⟩:=h1.step (RE_undef h1.hp) x.o.dst
   have ehp:(s1.step x.o.dst (.lit undef) []).hp=s.hp:=by simp only[SSt.step,applyWrS]; exact h4
   have hinv:∀ m:Nat,(if isAllocOp x.o.op then n+1 else n)≤m→m<(s1.step x.o.dst (.lit undef) []).hp.length→(s1.step x.o.dst (.lit undef) []).hp[m]?=some none:=by
    grind
   have hb:(if isAllocOp x.o.op then n+1 else n)+countA l=s.hp.length:=by
    rw[countA_cons]at hle; split<;>simp_all<;>omega
   ·obtain⟨s',st',fs1,fs2,i1,i2,i3,i4,hk⟩:=exDraw_ok hstep l _ _ _ _ K hn2 (by rw[ehp]; exact hb) hinv g1 hk
    refine⟨s',st',⟨x.idx,[],[]⟩::fs1,⟨x.idx,[],[]⟩::fs2,?_,⟨⟨rfl,fun _ h=>h,fun _ h=>h⟩,i2⟩,i3,(h2.trans g2).trans i4,by simpa using hk⟩
    simp only[runDE,stepE,hw,Option.bind_some]
    have i1':runDE C ops l { st with fr:=putA st.fr x.o.dst .undef }=some (st',fs2):=i1
    rw[i1']; rfl
  |true=>
   simp only at hk
   have hnm:x.at s1.hp.length=s1.hp.length∨s1.hp[x.at s1.hp.length]?=some none:=by
    grind[Item.at]
   obtain⟨v,wr,rd,e,lg,e1,e2,e3,hk⟩:=hstep (x.at s1.hp.length) x.o s1 st _ h1 hnm (fun h=>by simp only[Item.at,h]) hk
   rw[show s1.hp.length=st.hp.length from h1.hp.length]at e1
   split at hk
   case h_2=>simp[Tr.run]at hk
   rename_i hchk
   rw[List.all_eq_true]at hchk
   rw[stepK_eq]at hk
   obtain⟨g1,g2⟩:=h1.step e3 x.o.dst
   have hall:∀ q,q∈wr→q.1<s1.hp.length∧((isAllocOp x.o.op=true∧q.1=x.nm)∨∃ o,s1.hp[q.1]?=some (some o)):=by
    grind
   have elen:(s1.step x.o.dst v wr).hp.length=s.hp.length:=by
    simp only[SSt.step]
    rw[applyWrS_len (fun q hq=>(hall q hq).1),h4]
   have hinv:∀ m:Nat,(if isAllocOp x.o.op then n+1 else n)≤m→m<(s1.step x.o.dst v wr).hp.length→(s1.step x.o.dst v wr).hp[m]?=some none:=by
    intro m hm hml
    rw[elen]at hml
    have hold:s1.hp[m]?=some none:=by rw[h4]; exact hnone m (by split at hm<;>omega) hml
    simp only[SSt.step]
    rw[e3.keep m ?_ (by rw[h4]; exact hml)]
    ·exact hold
    ·grind
   have hb:(if isAllocOp x.o.op then n+1 else n)+countA l=s.hp.length:=by
    rw[countA_cons]at hle; split<;>simp_all<;>omega
   ·obtain⟨s',st',fs1,fs2,i1,i2,i3,i4,hk⟩:=exDraw_ok hstep l _ _ _ _ K hn2 (by rw[elen]; exact hb) hinv g1 hk
    refine⟨s',st',⟨x.idx,rd,wr.map (·.1)⟩::fs1,⟨x.idx,lg,e.wr.map (·.1)⟩::fs2,?_,⟨⟨rfl,e2,fun n hn=>?_⟩,i2⟩,i3,(h2.trans g2).trans i4,by simpa using hk⟩
    ·simp only[runDE,stepE,hw,e1,Option.bind_some,putE]
     rw[if_pos ?_]
     ·simp_all
     ·rw[List.all_eq_true]
      intro q hq
      obtain⟨q',hq',eq'⟩:=List.mem_map.1 (e3.names q hq)
      obtain⟨c1,c2⟩:=hall q' hq'
      rw[eq']at c1 c2
      simp only[Bool.and_eq_true,decide_eq_true_eq,Bool.or_eq_true]
      refine⟨by rw[←h1.hp.length]; exact c1,c2.imp id fun⟨o,ho⟩=>?_⟩
      obtain⟨a,ha,_⟩:=h1.hp.obj ho
      rw[ha]
    ·obtain⟨q,hq,rfl⟩:=List.mem_map.1 hn
     exact e3.names q hq
end Go.PI
end
section
/- PS, part M: what is dropped; results; calls of what is looked into. -/
namespace Go.PI
variable {T:Tys}{ρ:Type}
section
variable {den:Nat→Type}{n:Nat}
mutual
theorem closed_below:∀ {v:SV den},closedS v=true→belowS n v=true
 |.dead,h=>by simp[closedS]at h
 |.hole,h=>by simp[closedS]at h
 |.lit v,h=>rfl
 |.agg l,h=>by simp only[closedS]at h; simp only[belowS]; exact closedL_below h
 |.tup l,h=>by simp only[closedS]at h; simp only[belowS]; exact closedL_below h
 |.sl l,h=>rfl
 |.tsl t l,h=>rfl
 |.tsx t l c b,h=>rfl
 |.nz,h=>rfl
 |.eref e j,h=>rfl
 |.ref ..,h=>by simp[closedS]at h
 |.asl ..,h=>by simp[closedS]at h
 |.osl ..,h=>by simp[closedS]at h
 |.clo fn f c,h=>by
  simp only[closedS,Bool.and_eq_true]at h
  simp only[belowS,Bool.and_eq_true]
  exact⟨closedL_below h.1,closedL_below h.2⟩
 |.ifc t v,h=>by simp only[closedS]at h; simp only[belowS]; exact closed_below h
 |.xat v s l i,h=>by simp only[closedS]at h; simp only[belowS]; exact closed_below h
 |.mp ..,h=>by simp[closedS]at h
theorem closedL_below:∀ {l:List (SV den)},closedLS l=true→belowLS n l=true
 |[],_=>rfl
 |x::xs,h=>by
  simp only[closedLS,Bool.and_eq_true]at h
  simp only[belowLS,Bool.and_eq_true]
  exact⟨closed_below h.1,closedL_below h.2⟩
end
end
section
variable {H:SHeap T.den}{hp:AHeap}{n:Nat}
theorem verOk.take{den:Nat→Type}{H:SHeap den}{m c ver:Nat}(h:verOk H m c ver)(hm:m<n):verOk (H.take n) m c ver:=by
 obtain⟨o,h1,h2,h3⟩:=h
 exact⟨o,by rw[List.getElem?_take_of_lt hm]; exact h1,h2,h3⟩
mutual
theorem R.take:∀ {v:SV T.den} {a:AV},R T H v a→belowS n v=true→R T (H.take n) v a
 |.dead,_,h,_=>by simp[R]at h
 |.hole,_,h,_=>by simpa[R] using h
 |.lit v,a,h,_=>by simpa[R] using h
 |.agg l,a,h,hb=>by
  simp only[R]at h ⊢
  simp only[belowS]at hb
  obtain⟨l',h1,h2⟩:=h
  exact⟨l',h1,RL.take h2 hb⟩
 |.tup l,a,h,hb=>by
  simp only[R]at h ⊢
  simp only[belowS]at hb
  obtain⟨l',h1,h2⟩:=h
  exact⟨l',h1,RL.take h2 hb⟩
 |.sl l,a,h,_=>by
  simp only[R]at h ⊢
  obtain⟨l',h1,h2,h3⟩:=h
  exact⟨l',h1,RL.take h2 (closedL_below h3),h3⟩
 |.tsl t l,a,h,_=>by simpa[R] using h
 |.tsx t l c b,a,h,_=>by simp only[R]at h ⊢; exact h
 |.nz,a,h,_=>by simp only[R]at h ⊢; exact h
 |.eref e j,a,h,_=>by
  simp only[R]at h ⊢
  obtain⟨e',h1,h2,h3⟩:=h
  exact⟨e',h1,R.take h2 (closed_below h3),h3⟩
 |.ref m c i j,a,h,hb=>by
  simp only[R]at h ⊢
  simp only[belowS,decide_eq_true_eq]at hb
  obtain⟨ver,h1,h2⟩:=h
  exact⟨ver,h1,h2.take hb⟩
 |.asl m c i j ln cp,a,h,hb=>by
  simp only[R]at h ⊢
  simp only[belowS,decide_eq_true_eq]at hb
  obtain⟨ver,h1,h2⟩:=h
  exact⟨ver,h1,h2.take hb⟩
 |.osl esz m c rg cap,a,h,hb=>by
  simp only[R]at h ⊢
  simp only[belowS,decide_eq_true_eq]at hb
  obtain⟨ver,h1,h2⟩:=h
  exact⟨ver,h1.take hb,h2⟩
 |.clo fn f c,a,h,hb=>by
  simp only[R]at h ⊢
  simp only[belowS,Bool.and_eq_true]at hb
  obtain⟨f',c',h1,h2,h3⟩:=h
  exact⟨f',c',h1,RL.take h2 hb.1,RL.take h3 hb.2⟩
 |.ifc t v,a,h,hb=>by
  simp only[R]at h ⊢
  simp only[belowS]at hb
  obtain⟨v',h1,h2⟩:=h
  exact⟨v',h1,R.take h2 hb⟩
 |.mp y m,a,h,hb=>by
  simp_all[R,belowS]
 |.xat v s l i,a,h,hb=>by
  simp only[R]at h ⊢
  simp only[belowS]at hb
  obtain⟨a0,h1,h2⟩:=h
  exact⟨a0,R.take h1 hb,h2⟩
theorem RL.take:∀ {l:List (SV T.den)} {m:List AV},RL T H l m→belowLS n l=true→RL T (H.take n) l m
 |[],[],_,_=>by simp[RL]
 |x::xs,y::ys,h,hb=>by
  simp only[RL]at h ⊢
  simp only[belowLS,Bool.and_eq_true]at hb
  exact⟨R.take h.1 hb.1,RL.take h.2 hb.2⟩
 |[],_::_,h,_=>by simp[RL]at h
 |_::_,[],h,_=>by simp[RL]at h
end
theorem verOk.lt{den:Nat→Type}{H:SHeap den}{m c ver:Nat}(h:verOk H m c ver):m<H.length:=by
 obtain⟨o,h1,_⟩:=h
 exact(List.getElem?_eq_some_iff.1 h1).1
mutual
theorem R.lt:∀ {v:SV T.den} {a:AV},R T H v a→belowS H.length v=true
 |.dead,_,h=>by simp[R]at h
 |.hole,_,h=>rfl
 |.lit v,a,h=>rfl
 |.agg l,a,h=>by
  simp only[R]at h
  simp only[belowS]
  obtain⟨l',h1,h2⟩:=h
  exact RL.lt h2
 |.tup l,a,h=>by
  simp only[R]at h
  simp only[belowS]
  obtain⟨l',h1,h2⟩:=h
  exact RL.lt h2
 |.sl l,a,h=>rfl
 |.tsl t l,a,h=>rfl
 |.tsx t l c b,a,h=>rfl
 |.nz,a,h=>rfl
 |.eref e j,a,h=>rfl
 |.ref m c i j,a,h=>by
  simp only[R]at h
  simp only[belowS,decide_eq_true_eq]
  obtain⟨ver,h1,h2⟩:=h
  exact h2.lt
 |.asl m c i j ln cp,a,h=>by
  simp only[R]at h
  simp only[belowS,decide_eq_true_eq]
  obtain⟨ver,h1,h2⟩:=h
  exact h2.lt
 |.osl esz m c rg cap,a,h=>by
  simp only[R]at h
  simp only[belowS,decide_eq_true_eq]
  obtain⟨ver,h1,h2⟩:=h
  exact h1.lt
 |.clo fn f c,a,h=>by
  simp only[R]at h
  simp only[belowS,Bool.and_eq_true]
  obtain⟨f',c',h1,h2,h3⟩:=h
  exact⟨RL.lt h2,RL.lt h3⟩
 |.ifc t v,a,h=>by
  simp only[R]at h
  simp only[belowS]
  obtain⟨v',h1,h2⟩:=h
  exact R.lt h2
 |.mp y m,a,h=>by
  grind[R,belowS]
 |.xat v s l i,a,h=>by
  simp only[R]at h
  simp only[belowS]
  obtain⟨a0,h1,h2⟩:=h
  exact R.lt h1
theorem RL.lt:∀ {l:List (SV T.den)} {m:List AV},RL T H l m→belowLS H.length l=true
 |[],[],_=>rfl
 |x::xs,y::ys,h=>by
  simp only[RL]at h
  simp only[belowLS,Bool.and_eq_true]
  exact⟨R.lt h.1,RL.lt h.2⟩
 |[],_::_,h=>by simp[RL]at h
 |_::_,[],h=>by simp[RL]at h
end
theorem belowL_all{n:Nat}:∀ {l:List AV},belowL n l=l.all (below n)
 |[]=>rfl
 |x::xs=>by simp only[belowL,List.all_cons,belowL_all]
theorem closedA_below:∀ {a:AV},closed a=true→below n a=true
 |.lit _,_=>rfl
 |.agg l,h=>by simp only[Go.PI.closed]at h; simp only[Go.PI.below]; exact closedAL_below h
 |.tup l,h=>by simp only[Go.PI.closed]at h; simp only[Go.PI.below]; exact closedAL_below h
 |.sl _,_|.slx _ _,_|.eref _ _,_|.any,_|.nz,_=>rfl
 |.ref ..,h|.osl ..,h|.asl ..,h|.mp ..,h=>by simp[Go.PI.closed]at h
 |.clo fn f c,h=>by
  simp only[Go.PI.closed,Bool.and_eq_true]at h
  simp only[Go.PI.below,Bool.and_eq_true]
  exact⟨closedAL_below h.1,closedAL_below h.2⟩
 |.ifc t v,h=>by simp only[Go.PI.closed]at h; simp only[Go.PI.below]; exact closedA_below h
where closedAL_below:∀ {l:List AV},closedL l=true→belowL n l=true
 |[],_=>rfl
 |x::xs,h=>by
  simp only[closedL,Bool.and_eq_true]at h
  simp only[belowL,Bool.and_eq_true]
  exact⟨closedA_below h.1,closedAL_below h.2⟩
theorem rp_below(hT:T.Ok){t:Nat}:∀ {l:List (T.den t)} {m:List AV},All2 (T.rp t) l m→belowL n m=true
 |[],[],_=>rfl
 |_::_,_::_,h=>by
  simp only[belowL,Bool.and_eq_true]
  exact⟨closedA_below (hT.closed _ _ _ h.1),rp_below hT h.2⟩
theorem rd_below:∀ {fr:List (SV T.den)} {vs:List AV},All2 (RD T H) fr vs→(fr.all fun v=>isDead v||belowS n v)=belowL n vs
 |[],[],_=>rfl
 |v::fr,a::vs,h=>by
  simp only[List.all_cons,belowL]
  rw[rd_below h.2]
  congr 1
  rcases h.1 with ⟨rfl,rfl⟩|h1
  ·rfl
  ·have:isDead v=false:=by cases v<;>first|rfl|simp[R]at h1
   rw[this,R.below h1]; rfl
theorem oBelow_eq[Glob](hT:T.Ok){o:Option (SObj T.den)}{a:Option AObj}(h:ROo T H o a):oBelowS n o=oBelow n a:=by
 cases o with
 |none=>cases a with
  |none=>rfl
  |some a=>exact h.elim
 |some o=>cases a with
  |none=>exact h.elim
  |some a=>
   cases o with
   |arr g cl f cur es=>
    obtain⟨es',rfl,hes,_⟩:=h
    simp only[oBelowS,oBelow,AObj.below]
    rw[RL.below hes]
   |tarr g f cur t l=>obtain⟨es',rfl,_⟩:=h; rfl
   |junk=>
    rcases h with ⟨g,f,es',rfl⟩|⟨k,vs,rfl,h⟩
    ·rfl
    ·exact(h n).symm
   |tmap kk t m=>
    obtain⟨vs,rfl,h⟩:=h
    exact(rp_below hT h).symm
   |recd fn ps as bd fr=>
    obtain⟨st,vs,rfl,h⟩:=h
    exact rd_below h
theorem all_below[Glob](hT:T.Ok):∀ {l:List (Option (SObj T.den))} {m:List (Option AObj)},All2 (ROo T H) l m→l.all (oBelowS n)=m.all (oBelow n)
 |[],[],_=>rfl
 |_::_,_::_,h=>by simp only[List.all_cons]; rw[oBelow_eq hT h.1,all_below hT h.2]
theorem RO.take[Glob]{o:SObj T.den}{a:AObj}(h:RO T H o a)(hb:oBelowS n (some o)=true):RO T (H.take n) o a:=by
 cases o with
 |arr g cl f cur es=>
  obtain⟨es',h1,h2,h3⟩:=h
  refine⟨es',h1,RL.take h2 ?_,h3⟩
  simp only[oBelowS,Bool.or_eq_true]at hb
  rcases hb with hb|hb
  ·exact closedL_below (h3 hb)
  ·exact hb
 |tarr g f cur t l=>exact h
 |junk=>exact h
 |tmap kk t m=>exact h
 |recd fn ps as bd fr=>
  obtain⟨st,vs,h1,h2⟩:=h
  refine⟨st,vs,h1,All2.of_get h2.length fun i x y hx hy=>?_⟩
  obtain⟨y',hy',hr⟩:=All2.get h2 hx
  rw[hy]at hy'
  simp only[Option.some.injEq]at hy'
  subst hy'
  simp only[oBelowS,List.all_eq_true]at hb
  have:=hb x (List.mem_of_getElem? hx)
  rcases hr with hr|hr
  ·exact .inl hr
  ·have hd:isDead x=false:=by cases x<;>first|rfl|simp[R]at hr
   rw[hd,Bool.false_or]at this
   exact .inr (hr.take this)
theorem RH.take[Glob](hh:RH T H hp)(hb:(H.take n).all (oBelowS n)=true):RH T (H.take n) (hp.take n):=by
 have h:=All2.take hh n
 rw[List.all_eq_true]at hb
 refine All2.of_get h.length fun i x y hx hy=>?_
 obtain⟨y',hy',hr⟩:=All2.get h hx
 rw[hy]at hy'
 simp only[Option.some.injEq]at hy'
 subst hy'
 have:=hb x (List.mem_of_getElem? hx)
 cases x with
 |none=>cases y with
  |none=>trivial
  |some _=>exact hr.elim
 |some o=>cases y with
  |none=>exact hr.elim
  |some a=>exact RO.take hr this
theorem truncS_ok[Glob](hT:T.Ok)(hh:RH T H hp){v:SV T.den}{a:AV}(hv:R T H v a):RH T (truncS n v H) (truncA n a hp)∧R T (truncS n v H) v a:=by
 unfold truncS truncA
 rw[R.below hv,all_below hT (All2.take hh n)]
 by_cases hc:(Go.PI.below n a&&(hp.take n).all (oBelow n))=true
 ·rw[if_pos hc,if_pos hc]
  simp only[Bool.and_eq_true]at hc
  exact⟨hh.take (by rw[all_below hT (All2.take hh n)]; exact hc.2),hv.take (by rw[R.below hv]; exact hc.1)⟩
 ·grind
theorem getF_map{fr:SFr T.den}{t:Nat}:getF (fr.map fun q=>(q.1,forgetS n q.2)) t=forgetS n (getF fr t):=by
 induction fr with
 |nil=>rfl
 |cons q r ih=>
  grind[getF]
theorem RV.forget[Glob]{v:SV T.den}{a:AV}(h:RV T H v a):RV T (H.take n) (forgetS n v) (Go.PI.forget n a):=by
 unfold forgetS Go.PI.forget
 rcases h with rfl|h
 ·left; simp[belowS]
 ·rw[R.below h]
  split
  ·rename_i hb; right; exact h.take (by rw[R.below h]; exact hb)
  ·exact .inl rfl
theorem getD_forget{l:List AV}{t:Nat}:(l.map (Go.PI.forget n)).getD t .undef=Go.PI.forget n (l.getD t .undef):=by
 simp only[List.getD_eq_getElem?_getD,List.getElem?_map]
 cases l[t]?<;>rfl
theorem JsOk.take{js:List (Nat×LSt)}(h:JsOk js H hp)(hj:∀ m x,lookS js m=some x→m<n):JsOk js (H.take n) (hp.take n):=by
 intro m x hm
 obtain⟨h1,h2⟩:=h m x hm
 have hlt:=hj m x hm
 exact⟨by rw[recAt_eq (List.getElem?_take_of_lt hlt)]; exact h1,by rw[loopSt_eq (List.getElem?_take_of_lt hlt)]; exact h2⟩
theorem belowJ_lt{js:List (Nat×LSt)}(h:belowJ js n=true):∀ m x,lookS js m=some x→m<n:=by
 intro m x hm
 have:=List.all_eq_true.1 h _ (lookS_mem hm)
 exact Nat.le_of_ble_eq_true this
theorem reset_ok[Glob](hT:T.Ok){s:SSt T.den}{st:St}(h:RS T s st)(hj:∀ m x,lookS s.js m=some x→m<n):RS T (resetS n s) (resetA n st):=by
 unfold resetS resetA
 rw[all_below hT (All2.take h.hp n)]
 by_cases hc:(st.hp.take n).all (oBelow n)=true
 ·rw[if_pos hc,if_pos hc]
  refine⟨h.fn,by simp[h.n],fun t=>?_,h.hp.take (by rw[all_below hT (All2.take h.hp n)]; exact hc),h.js.take hj⟩
  rw[getF_map,getD_forget]
  exact(h.fr t).forget
 ·rw[if_neg hc,if_neg hc]
  exact h
theorem take_getElem?{den:Nat→Type}{H:SHeap den}{m:Nat}(hm:m<n):(H.take n)[m]?=H[m]?:=List.getElem?_take_of_lt hm
theorem reset_agree[Glob]{s s':SSt T.den}{st:St}(h:RS T s st)(ha:Agree s s'):Agree s (resetS s.hp.length s'):=by
 unfold resetS
 split
 ·refine⟨ha.fn,ha.n,fun t ht=>?_,ha.wf,fun n hn hw=>?_,ha.wh,?_,?_⟩
  ·simp only at ht ⊢
   rw[getF_map,ha.fr t ht]
   unfold forgetS
   rcases h.fr t with hv|hv
   ·rw[hv]; simp[belowS]
   ·rw[if_pos hv.lt]
  ·simp only at hw ⊢
   rw[take_getElem? hn]
   exact ha.hp n hn hw
  ·simp only[List.length_take]
   have:=ha.len
   omega
  ·intro n o ho
   obtain⟨o',h1,h2⟩:=ha.grow n o ho
   have hlt:=(List.getElem?_eq_some_iff.1 ho).1
   exact⟨o',by simp only; rw[take_getElem? hlt]; exact h1,h2⟩
 ·exact ha
theorem resS_ok[Glob](hT:T.Ok){Q:Prg}(hQ:Q.Ok){s:SSt T.den}{st:St}(h:RS T s st){r:ρ}:∀ {rs:List ResultVar} {K:List (SV T.den)→Tr ρ},(resS T Q s rs K).run=some r →
  ∃ l m,(resultsL Q.P st.fr rs).run st.hp=some m∧RL T s.hp l m∧(K l).run=some r
 |[],K,hk=>⟨[],[],rfl,by simp[RL],hk⟩
 |.tmp t::rs,K,hk=>by
  simp only[resS]at hk
  split at hk
  ·simp[Tr.run]at hk
  ·rename_i hne
   obtain⟨l,m,h1,h2,hk⟩:=resS_ok hT hQ h hk
   refine⟨_,st.fr.getD t .undef::m,?_,?_,hk⟩
   ·simp_all[resultsL,resultA,RM.run_bind,RM.run_pure,h1]
   ·simp only[RL]
    refine⟨?_,h2⟩
    rcases h.fr t with hd|hd
    ·simp_all
    ·exact hd
 |.cell a t::rs,K,hk=>by
  simp only[resS]at hk
  split at hk
  case h_2=>simp[Tr.run]at hk
  rename_i m hm
  obtain⟨q,h1,h2,h3,_⟩:=hQ.row _ _ hm
  have:∃ v c rd,Yld st.hp (loadA Q.P t (st.fr.getD a .undef)) c rd∧R T s.hp v c∧(resS T Q s rs fun l=>K (v::l)).run=some r:=
   loadS_ok (K:=fun v _ _=>resS T Q s rs fun l=>K (v::l)) hT h1 h2 h3 h.hp (h.fr a) hk
  obtain⟨v,c,rd,g1,g2,hk⟩:=this
  obtain⟨l,m',i1,i2,hk⟩:=resS_ok hT hQ h hk
  refine⟨_,c::m',?_,?_,hk⟩
  ·simp only[resultsL,resultA,RM.run_bind,g1.1,RM.run_pure,Option.bind_some,i1]
  ·simp only[RL]
   exact⟨g2,i2⟩
theorem resolveS_ok[Glob]{fv:SV T.den}{fa:AV}(hf:RV T H fv fa){args:List (SV T.den)}{as:List AV}(ha:All2 (RV T H) args as){g:FuncId}{l:List (SV T.den)}(h:resolveS fv args=some (g,l)):
  ∃ m,resolveA fa as=some (g,m)∧(l.any isDead=false→RL T H l m):=by
 unfold resolveS at h
 split at h
 ·rename_i f first captured
  simp only[Option.some.injEq,Prod.mk.injEq]at h
  obtain⟨rfl,rfl⟩:=h
  have:=hf.lit rfl
  subst this
  refine⟨_,rfl,fun hd=>?_⟩
  refine live_list ?_ hd
  exact((RL_iff.1 (RL.lits first.toList)).mono fun _ _ h=>.inr h).append ha |>.append ((RL_iff.1 (RL.lits captured.toList)).mono fun _ _ h=>.inr h)
 ·rename_i f first captured
  simp only[Option.some.injEq,Prod.mk.injEq]at h
  obtain⟨rfl,rfl⟩:=h
  have:=hf.live rfl
  simp only[R]at this
  obtain⟨f',c',rfl,h1,h2⟩:=this
  refine⟨_,rfl,fun hd=>?_⟩
  refine live_list ?_ hd
  exact((RL_iff.1 h1).mono fun _ _ h=>.inr h).append ha |>.append ((RL_iff.1 h2).mono fun _ _ h=>.inr h)
 ·simp at h
theorem argsF_get:∀ {l:List (SV T.den)} {d t:Nat},getF (argsF d l) t=if d≤t then (match l[t-d]? with|some v=>v|none=>.lit undef) else .lit undef
 |[],d,t=>by simp[argsF,getF]
 |v::r,d,t=>by
  simp only[argsF,getF]
  split
  ·simp_all
  ·rename_i he
   have hne:d≠t:=fun hc=>by subst hc; simp at he
   rw[argsF_get]
   by_cases hd:d≤t
   ·grind
   ·rw[if_neg hd,if_neg (by omega)]
theorem start_ok[Glob]{f:FuncId}{args:List (SV T.den)}{as:List AV}(ha:RL T H args as)(hh:RH T H hp)(n:Nat)(wh:List Nat){js:List (Nat×LSt)}(hj:JsOk js H hp):
  RS T ⟨f,max n args.length,argsF 0 args,H,[],wh,js⟩ ⟨f,as++List.replicate (n-as.length) .undef,hp⟩:=by
 have hl:=ha.length
 refine⟨rfl,by simp; omega,fun t=>?_,hh,hj⟩
 simp only
 rw[argsF_get]
 simp only[Nat.zero_le,if_true,Nat.sub_zero,List.getD_eq_getElem?_getD]
 by_cases ht:t<as.length
 ·rw[List.getElem?_append_left ht]
  obtain⟨v,hv,hr⟩:=All2.get' (RL_iff.1 ha) (List.getElem?_eq_getElem ht)
  rw[hv,List.getElem?_eq_getElem ht]
  exact .inr hr
 ·rw[List.getElem?_append_right (by omega)]
  have e1:args[t]?=none:=List.getElem?_eq_none (by omega)
  rw[e1]
  simp only
  rw[List.getElem?_replicate]
  split<;>exact RV_lit undef
end
end Go.PI
end
