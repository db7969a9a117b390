/- Part 3 of the proof: texts of this session laid one behind the other. -/
import Derived.Test.YtedjbjphpnkpoaaX2
set_option linter.unusedVariables false
set_option linter.unusedSimpArgs false
section
/- PS, part B: the operations on symbolic values, and the evaluator of code to a tree. -/
namespace Go.PI
structure vT(T:dw)where
 args:List Nat
 el:Nat
 esz:Nat
 fn:HL T.den (args.map .v)→Option (List (T.den el))
inductive Tw where
 |num (d j b:Nat)
 |Yn (d j n:Nat)
 |arr (d n:Nat)
 |name (d:Nat)
 |int (d j:Nat)
structure oa where
 C:Ctx
 T:dw
 sum:FuncId→Option (uJ T)
 hint:FuncId→Nat→Option Hint
 uK:FuncId→Nat→Bool
 M:List (Nat×jX)
 own:FuncId→Option (vT T):=fun _=>none
 tA:FuncId→Nat→Bool:=fun _ _=>false
 tw:FuncId→Tmp→List Tw:=fun _ _=>[]
def oa.Q(S:oa):gM:=⟨S.C.P,S.M,fun _=>false⟩
def oa.Qf(S:oa)(f:FuncId):gM:=⟨S.C.P,S.M,S.tA f⟩
section
variable {T:dw}{ρ:Type}
abbrev EK(T:dw)(ρ:Type):=SV T.den→List (Nat×aB T.den)→List Nat→Tr ρ
def oN(r:Option AV)(K:EK T ρ):Tr ρ:=
 match r with
 |some (.lit v)=>K (.lit v) [] []
 | _ => .no "via"
def xN(r:Option (SV T.den))(rd:List Nat)(K:EK T ρ):Tr ρ:=
 match r with
 |some v=>K v [] rd
 | none => .no "part"
def fW(v:SV T.den)(K:Nat→Tr ρ):Tr ρ:=
 match v with
 |.lit (.int _ n)=>.cond (decide (0≤n)) (K n.toNat) .fail
 |_=>.fail
def Us{den:Nat→Type}:SV den→Bool
 |.lit (.int _ n)=>decide (n=0)
 |_=>false
def jh(d:Nat)(v:Option (SV T.den))(K:Nat→Tr ρ):Tr ρ:=
 match v with
 |none=>K d
 |some v=>fW v K
def fC(i:Nat):Nat→Nat→(Nat→Tr ρ)→Tr ρ
 |0,_,_=>.fail
 |len+1,m,K=>.cond (decide (i=m)) (K m) (fC i len (m+1) K)
def ik(d:Nat):SV T.den→SV T.den
 |.ref n c i j=>.ref n c i (j+d)
 |.bf e j=>.bf e (j+d)
 |.sD v s l i=>.sD (ik d v) s l i
 |v=>v
def gz(e:SV T.den)(j aW:Nat):Nat→Option (List (SV T.den))
 |0=>some []
 |n+1=>(nH false 1 e j).bind fun x=>(gz e (j+aW) aW n).map fun l=>x::l
def uM(k:IntKind):List (SV T.den)→Option (List Int)
 |[]=>some []
 |.lit (.int k' n)::r=>if k'=k then (uM k r).map fun l=>n::l else none
 |_=>none
def tB:List (SV T.den)→Option (List Bool)
 |[]=>some []
 |.lit (.bool b)::r=>(tB r).map fun l=>b::l
 |_=>none
def GI{α:Type}(l:List α)(i:Nat)(d:α):α:=l.getD i d
def KF(i:Nat)(xs:List (SV T.den)):Option (SV T.den):=
 match xs with
 |.lit (.int k n)::r=>(uM k r).map fun l=>.lit (.int k (GI (n::l) i n))
 |.lit (.bool b)::r=>(tB r).map fun l=>.lit (.bool (GI (b::l) i b))
 |_=>none
def Ut(t:Nat)(x:T.den t)(K:SV T.den→Tr ρ):Tr ρ:=
 match T.alt t with
 |none=>K (T.up t x)
 |some f=>.cond (f.1 x) (K (f.2.1 x)) (K (f.2.2 x))
def od(r:jX)(H:ah T.den)(a:SV T.den)(K:EK T ρ):Tr ρ:=
 match a with
 |.ref n c i j=>
  match H[n]? with
  |some (some (.arr _ _ _ cur es))=>(match Nat.beq c cur with
   |true=>(match es[i]? with
    |some e=>xN (nH r.agg r.size e j) [n] K
    | none => .no "memory")
   | false => .no "memory")
  |some (some (.bV _ _ cur t l))=>(match Nat.beq c cur with
   |true=>.bind l[i]? fun x=>Ut t x fun v=>xN (nH r.agg r.size v j) [n] K
   | false => .no "memory")
  | _ => .no "memory"
 |.bf e j=>xN (nH r.agg r.size e j) [] K
 | _ => .no "memory"
def Fj(H:ah T.den)(a:SV T.den)(aW len:Nat):Option (List (SV T.den)×List Nat):=
 match a with
 |.ref n c i j=>(match H[n]? with
  |some (some (.arr _ _ _ cur es))=>(match Nat.beq c cur with
   |true=>(es[i]?).bind fun e=>(gz e j aW len).map fun l=>(l,[n])
   |false=>none)
  |_=>none)
 |.bf e j=>(gz e j aW len).map fun l=>(l,[])
 |_=>none
def GJ(r:jX)(H:ah T.den)(a:SV T.den)(K:EK T ρ):Tr ρ:=
 match a with
 |.sD v aW len i=>
  (match !r.agg&&Nat.beq r.size 1,Fj H v aW len with
  |true,some (xs,rd)=>(match KF i xs with
   |some x=>K x [] rd
   |none=>fC i len 0 fun m=>od r H (ik (m*aW) v) K)
  |_,_=>fC i len 0 fun m=>od r H (ik (m*aW) v) K)
 |a=>od r H a K
def qy(r:jX)(H:ah T.den)(a v:SV T.den)(K:EK T ρ):Tr ρ:=
 match bO v,decide ((bI v).length=r.size)&&(bI v).all gw with
 |false,true=>(match a with
  |.ref n c i j=>
   match H[n]? with
   |some (some (.arr g cl f cur es))=>(match Nat.beq c cur&&!f with
    |true=>(match es[i]? with
     |some e=>(match fU e j (bI v) with
      |some e'=>K (.lit undef) [(n,.arr g (cl&&av (bI v)) f cur (es.set i e'))] [n]
      | none => .no "memory")
     | none => .no "memory")
    | false => .no "memory")
   |some (some (.bV g f cur t l))=>(match Nat.beq c cur&&!f&&av (bI v) with
    |true=>.bind l[i]? fun x=>(match fU (T.up t x) j (bI v) with
     |some e'=>(match T.dn t e' with
      |some y=>K (.lit undef) [(n,.bV g f cur t (l.set i y))] [n]
      | none => .no "memory")
     | none => .no "memory")
    | false => .no "memory")
   | _ => .no "memory"
  | _ => .no "memory")
 | _, _ => .no "memory"
def Fk(l:List (SV T.den))(j aW i m:Nat)(k:IntKind)(y:Int):List Int→List (SV T.den)
 |[]=>l
 |x::r=>Fk (l.set j (.lit (.int k (cond (Nat.beq i m) y x)))) (j+aW) aW i (m+1) k y r
def Fl(H:ah T.den)(a v:SV T.den)(aW len i:Nat):Option (Nat×aB T.den):=
 match a,v with
 |.ref n c i0 j,.lit (.int k y)=>(match H[n]? with
  |some (some (.arr g cl f cur es))=>(match Nat.beq c cur&&!f&&Nat.blt 0 aW,es[i0]? with
   |true,some (.agg l)=>((gz (.agg l) j aW len).bind (uM k)).map fun ns=>
    (n,.arr g cl f cur (es.set i0 (.agg (Fk l j aW i 0 k y ns))))
   |_,_=>none)
  |_=>none)
 |_,_=>none
def Fm(r:jX)(H:ah T.den)(a v:SV T.den)(K:EK T ρ):Tr ρ:=
 match a with
 |.sD b aW len i=>(match Nat.beq r.size 1,Fl H b v aW len i with
  |true,some (n,o)=>K (.lit undef) [(n,o)] [n]
  |_,_=>fC i len 0 fun m=>qy r H (ik (m*aW) b) v K)
 |a=>qy r H a v K
def Fo(Q:gM)(t:TypeId)(parts:List (Nat×SV T.den)):Option (SV T.den):=
 match Q.ty t with
 |some r=>
  match r.kind,r.zero.bind gy with
  |.struct fs,some z=>(match Q.uH fs with
   |some pl=>(zZ (fun i=>pl[i]?) (bI z) parts).map .agg
   |none=>none)
  |.array _ e,some z=>(match Q.ty e with
   |some q=>(zZ (fun i=>some (i*q.size,q.size)) (bI z) parts).map .agg
   |none=>none)
  |_,_=>none
 |none=>none
def pP(Q:gM)(nm:Nat)(t:TypeId)(len:Nat)(parts:List (Nat×SV T.den))(K:EK T ρ):Tr ρ:=
 match Q.elem t with
 |some r=>
  match (r.zero).bind gy with
  |some z=>
   if 0<r.size∧len*r.size≤2^24∧parts.all (fun p=>decide (p.1<len)&&kT r.agg r.size p.2)=true then
    K (.bq r.size nm 0 none (some len)) [(nm,.arr false (av (parts.map (·.2))) false 0 (fo (List.replicate len z) parts))] []
   else .no "buildSlice"
  | none => .no "buildSlice"
 | none => .no "buildSlice"
def rY(Q:gM)(nm:Nat)(t:TypeId)(l c:SV T.den)(K:EK T ρ):Tr ρ:=
 match Q.elemOf t with
 |some (e,r)=>
  match r.zero,T.zero e,decide (0<r.size) with
  |some _,some z,true=>
   fW l fun l=>fW c fun c=>
    .cond (decide (l≤c)&&decide (c*r.bytes≤2^47)&&decide (c<2^62))
     (K (.bq r.size nm 0 (some (0,l)) (some c)) [(nm,.bV false false 0 e (List.replicate c z))] []) .fail
  |_,_,_=>.fail
 |none=>.fail
def rZ(Q:gM)(nm:Nat)(t:TypeId)(l:SV T.den)(K:EK T ρ):Tr ρ:=
 match Q.elemOf t with
 |some (e,r)=>
  match r.zero,T.zero e,decide (0<r.size) with
  |some _,some z,true=>
   fW l fun c=>.cond (decide (c*r.bytes≤2^47)&&decide (c<2^62)) (K (.bq r.size nm 0 none (some c)) [(nm,.bV false false 0 e (List.replicate c z))] []) .fail
  |_,_,_=>.fail
 |none=>.fail
def KG:Operand→Operand→Bool
 |.tmp a,.tmp b=>Nat.beq a b
 |_,_=>false
def mQ(H:ah T.den)(n c:Nat)(rg:Option (Nat×Nat)):Option (Nat×Nat):=
 match rg with
 |some q=>some q
 |none=>match H[n]? with
  |some (some o)=>if Nat.beq c o.cur then some (0,o.len) else none
  |_=>none
def uN:Option (SV T.den)→Option (Option AV)
 |none=>some none
 |some v=>(mO v).map some
def P8(Q:gM)(H:ah T.den)(t:TypeId)(x:SV T.den)(lo hi mx:Option (SV T.den))(K:EK T ρ):Tr ρ:=
 match x with
 |.lit v=>(match uN lo,uN hi,uN mx with
  |some l,some h,some m=>(match mY Q.P t (.lit v) l h m with
   |some (.lit v)=>K (.lit v) [] []
   |some .nz=>K .nz [] []
   | _ => .no "via")
  | _, _, _ => .no "index")
 |.sl xs=>
  (match Q.elem t,mx with
  |some r,none=>jh 0 lo fun l=>jh xs.length hi fun h=>
   fC l (xs.length+1) 0 fun l=>fC h (xs.length+1) 0 fun h=>
    (match decide (l≤h)&&decide (h≤xs.length)&&xs.all (kT r.agg r.size) with
    |true=>K (.sl ((xs.drop l).take (h-l))) [] []
    | false => .no "index")
  | _, _ => .no "index")
 |.jr t' l=>
  (match Q.elem t,mx with
  |some r,none=>(match decide (r.agg=T.agg t')&&decide (r.size=T.size t') with
   |true=>(match lo,hi with
    |none,none=>K (.jr t' l) [] []
    |some lo,none=>fW lo fun a=>.cond (decide (a≤l.length)) (K (.jr t' (l.drop a)) [] []) .fail
    |none,some hi=>fW hi fun b=>.cond (decide (b≤l.length)) (K (.jr t' (l.take b)) [] []) .fail
    |some lo,some hi=>fW lo fun a=>fW hi fun b=>
     .cond (decide (a≤b)&&decide (b≤l.length)) (K (.jr t' ((l.drop a).take (b-a))) [] []) .fail)
   | false => .no "index")
  |some r,some mx=>(match decide (r.agg=T.agg t')&&decide (r.size=T.size t'),hi with
   |true,some hi=>(match lo.isNone&&(Us hi&&Us mx) with
    |true=>K .nz [] []
    |false=>jh 0 lo fun a=>fW hi fun b=>fW mx fun m=>
    .cond (decide (a≤b)&&decide (b≤m)&&decide (m≤l.length)&&decide (a<m)) (K (.wI t' ((l.drop a).take (b-a)) (m-a) (!l.isEmpty)) [] []) .fail)
   | _, _ => .no "index")
  | _, _ => .no "index")
 |.bq esz n c rg cap=>
  (match Q.elem t,mx,mQ H n c rg,H[n]? with
  |some r,none,some (off,len),some (some o)=>(match Nat.beq c o.cur&&decide (esz=r.size) with
   |true=>jh 0 lo fun a=>jh len hi fun b=>
    .cond (decide (a≤b)&&decide (b≤cap.getD (o.len-off))&&decide (0<o.len))
     (K (.bq esz n c (some (off+a,b-a)) (cap.map (·-a))) [] []) .fail
   | false => .no "index")
  |some r,some mx,some (off,len),some (some o)=>(match Nat.beq c o.cur&&decide (esz=r.size),hi with
   |true,some hi=>jh 0 lo fun a=>fW hi fun b=>fW mx fun m=>
    .cond (decide (a≤b)&&decide (b≤m)&&decide (m≤cap.getD (o.len-off))&&decide (0<o.len))
     (K (.bq esz n c (some (off+a,b-a)) (some (m-a))) [] []) .fail
   | _, _ => .no "index")
  | _, _, _, _ => .no "index")
 |.ref n c i j=>(match Q.arr t,mx with
  |some (len,r),none=>jh 0 lo fun l=>jh len hi fun h=>
   fC l len 0 fun l=>fC h (len+1) 0 fun h=>(match decide (l≤h) with
    |true=>K (.iM n c i (j+l*r.size) (h-l) (len-l)) [] []
    |false=>.fail)
  | _, _ => .no "index")
 | _ => .no "index"
def KH(Q:gM)(t:TypeId)(x:SV T.den)(K:EK T ρ):Tr ρ:=
 match Q.arr t,x with
 |some (len,_),.iM n c i j l _=>(match decide (len≤l) with
  |true=>K (.ref n c i j) [] []
  |false=>.fail)
 | _, _ => .no "an array"
def r8(Q:gM)(tA:Bool)(H:ah T.den)(t:TypeId)(x ix:SV T.den)(K:EK T ρ):Tr ρ:=
 fW ix fun i=>
  match x with
  |.sl xs=>(match Q.elem t with
   |some r=>fC i xs.length 0 fun m=>(match xs[m]? with
    |some e=>(match kT r.agg r.size e with
     |true=>K (.bf e 0) [] []
     | false => .no "index")
    | none => .no "index")
   | none => .no "index")
  |.jr t' l=>(match Q.elem t with
   |some r=>(match decide (r.agg=T.agg t')&&decide (r.size=T.size t') with
    |true=>.bind l[i]? fun x=>Ut t' x fun v=>K (.bf v 0) [] []
    | false => .no "index")
   | none => .no "index")
  |.bq esz n c rg _=>(match Q.elem t with
   |some r=>(match decide (0<r.size)&&decide (esz=r.size),mQ H n c rg,H[n]? with
    |true,some (off,len),some (some (.arr ..))=>fC i len 0 fun m=>K (.ref n c (off+m) 0) [] []
    |true,some (off,len),some (some (.bV ..))=>.cond (decide (i<len)) (K (.ref n c (off+i) 0) [] []) .fail
    | _, _, _ => .no "index")
   | none => .no "index")
  |.iM n c k j len _=>(match Q.elem t with
   |some r=>fC i len 0 fun m=>K (.ref n c k (j+m*r.size)) [] []
   | none => .no "index")
  |.ref n c k j=>(match Q.arr t with
   |some (len,r)=>(match tA with
    |true=>.cond (decide (i<len)) (K (.sD (.ref n c k j) r.size len i) [] []) .fail
    |false=>fC i len 0 fun m=>K (.ref n c k (j+m*r.size)) [] [])
   | none => .no "index")
  |.bf e j=>(match Q.arr t with
   |some (len,r)=>(match tA with
    |true=>.cond (decide (i<len)) (K (.sD (.bf e j) r.size len i) [] []) .fail
    |false=>fC i len 0 fun m=>K (.bf e (j+m*r.size)) [] [])
   | none => .no "index")
  | _ => .no "index"
def Fp(Q:gM)(tA:Bool)(t:TypeId)(x ix:SV T.den)(K:EK T ρ):Tr ρ:=
 match x with
 |.lit v=>(match mO ix with
  |some i=>oN (tW Q.P t (.lit v) i) K
  | none => .no "index")
 |.agg l=>
  (match Q.arr t with
  |some (n,r)=>fW ix fun i=>(match tA&&!r.agg&&Nat.beq r.size 1,(gz (.agg l) 0 1 n).bind (KF i) with
   |true,some x=>.cond (decide (i<n)) (K x [] []) .fail
   |_,_=>fC i n 0 fun m=>xN (nH r.agg r.size (.agg l) (m*r.size)) [] K)
  | none => .no "index")
 | _ => .no "index"
inductive Src(den:Nat→Type)where
 |lL (l:List (SV den)) (cl:Bool)
 |yX (t:Nat) (l:List (den t))
def NA(Q:gM)(H:ah T.den)(xt:TypeId)(x:SV T.den)(K:Src T.den→List Nat→Tr ρ):Tr ρ:=
 match Q.isSlice xt with
 |some true=>(match x with
  |.lit (.slice none 0 0)=>K (.lL [] true) []
  |.sl xs=>K (.lL xs true) []
  |.jr t l=>K (.yX t l) []
  |.bq _ n c rg _=>(match H[n]? with
   |some (some (.arr _ cl _ cur es))=>(match Nat.beq c cur with
    |true=>(match rg with
     |none=>K (.lL es cl) [n]
     |some (off,len)=>if off+len≤es.length then K (.lL ((es.drop off).take len) cl) [n] else .fail)
    | _ => .no "append source")
   |some (some (.bV _ _ cur t l))=>(match Nat.beq c cur with
    |true=>(match rg with
     |none=>K (.yX t l) [n]
     |some (off,len)=>.cond (decide (off+len≤l.length)) (K (.yX t ((l.drop off).take len)) [n]) .fail)
    | _ => .no "append source")
   | _ => .no "append source")
  | _ => .no "append source")
 | _ => .no "append source"
def Src.ok(T:dw)(r:jX):Src T.den→Bool
 |.lL l _=>l.all (kT r.agg r.size)
 |.yX t _=>decide (r.agg=T.agg t)&&decide (r.size=T.size t)
def Src.len{den:Nat→Type}:Src den→Nat
 |.lL l _=>l.length
 |.yX _ l=>l.length
def rk(r:jX)(n:Nat):Bool:=decide (n*r.bytes≤2^44)&&decide (n≤2^44)
def pQ(T:dw)(cur:Nat):aB T.den→Src T.den→Option (aB T.den)
 |.arr _ cl f _ es,.lL ys Yo=>some (.arr true (cl&&Yo) f cur (es++ys))
 |.arr _ true f _ es,.yX t l=>(oM T t es).map fun l0=>.bV true f cur t (l0++l)
 |.bV _ f _ t l,.lL ys true=>(oM T t ys).map fun l2=>.bV true f cur t (l++l2)
 |.bV _ f _ t l,.yX t' l2=>if h:t'=t then some (.bV true f cur t (l++zY h l2)) else none
 |_,_=>none
def aB.flags{den:Nat→Type}:aB den→Bool×Bool×Bool
 |.arr g cl f _ _=>(g,cl,f)
 |.bV g f _ _ _=>(g,true,f)
 |.gY|.ke _ _ _=>(false,true,true)
 |.oU _ _ _ _ _=>(false,false,true)
def aB.xO(T:dw)(r:jX):aB T.den→Bool
 |.arr _ _ _ _ es=>es.all (kT r.agg r.size)
 |.bV _ _ _ t _=>decide (r.agg=T.agg t)&&decide (r.size=T.size t)
 |_=>false
def xP{den:Nat→Type}:Src den→aB den
 |.lL l cl=>.arr true cl false 0 l
 |.yX t l=>.bV true false 0 t l
def oe(T:dw)(y:Src T.den)(a b:Tr ρ):Tr ρ:=
 match y with
 |.lL l _=>(match l with
  |[]=>a
  |_::_=>b)
 |.yX _ l=>.cond l.isEmpty a b
def HT{α:Type}(l:List α)(i:Nat)(ys:List α):List α:=l.take i++(ys++l.drop (i+ys.length))
def uO(T:dw):aB T.den→Nat→Src T.den→Option (aB T.den)
 |.bV g f cur t l,i,.yX t' l2=>if h:t'=t then some (.bV g f cur t (HT l i (zY h l2))) else none
 |.bV g f cur t l,i,.lL ys true=>(oM T t ys).map fun l2=>.bV g f cur t (HT l i l2)
 |_,_,_=>none
def Bd(Q:gM)(nm:Nat)(H:ah T.den)(t xt:TypeId)(s x:SV T.den)(K:EK T ρ):Tr ρ:=
 match Q.elem t with
 | none => .no "append"
 |some r=>NA Q H xt x fun y rd=>
  match (r.zero).isSome&&decide (0<r.size)&&y.ok T r with
  | false => .no "append"
  |true=>(match s with
   |.lit (.slice none 0 0)=>oe T y (K s [] rd)
     (.cond (rk r y.len) (K (.bq r.size nm 0 none none) [(nm,xP y)] rd) .fail)
   |.nz=>oe T y (K s [] rd)
     (.cond (rk r y.len) (K (.bq r.size nm 0 none none) [(nm,xP y)] rd) .fail)
   |.sl _|.jr _ _=>oe T y (K s [] rd) .fail
   |.wI t' l c b=>oe T y (K (.jr t' l) [] rd)
     (.cond (b&&decide (c<l.length+y.len)&&rk r (l.length+y.len))
       (match decide (r.agg=T.agg t')&&decide (r.size=T.size t'),pQ T 0 (.bV true false 0 t' l) y with
       |true,some o'=>K (.bq r.size nm 0 none none) [(nm,o')] rd
       | _, _ => .no "append") .fail)
   |.bq esz n c rg cap=>(match H[n]? with
    |some (some o)=>(match Nat.beq c o.cur&&!o.flags.2.2&&decide (esz=r.size) with
     |true=>(match cap,rg with
      |none,none=>(match y with
       |.lL [] _=>K s [] rd
       |_=>(match o.flags.1,pQ T (o.cur+1) o y with
        |true,some o'=>.cond (rk r (o.len+y.len)) (K (.bq esz n (o.cur+1) none none) [(n,o')] (n::rd)) .fail
        | _, _ => .no "append"))
      |some k,none=>oe T y (K s [] rd)
       (.cond (decide (o.len+y.len≤k)) .fail
         (match o.xO T r,pQ T 0 o y with
         |true,some o'=>.cond (rk r (o.len+y.len)) (K (.bq esz nm 0 none none) [(nm,o')] (n::rd)) .fail
         | _, _ => .no "append"))
      |some k,some (off,len)=>(match uO T o (off+len) y with
        |some o'=>.cond (decide (len+y.len≤k)&&decide (off+len+y.len≤o.len)) (K (.bq esz n c (some (off,len+y.len)) (some k)) [(n,o')] (n::rd)) .fail
        | none => .no "append")
      | _, _ => .no "append")
     | false => .no "append")
    | _ => .no "append")
   | _ => .no "append")
def KI(Q:gM)(H:ah T.den)(t:TypeId)(d x:SV T.den)(K:EK T ρ):Tr ρ:=
 match Q.elem t,Q.isSlice t with
 |some r,some true=>NA Q H t x fun y rd=>(match y.ok T r&&decide (0<r.size),d with
  |true,.bq esz n c rg _=>(match mQ H n c rg,H[n]? with
   |some (off,len),some (some o)=>(match Nat.beq c o.cur&&!o.flags.2.2&&decide (esz=r.size),uO T o off y with
    |true,some o'=>.cond (decide (off+len≤o.len)&&decide (y.len≤len)) (K (.lit (.int .i64 y.len)) [(n,o')] (n::rd)) .fail
    | _, _ => .no "copy")
   | _, _ => .no "copy")
  | _, _ => .no "copy")
 | _, _ => .no "copy"
def P9(Q:gM)(H:ah T.den)(argTypes:Array TypeId)(type:TypeId)(x:SV T.den)(K:EK T ρ):Tr ρ:=
 match argTypes.toList with
 |[t]=>(match Q.isSlice t with
  |some true=>(match x with
   |.lit (.slice none 0 0)=>K (.lit (.int .i64 0)) [] []
   |.nz=>K (.lit (.int .i64 0)) [] []
   |.sl xs=>K (.lit (.int .i64 xs.length)) [] []
   |.jr _ l|.wI _ l _ _=>K (.lit (.int .i64 l.length)) [] []
   |.bq _ n c rg _=>(match mQ H n c rg with
    |some (_,len)=>K (.lit (.int .i64 len)) [] []
    | none => .no "builtin")
   |.iM _ _ _ _ len _=>K (.lit (.int .i64 len)) [] []
   | _ => .no "builtin")
  | none => .no "builtin"
  |some false=>(match x with
   | .lit (.slice none 0 0) => .no "builtin"
   |.lit v=>oN ((bu Q.P (Builtin.len_ argTypes type #[v])).bind gG) K
   |.agg _|.ref ..|.bf ..=>(match Q.arr t with
    |some (n,_)=>K (.lit (.int .i64 n)) [] []
    | none => .no "builtin")
   | _ => .no "builtin"))
 | _ => .no "builtin"
def xQ(Q:gM)(nm:Nat)(H:ah T.den)(b:Builtin)(argTypes:Array TypeId)(type:TypeId)(args:List (SV T.den))(K:EK T ρ):Tr ρ:=
 match b with
 |.append=>(match argTypes.toList,args with
  |[t,xt],[s,x]=>Bd Q nm H t xt s x K
  | _, _ => .no "builtin")
 |.copy=>(match argTypes.toList,args with
  |[t,_],[d,x]=>KI Q H t d x K
  | _, _ => .no "builtin")
 |.len=>(match args with
  |[x]=>P9 Q H argTypes type x K
  | _ => .no "builtin")
 |.max=>(match mu args with
  |some vs=>oN ((bu Q.P (Builtin.max_ argTypes type vs.toArray)).bind gG) K
  | none => .no "builtin")
 |.min=>(match mu args with
  |some vs=>oN ((bu Q.P (Builtin.min_ argTypes type vs.toArray)).bind gG) K
  | none => .no "builtin")
 | _ => .no "builtin"
def Qa(op:BinOp)(k:IntKind)(a b:Int):Option Value:=
 match op with
 |.lss=>some (.bool (decide (a<b)))
 |.leq=>some (.bool (decide (a≤b)))
 |.gtr=>some (.bool (decide (b<a)))
 |.geq=>some (.bool (decide (b≤a)))
 |.eql=>some (.bool (a==b))
 |.neq=>some (.bool (!(a==b)))
 |.add=>some (.int k (k.wrap (a+b)))
 |.sub=>some (.int k (k.wrap (a-b)))
 |.mul=>some (.int k (k.wrap (a*b)))
 |_=>none
def Qb(op:BinOp)(k:IntKind)(a b:Int):Option Value:=
 match op with
 |.quo=>some (.int k (k.wrap (a.tdiv b)))
 |.rem=>some (.int k (a.tmod b))
 |_=>none
def VW(op:BinOp)(k:IntKind)(a b:Int):Option Value:=
 match op with
 |.shl=>some (.int k (k.wrap (a*2^min b.toNat k.bits)))
 |.shr=>some (.int k (a.fdiv (2^min b.toNat k.bits)))
 |_=>none
def SC:Operand→Bool
 |.tmp _=>true
 |_=>false
def CK.fits:CK→Value→Bool
 |.bool,.bool _=>true
 |.int k,.int k' _=>decide (k=k')
 |.str,.string _=>true
 |_,_=>false
def bk:List CK→List Value→Bool
 |[],[]=>true
 |k::ks,v::vs=>k.fits v&&bk ks vs
 |_,_=>false
def r9:Value→Value→Bool
 |.bool a,.bool b=>a==b
 |.int _ a,.int _ b=>a==b
 |.string a,.string b=>a==b
 |_,_=>false
def cI:List Value→List Value→Bool
 |[],[]=>true
 |x::xs,y::ys=>r9 x y&&cI xs ys
 |_,_=>false
def wJ(x y:Value)(K:Bool→Tr ρ):Tr ρ:=
 match x,y with
 |.bool a,.bool b=>K (a==b)
 |.int _ a,.int _ b=>K (a==b)
 |.string a,.string b=>K (a==b)
 |_,_=>K false
def kU:List Value→List Value→(Bool→Tr ρ)→Tr ρ
 |[],[],K=>K true
 |[x],[y],K=>wJ x y K
 |x::x'::xs,y::y'::ys,K=>wJ x y fun e=>kU (x'::xs) (y'::ys) fun r=>K (e&&r)
 |_,_,K=>K false
def Fq(Q:gM)(op:BinOp)(t:TypeId)(l l':List (SV T.den))(K:EK T ρ):Tr ρ:=
 match mu l,mu l',Q.ty t with
 |some c,some c',some m=>
  (match m.ON with
  |some ks=>(match m.agg&&bk ks c&&bk ks c' with
   |true=>kU c c' fun e=>(match op with
    |.eql=>K (.lit (.bool e)) [] []
    |.neq=>K (.lit (.bool (!e))) [] []
    | _ => .no "==")
   | false => .no "==")
  | none => .no "==")
 | _, _, _ => .no "=="
def Qc(Q:gM)(op:BinOp)(t:TypeId)(xo yo:Operand)(x y:SV T.den)(K:EK T ρ):Tr ρ:=
 match x,y with
 |.lit (.int k a),.lit (.int k' b)=>(match decide (k=k'),Qa op k a b with
  |true,some v=>K (.lit v) [] []
  |_,_=>(match decide (k=k'),Qb op k a b with
   |true,some v=>.cond (decide (b=0)) .fail (K (.lit v) [] [])
   |_,_=>(match SC yo,VW op k a b with
    |true,some v=>.cond (decide (b<0)) .fail (K (.lit v) [] [])
    |_,_=>oN (fq Q.P op t xo yo (.lit (.int k a)) (.lit (.int k' b))) K)))
 |.agg l,.agg l'=>Fq Q op t l l' K
 |_,_=>(match mO x,mO y with
  |some a,some b=>oN (fq Q.P op t xo yo a b) K
  |_,_=>(match y with
   |.lit b=>oN (Bb Q.P op t x b) K
   |_=>(match x with
    |.lit a=>oN (Bb Q.P op t y a) K
    |_=>.fail)))
def KJ(t:Bool)(a b:SV T.den)(K:EK T ρ):Tr ρ:=
 match a,b with
 |.lit (.bool x),.lit (.bool y)=>K (.lit (.bool (cond t x y))) [] []
 |.lit (.int k x),.lit (.int k' y)=>if k=k' then K (.lit (.int k (cond t x y))) [] [] else .cond t (K a [] []) (K b [] [])
 |_,_=>.cond t (K a [] []) (K b [] [])
def Be(c:Bool)(v:SV T.den)(b:Bool):SV T.den:=
 match c with
 |true=>.jt [v,.lit (.bool b)]
 |false=>v
def tC{kk qM:KK}{t t':Nat}(h:kk=qM∧t=t')(m:List (kk.D×T.den t)):List (qM.D×T.den t'):=by
 obtain⟨rfl,rfl⟩:=h; exact m
def Bf(Q:gM)(H:ah T.den)(t:TypeId)(x ix:SV T.den)(c:Bool)(K:EK T ρ):Tr ρ:=
 match Q.mapOf t with
 |some (kk,et)=>(match (Q.ty et).bind (·.zero),T.zero et,ix with
  |some _,some z,.lit k=>(match kk.get k,x with
   |some _,.lit (.map none)=>K (Be c (T.up et z) false) [] []
   |some k',.mp false n=>(match H[n]? with
    |some (some (.ke qM t' m))=>
     if h:qM=kk∧t'=et then
      K (Be c (T.up et ((kB kk (tC h m) k').getD z)) (kB kk (tC h m) k').isSome) [] [n]
     else .no "map"
    | _ => .no "map")
   | _, _ => .no "map")
  | _, _, _ => .no "map")
 | none => .no "map"
def sa(Q:gM)(H:ah T.den)(t:TypeId)(x ix v:SV T.den)(K:EK T ρ):Tr ρ:=
 match Q.mapOf t with
 |some (kk,_)=>(match ix,x with
  |.lit k,.mp false n=>(match kk.get k,H[n]? with
   |some k',some (some (.ke qM t' m))=>
    (match bO v,T.dn t' v with
    | false, some y => if h : qM = kk ∧ t' = t' then K (.lit undef) [(n, .ke kk t' (mM kk (tC h m) k' y))] [n] else .no "map"
    | _, _ => .no "map")
   | _, _ => .no "map")
  | _, _ => .no "map")
 | none => .no "map"
def xR(Q:gM)(nm:Nat)(t:TypeId)(r:Option (SV T.den))(K:EK T ρ):Tr ρ:=
 match Q.mapOf t with
 |some (kk,et)=>jh 0 r fun _=>K (.mp false nm) [(nm,.ke kk et [])] []
 | none => .no "map"
def NB(Q:gM)(nm:Nat)(H:ah T.den)(ev:Operand→SV T.den)(o:Oper)(K:EK T ρ):Tr ρ:=
 match o.op with
 |.move x|.assign x=>K (ev x) [] []
 |.pick c a b=>(match ev c with
  |.lit (.bool t)=>KJ t (ev a) (ev b) K
  | _ => .no "pick")
 |.alloc t=>(match Q.ty t with
  |some r=>(match (r.zero).bind gy with
   |some z=>if 0<r.size then K (.ref nm 0 0 0) [(nm,.arr false true false 0 [z])] [] else .fail
   |none=>.fail)
  |none=>.fail)
 |.box _ x=>
  if (bI (ev x)).all gw=true∧0<(bI (ev x)).length∧bO (ev x)=false then
   K (.ref nm 0 0 0) [(nm, .arr false (av (bI (ev x))) false 0 [ev x])] [] else .no "box"
 | .build t parts => if ((parts.toList.map fun p => (p.1, ev p.2)).any fun p => bO p.2) = true then .no "build" else xN (Fo Q t (parts.toList.map fun p => (p.1, ev p.2))) [] K
 | .buildSlice t len parts => if ((parts.toList.map fun p => (p.1, ev p.2)).any fun p => bO p.2) = true then .no "build" else pP Q nm t len (parts.toList.map fun p => (p.1, ev p.2)) K
 |.load t a=>(match Q.ty t with
  |some r=>GJ r H (ev a) K
  |none=>.fail)
 |.store t a x=>(match Q.ty t with
  |some r=>Fm r H (ev a) (ev x) K
  |none=>.fail)
 |.nilCheck x=>(match ev x with
  |.ref n c i j=>K (.ref n c i j) [] []
  |.bf e j=>K (.bf e j) [] []
  |.gg t y=>K (.gg t y) [] []
  |.iT (.func f) a c=>K (.iT (.func f) a c) [] []
  |.lit (.func (.func f) a c)=>K (.lit (.func (.func f) a c)) [] []
  | _ => .no "nilCheck")
 |.binOp op t x y _=>Qc Q op t x y (ev x) (ev y) K
 |.unOp op _ x=>(match ev x with
  |.lit a=>oN ((bu Q.P (Op.unary op a)).bind gG) K
  | _ => .no "unOp")
 |.convert s d x=>(match ev x with
  |.lit a=>oN ((bu Q.P (convert s d a)).bind gG) K
  | _ => .no "convert")
 |.makeInterface t x=>if (jy Q.P t||(Q.P.underlying t).isNone||bO (ev x))=true then .fail else K (.gg t (ev x)) [] []
 |.makeFunc fn first captured=>
  if first.isEmpty&&captured.isEmpty then K (.lit (.func fn #[] #[])) [] []
  else if (first.toList.map ev).any bO||(captured.toList.map ev).any bO then .fail
  else K (.iT fn (first.toList.map ev) (captured.toList.map ev)) [] []
 |.makeSlice t l c=>(match KG l c with
  |true=>rZ Q nm t (ev l) K
  |false=>rY Q nm t (ev l) (ev c) K)
 |.slice t x lo hi mx=>P8 Q H t (ev x) (lo.map ev) (hi.map ev) (mx.map ev) K
 |.sliceToArrayPointer t x=>KH Q t (ev x) K
 |.fieldAddr s x f=>(match Q.Ur s f,ev x with
  |some (off,_),.ref n c i j=>K (.ref n c i (j+off)) [] []
  |some (off,_),.bf e j=>K (.bf e (j+off)) [] []
  |some (off,_),.sD v aW len i=>K (.sD (ik off v) aW len i) [] []
  | _, _ => .no "fieldAddr")
 |.field s x f=>(match Q.Ur s f,ev x with
  |some (off,r),.agg l=>xN (nH r.agg r.size (.agg l) off) [] K
  | _, _ => .no "field")
 |.indexAddr t x ix=>r8 Q (match o.dst with|some d=>Q.tA d|none=>false) H t (ev x) (ev ix) K
 |.index t x ix=>Fp Q (match o.dst with|some d=>Q.tA d|none=>false) t (ev x) (ev ix) K
 |.makeMap t r=>xR Q nm t (r.map ev) K
 |.lookup t x ix c=>Bf Q H t (ev x) (ev ix) c K
 |.mapUpdate t m k x=>sa Q H t (ev m) (ev k) (ev x) K
 |.extract t ix=>(match ev t with
  |.jt l=>xN l[ix]? [] K
  | _ => .no "extract")
 |.call c=>(match c.callee with
  |.builtin b=>xQ Q nm H b c.argTypes o.type (c.args.toList.map ev) K
  | _ => .no "call")
 | _ => .no "op"
end
section
variable {T:dw}{ρ:Type}
def NC(dst:Option Tmp)(wf:List Nat):List Nat:=
 match dst with
 |some d=>d::wf
 |none=>wf
def bx.step(s:bx T.den)(dst:Option Tmp)(v:SV T.den)(wr:List (Nat×aB T.den)):bx T.den:=
 { s with fr:=KE s.n s.fr dst v,hp:=bc s.hp wr,wf:=NC dst s.wf,wh:=wr.map (·.1)++s.wh }
def xS(v:Value)(K:Value→Tr ρ):Tr ρ:=
 match v with
 |.int k n=>K (.int k n)
 |.bool b=>K (.bool b)
 |.string s=>K (.string s)
 |v=>K v
mutual
def dx:SV T.den→(SV T.den→Tr ρ)→Tr ρ
 |.lit v,K=>xS v fun v=>K (.lit v)
 |.agg l,K=>lM l fun l=>K (.agg l)
 |.jt l,K=>lM l fun l=>K (.jt l)
 |.sl l,K=>lM l fun l=>K (.sl l)
 |.bf e j,K=>dx e fun e=>K (.bf e j)
 |.iT fn f c,K=>lM f fun f=>lM c fun c=>K (.iT fn f c)
 |.gg t v,K=>dx v fun v=>K (.gg t v)
 |.dead,K=>K .dead
 |.hole,K=>K .hole
 |.jr t l,K=>K (.jr t l)
 |.ref n c i j,K=>K (.ref n c i j)
 |.iM n c i j ln cp,K=>K (.iM n c i j ln cp)
 |.bq esz n c rg cap,K=>K (.bq esz n c rg cap)
 |.mp y n,K=>K (.mp y n)
 |.wI t l c b,K=>K (.wI t l c b)
 |.nz,K=>K .nz
 |.sD v s len i,K=>dx v fun v=>K (.sD v s len i)
def lM:List (SV T.den)→(List (SV T.den)→Tr ρ)→Tr ρ
 |[],K=>K []
 |x::xs,K=>dx x fun x=>lM xs fun xs=>K (x::xs)
end
def KL(o:aB T.den)(K:aB T.den→Tr ρ):Tr ρ:=
 match o with
 |.arr g cl f c es=>lM es fun es=>K (.arr g cl f c es)
 |.bV g f c t l=>K (.bV g f c t l)
 |.gY=>K .gY
 |.ke kk t m=>K (.ke kk t m)
 |.oU fn ps as bd fr=>lM fr fun fr=>K (.oU fn ps as bd fr)
def mR:ah T.den→(ah T.den→Tr ρ)→Tr ρ
 |[],K=>K []
 |none::r,K=>mR r fun r=>K (none::r)
 |some o::r,K=>KL o fun o=>mR r fun r=>K (some o::r)
def sb:List Nat→(List Nat→Tr ρ)→Tr ρ
 |[],K=>K []
 |x::r,K=>sb r fun r=>K (x::r)
def Bg:sE T.den→(sE T.den→Tr ρ)→Tr ρ
 |[],K=>K []
 |(d,v)::r,K=>dx v fun v=>Bg r fun r=>K ((d,v)::r)
def bx.force(s:bx T.den)(K:bx T.den→Tr ρ):Tr ρ:=
 match s with
 |⟨fn,n,fr,hp,wf,wh,js⟩=>Bg fr fun fr=>mR hp fun hp=>sb wf fun wf=>sb wh fun wh=>K ⟨fn,n,fr,hp,wf,wh,js⟩
def Fs(hp:ah T.den)(wh:List Nat)(wr:List (Nat×aB T.den))(K:ah T.den→List Nat→Tr ρ):Tr ρ:=
 match wr with
 |[]=>K hp wh
 |w::r=>mR (bc hp (w::r)) fun hp=>sb ((w::r).map (·.1)++wh) fun wh=>K hp wh
def bx.fh(s:bx T.den)(dst:Option Tmp)(v:SV T.den)(wr:List (Nat×aB T.den))(K:bx T.den→Tr ρ):Tr ρ:=
 match s with
 |⟨fn,n,fr,hp,wf,wh,js⟩=>Fs hp wh wr fun hp wh=>
  match dst with
  |none=>K ⟨fn,n,fr,hp,wf,wh,js⟩
  |some d=>(match Nat.ble n d with
   |true=>K ⟨fn,n,fr,hp,d::wf,wh,js⟩
   |false=>dx v fun v=>K ⟨fn,n,(d,v)::fr,hp,d::wf,wh,js⟩)
def og(ops:Array Oper):List Oper→(List (G×Oper)→Tr ρ)→Tr ρ
 |[],K=>K []
 |o::r,K=>(match eV ops o with
  |.always=>og ops r fun l=>K ((.always,o)::l)
  |.never=>og ops r fun l=>K ((.never,o)::l)
  |.on d w=>og ops r fun l=>K ((.on d w,o)::l))
def wK(g:G)(s:bx T.den)(K:bx T.den→Bool→Tr ρ):Tr ρ:=
 match g with
 |.always=>K s true
 |.never=>K s false
 |.on d want=>(match cH s.fr d with
  |.lit (.bool b)=>.cond b (s.fh (some d) (.lit (.bool true)) [] fun s=>K s (true==want)) (s.fh (some d) (.lit (.bool false)) [] fun s=>K s (false==want))
  |.lit (.tuple _)=>K s false
  | _ => .no "guard")
def lN(fv:SV T.den)(args:List (SV T.den)):Option (FuncId×List (SV T.den)):=
 match fv with
 |.lit (.func (.func f) first captured)=>some (f,first.toList.map .lit++args++captured.toList.map .lit)
 |.iT (.func f) first captured=>some (f,first++args++captured)
 |_=>none
mutual
def fX(T:dw)(H:ah T.den):Nat→SV T.den→(SV T.den→List Nat→Tr ρ)→Tr ρ
 | 0, _, _ => .no "seal"
 |k+1,v,K=>match v with
  |.bq _ n c rg _=>(match H[n]? with
   |some (some (.arr _ cl _ cur es))=>(match Nat.beq c cur with
    |true=>(match rg with
     |none=>(match cl with
      |true=>K (.sl es) [n]
      |false=>fY T H k es fun l rd=>K (.sl l) (n::rd))
     |some (off,len)=>if off+len≤es.length then (match cl with
      |true=>K (.sl ((es.drop off).take len)) [n]
      | false => fY T H k ((es.drop off).take len) fun l rd => K (.sl l) (n :: rd)) else .no "seal")
    | false => .no "seal")
   |some (some (.bV _ _ cur t l))=>(match Nat.beq c cur with
    |true=>(match rg with
     |none=>K (.jr t l) [n]
     |some (off,len)=>.cond (decide (off+len≤l.length)) (K (.jr t ((l.drop off).take len)) [n]) .fail)
    | false => .no "seal")
   | _ => .no "seal")
  |.ref n c i j=>(match H[n]? with
   |some (some (.arr _ cl _ cur es))=>(match Nat.beq c cur,es[i]? with
    |true,some e=>(match cl with
     |true=>K (.bf e j) [n]
     |false=>fX T H k e fun e' rd=>K (.bf e' j) (n::rd))
    | _, _ => .no "seal")
   | _ => .no "seal")
  |.iM n c i j ln cp=>(match H[n]? with
   |some (some (.arr _ cl _ cur es))=>(match Nat.beq c cur,es[i]? with
    |true,some (.agg cs)=>(match decide (ln≤cp)&&decide (j+ln≤cs.length) with
     |true=>(match cl with
      |true=>K (.sl ((cs.drop j).take ln)) [n]
      |false=>fY T H k ((cs.drop j).take ln) fun l rd=>K (.sl l) (n::rd))
     | false => .no "seal")
    | _, _ => .no "seal")
   | _ => .no "seal")
  |.agg l=>fY T H k l fun l rd=>K (.agg l) rd
  |.jt l=>fY T H k l fun l rd=>K (.jt l) rd
  |.gg t v=>fX T H k v fun v rd=>K (.gg t v) rd
  |.iT fn f c=>fY T H k f fun f rd=>fY T H k c fun c rd2=>K (.iT fn f c) (rd++rd2)
  |.sl xs=>K (.sl xs) []
  |.jr t l=>K (.jr t l) []
  |.wI t l _ _=>K (.jr t l) []
  |.nz=>K (.sl []) []
  |.bf e j=>K (.bf e j) []
  |.lit v=>(match v with
   |.slice none 0 0=>K (.sl []) []
   |v=>K (.lit v) [])
  | _ => .no "seal"
def fY(T:dw)(H:ah T.den):Nat→List (SV T.den)→(List (SV T.den)→List Nat→Tr ρ)→Tr ρ
 | 0, _, _ => .no "seal"
 |k+1,xs,K=>match xs with
  |[]=>K [] []
  |x::xs=>fX T H k x fun y rd=>fY T H k xs fun ys rd2=>K (y::ys) (rd++rd2)
end
def mv(T:dw)(H:ah T.den):Nat→List Nat→(List (Nat×aB T.den)→List Nat→Tr ρ)→Tr ρ
 | 0, _, _ => .no "seal"
 |k+1,ns,K=>match ns with
  |[]=>K [] []
  |n::r=>(match H[n]? with
   |some (some (.arr g cl _ cur es))=>(match cl with
    |true=>mv T H k r fun l rd=>K ((n,.arr g true true cur es)::l) (n::rd)
    |false=>fY T H 1000 es fun es' rd=>mv T H k (mr es++r) fun l rd2=>K ((n,.arr g true true cur es')::l) (n::rd++rd2))
   |some (some (.bV g _ cur t l))=>mv T H k r fun w rd=>K ((n,.bV g true cur t l)::w) (n::rd)
   | _ => .no "seal")
def HU(T:dw)(σ:uJ T)(H:ah T.den)(args:List (SV T.den))(K:EK T ρ):Tr ρ:=
 fY T H 1000 args fun as rd=>
  match (HR T σ.args as).bind (uI (σ.args.map .v)) with
  |some xs=>.bind (σ.fn xs) fun r=>
   match qR (P7 T (fV (σ.res.map .v) r)) with
   |v=>(match vS v with
    |true=>K v [] rd
    |false=>mv T H 1000 (mr args) fun wr rd2=>K v wr (rd++rd2))
  | none => .no "seal"
def ND(T:dw)(σ:vT T)(nm:Nat)(H:ah T.den)(args:List (SV T.den))(K:EK T ρ):Tr ρ:=
 fY T H 1000 args fun as rd=>
  match (HR T σ.args as).bind (uI (σ.args.map .v)) with
  |some xs=>.bind (σ.fn xs) fun l=>K (.bq σ.esz nm 0 none none) [(nm,.bV true false 0 σ.el l)] rd
  | none => .no "seal"
def fZ(n:Nat)(r:SV T.den)(hp:ah T.den):ah T.den:=
 if bt n r&&(hp.take n).all (jW n) then hp.take n else hp
def qz(n:Nat)(v:SV T.den):SV T.den:=if bt n v then v else .dead
def jJ(n:Nat)(s:bx T.den):bx T.den:=
 if (s.hp.take n).all (jW n) then { s with fr:=s.fr.map fun q=>(q.1,qz n q.2),hp:=s.hp.take n } else s
def sd(T:dw)(Q:gM)(s:bx T.den):List ResultVar→(List (SV T.den)→Tr ρ)→Tr ρ
 |[],K=>K []
 |.tmp t::rs,K=>(match cH s.fr t with
  |.dead=>.fail
  |v=>sd T Q s rs fun l=>K (v::l))
 |.cell a t::rs,K=>(match Q.ty t with
  |some r=>GJ r s.hp (cH s.fr a) fun v _ _=>sd T Q s rs fun l=>K (v::l)
  |none=>.fail)
def keyOf:Code→Nat
 |.region id _ _=>id
 |.seq a _=>keyOf a
 |.cond _ a _=>keyOf a
 |.block _ b|.loop b|.scope b=>keyOf b
 |_=>0
def se(b:Code)(s:bx T.den):Nat:=keyOf b+1000*s.hp.length
def HV(T:dw)(x:TV T.den):Nat:=
 match SB T x with
 |.lit (.int _ m)=>m.toNat
 |_=>0
def isHole{den:Nat→Type}:SV den→Bool
 |.hole=>true
 |_=>false
def fK(H:ah T.den):oW→List (TV T.den)→SV T.den×List (TV T.den)
 |.hole,l=>(.hole,l)
 |.HS esz n rg cap,l=>((match H[n]? with
  |some (some o)=>.bq esz n o.cur rg cap
  |_=>.dead),l)
 |.iM n i j len cap,l=>((match H[n]? with
  |some (some o)=>.iM n o.cur i j len cap
  |_=>.dead),l)
 |.val _,l=>(match l with
  |x::r=>(SB T x,r)
  |[]=>(.dead,[]))
 |.own esz n,l=>((match H[n]? with
  |some (some o)=>.bq esz n o.cur none none
  |_=>.dead),l)
 |.Q8 esz n _ k,l=>(match k with
  |false=>(match l with
   |x::y::r=>((match H[n]? with
    |some (some o)=>.bq esz n o.cur (some (HV T x,HV T y)) none
    |_=>.dead),r)
   |_=>(.dead,[]))
  |true=>(match l with
   |x::y::z::r=>((match H[n]? with
    |some (some o)=>.bq esz n o.cur (some (HV T x,HV T y)) (some (HV T z))
    |_=>.dead),r)
   |_=>(.dead,[])))
def ji(H:ah T.den):List oW→List (TV T.den)→List (SV T.den)×List (TV T.den)
 |[],l=>([],l)
 |p::ps,l=>match fK H p l with
  |(v,l')=>match ji H ps l' with
   |(vs,l'')=>(v::vs,l'')
def mw:aB T.den→cQ→aB T.den
 |.arr g _ f c _,.list t=>.bV g f (c+1) t []
 |.bV g f c _ _,.list t=>.bV g f (c+1) t []
 |.arr g _ f c _,.fix t=>.bV g f c t []
 |.bV g f c _ _,.fix t=>.bV g f c t []
 |.ke kk t _,.map _ _=>.ke kk t []
 |o,_=>o
def rn(H:ah T.den):List (Nat×cQ)→ah T.den
 |[]=>H
 |(n,p)::r=>match H[n]? with
  |some (some o)=>rn (H.set n (some (mw o p))) r
  |_=>rn H r
def jj(H:ah T.den)(o:aB T.den):cQ→List (TV T.den)→aB T.den×List (TV T.den)
 |.list _,l|.fix _,l=>(match o,l with
  |.bV g f c _ _,⟨.l t,x⟩::r=>(.bV g f c t x,r)
  |_,_=>(o,l))
 |.one p,l=>(match o,fK H p l with
  |.arr g cl f c _,(v,r)=>(.arr g cl f c [v],r)
  |_,_=>(o,l))
 |.agg ps,l=>(match o,ji H ps l with
  |.arr g cl f c _,(vs,r)=>(.arr g cl f c [.agg vs],r)
  |_,_=>(o,l))
 |.map _ _,l=>(match o,l with
  |.ke _ _ _,⟨.m kk t,x⟩::r=>(.ke kk t x,r)
  |_,_=>(o,l))
def ga:ah T.den→List (Nat×cQ)→List (TV T.den)→ah T.den
 |H,[],_=>H
 |H,(n,p)::r,l=>match H[n]? with
  |some (some o)=>(match jj H o p l with
   |(o',l')=>ga (H.set n (some o')) r l')
  |_=>ga H r l
def qA(n:Nat)(H:ah T.den):sE T.den→List (Nat×oW)→List (TV T.den)→sE T.den×List (TV T.den)
 |fr,[],l=>(fr,l)
 |fr,(d,p)::r,l=>match fK H p l with
  |(v,l')=>qA n H (tz n fr d v) r l'
def z1(n:Nat)(fr:sE T.den):List Nat→sE T.den
 |[]=>fr
 |d::r=>z1 n (tz n fr d .dead) r
def HW:oX→Option (aB T.den)
 |.gY=>some .gY
 |.list g f t=>some (.bV g f 0 t [])
def a9:Nat→List oX→List (Nat×cQ)
 |_,[]=>[]
 |n,.gY::r=>a9 (n+1) r
 |n,.list _ _ t::r=>(n,.list t)::a9 (n+1) r
def c9(az:List (Nat×oW))(dead:List Nat)(objs:List (Nat×cQ))(ext:List oX)(s:bx T.den)(l:List (TV T.den)):bx T.den:=
 match qA s.n (rn s.hp objs++ext.map HW) (z1 s.n s.fr dead) az l with
 |(fr,l')=>{ s with fr:=fr,hp:=ga (rn s.hp objs++ext.map HW) (objs++a9 s.hp.length ext) l' }
def fD(H:ah T.den)(p:oW)(v:SV T.den):Option (List (TV T.den)):=
 match p with
 |.hole=>(match isHole v with
  |true=>some []
  |false=>none)
 |.HS esz n rg cap=>(match v with
  |.bq xT n' c VX Ft=>(match H[n]? with
   |some (some o)=>if xT=esz∧n'=n∧c=o.cur∧VX=rg∧Ft=cap then some [] else none
   |_=>none)
  |_=>none)
 |.iM n i j len cap=>(match v with
  |.iM n' c i' j' NF Ft=>(match H[n]? with
   |some (some o)=>if n'=n∧c=o.cur∧i'=i∧j'=j∧NF=len∧Ft=cap then some [] else none
   |_=>none)
  |_=>none)
 |.val t=>(match bO v with
  |true=>none
  |false=>match T.dn t v with
   |some x=>some [⟨.v t,x⟩]
   |none=>none)
 |.own esz n=>match v with
  |.bq xT n' c none none=>(match H[n]? with
   |some (some o)=>if xT=esz∧n'=n∧c=o.cur then some [] else none
   |_=>none)
  |_=>none
 |.Q8 esz n t k=>match v with
  |.bq xT n' c rg cap=>(match H[n]?,mQ H n' c rg with
   |some (some o),some (off,len)=>if xT=esz∧n'=n∧c=o.cur then
     (T.dn t (.lit (.int .i64 off))).bind fun x=>(T.dn t (.lit (.int .i64 len))).bind fun y=>(match k,cap with
       |false,none=>some [⟨.v t,x⟩,⟨.v t,y⟩]
       |true,some m=>(T.dn t (.lit (.int .i64 m))).map fun z=>[⟨.v t,x⟩,⟨.v t,y⟩,⟨.v t,z⟩]
       |_,_=>none) else none
   |_,_=>none)
  |_=>none
def hY(H:ah T.den):List oW→List (SV T.den)→Option (List (TV T.den))
 |[],[]=>some []
 |p::ps,v::vs=>(fD H p v).bind fun l=>(hY H ps vs).map fun r=>l++r
 |_,_=>none
def eg(H:ah T.den)(o:aB T.den):cQ→Option (List (TV T.den))
 |.list t|.fix t=>(match o with
  |.bV _ _ _ t' l=>if h:t'=t then some [⟨.l t,zY h l⟩] else none
  |.arr _ true _ _ es=>(oM T t es).map fun l=>[⟨.l t,l⟩]
  |_=>none)
 |.one p=>(match o with
  |.arr _ _ _ _ [v]=>fD H p v
  |_=>none)
 |.agg ps=>(match o with
  |.arr _ _ _ _ [.agg vs]=>hY H ps vs
  |_=>none)
 |.map kk t=>(match o with
  |.ke qM t' m=>if qM=kk∧t'=t then some [⟨.m qM t',m⟩] else none
  |_=>none)
def jY(H:ah T.den):List (Nat×cQ)→Option (List (TV T.den))
 |[]=>some []
 |(n,p)::r=>match H[n]? with
  |some (some o)=>(eg H o p).bind fun l=>(jY H r).map fun m=>l++m
  |_=>none
def pR(H:ah T.den)(fr:sE T.den):List (Nat×oW)→Option (List (TV T.den))
 |[]=>some []
 |(d,p)::r=>(fD H p (cH fr d)).bind fun l=>(pR H fr r).map fun m=>l++m
def uQ(az:List (Nat×oW))(objs:List (Nat×cQ))(s:bx T.den):Option (List (TV T.den)):=
 (pR s.hp s.fr az).bind fun l=>(jY s.hp objs).map fun m=>l++m
def qB(H H':ah T.den)(objs:List (Nat×cQ)):Bool:=
 objs.all fun q=>match H[q.1]?,H'[q.1]? with
  |some (some o),some (some o')=>decide (o.flags=o'.flags)
  |_,_=>false
def gZ(H0 H:ah T.den):List (Nat×cQ)→Tr ρ→Tr ρ
 |[],K=>K
 |(n,.fix _)::r,K=>(match H0[n]?,H[n]? with
  |some (some o),some (some o')=>.cond (decide (o'.len=o.len)) (gZ H0 H r K) .fail
  | _, _ => .no "fix")
 |_::r,K=>gZ H0 H r K
def wL(H0 H:ah T.den)(objs:List (Nat×cQ)):Bool:=
 objs.all fun q=>match q.2 with
  |.list _=>true
  |_=>match H0[q.1]?,H[q.1]? with
   |some (some o),some (some o')=>Nat.beq o.cur o'.cur
   |_,_=>false
def subset(a b:List Nat):Bool:=a.all fun x=>b.contains x
def c7:List Nat→Bool
 |[]=>true
 |x::r=>!r.contains x&&c7 r
def C3(H:ah T.den):Nat→List oX→Bool
 |_,[]=>true
 |n,e::r=>(match H[n]?,e with
  |some (some o),.gY=>o.flags.2.1
  |some (some o),.list g f _=>decide (o.flags=(g,true,f))
  |_,_=>false)&&C3 H (n+1) r
def oW.kf:oW→List Nat
 |.val _|.hole=>[]
 |.own _ n|.Q8 _ n _ _|.HS _ n _ _|.iM n _ _ _ _=>[n]
def cQ.kf:cQ→List Nat
 |.list _|.fix _|.map _ _=>[]
 |.one p=>p.kf
 |.agg ps=>ps.flatMap oW.kf
def sf(lu:Nat)(az:List (Nat×oW))(objs:List (Nat×cQ)):Bool:=
 (az.flatMap (fun q=>q.2.kf)++objs.flatMap (fun q=>q.2.kf)).all fun n=>Nat.blt n lu||(objs.map (·.1)).contains n
def Bh(n:Nat)(az:List (Nat×oW))(dead:List Nat):Bool:=(az.map (·.1)++dead).all fun d=>Nat.blt d n
def sg(az:List (Nat×oW))(dead:List Nat)(objs:List (Nat×cQ))(ext:List oX)(s0 s:bx T.den):Bool:=
 Bh s0.n az dead&&sf s0.hp.length az (objs++a9 s0.hp.length ext)&&subset s.wf (az.map (·.1)++dead)&&subset (s.wh.filter fun n=>decide (n<s0.hp.length)) (objs.map (·.1)) &&
  decide (s.hp.length=s0.hp.length+ext.length)&&qB s0.hp s.hp objs&&wL s0.hp s.hp objs&&C3 s.hp s0.hp.length ext
def GK(H:ah T.den)(l:List (Nat×cQ)):Bool:=l.all fun q=>match H[q.1]?,q.2 with
 |some (some (.arr _ _ _ _ [_])),.one _=>true
 |some (some (.arr _ _ _ _ [_])),.agg _=>true
 |_,_=>false
def HX(h:Hint)(s0 s:bx T.den)(kind:Option Nat)(o:Bc):Option (HL T.den (o.jI h.objs)):=
 match decide (o.kind=kind)&&decide (s.js=o.js)&&(sg o.az (h.az.map (·.1)++h.dead) (jg h.objs o.more) o.ext s0 s&&(c7 ((jg h.objs o.more).map (·.1))&&GK s0.hp o.more)) with
 |true=>(uQ o.az ((jg h.objs o.more)++a9 s0.hp.length o.ext) s).bind (uI (o.jI h.objs))
 |false=>none
def tD(key:Nat)(h:Hint)(s0 s:bx T.den)(kind:Option Nat):(l:List Bc)→(yW T.den h.objs l→Tr ρ)→Tr ρ
 |[],_=>.bad key (some kind) s0 s
 |[o],K=>(match HX h s0 s kind o with
  |some x=>gZ s0.hp s.hp h.objs (K x)
  |none=>.bad key (some kind) s0 s)
 |o::p::r,K=>(match HX h s0 s kind o with
  |some x=>gZ s0.hp s.hp h.objs (K (.inl x))
  |none=>tD key h s0 s kind (p::r) fun x=>K (.inr x))
def jK(h:Hint)(s:bx T.den)(o:Bc)(x:HL T.den (o.jI h.objs)):bx T.den:=
 let s':=c9 o.az (h.az.map (·.1)++h.dead) (jg h.objs o.more) o.ext s (fV (o.jI h.objs) x)
 { s' with wf:=o.az.map (·.1)++(h.az.map (·.1)++(h.dead++s.wf)),wh:=(jg h.objs o.more).map (·.1)++s.wh,js:=o.js }
def Bi(s:bx T.den)(kind:Option Nat):oV T.den:=
 match kind with
 |some id=>.exit id s
 |none=>.ret s
def tU(h:Hint)(s:bx T.den):(l:List Bc)→yW T.den h.objs l→(oV T.den→Tr ρ)→Tr ρ
 |[],_,_=>.fail
 |[o],w,K=>(jK h s o w).force fun s=>K (Bi s o.kind)
 |o::p::r,w,K=>.sum w (fun x=>(jK h s o x).force fun s=>K (Bi s o.kind)) fun w=>tU h s (p::r) w K
def Hint.ok(h:Hint):Bool:=
 c7 (h.az.map (·.1)++h.dead)&&c7 (h.objs.map (·.1))&&h.outs.all fun o=>c7 (o.az.map (·.1))
def vU(step:Oper→bx T.den→(bx T.den→Tr ρ)→Tr ρ):List (G×Oper)→bx T.den→(bx T.den→Tr ρ)→Tr ρ
 |[],s,K=>K s
 |(g,o)::rest,s,K=>wK g s fun s want=>
  match want with
  |false=>s.fh o.dst (.lit undef) [] fun s=>vU step rest s K
  |true=>step o s fun s'=>vU step rest s' K
def lO:List Item→List (G×Oper)→List (G×Item)
 |x::r,(g,_)::l=>(g,x)::lO r l
 |_,_=>[]
def xU:List (G×Item)→(List (G×Item)→Tr ρ)→Tr ρ
 |[],K=>K []
 |(g,⟨i,nm,o⟩)::r,K=>xU r fun l=>K ((g,⟨i,nm,o⟩)::l)
def sh[ab](step:Nat→Oper→bx T.den→EK T ρ→Tr ρ):List (G×Item)→bx T.den→List ft→(bx T.den→List ft→Tr ρ)→Tr ρ
 |[],s,fs,K=>K s fs
 |(g,x)::rest,s,fs,K=>wK g s fun s want=>
  match want with
  |false=>s.fh x.o.dst (.lit undef) [] fun s=>sh step rest s (fs++[⟨x.idx,[],[]⟩]) K
  |true=>step (x.at s.hp.length) x.o s fun v wr rd=>
   match wr.all (fun q=>decide (q.1<s.hp.length)&&((au x.o.op&&decide (q.1=x.nm))||(match s.hp[q.1]? with|some (some _)=>true|_=>false))) with
   |true=>s.fh x.o.dst v wr fun s=>sh step rest s (fs++[⟨x.idx,rd,wr.map (·.1)⟩]) K
   |false=>.fail
end
def pS{T:dw}(esz j nm:Nat)(e:SV T.den):Option (SV T.den):=
 match e with
 |.agg l=>(match l[j]? with
  |some (.lit (.slice none 0 0))=>some (.agg (l.set j (.bq esz nm 0 none none)))
  |_=>none)
 |.lit (.slice none 0 0)=>if j=0 then some (.bq esz nm 0 none none) else none
 |_=>none
def HY{T:dw}{ρ:Type}(d:Tmp):List (Nat×Nat)→bx T.den→(bx T.den→Tr ρ)→Tr ρ
 |[],s,K=>K s
 |(j,esz)::r,s,K=>(match cH s.fr d with
  |.ref n _ i k=>(match s.hp[n]? with
   |some (some (.arr g _ f cur es))=>(match (es[i]?).bind (pS esz (k+j) s.hp.length) with
    |some e'=>s.fh none (.lit undef) [(n,.arr g false f cur (es.set i e')),(s.hp.length,.arr true true false 0 [])] fun s=>HY d r s K
    | none => .no "nil")
   | _ => .no "nil")
  |v=>(match pS esz j s.hp.length v with
   |some v'=>s.fh (some d) v' [(s.hp.length,.arr true true false 0 [])] fun s=>HY d r s K
   | none => .no "nil"))
def C4{T:dw}{ρ:Type}(l:Tmp→List (Nat×Nat))(dst:Option Tmp)(s:bx T.den)(K:bx T.den→Tr ρ):Tr ρ:=
 match dst with
 |some d=>HY d (l d) s K
 |none=>K s
def z2{den:Nat→Type}(j:Nat):SV den→Option (SV den)
 |.agg l=>(match Nat.blt j l.length with
  |true=>some (.agg (l.set j .hole))
  |false=>none)
 |_=>none
def xV{T:dw}{ρ:Type}:List (Nat×Nat)→bx T.den→(bx T.den→Tr ρ)→Tr ρ
 |[],s,K=>K s
 |(d,j)::r,s,K=>(match cH s.fr d with
  |.ref n _ i k=>(match s.hp[n]? with
   |some (some (.arr g _ f cur es))=>(match (es[i]?).bind (z2 (k+j)) with
    |some e'=>s.fh none (.lit undef) [(n,.arr g false f cur (es.set i e'))] fun s=>xV r s K
    | none => .no "a hole")
   | _ => .no "a hole")
  | _ => .no "a hole")
def cellOf{T:dw}(s:bx T.den)(d j:Nat):Option (SV T.den):=
 match cH s.fr d with
 |.ref n _ i k=>(match s.hp[n]? with
  |some (some (.arr _ _ _ _ es))=>(match es[i]? with
   |some (.agg l)=>l[k+j]?
   |_=>none)
  |_=>none)
 |.agg l=>l[j]?
 |v=>(match Nat.beq j 0 with
  |true=>some v
  |false=>none)
def setCell{T:dw}(s:bx T.den)(d j:Nat)(v:SV T.den):bx T.den:=
 match cH s.fr d with
 |.ref n _ i k=>(match s.hp[n]? with
  |some (some (.arr g cl f cur es))=>(match es[i]? with
   |some (.agg l)=>{ s with hp:=s.hp.set n (some (.arr g cl f cur (es.set i (.agg (l.set (k+j) v))))),wh:=n::s.wh }
   |_=>s)
  |_=>s)
 |.agg l=>{ s with fr:=tz s.n s.fr d (.agg (l.set j v)),wf:=d::s.wf }
 |_=>{ s with fr:=tz s.n s.fr d v,wf:=d::s.wf }
def KM{ρ:Type}:Nat→Nat→Int→(Int→Tr ρ)→Tr ρ
 |0,_,_,_=>.fail
 |b+1,m,n,K=>.cond (n==Int.ofNat m) (K (Int.ofNat m)) (KM b (m+1) n K)
def C5{T:dw}{ρ:Type}(t:Nat)(l:List (T.den t)):Nat→Nat→(List (SV T.den)→Tr ρ)→Tr ρ
 |0,_,K=>K []
 |b+1,i,K=>.bind l[i]? fun x=>C5 t l b (i+1) fun xs=>K (T.up t x::xs)
def xW{T:dw}{ρ:Type}(s:bx T.den)(w:Tw)(K:bx T.den→Tr ρ):Tr ρ:=
 match w with
 |.num d j b=>(match cellOf s d j with
  |some (.lit (.int k n))=>KM b 0 n fun m=>(setCell s d j (.lit (.int k m))).force K
  | _ => .no "a number")
 |.Yn d j n=>(match cellOf s d j with
  |some (.jr t l)=>.cond (Nat.blt 0 n&&decide (l.length=n)) (C5 t l n 0 fun xs=>(setCell s d j (.sl xs)).force K) .fail
  | _ => .no "a list")
 |.arr d n=>(match cH s.fr d with
  |.bq _ nm _ _ _=>(match s.hp[nm]? with
   |some (some (.bV g f cur t l))=>.cond (decide (l.length=n)) (C5 t l n 0 fun xs=>bx.force { s with hp:=s.hp.set nm (some (.arr g true f cur xs)),wh:=nm::s.wh } K) .fail
   | _ => .no "an array")
  | _ => .no "an array")
 |.int d j=>(match cellOf s d j with
  |some (.lit (.int k n))=>.bind (some n) fun n=>(setCell s d j (.lit (.int k n))).force K
  | _ => .no "a number")
 |.name d=>(match cH s.fr d with
  |.bq esz nm c rg cap=>(match s.hp[nm]? with
   |some (some (.bV g f cur t l))=>.bind (some l) fun l=>(match rg with
    |none=>bx.force { s with hp:=s.hp.set nm (some (.bV g f cur t l)),wh:=nm::s.wh } K
    |some (off,len)=>.bind (some off) fun off=>.bind (some len) fun len=>
     bx.force { s with fr:=tz s.n s.fr d (.bq esz nm c (some (off,len)) cap),hp:=s.hp.set nm (some (.bV g f cur t l)),wf:=d::s.wf,wh:=nm::s.wh } K)
   | _ => .no "a name")
  | _ => .no "a name")
def SD{T:dw}{ρ:Type}:List Tw→bx T.den→(bx T.den→Tr ρ)→Tr ρ
 |[],s,K=>K s
 |w::r,s,K=>xW s w fun s=>SD r s K
def SE{T:dw}{ρ:Type}(l:Tmp→List Tw)(dst:Option Tmp)(s:bx T.den)(K:bx T.den→Tr ρ):Tr ρ:=
 match dst with
 |some d=>SD (l d) s K
 |none=>K s
def wu{den:Nat→Type}(u:List Nat)(fr:sE den):List Nat→List (SV den)
 |[]=>[]
 |d::r=>(match u.contains d with
  |true=>cH fr d
  |false=>.dead)::wu u fr r
def lP{den:Nat→Type}(n:Nat)(fr:sE den):List Tmp→List (SV den)→sE den
 |p::ps,x::xs=>lP n (tz n fr p x) ps xs
 |_,_=>fr
def Bj(js:List (Nat×kW))(n:Nat)(st:kW):List (Nat×kW):=js.map fun q=>match Nat.beq q.1 n with
 |true=>(q.1,st)
 |false=>q
def C6(js:List (Nat×kW))(n:Nat):List (Nat×kW):=js.filter fun q=>!Nat.beq q.1 n
def si(js:List (Nat×kW))(n:Nat):Bool:=js.all fun q=>Nat.blt q.1 n
def bx.gO{T:dw}(s:bx T.den)(n:Nat)(hp:ah T.den)(wh:List Nat)(js:List (Nat×kW)):bx T.den:=
 { s with hp:=hp.set n (some .gY),wh:=wh,js:=C6 js n }
def KN{T:dw}{ρ:Type}(s:bx T.den)(n:Nat)(dst:Option Tmp)(b:Bool)(st:kW)(s2:bx T.den)(K:bx T.den→Tr ρ):Tr ρ:=
 match cm s2.js n with
 |some .busy=>(match si s2.js s.hp.length with
  |true=>mR (fZ s.hp.length (.lit (.bool b)) s2.hp) fun hp=>bx.fh ⟨s.fn,s.n,s.fr,hp,s.wf,s2.wh,Bj s2.js n st⟩ dst (.lit (.bool b)) [] K
  | false => .no "a round's end")
 | _ => .no "a round's end"
def qC(pr:List Nat)(fs:List ft):Bool:=
 match fs.all fun f=>f.wr.isEmpty with
 |true=>true
 |false=>eU pr fs
def GL{T:dw}(Q:gM)(ev:Operand→SV T.den)(op:Op)(H:ah T.den)(n:Nat)(o':aB T.den):Bool:=
 match op with
 |.store t a _=>(match Q.ty t,ev a,H[n]? with
  |some r,.ref n' _ i j,some (some (.arr _ false _ cur es))=>(match es[i]? with
   |some (.agg l)=>Nat.beq n' n&&Nat.ble (j+r.size) l.length&&((l.drop j).take r.size).all isHole&&Nat.beq cur o'.cur&&Nat.beq es.length o'.len
   |_=>false)
  |_,_,_=>false)
 |_=>false
def uR[ab]{T:dw}(Q:gM)(nm:Nat){ρ:Type}:List Oper→bx T.den→Option Nat→List Nat→(bx T.den→Option Nat→List Nat→Tr ρ)→Tr ρ
 |[],s,ov,rd,K=>K s ov rd
 |o::r,s,ov,rd,K=>(match o.guard with
  | some _ => .no "a look"
  |none=>(match o.op with
   | .call _ => .no "a look"
   |.assign (.const (.slice none 0 0))=>s.fh o.dst (.lit cK) [] fun s=>uR Q nm r s ov rd K
   |op=>NB Q s.hp.length s.hp (cW s.fr) o fun v wr rd'=>(match wr.all fun q=>Nat.ble nm q.1 with
     |true=>s.fh o.dst v wr fun s=>uR Q nm r s ov (rd++rd') K
     |false=>(match ov,wr with
      |none,[(n,o')]=>(match Nat.blt n nm&&GL Q (cW s.fr) op s.hp n o' with
       |true=>s.fh o.dst v [(n,o')] fun s=>uR Q nm r s (some n) (rd++(rd'++[n])) K
       | false => .no "a look")
      | _, _ => .no "a look"))))
def lQ[ab]{T:dw}(Q:gM)(nm:Nat){ρ:Type}:Code→bx T.den→Option Nat→List Nat→(Bool→bx T.den→Option Nat→List Nat→Tr ρ)→Tr ρ
 |.skip,s,ov,rd,K=>K false s ov rd
 |.ret,s,ov,rd,K=>K true s ov rd
 |.seq a b,s,ov,rd,K=>lQ Q nm a s ov rd fun q s ov rd=>(match q with
  |true=>K true s ov rd
  |false=>lQ Q nm b s ov rd K)
 |.region _ ops false,s,ov,rd,K=>uR Q nm ops.toList s ov rd (K false)
 |.cond o a b,s,ov,rd,K=>(match cW s.fr o with
  |.lit (.bool t)=>.cond t (lQ Q nm a s ov rd K) (lQ Q nm b s ov rd K)
  | _ => .no "a look")
 | _, _, _, _, _ => .no "a look"
def GM{den:Nat→Type}(fr:sE den)(rs:List ResultVar):List Nat:=rs.flatMap fun
 |.tmp _=>[]
 |.cell a _=>mN (cH fr a)
def wM{den:Nat→Type}(fr:sE den)(rs:List ResultVar):Bool:=rs.all fun
 |.tmp _=>true
 |.cell a _=>!bO (cH fr a)
def KO[ab](S:oa){ρ:Type}(g:FuncId)(args:List (SV S.T.den))(H:ah S.T.den)(K:EK S.T ρ):Tr ρ:=
 match S.C.kind g,S.C.qX g,S.C.P.funcs[g]? with
 |.imp,none,some fn=>(match fn.body with
  |some c=>(match BO c with
   | true => .no "a look"
   |false=>lQ (S.Qf g) H.length c ⟨g,max fn.ntmps args.length,mq 0 args,H,[],[],[]⟩ none [] fun _ s ov rd=>sd S.T S.Q s fn.results.toList fun l=>
   (match bt H.length (qR l)&&wM s.fr fn.results.toList&&(match ov with
     |some n=>(match s.hp[n]? with
      |some o=>jW H.length o
      |none=>false)
     |none=>true) with
   |true=>K (qR l) [] ((rd++GM s.fr fn.results.toList).filter fun n=>Nat.blt n H.length)
   | false => .no "a look's answer"))
  | none => .no "a look")
 | _, _, _ => .no "a call without an answer"
def GN{den:Nat→Type}(P:Program)(v:SV den)(name:String):Option (FuncId×SV den):=
 match v with
 |.gg t x=>(Av P t name).map fun f=>(f,x)
 |_=>none
def Uu[ab](S:oa){ρ:Type}(nm:Nat)(o:Oper)(s:bx S.T.den)(K:EK S.T ρ):Tr ρ:=
 match o.op with
 |.call c=>
  (match c.callee with
  |.builtin _=>NB (S.Qf s.fn) nm s.hp (cW s.fr) o K
  |.value f=>
   (match lN (cW s.fr f) (c.args.toList.map (cW s.fr)) with
   |none=>.fail
   |some (g,args)=>(match au o.op with
    |true=>(match args.any bO,S.own g with
     |false,some σ=>ND S.T σ nm s.hp args K
     | _, _ => .no "a call of one's own without an answer")
    |false=>(match args.any bO,S.sum g with
     |false,some σ=>HU S.T σ s.hp args K
     |false,none=>KO S g args s.hp K
     | _, _ => .no "a call without an answer")))
  |.invoke rv name=>
   (match GN S.C.P (cW s.fr rv) name with
   | none => .no "invoke"
   |some (g,x)=>(match (x::c.args.toList.map (cW s.fr)).any bO,S.sum g with
    |false,some σ=>HU S.T σ s.hp (x::c.args.toList.map (cW s.fr)) K
    | _, _ => .no "a call without an answer")))
 |_=>NB (S.Qf s.fn) nm s.hp (cW s.fr) o K
def KP[ab]{T:dw}{ρ:Type}(ec:Code→bx T.den→(oV T.den→Tr ρ)→Tr ρ)(eo:Oper→bx T.den→(bx T.den→Tr ρ)→Tr ρ):Code→bx T.den→(oV T.den→Option (SV T.den)→Tr ρ)→Tr ρ
 |.seq x y,s,K=>
  (match sM x with
  |some (ops,v)=>og ops ops.toList.dropLast fun l=>vU eo l s fun s1=>(match lN (cW s1.fr v) [] with
   |some _=>ec y s1 fun o=>K o (some (cW s1.fr v))
   | none => .no "what is deferred")
  |none=>ec x s fun
   |.norm s'=>KP ec eo y s' K
   |r=>K r none)
 |c,s,K=>ec c s fun o=>K o none
def C7[ab]{T:dw}{ρ:Type}(ec:Code→bx T.den→(oV T.den→Tr ρ)→Tr ρ)(Q:gM)(P:Program)(rs:List ResultVar)(s:bx T.den)(d:Option (SV T.den))(K:List (SV T.den)→ah T.den→List Nat→List (Nat×kW)→Tr ρ):Tr ρ:=
 match d with
 |none=>sd T Q s rs fun l=>K l s.hp s.wh s.js
 |some v=>(match lN v [] with
  | none => .no "what is deferred"
  |some (g,as)=>(match P.funcs[g]? with
   |none=>.fail
   |some fg=>(match fg.body with
    |none=>.fail
    |some cg=>(match cx cg&&!as.any bO with
     | false => .no "what is deferred"
     |true=>bx.force ⟨g,max fg.ntmps as.length,mq 0 as,s.hp,[],s.wh,s.js⟩ fun t0=>ec (nP cg) t0 fun
      |.norm t|.ret t=>sd T Q t fg.results.toList fun _=>sd T Q ⟨s.fn,s.n,s.fr,t.hp,s.wf,t.wh,t.js⟩ rs fun l=>K l t.hp t.wh t.js
      |.exit _ _=>.fail))))
mutual
def OO[ab](S:oa):Nat→(ρ:Type)→FuncId→List (SV S.T.den)→ah S.T.den→List Nat→List (Nat×kW)→(SV S.T.den→ah S.T.den→List Nat→List (Nat×kW)→Tr ρ)→Tr ρ
 | 0, _, _, _, _, _, _, _ => .no "fuel"
 |k+1,ρ,f,args,hp,wh,js,K=>
  match S.C.P.funcs[f]? with
  |none=>.fail
  |some fn=>
   match fn.body with
   |none=>.fail
   |some c=>sb [max fn.ntmps args.length] fun _=>bx.force ⟨f,max fn.ntmps args.length,mq 0 args,hp,[],wh,js⟩ fun s=>
    (match BO c with
    |true=>(match cx c with
     |true=>KP (fun c s K=>wv S k ρ c s K) (fun o s K=>NG S k ρ o s K) c s fun o d=>(match o with
      |.norm s'|.ret s'=>C7 (fun c s K=>wv S k ρ c s K) S.Q S.C.P fn.results.toList s' d fun l hp wh js=>K (qR l) hp wh js
      |.exit _ _=>.fail)
     | false => .no "a range beside a deferred call")
    |false=>wv S k ρ c s fun
    |.norm s|.ret s=>sd S.T S.Q s fn.results.toList fun l=>K (qR l) s.hp s.wh s.js
    |.exit _ _=>.fail)
def wv[ab](S:oa):Nat→(ρ:Type)→Code→bx S.T.den→(oV S.T.den→Tr ρ)→Tr ρ
 | 0, _, _, _, _ => .no "fuel"
 |k+1,ρ,c,s,K=>
  match c with
  |.skip|.label _=>K (.norm s)
  |.ret=>K (.ret s)
  |.exit id=>K (.exit id s)
  |.seq a b=>wv S k ρ a s fun
   |.norm s'=>wv S k ρ b s' K
   |r=>K r
  |.cond o a b=>
   (match cW s.fr o with
   |.lit (.bool t)=>.cond t (wv S k ρ a s K) (wv S k ρ b s K)
   | _ => .no "cond")
  |.block id b=>wv S k ρ b s fun
   |.exit IQ s'=>if IQ=id then K (.norm s') else K (.exit IQ s')
   |r=>K r
  |.scope b=>
   (match pe b with
   |some c=>wv S k ρ c s K
   | none => .no "code")
  |.loop b=>
   (match S.hint s.fn (se b s) with
   |none=>(match S.uK s.fn (keyOf b) with
    |true=>wv S k ρ b s fun
     |.norm s'=>(match si s'.js s.hp.length with
      |true=>(jJ s.hp.length s').force fun s'=>wv S k ρ (.loop b) s' K
      | false => .no "a round's end")
     |r=>K r
    |false=>.lZ s b)
   |some h=>
    (match h.ok&&Bh s.n h.az h.dead&&sf s.hp.length h.az h.objs,(uQ h.az h.objs s).bind (uI h.jI) with
    |true,some x0=>.loop (τ:=HL S.T.den h.jI) (ω:=yW S.T.den h.objs h.outs)
      (fun x=>bx.force { c9 h.az h.dead h.objs [] s (fV h.jI x) with wf:=[],wh:=[] } fun s1=>wv S k _ b s1 fun
        |.norm s'=>
         (match jJ s.hp.length s' with
         |tT=>(match decide (tT.js=s.js)&&sg h.az h.dead h.objs [] s tT,(uQ h.az h.objs tT).bind (uI h.jI) with
          |true,some y=>gZ s.hp tT.hp h.objs (.ret (.inl y))
          |_,_=>.bad (se b s) none s tT))
        |.exit id s'=>tD (se b s) h s s' (some id) h.outs fun w=>.ret (.inr w)
        |.ret s'=>tD (se b s) h s s' none h.outs fun w=>.ret (.inr w))
      x0 fun w=>tU h s h.outs w K
    |_,_=>.bad (se b s) none s s))
  |.region id ops draw=>
   (match draw with
   |false=>xV (S.C.im s.fn id) s fun s=>SD (S.tw s.fn (1000000+id)) s fun s=>og ops ops.toList fun l=>vU (fun o s K=>NG S k ρ o s K) l s fun s'=>K (.norm s')
   |true=>
    if sL ops=true then
     xV (S.C.im s.fn id) s fun s1=>SD (S.tw s.fn (1000000+id)) s1 fun s1=>og ops ops.toList fun l=>xU (lO (bD 0 s1.hp.length (ops.toList.take (S.C.head s.fn id ops))) l) fun li=>sh (fun nm o s K=>Uu S nm o s K) li
       { s1 with hp:=s1.hp++List.replicate ((ops.toList.take (S.C.head s.fn id ops)).filter fun o=>au o.op).length none } [] fun s' fs=>
      if (qC (bX ops.toList) fs && mC (bX ops.toList) ops.size (S.C.head s.fn id ops)) = true then vU (fun o s K => NG S k ρ o s K) (l.drop (S.C.head s.fn id ops)) s' fun s' => K (.norm s') else .no "an order"
    else .no "a region")
  |.rangeFunc f ps as bd=>
   (match lN (cW s.fr f) [.mp true s.hp.length] with
   |some (g,args)=>(match !args.any bO&&(cX as++cX bd).all (fun d=>!bO (cH s.fr d)||!Nat.blt d s.n) with
    |true=>OO S k ρ g args (s.hp++[some (.oU s.fn ps as bd (wu (cX as++cX bd) s.fr (List.range s.n)))]) s.wh ((s.hp.length,.ready)::s.js) fun _ hp wh js=>
     (match cm js s.hp.length with
     |some .ready=>K (.norm (s.gO s.hp.length hp wh js))
     |some (.jump none)=>K (.ret (s.gO s.hp.length hp wh js))
     |some (.jump (some id))=>K (.exit id (s.gO s.hp.length hp wh js))
     | _ => .no "a range's end")
    | false => .no "a range over what is dead")
   | none => .no "a range")
  | _ => .no "code"
def NG[ab](S:oa):Nat→(ρ:Type)→Oper→bx S.T.den→(bx S.T.den→Tr ρ)→Tr ρ
 | 0, _, _, _, _ => .no "fuel"
 |k+1,ρ,o,s,K=>
  match o.op with
  |.call c=>
   (match c.callee with
   |.builtin _=>NB (S.Qf s.fn) s.hp.length s.hp (cW s.fr) o fun v wr _=>s.fh o.dst v wr K
   |.value f=>
    (match lN (cW s.fr f) (c.args.toList.map (cW s.fr)) with
    |none=>(match cW s.fr f with
     |.mp true n=>(match s.hp[n]?,cm s.js n,(c.args.toList.map (cW s.fr)).any bO with
      |some (some (.oU fn ps as bd fr)),some .ready,false=>
       (match Nat.beq c.args.size ps.size with
       |true=>bx.force ⟨fn,fr.length,lP fr.length (mq 0 fr) ps.toList (c.args.toList.map (cW s.fr)),s.hp,[],s.wh,s.js⟩ fun s0=>
        wv S k ρ as s0 fun
        |.norm s1=>(match cm s1.js n with
         |some .ready=>wv S k ρ bd { s1 with js:=Bj s1.js n .busy } fun
          |.norm s2=>KN s n o.dst true .ready s2 K
          |.exit id s2=>KN s n o.dst false (.jump (some id)) s2 K
          |.ret s2=>KN s n o.dst false (.jump none) s2 K
         | _ => .no "a round")
        | _ => .no "a round"
       | false => .no "a round")
      | _, _, _ => .no "a round")
     | _ => .no "what is called")
    |some (g,args)=>(match au o.op with
     |true=>(match args.any bO,S.own g with
      |false,some σ=>ND S.T σ s.hp.length s.hp args fun v wr _=>s.fh o.dst v wr K
      | _, _ => .no "a call of one's own without an answer")
     |false=>(match args.any bO,S.sum g with
     |false,some σ=>HU S.T σ s.hp args fun v wr _=>s.fh o.dst v wr K
     |false,none=>(match S.C.kind g with
      | .pure => .no "a call without an answer"
      |.imp=>OO S k ρ g args s.hp s.wh s.js fun v hp wh js=>(match si js s.hp.length with
       |true=>mR (fZ s.hp.length v hp) fun hp=>bx.fh ⟨s.fn,s.n,s.fr,hp,s.wf,wh,js⟩ o.dst v [] K
       | false => .no "a call's end"))
     | true, _ => .no "a dead argument")))
   |.invoke rv name=>
    (match GN S.C.P (cW s.fr rv) name with
    | none => .no "invoke"
    |some (g,x)=>(match (x::c.args.toList.map (cW s.fr)).any bO,S.sum g with
     |false,some σ=>HU S.T σ s.hp (x::c.args.toList.map (cW s.fr)) fun v wr _=>s.fh o.dst v wr K
     |false,none=>(match S.C.kind g with
      | .pure => .no "a call without an answer"
      |.imp=>OO S k ρ g (x::c.args.toList.map (cW s.fr)) s.hp s.wh s.js fun v hp wh js=>(match si js s.hp.length with
       |true=>mR (fZ s.hp.length v hp) fun hp=>bx.fh ⟨s.fn,s.n,s.fr,hp,s.wf,wh,js⟩ o.dst v [] K
       | false => .no "a call's end"))
     | true, _ => .no "a dead argument")))
  |.assign (.const (.slice none 0 0))=>
   (match o.dst with
   |some d=>
    if S.C.acc s.fn d then
     match S.Q.elem o.type with
     |some r=>if 0<r.size then s.fh (some d) (.bq r.size s.hp.length 0 none none) [(s.hp.length,.arr true true false 0 [])] K else .fail
     |none=>.fail
    else s.fh (some d) (.lit cK) [] K
   |none=>K s)
  |_=>NB (S.Qf s.fn) s.hp.length s.hp (cW s.fr) o fun v wr _=>s.fh o.dst v wr fun s=>C4 (S.C.qN s.fn) o.dst s fun s=>SE (S.tw s.fn) o.dst s K
end
end Go.PI
namespace Go.PI
def KQ{den:Nat→Type}(res:List Nat)(v:SV den):List (SV den):=
 match res with
 |[_]=>[v]
 |_=>match v with
  |.jt l=>l
  |_=>[.dead]
def Qd[ab](S:oa)(k:Nat)(f:FuncId)(args res:List Nat)(xs:HL S.T.den (args.map .v)):Tr (HL S.T.den (res.map .v)):=
 OO S k _ f (P7 S.T (fV _ xs)) [] [] [] fun v hp _ _=>
  fX S.T hp 1000 v fun v' _=>match (HR S.T res (KQ res v')).bind (uI (res.map .v)) with
  |some r=>.ret r
  | none => .no "a result"
end Go.PI
end
section
/- PS: words for the printed tables of a seat's types. -/
namespace Go.PI
section
variable {den:Nat→Type}{α:Type}
def dI(k:IntKind):SV den→Option Int
 |.lit (.int k' n)=>if k=k' then some n else none
 |_=>none
def dB:SV den→Option Bool
 |.lit (.bool b)=>some b
 |_=>none
def dS:SV den→Option ByteArray
 |.lit (.string s)=>some s
 |_=>none
def SF(d:SV den→Option α):List (SV den)→Option (List α)
 |[]=>some []
 |v::vs=>(d v).bind fun x=>(SF d vs).map fun l=>x::l
def OP(e:Nat)(d:SV den→Option (den e)):SV den→Option (List (den e))
 |.jr t l=>if h:t=e then some (zY h l) else none
 |.sl vs=>SF d vs
 |.lit (.slice none 0 0)=>some []
 |_=>none
def VY(d:SV den→Option α):SV den→Option α
 |.bf v 0=>d v
 |_=>none
end
abbrev NH{α:Type}(q:α→AV→Prop)(x:List α)(a:AV):Prop:=(∃ l,a=.sl l∧aw q x l)∨(x=[]∧a=.lit cK)
abbrev Uv{α:Type}(q:α→AV→Prop)(x:α)(a:AV):Prop:=∃ b,a=.bf b 0∧q x b
abbrev lc{α:Type}(n m:Nat)(l:List α):Bool:=decide (n+m≤l.length)
def zI:AV:=.lit (.int .i64 0)
def zB:AV:=.lit (.bool false)
def zF:AV:=.lit .nilFunc
def zL:AV:=.lit (.slice none 0 0)
def zS:AV:=.lit (.string ByteArray.empty)
def kI:CK:=.int .i64
def mI:jX:=⟨false,1,8,some zI,.other,none,none⟩
def mF:jX:=⟨false,1,8,some zF,.other,none,none⟩
def mP:jX:=⟨false,1,8,some (.lit (.pointer none)),.other,none,none⟩
def mS:jX:=⟨false,1,16,some zS,.other,none,none⟩
def mL(e:Nat):jX:=⟨false,1,24,some zL,.slice e,none,none⟩
end Go.PI
end
section
/- PS, part C: what a symbolic value stands for. -/
namespace Go.PI
section
variable {α β:Type}{P:α→β→Prop}
theorem aw.length:∀ {l:List α} {m:List β},aw P l m→l.length=m.length
 |[],[],_=>rfl
 |_::_,_::_,h=>by simp[aw.length h.2]
theorem aw.get:∀ {l:List α} {m:List β},aw P l m→∀ {i:Nat} {x:α},l[i]?=some x→∃ y,m[i]?=some y∧P x y
 |x::xs,y::ys,h,0,z,e=>by simp at e; subst e; exact⟨y,rfl,h.1⟩
 |x::xs,y::ys,h,i+1,z,e=>by simp at e ⊢; exact aw.get h.2 e
 |[],[],_,i,z,e=>by simp at e
theorem aw.get':∀ {l:List α} {m:List β},aw P l m→∀ {i:Nat} {y:β},m[i]?=some y→∃ x,l[i]?=some x∧P x y
 |x::xs,y::ys,h,0,z,e=>by simp at e; subst e; exact⟨x,rfl,h.1⟩
 |x::xs,y::ys,h,i+1,z,e=>by simp at e ⊢; exact aw.get' h.2 e
 |[],[],_,i,z,e=>by simp at e
theorem aw.mono{Q:α→β→Prop}(Mp:∀ x y,P x y→Q x y):∀ {l:List α} {m:List β},aw P l m→aw Q l m
 |[],[],_=>trivial
 |_::_,_::_,h=>⟨Mp _ _ h.1,aw.mono Mp h.2⟩
theorem aw.append:∀ {l l':List α} {m m':List β},aw P l m→aw P l' m'→aw P (l++l') (m++m')
 |[],_,[],_,_,h=>h
 |_::_,_,_::_,_,h,h'=>⟨h.1,aw.append h.2 h'⟩
theorem aw.set:∀ {l:List α} {m:List β},aw P l m→∀ (i:Nat) {x:α} {y:β},P x y→aw P (l.set i x) (m.set i y)
 |[],[],_,_,_,_,_=>trivial
 |_::_,_::_,h,0,_,_,hp=>⟨hp,h.2⟩
 |_::_,_::_,h,i+1,_,_,hp=>⟨h.1,aw.set h.2 i hp⟩
theorem aw.drop:∀ {l:List α} {m:List β},aw P l m→∀ i,aw P (l.drop i) (m.drop i)
 |[],[],_,i=>by simp[aw]
 |_::_,_::_,h,0=>h
 |_::_,_::_,h,i+1=>aw.drop h.2 i
theorem aw.take:∀ {l:List α} {m:List β},aw P l m→∀ i,aw P (l.take i) (m.take i)
 |[],[],_,i=>by simp[aw]
 |_::_,_::_,h,0=>trivial
 |_::_,_::_,h,i+1=>⟨h.1,aw.take h.2 i⟩
theorem aw.replicate{x:α}{y:β}(h:P x y):∀ n,aw P (List.replicate n x) (List.replicate n y)
 |0=>trivial
 |n+1=>⟨h,aw.replicate h n⟩
theorem aw.C8{m:List β}(h:aw P [] m):m=[]:=by cases m with
 |nil=>rfl
 |cons y ys=>exact h.elim
theorem aw.ee:∀ {l:List α} {m:List β},l.length=m.length→(∀ (i:Nat) (x:α) (y:β),l[i]?=some x→m[i]?=some y→P x y)→aw P l m
 |[],[],_,_=>trivial
 |x::xs,y::ys,h,hg=>⟨hg 0 x y rfl rfl,aw.ee (by simpa using h) fun i a b ha hb=>hg (i+1) a b (by simpa using ha) (by simpa using hb)⟩
end
variable {T:dw}
def fL{den:Nat→Type}(H:ah den)(n c aq:Nat):Prop:=
 ∃ o:aB den,H[n]?=some (some o)∧c≤o.cur∧(c=o.cur→aq=o.len)
def VZ(a0:AV)(d:Nat)(a:AV):Prop:=
 (∃ n aq k j,a0=.ref n aq k j∧a=.ref n aq k (j+d))∨∃ e j,a0=.bf e j∧a=.bf e (j+d)
mutual
def R(T:dw)(H:ah T.den):SV T.den→AV→Prop
 |.dead,_=>False
 |.hole,a=>a=.any
 |.lit v,a=>a=.lit v
 |.agg l,a=>∃ l',a=.agg l'∧RL T H l l'
 |.jt l,a=>∃ l',a=.jt l'∧RL T H l l'
 |.sl l,a=>∃ l',a=.sl l'∧RL T H l l'∧av l=true
 |.jr t l,a=>(∃ l',a=.sl l'∧aw (T.rp t) l l')∨(l=[]∧a=.lit cK)
 |.bf e j,a=>∃ e',a=.bf e' j∧R T H e e'∧aD e=true
 |.ref n c i j,a=>∃ aq,a=.ref n aq i j∧fL H n c aq
 |.iM n c i j ln cp,a=>∃ aq,a=.iM n aq i j ln cp∧fL H n c aq
 |.bq esz n c rg cap,a=>∃ aq,fL H n c aq∧(match rg with
  |none=>a=.bq esz n aq 0 aq cap
  |some (off,len)=>a=.bq esz n aq off len cap)
 |.iT fn f c,a=>∃ f' c',a=.iT fn f' c'∧RL T H f f'∧RL T H c c'
 |.gg t v,a=>∃ v',a=.gg t v'∧R T H v v'
 |.wI t l c b,a=>(b=true∧∃ l',a=.o7 l' c∧aw (T.rp t) l l')∨(b=false∧l=[]∧(a=.sl []∨a=.lit cK))
 |.nz,a=>a=.nz
 |.mp y n,a=>a=.mp y n∧∃ o:aB T.den,H[n]?=some (some o)
 |.sD v s len i,a=>∃ a0,R T H v a0∧i<len∧VZ a0 (i*s) a
def RL(T:dw)(H:ah T.den):List (SV T.den)→List AV→Prop
 |[],[]=>True
 |x::xs,y::ys=>R T H x y∧RL T H xs ys
 |_,_=>False
end
theorem aQ{H:ah T.den}:∀ {l:List (SV T.den)} {m:List AV},RL T H l m↔aw (R T H) l m
 |[],[]=>by simp[RL,aw]
 |x::xs,y::ys=>by simp only[RL,aw]; rw[aQ]
 |[],_::_=>by simp[RL,aw]
 |_::_,[]=>by simp[RL,aw]
def RV(T:dw)(H:ah T.den)(v:SV T.den)(a:AV):Prop:=v=.dead∨R T H v a
theorem RV.live{H:ah T.den}{v:SV T.den}{a:AV}(h:RV T H v a)(hd:bO v=false):R T H v a:=by
 rcases h with h|h
 ·subst h; simp[bO]at hd
 ·exact h
def RD(T:dw)(H:ah T.den)(v:SV T.den)(a:AV):Prop:=(v=.dead∧a=.any)∨R T H v a
def RO(T:dw)(H:ah T.den):aB T.den→aM→Prop
 |.arr g cl f _ es,a=>∃ es',a=.arr g cl f es'∧RL T H es es'∧(cl=true→av es=true)
 |.bV g f _ t l,a=>∃ es',a=.arr g true f es'∧aw (T.rp t) l es'
 |.gY,a=>(∃ g f es',a=.arr g true f es')∨∃ k vs,a=.gh k vs∧∀ n,cO n vs=true
 |.ke kk t m,a=>∃ vs,a=.gh (.map kk (m.map fun q=>kk.v q.1)) vs∧aw (T.rp t) (m.map (·.2)) vs
 |.oU fn ps as bd fr,a=>∃ st vs,a=.gh (.loop fn ps as bd st) vs∧aw (RD T H) fr vs
def Bk(T:dw)(H:ah T.den):Option (aB T.den)→Option aM→Prop
 |none,none=>True
 |some o,some a=>RO T H o a
 |_,_=>False
def RH(T:dw)(H:ah T.den)(hp:ag):Prop:=aw (Bk T H) H hp
def aB.isRec{den:Nat→Type}:aB den→Bool
 |.oU ..=>true
 |_=>false
def recAt{den:Nat→Type}(H:ah den)(n:Nat):Bool:=
 match H[n]? with
 |some (some o)=>o.isRec
 |_=>false
def dk{den:Nat→Type}(H H':ah den):Prop:=
 ∀ (n:Nat) (o:aB den),H[n]?=some (some o)→∃ o':aB den,H'[n]?=some (some o')∧o.cur≤o'.cur∧(o'.cur=o.cur→o'.len=o.len)
theorem dk.refl{den:Nat→Type}(H:ah den):dk H H:=fun _ o h=>⟨o,h,Nat.le_refl _,fun _=>rfl⟩
theorem dk.trans{den:Nat→Type}{H H' Yp:ah den}(h:dk H H')(h':dk H' Yp):dk H Yp:=by
 intro n o ho
 obtain⟨o',h1,h2,h3⟩:=h n o ho
 obtain⟨V0,h4,h5,h6⟩:=h' n o' h1
 exact⟨V0,h4,Nat.le_trans h2 h5,fun e=>by rw[h6 (by omega),h3 (by omega)]⟩
theorem fL.mono{den:Nat→Type}{H H':ah den}(h:dk H H'){n c aq:Nat}(hv:fL H n c aq):fL H' n c aq:=by
 obtain⟨o,h1,h2,h3⟩:=hv
 obtain⟨o',h4,h5,h6⟩:=h n o h1
 exact⟨o',h4,Nat.le_trans h2 h5,fun e=>by rw[h3 (by omega),h6 (by omega)]⟩
mutual
theorem R.mono{H H':ah T.den}(hg:dk H H'):∀ {v:SV T.den} {a:AV},R T H v a→R T H' v a
 |.dead,_,h=>by simp[R]at h
 |.hole,a,h=>by simpa[R] using h
 |.lit v,a,h=>by simpa[R] using h
 |.agg l,a,h=>by
  simp only[R]at h ⊢
  obtain⟨l',h1,h2⟩:=h
  exact⟨l',h1,RL.mono hg h2⟩
 |.jt l,a,h=>by
  simp only[R]at h ⊢
  obtain⟨l',h1,h2⟩:=h
  exact⟨l',h1,RL.mono hg h2⟩
 |.sl l,a,h=>by
  simp only[R]at h ⊢
  obtain⟨l',h1,h2,h3⟩:=h
  exact⟨l',h1,RL.mono hg h2,h3⟩
 |.jr t l,a,h=>by simpa[R] using h
 |.wI t l c b,a,h=>by simp only[R]at h ⊢; exact h
 |.nz,a,h=>by simp only[R]at h ⊢; exact h
 |.bf e j,a,h=>by
  simp only[R]at h ⊢
  obtain⟨e',h1,h2,h3⟩:=h
  exact⟨e',h1,R.mono hg h2,h3⟩
 |.ref n c i j,a,h=>by
  simp only[R]at h ⊢
  obtain⟨aq,h1,h2⟩:=h
  exact⟨aq,h1,h2.mono hg⟩
 |.iM n c i j ln cp,a,h=>by
  simp only[R]at h ⊢
  obtain⟨aq,h1,h2⟩:=h
  exact⟨aq,h1,h2.mono hg⟩
 |.bq esz n c rg cap,a,h=>by
  simp only[R]at h ⊢
  obtain⟨aq,h1,h2⟩:=h
  exact⟨aq,h1.mono hg,h2⟩
 |.iT fn f c,a,h=>by
  simp only[R]at h ⊢
  obtain⟨f',c',h1,h2,h3⟩:=h
  exact⟨f',c',h1,RL.mono hg h2,RL.mono hg h3⟩
 |.gg t v,a,h=>by
  simp only[R]at h ⊢
  obtain⟨v',h1,h2⟩:=h
  exact⟨v',h1,R.mono hg h2⟩
 |.mp y n,a,h=>by
  simp only[R]at h ⊢
  obtain⟨h1,o,h2⟩:=h
  obtain⟨o',h3,_⟩:=hg n o h2
  exact⟨h1,o',h3⟩
 |.sD v s len i,a,h=>by
  simp only[R]at h ⊢
  obtain⟨a0,h1,h2,h3⟩:=h
  exact⟨a0,R.mono hg h1,h2,h3⟩
theorem RL.mono{H H':ah T.den}(hg:dk H H'):∀ {l:List (SV T.den)} {m:List AV},RL T H l m→RL T H' l m
 |[],[],_=>by simp[RL]
 |x::xs,y::ys,h=>by
  simp only[RL]at h ⊢
  exact⟨R.mono hg h.1,RL.mono hg h.2⟩
 |[],_::_,h=>by simp[RL]at h
 |_::_,[],h=>by simp[RL]at h
end
theorem RV.mono[ab]{H H':ah T.den}(hg:dk H H'){v:SV T.den}{a:AV}(h:RV T H v a):RV T H' v a:=h.imp id (R.mono hg)
theorem RO.mono[ab]{H H':ah T.den}(hg:dk H H'){o:aB T.den}{a:aM}(h:RO T H o a):RO T H' o a:=by
 cases o with
 |arr g cl f cur es=>
  obtain⟨es',h1,h2,h3⟩:=h
  exact⟨es',h1,RL.mono hg h2,h3⟩
 |bV g f cur t l=>exact h
 |gY=>exact h
 |ke kk t m=>exact h
 |oU fn ps as bd fr=>
  obtain⟨st,vs,h1,h2⟩:=h
  exact⟨st,vs,h1,aw.mono (fun _ _ h=>h.imp id (R.mono hg)) h2⟩
theorem Bk.mono[ab]{H H':ah T.den}(hg:dk H H'){o:Option (aB T.den)}{a:Option aM}(h:Bk T H o a):Bk T H' o a:=by
 cases o<;>cases a<;>first|exact h|exact RO.mono hg h
theorem RH.length[ab]{H:ah T.den}{hp:ag}(h:RH T H hp):H.length=hp.length:=aw.length h
theorem RH.obj[ab]{H:ah T.den}{hp:ag}(h:RH T H hp){n:Nat}{o:aB T.den}(ho:H[n]?=some (some o)):∃ a,hp[n]?=some (some a)∧RO T H o a:=by
 obtain⟨a,h1,h2⟩:=aw.get h ho
 cases a with
 |none=>exact h2.elim
 |some a=>exact⟨a,h1,h2⟩
theorem RH.none[ab]{H:ah T.den}{hp:ag}(h:RH T H hp){n:Nat}(ho:H[n]?=some none):hp[n]?=some none:=by
 obtain⟨a,h1,h2⟩:=aw.get h ho
 cases a with
 |none=>exact h1
 |some a=>exact h2.elim
theorem RH.Q9[ab]{H:ah T.den}{hp:ag}(h:RH T H hp){n:Nat}{o o':aB T.den}{a':aM}(ho:H[n]?=some (some o))(hc:o.cur≤o'.cur)(hl:o'.cur=o.cur→o'.len=o.len)
  (hr:RO T H o' a'):dk H (H.set n (some o'))∧RH T (H.set n (some o')) (hp.set n (some a')):=by
 have hg:dk H (H.set n (some o')):=by
  intro m q hq
  by_cases e:m=n
  ·grind
  ·grind
 exact⟨hg,aw.set (aw.mono (fun _ _=>Bk.mono hg) h) n (show Bk T _ (some o') (some a') from RO.mono hg hr)⟩
theorem RH.new[ab]{H:ah T.den}{hp:ag}(h:RH T H hp){nm:Nat}{o':aB T.den}{a':aM}(hn:nm=H.length∨H[nm]?=some .none)(hr:RO T H o' a'):
  dk H (bJ H nm o')∧RH T (bJ H nm o') (setObj hp nm a'):=by
 have hlen:=h.length
 unfold bJ setObj
 by_cases e:nm=H.length
 ·rw[if_pos e,if_pos (by omega)]
  have hg:dk H (H++[some o']):=by
   intro m q hq
   have bQ:=(List.getElem?_eq_some_iff.1 hq).1
   exact⟨q,by rw[List.getElem?_append_left bQ]; exact hq,Nat.le_refl _,fun _=>rfl⟩
  exact⟨hg,aw.append (aw.mono (fun _ _=>Bk.mono hg) h) ⟨RO.mono hg hr,trivial⟩⟩
 ·rw[if_neg e,if_neg (by omega)]
  have hn:H[nm]?=some .none:=hn.resolve_left e
  have hg:dk H (H.set nm (some o')):=by
   intro m q hq
   by_cases e:m=nm
   ·subst e; rw[hn]at hq; simp at hq
   ·grind
  exact⟨hg,aw.set (aw.mono (fun _ _=>Bk.mono hg) h) nm (show Bk T _ (some o') (some a') from RO.mono hg hr)⟩
structure dw.Ok(T:dw):Prop where
 up:∀ t x a H,T.rp t x a→R T H (T.up t x) a
 dn:∀ t v x a H,T.dn t v=some x→R T H v a→T.rp t x a
 ok:∀ t x a,T.rp t x a→aG (T.agg t) (T.size t) a=true
 closed:∀ t x a,T.rp t x a→closed a=true
 alt:∀ t f,T.alt t=some f→∀ x,(bif f.1 x then f.2.1 x else f.2.2 x)=T.up t x
theorem GO{T:dw}(hT:T.Ok){ρ:Type}(t:Nat)(x:T.den t)(K:SV T.den→Tr ρ):(Ut t x K).run=(K (T.up t x)).run:=by
 unfold Ut
 split
 ·rfl
 ·rename_i f hf
  have h:=hT.alt t f hf x
  simp only[Tr.run]
  cases hb:f.1 x<;>rw[hb]at h<;>rw[←h]<;>rfl
theorem jk{den:Nat→Type}:∀ (l:List (SV den)),av l=l.all aD
 |[]=>rfl
 |x::xs=>by simp only[av,List.all_cons]; rw[jk xs]
theorem jL[ab]{den:Nat→Type}{l:List (SV den)}(h:av l=true){x:SV den}(hx:x∈l):aD x=true:=by
 rw[jk]at h
 exact List.all_eq_true.1 h x hx
theorem k7[ab]{den:Nat→Type}{l:List (SV den)}(h:∀ x,x∈l→aD x=true):av l=true:=by
 rw[jk]
 exact List.all_eq_true.2 h
theorem my[ab]{den:Nat→Type}{l:List (SV den)}(h:av l=true)(a b:Nat):av ((l.drop a).take b)=true:=
 k7 fun _ hx=>jL h (List.mem_of_mem_drop (List.mem_of_mem_take hx))
theorem Fu[ab]{den:Nat→Type}{l m:List (SV den)}(h:av l=true)(h':av m=true):av (l++m)=true:=
 k7 fun _ hx=>(List.mem_append.1 hx).elim (jL h) (jL h')
theorem sj[ab]{den:Nat→Type}{l:List (SV den)}(h:av l=true){x:SV den}(hx:aD x=true)(i:Nat):av (l.set i x)=true:=
 k7 fun _ hy=>(List.mem_or_eq_of_mem_set hy).elim (jL h) fun e=>e▸hx
theorem oO[ab]{den:Nat→Type}:∀ {cs l:List (SV den)} (j:Nat),av l=true→av cs=true→av (iH l j cs)=true
 |[],_,_,h,_=>h
 |x::xs,l,j,h,hc=>by
  simp only[av,Bool.and_eq_true]at hc
  simp only[iH]
  exact oO (j+1) (sj h hc.1 j) hc.2
theorem xX[ab]{den:Nat→Type}{e e':SV den}{j:Nat}{cs:List (SV den)}(h:fU e j cs=some e')(he:aD e=true)(hc:av cs=true):aD e'=true:=by
 unfold fU at h
 split at h
 ·split at h
  case isFalse=>simp at h
  simp only[Option.some.injEq]at h
  subst h
  simp only[aD]at he ⊢
  exact oO j he hc
 ·grind[av]
theorem yY[ab]{den:Nat→Type}(v:SV den):av (bI v)=aD v:=by
 cases v with
 |lit v=>
  simp only[bI,aD]
  exact k7 fun x hx=>by obtain⟨y,_,rfl⟩:=List.mem_map.1 hx; rfl
 |agg l=>rfl
 |_=>simp[bI,av]
theorem oP[ab]{den:Nat→Type}:∀ {ps:List (Nat×SV den)} {es:List (SV den)},av es=true→av (ps.map (·.2))=true→av (fo es ps)=true
 |[],_,h,_=>h
 |(i,v)::ps,es,h,hc=>by
  simp only[List.map_cons,av,Bool.and_eq_true]at hc
  simp only[fo]
  exact oP (sj h hc.1 i) hc.2
theorem tE[ab]{den:Nat→Type}{a:AV}{v:SV den}(h:(gy a:Option (SV den))=some v):aD v=true:=by
 cases a with
 |lit x=>simp[gy]at h; subst h; rfl
 |agg l=>
  simp only[gy,Option.map_eq_some_iff]at h
  obtain⟨c,_,rfl⟩:=h
  simp only[aD]
  exact k7 fun x hx=>by obtain⟨y,_,rfl⟩:=List.mem_map.1 hx; rfl
 |_=>simp[gy]at h
end Go.PI
end
section
/- PS, part D: parts of values, by value, flat, below: on both sides alike. -/
namespace Go.PI
def aE{α:Type}(hp:ag)(r:RM α)(a:α)(rd:List Nat):Prop:=r.run hp=some a∧∀ n,n∈r.log hp→n∈rd
section
variable {α β:Type}{hp:ag}
theorem aE.pure(a:α):aE hp (pure a:RM α) a []:=⟨rfl,fun n h=>by simp[Pure.pure,RM.log]at h⟩
theorem aE.ret(a:α):aE hp (RM.ret a:RM α) a []:=⟨rfl,fun n h=>by simp[RM.log]at h⟩
theorem aE.mono{r:RM α}{a:α}{rd rd':List Nat}(h:aE hp r a rd)(hs:∀ n,n∈rd→n∈rd'):aE hp r a rd':=⟨h.1,fun n hn=>hs n (h.2 n hn)⟩
theorem aE.bind[ab]{r:RM α}{f:α→RM β}{a:α}{b:β}{rd rd':List Nat}(h:aE hp r a rd)(h':aE hp (f a) b rd'):aE hp (r >>= f) b (rd++rd'):=by
 refine⟨by rw[RM.run_bind,h.1]; exact h'.1,fun n hn=>?_⟩
 rw[RM.eu,h.1]at hn
 simp only[List.mem_append]at hn ⊢
 exact hn.imp (h.2 n) (h'.2 n)
theorem aE.get{n:Nat}{k:aM→RM α}{o:aM}{a:α}{rd:List Nat}(ho:hp[n]?=some (some o))(h:aE hp (k o) a rd):aE hp (.get n k) a (n::rd):=by
 refine⟨by simp[RM.run,ho,h.1],fun m hm=>?_⟩
 simp only[RM.log,ho,List.mem_cons]at hm ⊢
 exact hm.imp id (h.2 m)
theorem aE.arr[ab]{n aq:Nat}{g c f:Bool}{es:List AV}(ho:hp[n]?=some (some (.arr g c f es)))(hl:es.length=aq):aE hp (RM.arr n aq) (g,c,f,es) [n]:=by
 refine aE.get ho ?_
 simp only[hl,if_true]
 exact aE.ret _
theorem aE.gQ[ab]{x:Option α}{a:α}(h:x=some a):aE hp (RM.gQ x) a []:=by subst h; exact aE.ret a
end
variable {T:dw}
mutual
theorem R.closed{H:ah T.den}:∀ {v:SV T.den} {a:AV},R T H v a→aD v=closed a
 |.dead,a,h=>by simp[R]at h
 |.hole,a,h=>by simp only[R]at h; subst h; rfl
 |.lit v,a,h=>by simp only[R]at h; subst h; rfl
 |.agg l,a,h=>by
  simp only[R]at h
  obtain⟨l',rfl,h2⟩:=h
  simp only[aD,Go.PI.closed]; exact RL.closed h2
 |.jt l,a,h=>by
  simp only[R]at h
  obtain⟨l',rfl,h2⟩:=h
  simp only[aD,Go.PI.closed]; exact RL.closed h2
 |.sl l,a,h=>by
  simp only[R]at h
  obtain⟨l',rfl,h2⟩:=h
  rfl
 |.jr t l,a,h=>by
  simp only[R]at h
  rcases h with ⟨l',rfl,_⟩|⟨_,rfl⟩<;>rfl
 |.wI t l c b,a,h=>by
  simp only[R]at h
  rcases h with ⟨_,l',rfl,_⟩|⟨_,_,rfl|rfl⟩<;>rfl
 |.nz,a,h=>by
  simp only[R]at h
  subst h; rfl
 |.bf e j,a,h=>by
  simp only[R]at h
  obtain⟨e',rfl,h2⟩:=h
  rfl
 |.ref n c i j,a,h=>by
  simp only[R]at h
  obtain⟨aq,rfl,h2⟩:=h
  rfl
 |.iM n c i j ln cp,a,h=>by
  simp only[R]at h
  obtain⟨aq,rfl,h2⟩:=h
  rfl
 |.bq esz n c rg cap,a,h=>by
  simp only[R]at h
  obtain⟨aq,h1,h2⟩:=h
  rcases rg with _|⟨off,len⟩<;>simp only at h2<;>subst h2<;>rfl
 |.iT fn f c,a,h=>by
  simp only[R]at h
  obtain⟨f',c',rfl,h2,h3⟩:=h
  simp only[aD,Go.PI.closed]; rw[RL.closed h2,RL.closed h3]
 |.gg t v,a,h=>by
  simp only[R]at h
  obtain⟨v',rfl,h2⟩:=h
  simp only[aD,Go.PI.closed]; exact R.closed h2
 |.mp y n,a,h=>by
  simp only[R]at h
  obtain⟨rfl,_⟩:=h
  rfl
 |.sD v s len i,a,h=>by
  simp only[R]at h
  obtain⟨a0,h1,_,h2⟩:=h
  have:=R.closed h1
  simp only[aD]
  rcases h2 with ⟨n,aq,k,j,rfl,rfl⟩|⟨e,j,rfl,rfl⟩<;>exact this
theorem RL.closed{H:ah T.den}:∀ {l:List (SV T.den)} {m:List AV},RL T H l m→av l=aZ m
 |[],[],_=>rfl
 |x::xs,y::ys,h=>by
  simp only[RL]at h
  simp only[av,aZ]; rw[R.closed h.1,RL.closed h.2]
 |[],_::_,h=>by simp[RL]at h
 |_::_,[],h=>by simp[RL]at h
end
mutual
theorem R.below{H:ah T.den}{k:Nat}:∀ {v:SV T.den} {a:AV},R T H v a→bt k v=below k a
 |.dead,a,h=>by simp[R]at h
 |.hole,a,h=>by simp only[R]at h; subst h; rfl
 |.lit v,a,h=>by simp only[R]at h; subst h; rfl
 |.agg l,a,h=>by
  simp only[R]at h
  obtain⟨l',rfl,h2⟩:=h
  simp only[bt,Go.PI.below]; exact RL.below h2
 |.jt l,a,h=>by
  simp only[R]at h
  obtain⟨l',rfl,h2⟩:=h
  simp only[bt,Go.PI.below]; exact RL.below h2
 |.sl l,a,h=>by
  simp only[R]at h
  obtain⟨l',rfl,h2⟩:=h
  rfl
 |.jr t l,a,h=>by
  simp only[R]at h
  rcases h with ⟨l',rfl,_⟩|⟨_,rfl⟩<;>rfl
 |.wI t l c b,a,h=>by
  simp only[R]at h
  rcases h with ⟨_,l',rfl,_⟩|⟨_,_,rfl|rfl⟩<;>rfl
 |.nz,a,h=>by
  simp only[R]at h
  subst h; rfl
 |.bf e j,a,h=>by
  simp only[R]at h
  obtain⟨e',rfl,h2⟩:=h
  rfl
 |.ref n c i j,a,h=>by
  simp only[R]at h
  obtain⟨aq,rfl,h2⟩:=h
  rfl
 |.iM n c i j ln cp,a,h=>by
  simp only[R]at h
  obtain⟨aq,rfl,h2⟩:=h
  rfl
 |.bq esz n c rg cap,a,h=>by
  simp only[R]at h
  obtain⟨aq,h1,h2⟩:=h
  rcases rg with _|⟨off,len⟩<;>simp only at h2<;>subst h2<;>rfl
 |.iT fn f c,a,h=>by
  simp only[R]at h
  obtain⟨f',c',rfl,h2,h3⟩:=h
  simp only[bt,Go.PI.below]; rw[RL.below h2,RL.below h3]
 |.gg t v,a,h=>by
  simp only[R]at h
  obtain⟨v',rfl,h2⟩:=h
  simp only[bt,Go.PI.below]; exact R.below h2
 |.mp y n,a,h=>by
  simp only[R]at h
  obtain⟨rfl,_⟩:=h
  rfl
 |.sD v s len i,a,h=>by
  simp only[R]at h
  obtain⟨a0,h1,_,h2⟩:=h
  have:=R.below (k:=k) h1
  simp only[bt]
  rcases h2 with ⟨n,aq,k,j,rfl,rfl⟩|⟨e,j,rfl,rfl⟩<;>exact this
theorem RL.below{H:ah T.den}{k:Nat}:∀ {l:List (SV T.den)} {m:List AV},RL T H l m→gx k l=cO k m
 |[],[],_=>rfl
 |x::xs,y::ys,h=>by
  simp only[RL]at h
  simp only[gx,cO]; rw[R.below h.1,RL.below h.2]
 |[],_::_,h=>by simp[RL]at h
 |_::_,[],h=>by simp[RL]at h
end
mutual
theorem R.names{H:ah T.den}:∀ {v:SV T.den} {a:AV},R T H v a→mN v=names a
 |.dead,a,h=>by simp[R]at h
 |.hole,a,h=>by simp only[R]at h; subst h; rfl
 |.lit v,a,h=>by simp only[R]at h; subst h; rfl
 |.agg l,a,h=>by
  simp only[R]at h
  obtain⟨l',rfl,h2⟩:=h
  simp only[mN,Go.PI.names]; exact RL.names h2
 |.jt l,a,h=>by
  simp only[R]at h
  obtain⟨l',rfl,h2⟩:=h
  simp only[mN,Go.PI.names]; exact RL.names h2
 |.sl l,a,h=>by
  simp only[R]at h
  obtain⟨l',rfl,h2⟩:=h
  rfl
 |.jr t l,a,h=>by
  simp only[R]at h
  rcases h with ⟨l',rfl,_⟩|⟨_,rfl⟩<;>rfl
 |.wI t l c b,a,h=>by
  simp only[R]at h
  rcases h with ⟨_,l',rfl,_⟩|⟨_,_,rfl|rfl⟩<;>rfl
 |.nz,a,h=>by
  simp only[R]at h
  subst h; rfl
 |.bf e j,a,h=>by
  simp only[R]at h
  obtain⟨e',rfl,h2⟩:=h
  rfl
 |.ref n c i j,a,h=>by
  simp only[R]at h
  obtain⟨aq,rfl,h2⟩:=h
  rfl
 |.iM n c i j ln cp,a,h=>by
  simp only[R]at h
  obtain⟨aq,rfl,h2⟩:=h
  rfl
 |.bq esz n c rg cap,a,h=>by
  simp only[R]at h
  obtain⟨aq,h1,h2⟩:=h
  rcases rg with _|⟨off,len⟩<;>simp only at h2<;>subst h2<;>rfl
 |.iT fn f c,a,h=>by
  simp only[R]at h
  obtain⟨f',c',rfl,h2,h3⟩:=h
  simp only[mN,Go.PI.names]; rw[RL.names h2,RL.names h3]
 |.gg t v,a,h=>by
  simp only[R]at h
  obtain⟨v',rfl,h2⟩:=h
  simp only[mN,Go.PI.names]; exact R.names h2
 |.mp y n,a,h=>by
  simp only[R]at h
  obtain⟨rfl,_⟩:=h
  rfl
 |.sD v s len i,a,h=>by
  simp only[R]at h
  obtain⟨a0,h1,_,h2⟩:=h
  have:=R.names h1
  simp only[mN]
  rcases h2 with ⟨n,aq,k,j,rfl,rfl⟩|⟨e,j,rfl,rfl⟩<;>exact this
theorem RL.names{H:ah T.den}:∀ {l:List (SV T.den)} {m:List AV},RL T H l m→mr l=ck m
 |[],[],_=>rfl
 |x::xs,y::ys,h=>by
  simp only[RL]at h
  simp only[mr,ck]; rw[R.names h.1,RL.names h.2]
 |[],_::_,h=>by simp[RL]at h
 |_::_,[],h=>by simp[RL]at h
end
theorem R.leaf{H:ah T.den}{v:SV T.den}{a:AV}(h:R T H v a):gw v=ba a:=by
 cases v with
 |dead=>simp[R]at h
 |hole=>simp only[R]at h; subst h; rfl
 |lit v=>simp only[R]at h; subst h; rfl
 |agg l=>simp only[R]at h; obtain⟨l',rfl,h2⟩:=h; rfl
 |jt l=>simp only[R]at h; obtain⟨l',rfl,h2⟩:=h; rfl
 |sl l=>simp only[R]at h; obtain⟨l',rfl,h2⟩:=h; rfl
 |jr t l=>simp only[R]at h; rcases h with ⟨l',rfl,_⟩|⟨_,rfl⟩<;>rfl
 |wI t l c b=>simp only[R]at h; rcases h with ⟨_,l',rfl,_⟩|⟨_,_,rfl|rfl⟩<;>rfl
 |nz=>simp only[R]at h; subst h; rfl
 |bf e j=>simp only[R]at h; obtain⟨e',rfl,h2⟩:=h; rfl
 |ref n c i j=>simp only[R]at h; obtain⟨aq,rfl,h2⟩:=h; rfl
 |iM n c i j ln cp=>simp only[R]at h; obtain⟨aq,rfl,h2⟩:=h; rfl
 |bq esz n c rg cap=>
  simp only[R]at h
  obtain⟨aq,h1,h2⟩:=h
  rcases rg with _|⟨off,len⟩<;>simp only at h2<;>subst h2<;>rfl
 |iT fn f c=>simp only[R]at h; obtain⟨f',c',rfl,h2,h3⟩:=h; rfl
 |gg t v=>simp only[R]at h; obtain⟨v',rfl,h2⟩:=h; rfl
 |mp y n=>simp only[R]at h; obtain⟨rfl,h2⟩:=h; rfl
 |sD v s len i=>simp only[R]at h; obtain⟨a0,_,_,h2⟩:=h; rcases h2 with ⟨n,aq,k,j,rfl,rfl⟩|⟨e,j,rfl,rfl⟩<;>rfl
theorem R.Fv{H:ah T.den}{v:SV T.den}{a:AV}(h:R T H v a)(hv:∀ l,v≠.agg l):∀ l,a≠.agg l:=by
 intro l e
 subst e
 cases v with
 |dead=>simp[R]at h
 |hole=>simp[R]at h
 |lit v=>simp[R]at h
 |agg l=>exact hv l rfl
 |jt l=>simp[R]at h
 |sl l=>simp[R]at h
 |jr t l=>simp[R]at h
 |bf e j=>simp[R]at h
 |ref n c i j=>simp[R]at h
 |iM n c i j ln cp=>simp[R]at h
 |bq esz n c rg cap=>
  grind[R]
 |iT fn f c=>simp[R]at h
 |gg t v=>simp[R]at h
 |mp y n=>simp[R]at h
 |sD v s len i=>simp[R,VZ]at h
 |wI t l c b=>simp[R]at h
 |nz=>simp[R]at h
theorem RL.length[ab]{H:ah T.den}{l:List (SV T.den)}{m:List AV}(h:RL T H l m):l.length=m.length:=aw.length (aQ.1 h)
theorem RL.lits{H:ah T.den}:∀ (c:List Value),RL T H (c.map .lit) (c.map .lit)
 |[]=>by simp[RL]
 |v::vs=>by simp only[List.map_cons,RL]; exact⟨by simp[R],RL.lits vs⟩
theorem R.cells[ab]{H:ah T.den}{v:SV T.den}{a:AV}(h:R T H v a):RL T H (bI v) (cellsOf a):=by
 cases v with
 |dead=>simp[R]at h
 |hole=>simp_all[R,bI,cellsOf,RL]
 |lit v=>simp only[R]at h; subst h; exact RL.lits _
 |agg l=>simp only[R]at h; obtain⟨l',rfl,h2⟩:=h; exact h2
 |jr t l=>
  have h':=h
  simp only[R]at h
  rcases h with ⟨l',rfl,_⟩|⟨_,rfl⟩
  ·simp_all[bI,cellsOf,RL]
  ·show RL T H [_] [AV.lit cK]
   simp only[RL]; exact⟨h',trivial⟩
 |jt l=>grind[R,bI,cellsOf,RL]
 |sl l=>grind[R,bI,cellsOf,RL]
 |bf e j=>grind[R,bI,cellsOf,RL]
 |ref n c i j=>grind[R,bI,cellsOf,RL]
 |iM n c i j ln cp=>grind[R,bI,cellsOf,RL]
 |bq esz n c rg cap=>
  grind[R,bI,cellsOf,RL]
 |iT fn f c=>grind[R,bI,cellsOf,RL]
 |gg t v=>grind[R,bI,cellsOf,RL]
 |nz=>
  simp_all[R,bI,cellsOf,RL]
 |wI t l c b=>
  have h':=h
  simp only[R]at h
  rcases h with ⟨_,l',rfl,_⟩|⟨_,_,rfl|rfl⟩
  ·simp_all[bI,cellsOf,RL]
  ·simp_all[bI,cellsOf,RL]
  ·show RL T H [_] [AV.lit cK]
   simp only[RL]; exact⟨h',trivial⟩
 |mp y n=>simp_all[R,bI,cellsOf,RL]
 |sD v s len i=>
  have h':=h
  simp only[R]at h
  obtain⟨a0,_,_,h2⟩:=h
  rcases h2 with ⟨n,aq,k,j,rfl,rfl⟩|⟨e,j,rfl,rfl⟩<;>simp only[bI,cellsOf,RL]<;>exact⟨h',trivial⟩
theorem RL.all{H:ah T.den}{p:SV T.den→Bool}{q:AV→Bool}(Mp:∀ v a,R T H v a→p v=q a):∀ {l:List (SV T.den)} {m:List AV},RL T H l m→l.all p=m.all q
 |[],[],_=>rfl
 |x::xs,y::ys,h=>by
  simp only[RL]at h
  simp only[List.all_cons]; rw[Mp _ _ h.1,RL.all Mp h.2]
 |[],_::_,h=>by simp[RL]at h
 |_::_,[],h=>by simp[RL]at h
theorem RL.C9[ab]{H:ah T.den}{l:List (SV T.den)}{m:List AV}(h:RL T H l m):l.all gw=m.all ba:=RL.all (fun _ _=>R.leaf) h
theorem Da{agg:Bool}{size:Nat}{a:AV}{j:Nat}(ha:∀ l,a≠.agg l):eM agg size a j=if !agg&&ba a&&decide (j=0) then some a else none:=by
 cases a<;>first|rfl|exact absurd rfl (ha _)
theorem Db{agg:Bool}{size:Nat}{v:SV T.den}{j:Nat}(ha:∀ l,v≠.agg l):nH agg size v j=if !agg&&gw v&&decide (j=0) then some v else none:=by
 cases v<;>first|rfl|exact absurd rfl (ha _)
theorem R.part[ab]{H:ah T.den}{agg:Bool}{size:Nat}{v x:SV T.den}{a:AV}{j:Nat}(h:R T H v a)(hp:nH agg size v j=some x):∃ b,eM agg size a j=some b∧R T H x b:=by
 by_cases hv:∃ l,v=.agg l
 ·obtain⟨l,rfl⟩:=hv
  simp only[R]at h
  obtain⟨l',rfl,h2⟩:=h
  have hl:=h2.length
  cases agg with
  |true=>
   simp only[nH,if_true]at hp
   split at hp
   case isFalse=>simp at hp
   simp only[Option.some.injEq]at hp
   subst hp
   refine⟨_,by simp only[eM,if_true]; rw[if_pos (by omega)],?_⟩
   simp only[R]
   exact⟨_,rfl,aQ.2 (((aQ.1 h2).drop j).take size)⟩
  |false=>
   simp only[nH,Bool.false_eq_true,if_false]at hp
   obtain⟨b,h3,h4⟩:=aw.get (aQ.1 h2) hp
   exact⟨b,by simpa[eM] using h3,h4⟩
 ·have jS:∀ l,v≠.agg l:=fun l e=>hv ⟨l,e⟩
  rw[Db jS]at hp
  rw[Da (h.Fv jS),←h.leaf]
  split at hp
  case isFalse=>simp at hp
  rename_i hc
  simp only[Option.some.injEq]at hp
  subst hp
  exact⟨a,by rw[if_pos hc],h⟩
theorem RL.setCells[ab]{H:ah T.den}:∀ {cs:List (SV T.den)} {lX:List AV} {l:List (SV T.den)} {l':List AV} (j:Nat),RL T H l l'→RL T H cs lX→RL T H (iH l j cs) (setCells l' j lX)
 |[],[],l,l',j,h,_=>h
 |x::xs,y::ys,l,l',j,h,hc=>by
  simp only[RL]at hc
  simp only[iH,Go.PI.setCells]
  exact RL.setCells (j+1) (aQ.2 ((aQ.1 h).set j hc.1)) hc.2
 |[],_::_,_,_,_,_,h=>by simp[RL]at h
 |_::_,[],_,_,_,_,h=>by simp[RL]at h
theorem yZ{a y:AV}{j:Nat}(ha:∀ l,a≠.agg l)(hl:ba a=true)(hj:j=0):iU a j [y]=some y:=by
 simp_all[iU,hl]
theorem xY{v e':SV T.den}{cs:List (SV T.den)}{j:Nat}(ha:∀ l,v≠.agg l)(h:fU v j cs=some e'):∃ y,cs=[y]∧e'=y∧gw v=true∧j=0:=by
 match cs with
 |[]=>simp_all[fU]
 |[y]=>simp_all[fU]
 |_::_::_=>simp_all[fU]
theorem R.iU[ab]{H:ah T.den}{v e':SV T.den}{a:AV}{j:Nat}{cs:List (SV T.den)}{lX:List AV}(h:R T H v a)(hc:RL T H cs lX)(hp:fU v j cs=some e'):
  ∃ b,Go.PI.iU a j lX=some b∧R T H e' b:=by
 by_cases hv:∃ l,v=.agg l
 ·obtain⟨l,rfl⟩:=hv
  simp only[R]at h
  obtain⟨l',rfl,h2⟩:=h
  simp only[fU]at hp
  split at hp
  case isFalse=>simp at hp
  simp only[Option.some.injEq]at hp
  subst hp
  have h3:=h2.length
  have h4:=hc.length
  exact⟨_,by simp only[Go.PI.iU]; rw[if_pos (by omega)],by simp only[R]; exact⟨_,rfl,RL.setCells j h2 hc⟩⟩
 ·have jS:∀ l,v≠.agg l:=fun l e=>hv ⟨l,e⟩
  obtain⟨y,rfl,rfl,h3,h4⟩:=xY jS hp
  match lX,hc with
  |[b],hc=>
   simp only[RL]at hc
   exact⟨b,yZ (h.Fv jS) (by rw[←h.leaf]; exact h3) h4,hc.1⟩
  |[],hc=>simp[RL]at hc
  |_::_::_,hc=>simp[RL]at hc
def RP(T:dw)(H:ah T.den):List (Nat×SV T.den)→List (Nat×AV)→Prop:=aw fun p q=>p.1=q.1∧R T H p.2 q.2
theorem RP.fill[ab]{H:ah T.den}{place:Nat→Option (Nat×Nat)}:∀ {ps:List (Nat×SV T.den)} {qs:List (Nat×AV)} {l r:List (SV T.den)} {l':List AV},RP T H ps qs→RL T H l l'→zZ place l ps=some r →
  ∃ r',qV place l' qs=some r'∧RL T H r r'
 |[],[],l,r,l',_,hl,h=>by
  simp only[zZ,Option.some.injEq]at h
  subst h
  exact⟨l',rfl,hl⟩
 |(i,v)::ps,(i',a)::qs,l,r,l',hp,hl,h=>by
  obtain⟨⟨h1,h2⟩,h3⟩:=hp
  simp only at h1 h2
  subst h1
  simp only[zZ]at h
  simp only[qV]
  cases F2:place i with
  |none=>rw[F2]at h; simp at h
  |some q=>
   obtain⟨off,size⟩:=q
   rw[F2]at h
   simp only at h ⊢
   split at h
   case isFalse=>simp at h
   rename_i hc
   have mg:=h2.cells
   rw[if_pos ⟨by rw[←mg.length]; exact hc.1,by rw[←hl.length]; exact hc.2.1,by rw[←mg.C9]; exact hc.2.2⟩]
   exact RP.fill h3 (RL.setCells off hl mg) h
 |[],_::_,_,_,_,h,_,_=>h.elim
 |_::_,[],_,_,_,h,_,_=>h.elim
theorem R.aG[ab]{H:ah T.den}{agg:Bool}{size:Nat}{v:SV T.den}{a:AV}(h:R T H v a):kT agg size v=aG agg size a:=by
 by_cases hv:∃ l,v=.agg l
 ·obtain⟨l,rfl⟩:=hv
  simp only[R]at h
  obtain⟨l',rfl,h2⟩:=h
  simp only[kT,Go.PI.aG]
  rw[h2.length,h2.C9]
 ·have jS:∀ l,v≠.agg l:=fun l e=>hv ⟨l,e⟩
  have e1:kT agg size v=(!agg&&decide (size=1)&&gw v):=by cases v<;>first|rfl|exact absurd rfl (jS _)
  have e2:Go.PI.aG agg size a=(!agg&&decide (size=1)&&ba a):=by
   have:=h.Fv jS
   cases a<;>first|rfl|exact absurd rfl (this _)
  rw[e1,e2,h.leaf]
theorem RL.cU{H:ah T.den}:∀ {l:List (SV T.den)} {m:List AV} {c:List Value},RL T H l m→mu l=some c→Go.PI.cU m=some c∧m=c.map .lit
 |[],[],c,_,h=>by simp[mu]at h; subst h; exact⟨rfl,rfl⟩
 |x::xs,y::ys,c,h,hc=>by
  simp only[RL]at h
  cases x with
  |lit v=>
   simp only[mu,Option.map_eq_some_iff]at hc
   obtain⟨c',h1,rfl⟩:=hc
   have h2:=h.1
   simp only[R]at h2
   subst h2
   obtain⟨h3,h4⟩:=RL.cU h.2 h1
   exact⟨by simp[Go.PI.cU,h3],by simp[h4]⟩
  |_=>simp[mu]at hc
 |[],_::_,_,h,_=>by simp[RL]at h
 |_::_,[],_,h,_=>by simp[RL]at h
theorem R.plain[ab]{H:ah T.den}{v:SV T.den}{a b:AV}(h:R T H v a)(hp:mO v=some b):a=b:=by
 cases v with
 |lit v=>simp_all[R,mO]
 |agg l=>
  simp only[R]at h
  obtain⟨l',rfl,h2⟩:=h
  simp only[mO,Option.map_eq_some_iff]at hp
  obtain⟨c,h3,rfl⟩:=hp
  rw[(RL.cU h2 h3).2]
 |_=>simp[mO]at hp
theorem uS[ab]{H:ah T.den}{a:AV}{v:SV T.den}(h:(gy a:Option (SV T.den))=some v):R T H v a:=by
 cases a with
 |lit x=>simp[gy]at h; subst h; simp[R]
 |agg l=>
  simp only[gy,Option.map_eq_some_iff]at h
  obtain⟨c,h1,rfl⟩:=h
  simp only[R]
  refine⟨l,rfl,?_⟩
  have:l=c.map .lit:=by
   revert c
   induction l with
   |nil=>simp_all[Go.PI.cU]
   |cons x xs ih=>
    intro c h1
    cases x with
    |lit v=>
     simp only[Go.PI.cU,Option.map_eq_some_iff]at h1
     obtain⟨c',h2,rfl⟩:=h1
     rw[ih c' h2]; rfl
    |_=>simp[Go.PI.cU]at h1
  rw[this]
  exact RL.lits c
 |_=>simp[gy]at h
end Go.PI
end
section
/- PS, part E: the tables looked up before. -/
namespace Go.PI
def oj:TypeDesc→MK
 |.slice e=>.slice e
 |.array n e=>.array n e
 |.struct fs=>.struct (fs.toList.map fun f=>(f.offset,f.type))
 |.interface _=>.iface
 |_=>.other
def kg(rec:TypeId→Option (List CK))(P:Program):Nat→List Field→Option (List CK)
 |_,[]=>some []
 | off, f :: fs => if f.name = "_" then none else
   if f.offset=off then
    match rec f.type with
    |some ks=>if ks.length=P.cellsOf f.type then (kg rec P (off+ks.length) fs).map fun l=>ks++l else none
    |none=>none
   else none
def mA(P:Program):Nat→TypeId→Option (List CK)
 |0,_=>none
 |d+1,t=>
  match P.underlying t with
  |some .bool=>some [.bool]
  |some (.int k)=>some [.int k]
  |some .string=>some [.str]
  |some (.array n e)=>if (P.info? e).isSome&&(P.underlying e).isSome then
    match mA P d e with
    |some ks=>if ks.length=P.cellsOf e then some (List.replicate n ks).flatten else none
    |none=>none
   else none
  |some (.struct fs)=>if P.stoodInHeld t then none else kg (mA P d) P 0 fs.toList
  |_=>none
theorem kh:∀ {ks:List CK} {vs:List Value},bk ks vs=true→ks.length=vs.length
 |[],[],_=>rfl
 |_::_,_::_,h=>by simp only[bk,Bool.and_eq_true]at h; simp[kh h.2]
 |[],_::_,h=>by simp[bk]at h
 |_::_,[],h=>by simp[bk]at h
theorem pU:∀ {ks ls:List CK} {vs:List Value},bk (ks++ls) vs=true→bk ks (vs.take ks.length)=true∧bk ls (vs.drop ks.length)=true
 |[],ls,vs,h=>by simpa[bk] using h
 |k::ks,ls,[],h=>by simp[bk]at h
 |k::ks,ls,v::vs,h=>by
  simp only[List.cons_append,bk,Bool.and_eq_true]at h
  obtain⟨h1,h2⟩:=pU h.2
  simp only[List.length_cons,List.take_succ_cons,List.drop_succ_cons,bk,Bool.and_eq_true]
  exact⟨⟨h.1,h1⟩,h2⟩
theorem pV:∀ {a a' b b':List Value},a.length=a'.length→cI (a++b) (a'++b')=(cI a a'&&cI b b')
 |[],[],b,b',_=>by simp[cI]
 |x::xs,y::ys,b,b',h=>by
  simp only[List.cons_append,cI]
  rw[pV (by simpa using h),Bool.and_assoc]
theorem pW[ab]{P:Program}{rec:TypeId→List Value→List Value→Option Bool}{kr:TypeId→Option (List CK)}
  (hr:∀ t ks c c',kr t=some ks→bk ks c=true→bk ks c'=true→rec t c c'=some (cI c c')) :
  ∀ (fs:List Field) (off:Nat) (ks:List CK) (cs lX:List Value),kg kr P off fs=some ks→bk ks (cs.drop off)=true→bk ks (lX.drop off)=true →
    jz rec P cs lX fs=some (cI (cs.drop off) (lX.drop off))
 |[],off,ks,cs,lX,h,h1,h2=>by
  simp only[kg,Option.some.injEq]at h
  subst h
  have e1:cs.drop off=[]:=by cases hq:cs.drop off with
   |nil=>rfl
   |cons x xs=>rw[hq]at h1; simp[bk]at h1
  have e2:lX.drop off=[]:=by cases hq:lX.drop off with
   |nil=>rfl
   |cons x xs=>rw[hq]at h2; simp[bk]at h2
  rw[e1,e2]; rfl
 |f::fs,off,ks,cs,lX,h,h1,h2=>by
  simp only[kg]at h
  split at h
  ·simp at h
  rename_i hn
  split at h
  case isFalse=>simp at h
  rename_i ho
  cases hk:kr f.type with
  |none=>rw[hk]at h; simp at h
  |some k1=>
   rw[hk]at h
   simp only at h
   split at h
   case isFalse=>simp at h
   rename_i hs
   rw[Option.map_eq_some_iff]at h
   obtain⟨k2,h3,rfl⟩:=h
   obtain⟨a1,a2⟩:=pU h1
   obtain⟨b1,b2⟩:=pU h2
   rw[List.drop_drop]at a2 b2
   have ih:=pW hr fs (off+k1.length) k2 cs lX h3 a2 b2
   have hc:chunk P cs f.offset f.type=(cs.drop off).take k1.length:=by simp[chunk,ho,hs]
   have HM:chunk P lX f.offset f.type=(lX.drop off).take k1.length:=by simp[chunk,ho,hs]
   simp only[jz,hn,if_false]
   rw[hc,HM,hr _ _ _ _ hk a1 b1]
   simp only
   rw[ih,Option.map_some]
   congr 1
   have l1:=kh a1
   have l2:=kh b1
   conv=>rhs; rw[←List.take_append_drop k1.length (cs.drop off),←List.take_append_drop k1.length (lX.drop off)]
   rw[pV (by omega),List.drop_drop,List.drop_drop]
theorem rz[ab]{P:Program}{rec:TypeId→List Value→List Value→Option Bool}{e:TypeId}{ks:List CK}(hs:ks.length=P.cellsOf e)
  (hr:∀ c c',bk ks c=true→bk ks c'=true→rec e c c'=some (cI c c')) :
  ∀ (n m:Nat) (cs lX:List Value),bk (List.replicate n ks).flatten (cs.drop (m*ks.length))=true→bk (List.replicate n ks).flatten (lX.drop (m*ks.length))=true →
    lh rec P e cs lX (List.range' m n)=some (cI (cs.drop (m*ks.length)) (lX.drop (m*ks.length)))
 |0,m,cs,lX,h1,h2=>by
  simp only[List.replicate_zero,List.flatten_nil]at h1 h2
  have e1:cs.drop (m*ks.length)=[]:=by cases hq:cs.drop (m*ks.length) with
   |nil=>rfl
   |cons x xs=>rw[hq]at h1; simp[bk]at h1
  have e2:lX.drop (m*ks.length)=[]:=by cases hq:lX.drop (m*ks.length) with
   |nil=>rfl
   |cons x xs=>rw[hq]at h2; simp[bk]at h2
  rw[e1,e2]; rfl
 |n+1,m,cs,lX,h1,h2=>by
  simp only[List.replicate_succ,List.flatten_cons]at h1 h2
  obtain⟨a1,a2⟩:=pU h1
  obtain⟨b1,b2⟩:=pU h2
  rw[List.drop_drop]at a2 b2
  have em:m*ks.length+ks.length=(m+1)*ks.length:=by rw[Nat.succ_mul]
  rw[em]at a2 b2
  have ih:=rz hs hr n (m+1) cs lX a2 b2
  have hc:chunk P cs (m*P.cellsOf e) e=(cs.drop (m*ks.length)).take ks.length:=by simp[chunk,hs]
  have HM:chunk P lX (m*P.cellsOf e) e=(lX.drop (m*ks.length)).take ks.length:=by simp[chunk,hs]
  rw[List.range'_succ]
  simp only[lh]
  rw[hc,HM,hr _ _ a1 b1]
  simp only
  rw[ih,Option.map_some]
  congr 1
  have l1:=kh a1
  have l2:=kh b1
  conv=>rhs; rw[←List.take_append_drop ks.length (cs.drop (m*ks.length)),←List.take_append_drop ks.length (lX.drop (m*ks.length))]
  rw[pV (by omega),List.drop_drop,List.drop_drop,em]
theorem sk[ab]{P:Program}:∀ (d:Nat) (t:TypeId) (ks:List CK) (c c':List Value),mA P d t=some ks→bk ks c=true→bk ks c'=true→ko P d t c c'=some (cI c c')
 |0,_,_,_,_,h,_,_=>by simp[mA]at h
 |d+1,t,ks,c,c',h,h1,h2=>by
  simp only[mA]at h
  simp only[ko]
  cases hu:P.underlying t with
  |none=>rw[hu]at h; simp at h
  |some ds=>
   rw[hu]at h
   cases ds with
   |bool=>
    simp only[Option.some.injEq]at h
    subst h
    match c,c',h1,h2 with
    |[.bool a],[.bool b],_,_=>simp[cI,r9]
    |[],_,h1,_=>simp[bk]at h1
    |_::_::_,_,h1,_=>simp[bk]at h1
    |_,[],_,h2=>simp[bk]at h2
    |_,_::_::_,_,h2=>simp[bk]at h2
    |[v],[w],h1,h2=>
     cases v<;>simp[bk,CK.fits]at h1
     cases w<;>simp[bk,CK.fits]at h2
     simp[cI,r9]
   |int k=>
    simp only[Option.some.injEq]at h
    subst h
    match c,c',h1,h2 with
    |[],_,h1,_=>simp[bk]at h1
    |_::_::_,_,h1,_=>simp[bk]at h1
    |_,[],_,h2=>simp[bk]at h2
    |_,_::_::_,_,h2=>simp[bk]at h2
    |[v],[w],h1,h2=>
     cases v<;>simp[bk,CK.fits]at h1
     cases w<;>simp[bk,CK.fits]at h2
     subst h1; subst h2
     simp[cI,r9]
   |string=>
    simp only[Option.some.injEq]at h
    subst h
    match c,c',h1,h2 with
    |[],_,h1,_=>simp[bk]at h1
    |_::_::_,_,h1,_=>simp[bk]at h1
    |_,[],_,h2=>simp[bk]at h2
    |_,_::_::_,_,h2=>simp[bk]at h2
    |[v],[w],h1,h2=>
     cases v<;>simp[bk,CK.fits]at h1
     cases w<;>simp[bk,CK.fits]at h2
     simp[cI,r9]
   |array n e=>
    simp only at h ⊢
    split at h
    case isFalse=>simp at h
    rename_i hc
    rw[if_pos hc]
    cases hk:mA P d e with
    |none=>rw[hk]at h; simp at h
    |some k1=>
     rw[hk]at h
     simp only at h
     split at h
     case isFalse=>simp at h
     rename_i hs
     simp only[Option.some.injEq]at h
     subst h
     have:=rz (rec:=ko P d) hs (fun c c'=>sk d e k1 c c' hk) n 0 c c' (by simpa using h1) (by simpa using h2)
     rw[List.range_eq_range']
     simpa using this
   |struct fs=>
    simp only at h ⊢
    split at h
    ·simp at h
    rename_i hc
    rw[if_neg hc]
    have:=pW (rec:=ko P d) (fun t ks c c' hk=>sk d t ks c c' hk) fs.toList 0 ks c c' h (by simpa using h1) (by simpa using h2)
    simpa using this
   |_=>simp at h
structure gM.Ok(Q:gM):Prop where
 row:∀ t m,Q.ty t=some m→∃ r,fb Q.P t=some r∧r.isAgg=m.agg∧r.size=m.size∧r.bytes=m.bytes∧(∀ z,m.zero=some z→cj r=some z)
 kind:∀ t m,Q.ty t=some m→∃ d,Q.P.underlying t=some d∧oj d=m.kind
 ON:∀ t m ks,Q.ty t=some m→m.ON=some ks→Q.P.eqGuardType Q.P.depth t=false∧mA Q.P 20 t=some ks
 map:∀ t q,Q.mapOf t=some q→wQ Q.P t=some q
theorem gA{α:Type}:∀ {l:List (Nat×α)} {n:Nat} {a:α},cm l n=some a→(n,a)∈l
 |[],_,_,h=>by simp[cm]at h
 |(m,b)::r,n,a,h=>by
  simp only[cm]at h
  split at h
  ·simp_all
  ·exact List.mem_cons_of_mem _ (gA h)
def rowOf(P:Program)(t:Nat):Option (Bool×Nat×Nat):=(fb P t).map fun r=>(r.isAgg,r.size,r.bytes)
def zeroOf(P:Program)(m:jX)(t:Nat):Option AV:=match m.zero with
 |none=>none
 |some _=>(fb P t).bind cj
def OU(P:Program)(m:jX)(t:Nat):Option (List CK):=match m.ON with
 |none=>none
 |some _=>if P.eqGuardType P.depth t=false then mA P 20 t else none
def KV(P:Program)(m:jX)(t:Nat):Option (KK×Nat):=match m.map with
 |none=>none
 |some _=>wQ P t
theorem uU{α β:Type}{f g:α→β}:∀ {l:List α},l.map f=l.map g→∀ x,x∈l→f x=g x
 |[],_,x,h=>by simp at h
 |y::ys,h,x,hx=>by
  simp only[List.map_cons,List.cons.injEq]at h
  rcases List.mem_cons.1 hx with rfl|hx
  ·exact h.1
  ·exact uU h.2 x hx
theorem gM.Ok.of[ab]{Q:gM}(h1:(Q.M.map fun q=>rowOf Q.P q.1)=Q.M.map fun q=>some (q.2.agg,q.2.size,q.2.bytes))
  (h2:(Q.M.map fun q=>zeroOf Q.P q.2 q.1)=Q.M.map fun q=>q.2.zero)
  (h3:(Q.M.map fun q=>(Q.P.underlying q.1).map oj)=Q.M.map fun q=>some q.2.kind)
  (h4:(Q.M.map fun q=>OU Q.P q.2 q.1)=Q.M.map fun q=>q.2.ON) (h5:(Q.M.map fun q=>KV Q.P q.2 q.1)=Q.M.map fun q=>q.2.map):Q.Ok where
 row:=by
  intro t m h
  have hm:=gA h
  have e1:=uU h1 _ hm
  have e2:=uU h2 _ hm
  simp only[rowOf,Option.map_eq_some_iff,Prod.mk.injEq]at e1
  obtain⟨r,hr,a1,a2,a3⟩:=e1
  refine⟨r,hr,a1,a2,a3,fun z hz=>?_⟩
  simp only[zeroOf]at e2
  rw[hz]at e2
  simpa[hr] using e2
 kind:=by
  intro t m h
  have e:=uU h3 _ (gA h)
  simp only[Option.map_eq_some_iff]at e
  exact e
 ON:=by
  intro t m ks h hk
  have e:=uU h4 _ (gA h)
  simp only[OU]at e
  rw[hk]at e
  simp only at e
  split at e
  ·exact⟨by assumption,e⟩
  ·simp at e
 map:=by
  intro t q h
  unfold gM.mapOf at h
  obtain⟨m,h1,h2⟩:=Option.bind_eq_some_iff.1 h
  have e:=uU h5 _ (gA h1)
  simp only[KV]at e
  rw[h2]at e
  exact e
end Go.PI
end
section
/- PS, part F: operations that only compute, and those on one object. -/
namespace Go.PI
variable {T:dw}{ρ:Type}
structure RE(T:dw)(H:ah T.den)(hp:ag)(v:SV T.den)(wr:List (Nat×aB T.den))(e:dm):Prop where
 val:RV T (bc H wr) v e.val
 hp:RH T (bc H wr) (ak hp e.wr)
 grow:dk H (bc H wr)
 names:∀ q,q∈e.wr→q.1∈wr.map (·.1)
 Bm:∀ n:Nat,n∉wr.map (·.1)→n<H.length→(bc H wr)[n]?=H[n]?
 len:H.length≤(bc H wr).length
 KW:∀ n,recAt H n=true→n∉wr.map (·.1)
def jm(T:dw)(H:ah T.den)(hp:ag)(m:RM dm)(K:EK T ρ)(r:ρ):Prop:=
 ∃ v wr rd e,aE hp m e rd∧RE T H hp v wr e∧(K v wr rd).run=some r
section
variable {H:ah T.den}{hp:ag}{K:EK T ρ}{r:ρ}
theorem ar[ab](hh:RH T H hp){m:RM dm}{v:SV T.den}{a:AV}{rd:List Nat}(hv:RV T H v a)(hm:aE hp m ⟨a,[]⟩ rd)(hk:(K v [] rd).run=some r):jm T H hp m K r:=
 ⟨v,[],rd,_,hm,⟨hv,hh,dk.refl _,fun q h=>by simp at h,fun _ _ _=>rfl,Nat.le_refl _,fun _ _ h=>by simp at h⟩,hk⟩
theorem vY{n:Nat}{o:aB T.den}(hn:n=H.length∨n<H.length):H.length≤(bJ H n o).length:=by
 unfold bJ
 split<;>simp
theorem xZ{n m:Nat}{o:aB T.den}(hm:m<H.length)(dN:m≠n):(bJ H n o)[m]?=H[m]?:=by
 grind[bJ]
theorem eH[ab](hh:RH T H hp){m:RM dm}{nm:Nat}(hn:nm=H.length∨H[nm]?=some none){o:aB T.den}{a':aM}(ho:RO T H o a'){v:SV T.den}{a:AV}{rd:List Nat}
  (hv:RV T (bJ H nm o) v a) (hm:aE hp m ⟨a,[(nm,a')]⟩ rd) (hk:(K v [(nm,o)] rd).run=some r):jm T H hp m K r:=by
 obtain⟨hg,hr⟩:=hh.new hn ho
 refine⟨v,[(nm,o)],rd,_,hm,⟨hv,hr,hg,fun q h=>?_,fun n h hl=>?_,?_,fun n h1 h2=>?_⟩,hk⟩
 ·simp at h; subst h; simp
 ·simp at h; exact xZ hl h
 ·exact vY (hn.imp id fun h=>(List.getElem?_eq_some_iff.1 h).1)
 ·simp at h2
  subst h2
  unfold recAt at h1
  rcases hn with hn|hn
  ·rw[List.getElem?_eq_none (by omega)]at h1; simp at h1
  ·rw[hn]at h1; simp at h1
theorem jN[ab](hh:RH T H hp){m:RM dm}{n:Nat}{o o':aB T.den}{a':aM}(ho:H[n]?=some (some o))(hc:o.cur≤o'.cur)(hl:o'.cur=o.cur→o'.len=o.len)(dC:RO T H o' a')
  {v:SV T.den} {a:AV} {rd:List Nat} (hv:RV T (H.set n (some o')) v a) (hm:aE hp m ⟨a,[(n,a')]⟩ rd) (hk:(K v [(n,o')] rd).run=some r) (Sn:o.isRec=false:=by rfl):jm T H hp m K r:=by
 obtain⟨hg,hr⟩:=hh.Q9 ho hc hl dC
 have bQ:=(List.getElem?_eq_some_iff.1 ho).1
 have e1:bc H [(n,o')]=H.set n (some o'):=by simp[bc,bJ]; omega
 have e2:ak hp [(n,a')]=hp.set n (some a'):=by simp[ak,setObj]; have:=hh.length; omega
 refine⟨v,[(n,o')],rd,_,hm,⟨by rw[e1]; exact hv,by rw[e1,e2]; exact hr,by rw[e1]; exact hg,fun q h=>?_,fun k h hl=>?_,?_,fun m h1 h2=>?_⟩,hk⟩
 ·simp at h; subst h; simp
 ·rw[e1]; simp at h; rw[List.getElem?_set_ne (Ne.symm h)]
 ·rw[e1]; simp
 ·simp at h2
  subst h2
  unfold recAt at h1
  rw[ho]at h1
  simp only at h1
  rw[Sn]at h1
  simp at h1
theorem hG{x:Option AV}(h:(oN (T:=T) x K).run=some r):∃ v,x=some (.lit v)∧(K (.lit v) [] []).run=some r:=by
 unfold oN at h
 split at h
 ·exact⟨_,rfl,h⟩
 ·simp[Tr.run]at h
theorem lU{x:Option (SV T.den)}{rd:List Nat}(h:(xN x rd K).run=some r):∃ v,x=some v∧(K v [] rd).run=some r:=by
 unfold xN at h
 split at h
 ·exact⟨_,rfl,h⟩
 ·simp[Tr.run]at h
theorem fp{b:Bool}{x y:Tr ρ}(h:(Tr.cond b x y).run=some r):(b=true∧x.run=some r)∨(b=false∧y.run=some r):=by
 cases b with
 |true=>exact .inl ⟨rfl,h⟩
 |false=>exact .inr ⟨rfl,h⟩
theorem aY[ab]{b:Bool}{x:Tr ρ}(h:(Tr.cond b x .fail).run=some r):b=true∧x.run=some r:=by
 grind[Tr.run]
theorem bind_some{α:Type}{e:Option α}{k:α→Tr ρ}(h:(Tr.bind e k).run=some r):∃ a,e=some a∧(k a).run=some r:=by
 simp only[Tr.run,Option.bind_eq_some_iff]at h
 exact h
theorem iI[ab]{v:SV T.den}{K:Nat→Tr ρ}(h:(fW v K).run=some r):∃ k n,v=.lit (.int k n)∧0≤n∧(K n.toNat).run=some r:=by
 unfold fW at h
 split at h
 ·obtain⟨h1,h2⟩:=aY h
  exact⟨_,_,rfl,by simpa using h1,h2⟩
 ·simp[Tr.run]at h
theorem qE[ab]{v:SV T.den}{a:AV}{k:IntKind}{n:Int}(hv:RV T H v a)(e:v=.lit (.int k n))(hn:0≤n):asNat a=some n.toNat:=by
 subst e
 have:=hv.live rfl
 simp only[R]at this
 subst this
 simp[asNat,hn]
theorem cV[ab]{i:Nat}{K:Nat→Tr ρ}:∀ {len m:Nat},(fC i len m K).run=some r→m≤i∧i<m+len∧(K i).run=some r
 |0,m,h=>by simp[fC,Tr.run]at h
 |len+1,m,h=>by
  simp only[fC]at h
  rcases fp h with ⟨h1,h2⟩|⟨h1,h2⟩
  ·simp_all
  ·obtain⟨h3,h4,h5⟩:=cV h2
   exact⟨by omega,by omega,h5⟩
theorem RV.lit[ab]{v:SV T.den}{a:AV}{x:Value}(hv:RV T H v a)(e:v=.lit x):a=.lit x:=by
 subst e
 have:=hv.live rfl
 simpa only[R] using this
theorem bm(x:Value):RV T H (.lit x) (.lit x):=.inr (by simp[R])
theorem fL.arr(hh:RH T H hp){n c aq:Nat}(hv:fL H n c aq){o:aB T.den}(ho:H[n]?=some (some o))(hc:Nat.beq c o.cur=true):aq=o.len:=by
 obtain⟨o',h1,h2,h3⟩:=hv
 rw[ho]at h1
 simp only[Option.some.injEq]at h1
 subst h1
 exact h3 (Nat.eq_of_beq_eq_true hc)
theorem qF:∀ {v:SV T.den} {a0 a:AV} {d:Nat},R T H v a0→VZ a0 d a→R T H (ik d v) a
 |.ref n c i j,a0,a,d,h,hx=>by
  simp only[R]at h
  obtain⟨aq,rfl,hv⟩:=h
  rcases hx with ⟨n,aq,k,j,h1,rfl⟩|⟨e,j,h1,rfl⟩<;>cases h1
  simp only[ik,R]
  exact⟨_,rfl,hv⟩
 |.bf e j,a0,a,d,h,hx=>by
  simp only[R]at h
  obtain⟨e',rfl,hv⟩:=h
  rcases hx with ⟨n,aq,k,j,h1,rfl⟩|⟨e,j,h1,rfl⟩<;>cases h1
  simp only[ik,R]
  exact⟨_,rfl,hv⟩
 |.sD v s l i,a0,a,d,h,hx=>by
  simp only[R]at h
  obtain⟨a1,h1,h2,h3⟩:=h
  simp only[ik,R]
  rcases h3 with ⟨n,aq,k,j,rfl,rfl⟩|⟨e,j,rfl,rfl⟩<;>rcases hx with ⟨n',BS,k',j',e1,rfl⟩|⟨e',j',e1,rfl⟩<;>cases e1
  ·exact⟨.ref n aq k (j+d),qF h1 (.inl ⟨_,_,_,_,rfl,rfl⟩),h2,.inl ⟨_,_,_,_,rfl,by rw[Nat.add_right_comm]⟩⟩
  ·exact⟨.bf e (j+d),qF h1 (.inr ⟨_,_,rfl,rfl⟩),h2,.inr ⟨_,_,rfl,by rw[Nat.add_right_comm]⟩⟩
 |.dead,_,_,_,h,_=>by simp[R]at h
 |.lit v,_,_,_,h,hx=>by
  simp only[R]at h; subst h
  rcases hx with ⟨n,aq,k,j,h1,_⟩|⟨e,j,h1,_⟩<;>cases h1
 |.agg l,_,_,_,h,hx=>by
  simp only[R]at h; obtain⟨_,rfl,_⟩:=h
  rcases hx with ⟨n,aq,k,j,h1,_⟩|⟨e,j,h1,_⟩<;>cases h1
 |.jt l,_,_,_,h,hx=>by
  simp only[R]at h; obtain⟨_,rfl,_⟩:=h
  rcases hx with ⟨n,aq,k,j,h1,_⟩|⟨e,j,h1,_⟩<;>cases h1
 |.sl l,_,_,_,h,hx=>by
  simp only[R]at h; obtain⟨_,rfl,_⟩:=h
  rcases hx with ⟨n,aq,k,j,h1,_⟩|⟨e,j,h1,_⟩<;>cases h1
 |.jr t l,_,_,_,h,hx=>by
  simp only[R]at h
  rcases h with ⟨_,rfl,_⟩|⟨_,rfl⟩<;>rcases hx with ⟨n,aq,k,j,h1,_⟩|⟨e,j,h1,_⟩<;>cases h1
 |.iM n c i j ln cp,_,_,_,h,hx=>by
  simp only[R]at h; obtain⟨_,rfl,_⟩:=h
  rcases hx with ⟨n,aq,k,j,h1,_⟩|⟨e,j,h1,_⟩<;>cases h1
 |.bq esz n c rg cap,_,_,_,h,hx=>by
  simp only[R]at h
  obtain⟨aq,_,h2⟩:=h
  rcases rg with _|⟨off,len⟩<;>simp only at h2<;>subst h2<;>rcases hx with ⟨n,aq,k,j,h1,_⟩|⟨e,j,h1,_⟩<;>cases h1
 |.iT fn f c,_,_,_,h,hx=>by
  simp only[R]at h; obtain⟨_,_,rfl,_⟩:=h
  rcases hx with ⟨n,aq,k,j,h1,_⟩|⟨e,j,h1,_⟩<;>cases h1
 |.gg t v,_,_,_,h,hx=>by
  simp only[R]at h; obtain⟨_,rfl,_⟩:=h
  rcases hx with ⟨n,aq,k,j,h1,_⟩|⟨e,j,h1,_⟩<;>cases h1
 |.wI t l c b,_,_,_,h,hx=>by
  simp only[R]at h
  rcases h with ⟨_,_,rfl,_⟩|⟨_,_,rfl|rfl⟩<;>rcases hx with ⟨n,aq,k,j,h1,_⟩|⟨e,j,h1,_⟩<;>cases h1
 |.nz,_,_,_,h,hx=>by
  simp only[R]at h
  subst h
  rcases hx with ⟨n,aq,k,j,h1,_⟩|⟨e,j,h1,_⟩<;>cases h1
 |.mp y n,_,_,_,h,hx=>by
  simp only[R]at h; obtain⟨rfl,_⟩:=h
  rcases hx with ⟨n,aq,k,j,h1,_⟩|⟨e,j,h1,_⟩<;>cases h1
theorem j0{e:SV T.den}{s:Nat}:∀ {n j:Nat} {xs:List (SV T.den)},gz e j s n=some xs→xs.length=n∧∀ m x,xs[m]?=some x→nH false 1 e (j+m*s)=some x
 |0,j,xs,h=>by simp only[gz,Option.some.injEq]at h; subst h; simp
 |n+1,j,xs,h=>by
  simp only[gz,Option.bind_eq_some_iff,Option.map_eq_some_iff]at h
  obtain⟨x,hx,l,hl,rfl⟩:=h
  obtain⟨h1,h2⟩:=j0 hl
  refine⟨by simp[h1],fun m y hy=>?_⟩
  cases m with
  |zero=>simp at hy; subst hy; simpa using hx
  |succ m=>
   grind
theorem sn{k:IntKind}:∀ {xs:List (SV T.den)} {l:List Int},uM k xs=some l→xs=l.map fun n=>.lit (.int k n)
 |[],l,h=>by simp only[uM,Option.some.injEq]at h; subst h; rfl
 |x::r,l,h=>by
  unfold uM at h
  split at h
  ·simp at *
  ·rename_i k' n r' he
   cases he
   split at h
   case isFalse=>simp at h
   rename_i hk
   subst hk
   rw[Option.map_eq_some_iff]at h
   obtain⟨l',hl,rfl⟩:=h
   rw[sn hl]; rfl
  ·simp at h
theorem vZ:∀ {xs:List (SV T.den)} {l:List Bool},tB xs=some l→xs=l.map fun n=>.lit (.bool n)
 |[],l,h=>by simp only[tB,Option.some.injEq]at h; subst h; rfl
 |x::r,l,h=>by
  unfold tB at h
  split at h
  ·simp at *
  ·rename_i n r' he
   cases he
   rw[Option.map_eq_some_iff]at h
   obtain⟨l',hl,rfl⟩:=h
   rw[vZ hl]; rfl
  ·simp at h
theorem z7{α:Type}{l:List α}{i:Nat}{d x:α}(h:l[i]?=some x):GI l i d=x:=by
 simp_all[GI,h]
theorem De{xs:List (SV T.den)}{i:Nat}{x y:SV T.den}(h:KF i xs=some y)(hx:xs[i]?=some x):y=x:=by
 unfold KF at h
 split at h
 ·rename_i k n r
  rw[Option.map_eq_some_iff]at h
  obtain⟨l,hl,rfl⟩:=h
  rw[sn hl]at hx
  have:(List.map (fun n=>(SV.lit (Value.int k n):SV T.den)) (n::l))[i]?=some x:=hx
  rw[List.getElem?_map,Option.map_eq_some_iff]at this
  obtain⟨z,hz,rfl⟩:=this
  rw[z7 hz]
 ·rename_i n r
  rw[Option.map_eq_some_iff]at h
  obtain⟨l,hl,rfl⟩:=h
  rw[vZ hl]at hx
  have:(List.map (fun n=>(SV.lit (Value.bool n):SV T.den)) (n::l))[i]?=some x:=hx
  rw[List.getElem?_map,Option.map_eq_some_iff]at this
  obtain⟨z,hz,rfl⟩:=this
  rw[z7 hz]
 ·simp at h
theorem Df{m:jX}{v x:SV T.den}{aW len i:Nat}{xs:List (SV T.den)}{rd:List Nat}(h:Fj H v aW len=some (xs,rd))(hx:KF i xs=some x)(hi:i<len)(h1:m.agg=false)(h2:m.size=1):
  od m H (ik (i*aW) v) K=K x [] rd:=by
 have fin:∀ (e:SV T.den) (j:Nat),gz e j aW len=some xs→nH m.agg m.size e (j+i*aW)=some x:=by
  intro e j hs
  obtain⟨g1,g2⟩:=j0 hs
  have bQ:i<xs.length:=by omega
  have hg:=List.getElem?_eq_getElem bQ
  rw[De hx hg,h1,h2]
  exact g2 _ _ hg
 unfold Fj at h
 split at h
 ·rename_i n c k j
  split at h
  case h_2=>simp at h
  rename_i g cl f cur es ho
  split at h
  case h_2=>simp at h
  rename_i hc
  simp only[Option.bind_eq_some_iff,Option.map_eq_some_iff,Prod.mk.injEq]at h
  obtain⟨e,he,l,hl,rfl,rfl⟩:=h
  simp only[ik,od,ho,hc,he,fin e j hl,xN]
 ·rename_i e j
  simp only[Option.map_eq_some_iff,Prod.mk.injEq]at h
  obtain⟨l,hl,rfl,rfl⟩:=h
  simp only[ik,od,fin e j hl,xN]
 ·simp at h
theorem KX{α:Type}{l:List α}{n:Nat}{x:α}(h:l[n]?=some x):l.set n x=l:=Go.PI.gW h
theorem Dg{k:IntKind}{y:Int}{aW i:Nat}:∀ {ns:List Int} {l:List (SV T.den)} {j m:Nat},i<m→(∀ p n,ns[p]?=some n→l[j+p*aW]?=some (.lit (.int k n)))→Fk l j aW i m k y ns=l
 |[],l,j,m,_,_=>rfl
 |n::ns,l,j,m,hm,h=>by
  have h0:l[j]?=some (.lit (.int k n)):=by simpa using h 0 n rfl
  have hb:Nat.beq i m=false:=by
   cases hb:Nat.beq i m
   ·rfl
   ·have:=Nat.eq_of_beq_eq_true hb; omega
  simp only[Fk,hb,cond_false]
  rw[KX h0]
  refine Dg (by omega) fun p x hp=>?_
  have:=h (p+1) x (by simpa using hp)
  rwa [Nat.succ_mul,Nat.add_comm _ aW,←Nat.add_assoc]at this
theorem Dh{k:IntKind}{y:Int}{aW i:Nat}(hs:0<aW):∀ {ns:List Int} {l:List (SV T.den)} {j m:Nat},m≤i→i<m+ns.length→(∀ p n,ns[p]?=some n→l[j+p*aW]?=some (.lit (.int k n))) →
  Fk l j aW i m k y ns=l.set (j+(i-m)*aW) (.lit (.int k y))
 |[],l,j,m,h1,h2,_=>by simp at h2; omega
 |n::ns,l,j,m,h1,h2,h=>by
  have h0:l[j]?=some (.lit (.int k n)):=by simpa using h 0 n rfl
  have hn:∀ (l':List (SV T.den)),(∀ q,j<q→l'[q]?=l[q]?)→∀ p x,ns[p]?=some x→l'[j+aW+p*aW]?=some (.lit (.int k x)):=by
   intro l' hl p x hp
   have:=h (p+1) x (by simpa using hp)
   rw[Nat.succ_mul,Nat.add_comm _ aW,←Nat.add_assoc]at this
   rw[hl _ (by omega)]; exact this
  by_cases hm:i=m
  ·subst hm
   have hb:Nat.beq i i=true:=by simp
   simp only[Fk,hb,cond_true,Nat.sub_self,Nat.zero_mul,Nat.add_zero]
   exact Dg (by omega) (hn _ fun q hq=>by rw[List.getElem?_set_ne (by omega)])
  ·have hb:Nat.beq i m=false:=by
    cases hb:Nat.beq i m
    ·rfl
    ·simp_all
   simp only[Fk,hb,cond_false]
   rw[KX h0,Dh hs (by omega) (by simp at h2; omega) (hn _ fun _ _=>rfl)]
   have:i-m=(i-(m+1))+1:=by omega
   rw[this,Nat.succ_mul,Nat.add_assoc,Nat.add_comm aW]
theorem Bn{m:jX}{b v:SV T.den}{aW len i n:Nat}{o:aB T.den}(h:Fl H b v aW len i=some (n,o))(hi:i<len)(h2:m.size=1):
  qy m H (ik (i*aW) b) v K=K (.lit undef) [(n,o)] [n]:=by
 unfold Fl at h
 split at h
 case h_2=>simp at h
 rename_i n' c i0 j k y
 split at h
 case h_2=>simp at h
 rename_i g cl f cur es ho
 split at h
 case h_2=>simp at h
 rename_i l hc he
 simp only[Bool.and_eq_true]at hc
 obtain⟨⟨MC,Oq⟩,Wi⟩:=hc
 have hs:0<aW:=Nat.le_of_ble_eq_true Wi
 simp only[Option.map_eq_some_iff,Option.bind_eq_some_iff,Prod.mk.injEq]at h
 obtain⟨ns,⟨xs,zp,Wj⟩,rfl,rfl⟩:=h
 obtain⟨g1,g2⟩:=j0 zp
 have Uo:=sn Wj
 have vn:∀ p x,ns[p]?=some x→l[j+p*aW]?=some (.lit (.int k x)):=by
  simp_all[nH]
 have hlen:ns.length=len:=by rw[←g1,Uo,List.length_map]
 have Fx:=Dh (y:=y) hs (Nat.zero_le i) (by omega) vn
 rw[Nat.sub_zero]at Fx
 rw[Fx]
 have bQ:j+i*aW<l.length:=by
  have:=vn i _ (List.getElem?_eq_getElem (by omega:i<ns.length))
  exact(List.getElem?_eq_some_iff.1 this).1
 have uc:(bI (SV.lit (Value.int k y):SV T.den))=[.lit (.int k y)]:=rfl
 simp only[ik,qy,bO,uc,ho,MC,Oq,he,h2]
 simp[fU,iH,gw,av,aD]
 rw[if_pos (show j+i*aW+1≤l.length from bQ)]
theorem uV[ab](hT:T.Ok){P:Program}{t:TypeId}{m:jX}{q:bG}(hq:fb P t=some q)(h1:q.isAgg=m.agg)(h2:q.size=m.size)(hh:RH T H hp){a:SV T.den}{b:AV}(ha:RV T H a b)
  (h:(od m H a K).run=some r):∃ v c rd,aE hp (kE P t b) c rd∧R T H v c∧(K v [] rd).run=some r:=by
 unfold kE
 rw[hq]
 simp only
 unfold od at h
 split at h
 ·-- a reference
  rename_i n c i j
  have ha:=ha.live rfl
  simp only[R]at ha
  obtain⟨aq,rfl,bZ⟩:=ha
  simp only
  split at h
  ·rename_i g cl f cur es ho
   obtain⟨o,c8,dC⟩:=hh.obj ho
   obtain⟨es',rfl,cC,qT⟩:=dC
   split at h
   case h_2=>simp[Tr.run]at h
   rename_i hc
   have bZ:=bZ.arr hh ho hc
   simp only[aB.len]at bZ
   split at h
   case h_2=>simp[Tr.run]at h
   rename_i e he
   obtain⟨v,hv,hk⟩:=lU h
   obtain⟨e',Gf,Ed⟩:=aw.get (aQ.1 cC) he
   rw[←h1,←h2]at hv
   obtain⟨c',HM,SO⟩:=R.part Ed hv
   refine⟨v,c',[n],?_,SO,hk⟩
   refine aE.mono (aE.bind (aE.arr c8 (by rw[bZ]; exact(RL.length cC).symm)) ?_) (rd:=[n]++[]) (fun _ h=>by simpa using h)
   simp only[Gf]
   exact aE.gQ HM
  ·rename_i g f cur t' l ho
   obtain⟨o,c8,dC⟩:=hh.obj ho
   obtain⟨es',rfl,cC⟩:=dC
   split at h
   case h_2=>simp[Tr.run]at h
   rename_i hc
   have bZ:=bZ.arr hh ho hc
   simp only[aB.len]at bZ
   obtain⟨x,hx,h⟩:=bind_some h
   rw[GO hT]at h
   obtain⟨v,hv,hk⟩:=lU h
   obtain⟨e',Gf,Ed⟩:=aw.get cC hx
   rw[←h1,←h2]at hv
   obtain⟨c',HM,SO⟩:=R.part (hT.up _ _ _ H Ed) hv
   refine⟨v,c',[n],?_,SO,hk⟩
   refine aE.mono (aE.bind (aE.arr c8 (by rw[bZ]; exact(aw.length cC).symm)) ?_) (rd:=[n]++[]) (fun _ h=>by simpa using h)
   simp only[Gf]
   exact aE.gQ HM
  ·simp[Tr.run]at h
 ·rename_i e j
  have ha:=ha.live rfl
  simp only[R]at ha
  obtain⟨e',rfl,Ed,_⟩:=ha
  obtain⟨v,hv,hk⟩:=lU h
  rw[←h1,←h2]at hv
  obtain⟨c',HM,SO⟩:=R.part Ed hv
  exact⟨v,c',[],aE.gQ HM,SO,hk⟩
 ·simp[Tr.run]at h
theorem Di[ab](hT:T.Ok){P:Program}{t:TypeId}{m:jX}{q:bG}(hq:fb P t=some q)(h1:q.isAgg=m.agg)(h2:q.size=m.size)(hh:RH T H hp){a:SV T.den}{b:AV}(ha:RV T H a b)
  (h:(GJ m H a K).run=some r):∃ v c rd,aE hp (kE P t b) c rd∧R T H v c∧(K v [] rd).run=some r:=by
 unfold GJ at h
 split at h
 ·rename_i v aW len i
  have ha:=ha.live rfl
  simp only[R]at ha
  obtain⟨a0,g1,g2,g3⟩:=ha
  have hR:=qF g1 g3
  have chain:(fC i len 0 fun k=>od m H (ik (k*aW) v) K).run=some r→∃ v c rd,aE hp (kE P t b) c rd∧R T H v c∧(K v [] rd).run=some r:=by
   intro h
   obtain⟨_,_,h⟩:=cV h
   exact uV hT hq h1 h2 hh (.inr hR) h
  split at h
  ·rename_i xs rd hs hx
   simp only[Bool.and_eq_true,Bool.not_eq_true']at hs
   split at h
   ·rename_i x KY
    rw[←Df (K:=K) (m:=m) hx KY g2 hs.1 (Nat.eq_of_beq_eq_true hs.2)]at h
    exact uV hT hq h1 h2 hh (.inr hR) h
   ·exact chain h
  ·exact chain h
 ·exact uV hT hq h1 h2 hh ha h
def aB.x5{den:Nat→Type}:aB den→Bool
 |.arr ..|.bV ..=>true
 |_=>false
theorem RO.Dj[ab]{o:aB T.den}{a:aM}(dC:RO T H o a)(hj:o.x5=true):∃ es,a=.arr o.flags.1 o.flags.2.1 o.flags.2.2 es∧es.length=o.len:=by
 cases o with
 |arr g cl f cur es=>obtain⟨es',rfl,cC,_⟩:=dC; exact⟨es',rfl,(RL.length cC).symm⟩
 |bV g f cur t l=>obtain⟨es',rfl,cC⟩:=dC; exact⟨es',rfl,(aw.length cC).symm⟩
 |_=>simp[aB.x5]at hj
theorem sq[ab](hT:T.Ok){P:Program}{t:TypeId}{m:jX}{q:bG}(hq:fb P t=some q)(h2:q.size=m.size)(hh:RH T H hp){a v:SV T.den}{b c:AV}(ha:RV T H a b)(hv:RV T H v c)
  (h:(qy m H a v K).run=some r):jm T H hp (o8 P t b c) K r:=by
 unfold o8
 rw[hq]
 simp only
 unfold qy at h
 split at h
 case h_2=>simp[Tr.run]at h
 rename_i hd kK
 simp only[Bool.and_eq_true,decide_eq_true_eq]at kK
 have hv:=hv.live hd
 have mg:=hv.cells
 split at h
 case h_2=>simp[Tr.run]at h
 rename_i n cc i j
 have ha:=ha.live rfl
 simp only[R]at ha
 obtain⟨aq,rfl,bZ⟩:=ha
 simp only
 split at h
 ·rename_i g cl f cur es ho
  obtain⟨o,c8,dC⟩:=hh.obj ho
  obtain⟨es',rfl,cC,qT⟩:=dC
  split at h
  case h_2=>simp[Tr.run]at h
  rename_i hc
  simp only[Bool.and_eq_true,Bool.not_eq_true']at hc
  have bZ:=bZ.arr hh ho hc.1
  simp only[aB.len]at bZ
  split at h
  case h_2=>simp[Tr.run]at h
  rename_i e he
  split at h
  case h_2=>simp[Tr.run]at h
  rename_i e' yP
  obtain⟨b',o5,Rd⟩:=aw.get (aQ.1 cC) he
  obtain⟨e2,xC,Qn⟩:=R.iU Rd mg yP
  have dD:RL T H (es.set i e') (es'.set i e2):=aQ.2 ((aQ.1 cC).set i Qn)
  refine jN (o':=.arr g (cl&&av (bI v)) f cur (es.set i e')) hh ho (Nat.le_refl _) (fun _=>by simp[aB.len]) (a':=.arr g (cl&&aZ (cellsOf c)) f (es'.set i e2)) ⟨_,by rw[RL.closed mg],dD,fun mW=>by simp only[Bool.and_eq_true]at mW; exact sj (qT mW.1) (xX yP (jL (qT mW.1) (List.mem_of_getElem? he)) mW.2) i⟩ (bm undef) ?_ h
  refine aE.mono (aE.bind (aE.arr c8 (by rw[bZ]; exact(RL.length cC).symm)) ?_) (rd:=[n]++[]) (fun _ h=>by simpa using h)
  simp only[o5,xC]
  rw[if_pos ⟨hc.2,by rw[←mg.length,h2]; exact kK.1,by rw[←mg.C9]; exact kK.2⟩]
  exact aE.ret _
 ·rename_i g f cur t' l ho
  obtain⟨o,c8,dC⟩:=hh.obj ho
  obtain⟨es',rfl,cC⟩:=dC
  split at h
  case h_2=>simp[Tr.run]at h
  rename_i hc
  simp only[Bool.and_eq_true,Bool.not_eq_true']at hc
  have bZ:=bZ.arr hh ho hc.1.1
  simp only[aB.len]at bZ
  obtain⟨x,hx,h⟩:=bind_some h
  split at h
  case h_2=>simp[Tr.run]at h
  rename_i e' yP
  split at h
  case h_2=>simp[Tr.run]at h
  rename_i y hy
  obtain⟨b',o5,Rd⟩:=aw.get cC hx
  obtain⟨e2,xC,Qn⟩:=R.iU (hT.up _ _ _ H Rd) mg yP
  have dD:aw (T.rp t') (l.set i y) (es'.set i e2):=cC.set i (hT.dn _ _ _ _ H hy Qn)
  refine jN (o':=.bV g f cur t' (l.set i y)) hh ho (Nat.le_refl _) (fun _=>by simp[aB.len]) (a':=.arr g (true&&aZ (cellsOf c)) f (es'.set i e2)) ⟨_,by rw[←RL.closed mg,hc.2]; rfl,dD⟩ (bm undef) ?_ h
  refine aE.mono (aE.bind (aE.arr c8 (by rw[bZ]; exact(aw.length cC).symm)) ?_) (rd:=[n]++[]) (fun _ h=>by simpa using h)
  simp only[o5,xC]
  rw[if_pos ⟨hc.1.2,by rw[←mg.length,h2]; exact kK.1,by rw[←mg.C9]; exact kK.2⟩]
  exact aE.ret _
 ·simp[Tr.run]at h
theorem H2[ab](hT:T.Ok){P:Program}{t:TypeId}{m:jX}{q:bG}(hq:fb P t=some q)(h2:q.size=m.size)(hh:RH T H hp){a v:SV T.den}{b c:AV}(ha:RV T H a b)(hv:RV T H v c)
  (h:(Fm m H a v K).run=some r):jm T H hp (o8 P t b c) K r:=by
 unfold Fm at h
 split at h
 ·rename_i w aW len i
  have ha:=ha.live rfl
  simp only[R]at ha
  obtain⟨a0,g1,g2,g3⟩:=ha
  have hR:=qF g1 g3
  split at h
  ·rename_i n o hs hx
   rw[←Bn (K:=K) (m:=m) hx g2 (Nat.eq_of_beq_eq_true hs)]at h
   exact sq hT hq h2 hh (.inr hR) hv h
  ·obtain⟨_,_,h⟩:=cV h
   exact sq hT hq h2 hh (.inr hR) hv h
 ·exact sq hT hq h2 hh ha hv h
end
end Go.PI
end
section
/- PS, part G: the other operations. -/
namespace Go.PI
variable {T:dw}{ρ:Type}
section
variable {H:ah T.den}{hp:ag}{K:EK T ρ}{r:ρ}{Q:gM}
theorem gM.Ok.slice(hQ:Q.Ok){t e:Nat}{m:jX}(h:Q.elemOf t=some (e,m)):Q.P.underlying t=some (.slice e)∧Q.ty e=some m:=by
 unfold gM.elemOf at h
 cases ht:Q.ty t with
 |none=>rw[ht]at h; simp at h
 |some m1=>
  rw[ht]at h
  simp only at h
  obtain⟨d,hd,hk⟩:=hQ.kind t m1 ht
  cases hm:m1.kind with
  |slice e'=>
   rw[hm]at h hk
   simp only[Option.map_eq_some_iff,Prod.mk.injEq]at h
   obtain⟨m2,h1,rfl,rfl⟩:=h
   cases d<;>simp[oj]at hk
   subst hk
   exact⟨hd,h1⟩
  |_=>rw[hm]at h; simp at h
theorem gM.Ok.elem[ab](hQ:Q.Ok){t:Nat}{m:jX}(h:Q.elem t=some m):∃ r,aO Q.P t=some r∧r.isAgg=m.agg∧r.size=m.size∧r.bytes=m.bytes∧(∀ z,m.zero=some z→cj r=some z):=by
 unfold gM.elem at h
 rw[Option.map_eq_some_iff]at h
 obtain⟨⟨e,m'⟩,h1,rfl⟩:=h
 obtain⟨h2,h3⟩:=hQ.slice h1
 obtain⟨r,h4,h5⟩:=hQ.row e _ h3
 exact⟨r,by simp[aO,h2,h4],h5⟩
theorem gM.Ok.Dk(hQ:Q.Ok){t n:Nat}{m:jX}(h:Q.arr t=some (n,m)):∃ r,arrayElem Q.P t=some (n,r)∧r.isAgg=m.agg∧r.size=m.size:=by
 unfold gM.arr at h
 cases ht:Q.ty t with
 |none=>rw[ht]at h; simp at h
 |some m1=>
  rw[ht]at h
  simp only at h
  obtain⟨d,hd,hk⟩:=hQ.kind t m1 ht
  cases hm:m1.kind with
  |array n' e=>
   rw[hm]at h hk
   simp only[Option.map_eq_some_iff,Prod.mk.injEq]at h
   obtain⟨m2,h1,rfl,rfl⟩:=h
   cases d<;>simp[oj]at hk
   obtain⟨rfl,rfl⟩:=hk
   obtain⟨r,h4,h5,h6,_⟩:=hQ.row _ _ h1
   exact⟨r,by simp[arrayElem,hd,h4],h5,h6⟩
  |_=>rw[hm]at h; simp at h
theorem gM.Ok.NK(hQ:Q.Ok){t f off:Nat}{m:jX}(h:Q.Ur t f=some (off,m)):∃ r,mb Q.P t f=some (off,r)∧r.isAgg=m.agg∧r.size=m.size:=by
 unfold gM.Ur at h
 cases ht:Q.ty t with
 |none=>rw[ht]at h; simp at h
 |some m1=>
  rw[ht]at h
  simp only at h
  obtain⟨d,hd,hk⟩:=hQ.kind t m1 ht
  cases hm:m1.kind with
  |struct fs=>
   rw[hm]at h hk
   simp only at h
   cases d<;>simp[oj]at hk
   rename_i D1
   subst hk
   cases hf:(List.map (fun f=>(f.offset,f.type)) D1.toList)[f]? with
   |none=>rw[hf]at h; simp at h
   |some q=>
    obtain⟨Wk,e⟩:=q
    rw[hf]at h
    simp only at h
    rw[List.getElem?_map,Option.map_eq_some_iff]at hf
    obtain⟨fd,UT,hq⟩:=hf
    simp only[Prod.mk.injEq]at hq
    obtain⟨rfl,rfl⟩:=hq
    cases he:Q.ty fd.type with
    |none=>rw[he]at h; simp at h
    |some m2=>
     rw[he]at h
     simp only at h
     split at h
     ·simp at h
     rename_i hz
     simp only[Option.some.injEq,Prod.mk.injEq]at h
     obtain⟨rfl,rfl⟩:=h
     obtain⟨r,h4,h5,h6,_⟩:=hQ.row _ _ he
     refine⟨r,?_,h5,h6⟩
     have Wl:D1[f]?=some fd:=by simpa using UT
     simp[mb,structFields,hd,Wl,h4]
     omega
  |_=>rw[hm]at h; simp at h
theorem gM.Ok.NL(hQ:Q.Ok){t:Nat}{b:Bool}(h:Q.isSlice t=some b):bW Q.P t=b:=by
 unfold gM.isSlice at h
 cases ht:Q.ty t with
 |none=>rw[ht]at h; simp at h
 |some m1=>
  rw[ht]at h
  simp only at h
  obtain⟨d,hd,hk⟩:=hQ.kind t m1 ht
  unfold bW
  rw[hd]
  cases hm:m1.kind<;>rw[hm]at h hk<;>cases d<;>simp[oj]at hk<;>simp_all
theorem NM[ab]{P:Program}{op:BinOp}{t:TypeId}{xo yo:Operand}{k:IntKind}{a b:Int}{v:Value}(h:Qa op k a b=some v):
  fq P op t xo yo (.lit (.int k a)) (.lit (.int k b))=some (.lit v):=by
 cases op<;>simp only[Qa,Option.some.injEq,reduceCtorEq]at h<;>subst h
 ·exact AO
 ·exact Gh
 ·exact MV
 ·rw[MT]; congr
 ·rw[MU]; congr
 ·exact qj
 ·exact MR
 ·exact Gg
 ·exact MS
theorem NN[ab]{P:Program}{op:BinOp}{t:TypeId}{xo yo:Operand}{k:IntKind}{a b:Int}{v:Value}(h:Qb op k a b=some v)(hb:b≠0):
  fq P op t xo yo (.lit (.int k a)) (.lit (.int k b))=some (.lit v):=by
 cases op<;>simp only[Qb,Option.some.injEq,reduceCtorEq]at h<;>subst h
 ·simp only[fq,ej,db]; rw[eC _ (by simp) (by simp)]; simp[binOp,Op.intDiv,hb]; rfl
 ·simp only[fq,ej,db]; rw[eC _ (by simp) (by simp)]; simp[binOp,Op.intDiv,hb]; rfl
theorem Qo[ab]{P:Program}{op:BinOp}{t:TypeId}{xo yo:Operand}{k k':IntKind}{a b:Int}{v:Value}(h:VW op k a b=some v)(hb:¬b<0):
  fq P op t xo yo (.lit (.int k a)) (.lit (.int k' b))=some (.lit v):=by
 cases op<;>simp only[VW,Option.some.injEq,reduceCtorEq]at h<;>subst h
 ·simp only[fq,ej,db]; rw[eC _ (by simp) (by simp)]; simp[binOp,Op.shift,hb]; rfl
 ·simp only[fq,ej,db]; rw[eC _ (by simp) (by simp)]; simp[binOp,Op.shift,hb]; rfl
theorem v5{x y:Value}{K:Bool→Tr ρ}:wJ x y K=K (r9 x y):=by
 unfold wJ r9
 split<;>simp_all
theorem v7[ab]:∀ {c c':List Value} {K:Bool→Tr ρ},kU c c' K=K (cI c c')
 |[],[],K=>rfl
 |[x],[y],K=>by simp[kU,v5,cI]
 |x::x'::xs,y::y'::ys,K=>by
  simp only[kU,v5]
  rw[v7]
  rfl
 |[],_::_,K=>by simp[kU,cI]
 |_::_,[],K=>by simp[kU,cI]
 |[x],y::y'::ys,K=>by simp[kU,cI]
 |x::x'::xs,[y],K=>by simp[kU,cI]
theorem x6:∀ (c:List Value),cU (c.map .lit)=some c
 |[]=>rfl
 |v::vs=>by simp[cU,x6 vs]
theorem H3[ab](hQ:Q.Ok){op:BinOp}{t:TypeId}{xo yo:Operand}{l l':List (SV T.den)}{a b:List AV}(h1:RL T H l a)(h2:RL T H l' b)(h:(Fq Q op t l l' K).run=some r):
  ∃ v,fq Q.P op t xo yo (.agg a) (.agg b)=some (.lit v)∧(K (.lit v) [] []).run=some r:=by
 unfold Fq at h
 split at h
 case h_2=>simp[Tr.run]at h
 rename_i c c' m hc HM hm
 split at h
 case h_2=>simp[Tr.run]at h
 rename_i ks Sv
 split at h
 case h_2=>simp[Tr.run]at h
 rename_i hf
 simp only[Bool.and_eq_true]at hf
 obtain⟨_,rfl⟩:=RL.cU h1 hc
 obtain⟨_,rfl⟩:=RL.cU h2 HM
 obtain⟨hg,G9⟩:=hQ.ON _ _ _ hm Sv
 have he:=sk 20 t ks c c' G9 hf.1.2 hf.2
 obtain⟨rr,wm,EX,_⟩:=hQ.row _ _ hm
 have hd:∃ d,Q.P.underlying t=some d∧dQ d=true:=by
  unfold fb at wm
  cases hi:Q.P.info? t with
  |none=>rw[hi]at wm; simp at wm
  |some i=>
   cases hu:Q.P.underlying t with
   |none=>rw[hi,hu]at wm; simp at wm
   |some d=>
    rw[hi,hu]at wm
    simp only[Option.some.injEq]at wm
    refine⟨d,rfl,?_⟩
    rw[←hf.1.1,←EX,←wm]
    rfl
 obtain⟨d,OA,T9⟩:=hd
 have hA:∀ op,ej Q.P op t (.agg (c.map .lit)) (.agg (c'.map .lit))=ld op (cI c c'):=by
  intro op
  unfold ej
  simp only[x6,OA]
  cases d<;>simp[dQ]at T9<;>simp[hg,he]
 have hB:∀ op x,ld op (cI c c')=some x→fq Q.P op t xo yo (.agg (c.map .lit)) (.agg (c'.map .lit))=some x:=by
  intro op x hx
  unfold fq
  rw[hA,hx]
 rw[v7]at h
 cases op<;>simp only[Tr.run,reduceCtorEq]at h
 ·exact⟨_,hB _ _ rfl,h⟩
 ·exact⟨_,hB _ _ rfl,h⟩
theorem tH[ab]{v:SV T.den}{a b:AV}(hv:RV T H v a)(h:mO v=some b):a=b:=by
 rcases hv with hv|hv
 ·subst hv; simp[mO]at h
 ·exact hv.plain h
theorem tI{P:Program}{op:BinOp}{t:TypeId}{a b:AV}(ha:(∀ l,a≠.agg l)∨∀ l,b≠.agg l):ej P op t a b=none:=by
 unfold ej
 split
 ·simp_all
 ·rfl
theorem z8[ab]{P:Program}{op:BinOp}{t:TypeId}{x:SV T.den}{a:AV}{n:Value}{y:AV}(hx:RV T H x a)(h:Bb P op t x n=some y):
  nM P op t a n=some y∧db a=none∧∀ l,a≠.agg l:=by
 unfold Bb at h
 split at h
 ·split at h
  ·have:=hx.live rfl
   simp only[R]at this
   obtain⟨v',rfl,l',rfl,_⟩:=this
   exact⟨by simpa[nM] using h,rfl,by simp⟩
  ·have:=hx.live rfl
   simp only[R]at this
   obtain⟨v',rfl,l',rfl,_⟩:=this
   exact⟨by simpa[nM] using h,rfl,by simp⟩
  ·simp at h
 ·split at h
  ·have:=hx.live rfl
   simp only[R]at this
   obtain⟨f',c',rfl,_⟩:=this
   exact⟨by simpa[nM] using h,rfl,by simp⟩
  ·simp at h
 ·split at h
  case isFalse=>simp at h
  rename_i hc
  simp only[Bool.and_eq_true]at hc
  cases x<;>simp[GG]at hc
  rename_i xs
  have:=hx.live rfl
  simp only[R]at this
  obtain⟨l',rfl,hl,_⟩:=this
  have:notNil (.sl l')=true:=by
   simp only[notNil]
   have:=hl.length
   cases l' with
   |nil=>simp at this; exact absurd this hc.2
   |cons=>rfl
  refine⟨?_,rfl,by simp⟩
  simp only[nM,hc.1,this,Bool.and_self,if_true]
  exact h
 ·simp at h
theorem NO[ab](hQ:Q.Ok){op:BinOp}{t:TypeId}{xo yo:Operand}{x y:SV T.den}{a b:AV}(hx:RV T H x a)(hy:RV T H y b)(h:(Qc Q op t xo yo x y K).run=some r):
  ∃ v,fq Q.P op t xo yo a b=some (.lit v)∧(K (.lit v) [] []).run=some r:=by
 unfold Qc at h
 split at h
 ·rename_i k m k' m'
  have ha:=hx.lit rfl
  have hb:=hy.lit rfl
  subst ha; subst hb
  split at h
  ·rename_i v hk hv
   simp only[decide_eq_true_eq]at hk
   subst hk
   exact⟨v,NM hv,h⟩
  ·split at h
   ·rename_i v hk hv
    simp only[decide_eq_true_eq]at hk
    subst hk
    rcases fp h with ⟨_,h⟩|⟨h0,h⟩
    ·simp[Tr.run]at h
    ·exact⟨v,NN hv (by simpa using h0),h⟩
   ·split at h
    ·rename_i v hk hv
     rcases fp h with ⟨_,h⟩|⟨h0,h⟩
     ·simp[Tr.run]at h
     ·exact⟨v,Qo hv (by simpa using h0),h⟩
    ·exact hG h
 ·rename_i l l'
  have ha:=hx.live rfl
  have hb:=hy.live rfl
  simp only[R]at ha hb
  obtain⟨a',rfl,ha⟩:=ha
  obtain⟨b',rfl,hb⟩:=hb
  exact H3 hQ ha hb h
 ·split at h
  ·rename_i a' b' h1 h2
   rw[tH hx h1,tH hy h2]
   exact hG h
  ·split at h
   ·rename_i n
    obtain⟨v,hv,hk⟩:=hG h
    obtain⟨h1,h2,h3⟩:=z8 hx hv
    have hb:=hy.lit rfl
    subst hb
    refine⟨v,?_,hk⟩
    unfold fq
    rw[tI (.inl h3),h2]
    exact h1
   ·rename_i hyn
    split at h
    ·rename_i n
     obtain⟨v,hv,hk⟩:=hG h
     obtain⟨h1,h2,h3⟩:=z8 hy hv
     have ha:=hx.lit rfl
     subst ha
     refine⟨v,?_,hk⟩
     unfold fq
     rw[tI (.inr h3),h2]
     cases b with
     |lit b=>
      exfalso
      simp[db]at h2
     |_=>exact h1
    ·simp[Tr.run]at h
theorem NP[ab]{t:Bool}{x y:SV T.den}{a b:AV}(hx:RV T H x a)(hy:RV T H y b)(h:(KJ t x y K).run=some r):
  ∃ v,RV T H v (cond t a b)∧(K v [] []).run=some r:=by
 unfold KJ at h
 split at h
 ·have ha:=hx.lit rfl
  have hb:=hy.lit rfl
  subst ha; subst hb
  refine⟨_,?_,h⟩
  cases t<;>exact bm _
 ·rename_i k m k' m'
  have ha:=hx.lit rfl
  have hb:=hy.lit rfl
  subst ha; subst hb
  split at h
  ·rename_i hk
   subst hk
   refine⟨_,?_,h⟩
   cases t<;>exact bm _
  ·rcases fp h with ⟨rfl,h⟩|⟨rfl,h⟩
   ·exact⟨_,bm _,h⟩
   ·exact⟨_,bm _,h⟩
 ·rcases fp h with ⟨rfl,h⟩|⟨rfl,h⟩
  ·exact⟨_,hx,h⟩
  ·exact⟨_,hy,h⟩
end
end Go.PI
end
section
/- PS, part H: structs and slices built, cut, indexed. -/
namespace Go.PI
variable {T:dw}{ρ:Type}
section
variable {H:ah T.den}{hp:ag}{K:EK T ρ}{r:ρ}{Q:gM}
theorem x7(hQ:Q.Ok):∀ {fs:List Field} {pl:List (Nat×Nat)},Q.uH (fs.map fun f=>(f.offset,f.type))=some pl→mc Q.P fs=some pl
 |[],pl,h=>by simpa[gM.uH,mc] using h
 |f::fs,pl,h=>by
  simp only[List.map_cons,gM.uH]at h
  cases hm:Q.ty f.type with
  |none=>rw[hm]at h; simp at h
  |some m=>
   cases hp:Q.uH (fs.map fun f=>(f.offset,f.type)) with
   |none=>rw[hm,hp]at h; simp at h
   |some l=>
    rw[hm,hp]at h
    simp only[Option.some.injEq]at h
    subst h
    obtain⟨r,h1,_,h2,_⟩:=hQ.row _ _ hm
    simp[mc,h1,x7 hQ hp,h2]
theorem x8[ab]{q:bG}{z:AV}{zs:SV T.den}(h:cj q=some z)(hz:(gy z:Option (SV T.den))=some zs):
  ∃ v,q.zero=some v∧v.cells.toList.all (fun v=>ba (.lit v))=true∧RL T H (bI zs) (v.cells.toList.map .lit):=by
 unfold cj at h
 cases hv:q.zero with
 |none=>rw[hv]at h; simp at h
 |some v=>
  rw[hv]at h
  simp only at h
  split at h
  case isFalse=>simp at h
  rename_i hc
  simp only[Option.some.injEq]at h
  refine⟨v,rfl,hc.2.2.1,?_⟩
  have h1:=(uS (H:=H) hz).cells
  rw[←h]at h1
  cases v<;>first|exact h1|(simp[wO]at hc)
theorem H4[ab](hQ:Q.Ok){t:TypeId}{ps:List (Nat×SV T.den)}{qs:List (Nat×AV)}(hp:RP T H ps qs){v:SV T.den}(h:Fo Q t ps=some v):∃ a,tV Q.P t qs=some a∧R T H v a:=by
 unfold Fo at h
 split at h
 case h_2=>simp at h
 rename_i m hm
 obtain⟨q,gN,dX,gE,_,Gw⟩:=hQ.row _ _ hm
 obtain⟨d,hd,hk⟩:=hQ.kind _ _ hm
 split at h
 ·rename_i fs z R6 hz
  rw[Option.bind_eq_some_iff]at hz
  obtain⟨z0,Nk,hz⟩:=hz
  obtain⟨zv,PV,Qp,SP⟩:=x8 (H:=H) (Gw _ Nk) hz
  rw[R6]at hk
  cases d<;>simp[oj]at hk
  rename_i D1
  subst hk
  split at h
  case h_2=>simp at h
  rename_i pl F2
  rw[Option.map_eq_some_iff]at h
  obtain⟨l,h1,rfl⟩:=h
  obtain⟨l',h2,h3⟩:=RP.fill hp SP h1
  refine⟨.agg l',?_,by simp only[R]; exact⟨l',rfl,h3⟩⟩
  unfold tV
  simp only[hd,gN,PV,x7 hQ F2,Qp,if_true]
  rw[h2]; rfl
 ·rename_i n e z R6 hz
  rw[Option.bind_eq_some_iff]at hz
  obtain⟨z0,Nk,hz⟩:=hz
  obtain⟨zv,PV,Qp,SP⟩:=x8 (H:=H) (Gw _ Nk) hz
  rw[R6]at hk
  cases d<;>simp[oj]at hk
  obtain⟨rfl,rfl⟩:=hk
  split at h
  case h_2=>simp at h
  rename_i m2 yD
  obtain⟨q2,wm,_,hr3,_⟩:=hQ.row _ _ yD
  rw[Option.map_eq_some_iff]at h
  obtain⟨l,h1,rfl⟩:=h
  obtain⟨l',h2,h3⟩:=RP.fill hp SP h1
  refine⟨.agg l',?_,by simp only[R]; exact⟨l',rfl,h3⟩⟩
  unfold tV
  simp only[hd,gN,PV,wm,Qp,if_true,hr3]
  rw[h2]; rfl
 ·simp at h
theorem v8[ab]:∀ {ps:List (Nat×SV T.den)} {qs:List (Nat×AV)} {es:List (SV T.den)} {es':List AV},RP T H ps qs→RL T H es es'→RL T H (fo es ps) (gR es' qs)
 |[],[],es,es',_,h=>h
 |(i,v)::ps,(i',a)::qs,es,es',hp,h=>by
  obtain⟨⟨h1,h2⟩,h3⟩:=hp
  simp only at h1 h2
  subst h1
  simp only[fo,gR]
  exact v8 h3 (aQ.2 ((aQ.1 h).set i h2))
 |[],_::_,_,_,h,_=>h.elim
 |_::_,[],_,_,h,_=>h.elim
theorem RP.snd:∀ {ps:List (Nat×SV T.den)} {qs:List (Nat×AV)},RP T H ps qs→RL T H (ps.map (·.2)) (qs.map (·.2))
 |[],[],_=>by simp[RL]
 |(i,v)::ps,(i',a)::qs,h=>by
  obtain⟨⟨_,h2⟩,h3⟩:=h
  simp only[List.map_cons,RL]
  exact⟨h2,RP.snd h3⟩
 |[],_::_,h=>h.elim
 |_::_,[],h=>h.elim
theorem RP.all{p:Nat×SV T.den→Bool}{q:Nat×AV→Bool}(Mp:∀ i v a,R T H v a→p (i,v)=q (i,a)):∀ {ps:List (Nat×SV T.den)} {qs:List (Nat×AV)},RP T H ps qs→ps.all p=qs.all q
 |[],[],_=>rfl
 |(i,v)::ps,(i',a)::qs,h=>by
  obtain⟨⟨h1,h2⟩,h3⟩:=h
  simp only at h1 h2
  subst h1
  simp only[List.all_cons]
  rw[Mp i v a h2,RP.all Mp h3]
 |[],_::_,h=>h.elim
 |_::_,[],h=>h.elim
theorem eJ(hh:RH T H hp){nm:Nat}(hn:nm=H.length∨H[nm]?=some none){o:aB T.den}:fL (bJ H nm o) nm o.cur o.len:=by
 refine⟨o,?_,Nat.le_refl _,fun _=>rfl⟩
 unfold bJ
 split
 ·rename_i h; subst h; simp
 ·grind
theorem rA:∀ (ps:List (Nat×SV T.den)) (es:List (SV T.den)),(fo es ps).length=es.length
 |[],es=>rfl
 |(i,v)::ps,es=>by simp only[fo]; rw[rA ps]; simp
theorem x9[ab](hQ:Q.Ok)(hh:RH T H hp){nm:Nat}(hn:nm=H.length∨H[nm]?=some none){t:TypeId}{len:Nat}{ps:List (Nat×SV T.den)}{qs:List (Nat×AV)}(SQ:RP T H ps qs)
  (h:(pP Q nm t len ps K).run=some r):jm T H hp (.gQ (ka Q.P nm t len qs)) K r:=by
 unfold pP at h
 split at h
 case h_2=>simp[Tr.run]at h
 rename_i m hm
 obtain⟨q,gN,dX,gE,Gw,II⟩:=hQ.elem hm
 split at h
 case h_2=>simp[Tr.run]at h
 rename_i z hz
 rw[Option.bind_eq_some_iff]at hz
 obtain⟨z0,Nk,hz⟩:=hz
 split at h
 case isFalse=>simp[Tr.run]at h
 rename_i hc
 have nR:=II _ Nk
 have cC:=v8 SQ (aQ.2 (aw.replicate (uS (H:=H) hz) len))
 refine eH hh hn (o:=.arr false (av (ps.map (·.2))) false 0 (fo (List.replicate len z) ps)) (a':=.arr false (aZ (qs.map (·.2))) false (gR (List.replicate len z0) qs))
  ⟨_,by rw[RL.closed (RP.snd SQ)],cC,fun mW=>oP (k7 fun x hx=>by rw[List.eq_of_mem_replicate hx]; exact tE hz) mW⟩ (a:=.bq q.size nm len 0 len (some len)) (rd:=[]) ?_ ?_ h
 ·right
  simp only[R]
  have hv:=eJ hh hn (o:=.arr false (av (ps.map (·.2))) false 0 (fo (List.replicate len z) ps))
  simp only[aB.cur,aB.len,rA,List.length_replicate]at hv
  exact⟨len,hv,by rw[gE]⟩
 ·have bg:qs.all (fun p=>decide (p.1<len)&&aG q.isAgg q.size p.2)=true:=by
   rw[←RP.all (p:=fun p=>decide (p.1<len)&&kT m.agg m.size p.2) (fun i v a Mr=>by simp only[dX,gE,R.aG Mr]) SQ]; exact hc.2.2
  refine aE.gQ ?_
  unfold ka
  simp only[gN,nR]
  rw[if_pos ⟨by rw[gE]; exact hc.1,by rw[gE]; exact hc.2.1,bg⟩]
def dw.tJ(T:dw)(Q:gM):Prop:=∀ t m z za,Q.ty t=some m→m.zero=some za→T.zero t=some z→T.rp t z za
theorem y4[ab](hQ:Q.Ok)(hZ:T.tJ Q)(hh:RH T H hp){nm:Nat}(hn:nm=H.length∨H[nm]?=some none){t:TypeId}{l c:SV T.den}{a b:AV}(hl:RV T H l a)(hc:RV T H c b)
  (h:(rY Q nm t l c K).run=some r):jm T H hp (.gQ (eR Q.P nm t a b)) K r:=by
 unfold rY at h
 split at h
 case h_2=>simp[Tr.run]at h
 rename_i e m hm
 obtain⟨hu,lW⟩:=hQ.slice hm
 obtain⟨q,gN,dX,gE,Gw,II⟩:=hQ.row _ _ lW
 have yP:aO Q.P t=some q:=by simp[aO,hu,gN]
 split at h
 case h_2=>simp[Tr.run]at h
 rename_i za z Qq hz D8
 simp only[decide_eq_true_eq]at D8
 have nR:=II _ Qq
 have Wm:=hZ _ _ _ _ lW Qq hz
 obtain⟨k,n,e1,Ep,h⟩:=iI h
 obtain⟨k',n',e2,Wn,h⟩:=iI h
 have ha:=qE hl e1 Ep
 have hb:=qE hc e2 Wn
 obtain⟨hg,h⟩:=aY h
 simp only[Bool.and_eq_true,decide_eq_true_eq]at hg
 have xk:aw (T.rp e) (List.replicate n'.toNat z) (List.replicate n'.toNat za):=aw.replicate Wm _
 have hA:eR Q.P nm t a b=some ⟨.bq q.size nm n'.toNat 0 n.toNat (some n'.toNat),[(nm,.arr false true false (List.replicate n'.toNat za))]⟩:=by
  simp_all[yP,ha,hb,nR,eR]
 have hv:=eJ hh hn (o:=.bV false false 0 e (List.replicate n'.toNat z))
 simp only[aB.cur,aB.len,List.length_replicate]at hv
 refine eH hh hn (o:=.bV false false 0 e (List.replicate n'.toNat z)) ⟨_,rfl,xk⟩ ?_ (aE.gQ hA) h
 right
 simp only[R]
 exact⟨n'.toNat,hv,by rw[gE]⟩
theorem y5[ab](hQ:Q.Ok)(hZ:T.tJ Q)(hh:RH T H hp){nm:Nat}(hn:nm=H.length∨H[nm]?=some none){t:TypeId}{l:SV T.den}{a:AV}(hl:RV T H l a)
  (h:(rZ Q nm t l K).run=some r):jm T H hp (.gQ (eR Q.P nm t a a)) K r:=by
 unfold rZ at h
 split at h
 case h_2=>simp[Tr.run]at h
 rename_i e m hm
 obtain⟨hu,lW⟩:=hQ.slice hm
 obtain⟨q,gN,dX,gE,Gw,II⟩:=hQ.row _ _ lW
 have yP:aO Q.P t=some q:=by simp[aO,hu,gN]
 split at h
 case h_2=>simp[Tr.run]at h
 rename_i za z Qq hz D8
 simp only[decide_eq_true_eq]at D8
 have nR:=II _ Qq
 have Wm:=hZ _ _ _ _ lW Qq hz
 obtain⟨k,n,e1,Ep,h⟩:=iI h
 have ha:=qE hl e1 Ep
 obtain⟨hg,h⟩:=aY h
 simp only[Bool.and_eq_true,decide_eq_true_eq]at hg
 have xk:aw (T.rp e) (List.replicate n.toNat z) (List.replicate n.toNat za):=aw.replicate Wm _
 have hA:eR Q.P nm t a a=some ⟨.bq q.size nm n.toNat 0 n.toNat (some n.toNat),[(nm,.arr false true false (List.replicate n.toNat za))]⟩:=by
  simp_all[yP,ha,nR,eR]
 have hv:=eJ hh hn (o:=.bV false false 0 e (List.replicate n.toNat z))
 simp only[aB.cur,aB.len,List.length_replicate]at hv
 refine eH hh hn (o:=.bV false false 0 e (List.replicate n.toNat z)) ⟨_,rfl,xk⟩ ?_ (aE.gQ hA) h
 right
 simp only[R]
 exact⟨n.toNat,hv,by rw[gE]⟩
theorem H5[ab](hQ:Q.Ok)(hh:RH T H hp){nm:Nat}(hn:nm=H.length∨H[nm]?=some none){t:TypeId}{m:jX}(hm:Q.ty t=some m){z:SV T.den}(hz:m.zero.bind gy=some z)(hs:0<m.size)
  (h:(K (.ref nm 0 0 0) [(nm,.arr false true false 0 [z])] []).run=some r) {ev:Operand→AV} {dst:Option Tmp} {type:TypeId} {pos:String} {after:Array Edge} {guard:Option (Nat×Bool)} :
  jm T H hp (aK Q.P nm ev ⟨dst,.alloc t,type,pos,after,guard⟩) K r:=by
 obtain⟨q,gN,dX,gE,Gw,II⟩:=hQ.row _ _ hm
 rw[Option.bind_eq_some_iff]at hz
 obtain⟨z0,Nk,hz⟩:=hz
 have nR:=II _ Nk
 refine eH hh hn (o:=.arr false true false 0 [z]) (a':=.arr false true false [z0]) ⟨_,rfl,by simp only[RL]; exact⟨uS hz,trivial⟩,fun _=>by simp only[av,tE hz,Bool.and_self]⟩ (a:=.ref nm 1 0 0) (rd:=[]) ?_ ?_ h
 ·right
  simp only[R]
  exact⟨1,rfl,eJ hh hn (o:=.arr false true false 0 [z])⟩
 ·simp only[aK,gN,nR]
  rw[if_pos (by omega)]
  exact aE.ret _
def KZ(T:dw)(H:ah T.den)(x:Option (SV T.den))(y:Option AV):Prop:=
 match x,y with
 |none,none=>True
 |some v,some a=>RV T H v a
 |_,_=>False
theorem hJ[ab]{d:Nat}{x:Option (SV T.den)}{y:Option AV}(K0:KZ T H x y){K:Nat→Tr ρ}(h:(jh d x K).run=some r):∃ n,br d y=some n∧(K n).run=some r:=by
 unfold jh at h
 split at h
 ·cases y with
  |none=>exact⟨d,rfl,h⟩
  |some a=>exact K0.elim
 ·cases y with
  |none=>exact K0.elim
  |some a=>
   obtain⟨k,n,e1,Ep,h⟩:=iI h
   exact⟨n.toNat,qE K0 e1 Ep,h⟩
theorem ki[ab]{d:Nat}{v:SV T.den}{y:Option AV}(K0:KZ T H (some v) y){K:Nat→Tr ρ}(h:(fW v K).run=some r):∃ n,br d y=some n∧(K n).run=some r:=
 hJ (d:=d) K0 h
theorem sr[ab]{x:Option (SV T.den)}{y z:Option AV}(K0:KZ T H x y)(h:uN x=some z):y=z:=by
 cases x with
 |none=>
  cases y with
  |none=>simpa[uN] using h
  |some a=>exact K0.elim
 |some v=>
  cases y with
  |none=>exact K0.elim
  |some a=>
   simp only[uN,Option.map_eq_some_iff]at h
   obtain⟨b,hb,rfl⟩:=h
   rw[tH K0 hb]
theorem KZ.isSome{x:Option (SV T.den)}{y:Option AV}(K0:KZ T H x y):x.isSome=y.isSome:=by
 cases x<;>cases y<;>first|rfl|exact K0.elim
theorem qG[ab](hh:RH T H hp){esz n c:Nat}{rg:Option (Nat×Nat)}{cap:Option Nat}{a:AV}(ha:R T H (.bq esz n c rg cap) a){off len:Nat}(hr:mQ H n c rg=some (off,len)){o:aB T.den}
  (ho:H[n]?=some (some o)):∃ aq,a=.bq esz n aq off len cap∧fL H n c aq∧(Nat.beq c o.cur=true→aq=o.len):=by
 simp only[R]at ha
 obtain⟨aq,hv,ha⟩:=ha
 have bZ:Nat.beq c o.cur=true→aq=o.len:=hv.arr hh ho
 cases rg with
 |some q=>
  obtain⟨Wk,NF⟩:=q
  simp only[mQ,Option.some.injEq,Prod.mk.injEq]at hr
  obtain⟨rfl,rfl⟩:=hr
  exact⟨aq,ha,hv,bZ⟩
 |none=>
  simp only[mQ,ho]at hr
  split at hr
  case isFalse=>simp at hr
  rename_i hc
  simp only[Option.some.injEq,Prod.mk.injEq]at hr
  obtain⟨rfl,rfl⟩:=hr
  have:=bZ hc
  subst this
  exact⟨_,ha,hv,fun _=>rfl⟩
theorem ss(hT:T.Ok){t:Nat}{agg:Bool}{size:Nat}(h1:agg=T.agg t)(h2:size=T.size t):∀ {l:List (T.den t)} {l':List AV},aw (T.rp t) l l'→l'.all (aG agg size)=true
 |[],[],_=>rfl
 |_::_,_::_,h=>by
  subst h1; subst h2
  simp only[List.all_cons,Bool.and_eq_true]
  exact⟨hT.ok _ _ _ h.1,ss hT rfl rfl h.2⟩
theorem NQ[ab](hT:T.Ok)(hQ:Q.Ok)(hh:RH T H hp){t:TypeId}{x:SV T.den}{a:AV}(hx:RV T H x a){lo hi mx:Option (SV T.den)}{Re qZ OV:Option AV}(h1:KZ T H lo Re)(h2:KZ T H hi qZ)(h3:KZ T H mx OV)
  (h:(P8 Q H t x lo hi mx K).run=some r):∃ v b,mY Q.P t a Re qZ OV=some b∧RV T H v b∧(K v [] []).run=some r:=by
 unfold P8 at h
 split at h
 ·rename_i v
  have ha:=hx.lit rfl
  subst ha
  split at h
  ·rename_i l hh' m e1 e2 e3
   rw[sr h1 e1,sr h2 e2,sr h3 e3]
   split at h
   ·rename_i w hw
    exact⟨_,_,hw,bm w,h⟩
   ·rename_i hw
    exact⟨_,_,hw,.inr (by simp only[R]),h⟩
   ·simp[Tr.run]at h
  ·simp[Tr.run]at h
 ·rename_i xs
  have ha:=hx.live rfl
  simp only[R]at ha
  obtain⟨l',rfl,hl,D4⟩:=ha
  split at h
  ·rename_i m hm
   obtain⟨q,gN,dX,gE,_⟩:=hQ.elem hm
   obtain⟨n1,e1,h⟩:=hJ h1 h
   obtain⟨n2,e2,h⟩:=hJ h2 h
   obtain⟨_,_,h⟩:=cV h
   obtain⟨_,_,h⟩:=cV h
   split at h
   case h_2=>simp[Tr.run]at h
   rename_i hc
   simp only[Bool.and_eq_true,decide_eq_true_eq]at hc
   cases OV with
   |some _=>exact h3.elim
   |none=>
    refine⟨_,.sl ((l'.drop n1).take (n2-n1)),?_,?_,h⟩
    ·have bg:l'.all (aG q.isAgg q.size)=true:=by
      rw[dX,gE,←RL.all (fun _ _=>R.aG) hl]; exact hc.2
     simp only[mY,gN,e1]
     rw[show br l'.length qZ=some n2 by rw[←hl.length]; exact e2]
     simp only
     rw[if_pos ⟨hc.1.1,by rw[←hl.length]; exact hc.1.2,bg⟩]
    ·right
     simp only[R]
     exact⟨_,rfl,aQ.2 (((aQ.1 hl).drop n1).take (n2-n1)),my D4 _ _⟩
  ·simp[Tr.run]at h
 ·rename_i t' l
  split at h
  ·rename_i m hm
   obtain⟨q,gN,dX,gE,_⟩:=hQ.elem hm
   split at h
   case h_2=>simp[Tr.run]at h
   rename_i hc
   simp only[Bool.and_eq_true,decide_eq_true_eq]at hc
   have ha:=hx.live rfl
   cases OV with
   |some _=>exact h3.elim
   |none=>
    have key:∀ n1 n2,br 0 Re=some n1→br l.length qZ=some n2→n1≤n2→n2≤l.length →
      ∃ b,mY Q.P t a Re qZ none=some b∧RV T H (.jr t' ((l.drop n1).take (n2-n1))) b:=by
     intro n1 n2 e1 e2 hle yM
     simp only[R]at ha
     rcases ha with ⟨l',rfl,hl⟩|⟨rfl,rfl⟩
     ·refine⟨.sl ((l'.drop n1).take (n2-n1)),?_,?_⟩
      ·simp only[mY,gN,e1]
       rw[show br l'.length qZ=some n2 by rw[←hl.length]; exact e2]
       simp only
       rw[if_pos ⟨hle,by rw[←hl.length]; exact yM,ss hT (by rw[dX]; exact hc.1) (by rw[gE]; exact hc.2) hl⟩]
      ·right
       simp only[R]
       exact .inl ⟨_,rfl,(hl.drop n1).take (n2-n1)⟩
     ·simp only[List.length_nil,Nat.le_zero]at yM
      subst yM
      have:n1=0:=by omega
      subst this
      refine⟨.lit cK,?_,?_⟩
      ·simp only[List.length_nil]at e2
       simp only[mY,gN,e1,e2]
       rfl
      ·right
       show R T H (.jr t' _) (.lit cK)
       unfold R
       exact .inr ⟨by simp,rfl⟩
    cases lo with
    |none=>
     cases Re with
     |some _=>exact h1.elim
     |none=>
      cases hi with
      |none=>
       cases qZ with
       |some _=>exact h2.elim
       |none=>
        obtain⟨b,hb,hr⟩:=key 0 l.length rfl rfl (Nat.zero_le _) (Nat.le_refl _)
        simp only[List.drop_zero,Nat.sub_zero,List.take_length]at hr
        exact⟨_,b,hb,hr,h⟩
      |some hi=>
       obtain⟨n2,e2,h⟩:=ki (d:=l.length) h2 h
       obtain⟨hg,h⟩:=aY h
       simp only[decide_eq_true_eq]at hg
       obtain⟨b,hb,hr⟩:=key 0 n2 rfl e2 (Nat.zero_le _) hg
       simp only[List.drop_zero,Nat.sub_zero]at hr
       exact⟨_,b,hb,hr,h⟩
    |some lo=>
     cases hi with
     |none=>
      cases qZ with
      |some _=>exact h2.elim
      |none=>
       obtain⟨n1,e1,h⟩:=ki (d:=0) h1 h
       obtain⟨hg,h⟩:=aY h
       simp only[decide_eq_true_eq]at hg
       obtain⟨b,hb,hr⟩:=key n1 l.length e1 rfl hg (Nat.le_refl _)
       rw[List.take_of_length_le (by simp)]at hr
       exact⟨_,b,hb,hr,h⟩
     |some hi=>
      obtain⟨n1,e1,h⟩:=ki (d:=0) h1 h
      obtain⟨n2,e2,h⟩:=ki (d:=l.length) h2 h
      obtain⟨hg,h⟩:=aY h
      simp only[Bool.and_eq_true,decide_eq_true_eq]at hg
      obtain⟨b,hb,hr⟩:=key n1 n2 e1 e2 hg.1 hg.2
      exact⟨_,b,hb,hr,h⟩
  ·rename_i m mx hm
   obtain⟨q,gN,dX,gE,_⟩:=hQ.elem hm
   split at h
   case h_2=>simp[Tr.run]at h
   rename_i hi hc
   simp only[Bool.and_eq_true,decide_eq_true_eq]at hc
   cases qZ with
   |none=>exact h2.elim
   |some SR=>
   cases OV with
   |none=>exact h3.elim
   |some UE=>
   have ha:=hx.live rfl
   simp only[R]at ha
   split at h
   ·rename_i hz
    simp only[Bool.and_eq_true]at hz
    obtain⟨PV,Qp,SP⟩:=hz
    cases lo with
    |some _=>simp at PV
    |none=>
    cases Re with
    |some _=>exact h1.elim
    |none=>
    have z0:∀ {v:SV T.den} {a:AV},Us v=true→RV T H v a→asNat a=some 0:=by
     intro v a hv hr
     unfold Us at hv
     split at hv
     ·simp only[decide_eq_true_eq]at hv
      subst hv
      have:=hr.live rfl
      simp only[R]at this
      subst this
      rfl
     ·simp at hv
    have e2:=z0 Qp h2
    have e3:=z0 SP h3
    rcases ha with ⟨l',rfl,hl⟩|⟨rfl,rfl⟩
    ·have bg:=ss hT (agg:=q.isAgg) (size:=q.size) (by rw[dX]; exact hc.1) (by rw[gE]; exact hc.2) hl
     refine⟨_,.nz,?_,.inr (by simp only[R]),h⟩
     simp only[mY,gN,br,e2,e3]
     rw[if_pos ⟨Nat.zero_le _,Nat.zero_le _,Nat.zero_le _,bg⟩]
     rfl
    ·refine⟨_,.nz,?_,.inr (by simp only[R]),h⟩
     simp only[mY,gN,br,e2,e3,Option.isSome_some,Option.isNone_some,Bool.and_false,Bool.false_eq_true,if_false]
   obtain⟨n1,e1,h⟩:=hJ h1 h
   obtain⟨n2,e2,h⟩:=ki (d:=l.length) h2 h
   obtain⟨n3,e3,h⟩:=ki (d:=l.length) h3 h
   obtain⟨hg,h⟩:=aY h
   simp only[Bool.and_eq_true,decide_eq_true_eq]at hg
   have Wo:asNat SR=some n2:=e2
   have UF:asNat UE=some n3:=e3
   have f2:∀ d,br d (some SR)=some n2:=fun _=>Wo
   rcases ha with ⟨l',rfl,hl⟩|⟨rfl,rfl⟩
   ·have hlen:=hl.length
    have bg:=ss hT (agg:=q.isAgg) (size:=q.size) (by rw[dX]; exact hc.1) (by rw[gE]; exact hc.2) hl
    have dN:l'.isEmpty=false:=by
     grind
    have Nc:n3≠0:=by omega
    refine⟨_,.o7 ((l'.drop n1).take (n2-n1)) (n3-n1),?_,.inr (by simp only[R]; exact .inl ⟨by cases l with
      |nil=>exfalso; cases l' with
       |nil=>simp at dN
       |cons=>simp at hlen
      |cons=>rfl,_,rfl,(hl.drop n1).take (n2-n1)⟩),h⟩
    simp only[mY,gN,e1,f2,UF]
    rw[if_pos ⟨hg.1.1.1,hg.1.1.2,by rw[←hlen]; exact hg.1.2,bg⟩,if_neg Nc,dN]
    rfl
   ·exfalso
    simp only[List.length_nil]at hg
    omega
  ·simp[Tr.run]at h
 ·rename_i esz n c rg cap
  have ha:=hx.live rfl
  split at h
  ·rename_i m off len o hm hr ho
   obtain⟨q,gN,dX,gE,_⟩:=hQ.elem hm
   split at h
   case h_2=>simp[Tr.run]at h
   rename_i hc
   simp only[Bool.and_eq_true,decide_eq_true_eq]at hc
   obtain⟨aq,rfl,hv,bZ⟩:=qG hh ha hr ho
   have bZ:=bZ hc.1
   obtain⟨n1,e1,h⟩:=hJ h1 h
   obtain⟨n2,e2,h⟩:=hJ h2 h
   obtain⟨hg,h⟩:=aY h
   simp only[Bool.and_eq_true,decide_eq_true_eq]at hg
   cases OV with
   |some _=>exact h3.elim
   |none=>
    refine⟨_,.bq esz n aq (off+n1) (n2-n1) (cap.map (·-n1)),?_,?_,h⟩
    ·simp only[mY,gN,e1,e2]
     rw[if_pos ⟨hg.1.1,by rw[bZ]; exact hg.1.2,by rw[bZ]; exact hg.2,by rw[gE]; exact hc.2⟩]
    ·right
     simp only[R]
     exact⟨aq,hv,rfl⟩
  ·rename_i m mx off len o hm hr ho
   obtain⟨q,gN,dX,gE,_⟩:=hQ.elem hm
   split at h
   case h_2=>simp[Tr.run]at h
   rename_i hi hc
   simp only[Bool.and_eq_true,decide_eq_true_eq]at hc
   cases qZ with
   |none=>exact h2.elim
   |some SR=>
   cases OV with
   |none=>exact h3.elim
   |some UE=>
   obtain⟨aq,rfl,hv,bZ⟩:=qG hh ha hr ho
   have bZ:=bZ hc.1
   obtain⟨n1,e1,h⟩:=hJ h1 h
   obtain⟨n2,e2,h⟩:=ki (d:=len) h2 h
   obtain⟨n3,e3,h⟩:=ki (d:=len) h3 h
   obtain⟨hg,h⟩:=aY h
   simp only[Bool.and_eq_true,decide_eq_true_eq]at hg
   have Wo:asNat SR=some n2:=e2
   have UF:asNat UE=some n3:=e3
   have f2:∀ d,br d (some SR)=some n2:=fun _=>Wo
   have f3:∀ d,br d (some UE)=some n3:=fun _=>UF
   refine⟨_,.bq esz n aq (off+n1) (n2-n1) (some (n3-n1)),?_,?_,h⟩
   ·simp only[mY,gN,e1,f2,UF]
    rw[if_pos ⟨hg.1.1.1,hg.1.1.2,by rw[bZ]; exact hg.1.2,by rw[bZ]; exact hg.2,by rw[gE]; exact hc.2⟩]
   ·right
    simp only[R]
    exact⟨aq,hv,rfl⟩
  ·simp[Tr.run]at h
 ·rename_i n' c k' j
  have ha:=hx.live rfl
  simp only[R]at ha
  obtain⟨aq,rfl,hv⟩:=ha
  split at h
  case h_2=>simp[Tr.run]at h
  rename_i len m hm
  obtain⟨q,gN,dX,gE⟩:=hQ.Dk hm
  cases OV with
  |some _=>exact h3.elim
  |none=>
   obtain⟨n1,e1,h⟩:=hJ h1 h
   obtain⟨n2,e2,h⟩:=hJ h2 h
   obtain⟨_,hl,h⟩:=cV h
   obtain⟨_,ra,h⟩:=cV h
   split at h
   case h_2=>simp[Tr.run]at h
   rename_i hle
   simp only[decide_eq_true_eq]at hle
   refine⟨_,.iM n' aq k' (j+n1*q.size) (n2-n1) (len-n1),?_,.inr (by simp only[R]; exact⟨aq,by rw[gE],hv⟩),h⟩
   simp only[mY,gN,e1,e2]
   rw[if_pos ⟨hle,by omega,by omega⟩]
 ·simp[Tr.run]at h
theorem uW[ab](hT:T.Ok){t:Nat}{x:T.den t}{a:AV}(h:T.rp t x a):aD (T.up t x)=true:=by
 rw[R.closed (hT.up t x a [] h)]
 exact hT.closed _ _ _ h
theorem y6[ab](hT:T.Ok)(hQ:Q.Ok)(hh:RH T H hp){t:TypeId}{x ix:SV T.den}{a b:AV}(hx:RV T H x a)(hi:RV T H ix b){tA:Bool}(h:(r8 Q tA H t x ix K).run=some r):
  ∃ v c,eT Q.P t a b=some c∧RV T H v c∧(K v [] []).run=some r:=by
 unfold r8 at h
 obtain⟨k,n,e1,Ep,h⟩:=iI h
 have hb:=qE hi e1 Ep
 unfold eT
 rw[hb]
 simp only
 split at h
 ·rename_i xs
  have ha:=hx.live rfl
  simp only[R]at ha
  obtain⟨l',rfl,hl,D4⟩:=ha
  split at h
  case h_2=>simp[Tr.run]at h
  rename_i m hm
  obtain⟨q,gN,dX,gE,_⟩:=hQ.elem hm
  obtain⟨_,_,h⟩:=cV h
  split at h
  case h_2=>simp[Tr.run]at h
  rename_i e he
  split at h
  case h_2=>simp[Tr.run]at h
  rename_i bL
  obtain⟨e',Gf,hr⟩:=aw.get (aQ.1 hl) he
  refine⟨_,.bf e' 0,?_,.inr (by simp only[R]; exact⟨e',rfl,hr,jL D4 (List.mem_of_getElem? he)⟩),h⟩
  simp only[gN,Gf]
  rw[if_pos (by rw[dX,gE,←R.aG hr]; exact bL)]
 ·rename_i t' l
  have ha:=hx.live rfl
  split at h
  case h_2=>simp[Tr.run]at h
  rename_i m hm
  obtain⟨q,gN,dX,gE,_⟩:=hQ.elem hm
  split at h
  case h_2=>simp[Tr.run]at h
  rename_i hc
  simp only[Bool.and_eq_true,decide_eq_true_eq]at hc
  obtain⟨y,hy,h⟩:=bind_some h
  rw[GO hT]at h
  simp only[R]at ha
  rcases ha with ⟨l',rfl,hl⟩|⟨rfl,_⟩
  ·obtain⟨e',Gf,hr⟩:=aw.get hl hy
   refine⟨_,.bf e' 0,?_,.inr (by simp only[R]; exact⟨e',rfl,hT.up _ _ _ H hr,uW hT hr⟩),h⟩
   simp only[gN,Gf]
   rw[if_pos (by rw[dX,gE,hc.1,hc.2]; exact hT.ok _ _ _ hr)]
  ·simp at hy
 ·rename_i esz n' c rg cap _
  have ha:=hx.live rfl
  split at h
  case h_2=>simp[Tr.run]at h
  rename_i m hm
  obtain⟨q,gN,dX,gE,_⟩:=hQ.elem hm
  split at h
  ·rename_i off len g cl f cu es hc hr ho
   simp only[Bool.and_eq_true,decide_eq_true_eq]at hc
   obtain⟨aq,rfl,hv,_⟩:=qG hh ha hr ho
   obtain⟨_,bQ,h⟩:=cV h
   refine⟨_,.ref n' aq (off+n.toNat) 0,?_,.inr (by simp only[R]; exact⟨aq,rfl,hv⟩),h⟩
   simp only[gN]
   rw[if_pos ⟨by omega,by rw[gE]; exact hc.1,by rw[gE]; exact hc.2⟩]
  ·rename_i off len g f cu t' l hc hr ho
   simp only[Bool.and_eq_true,decide_eq_true_eq]at hc
   obtain⟨aq,rfl,hv,_⟩:=qG hh ha hr ho
   obtain⟨bQ,h⟩:=aY h
   simp only[decide_eq_true_eq]at bQ
   refine⟨_,.ref n' aq (off+n.toNat) 0,?_,.inr (by simp only[R]; exact⟨aq,rfl,hv⟩),h⟩
   simp only[gN]
   rw[if_pos ⟨bQ,by rw[gE]; exact hc.1,by rw[gE]; exact hc.2⟩]
  ·simp[Tr.run]at h
 ·rename_i n' c k' j len cap _
  have ha:=hx.live rfl
  simp only[R]at ha
  obtain⟨aq,rfl,hv⟩:=ha
  split at h
  case h_2=>simp[Tr.run]at h
  rename_i m hm
  obtain⟨q,gN,dX,gE,_⟩:=hQ.elem hm
  obtain⟨_,bQ,h⟩:=cV h
  refine⟨_,.ref n' aq k' (j+n.toNat*q.size),?_,.inr (by simp only[R]; exact⟨aq,by rw[gE],hv⟩),h⟩
  simp only[gN]
  rw[if_pos (by omega)]
 ·rename_i n' c k' j _
  have ha:=hx.live rfl
  simp only[R]at ha
  obtain⟨aq,rfl,hv⟩:=ha
  split at h
  case h_2=>simp[Tr.run]at h
  rename_i len m hm
  obtain⟨q,gN,dX,gE⟩:=hQ.Dk hm
  split at h
  ·obtain⟨bQ,h⟩:=aY h
   simp only[decide_eq_true_eq]at bQ
   refine⟨_,.ref n' aq k' (j+n.toNat*q.size),?_,.inr (by simp only[R]; exact⟨.ref n' aq k' j,⟨aq,rfl,hv⟩,bQ,.inl ⟨_,_,_,_,rfl,by rw[gE]⟩⟩),h⟩
   simp only[gN]
   rw[if_pos (by omega)]
  obtain⟨_,bQ,h⟩:=cV h
  refine⟨_,.ref n' aq k' (j+n.toNat*q.size),?_,.inr (by simp only[R]; exact⟨aq,by rw[gE],hv⟩),h⟩
  simp only[gN]
  rw[if_pos (by omega)]
 ·rename_i e j _
  have ha:=hx.live rfl
  simp only[R]at ha
  obtain⟨e',rfl,hr,YF⟩:=ha
  split at h
  case h_2=>simp[Tr.run]at h
  rename_i len m hm
  obtain⟨q,gN,dX,gE⟩:=hQ.Dk hm
  split at h
  ·obtain⟨bQ,h⟩:=aY h
   simp only[decide_eq_true_eq]at bQ
   refine⟨_,.bf e' (j+n.toNat*q.size),?_,.inr (by simp only[R]; exact⟨.bf e' j,⟨e',rfl,hr,YF⟩,bQ,.inr ⟨_,_,rfl,by rw[gE]⟩⟩),h⟩
   simp only[gN]
   rw[if_pos (by omega)]
  obtain⟨_,bQ,h⟩:=cV h
  refine⟨_,.bf e' (j+n.toNat*q.size),?_,.inr (by simp only[R]; exact⟨e',by rw[gE],hr,YF⟩),h⟩
  simp only[gN]
  rw[if_pos (by omega)]
 ·simp[Tr.run]at h
theorem H6[ab](hQ:Q.Ok){t:TypeId}{x ix:SV T.den}{a b:AV}(hx:RV T H x a)(hi:RV T H ix b){tA:Bool}(h:(Fp Q tA t x ix K).run=some r):
  ∃ v c,tW Q.P t a b=some c∧RV T H v c∧(K v [] []).run=some r:=by
 unfold Fp at h
 split at h
 ·have ha:=hx.lit rfl
  subst ha
  split at h
  ·rename_i i qZ
   rw[tH hi qZ]
   obtain⟨w,hw,hk⟩:=hG h
   exact⟨_,_,hw,bm w,hk⟩
  ·simp[Tr.run]at h
 ·rename_i l
  have ha:=hx.live rfl
  have Om:=ha
  simp only[R]at ha
  obtain⟨l',rfl,hl⟩:=ha
  split at h
  case h_2=>simp[Tr.run]at h
  rename_i n m hm
  obtain⟨q,gN,dX,gE⟩:=hQ.Dk hm
  obtain⟨k,n',e1,Ep,h⟩:=iI h
  have hb:=qE hi e1 Ep
  split at h
  ·rename_i y hs KY
   simp only[Bool.and_eq_true,Bool.not_eq_true']at hs
   obtain⟨bQ,h⟩:=aY h
   simp only[decide_eq_true_eq]at bQ
   obtain⟨xs,zp,KY⟩:=Option.bind_eq_some_iff.1 KY
   obtain⟨g1,g2⟩:=j0 zp
   have hg:=List.getElem?_eq_getElem (by omega:n'.toNat<xs.length)
   have hy:=g2 _ _ hg
   rw[←De KY hg,Nat.zero_add,Nat.mul_one]at hy
   obtain⟨c,hc,hr⟩:=R.part Om hy
   refine⟨y,c,?_,.inr hr,h⟩
   simp only[tW,gN,hb]
   rw[if_pos (by omega),dX,gE,hs.1.2,Nat.eq_of_beq_eq_true hs.2,Nat.mul_one]
   exact hc
  obtain⟨_,bQ,h⟩:=cV h
  obtain⟨v,hv,hk⟩:=lU h
  rw[←dX,←gE]at hv
  obtain⟨c,hc,hr⟩:=R.part Om hv
  refine⟨v,c,?_,.inr hr,hk⟩
  simp only[tW,gN,hb]
  rw[if_pos (by omega)]
  exact hc
 ·simp[Tr.run]at h
end
end Go.PI
end
section
/- PS, part I: append, and the builtins. -/
namespace Go.PI
variable {T:dw}{ρ:Type}
section
variable {H:ah T.den}{hp:ag}{K:EK T ρ}{r:ρ}{Q:gM}
def y7(T:dw)(H:ah T.den)(y:Src T.den)(ys:List AV)(yc:Bool):Prop:=
 match y with
 |.lL l cl=>RL T H l ys∧yc=cl∧(cl=true→av l=true)
 |.yX t l=>aw (T.rp t) l ys∧yc=true
theorem y7.len[ab]{y:Src T.den}{ys:List AV}{yc:Bool}(h:y7 T H y ys yc):y.len=ys.length:=by
 cases y with
 |lL l cl=>exact h.1.length
 |yX t l=>exact h.1.length
theorem GR[ab](hQ:Q.Ok)(hh:RH T H hp){q:bG}{xt:TypeId}{x:SV T.den}{a:AV}(hx:RV T H x a){K:Src T.den→List Nat→Tr ρ}(h:(NA Q H xt x K).run=some r):
  ∃ y rd ys yc,aE hp (wi Q.P q xt a) (ys,yc) rd∧y7 T H y ys yc∧(K y rd).run=some r:=by
 unfold NA at h
 split at h
 case h_2=>simp[Tr.run]at h
 rename_i hs
 have hs:=hQ.NL hs
 unfold wi
 rw[hs]
 simp only
 split at h
 ·have ha:=hx.lit rfl
  subst ha
  exact⟨.lL [] true,_,[],true,aE.pure _,⟨by simp[RL],rfl,fun _=>rfl⟩,h⟩
 ·have ha:=hx.live rfl
  simp only[R]at ha
  obtain⟨l',rfl,hl,D4⟩:=ha
  exact⟨.lL _ true,_,l',true,aE.pure _,⟨hl,rfl,fun _=>D4⟩,h⟩
 ·have ha:=hx.live rfl
  simp only[R]at ha
  rcases ha with ⟨l',rfl,hl⟩|⟨rfl,rfl⟩
  ·exact⟨.yX _ _,_,l',true,aE.pure _,⟨hl,rfl⟩,h⟩
  ·exact⟨.yX _ _,_,[],true,aE.pure _,⟨(show aw (T.rp _) [] [] from trivial),rfl⟩,h⟩
 ·rename_i esz n c rg cap
  have ha:=hx.live rfl
  simp only[R]at ha
  obtain⟨aq,hv,ha⟩:=ha
  split at h
  ·rename_i g cl f cur es ho
   obtain⟨o,c8,dC⟩:=hh.obj ho
   obtain⟨es',rfl,cC,qT⟩:=dC
   split at h
   case h_2=>simp[Tr.run]at h
   rename_i hc
   have bZ:=hv.arr hh ho hc
   simp only[aB.len]at bZ
   have hl:=cC.length
   split at h
   ·simp only at ha
    subst ha
    refine⟨.lL es cl,_,es',cl,?_,⟨cC,rfl,qT⟩,h⟩
    simp only[fN]
    refine aE.mono (aE.bind (aE.arr c8 (by omega)) ?_) (rd:=[n]++[]) (fun _ h=>by simpa using h)
    simp only
    rw[if_pos (by omega)]
    simp only[List.drop_zero]
    rw[List.take_of_length_le (by omega)]
    exact aE.pure _
   ·rename_i off len
    simp only at ha
    subst ha
    split at h
    case isFalse=>simp[Tr.run]at h
    rename_i hle
    refine⟨.lL _ cl,_,(es'.drop off).take len,cl,?_,⟨aQ.2 (((aQ.1 cC).drop off).take len),rfl,fun mW=>my (qT mW) _ _⟩,h⟩
    simp only[fN]
    refine aE.mono (aE.bind (aE.arr c8 (by omega)) ?_) (rd:=[n]++[]) (fun _ h=>by simpa using h)
    simp only
    rw[if_pos (by omega)]
    exact aE.pure _
  ·rename_i g f cur t l ho
   obtain⟨o,c8,dC⟩:=hh.obj ho
   obtain⟨es',rfl,cC⟩:=dC
   split at h
   case h_2=>simp[Tr.run]at h
   rename_i hc
   have bZ:=hv.arr hh ho hc
   simp only[aB.len]at bZ
   have hl:=cC.length
   split at h
   ·simp only at ha
    subst ha
    refine⟨.yX t l,_,es',true,?_,⟨cC,rfl⟩,h⟩
    simp only[fN]
    refine aE.mono (aE.bind (aE.arr c8 (by omega)) ?_) (rd:=[n]++[]) (fun _ h=>by simpa using h)
    simp only
    rw[if_pos (by omega)]
    simp only[List.drop_zero]
    rw[List.take_of_length_le (by omega)]
    exact aE.pure _
   ·rename_i off len
    simp only at ha
    subst ha
    obtain⟨hle,h⟩:=aY h
    simp only[decide_eq_true_eq]at hle
    refine⟨.yX t _,_,(es'.drop off).take len,true,?_,⟨(cC.drop off).take len,rfl⟩,h⟩
    simp only[fN]
    refine aE.mono (aE.bind (aE.arr c8 (by omega)) ?_) (rd:=[n]++[]) (fun _ h=>by simpa using h)
    simp only
    rw[if_pos (by omega)]
    exact aE.pure _
  ·simp[Tr.run]at h
 ·simp[Tr.run]at h
theorem y7.xO[ab](hT:T.Ok){y:Src T.den}{ys:List AV}{yc:Bool}(h:y7 T H y ys yc){m:jX}{q:bG}(h1:q.isAgg=m.agg)(h2:q.size=m.size)(bL:y.ok T m=true):ys.all (aG q.isAgg q.size)=true:=by
 cases y with
 |lL l cl=>
  rw[h1,h2,←RL.all (fun _ _=>R.aG) h.1]
  exact bL
 |yX t l=>
  simp only[Src.ok,Bool.and_eq_true,decide_eq_true_eq]at bL
  exact ss hT (by rw[h1,bL.1]) (by rw[h2,bL.2]) h.1
theorem gB[ab]{y:Src T.den}{ys:List AV}{yc:Bool}(hy:y7 T H y ys yc){a b:Tr ρ}(h:(oe T y a b).run=some r):(ys.isEmpty=true∧a.run=some r)∨(ys.isEmpty=false∧b.run=some r):=by
 have hl:=hy.len
 unfold oe at h
 split at h
 ·grind[Src.len]
 ·rename_i t l
  rcases fp h with ⟨he,h⟩|⟨he,h⟩
  ·grind[Src.len]
  ·grind[Src.len]
theorem pX(hT:T.Ok){t:Nat}:∀ {l:List (SV T.den)} {m:List AV} {xs:List (T.den t)},RL T H l m→oM T t l=some xs→aw (T.rp t) xs m
 |[],[],xs,_,h=>by simp[oM]at h; subst h; trivial
 |v::vs,a::as,xs,hr,h=>by
  simp only[RL]at hr
  simp only[oM,Option.bind_eq_some_iff,Option.map_eq_some_iff]at h
  obtain⟨x,h1,ys,h2,rfl⟩:=h
  exact⟨hT.dn _ _ _ _ H h1 hr.1,pX hT hr.2 h2⟩
 |[],_::_,_,h,_=>by simp[RL]at h
 |_::_,[],_,h,_=>by simp[RL]at h
theorem ya{t t':Nat}(h:t=t'){l:List (T.den t)}{m:List AV}(hl:aw (T.rp t) l m):aw (T.rp t') (zY h l) m:=by subst h; exact hl
theorem z9{den:Nat→Type}{t t':Nat}(h:t=t')(l:List (den t)):(zY h l).length=l.length:=by subst h; rfl
theorem uX[ab](hT:T.Ok){cur:Nat}{o o':aB T.den}{y:Src T.den}{g c f:Bool}{es ys:List AV}{yc:Bool}(ho:RO T H o (.arr g c f es))(hy:y7 T H y ys yc)(h:pQ T cur o y=some o'):
  o'.cur=cur∧o'.len=o.len+y.len∧RO T H o' (.arr true (c&&yc) f (es++ys)):=by
 unfold pQ at h
 split at h
 ·rename_i cl f' cu Wp UG Yo
  simp only[Option.some.injEq]at h
  subst h
  obtain⟨es',e,cC,qT⟩:=ho
  simp only[aM.arr.injEq]at e
  obtain⟨rfl,rfl,rfl,rfl⟩:=e
  obtain⟨yb,rfl,SS⟩:=hy
  exact⟨rfl,by simp[aB.len,Src.len],_,rfl,aQ.2 ((aQ.1 cC).append (aQ.1 yb)),fun mW=>by simp only[Bool.and_eq_true]at mW; exact Fu (qT mW.1) (SS mW.2)⟩
 ·rename_i f' cu Wp t l
  rw[Option.map_eq_some_iff]at h
  obtain⟨l0,h1,rfl⟩:=h
  obtain⟨es',e,cC,_⟩:=ho
  simp only[aM.arr.injEq]at e
  obtain⟨rfl,rfl,rfl,rfl⟩:=e
  obtain⟨yb,rfl⟩:=hy
  have h2:=pX hT cC h1
  refine⟨rfl,?_,_,rfl,h2.append yb⟩
  simp[aB.len,Src.len,h2.length,cC.length]
 ·rename_i f' cu t l UG
  rw[Option.map_eq_some_iff]at h
  obtain⟨l0,h1,rfl⟩:=h
  obtain⟨es',e,cC⟩:=ho
  simp only[aM.arr.injEq]at e
  obtain⟨rfl,rfl,rfl,rfl⟩:=e
  obtain⟨yb,rfl,_⟩:=hy
  have h2:=pX hT yb h1
  refine⟨rfl,?_,_,rfl,cC.append h2⟩
  simp[aB.len,Src.len,h2.length,yb.length]
 ·rename_i f' cu t l t' l2
  split at h
  case isFalse=>simp at h
  rename_i ht
  simp only[Option.some.injEq]at h
  subst h
  obtain⟨es',e,cC⟩:=ho
  simp only[aM.arr.injEq]at e
  obtain⟨rfl,rfl,rfl,rfl⟩:=e
  obtain⟨yb,rfl⟩:=hy
  refine⟨rfl,?_,_,rfl,cC.append (ya ht yb)⟩
  simp[aB.len,Src.len,z9]
 ·simp at h
theorem Dl{y:Src T.den}{ys:List AV}{yc:Bool}(hy:y7 T H y ys yc):(xP y).cur=0∧(xP y).len=y.len∧RO T H (xP y) (.arr true yc false ys):=by
 cases y with
 |lL l cl=>obtain⟨h1,rfl,h2⟩:=hy; exact⟨rfl,rfl,_,rfl,h1,h2⟩
 |yX t l=>obtain⟨h1,rfl⟩:=hy; exact⟨rfl,rfl,_,rfl,h1⟩
theorem K1[ab](hT:T.Ok){o:aB T.den}{g c f:Bool}{es:List AV}(ho:RO T H o (.arr g c f es)){m:jX}{q:bG}(h1:q.isAgg=m.agg)(h2:q.size=m.size)(bL:o.xO T m=true):es.all (aG q.isAgg q.size)=true:=by
 cases o with
 |arr g' cl f' cu Wp=>
  obtain⟨es',e,cC,_⟩:=ho
  simp only[aM.arr.injEq]at e
  obtain⟨rfl,rfl,rfl,rfl⟩:=e
  rw[h1,h2,←RL.all (fun _ _=>R.aG) cC]
  exact bL
 |bV g' f' cu t l=>
  obtain⟨es',e,cC⟩:=ho
  simp only[aM.arr.injEq]at e
  obtain⟨rfl,rfl,rfl,rfl⟩:=e
  simp only[aB.xO,Bool.and_eq_true,decide_eq_true_eq]at bL
  exact ss hT (by rw[h1,bL.1]) (by rw[h2,bL.2]) cC
 |_=>simp[aB.xO]at bL
theorem yd{cur:Nat}{o o':aB T.den}{y:Src T.den}(h:pQ T cur o y=some o'):o.x5=true:=by
 cases o<;>first|rfl|(cases y<;>simp[pQ]at h)
theorem nI{o:aB T.den}(h:o.x5=true):o.isRec=false:=by cases o<;>first|rfl|simp[aB.x5]at h
theorem pY:∀ (ys es:List AV) (i:Nat),i+ys.length≤es.length→bw es i ys=es.take i++(ys++es.drop (i+ys.length))
 |[],es,i,_=>by simp[bw]
 |y::ys,es,i,h=>by
  simp only[List.length_cons]at h
  simp only[bw]
  rw[pY ys (es.set i y) (i+1) (by simp; omega)]
  have e1:(es.set i y).take (i+1)=es.take i++[y]:=by
   rw[List.take_succ_eq_append_getElem (by simp; omega),List.take_set_of_le (Nat.le_refl i)]
   simp
  have e2:(es.set i y).drop (i+1+ys.length)=es.drop (i+(ys.length+1)):=by
   rw[List.drop_set_of_lt (by omega)]
   congr 1; omega
  rw[e1,e2]
  simp
theorem Aa{α β:Type}{P:α→β→Prop}{l l2:List α}{m m2:List β}(h:aw P l m)(h2:aw P l2 m2)(i:Nat):aw P (HT l i l2) (m.take i++(m2++m.drop (i+m2.length))):=by
 unfold HT
 rw[h2.length]
 exact(h.take i).append (h2.append (h.drop _))
theorem uY[ab](hT:T.Ok){i:Nat}{o o':aB T.den}{y:Src T.den}{ao:aM}{ys:List AV}{yc:Bool}(ho:RO T H o ao)(hy:y7 T H y ys yc)(hi:i+y.len≤o.len)(h:uO T o i y=some o'):
  o.x5=true∧o'.cur=o.cur∧o'.len=o.len∧∃ es,ao=.arr o.flags.1 o.flags.2.1 o.flags.2.2 es∧RO T H o' (.arr o.flags.1 (o.flags.2.1&&yc) o.flags.2.2 (bw es i ys)):=by
 have hlen:=hy.len
 unfold uO at h
 split at h
 ·rename_i g f cu t l t' l2
  split at h
  case isFalse=>simp at h
  rename_i ht
  simp only[Option.some.injEq]at h
  subst h
  obtain⟨es',rfl,cC⟩:=ho
  obtain⟨yb,rfl⟩:=hy
  have hl:=cC.length
  simp only[aB.len,Src.len]at hi hlen
  refine⟨rfl,rfl,?_,es',rfl,_,rfl,?_⟩
  ·simp[aB.len,HT,z9]; omega
  ·rw[pY _ _ _ (by omega)]
   exact Aa cC (ya ht yb) i
 ·rename_i g f cu t l UG
  rw[Option.map_eq_some_iff]at h
  obtain⟨l0,h1,rfl⟩:=h
  obtain⟨es',rfl,cC⟩:=ho
  obtain⟨yb,rfl,_⟩:=hy
  have h2:=pX hT yb h1
  have hl:=cC.length
  have ra:=h2.length
  simp only[aB.len,Src.len]at hi hlen
  refine⟨rfl,rfl,?_,es',rfl,_,rfl,?_⟩
  ·simp[aB.len,HT]; omega
  ·rw[pY _ _ _ (by omega)]
   exact Aa cC h2 i
 ·simp at h
def su(q:bG)(nm:Nat)(a:AV)(ys:List AV)(yc:Bool):RM dm:=
   (match (cj q).isSome&&decide (0<q.size)&&ys.all (aG q.isAgg q.size) with
     |false=>RM.fail
     |true=>match ys.isEmpty with
      |true=>(match a with
       |.o7 xs _=>pure ⟨.sl xs,[]⟩
       |.lit (.slice none 0 0)|.sl _|.bq _ _ _ _ _ _|.nz=>pure ⟨a,[]⟩
       |_=>.fail)
      |false=>match a with
       |.lit (.slice none 0 0)|.nz=>
        if ys.length*q.bytes≤2^44∧ys.length≤2^44 then
         pure ⟨.bq q.size nm ys.length 0 ys.length none,[(nm,.arr true yc false ys)]⟩ else .fail
       |.o7 xs c=>
        if c<xs.length+ys.length∧(xs.length+ys.length)*q.bytes≤2^44∧xs.length+ys.length≤2^44∧xs.all (aG q.isAgg q.size)=true then
         pure ⟨.bq q.size nm (xs.length+ys.length) 0 (xs.length+ys.length) none,[(nm,.arr true yc false (xs++ys))]⟩ else .fail
       |.bq esz n aq off len cap=>do
        let (g,c,f,es) ←RM.arr n aq
        if f=true∨es.length<off+len∨esz≠q.size then RM.fail else
        if len+ys.length≤cap.getD (aq-off) then
         if off+len+ys.length≤es.length then
          pure ⟨.bq esz n aq off (len+ys.length) cap,[(n,.arr g (c&&yc) f (bw es (off+len) ys))]⟩
         else RM.fail
        else if (len+ys.length)*q.bytes≤2^44∧len+ys.length≤2^44 then
         (match cap with
         |none=>if g=true∧off=0∧len=aq then
           pure ⟨.bq esz n (len+ys.length) 0 (len+ys.length) none,[(n,.arr true (c&&yc) f (es++ys))]⟩
          else RM.fail
         |some _=>if es.all (aG q.isAgg q.size)=true then
           pure ⟨.bq esz nm (len+ys.length) 0 (len+ys.length) none,[(nm,.arr true (c&&yc) false ((es.drop off).take len++ys))]⟩
          else RM.fail)
        else RM.fail
       |_=>.fail)
theorem Fy{P:Program}{t xt:TypeId}{q:bG}(h:aO P t=some q)(nm:Nat)(a b:AV):
  fE P nm t xt a b=(wi P q xt b >>= fun p=>su q nm a p.1 p.2):=by
 unfold fE
 rw[h]
 rfl
theorem Ab{i:Nat}{o o':aB T.den}{y:Src T.den}{ys:List AV}{yc:Bool}(hy:y7 T H y ys yc)(h:uO T o i y=some o'):yc=true:=by
 cases y with
 |lL l cl=>cases cl with
  |true=>exact hy.2.1
  |false=>unfold uO at h; cases o<;>simp at h
 |yX t l=>exact hy.2
theorem ye[ab](hh:RH T H hp){n:Nat}{o o':aB T.den}{ao:aM}(ho:H[n]?=some (some o))(hc:o.cur≤o'.cur)(hl:o'.cur=o.cur→o'.len=o.len)(c8:hp[n]?=some (some ao))(dC:RO T H o' ao)
  {v:SV T.den} {a:AV} (hv:RV T (H.set n (some o')) v a) {m:RM dm} {rd:List Nat} (hy:aE hp m ⟨a,[]⟩ rd) (h:(K v [(n,o')] rd).run=some r) (hj:o.x5=true):jm T H hp m K r:=by
 obtain⟨OW,NR⟩:=hh.Q9 ho (o':=o') hc hl dC
 rw[gW c8]at NR
 have bQ:=(List.getElem?_eq_some_iff.1 ho).1
 have e1:bc H [(n,o')]=H.set n (some o'):=by simp[bc,bJ]; omega
 refine⟨_,_,_,⟨a,[]⟩,hy,⟨by rw[e1]; exact hv,by rw[e1]; exact NR,by rw[e1]; exact OW,fun q h=>by simp at h,fun k hk hl=>?_,by rw[e1]; simp,fun k hk BG=>by
  simp at BG
  subst BG
  simp only[recAt,ho,nI hj,Bool.false_eq_true]at hk⟩,h⟩
 rw[e1]; simp at hk; rw[List.getElem?_set_ne (Ne.symm hk)]
theorem Fz[ab](hT:T.Ok)(hQ:Q.Ok)(hh:RH T H hp){nm:Nat}(hn:nm=H.length∨H[nm]?=some none){t xt:TypeId}{s x:SV T.den}{a b:AV}(hs:RV T H s a)(hx:RV T H x b)
  (h:(Bd Q nm H t xt s x K).run=some r):jm T H hp (fE Q.P nm t xt a b) K r:=by
 unfold Bd at h
 split at h
 ·simp[Tr.run]at h
 rename_i m hm
 obtain⟨q,gN,dX,gE,Gw,II⟩:=hQ.elem hm
 obtain⟨y,rd,ys,yc,yb,v9,h⟩:=GR hQ hh (q:=q) hx h
 split at h
 ·simp[Tr.run]at h
 rename_i bL
 simp only[Bool.and_eq_true,decide_eq_true_eq]at bL
 have hz:(cj q).isSome=true:=by
  cases YG:m.zero with
  |none=>rw[YG]at bL; simp at bL
  |some z=>rw[II z YG]; rfl
 have bg:=v9.xO hT dX gE bL.2
 have lr:((cj q).isSome&&decide (0<q.size)&&ys.all (aG q.isAgg q.size))=true:=by
  rw[hz,bg,gE]; simpa using bL.1.2
 have fM:=v9.len
 have abs:∀ {rest:RM dm} {e:dm} {rd2:List Nat},(∀ n,n∈rd→n∈rd2)→aE hp rest e rd2 →
   su q nm a ys yc=rest→aE hp (fE Q.P nm t xt a b) e rd2:=by
  intro rest e rd2 h1 h2 h3
  rw[Fy gN]
  refine⟨?_,fun n hn=>?_⟩
  ·rw[RM.run_bind,yb.1]
   simp only[Option.bind_some]
   rw[h3]
   exact h2.1
  ·rw[RM.eu,yb.1]at hn
   simp only[List.mem_append]at hn
   rw[h3]at hn
   exact hn.elim (fun h=>h1 n (yb.2 n h)) (h2.2 n)
 unfold su at abs
 rw[lr]at abs
 split at h
 ·-- nil
  have ha:=hs.lit rfl
  subst ha
  rcases gB v9 h with ⟨he,h⟩|⟨he,h⟩
  ·rw[he]at abs
   exact ar hh (bm cK) (abs (fun _ h=>h) (aE.mono (aE.pure _) (fun _ h=>by simp at h)) rfl) h
  ·rw[he]at abs
   obtain⟨hg,h⟩:=aY h
   simp only[rk,Bool.and_eq_true,decide_eq_true_eq]at hg
   obtain⟨o1,o2,o3⟩:=Dl v9
   refine eH hh hn o3 (v:=.bq m.size nm 0 none none) (a:=.bq q.size nm ys.length 0 ys.length none) ?_ (abs (fun _ h=>h) (aE.mono (aE.pure _) (fun _ h=>by simp at h)) ?_) h
   ·right
    simp only[R]
    have hv:=eJ hh hn (o:=xP y)
    rw[o1,o2,fM]at hv
    exact⟨_,hv,by rw[gE]⟩
   ·simp only
    rw[if_pos ⟨by rw[←fM,Gw]; exact hg.1,by rw[←fM]; exact hg.2⟩]
 ·-- empty,without room
  have ha:=hs.live rfl
  simp only[R]at ha
  rcases gB v9 h with ⟨he,h⟩|⟨he,h⟩
  ·rw[he]at abs
   subst ha
   exact ar hh hs (abs (fun _ h=>h) (aE.mono (aE.pure _) (fun _ h=>by simp at h)) rfl) h
  ·rw[he]at abs
   obtain⟨hg,h⟩:=aY h
   simp only[rk,Bool.and_eq_true,decide_eq_true_eq]at hg
   obtain⟨o1,o2,o3⟩:=Dl v9
   have key:∀ rest:RM dm,rest=(if ys.length*q.bytes≤2^44∧ys.length≤2^44 then
        pure ⟨.bq q.size nm ys.length 0 ys.length none,[(nm,.arr true yc false ys)]⟩ else .fail)→rest=pure ⟨.bq q.size nm ys.length 0 ys.length none,[(nm,.arr true yc false ys)]⟩:=by
    intro rest hr
    rw[hr,if_pos ⟨by rw[←fM,Gw]; exact hg.1,by rw[←fM]; exact hg.2⟩]
   refine eH hh hn o3 (v:=.bq m.size nm 0 none none) (a:=.bq q.size nm ys.length 0 ys.length none) ?_ (abs (fun _ h=>h) (aE.mono (aE.pure _) (fun _ h=>by simp at h)) ?_) h
   ·right
    simp only[R]
    have hv:=eJ hh hn (o:=xP y)
    rw[o1,o2,fM]at hv
    exact⟨_,hv,by rw[gE]⟩
   ·subst ha
    exact key _ rfl
 ·-- a slice by value
  have ha:=hs.live rfl
  rcases gB v9 h with ⟨he,h⟩|⟨_,h⟩
  ·rw[he]at abs
   simp only[R]at ha
   obtain⟨l',rfl,hl⟩:=ha
   exact ar hh hs (abs (fun _ h=>h) (aE.mono (aE.pure _) (fun _ h=>by simp at h)) rfl) h
  ·simp[Tr.run]at h
 ·have ha:=hs.live rfl
  rcases gB v9 h with ⟨he,h⟩|⟨_,h⟩
  ·rw[he]at abs
   have Om:=ha
   simp only[R]at ha
   rcases ha with ⟨l',rfl,hl⟩|⟨_,rfl⟩
   ·exact ar hh hs (abs (fun _ h=>h) (aE.mono (aE.pure _) (fun _ h=>by simp at h)) rfl) h
   ·exact ar hh hs (abs (fun _ h=>h) (aE.mono (aE.pure _) (fun _ h=>by simp at h)) rfl) h
  ·simp[Tr.run]at h
 ·-- a slice by value,of known room
  rename_i t' l c b _
  have ha:=hs.live rfl
  have Om:=ha
  simp only[R]at ha
  rcases gB v9 h with ⟨he,h⟩|⟨he,h⟩
  ·rw[he]at abs
   rcases ha with ⟨_,l',rfl,hl⟩|⟨_,wA,rfl|rfl⟩
   ·exact ar hh (v:=.jr t' l) (a:=.sl l') (.inr (by simp only[R]; exact .inl ⟨l',rfl,hl⟩)) (abs (fun _ h=>h) (aE.mono (aE.pure _) (fun _ h=>by simp at h)) rfl) h
   ·exact ar hh (v:=.jr t' l) (a:=.sl []) (.inr (by simp only[R]; exact .inl ⟨[],rfl,by rw[wA]; trivial⟩)) (abs (fun _ h=>h) (aE.mono (aE.pure _) (fun _ h=>by simp at h)) rfl) h
   ·exact ar hh (v:=.jr t' l) (a:=.lit cK) (.inr (by simp only[R]; exact .inr ⟨wA,trivial⟩)) (abs (fun _ h=>h) (aE.mono (aE.pure _) (fun _ h=>by simp at h)) rfl) h
  ·rw[he]at abs
   obtain⟨hg,h⟩:=aY h
   simp only[rk,Bool.and_eq_true,decide_eq_true_eq]at hg
   obtain⟨⟨hb,hc⟩,qQ,iC⟩:=hg
   split at h
   case h_2=>simp[Tr.run]at h
   rename_i o' SU wX
   simp only[Bool.and_eq_true,decide_eq_true_eq]at SU
   rcases ha with ⟨_,l',rfl,hl⟩|⟨o5,_⟩
   ·have hlen:=hl.length
    have dC:RO T H (.bV true false 0 t' l) (.arr true true false l'):=⟨l',rfl,hl⟩
    obtain⟨a1,a2,a3⟩:=uX hT dC v9 wX
    have SS:yc=true:=by
     cases y with
     |lL UG cl=>
      obtain⟨_,mg,_⟩:=v9
      cases yc with
      |true=>rfl
      |false=>rw[show cl=false from by simpa using mg.symm]at wX; simp[pQ]at wX
     |yX _ _=>exact v9.2
    subst SS
    have bg:=ss hT (agg:=q.isAgg) (size:=q.size) (by rw[dX]; exact SU.1) (by rw[gE]; exact SU.2) hl
    refine eH hh hn a3 (v:=.bq m.size nm 0 none none) (a:=.bq q.size nm (l'.length+ys.length) 0 (l'.length+ys.length) none) ?_ (abs (fun _ h=>h) (aE.mono (aE.pure _) (fun _ h=>by simp at h)) ?_) h
    ·right
     simp only[R]
     have hv:=eJ hh hn (o:=o')
     rw[a1,a2,fM]at hv
     simp only[aB.len,hlen]at hv
     exact⟨_,hv,by rw[gE]⟩
    ·simp only
     rw[if_pos ⟨by rw[←hlen,←fM]; exact hc,by rw[←hlen,←fM,Gw]; exact qQ,by rw[←hlen,←fM]; exact iC,bg⟩]
     rfl
   ·rw[hb]at o5; simp at o5
 ·rename_i esz n c rg cap _
  have ha:=hs.live rfl
  split at h
  case h_2=>simp[Tr.run]at h
  rename_i o ho
  obtain⟨ao,c8,dC⟩:=hh.obj ho
  split at h
  case h_2=>simp[Tr.run]at h
  rename_i hc
  simp only[Bool.and_eq_true,Bool.not_eq_true',decide_eq_true_eq]at hc
  simp only[R]at ha
  obtain⟨aq,hv,ha⟩:=ha
  have bZ:=hv.arr hh ho hc.1.1
  split at h
  ·-- the whole of a growing array
   simp only at ha
   subst ha
   split at h
   ·rename_i cl0
    have:ys=[]:=by
     have:=fM
     cases ys with
     |nil=>rfl
     |cons=>simp[Src.len]at this
    subst this
    simp only[List.isEmpty_nil]at abs
    exact ar hh hs (abs (fun _ h=>h) (aE.mono (aE.pure _) (fun _ h=>by simp at h)) rfl) h
   ·rename_i dN
    split at h
    case h_2=>simp[Tr.run]at h
    rename_i o' OX wX
    obtain⟨hg,h⟩:=aY h
    simp only[rk,Bool.and_eq_true,decide_eq_true_eq]at hg
    have hj:=yd wX
    obtain⟨es,rfl,wo⟩:=dC.Dj hj
    obtain⟨a1,a2,a3⟩:=uX hT dC v9 wX
    rw[OX]at c8
    cases he:ys.isEmpty with
    |true=>
     rw[he]at abs
     have SW:ys=[]:=by simpa using he
     subst SW
     have SS:yc=true:=by
      cases y with
      |lL l cl=>
       exfalso
       have:=fM
       simp only[Src.len,List.length_nil]at this
       have wA:l=[]:=by simpa using this
       subst wA
       exact dN _ rfl
      |yX t l=>exact v9.2
     subst SS
     simp only[Bool.and_true,List.append_nil]at a3
     obtain⟨OW,NR⟩:=hh.Q9 ho (o':=o') (by omega) (fun e=>by omega) a3
     rw[gW c8]at NR
     have bQ:=(List.getElem?_eq_some_iff.1 ho).1
     have e1:bc H [(n,o')]=H.set n (some o'):=by simp[bc,bJ]; omega
     refine⟨_,_,_,⟨.bq esz n aq 0 aq none,[]⟩,abs (fun _ h=>List.mem_cons_of_mem _ h) (aE.mono (aE.pure _) (fun _ h=>by simp at h)) rfl,⟨?_,by rw[e1]; exact NR,by rw[e1]; exact OW,fun q h=>by simp at h,fun k hk hl=>?_,by rw[e1]; simp,fun k hk BG=>by
      simp at BG
      subst BG
      simp only[recAt,ho,nI hj,Bool.false_eq_true]at hk⟩,h⟩
     ·rw[e1]
      right
      simp only[R]
      refine⟨aq,⟨o',by rw[List.getElem?_set_self bQ],by omega,fun _=>?_⟩,rfl⟩
      rw[a2,bZ,fM]; rfl
     ·rw[e1]; simp at hk; rw[List.getElem?_set_ne (Ne.symm hk)]
    |false=>
     rw[he]at abs
     have Pu:0<ys.length:=by cases ys with
      |nil=>simp at he
      |cons=>simp
     refine jN hh ho (o':=o') (by omega) (fun e=>by omega) a3 (v:=.bq esz n (o.cur+1) none none) (a:=.bq esz n (aq+ys.length) 0 (aq+ys.length) none) ?_
      (abs (fun _ h=>List.mem_cons_of_mem _ h) (rd2:=n::rd) (aE.mono (aE.bind (aE.arr c8 (by omega)) (rd':=[]) (b:=(⟨.bq esz n (aq+ys.length) 0 (aq+ys.length) none,[(n,.arr true (o.flags.2.1&&yc) o.flags.2.2 (es++ys))]⟩:dm)) ?_) (fun k hk=>by simp at hk; simp[hk])) rfl) h (nI hj)
     ·right
      simp only[R]
      have bQ:=(List.getElem?_eq_some_iff.1 ho).1
      refine⟨_,⟨o',by rw[List.getElem?_set_self bQ],by omega,fun _=>?_⟩,rfl⟩
      rw[a2,bZ,fM]
     ·simp only
      rw[if_neg (by rw[hc.1.2]; simp only[Bool.false_eq_true,false_or,not_or]; exact⟨by omega,by rw[gE]; simp[hc.2]⟩),if_neg (by simp only[Option.getD_none]; omega),
       if_pos ⟨by rw[bZ,←fM,Gw]; exact hg.1,by rw[bZ,←fM]; exact hg.2⟩]
      simp only[and_self,if_true]
      exact aE.pure _
  ·-- of an array of fixed room
   rename_i k
   simp only at ha
   subst ha
   rcases gB v9 h with ⟨he,h⟩|⟨he,h⟩
   ·rw[he]at abs
    exact ar hh hs (abs (fun _ h=>h) (aE.mono (aE.pure _) (fun _ h=>by simp at h)) rfl) h
   ·rw[he]at abs
    rcases fp h with ⟨_,h⟩|⟨hk,h⟩
    ·simp[Tr.run]at h
    simp only[decide_eq_false_iff_not]at hk
    split at h
    case h_2=>simp[Tr.run]at h
    rename_i o' hoa wX
    obtain⟨hg,h⟩:=aY h
    simp only[rk,Bool.and_eq_true,decide_eq_true_eq]at hg
    have hj:=yd wX
    obtain⟨es,rfl,wo⟩:=dC.Dj hj
    obtain⟨a1,a2,a3⟩:=uX hT dC v9 wX
    rw[hc.1.2]at a3
    refine eH hh hn a3 (v:=.bq esz nm 0 none none) (a:=.bq esz nm (aq+ys.length) 0 (aq+ys.length) none) ?_
     (abs (fun _ h=>List.mem_cons_of_mem _ h) (rd2:=n::rd) (aE.mono (aE.bind (aE.arr c8 (by omega)) (rd':=[]) (b:=(⟨.bq esz nm (aq+ys.length) 0 (aq+ys.length) none,[(nm,.arr true (o.flags.2.1&&yc) false (es++ys))]⟩:dm)) ?_) (fun k hk=>by simp at hk; simp[hk])) rfl) h
    ·right
     simp only[R]
     have hv:=eJ hh hn (o:=o')
     rw[a1,a2,fM,←bZ]at hv
     exact⟨_,hv,rfl⟩
    ·simp only
     rw[if_neg (by rw[hc.1.2]; simp only[Bool.false_eq_true,false_or,not_or]; exact⟨by omega,by rw[gE]; simp[hc.2]⟩),if_neg (by simp only[Option.getD_some]; omega),
      if_pos ⟨by rw[bZ,←fM,Gw]; exact hg.1,by rw[bZ,←fM]; exact hg.2⟩]
     rw[if_pos (K1 hT dC dX gE hoa)]
     simp only[List.drop_zero]
     rw[List.take_of_length_le (by omega)]
     exact aE.pure _
  ·-- into the room that there is
   rename_i k off len _
   simp only at ha
   subst ha
   split at h
   case h_2=>simp[Tr.run]at h
   rename_i o' Dm
   obtain⟨hg,h⟩:=aY h
   simp only[Bool.and_eq_true,decide_eq_true_eq]at hg
   obtain⟨hj,a1,a2,es,e0,a3⟩:=uY hT dC v9 (by omega) Dm
   obtain⟨es',e1,wo⟩:=dC.Dj hj
   rw[e1]at e0
   simp only[aM.arr.injEq,true_and]at e0
   subst e0
   subst e1
   cases he:ys.isEmpty with
   |true=>
    rw[he]at abs
    have SW:ys=[]:=by simpa using he
    subst SW
    obtain rfl:=Ab v9 Dm
    simp only[Bool.and_true,bw]at a3
    refine ye hh ho (by omega) (fun _=>a2) c8 a3 (v:=.bq esz n c (some (off,len+y.len)) (some k)) (a:=.bq esz n aq off len (some k)) ?_
     (abs (fun _ h=>List.mem_cons_of_mem _ h) (aE.mono (aE.pure _) (fun _ h=>by simp at h)) rfl) h hj
    right
    simp only[R]
    have bQ:=(List.getElem?_eq_some_iff.1 ho).1
    refine⟨aq,⟨o',by rw[List.getElem?_set_self bQ],by rw[a1]; exact Nat.le_of_eq (Nat.eq_of_beq_eq_true hc.1.1),fun _=>by rw[a2,bZ]⟩,by rw[fM]; rfl⟩
   |false=>
    rw[he]at abs
    refine jN hh ho (o':=o') (by omega) (fun _=>a2) a3 (v:=.bq esz n c (some (off,len+y.len)) (some k)) (a:=.bq esz n aq off (len+ys.length) (some k)) ?_
     (abs (fun _ h=>List.mem_cons_of_mem _ h) (rd2:=n::rd) (aE.mono (aE.bind (aE.arr c8 (by omega)) (rd':=[]) (b:=(⟨.bq esz n aq off (len+ys.length) (some k),[(n,.arr o.flags.1 (o.flags.2.1&&yc) o.flags.2.2 (bw es' (off+len) ys))]⟩:dm)) ?_) (fun k hk=>by simp at hk; simp[hk])) rfl) h (nI hj)
    ·right
     simp only[R]
     have bQ:=(List.getElem?_eq_some_iff.1 ho).1
     refine⟨aq,⟨o',by rw[List.getElem?_set_self bQ],by rw[a1]; exact Nat.le_of_eq (Nat.eq_of_beq_eq_true hc.1.1),fun _=>by rw[a2,bZ]⟩,by rw[fM]⟩
    ·simp only
     rw[if_neg (by rw[hc.1.2]; simp only[Bool.false_eq_true,false_or,not_or]; exact⟨by omega,by rw[gE]; simp[hc.2]⟩),if_pos (by simp only[Option.getD_some]; omega),if_pos (by omega)]
     exact aE.pure _
  ·simp[Tr.run]at h
 ·simp[Tr.run]at h
def yf(q:bG)(d:AV)(ys:List AV)(yc:Bool):RM dm:=
 match decide (0<q.size)&&ys.all (aG q.isAgg q.size) with
  |false=>RM.fail
  |true=>
   match d with
   |.bq esz n aq off len _=>(match (ys.take len).isEmpty with
    |true=>pure ⟨.lit (.int .i64 0),[]⟩
    |false=>do
     let (g,c,f,es) ←RM.arr n aq
     if esz=q.size∧f=false∧off+len≤es.length∧0<aq then
      pure ⟨.lit (.int .i64 (ys.take len).length),[(n,.arr g (c&&yc) f (bw es off (ys.take len)))]⟩
     else RM.fail)
   |.lit (.slice none 0 0)=>pure ⟨.lit (.int .i64 0),[]⟩
   |_=>RM.fail
theorem K2{P:Program}{t:TypeId}{q:bG}(h:aO P t=some q)(a b:AV):wP P t a b=(fN b >>= fun p=>yf q a p.1 p.2):=by
 unfold wP
 rw[h]
 rfl
theorem K3[ab](hT:T.Ok)(hQ:Q.Ok)(hh:RH T H hp){t:TypeId}{d x:SV T.den}{a b:AV}(hd:RV T H d a)(hx:RV T H x b)
  (h:(KI Q H t d x K).run=some r):jm T H hp (wP Q.P t a b) K r:=by
 unfold KI at h
 split at h
 case h_2=>simp[Tr.run]at h
 rename_i m hm hs
 have hs:=hQ.NL hs
 obtain⟨q,gN,dX,gE,Gw,II⟩:=hQ.elem hm
 obtain⟨y,rd,ys,yc,yb,v9,h⟩:=GR hQ hh (q:=q) hx h
 have yb:aE hp (fN b) (ys,yc) rd:=by
  simp_all[wi]
 split at h
 case h_2=>simp[Tr.run]at h
 rename_i esz n c rg cap bL _
 simp only[Bool.and_eq_true,decide_eq_true_eq]at bL
 split at h
 case h_2=>simp[Tr.run]at h
 rename_i off len o hr ho
 split at h
 case h_2=>simp[Tr.run]at h
 rename_i o' hc Dm
 simp only[Bool.and_eq_true,Bool.not_eq_true',decide_eq_true_eq]at hc
 have ha:=hd.live rfl
 obtain⟨aq,rfl,hv,bZ⟩:=qG hh ha hr ho
 have bZ:=bZ hc.1.1
 obtain⟨ao,c8,dC⟩:=hh.obj ho
 have fM:=v9.len
 have bg:=v9.xO hT dX gE bL.1
 have lr:(decide (0<q.size)&&ys.all (aG q.isAgg q.size))=true:=by
  rw[bg,gE]; simpa using bL.2
 have abs:∀ {rest:RM dm} {e:dm} {rd2:List Nat},(∀ n,n∈rd→n∈rd2)→aE hp rest e rd2 →
   yf q (.bq esz n aq off len cap) ys yc=rest→aE hp (wP Q.P t (.bq esz n aq off len cap) b) e rd2:=by
  intro rest e rd2 h1 h2 h3
  rw[K2 gN]
  refine⟨?_,fun k hk=>?_⟩
  ·rw[RM.run_bind,yb.1]
   simp only[Option.bind_some]
   rw[h3]
   exact h2.1
  ·rw[RM.eu,yb.1]at hk
   simp only[List.mem_append]at hk
   rw[h3]at hk
   exact hk.elim (fun h=>h1 k (yb.2 k h)) (h2.2 k)
 unfold yf at abs
 rw[lr]at abs
 obtain⟨hg,h⟩:=aY h
 simp only[Bool.and_eq_true,decide_eq_true_eq]at hg
 cases he:ys.isEmpty with
 |true=>
  have SW:ys=[]:=by simpa using he
  subst SW
  obtain⟨hj,a1,a2,es,e0,a3⟩:=uY hT dC v9 (by omega) Dm
  obtain⟨es',e1,wo⟩:=dC.Dj hj
  rw[e1]at e0
  simp only[aM.arr.injEq,true_and]at e0
  subst e0
  subst e1
  obtain rfl:=Ab v9 Dm
  simp only[Bool.and_true,bw]at a3
  have Up:y.len=0:=by rw[fM]; rfl
  rw[Up]at h
  exact ye hh ho (by omega) (fun _=>a2) c8 a3 (bm (.int .i64 0)) (abs (fun _ h=>List.mem_cons_of_mem _ h) (aE.mono (aE.pure _) (fun _ h=>by simp at h)) (by simp only[List.take_nil,List.isEmpty_nil])) h hj
 |false=>
  have Pu:0<ys.length:=by cases ys with
   |nil=>simp at he
   |cons=>simp
  have VU:ys.take len=ys:=List.take_of_length_le (by omega)
  obtain⟨hj,a1,a2,es,e0,a3⟩:=uY hT dC v9 (by omega) Dm
  obtain⟨es',e1,wo⟩:=dC.Dj hj
  rw[e1]at e0
  simp only[aM.arr.injEq,true_and]at e0
  subst e0
  subst e1
  have heq:∀ (f t:RM dm),(match (ys.take len).isEmpty with|true=>t|false=>f)=f:=by
   intro f t
   rw[VU,he]
  refine jN hh ho (o':=o') (by omega) (fun _=>a2) a3 (v:=.lit (.int .i64 y.len)) (a:=.lit (.int .i64 y.len)) (bm _)
   (abs (fun _ h=>List.mem_cons_of_mem _ h) (rd2:=n::rd) (aE.mono (aE.bind (aE.arr c8 (by omega)) (rd':=[]) (b:=(⟨.lit (.int .i64 y.len),[(n,.arr o.flags.1 (o.flags.2.1&&yc) o.flags.2.2 (bw es' off ys))]⟩:dm)) ?_) (fun k hk=>by simp at hk; simp[hk])) (heq _ _)) h (nI hj)
  simp only
  rw[if_pos ⟨by rw[gE]; exact hc.2,hc.1.2,by omega,by omega⟩,fM,VU]
  exact aE.pure _
theorem NS[ab](hQ:Q.Ok)(hh:RH T H hp){ts:Array TypeId}{type:TypeId}{x:SV T.den}{a:AV}(hx:RV T H x a)(h:(P9 Q H ts type x K).run=some r){nm:Nat}:
  jm T H hp (di Q.P nm .len ts type [a]) K r:=by
 unfold P9 at h
 unfold di
 simp only
 split at h
 case h_2=>simp[Tr.run]at h
 rename_i t ht
 rw[ht]
 simp only
 split at h
 ·rename_i hs
  have hs:=hQ.NL hs
  split at h
  ·have ha:=hx.lit rfl
   subst ha
   refine ar hh (bm (.int .i64 0)) (rd:=[]) ?_ h
   simp only[hs,nN]
   exact aE.pure _
  ·have ha:=hx.live rfl
   simp only[R]at ha
   subst ha
   refine ar hh (bm (.int .i64 0)) (rd:=[]) ?_ h
   simp only[hs,nN]
   exact aE.pure _
  ·have ha:=hx.live rfl
   simp only[R]at ha
   obtain⟨l',rfl,hl,_⟩:=ha
   refine ar hh (a:=.lit (.int .i64 l'.length)) (by rw[hl.length]; exact bm _) (rd:=[]) ?_ h
   simp only[hs,nN]
   exact aE.pure _
  ·rename_i t' l
   have ha:=hx.live rfl
   simp only[R]at ha
   rcases ha with ⟨l',rfl,hl⟩|⟨rfl,rfl⟩
   ·refine ar hh (a:=.lit (.int .i64 l'.length)) (by rw[hl.length]; exact bm _) (rd:=[]) ?_ h
    simp only[hs,nN]
    exact aE.pure _
   ·refine ar hh (bm (.int .i64 0)) (rd:=[]) ?_ h
    simp only[hs,nN]
    exact aE.pure _
  ·rename_i t' l c b
   have ha:=hx.live rfl
   simp only[R]at ha
   rcases ha with ⟨_,l',rfl,hl⟩|⟨_,rfl,rfl|rfl⟩
   ·refine ar hh (a:=.lit (.int .i64 l'.length)) (by rw[hl.length]; exact bm _) (rd:=[]) ?_ h
    simp only[hs,nN]
    exact aE.pure _
   ·refine ar hh (bm (.int .i64 0)) (rd:=[]) ?_ h
    simp only[hs,nN]
    exact aE.pure _
   ·refine ar hh (bm (.int .i64 0)) (rd:=[]) ?_ h
    simp only[hs,nN]
    exact aE.pure _
  ·rename_i esz n c rg cap
   have ha:=hx.live rfl
   split at h
   case h_2=>simp[Tr.run]at h
   rename_i off len hr
   have:∃ o,H[n]?=some (some o):=by
    simp only[R]at ha
    obtain⟨_,⟨o,ho,_⟩,_⟩:=ha
    exact⟨o,ho⟩
   obtain⟨o,ho⟩:=this
   obtain⟨aq,rfl,_,_⟩:=qG hh ha hr ho
   refine ar hh (bm (.int .i64 len)) (rd:=[]) ?_ h
   simp only[hs,nN]
   exact aE.pure _
  ·rename_i n c k j len cap
   have ha:=hx.live rfl
   simp only[R]at ha
   obtain⟨aq,rfl,_⟩:=ha
   refine ar hh (bm (.int .i64 len)) (rd:=[]) ?_ h
   simp only[hs,nN]
   exact aE.pure _
  ·simp[Tr.run]at h
 ·simp[Tr.run]at h
 ·rename_i hs
  have hs:=hQ.NL hs
  split at h
  ·simp[Tr.run]at h
  ·rename_i v hv
   have ha:=hx.lit rfl
   subst ha
   obtain⟨w,hw,hk⟩:=hG h
   refine ar hh (bm w) (rd:=[]) ?_ hk
   split
   ·rename_i heq; injection heq with e; exact(hv e).elim
   ·rename_i heq; cases heq
   ·rename_i heq; cases heq
   ·rename_i heq; cases heq
   ·rename_i heq; cases heq
   ·rename_i heq; cases heq
   ·rename_i heq; injection heq with e; subst e; rw[hw]; exact aE.pure _
   ·rename_i h; exact(h v rfl).elim
  ·rename_i l
   have ha:=hx.live rfl
   simp only[R]at ha
   obtain⟨l',rfl,hl⟩:=ha
   split at h
   case h_2=>simp[Tr.run]at h
   rename_i n m hm
   obtain⟨q,gN,_⟩:=hQ.Dk hm
   refine ar hh (bm (.int .i64 n)) (rd:=[]) ?_ h
   simp only[gN]
   exact aE.pure _
  ·have ha:=hx.live rfl
   simp only[R]at ha
   obtain⟨aq,rfl,hl⟩:=ha
   split at h
   case h_2=>simp[Tr.run]at h
   rename_i n m hm
   obtain⟨q,gN,_⟩:=hQ.Dk hm
   refine ar hh (bm (.int .i64 n)) (rd:=[]) ?_ h
   simp only[gN]
   exact aE.pure _
  ·have ha:=hx.live rfl
   simp only[R]at ha
   obtain⟨aq,rfl,hl⟩:=ha
   split at h
   case h_2=>simp[Tr.run]at h
   rename_i n m hm
   obtain⟨q,gN,_⟩:=hQ.Dk hm
   refine ar hh (bm (.int .i64 n)) (rd:=[]) ?_ h
   simp only[gN]
   exact aE.pure _
  ·simp[Tr.run]at h
theorem GS[ab]{l:List (SV T.den)}{m:List AV}(hv:aw (RV T H) l m){c:List Value}(hc:mu l=some c):cU m=some c:=by
 revert c
 induction l generalizing m with
 |nil=>
  intro c hc
  cases m with
  |nil=>simp[mu]at hc; subst hc; rfl
  |cons=>exact hv.elim
 |cons x xs ih=>
  intro c hc
  cases m with
  |nil=>exact hv.elim
  |cons a as=>
   cases x with
   |lit v=>
    simp only[mu,Option.map_eq_some_iff]at hc
    obtain⟨c',h1,rfl⟩:=hc
    have:=RV.lit hv.1 rfl
    subst this
    simp[cU,ih hv.2 h1]
   |_=>simp[mu]at hc
theorem Dn[ab](hT:T.Ok)(hQ:Q.Ok)(hh:RH T H hp){nm:Nat}(hn:nm=H.length∨H[nm]?=some none){b:Builtin}{ts:Array TypeId}{type:TypeId}{args:List (SV T.den)}{as:List AV}
  (ha:aw (RV T H) args as) (h:(xQ Q nm H b ts type args K).run=some r):jm T H hp (di Q.P nm b ts type as) K r:=by
 unfold xQ at h
 split at h
 ·split at h
  ·rename_i t xt s x ht
   match as,ha with
   |[a,b],ha=>
    simp only[di,ht]
    exact Fz hT hQ hh hn ha.1 ha.2.1 h
  ·simp[Tr.run]at h
 ·split at h
  ·rename_i t _ d x ht
   match as,ha with
   |[a,b],ha=>
    simp only[di,ht]
    exact K3 hT hQ hh ha.1 ha.2.1 h
  ·simp[Tr.run]at h
 ·split at h
  ·rename_i x
   match as,ha with
   |[a],ha=>exact NS hQ hh ha.1 h
  ·simp[Tr.run]at h
 ·split at h
  ·rename_i vs lY
   obtain⟨w,hw,hk⟩:=hG h
   refine ar hh (bm w) (rd:=[]) ?_ hk
   simp only[di,GS ha lY,hw]
   exact aE.pure _
  ·simp[Tr.run]at h
 ·split at h
  ·rename_i vs lY
   obtain⟨w,hw,hk⟩:=hG h
   refine ar hh (bm w) (rd:=[]) ?_ hk
   simp only[di,GS ha lY,hw]
   exact aE.pure _
  ·simp[Tr.run]at h
 ·simp[Tr.run]at h
end
end Go.PI
end
section
/- PS, part Ia: maps. -/
namespace Go.PI
variable {T:dw}{ρ:Type}
theorem Bo(kk:KK)(a b:kk.D):qW (kk.v a) (kk.v b)=kk.beq a b:=by cases kk<;>rfl
theorem K4{kk:KK}{v:Value}{k:kk.D}(h:kk.get v=some k):v=kk.v k∧kk.ok v=true:=by
 cases kk with
 |int q=>
  cases v<;>simp[KK.get]at h
  obtain⟨rfl,h⟩:=h
  cases h
  exact⟨rfl,by simp[KK.ok]⟩
 |str=>
  cases v<;>simp[KK.get]at h
  cases h
  exact⟨rfl,rfl⟩
 |bool=>
  cases v<;>simp[KK.get]at h
  cases h
  exact⟨rfl,rfl⟩
theorem uZ{kk:KK}{α:Type}{k:kk.D}:∀ {m:List (kk.D×α)} {i:Nat},kB kk m k=none→jw (kk.v k) (m.map fun q=>kk.v q.1) i=none
 |[],i,_=>rfl
 |(k',v)::m,i,h=>by
  simp only[kB]at h
  cases hb:kk.beq k k' with
  |true=>rw[hb]at h; simp at h
  |false=>
   rw[hb]at h
   simp only[List.map_cons,jw,Bo,hb,cond_false]
   exact uZ h
theorem u0{kk:KK}{α:Type}{k:kk.D}{x:α}:∀ {m:List (kk.D×α)} {i:Nat},kB kk m k=some x→∃ j,jw (kk.v k) (m.map fun q=>kk.v q.1) i=some (i+j)∧(m.map (·.2))[j]?=some x ∧
  ∀ y,(mM kk m k y).map (fun q=>kk.v q.1)=m.map (fun q=>kk.v q.1)∧(mM kk m k y).map (·.2)=(m.map (·.2)).set j y
 |[],i,h=>by simp[kB]at h
 |(k',v)::m,i,h=>by
  simp only[kB]at h
  cases hb:kk.beq k k' with
  |true=>
   simp_all[cond_true,jw,Bo,hb,mM]
  |false=>
   rw[hb]at h
   obtain⟨j,h1,h2,h3⟩:=u0 (i:=i+1) h
   refine⟨j+1,?_,by simpa using h2,fun y=>?_⟩
   ·simp only[List.map_cons,jw,Bo,hb,cond_false,h1]
    congr 1; omega
   ·obtain⟨h4,h5⟩:=h3 y
    simp[mM,hb,h4,h5]
theorem Dp{kk:KK}{α:Type}{k:kk.D}{y:α}:∀ {m:List (kk.D×α)},kB kk m k=none→mM kk m k y=m++[(k,y)]
 |[],_=>rfl
 |(k',v)::m,h=>by
  simp only[kB]at h
  cases hb:kk.beq k k' with
  |true=>rw[hb]at h; simp at h
  |false=>
   rw[hb]at h
   simp only[mM,hb,cond_false,List.cons_append]
   rw[Dp h]
section
variable {H:ah T.den}{hp:ag}{K:EK T ρ}{r:ρ}{Q:gM}
theorem Bp{c:Bool}{v:SV T.den}{a:AV}{b:Bool}(h:R T H v a):R T H (Be c v b) (wR c a b):=by
 cases c with
 |false=>exact h
 |true=>
  simp only[Be,wR,R]
  exact⟨_,rfl,h,rfl,trivial⟩
theorem FA[ab](hT:T.Ok)(hQ:Q.Ok)(hZ:T.tJ Q)(hh:RH T H hp){t:TypeId}{x ix:SV T.den}{a b:AV}(hx:RV T H x a)(hi:RV T H ix b){c:Bool}(h:(Bf Q H t x ix c K).run=some r):
  jm T H hp (sI Q.P t a b c) K r:=by
 unfold Bf at h
 split at h
 case h_2=>simp[Tr.run]at h
 rename_i kk et wD
 have Jx:=hQ.map _ _ wD
 split at h
 case h_2=>simp[Tr.run]at h
 rename_i za z k Qq hz
 obtain⟨m,hm,YH⟩:=Option.bind_eq_some_iff.1 Qq
 obtain⟨q,gN,_,_,_,II⟩:=hQ.row _ _ hm
 have nR:=II _ YH
 have Ee:=hZ et m z za hm YH hz
 have hi:=hi.lit rfl
 subst hi
 have Qp:(fb Q.P et).bind cj=some za:=by rw[gN]; exact nR
 unfold sI
 simp only[Jx,Qp]
 split at h
 ·rename_i k' hk
  obtain⟨rfl,bL⟩:=K4 hk
  have hx:=hx.lit rfl
  subst hx
  simp only[bL]
  exact ar hh (.inr (Bp (hT.up _ _ _ H Ee))) (aE.pure _) h
 ·rename_i k' n hk
  obtain⟨rfl,bL⟩:=K4 hk
  have hx:=hx.live rfl
  simp only[R]at hx
  obtain⟨rfl,_⟩:=hx
  split at h
  case h_2=>simp[Tr.run]at h
  rename_i qM t' mp ho
  split at h
  case isFalse=>simp[Tr.run]at h
  rename_i hc
  obtain⟨rfl,rfl⟩:=hc
  simp only[tC]at h
  obtain⟨ao,c8,dC⟩:=hh.obj ho
  obtain⟨vs,rfl,lY⟩:=dC
  simp only[bL]
  cases hg:kB qM mp k' with
  |none=>
   rw[hg]at h
   simp only[Option.getD_none,Option.isSome_none]at h
   refine ar hh (.inr (Bp (hT.up _ _ _ H Ee))) (rd:=[n]) (aE.get c8 ?_) h
   simp only[if_true,uZ hg]
   exact aE.pure _
  |some y=>
   rw[hg]at h
   simp only[Option.getD_some,Option.isSome_some]at h
   obtain⟨j,h1,h2,_⟩:=u0 (i:=0) hg
   obtain⟨v,hv,hr⟩:=aw.get lY h2
   refine ar hh (.inr (Bp (hT.up _ _ _ H hr))) (rd:=[n]) (aE.get c8 ?_) h
   simp only[if_true,h1,Nat.zero_add,hv]
   exact aE.pure _
 ·simp[Tr.run]at h
theorem y8[ab](hT:T.Ok)(hQ:Q.Ok)(hh:RH T H hp){t:TypeId}{x ix v:SV T.den}{a b d:AV}(hx:RV T H x a)(hi:RV T H ix b)(hv:RV T H v d)(h:(sa Q H t x ix v K).run=some r):
  jm T H hp (lf Q.P t a b d) K r:=by
 unfold sa at h
 split at h
 case h_2=>simp[Tr.run]at h
 rename_i kk et wD
 have Jx:=hQ.map _ _ wD
 split at h
 case h_2=>simp[Tr.run]at h
 rename_i k n
 split at h
 case h_2=>simp[Tr.run]at h
 rename_i k' qM t' mp hk ho
 split at h
 case h_2=>simp[Tr.run]at h
 rename_i y hd hy
 split at h
 case isFalse=>simp[Tr.run]at h
 rename_i hc
 obtain⟨rfl,Oq⟩:=hc
 obtain⟨rfl,bL⟩:=K4 hk
 have hi:=hi.lit rfl
 subst hi
 have hx:=hx.live rfl
 simp only[R]at hx
 obtain⟨rfl,_⟩:=hx
 have Ee:=hT.dn _ _ _ _ H hy (hv.live hd)
 obtain⟨ao,c8,dC⟩:=hh.obj ho
 obtain⟨vs,rfl,lY⟩:=dC
 unfold lf
 simp only[Jx,bL]
 simp only[tC]at h
 cases hg:kB qM mp k' with
 |none=>
  have e:=Dp (y:=y) hg
  refine jN hh ho (o':=.ke qM t' (mM qM mp k' y)) (Nat.le_refl _) (fun _=>rfl) (a':=.gh (.map qM ((mp.map fun q=>qM.v q.1)++[qM.v k'])) (vs++[d])) ?_ (bm undef) (rd:=[n]) (aE.get c8 ?_) h
  ·rw[e]
   refine⟨vs++[d],by simp,?_⟩
   rw[List.map_append]
   exact lY.append (show aw (T.rp t') [y] [d] from ⟨Ee,trivial⟩)
  ·simp only[if_true,uZ hg]
   exact aE.pure _
 |some x0=>
  obtain⟨j,h1,h2,h3⟩:=u0 (i:=0) hg
  obtain⟨h4,h5⟩:=h3 y
  refine jN hh ho (o':=.ke qM t' (mM qM mp k' y)) (Nat.le_refl _) (fun _=>rfl) (a':=.gh (.map qM (mp.map fun q=>qM.v q.1)) (vs.set j d)) ?_ (bm undef) (rd:=[n]) (aE.get c8 ?_) h
  ·exact⟨_,by rw[h4],by rw[h5]; exact lY.set j Ee⟩
  ·simp only[if_true,h1,Nat.zero_add]
   exact aE.pure _
theorem Dq[ab](hQ:Q.Ok)(hh:RH T H hp){nm:Nat}(hn:nm=H.length∨H[nm]?=some none){t:TypeId}{x:Option (SV T.den)}{a:Option AV}(hx:KZ T H x a)(h:(xR Q nm t x K).run=some r):
  jm T H hp (.gQ (o9 Q.P nm t a)) K r:=by
 unfold xR at h
 split at h
 case h_2=>simp[Tr.run]at h
 rename_i kk et wD
 have Jx:=hQ.map _ _ wD
 obtain⟨n,Ul,h⟩:=hJ hx h
 refine eH hh hn (o:=.ke kk et []) (a':=.gh (.map kk []) []) ⟨[],rfl,trivial⟩ (a:=.mp false nm) (rd:=[]) (.inr ?_) ?_ h
 ·simp only[R]
  refine⟨trivial,.ke kk et [],?_⟩
  unfold bJ
  rcases hn with rfl|hn
  ·simp
  ·have bQ:=(List.getElem?_eq_some_iff.1 hn).1
   rw[if_neg (by omega),List.getElem?_set_self bQ]
 ·simp only[o9,Jx,Ul]
  exact aE.gQ rfl
end
end Go.PI
end
section
/- PS, part J: every operation. -/
namespace Go.PI
variable {T:dw}{ρ:Type}
section
variable {H:ah T.den}{hp:ag}{K:EK T ρ}{r:ρ}{Q:gM}
theorem jn{ev:Operand→SV T.den}{Ef:Operand→AV}(bE:∀ x,RV T H (ev x) (Ef x)):∀ (l:List Operand),aw (RV T H) (l.map ev) (l.map Ef)
 |[]=>trivial
 |x::xs=>⟨bE x,jn bE xs⟩
theorem iJ[ab]:∀ {l:List (SV T.den)} {m:List AV},aw (RV T H) l m→l.any bO=false→RL T H l m
 |[],[],_,_=>by simp[RL]
 |x::xs,y::ys,h,hd=>by
  simp only[List.any_cons,Bool.or_eq_false_iff]at hd
  simp only[RL]
  exact⟨h.1.live hd.1,iJ h.2 hd.2⟩
theorem yg[ab]{ev:Operand→SV T.den}{Ef:Operand→AV}(bE:∀ x,RV T H (ev x) (Ef x)):∀ (l:List (Nat×Operand)),((l.map fun p=>(p.1,ev p.2)).any fun p=>bO p.2)=false →
  RP T H (l.map fun p=>(p.1,ev p.2)) (l.map fun p=>(p.1,Ef p.2))
 |[],_=>trivial
 |x::xs,hd=>by
  simp only[List.map_cons,List.any_cons,Bool.or_eq_false_iff]at hd
  exact⟨⟨rfl,(bE _).live hd.1⟩,yg bE xs hd.2⟩
theorem FB[ab](hT:T.Ok)(hQ:Q.Ok)(hZ:T.tJ Q)(hh:RH T H hp){nm:Nat}(hn:nm=H.length∨H[nm]?=some none){ev:Operand→SV T.den}{Ef:Operand→AV}(bE:∀ x,RV T H (ev x) (Ef x)){o:Oper}
  (h:(NB Q nm H ev o K).run=some r):jm T H hp (aK Q.P nm Ef o) K r:=by
 obtain⟨dst,op,type,pos,after,guard⟩:=o
 unfold NB at h
 cases op with
 |move x=>exact ar hh (bE x) (aE.ret _) h
 |assign x=>exact ar hh (bE x) (aE.ret _) h
 |pick c a b=>
  simp only at h
  split at h
  ·rename_i t ht
   have hc:=(bE c).lit ht
   obtain⟨v,hv,hk⟩:=NP (bE a) (bE b) h
   refine ar hh hv (rd:=[]) ?_ hk
   simp only[aK,hc]
   exact aE.pure _
  ·simp[Tr.run]at h
 |alloc t=>
  simp only at h
  split at h
  case h_2=>simp[Tr.run]at h
  rename_i m hm
  split at h
  case h_2=>simp[Tr.run]at h
  rename_i z hz
  split at h
  case isFalse=>simp[Tr.run]at h
  rename_i hs
  exact H5 hQ hh hn hm hz hs h
 |box t x=>
  simp only at h
  split at h
  case isFalse=>simp[Tr.run]at h
  rename_i hc
  have hv:=(bE x).live hc.2.2
  have mg:=hv.cells
  refine eH hh hn (o:=.arr false (av (bI (ev x))) false 0 [ev x]) (a':=.arr false (aZ (cellsOf (Ef x))) false [Ef x]) ⟨_,by rw[RL.closed mg],by simp only[RL]; exact⟨hv,trivial⟩,fun mW=>by rw[yY]at mW; simp only[av,mW,Bool.and_self]⟩
   (a:=.ref nm 1 0 0) (rd:=[]) ?_ ?_ h
  ·right
   simp only[R]
   exact⟨1,rfl,eJ hh hn (o:=.arr false (av (bI (ev x))) false 0 [ev x])⟩
  ·simp only[aK]
   rw[if_pos ⟨by rw[←mg.C9]; exact hc.1,by rw[←mg.length]; exact hc.2.1⟩]
   exact aE.pure _
 |build t parts=>
  simp only at h
  split at h
  ·simp[Tr.run]at h
  rename_i hd
  simp only[Bool.not_eq_true]at hd
  obtain⟨v,hv,hk⟩:=lU h
  obtain⟨a,ha,hr⟩:=H4 hQ (yg bE _ hd) hv
  refine ar hh (.inr hr) (rd:=[]) ?_ hk
  simp only[aK,ha]
  exact aE.pure _
 |buildSlice t len parts=>
  simp only at h
  split at h
  ·simp[Tr.run]at h
  rename_i hd
  simp only[Bool.not_eq_true]at hd
  exact x9 hQ hh hn (yg bE _ hd) h
 |load t a=>
  simp only at h
  split at h
  case h_2=>simp[Tr.run]at h
  rename_i m hm
  obtain⟨q,h1,h2,h3,_⟩:=hQ.row _ _ hm
  have:∃ v c rd,aE hp (kE Q.P t (Ef a)) c rd∧R T H v c∧(K v [] rd).run=some r:=Di hT h1 h2 h3 hh (bE a) h
  obtain⟨v,c,rd,hy,hr,hk⟩:=this
  refine ar hh (.inr hr) (rd:=rd) ?_ hk
  simp only[aK]
  exact aE.mono (aE.bind hy (aE.pure _)) (fun _ h=>by simpa using h)
 |store t a x=>
  simp only at h
  split at h
  case h_2=>simp[Tr.run]at h
  rename_i m hm
  obtain⟨q,h1,h2,h3,_⟩:=hQ.row _ _ hm
  exact H2 hT h1 h3 hh (bE a) (bE x) h
 |nilCheck x=>
  simp only at h
  have hx:=bE x
  split at h
  ·rename_i n c i j he
   rw[he]at hx
   have gi:=hx.live rfl
   simp only[R]at gi
   obtain⟨aq,e,hv⟩:=gi
   refine ar hh (a:=.ref n aq i j) (.inr (by simp only[R]; exact⟨aq,rfl,hv⟩)) (rd:=[]) ?_ h
   simp only[aK,e]; exact aE.pure _
  ·rename_i e0 j he
   rw[he]at hx
   have gi:=hx.live rfl
   have kA:=gi
   simp only[R]at gi
   obtain⟨e',e,hv⟩:=gi
   refine ar hh (a:=.bf e' j) (.inr (by rw[←e]; exact kA)) (rd:=[]) ?_ h
   simp only[aK,e]; exact aE.pure _
  ·rename_i t y he
   rw[he]at hx
   have gi:=hx.live rfl
   have kA:=gi
   simp only[R]at gi
   obtain⟨e',e,hv⟩:=gi
   refine ar hh (a:=.gg t e') (.inr (by rw[←e]; exact kA)) (rd:=[]) ?_ h
   simp only[aK,e]; exact aE.pure _
  ·rename_i f a c he
   rw[he]at hx
   have gi:=hx.live rfl
   have kA:=gi
   simp only[R]at gi
   obtain⟨f',c',e,hv⟩:=gi
   refine ar hh (a:=.iT (.func f) f' c') (.inr (by rw[←e]; exact kA)) (rd:=[]) ?_ h
   simp only[aK,e]; exact aE.pure _
  ·rename_i f a c he
   have e:=hx.lit he
   refine ar hh (bm (.func (.func f) a c)) (rd:=[]) ?_ h
   simp only[aK,e]; exact aE.pure _
  ·simp[Tr.run]at h
 |binOp op t x y u=>
  simp only at h
  obtain⟨v,hv,hk⟩:=NO hQ (bE x) (bE y) h
  refine ar hh (bm v) (rd:=[]) ?_ hk
  simp only[aK,hv]
  exact aE.pure _
 |unOp op t x=>
  simp only at h
  split at h
  ·rename_i a ha
   have hx:=(bE x).lit ha
   obtain⟨v,hv,hk⟩:=hG h
   refine ar hh (bm v) (rd:=[]) ?_ hk
   simp only[aK,hx,hv]
   exact aE.pure _
  ·simp[Tr.run]at h
 |convert s d x=>
  simp only at h
  split at h
  ·rename_i a ha
   have hx:=(bE x).lit ha
   obtain⟨v,hv,hk⟩:=hG h
   refine ar hh (bm v) (rd:=[]) ?_ hk
   simp only[aK,hx,hv]
   exact aE.pure _
  ·simp[Tr.run]at h
 |makeInterface t x=>
  simp only at h
  split at h
  ·simp[Tr.run]at h
  rename_i hc
  simp only[Bool.or_eq_true,not_or,Bool.not_eq_true]at hc
  have hx:=(bE x).live hc.2
  refine ar hh (a:=.gg t (Ef x)) (.inr (by simp only[R]; exact⟨_,rfl,hx⟩)) (rd:=[]) ?_ h
  simp only[aK]
  rw[if_neg (by simp[hc.1.1,hc.1.2])]
  exact aE.pure _
 |makeFunc fn first captured=>
  simp only at h
  split at h
  ·rename_i hc
   refine ar hh (bm (.func fn #[] #[])) (rd:=[]) ?_ h
   simp only[aK,hc,if_true]
   exact aE.pure _
  ·rename_i hc
   split at h
   ·simp[Tr.run]at h
   rename_i hd
   simp only[Bool.or_eq_true,not_or,Bool.not_eq_true]at hd
   have h1:=iJ (jn bE first.toList) hd.1
   have h2:=iJ (jn bE captured.toList) hd.2
   refine ar hh (a:=.iT fn (first.toList.map Ef) (captured.toList.map Ef)) (.inr (by simp only[R]; exact⟨_,_,rfl,h1,h2⟩)) (rd:=[]) ?_ h
   simp only[aK]
   rw[if_neg hc]
   exact aE.pure _
 |makeSlice t l c=>
  simp only at h
  split at h
  ·rename_i hs
   have e:l=c:=by
    unfold KG at hs
    split at hs
    ·rw[Nat.eq_of_beq_eq_true hs]
    ·simp at hs
   subst e
   exact y5 hQ hZ hh hn (bE l) h
  ·exact y4 hQ hZ hh hn (bE l) (bE c) h
 |slice t x lo hi mx=>
  simp only at h
  have ho:∀ o:Option Operand,KZ T H (o.map ev) (o.map Ef):=by
   intro o
   cases o with
   |none=>trivial
   |some o=>exact bE o
  obtain⟨v,b,hb,hv,hk⟩:=NQ hT hQ hh (bE x) (ho lo) (ho hi) (ho mx) h
  refine ar hh hv (rd:=[]) ?_ hk
  simp only[aK,hb]
  exact aE.pure _
 |sliceToArrayPointer t x=>
  simp only at h
  have hx:=bE x
  unfold KH at h
  split at h
  case h_2=>simp[Tr.run]at h
  rename_i len m n c i j l cp hf he
  obtain⟨q,gN,dX,gE⟩:=hQ.Dk hf
  split at h
  case h_2=>simp[Tr.run]at h
  rename_i hle
  simp only[decide_eq_true_eq]at hle
  rw[he]at hx
  have gi:=hx.live rfl
  simp only[R]at gi
  obtain⟨aq,e,hv⟩:=gi
  refine ar hh (a:=.ref n aq i j) (.inr (by simp only[R]; exact⟨aq,rfl,hv⟩)) (rd:=[]) ?_ h
  simp only[aK,e,gN]
  rw[if_pos hle]
  exact aE.pure _
 |fieldAddr s x f=>
  simp only at h
  have hx:=bE x
  split at h
  ·rename_i off m n c i j hf he
   obtain⟨q,hq,_⟩:=hQ.NK hf
   rw[he]at hx
   have gi:=hx.live rfl
   simp only[R]at gi
   obtain⟨aq,e,hv⟩:=gi
   refine ar hh (a:=.ref n aq i (j+off)) (.inr (by simp only[R]; exact⟨aq,rfl,hv⟩)) (rd:=[]) ?_ h
   simp only[aK,e,hq]; exact aE.pure _
  ·rename_i off m e0 j hf he
   obtain⟨q,hq,_⟩:=hQ.NK hf
   rw[he]at hx
   have gi:=hx.live rfl
   simp only[R]at gi
   obtain⟨e',e,hv⟩:=gi
   refine ar hh (a:=.bf e' (j+off)) (.inr (by simp only[R]; exact⟨e',rfl,hv.1,hv.2⟩)) (rd:=[]) ?_ h
   simp only[aK,e,hq]; exact aE.pure _
  ·rename_i off m v aW len i hf he
   obtain⟨q,hq,_⟩:=hQ.NK hf
   rw[he]at hx
   have gi:=hx.live rfl
   simp only[R]at gi
   obtain⟨a0,h1,h2,h3⟩:=gi
   rcases h3 with ⟨n,aq,k,j,rfl,e⟩|⟨e',j,rfl,e⟩
   ·refine ar hh (a:=.ref n aq k (j+i*aW+off)) (.inr (by simp only[R]; exact⟨.ref n aq k (j+off),qF h1 (.inl ⟨_,_,_,_,rfl,rfl⟩),h2,.inl ⟨_,_,_,_,rfl,by rw[Nat.add_right_comm]⟩⟩)) (rd:=[]) ?_ h
    simp only[aK,e,hq]; exact aE.pure _
   ·refine ar hh (a:=.bf e' (j+i*aW+off)) (.inr (by simp only[R]; exact⟨.bf e' (j+off),qF h1 (.inr ⟨_,_,rfl,rfl⟩),h2,.inr ⟨_,_,rfl,by rw[Nat.add_right_comm]⟩⟩)) (rd:=[]) ?_ h
    simp only[aK,e,hq]; exact aE.pure _
  ·simp[Tr.run]at h
 |field s x f=>
  simp only at h
  have hx:=bE x
  split at h
  ·rename_i off m l hf he
   obtain⟨q,hq,dX,gE⟩:=hQ.NK hf
   rw[he]at hx
   have gi:=hx.live rfl
   obtain⟨v,hv,hk⟩:=lU h
   rw[←dX,←gE]at hv
   obtain⟨c,hc,hr⟩:=R.part gi hv
   simp only[R]at gi
   obtain⟨l',e,_⟩:=gi
   refine ar hh (.inr hr) (rd:=[]) ?_ hk
   rw[e]at hc
   simp only[aK,e,hq,hc]; exact aE.pure _
  ·simp[Tr.run]at h
 |indexAddr t x ix=>
  simp only at h
  obtain⟨v,b,hb,hv,hk⟩:=y6 hT hQ hh (bE x) (bE ix) h
  refine ar hh hv (rd:=[]) ?_ hk
  simp only[aK,hb]
  exact aE.pure _
 |index t x ix=>
  simp only at h
  obtain⟨v,b,hb,hv,hk⟩:=H6 hQ (bE x) (bE ix) h
  refine ar hh hv (rd:=[]) ?_ hk
  simp only[aK,hb]
  exact aE.pure _
 |makeMap t x=>
  simp only at h
  have ho:KZ T H (x.map ev) (x.map Ef):=by
   cases x with
   |none=>trivial
   |some o=>exact bE o
  have:=Dq (T:=T) hQ hh hn ho h
  exact this
 |lookup t x ix c=>
  simp only at h
  exact FA hT hQ hZ hh (bE x) (bE ix) h
 |mapUpdate t x k v=>
  simp only at h
  exact y8 hT hQ hh (bE x) (bE k) (bE v) h
 |extract t ix=>
  simp only at h
  have hx:=bE t
  split at h
  ·rename_i l he
   rw[he]at hx
   have gi:=hx.live rfl
   simp only[R]at gi
   obtain⟨l',e,hl⟩:=gi
   obtain⟨v,hv,hk⟩:=lU h
   obtain⟨b,hb,hr⟩:=aw.get (aQ.1 hl) hv
   refine ar hh (.inr hr) (rd:=[]) ?_ hk
   simp only[aK,e,hb]; exact aE.pure _
  ·simp[Tr.run]at h
 |call c=>
  obtain⟨callee,args,mf⟩:=c
  cases callee with
  |builtin b=>exact Dn hT hQ hh hn (jn bE args.toList) h
  |_=>simp[Tr.run]at h
 |_=>simp[Tr.run]at h
end
end Go.PI
end
section
/- PS, part K: by value, frozen, and calls of which an answer is known. -/
namespace Go.PI
variable {T:dw}{ρ:Type}
mutual
def kj:AV→Bool
 |.lit v=>match v with
  |.slice none 0 0=>false
  |_=>true
 |.agg l|.jt l=>oq l
 |.gg _ v=>kj v
 |.iT _ f c=>oq f&&oq c
 |_=>true
def oq:List AV→Bool
 |[]=>true
 |x::xs=>kj x&&oq xs
end
section
variable {H:ah T.den}{hp:ag}{r:ρ}
mutual
theorem R.flat:∀ {v:SV T.den} {a:AV},R T H v a→kj a=true→vS v=flat a
 |.dead,a,h,_=>by simp[R]at h
 |.hole,a,h,_=>by simp only[R]at h; subst h; rfl
 |.lit v,a,h,_=>by simp only[R]at h; subst h; rfl
 |.agg l,a,h,hn=>by
  simp only[R]at h
  obtain⟨l',rfl,h2⟩:=h
  simp only[kj]at hn
  simp only[vS,Go.PI.flat]; exact RL.flat h2 hn
 |.jt l,a,h,hn=>by
  simp only[R]at h
  obtain⟨l',rfl,h2⟩:=h
  simp only[kj]at hn
  simp only[vS,Go.PI.flat]; exact RL.flat h2 hn
 |.sl l,a,h,_=>by
  simp only[R]at h
  obtain⟨l',rfl,h2⟩:=h
  rfl
 |.jr t l,a,h,hn=>by
  simp only[R]at h
  rcases h with ⟨l',rfl,_⟩|⟨_,rfl⟩
  ·rfl
  ·simp[kj]at hn
 |.bf e j,a,h,_=>by
  simp only[R]at h
  obtain⟨e',rfl,h2⟩:=h
  rfl
 |.ref n c i j,a,h,_=>by
  simp only[R]at h
  obtain⟨aq,rfl,h2⟩:=h
  rfl
 |.iM n c i j ln cp,a,h,_=>by
  simp only[R]at h
  obtain⟨aq,rfl,h2⟩:=h
  rfl
 |.bq esz n c rg cap,a,h,_=>by
  simp only[R]at h
  obtain⟨aq,h1,h2⟩:=h
  rcases rg with _|⟨off,len⟩<;>simp only at h2<;>subst h2<;>rfl
 |.iT fn f c,a,h,hn=>by
  simp only[R]at h
  obtain⟨f',c',rfl,h2,h3⟩:=h
  rfl
 |.gg t v,a,h,hn=>by
  simp only[R]at h
  obtain⟨v',rfl,h2⟩:=h
  simp only[kj]at hn
  simp only[vS,Go.PI.flat]; exact R.flat h2 hn
 |.wI t l c b,a,h,hn=>by
  simp only[R]at h
  rcases h with ⟨_,l',rfl,_⟩|⟨_,_,rfl|rfl⟩
  ·rfl
  ·rfl
  ·simp[kj]at hn
 |.nz,a,h,hn=>by
  simp only[R]at h
  subst h
  rfl
 |.mp y n,a,h,_=>by
  simp only[R]at h
  obtain⟨rfl,_⟩:=h
  rfl
 |.sD v s len i,a,h,_=>by
  simp only[R]at h
  obtain⟨a0,_,_,h2⟩:=h
  rcases h2 with ⟨n,aq,k,j,rfl,rfl⟩|⟨e,j,rfl,rfl⟩<;>rfl
theorem RL.flat:∀ {l:List (SV T.den)} {m:List AV},RL T H l m→oq m=true→Ba l=vh m
 |[],[],_,_=>rfl
 |x::xs,y::ys,h,hn=>by
  simp only[RL]at h
  simp only[oq,Bool.and_eq_true]at hn
  simp only[Ba,vh]; rw[R.flat h.1 hn.1,RL.flat h.2 hn.2]
 |[],_::_,h,_=>by simp[RL]at h
 |_::_,[],h,_=>by simp[RL]at h
end
theorem ot{den:Nat→Type}:∀ {l:List (SV den)} {i:Nat} {e:SV den},av l=true→l[i]?=some e→aD e=true
 |[],_,_,_,h=>by simp at h
 |x::xs,0,e,hc,h=>by
  simp_all[av]
 |x::xs,i+1,e,hc,h=>by
  simp only[av,Bool.and_eq_true]at hc
  simp only[List.getElem?_cons_succ]at h
  exact ot hc.2 h
theorem ou[ab](hh:RH T H hp):∀ k:Nat,
  (∀ (v:SV T.den) (a:AV) (K:SV T.den→List Nat→Tr ρ),R T H v a→(fX T H k v K).run=some r →
    ∃ v' rd a',aE hp (aX k a) a' rd∧R T H v' a'∧(kj a'=true∧aD v'=true)∧(K v' rd).run=some r) ∧
  (∀ (l:List (SV T.den)) (m:List AV) (K:List (SV T.den)→List Nat→Tr ρ),RL T H l m→(fY T H k l K).run=some r →
    ∃ l' rd m',aE hp (aN k m) m' rd∧RL T H l' m'∧(oq m'=true∧av l'=true)∧l'.length=l.length∧(K l' rd).run=some r)
 |0=>⟨fun v a K _ h=>by simp[fX,Tr.run]at h,fun l m K _ h=>by simp[fY,Tr.run]at h⟩
 |k+1=>by
  obtain⟨Wq,Qr⟩:=ou hh k
  refine⟨fun v a K hr h=>?_,fun l m K hr h=>?_⟩
  ·cases v with
   |dead=>simp[R]at hr
   |hole=>simp[fX,Tr.run]at h
   |lit v=>
    simp only[R]at hr
    subst hr
    simp only[fX]at h
    split at h
    ·exact⟨_,_,.sl [],aE.pure _,by simp[R,RL,av],⟨rfl,rfl⟩,h⟩
    ·rename_i hv
     refine⟨_,_,.lit v,?_,by simp[R],⟨?_,rfl⟩,h⟩
     ·simp only[aX]
      exact aE.pure _
     ·simp only[kj]
   |agg l=>
    simp only[R]at hr
    obtain⟨l',rfl,hl⟩:=hr
    simp only[fX]at h
    obtain⟨l2,rd,m2,h1,h2,h3,_,h4⟩:=Qr _ _ _ hl h
    refine⟨_,_,.agg m2,?_,by simp only[R]; exact⟨_,rfl,h2⟩,⟨by simpa only[kj] using h3.1,by simpa only[aD] using h3.2⟩,h4⟩
    simp only[aX]
    exact aE.mono (aE.bind h1 (aE.pure _)) (fun _ h=>by simpa using h)
   |jt l=>
    simp only[R]at hr
    obtain⟨l',rfl,hl⟩:=hr
    simp only[fX]at h
    obtain⟨l2,rd,m2,h1,h2,h3,_,h4⟩:=Qr _ _ _ hl h
    refine⟨_,_,.jt m2,?_,by simp only[R]; exact⟨_,rfl,h2⟩,⟨by simpa only[kj] using h3.1,by simpa only[aD] using h3.2⟩,h4⟩
    simp only[aX]
    exact aE.mono (aE.bind h1 (aE.pure _)) (fun _ h=>by simpa using h)
   |sl l=>
    have kq:=hr
    simp only[R]at hr
    obtain⟨l',rfl,hl⟩:=hr
    simp only[fX]at h
    exact⟨_,_,.sl l',aE.pure _,kq,⟨rfl,rfl⟩,h⟩
   |jr t l=>
    have kq:=hr
    simp only[R]at hr
    simp only[fX]at h
    rcases hr with ⟨l',rfl,hl⟩|⟨rfl,rfl⟩
    ·exact⟨_,_,.sl l',aE.pure _,kq,⟨rfl,rfl⟩,h⟩
    ·exact⟨_,_,.sl [],aE.pure _,by simp only[R]; exact .inl ⟨[],rfl,trivial⟩,⟨rfl,rfl⟩,h⟩
   |bf e j=>
    have kq:=hr
    simp only[R]at hr
    obtain⟨e',rfl,he⟩:=hr
    simp only[fX]at h
    exact⟨_,_,.bf e' j,aE.pure _,kq,⟨rfl,rfl⟩,h⟩
   |ref n c i j=>
    simp only[R]at hr
    obtain⟨aq,rfl,hv⟩:=hr
    simp only[fX]at h
    split at h
    case h_2=>simp[Tr.run]at h
    rename_i g cl f cur es ho
    obtain⟨o,c8,dC⟩:=hh.obj ho
    obtain⟨es',rfl,cC,qT⟩:=dC
    split at h
    case h_2=>simp[Tr.run]at h
    rename_i e hc he
    have bZ:=hv.arr hh ho hc
    simp only[aB.len]at bZ
    have hl:=cC.length
    obtain⟨e2,xC,Ed⟩:=aw.get (aQ.1 cC) he
    cases cl with
    |true=>
     simp only at h
     refine⟨_,_,.bf e2 j,?_,by simp only[R]; exact⟨_,rfl,Ed,ot (qT rfl) he⟩,⟨rfl,rfl⟩,h⟩
     simp only[aX]
     refine aE.mono (aE.bind (aE.arr c8 (by omega)) ?_) (rd:=[n]++[]) (fun _ h=>by simpa using h)
     simp only[xC]
     simp only[if_true]
     exact aE.pure _
    |false=>
     simp only at h
     obtain⟨v2,rd,a2,h1,h2,h3,h⟩:=Wq _ _ _ Ed h
     refine⟨_,_,.bf a2 j,?_,by simp only[R]; exact⟨_,rfl,h2,h3.2⟩,⟨rfl,rfl⟩,h⟩
     simp only[aX]
     refine aE.mono (aE.bind (aE.arr c8 (by omega)) (rd':=rd) ?_) (fun _ h=>by simpa using h)
     simp only[xC,Bool.false_eq_true,if_false]
     exact aE.mono (aE.bind h1 (aE.pure _)) (fun _ h=>by simpa using h)
   |iM n c i j ln cp=>
    simp only[R]at hr
    obtain⟨aq,rfl,hv⟩:=hr
    simp only[fX]at h
    split at h
    case h_2=>simp[Tr.run]at h
    rename_i g cl f cur es ho
    obtain⟨o,c8,dC⟩:=hh.obj ho
    obtain⟨es',rfl,cC,qT⟩:=dC
    split at h
    case h_2=>simp[Tr.run]at h
    rename_i cs hc he
    have bZ:=hv.arr hh ho hc
    simp only[aB.len]at bZ
    have hl:=cC.length
    obtain⟨e2,xC,Ed⟩:=aw.get (aQ.1 cC) he
    simp only[R]at Ed
    obtain⟨lX,rfl,uc⟩:=Ed
    have mg:=uc.length
    split at h
    case h_2=>simp[Tr.run]at h
    rename_i hle
    simp only[Bool.and_eq_true,decide_eq_true_eq]at hle
    have yV:RL T H ((cs.drop j).take ln) ((lX.drop j).take ln):=aQ.2 (((aQ.1 uc).drop j).take ln)
    cases cl with
    |true=>
     simp only at h
     have mW:av cs=true:=by
      have:=ot (qT rfl) he
      simpa only[aD] using this
     refine⟨_,_,.sl ((lX.drop j).take ln),?_,by simp only[R]; exact⟨_,rfl,yV,my mW _ _⟩,⟨rfl,rfl⟩,h⟩
     simp only[aX]
     refine aE.mono (aE.bind (aE.arr c8 (by omega)) ?_) (rd:=[n]++[]) (fun _ h=>by simpa using h)
     simp only[xC]
     rw[if_pos ⟨hle.1,by omega⟩]
     simp only[if_true]
     exact aE.pure _
    |false=>
     simp only at h
     obtain⟨l2,rd,m2,h1,h2,h3,_,h⟩:=Qr _ _ _ yV h
     refine⟨_,_,.sl m2,?_,by simp only[R]; exact⟨_,rfl,h2,h3.2⟩,⟨rfl,rfl⟩,h⟩
     simp only[aX]
     refine aE.mono (aE.bind (aE.arr c8 (by omega)) (rd':=rd) ?_) (fun _ h=>by simpa using h)
     simp only[xC]
     rw[if_pos ⟨hle.1,by omega⟩]
     simp only[Bool.false_eq_true,if_false]
     exact aE.mono (aE.bind h1 (aE.pure _)) (fun _ h=>by simpa using h)
   |iT fn f c=>
    simp only[R]at hr
    obtain⟨f',c',rfl,hf,hc⟩:=hr
    simp only[fX]at h
    obtain⟨l2,rd,m2,h1,h2,h3,_,h⟩:=Qr _ _ _ hf h
    obtain⟨l3,rd3,m3,g1,g2,g3,_,h⟩:=Qr _ _ _ hc h
    refine⟨_,_,.iT fn m2 m3,?_,by simp only[R]; exact⟨_,_,rfl,h2,g2⟩,⟨by simp[kj,h3.1,g3.1],by simp[aD,h3.2,g3.2]⟩,h⟩
    simp only[aX]
    exact aE.mono (aE.bind h1 (aE.bind g1 (aE.pure _))) (fun _ h=>by simpa using h)
   |gg t v=>
    simp only[R]at hr
    obtain⟨v',rfl,hv⟩:=hr
    simp only[fX]at h
    obtain⟨v2,rd,a2,h1,h2,h3,h⟩:=Wq _ _ _ hv h
    refine⟨_,_,.gg t a2,?_,by simp only[R]; exact⟨_,rfl,h2⟩,⟨by simpa only[kj] using h3.1,by simpa only[aD] using h3.2⟩,h⟩
    simp only[aX]
    exact aE.mono (aE.bind h1 (aE.pure _)) (fun _ h=>by simpa using h)
   |bq esz n c rg cap=>
    simp only[R]at hr
    obtain⟨aq,hv,ha⟩:=hr
    simp only[fX]at h
    split at h
    ·rename_i g cl f cur es ho
     obtain⟨o,c8,dC⟩:=hh.obj ho
     obtain⟨es',rfl,cC,qT⟩:=dC
     split at h
     case h_2=>simp[Tr.run]at h
     rename_i hc
     have bZ:=hv.arr hh ho hc
     simp only[aB.len]at bZ
     have hl:=cC.length
     have key:∀ (off len:Nat) (part:List (SV T.den)) (h:(match cl with
        |true=>K (.sl part) [n]
        |false=>fY T H k part fun l rd=>K (.sl l) (n::rd)).run=some r),part=(es.drop off).take len→off+len≤es.length →
       ∃ v' rd a',aE hp (aX (k+1) (.bq esz n aq off len cap)) a' rd∧R T H v' a'∧(kj a'=true∧aD v'=true)∧(K v' rd).run=some r:=by
      intro off len part h OY hle
      have yV:RL T H part ((es'.drop off).take len):=by subst OY; exact aQ.2 (((aQ.1 cC).drop off).take len)
      cases cl with
      |true=>
       simp only at h
       refine⟨_,_,.sl ((es'.drop off).take len),?_,by simp only[R]; exact⟨_,rfl,yV,by subst OY; exact my (qT rfl) _ _⟩,⟨rfl,rfl⟩,h⟩
       simp only[aX]
       refine aE.mono (aE.bind (aE.arr c8 (by omega)) ?_) (rd:=[n]++[]) (fun _ h=>by simpa using h)
       simp only
       rw[if_pos (by omega)]
       simp only[if_true]
       exact aE.pure _
      |false=>
       simp only at h
       obtain⟨l2,rd,m2,h1,h2,h3,_,h⟩:=Qr _ _ _ yV h
       refine⟨_,_,.sl m2,?_,by simp only[R]; exact⟨_,rfl,h2,h3.2⟩,⟨rfl,rfl⟩,h⟩
       simp only[aX]
       refine aE.mono (aE.bind (aE.arr c8 (by omega)) (rd':=rd) ?_) (fun _ h=>by simpa using h)
       simp only
       rw[if_pos (by omega)]
       simp only[Bool.false_eq_true,if_false]
       exact aE.mono (aE.bind h1 (aE.pure _)) (fun _ h=>by simpa using h)
     split at h
     ·simp only at ha
      subst ha
      exact key 0 aq es h (by simp only[List.drop_zero]; rw[List.take_of_length_le (by omega)]) (by omega)
     ·grind[Tr.run]
    ·rename_i g f cur t l ho
     obtain⟨o,c8,dC⟩:=hh.obj ho
     obtain⟨es',rfl,cC⟩:=dC
     split at h
     case h_2=>simp[Tr.run]at h
     rename_i hc
     have bZ:=hv.arr hh ho hc
     simp only[aB.len]at bZ
     have hl:=cC.length
     have key:∀ off len,off+len≤l.length→aE hp (aX (k+1) (.bq esz n aq off len cap)) (.sl ((es'.drop off).take len)) [n]:=by
      intro off len hle
      simp only[aX]
      refine aE.mono (aE.bind (aE.arr c8 (by omega)) (rd':=[]) ?_) (fun _ h=>by simpa using h)
      simp only
      rw[if_pos (by omega)]
      simp only[if_true]
      exact aE.pure _
     split at h
     ·simp only at ha
      subst ha
      refine⟨_,_,_,key 0 aq (by omega),?_,⟨rfl,rfl⟩,h⟩
      simp only[R,List.drop_zero]
      rw[List.take_of_length_le (by omega)]
      exact .inl ⟨_,rfl,cC⟩
     ·rename_i off len
      simp only at ha
      subst ha
      obtain⟨hle,h⟩:=aY h
      simp only[decide_eq_true_eq]at hle
      refine⟨_,_,_,key off len hle,?_,⟨rfl,rfl⟩,h⟩
      simp only[R]
      exact .inl ⟨_,rfl,(cC.drop off).take len⟩
    ·simp[Tr.run]at h
   |mp y n=>simp[fX,Tr.run]at h
   |wI t l c b=>
    simp only[R]at hr
    simp only[fX]at h
    rcases hr with ⟨_,l',rfl,hl⟩|⟨_,rfl,rfl|rfl⟩
    ·exact⟨_,_,.sl l',by simp only[aX]; exact aE.pure _,by simp only[R]; exact .inl ⟨_,rfl,hl⟩,⟨rfl,rfl⟩,h⟩
    ·exact⟨_,_,.sl [],by simp only[aX]; exact aE.pure _,by simp only[R]; exact .inl ⟨_,rfl,trivial⟩,⟨rfl,rfl⟩,h⟩
    ·exact⟨_,_,.sl [],by simp only[aX]; exact aE.pure _,by simp only[R]; exact .inl ⟨_,rfl,trivial⟩,⟨rfl,rfl⟩,h⟩
   |nz=>
    simp only[R]at hr
    simp only[fX]at h
    subst hr
    exact⟨_,_,.sl [],by simp only[aX]; exact aE.pure _,by simp only[R]; exact⟨[],rfl,trivial,rfl⟩,⟨rfl,rfl⟩,h⟩
   |sD v s len i=>simp[fX,Tr.run]at h
  ·cases l with
   |nil=>
    cases m with
    |nil=>
     simp only[fY]at h
     exact⟨[],[],[],aE.pure _,by simp[RL],⟨rfl,rfl⟩,rfl,h⟩
    |cons=>simp[RL]at hr
   |cons x xs=>
    cases m with
    |nil=>simp[RL]at hr
    |cons y ys=>
     simp only[RL]at hr
     simp only[fY]at h
     obtain⟨v2,rd,a2,h1,h2,h3,h⟩:=Wq _ _ _ hr.1 h
     obtain⟨l2,rd2,m2,g1,g2,g3,g4,h⟩:=Qr _ _ _ hr.2 h
     refine⟨_,_,a2::m2,?_,by simp only[RL]; exact⟨h2,g2⟩,⟨by simp[oq,h3.1,g3.1],by simp[av,h3.2,g3.2]⟩,by simp[g4],h⟩
     simp only[aN]
     exact aE.mono (aE.bind h1 (aE.bind g1 (aE.pure _))) (fun _ h=>by simpa using h)
theorem K5[ab](hh:RH T H hp){k:Nat}{v:SV T.den}{a:AV}{K:SV T.den→List Nat→Tr ρ}(hr:R T H v a)(h:(fX T H k v K).run=some r):
  ∃ v' rd a',aE hp (aX k a) a' rd∧R T H v' a'∧(kj a'=true∧aD v'=true)∧(K v' rd).run=some r:=(ou hh k).1 v a K hr h
theorem u3[ab](hh:RH T H hp){k:Nat}{l:List (SV T.den)}{m:List AV}{K:List (SV T.den)→List Nat→Tr ρ}(hr:RL T H l m)(h:(fY T H k l K).run=some r):
  ∃ l' rd m',aE hp (aN k m) m' rd∧RL T H l' m'∧(oq m'=true∧av l'=true)∧l'.length=l.length∧(K l' rd).run=some r:=(ou hh k).2 l m K hr h
def FW(T:dw)(H:ah T.den):List (Nat×aB T.den)→List (Nat×aM)→Prop:=
 aw fun p q=>p.1=q.1∧RO T H p.2 q.2∧∃ o,H[p.1]?=some (some o)∧p.2.cur=o.cur∧p.2.len=o.len∧o.isRec=false∧p.2.isRec=false
theorem ow[ab](hh:RH T H hp):∀ {k:Nat} {ns:List Nat} {K:List (Nat×aB T.den)→List Nat→Tr ρ},(mv T H k ns K).run=some r →
  ∃ wr rd w,aE hp (dM k ns) w rd∧FW T H wr w∧(K wr rd).run=some r
 |0,ns,K,h=>by simp[mv,Tr.run]at h
 |k+1,[],K,h=>by
  simp only[mv]at h
  exact⟨[],[],[],aE.pure _,trivial,h⟩
 |k+1,n::ns,K,h=>by
  simp only[mv]at h
  split at h
  ·rename_i g cl f cur es ho
   obtain⟨o,c8,dC⟩:=hh.obj ho
   obtain⟨es',rfl,cC,qT⟩:=dC
   split at h
   ·obtain⟨wr,rd,w,h1,h2,h⟩:=ow hh h
    refine⟨(n,.arr g true true cur es)::wr,n::rd,(n,.arr g true true es')::w,?_,⟨⟨rfl,⟨_,rfl,cC,qT⟩,_,ho,rfl,rfl,rfl,rfl⟩,h2⟩,h⟩
    simp only[dM]
    refine aE.get c8 ?_
    simp only[if_true]
    exact aE.mono (aE.bind h1 (aE.pure _)) (fun _ h=>by simpa using h)
   ·obtain⟨Q0,rd,m2,g1,g2,g3,g4,h⟩:=u3 hh cC h
    obtain⟨wr,rd2,w,h1,h2,h⟩:=ow hh h
    rw[RL.names cC]at h1
    refine⟨(n,.arr g true true cur Q0)::wr,n::rd++rd2,(n,.arr g true true m2)::w,?_,⟨⟨rfl,⟨_,rfl,g2,fun _=>g3.2⟩,_,ho,rfl,by simp[aB.len,g4],rfl,rfl⟩,h2⟩,h⟩
    simp only[dM]
    refine aE.get c8 ?_
    simp only[Bool.false_eq_true,if_false]
    exact aE.mono (aE.bind g1 (aE.bind h1 (aE.pure _))) (fun _ h=>by simpa using h)
  ·rename_i g f cur t l ho
   obtain⟨o,c8,dC⟩:=hh.obj ho
   obtain⟨es',rfl,cC⟩:=dC
   obtain⟨wr,rd,w,h1,h2,h⟩:=ow hh h
   refine⟨(n,.bV g true cur t l)::wr,n::rd,(n,.arr g true true es')::w,?_,⟨⟨rfl,⟨_,rfl,cC⟩,_,ho,rfl,rfl,rfl,rfl⟩,h2⟩,h⟩
   simp only[dM]
   refine aE.get c8 ?_
   simp only[if_true]
   exact aE.mono (aE.bind h1 (aE.pure _)) (fun _ h=>by simpa using h)
  ·simp[Tr.run]at h
theorem FW.names:∀ {wr:List (Nat×aB T.den)} {w:List (Nat×aM)},FW T H wr w→wr.map (·.1)=w.map (·.1)
 |[],[],_=>rfl
 |_::_,_::_,h=>by simp only[List.map_cons]; rw[h.1.1,FW.names h.2]
 |[],_::_,h=>h.elim
 |_::_,[],h=>h.elim
theorem FW.apply[ab]:∀ {wr:List (Nat×aB T.den)} {w:List (Nat×aM)} {H:ah T.den} {hp:ag},RH T H hp→FW T H wr w →
  dk H (bc H wr)∧RH T (bc H wr) (ak hp w)∧(∀ n:Nat,n∉wr.map (·.1)→(bc H wr)[n]?=H[n]?)∧(bc H wr).length=H.length
 |[],[],H,hp,hh,_=>⟨dk.refl _,hh,fun _ _=>rfl,rfl⟩
 |(n,o')::wr,(n',a')::w,H,hp,hh,h=>by
  obtain⟨⟨e1,h2,o,h3,h4,h5,wm,EX⟩,h6⟩:=h
  simp only at e1 h2 h3 h4 h5 wm EX
  subst e1
  obtain⟨hg,NR⟩:=hh.Q9 h3 (o':=o') (by omega) (fun _=>h5) h2
  have bQ:=(List.getElem?_eq_some_iff.1 h3).1
  have e1:bJ H n o'=H.set n (some o'):=by simp[bJ]; omega
  have e2:setObj hp n a'=hp.set n (some a'):=by simp[setObj]; have:=hh.length; omega
  have h7:FW T (H.set n (some o')) wr w:=by
   refine aw.mono (fun p q Mp=>?_) h6
   obtain⟨q1,q2,o2,q3,q4,q5,q6,q7⟩:=Mp
   refine⟨q1,RO.mono hg q2,?_⟩
   by_cases e:p.1=n
   ·simp_all
   ·grind
  obtain⟨i1,i2,i3,i4⟩:=FW.apply NR h7
  simp only[bc,ak]
  rw[e1,e2]
  refine⟨hg.trans i1,i2,fun m hm=>?_,by rw[i4]; simp⟩
  simp only[List.map_cons,List.mem_cons,not_or]at hm
  rw[i3 m hm.2,List.getElem?_set_ne (Ne.symm hm.1)]
 |[],_::_,_,_,_,h=>h.elim
 |_::_,[],_,_,_,h=>h.elim
theorem FW.KW:∀ {wr:List (Nat×aB T.den)} {w:List (Nat×aM)},FW T H wr w→∀ n,recAt H n=true→n∉wr.map (·.1)
 |[],[],_,n,_=>by simp
 |(m,o')::wr,_::w,h,n,hn=>by
  obtain⟨⟨_,_,o,h3,_,_,wm,_⟩,h6⟩:=h
  simp only at h3
  simp only[List.map_cons,List.mem_cons,not_or]
  refine⟨?_,FW.KW h6 n hn⟩
  rintro rfl
  simp only[recAt,h3,wm,Bool.false_eq_true]at hn
 |[],_::_,h,_,_=>h.elim
 |_::_,[],h,_,_=>h.elim
theorem FW.re[ab]{wr:List (Nat×aB T.den)}{w:List (Nat×aM)}(hh:RH T H hp)(h:FW T H wr w){v:SV T.den}{a:AV}(hv:∀ H,R T H v a):RE T H hp v wr ⟨a,w⟩:=by
 obtain⟨h1,h2,h3,h4⟩:=FW.apply hh h
 exact⟨.inr (hv _),h2,h1,fun q hq=>by rw[h.names]; exact List.mem_map_of_mem hq,fun n hn _=>h3 n hn,by rw[h4]; exact Nat.le_refl _,h.KW⟩
end
def OZ(T:dw)(v:TV T.den)(a:AV):Prop:=
 match v with
 |⟨.v t,x⟩=>T.rp t x a
 |⟨.l t,l⟩=>∃ l',a=.sl l'∧aw (T.rp t) l l'
 |⟨.m _ _,_⟩=>False
theorem SX(hT:T.Ok){v:TV T.den}{a:AV}(h:OZ T v a)(H:ah T.den):R T H (SB T v) a:=by
 obtain⟨t,x⟩:=v
 cases t with
 |v t=>exact hT.up _ _ _ H h
 |l t=>
  obtain⟨l',rfl,hl⟩:=h
  simp only[SB,R]
  exact .inl ⟨l',rfl,hl⟩
 |m kk t=>exact h.elim
theorem K6[ab](hT:T.Ok)(H:ah T.den):∀ {l:List (TV T.den)} {m:List AV},aw (OZ T) l m→RL T H (P7 T l) m
 |[],[],_=>by simp[P7,RL]
 |v::vs,a::as,h=>by
  simp only[P7,List.map_cons,RL]
  exact⟨SX hT h.1 H,K6 hT H h.2⟩
 |[],_::_,h=>h.elim
 |_::_,[],h=>h.elim
theorem GU{H:ah T.den}{l:List (SV T.den)}{m:List AV}(h:RL T H l m):R T H (qR l) (cB m):=by
 match l,m,h with
 |[],[],h=>simp_all[qR,cB,R]
 |[x],[y],h=>simp only[RL]at h; exact h.1
 |x::x'::xs,y::y'::ys,h=>simp_all[qR,cB,R]
 |[],_::_,h=>simp[RL]at h
 |_::_,[],h=>simp[RL]at h
 |[x],_::_::_,h=>simp[RL]at h
 |_::_::_,[y],h=>simp[RL]at h
theorem FC(hT:T.Ok){H:ah T.den}{ts:List Nat}:∀ {l:List (SV T.den)} {m:List AV} {xs:List (TV T.den)},RL T H l m→HR T ts l=some xs→aw (OZ T) xs m:=by
 induction ts with
 |nil=>
  intro l m xs hr h
  cases l with
  |cons=>simp[HR]at h
  |nil=>
   cases m with
   |cons=>simp[RL]at hr
   |nil=>
    simp[HR]at h
    subst h
    trivial
 |cons t ts ih=>
  intro l m xs hr h
  cases l with
  |nil=>simp[HR]at h
  |cons v vs=>
   cases m with
   |nil=>simp[RL]at hr
   |cons a as=>
    simp only[RL]at hr
    simp only[HR,Option.bind_eq_some_iff,Option.map_eq_some_iff]at h
    obtain⟨x,h1,ys,h2,rfl⟩:=h
    exact⟨hT.dn _ _ _ _ H h1 hr.1,ih hr.2 h2⟩
theorem GV{den:Nat→Type}{v:TV den}{t:VT}{x:t.den den}(h:v.as t=some x):v=⟨t,x⟩:=by
 obtain⟨t',y⟩:=v
 unfold TV.as at h
 split at h
 ·grind
 ·simp at h
theorem ox[ab]{den:Nat→Type}:∀ (ts:List VT) (l:List (TV den)) (x:HL den ts),uI ts l=some x→fV ts x=l
 |[],l,x,h=>by
  cases l with
  |nil=>rfl
  |cons=>cases h
 |[t],l,x,h=>by
  match l,h with
  |[v],h=>
   have h':v.as t=some x:=h
   rw[GV h']; rfl
  |[],h=>cases h
  |_::_::_,h=>cases h
 |t::u::us,l,x,h=>by
  match l,h with
  |[],h=>cases h
  |v::l',h=>
   change VT.den den t×HL den (u::us) at x
   have h':((v.as t).bind fun x=>(uI (u::us) l').map fun y=>(x,y))=some x:=h
   obtain⟨a,h1,h2⟩:=Option.bind_eq_some_iff.1 h'
   obtain⟨b,h3,h4⟩:=Option.map_eq_some_iff.1 h2
   subst h4
   have:=ox _ _ _ h3
   rw[GV h1,←this]
   rfl
noncomputable def K7[ab](C:Ctx)(g:FuncId)(as:List AV):Option (AV×ag):=
 match C.kp g with
 |some h=>(h as).map fun r=>(r,[])
 |none=>match kv C g as [] with
  |some (.val v,hX)=>some (v,hX)
  |_=>none
noncomputable def SY[ab](C:Ctx)(g:FuncId)(as:List AV):Option (AV×ag):=
 match C.iV g with
 |some h=>h as
 |none=>match kv C g as [] with
  |some (.val v,hX)=>some (v,hX)
  |_=>none
structure GW[ab](C:Ctx)(T:dw)(g:FuncId)(σ:vT T):Prop where
 Rf:∀ (x:HL T.den (σ.args.map .v)) (as:List AV) (l:List (T.den σ.el)),aw (OZ T) (fV _ x) as→σ.fn x=some l →
  ∃ n cl es hX,SY C g as=some (.bq σ.esz n es.length 0 es.length none,hX)∧hX[n]?=some (some (.arr true cl false es))∧es.all flat=true∧aw (T.rp σ.el) l es
structure pZ[ab](C:Ctx)(T:dw)(g:FuncId)(σ:uJ T):Prop where
 kind:C.kind g=.pure
 Rf:∀ (x:HL T.den (σ.args.map .v)) (as:List AV) (y:HL T.den (σ.res.map .v)),aw (OZ T) (fV _ x) as→σ.fn x=some y →
  ∃ v hX l,K7 C g as=some (v,hX)∧(aX 1000 v).run hX=some (cB l)∧kj (cB l)=true∧aw (OZ T) (fV _ y) l
section
variable {H:ah T.den}{hp:ag}{r:ρ}
theorem GX[ab](hT:T.Ok){C:Ctx}{g:FuncId}{σ:vT T}(hσ:GW C T g σ)(hh:RH T H hp){nm:Nat}(hn:nm=H.length∨H[nm]?=some none){args:List (SV T.den)}{as:List AV}(ha:RL T H args as){K:EK T ρ}
  (h:(ND T σ nm H args K).run=some r) :
  ∃ v wr rd e lg,Ey C nm g as hp=some (e,lg)∧(∀ n,n∈lg→n∈rd)∧RE T H hp v wr e∧(K v wr rd).run=some r:=by
 unfold ND at h
 obtain⟨nV,rd,Ue,h1,h2,_,_,h⟩:=u3 hh ha h
 split at h
 case h_2=>simp[Tr.run]at h
 rename_i x hx
 rw[Option.bind_eq_some_iff]at hx
 obtain⟨l,hl,hx⟩:=hx
 obtain⟨y,hy,h⟩:=bind_some h
 have Ee:=FC hT h2 hl
 rw[←ox _ _ _ hx]at Ee
 obtain⟨n,cl,es,hX,oY,yJ,HN,cy⟩:=hσ.Rf x Ue y Ee hy
 have hlen:y.length=es.length:=aw.length cy
 have Jt:(fO nm (.bq σ.esz n es.length 0 es.length none) hX).run hp=some ⟨.bq σ.esz nm es.length 0 es.length none,[(nm,.arr true true false es)]⟩:=by
  simp only[fO,yJ,HN,decide_true,Bool.and_self]
  rfl
 have hA:Ey C nm g as hp=some (⟨.bq σ.esz nm es.length 0 es.length none,[(nm,.arr true true false es)]⟩,(aN 1000 as).log hp):=by
  unfold Ey
  rw[h1.1]
  simp only[Option.bind_some]
  unfold SY at oY
  cases hi:C.iV g with
  |some f=>
   simp_all
  |none=>
   rw[hi]at oY
   simp only at oY
   split at oY
   case h_2=>simp at oY
   rename_i v0 SZ aV
   simp only[Option.some.injEq,Prod.mk.injEq]at oY
   obtain⟨rfl,rfl⟩:=oY
   simp only[aV,Option.bind_some,pn,Jt,Option.map_some]
 have hg:jm T H hp (RM.ret (⟨.bq σ.esz nm es.length 0 es.length none,[(nm,.arr true true false es)]⟩:dm)) (fun v wr _=>K v wr rd) r:=by
  have hv:=eJ hh hn (o:=.bV true false 0 σ.el y)
  simp only[aB.cur,aB.len,hlen]at hv
  refine eH hh hn (o:=.bV true false 0 σ.el y) ⟨es,rfl,cy⟩ ?_ (aE.ret _) h
  right
  simp only[R]
  exact⟨es.length,hv,rfl⟩
 obtain⟨v,wr,rd',e,g1,g2,g3⟩:=hg
 have he:e=⟨.bq σ.esz nm es.length 0 es.length none,[(nm,.arr true true false es)]⟩:=by
  have:=g1.1
  simp only[RM.run,Option.some.injEq]at this
  exact this.symm
 subst he
 exact⟨v,wr,rd,_,_,hA,h1.2,g2,g3⟩
theorem wN[ab](hT:T.Ok){C:Ctx}{g:FuncId}{σ:uJ T}(hσ:pZ C T g σ)(hh:RH T H hp){args:List (SV T.den)}{as:List AV}(ha:RL T H args as){K:EK T ρ}(h:(HU T σ H args K).run=some r):
  ∃ v wr rd a w lg,Ji C g as hp=some (.val a,w)∧(∀ nm,pt C nm false hp (g,as)=some (⟨a,w⟩,lg))∧(∀ n,n∈lg→n∈rd)∧RE T H hp v wr ⟨a,w⟩∧(K v wr rd).run=some r:=by
 unfold HU at h
 obtain⟨nV,rd,Ue,h1,h2,_,_,h⟩:=u3 hh ha h
 split at h
 case h_2=>simp[Tr.run]at h
 rename_i x hx
 rw[Option.bind_eq_some_iff]at hx
 obtain⟨l,hl,hx⟩:=hx
 obtain⟨y,hy,h⟩:=bind_some h
 have Ee:=FC hT h2 hl
 rw[←ox _ _ _ hx]at Ee
 obtain⟨v,hX,m,oY,nt,PY,cy⟩:=hσ.Rf x Ue y Ee hy
 have hR:∀ H,R T H (qR (P7 T (fV _ y))) (cB m):=fun H=>GU (K6 hT H cy)
 have HN:vS (qR (P7 T (fV _ y)))=flat (cB m):=R.flat (hR H) PY
 have O0:∀ w,nh hp as (.val v,hX)=some (.val (cB m),w)→Ji C g as hp=some (.val (cB m),w)∧(∀ nm,pt C nm false hp (g,as)=some (⟨cB m,w⟩,Jp hp as (.val v,hX))):=by
  intro w hw
  unfold K7 at oY
  cases hi:C.kp g with
  |some f=>
   rw[hi]at oY
   simp only[Option.map_eq_some_iff,Prod.mk.injEq]at oY
   obtain⟨r0,BZ,rfl,rfl⟩:=oY
   constructor
   ·rw[Hi g hi,h1.1]
    simp only[Option.bind_some,BZ,hw]
   ·intro nm; simp only[pt,hσ.kind,hi,h1.1,Option.bind_some,BZ,nj,hw]
  |none=>
   rw[hi]at oY
   simp only at oY
   split at oY
   case h_2=>simp at oY
   rename_i v0 SZ aV
   simp only[Option.some.injEq,Prod.mk.injEq]at oY
   obtain⟨rfl,rfl⟩:=oY
   constructor
   ·rw[MN g hi,h1.1]
    simp only[Option.bind_some,aV,hw]
   ·intro nm; simp only[pt,hσ.kind,hi,h1.1,Option.bind_some,aV,nj,hw]
 simp only at h
 split at h
 ·rename_i hf
  rw[HN]at hf
  have wk:nh hp as (.val v,hX)=some (.val (cB m),[]):=by
   rw[zD,nt]
   simp only[Option.bind_some,MX,hf,cond_true]
  obtain⟨q1,q2⟩:=O0 _ wk
  refine⟨_,[],_,_,_,_,q1,q2,fun n hn=>?_,⟨.inr (hR _),hh,dk.refl _,fun q hq=>by simp at hq,fun _ _ _=>rfl,Nat.le_refl _,fun _ _ h=>by simp at h⟩,h⟩
  simp only[Jp,List.mem_append,gl,nt,hf,if_true]at hn
  rcases hn with hn|hn
  ·exact h1.2 n hn
  ·simp[Pure.pure,RM.log]at hn
 ·rename_i hf
  rw[HN]at hf
  obtain⟨wr,rd2,w,f1,f2,h⟩:=ow hh h
  rw[RL.names ha]at f1
  have wk:nh hp as (.val v,hX)=some (.val (cB m),w):=by
   rw[zD,nt]
   simp only[Option.bind_some,MX,hf,cond_false,f1.1,Option.map_some]
  obtain⟨q1,q2⟩:=O0 _ wk
  refine⟨_,_,_,_,_,_,q1,q2,fun n hn=>?_,FW.re hh f2 hR,h⟩
  simp only[Jp,List.mem_append,gl,nt,hf,Bool.false_eq_true,if_false]at hn
  simp only[List.mem_append]
  rcases hn with hn|hn
  ·exact .inl (h1.2 n hn)
  ·rw[RM.eu,f1.1]at hn
   simp only[List.mem_append]at hn
   rcases hn with hn|hn
   ·exact .inr (f1.2 n hn)
   ·simp[Pure.pure,RM.log]at hn
end
end Go.PI
end
section
/- PS, part L: states, regions. -/
namespace Go.PI
variable {T:dw}{ρ:Type}
theorem Dr{v:Value}{K:Value→Tr ρ}:xS v K=K v:=by
 unfold xS
 split<;>rfl
mutual
theorem k8:∀ {v:SV T.den} {K:SV T.den→Tr ρ},dx v K=K v
 |.lit v,K=>by simp only[dx]; exact Dr
 |.agg l,K=>by simp only[dx]; exact iK
 |.jt l,K=>by simp only[dx]; exact iK
 |.sl l,K=>by simp only[dx]; exact iK
 |.bf e j,K=>by simp only[dx]; exact k8
 |.iT fn f c,K=>by simp only[dx]; rw[iK,iK]
 |.gg t v,K=>by simp only[dx]; exact k8
 |.dead,K=>by simp only[dx]
 |.hole,K=>by simp only[dx]
 |.jr t l,K=>by simp only[dx]
 |.ref n c i j,K=>by simp only[dx]
 |.iM n c i j ln cp,K=>by simp only[dx]
 |.bq esz n c rg cap,K=>by simp only[dx]
 |.mp y n,K=>by simp only[dx]
 |.wI t l c b,K=>by simp only[dx]
 |.nz,K=>by simp only[dx]
 |.sD v s l i,K=>by simp only[dx]; exact k8
theorem iK:∀ {l:List (SV T.den)} {K:List (SV T.den)→Tr ρ},lM l K=K l
 |[],K=>by simp only[lM]
 |x::xs,K=>by simp only[lM]; rw[k8,iK]
end
theorem H7[ab]{o:aB T.den}{K:aB T.den→Tr ρ}:KL o K=K o:=by
 cases o with
 |arr g cl f c es=>exact iK
 |oU fn ps as bd fr=>exact iK
 |_=>rfl
theorem jO[ab]:∀ {H:ah T.den} {K:ah T.den→Tr ρ},mR H K=K H
 |[],K=>rfl
 |none::r,K=>by simp only[mR]; exact jO
 |some o::r,K=>by simp only[mR]; rw[H7,jO]
theorem nJ:∀ {l:List Nat} {K:List Nat→Tr ρ},sb l K=K l
 |[],K=>rfl
 |x::r,K=>by simp only[sb]; exact nJ
theorem Ac[ab]:∀ {l:sE T.den} {K:sE T.den→Tr ρ},Bg l K=K l
 |[],K=>rfl
 |(d,v)::r,K=>by simp only[Bg]; rw[k8,Ac]
theorem force_eq[ab]{s:bx T.den}{K:bx T.den→Tr ρ}:s.force K=K s:=by
 obtain⟨fn,n,fr,hp,wf,wh,js⟩:=s
 simp only[bx.force]
 rw[Ac,jO,nJ,nJ]
theorem cD[ab]{s:bx T.den}{dst:Option Tmp}{v:SV T.den}{wr:List (Nat×aB T.den)}{K:bx T.den→Tr ρ}:s.fh dst v wr K=K (s.step dst v wr):=by
 obtain⟨fn,n,fr,hp,wf,wh,js⟩:=s
 have h1:∀ {K':ah T.den→List Nat→Tr ρ},Fs hp wh wr K'=K' (bc hp wr) (wr.map (·.1)++wh):=by
  intro K'
  cases wr with
  |nil=>rfl
  |cons w r=>simp only[Fs]; rw[jO,nJ]
 simp only[bx.fh,h1]
 cases dst with
 |none=>rfl
 |some d=>
  simp only
  split
  ·rename_i hd
   simp only[bx.step,KE,tz,hd,NC]
  ·rename_i hd
   rw[k8]
   simp only[bx.step,KE,tz,hd,NC]
theorem qH{ops:Array Oper}:∀ {l:List Oper} {K:List (G×Oper)→Tr ρ},og ops l K=K (l.map fun o=>(eV ops o,o))
 |[],K=>rfl
 |o::r,K=>by
  simp only[og,List.map_cons]
  split<;>rename_i h<;>rw[qH,h]
theorem Ad:∀ {l:List (G×Item)} {K:List (G×Item)→Tr ρ},xU l K=K l
 |[],K=>rfl
 |(g,⟨i,nm,o⟩)::r,K=>by simp only[xU]; exact Ad
theorem rB[ab]{ops:Array Oper}:∀ (l:List Oper) (m i n:Nat),lO (bD i n (l.take m)) (l.map fun o=>(eV ops o,o))=(bD i n (l.take m)).map fun x=>(eV ops x.o,x)
 |[],m,i,n=>by simp[bD,lO]
 |o::r,0,i,n=>by simp[bD,lO]
 |o::r,m+1,i,n=>by
  simp only[List.take_succ_cons,bD,List.map_cons,lO]
  rw[rB]
def kD{den:Nat→Type}(js:List (Nat×kW))(H:ah den)(hp:ag):Prop:=∀ n st,cm js n=some st→recAt H n=true∧ib hp n=some st
theorem jo{den:Nat→Type}{H:ah den}{n:Nat}(h:recAt H n=true):n<H.length:=by
 grind[recAt]
theorem p5{den:Nat→Type}{H H':ah den}{n:Nat}(h:H'[n]?=H[n]?):recAt H' n=recAt H n:=by unfold recAt; rw[h]
theorem nK{hp cq:ag}{n:Nat}(h:cq[n]?=hp[n]?):ib cq n=ib hp n:=by unfold ib; rw[h]
theorem kD.Bm{den:Nat→Type}{js:List (Nat×kW)}{H H':ah den}{hp cq:ag}(h:kD js H hp)(hk:∀ n,recAt H n=true→H'[n]?=H[n]?∧cq[n]?=hp[n]?):kD js H' cq:=by
 intro n st hn
 obtain⟨h1,h2⟩:=h n st hn
 obtain⟨h3,h4⟩:=hk n h1
 exact⟨by rw[p5 h3]; exact h1,by rw[nK h4]; exact h2⟩
theorem tK{n:Nat}:∀ {wr:List (Nat×aM)} {hp:ag},n<hp.length→n∉wr.map (·.1)→(ak hp wr)[n]?=hp[n]?
 |[],hp,_,_=>rfl
 |(m,o)::wr,hp,hn,hm=>by
  simp only[List.map_cons,List.mem_cons,not_or]at hm
  simp only[ak]
  have:n<(setObj hp m o).length∧(setObj hp m o)[n]?=hp[n]?:=by
   grind[setObj]
  rw[tK this.1 hm.2,this.2]
theorem kD.re[ab]{js:List (Nat×kW)}{H:ah T.den}{hp:ag}(h:kD js H hp)(hh:RH T H hp){v:SV T.den}{wr:List (Nat×aB T.den)}{e:dm}(he:RE T H hp v wr e):kD js (bc H wr) (ak hp e.wr):=by
 refine h.Bm fun n hn=>⟨he.Bm n (he.KW n hn) (jo hn),tK (by rw[←hh.length]; exact jo hn) fun hc=>?_⟩
 obtain⟨q,hq,rfl⟩:=List.mem_map.1 hc
 exact he.KW _ hn (he.names q hq)
structure RS(T:dw)(s:bx T.den)(st:St):Prop where
 fn:s.fn=st.fn
 n:st.fr.length=s.n
 fr:∀ t,RV T s.hp (cH s.fr t) (st.fr.getD t .undef)
 hp:RH T s.hp st.hp
 js:kD s.js s.hp st.hp
structure bj(s s':bx T.den):Prop where
 fn:s'.fn=s.fn
 n:s'.n=s.n
 fr:∀ t,t∉s'.wf→cH s'.fr t=cH s.fr t
 wf:∀ t,t∈s.wf→t∈s'.wf
 hp:∀ n:Nat,n<s.hp.length→n∉s'.wh→s'.hp[n]?=s.hp[n]?
 wh:∀ n,n∈s.wh→n∈s'.wh
 len:s.hp.length≤s'.hp.length
 grow:dk s.hp s'.hp
theorem bj.refl[ab](s:bx T.den):bj s s:=⟨rfl,rfl,fun _ _=>rfl,fun _ h=>h,fun _ _ _=>rfl,fun _ h=>h,Nat.le_refl _,dk.refl _⟩
theorem bj.trans[ab]{s s' tT:bx T.den}(h:bj s s')(h':bj s' tT):bj s tT where
 fn:=h'.fn.trans h.fn
 n:=h'.n.trans h.n
 fr:=fun t ht=>by rw[h'.fr t ht,h.fr t (fun hc=>ht (h'.wf t hc))]
 wf:=fun t ht=>h'.wf t (h.wf t ht)
 hp:=fun n hn ht=>by rw[h'.hp n (Nat.lt_of_lt_of_le hn h.len) ht,h.hp n hn (fun hc=>ht (h'.wh n hc))]
 wh:=fun t ht=>h'.wh t (h.wh t ht)
 len:=Nat.le_trans h.len h'.len
 grow:=h.grow.trans h'.grow
theorem kl{n d t:Nat}{fr:sE T.den}{v:SV T.den}:cH (tz n fr d v) t=if t=d∧d<n then v else cH fr t:=by
 unfold tz
 split
 ·rename_i h
  have:=Nat.le_of_ble_eq_true h
  rw[if_neg (by omega)]
 ·rename_i h
  have:¬n≤d:=fun hc=>by rw[Nat.ble_eq_true_of_le hc]at h; simp at h
  simp only[cH]
  split
  ·rename_i he
   have:=Nat.eq_of_beq_eq_true he
   rw[if_pos (by omega)]
  ·rename_i he
   have:¬d=t:=fun hc=>by subst hc; simp at he
   rw[if_neg (by omega)]
theorem Ds{l:List AV}{d t:Nat}{a u:AV}:(l.set d a).getD t u=if t=d∧d<l.length then a else l.getD t u:=by
 grind
theorem RS.step[ab]{s:bx T.den}{st:St}(h:RS T s st){v:SV T.den}{wr:List (Nat×aB T.den)}{e:dm}(he:RE T s.hp st.hp v wr e)(dst:Option Tmp):
  RS T (s.step dst v wr) { st with fr:=bC st.fr dst e.val,hp:=ak st.hp e.wr }∧bj s (s.step dst v wr):=by
 refine⟨⟨h.fn,?_,fun t=>?_,he.hp,h.js.re h.hp he⟩,⟨rfl,rfl,fun t ht=>?_,fun t ht=>?_,fun n hn ht=>?_,fun n hn=>?_,he.len,he.grow⟩⟩
 ·simp only[bx.step,bC]; cases dst<;>simp[h.n]
 ·simp only[bx.step]
  cases dst with
  |none=>exact(h.fr t).mono he.grow
  |some d=>
   simp only[KE,bC]
   rw[kl,Ds,h.n]
   split
   ·exact he.val
   ·exact(h.fr t).mono he.grow
 ·simp only[bx.step]at ht ⊢
  cases dst with
  |none=>rfl
  |some d=>
   simp only[NC,List.mem_cons,not_or]at ht
   simp only[KE,kl]
   rw[if_neg (by omega)]
 ·simp only[bx.step]
  cases dst with
  |none=>exact ht
  |some d=>exact List.mem_cons_of_mem _ ht
 ·simp only[bx.step,List.mem_append,not_or]at ht ⊢
  exact he.Bm n ht.1 hn
 ·simp only[bx.step,List.mem_append]
  exact .inr hn
theorem Dt[ab]{H:ah T.den}{hp:ag}(hh:RH T H hp):RE T H hp (.lit undef) [] ⟨.undef,[]⟩:=
 ⟨bm undef,hh,dk.refl _,fun q h=>by simp at h,fun _ _ _=>rfl,Nat.le_refl _,fun _ _ h=>by simp at h⟩
theorem rC:∀ (c:List Value),av (den:=T.den) (c.map .lit)=true
 |[]=>by simp[av]
 |x::r=>by simp only[List.map_cons,av,aD,rC r,Bool.and_self]
theorem RS.ev[ab]{s:bx T.den}{st:St}(h:RS T s st)(o:Operand):RV T s.hp (cW s.fr o) (ay st.fr o):=by
 cases o with
 |tmp t=>exact h.fr t
 |const v=>
  simp only[cW,ay,KD,nO]
  cases v with
  |agg c=>
   simp only
   by_cases hc:c.toList.all (fun v=>ba (.lit v))=true
   ·rw[if_pos hc,if_pos hc]
    right
    simp only[R]
    exact⟨_,rfl,RL.lits _⟩
   ·rw[if_neg hc]
    exact .inl rfl
  |tuple c=>
   right
   simp only[gP,R]
   exact⟨_,rfl,RL.lits _⟩
  |_=>exact bm _
 |global g=>
  simp only[cW,ay,BM]
  cases ab.g g with
  |none=>exact bm _
  |some c=>
   right
   simp only[R]
   exact⟨_,rfl,⟨_,rfl,RL.lits _⟩,by simp only[aD]; exact rC _⟩
 |func f=>exact bm _
theorem yh[ab]{g:G}{s:bx T.den}{st:St}(h:RS T s st){K:bx T.den→Bool→Tr ρ}{r:ρ}(hk:(wK g s K).run=some r):
  ∃ s' b,RS T s' st∧bj s s'∧sO st.fr g=some b∧s'.hp=s.hp∧(K s' b).run=some r:=by
 unfold wK at hk
 split at hk
 ·exact⟨s,true,h,bj.refl _,rfl,rfl,hk⟩
 ·exact⟨s,false,h,bj.refl _,rfl,rfl,hk⟩
 ·rename_i d want
  split at hk
  ·rename_i b hb
   have ha:=(h.fr d).lit hb
   have key:∀ b',b=b'→RS T (s.step (some d) (.lit (.bool b')) []) st∧bj s (s.step (some d) (.lit (.bool b')) []):=by
    rintro b' rfl
    have h1:=h.step (v:=.lit (.bool b)) (wr:=[]) (e:=⟨.lit (.bool b),[]⟩) ⟨bm _,h.hp,dk.refl _,fun q hq=>by simp at hq,fun _ _ _=>rfl,Nat.le_refl _,fun _ _ h=>by simp at h⟩ (some d)
    refine⟨?_,h1.2⟩
    have e:({ st with fr:=bC st.fr (some d) (AV.lit (.bool b)),hp:=ak st.hp [] }:St)=st:=by
     have:st.fr.set d (.lit (.bool b))=st.fr:=by
      by_cases hd:d<st.fr.length
      ·refine gW ?_
       rw[List.getD_eq_getElem?_getD]at ha
       rw[List.getElem?_eq_getElem hd]at ha ⊢
       exact congrArg some ha
      ·exact List.set_eq_of_length_le (Nat.le_of_not_lt hd)
     simp only[bC,ak,this]
    rw[e]at h1
    exact h1.1
   have hw:sO st.fr (.on d want)=some (b==want):=by simp only[sO]; rw[ha]; rfl
   rcases fp hk with ⟨Ph,Ex⟩|⟨Ph,Ex⟩
   ·subst Ph
    rw[cD]at Ex
    obtain⟨k1,k2⟩:=key true rfl
    exact⟨_,_,k1,k2,hw,rfl,Ex⟩
   ·subst Ph
    rw[cD]at Ex
    obtain⟨k1,k2⟩:=key false rfl
    exact⟨_,_,k1,k2,hw,rfl,Ex⟩
  ·rename_i x hx
   have ha:=(h.fr d).lit hx
   refine⟨s,false,h,bj.refl _,?_,rfl,hk⟩
   simp only[sO]; rw[ha]; rfl
  ·simp[Tr.run]at hk
theorem p6[ab]{C:Ctx}{step:Oper→bx T.den→(bx T.den→Tr ρ)→Tr ρ}{r:ρ}
  (dG:∀ o s st K,RS T s st→(step o s K).run=some r→∃ s' st',ie C o st=some (.norm st')∧RS T s' st'∧bj s s'∧(K s').run=some r) :
  ∀ (l:List (G×Oper)) (s:bx T.den) (st:St) (K:bx T.den→Tr ρ),RS T s st→(vU step l s K).run=some r→∃ s' st',sZ C l st=some (.norm st')∧RS T s' st'∧bj s s'∧(K s').run=some r
 |[],s,st,K,h,hk=>⟨s,st,rfl,h,bj.refl _,hk⟩
 |(g,o)::l,s,st,K,h,hk=>by
  simp only[vU]at hk
  obtain⟨s1,b,h1,h2,h3,_,hk⟩:=yh h hk
  cases b with
  |false=>
   simp only at hk
   rw[cD]at hk
   obtain⟨g1,g2⟩:=h1.step (Dt h1.hp) o.dst
   obtain⟨s',st',i1,i2,i3,hk⟩:=p6 dG l _ _ K g1 hk
   refine⟨s',st',?_,i2,(h2.trans g2).trans i3,hk⟩
   simp only[sZ,h3]
   exact i1
  |true=>
   simp only at hk
   obtain⟨s2,NT,g1,g2,g3,hk⟩:=dG o s1 st _ h1 hk
   obtain⟨s',st',i1,i2,i3,hk⟩:=p6 dG l _ _ K g2 hk
   refine⟨s',st',?_,i2,(h2.trans g3).trans i3,hk⟩
   simp only[sZ,h3,g1,Option.bind_some]
   exact i1
def Bq(a b:ft):Prop:=a.idx=b.idx∧(∀ n,n∈a.rd→n∈b.rd)∧∀ n,n∈a.wr→n∈b.wr
theorem GY{a a' b b':List Nat}(ha:∀ n,n∈a→n∈a')(hb:∀ n,n∈b→n∈b')(h:Eg a' b'=true):Eg a b=true:=by
 grind[decide_eq_false_iff_not,Eg]
theorem H8[ab]{pr:List Nat}{x x' y y':ft}(hx:Bq x x')(hy:Bq y y')(h:rG pr x' y'=true):rG pr x y=true:=by
 unfold rG at h ⊢
 rw[hx.1,hy.1]
 simp only[Bool.or_eq_true,Bool.and_eq_true]at h ⊢
 refine h.imp id fun h=>⟨GY hx.2.2 (fun n hn=>?_) h.1,GY hy.2.2 hx.2.1 h.2⟩
 simp only[List.mem_append]at hn ⊢
 exact hn.imp (hy.2.1 n) (hy.2.2 n)
theorem yi[ab]{pr:List Nat}:∀ {l l':List ft},aw Bq l l'→eU pr l'=true→eU pr l=true
 |[],[],_,_=>rfl
 |x::xs,y::ys,h,hk=>by
  simp only[eU,Bool.and_eq_true]at hk ⊢
  refine⟨?_,yi h.2 hk.2⟩
  rw[List.all_eq_true]at hk ⊢
  intro z hz
  obtain⟨i,hi⟩:=List.getElem?_of_mem hz
  obtain⟨z',Ry,hle⟩:=aw.get h.2 hi
  exact H8 h.1 hle (hk.1 z' (List.mem_of_getElem? Ry))
theorem Br{pr:List Nat}{fs:List ft}(h:qC pr fs=true):eU pr fs=true:=by
 unfold qC at h
 split at h
 ·rename_i hw
  clear h
  induction fs with
  |nil=>rfl
  |cons x xs ih=>
   simp only[List.all_cons,Bool.and_eq_true]at hw
   simp only[eU,Bool.and_eq_true]
   refine⟨?_,ih hw.2⟩
   rw[List.all_eq_true]
   intro y hy
   have h2:=List.all_eq_true.1 hw.2 y hy
   have e1:x.wr=[]:=by simpa using hw.1
   have e2:y.wr=[]:=by simpa using h2
   simp[rG,e1,e2,Eg]
 ·exact h
def K8[ab]:Nat→List Item→Prop
 |_,[]=>True
 |n,x::r=>x.nm=n∧K8 (if au x.o.op then n+1 else n) r
def sv[ab](l:List Item):Nat:=(l.filter fun x=>au x.o.op).length
theorem p7[ab](x:Item)(l:List Item):sv (x::l)=(if au x.o.op then 1 else 0)+sv l:=by
 grind[sv]
theorem yj[ab]:∀ (l:List Oper) (i n:Nat),sv (bD i n l)=(l.filter fun o=>au o.op).length
 |[],_,_=>rfl
 |o::r,i,n=>by
  rw[bD,p7,yj r,List.filter_cons]
  split<;>simp[*]<;>omega
theorem Ae[ab]:∀ (l:List Oper) (i n:Nat),K8 n (bD i n l)
 |[],_,_=>trivial
 |_::r,i,n=>⟨rfl,Ae r (i+1) _⟩
theorem tL:∀ {wr:List (Nat×aB T.den)} {H:ah T.den},(∀ q,q∈wr→q.1<H.length)→(bc H wr).length=H.length
 |[],H,_=>rfl
 |(n,o)::wr,H,h=>by
  have h0:=h (n,o) (by simp)
  have e:(bJ H n o).length=H.length:=by
   grind[bJ]
  simp only[bc]
  rw[tL (fun q hq=>by rw[e]; exact h q (List.mem_cons_of_mem _ hq)),e]
theorem u4[ab]{C:Ctx}{ops:Array Oper}{step:Nat→Oper→bx T.den→EK T ρ→Tr ρ}{r:ρ}
  (dG:∀ nm o s st K,RS T s st→(nm=s.hp.length∨s.hp[nm]?=some none)→(au o.op=false→nm=s.hp.length)→(step nm o s K).run=some r →
    ∃ v wr rd e lg,B9 C nm o st.fr st.hp=some (e,lg)∧(∀ n,n∈lg→n∈rd)∧RE T s.hp st.hp v wr e∧(K v wr rd).run=some r) :
  ∀ (l:List Item) (n:Nat) (s:bx T.den) (st:St) (fs:List ft) (K:bx T.den→List ft→Tr ρ),K8 n l→n+sv l=s.hp.length→(∀ m:Nat,n≤m→m<s.hp.length→s.hp[m]?=some none)→RS T s st →
    (sh step (l.map fun x=>(eV ops x.o,x)) s fs K).run=some r →
    ∃ s' st' Qs M4,sU C ops l st=some (st',M4)∧aw Bq M4 Qs∧RS T s' st'∧bj s s'∧(K s' (fs++Qs)).run=some r
 |[],n,s,st,fs,K,_,_,_,h,hk=>⟨s,st,[],[],rfl,trivial,h,bj.refl _,by simpa[sh] using hk⟩
 |x::l,n,s,st,fs,K,hn,hle,pj,h,hk=>by
  obtain⟨Ul,Mg⟩:=hn
  simp only[List.map_cons,sh]at hk
  obtain⟨s1,b,h1,h2,h3,h4,hk⟩:=yh h hk
  have hw:cF ops st.fr x.o=some b:=by rw[BP]; exact h3
  cases b with
  |false=>
   simp only at hk
   rw[cD]at hk
   obtain⟨g1,g2⟩:=h1.step (Dt h1.hp) x.o.dst
   have ehp:(s1.step x.o.dst (.lit undef) []).hp=s.hp:=by simp only[bx.step,bc]; exact h4
   have hinv:∀ m:Nat,(if au x.o.op then n+1 else n)≤m→m<(s1.step x.o.dst (.lit undef) []).hp.length→(s1.step x.o.dst (.lit undef) []).hp[m]?=some none:=by
    grind
   have hb:(if au x.o.op then n+1 else n)+sv l=s.hp.length:=by
    rw[p7]at hle; split<;>simp_all<;>omega
   ·obtain⟨s',st',Qs,M4,i1,i2,i3,i4,hk⟩:=u4 dG l _ _ _ _ K Mg (by rw[ehp]; exact hb) hinv g1 hk
    refine⟨s',st',⟨x.idx,[],[]⟩::Qs,⟨x.idx,[],[]⟩::M4,?_,⟨⟨rfl,fun _ h=>h,fun _ h=>h⟩,i2⟩,i3,(h2.trans g2).trans i4,by simpa using hk⟩
    simp only[sU,Ca,hw,Option.bind_some]
    have Wr:sU C ops l { st with fr:=bC st.fr x.o.dst .undef }=some (st',M4):=i1
    rw[Wr]; rfl
  |true=>
   simp only at hk
   have nS:x.at s1.hp.length=s1.hp.length∨s1.hp[x.at s1.hp.length]?=some none:=by
    grind[Item.at]
   obtain⟨v,wr,rd,e,lg,e1,e2,e3,hk⟩:=dG (x.at s1.hp.length) x.o s1 st _ h1 nS (fun h=>by simp only[Item.at,h]) hk
   rw[show s1.hp.length=st.hp.length from h1.hp.length]at e1
   split at hk
   case h_2=>simp[Tr.run]at hk
   rename_i HB
   rw[List.all_eq_true]at HB
   rw[cD]at hk
   obtain⟨g1,g2⟩:=h1.step e3 x.o.dst
   have bg:∀ q,q∈wr→q.1<s1.hp.length∧((au x.o.op=true∧q.1=x.nm)∨∃ o,s1.hp[q.1]?=some (some o)):=by
    grind
   have S0:(s1.step x.o.dst v wr).hp.length=s.hp.length:=by
    simp only[bx.step]
    rw[tL (fun q hq=>(bg q hq).1),h4]
   have hinv:∀ m:Nat,(if au x.o.op then n+1 else n)≤m→m<(s1.step x.o.dst v wr).hp.length→(s1.step x.o.dst v wr).hp[m]?=some none:=by
    intro m hm IA
    rw[S0]at IA
    have hold:s1.hp[m]?=some none:=by rw[h4]; exact pj m (by split at hm<;>omega) IA
    simp only[bx.step]
    rw[e3.Bm m ?_ (by rw[h4]; exact IA)]
    ·exact hold
    ·grind
   have hb:(if au x.o.op then n+1 else n)+sv l=s.hp.length:=by
    rw[p7]at hle; split<;>simp_all<;>omega
   ·obtain⟨s',st',Qs,M4,i1,i2,i3,i4,hk⟩:=u4 dG l _ _ _ _ K Mg (by rw[S0]; exact hb) hinv g1 hk
    refine⟨s',st',⟨x.idx,rd,wr.map (·.1)⟩::Qs,⟨x.idx,lg,e.wr.map (·.1)⟩::M4,?_,⟨⟨rfl,e2,fun n hn=>?_⟩,i2⟩,i3,(h2.trans g2).trans i4,by simpa using hk⟩
    ·simp only[sU,Ca,hw,e1,Option.bind_some,Pq]
     rw[if_pos ?_]
     ·simp_all
     ·rw[List.all_eq_true]
      intro q hq
      obtain⟨q',hq',eq'⟩:=List.mem_map.1 (e3.names q hq)
      obtain⟨c1,c2⟩:=bg q' hq'
      rw[eq']at c1 c2
      simp only[Bool.and_eq_true,decide_eq_true_eq,Bool.or_eq_true]
      refine⟨by rw[←h1.hp.length]; exact c1,c2.imp id fun⟨o,ho⟩=>?_⟩
      obtain⟨a,ha,_⟩:=h1.hp.obj ho
      rw[ha]
    ·obtain⟨q,hq,rfl⟩:=List.mem_map.1 hn
     exact e3.names q hq
end Go.PI
end
section
/- PS, part M: what is dropped; results; calls of what is looked into. -/
namespace Go.PI
variable {T:dw}{ρ:Type}
section
variable {den:Nat→Type}{n:Nat}
mutual
theorem kV:∀ {v:SV den},aD v=true→bt n v=true
 |.dead,h=>by simp[aD]at h
 |.hole,h=>by simp[aD]at h
 |.lit v,h=>rfl
 |.agg l,h=>by simp only[aD]at h; simp only[bt]; exact ei h
 |.jt l,h=>by simp only[aD]at h; simp only[bt]; exact ei h
 |.sl l,h=>rfl
 |.jr t l,h=>rfl
 |.wI t l c b,h=>rfl
 |.nz,h=>rfl
 |.bf e j,h=>rfl
 |.ref ..,h=>by simp[aD]at h
 |.iM ..,h=>by simp[aD]at h
 |.bq ..,h=>by simp[aD]at h
 |.iT fn f c,h=>by
  simp only[aD,Bool.and_eq_true]at h
  simp only[bt,Bool.and_eq_true]
  exact⟨ei h.1,ei h.2⟩
 |.gg t v,h=>by simp only[aD]at h; simp only[bt]; exact kV h
 |.sD v s l i,h=>by simp only[aD]at h; simp only[bt]; exact kV h
 |.mp ..,h=>by simp[aD]at h
theorem ei:∀ {l:List (SV den)},av l=true→gx n l=true
 |[],_=>rfl
 |x::xs,h=>by
  simp only[av,Bool.and_eq_true]at h
  simp only[gx,Bool.and_eq_true]
  exact⟨kV h.1,ei h.2⟩
end
end
section
variable {H:ah T.den}{hp:ag}{n:Nat}
theorem fL.take{den:Nat→Type}{H:ah den}{m c aq:Nat}(h:fL H m c aq)(hm:m<n):fL (H.take n) m c aq:=by
 obtain⟨o,h1,h2,h3⟩:=h
 exact⟨o,by rw[List.getElem?_take_of_lt hm]; exact h1,h2,h3⟩
mutual
theorem R.take:∀ {v:SV T.den} {a:AV},R T H v a→bt n v=true→R T (H.take n) v a
 |.dead,_,h,_=>by simp[R]at h
 |.hole,_,h,_=>by simpa[R] using h
 |.lit v,a,h,_=>by simpa[R] using h
 |.agg l,a,h,hb=>by
  simp only[R]at h ⊢
  simp only[bt]at hb
  obtain⟨l',h1,h2⟩:=h
  exact⟨l',h1,RL.take h2 hb⟩
 |.jt l,a,h,hb=>by
  simp only[R]at h ⊢
  simp only[bt]at hb
  obtain⟨l',h1,h2⟩:=h
  exact⟨l',h1,RL.take h2 hb⟩
 |.sl l,a,h,_=>by
  simp only[R]at h ⊢
  obtain⟨l',h1,h2,h3⟩:=h
  exact⟨l',h1,RL.take h2 (ei h3),h3⟩
 |.jr t l,a,h,_=>by simpa[R] using h
 |.wI t l c b,a,h,_=>by simp only[R]at h ⊢; exact h
 |.nz,a,h,_=>by simp only[R]at h ⊢; exact h
 |.bf e j,a,h,_=>by
  simp only[R]at h ⊢
  obtain⟨e',h1,h2,h3⟩:=h
  exact⟨e',h1,R.take h2 (kV h3),h3⟩
 |.ref m c i j,a,h,hb=>by
  simp only[R]at h ⊢
  simp only[bt,decide_eq_true_eq]at hb
  obtain⟨aq,h1,h2⟩:=h
  exact⟨aq,h1,h2.take hb⟩
 |.iM m c i j ln cp,a,h,hb=>by
  simp only[R]at h ⊢
  simp only[bt,decide_eq_true_eq]at hb
  obtain⟨aq,h1,h2⟩:=h
  exact⟨aq,h1,h2.take hb⟩
 |.bq esz m c rg cap,a,h,hb=>by
  simp only[R]at h ⊢
  simp only[bt,decide_eq_true_eq]at hb
  obtain⟨aq,h1,h2⟩:=h
  exact⟨aq,h1.take hb,h2⟩
 |.iT fn f c,a,h,hb=>by
  simp only[R]at h ⊢
  simp only[bt,Bool.and_eq_true]at hb
  obtain⟨f',c',h1,h2,h3⟩:=h
  exact⟨f',c',h1,RL.take h2 hb.1,RL.take h3 hb.2⟩
 |.gg t v,a,h,hb=>by
  simp only[R]at h ⊢
  simp only[bt]at hb
  obtain⟨v',h1,h2⟩:=h
  exact⟨v',h1,R.take h2 hb⟩
 |.mp y m,a,h,hb=>by
  simp_all[R,bt]
 |.sD v s l i,a,h,hb=>by
  simp only[R]at h ⊢
  simp only[bt]at hb
  obtain⟨a0,h1,h2⟩:=h
  exact⟨a0,R.take h1 hb,h2⟩
theorem RL.take:∀ {l:List (SV T.den)} {m:List AV},RL T H l m→gx n l=true→RL T (H.take n) l m
 |[],[],_,_=>by simp[RL]
 |x::xs,y::ys,h,hb=>by
  simp only[RL]at h ⊢
  simp only[gx,Bool.and_eq_true]at hb
  exact⟨R.take h.1 hb.1,RL.take h.2 hb.2⟩
 |[],_::_,h,_=>by simp[RL]at h
 |_::_,[],h,_=>by simp[RL]at h
end
theorem fL.lt{den:Nat→Type}{H:ah den}{m c aq:Nat}(h:fL H m c aq):m<H.length:=by
 obtain⟨o,h1,_⟩:=h
 exact(List.getElem?_eq_some_iff.1 h1).1
mutual
theorem R.lt:∀ {v:SV T.den} {a:AV},R T H v a→bt H.length v=true
 |.dead,_,h=>by simp[R]at h
 |.hole,_,h=>rfl
 |.lit v,a,h=>rfl
 |.agg l,a,h=>by
  simp only[R]at h
  simp only[bt]
  obtain⟨l',h1,h2⟩:=h
  exact RL.lt h2
 |.jt l,a,h=>by
  simp only[R]at h
  simp only[bt]
  obtain⟨l',h1,h2⟩:=h
  exact RL.lt h2
 |.sl l,a,h=>rfl
 |.jr t l,a,h=>rfl
 |.wI t l c b,a,h=>rfl
 |.nz,a,h=>rfl
 |.bf e j,a,h=>rfl
 |.ref m c i j,a,h=>by
  simp only[R]at h
  simp only[bt,decide_eq_true_eq]
  obtain⟨aq,h1,h2⟩:=h
  exact h2.lt
 |.iM m c i j ln cp,a,h=>by
  simp only[R]at h
  simp only[bt,decide_eq_true_eq]
  obtain⟨aq,h1,h2⟩:=h
  exact h2.lt
 |.bq esz m c rg cap,a,h=>by
  simp only[R]at h
  simp only[bt,decide_eq_true_eq]
  obtain⟨aq,h1,h2⟩:=h
  exact h1.lt
 |.iT fn f c,a,h=>by
  simp only[R]at h
  simp only[bt,Bool.and_eq_true]
  obtain⟨f',c',h1,h2,h3⟩:=h
  exact⟨RL.lt h2,RL.lt h3⟩
 |.gg t v,a,h=>by
  simp only[R]at h
  simp only[bt]
  obtain⟨v',h1,h2⟩:=h
  exact R.lt h2
 |.mp y m,a,h=>by
  grind[R,bt]
 |.sD v s l i,a,h=>by
  simp only[R]at h
  simp only[bt]
  obtain⟨a0,h1,h2⟩:=h
  exact R.lt h1
theorem RL.lt:∀ {l:List (SV T.den)} {m:List AV},RL T H l m→gx H.length l=true
 |[],[],_=>rfl
 |x::xs,y::ys,h=>by
  simp only[RL]at h
  simp only[gx,Bool.and_eq_true]
  exact⟨R.lt h.1,RL.lt h.2⟩
 |[],_::_,h=>by simp[RL]at h
 |_::_,[],h=>by simp[RL]at h
end
theorem yk{n:Nat}:∀ {l:List AV},cO n l=l.all (below n)
 |[]=>rfl
 |x::xs=>by simp only[cO,List.all_cons,yk]
theorem mT:∀ {a:AV},closed a=true→below n a=true
 |.lit _,_=>rfl
 |.agg l,h=>by simp only[Go.PI.closed]at h; simp only[Go.PI.below]; exact gb h
 |.jt l,h=>by simp only[Go.PI.closed]at h; simp only[Go.PI.below]; exact gb h
 |.sl _,_|.o7 _ _,_|.bf _ _,_|.any,_|.nz,_=>rfl
 |.ref ..,h|.bq ..,h|.iM ..,h|.mp ..,h=>by simp[Go.PI.closed]at h
 |.iT fn f c,h=>by
  simp only[Go.PI.closed,Bool.and_eq_true]at h
  simp only[Go.PI.below,Bool.and_eq_true]
  exact⟨gb h.1,gb h.2⟩
 |.gg t v,h=>by simp only[Go.PI.closed]at h; simp only[Go.PI.below]; exact mT h
where gb:∀ {l:List AV},aZ l=true→cO n l=true
 |[],_=>rfl
 |x::xs,h=>by
  simp only[aZ,Bool.and_eq_true]at h
  simp only[cO,Bool.and_eq_true]
  exact⟨mT h.1,gb h.2⟩
theorem ym(hT:T.Ok){t:Nat}:∀ {l:List (T.den t)} {m:List AV},aw (T.rp t) l m→cO n m=true
 |[],[],_=>rfl
 |_::_,_::_,h=>by
  simp only[cO,Bool.and_eq_true]
  exact⟨mT (hT.closed _ _ _ h.1),ym hT h.2⟩
theorem Du:∀ {fr:List (SV T.den)} {vs:List AV},aw (RD T H) fr vs→(fr.all fun v=>bO v||bt n v)=cO n vs
 |[],[],_=>rfl
 |v::fr,a::vs,h=>by
  simp only[List.all_cons,cO]
  rw[Du h.2]
  congr 1
  rcases h.1 with ⟨rfl,rfl⟩|h1
  ·rfl
  ·have:bO v=false:=by cases v<;>first|rfl|simp[R]at h1
   rw[this,R.below h1]; rfl
theorem Af[ab](hT:T.Ok){o:Option (aB T.den)}{a:Option aM}(h:Bk T H o a):jW n o=kn n a:=by
 cases o with
 |none=>cases a with
  |none=>rfl
  |some a=>exact h.elim
 |some o=>cases a with
  |none=>exact h.elim
  |some a=>
   cases o with
   |arr g cl f cur es=>
    obtain⟨es',rfl,cC,_⟩:=h
    simp only[jW,kn,aM.below]
    rw[RL.below cC]
   |bV g f cur t l=>obtain⟨es',rfl,_⟩:=h; rfl
   |gY=>
    rcases h with ⟨g,f,es',rfl⟩|⟨k,vs,rfl,h⟩
    ·rfl
    ·exact(h n).symm
   |ke kk t m=>
    obtain⟨vs,rfl,h⟩:=h
    exact(ym hT h).symm
   |oU fn ps as bd fr=>
    obtain⟨st,vs,rfl,h⟩:=h
    exact Du h
theorem k9[ab](hT:T.Ok):∀ {l:List (Option (aB T.den))} {m:List (Option aM)},aw (Bk T H) l m→l.all (jW n)=m.all (kn n)
 |[],[],_=>rfl
 |_::_,_::_,h=>by simp only[List.all_cons]; rw[Af hT h.1,k9 hT h.2]
theorem RO.take[ab]{o:aB T.den}{a:aM}(h:RO T H o a)(hb:jW n (some o)=true):RO T (H.take n) o a:=by
 cases o with
 |arr g cl f cur es=>
  obtain⟨es',h1,h2,h3⟩:=h
  refine⟨es',h1,RL.take h2 ?_,h3⟩
  simp only[jW,Bool.or_eq_true]at hb
  rcases hb with hb|hb
  ·exact ei (h3 hb)
  ·exact hb
 |bV g f cur t l=>exact h
 |gY=>exact h
 |ke kk t m=>exact h
 |oU fn ps as bd fr=>
  obtain⟨st,vs,h1,h2⟩:=h
  refine⟨st,vs,h1,aw.ee h2.length fun i x y hx hy=>?_⟩
  obtain⟨y',AK,hr⟩:=aw.get h2 hx
  rw[hy]at AK
  simp only[Option.some.injEq]at AK
  subst AK
  simp only[jW,List.all_eq_true]at hb
  have:=hb x (List.mem_of_getElem? hx)
  rcases hr with hr|hr
  ·exact .inl hr
  ·have hd:bO x=false:=by cases x<;>first|rfl|simp[R]at hr
   rw[hd,Bool.false_or]at this
   exact .inr (hr.take this)
theorem RH.take[ab](hh:RH T H hp)(hb:(H.take n).all (jW n)=true):RH T (H.take n) (hp.take n):=by
 have h:=aw.take hh n
 rw[List.all_eq_true]at hb
 refine aw.ee h.length fun i x y hx hy=>?_
 obtain⟨y',AK,hr⟩:=aw.get h hx
 rw[hy]at AK
 simp only[Option.some.injEq]at AK
 subst AK
 have:=hb x (List.mem_of_getElem? hx)
 cases x with
 |none=>cases y with
  |none=>trivial
  |some _=>exact hr.elim
 |some o=>cases y with
  |none=>exact hr.elim
  |some a=>exact RO.take hr this
theorem H9[ab](hT:T.Ok)(hh:RH T H hp){v:SV T.den}{a:AV}(hv:R T H v a):RH T (fZ n v H) (gJ n a hp)∧R T (fZ n v H) v a:=by
 unfold fZ gJ
 rw[R.below hv,k9 hT (aw.take hh n)]
 by_cases hc:(Go.PI.below n a&&(hp.take n).all (kn n))=true
 ·rw[if_pos hc,if_pos hc]
  simp only[Bool.and_eq_true]at hc
  exact⟨hh.take (by rw[k9 hT (aw.take hh n)]; exact hc.2),hv.take (by rw[R.below hv]; exact hc.1)⟩
 ·grind
theorem Dw{fr:sE T.den}{t:Nat}:cH (fr.map fun q=>(q.1,qz n q.2)) t=qz n (cH fr t):=by
 induction fr with
 |nil=>rfl
 |cons q r ih=>
  grind[cH]
theorem RV.forget[ab]{v:SV T.den}{a:AV}(h:RV T H v a):RV T (H.take n) (qz n v) (Go.PI.forget n a):=by
 unfold qz Go.PI.forget
 rcases h with rfl|h
 ·left; simp[bt]
 ·rw[R.below h]
  split
  ·rename_i hb; right; exact h.take (by rw[R.below h]; exact hb)
  ·exact .inl rfl
theorem Dx{l:List AV}{t:Nat}:(l.map (Go.PI.forget n)).getD t .undef=Go.PI.forget n (l.getD t .undef):=by
 simp only[List.getD_eq_getElem?_getD,List.getElem?_map]
 cases l[t]?<;>rfl
theorem kD.take{js:List (Nat×kW)}(h:kD js H hp)(hj:∀ m x,cm js m=some x→m<n):kD js (H.take n) (hp.take n):=by
 intro m x hm
 obtain⟨h1,h2⟩:=h m x hm
 have bQ:=hj m x hm
 exact⟨by rw[p5 (List.getElem?_take_of_lt bQ)]; exact h1,by rw[nK (List.getElem?_take_of_lt bQ)]; exact h2⟩
theorem Ag{js:List (Nat×kW)}(h:si js n=true):∀ m x,cm js m=some x→m<n:=by
 intro m x hm
 have:=List.all_eq_true.1 h _ (gA hm)
 exact Nat.le_of_ble_eq_true this
theorem Dy[ab](hT:T.Ok){s:bx T.den}{st:St}(h:RS T s st)(hj:∀ m x,cm s.js m=some x→m<n):RS T (jJ n s) (gI n st):=by
 unfold jJ gI
 rw[k9 hT (aw.take h.hp n)]
 by_cases hc:(st.hp.take n).all (kn n)=true
 ·rw[if_pos hc,if_pos hc]
  refine⟨h.fn,by simp[h.n],fun t=>?_,h.hp.take (by rw[k9 hT (aw.take h.hp n)]; exact hc),h.js.take hj⟩
  rw[Dw,Dx]
  exact(h.fr t).forget
 ·rw[if_neg hc,if_neg hc]
  exact h
theorem mU{den:Nat→Type}{H:ah den}{m:Nat}(hm:m<n):(H.take n)[m]?=H[m]?:=List.getElem?_take_of_lt hm
theorem wa[ab]{s s':bx T.den}{st:St}(h:RS T s st)(ha:bj s s'):bj s (jJ s.hp.length s'):=by
 unfold jJ
 split
 ·refine⟨ha.fn,ha.n,fun t ht=>?_,ha.wf,fun n hn hw=>?_,ha.wh,?_,?_⟩
  ·simp only at ht ⊢
   rw[Dw,ha.fr t ht]
   unfold qz
   rcases h.fr t with hv|hv
   ·rw[hv]; simp[bt]
   ·rw[if_pos hv.lt]
  ·simp only at hw ⊢
   rw[mU hn]
   exact ha.hp n hn hw
  ·simp only[List.length_take]
   have:=ha.len
   omega
  ·intro n o ho
   obtain⟨o',h1,h2⟩:=ha.grow n o ho
   have bQ:=(List.getElem?_eq_some_iff.1 ho).1
   exact⟨o',by simp only; rw[mU bQ]; exact h1,h2⟩
 ·exact ha
theorem oy[ab](hT:T.Ok){Q:gM}(hQ:Q.Ok){s:bx T.den}{st:St}(h:RS T s st){r:ρ}:∀ {rs:List ResultVar} {K:List (SV T.den)→Tr ρ},(sd T Q s rs K).run=some r →
  ∃ l m,(aU Q.P st.fr rs).run st.hp=some m∧RL T s.hp l m∧(K l).run=some r
 |[],K,hk=>⟨[],[],rfl,by simp[RL],hk⟩
 |.tmp t::rs,K,hk=>by
  simp only[sd]at hk
  split at hk
  ·simp[Tr.run]at hk
  ·rename_i dN
   obtain⟨l,m,h1,h2,hk⟩:=oy hT hQ h hk
   refine⟨_,st.fr.getD t .undef::m,?_,?_,hk⟩
   ·simp_all[aU,jQ,RM.run_bind,RM.run_pure,h1]
   ·simp only[RL]
    refine⟨?_,h2⟩
    rcases h.fr t with hd|hd
    ·simp_all
    ·exact hd
 |.cell a t::rs,K,hk=>by
  simp only[sd]at hk
  split at hk
  case h_2=>simp[Tr.run]at hk
  rename_i m hm
  obtain⟨q,h1,h2,h3,_⟩:=hQ.row _ _ hm
  have:∃ v c rd,aE st.hp (kE Q.P t (st.fr.getD a .undef)) c rd∧R T s.hp v c∧(sd T Q s rs fun l=>K (v::l)).run=some r:=
   Di (K:=fun v _ _=>sd T Q s rs fun l=>K (v::l)) hT h1 h2 h3 h.hp (h.fr a) hk
  obtain⟨v,c,rd,g1,g2,hk⟩:=this
  obtain⟨l,m',i1,i2,hk⟩:=oy hT hQ h hk
  refine⟨_,c::m',?_,?_,hk⟩
  ·simp only[aU,jQ,RM.run_bind,g1.1,RM.run_pure,Option.bind_some,i1]
  ·simp only[RL]
   exact⟨g2,i2⟩
theorem gd[ab]{fv:SV T.den}{fa:AV}(hf:RV T H fv fa){args:List (SV T.den)}{as:List AV}(ha:aw (RV T H) args as){g:FuncId}{l:List (SV T.den)}(h:lN fv args=some (g,l)):
  ∃ m,bA fa as=some (g,m)∧(l.any bO=false→RL T H l m):=by
 unfold lN at h
 split at h
 ·rename_i f first captured
  simp only[Option.some.injEq,Prod.mk.injEq]at h
  obtain⟨rfl,rfl⟩:=h
  have:=hf.lit rfl
  subst this
  refine⟨_,rfl,fun hd=>?_⟩
  refine iJ ?_ hd
  exact((aQ.1 (RL.lits first.toList)).mono fun _ _ h=>.inr h).append ha |>.append ((aQ.1 (RL.lits captured.toList)).mono fun _ _ h=>.inr h)
 ·rename_i f first captured
  simp only[Option.some.injEq,Prod.mk.injEq]at h
  obtain⟨rfl,rfl⟩:=h
  have:=hf.live rfl
  simp only[R]at this
  obtain⟨f',c',rfl,h1,h2⟩:=this
  refine⟨_,rfl,fun hd=>?_⟩
  refine iJ ?_ hd
  exact((aQ.1 h1).mono fun _ _ h=>.inr h).append ha |>.append ((aQ.1 h2).mono fun _ _ h=>.inr h)
 ·simp at h
theorem Dz[ab]{P:Program}{fv:SV T.den}{fa:AV}(hf:RV T H fv fa){name:String}{g:FuncId}{x:SV T.den}(h:GN P fv name=some (g,x)):∃ ax,pb P fa name=some (g,ax)∧R T H x ax:=by
 unfold GN at h
 split at h
 ·rename_i t y
  simp only[Option.map_eq_some_iff,Prod.mk.injEq]at h
  obtain⟨f,hm,rfl,rfl⟩:=h
  have:=hf.live rfl
  simp only[R]at this
  obtain⟨a,rfl,ha⟩:=this
  exact⟨a,by simp only[pb,hm,Option.map_some],ha⟩
 ·simp at h
theorem u6:∀ {l:List (SV T.den)} {d t:Nat},cH (mq d l) t=if d≤t then (match l[t-d]? with|some v=>v|none=>.lit undef) else .lit undef
 |[],d,t=>by simp[mq,cH]
 |v::r,d,t=>by
  simp only[mq,cH]
  split
  ·simp_all
  ·rename_i he
   have dN:d≠t:=fun hc=>by subst hc; simp at he
   rw[u6]
   by_cases hd:d≤t
   ·grind
   ·rw[if_neg hd,if_neg (by omega)]
theorem yn[ab]{f:FuncId}{args:List (SV T.den)}{as:List AV}(ha:RL T H args as)(hh:RH T H hp)(n:Nat)(wh:List Nat){js:List (Nat×kW)}(hj:kD js H hp):
  RS T ⟨f,max n args.length,mq 0 args,H,[],wh,js⟩ ⟨f,as++List.replicate (n-as.length) .undef,hp⟩:=by
 have hl:=ha.length
 refine⟨rfl,by simp; omega,fun t=>?_,hh,hj⟩
 simp only
 rw[u6]
 simp only[Nat.zero_le,if_true,Nat.sub_zero,List.getD_eq_getElem?_getD]
 by_cases ht:t<as.length
 ·rw[List.getElem?_append_left ht]
  obtain⟨v,hv,hr⟩:=aw.get' (aQ.1 ha) (List.getElem?_eq_getElem ht)
  rw[hv,List.getElem?_eq_getElem ht]
  exact .inr hr
 ·rw[List.getElem?_append_right (by omega)]
  have e1:args[t]?=none:=List.getElem?_eq_none (by omega)
  rw[e1]
  simp only
  rw[List.getElem?_replicate]
  split<;>exact bm undef
end
end Go.PI
end
section
/- PS, part N: states with variables. -/
namespace Go.PI
variable {T:dw}{ρ:Type}
def jq{den:Nat→Type}(H:ah den)(n:Nat):Option Nat:=
 match H[n]? with
 |some (some o)=>some o.cur
 |_=>none
theorem oz{den:Nat→Type}{H:ah den}{n:Nat}{o:aB den}(h:H[n]?=some (some o)):jq H n=some o.cur:=by simp[jq,h]
theorem qI{den:Nat→Type}{H:ah den}{n c:Nat}(h:jq H n=some c):∃ o,H[n]?=some (some o)∧o.cur=c:=by
 grind[jq]
def DA{den:Nat→Type}(ok:Nat→Prop)(Hs Hf:ah den):Prop:=∀ (n:Nat) (o:aB den),ok n→Hs[n]?=some (some o)→∃ of:aB den,Hf[n]?=some (some of)∧of.len=o.len
section
variable {Hs Hf Hc:ah T.den}{ok:Nat→Prop}
theorem S1{H:ah T.den}{v:SV T.den}{k:IntKind}{m:Int}(h:R T H v (.lit (.int k m))):v=.lit (.int k m):=by
 cases v with
 |lit w=>simp_all[R,AV.lit.injEq]
 |bq esz n c rg cap=>
  grind[R]
 |sD v st ln i=>
  simp only[R]at h
  obtain⟨_,_,_,h⟩:=h
  rcases h with ⟨_,_,_,_,_,h⟩|⟨_,_,_,h⟩<;>cases h
 |_=>simp[R]at h
theorem FD[ab](hT:T.Ok){H:ah T.den}{t m:Nat}{x:T.den t}(h:T.dn t (.lit (.int .i64 m))=some x):HV T ⟨.v t,x⟩=m:=by
 have h1:=hT.dn _ _ _ (.lit (.int .i64 m)) H h (by simp[R])
 have h2:=S1 (hT.up _ _ _ H h1)
 show (match T.up t x with|.lit (.int _ m)=>m.toNat|_=>0)=m
 rw[h2]
 simp
theorem sw[ab](hT:T.Ok)(qU:∀ n,jq Hc n=jq Hf n)(hlen:DA ok Hs Hf){p:oW}(bL:∀ n,n∈p.kf→ok n){v:SV T.den}{a:AV}(hv:RV T Hs v a){ln:List (TV T.den)}(h:fD Hs p v=some ln)(rest:List (TV T.den)):
  ∃ v',fK Hc p (ln++rest)=(v',rest)∧R T Hf v' a∧(aD v=true→aD v'=true):=by
 cases p with
 |hole=>
  simp only[fD]at h
  split at h
  case h_2=>simp at h
  rename_i hh
  simp only[Option.some.injEq]at h
  subst h
  unfold isHole at hh
  split at hh
  case h_2=>simp at hh
  have hv:=hv.live rfl
  simp only[R]at hv
  subst hv
  exact⟨.hole,rfl,by simp[R],fun h=>h⟩
 |val t=>
  simp only[fD]at h
  split at h
  ·simp at h
  rename_i hd
  split at h
  case h_2=>simp at h
  rename_i x hx
  simp only[Option.some.injEq]at h
  subst h
  have Ee:=hT.dn _ _ _ _ Hs hx (hv.live hd)
  exact⟨T.up t x,rfl,hT.up _ _ _ Hf Ee,fun _=>uW hT Ee⟩
 |HS esz n rg cap=>
  simp only[fD]at h
  split at h
  case h_2=>simp at h
  rename_i xT n' c VX Ft
  have hv:=hv.live rfl
  split at h
  case h_2=>simp at h
  rename_i o ho
  split at h
  case isFalse=>simp at h
  rename_i hc
  obtain⟨rfl,rfl,rfl,rfl,rfl⟩:=hc
  simp only[Option.some.injEq]at h
  subst h
  obtain⟨of,K9,FE⟩:=hlen _ _ (bL _ (by simp[oW.kf])) ho
  have mW:=qU n'
  rw[oz K9]at mW
  obtain⟨oc,BF,Qt⟩:=qI mW
  refine⟨.bq xT n' oc.cur VX Ft,?_,?_,fun h=>by simp[aD]at h⟩
  ·simp only[fK,BF,List.nil_append]
  ·simp only[R]at hv ⊢
   obtain⟨aq,⟨o',h1,_,h3⟩,ha⟩:=hv
   rw[ho]at h1
   simp only[Option.some.injEq]at h1
   subst h1
   exact⟨aq,⟨of,K9,by omega,fun _=>by rw[h3 rfl,FE]⟩,ha⟩
 |iM n i j len cap=>
  simp only[fD]at h
  split at h
  case h_2=>simp at h
  rename_i n' c i' j' NF Ft
  have hv:=hv.live rfl
  split at h
  case h_2=>simp at h
  rename_i o ho
  split at h
  case isFalse=>simp at h
  rename_i hc
  obtain⟨rfl,rfl,rfl,rfl,rfl,rfl⟩:=hc
  simp only[Option.some.injEq]at h
  subst h
  obtain⟨of,K9,FE⟩:=hlen _ _ (bL _ (by simp[oW.kf])) ho
  have mW:=qU n'
  rw[oz K9]at mW
  obtain⟨oc,BF,Qt⟩:=qI mW
  refine⟨.iM n' oc.cur i' j' NF Ft,?_,?_,fun h=>by simp[aD]at h⟩
  ·simp only[fK,BF,List.nil_append]
  ·simp only[R]at hv ⊢
   obtain⟨aq,ha,⟨o',h1,_,h3⟩⟩:=hv
   rw[ho]at h1
   simp only[Option.some.injEq]at h1
   subst h1
   exact⟨aq,ha,⟨of,K9,by omega,fun _=>by rw[h3 rfl,FE]⟩⟩
 |own esz n=>
  simp only[fD]at h
  split at h
  case h_2=>simp at h
  rename_i xT n' c
  have hv:=hv.live rfl
  split at h
  case h_2=>simp at h
  rename_i o ho
  split at h
  case isFalse=>simp at h
  rename_i hc
  obtain⟨rfl,rfl,rfl⟩:=hc
  simp only[Option.some.injEq]at h
  subst h
  obtain⟨of,K9,FE⟩:=hlen _ _ (bL _ (by simp[oW.kf])) ho
  have mW:=qU n'
  rw[oz K9]at mW
  obtain⟨oc,BF,Qt⟩:=qI mW
  refine⟨.bq xT n' oc.cur none none,?_,?_,fun h=>by simp[aD]at h⟩
  ·simp only[fK,BF,List.nil_append]
  ·simp only[R]at hv ⊢
   obtain⟨aq,⟨o',h1,_,h3⟩,rfl⟩:=hv
   rw[ho]at h1
   simp only[Option.some.injEq]at h1
   subst h1
   exact⟨aq,⟨of,K9,by omega,fun _=>by rw[h3 rfl,FE]⟩,rfl⟩
 |Q8 esz n t k=>
  simp only[fD]at h
  split at h
  case h_2=>simp at h
  rename_i xT n' c rg cap
  have hv:=hv.live rfl
  split at h
  case h_2=>simp at h
  rename_i o off len ho hr
  split at h
  case isFalse=>simp at h
  rename_i hc
  obtain⟨rfl,rfl,rfl⟩:=hc
  obtain⟨of,K9,FE⟩:=hlen _ _ (bL _ (by simp[oW.kf])) ho
  have mW:=qU n'
  rw[oz K9]at mW
  obtain⟨oc,BF,Qt⟩:=qI mW
  have hR:R T Hf (.bq xT n' oc.cur (some (off,len)) cap) a:=by
   simp only[R]at hv ⊢
   obtain⟨aq,⟨o',h1,_,h3⟩,ha⟩:=hv
   rw[ho]at h1
   simp only[Option.some.injEq]at h1
   subst h1
   refine⟨aq,⟨of,K9,by omega,fun _=>by rw[h3 rfl,FE]⟩,?_⟩
   cases rg with
   |some q=>
    simp_all[mQ]
   |none=>
    have hb:Nat.beq o.cur o.cur=true:=by simp
    simp only[mQ,ho,hb,if_true,Option.some.injEq,Prod.mk.injEq]at hr
    obtain⟨rfl,rfl⟩:=hr
    rw[←h3 rfl]
    exact ha
  rw[Option.bind_eq_some_iff]at h
  obtain⟨x,hx,h⟩:=h
  rw[Option.bind_eq_some_iff]at h
  obtain⟨y,hy,h⟩:=h
  have ex:=FD hT (H:=Hs) hx
  have ey:=FD hT (H:=Hs) hy
  split at h
  ·simp only[Option.some.injEq]at h
   subst h
   exact⟨_,by simp only[fK,List.cons_append,List.nil_append,BF,ex,ey],hR,fun h=>by simp[aD]at h⟩
  ·obtain⟨z,hz,hl⟩:∃ z,T.dn t (.lit (.int .i64 _))=some z∧_=ln:=Option.map_eq_some_iff.1 h
   subst hl
   have ez:=FD hT (H:=Hs) hz
   exact⟨_,by simp only[fK,List.cons_append,List.nil_append,BF,ex,ey,ez],hR,fun h=>by simp[aD]at h⟩
  ·simp at h
theorem wb[ab](hT:T.Ok)(qU:∀ n,jq Hc n=jq Hf n)(hlen:DA ok Hs Hf):∀ {ps:List oW} {vs:List (SV T.den)} {as:List AV} {ln:List (TV T.den)},(∀ n,n∈ps.flatMap oW.kf→ok n)→RL T Hs vs as→hY Hs ps vs=some ln→∀ rest:List (TV T.den),
  ∃ vs',ji Hc ps (ln++rest)=(vs',rest)∧RL T Hf vs' as∧(av vs=true→av vs'=true)
 |[],[],[],ln,_,_,h,rest=>by
  simp only[hY,Option.some.injEq]at h
  subst h
  exact⟨[],rfl,by simp[RL],fun _=>rfl⟩
 |p::ps,v::vs,a::as,ln,bL,hr,h,rest=>by
  simp only[RL]at hr
  simp only[hY,Option.bind_eq_some_iff,Option.map_eq_some_iff]at h
  obtain⟨l1,h1,l2,h2,rfl⟩:=h
  obtain⟨v',e1,e2,e3⟩:=sw hT qU hlen (fun n hn=>bL n (by simp[hn])) (.inr hr.1) h1 (l2++rest)
  obtain⟨vs',g1,g2,g3⟩:=wb hT qU hlen (fun n hn=>bL n (by simp only[List.flatMap_cons,List.mem_append]; exact .inr hn)) hr.2 h2 rest
  refine⟨v'::vs',?_,by simp only[RL]; exact⟨e2,g2⟩,fun hc=>?_⟩
  ·simp_all[ji]
  ·simp_all[av]
 |[],_::_,_,_,_,_,h,_=>by simp[hY]at h
 |_::_,[],_,_,_,_,h,_=>by simp[hY]at h
 |_,[],_::_,_,_,h,_,_=>by simp[RL]at h
 |_,_::_,[],_,_,h,_,_=>by simp[RL]at h
end
def Compat{T:dw}(o:aB T.den):cQ→Prop
 |.list t=>∃ g f c l,o=.bV g f c t l
 |.fix t=>∃ g f c l,o=.bV g f c t l
 |.one _=>∃ g cl f c es,o=.arr g cl f c es
 |.agg _=>∃ g cl f c es,o=.arr g cl f c es
 |.map kk t=>∃ m,o=.ke kk t m
section
variable {Hs Hf Hc:ah T.den}{ok:Nat→Prop}
theorem tM[ab](hT:T.Ok){os:aB T.den}{t:Nat}{ln:List (TV T.den)}(h:eg Hs os (.list t)=some ln∨eg Hs os (.fix t)=some ln):
  ∃ l:List (T.den t),ln=[⟨.l t,l⟩]∧l.length=os.len∧os.flags.2.1=true∧∀ a,RO T Hs os a→∃ es,a=.arr os.flags.1 true os.flags.2.2 es∧aw (T.rp t) l es:=by
 have h2:eg Hs os (.list t)=some ln:=h.elim id id
 clear h
 have h:=h2
 clear h2
 unfold eg at h
 simp only at h
 split at h
 ·rename_i g f c t' l
  split at h
  case isFalse=>simp at h
  rename_i ht
  subst ht
  refine⟨l,(Option.some.inj h).symm,rfl,rfl,fun a ha=>?_⟩
  obtain⟨es,rfl,cC⟩:=ha
  exact⟨es,rfl,cC⟩
 ·rename_i g f c es
  cases hd:oM T t es with
  |none=>rw[hd]at h; cases h
  |some l=>
   rw[hd]at h
   refine⟨l,(Option.some.inj h).symm,?_,rfl,fun a ha=>?_⟩
   ·have:∀ {l:List (T.den t)} {es:List (SV T.den)},oM T t es=some l→l.length=es.length:=by
     intro l es
     induction es generalizing l with
     |nil=>simp_all[oM]
     |cons x xs ih=>
      intro h
      simp only[oM,Option.bind_eq_some_iff,Option.map_eq_some_iff]at h
      obtain⟨_,_,y,hy,rfl⟩:=h
      simp[ih hy]
    exact this hd
   ·obtain⟨es',rfl,cC,_⟩:=ha
    exact⟨es',rfl,pX hT cC hd⟩
 ·simp at h
theorem tN{os:aB T.den}{kk:KK}{t:Nat}{ln:List (TV T.den)}(h:eg Hs os (.map kk t)=some ln):∃ m,os=.ke kk t m∧ln=[⟨.m kk t,m⟩]:=by
 unfold eg at h
 simp only at h
 split at h
 case h_2=>simp at h
 rename_i qM t' m
 split at h
 case isFalse=>simp at h
 rename_i hc
 obtain⟨rfl,rfl⟩:=hc
 exact⟨m,rfl,(Option.some.inj h).symm⟩
theorem y9[ab](hT:T.Ok){o os:aB T.den}{p:cQ}(hc:Compat o p){ln:List (TV T.den)}(h:eg Hs os p=some ln)(rest:List (TV T.den))
  (hp:∀ q (v:SV T.den) l,fD Hs q v=some l→∀ rest,(fK Hc q (l++rest)).2=rest) :
  ∃ o',jj Hc o p (ln++rest)=(o',rest)∧o'.cur=o.cur∧o'.len=os.len:=by
 have SQ:∀ (ps:List oW) (vs:List (SV T.den)) l,hY Hs ps vs=some l→∀ rest,(ji Hc ps (l++rest)).2=rest:=by
  intro ps
  induction ps with
  |nil=>
   intro vs l hl rest
   cases vs with
   |nil=>simp[hY]at hl; subst hl; rfl
   |cons=>simp[hY]at hl
  |cons q ps ih=>
   intro vs l hl rest
   cases vs with
   |nil=>simp[hY]at hl
   |cons v vs=>
    simp only[hY,Option.bind_eq_some_iff,Option.map_eq_some_iff]at hl
    obtain⟨l1,h1,l2,h2,rfl⟩:=hl
    have e1:=hp q v l1 h1 (l2++rest)
    have e2:=ih vs l2 h2 rest
    simp only[ji,List.append_assoc]
    rw[e1]
    exact e2
 cases p with
 |list t=>
  obtain⟨g,f,c,l0,rfl⟩:=hc
  obtain⟨l,rfl,hl,_⟩:=tM hT (.inl h)
  exact⟨.bV g f c t l,rfl,rfl,hl⟩
 |fix t=>
  obtain⟨g,f,c,l0,rfl⟩:=hc
  obtain⟨l,rfl,hl,_⟩:=tM hT (.inr h)
  exact⟨.bV g f c t l,rfl,rfl,hl⟩
 |one q=>
  obtain⟨g,cl,f,c,es,rfl⟩:=hc
  simp only[eg]at h
  split at h
  case h_2=>simp at h
  rename_i v
  have e:=hp q v ln h rest
  refine⟨.arr g cl f c [(fK Hc q (ln++rest)).1],?_,rfl,rfl⟩
  have e2:fK Hc q (ln++rest)=((fK Hc q (ln++rest)).1,rest):=Prod.ext rfl e
  simp only[jj]
  rw[e2]
 |agg ps=>
  obtain⟨g,cl,f,c,es,rfl⟩:=hc
  simp only[eg]at h
  split at h
  case h_2=>simp at h
  rename_i vs
  have e:=SQ ps vs ln h rest
  refine⟨.arr g cl f c [.agg (ji Hc ps (ln++rest)).1],?_,rfl,rfl⟩
  have e2:ji Hc ps (ln++rest)=((ji Hc ps (ln++rest)).1,rest):=Prod.ext rfl e
  simp only[jj]
  rw[e2]
 |map kk t=>
  obtain⟨m0,rfl⟩:=hc
  obtain⟨m,rfl,rfl⟩:=tN h
  exact⟨.ke kk t m,rfl,rfl,rfl⟩
theorem yp[ab](hT:T.Ok)(qU:∀ n,jq Hc n=jq Hf n)(hlen:DA ok Hs Hf){o os o':aB T.den}{p:cQ}(bL:∀ n,n∈p.kf→ok n)(hc:Compat o p){ln:List (TV T.den)}(h:eg Hs os p=some ln){rest:List (TV T.den)}
  (ho:jj Hc o p (ln++rest)=(o',rest)) (qQ:o.flags.1=os.flags.1) (iC:o.flags.2.1=os.flags.2.1) (Mk:o.flags.2.2=os.flags.2.2) {a:aM} (ha:RO T Hs os a):RO T Hf o' a:=by
 cases p with
 |list t=>
  obtain⟨g,f,c,l0,rfl⟩:=hc
  obtain⟨l,rfl,hl,_,hr⟩:=tM hT (.inl h)
  obtain⟨es,rfl,cC⟩:=hr a ha
  simp only[jj,List.cons_append,List.nil_append,Prod.mk.injEq]at ho
  obtain⟨rfl,_⟩:=ho
  have hg:g=os.flags.1:=qQ
  have hf:f=os.flags.2.2:=Mk
  exact⟨es,by rw[hg,hf],cC⟩
 |fix t=>
  obtain⟨g,f,c,l0,rfl⟩:=hc
  obtain⟨l,rfl,hl,_,hr⟩:=tM hT (.inr h)
  obtain⟨es,rfl,cC⟩:=hr a ha
  simp only[jj,List.cons_append,List.nil_append,Prod.mk.injEq]at ho
  obtain⟨rfl,_⟩:=ho
  have hg:g=os.flags.1:=qQ
  have hf:f=os.flags.2.2:=Mk
  exact⟨es,by rw[hg,hf],cC⟩
 |one q=>
  obtain⟨g,cl,f,c,es,rfl⟩:=hc
  simp only[eg]at h
  split at h
  case h_2=>simp at h
  rename_i g' cl' f' c' v
  simp only[aB.flags]at qQ iC Mk
  subst qQ; subst iC; subst Mk
  obtain⟨es',rfl,cC,mg⟩:=ha
  match es',cC with
  |[b],cC=>
   simp only[RL]at cC
   obtain⟨v',e1,e2,e3⟩:=sw hT qU hlen bL (.inr cC.1) h rest
   simp only[jj,e1,Prod.mk.injEq,and_true]at ho
   subst ho
   refine⟨[b],rfl,by simp only[RL]; exact⟨e2,trivial⟩,fun mW=>?_⟩
   have:=mg mW
   simp only[av,Bool.and_true]at this ⊢
   exact e3 this
  |[],cC=>simp[RL]at cC
  |_::_::_,cC=>simp[RL]at cC
 |agg ps=>
  obtain⟨g,cl,f,c,es,rfl⟩:=hc
  simp only[eg]at h
  split at h
  case h_2=>simp at h
  rename_i g' cl' f' c' vs
  simp only[aB.flags]at qQ iC Mk
  subst qQ; subst iC; subst Mk
  obtain⟨es',rfl,cC,mg⟩:=ha
  match es',cC with
  |[b],cC=>
   simp only[RL,R]at cC
   obtain⟨⟨as,rfl,cC⟩,_⟩:=cC
   obtain⟨vs',e1,e2,e3⟩:=wb hT qU hlen bL cC h rest
   simp only[jj,e1,Prod.mk.injEq,and_true]at ho
   subst ho
   refine⟨[.agg as],rfl,by simp only[RL,R]; exact⟨⟨as,rfl,e2⟩,trivial⟩,fun mW=>?_⟩
   have:=mg mW
   simp only[av,aD,Bool.and_true]at this ⊢
   exact e3 this
  |[],cC=>simp[RL]at cC
  |_::_::_,cC=>simp[RL]at cC
 |map kk t=>
  obtain⟨m0,rfl⟩:=hc
  obtain⟨m,rfl,rfl⟩:=tN h
  simp only[jj,List.cons_append,List.nil_append,Prod.mk.injEq]at ho
  obtain⟨rfl,_⟩:=ho
  exact ha
theorem DB{q:oW}{v:SV T.den}{l:List (TV T.den)}(h:fD Hs q v=some l)(rest:List (TV T.den)):(fK Hc q (l++rest)).2=rest:=by
 cases q with
 |HS esz n rg cap=>
  simp only[fD]at h
  split at h
  case h_2=>simp at h
  split at h
  case h_2=>simp at h
  split at h
  case isFalse=>simp at h
  simp only[Option.some.injEq]at h
  subst h
  rfl
 |iM n i j len cap=>
  simp only[fD]at h
  split at h
  case h_2=>simp at h
  split at h
  case h_2=>simp at h
  split at h
  case isFalse=>simp at h
  simp only[Option.some.injEq]at h
  subst h
  rfl
 |hole=>
  simp only[fD]at h
  split at h
  case h_2=>simp at h
  simp only[Option.some.injEq]at h
  subst h
  rfl
 |val t=>
  simp only[fD]at h
  split at h
  ·simp at h
  split at h
  case h_2=>simp at h
  simp only[Option.some.injEq]at h
  subst h
  rfl
 |own esz n=>
  simp only[fD]at h
  split at h
  case h_2=>simp at h
  split at h
  case h_2=>simp at h
  split at h
  case isFalse=>simp at h
  simp only[Option.some.injEq]at h
  subst h
  rfl
 |Q8 esz n t k=>
  simp only[fD]at h
  split at h
  case h_2=>simp at h
  split at h
  case h_2=>simp at h
  split at h
  case isFalse=>simp at h
  rw[Option.bind_eq_some_iff]at h
  obtain⟨x,hx,h⟩:=h
  rw[Option.bind_eq_some_iff]at h
  obtain⟨y,hy,h⟩:=h
  split at h
  ·simp only[Option.some.injEq]at h
   subst h
   rfl
  ·obtain⟨z,_,hl⟩:∃ z,T.dn t (.lit (.int .i64 _))=some z∧_=l:=Option.map_eq_some_iff.1 h
   subst hl
   rfl
  ·simp at h
theorem nodup_cons{x:Nat}{l:List Nat}(h:c7 (x::l)=true):x∉l∧c7 l=true:=by
 simp_all[c7,decide_eq_false_iff_not]
theorem Ia{H:ah T.den}{n:Nat}{o o':aB T.den}(ho:H[n]?=some (some o))(hc:o'.cur=o.cur)(m:Nat):jq (H.set n (some o')) m=jq H m:=by
 unfold jq
 by_cases e:m=n
 ·grind
 ·rw[List.getElem?_set_ne (Ne.symm e)]
theorem rD[ab](hT:T.Ok):∀ {objs:List (Nat×cQ)} {H:ah T.den} {l:List (TV T.den)} (rest:List (TV T.den)),c7 (objs.map (·.1))=true→jY Hs objs=some l →
  (∀ q,q∈objs→∃ o,H[q.1]?=some (some o)∧Compat o q.2) →
  (ga H objs (l++rest)).length=H.length∧(∀ n:Nat,n∉objs.map (·.1)→(ga H objs (l++rest))[n]?=H[n]?)∧(∀ n,jq (ga H objs (l++rest)) n=jq H n) ∧
  (∀ q,q∈objs→∃ o os o' ln Hc DC,H[q.1]?=some (some o)∧Hs[q.1]?=some (some os)∧eg Hs os q.2=some ln∧(∀ n,jq Hc n=jq H n)∧jj Hc o q.2 (ln++DC)=(o',DC) ∧
    (ga H objs (l++rest))[q.1]?=some (some o')∧o'.cur=o.cur∧o'.len=os.len)
 |[],H,l,rest,_,_,_=>⟨rfl,fun _ _=>rfl,fun _=>rfl,fun q hq=>by simp at hq⟩
 |(n,p)::objs,H,l,rest,zO,oZ,QY=>by
  simp only[List.map_cons]at zO
  obtain⟨La,zO⟩:=nodup_cons zO
  simp only[jY]at oZ
  split at oZ
  case h_2=>simp at oZ
  rename_i os XT
  rw[Option.bind_eq_some_iff]at oZ
  obtain⟨ln,h1,oZ⟩:=oZ
  rw[Option.map_eq_some_iff]at oZ
  obtain⟨l2,h2,rfl⟩:=oZ
  obtain⟨o,ho,YI⟩:=QY (n,p) (by simp)
  simp only at ho YI
  obtain⟨o',e1,e2,e3⟩:=y9 (Hc:=H) hT YI h1 (l2++rest) fun q v l hl rest=>DB hl rest
  have S2:ga H ((n,p)::objs) (ln++l2++rest)=ga (H.set n (some o')) objs (l2++rest):=by
   simp_all[ga,ho]
  rw[S2]
  have bQ:=(List.getElem?_eq_some_iff.1 ho).1
  have Ws:∀ q,q∈objs→∃ o,(H.set n (some o'))[q.1]?=some (some o)∧Compat o q.2:=by
   grind
  obtain⟨i1,i2,i3,i4⟩:=rD hT rest zO h2 Ws
  have uc:=Ia ho e2
  refine⟨by rw[i1]; simp,fun m hm=>?_,fun m=>by rw[i3,uc],fun q hq=>?_⟩
  ·grind
  ·grind
theorem sy[ab]:∀ {objs:List (Nat×cQ)} {H:ah T.den},c7 (objs.map (·.1))=true →
  (rn H objs).length=H.length∧(∀ n:Nat,n∉objs.map (·.1)→(rn H objs)[n]?=H[n]?)∧(∀ q,q∈objs→∀ o,H[q.1]?=some (some o)→(rn H objs)[q.1]?=some (some (mw o q.2)))
 |[],H,_=>⟨rfl,fun _ _=>rfl,fun q hq=>by simp at hq⟩
 |(n,p)::objs,H,zO=>by
  simp only[List.map_cons]at zO
  obtain⟨La,zO⟩:=nodup_cons zO
  simp only[rn]
  split
  ·rename_i o ho
   have bQ:=(List.getElem?_eq_some_iff.1 ho).1
   obtain⟨i1,i2,i3⟩:=sy (objs:=objs) (H:=H.set n (some (mw o p))) zO
   refine⟨by rw[i1]; simp,fun m hm=>?_,fun q hq o2 ur=>?_⟩
   ·grind
   ·grind
  ·rename_i zm
   obtain⟨i1,i2,i3⟩:=sy (objs:=objs) (H:=H) zO
   refine⟨i1,fun m hm=>?_,fun q hq o2 ur=>?_⟩
   ·simp_all
   ·grind
theorem p8[ab](hT:T.Ok)(qU:∀ n,jq Hc n=jq Hf n)(hlen:DA ok Hs Hf){N:Nat}{frs:sE T.den}{ast:Nat→AV}(eK:∀ t,RV T Hs (cH frs t) (ast t)):
  ∀ {az:List (Nat×oW)} {fr:sE T.den} {l:List (TV T.den)} (rest:List (TV T.den)),c7 (az.map (·.1))=true→(∀ q,q∈az→q.1<N∧∀ n,n∈q.2.kf→ok n)→pR Hs frs az=some l →
    ∃ yQ,qA N Hc fr az (l++rest)=(yQ,rest)∧(∀ t,t∉az.map (·.1)→cH yQ t=cH fr t)∧(∀ q,q∈az→R T Hf (cH yQ q.1) (ast q.1))
 |[],fr,l,rest,_,_,h=>by
  simp only[pR,Option.some.injEq]at h
  subst h
  exact⟨fr,rfl,fun _ _=>rfl,fun q hq=>by simp at hq⟩
 |(d,p)::az,fr,l,rest,zO,hN,h=>by
  simp only[List.map_cons]at zO
  obtain⟨La,zO⟩:=nodup_cons zO
  simp only[pR,Option.bind_eq_some_iff,Option.map_eq_some_iff]at h
  obtain⟨l1,h1,l2,h2,rfl⟩:=h
  obtain⟨v',e1,e2,_⟩:=sw hT qU hlen (hN (d,p) (by simp)).2 (eK d) h1 (l2++rest)
  obtain⟨yQ,i1,i2,i3⟩:=p8 hT qU hlen eK (fr:=tz N fr d v') rest zO (fun q hq=>hN q (List.mem_cons_of_mem _ hq)) h2
  refine⟨yQ,?_,fun t ht=>?_,fun q hq=>?_⟩
  ·simp_all[qA]
  ·simp only[List.map_cons,List.mem_cons,not_or]at ht
   rw[i2 t ht.2,kl,if_neg (by omega)]
  ·rcases List.mem_cons.1 hq with rfl|hq
   ·rw[i2 d La,kl,if_pos ⟨rfl,(hN (d,p) (by simp)).1⟩]
    exact e2
   ·exact i3 q hq
theorem u7[ab]{N:Nat}:∀ {dead:List Nat} {fr:sE T.den} {t:Nat},cH (z1 N fr dead) t=(if t∈dead∧t<N then .dead else cH fr t)
 |[],fr,t=>by simp[z1]
 |d::r,fr,t=>by
  simp only[z1]
  rw[u7,kl]
  by_cases h1:t∈r∧t<N
  ·simp_all
  ·grind
end
end Go.PI
end
