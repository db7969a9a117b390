/- Part 3 of the proof: texts of this session laid one behind the other. -/
import Derived.Test.YtedjbjphpnkpoaaX2
set_option linter.unusedVariables false
set_option linter.unusedSimpArgs false
section
/- PS, part B: the operations on symbolic values, and the evaluator of code to a tree. -/
namespace Go.PI
structure vY(T:dw)where
 args:List Nat
 el:Nat
 esz:Nat
 fn:HL T.den (args.map .v)→Option (List (T.den el))
inductive Tw where
 |num (d j b:Nat)
 |Yh (d j n:Nat)
 |arr (d n:Nat)
 |name (d:Nat)
 |int (d j:Nat)
structure og where
 C:Ctx
 T:dw
 sum:FuncId→Option (uR T)
 hint:FuncId→Nat→Option Hint
 uS:FuncId→Nat→Bool
 M:List (Nat×jY)
 own:FuncId→Option (vY T):=fun _=>none
 tF:FuncId→Nat→Bool:=fun _ _=>false
 tw:FuncId→Tmp→List Tw:=fun _ _=>[]
def og.Q(S:og):gP:=⟨S.C.P,S.M,fun _=>false⟩
def og.Qf(S:og)(f:FuncId):gP:=⟨S.C.P,S.M,S.tF f⟩
section
variable {T:dw}{ρ:Type}
abbrev EK(T:dw)(ρ:Type):=SV T.den→List (Nat×aB T.den)→List Nat→Tr ρ
def oQ(r:Option AV)(K:EK T ρ):Tr ρ:=
 match r with
 |some (.lit v)=>K (.lit v) [] []
 | _ => .no "via"
def xY(r:Option (SV T.den))(rd:List Nat)(K:EK T ρ):Tr ρ:=
 match r with
 |some v=>K v [] rd
 | none => .no "part"
def fY(v:SV T.den)(K:Nat→Tr ρ):Tr ρ:=
 match v with
 |.lit (.int _ n)=>.cond (decide (0≤n)) (K n.toNat) .fail
 |_=>.fail
def Us{den:Nat→Type}:SV den→Bool
 |.lit (.int _ n)=>decide (n=0)
 |_=>false
def ji(d:Nat)(v:Option (SV T.den))(K:Nat→Tr ρ):Tr ρ:=
 match v with
 |none=>K d
 |some v=>fY v K
def fF(i:Nat):Nat→Nat→(Nat→Tr ρ)→Tr ρ
 |0,_,_=>.fail
 |len+1,m,K=>.cond (decide (i=m)) (K m) (fF i len (m+1) K)
def ir(d:Nat):SV T.den→SV T.den
 |.ref n c i j=>.ref n c i (j+d)
 |.bh e j=>.bh e (j+d)
 |.sK v s l i=>.sK (ir d v) s l i
 |v=>v
def gB(e:SV T.den)(j aW:Nat):Nat→Option (List (SV T.den))
 |0=>some []
 |n+1=>(nI false 1 e j).bind fun x=>(gB e (j+aW) aW n).map fun l=>x::l
def uT(k:IntKind):List (SV T.den)→Option (List Int)
 |[]=>some []
 |.lit (.int k' n)::r=>if k'=k then (uT k r).map fun l=>n::l else none
 |_=>none
def tG:List (SV T.den)→Option (List Bool)
 |[]=>some []
 |.lit (.bool b)::r=>(tG r).map fun l=>b::l
 |_=>none
def GI{α:Type}(l:List α)(i:Nat)(d:α):α:=l.getD i d
def KM(i:Nat)(xs:List (SV T.den)):Option (SV T.den):=
 match xs with
 |.lit (.int k n)::r=>(uT k r).map fun l=>.lit (.int k (GI (n::l) i n))
 |.lit (.bool b)::r=>(tG r).map fun l=>.lit (.bool (GI (b::l) i b))
 |_=>none
def Ut(t:Nat)(x:T.den t)(K:SV T.den→Tr ρ):Tr ρ:=
 match T.alt t with
 |none=>K (T.up t x)
 |some f=>.cond (f.1 x) (K (f.2.1 x)) (K (f.2.2 x))
def oh(r:jY)(H:ah T.den)(a:SV T.den)(K:EK T ρ):Tr ρ:=
 match a with
 |.ref n c i j=>
  match H[n]? with
  |some (some (.arr _ _ _ cur es))=>(match Nat.beq c cur with
   |true=>(match es[i]? with
    |some e=>xY (nI r.agg r.size e j) [n] K
    | none => .no "memory")
   | false => .no "memory")
  |some (some (.bW _ _ cur t l))=>(match Nat.beq c cur with
   |true=>.bind l[i]? fun x=>Ut t x fun v=>xY (nI r.agg r.size v j) [n] K
   | false => .no "memory")
  | _ => .no "memory"
 |.bh e j=>xY (nI r.agg r.size e j) [] K
 | _ => .no "memory"
def Fg(H:ah T.den)(a:SV T.den)(aW len:Nat):Option (List (SV T.den)×List Nat):=
 match a with
 |.ref n c i j=>(match H[n]? with
  |some (some (.arr _ _ _ cur es))=>(match Nat.beq c cur with
   |true=>(es[i]?).bind fun e=>(gB e j aW len).map fun l=>(l,[n])
   |false=>none)
  |_=>none)
 |.bh e j=>(gB e j aW len).map fun l=>(l,[])
 |_=>none
def GJ(r:jY)(H:ah T.den)(a:SV T.den)(K:EK T ρ):Tr ρ:=
 match a with
 |.sK v aW len i=>
  (match !r.agg&&Nat.beq r.size 1,Fg H v aW len with
  |true,some (xs,rd)=>(match KM i xs with
   |some x=>K x [] rd
   |none=>fF i len 0 fun m=>oh r H (ir (m*aW) v) K)
  |_,_=>fF i len 0 fun m=>oh r H (ir (m*aW) v) K)
 |a=>oh r H a K
def qB(r:jY)(H:ah T.den)(a v:SV T.den)(K:EK T ρ):Tr ρ:=
 match bP v,decide ((bL v).length=r.size)&&(bL v).all gy with
 |false,true=>(match a with
  |.ref n c i j=>
   match H[n]? with
   |some (some (.arr g cl f cur es))=>(match Nat.beq c cur&&!f with
    |true=>(match es[i]? with
     |some e=>(match fW e j (bL v) with
      |some e'=>K (.lit undef) [(n,.arr g (cl&&av (bL v)) f cur (es.set i e'))] [n]
      | none => .no "memory")
     | none => .no "memory")
    | false => .no "memory")
   |some (some (.bW g f cur t l))=>(match Nat.beq c cur&&!f&&av (bL v) with
    |true=>.bind l[i]? fun x=>(match fW (T.up t x) j (bL v) with
     |some e'=>(match T.dn t e' with
      |some y=>K (.lit undef) [(n,.bW g f cur t (l.set i y))] [n]
      | none => .no "memory")
     | none => .no "memory")
    | false => .no "memory")
   | _ => .no "memory"
  | _ => .no "memory")
 | _, _ => .no "memory"
def Fh(l:List (SV T.den))(j aW i m:Nat)(k:IntKind)(y:Int):List Int→List (SV T.den)
 |[]=>l
 |x::r=>Fh (l.set j (.lit (.int k (cond (Nat.beq i m) y x)))) (j+aW) aW i (m+1) k y r
def Fi(H:ah T.den)(a v:SV T.den)(aW len i:Nat):Option (Nat×aB T.den):=
 match a,v with
 |.ref n c i0 j,.lit (.int k y)=>(match H[n]? with
  |some (some (.arr g cl f cur es))=>(match Nat.beq c cur&&!f&&Nat.blt 0 aW,es[i0]? with
   |true,some (.agg l)=>((gB (.agg l) j aW len).bind (uT k)).map fun ns=>
    (n,.arr g cl f cur (es.set i0 (.agg (Fh l j aW i 0 k y ns))))
   |_,_=>none)
  |_=>none)
 |_,_=>none
def Fj(r:jY)(H:ah T.den)(a v:SV T.den)(K:EK T ρ):Tr ρ:=
 match a with
 |.sK b aW len i=>(match Nat.beq r.size 1,Fi H b v aW len i with
  |true,some (n,o)=>K (.lit undef) [(n,o)] [n]
  |_,_=>fF i len 0 fun m=>qB r H (ir (m*aW) b) v K)
 |a=>qB r H a v K
def Fk(Q:gP)(t:TypeId)(parts:List (Nat×SV T.den)):Option (SV T.den):=
 match Q.ty t with
 |some r=>
  match r.kind,r.zero.bind gA with
  |.struct fs,some z=>(match Q.uO fs with
   |some pl=>(Aa (fun i=>pl[i]?) (bL z) parts).map .agg
   |none=>none)
  |.array _ e,some z=>(match Q.ty e with
   |some q=>(Aa (fun i=>some (i*q.size,q.size)) (bL z) parts).map .agg
   |none=>none)
  |_,_=>none
 |none=>none
def pR(Q:gP)(nm:Nat)(t:TypeId)(len:Nat)(parts:List (Nat×SV T.den))(K:EK T ρ):Tr ρ:=
 match Q.elem t with
 |some r=>
  match (r.zero).bind gA with
  |some z=>
   if 0<r.size∧len*r.size≤2^24∧parts.all (fun p=>decide (p.1<len)&&kV r.agg r.size p.2)=true then
    K (.bq r.size nm 0 none (some len)) [(nm,.arr false (av (parts.map (·.2))) false 0 (ft (List.replicate len z) parts))] []
   else .no "buildSlice"
  | none => .no "buildSlice"
 | none => .no "buildSlice"
def sb(Q:gP)(nm:Nat)(t:TypeId)(l c:SV T.den)(K:EK T ρ):Tr ρ:=
 match Q.elemOf t with
 |some (e,r)=>
  match r.zero,T.zero e,decide (0<r.size) with
  |some _,some z,true=>
   fY l fun l=>fY c fun c=>
    .cond (decide (l≤c)&&decide (c*r.bytes≤2^47)&&decide (c<2^62))
     (K (.bq r.size nm 0 (some (0,l)) (some c)) [(nm,.bW false false 0 e (List.replicate c z))] []) .fail
  |_,_,_=>.fail
 |none=>.fail
def sd(Q:gP)(nm:Nat)(t:TypeId)(l:SV T.den)(K:EK T ρ):Tr ρ:=
 match Q.elemOf t with
 |some (e,r)=>
  match r.zero,T.zero e,decide (0<r.size) with
  |some _,some z,true=>
   fY l fun c=>.cond (decide (c*r.bytes≤2^47)&&decide (c<2^62)) (K (.bq r.size nm 0 none (some c)) [(nm,.bW false false 0 e (List.replicate c z))] []) .fail
  |_,_,_=>.fail
 |none=>.fail
def KN:Operand→Operand→Bool
 |.tmp a,.tmp b=>Nat.beq a b
 |_,_=>false
def mR(H:ah T.den)(n c:Nat)(rg:Option (Nat×Nat)):Option (Nat×Nat):=
 match rg with
 |some q=>some q
 |none=>match H[n]? with
  |some (some o)=>if Nat.beq c o.cur then some (0,o.len) else none
  |_=>none
def uU:Option (SV T.den)→Option (Option AV)
 |none=>some none
 |some v=>(mQ v).map some
def Qe(Q:gP)(H:ah T.den)(t:TypeId)(x:SV T.den)(lo hi mx:Option (SV T.den))(K:EK T ρ):Tr ρ:=
 match x with
 |.lit v=>(match uU lo,uU hi,uU mx with
  |some l,some h,some m=>(match mZ Q.P t (.lit v) l h m with
   |some (.lit v)=>K (.lit v) [] []
   |some .nz=>K .nz [] []
   | _ => .no "via")
  | _, _, _ => .no "index")
 |.sl xs=>
  (match Q.elem t,mx with
  |some r,none=>ji 0 lo fun l=>ji xs.length hi fun h=>
   fF l (xs.length+1) 0 fun l=>fF h (xs.length+1) 0 fun h=>
    (match decide (l≤h)&&decide (h≤xs.length)&&xs.all (kV r.agg r.size) with
    |true=>K (.sl ((xs.drop l).take (h-l))) [] []
    | false => .no "index")
  | _, _ => .no "index")
 |.jt t' l=>
  (match Q.elem t,mx with
  |some r,none=>(match decide (r.agg=T.agg t')&&decide (r.size=T.size t') with
   |true=>(match lo,hi with
    |none,none=>K (.jt t' l) [] []
    |some lo,none=>fY lo fun a=>.cond (decide (a≤l.length)) (K (.jt t' (l.drop a)) [] []) .fail
    |none,some hi=>fY hi fun b=>.cond (decide (b≤l.length)) (K (.jt t' (l.take b)) [] []) .fail
    |some lo,some hi=>fY lo fun a=>fY hi fun b=>
     .cond (decide (a≤b)&&decide (b≤l.length)) (K (.jt t' ((l.drop a).take (b-a))) [] []) .fail)
   | false => .no "index")
  |some r,some mx=>(match decide (r.agg=T.agg t')&&decide (r.size=T.size t'),hi with
   |true,some hi=>(match lo.isNone&&(Us hi&&Us mx) with
    |true=>K .nz [] []
    |false=>ji 0 lo fun a=>fY hi fun b=>fY mx fun m=>
    .cond (decide (a≤b)&&decide (b≤m)&&decide (m≤l.length)&&decide (a<m)) (K (.wR t' ((l.drop a).take (b-a)) (m-a) (!l.isEmpty)) [] []) .fail)
   | _, _ => .no "index")
  | _, _ => .no "index")
 |.bq esz n c rg cap=>
  (match Q.elem t,mx,mR H n c rg,H[n]? with
  |some r,none,some (off,len),some (some o)=>(match Nat.beq c o.cur&&decide (esz=r.size) with
   |true=>ji 0 lo fun a=>ji len hi fun b=>
    .cond (decide (a≤b)&&decide (b≤cap.getD (o.len-off))&&decide (0<o.len))
     (K (.bq esz n c (some (off+a,b-a)) (cap.map (·-a))) [] []) .fail
   | false => .no "index")
  |some r,some mx,some (off,len),some (some o)=>(match Nat.beq c o.cur&&decide (esz=r.size),hi with
   |true,some hi=>ji 0 lo fun a=>fY hi fun b=>fY mx fun m=>
    .cond (decide (a≤b)&&decide (b≤m)&&decide (m≤cap.getD (o.len-off))&&decide (0<o.len))
     (K (.bq esz n c (some (off+a,b-a)) (some (m-a))) [] []) .fail
   | _, _ => .no "index")
  | _, _, _, _ => .no "index")
 |.ref n c i j=>(match Q.arr t,mx with
  |some (len,r),none=>ji 0 lo fun l=>ji len hi fun h=>
   fF l len 0 fun l=>fF h (len+1) 0 fun h=>(match decide (l≤h) with
    |true=>K (.iU n c i (j+l*r.size) (h-l) (len-l)) [] []
    |false=>.fail)
  | _, _ => .no "index")
 | _ => .no "index"
def KO(Q:gP)(t:TypeId)(x:SV T.den)(K:EK T ρ):Tr ρ:=
 match Q.arr t,x with
 |some (len,_),.iU n c i j l _=>(match decide (len≤l) with
  |true=>K (.ref n c i j) [] []
  |false=>.fail)
 | _, _ => .no "an array"
def se(Q:gP)(tF:Bool)(H:ah T.den)(t:TypeId)(x ix:SV T.den)(K:EK T ρ):Tr ρ:=
 fY ix fun i=>
  match x with
  |.sl xs=>(match Q.elem t with
   |some r=>fF i xs.length 0 fun m=>(match xs[m]? with
    |some e=>(match kV r.agg r.size e with
     |true=>K (.bh e 0) [] []
     | false => .no "index")
    | none => .no "index")
   | none => .no "index")
  |.jt t' l=>(match Q.elem t with
   |some r=>(match decide (r.agg=T.agg t')&&decide (r.size=T.size t') with
    |true=>.bind l[i]? fun x=>Ut t' x fun v=>K (.bh v 0) [] []
    | false => .no "index")
   | none => .no "index")
  |.bq esz n c rg _=>(match Q.elem t with
   |some r=>(match decide (0<r.size)&&decide (esz=r.size),mR H n c rg,H[n]? with
    |true,some (off,len),some (some (.arr ..))=>fF i len 0 fun m=>K (.ref n c (off+m) 0) [] []
    |true,some (off,len),some (some (.bW ..))=>.cond (decide (i<len)) (K (.ref n c (off+i) 0) [] []) .fail
    | _, _, _ => .no "index")
   | none => .no "index")
  |.iU n c k j len _=>(match Q.elem t with
   |some r=>fF i len 0 fun m=>K (.ref n c k (j+m*r.size)) [] []
   | none => .no "index")
  |.ref n c k j=>(match Q.arr t with
   |some (len,r)=>(match tF with
    |true=>.cond (decide (i<len)) (K (.sK (.ref n c k j) r.size len i) [] []) .fail
    |false=>fF i len 0 fun m=>K (.ref n c k (j+m*r.size)) [] [])
   | none => .no "index")
  |.bh e j=>(match Q.arr t with
   |some (len,r)=>(match tF with
    |true=>.cond (decide (i<len)) (K (.sK (.bh e j) r.size len i) [] []) .fail
    |false=>fF i len 0 fun m=>K (.bh e (j+m*r.size)) [] [])
   | none => .no "index")
  | _ => .no "index"
def Fl(Q:gP)(tF:Bool)(t:TypeId)(x ix:SV T.den)(K:EK T ρ):Tr ρ:=
 match x with
 |.lit v=>(match mQ ix with
  |some i=>oQ (uc Q.P t (.lit v) i) K
  | none => .no "index")
 |.agg l=>
  (match Q.arr t with
  |some (n,r)=>fY ix fun i=>(match tF&&!r.agg&&Nat.beq r.size 1,(gB (.agg l) 0 1 n).bind (KM i) with
   |true,some x=>.cond (decide (i<n)) (K x [] []) .fail
   |_,_=>fF i n 0 fun m=>xY (nI r.agg r.size (.agg l) (m*r.size)) [] K)
  | none => .no "index")
 | _ => .no "index"
inductive Src(den:Nat→Type)where
 |lM (l:List (SV den)) (cl:Bool)
 |y9 (t:Nat) (l:List (den t))
def NH(Q:gP)(H:ah T.den)(xt:TypeId)(x:SV T.den)(K:Src T.den→List Nat→Tr ρ):Tr ρ:=
 match Q.isSlice xt with
 |some true=>(match x with
  |.lit (.slice none 0 0)=>K (.lM [] true) []
  |.sl xs=>K (.lM xs true) []
  |.jt t l=>K (.y9 t l) []
  |.bq _ n c rg _=>(match H[n]? with
   |some (some (.arr _ cl _ cur es))=>(match Nat.beq c cur with
    |true=>(match rg with
     |none=>K (.lM es cl) [n]
     |some (off,len)=>if off+len≤es.length then K (.lM ((es.drop off).take len) cl) [n] else .fail)
    | _ => .no "append source")
   |some (some (.bW _ _ cur t l))=>(match Nat.beq c cur with
    |true=>(match rg with
     |none=>K (.y9 t l) [n]
     |some (off,len)=>.cond (decide (off+len≤l.length)) (K (.y9 t ((l.drop off).take len)) [n]) .fail)
    | _ => .no "append source")
   | _ => .no "append source")
  | _ => .no "append source")
 | _ => .no "append source"
def Src.ok(T:dw)(r:jY):Src T.den→Bool
 |.lM l _=>l.all (kV r.agg r.size)
 |.y9 t _=>decide (r.agg=T.agg t)&&decide (r.size=T.size t)
def Src.len{den:Nat→Type}:Src den→Nat
 |.lM l _=>l.length
 |.y9 _ l=>l.length
def rm(r:jY)(n:Nat):Bool:=decide (n*r.bytes≤2^44)&&decide (n≤2^44)
def pS(T:dw)(cur:Nat):aB T.den→Src T.den→Option (aB T.den)
 |.arr _ cl f _ es,.lM ys Yi=>some (.arr true (cl&&Yi) f cur (es++ys))
 |.arr _ true f _ es,.y9 t l=>(oP T t es).map fun l0=>.bW true f cur t (l0++l)
 |.bW _ f _ t l,.lM ys true=>(oP T t ys).map fun l2=>.bW true f cur t (l++l2)
 |.bW _ f _ t l,.y9 t' l2=>if h:t'=t then some (.bW true f cur t (l++z9 h l2)) else none
 |_,_=>none
def aB.flags{den:Nat→Type}:aB den→Bool×Bool×Bool
 |.arr g cl f _ _=>(g,cl,f)
 |.bW g f _ _ _=>(g,true,f)
 |.hJ|.kg _ _ _=>(false,true,true)
 |.oX _ _ _ _ _=>(false,false,true)
def aB.xZ(T:dw)(r:jY):aB T.den→Bool
 |.arr _ _ _ _ es=>es.all (kV r.agg r.size)
 |.bW _ _ _ t _=>decide (r.agg=T.agg t)&&decide (r.size=T.size t)
 |_=>false
def x5{den:Nat→Type}:Src den→aB den
 |.lM l cl=>.arr true cl false 0 l
 |.y9 t l=>.bW true false 0 t l
def oi(T:dw)(y:Src T.den)(a b:Tr ρ):Tr ρ:=
 match y with
 |.lM l _=>(match l with
  |[]=>a
  |_::_=>b)
 |.y9 _ l=>.cond l.isEmpty a b
def HU{α:Type}(l:List α)(i:Nat)(ys:List α):List α:=l.take i++(ys++l.drop (i+ys.length))
def uV(T:dw):aB T.den→Nat→Src T.den→Option (aB T.den)
 |.bW g f cur t l,i,.y9 t' l2=>if h:t'=t then some (.bW g f cur t (HU l i (z9 h l2))) else none
 |.bW g f cur t l,i,.lM ys true=>(oP T t ys).map fun l2=>.bW g f cur t (HU l i l2)
 |_,_,_=>none
def Bj(Q:gP)(nm:Nat)(H:ah T.den)(t xt:TypeId)(s x:SV T.den)(K:EK T ρ):Tr ρ:=
 match Q.elem t with
 | none => .no "append"
 |some r=>NH Q H xt x fun y rd=>
  match (r.zero).isSome&&decide (0<r.size)&&y.ok T r with
  | false => .no "append"
  |true=>(match s with
   |.lit (.slice none 0 0)=>oi T y (K s [] rd)
     (.cond (rm r y.len) (K (.bq r.size nm 0 none none) [(nm,x5 y)] rd) .fail)
   |.nz=>oi T y (K s [] rd)
     (.cond (rm r y.len) (K (.bq r.size nm 0 none none) [(nm,x5 y)] rd) .fail)
   |.sl _|.jt _ _=>oi T y (K s [] rd) .fail
   |.wR t' l c b=>oi T y (K (.jt t' l) [] rd)
     (.cond (b&&decide (c<l.length+y.len)&&rm r (l.length+y.len))
       (match decide (r.agg=T.agg t')&&decide (r.size=T.size t'),pS T 0 (.bW true false 0 t' l) y with
       |true,some o'=>K (.bq r.size nm 0 none none) [(nm,o')] rd
       | _, _ => .no "append") .fail)
   |.bq esz n c rg cap=>(match H[n]? with
    |some (some o)=>(match Nat.beq c o.cur&&!o.flags.2.2&&decide (esz=r.size) with
     |true=>(match cap,rg with
      |none,none=>(match y with
       |.lM [] _=>K s [] rd
       |_=>(match o.flags.1,pS T (o.cur+1) o y with
        |true,some o'=>.cond (rm r (o.len+y.len)) (K (.bq esz n (o.cur+1) none none) [(n,o')] (n::rd)) .fail
        | _, _ => .no "append"))
      |some k,none=>oi T y (K s [] rd)
       (.cond (decide (o.len+y.len≤k)) .fail
         (match o.xZ T r,pS T 0 o y with
         |true,some o'=>.cond (rm r (o.len+y.len)) (K (.bq esz nm 0 none none) [(nm,o')] (n::rd)) .fail
         | _, _ => .no "append"))
      |some k,some (off,len)=>(match uV T o (off+len) y with
        |some o'=>.cond (decide (len+y.len≤k)&&decide (off+len+y.len≤o.len)) (K (.bq esz n c (some (off,len+y.len)) (some k)) [(n,o')] (n::rd)) .fail
        | none => .no "append")
      | _, _ => .no "append")
     | false => .no "append")
    | _ => .no "append")
   | _ => .no "append")
def KP(Q:gP)(H:ah T.den)(t:TypeId)(d x:SV T.den)(K:EK T ρ):Tr ρ:=
 match Q.elem t,Q.isSlice t with
 |some r,some true=>NH Q H t x fun y rd=>(match y.ok T r&&decide (0<r.size),d with
  |true,.bq esz n c rg _=>(match mR H n c rg,H[n]? with
   |some (off,len),some (some o)=>(match Nat.beq c o.cur&&!o.flags.2.2&&decide (esz=r.size),uV T o off y with
    |true,some o'=>.cond (decide (off+len≤o.len)&&decide (y.len≤len)) (K (.lit (.int .i64 y.len)) [(n,o')] (n::rd)) .fail
    | _, _ => .no "copy")
   | _, _ => .no "copy")
  | _, _ => .no "copy")
 | _, _ => .no "copy"
def Qg(Q:gP)(H:ah T.den)(argTypes:Array TypeId)(type:TypeId)(x:SV T.den)(K:EK T ρ):Tr ρ:=
 match argTypes.toList with
 |[t]=>(match Q.isSlice t with
  |some true=>(match x with
   |.lit (.slice none 0 0)=>K (.lit (.int .i64 0)) [] []
   |.nz=>K (.lit (.int .i64 0)) [] []
   |.sl xs=>K (.lit (.int .i64 xs.length)) [] []
   |.jt _ l|.wR _ l _ _=>K (.lit (.int .i64 l.length)) [] []
   |.bq _ n c rg _=>(match mR H n c rg with
    |some (_,len)=>K (.lit (.int .i64 len)) [] []
    | none => .no "builtin")
   |.iU _ _ _ _ len _=>K (.lit (.int .i64 len)) [] []
   | _ => .no "builtin")
  | none => .no "builtin"
  |some false=>(match x with
   | .lit (.slice none 0 0) => .no "builtin"
   |.lit v=>oQ ((bu Q.P (Builtin.len_ argTypes type #[v])).bind gH) K
   |.agg _|.ref ..|.bh ..=>(match Q.arr t with
    |some (n,_)=>K (.lit (.int .i64 n)) [] []
    | none => .no "builtin")
   | _ => .no "builtin"))
 | _ => .no "builtin"
def x6(Q:gP)(nm:Nat)(H:ah T.den)(b:Builtin)(argTypes:Array TypeId)(type:TypeId)(args:List (SV T.den))(K:EK T ρ):Tr ρ:=
 match b with
 |.append=>(match argTypes.toList,args with
  |[t,xt],[s,x]=>Bj Q nm H t xt s x K
  | _, _ => .no "builtin")
 |.copy=>(match argTypes.toList,args with
  |[t,_],[d,x]=>KP Q H t d x K
  | _, _ => .no "builtin")
 |.len=>(match args with
  |[x]=>Qg Q H argTypes type x K
  | _ => .no "builtin")
 |.max=>(match mw args with
  |some vs=>oQ ((bu Q.P (Builtin.max_ argTypes type vs.toArray)).bind gH) K
  | none => .no "builtin")
 |.min=>(match mw args with
  |some vs=>oQ ((bu Q.P (Builtin.min_ argTypes type vs.toArray)).bind gH) K
  | none => .no "builtin")
 | _ => .no "builtin"
def Qh(op:BinOp)(k:IntKind)(a b:Int):Option Value:=
 match op with
 |.lss=>some (.bool (decide (a<b)))
 |.leq=>some (.bool (decide (a≤b)))
 |.gtr=>some (.bool (decide (b<a)))
 |.geq=>some (.bool (decide (b≤a)))
 |.eql=>some (.bool (a==b))
 |.neq=>some (.bool (!(a==b)))
 |.add=>some (.int k (k.wrap (a+b)))
 |.sub=>some (.int k (k.wrap (a-b)))
 |.mul=>some (.int k (k.wrap (a*b)))
 |_=>none
def Qi(op:BinOp)(k:IntKind)(a b:Int):Option Value:=
 match op with
 |.quo=>some (.int k (k.wrap (a.tdiv b)))
 |.rem=>some (.int k (a.tmod b))
 |_=>none
def VR(op:BinOp)(k:IntKind)(a b:Int):Option Value:=
 match op with
 |.shl=>some (.int k (k.wrap (a*2^min b.toNat k.bits)))
 |.shr=>some (.int k (a.fdiv (2^min b.toNat k.bits)))
 |_=>none
def SG:Operand→Bool
 |.tmp _=>true
 |_=>false
def CK.fits:CK→Value→Bool
 |.bool,.bool _=>true
 |.int k,.int k' _=>decide (k=k')
 |.str,.string _=>true
 |_,_=>false
def bm:List CK→List Value→Bool
 |[],[]=>true
 |k::ks,v::vs=>k.fits v&&bm ks vs
 |_,_=>false
def sf:Value→Value→Bool
 |.bool a,.bool b=>a==b
 |.int _ a,.int _ b=>a==b
 |.string a,.string b=>a==b
 |_,_=>false
def cI:List Value→List Value→Bool
 |[],[]=>true
 |x::xs,y::ys=>sf x y&&cI xs ys
 |_,_=>false
def wS(x y:Value)(K:Bool→Tr ρ):Tr ρ:=
 match x,y with
 |.bool a,.bool b=>K (a==b)
 |.int _ a,.int _ b=>K (a==b)
 |.string a,.string b=>K (a==b)
 |_,_=>K false
def kW:List Value→List Value→(Bool→Tr ρ)→Tr ρ
 |[],[],K=>K true
 |[x],[y],K=>wS x y K
 |x::x'::xs,y::y'::ys,K=>wS x y fun e=>kW (x'::xs) (y'::ys) fun r=>K (e&&r)
 |_,_,K=>K false
def Fm(Q:gP)(op:BinOp)(t:TypeId)(l l':List (SV T.den))(K:EK T ρ):Tr ρ:=
 match mw l,mw l',Q.ty t with
 |some c,some c',some m=>
  (match m.OS with
  |some ks=>(match m.agg&&bm ks c&&bm ks c' with
   |true=>kW c c' fun e=>(match op with
    |.eql=>K (.lit (.bool e)) [] []
    |.neq=>K (.lit (.bool (!e))) [] []
    | _ => .no "==")
   | false => .no "==")
  | none => .no "==")
 | _, _, _ => .no "=="
def Qj(Q:gP)(op:BinOp)(t:TypeId)(xo yo:Operand)(x y:SV T.den)(K:EK T ρ):Tr ρ:=
 match x,y with
 |.lit (.int k a),.lit (.int k' b)=>(match decide (k=k'),Qh op k a b with
  |true,some v=>K (.lit v) [] []
  |_,_=>(match decide (k=k'),Qi op k a b with
   |true,some v=>.cond (decide (b=0)) .fail (K (.lit v) [] [])
   |_,_=>(match SG yo,VR op k a b with
    |true,some v=>.cond (decide (b<0)) .fail (K (.lit v) [] [])
    |_,_=>oQ (fw Q.P op t xo yo (.lit (.int k a)) (.lit (.int k' b))) K)))
 |.agg l,.agg l'=>Fm Q op t l l' K
 |_,_=>(match mQ x,mQ y with
  |some a,some b=>oQ (fw Q.P op t xo yo a b) K
  |_,_=>(match y with
   |.lit b=>oQ (Bh Q.P op t x b) K
   |_=>(match x with
    |.lit a=>oQ (Bh Q.P op t y a) K
    |_=>.fail)))
def KQ(t:Bool)(a b:SV T.den)(K:EK T ρ):Tr ρ:=
 match a,b with
 |.lit (.bool x),.lit (.bool y)=>K (.lit (.bool (cond t x y))) [] []
 |.lit (.int k x),.lit (.int k' y)=>if k=k' then K (.lit (.int k (cond t x y))) [] [] else .cond t (K a [] []) (K b [] [])
 |_,_=>.cond t (K a [] []) (K b [] [])
def Bk(c:Bool)(v:SV T.den)(b:Bool):SV T.den:=
 match c with
 |true=>.ju [v,.lit (.bool b)]
 |false=>v
def tH{kk qP:KK}{t t':Nat}(h:kk=qP∧t=t')(m:List (kk.D×T.den t)):List (qP.D×T.den t'):=by
 obtain⟨rfl,rfl⟩:=h; exact m
def Bl(Q:gP)(H:ah T.den)(t:TypeId)(x ix:SV T.den)(c:Bool)(K:EK T ρ):Tr ρ:=
 match Q.mapOf t with
 |some (kk,et)=>(match (Q.ty et).bind (·.zero),T.zero et,ix with
  |some _,some z,.lit k=>(match kk.get k,x with
   |some _,.lit (.map none)=>K (Bk c (T.up et z) false) [] []
   |some k',.mp false n=>(match H[n]? with
    |some (some (.kg qP t' m))=>
     if h:qP=kk∧t'=et then
      K (Bk c (T.up et ((kC kk (tH h m) k').getD z)) (kC kk (tH h m) k').isSome) [] [n]
     else .no "map"
    | _ => .no "map")
   | _, _ => .no "map")
  | _, _, _ => .no "map")
 | none => .no "map"
def sg(Q:gP)(H:ah T.den)(t:TypeId)(x ix v:SV T.den)(K:EK T ρ):Tr ρ:=
 match Q.mapOf t with
 |some (kk,_)=>(match ix,x with
  |.lit k,.mp false n=>(match kk.get k,H[n]? with
   |some k',some (some (.kg qP t' m))=>
    (match bP v,T.dn t' v with
    | false, some y => if h : qP = kk ∧ t' = t' then K (.lit undef) [(n, .kg kk t' (mN kk (tH h m) k' y))] [n] else .no "map"
    | _, _ => .no "map")
   | _, _ => .no "map")
  | _, _ => .no "map")
 | none => .no "map"
def x7(Q:gP)(nm:Nat)(t:TypeId)(r:Option (SV T.den))(K:EK T ρ):Tr ρ:=
 match Q.mapOf t with
 |some (kk,et)=>ji 0 r fun _=>K (.mp false nm) [(nm,.kg kk et [])] []
 | none => .no "map"
def NI(Q:gP)(nm:Nat)(H:ah T.den)(ev:Operand→SV T.den)(o:Oper)(K:EK T ρ):Tr ρ:=
 match o.op with
 |.move x|.assign x=>K (ev x) [] []
 |.pick c a b=>(match ev c with
  |.lit (.bool t)=>KQ t (ev a) (ev b) K
  | _ => .no "pick")
 |.alloc t=>(match Q.ty t with
  |some r=>(match (r.zero).bind gA with
   |some z=>if 0<r.size then K (.ref nm 0 0 0) [(nm,.arr false true false 0 [z])] [] else .fail
   |none=>.fail)
  |none=>.fail)
 |.box _ x=>
  if (bL (ev x)).all gy=true∧0<(bL (ev x)).length∧bP (ev x)=false then
   K (.ref nm 0 0 0) [(nm, .arr false (av (bL (ev x))) false 0 [ev x])] [] else .no "box"
 | .build t parts => if ((parts.toList.map fun p => (p.1, ev p.2)).any fun p => bP p.2) = true then .no "build" else xY (Fk Q t (parts.toList.map fun p => (p.1, ev p.2))) [] K
 | .buildSlice t len parts => if ((parts.toList.map fun p => (p.1, ev p.2)).any fun p => bP p.2) = true then .no "build" else pR Q nm t len (parts.toList.map fun p => (p.1, ev p.2)) K
 |.load t a=>(match Q.ty t with
  |some r=>GJ r H (ev a) K
  |none=>.fail)
 |.store t a x=>(match Q.ty t with
  |some r=>Fj r H (ev a) (ev x) K
  |none=>.fail)
 |.nilCheck x=>(match ev x with
  |.ref n c i j=>K (.ref n c i j) [] []
  |.bh e j=>K (.bh e j) [] []
  |.gi t y=>K (.gi t y) [] []
  |.iV (.func f) a c=>K (.iV (.func f) a c) [] []
  |.lit (.func (.func f) a c)=>K (.lit (.func (.func f) a c)) [] []
  | _ => .no "nilCheck")
 |.binOp op t x y _=>Qj Q op t x y (ev x) (ev y) K
 |.unOp op _ x=>(match ev x with
  |.lit a=>oQ ((bu Q.P (Op.unary op a)).bind gH) K
  | _ => .no "unOp")
 |.convert s d x=>(match ev x with
  |.lit a=>oQ ((bu Q.P (convert s d a)).bind gH) K
  | _ => .no "convert")
 |.makeInterface t x=>if (jA Q.P t||(Q.P.underlying t).isNone||bP (ev x))=true then .fail else K (.gi t (ev x)) [] []
 |.makeFunc fn first captured=>
  if first.isEmpty&&captured.isEmpty then K (.lit (.func fn #[] #[])) [] []
  else if (first.toList.map ev).any bP||(captured.toList.map ev).any bP then .fail
  else K (.iV fn (first.toList.map ev) (captured.toList.map ev)) [] []
 |.makeSlice t l c=>(match KN l c with
  |true=>sd Q nm t (ev l) K
  |false=>sb Q nm t (ev l) (ev c) K)
 |.slice t x lo hi mx=>Qe Q H t (ev x) (lo.map ev) (hi.map ev) (mx.map ev) K
 |.sliceToArrayPointer t x=>KO Q t (ev x) K
 |.fieldAddr s x f=>(match Q.Ur s f,ev x with
  |some (off,_),.ref n c i j=>K (.ref n c i (j+off)) [] []
  |some (off,_),.bh e j=>K (.bh e (j+off)) [] []
  |some (off,_),.sK v aW len i=>K (.sK (ir off v) aW len i) [] []
  | _, _ => .no "fieldAddr")
 |.field s x f=>(match Q.Ur s f,ev x with
  |some (off,r),.agg l=>xY (nI r.agg r.size (.agg l) off) [] K
  | _, _ => .no "field")
 |.indexAddr t x ix=>se Q (match o.dst with|some d=>Q.tF d|none=>false) H t (ev x) (ev ix) K
 |.index t x ix=>Fl Q (match o.dst with|some d=>Q.tF d|none=>false) t (ev x) (ev ix) K
 |.makeMap t r=>x7 Q nm t (r.map ev) K
 |.lookup t x ix c=>Bl Q H t (ev x) (ev ix) c K
 |.mapUpdate t m k x=>sg Q H t (ev m) (ev k) (ev x) K
 |.extract t ix=>(match ev t with
  |.ju l=>xY l[ix]? [] K
  | _ => .no "extract")
 |.call c=>(match c.callee with
  |.builtin b=>x6 Q nm H b c.argTypes o.type (c.args.toList.map ev) K
  | _ => .no "call")
 | _ => .no "op"
end
section
variable {T:dw}{ρ:Type}
def NJ(dst:Option Tmp)(wf:List Nat):List Nat:=
 match dst with
 |some d=>d::wf
 |none=>wf
def bz.step(s:bz T.den)(dst:Option Tmp)(v:SV T.den)(wr:List (Nat×aB T.den)):bz T.den:=
 { s with fr:=KL s.n s.fr dst v,hp:=bf s.hp wr,wf:=NJ dst s.wf,wh:=wr.map (·.1)++s.wh }
def x8(v:Value)(K:Value→Tr ρ):Tr ρ:=
 match v with
 |.int k n=>K (.int k n)
 |.bool b=>K (.bool b)
 |.string s=>K (.string s)
 |v=>K v
mutual
def dx:SV T.den→(SV T.den→Tr ρ)→Tr ρ
 |.lit v,K=>x8 v fun v=>K (.lit v)
 |.agg l,K=>lN l fun l=>K (.agg l)
 |.ju l,K=>lN l fun l=>K (.ju l)
 |.sl l,K=>lN l fun l=>K (.sl l)
 |.bh e j,K=>dx e fun e=>K (.bh e j)
 |.iV fn f c,K=>lN f fun f=>lN c fun c=>K (.iV fn f c)
 |.gi t v,K=>dx v fun v=>K (.gi t v)
 |.dead,K=>K .dead
 |.hole,K=>K .hole
 |.jt t l,K=>K (.jt t l)
 |.ref n c i j,K=>K (.ref n c i j)
 |.iU n c i j ln cp,K=>K (.iU n c i j ln cp)
 |.bq esz n c rg cap,K=>K (.bq esz n c rg cap)
 |.mp y n,K=>K (.mp y n)
 |.wR t l c b,K=>K (.wR t l c b)
 |.nz,K=>K .nz
 |.sK v s len i,K=>dx v fun v=>K (.sK v s len i)
def lN:List (SV T.den)→(List (SV T.den)→Tr ρ)→Tr ρ
 |[],K=>K []
 |x::xs,K=>dx x fun x=>lN xs fun xs=>K (x::xs)
end
def KR(o:aB T.den)(K:aB T.den→Tr ρ):Tr ρ:=
 match o with
 |.arr g cl f c es=>lN es fun es=>K (.arr g cl f c es)
 |.bW g f c t l=>K (.bW g f c t l)
 |.hJ=>K .hJ
 |.kg kk t m=>K (.kg kk t m)
 |.oX fn ps as bd fr=>lN fr fun fr=>K (.oX fn ps as bd fr)
def mT:ah T.den→(ah T.den→Tr ρ)→Tr ρ
 |[],K=>K []
 |none::r,K=>mT r fun r=>K (none::r)
 |some o::r,K=>KR o fun o=>mT r fun r=>K (some o::r)
def sh:List Nat→(List Nat→Tr ρ)→Tr ρ
 |[],K=>K []
 |x::r,K=>sh r fun r=>K (x::r)
def Bm:sL T.den→(sL T.den→Tr ρ)→Tr ρ
 |[],K=>K []
 |(d,v)::r,K=>dx v fun v=>Bm r fun r=>K ((d,v)::r)
def bz.force(s:bz T.den)(K:bz T.den→Tr ρ):Tr ρ:=
 match s with
 |⟨fn,n,fr,hp,wf,wh,js⟩=>Bm fr fun fr=>mT hp fun hp=>sh wf fun wf=>sh wh fun wh=>K ⟨fn,n,fr,hp,wf,wh,js⟩
def Fo(hp:ah T.den)(wh:List Nat)(wr:List (Nat×aB T.den))(K:ah T.den→List Nat→Tr ρ):Tr ρ:=
 match wr with
 |[]=>K hp wh
 |w::r=>mT (bf hp (w::r)) fun hp=>sh ((w::r).map (·.1)++wh) fun wh=>K hp wh
def bz.fp(s:bz T.den)(dst:Option Tmp)(v:SV T.den)(wr:List (Nat×aB T.den))(K:bz T.den→Tr ρ):Tr ρ:=
 match s with
 |⟨fn,n,fr,hp,wf,wh,js⟩=>Fo hp wh wr fun hp wh=>
  match dst with
  |none=>K ⟨fn,n,fr,hp,wf,wh,js⟩
  |some d=>(match Nat.ble n d with
   |true=>K ⟨fn,n,fr,hp,d::wf,wh,js⟩
   |false=>dx v fun v=>K ⟨fn,n,(d,v)::fr,hp,d::wf,wh,js⟩)
def oj(ops:Array Oper):List Oper→(List (G×Oper)→Tr ρ)→Tr ρ
 |[],K=>K []
 |o::r,K=>(match eW ops o with
  |.always=>oj ops r fun l=>K ((.always,o)::l)
  |.never=>oj ops r fun l=>K ((.never,o)::l)
  |.on d w=>oj ops r fun l=>K ((.on d w,o)::l))
def wT(g:G)(s:bz T.den)(K:bz T.den→Bool→Tr ρ):Tr ρ:=
 match g with
 |.always=>K s true
 |.never=>K s false
 |.on d want=>(match cH s.fr d with
  |.lit (.bool b)=>.cond b (s.fp (some d) (.lit (.bool true)) [] fun s=>K s (true==want)) (s.fp (some d) (.lit (.bool false)) [] fun s=>K s (false==want))
  |.lit (.tuple _)=>K s false
  | _ => .no "guard")
def lO(fv:SV T.den)(args:List (SV T.den)):Option (FuncId×List (SV T.den)):=
 match fv with
 |.lit (.func (.func f) first captured)=>some (f,first.toList.map .lit++args++captured.toList.map .lit)
 |.iV (.func f) first captured=>some (f,first++args++captured)
 |_=>none
mutual
def fZ(T:dw)(H:ah T.den):Nat→SV T.den→(SV T.den→List Nat→Tr ρ)→Tr ρ
 | 0, _, _ => .no "seal"
 |k+1,v,K=>match v with
  |.bq _ n c rg _=>(match H[n]? with
   |some (some (.arr _ cl _ cur es))=>(match Nat.beq c cur with
    |true=>(match rg with
     |none=>(match cl with
      |true=>K (.sl es) [n]
      |false=>ga T H k es fun l rd=>K (.sl l) (n::rd))
     |some (off,len)=>if off+len≤es.length then (match cl with
      |true=>K (.sl ((es.drop off).take len)) [n]
      | false => ga T H k ((es.drop off).take len) fun l rd => K (.sl l) (n :: rd)) else .no "seal")
    | false => .no "seal")
   |some (some (.bW _ _ cur t l))=>(match Nat.beq c cur with
    |true=>(match rg with
     |none=>K (.jt t l) [n]
     |some (off,len)=>.cond (decide (off+len≤l.length)) (K (.jt t ((l.drop off).take len)) [n]) .fail)
    | false => .no "seal")
   | _ => .no "seal")
  |.ref n c i j=>(match H[n]? with
   |some (some (.arr _ cl _ cur es))=>(match Nat.beq c cur,es[i]? with
    |true,some e=>(match cl with
     |true=>K (.bh e j) [n]
     |false=>fZ T H k e fun e' rd=>K (.bh e' j) (n::rd))
    | _, _ => .no "seal")
   | _ => .no "seal")
  |.iU n c i j ln cp=>(match H[n]? with
   |some (some (.arr _ cl _ cur es))=>(match Nat.beq c cur,es[i]? with
    |true,some (.agg cs)=>(match decide (ln≤cp)&&decide (j+ln≤cs.length) with
     |true=>(match cl with
      |true=>K (.sl ((cs.drop j).take ln)) [n]
      |false=>ga T H k ((cs.drop j).take ln) fun l rd=>K (.sl l) (n::rd))
     | false => .no "seal")
    | _, _ => .no "seal")
   | _ => .no "seal")
  |.agg l=>ga T H k l fun l rd=>K (.agg l) rd
  |.ju l=>ga T H k l fun l rd=>K (.ju l) rd
  |.gi t v=>fZ T H k v fun v rd=>K (.gi t v) rd
  |.iV fn f c=>ga T H k f fun f rd=>ga T H k c fun c rd2=>K (.iV fn f c) (rd++rd2)
  |.sl xs=>K (.sl xs) []
  |.jt t l=>K (.jt t l) []
  |.wR t l _ _=>K (.jt t l) []
  |.nz=>K (.sl []) []
  |.bh e j=>K (.bh e j) []
  |.lit v=>(match v with
   |.slice none 0 0=>K (.sl []) []
   |v=>K (.lit v) [])
  | _ => .no "seal"
def ga(T:dw)(H:ah T.den):Nat→List (SV T.den)→(List (SV T.den)→List Nat→Tr ρ)→Tr ρ
 | 0, _, _ => .no "seal"
 |k+1,xs,K=>match xs with
  |[]=>K [] []
  |x::xs=>fZ T H k x fun y rd=>ga T H k xs fun ys rd2=>K (y::ys) (rd++rd2)
end
def my(T:dw)(H:ah T.den):Nat→List Nat→(List (Nat×aB T.den)→List Nat→Tr ρ)→Tr ρ
 | 0, _, _ => .no "seal"
 |k+1,ns,K=>match ns with
  |[]=>K [] []
  |n::r=>(match H[n]? with
   |some (some (.arr g cl _ cur es))=>(match cl with
    |true=>my T H k r fun l rd=>K ((n,.arr g true true cur es)::l) (n::rd)
    |false=>ga T H 1000 es fun es' rd=>my T H k (mv es++r) fun l rd2=>K ((n,.arr g true true cur es')::l) (n::rd++rd2))
   |some (some (.bW g _ cur t l))=>my T H k r fun w rd=>K ((n,.bW g true cur t l)::w) (n::rd)
   | _ => .no "seal")
def HV(T:dw)(σ:uR T)(H:ah T.den)(args:List (SV T.den))(K:EK T ρ):Tr ρ:=
 ga T H 1000 args fun as rd=>
  match (HS T σ.args as).bind (uQ (σ.args.map .v)) with
  |some xs=>.bind (σ.fn xs) fun r=>
   match qW (Qd T (fX (σ.res.map .v) r)) with
   |v=>(match vX v with
    |true=>K v [] rd
    |false=>my T H 1000 (mv args) fun wr rd2=>K v wr (rd++rd2))
  | none => .no "seal"
def NK(T:dw)(σ:vY T)(nm:Nat)(H:ah T.den)(args:List (SV T.den))(K:EK T ρ):Tr ρ:=
 ga T H 1000 args fun as rd=>
  match (HS T σ.args as).bind (uQ (σ.args.map .v)) with
  |some xs=>.bind (σ.fn xs) fun l=>K (.bq σ.esz nm 0 none none) [(nm,.bW true false 0 σ.el l)] rd
  | none => .no "seal"
def gb(n:Nat)(r:SV T.den)(hp:ah T.den):ah T.den:=
 if bt n r&&(hp.take n).all (jX n) then hp.take n else hp
def qC(n:Nat)(v:SV T.den):SV T.den:=if bt n v then v else .dead
def jL(n:Nat)(s:bz T.den):bz T.den:=
 if (s.hp.take n).all (jX n) then { s with fr:=s.fr.map fun q=>(q.1,qC n q.2),hp:=s.hp.take n } else s
def si(T:dw)(Q:gP)(s:bz T.den):List ResultVar→(List (SV T.den)→Tr ρ)→Tr ρ
 |[],K=>K []
 |.tmp t::rs,K=>(match cH s.fr t with
  |.dead=>.fail
  |v=>si T Q s rs fun l=>K (v::l))
 |.cell a t::rs,K=>(match Q.ty t with
  |some r=>GJ r s.hp (cH s.fr a) fun v _ _=>si T Q s rs fun l=>K (v::l)
  |none=>.fail)
def keyOf:Code→Nat
 |.region id _ _=>id
 |.seq a _=>keyOf a
 |.cond _ a _=>keyOf a
 |.block _ b|.loop b|.scope b=>keyOf b
 |_=>0
def sj(b:Code)(s:bz T.den):Nat:=keyOf b+1000*s.hp.length
def HW(T:dw)(x:TV T.den):Nat:=
 match SF T x with
 |.lit (.int _ m)=>m.toNat
 |_=>0
def isHole{den:Nat→Type}:SV den→Bool
 |.hole=>true
 |_=>false
def fO(H:ah T.den):oZ→List (TV T.den)→SV T.den×List (TV T.den)
 |.hole,l=>(.hole,l)
 |.HT esz n rg cap,l=>((match H[n]? with
  |some (some o)=>.bq esz n o.cur rg cap
  |_=>.dead),l)
 |.iU n i j len cap,l=>((match H[n]? with
  |some (some o)=>.iU n o.cur i j len cap
  |_=>.dead),l)
 |.val _,l=>(match l with
  |x::r=>(SF T x,r)
  |[]=>(.dead,[]))
 |.own esz n,l=>((match H[n]? with
  |some (some o)=>.bq esz n o.cur none none
  |_=>.dead),l)
 |.Ri esz n _ k,l=>(match k with
  |false=>(match l with
   |x::y::r=>((match H[n]? with
    |some (some o)=>.bq esz n o.cur (some (HW T x,HW T y)) none
    |_=>.dead),r)
   |_=>(.dead,[]))
  |true=>(match l with
   |x::y::z::r=>((match H[n]? with
    |some (some o)=>.bq esz n o.cur (some (HW T x,HW T y)) (some (HW T z))
    |_=>.dead),r)
   |_=>(.dead,[])))
def jj(H:ah T.den):List oZ→List (TV T.den)→List (SV T.den)×List (TV T.den)
 |[],l=>([],l)
 |p::ps,l=>match fO H p l with
  |(v,l')=>match jj H ps l' with
   |(vs,Z8)=>(v::vs,Z8)
def mz:aB T.den→cO→aB T.den
 |.arr g _ f c _,.list t=>.bW g f (c+1) t []
 |.bW g f c _ _,.list t=>.bW g f (c+1) t []
 |.arr g _ f c _,.fix t=>.bW g f c t []
 |.bW g f c _ _,.fix t=>.bW g f c t []
 |.kg kk t _,.map _ _=>.kg kk t []
 |o,_=>o
def rn(H:ah T.den):List (Nat×cO)→ah T.den
 |[]=>H
 |(n,p)::r=>match H[n]? with
  |some (some o)=>rn (H.set n (some (mz o p))) r
  |_=>rn H r
def jk(H:ah T.den)(o:aB T.den):cO→List (TV T.den)→aB T.den×List (TV T.den)
 |.list _,l|.fix _,l=>(match o,l with
  |.bW g f c _ _,⟨.l t,x⟩::r=>(.bW g f c t x,r)
  |_,_=>(o,l))
 |.one p,l=>(match o,fO H p l with
  |.arr g cl f c _,(v,r)=>(.arr g cl f c [v],r)
  |_,_=>(o,l))
 |.agg ps,l=>(match o,jj H ps l with
  |.arr g cl f c _,(vs,r)=>(.arr g cl f c [.agg vs],r)
  |_,_=>(o,l))
 |.map _ _,l=>(match o,l with
  |.kg _ _ _,⟨.m kk t,x⟩::r=>(.kg kk t x,r)
  |_,_=>(o,l))
def gd:ah T.den→List (Nat×cO)→List (TV T.den)→ah T.den
 |H,[],_=>H
 |H,(n,p)::r,l=>match H[n]? with
  |some (some o)=>(match jk H o p l with
   |(o',l')=>gd (H.set n (some o')) r l')
  |_=>gd H r l
def qD(n:Nat)(H:ah T.den):sL T.den→List (Nat×oZ)→List (TV T.den)→sL T.den×List (TV T.den)
 |fr,[],l=>(fr,l)
 |fr,(d,p)::r,l=>match fO H p l with
  |(v,l')=>qD n H (tE n fr d v) r l'
def Ab(n:Nat)(fr:sL T.den):List Nat→sL T.den
 |[]=>fr
 |d::r=>Ab n (tE n fr d .dead) r
def HX:o5→Option (aB T.den)
 |.hJ=>some .hJ
 |.list g f t=>some (.bW g f 0 t [])
def a9:Nat→List o5→List (Nat×cO)
 |_,[]=>[]
 |n,.hJ::r=>a9 (n+1) r
 |n,.list _ _ t::r=>(n,.list t)::a9 (n+1) r
def c8(az:List (Nat×oZ))(dead:List Nat)(objs:List (Nat×cO))(ext:List o5)(s:bz T.den)(l:List (TV T.den)):bz T.den:=
 match qD s.n (rn s.hp objs++ext.map HX) (Ab s.n s.fr dead) az l with
 |(fr,l')=>{ s with fr:=fr,hp:=gd (rn s.hp objs++ext.map HX) (objs++a9 s.hp.length ext) l' }
def fG(H:ah T.den)(p:oZ)(v:SV T.den):Option (List (TV T.den)):=
 match p with
 |.hole=>(match isHole v with
  |true=>some []
  |false=>none)
 |.HT esz n rg cap=>(match v with
  |.bq x9 n' c VS Fp=>(match H[n]? with
   |some (some o)=>if x9=esz∧n'=n∧c=o.cur∧VS=rg∧Fp=cap then some [] else none
   |_=>none)
  |_=>none)
 |.iU n i j len cap=>(match v with
  |.iU n' c i' j' NL Fp=>(match H[n]? with
   |some (some o)=>if n'=n∧c=o.cur∧i'=i∧j'=j∧NL=len∧Fp=cap then some [] else none
   |_=>none)
  |_=>none)
 |.val t=>(match bP v with
  |true=>none
  |false=>match T.dn t v with
   |some x=>some [⟨.v t,x⟩]
   |none=>none)
 |.own esz n=>match v with
  |.bq x9 n' c none none=>(match H[n]? with
   |some (some o)=>if x9=esz∧n'=n∧c=o.cur then some [] else none
   |_=>none)
  |_=>none
 |.Ri esz n t k=>match v with
  |.bq x9 n' c rg cap=>(match H[n]?,mR H n' c rg with
   |some (some o),some (off,len)=>if x9=esz∧n'=n∧c=o.cur then
     (T.dn t (.lit (.int .i64 off))).bind fun x=>(T.dn t (.lit (.int .i64 len))).bind fun y=>(match k,cap with
       |false,none=>some [⟨.v t,x⟩,⟨.v t,y⟩]
       |true,some m=>(T.dn t (.lit (.int .i64 m))).map fun z=>[⟨.v t,x⟩,⟨.v t,y⟩,⟨.v t,z⟩]
       |_,_=>none) else none
   |_,_=>none)
  |_=>none
def ic(H:ah T.den):List oZ→List (SV T.den)→Option (List (TV T.den))
 |[],[]=>some []
 |p::ps,v::vs=>(fG H p v).bind fun l=>(ic H ps vs).map fun r=>l++r
 |_,_=>none
def ee(H:ah T.den)(o:aB T.den):cO→Option (List (TV T.den))
 |.list t|.fix t=>(match o with
  |.bW _ _ _ t' l=>if h:t'=t then some [⟨.l t,z9 h l⟩] else none
  |.arr _ true _ _ es=>(oP T t es).map fun l=>[⟨.l t,l⟩]
  |_=>none)
 |.one p=>(match o with
  |.arr _ _ _ _ [v]=>fG H p v
  |_=>none)
 |.agg ps=>(match o with
  |.arr _ _ _ _ [.agg vs]=>ic H ps vs
  |_=>none)
 |.map kk t=>(match o with
  |.kg qP t' m=>if qP=kk∧t'=t then some [⟨.m qP t',m⟩] else none
  |_=>none)
def jZ(H:ah T.den):List (Nat×cO)→Option (List (TV T.den))
 |[]=>some []
 |(n,p)::r=>match H[n]? with
  |some (some o)=>(ee H o p).bind fun l=>(jZ H r).map fun m=>l++m
  |_=>none
def pT(H:ah T.den)(fr:sL T.den):List (Nat×oZ)→Option (List (TV T.den))
 |[]=>some []
 |(d,p)::r=>(fG H p (cH fr d)).bind fun l=>(pT H fr r).map fun m=>l++m
def uW(az:List (Nat×oZ))(objs:List (Nat×cO))(s:bz T.den):Option (List (TV T.den)):=
 (pT s.hp s.fr az).bind fun l=>(jZ s.hp objs).map fun m=>l++m
def qE(H H':ah T.den)(objs:List (Nat×cO)):Bool:=
 objs.all fun q=>match H[q.1]?,H'[q.1]? with
  |some (some o),some (some o')=>decide (o.flags=o'.flags)
  |_,_=>false
def hX(H0 H:ah T.den):List (Nat×cO)→Tr ρ→Tr ρ
 |[],K=>K
 |(n,.fix _)::r,K=>(match H0[n]?,H[n]? with
  |some (some o),some (some o')=>.cond (decide (o'.len=o.len)) (hX H0 H r K) .fail
  | _, _ => .no "fix")
 |_::r,K=>hX H0 H r K
def wU(H0 H:ah T.den)(objs:List (Nat×cO)):Bool:=
 objs.all fun q=>match q.2 with
  |.list _=>true
  |_=>match H0[q.1]?,H[q.1]? with
   |some (some o),some (some o')=>Nat.beq o.cur o'.cur
   |_,_=>false
def subset(a b:List Nat):Bool:=a.all fun x=>b.contains x
def cZ:List Nat→Bool
 |[]=>true
 |x::r=>!r.contains x&&cZ r
def CZ(H:ah T.den):Nat→List o5→Bool
 |_,[]=>true
 |n,e::r=>(match H[n]?,e with
  |some (some o),.hJ=>o.flags.2.1
  |some (some o),.list g f _=>decide (o.flags=(g,true,f))
  |_,_=>false)&&CZ H (n+1) r
def oZ.kh:oZ→List Nat
 |.val _|.hole=>[]
 |.own _ n|.Ri _ n _ _|.HT _ n _ _|.iU n _ _ _ _=>[n]
def cO.kh:cO→List Nat
 |.list _|.fix _|.map _ _=>[]
 |.one p=>p.kh
 |.agg ps=>ps.flatMap oZ.kh
def sk(kO:Nat)(az:List (Nat×oZ))(objs:List (Nat×cO)):Bool:=
 (az.flatMap (fun q=>q.2.kh)++objs.flatMap (fun q=>q.2.kh)).all fun n=>Nat.blt n kO||(objs.map (·.1)).contains n
def Bn(n:Nat)(az:List (Nat×oZ))(dead:List Nat):Bool:=(az.map (·.1)++dead).all fun d=>Nat.blt d n
def sn(az:List (Nat×oZ))(dead:List Nat)(objs:List (Nat×cO))(ext:List o5)(s0 s:bz T.den):Bool:=
 Bn s0.n az dead&&sk s0.hp.length az (objs++a9 s0.hp.length ext)&&subset s.wf (az.map (·.1)++dead)&&subset (s.wh.filter fun n=>decide (n<s0.hp.length)) (objs.map (·.1)) &&
  decide (s.hp.length=s0.hp.length+ext.length)&&qE s0.hp s.hp objs&&wU s0.hp s.hp objs&&CZ s.hp s0.hp.length ext
def GK(H:ah T.den)(l:List (Nat×cO)):Bool:=l.all fun q=>match H[q.1]?,q.2 with
 |some (some (.arr _ _ _ _ [_])),.one _=>true
 |some (some (.arr _ _ _ _ [_])),.agg _=>true
 |_,_=>false
def HY(h:Hint)(s0 s:bz T.den)(kind:Option Nat)(o:Bi):Option (HL T.den (o.jK h.objs)):=
 match decide (o.kind=kind)&&decide (s.js=o.js)&&(sn o.az (h.az.map (·.1)++h.dead) (jh h.objs o.more) o.ext s0 s&&(cZ ((jh h.objs o.more).map (·.1))&&GK s0.hp o.more)) with
 |true=>(uW o.az ((jh h.objs o.more)++a9 s0.hp.length o.ext) s).bind (uQ (o.jK h.objs))
 |false=>none
def tI(key:Nat)(h:Hint)(s0 s:bz T.den)(kind:Option Nat):(l:List Bi)→(y8 T.den h.objs l→Tr ρ)→Tr ρ
 |[],_=>.bad key (some kind) s0 s
 |[o],K=>(match HY h s0 s kind o with
  |some x=>hX s0.hp s.hp h.objs (K x)
  |none=>.bad key (some kind) s0 s)
 |o::p::r,K=>(match HY h s0 s kind o with
  |some x=>hX s0.hp s.hp h.objs (K (.inl x))
  |none=>tI key h s0 s kind (p::r) fun x=>K (.inr x))
def jM(h:Hint)(s:bz T.den)(o:Bi)(x:HL T.den (o.jK h.objs)):bz T.den:=
 let s':=c8 o.az (h.az.map (·.1)++h.dead) (jh h.objs o.more) o.ext s (fX (o.jK h.objs) x)
 { s' with wf:=o.az.map (·.1)++(h.az.map (·.1)++(h.dead++s.wf)),wh:=(jh h.objs o.more).map (·.1)++s.wh,js:=o.js }
def Bo(s:bz T.den)(kind:Option Nat):oY T.den:=
 match kind with
 |some id=>.exit id s
 |none=>.ret s
def ua(h:Hint)(s:bz T.den):(l:List Bi)→y8 T.den h.objs l→(oY T.den→Tr ρ)→Tr ρ
 |[],_,_=>.fail
 |[o],w,K=>(jM h s o w).force fun s=>K (Bo s o.kind)
 |o::p::r,w,K=>.sum w (fun x=>(jM h s o x).force fun s=>K (Bo s o.kind)) fun w=>ua h s (p::r) w K
def Hint.ok(h:Hint):Bool:=
 cZ (h.az.map (·.1)++h.dead)&&cZ (h.objs.map (·.1))&&h.outs.all fun o=>cZ (o.az.map (·.1))
def vZ(step:Oper→bz T.den→(bz T.den→Tr ρ)→Tr ρ):List (G×Oper)→bz T.den→(bz T.den→Tr ρ)→Tr ρ
 |[],s,K=>K s
 |(g,o)::rest,s,K=>wT g s fun s want=>
  match want with
  |false=>s.fp o.dst (.lit undef) [] fun s=>vZ step rest s K
  |true=>step o s fun s'=>vZ step rest s' K
def lP:List Item→List (G×Oper)→List (G×Item)
 |x::r,(g,_)::l=>(g,x)::lP r l
 |_,_=>[]
def ya:List (G×Item)→(List (G×Item)→Tr ρ)→Tr ρ
 |[],K=>K []
 |(g,⟨i,nm,o⟩)::r,K=>ya r fun l=>K ((g,⟨i,nm,o⟩)::l)
def sq[ab](step:Nat→Oper→bz T.den→EK T ρ→Tr ρ):List (G×Item)→bz T.den→List fC→(bz T.den→List fC→Tr ρ)→Tr ρ
 |[],s,fs,K=>K s fs
 |(g,x)::rest,s,fs,K=>wT g s fun s want=>
  match want with
  |false=>s.fp x.o.dst (.lit undef) [] fun s=>sq step rest s (fs++[⟨x.idx,[],[]⟩]) K
  |true=>step (x.at s.hp.length) x.o s fun v wr rd=>
   match wr.all (fun q=>decide (q.1<s.hp.length)&&((au x.o.op&&decide (q.1=x.nm))||(match s.hp[q.1]? with|some (some _)=>true|_=>false))) with
   |true=>s.fp x.o.dst v wr fun s=>sq step rest s (fs++[⟨x.idx,rd,wr.map (·.1)⟩]) K
   |false=>.fail
end
def pU{T:dw}(esz j nm:Nat)(e:SV T.den):Option (SV T.den):=
 match e with
 |.agg l=>(match l[j]? with
  |some (.lit (.slice none 0 0))=>some (.agg (l.set j (.bq esz nm 0 none none)))
  |_=>none)
 |.lit (.slice none 0 0)=>if j=0 then some (.bq esz nm 0 none none) else none
 |_=>none
def HZ{T:dw}{ρ:Type}(d:Tmp):List (Nat×Nat)→bz T.den→(bz T.den→Tr ρ)→Tr ρ
 |[],s,K=>K s
 |(j,esz)::r,s,K=>(match cH s.fr d with
  |.ref n _ i k=>(match s.hp[n]? with
   |some (some (.arr g _ f cur es))=>(match (es[i]?).bind (pU esz (k+j) s.hp.length) with
    |some e'=>s.fp none (.lit undef) [(n,.arr g false f cur (es.set i e')),(s.hp.length,.arr true true false 0 [])] fun s=>HZ d r s K
    | none => .no "nil")
   | _ => .no "nil")
  |v=>(match pU esz j s.hp.length v with
   |some v'=>s.fp (some d) v' [(s.hp.length,.arr true true false 0 [])] fun s=>HZ d r s K
   | none => .no "nil"))
def C1{T:dw}{ρ:Type}(l:Tmp→List (Nat×Nat))(dst:Option Tmp)(s:bz T.den)(K:bz T.den→Tr ρ):Tr ρ:=
 match dst with
 |some d=>HZ d (l d) s K
 |none=>K s
def Ac{den:Nat→Type}(j:Nat):SV den→Option (SV den)
 |.agg l=>(match Nat.blt j l.length with
  |true=>some (.agg (l.set j .hole))
  |false=>none)
 |_=>none
def yb{T:dw}{ρ:Type}:List (Nat×Nat)→bz T.den→(bz T.den→Tr ρ)→Tr ρ
 |[],s,K=>K s
 |(d,j)::r,s,K=>(match cH s.fr d with
  |.ref n _ i k=>(match s.hp[n]? with
   |some (some (.arr g _ f cur es))=>(match (es[i]?).bind (Ac (k+j)) with
    |some e'=>s.fp none (.lit undef) [(n,.arr g false f cur (es.set i e'))] fun s=>yb r s K
    | none => .no "a hole")
   | _ => .no "a hole")
  | _ => .no "a hole")
def cellOf{T:dw}(s:bz T.den)(d j:Nat):Option (SV T.den):=
 match cH s.fr d with
 |.ref n _ i k=>(match s.hp[n]? with
  |some (some (.arr _ _ _ _ es))=>(match es[i]? with
   |some (.agg l)=>l[k+j]?
   |_=>none)
  |_=>none)
 |.agg l=>l[j]?
 |v=>(match Nat.beq j 0 with
  |true=>some v
  |false=>none)
def setCell{T:dw}(s:bz T.den)(d j:Nat)(v:SV T.den):bz T.den:=
 match cH s.fr d with
 |.ref n _ i k=>(match s.hp[n]? with
  |some (some (.arr g cl f cur es))=>(match es[i]? with
   |some (.agg l)=>{ s with hp:=s.hp.set n (some (.arr g cl f cur (es.set i (.agg (l.set (k+j) v))))),wh:=n::s.wh }
   |_=>s)
  |_=>s)
 |.agg l=>{ s with fr:=tE s.n s.fr d (.agg (l.set j v)),wf:=d::s.wf }
 |_=>{ s with fr:=tE s.n s.fr d v,wf:=d::s.wf }
def KS{ρ:Type}:Nat→Nat→Int→(Int→Tr ρ)→Tr ρ
 |0,_,_,_=>.fail
 |b+1,m,n,K=>.cond (n==Int.ofNat m) (K (Int.ofNat m)) (KS b (m+1) n K)
def C2{T:dw}{ρ:Type}(t:Nat)(l:List (T.den t)):Nat→Nat→(List (SV T.den)→Tr ρ)→Tr ρ
 |0,_,K=>K []
 |b+1,i,K=>.bind l[i]? fun x=>C2 t l b (i+1) fun xs=>K (T.up t x::xs)
def yd{T:dw}{ρ:Type}(s:bz T.den)(w:Tw)(K:bz T.den→Tr ρ):Tr ρ:=
 match w with
 |.num d j b=>(match cellOf s d j with
  |some (.lit (.int k n))=>KS b 0 n fun m=>(setCell s d j (.lit (.int k m))).force K
  | _ => .no "a number")
 |.Yh d j n=>(match cellOf s d j with
  |some (.jt t l)=>.cond (Nat.blt 0 n&&decide (l.length=n)) (C2 t l n 0 fun xs=>(setCell s d j (.sl xs)).force K) .fail
  | _ => .no "a list")
 |.arr d n=>(match cH s.fr d with
  |.bq _ nm _ _ _=>(match s.hp[nm]? with
   |some (some (.bW g f cur t l))=>.cond (decide (l.length=n)) (C2 t l n 0 fun xs=>bz.force { s with hp:=s.hp.set nm (some (.arr g true f cur xs)),wh:=nm::s.wh } K) .fail
   | _ => .no "an array")
  | _ => .no "an array")
 |.int d j=>(match cellOf s d j with
  |some (.lit (.int k n))=>.bind (some n) fun n=>(setCell s d j (.lit (.int k n))).force K
  | _ => .no "a number")
 |.name d=>(match cH s.fr d with
  |.bq esz nm c rg cap=>(match s.hp[nm]? with
   |some (some (.bW g f cur t l))=>.bind (some l) fun l=>(match rg with
    |none=>bz.force { s with hp:=s.hp.set nm (some (.bW g f cur t l)),wh:=nm::s.wh } K
    |some (off,len)=>.bind (some off) fun off=>.bind (some len) fun len=>
     bz.force { s with fr:=tE s.n s.fr d (.bq esz nm c (some (off,len)) cap),hp:=s.hp.set nm (some (.bW g f cur t l)),wf:=d::s.wf,wh:=nm::s.wh } K)
   | _ => .no "a name")
  | _ => .no "a name")
def SH{T:dw}{ρ:Type}:List Tw→bz T.den→(bz T.den→Tr ρ)→Tr ρ
 |[],s,K=>K s
 |w::r,s,K=>yd s w fun s=>SH r s K
def SI{T:dw}{ρ:Type}(l:Tmp→List Tw)(dst:Option Tmp)(s:bz T.den)(K:bz T.den→Tr ρ):Tr ρ:=
 match dst with
 |some d=>SH (l d) s K
 |none=>K s
def wE{den:Nat→Type}(u:List Nat)(fr:sL den):List Nat→List (SV den)
 |[]=>[]
 |d::r=>(match u.contains d with
  |true=>cH fr d
  |false=>.dead)::wE u fr r
def lQ{den:Nat→Type}(n:Nat)(fr:sL den):List Tmp→List (SV den)→sL den
 |p::ps,x::xs=>lQ n (tE n fr p x) ps xs
 |_,_=>fr
def Bp(js:List (Nat×kY))(n:Nat)(st:kY):List (Nat×kY):=js.map fun q=>match Nat.beq q.1 n with
 |true=>(q.1,st)
 |false=>q
def C3(js:List (Nat×kY))(n:Nat):List (Nat×kY):=js.filter fun q=>!Nat.beq q.1 n
def sr(js:List (Nat×kY))(n:Nat):Bool:=js.all fun q=>Nat.blt q.1 n
def bz.gR{T:dw}(s:bz T.den)(n:Nat)(hp:ah T.den)(wh:List Nat)(js:List (Nat×kY)):bz T.den:=
 { s with hp:=hp.set n (some .hJ),wh:=wh,js:=C3 js n }
def KT{T:dw}{ρ:Type}(s:bz T.den)(n:Nat)(dst:Option Tmp)(b:Bool)(st:kY)(s2:bz T.den)(K:bz T.den→Tr ρ):Tr ρ:=
 match cm s2.js n with
 |some .busy=>(match sr s2.js s.hp.length with
  |true=>mT (gb s.hp.length (.lit (.bool b)) s2.hp) fun hp=>bz.fp ⟨s.fn,s.n,s.fr,hp,s.wf,s2.wh,Bp s2.js n st⟩ dst (.lit (.bool b)) [] K
  | false => .no "a round's end")
 | _ => .no "a round's end"
def qF(pr:List Nat)(fs:List fC):Bool:=
 match fs.all fun f=>f.wr.isEmpty with
 |true=>true
 |false=>eV pr fs
def GL{T:dw}(Q:gP)(ev:Operand→SV T.den)(op:Op)(H:ah T.den)(n:Nat)(o':aB T.den):Bool:=
 match op with
 |.store t a _=>(match Q.ty t,ev a,H[n]? with
  |some r,.ref n' _ i j,some (some (.arr _ false _ cur es))=>(match es[i]? with
   |some (.agg l)=>Nat.beq n' n&&Nat.ble (j+r.size) l.length&&((l.drop j).take r.size).all isHole&&Nat.beq cur o'.cur&&Nat.beq es.length o'.len
   |_=>false)
  |_,_,_=>false)
 |_=>false
def uX[ab]{T:dw}(Q:gP)(nm:Nat){ρ:Type}:List Oper→bz T.den→Option Nat→List Nat→(bz T.den→Option Nat→List Nat→Tr ρ)→Tr ρ
 |[],s,ov,rd,K=>K s ov rd
 |o::r,s,ov,rd,K=>(match o.guard with
  | some _ => .no "a look"
  |none=>(match o.op with
   | .call _ => .no "a look"
   |.assign (.const (.slice none 0 0))=>s.fp o.dst (.lit cK) [] fun s=>uX Q nm r s ov rd K
   |op=>NI Q s.hp.length s.hp (cU s.fr) o fun v wr rd'=>(match wr.all fun q=>Nat.ble nm q.1 with
     |true=>s.fp o.dst v wr fun s=>uX Q nm r s ov (rd++rd') K
     |false=>(match ov,wr with
      |none,[(n,o')]=>(match Nat.blt n nm&&GL Q (cU s.fr) op s.hp n o' with
       |true=>s.fp o.dst v [(n,o')] fun s=>uX Q nm r s (some n) (rd++(rd'++[n])) K
       | false => .no "a look")
      | _, _ => .no "a look"))))
def lR[ab]{T:dw}(Q:gP)(nm:Nat){ρ:Type}:Code→bz T.den→Option Nat→List Nat→(Bool→bz T.den→Option Nat→List Nat→Tr ρ)→Tr ρ
 |.skip,s,ov,rd,K=>K false s ov rd
 |.ret,s,ov,rd,K=>K true s ov rd
 |.seq a b,s,ov,rd,K=>lR Q nm a s ov rd fun q s ov rd=>(match q with
  |true=>K true s ov rd
  |false=>lR Q nm b s ov rd K)
 |.region _ ops false,s,ov,rd,K=>uX Q nm ops.toList s ov rd (K false)
 |.cond o a b,s,ov,rd,K=>(match cU s.fr o with
  |.lit (.bool t)=>.cond t (lR Q nm a s ov rd K) (lR Q nm b s ov rd K)
  | _ => .no "a look")
 | _, _, _, _, _ => .no "a look"
def GM{den:Nat→Type}(fr:sL den)(rs:List ResultVar):List Nat:=rs.flatMap fun
 |.tmp _=>[]
 |.cell a _=>mO (cH fr a)
def wV{den:Nat→Type}(fr:sL den)(rs:List ResultVar):Bool:=rs.all fun
 |.tmp _=>true
 |.cell a _=>!bP (cH fr a)
def KU[ab](S:og){ρ:Type}(g:FuncId)(args:List (SV S.T.den))(H:ah S.T.den)(K:EK S.T ρ):Tr ρ:=
 match S.C.kind g,S.C.ra g,S.C.P.funcs[g]? with
 |.imp,none,some fn=>(match fn.body with
  |some c=>(match BQ c with
   | true => .no "a look"
   |false=>lR (S.Qf g) H.length c ⟨g,max fn.ntmps args.length,mu 0 args,H,[],[],[]⟩ none [] fun _ s ov rd=>si S.T S.Q s fn.results.toList fun l=>
   (match bt H.length (qW l)&&wV s.fr fn.results.toList&&(match ov with
     |some n=>(match s.hp[n]? with
      |some o=>jX H.length o
      |none=>false)
     |none=>true) with
   |true=>K (qW l) [] ((rd++GM s.fr fn.results.toList).filter fun n=>Nat.blt n H.length)
   | false => .no "a look's answer"))
  | none => .no "a look")
 | _, _, _ => .no "a call without an answer"
def GN{den:Nat→Type}(P:Program)(v:SV den)(name:String):Option (FuncId×SV den):=
 match v with
 |.gi t x=>(AE P t name).map fun f=>(f,x)
 |_=>none
def Uu[ab](S:og){ρ:Type}(nm:Nat)(o:Oper)(s:bz S.T.den)(K:EK S.T ρ):Tr ρ:=
 match o.op with
 |.call c=>
  (match c.callee with
  |.builtin _=>NI (S.Qf s.fn) nm s.hp (cU s.fr) o K
  |.value f=>
   (match lO (cU s.fr f) (c.args.toList.map (cU s.fr)) with
   |none=>.fail
   |some (g,args)=>(match au o.op with
    |true=>(match args.any bP,S.own g with
     |false,some σ=>NK S.T σ nm s.hp args K
     | _, _ => .no "a call of one's own without an answer")
    |false=>(match args.any bP,S.sum g with
     |false,some σ=>HV S.T σ s.hp args K
     |false,none=>KU S g args s.hp K
     | _, _ => .no "a call without an answer")))
  |.invoke rv name=>
   (match GN S.C.P (cU s.fr rv) name with
   | none => .no "invoke"
   |some (g,x)=>(match (x::c.args.toList.map (cU s.fr)).any bP,S.sum g with
    |false,some σ=>HV S.T σ s.hp (x::c.args.toList.map (cU s.fr)) K
    | _, _ => .no "a call without an answer")))
 |_=>NI (S.Qf s.fn) nm s.hp (cU s.fr) o K
def KV[ab]{T:dw}{ρ:Type}(ec:Code→bz T.den→(oY T.den→Tr ρ)→Tr ρ)(eo:Oper→bz T.den→(bz T.den→Tr ρ)→Tr ρ):Code→bz T.den→(oY T.den→Option (SV T.den)→Tr ρ)→Tr ρ
 |.seq x y,s,K=>
  (match sS x with
  |some (ops,v)=>oj ops ops.toList.dropLast fun l=>vZ eo l s fun s1=>(match lO (cU s1.fr v) [] with
   |some _=>ec y s1 fun o=>K o (some (cU s1.fr v))
   | none => .no "what is deferred")
  |none=>ec x s fun
   |.norm s'=>KV ec eo y s' K
   |r=>K r none)
 |c,s,K=>ec c s fun o=>K o none
def C4[ab]{T:dw}{ρ:Type}(ec:Code→bz T.den→(oY T.den→Tr ρ)→Tr ρ)(Q:gP)(P:Program)(rs:List ResultVar)(s:bz T.den)(d:Option (SV T.den))(K:List (SV T.den)→ah T.den→List Nat→List (Nat×kY)→Tr ρ):Tr ρ:=
 match d with
 |none=>si T Q s rs fun l=>K l s.hp s.wh s.js
 |some v=>(match lO v [] with
  | none => .no "what is deferred"
  |some (g,as)=>(match P.funcs[g]? with
   |none=>.fail
   |some fg=>(match fg.body with
    |none=>.fail
    |some cg=>(match cx cg&&!as.any bP with
     | false => .no "what is deferred"
     |true=>bz.force ⟨g,max fg.ntmps as.length,mu 0 as,s.hp,[],s.wh,s.js⟩ fun t0=>ec (nQ cg) t0 fun
      |.norm t|.ret t=>si T Q t fg.results.toList fun _=>si T Q ⟨s.fn,s.n,s.fr,t.hp,s.wf,t.wh,t.js⟩ rs fun l=>K l t.hp t.wh t.js
      |.exit _ _=>.fail))))
mutual
def OT[ab](S:og):Nat→(ρ:Type)→FuncId→List (SV S.T.den)→ah S.T.den→List Nat→List (Nat×kY)→(SV S.T.den→ah S.T.den→List Nat→List (Nat×kY)→Tr ρ)→Tr ρ
 | 0, _, _, _, _, _, _, _ => .no "fuel"
 |k+1,ρ,f,args,hp,wh,js,K=>
  match S.C.P.funcs[f]? with
  |none=>.fail
  |some fn=>
   match fn.body with
   |none=>.fail
   |some c=>sh [max fn.ntmps args.length] fun _=>bz.force ⟨f,max fn.ntmps args.length,mu 0 args,hp,[],wh,js⟩ fun s=>
    (match BQ c with
    |true=>(match cx c with
     |true=>KV (fun c s K=>wF S k ρ c s K) (fun o s K=>NM S k ρ o s K) c s fun o d=>(match o with
      |.norm s'|.ret s'=>C4 (fun c s K=>wF S k ρ c s K) S.Q S.C.P fn.results.toList s' d fun l hp wh js=>K (qW l) hp wh js
      |.exit _ _=>.fail)
     | false => .no "a range beside a deferred call")
    |false=>wF S k ρ c s fun
    |.norm s|.ret s=>si S.T S.Q s fn.results.toList fun l=>K (qW l) s.hp s.wh s.js
    |.exit _ _=>.fail)
def wF[ab](S:og):Nat→(ρ:Type)→Code→bz S.T.den→(oY S.T.den→Tr ρ)→Tr ρ
 | 0, _, _, _, _ => .no "fuel"
 |k+1,ρ,c,s,K=>
  match c with
  |.skip|.label _=>K (.norm s)
  |.ret=>K (.ret s)
  |.exit id=>K (.exit id s)
  |.seq a b=>wF S k ρ a s fun
   |.norm s'=>wF S k ρ b s' K
   |r=>K r
  |.cond o a b=>
   (match cU s.fr o with
   |.lit (.bool t)=>.cond t (wF S k ρ a s K) (wF S k ρ b s K)
   | _ => .no "cond")
  |.block id b=>wF S k ρ b s fun
   |.exit IY s'=>if IY=id then K (.norm s') else K (.exit IY s')
   |r=>K r
  |.scope b=>
   (match ph b with
   |some c=>wF S k ρ c s K
   | none => .no "code")
  |.loop b=>
   (match S.hint s.fn (sj b s) with
   |none=>(match S.uS s.fn (keyOf b) with
    |true=>wF S k ρ b s fun
     |.norm s'=>(match sr s'.js s.hp.length with
      |true=>(jL s.hp.length s').force fun s'=>wF S k ρ (.loop b) s' K
      | false => .no "a round's end")
     |r=>K r
    |false=>.lZ s b)
   |some h=>
    (match h.ok&&Bn s.n h.az h.dead&&sk s.hp.length h.az h.objs,(uW h.az h.objs s).bind (uQ h.jK) with
    |true,some x0=>.loop (τ:=HL S.T.den h.jK) (ω:=y8 S.T.den h.objs h.outs)
      (fun x=>bz.force { c8 h.az h.dead h.objs [] s (fX h.jK x) with wf:=[],wh:=[] } fun s1=>wF S k _ b s1 fun
        |.norm s'=>
         (match jL s.hp.length s' with
         |tZ=>(match decide (tZ.js=s.js)&&sn h.az h.dead h.objs [] s tZ,(uW h.az h.objs tZ).bind (uQ h.jK) with
          |true,some y=>hX s.hp tZ.hp h.objs (.ret (.inl y))
          |_,_=>.bad (sj b s) none s tZ))
        |.exit id s'=>tI (sj b s) h s s' (some id) h.outs fun w=>.ret (.inr w)
        |.ret s'=>tI (sj b s) h s s' none h.outs fun w=>.ret (.inr w))
      x0 fun w=>ua h s h.outs w K
    |_,_=>.bad (sj b s) none s s))
  |.region id ops draw=>
   (match draw with
   |false=>yb (S.C.iv s.fn id) s fun s=>SH (S.tw s.fn (1000000+id)) s fun s=>oj ops ops.toList fun l=>vZ (fun o s K=>NM S k ρ o s K) l s fun s'=>K (.norm s')
   |true=>
    if sR ops=true then
     yb (S.C.iv s.fn id) s fun s1=>SH (S.tw s.fn (1000000+id)) s1 fun s1=>oj ops ops.toList fun l=>ya (lP (bH 0 s1.hp.length (ops.toList.take (S.C.head s.fn id ops))) l) fun li=>sq (fun nm o s K=>Uu S nm o s K) li
       { s1 with hp:=s1.hp++List.replicate ((ops.toList.take (S.C.head s.fn id ops)).filter fun o=>au o.op).length none } [] fun s' fs=>
      if (qF (bZ ops.toList) fs && mD (bZ ops.toList) ops.size (S.C.head s.fn id ops)) = true then vZ (fun o s K => NM S k ρ o s K) (l.drop (S.C.head s.fn id ops)) s' fun s' => K (.norm s') else .no "an order"
    else .no "a region")
  |.rangeFunc f ps as bd=>
   (match lO (cU s.fr f) [.mp true s.hp.length] with
   |some (g,args)=>(match !args.any bP&&(cV as++cV bd).all (fun d=>!bP (cH s.fr d)||!Nat.blt d s.n) with
    |true=>OT S k ρ g args (s.hp++[some (.oX s.fn ps as bd (wE (cV as++cV bd) s.fr (List.range s.n)))]) s.wh ((s.hp.length,.ready)::s.js) fun _ hp wh js=>
     (match cm js s.hp.length with
     |some .ready=>K (.norm (s.gR s.hp.length hp wh js))
     |some (.jump none)=>K (.ret (s.gR s.hp.length hp wh js))
     |some (.jump (some id))=>K (.exit id (s.gR s.hp.length hp wh js))
     | _ => .no "a range's end")
    | false => .no "a range over what is dead")
   | none => .no "a range")
  | _ => .no "code"
def NM[ab](S:og):Nat→(ρ:Type)→Oper→bz S.T.den→(bz S.T.den→Tr ρ)→Tr ρ
 | 0, _, _, _, _ => .no "fuel"
 |k+1,ρ,o,s,K=>
  match o.op with
  |.call c=>
   (match c.callee with
   |.builtin _=>NI (S.Qf s.fn) s.hp.length s.hp (cU s.fr) o fun v wr _=>s.fp o.dst v wr K
   |.value f=>
    (match lO (cU s.fr f) (c.args.toList.map (cU s.fr)) with
    |none=>(match cU s.fr f with
     |.mp true n=>(match s.hp[n]?,cm s.js n,(c.args.toList.map (cU s.fr)).any bP with
      |some (some (.oX fn ps as bd fr)),some .ready,false=>
       (match Nat.beq c.args.size ps.size with
       |true=>bz.force ⟨fn,fr.length,lQ fr.length (mu 0 fr) ps.toList (c.args.toList.map (cU s.fr)),s.hp,[],s.wh,s.js⟩ fun s0=>
        wF S k ρ as s0 fun
        |.norm s1=>(match cm s1.js n with
         |some .ready=>wF S k ρ bd { s1 with js:=Bp s1.js n .busy } fun
          |.norm s2=>KT s n o.dst true .ready s2 K
          |.exit id s2=>KT s n o.dst false (.jump (some id)) s2 K
          |.ret s2=>KT s n o.dst false (.jump none) s2 K
         | _ => .no "a round")
        | _ => .no "a round"
       | false => .no "a round")
      | _, _, _ => .no "a round")
     | _ => .no "what is called")
    |some (g,args)=>(match au o.op with
     |true=>(match args.any bP,S.own g with
      |false,some σ=>NK S.T σ s.hp.length s.hp args fun v wr _=>s.fp o.dst v wr K
      | _, _ => .no "a call of one's own without an answer")
     |false=>(match args.any bP,S.sum g with
     |false,some σ=>HV S.T σ s.hp args fun v wr _=>s.fp o.dst v wr K
     |false,none=>(match S.C.kind g with
      | .pure => .no "a call without an answer"
      |.imp=>OT S k ρ g args s.hp s.wh s.js fun v hp wh js=>(match sr js s.hp.length with
       |true=>mT (gb s.hp.length v hp) fun hp=>bz.fp ⟨s.fn,s.n,s.fr,hp,s.wf,wh,js⟩ o.dst v [] K
       | false => .no "a call's end"))
     | true, _ => .no "a dead argument")))
   |.invoke rv name=>
    (match GN S.C.P (cU s.fr rv) name with
    | none => .no "invoke"
    |some (g,x)=>(match (x::c.args.toList.map (cU s.fr)).any bP,S.sum g with
     |false,some σ=>HV S.T σ s.hp (x::c.args.toList.map (cU s.fr)) fun v wr _=>s.fp o.dst v wr K
     |false,none=>(match S.C.kind g with
      | .pure => .no "a call without an answer"
      |.imp=>OT S k ρ g (x::c.args.toList.map (cU s.fr)) s.hp s.wh s.js fun v hp wh js=>(match sr js s.hp.length with
       |true=>mT (gb s.hp.length v hp) fun hp=>bz.fp ⟨s.fn,s.n,s.fr,hp,s.wf,wh,js⟩ o.dst v [] K
       | false => .no "a call's end"))
     | true, _ => .no "a dead argument")))
  |.assign (.const (.slice none 0 0))=>
   (match o.dst with
   |some d=>
    if S.C.acc s.fn d then
     match S.Q.elem o.type with
     |some r=>if 0<r.size then s.fp (some d) (.bq r.size s.hp.length 0 none none) [(s.hp.length,.arr true true false 0 [])] K else .fail
     |none=>.fail
    else s.fp (some d) (.lit cK) [] K
   |none=>K s)
  |_=>NI (S.Qf s.fn) s.hp.length s.hp (cU s.fr) o fun v wr _=>s.fp o.dst v wr fun s=>C1 (S.C.qQ s.fn) o.dst s fun s=>SI (S.tw s.fn) o.dst s K
end
end Go.PI
namespace Go.PI
def KW{den:Nat→Type}(res:List Nat)(v:SV den):List (SV den):=
 match res with
 |[_]=>[v]
 |_=>match v with
  |.ju l=>l
  |_=>[.dead]
def Qk[ab](S:og)(k:Nat)(f:FuncId)(args res:List Nat)(xs:HL S.T.den (args.map .v)):Tr (HL S.T.den (res.map .v)):=
 OT S k _ f (Qd S.T (fX _ xs)) [] [] [] fun v hp _ _=>
  fZ S.T hp 1000 v fun v' _=>match (HS S.T res (KW res v')).bind (uQ (res.map .v)) with
  |some r=>.ret r
  | none => .no "a result"
end Go.PI
end
section
/- PS: words for the printed tables of a seat's types. -/
namespace Go.PI
section
variable {den:Nat→Type}{α:Type}
def dI(k:IntKind):SV den→Option Int
 |.lit (.int k' n)=>if k=k' then some n else none
 |_=>none
def dB:SV den→Option Bool
 |.lit (.bool b)=>some b
 |_=>none
def dS:SV den→Option ByteArray
 |.lit (.string s)=>some s
 |_=>none
def SJ(d:SV den→Option α):List (SV den)→Option (List α)
 |[]=>some []
 |v::vs=>(d v).bind fun x=>(SJ d vs).map fun l=>x::l
def OU(e:Nat)(d:SV den→Option (den e)):SV den→Option (List (den e))
 |.jt t l=>if h:t=e then some (z9 h l) else none
 |.sl vs=>SJ d vs
 |.lit (.slice none 0 0)=>some []
 |_=>none
def VU(d:SV den→Option α):SV den→Option α
 |.bh v 0=>d v
 |_=>none
end
abbrev NN{α:Type}(q:α→AV→Prop)(x:List α)(a:AV):Prop:=(∃ l,a=.sl l∧aw q x l)∨(x=[]∧a=.lit cK)
abbrev Uv{α:Type}(q:α→AV→Prop)(x:α)(a:AV):Prop:=∃ b,a=.bh b 0∧q x b
abbrev lc{α:Type}(n m:Nat)(l:List α):Bool:=decide (n+m≤l.length)
def zI:AV:=.lit (.int .i64 0)
def zB:AV:=.lit (.bool false)
def zF:AV:=.lit .nilFunc
def zL:AV:=.lit (.slice none 0 0)
def zS:AV:=.lit (.string ByteArray.empty)
def kI:CK:=.int .i64
def mI:jY:=⟨false,1,8,some zI,.other,none,none⟩
def mF:jY:=⟨false,1,8,some zF,.other,none,none⟩
def mP:jY:=⟨false,1,8,some (.lit (.pointer none)),.other,none,none⟩
def mS:jY:=⟨false,1,16,some zS,.other,none,none⟩
def mL(e:Nat):jY:=⟨false,1,24,some zL,.slice e,none,none⟩
end Go.PI
end
section
/- PS, part C: what a symbolic value stands for. -/
namespace Go.PI
section
variable {α β:Type}{P:α→β→Prop}
theorem aw.length:∀ {l:List α} {m:List β},aw P l m→l.length=m.length
 |[],[],_=>rfl
 |_::_,_::_,h=>by simp[aw.length h.2]
theorem aw.get:∀ {l:List α} {m:List β},aw P l m→∀ {i:Nat} {x:α},l[i]?=some x→∃ y,m[i]?=some y∧P x y
 |x::xs,y::ys,h,0,z,e=>by simp at e; subst e; exact⟨y,rfl,h.1⟩
 |x::xs,y::ys,h,i+1,z,e=>by simp at e ⊢; exact aw.get h.2 e
 |[],[],_,i,z,e=>by simp at e
theorem aw.get':∀ {l:List α} {m:List β},aw P l m→∀ {i:Nat} {y:β},m[i]?=some y→∃ x,l[i]?=some x∧P x y
 |x::xs,y::ys,h,0,z,e=>by simp at e; subst e; exact⟨x,rfl,h.1⟩
 |x::xs,y::ys,h,i+1,z,e=>by simp at e ⊢; exact aw.get' h.2 e
 |[],[],_,i,z,e=>by simp at e
theorem aw.mono{Q:α→β→Prop}(Mw:∀ x y,P x y→Q x y):∀ {l:List α} {m:List β},aw P l m→aw Q l m
 |[],[],_=>trivial
 |_::_,_::_,h=>⟨Mw _ _ h.1,aw.mono Mw h.2⟩
theorem aw.append:∀ {l l':List α} {m m':List β},aw P l m→aw P l' m'→aw P (l++l') (m++m')
 |[],_,[],_,_,h=>h
 |_::_,_,_::_,_,h,h'=>⟨h.1,aw.append h.2 h'⟩
theorem aw.set:∀ {l:List α} {m:List β},aw P l m→∀ (i:Nat) {x:α} {y:β},P x y→aw P (l.set i x) (m.set i y)
 |[],[],_,_,_,_,_=>trivial
 |_::_,_::_,h,0,_,_,hp=>⟨hp,h.2⟩
 |_::_,_::_,h,i+1,_,_,hp=>⟨h.1,aw.set h.2 i hp⟩
theorem aw.drop:∀ {l:List α} {m:List β},aw P l m→∀ i,aw P (l.drop i) (m.drop i)
 |[],[],_,i=>by simp[aw]
 |_::_,_::_,h,0=>h
 |_::_,_::_,h,i+1=>aw.drop h.2 i
theorem aw.take:∀ {l:List α} {m:List β},aw P l m→∀ i,aw P (l.take i) (m.take i)
 |[],[],_,i=>by simp[aw]
 |_::_,_::_,h,0=>trivial
 |_::_,_::_,h,i+1=>⟨h.1,aw.take h.2 i⟩
theorem aw.replicate{x:α}{y:β}(h:P x y):∀ n,aw P (List.replicate n x) (List.replicate n y)
 |0=>trivial
 |n+1=>⟨h,aw.replicate h n⟩
theorem aw.C5{m:List β}(h:aw P [] m):m=[]:=by cases m with
 |nil=>rfl
 |cons y ys=>exact h.elim
theorem aw.ed:∀ {l:List α} {m:List β},l.length=m.length→(∀ (i:Nat) (x:α) (y:β),l[i]?=some x→m[i]?=some y→P x y)→aw P l m
 |[],[],_,_=>trivial
 |x::xs,y::ys,h,hg=>⟨hg 0 x y rfl rfl,aw.ed (by simpa using h) fun i a b ha hb=>hg (i+1) a b (by simpa using ha) (by simpa using hb)⟩
end
variable {T:dw}
def fP{den:Nat→Type}(H:ah den)(n c aq:Nat):Prop:=
 ∃ o:aB den,H[n]?=some (some o)∧c≤o.cur∧(c=o.cur→aq=o.len)
def VV(a0:AV)(d:Nat)(a:AV):Prop:=
 (∃ n aq k j,a0=.ref n aq k j∧a=.ref n aq k (j+d))∨∃ e j,a0=.bh e j∧a=.bh e (j+d)
mutual
def R(T:dw)(H:ah T.den):SV T.den→AV→Prop
 |.dead,_=>False
 |.hole,a=>a=.any
 |.lit v,a=>a=.lit v
 |.agg l,a=>∃ l',a=.agg l'∧RL T H l l'
 |.ju l,a=>∃ l',a=.ju l'∧RL T H l l'
 |.sl l,a=>∃ l',a=.sl l'∧RL T H l l'∧av l=true
 |.jt t l,a=>(∃ l',a=.sl l'∧aw (T.rp t) l l')∨(l=[]∧a=.lit cK)
 |.bh e j,a=>∃ e',a=.bh e' j∧R T H e e'∧aD e=true
 |.ref n c i j,a=>∃ aq,a=.ref n aq i j∧fP H n c aq
 |.iU n c i j ln cp,a=>∃ aq,a=.iU n aq i j ln cp∧fP H n c aq
 |.bq esz n c rg cap,a=>∃ aq,fP H n c aq∧(match rg with
  |none=>a=.bq esz n aq 0 aq cap
  |some (off,len)=>a=.bq esz n aq off len cap)
 |.iV fn f c,a=>∃ f' c',a=.iV fn f' c'∧RL T H f f'∧RL T H c c'
 |.gi t v,a=>∃ v',a=.gi t v'∧R T H v v'
 |.wR t l c b,a=>(b=true∧∃ l',a=.pa l' c∧aw (T.rp t) l l')∨(b=false∧l=[]∧(a=.sl []∨a=.lit cK))
 |.nz,a=>a=.nz
 |.mp y n,a=>a=.mp y n∧∃ o:aB T.den,H[n]?=some (some o)
 |.sK v s len i,a=>∃ a0,R T H v a0∧i<len∧VV a0 (i*s) a
def RL(T:dw)(H:ah T.den):List (SV T.den)→List AV→Prop
 |[],[]=>True
 |x::xs,y::ys=>R T H x y∧RL T H xs ys
 |_,_=>False
end
theorem aQ{H:ah T.den}:∀ {l:List (SV T.den)} {m:List AV},RL T H l m↔aw (R T H) l m
 |[],[]=>by simp[RL,aw]
 |x::xs,y::ys=>by simp only[RL,aw]; rw[aQ]
 |[],_::_=>by simp[RL,aw]
 |_::_,[]=>by simp[RL,aw]
def RV(T:dw)(H:ah T.den)(v:SV T.den)(a:AV):Prop:=v=.dead∨R T H v a
theorem RV.live{H:ah T.den}{v:SV T.den}{a:AV}(h:RV T H v a)(hd:bP v=false):R T H v a:=by
 rcases h with h|h
 ·subst h; simp[bP]at hd
 ·exact h
def RD(T:dw)(H:ah T.den)(v:SV T.den)(a:AV):Prop:=(v=.dead∧a=.any)∨R T H v a
def RO(T:dw)(H:ah T.den):aB T.den→aN→Prop
 |.arr g cl f _ es,a=>∃ es',a=.arr g cl f es'∧RL T H es es'∧(cl=true→av es=true)
 |.bW g f _ t l,a=>∃ es',a=.arr g true f es'∧aw (T.rp t) l es'
 |.hJ,a=>(∃ g f es',a=.arr g true f es')∨∃ k vs,a=.gl k vs∧∀ n,cN n vs=true
 |.kg kk t m,a=>∃ vs,a=.gl (.map kk (m.map fun q=>kk.v q.1)) vs∧aw (T.rp t) (m.map (·.2)) vs
 |.oX fn ps as bd fr,a=>∃ st vs,a=.gl (.loop fn ps as bd st) vs∧aw (RD T H) fr vs
def Bq(T:dw)(H:ah T.den):Option (aB T.den)→Option aN→Prop
 |none,none=>True
 |some o,some a=>RO T H o a
 |_,_=>False
def RH(T:dw)(H:ah T.den)(hp:ag):Prop:=aw (Bq T H) H hp
def aB.isRec{den:Nat→Type}:aB den→Bool
 |.oX ..=>true
 |_=>false
def recAt{den:Nat→Type}(H:ah den)(n:Nat):Bool:=
 match H[n]? with
 |some (some o)=>o.isRec
 |_=>false
def dk{den:Nat→Type}(H H':ah den):Prop:=
 ∀ (n:Nat) (o:aB den),H[n]?=some (some o)→∃ o':aB den,H'[n]?=some (some o')∧o.cur≤o'.cur∧(o'.cur=o.cur→o'.len=o.len)
theorem dk.refl{den:Nat→Type}(H:ah den):dk H H:=fun _ o h=>⟨o,h,Nat.le_refl _,fun _=>rfl⟩
theorem dk.trans{den:Nat→Type}{H H' Yj:ah den}(h:dk H H')(h':dk H' Yj):dk H Yj:=by
 intro n o ho
 obtain⟨o',h1,h2,h3⟩:=h n o ho
 obtain⟨VW,h4,h5,h6⟩:=h' n o' h1
 exact⟨VW,h4,Nat.le_trans h2 h5,fun e=>by rw[h6 (by omega),h3 (by omega)]⟩
theorem fP.mono{den:Nat→Type}{H H':ah den}(h:dk H H'){n c aq:Nat}(hv:fP H n c aq):fP H' n c aq:=by
 obtain⟨o,h1,h2,h3⟩:=hv
 obtain⟨o',h4,h5,h6⟩:=h n o h1
 exact⟨o',h4,Nat.le_trans h2 h5,fun e=>by rw[h3 (by omega),h6 (by omega)]⟩
mutual
theorem R.mono{H H':ah T.den}(hg:dk H H'):∀ {v:SV T.den} {a:AV},R T H v a→R T H' v a
 |.dead,_,h=>by simp[R]at h
 |.hole,a,h=>by simpa[R] using h
 |.lit v,a,h=>by simpa[R] using h
 |.agg l,a,h=>by
  simp only[R]at h ⊢
  obtain⟨l',h1,h2⟩:=h
  exact⟨l',h1,RL.mono hg h2⟩
 |.ju l,a,h=>by
  simp only[R]at h ⊢
  obtain⟨l',h1,h2⟩:=h
  exact⟨l',h1,RL.mono hg h2⟩
 |.sl l,a,h=>by
  simp only[R]at h ⊢
  obtain⟨l',h1,h2,h3⟩:=h
  exact⟨l',h1,RL.mono hg h2,h3⟩
 |.jt t l,a,h=>by simpa[R] using h
 |.wR t l c b,a,h=>by simp only[R]at h ⊢; exact h
 |.nz,a,h=>by simp only[R]at h ⊢; exact h
 |.bh e j,a,h=>by
  simp only[R]at h ⊢
  obtain⟨e',h1,h2,h3⟩:=h
  exact⟨e',h1,R.mono hg h2,h3⟩
 |.ref n c i j,a,h=>by
  simp only[R]at h ⊢
  obtain⟨aq,h1,h2⟩:=h
  exact⟨aq,h1,h2.mono hg⟩
 |.iU n c i j ln cp,a,h=>by
  simp only[R]at h ⊢
  obtain⟨aq,h1,h2⟩:=h
  exact⟨aq,h1,h2.mono hg⟩
 |.bq esz n c rg cap,a,h=>by
  simp only[R]at h ⊢
  obtain⟨aq,h1,h2⟩:=h
  exact⟨aq,h1.mono hg,h2⟩
 |.iV fn f c,a,h=>by
  simp only[R]at h ⊢
  obtain⟨f',c',h1,h2,h3⟩:=h
  exact⟨f',c',h1,RL.mono hg h2,RL.mono hg h3⟩
 |.gi t v,a,h=>by
  simp only[R]at h ⊢
  obtain⟨v',h1,h2⟩:=h
  exact⟨v',h1,R.mono hg h2⟩
 |.mp y n,a,h=>by
  simp only[R]at h ⊢
  obtain⟨h1,o,h2⟩:=h
  obtain⟨o',h3,_⟩:=hg n o h2
  exact⟨h1,o',h3⟩
 |.sK v s len i,a,h=>by
  simp only[R]at h ⊢
  obtain⟨a0,h1,h2,h3⟩:=h
  exact⟨a0,R.mono hg h1,h2,h3⟩
theorem RL.mono{H H':ah T.den}(hg:dk H H'):∀ {l:List (SV T.den)} {m:List AV},RL T H l m→RL T H' l m
 |[],[],_=>by simp[RL]
 |x::xs,y::ys,h=>by
  simp only[RL]at h ⊢
  exact⟨R.mono hg h.1,RL.mono hg h.2⟩
 |[],_::_,h=>by simp[RL]at h
 |_::_,[],h=>by simp[RL]at h
end
theorem RV.mono[ab]{H H':ah T.den}(hg:dk H H'){v:SV T.den}{a:AV}(h:RV T H v a):RV T H' v a:=h.imp id (R.mono hg)
theorem RO.mono[ab]{H H':ah T.den}(hg:dk H H'){o:aB T.den}{a:aN}(h:RO T H o a):RO T H' o a:=by
 cases o with
 |arr g cl f cur es=>
  obtain⟨es',h1,h2,h3⟩:=h
  exact⟨es',h1,RL.mono hg h2,h3⟩
 |bW g f cur t l=>exact h
 |hJ=>exact h
 |kg kk t m=>exact h
 |oX fn ps as bd fr=>
  obtain⟨st,vs,h1,h2⟩:=h
  exact⟨st,vs,h1,aw.mono (fun _ _ h=>h.imp id (R.mono hg)) h2⟩
theorem Bq.mono[ab]{H H':ah T.den}(hg:dk H H'){o:Option (aB T.den)}{a:Option aN}(h:Bq T H o a):Bq T H' o a:=by
 cases o<;>cases a<;>first|exact h|exact RO.mono hg h
theorem RH.length[ab]{H:ah T.den}{hp:ag}(h:RH T H hp):H.length=hp.length:=aw.length h
theorem RH.obj[ab]{H:ah T.den}{hp:ag}(h:RH T H hp){n:Nat}{o:aB T.den}(ho:H[n]?=some (some o)):∃ a,hp[n]?=some (some a)∧RO T H o a:=by
 obtain⟨a,h1,h2⟩:=aw.get h ho
 cases a with
 |none=>exact h2.elim
 |some a=>exact⟨a,h1,h2⟩
theorem RH.none[ab]{H:ah T.den}{hp:ag}(h:RH T H hp){n:Nat}(ho:H[n]?=some none):hp[n]?=some none:=by
 obtain⟨a,h1,h2⟩:=aw.get h ho
 cases a with
 |none=>exact h1
 |some a=>exact h2.elim
theorem RH.Rj[ab]{H:ah T.den}{hp:ag}(h:RH T H hp){n:Nat}{o o':aB T.den}{a':aN}(ho:H[n]?=some (some o))(hc:o.cur≤o'.cur)(hl:o'.cur=o.cur→o'.len=o.len)
  (hr:RO T H o' a'):dk H (H.set n (some o'))∧RH T (H.set n (some o')) (hp.set n (some a')):=by
 have hg:dk H (H.set n (some o')):=by
  intro m q hq
  by_cases e:m=n
  ·grind
  ·grind
 exact⟨hg,aw.set (aw.mono (fun _ _=>Bq.mono hg) h) n (show Bq T _ (some o') (some a') from RO.mono hg hr)⟩
theorem RH.new[ab]{H:ah T.den}{hp:ag}(h:RH T H hp){nm:Nat}{o':aB T.den}{a':aN}(hn:nm=H.length∨H[nm]?=some .none)(hr:RO T H o' a'):
  dk H (bN H nm o')∧RH T (bN H nm o') (setObj hp nm a'):=by
 have hlen:=h.length
 unfold bN setObj
 by_cases e:nm=H.length
 ·rw[if_pos e,if_pos (by omega)]
  have hg:dk H (H++[some o']):=by
   intro m q hq
   have bQ:=(List.getElem?_eq_some_iff.1 hq).1
   exact⟨q,by rw[List.getElem?_append_left bQ]; exact hq,Nat.le_refl _,fun _=>rfl⟩
  exact⟨hg,aw.append (aw.mono (fun _ _=>Bq.mono hg) h) ⟨RO.mono hg hr,trivial⟩⟩
 ·rw[if_neg e,if_neg (by omega)]
  have hn:H[nm]?=some .none:=hn.resolve_left e
  have hg:dk H (H.set nm (some o')):=by
   intro m q hq
   by_cases e:m=nm
   ·subst e; rw[hn]at hq; simp at hq
   ·grind
  exact⟨hg,aw.set (aw.mono (fun _ _=>Bq.mono hg) h) nm (show Bq T _ (some o') (some a') from RO.mono hg hr)⟩
structure dw.Ok(T:dw):Prop where
 up:∀ t x a H,T.rp t x a→R T H (T.up t x) a
 dn:∀ t v x a H,T.dn t v=some x→R T H v a→T.rp t x a
 ok:∀ t x a,T.rp t x a→aG (T.agg t) (T.size t) a=true
 closed:∀ t x a,T.rp t x a→closed a=true
 alt:∀ t f,T.alt t=some f→∀ x,(bif f.1 x then f.2.1 x else f.2.2 x)=T.up t x
theorem GO{T:dw}(hT:T.Ok){ρ:Type}(t:Nat)(x:T.den t)(K:SV T.den→Tr ρ):(Ut t x K).run=(K (T.up t x)).run:=by
 unfold Ut
 split
 ·rfl
 ·rename_i f hf
  have h:=hT.alt t f hf x
  simp only[Tr.run]
  cases hb:f.1 x<;>rw[hb]at h<;>rw[←h]<;>rfl
theorem jl{den:Nat→Type}:∀ (l:List (SV den)),av l=l.all aD
 |[]=>rfl
 |x::xs=>by simp only[av,List.all_cons]; rw[jl xs]
theorem jN[ab]{den:Nat→Type}{l:List (SV den)}(h:av l=true){x:SV den}(hx:x∈l):aD x=true:=by
 rw[jl]at h
 exact List.all_eq_true.1 h x hx
theorem k9[ab]{den:Nat→Type}{l:List (SV den)}(h:∀ x,x∈l→aD x=true):av l=true:=by
 rw[jl]
 exact List.all_eq_true.2 h
theorem mA[ab]{den:Nat→Type}{l:List (SV den)}(h:av l=true)(a b:Nat):av ((l.drop a).take b)=true:=
 k9 fun _ hx=>jN h (List.mem_of_mem_drop (List.mem_of_mem_take hx))
theorem Fq[ab]{den:Nat→Type}{l m:List (SV den)}(h:av l=true)(h':av m=true):av (l++m)=true:=
 k9 fun _ hx=>(List.mem_append.1 hx).elim (jN h) (jN h')
theorem ss[ab]{den:Nat→Type}{l:List (SV den)}(h:av l=true){x:SV den}(hx:aD x=true)(i:Nat):av (l.set i x)=true:=
 k9 fun _ hy=>(List.mem_or_eq_of_mem_set hy).elim (jN h) fun e=>e▸hx
theorem oS[ab]{den:Nat→Type}:∀ {cs l:List (SV den)} (j:Nat),av l=true→av cs=true→av (iL l j cs)=true
 |[],_,_,h,_=>h
 |x::xs,l,j,h,hc=>by
  simp only[av,Bool.and_eq_true]at hc
  simp only[iL]
  exact oS (j+1) (ss h hc.1 j) hc.2
theorem ye[ab]{den:Nat→Type}{e e':SV den}{j:Nat}{cs:List (SV den)}(h:fW e j cs=some e')(he:aD e=true)(hc:av cs=true):aD e'=true:=by
 unfold fW at h
 split at h
 ·split at h
  case isFalse=>simp at h
  simp only[Option.some.injEq]at h
  subst h
  simp only[aD]at he ⊢
  exact oS j he hc
 ·grind[av]
theorem zb[ab]{den:Nat→Type}(v:SV den):av (bL v)=aD v:=by
 cases v with
 |lit v=>
  simp only[bL,aD]
  exact k9 fun x hx=>by obtain⟨y,_,rfl⟩:=List.mem_map.1 hx; rfl
 |agg l=>rfl
 |_=>simp[bL,av]
theorem oT[ab]{den:Nat→Type}:∀ {ps:List (Nat×SV den)} {es:List (SV den)},av es=true→av (ps.map (·.2))=true→av (ft es ps)=true
 |[],_,h,_=>h
 |(i,v)::ps,es,h,hc=>by
  simp only[List.map_cons,av,Bool.and_eq_true]at hc
  simp only[ft]
  exact oT (ss h hc.1 i) hc.2
theorem tJ[ab]{den:Nat→Type}{a:AV}{v:SV den}(h:(gA a:Option (SV den))=some v):aD v=true:=by
 cases a with
 |lit x=>simp[gA]at h; subst h; rfl
 |agg l=>
  simp only[gA,Option.map_eq_some_iff]at h
  obtain⟨c,_,rfl⟩:=h
  simp only[aD]
  exact k9 fun x hx=>by obtain⟨y,_,rfl⟩:=List.mem_map.1 hx; rfl
 |_=>simp[gA]at h
end Go.PI
end
section
/- PS, part D: parts of values, by value, flat, below: on both sides alike. -/
namespace Go.PI
def aE{α:Type}(hp:ag)(r:RM α)(a:α)(rd:List Nat):Prop:=r.run hp=some a∧∀ n,n∈r.log hp→n∈rd
section
variable {α β:Type}{hp:ag}
theorem aE.pure(a:α):aE hp (pure a:RM α) a []:=⟨rfl,fun n h=>by simp[Pure.pure,RM.log]at h⟩
theorem aE.ret(a:α):aE hp (RM.ret a:RM α) a []:=⟨rfl,fun n h=>by simp[RM.log]at h⟩
theorem aE.mono{r:RM α}{a:α}{rd rd':List Nat}(h:aE hp r a rd)(hs:∀ n,n∈rd→n∈rd'):aE hp r a rd':=⟨h.1,fun n hn=>hs n (h.2 n hn)⟩
theorem aE.bind[ab]{r:RM α}{f:α→RM β}{a:α}{b:β}{rd rd':List Nat}(h:aE hp r a rd)(h':aE hp (f a) b rd'):aE hp (r >>= f) b (rd++rd'):=by
 refine⟨by rw[RM.run_bind,h.1]; exact h'.1,fun n hn=>?_⟩
 rw[RM.eC,h.1]at hn
 simp only[List.mem_append]at hn ⊢
 exact hn.imp (h.2 n) (h'.2 n)
theorem aE.get{n:Nat}{k:aN→RM α}{o:aN}{a:α}{rd:List Nat}(ho:hp[n]?=some (some o))(h:aE hp (k o) a rd):aE hp (.get n k) a (n::rd):=by
 refine⟨by simp[RM.run,ho,h.1],fun m hm=>?_⟩
 simp only[RM.log,ho,List.mem_cons]at hm ⊢
 exact hm.imp id (h.2 m)
theorem aE.arr[ab]{n aq:Nat}{g c f:Bool}{es:List AV}(ho:hp[n]?=some (some (.arr g c f es)))(hl:es.length=aq):aE hp (RM.arr n aq) (g,c,f,es) [n]:=by
 refine aE.get ho ?_
 simp only[hl,if_true]
 exact aE.ret _
theorem aE.gU[ab]{x:Option α}{a:α}(h:x=some a):aE hp (RM.gU x) a []:=by subst h; exact aE.ret a
end
variable {T:dw}
mutual
theorem R.closed{H:ah T.den}:∀ {v:SV T.den} {a:AV},R T H v a→aD v=closed a
 |.dead,a,h=>by simp[R]at h
 |.hole,a,h=>by simp only[R]at h; subst h; rfl
 |.lit v,a,h=>by simp only[R]at h; subst h; rfl
 |.agg l,a,h=>by
  simp only[R]at h
  obtain⟨l',rfl,h2⟩:=h
  simp only[aD,Go.PI.closed]; exact RL.closed h2
 |.ju l,a,h=>by
  simp only[R]at h
  obtain⟨l',rfl,h2⟩:=h
  simp only[aD,Go.PI.closed]; exact RL.closed h2
 |.sl l,a,h=>by
  simp only[R]at h
  obtain⟨l',rfl,h2⟩:=h
  rfl
 |.jt t l,a,h=>by
  simp only[R]at h
  rcases h with ⟨l',rfl,_⟩|⟨_,rfl⟩<;>rfl
 |.wR t l c b,a,h=>by
  simp only[R]at h
  rcases h with ⟨_,l',rfl,_⟩|⟨_,_,rfl|rfl⟩<;>rfl
 |.nz,a,h=>by
  simp only[R]at h
  subst h; rfl
 |.bh e j,a,h=>by
  simp only[R]at h
  obtain⟨e',rfl,h2⟩:=h
  rfl
 |.ref n c i j,a,h=>by
  simp only[R]at h
  obtain⟨aq,rfl,h2⟩:=h
  rfl
 |.iU n c i j ln cp,a,h=>by
  simp only[R]at h
  obtain⟨aq,rfl,h2⟩:=h
  rfl
 |.bq esz n c rg cap,a,h=>by
  simp only[R]at h
  obtain⟨aq,h1,h2⟩:=h
  rcases rg with _|⟨off,len⟩<;>simp only at h2<;>subst h2<;>rfl
 |.iV fn f c,a,h=>by
  simp only[R]at h
  obtain⟨f',c',rfl,h2,h3⟩:=h
  simp only[aD,Go.PI.closed]; rw[RL.closed h2,RL.closed h3]
 |.gi t v,a,h=>by
  simp only[R]at h
  obtain⟨v',rfl,h2⟩:=h
  simp only[aD,Go.PI.closed]; exact R.closed h2
 |.mp y n,a,h=>by
  simp only[R]at h
  obtain⟨rfl,_⟩:=h
  rfl
 |.sK v s len i,a,h=>by
  simp only[R]at h
  obtain⟨a0,h1,_,h2⟩:=h
  have:=R.closed h1
  simp only[aD]
  rcases h2 with ⟨n,aq,k,j,rfl,rfl⟩|⟨e,j,rfl,rfl⟩<;>exact this
theorem RL.closed{H:ah T.den}:∀ {l:List (SV T.den)} {m:List AV},RL T H l m→av l=aZ m
 |[],[],_=>rfl
 |x::xs,y::ys,h=>by
  simp only[RL]at h
  simp only[av,aZ]; rw[R.closed h.1,RL.closed h.2]
 |[],_::_,h=>by simp[RL]at h
 |_::_,[],h=>by simp[RL]at h
end
mutual
theorem R.below{H:ah T.den}{k:Nat}:∀ {v:SV T.den} {a:AV},R T H v a→bt k v=below k a
 |.dead,a,h=>by simp[R]at h
 |.hole,a,h=>by simp only[R]at h; subst h; rfl
 |.lit v,a,h=>by simp only[R]at h; subst h; rfl
 |.agg l,a,h=>by
  simp only[R]at h
  obtain⟨l',rfl,h2⟩:=h
  simp only[bt,Go.PI.below]; exact RL.below h2
 |.ju l,a,h=>by
  simp only[R]at h
  obtain⟨l',rfl,h2⟩:=h
  simp only[bt,Go.PI.below]; exact RL.below h2
 |.sl l,a,h=>by
  simp only[R]at h
  obtain⟨l',rfl,h2⟩:=h
  rfl
 |.jt t l,a,h=>by
  simp only[R]at h
  rcases h with ⟨l',rfl,_⟩|⟨_,rfl⟩<;>rfl
 |.wR t l c b,a,h=>by
  simp only[R]at h
  rcases h with ⟨_,l',rfl,_⟩|⟨_,_,rfl|rfl⟩<;>rfl
 |.nz,a,h=>by
  simp only[R]at h
  subst h; rfl
 |.bh e j,a,h=>by
  simp only[R]at h
  obtain⟨e',rfl,h2⟩:=h
  rfl
 |.ref n c i j,a,h=>by
  simp only[R]at h
  obtain⟨aq,rfl,h2⟩:=h
  rfl
 |.iU n c i j ln cp,a,h=>by
  simp only[R]at h
  obtain⟨aq,rfl,h2⟩:=h
  rfl
 |.bq esz n c rg cap,a,h=>by
  simp only[R]at h
  obtain⟨aq,h1,h2⟩:=h
  rcases rg with _|⟨off,len⟩<;>simp only at h2<;>subst h2<;>rfl
 |.iV fn f c,a,h=>by
  simp only[R]at h
  obtain⟨f',c',rfl,h2,h3⟩:=h
  simp only[bt,Go.PI.below]; rw[RL.below h2,RL.below h3]
 |.gi t v,a,h=>by
  simp only[R]at h
  obtain⟨v',rfl,h2⟩:=h
  simp only[bt,Go.PI.below]; exact R.below h2
 |.mp y n,a,h=>by
  simp only[R]at h
  obtain⟨rfl,_⟩:=h
  rfl
 |.sK v s len i,a,h=>by
  simp only[R]at h
  obtain⟨a0,h1,_,h2⟩:=h
  have:=R.below (k:=k) h1
  simp only[bt]
  rcases h2 with ⟨n,aq,k,j,rfl,rfl⟩|⟨e,j,rfl,rfl⟩<;>exact this
theorem RL.below{H:ah T.den}{k:Nat}:∀ {l:List (SV T.den)} {m:List AV},RL T H l m→gz k l=cN k m
 |[],[],_=>rfl
 |x::xs,y::ys,h=>by
  simp only[RL]at h
  simp only[gz,cN]; rw[R.below h.1,RL.below h.2]
 |[],_::_,h=>by simp[RL]at h
 |_::_,[],h=>by simp[RL]at h
end
mutual
theorem R.names{H:ah T.den}:∀ {v:SV T.den} {a:AV},R T H v a→mO v=names a
 |.dead,a,h=>by simp[R]at h
 |.hole,a,h=>by simp only[R]at h; subst h; rfl
 |.lit v,a,h=>by simp only[R]at h; subst h; rfl
 |.agg l,a,h=>by
  simp only[R]at h
  obtain⟨l',rfl,h2⟩:=h
  simp only[mO,Go.PI.names]; exact RL.names h2
 |.ju l,a,h=>by
  simp only[R]at h
  obtain⟨l',rfl,h2⟩:=h
  simp only[mO,Go.PI.names]; exact RL.names h2
 |.sl l,a,h=>by
  simp only[R]at h
  obtain⟨l',rfl,h2⟩:=h
  rfl
 |.jt t l,a,h=>by
  simp only[R]at h
  rcases h with ⟨l',rfl,_⟩|⟨_,rfl⟩<;>rfl
 |.wR t l c b,a,h=>by
  simp only[R]at h
  rcases h with ⟨_,l',rfl,_⟩|⟨_,_,rfl|rfl⟩<;>rfl
 |.nz,a,h=>by
  simp only[R]at h
  subst h; rfl
 |.bh e j,a,h=>by
  simp only[R]at h
  obtain⟨e',rfl,h2⟩:=h
  rfl
 |.ref n c i j,a,h=>by
  simp only[R]at h
  obtain⟨aq,rfl,h2⟩:=h
  rfl
 |.iU n c i j ln cp,a,h=>by
  simp only[R]at h
  obtain⟨aq,rfl,h2⟩:=h
  rfl
 |.bq esz n c rg cap,a,h=>by
  simp only[R]at h
  obtain⟨aq,h1,h2⟩:=h
  rcases rg with _|⟨off,len⟩<;>simp only at h2<;>subst h2<;>rfl
 |.iV fn f c,a,h=>by
  simp only[R]at h
  obtain⟨f',c',rfl,h2,h3⟩:=h
  simp only[mO,Go.PI.names]; rw[RL.names h2,RL.names h3]
 |.gi t v,a,h=>by
  simp only[R]at h
  obtain⟨v',rfl,h2⟩:=h
  simp only[mO,Go.PI.names]; exact R.names h2
 |.mp y n,a,h=>by
  simp only[R]at h
  obtain⟨rfl,_⟩:=h
  rfl
 |.sK v s len i,a,h=>by
  simp only[R]at h
  obtain⟨a0,h1,_,h2⟩:=h
  have:=R.names h1
  simp only[mO]
  rcases h2 with ⟨n,aq,k,j,rfl,rfl⟩|⟨e,j,rfl,rfl⟩<;>exact this
theorem RL.names{H:ah T.den}:∀ {l:List (SV T.den)} {m:List AV},RL T H l m→mv l=ck m
 |[],[],_=>rfl
 |x::xs,y::ys,h=>by
  simp only[RL]at h
  simp only[mv,ck]; rw[R.names h.1,RL.names h.2]
 |[],_::_,h=>by simp[RL]at h
 |_::_,[],h=>by simp[RL]at h
end
theorem R.leaf{H:ah T.den}{v:SV T.den}{a:AV}(h:R T H v a):gy v=ba a:=by
 cases v with
 |dead=>simp[R]at h
 |hole=>simp only[R]at h; subst h; rfl
 |lit v=>simp only[R]at h; subst h; rfl
 |agg l=>simp only[R]at h; obtain⟨l',rfl,h2⟩:=h; rfl
 |ju l=>simp only[R]at h; obtain⟨l',rfl,h2⟩:=h; rfl
 |sl l=>simp only[R]at h; obtain⟨l',rfl,h2⟩:=h; rfl
 |jt t l=>simp only[R]at h; rcases h with ⟨l',rfl,_⟩|⟨_,rfl⟩<;>rfl
 |wR t l c b=>simp only[R]at h; rcases h with ⟨_,l',rfl,_⟩|⟨_,_,rfl|rfl⟩<;>rfl
 |nz=>simp only[R]at h; subst h; rfl
 |bh e j=>simp only[R]at h; obtain⟨e',rfl,h2⟩:=h; rfl
 |ref n c i j=>simp only[R]at h; obtain⟨aq,rfl,h2⟩:=h; rfl
 |iU n c i j ln cp=>simp only[R]at h; obtain⟨aq,rfl,h2⟩:=h; rfl
 |bq esz n c rg cap=>
  simp only[R]at h
  obtain⟨aq,h1,h2⟩:=h
  rcases rg with _|⟨off,len⟩<;>simp only at h2<;>subst h2<;>rfl
 |iV fn f c=>simp only[R]at h; obtain⟨f',c',rfl,h2,h3⟩:=h; rfl
 |gi t v=>simp only[R]at h; obtain⟨v',rfl,h2⟩:=h; rfl
 |mp y n=>simp only[R]at h; obtain⟨rfl,h2⟩:=h; rfl
 |sK v s len i=>simp only[R]at h; obtain⟨a0,_,_,h2⟩:=h; rcases h2 with ⟨n,aq,k,j,rfl,rfl⟩|⟨e,j,rfl,rfl⟩<;>rfl
theorem R.Fs{H:ah T.den}{v:SV T.den}{a:AV}(h:R T H v a)(hv:∀ l,v≠.agg l):∀ l,a≠.agg l:=by
 intro l e
 subst e
 cases v with
 |dead=>simp[R]at h
 |hole=>simp[R]at h
 |lit v=>simp[R]at h
 |agg l=>exact hv l rfl
 |ju l=>simp[R]at h
 |sl l=>simp[R]at h
 |jt t l=>simp[R]at h
 |bh e j=>simp[R]at h
 |ref n c i j=>simp[R]at h
 |iU n c i j ln cp=>simp[R]at h
 |bq esz n c rg cap=>
  grind[R]
 |iV fn f c=>simp[R]at h
 |gi t v=>simp[R]at h
 |mp y n=>simp[R]at h
 |sK v s len i=>simp[R,VV]at h
 |wR t l c b=>simp[R]at h
 |nz=>simp[R]at h
theorem RL.length[ab]{H:ah T.den}{l:List (SV T.den)}{m:List AV}(h:RL T H l m):l.length=m.length:=aw.length (aQ.1 h)
theorem RL.lits{H:ah T.den}:∀ (c:List Value),RL T H (c.map .lit) (c.map .lit)
 |[]=>by simp[RL]
 |v::vs=>by simp only[List.map_cons,RL]; exact⟨by simp[R],RL.lits vs⟩
theorem R.cells[ab]{H:ah T.den}{v:SV T.den}{a:AV}(h:R T H v a):RL T H (bL v) (cellsOf a):=by
 cases v with
 |dead=>simp[R]at h
 |hole=>simp_all[R,bL,cellsOf,RL]
 |lit v=>simp only[R]at h; subst h; exact RL.lits _
 |agg l=>simp only[R]at h; obtain⟨l',rfl,h2⟩:=h; exact h2
 |jt t l=>
  have h':=h
  simp only[R]at h
  rcases h with ⟨l',rfl,_⟩|⟨_,rfl⟩
  ·simp_all[bL,cellsOf,RL]
  ·show RL T H [_] [AV.lit cK]
   simp only[RL]; exact⟨h',trivial⟩
 |ju l=>grind[R,bL,cellsOf,RL]
 |sl l=>grind[R,bL,cellsOf,RL]
 |bh e j=>grind[R,bL,cellsOf,RL]
 |ref n c i j=>grind[R,bL,cellsOf,RL]
 |iU n c i j ln cp=>grind[R,bL,cellsOf,RL]
 |bq esz n c rg cap=>
  grind[R,bL,cellsOf,RL]
 |iV fn f c=>grind[R,bL,cellsOf,RL]
 |gi t v=>grind[R,bL,cellsOf,RL]
 |nz=>
  simp_all[R,bL,cellsOf,RL]
 |wR t l c b=>
  have h':=h
  simp only[R]at h
  rcases h with ⟨_,l',rfl,_⟩|⟨_,_,rfl|rfl⟩
  ·simp_all[bL,cellsOf,RL]
  ·simp_all[bL,cellsOf,RL]
  ·show RL T H [_] [AV.lit cK]
   simp only[RL]; exact⟨h',trivial⟩
 |mp y n=>simp_all[R,bL,cellsOf,RL]
 |sK v s len i=>
  have h':=h
  simp only[R]at h
  obtain⟨a0,_,_,h2⟩:=h
  rcases h2 with ⟨n,aq,k,j,rfl,rfl⟩|⟨e,j,rfl,rfl⟩<;>simp only[bL,cellsOf,RL]<;>exact⟨h',trivial⟩
theorem RL.all{H:ah T.den}{p:SV T.den→Bool}{q:AV→Bool}(Mw:∀ v a,R T H v a→p v=q a):∀ {l:List (SV T.den)} {m:List AV},RL T H l m→l.all p=m.all q
 |[],[],_=>rfl
 |x::xs,y::ys,h=>by
  simp only[RL]at h
  simp only[List.all_cons]; rw[Mw _ _ h.1,RL.all Mw h.2]
 |[],_::_,h=>by simp[RL]at h
 |_::_,[],h=>by simp[RL]at h
theorem RL.C6[ab]{H:ah T.den}{l:List (SV T.den)}{m:List AV}(h:RL T H l m):l.all gy=m.all ba:=RL.all (fun _ _=>R.leaf) h
theorem C7{agg:Bool}{size:Nat}{a:AV}{j:Nat}(ha:∀ l,a≠.agg l):eM agg size a j=if !agg&&ba a&&decide (j=0) then some a else none:=by
 cases a<;>first|rfl|exact absurd rfl (ha _)
theorem C8{agg:Bool}{size:Nat}{v:SV T.den}{j:Nat}(ha:∀ l,v≠.agg l):nI agg size v j=if !agg&&gy v&&decide (j=0) then some v else none:=by
 cases v<;>first|rfl|exact absurd rfl (ha _)
theorem R.part[ab]{H:ah T.den}{agg:Bool}{size:Nat}{v x:SV T.den}{a:AV}{j:Nat}(h:R T H v a)(hp:nI agg size v j=some x):∃ b,eM agg size a j=some b∧R T H x b:=by
 by_cases hv:∃ l,v=.agg l
 ·obtain⟨l,rfl⟩:=hv
  simp only[R]at h
  obtain⟨l',rfl,h2⟩:=h
  have hl:=h2.length
  cases agg with
  |true=>
   simp only[nI,if_true]at hp
   split at hp
   case isFalse=>simp at hp
   simp only[Option.some.injEq]at hp
   subst hp
   refine⟨_,by simp only[eM,if_true]; rw[if_pos (by omega)],?_⟩
   simp only[R]
   exact⟨_,rfl,aQ.2 (((aQ.1 h2).drop j).take size)⟩
  |false=>
   simp only[nI,Bool.false_eq_true,if_false]at hp
   obtain⟨b,h3,h4⟩:=aw.get (aQ.1 h2) hp
   exact⟨b,by simpa[eM] using h3,h4⟩
 ·have jr:∀ l,v≠.agg l:=fun l e=>hv ⟨l,e⟩
  rw[C8 jr]at hp
  rw[C7 (h.Fs jr),←h.leaf]
  split at hp
  case isFalse=>simp at hp
  rename_i hc
  simp only[Option.some.injEq]at hp
  subst hp
  exact⟨a,by rw[if_pos hc],h⟩
theorem RL.setCells[ab]{H:ah T.den}:∀ {cs:List (SV T.den)} {lX:List AV} {l:List (SV T.den)} {l':List AV} (j:Nat),RL T H l l'→RL T H cs lX→RL T H (iL l j cs) (setCells l' j lX)
 |[],[],l,l',j,h,_=>h
 |x::xs,y::ys,l,l',j,h,hc=>by
  simp only[RL]at hc
  simp only[iL,Go.PI.setCells]
  exact RL.setCells (j+1) (aQ.2 ((aQ.1 h).set j hc.1)) hc.2
 |[],_::_,_,_,_,_,h=>by simp[RL]at h
 |_::_,[],_,_,_,_,h=>by simp[RL]at h
theorem zc{a y:AV}{j:Nat}(ha:∀ l,a≠.agg l)(hl:ba a=true)(hj:j=0):iW a j [y]=some y:=by
 simp_all[iW,hl]
theorem yf{v e':SV T.den}{cs:List (SV T.den)}{j:Nat}(ha:∀ l,v≠.agg l)(h:fW v j cs=some e'):∃ y,cs=[y]∧e'=y∧gy v=true∧j=0:=by
 match cs with
 |[]=>simp_all[fW]
 |[y]=>simp_all[fW]
 |_::_::_=>simp_all[fW]
theorem R.iW[ab]{H:ah T.den}{v e':SV T.den}{a:AV}{j:Nat}{cs:List (SV T.den)}{lX:List AV}(h:R T H v a)(hc:RL T H cs lX)(hp:fW v j cs=some e'):
  ∃ b,Go.PI.iW a j lX=some b∧R T H e' b:=by
 by_cases hv:∃ l,v=.agg l
 ·obtain⟨l,rfl⟩:=hv
  simp only[R]at h
  obtain⟨l',rfl,h2⟩:=h
  simp only[fW]at hp
  split at hp
  case isFalse=>simp at hp
  simp only[Option.some.injEq]at hp
  subst hp
  have h3:=h2.length
  have h4:=hc.length
  exact⟨_,by simp only[Go.PI.iW]; rw[if_pos (by omega)],by simp only[R]; exact⟨_,rfl,RL.setCells j h2 hc⟩⟩
 ·have jr:∀ l,v≠.agg l:=fun l e=>hv ⟨l,e⟩
  obtain⟨y,rfl,rfl,h3,h4⟩:=yf jr hp
  match lX,hc with
  |[b],hc=>
   simp only[RL]at hc
   exact⟨b,zc (h.Fs jr) (by rw[←h.leaf]; exact h3) h4,hc.1⟩
  |[],hc=>simp[RL]at hc
  |_::_::_,hc=>simp[RL]at hc
def RP(T:dw)(H:ah T.den):List (Nat×SV T.den)→List (Nat×AV)→Prop:=aw fun p q=>p.1=q.1∧R T H p.2 q.2
theorem RP.fill[ab]{H:ah T.den}{place:Nat→Option (Nat×Nat)}:∀ {ps:List (Nat×SV T.den)} {qs:List (Nat×AV)} {l r:List (SV T.den)} {l':List AV},RP T H ps qs→RL T H l l'→Aa place l ps=some r →
  ∃ r',qY place l' qs=some r'∧RL T H r r'
 |[],[],l,r,l',_,hl,h=>by
  simp only[Aa,Option.some.injEq]at h
  subst h
  exact⟨l',rfl,hl⟩
 |(i,v)::ps,(i',a)::qs,l,r,l',hp,hl,h=>by
  obtain⟨⟨h1,h2⟩,h3⟩:=hp
  simp only at h1 h2
  subst h1
  simp only[Aa]at h
  simp only[qY]
  cases FZ:place i with
  |none=>rw[FZ]at h; simp at h
  |some q=>
   obtain⟨off,size⟩:=q
   rw[FZ]at h
   simp only at h ⊢
   split at h
   case isFalse=>simp at h
   rename_i hc
   have mh:=h2.cells
   rw[if_pos ⟨by rw[←mh.length]; exact hc.1,by rw[←hl.length]; exact hc.2.1,by rw[←mh.C6]; exact hc.2.2⟩]
   exact RP.fill h3 (RL.setCells off hl mh) h
 |[],_::_,_,_,_,h,_,_=>h.elim
 |_::_,[],_,_,_,h,_,_=>h.elim
theorem R.aG[ab]{H:ah T.den}{agg:Bool}{size:Nat}{v:SV T.den}{a:AV}(h:R T H v a):kV agg size v=aG agg size a:=by
 by_cases hv:∃ l,v=.agg l
 ·obtain⟨l,rfl⟩:=hv
  simp only[R]at h
  obtain⟨l',rfl,h2⟩:=h
  simp only[kV,Go.PI.aG]
  rw[h2.length,h2.C6]
 ·have jr:∀ l,v≠.agg l:=fun l e=>hv ⟨l,e⟩
  have e1:kV agg size v=(!agg&&decide (size=1)&&gy v):=by cases v<;>first|rfl|exact absurd rfl (jr _)
  have e2:Go.PI.aG agg size a=(!agg&&decide (size=1)&&ba a):=by
   have:=h.Fs jr
   cases a<;>first|rfl|exact absurd rfl (this _)
  rw[e1,e2,h.leaf]
theorem RL.cS{H:ah T.den}:∀ {l:List (SV T.den)} {m:List AV} {c:List Value},RL T H l m→mw l=some c→Go.PI.cS m=some c∧m=c.map .lit
 |[],[],c,_,h=>by simp[mw]at h; subst h; exact⟨rfl,rfl⟩
 |x::xs,y::ys,c,h,hc=>by
  simp only[RL]at h
  cases x with
  |lit v=>
   simp only[mw,Option.map_eq_some_iff]at hc
   obtain⟨c',h1,rfl⟩:=hc
   have h2:=h.1
   simp only[R]at h2
   subst h2
   obtain⟨h3,h4⟩:=RL.cS h.2 h1
   exact⟨by simp[Go.PI.cS,h3],by simp[h4]⟩
  |_=>simp[mw]at hc
 |[],_::_,_,h,_=>by simp[RL]at h
 |_::_,[],_,h,_=>by simp[RL]at h
theorem R.plain[ab]{H:ah T.den}{v:SV T.den}{a b:AV}(h:R T H v a)(hp:mQ v=some b):a=b:=by
 cases v with
 |lit v=>simp_all[R,mQ]
 |agg l=>
  simp only[R]at h
  obtain⟨l',rfl,h2⟩:=h
  simp only[mQ,Option.map_eq_some_iff]at hp
  obtain⟨c,h3,rfl⟩:=hp
  rw[(RL.cS h2 h3).2]
 |_=>simp[mQ]at hp
theorem uY[ab]{H:ah T.den}{a:AV}{v:SV T.den}(h:(gA a:Option (SV T.den))=some v):R T H v a:=by
 cases a with
 |lit x=>simp[gA]at h; subst h; simp[R]
 |agg l=>
  simp only[gA,Option.map_eq_some_iff]at h
  obtain⟨c,h1,rfl⟩:=h
  simp only[R]
  refine⟨l,rfl,?_⟩
  have:l=c.map .lit:=by
   revert c
   induction l with
   |nil=>simp_all[Go.PI.cS]
   |cons x xs ih=>
    intro c h1
    cases x with
    |lit v=>
     simp only[Go.PI.cS,Option.map_eq_some_iff]at h1
     obtain⟨c',h2,rfl⟩:=h1
     rw[ih c' h2]; rfl
    |_=>simp[Go.PI.cS]at h1
  rw[this]
  exact RL.lits c
 |_=>simp[gA]at h
end Go.PI
end
section
/- PS, part E: the tables looked up before. -/
namespace Go.PI
def ow:TypeDesc→MK
 |.slice e=>.slice e
 |.array n e=>.array n e
 |.struct fs=>.struct (fs.toList.map fun f=>(f.offset,f.type))
 |.interface _=>.iface
 |_=>.other
def ki(rec:TypeId→Option (List CK))(P:Program):Nat→List Field→Option (List CK)
 |_,[]=>some []
 | off, f :: fs => if f.name = "_" then none else
   if f.offset=off then
    match rec f.type with
    |some ks=>if ks.length=P.cellsOf f.type then (ki rec P (off+ks.length) fs).map fun l=>ks++l else none
    |none=>none
   else none
def mB(P:Program):Nat→TypeId→Option (List CK)
 |0,_=>none
 |d+1,t=>
  match P.underlying t with
  |some .bool=>some [.bool]
  |some (.int k)=>some [.int k]
  |some .string=>some [.str]
  |some (.array n e)=>if (P.info? e).isSome&&(P.underlying e).isSome then
    match mB P d e with
    |some ks=>if ks.length=P.cellsOf e then some (List.replicate n ks).flatten else none
    |none=>none
   else none
  |some (.struct fs)=>if P.stoodInHeld t then none else ki (mB P d) P 0 fs.toList
  |_=>none
theorem kj:∀ {ks:List CK} {vs:List Value},bm ks vs=true→ks.length=vs.length
 |[],[],_=>rfl
 |_::_,_::_,h=>by simp only[bm,Bool.and_eq_true]at h; simp[kj h.2]
 |[],_::_,h=>by simp[bm]at h
 |_::_,[],h=>by simp[bm]at h
theorem pX:∀ {ks ls:List CK} {vs:List Value},bm (ks++ls) vs=true→bm ks (vs.take ks.length)=true∧bm ls (vs.drop ks.length)=true
 |[],ls,vs,h=>by simpa[bm] using h
 |k::ks,ls,[],h=>by simp[bm]at h
 |k::ks,ls,v::vs,h=>by
  simp only[List.cons_append,bm,Bool.and_eq_true]at h
  obtain⟨h1,h2⟩:=pX h.2
  simp only[List.length_cons,List.take_succ_cons,List.drop_succ_cons,bm,Bool.and_eq_true]
  exact⟨⟨h.1,h1⟩,h2⟩
theorem pY:∀ {a a' b b':List Value},a.length=a'.length→cI (a++b) (a'++b')=(cI a a'&&cI b b')
 |[],[],b,b',_=>by simp[cI]
 |x::xs,y::ys,b,b',h=>by
  simp only[List.cons_append,cI]
  rw[pY (by simpa using h),Bool.and_assoc]
theorem pZ[ab]{P:Program}{rec:TypeId→List Value→List Value→Option Bool}{kr:TypeId→Option (List CK)}
  (hr:∀ t ks c c',kr t=some ks→bm ks c=true→bm ks c'=true→rec t c c'=some (cI c c')) :
  ∀ (fs:List Field) (off:Nat) (ks:List CK) (cs lX:List Value),ki kr P off fs=some ks→bm ks (cs.drop off)=true→bm ks (lX.drop off)=true →
    jB rec P cs lX fs=some (cI (cs.drop off) (lX.drop off))
 |[],off,ks,cs,lX,h,h1,h2=>by
  simp only[ki,Option.some.injEq]at h
  subst h
  have e1:cs.drop off=[]:=by cases hq:cs.drop off with
   |nil=>rfl
   |cons x xs=>rw[hq]at h1; simp[bm]at h1
  have e2:lX.drop off=[]:=by cases hq:lX.drop off with
   |nil=>rfl
   |cons x xs=>rw[hq]at h2; simp[bm]at h2
  rw[e1,e2]; rfl
 |f::fs,off,ks,cs,lX,h,h1,h2=>by
  simp only[ki]at h
  split at h
  ·simp at h
  rename_i hn
  split at h
  case isFalse=>simp at h
  rename_i ho
  cases hk:kr f.type with
  |none=>rw[hk]at h; simp at h
  |some k1=>
   rw[hk]at h
   simp only at h
   split at h
   case isFalse=>simp at h
   rename_i hs
   rw[Option.map_eq_some_iff]at h
   obtain⟨k2,h3,rfl⟩:=h
   obtain⟨a1,a2⟩:=pX h1
   obtain⟨b1,b2⟩:=pX h2
   rw[List.drop_drop]at a2 b2
   have ih:=pZ hr fs (off+k1.length) k2 cs lX h3 a2 b2
   have hc:chunk P cs f.offset f.type=(cs.drop off).take k1.length:=by simp[chunk,ho,hs]
   have HN:chunk P lX f.offset f.type=(lX.drop off).take k1.length:=by simp[chunk,ho,hs]
   simp only[jB,hn,if_false]
   rw[hc,HN,hr _ _ _ _ hk a1 b1]
   simp only
   rw[ih,Option.map_some]
   congr 1
   have l1:=kj a1
   have l2:=kj b1
   conv=>rhs; rw[←List.take_append_drop k1.length (cs.drop off),←List.take_append_drop k1.length (lX.drop off)]
   rw[pY (by omega),List.drop_drop,List.drop_drop]
theorem rA[ab]{P:Program}{rec:TypeId→List Value→List Value→Option Bool}{e:TypeId}{ks:List CK}(hs:ks.length=P.cellsOf e)
  (hr:∀ c c',bm ks c=true→bm ks c'=true→rec e c c'=some (cI c c')) :
  ∀ (n m:Nat) (cs lX:List Value),bm (List.replicate n ks).flatten (cs.drop (m*ks.length))=true→bm (List.replicate n ks).flatten (lX.drop (m*ks.length))=true →
    ll rec P e cs lX (List.range' m n)=some (cI (cs.drop (m*ks.length)) (lX.drop (m*ks.length)))
 |0,m,cs,lX,h1,h2=>by
  simp only[List.replicate_zero,List.flatten_nil]at h1 h2
  have e1:cs.drop (m*ks.length)=[]:=by cases hq:cs.drop (m*ks.length) with
   |nil=>rfl
   |cons x xs=>rw[hq]at h1; simp[bm]at h1
  have e2:lX.drop (m*ks.length)=[]:=by cases hq:lX.drop (m*ks.length) with
   |nil=>rfl
   |cons x xs=>rw[hq]at h2; simp[bm]at h2
  rw[e1,e2]; rfl
 |n+1,m,cs,lX,h1,h2=>by
  simp only[List.replicate_succ,List.flatten_cons]at h1 h2
  obtain⟨a1,a2⟩:=pX h1
  obtain⟨b1,b2⟩:=pX h2
  rw[List.drop_drop]at a2 b2
  have em:m*ks.length+ks.length=(m+1)*ks.length:=by rw[Nat.succ_mul]
  rw[em]at a2 b2
  have ih:=rA hs hr n (m+1) cs lX a2 b2
  have hc:chunk P cs (m*P.cellsOf e) e=(cs.drop (m*ks.length)).take ks.length:=by simp[chunk,hs]
  have HN:chunk P lX (m*P.cellsOf e) e=(lX.drop (m*ks.length)).take ks.length:=by simp[chunk,hs]
  rw[List.range'_succ]
  simp only[ll]
  rw[hc,HN,hr _ _ a1 b1]
  simp only
  rw[ih,Option.map_some]
  congr 1
  have l1:=kj a1
  have l2:=kj b1
  conv=>rhs; rw[←List.take_append_drop ks.length (cs.drop (m*ks.length)),←List.take_append_drop ks.length (lX.drop (m*ks.length))]
  rw[pY (by omega),List.drop_drop,List.drop_drop,em]
theorem sv[ab]{P:Program}:∀ (d:Nat) (t:TypeId) (ks:List CK) (c c':List Value),mB P d t=some ks→bm ks c=true→bm ks c'=true→kq P d t c c'=some (cI c c')
 |0,_,_,_,_,h,_,_=>by simp[mB]at h
 |d+1,t,ks,c,c',h,h1,h2=>by
  simp only[mB]at h
  simp only[kq]
  cases hu:P.underlying t with
  |none=>rw[hu]at h; simp at h
  |some ds=>
   rw[hu]at h
   cases ds with
   |bool=>
    simp only[Option.some.injEq]at h
    subst h
    match c,c',h1,h2 with
    |[.bool a],[.bool b],_,_=>simp[cI,sf]
    |[],_,h1,_=>simp[bm]at h1
    |_::_::_,_,h1,_=>simp[bm]at h1
    |_,[],_,h2=>simp[bm]at h2
    |_,_::_::_,_,h2=>simp[bm]at h2
    |[v],[w],h1,h2=>
     cases v<;>simp[bm,CK.fits]at h1
     cases w<;>simp[bm,CK.fits]at h2
     simp[cI,sf]
   |int k=>
    simp only[Option.some.injEq]at h
    subst h
    match c,c',h1,h2 with
    |[],_,h1,_=>simp[bm]at h1
    |_::_::_,_,h1,_=>simp[bm]at h1
    |_,[],_,h2=>simp[bm]at h2
    |_,_::_::_,_,h2=>simp[bm]at h2
    |[v],[w],h1,h2=>
     cases v<;>simp[bm,CK.fits]at h1
     cases w<;>simp[bm,CK.fits]at h2
     subst h1; subst h2
     simp[cI,sf]
   |string=>
    simp only[Option.some.injEq]at h
    subst h
    match c,c',h1,h2 with
    |[],_,h1,_=>simp[bm]at h1
    |_::_::_,_,h1,_=>simp[bm]at h1
    |_,[],_,h2=>simp[bm]at h2
    |_,_::_::_,_,h2=>simp[bm]at h2
    |[v],[w],h1,h2=>
     cases v<;>simp[bm,CK.fits]at h1
     cases w<;>simp[bm,CK.fits]at h2
     simp[cI,sf]
   |array n e=>
    simp only at h ⊢
    split at h
    case isFalse=>simp at h
    rename_i hc
    rw[if_pos hc]
    cases hk:mB P d e with
    |none=>rw[hk]at h; simp at h
    |some k1=>
     rw[hk]at h
     simp only at h
     split at h
     case isFalse=>simp at h
     rename_i hs
     simp only[Option.some.injEq]at h
     subst h
     have:=rA (rec:=kq P d) hs (fun c c'=>sv d e k1 c c' hk) n 0 c c' (by simpa using h1) (by simpa using h2)
     rw[List.range_eq_range']
     simpa using this
   |struct fs=>
    simp only at h ⊢
    split at h
    ·simp at h
    rename_i hc
    rw[if_neg hc]
    have:=pZ (rec:=kq P d) (fun t ks c c' hk=>sv d t ks c c' hk) fs.toList 0 ks c c' h (by simpa using h1) (by simpa using h2)
    simpa using this
   |_=>simp at h
structure gP.Ok(Q:gP):Prop where
 row:∀ t m,Q.ty t=some m→∃ r,fh Q.P t=some r∧r.isAgg=m.agg∧r.size=m.size∧r.bytes=m.bytes∧(∀ z,m.zero=some z→cj r=some z)
 kind:∀ t m,Q.ty t=some m→∃ d,Q.P.underlying t=some d∧ow d=m.kind
 OS:∀ t m ks,Q.ty t=some m→m.OS=some ks→Q.P.eqGuardType Q.P.depth t=false∧mB Q.P 20 t=some ks
 map:∀ t q,Q.mapOf t=some q→wZ Q.P t=some q
theorem gC{α:Type}:∀ {l:List (Nat×α)} {n:Nat} {a:α},cm l n=some a→(n,a)∈l
 |[],_,_,h=>by simp[cm]at h
 |(m,b)::r,n,a,h=>by
  simp only[cm]at h
  split at h
  ·simp_all
  ·exact List.mem_cons_of_mem _ (gC h)
def rowOf(P:Program)(t:Nat):Option (Bool×Nat×Nat):=(fh P t).map fun r=>(r.isAgg,r.size,r.bytes)
def zeroOf(P:Program)(m:jY)(t:Nat):Option AV:=match m.zero with
 |none=>none
 |some _=>(fh P t).bind cj
def OY(P:Program)(m:jY)(t:Nat):Option (List CK):=match m.OS with
 |none=>none
 |some _=>if P.eqGuardType P.depth t=false then mB P 20 t else none
def K2(P:Program)(m:jY)(t:Nat):Option (KK×Nat):=match m.map with
 |none=>none
 |some _=>wZ P t
theorem u0{α β:Type}{f g:α→β}:∀ {l:List α},l.map f=l.map g→∀ x,x∈l→f x=g x
 |[],_,x,h=>by simp at h
 |y::ys,h,x,hx=>by
  simp only[List.map_cons,List.cons.injEq]at h
  rcases List.mem_cons.1 hx with rfl|hx
  ·exact h.1
  ·exact u0 h.2 x hx
theorem gP.Ok.of[ab]{Q:gP}(h1:(Q.M.map fun q=>rowOf Q.P q.1)=Q.M.map fun q=>some (q.2.agg,q.2.size,q.2.bytes))
  (h2:(Q.M.map fun q=>zeroOf Q.P q.2 q.1)=Q.M.map fun q=>q.2.zero)
  (h3:(Q.M.map fun q=>(Q.P.underlying q.1).map ow)=Q.M.map fun q=>some q.2.kind)
  (h4:(Q.M.map fun q=>OY Q.P q.2 q.1)=Q.M.map fun q=>q.2.OS) (h5:(Q.M.map fun q=>K2 Q.P q.2 q.1)=Q.M.map fun q=>q.2.map):Q.Ok where
 row:=by
  intro t m h
  have hm:=gC h
  have e1:=u0 h1 _ hm
  have e2:=u0 h2 _ hm
  simp only[rowOf,Option.map_eq_some_iff,Prod.mk.injEq]at e1
  obtain⟨r,hr,a1,a2,a3⟩:=e1
  refine⟨r,hr,a1,a2,a3,fun z hz=>?_⟩
  simp only[zeroOf]at e2
  rw[hz]at e2
  simpa[hr] using e2
 kind:=by
  intro t m h
  have e:=u0 h3 _ (gC h)
  simp only[Option.map_eq_some_iff]at e
  exact e
 OS:=by
  intro t m ks h hk
  have e:=u0 h4 _ (gC h)
  simp only[OY]at e
  rw[hk]at e
  simp only at e
  split at e
  ·exact⟨by assumption,e⟩
  ·simp at e
 map:=by
  intro t q h
  unfold gP.mapOf at h
  obtain⟨m,h1,h2⟩:=Option.bind_eq_some_iff.1 h
  have e:=u0 h5 _ (gC h1)
  simp only[K2]at e
  rw[h2]at e
  exact e
end Go.PI
end
section
/- PS, part F: operations that only compute, and those on one object. -/
namespace Go.PI
variable {T:dw}{ρ:Type}
structure RE(T:dw)(H:ah T.den)(hp:ag)(v:SV T.den)(wr:List (Nat×aB T.den))(e:dm):Prop where
 val:RV T (bf H wr) v e.val
 hp:RH T (bf H wr) (ak hp e.wr)
 grow:dk H (bf H wr)
 names:∀ q,q∈e.wr→q.1∈wr.map (·.1)
 Bs:∀ n:Nat,n∉wr.map (·.1)→n<H.length→(bf H wr)[n]?=H[n]?
 len:H.length≤(bf H wr).length
 K3:∀ n,recAt H n=true→n∉wr.map (·.1)
def jm(T:dw)(H:ah T.den)(hp:ag)(m:RM dm)(K:EK T ρ)(r:ρ):Prop:=
 ∃ v wr rd e,aE hp m e rd∧RE T H hp v wr e∧(K v wr rd).run=some r
section
variable {H:ah T.den}{hp:ag}{K:EK T ρ}{r:ρ}
theorem ar[ab](hh:RH T H hp){m:RM dm}{v:SV T.den}{a:AV}{rd:List Nat}(hv:RV T H v a)(hm:aE hp m ⟨a,[]⟩ rd)(hk:(K v [] rd).run=some r):jm T H hp m K r:=
 ⟨v,[],rd,_,hm,⟨hv,hh,dk.refl _,fun q h=>by simp at h,fun _ _ _=>rfl,Nat.le_refl _,fun _ _ h=>by simp at h⟩,hk⟩
theorem v9{n:Nat}{o:aB T.den}(hn:n=H.length∨n<H.length):H.length≤(bN H n o).length:=by
 unfold bN
 split<;>simp
theorem yg{n m:Nat}{o:aB T.den}(hm:m<H.length)(dN:m≠n):(bN H n o)[m]?=H[m]?:=by
 grind[bN]
theorem eJ[ab](hh:RH T H hp){m:RM dm}{nm:Nat}(hn:nm=H.length∨H[nm]?=some none){o:aB T.den}{a':aN}(ho:RO T H o a'){v:SV T.den}{a:AV}{rd:List Nat}
  (hv:RV T (bN H nm o) v a) (hm:aE hp m ⟨a,[(nm,a')]⟩ rd) (hk:(K v [(nm,o)] rd).run=some r):jm T H hp m K r:=by
 obtain⟨hg,hr⟩:=hh.new hn ho
 refine⟨v,[(nm,o)],rd,_,hm,⟨hv,hr,hg,fun q h=>?_,fun n h hl=>?_,?_,fun n h1 h2=>?_⟩,hk⟩
 ·simp at h; subst h; simp
 ·simp at h; exact yg hl h
 ·exact v9 (hn.imp id fun h=>(List.getElem?_eq_some_iff.1 h).1)
 ·simp at h2
  subst h2
  unfold recAt at h1
  rcases hn with hn|hn
  ·rw[List.getElem?_eq_none (by omega)]at h1; simp at h1
  ·rw[hn]at h1; simp at h1
theorem jP[ab](hh:RH T H hp){m:RM dm}{n:Nat}{o o':aB T.den}{a':aN}(ho:H[n]?=some (some o))(hc:o.cur≤o'.cur)(hl:o'.cur=o.cur→o'.len=o.len)(dD:RO T H o' a')
  {v:SV T.den} {a:AV} {rd:List Nat} (hv:RV T (H.set n (some o')) v a) (hm:aE hp m ⟨a,[(n,a')]⟩ rd) (hk:(K v [(n,o')] rd).run=some r) (Sz:o.isRec=false:=by rfl):jm T H hp m K r:=by
 obtain⟨hg,hr⟩:=hh.Rj ho hc hl dD
 have bQ:=(List.getElem?_eq_some_iff.1 ho).1
 have e1:bf H [(n,o')]=H.set n (some o'):=by simp[bf,bN]; omega
 have e2:ak hp [(n,a')]=hp.set n (some a'):=by simp[ak,setObj]; have:=hh.length; omega
 refine⟨v,[(n,o')],rd,_,hm,⟨by rw[e1]; exact hv,by rw[e1,e2]; exact hr,by rw[e1]; exact hg,fun q h=>?_,fun k h hl=>?_,?_,fun m h1 h2=>?_⟩,hk⟩
 ·simp at h; subst h; simp
 ·rw[e1]; simp at h; rw[List.getElem?_set_ne (Ne.symm h)]
 ·rw[e1]; simp
 ·simp at h2
  subst h2
  unfold recAt at h1
  rw[ho]at h1
  simp only at h1
  rw[Sz]at h1
  simp at h1
theorem hY{x:Option AV}(h:(oQ (T:=T) x K).run=some r):∃ v,x=some (.lit v)∧(K (.lit v) [] []).run=some r:=by
 unfold oQ at h
 split at h
 ·exact⟨_,rfl,h⟩
 ·simp[Tr.run]at h
theorem lV{x:Option (SV T.den)}{rd:List Nat}(h:(xY x rd K).run=some r):∃ v,x=some v∧(K v [] rd).run=some r:=by
 unfold xY at h
 split at h
 ·exact⟨_,rfl,h⟩
 ·simp[Tr.run]at h
theorem fu{b:Bool}{x y:Tr ρ}(h:(Tr.cond b x y).run=some r):(b=true∧x.run=some r)∨(b=false∧y.run=some r):=by
 cases b with
 |true=>exact .inl ⟨rfl,h⟩
 |false=>exact .inr ⟨rfl,h⟩
theorem aY[ab]{b:Bool}{x:Tr ρ}(h:(Tr.cond b x .fail).run=some r):b=true∧x.run=some r:=by
 grind[Tr.run]
theorem bind_some{α:Type}{e:Option α}{k:α→Tr ρ}(h:(Tr.bind e k).run=some r):∃ a,e=some a∧(k a).run=some r:=by
 simp only[Tr.run,Option.bind_eq_some_iff]at h
 exact h
theorem iP[ab]{v:SV T.den}{K:Nat→Tr ρ}(h:(fY v K).run=some r):∃ k n,v=.lit (.int k n)∧0≤n∧(K n.toNat).run=some r:=by
 unfold fY at h
 split at h
 ·obtain⟨h1,h2⟩:=aY h
  exact⟨_,_,rfl,by simpa using h1,h2⟩
 ·simp[Tr.run]at h
theorem qH[ab]{v:SV T.den}{a:AV}{k:IntKind}{n:Int}(hv:RV T H v a)(e:v=.lit (.int k n))(hn:0≤n):asNat a=some n.toNat:=by
 subst e
 have:=hv.live rfl
 simp only[R]at this
 subst this
 simp[asNat,hn]
theorem cT[ab]{i:Nat}{K:Nat→Tr ρ}:∀ {len m:Nat},(fF i len m K).run=some r→m≤i∧i<m+len∧(K i).run=some r
 |0,m,h=>by simp[fF,Tr.run]at h
 |len+1,m,h=>by
  simp only[fF]at h
  rcases fu h with ⟨h1,h2⟩|⟨h1,h2⟩
  ·simp_all
  ·obtain⟨h3,h4,h5⟩:=cT h2
   exact⟨by omega,by omega,h5⟩
theorem RV.lit[ab]{v:SV T.den}{a:AV}{x:Value}(hv:RV T H v a)(e:v=.lit x):a=.lit x:=by
 subst e
 have:=hv.live rfl
 simpa only[R] using this
theorem bn(x:Value):RV T H (.lit x) (.lit x):=.inr (by simp[R])
theorem fP.arr(hh:RH T H hp){n c aq:Nat}(hv:fP H n c aq){o:aB T.den}(ho:H[n]?=some (some o))(hc:Nat.beq c o.cur=true):aq=o.len:=by
 obtain⟨o',h1,h2,h3⟩:=hv
 rw[ho]at h1
 simp only[Option.some.injEq]at h1
 subst h1
 exact h3 (Nat.eq_of_beq_eq_true hc)
theorem qI:∀ {v:SV T.den} {a0 a:AV} {d:Nat},R T H v a0→VV a0 d a→R T H (ir d v) a
 |.ref n c i j,a0,a,d,h,hx=>by
  simp only[R]at h
  obtain⟨aq,rfl,hv⟩:=h
  rcases hx with ⟨n,aq,k,j,h1,rfl⟩|⟨e,j,h1,rfl⟩<;>cases h1
  simp only[ir,R]
  exact⟨_,rfl,hv⟩
 |.bh e j,a0,a,d,h,hx=>by
  simp only[R]at h
  obtain⟨e',rfl,hv⟩:=h
  rcases hx with ⟨n,aq,k,j,h1,rfl⟩|⟨e,j,h1,rfl⟩<;>cases h1
  simp only[ir,R]
  exact⟨_,rfl,hv⟩
 |.sK v s l i,a0,a,d,h,hx=>by
  simp only[R]at h
  obtain⟨a1,h1,h2,h3⟩:=h
  simp only[ir,R]
  rcases h3 with ⟨n,aq,k,j,rfl,rfl⟩|⟨e,j,rfl,rfl⟩<;>rcases hx with ⟨n',BT,k',j',e1,rfl⟩|⟨e',j',e1,rfl⟩<;>cases e1
  ·exact⟨.ref n aq k (j+d),qI h1 (.inl ⟨_,_,_,_,rfl,rfl⟩),h2,.inl ⟨_,_,_,_,rfl,by rw[Nat.add_right_comm]⟩⟩
  ·exact⟨.bh e (j+d),qI h1 (.inr ⟨_,_,rfl,rfl⟩),h2,.inr ⟨_,_,rfl,by rw[Nat.add_right_comm]⟩⟩
 |.dead,_,_,_,h,_=>by simp[R]at h
 |.lit v,_,_,_,h,hx=>by
  simp only[R]at h; subst h
  rcases hx with ⟨n,aq,k,j,h1,_⟩|⟨e,j,h1,_⟩<;>cases h1
 |.agg l,_,_,_,h,hx=>by
  simp only[R]at h; obtain⟨_,rfl,_⟩:=h
  rcases hx with ⟨n,aq,k,j,h1,_⟩|⟨e,j,h1,_⟩<;>cases h1
 |.ju l,_,_,_,h,hx=>by
  simp only[R]at h; obtain⟨_,rfl,_⟩:=h
  rcases hx with ⟨n,aq,k,j,h1,_⟩|⟨e,j,h1,_⟩<;>cases h1
 |.sl l,_,_,_,h,hx=>by
  simp only[R]at h; obtain⟨_,rfl,_⟩:=h
  rcases hx with ⟨n,aq,k,j,h1,_⟩|⟨e,j,h1,_⟩<;>cases h1
 |.jt t l,_,_,_,h,hx=>by
  simp only[R]at h
  rcases h with ⟨_,rfl,_⟩|⟨_,rfl⟩<;>rcases hx with ⟨n,aq,k,j,h1,_⟩|⟨e,j,h1,_⟩<;>cases h1
 |.iU n c i j ln cp,_,_,_,h,hx=>by
  simp only[R]at h; obtain⟨_,rfl,_⟩:=h
  rcases hx with ⟨n,aq,k,j,h1,_⟩|⟨e,j,h1,_⟩<;>cases h1
 |.bq esz n c rg cap,_,_,_,h,hx=>by
  simp only[R]at h
  obtain⟨aq,_,h2⟩:=h
  rcases rg with _|⟨off,len⟩<;>simp only at h2<;>subst h2<;>rcases hx with ⟨n,aq,k,j,h1,_⟩|⟨e,j,h1,_⟩<;>cases h1
 |.iV fn f c,_,_,_,h,hx=>by
  simp only[R]at h; obtain⟨_,_,rfl,_⟩:=h
  rcases hx with ⟨n,aq,k,j,h1,_⟩|⟨e,j,h1,_⟩<;>cases h1
 |.gi t v,_,_,_,h,hx=>by
  simp only[R]at h; obtain⟨_,rfl,_⟩:=h
  rcases hx with ⟨n,aq,k,j,h1,_⟩|⟨e,j,h1,_⟩<;>cases h1
 |.wR t l c b,_,_,_,h,hx=>by
  simp only[R]at h
  rcases h with ⟨_,_,rfl,_⟩|⟨_,_,rfl|rfl⟩<;>rcases hx with ⟨n,aq,k,j,h1,_⟩|⟨e,j,h1,_⟩<;>cases h1
 |.nz,_,_,_,h,hx=>by
  simp only[R]at h
  subst h
  rcases hx with ⟨n,aq,k,j,h1,_⟩|⟨e,j,h1,_⟩<;>cases h1
 |.mp y n,_,_,_,h,hx=>by
  simp only[R]at h; obtain⟨rfl,_⟩:=h
  rcases hx with ⟨n,aq,k,j,h1,_⟩|⟨e,j,h1,_⟩<;>cases h1
theorem kb{e:SV T.den}{s:Nat}:∀ {n j:Nat} {xs:List (SV T.den)},gB e j s n=some xs→xs.length=n∧∀ m x,xs[m]?=some x→nI false 1 e (j+m*s)=some x
 |0,j,xs,h=>by simp only[gB,Option.some.injEq]at h; subst h; simp
 |n+1,j,xs,h=>by
  simp only[gB,Option.bind_eq_some_iff,Option.map_eq_some_iff]at h
  obtain⟨x,hx,l,hl,rfl⟩:=h
  obtain⟨h1,h2⟩:=kb hl
  refine⟨by simp[h1],fun m y hy=>?_⟩
  cases m with
  |zero=>simp at hy; subst hy; simpa using hx
  |succ m=>
   grind
theorem sw{k:IntKind}:∀ {xs:List (SV T.den)} {l:List Int},uT k xs=some l→xs=l.map fun n=>.lit (.int k n)
 |[],l,h=>by simp only[uT,Option.some.injEq]at h; subst h; rfl
 |x::r,l,h=>by
  unfold uT at h
  split at h
  ·simp at *
  ·rename_i k' n r' he
   cases he
   split at h
   case isFalse=>simp at h
   rename_i hk
   subst hk
   rw[Option.map_eq_some_iff]at h
   obtain⟨l',hl,rfl⟩:=h
   rw[sw hl]; rfl
  ·simp at h
theorem wa:∀ {xs:List (SV T.den)} {l:List Bool},tG xs=some l→xs=l.map fun n=>.lit (.bool n)
 |[],l,h=>by simp only[tG,Option.some.injEq]at h; subst h; rfl
 |x::r,l,h=>by
  unfold tG at h
  split at h
  ·simp at *
  ·rename_i n r' he
   cases he
   rw[Option.map_eq_some_iff]at h
   obtain⟨l',hl,rfl⟩:=h
   rw[wa hl]; rfl
  ·simp at h
theorem Ag{α:Type}{l:List α}{i:Nat}{d x:α}(h:l[i]?=some x):GI l i d=x:=by
 simp_all[GI,h]
theorem Dc{xs:List (SV T.den)}{i:Nat}{x y:SV T.den}(h:KM i xs=some y)(hx:xs[i]?=some x):y=x:=by
 unfold KM at h
 split at h
 ·rename_i k n r
  rw[Option.map_eq_some_iff]at h
  obtain⟨l,hl,rfl⟩:=h
  rw[sw hl]at hx
  have:(List.map (fun n=>(SV.lit (Value.int k n):SV T.den)) (n::l))[i]?=some x:=hx
  rw[List.getElem?_map,Option.map_eq_some_iff]at this
  obtain⟨z,hz,rfl⟩:=this
  rw[Ag hz]
 ·rename_i n r
  rw[Option.map_eq_some_iff]at h
  obtain⟨l,hl,rfl⟩:=h
  rw[wa hl]at hx
  have:(List.map (fun n=>(SV.lit (Value.bool n):SV T.den)) (n::l))[i]?=some x:=hx
  rw[List.getElem?_map,Option.map_eq_some_iff]at this
  obtain⟨z,hz,rfl⟩:=this
  rw[Ag hz]
 ·simp at h
theorem Dd{m:jY}{v x:SV T.den}{aW len i:Nat}{xs:List (SV T.den)}{rd:List Nat}(h:Fg H v aW len=some (xs,rd))(hx:KM i xs=some x)(hi:i<len)(h1:m.agg=false)(h2:m.size=1):
  oh m H (ir (i*aW) v) K=K x [] rd:=by
 have fin:∀ (e:SV T.den) (j:Nat),gB e j aW len=some xs→nI m.agg m.size e (j+i*aW)=some x:=by
  intro e j hs
  obtain⟨g1,g2⟩:=kb hs
  have bQ:i<xs.length:=by omega
  have hg:=List.getElem?_eq_getElem bQ
  rw[Dc hx hg,h1,h2]
  exact g2 _ _ hg
 unfold Fg at h
 split at h
 ·rename_i n c k j
  split at h
  case h_2=>simp at h
  rename_i g cl f cur es ho
  split at h
  case h_2=>simp at h
  rename_i hc
  simp only[Option.bind_eq_some_iff,Option.map_eq_some_iff,Prod.mk.injEq]at h
  obtain⟨e,he,l,hl,rfl,rfl⟩:=h
  simp only[ir,oh,ho,hc,he,fin e j hl,xY]
 ·rename_i e j
  simp only[Option.map_eq_some_iff,Prod.mk.injEq]at h
  obtain⟨l,hl,rfl,rfl⟩:=h
  simp only[ir,oh,fin e j hl,xY]
 ·simp at h
theorem K4{α:Type}{l:List α}{n:Nat}{x:α}(h:l[n]?=some x):l.set n x=l:=Go.PI.gZ h
theorem De{k:IntKind}{y:Int}{aW i:Nat}:∀ {ns:List Int} {l:List (SV T.den)} {j m:Nat},i<m→(∀ p n,ns[p]?=some n→l[j+p*aW]?=some (.lit (.int k n)))→Fh l j aW i m k y ns=l
 |[],l,j,m,_,_=>rfl
 |n::ns,l,j,m,hm,h=>by
  have h0:l[j]?=some (.lit (.int k n)):=by simpa using h 0 n rfl
  have hb:Nat.beq i m=false:=by
   cases hb:Nat.beq i m
   ·rfl
   ·have:=Nat.eq_of_beq_eq_true hb; omega
  simp only[Fh,hb,cond_false]
  rw[K4 h0]
  refine De (by omega) fun p x hp=>?_
  have:=h (p+1) x (by simpa using hp)
  rwa [Nat.succ_mul,Nat.add_comm _ aW,←Nat.add_assoc]at this
theorem Df{k:IntKind}{y:Int}{aW i:Nat}(hs:0<aW):∀ {ns:List Int} {l:List (SV T.den)} {j m:Nat},m≤i→i<m+ns.length→(∀ p n,ns[p]?=some n→l[j+p*aW]?=some (.lit (.int k n))) →
  Fh l j aW i m k y ns=l.set (j+(i-m)*aW) (.lit (.int k y))
 |[],l,j,m,h1,h2,_=>by simp at h2; omega
 |n::ns,l,j,m,h1,h2,h=>by
  have h0:l[j]?=some (.lit (.int k n)):=by simpa using h 0 n rfl
  have hn:∀ (l':List (SV T.den)),(∀ q,j<q→l'[q]?=l[q]?)→∀ p x,ns[p]?=some x→l'[j+aW+p*aW]?=some (.lit (.int k x)):=by
   intro l' hl p x hp
   have:=h (p+1) x (by simpa using hp)
   rw[Nat.succ_mul,Nat.add_comm _ aW,←Nat.add_assoc]at this
   rw[hl _ (by omega)]; exact this
  by_cases hm:i=m
  ·subst hm
   have hb:Nat.beq i i=true:=by simp
   simp only[Fh,hb,cond_true,Nat.sub_self,Nat.zero_mul,Nat.add_zero]
   exact De (by omega) (hn _ fun q hq=>by rw[List.getElem?_set_ne (by omega)])
  ·have hb:Nat.beq i m=false:=by
    cases hb:Nat.beq i m
    ·rfl
    ·simp_all
   simp only[Fh,hb,cond_false]
   rw[K4 h0,Df hs (by omega) (by simp at h2; omega) (hn _ fun _ _=>rfl)]
   have:i-m=(i-(m+1))+1:=by omega
   rw[this,Nat.succ_mul,Nat.add_assoc,Nat.add_comm aW]
theorem Bt{m:jY}{b v:SV T.den}{aW len i n:Nat}{o:aB T.den}(h:Fi H b v aW len i=some (n,o))(hi:i<len)(h2:m.size=1):
  qB m H (ir (i*aW) b) v K=K (.lit undef) [(n,o)] [n]:=by
 unfold Fi at h
 split at h
 case h_2=>simp at h
 rename_i n' c i0 j k y
 split at h
 case h_2=>simp at h
 rename_i g cl f cur es ho
 split at h
 case h_2=>simp at h
 rename_i l hc he
 simp only[Bool.and_eq_true]at hc
 obtain⟨⟨Jb,Ow⟩,Wc⟩:=hc
 have hs:0<aW:=Nat.le_of_ble_eq_true Wc
 simp only[Option.map_eq_some_iff,Option.bind_eq_some_iff,Prod.mk.injEq]at h
 obtain⟨ns,⟨xs,zA,Wd⟩,rfl,rfl⟩:=h
 obtain⟨g1,g2⟩:=kb zA
 have hxe:=sw Wd
 have vv:∀ p x,ns[p]?=some x→l[j+p*aW]?=some (.lit (.int k x)):=by
  simp_all[nI]
 have hlen:ns.length=len:=by rw[←g1,hxe,List.length_map]
 have Fu:=Df (y:=y) hs (Nat.zero_le i) (by omega) vv
 rw[Nat.sub_zero]at Fu
 rw[Fu]
 have bQ:j+i*aW<l.length:=by
  have:=vv i _ (List.getElem?_eq_getElem (by omega:i<ns.length))
  exact(List.getElem?_eq_some_iff.1 this).1
 have ui:(bL (SV.lit (Value.int k y):SV T.den))=[.lit (.int k y)]:=rfl
 simp only[ir,qB,bP,ui,ho,Jb,Ow,he,h2]
 simp[fW,iL,gy,av,aD]
 rw[if_pos (show j+i*aW+1≤l.length from bQ)]
theorem u3[ab](hT:T.Ok){P:Program}{t:TypeId}{m:jY}{q:bJ}(hq:fh P t=some q)(h1:q.isAgg=m.agg)(h2:q.size=m.size)(hh:RH T H hp){a:SV T.den}{b:AV}(ha:RV T H a b)
  (h:(oh m H a K).run=some r):∃ v c rd,aE hp (kF P t b) c rd∧R T H v c∧(K v [] rd).run=some r:=by
 unfold kF
 rw[hq]
 simp only
 unfold oh at h
 split at h
 ·-- a reference
  rename_i n c i j
  have ha:=ha.live rfl
  simp only[R]at ha
  obtain⟨aq,rfl,ca⟩:=ha
  simp only
  split at h
  ·rename_i g cl f cur es ho
   obtain⟨o,c6,dD⟩:=hh.obj ho
   obtain⟨es',rfl,cC,qX⟩:=dD
   split at h
   case h_2=>simp[Tr.run]at h
   rename_i hc
   have ca:=ca.arr hh ho hc
   simp only[aB.len]at ca
   split at h
   case h_2=>simp[Tr.run]at h
   rename_i e he
   obtain⟨v,hv,hk⟩:=lV h
   obtain⟨e',Gc,Eb⟩:=aw.get (aQ.1 cC) he
   rw[←h1,←h2]at hv
   obtain⟨c',HN,SR⟩:=R.part Eb hv
   refine⟨v,c',[n],?_,SR,hk⟩
   refine aE.mono (aE.bind (aE.arr c6 (by rw[ca]; exact(RL.length cC).symm)) ?_) (rd:=[n]++[]) (fun _ h=>by simpa using h)
   simp only[Gc]
   exact aE.gU HN
  ·rename_i g f cur t' l ho
   obtain⟨o,c6,dD⟩:=hh.obj ho
   obtain⟨es',rfl,cC⟩:=dD
   split at h
   case h_2=>simp[Tr.run]at h
   rename_i hc
   have ca:=ca.arr hh ho hc
   simp only[aB.len]at ca
   obtain⟨x,hx,h⟩:=bind_some h
   rw[GO hT]at h
   obtain⟨v,hv,hk⟩:=lV h
   obtain⟨e',Gc,Eb⟩:=aw.get cC hx
   rw[←h1,←h2]at hv
   obtain⟨c',HN,SR⟩:=R.part (hT.up _ _ _ H Eb) hv
   refine⟨v,c',[n],?_,SR,hk⟩
   refine aE.mono (aE.bind (aE.arr c6 (by rw[ca]; exact(aw.length cC).symm)) ?_) (rd:=[n]++[]) (fun _ h=>by simpa using h)
   simp only[Gc]
   exact aE.gU HN
  ·simp[Tr.run]at h
 ·rename_i e j
  have ha:=ha.live rfl
  simp only[R]at ha
  obtain⟨e',rfl,Eb,_⟩:=ha
  obtain⟨v,hv,hk⟩:=lV h
  rw[←h1,←h2]at hv
  obtain⟨c',HN,SR⟩:=R.part Eb hv
  exact⟨v,c',[],aE.gU HN,SR,hk⟩
 ·simp[Tr.run]at h
theorem Dg[ab](hT:T.Ok){P:Program}{t:TypeId}{m:jY}{q:bJ}(hq:fh P t=some q)(h1:q.isAgg=m.agg)(h2:q.size=m.size)(hh:RH T H hp){a:SV T.den}{b:AV}(ha:RV T H a b)
  (h:(GJ m H a K).run=some r):∃ v c rd,aE hp (kF P t b) c rd∧R T H v c∧(K v [] rd).run=some r:=by
 unfold GJ at h
 split at h
 ·rename_i v aW len i
  have ha:=ha.live rfl
  simp only[R]at ha
  obtain⟨a0,g1,g2,g3⟩:=ha
  have hR:=qI g1 g3
  have chain:(fF i len 0 fun k=>oh m H (ir (k*aW) v) K).run=some r→∃ v c rd,aE hp (kF P t b) c rd∧R T H v c∧(K v [] rd).run=some r:=by
   intro h
   obtain⟨_,_,h⟩:=cT h
   exact u3 hT hq h1 h2 hh (.inr hR) h
  split at h
  ·rename_i xs rd hs hx
   simp only[Bool.and_eq_true,Bool.not_eq_true']at hs
   split at h
   ·rename_i x K5
    rw[←Dd (K:=K) (m:=m) hx K5 g2 hs.1 (Nat.eq_of_beq_eq_true hs.2)]at h
    exact u3 hT hq h1 h2 hh (.inr hR) h
   ·exact chain h
  ·exact chain h
 ·exact u3 hT hq h1 h2 hh ha h
def aB.yh{den:Nat→Type}:aB den→Bool
 |.arr ..|.bW ..=>true
 |_=>false
theorem RO.Dh[ab]{o:aB T.den}{a:aN}(dD:RO T H o a)(hj:o.yh=true):∃ es,a=.arr o.flags.1 o.flags.2.1 o.flags.2.2 es∧es.length=o.len:=by
 cases o with
 |arr g cl f cur es=>obtain⟨es',rfl,cC,_⟩:=dD; exact⟨es',rfl,(RL.length cC).symm⟩
 |bW g f cur t l=>obtain⟨es',rfl,cC⟩:=dD; exact⟨es',rfl,(aw.length cC).symm⟩
 |_=>simp[aB.yh]at hj
theorem sy[ab](hT:T.Ok){P:Program}{t:TypeId}{m:jY}{q:bJ}(hq:fh P t=some q)(h2:q.size=m.size)(hh:RH T H hp){a v:SV T.den}{b c:AV}(ha:RV T H a b)(hv:RV T H v c)
  (h:(qB m H a v K).run=some r):jm T H hp (pb P t b c) K r:=by
 unfold pb
 rw[hq]
 simp only
 unfold qB at h
 split at h
 case h_2=>simp[Tr.run]at h
 rename_i hd kL
 simp only[Bool.and_eq_true,decide_eq_true_eq]at kL
 have hv:=hv.live hd
 have mh:=hv.cells
 split at h
 case h_2=>simp[Tr.run]at h
 rename_i n cc i j
 have ha:=ha.live rfl
 simp only[R]at ha
 obtain⟨aq,rfl,ca⟩:=ha
 simp only
 split at h
 ·rename_i g cl f cur es ho
  obtain⟨o,c6,dD⟩:=hh.obj ho
  obtain⟨es',rfl,cC,qX⟩:=dD
  split at h
  case h_2=>simp[Tr.run]at h
  rename_i hc
  simp only[Bool.and_eq_true,Bool.not_eq_true']at hc
  have ca:=ca.arr hh ho hc.1
  simp only[aB.len]at ca
  split at h
  case h_2=>simp[Tr.run]at h
  rename_i e he
  split at h
  case h_2=>simp[Tr.run]at h
  rename_i e' yY
  obtain⟨b',o8,Rn⟩:=aw.get (aQ.1 cC) he
  obtain⟨e2,xL,Qr⟩:=R.iW Rn mh yY
  have ei:RL T H (es.set i e') (es'.set i e2):=aQ.2 ((aQ.1 cC).set i Qr)
  refine jP (o':=.arr g (cl&&av (bL v)) f cur (es.set i e')) hh ho (Nat.le_refl _) (fun _=>by simp[aB.len]) (a':=.arr g (cl&&aZ (cellsOf c)) f (es'.set i e2)) ⟨_,by rw[RL.closed mh],ei,fun mY=>by simp only[Bool.and_eq_true]at mY; exact ss (qX mY.1) (ye yY (jN (qX mY.1) (List.mem_of_getElem? he)) mY.2) i⟩ (bn undef) ?_ h
  refine aE.mono (aE.bind (aE.arr c6 (by rw[ca]; exact(RL.length cC).symm)) ?_) (rd:=[n]++[]) (fun _ h=>by simpa using h)
  simp only[o8,xL]
  rw[if_pos ⟨hc.2,by rw[←mh.length,h2]; exact kL.1,by rw[←mh.C6]; exact kL.2⟩]
  exact aE.ret _
 ·rename_i g f cur t' l ho
  obtain⟨o,c6,dD⟩:=hh.obj ho
  obtain⟨es',rfl,cC⟩:=dD
  split at h
  case h_2=>simp[Tr.run]at h
  rename_i hc
  simp only[Bool.and_eq_true,Bool.not_eq_true']at hc
  have ca:=ca.arr hh ho hc.1.1
  simp only[aB.len]at ca
  obtain⟨x,hx,h⟩:=bind_some h
  split at h
  case h_2=>simp[Tr.run]at h
  rename_i e' yY
  split at h
  case h_2=>simp[Tr.run]at h
  rename_i y hy
  obtain⟨b',o8,Rn⟩:=aw.get cC hx
  obtain⟨e2,xL,Qr⟩:=R.iW (hT.up _ _ _ H Rn) mh yY
  have ei:aw (T.rp t') (l.set i y) (es'.set i e2):=cC.set i (hT.dn _ _ _ _ H hy Qr)
  refine jP (o':=.bW g f cur t' (l.set i y)) hh ho (Nat.le_refl _) (fun _=>by simp[aB.len]) (a':=.arr g (true&&aZ (cellsOf c)) f (es'.set i e2)) ⟨_,by rw[←RL.closed mh,hc.2]; rfl,ei⟩ (bn undef) ?_ h
  refine aE.mono (aE.bind (aE.arr c6 (by rw[ca]; exact(aw.length cC).symm)) ?_) (rd:=[n]++[]) (fun _ h=>by simpa using h)
  simp only[o8,xL]
  rw[if_pos ⟨hc.1.2,by rw[←mh.length,h2]; exact kL.1,by rw[←mh.C6]; exact kL.2⟩]
  exact aE.ret _
 ·simp[Tr.run]at h
theorem H3[ab](hT:T.Ok){P:Program}{t:TypeId}{m:jY}{q:bJ}(hq:fh P t=some q)(h2:q.size=m.size)(hh:RH T H hp){a v:SV T.den}{b c:AV}(ha:RV T H a b)(hv:RV T H v c)
  (h:(Fj m H a v K).run=some r):jm T H hp (pb P t b c) K r:=by
 unfold Fj at h
 split at h
 ·rename_i w aW len i
  have ha:=ha.live rfl
  simp only[R]at ha
  obtain⟨a0,g1,g2,g3⟩:=ha
  have hR:=qI g1 g3
  split at h
  ·rename_i n o hs hx
   rw[←Bt (K:=K) (m:=m) hx g2 (Nat.eq_of_beq_eq_true hs)]at h
   exact sy hT hq h2 hh (.inr hR) hv h
  ·obtain⟨_,_,h⟩:=cT h
   exact sy hT hq h2 hh (.inr hR) hv h
 ·exact sy hT hq h2 hh ha hv h
end
end Go.PI
end
section
/- PS, part G: the other operations. -/
namespace Go.PI
variable {T:dw}{ρ:Type}
section
variable {H:ah T.den}{hp:ag}{K:EK T ρ}{r:ρ}{Q:gP}
theorem gP.Ok.slice(hQ:Q.Ok){t e:Nat}{m:jY}(h:Q.elemOf t=some (e,m)):Q.P.underlying t=some (.slice e)∧Q.ty e=some m:=by
 unfold gP.elemOf at h
 cases ht:Q.ty t with
 |none=>rw[ht]at h; simp at h
 |some m1=>
  rw[ht]at h
  simp only at h
  obtain⟨d,hd,hk⟩:=hQ.kind t m1 ht
  cases hm:m1.kind with
  |slice e'=>
   rw[hm]at h hk
   simp only[Option.map_eq_some_iff,Prod.mk.injEq]at h
   obtain⟨m2,h1,rfl,rfl⟩:=h
   cases d<;>simp[ow]at hk
   subst hk
   exact⟨hd,h1⟩
  |_=>rw[hm]at h; simp at h
theorem gP.Ok.elem[ab](hQ:Q.Ok){t:Nat}{m:jY}(h:Q.elem t=some m):∃ r,aP Q.P t=some r∧r.isAgg=m.agg∧r.size=m.size∧r.bytes=m.bytes∧(∀ z,m.zero=some z→cj r=some z):=by
 unfold gP.elem at h
 rw[Option.map_eq_some_iff]at h
 obtain⟨⟨e,m'⟩,h1,rfl⟩:=h
 obtain⟨h2,h3⟩:=hQ.slice h1
 obtain⟨r,h4,h5⟩:=hQ.row e _ h3
 exact⟨r,by simp[aP,h2,h4],h5⟩
theorem gP.Ok.Di(hQ:Q.Ok){t n:Nat}{m:jY}(h:Q.arr t=some (n,m)):∃ r,arrayElem Q.P t=some (n,r)∧r.isAgg=m.agg∧r.size=m.size:=by
 unfold gP.arr at h
 cases ht:Q.ty t with
 |none=>rw[ht]at h; simp at h
 |some m1=>
  rw[ht]at h
  simp only at h
  obtain⟨d,hd,hk⟩:=hQ.kind t m1 ht
  cases hm:m1.kind with
  |array n' e=>
   rw[hm]at h hk
   simp only[Option.map_eq_some_iff,Prod.mk.injEq]at h
   obtain⟨m2,h1,rfl,rfl⟩:=h
   cases d<;>simp[ow]at hk
   obtain⟨rfl,rfl⟩:=hk
   obtain⟨r,h4,h5,h6,_⟩:=hQ.row _ _ h1
   exact⟨r,by simp[arrayElem,hd,h4],h5,h6⟩
  |_=>rw[hm]at h; simp at h
theorem gP.Ok.NQ(hQ:Q.Ok){t f off:Nat}{m:jY}(h:Q.Ur t f=some (off,m)):∃ r,mc Q.P t f=some (off,r)∧r.isAgg=m.agg∧r.size=m.size:=by
 unfold gP.Ur at h
 cases ht:Q.ty t with
 |none=>rw[ht]at h; simp at h
 |some m1=>
  rw[ht]at h
  simp only at h
  obtain⟨d,hd,hk⟩:=hQ.kind t m1 ht
  cases hm:m1.kind with
  |struct fs=>
   rw[hm]at h hk
   simp only at h
   cases d<;>simp[ow]at hk
   rename_i DZ
   subst hk
   cases hf:(List.map (fun f=>(f.offset,f.type)) DZ.toList)[f]? with
   |none=>rw[hf]at h; simp at h
   |some q=>
    obtain⟨We,e⟩:=q
    rw[hf]at h
    simp only at h
    rw[List.getElem?_map,Option.map_eq_some_iff]at hf
    obtain⟨fd,UT,hq⟩:=hf
    simp only[Prod.mk.injEq]at hq
    obtain⟨rfl,rfl⟩:=hq
    cases he:Q.ty fd.type with
    |none=>rw[he]at h; simp at h
    |some m2=>
     rw[he]at h
     simp only at h
     split at h
     ·simp at h
     rename_i hz
     simp only[Option.some.injEq,Prod.mk.injEq]at h
     obtain⟨rfl,rfl⟩:=h
     obtain⟨r,h4,h5,h6,_⟩:=hQ.row _ _ he
     refine⟨r,?_,h5,h6⟩
     have Wf:DZ[f]?=some fd:=by simpa using UT
     simp[mc,structFields,hd,Wf,h4]
     omega
  |_=>rw[hm]at h; simp at h
theorem gP.Ok.NR(hQ:Q.Ok){t:Nat}{b:Bool}(h:Q.isSlice t=some b):bX Q.P t=b:=by
 unfold gP.isSlice at h
 cases ht:Q.ty t with
 |none=>rw[ht]at h; simp at h
 |some m1=>
  rw[ht]at h
  simp only at h
  obtain⟨d,hd,hk⟩:=hQ.kind t m1 ht
  unfold bX
  rw[hd]
  cases hm:m1.kind<;>rw[hm]at h hk<;>cases d<;>simp[ow]at hk<;>simp_all
theorem NS[ab]{P:Program}{op:BinOp}{t:TypeId}{xo yo:Operand}{k:IntKind}{a b:Int}{v:Value}(h:Qh op k a b=some v):
  fw P op t xo yo (.lit (.int k a)) (.lit (.int k b))=some (.lit v):=by
 cases op<;>simp only[Qh,Option.some.injEq,reduceCtorEq]at h<;>subst h
 ·exact AZ
 ·exact Ge
 ·exact M0
 ·rw[MY]; congr
 ·rw[MZ]; congr
 ·exact qm
 ·exact MW
 ·exact Gd
 ·exact MX
theorem NT[ab]{P:Program}{op:BinOp}{t:TypeId}{xo yo:Operand}{k:IntKind}{a b:Int}{v:Value}(h:Qi op k a b=some v)(hb:b≠0):
  fw P op t xo yo (.lit (.int k a)) (.lit (.int k b))=some (.lit v):=by
 cases op<;>simp only[Qi,Option.some.injEq,reduceCtorEq]at h<;>subst h
 ·simp only[fw,ep,c9]; rw[eE _ (by simp) (by simp)]; simp[binOp,Op.intDiv,hb]; rfl
 ·simp only[fw,ep,c9]; rw[eE _ (by simp) (by simp)]; simp[binOp,Op.intDiv,hb]; rfl
theorem Qs[ab]{P:Program}{op:BinOp}{t:TypeId}{xo yo:Operand}{k k':IntKind}{a b:Int}{v:Value}(h:VR op k a b=some v)(hb:¬b<0):
  fw P op t xo yo (.lit (.int k a)) (.lit (.int k' b))=some (.lit v):=by
 cases op<;>simp only[VR,Option.some.injEq,reduceCtorEq]at h<;>subst h
 ·simp only[fw,ep,c9]; rw[eE _ (by simp) (by simp)]; simp[binOp,Op.shift,hb]; rfl
 ·simp only[fw,ep,c9]; rw[eE _ (by simp) (by simp)]; simp[binOp,Op.shift,hb]; rfl
theorem wb{x y:Value}{K:Bool→Tr ρ}:wS x y K=K (sf x y):=by
 unfold wS sf
 split<;>simp_all
theorem wc[ab]:∀ {c c':List Value} {K:Bool→Tr ρ},kW c c' K=K (cI c c')
 |[],[],K=>rfl
 |[x],[y],K=>by simp[kW,wb,cI]
 |x::x'::xs,y::y'::ys,K=>by
  simp only[kW,wb]
  rw[wc]
  rfl
 |[],_::_,K=>by simp[kW,cI]
 |_::_,[],K=>by simp[kW,cI]
 |[x],y::y'::ys,K=>by simp[kW,cI]
 |x::x'::xs,[y],K=>by simp[kW,cI]
theorem yi:∀ (c:List Value),cS (c.map .lit)=some c
 |[]=>rfl
 |v::vs=>by simp[cS,yi vs]
theorem H4[ab](hQ:Q.Ok){op:BinOp}{t:TypeId}{xo yo:Operand}{l l':List (SV T.den)}{a b:List AV}(h1:RL T H l a)(h2:RL T H l' b)(h:(Fm Q op t l l' K).run=some r):
  ∃ v,fw Q.P op t xo yo (.agg a) (.agg b)=some (.lit v)∧(K (.lit v) [] []).run=some r:=by
 unfold Fm at h
 split at h
 case h_2=>simp[Tr.run]at h
 rename_i c c' m hc HN hm
 split at h
 case h_2=>simp[Tr.run]at h
 rename_i ks hks
 split at h
 case h_2=>simp[Tr.run]at h
 rename_i hf
 simp only[Bool.and_eq_true]at hf
 obtain⟨_,rfl⟩:=RL.cS h1 hc
 obtain⟨_,rfl⟩:=RL.cS h2 HN
 obtain⟨hg,Hb⟩:=hQ.OS _ _ _ hm hks
 have he:=sv 20 t ks c c' Hb hf.1.2 hf.2
 obtain⟨rr,wz,Cy,_⟩:=hQ.row _ _ hm
 have hd:∃ d,Q.P.underlying t=some d∧dR d=true:=by
  unfold fh at wz
  cases hi:Q.P.info? t with
  |none=>rw[hi]at wz; simp at wz
  |some i=>
   cases hu:Q.P.underlying t with
   |none=>rw[hi,hu]at wz; simp at wz
   |some d=>
    rw[hi,hu]at wz
    simp only[Option.some.injEq]at wz
    refine⟨d,rfl,?_⟩
    rw[←hf.1.1,←Cy,←wz]
    rfl
 obtain⟨d,OE,Uc⟩:=hd
 have hA:∀ op,ep Q.P op t (.agg (c.map .lit)) (.agg (c'.map .lit))=lh op (cI c c'):=by
  intro op
  unfold ep
  simp only[yi,OE]
  cases d<;>simp[dR]at Uc<;>simp[hg,he]
 have hB:∀ op x,lh op (cI c c')=some x→fw Q.P op t xo yo (.agg (c.map .lit)) (.agg (c'.map .lit))=some x:=by
  intro op x hx
  unfold fw
  rw[hA,hx]
 rw[wc]at h
 cases op<;>simp only[Tr.run,reduceCtorEq]at h
 ·exact⟨_,hB _ _ rfl,h⟩
 ·exact⟨_,hB _ _ rfl,h⟩
theorem tM[ab]{v:SV T.den}{a b:AV}(hv:RV T H v a)(h:mQ v=some b):a=b:=by
 rcases hv with hv|hv
 ·subst hv; simp[mQ]at h
 ·exact hv.plain h
theorem tN{P:Program}{op:BinOp}{t:TypeId}{a b:AV}(ha:(∀ l,a≠.agg l)∨∀ l,b≠.agg l):ep P op t a b=none:=by
 unfold ep
 split
 ·simp_all
 ·rfl
theorem Ah[ab]{P:Program}{op:BinOp}{t:TypeId}{x:SV T.den}{a:AV}{n:Value}{y:AV}(hx:RV T H x a)(h:Bh P op t x n=some y):
  nN P op t a n=some y∧c9 a=none∧∀ l,a≠.agg l:=by
 unfold Bh at h
 split at h
 ·split at h
  ·have:=hx.live rfl
   simp only[R]at this
   obtain⟨v',rfl,l',rfl,_⟩:=this
   exact⟨by simpa[nN] using h,rfl,by simp⟩
  ·have:=hx.live rfl
   simp only[R]at this
   obtain⟨v',rfl,l',rfl,_⟩:=this
   exact⟨by simpa[nN] using h,rfl,by simp⟩
  ·simp at h
 ·split at h
  ·have:=hx.live rfl
   simp only[R]at this
   obtain⟨f',c',rfl,_⟩:=this
   exact⟨by simpa[nN] using h,rfl,by simp⟩
  ·simp at h
 ·split at h
  case isFalse=>simp at h
  rename_i hc
  simp only[Bool.and_eq_true]at hc
  cases x<;>simp[GG]at hc
  rename_i xs
  have:=hx.live rfl
  simp only[R]at this
  obtain⟨l',rfl,hl,_⟩:=this
  have:notNil (.sl l')=true:=by
   simp only[notNil]
   have:=hl.length
   cases l' with
   |nil=>simp at this; exact absurd this hc.2
   |cons=>rfl
  refine⟨?_,rfl,by simp⟩
  simp only[nN,hc.1,this,Bool.and_self,if_true]
  exact h
 ·simp at h
theorem NU[ab](hQ:Q.Ok){op:BinOp}{t:TypeId}{xo yo:Operand}{x y:SV T.den}{a b:AV}(hx:RV T H x a)(hy:RV T H y b)(h:(Qj Q op t xo yo x y K).run=some r):
  ∃ v,fw Q.P op t xo yo a b=some (.lit v)∧(K (.lit v) [] []).run=some r:=by
 unfold Qj at h
 split at h
 ·rename_i k m k' m'
  have ha:=hx.lit rfl
  have hb:=hy.lit rfl
  subst ha; subst hb
  split at h
  ·rename_i v hk hv
   simp only[decide_eq_true_eq]at hk
   subst hk
   exact⟨v,NS hv,h⟩
  ·split at h
   ·rename_i v hk hv
    simp only[decide_eq_true_eq]at hk
    subst hk
    rcases fu h with ⟨_,h⟩|⟨h0,h⟩
    ·simp[Tr.run]at h
    ·exact⟨v,NT hv (by simpa using h0),h⟩
   ·split at h
    ·rename_i v hk hv
     rcases fu h with ⟨_,h⟩|⟨h0,h⟩
     ·simp[Tr.run]at h
     ·exact⟨v,Qs hv (by simpa using h0),h⟩
    ·exact hY h
 ·rename_i l l'
  have ha:=hx.live rfl
  have hb:=hy.live rfl
  simp only[R]at ha hb
  obtain⟨a',rfl,ha⟩:=ha
  obtain⟨b',rfl,hb⟩:=hb
  exact H4 hQ ha hb h
 ·split at h
  ·rename_i a' b' h1 h2
   rw[tM hx h1,tM hy h2]
   exact hY h
  ·split at h
   ·rename_i n
    obtain⟨v,hv,hk⟩:=hY h
    obtain⟨h1,h2,h3⟩:=Ah hx hv
    have hb:=hy.lit rfl
    subst hb
    refine⟨v,?_,hk⟩
    unfold fw
    rw[tN (.inl h3),h2]
    exact h1
   ·rename_i hyn
    split at h
    ·rename_i n
     obtain⟨v,hv,hk⟩:=hY h
     obtain⟨h1,h2,h3⟩:=Ah hy hv
     have ha:=hx.lit rfl
     subst ha
     refine⟨v,?_,hk⟩
     unfold fw
     rw[tN (.inr h3),h2]
     cases b with
     |lit b=>
      exfalso
      simp[c9]at h2
     |_=>exact h1
    ·simp[Tr.run]at h
theorem NV[ab]{t:Bool}{x y:SV T.den}{a b:AV}(hx:RV T H x a)(hy:RV T H y b)(h:(KQ t x y K).run=some r):
  ∃ v,RV T H v (cond t a b)∧(K v [] []).run=some r:=by
 unfold KQ at h
 split at h
 ·have ha:=hx.lit rfl
  have hb:=hy.lit rfl
  subst ha; subst hb
  refine⟨_,?_,h⟩
  cases t<;>exact bn _
 ·rename_i k m k' m'
  have ha:=hx.lit rfl
  have hb:=hy.lit rfl
  subst ha; subst hb
  split at h
  ·rename_i hk
   subst hk
   refine⟨_,?_,h⟩
   cases t<;>exact bn _
  ·rcases fu h with ⟨rfl,h⟩|⟨rfl,h⟩
   ·exact⟨_,bn _,h⟩
   ·exact⟨_,bn _,h⟩
 ·rcases fu h with ⟨rfl,h⟩|⟨rfl,h⟩
  ·exact⟨_,hx,h⟩
  ·exact⟨_,hy,h⟩
end
end Go.PI
end
section
/- PS, part H: structs and slices built, cut, indexed. -/
namespace Go.PI
variable {T:dw}{ρ:Type}
section
variable {H:ah T.den}{hp:ag}{K:EK T ρ}{r:ρ}{Q:gP}
theorem yj(hQ:Q.Ok):∀ {fs:List Field} {pl:List (Nat×Nat)},Q.uO (fs.map fun f=>(f.offset,f.type))=some pl→me Q.P fs=some pl
 |[],pl,h=>by simpa[gP.uO,me] using h
 |f::fs,pl,h=>by
  simp only[List.map_cons,gP.uO]at h
  cases hm:Q.ty f.type with
  |none=>rw[hm]at h; simp at h
  |some m=>
   cases hp:Q.uO (fs.map fun f=>(f.offset,f.type)) with
   |none=>rw[hm,hp]at h; simp at h
   |some l=>
    rw[hm,hp]at h
    simp only[Option.some.injEq]at h
    subst h
    obtain⟨r,h1,_,h2,_⟩:=hQ.row _ _ hm
    simp[me,h1,yj hQ hp,h2]
theorem yk[ab]{q:bJ}{z:AV}{zs:SV T.den}(h:cj q=some z)(hz:(gA z:Option (SV T.den))=some zs):
  ∃ v,q.zero=some v∧v.cells.toList.all (fun v=>ba (.lit v))=true∧RL T H (bL zs) (v.cells.toList.map .lit):=by
 unfold cj at h
 cases hv:q.zero with
 |none=>rw[hv]at h; simp at h
 |some v=>
  rw[hv]at h
  simp only at h
  split at h
  case isFalse=>simp at h
  rename_i hc
  simp only[Option.some.injEq]at h
  refine⟨v,rfl,hc.2.2.1,?_⟩
  have h1:=(uY (H:=H) hz).cells
  rw[←h]at h1
  cases v<;>first|exact h1|(simp[wX]at hc)
theorem H5[ab](hQ:Q.Ok){t:TypeId}{ps:List (Nat×SV T.den)}{qs:List (Nat×AV)}(hp:RP T H ps qs){v:SV T.den}(h:Fk Q t ps=some v):∃ a,ub Q.P t qs=some a∧R T H v a:=by
 unfold Fk at h
 split at h
 case h_2=>simp at h
 rename_i m hm
 obtain⟨q,gQ,dW,gG,_,Gt⟩:=hQ.row _ _ hm
 obtain⟨d,hd,hk⟩:=hQ.kind _ _ hm
 split at h
 ·rename_i fs z Si hz
  rw[Option.bind_eq_some_iff]at hz
  obtain⟨z0,Nn,hz⟩:=hz
  obtain⟨zv,P0,Qt,SS⟩:=yk (H:=H) (Gt _ Nn) hz
  rw[Si]at hk
  cases d<;>simp[ow]at hk
  rename_i DZ
  subst hk
  split at h
  case h_2=>simp at h
  rename_i pl FZ
  rw[Option.map_eq_some_iff]at h
  obtain⟨l,h1,rfl⟩:=h
  obtain⟨l',h2,h3⟩:=RP.fill hp SS h1
  refine⟨.agg l',?_,by simp only[R]; exact⟨l',rfl,h3⟩⟩
  unfold ub
  simp only[hd,gQ,P0,yj hQ FZ,Qt,if_true]
  rw[h2]; rfl
 ·rename_i n e z Si hz
  rw[Option.bind_eq_some_iff]at hz
  obtain⟨z0,Nn,hz⟩:=hz
  obtain⟨zv,P0,Qt,SS⟩:=yk (H:=H) (Gt _ Nn) hz
  rw[Si]at hk
  cases d<;>simp[ow]at hk
  obtain⟨rfl,rfl⟩:=hk
  split at h
  case h_2=>simp at h
  rename_i m2 yM
  obtain⟨q2,wz,_,hr3,_⟩:=hQ.row _ _ yM
  rw[Option.map_eq_some_iff]at h
  obtain⟨l,h1,rfl⟩:=h
  obtain⟨l',h2,h3⟩:=RP.fill hp SS h1
  refine⟨.agg l',?_,by simp only[R]; exact⟨l',rfl,h3⟩⟩
  unfold ub
  simp only[hd,gQ,P0,wz,Qt,if_true,hr3]
  rw[h2]; rfl
 ·simp at h
theorem we[ab]:∀ {ps:List (Nat×SV T.den)} {qs:List (Nat×AV)} {es:List (SV T.den)} {es':List AV},RP T H ps qs→RL T H es es'→RL T H (ft es ps) (gV es' qs)
 |[],[],es,es',_,h=>h
 |(i,v)::ps,(i',a)::qs,es,es',hp,h=>by
  obtain⟨⟨h1,h2⟩,h3⟩:=hp
  simp only at h1 h2
  subst h1
  simp only[ft,gV]
  exact we h3 (aQ.2 ((aQ.1 h).set i h2))
 |[],_::_,_,_,h,_=>h.elim
 |_::_,[],_,_,h,_=>h.elim
theorem RP.snd:∀ {ps:List (Nat×SV T.den)} {qs:List (Nat×AV)},RP T H ps qs→RL T H (ps.map (·.2)) (qs.map (·.2))
 |[],[],_=>by simp[RL]
 |(i,v)::ps,(i',a)::qs,h=>by
  obtain⟨⟨_,h2⟩,h3⟩:=h
  simp only[List.map_cons,RL]
  exact⟨h2,RP.snd h3⟩
 |[],_::_,h=>h.elim
 |_::_,[],h=>h.elim
theorem RP.all{p:Nat×SV T.den→Bool}{q:Nat×AV→Bool}(Mw:∀ i v a,R T H v a→p (i,v)=q (i,a)):∀ {ps:List (Nat×SV T.den)} {qs:List (Nat×AV)},RP T H ps qs→ps.all p=qs.all q
 |[],[],_=>rfl
 |(i,v)::ps,(i',a)::qs,h=>by
  obtain⟨⟨h1,h2⟩,h3⟩:=h
  simp only at h1 h2
  subst h1
  simp only[List.all_cons]
  rw[Mw i v a h2,RP.all Mw h3]
 |[],_::_,h=>h.elim
 |_::_,[],h=>h.elim
theorem eK(hh:RH T H hp){nm:Nat}(hn:nm=H.length∨H[nm]?=some none){o:aB T.den}:fP (bN H nm o) nm o.cur o.len:=by
 refine⟨o,?_,Nat.le_refl _,fun _=>rfl⟩
 unfold bN
 split
 ·rename_i h; subst h; simp
 ·grind
theorem rB:∀ (ps:List (Nat×SV T.den)) (es:List (SV T.den)),(ft es ps).length=es.length
 |[],es=>rfl
 |(i,v)::ps,es=>by simp only[ft]; rw[rB ps]; simp
theorem yl[ab](hQ:Q.Ok)(hh:RH T H hp){nm:Nat}(hn:nm=H.length∨H[nm]?=some none){t:TypeId}{len:Nat}{ps:List (Nat×SV T.den)}{qs:List (Nat×AV)}(SU:RP T H ps qs)
  (h:(pR Q nm t len ps K).run=some r):jm T H hp (.gU (kc Q.P nm t len qs)) K r:=by
 unfold pR at h
 split at h
 case h_2=>simp[Tr.run]at h
 rename_i m hm
 obtain⟨q,gQ,dW,gG,Gt,IP⟩:=hQ.elem hm
 split at h
 case h_2=>simp[Tr.run]at h
 rename_i z hz
 rw[Option.bind_eq_some_iff]at hz
 obtain⟨z0,Nn,hz⟩:=hz
 split at h
 case isFalse=>simp[Tr.run]at h
 rename_i hc
 have nS:=IP _ Nn
 have cC:=we SU (aQ.2 (aw.replicate (uY (H:=H) hz) len))
 refine eJ hh hn (o:=.arr false (av (ps.map (·.2))) false 0 (ft (List.replicate len z) ps)) (a':=.arr false (aZ (qs.map (·.2))) false (gV (List.replicate len z0) qs))
  ⟨_,by rw[RL.closed (RP.snd SU)],cC,fun mY=>oT (k9 fun x hx=>by rw[List.eq_of_mem_replicate hx]; exact tJ hz) mY⟩ (a:=.bq q.size nm len 0 len (some len)) (rd:=[]) ?_ ?_ h
 ·right
  simp only[R]
  have hv:=eK hh hn (o:=.arr false (av (ps.map (·.2))) false 0 (ft (List.replicate len z) ps))
  simp only[aB.cur,aB.len,rB,List.length_replicate]at hv
  exact⟨len,hv,by rw[gG]⟩
 ·have bc:qs.all (fun p=>decide (p.1<len)&&aG q.isAgg q.size p.2)=true:=by
   rw[←RP.all (p:=fun p=>decide (p.1<len)&&kV m.agg m.size p.2) (fun i v a My=>by simp only[dW,gG,R.aG My]) SU]; exact hc.2.2
  refine aE.gU ?_
  unfold kc
  simp only[gQ,nS]
  rw[if_pos ⟨by rw[gG]; exact hc.1,by rw[gG]; exact hc.2.1,bc⟩]
def dw.tO(T:dw)(Q:gP):Prop:=∀ t m z za,Q.ty t=some m→m.zero=some za→T.zero t=some z→T.rp t z za
theorem zd[ab](hQ:Q.Ok)(hZ:T.tO Q)(hh:RH T H hp){nm:Nat}(hn:nm=H.length∨H[nm]?=some none){t:TypeId}{l c:SV T.den}{a b:AV}(hl:RV T H l a)(hc:RV T H c b)
  (h:(sb Q nm t l c K).run=some r):jm T H hp (.gU (eT Q.P nm t a b)) K r:=by
 unfold sb at h
 split at h
 case h_2=>simp[Tr.run]at h
 rename_i e m hm
 obtain⟨hu,mi⟩:=hQ.slice hm
 obtain⟨q,gQ,dW,gG,Gt,IP⟩:=hQ.row _ _ mi
 have yY:aP Q.P t=some q:=by simp[aP,hu,gQ]
 split at h
 case h_2=>simp[Tr.run]at h
 rename_i za z Qu hz D6
 simp only[decide_eq_true_eq]at D6
 have nS:=IP _ Qu
 have Wg:=hZ _ _ _ _ mi Qu hz
 obtain⟨k,n,e1,En,h⟩:=iP h
 obtain⟨k',n',e2,Wh,h⟩:=iP h
 have ha:=qH hl e1 En
 have hb:=qH hc e2 Wh
 obtain⟨hg,h⟩:=aY h
 simp only[Bool.and_eq_true,decide_eq_true_eq]at hg
 have rP:aw (T.rp e) (List.replicate n'.toNat z) (List.replicate n'.toNat za):=aw.replicate Wg _
 have hA:eT Q.P nm t a b=some ⟨.bq q.size nm n'.toNat 0 n.toNat (some n'.toNat),[(nm,.arr false true false (List.replicate n'.toNat za))]⟩:=by
  simp_all[yY,ha,hb,nS,eT]
 have hv:=eK hh hn (o:=.bW false false 0 e (List.replicate n'.toNat z))
 simp only[aB.cur,aB.len,List.length_replicate]at hv
 refine eJ hh hn (o:=.bW false false 0 e (List.replicate n'.toNat z)) ⟨_,rfl,rP⟩ ?_ (aE.gU hA) h
 right
 simp only[R]
 exact⟨n'.toNat,hv,by rw[gG]⟩
theorem ze[ab](hQ:Q.Ok)(hZ:T.tO Q)(hh:RH T H hp){nm:Nat}(hn:nm=H.length∨H[nm]?=some none){t:TypeId}{l:SV T.den}{a:AV}(hl:RV T H l a)
  (h:(sd Q nm t l K).run=some r):jm T H hp (.gU (eT Q.P nm t a a)) K r:=by
 unfold sd at h
 split at h
 case h_2=>simp[Tr.run]at h
 rename_i e m hm
 obtain⟨hu,mi⟩:=hQ.slice hm
 obtain⟨q,gQ,dW,gG,Gt,IP⟩:=hQ.row _ _ mi
 have yY:aP Q.P t=some q:=by simp[aP,hu,gQ]
 split at h
 case h_2=>simp[Tr.run]at h
 rename_i za z Qu hz D6
 simp only[decide_eq_true_eq]at D6
 have nS:=IP _ Qu
 have Wg:=hZ _ _ _ _ mi Qu hz
 obtain⟨k,n,e1,En,h⟩:=iP h
 have ha:=qH hl e1 En
 obtain⟨hg,h⟩:=aY h
 simp only[Bool.and_eq_true,decide_eq_true_eq]at hg
 have rP:aw (T.rp e) (List.replicate n.toNat z) (List.replicate n.toNat za):=aw.replicate Wg _
 have hA:eT Q.P nm t a a=some ⟨.bq q.size nm n.toNat 0 n.toNat (some n.toNat),[(nm,.arr false true false (List.replicate n.toNat za))]⟩:=by
  simp_all[yY,ha,nS,eT]
 have hv:=eK hh hn (o:=.bW false false 0 e (List.replicate n.toNat z))
 simp only[aB.cur,aB.len,List.length_replicate]at hv
 refine eJ hh hn (o:=.bW false false 0 e (List.replicate n.toNat z)) ⟨_,rfl,rP⟩ ?_ (aE.gU hA) h
 right
 simp only[R]
 exact⟨n.toNat,hv,by rw[gG]⟩
theorem H6[ab](hQ:Q.Ok)(hh:RH T H hp){nm:Nat}(hn:nm=H.length∨H[nm]?=some none){t:TypeId}{m:jY}(hm:Q.ty t=some m){z:SV T.den}(hz:m.zero.bind gA=some z)(hs:0<m.size)
  (h:(K (.ref nm 0 0 0) [(nm,.arr false true false 0 [z])] []).run=some r) {ev:Operand→AV} {dst:Option Tmp} {type:TypeId} {pos:String} {after:Array Edge} {guard:Option (Nat×Bool)} :
  jm T H hp (aK Q.P nm ev ⟨dst,.alloc t,type,pos,after,guard⟩) K r:=by
 obtain⟨q,gQ,dW,gG,Gt,IP⟩:=hQ.row _ _ hm
 rw[Option.bind_eq_some_iff]at hz
 obtain⟨z0,Nn,hz⟩:=hz
 have nS:=IP _ Nn
 refine eJ hh hn (o:=.arr false true false 0 [z]) (a':=.arr false true false [z0]) ⟨_,rfl,by simp only[RL]; exact⟨uY hz,trivial⟩,fun _=>by simp only[av,tJ hz,Bool.and_self]⟩ (a:=.ref nm 1 0 0) (rd:=[]) ?_ ?_ h
 ·right
  simp only[R]
  exact⟨1,rfl,eK hh hn (o:=.arr false true false 0 [z])⟩
 ·simp only[aK,gQ,nS]
  rw[if_pos (by omega)]
  exact aE.ret _
def K6(T:dw)(H:ah T.den)(x:Option (SV T.den))(y:Option AV):Prop:=
 match x,y with
 |none,none=>True
 |some v,some a=>RV T H v a
 |_,_=>False
theorem ia[ab]{d:Nat}{x:Option (SV T.den)}{y:Option AV}(K7:K6 T H x y){K:Nat→Tr ρ}(h:(ji d x K).run=some r):∃ n,br d y=some n∧(K n).run=some r:=by
 unfold ji at h
 split at h
 ·cases y with
  |none=>exact⟨d,rfl,h⟩
  |some a=>exact K7.elim
 ·cases y with
  |none=>exact K7.elim
  |some a=>
   obtain⟨k,n,e1,En,h⟩:=iP h
   exact⟨n.toNat,qH K7 e1 En,h⟩
theorem kl[ab]{d:Nat}{v:SV T.den}{y:Option AV}(K7:K6 T H (some v) y){K:Nat→Tr ρ}(h:(fY v K).run=some r):∃ n,br d y=some n∧(K n).run=some r:=
 ia (d:=d) K7 h
theorem sz[ab]{x:Option (SV T.den)}{y z:Option AV}(K7:K6 T H x y)(h:uU x=some z):y=z:=by
 cases x with
 |none=>
  cases y with
  |none=>simpa[uU] using h
  |some a=>exact K7.elim
 |some v=>
  cases y with
  |none=>exact K7.elim
  |some a=>
   simp only[uU,Option.map_eq_some_iff]at h
   obtain⟨b,hb,rfl⟩:=h
   rw[tM K7 hb]
theorem K6.isSome{x:Option (SV T.den)}{y:Option AV}(K7:K6 T H x y):x.isSome=y.isSome:=by
 cases x<;>cases y<;>first|rfl|exact K7.elim
theorem qJ[ab](hh:RH T H hp){esz n c:Nat}{rg:Option (Nat×Nat)}{cap:Option Nat}{a:AV}(ha:R T H (.bq esz n c rg cap) a){off len:Nat}(hr:mR H n c rg=some (off,len)){o:aB T.den}
  (ho:H[n]?=some (some o)):∃ aq,a=.bq esz n aq off len cap∧fP H n c aq∧(Nat.beq c o.cur=true→aq=o.len):=by
 simp only[R]at ha
 obtain⟨aq,hv,ha⟩:=ha
 have ca:Nat.beq c o.cur=true→aq=o.len:=hv.arr hh ho
 cases rg with
 |some q=>
  obtain⟨We,NL⟩:=q
  simp only[mR,Option.some.injEq,Prod.mk.injEq]at hr
  obtain⟨rfl,rfl⟩:=hr
  exact⟨aq,ha,hv,ca⟩
 |none=>
  simp only[mR,ho]at hr
  split at hr
  case isFalse=>simp at hr
  rename_i hc
  simp only[Option.some.injEq,Prod.mk.injEq]at hr
  obtain⟨rfl,rfl⟩:=hr
  have:=ca hc
  subst this
  exact⟨_,ha,hv,fun _=>rfl⟩
theorem sA(hT:T.Ok){t:Nat}{agg:Bool}{size:Nat}(h1:agg=T.agg t)(h2:size=T.size t):∀ {l:List (T.den t)} {l':List AV},aw (T.rp t) l l'→l'.all (aG agg size)=true
 |[],[],_=>rfl
 |_::_,_::_,h=>by
  subst h1; subst h2
  simp only[List.all_cons,Bool.and_eq_true]
  exact⟨hT.ok _ _ _ h.1,sA hT rfl rfl h.2⟩
theorem NW[ab](hT:T.Ok)(hQ:Q.Ok)(hh:RH T H hp){t:TypeId}{x:SV T.den}{a:AV}(hx:RV T H x a){lo hi mx:Option (SV T.den)}{Ro tY OZ:Option AV}(h1:K6 T H lo Ro)(h2:K6 T H hi tY)(h3:K6 T H mx OZ)
  (h:(Qe Q H t x lo hi mx K).run=some r):∃ v b,mZ Q.P t a Ro tY OZ=some b∧RV T H v b∧(K v [] []).run=some r:=by
 unfold Qe at h
 split at h
 ·rename_i v
  have ha:=hx.lit rfl
  subst ha
  split at h
  ·rename_i l hh' m e1 e2 e3
   rw[sz h1 e1,sz h2 e2,sz h3 e3]
   split at h
   ·rename_i w hw
    exact⟨_,_,hw,bn w,h⟩
   ·rename_i hw
    exact⟨_,_,hw,.inr (by simp only[R]),h⟩
   ·simp[Tr.run]at h
  ·simp[Tr.run]at h
 ·rename_i xs
  have ha:=hx.live rfl
  simp only[R]at ha
  obtain⟨l',rfl,hl,D2⟩:=ha
  split at h
  ·rename_i m hm
   obtain⟨q,gQ,dW,gG,_⟩:=hQ.elem hm
   obtain⟨n1,e1,h⟩:=ia h1 h
   obtain⟨n2,e2,h⟩:=ia h2 h
   obtain⟨_,_,h⟩:=cT h
   obtain⟨_,_,h⟩:=cT h
   split at h
   case h_2=>simp[Tr.run]at h
   rename_i hc
   simp only[Bool.and_eq_true,decide_eq_true_eq]at hc
   cases OZ with
   |some _=>exact h3.elim
   |none=>
    refine⟨_,.sl ((l'.drop n1).take (n2-n1)),?_,?_,h⟩
    ·have bc:l'.all (aG q.isAgg q.size)=true:=by
      rw[dW,gG,←RL.all (fun _ _=>R.aG) hl]; exact hc.2
     simp only[mZ,gQ,e1]
     rw[show br l'.length tY=some n2 by rw[←hl.length]; exact e2]
     simp only
     rw[if_pos ⟨hc.1.1,by rw[←hl.length]; exact hc.1.2,bc⟩]
    ·right
     simp only[R]
     exact⟨_,rfl,aQ.2 (((aQ.1 hl).drop n1).take (n2-n1)),mA D2 _ _⟩
  ·simp[Tr.run]at h
 ·rename_i t' l
  split at h
  ·rename_i m hm
   obtain⟨q,gQ,dW,gG,_⟩:=hQ.elem hm
   split at h
   case h_2=>simp[Tr.run]at h
   rename_i hc
   simp only[Bool.and_eq_true,decide_eq_true_eq]at hc
   have ha:=hx.live rfl
   cases OZ with
   |some _=>exact h3.elim
   |none=>
    have key:∀ n1 n2,br 0 Ro=some n1→br l.length tY=some n2→n1≤n2→n2≤l.length →
      ∃ b,mZ Q.P t a Ro tY none=some b∧RV T H (.jt t' ((l.drop n1).take (n2-n1))) b:=by
     intro n1 n2 e1 e2 hle yV
     simp only[R]at ha
     rcases ha with ⟨l',rfl,hl⟩|⟨rfl,rfl⟩
     ·refine⟨.sl ((l'.drop n1).take (n2-n1)),?_,?_⟩
      ·simp only[mZ,gQ,e1]
       rw[show br l'.length tY=some n2 by rw[←hl.length]; exact e2]
       simp only
       rw[if_pos ⟨hle,by rw[←hl.length]; exact yV,sA hT (by rw[dW]; exact hc.1) (by rw[gG]; exact hc.2) hl⟩]
      ·right
       simp only[R]
       exact .inl ⟨_,rfl,(hl.drop n1).take (n2-n1)⟩
     ·simp only[List.length_nil,Nat.le_zero]at yV
      subst yV
      have:n1=0:=by omega
      subst this
      refine⟨.lit cK,?_,?_⟩
      ·simp only[List.length_nil]at e2
       simp only[mZ,gQ,e1,e2]
       rfl
      ·right
       show R T H (.jt t' _) (.lit cK)
       unfold R
       exact .inr ⟨by simp,rfl⟩
    cases lo with
    |none=>
     cases Ro with
     |some _=>exact h1.elim
     |none=>
      cases hi with
      |none=>
       cases tY with
       |some _=>exact h2.elim
       |none=>
        obtain⟨b,hb,hr⟩:=key 0 l.length rfl rfl (Nat.zero_le _) (Nat.le_refl _)
        simp only[List.drop_zero,Nat.sub_zero,List.take_length]at hr
        exact⟨_,b,hb,hr,h⟩
      |some hi=>
       obtain⟨n2,e2,h⟩:=kl (d:=l.length) h2 h
       obtain⟨hg,h⟩:=aY h
       simp only[decide_eq_true_eq]at hg
       obtain⟨b,hb,hr⟩:=key 0 n2 rfl e2 (Nat.zero_le _) hg
       simp only[List.drop_zero,Nat.sub_zero]at hr
       exact⟨_,b,hb,hr,h⟩
    |some lo=>
     cases hi with
     |none=>
      cases tY with
      |some _=>exact h2.elim
      |none=>
       obtain⟨n1,e1,h⟩:=kl (d:=0) h1 h
       obtain⟨hg,h⟩:=aY h
       simp only[decide_eq_true_eq]at hg
       obtain⟨b,hb,hr⟩:=key n1 l.length e1 rfl hg (Nat.le_refl _)
       rw[List.take_of_length_le (by simp)]at hr
       exact⟨_,b,hb,hr,h⟩
     |some hi=>
      obtain⟨n1,e1,h⟩:=kl (d:=0) h1 h
      obtain⟨n2,e2,h⟩:=kl (d:=l.length) h2 h
      obtain⟨hg,h⟩:=aY h
      simp only[Bool.and_eq_true,decide_eq_true_eq]at hg
      obtain⟨b,hb,hr⟩:=key n1 n2 e1 e2 hg.1 hg.2
      exact⟨_,b,hb,hr,h⟩
  ·rename_i m mx hm
   obtain⟨q,gQ,dW,gG,_⟩:=hQ.elem hm
   split at h
   case h_2=>simp[Tr.run]at h
   rename_i hi hc
   simp only[Bool.and_eq_true,decide_eq_true_eq]at hc
   cases tY with
   |none=>exact h2.elim
   |some SW=>
   cases OZ with
   |none=>exact h3.elim
   |some UE=>
   have ha:=hx.live rfl
   simp only[R]at ha
   split at h
   ·rename_i hz
    simp only[Bool.and_eq_true]at hz
    obtain⟨P0,Qt,SS⟩:=hz
    cases lo with
    |some _=>simp at P0
    |none=>
    cases Ro with
    |some _=>exact h1.elim
    |none=>
    have z0:∀ {v:SV T.den} {a:AV},Us v=true→RV T H v a→asNat a=some 0:=by
     intro v a hv hr
     unfold Us at hv
     split at hv
     ·simp only[decide_eq_true_eq]at hv
      subst hv
      have:=hr.live rfl
      simp only[R]at this
      subst this
      rfl
     ·simp at hv
    have e2:=z0 Qt h2
    have e3:=z0 SS h3
    rcases ha with ⟨l',rfl,hl⟩|⟨rfl,rfl⟩
    ·have bc:=sA hT (agg:=q.isAgg) (size:=q.size) (by rw[dW]; exact hc.1) (by rw[gG]; exact hc.2) hl
     refine⟨_,.nz,?_,.inr (by simp only[R]),h⟩
     simp only[mZ,gQ,br,e2,e3]
     rw[if_pos ⟨Nat.zero_le _,Nat.zero_le _,Nat.zero_le _,bc⟩]
     rfl
    ·refine⟨_,.nz,?_,.inr (by simp only[R]),h⟩
     simp only[mZ,gQ,br,e2,e3,Option.isSome_some,Option.isNone_some,Bool.and_false,Bool.false_eq_true,if_false]
   obtain⟨n1,e1,h⟩:=ia h1 h
   obtain⟨n2,e2,h⟩:=kl (d:=l.length) h2 h
   obtain⟨n3,e3,h⟩:=kl (d:=l.length) h3 h
   obtain⟨hg,h⟩:=aY h
   simp only[Bool.and_eq_true,decide_eq_true_eq]at hg
   have Wi:asNat SW=some n2:=e2
   have UF:asNat UE=some n3:=e3
   have f2:∀ d,br d (some SW)=some n2:=fun _=>Wi
   rcases ha with ⟨l',rfl,hl⟩|⟨rfl,rfl⟩
   ·have hlen:=hl.length
    have bc:=sA hT (agg:=q.isAgg) (size:=q.size) (by rw[dW]; exact hc.1) (by rw[gG]; exact hc.2) hl
    have dN:l'.isEmpty=false:=by
     grind
    have Nh:n3≠0:=by omega
    refine⟨_,.pa ((l'.drop n1).take (n2-n1)) (n3-n1),?_,.inr (by simp only[R]; exact .inl ⟨by cases l with
      |nil=>exfalso; cases l' with
       |nil=>simp at dN
       |cons=>simp at hlen
      |cons=>rfl,_,rfl,(hl.drop n1).take (n2-n1)⟩),h⟩
    simp only[mZ,gQ,e1,f2,UF]
    rw[if_pos ⟨hg.1.1.1,hg.1.1.2,by rw[←hlen]; exact hg.1.2,bc⟩,if_neg Nh,dN]
    rfl
   ·exfalso
    simp only[List.length_nil]at hg
    omega
  ·simp[Tr.run]at h
 ·rename_i esz n c rg cap
  have ha:=hx.live rfl
  split at h
  ·rename_i m off len o hm hr ho
   obtain⟨q,gQ,dW,gG,_⟩:=hQ.elem hm
   split at h
   case h_2=>simp[Tr.run]at h
   rename_i hc
   simp only[Bool.and_eq_true,decide_eq_true_eq]at hc
   obtain⟨aq,rfl,hv,ca⟩:=qJ hh ha hr ho
   have ca:=ca hc.1
   obtain⟨n1,e1,h⟩:=ia h1 h
   obtain⟨n2,e2,h⟩:=ia h2 h
   obtain⟨hg,h⟩:=aY h
   simp only[Bool.and_eq_true,decide_eq_true_eq]at hg
   cases OZ with
   |some _=>exact h3.elim
   |none=>
    refine⟨_,.bq esz n aq (off+n1) (n2-n1) (cap.map (·-n1)),?_,?_,h⟩
    ·simp only[mZ,gQ,e1,e2]
     rw[if_pos ⟨hg.1.1,by rw[ca]; exact hg.1.2,by rw[ca]; exact hg.2,by rw[gG]; exact hc.2⟩]
    ·right
     simp only[R]
     exact⟨aq,hv,rfl⟩
  ·rename_i m mx off len o hm hr ho
   obtain⟨q,gQ,dW,gG,_⟩:=hQ.elem hm
   split at h
   case h_2=>simp[Tr.run]at h
   rename_i hi hc
   simp only[Bool.and_eq_true,decide_eq_true_eq]at hc
   cases tY with
   |none=>exact h2.elim
   |some SW=>
   cases OZ with
   |none=>exact h3.elim
   |some UE=>
   obtain⟨aq,rfl,hv,ca⟩:=qJ hh ha hr ho
   have ca:=ca hc.1
   obtain⟨n1,e1,h⟩:=ia h1 h
   obtain⟨n2,e2,h⟩:=kl (d:=len) h2 h
   obtain⟨n3,e3,h⟩:=kl (d:=len) h3 h
   obtain⟨hg,h⟩:=aY h
   simp only[Bool.and_eq_true,decide_eq_true_eq]at hg
   have Wi:asNat SW=some n2:=e2
   have UF:asNat UE=some n3:=e3
   have f2:∀ d,br d (some SW)=some n2:=fun _=>Wi
   have f3:∀ d,br d (some UE)=some n3:=fun _=>UF
   refine⟨_,.bq esz n aq (off+n1) (n2-n1) (some (n3-n1)),?_,?_,h⟩
   ·simp only[mZ,gQ,e1,f2,UF]
    rw[if_pos ⟨hg.1.1.1,hg.1.1.2,by rw[ca]; exact hg.1.2,by rw[ca]; exact hg.2,by rw[gG]; exact hc.2⟩]
   ·right
    simp only[R]
    exact⟨aq,hv,rfl⟩
  ·simp[Tr.run]at h
 ·rename_i n' c k' j
  have ha:=hx.live rfl
  simp only[R]at ha
  obtain⟨aq,rfl,hv⟩:=ha
  split at h
  case h_2=>simp[Tr.run]at h
  rename_i len m hm
  obtain⟨q,gQ,dW,gG⟩:=hQ.Di hm
  cases OZ with
  |some _=>exact h3.elim
  |none=>
   obtain⟨n1,e1,h⟩:=ia h1 h
   obtain⟨n2,e2,h⟩:=ia h2 h
   obtain⟨_,hl,h⟩:=cT h
   obtain⟨_,rf,h⟩:=cT h
   split at h
   case h_2=>simp[Tr.run]at h
   rename_i hle
   simp only[decide_eq_true_eq]at hle
   refine⟨_,.iU n' aq k' (j+n1*q.size) (n2-n1) (len-n1),?_,.inr (by simp only[R]; exact⟨aq,by rw[gG],hv⟩),h⟩
   simp only[mZ,gQ,e1,e2]
   rw[if_pos ⟨hle,by omega,by omega⟩]
 ·simp[Tr.run]at h
theorem u4[ab](hT:T.Ok){t:Nat}{x:T.den t}{a:AV}(h:T.rp t x a):aD (T.up t x)=true:=by
 rw[R.closed (hT.up t x a [] h)]
 exact hT.closed _ _ _ h
theorem zf[ab](hT:T.Ok)(hQ:Q.Ok)(hh:RH T H hp){t:TypeId}{x ix:SV T.den}{a b:AV}(hx:RV T H x a)(hi:RV T H ix b){tF:Bool}(h:(se Q tF H t x ix K).run=some r):
  ∃ v c,eU Q.P t a b=some c∧RV T H v c∧(K v [] []).run=some r:=by
 unfold se at h
 obtain⟨k,n,e1,En,h⟩:=iP h
 have hb:=qH hi e1 En
 unfold eU
 rw[hb]
 simp only
 split at h
 ·rename_i xs
  have ha:=hx.live rfl
  simp only[R]at ha
  obtain⟨l',rfl,hl,D2⟩:=ha
  split at h
  case h_2=>simp[Tr.run]at h
  rename_i m hm
  obtain⟨q,gQ,dW,gG,_⟩:=hQ.elem hm
  obtain⟨_,_,h⟩:=cT h
  split at h
  case h_2=>simp[Tr.run]at h
  rename_i e he
  split at h
  case h_2=>simp[Tr.run]at h
  rename_i bM
  obtain⟨e',Gc,hr⟩:=aw.get (aQ.1 hl) he
  refine⟨_,.bh e' 0,?_,.inr (by simp only[R]; exact⟨e',rfl,hr,jN D2 (List.mem_of_getElem? he)⟩),h⟩
  simp only[gQ,Gc]
  rw[if_pos (by rw[dW,gG,←R.aG hr]; exact bM)]
 ·rename_i t' l
  have ha:=hx.live rfl
  split at h
  case h_2=>simp[Tr.run]at h
  rename_i m hm
  obtain⟨q,gQ,dW,gG,_⟩:=hQ.elem hm
  split at h
  case h_2=>simp[Tr.run]at h
  rename_i hc
  simp only[Bool.and_eq_true,decide_eq_true_eq]at hc
  obtain⟨y,hy,h⟩:=bind_some h
  rw[GO hT]at h
  simp only[R]at ha
  rcases ha with ⟨l',rfl,hl⟩|⟨rfl,_⟩
  ·obtain⟨e',Gc,hr⟩:=aw.get hl hy
   refine⟨_,.bh e' 0,?_,.inr (by simp only[R]; exact⟨e',rfl,hT.up _ _ _ H hr,u4 hT hr⟩),h⟩
   simp only[gQ,Gc]
   rw[if_pos (by rw[dW,gG,hc.1,hc.2]; exact hT.ok _ _ _ hr)]
  ·simp at hy
 ·rename_i esz n' c rg cap _
  have ha:=hx.live rfl
  split at h
  case h_2=>simp[Tr.run]at h
  rename_i m hm
  obtain⟨q,gQ,dW,gG,_⟩:=hQ.elem hm
  split at h
  ·rename_i off len g cl f cu es hc hr ho
   simp only[Bool.and_eq_true,decide_eq_true_eq]at hc
   obtain⟨aq,rfl,hv,_⟩:=qJ hh ha hr ho
   obtain⟨_,bQ,h⟩:=cT h
   refine⟨_,.ref n' aq (off+n.toNat) 0,?_,.inr (by simp only[R]; exact⟨aq,rfl,hv⟩),h⟩
   simp only[gQ]
   rw[if_pos ⟨by omega,by rw[gG]; exact hc.1,by rw[gG]; exact hc.2⟩]
  ·rename_i off len g f cu t' l hc hr ho
   simp only[Bool.and_eq_true,decide_eq_true_eq]at hc
   obtain⟨aq,rfl,hv,_⟩:=qJ hh ha hr ho
   obtain⟨bQ,h⟩:=aY h
   simp only[decide_eq_true_eq]at bQ
   refine⟨_,.ref n' aq (off+n.toNat) 0,?_,.inr (by simp only[R]; exact⟨aq,rfl,hv⟩),h⟩
   simp only[gQ]
   rw[if_pos ⟨bQ,by rw[gG]; exact hc.1,by rw[gG]; exact hc.2⟩]
  ·simp[Tr.run]at h
 ·rename_i n' c k' j len cap _
  have ha:=hx.live rfl
  simp only[R]at ha
  obtain⟨aq,rfl,hv⟩:=ha
  split at h
  case h_2=>simp[Tr.run]at h
  rename_i m hm
  obtain⟨q,gQ,dW,gG,_⟩:=hQ.elem hm
  obtain⟨_,bQ,h⟩:=cT h
  refine⟨_,.ref n' aq k' (j+n.toNat*q.size),?_,.inr (by simp only[R]; exact⟨aq,by rw[gG],hv⟩),h⟩
  simp only[gQ]
  rw[if_pos (by omega)]
 ·rename_i n' c k' j _
  have ha:=hx.live rfl
  simp only[R]at ha
  obtain⟨aq,rfl,hv⟩:=ha
  split at h
  case h_2=>simp[Tr.run]at h
  rename_i len m hm
  obtain⟨q,gQ,dW,gG⟩:=hQ.Di hm
  split at h
  ·obtain⟨bQ,h⟩:=aY h
   simp only[decide_eq_true_eq]at bQ
   refine⟨_,.ref n' aq k' (j+n.toNat*q.size),?_,.inr (by simp only[R]; exact⟨.ref n' aq k' j,⟨aq,rfl,hv⟩,bQ,.inl ⟨_,_,_,_,rfl,by rw[gG]⟩⟩),h⟩
   simp only[gQ]
   rw[if_pos (by omega)]
  obtain⟨_,bQ,h⟩:=cT h
  refine⟨_,.ref n' aq k' (j+n.toNat*q.size),?_,.inr (by simp only[R]; exact⟨aq,by rw[gG],hv⟩),h⟩
  simp only[gQ]
  rw[if_pos (by omega)]
 ·rename_i e j _
  have ha:=hx.live rfl
  simp only[R]at ha
  obtain⟨e',rfl,hr,YA⟩:=ha
  split at h
  case h_2=>simp[Tr.run]at h
  rename_i len m hm
  obtain⟨q,gQ,dW,gG⟩:=hQ.Di hm
  split at h
  ·obtain⟨bQ,h⟩:=aY h
   simp only[decide_eq_true_eq]at bQ
   refine⟨_,.bh e' (j+n.toNat*q.size),?_,.inr (by simp only[R]; exact⟨.bh e' j,⟨e',rfl,hr,YA⟩,bQ,.inr ⟨_,_,rfl,by rw[gG]⟩⟩),h⟩
   simp only[gQ]
   rw[if_pos (by omega)]
  obtain⟨_,bQ,h⟩:=cT h
  refine⟨_,.bh e' (j+n.toNat*q.size),?_,.inr (by simp only[R]; exact⟨e',by rw[gG],hr,YA⟩),h⟩
  simp only[gQ]
  rw[if_pos (by omega)]
 ·simp[Tr.run]at h
theorem H7[ab](hQ:Q.Ok){t:TypeId}{x ix:SV T.den}{a b:AV}(hx:RV T H x a)(hi:RV T H ix b){tF:Bool}(h:(Fl Q tF t x ix K).run=some r):
  ∃ v c,uc Q.P t a b=some c∧RV T H v c∧(K v [] []).run=some r:=by
 unfold Fl at h
 split at h
 ·have ha:=hx.lit rfl
  subst ha
  split at h
  ·rename_i i tY
   rw[tM hi tY]
   obtain⟨w,hw,hk⟩:=hY h
   exact⟨_,_,hw,bn w,hk⟩
  ·simp[Tr.run]at h
 ·rename_i l
  have ha:=hx.live rfl
  have Ot:=ha
  simp only[R]at ha
  obtain⟨l',rfl,hl⟩:=ha
  split at h
  case h_2=>simp[Tr.run]at h
  rename_i n m hm
  obtain⟨q,gQ,dW,gG⟩:=hQ.Di hm
  obtain⟨k,n',e1,En,h⟩:=iP h
  have hb:=qH hi e1 En
  split at h
  ·rename_i y hs K5
   simp only[Bool.and_eq_true,Bool.not_eq_true']at hs
   obtain⟨bQ,h⟩:=aY h
   simp only[decide_eq_true_eq]at bQ
   obtain⟨xs,zA,K5⟩:=Option.bind_eq_some_iff.1 K5
   obtain⟨g1,g2⟩:=kb zA
   have hg:=List.getElem?_eq_getElem (by omega:n'.toNat<xs.length)
   have hy:=g2 _ _ hg
   rw[←Dc K5 hg,Nat.zero_add,Nat.mul_one]at hy
   obtain⟨c,hc,hr⟩:=R.part Ot hy
   refine⟨y,c,?_,.inr hr,h⟩
   simp only[uc,gQ,hb]
   rw[if_pos (by omega),dW,gG,hs.1.2,Nat.eq_of_beq_eq_true hs.2,Nat.mul_one]
   exact hc
  obtain⟨_,bQ,h⟩:=cT h
  obtain⟨v,hv,hk⟩:=lV h
  rw[←dW,←gG]at hv
  obtain⟨c,hc,hr⟩:=R.part Ot hv
  refine⟨v,c,?_,.inr hr,hk⟩
  simp only[uc,gQ,hb]
  rw[if_pos (by omega)]
  exact hc
 ·simp[Tr.run]at h
end
end Go.PI
end
section
/- PS, part I: append, and the builtins. -/
namespace Go.PI
variable {T:dw}{ρ:Type}
section
variable {H:ah T.den}{hp:ag}{K:EK T ρ}{r:ρ}{Q:gP}
def zg(T:dw)(H:ah T.den)(y:Src T.den)(ys:List AV)(yc:Bool):Prop:=
 match y with
 |.lM l cl=>RL T H l ys∧yc=cl∧(cl=true→av l=true)
 |.y9 t l=>aw (T.rp t) l ys∧yc=true
theorem zg.len[ab]{y:Src T.den}{ys:List AV}{yc:Bool}(h:zg T H y ys yc):y.len=ys.length:=by
 cases y with
 |lM l cl=>exact h.1.length
 |y9 t l=>exact h.1.length
theorem GS[ab](hQ:Q.Ok)(hh:RH T H hp){q:bJ}{xt:TypeId}{x:SV T.den}{a:AV}(hx:RV T H x a){K:Src T.den→List Nat→Tr ρ}(h:(NH Q H xt x K).run=some r):
  ∃ y rd ys yc,aE hp (wq Q.P q xt a) (ys,yc) rd∧zg T H y ys yc∧(K y rd).run=some r:=by
 unfold NH at h
 split at h
 case h_2=>simp[Tr.run]at h
 rename_i hs
 have hs:=hQ.NR hs
 unfold wq
 rw[hs]
 simp only
 split at h
 ·have ha:=hx.lit rfl
  subst ha
  exact⟨.lM [] true,_,[],true,aE.pure _,⟨by simp[RL],rfl,fun _=>rfl⟩,h⟩
 ·have ha:=hx.live rfl
  simp only[R]at ha
  obtain⟨l',rfl,hl,D2⟩:=ha
  exact⟨.lM _ true,_,l',true,aE.pure _,⟨hl,rfl,fun _=>D2⟩,h⟩
 ·have ha:=hx.live rfl
  simp only[R]at ha
  rcases ha with ⟨l',rfl,hl⟩|⟨rfl,rfl⟩
  ·exact⟨.y9 _ _,_,l',true,aE.pure _,⟨hl,rfl⟩,h⟩
  ·exact⟨.y9 _ _,_,[],true,aE.pure _,⟨(show aw (T.rp _) [] [] from trivial),rfl⟩,h⟩
 ·rename_i esz n c rg cap
  have ha:=hx.live rfl
  simp only[R]at ha
  obtain⟨aq,hv,ha⟩:=ha
  split at h
  ·rename_i g cl f cur es ho
   obtain⟨o,c6,dD⟩:=hh.obj ho
   obtain⟨es',rfl,cC,qX⟩:=dD
   split at h
   case h_2=>simp[Tr.run]at h
   rename_i hc
   have ca:=hv.arr hh ho hc
   simp only[aB.len]at ca
   have hl:=cC.length
   split at h
   ·simp only at ha
    subst ha
    refine⟨.lM es cl,_,es',cl,?_,⟨cC,rfl,qX⟩,h⟩
    simp only[fR]
    refine aE.mono (aE.bind (aE.arr c6 (by omega)) ?_) (rd:=[n]++[]) (fun _ h=>by simpa using h)
    simp only
    rw[if_pos (by omega)]
    simp only[List.drop_zero]
    rw[List.take_of_length_le (by omega)]
    exact aE.pure _
   ·rename_i off len
    simp only at ha
    subst ha
    split at h
    case isFalse=>simp[Tr.run]at h
    rename_i hle
    refine⟨.lM _ cl,_,(es'.drop off).take len,cl,?_,⟨aQ.2 (((aQ.1 cC).drop off).take len),rfl,fun mY=>mA (qX mY) _ _⟩,h⟩
    simp only[fR]
    refine aE.mono (aE.bind (aE.arr c6 (by omega)) ?_) (rd:=[n]++[]) (fun _ h=>by simpa using h)
    simp only
    rw[if_pos (by omega)]
    exact aE.pure _
  ·rename_i g f cur t l ho
   obtain⟨o,c6,dD⟩:=hh.obj ho
   obtain⟨es',rfl,cC⟩:=dD
   split at h
   case h_2=>simp[Tr.run]at h
   rename_i hc
   have ca:=hv.arr hh ho hc
   simp only[aB.len]at ca
   have hl:=cC.length
   split at h
   ·simp only at ha
    subst ha
    refine⟨.y9 t l,_,es',true,?_,⟨cC,rfl⟩,h⟩
    simp only[fR]
    refine aE.mono (aE.bind (aE.arr c6 (by omega)) ?_) (rd:=[n]++[]) (fun _ h=>by simpa using h)
    simp only
    rw[if_pos (by omega)]
    simp only[List.drop_zero]
    rw[List.take_of_length_le (by omega)]
    exact aE.pure _
   ·rename_i off len
    simp only at ha
    subst ha
    obtain⟨hle,h⟩:=aY h
    simp only[decide_eq_true_eq]at hle
    refine⟨.y9 t _,_,(es'.drop off).take len,true,?_,⟨(cC.drop off).take len,rfl⟩,h⟩
    simp only[fR]
    refine aE.mono (aE.bind (aE.arr c6 (by omega)) ?_) (rd:=[n]++[]) (fun _ h=>by simpa using h)
    simp only
    rw[if_pos (by omega)]
    exact aE.pure _
  ·simp[Tr.run]at h
 ·simp[Tr.run]at h
theorem zg.xZ[ab](hT:T.Ok){y:Src T.den}{ys:List AV}{yc:Bool}(h:zg T H y ys yc){m:jY}{q:bJ}(h1:q.isAgg=m.agg)(h2:q.size=m.size)(bM:y.ok T m=true):ys.all (aG q.isAgg q.size)=true:=by
 cases y with
 |lM l cl=>
  rw[h1,h2,←RL.all (fun _ _=>R.aG) h.1]
  exact bM
 |y9 t l=>
  simp only[Src.ok,Bool.and_eq_true,decide_eq_true_eq]at bM
  exact sA hT (by rw[h1,bM.1]) (by rw[h2,bM.2]) h.1
theorem gD[ab]{y:Src T.den}{ys:List AV}{yc:Bool}(hy:zg T H y ys yc){a b:Tr ρ}(h:(oi T y a b).run=some r):(ys.isEmpty=true∧a.run=some r)∨(ys.isEmpty=false∧b.run=some r):=by
 have hl:=hy.len
 unfold oi at h
 split at h
 ·grind[Src.len]
 ·rename_i t l
  rcases fu h with ⟨he,h⟩|⟨he,h⟩
  ·grind[Src.len]
  ·grind[Src.len]
theorem p5(hT:T.Ok){t:Nat}:∀ {l:List (SV T.den)} {m:List AV} {xs:List (T.den t)},RL T H l m→oP T t l=some xs→aw (T.rp t) xs m
 |[],[],xs,_,h=>by simp[oP]at h; subst h; trivial
 |v::vs,a::as,xs,hr,h=>by
  simp only[RL]at hr
  simp only[oP,Option.bind_eq_some_iff,Option.map_eq_some_iff]at h
  obtain⟨x,h1,ys,h2,rfl⟩:=h
  exact⟨hT.dn _ _ _ _ H h1 hr.1,p5 hT hr.2 h2⟩
 |[],_::_,_,h,_=>by simp[RL]at h
 |_::_,[],_,h,_=>by simp[RL]at h
theorem ym{t t':Nat}(h:t=t'){l:List (T.den t)}{m:List AV}(hl:aw (T.rp t) l m):aw (T.rp t') (z9 h l) m:=by subst h; exact hl
theorem Ai{den:Nat→Type}{t t':Nat}(h:t=t')(l:List (den t)):(z9 h l).length=l.length:=by subst h; rfl
theorem u6[ab](hT:T.Ok){cur:Nat}{o o':aB T.den}{y:Src T.den}{g c f:Bool}{es ys:List AV}{yc:Bool}(ho:RO T H o (.arr g c f es))(hy:zg T H y ys yc)(h:pS T cur o y=some o'):
  o'.cur=cur∧o'.len=o.len+y.len∧RO T H o' (.arr true (c&&yc) f (es++ys)):=by
 unfold pS at h
 split at h
 ·rename_i cl f' cu Wj UG Yi
  simp only[Option.some.injEq]at h
  subst h
  obtain⟨es',e,cC,qX⟩:=ho
  simp only[aN.arr.injEq]at e
  obtain⟨rfl,rfl,rfl,rfl⟩:=e
  obtain⟨yn,rfl,SX⟩:=hy
  exact⟨rfl,by simp[aB.len,Src.len],_,rfl,aQ.2 ((aQ.1 cC).append (aQ.1 yn)),fun mY=>by simp only[Bool.and_eq_true]at mY; exact Fq (qX mY.1) (SX mY.2)⟩
 ·rename_i f' cu Wj t l
  rw[Option.map_eq_some_iff]at h
  obtain⟨l0,h1,rfl⟩:=h
  obtain⟨es',e,cC,_⟩:=ho
  simp only[aN.arr.injEq]at e
  obtain⟨rfl,rfl,rfl,rfl⟩:=e
  obtain⟨yn,rfl⟩:=hy
  have h2:=p5 hT cC h1
  refine⟨rfl,?_,_,rfl,h2.append yn⟩
  simp[aB.len,Src.len,h2.length,cC.length]
 ·rename_i f' cu t l UG
  rw[Option.map_eq_some_iff]at h
  obtain⟨l0,h1,rfl⟩:=h
  obtain⟨es',e,cC⟩:=ho
  simp only[aN.arr.injEq]at e
  obtain⟨rfl,rfl,rfl,rfl⟩:=e
  obtain⟨yn,rfl,_⟩:=hy
  have h2:=p5 hT yn h1
  refine⟨rfl,?_,_,rfl,cC.append h2⟩
  simp[aB.len,Src.len,h2.length,yn.length]
 ·rename_i f' cu t l t' l2
  split at h
  case isFalse=>simp at h
  rename_i ht
  simp only[Option.some.injEq]at h
  subst h
  obtain⟨es',e,cC⟩:=ho
  simp only[aN.arr.injEq]at e
  obtain⟨rfl,rfl,rfl,rfl⟩:=e
  obtain⟨yn,rfl⟩:=hy
  refine⟨rfl,?_,_,rfl,cC.append (ym ht yn)⟩
  simp[aB.len,Src.len,Ai]
 ·simp at h
theorem Dj{y:Src T.den}{ys:List AV}{yc:Bool}(hy:zg T H y ys yc):(x5 y).cur=0∧(x5 y).len=y.len∧RO T H (x5 y) (.arr true yc false ys):=by
 cases y with
 |lM l cl=>obtain⟨h1,rfl,h2⟩:=hy; exact⟨rfl,rfl,_,rfl,h1,h2⟩
 |y9 t l=>obtain⟨h1,rfl⟩:=hy; exact⟨rfl,rfl,_,rfl,h1⟩
theorem K8[ab](hT:T.Ok){o:aB T.den}{g c f:Bool}{es:List AV}(ho:RO T H o (.arr g c f es)){m:jY}{q:bJ}(h1:q.isAgg=m.agg)(h2:q.size=m.size)(bM:o.xZ T m=true):es.all (aG q.isAgg q.size)=true:=by
 cases o with
 |arr g' cl f' cu Wj=>
  obtain⟨es',e,cC,_⟩:=ho
  simp only[aN.arr.injEq]at e
  obtain⟨rfl,rfl,rfl,rfl⟩:=e
  rw[h1,h2,←RL.all (fun _ _=>R.aG) cC]
  exact bM
 |bW g' f' cu t l=>
  obtain⟨es',e,cC⟩:=ho
  simp only[aN.arr.injEq]at e
  obtain⟨rfl,rfl,rfl,rfl⟩:=e
  simp only[aB.xZ,Bool.and_eq_true,decide_eq_true_eq]at bM
  exact sA hT (by rw[h1,bM.1]) (by rw[h2,bM.2]) cC
 |_=>simp[aB.xZ]at bM
theorem yp{cur:Nat}{o o':aB T.den}{y:Src T.den}(h:pS T cur o y=some o'):o.yh=true:=by
 cases o<;>first|rfl|(cases y<;>simp[pS]at h)
theorem nJ{o:aB T.den}(h:o.yh=true):o.isRec=false:=by cases o<;>first|rfl|simp[aB.yh]at h
theorem p6:∀ (ys es:List AV) (i:Nat),i+ys.length≤es.length→bw es i ys=es.take i++(ys++es.drop (i+ys.length))
 |[],es,i,_=>by simp[bw]
 |y::ys,es,i,h=>by
  simp only[List.length_cons]at h
  simp only[bw]
  rw[p6 ys (es.set i y) (i+1) (by simp; omega)]
  have e1:(es.set i y).take (i+1)=es.take i++[y]:=by
   rw[List.take_succ_eq_append_getElem (by simp; omega),List.take_set_of_le (Nat.le_refl i)]
   simp
  have e2:(es.set i y).drop (i+1+ys.length)=es.drop (i+(ys.length+1)):=by
   rw[List.drop_set_of_lt (by omega)]
   congr 1; omega
  rw[e1,e2]
  simp
theorem Aj{α β:Type}{P:α→β→Prop}{l l2:List α}{m m2:List β}(h:aw P l m)(h2:aw P l2 m2)(i:Nat):aw P (HU l i l2) (m.take i++(m2++m.drop (i+m2.length))):=by
 unfold HU
 rw[h2.length]
 exact(h.take i).append (h2.append (h.drop _))
theorem u7[ab](hT:T.Ok){i:Nat}{o o':aB T.den}{y:Src T.den}{ao:aN}{ys:List AV}{yc:Bool}(ho:RO T H o ao)(hy:zg T H y ys yc)(hi:i+y.len≤o.len)(h:uV T o i y=some o'):
  o.yh=true∧o'.cur=o.cur∧o'.len=o.len∧∃ es,ao=.arr o.flags.1 o.flags.2.1 o.flags.2.2 es∧RO T H o' (.arr o.flags.1 (o.flags.2.1&&yc) o.flags.2.2 (bw es i ys)):=by
 have hlen:=hy.len
 unfold uV at h
 split at h
 ·rename_i g f cu t l t' l2
  split at h
  case isFalse=>simp at h
  rename_i ht
  simp only[Option.some.injEq]at h
  subst h
  obtain⟨es',rfl,cC⟩:=ho
  obtain⟨yn,rfl⟩:=hy
  have hl:=cC.length
  simp only[aB.len,Src.len]at hi hlen
  refine⟨rfl,rfl,?_,es',rfl,_,rfl,?_⟩
  ·simp[aB.len,HU,Ai]; omega
  ·rw[p6 _ _ _ (by omega)]
   exact Aj cC (ym ht yn) i
 ·rename_i g f cu t l UG
  rw[Option.map_eq_some_iff]at h
  obtain⟨l0,h1,rfl⟩:=h
  obtain⟨es',rfl,cC⟩:=ho
  obtain⟨yn,rfl,_⟩:=hy
  have h2:=p5 hT yn h1
  have hl:=cC.length
  have rf:=h2.length
  simp only[aB.len,Src.len]at hi hlen
  refine⟨rfl,rfl,?_,es',rfl,_,rfl,?_⟩
  ·simp[aB.len,HU]; omega
  ·rw[p6 _ _ _ (by omega)]
   exact Aj cC h2 i
 ·simp at h
def sB(q:bJ)(nm:Nat)(a:AV)(ys:List AV)(yc:Bool):RM dm:=
   (match (cj q).isSome&&decide (0<q.size)&&ys.all (aG q.isAgg q.size) with
     |false=>RM.fail
     |true=>match ys.isEmpty with
      |true=>(match a with
       |.pa xs _=>pure ⟨.sl xs,[]⟩
       |.lit (.slice none 0 0)|.sl _|.bq _ _ _ _ _ _|.nz=>pure ⟨a,[]⟩
       |_=>.fail)
      |false=>match a with
       |.lit (.slice none 0 0)|.nz=>
        if ys.length*q.bytes≤2^44∧ys.length≤2^44 then
         pure ⟨.bq q.size nm ys.length 0 ys.length none,[(nm,.arr true yc false ys)]⟩ else .fail
       |.pa xs c=>
        if c<xs.length+ys.length∧(xs.length+ys.length)*q.bytes≤2^44∧xs.length+ys.length≤2^44∧xs.all (aG q.isAgg q.size)=true then
         pure ⟨.bq q.size nm (xs.length+ys.length) 0 (xs.length+ys.length) none,[(nm,.arr true yc false (xs++ys))]⟩ else .fail
       |.bq esz n aq off len cap=>do
        let (g,c,f,es) ←RM.arr n aq
        if f=true∨es.length<off+len∨esz≠q.size then RM.fail else
        if len+ys.length≤cap.getD (aq-off) then
         if off+len+ys.length≤es.length then
          pure ⟨.bq esz n aq off (len+ys.length) cap,[(n,.arr g (c&&yc) f (bw es (off+len) ys))]⟩
         else RM.fail
        else if (len+ys.length)*q.bytes≤2^44∧len+ys.length≤2^44 then
         (match cap with
         |none=>if g=true∧off=0∧len=aq then
           pure ⟨.bq esz n (len+ys.length) 0 (len+ys.length) none,[(n,.arr true (c&&yc) f (es++ys))]⟩
          else RM.fail
         |some _=>if es.all (aG q.isAgg q.size)=true then
           pure ⟨.bq esz nm (len+ys.length) 0 (len+ys.length) none,[(nm,.arr true (c&&yc) false ((es.drop off).take len++ys))]⟩
          else RM.fail)
        else RM.fail
       |_=>.fail)
theorem Fv{P:Program}{t xt:TypeId}{q:bJ}(h:aP P t=some q)(nm:Nat)(a b:AV):
  fH P nm t xt a b=(wq P q xt b >>= fun p=>sB q nm a p.1 p.2):=by
 unfold fH
 rw[h]
 rfl
theorem Ak{i:Nat}{o o':aB T.den}{y:Src T.den}{ys:List AV}{yc:Bool}(hy:zg T H y ys yc)(h:uV T o i y=some o'):yc=true:=by
 cases y with
 |lM l cl=>cases cl with
  |true=>exact hy.2.1
  |false=>unfold uV at h; cases o<;>simp at h
 |y9 t l=>exact hy.2
theorem yq[ab](hh:RH T H hp){n:Nat}{o o':aB T.den}{ao:aN}(ho:H[n]?=some (some o))(hc:o.cur≤o'.cur)(hl:o'.cur=o.cur→o'.len=o.len)(c6:hp[n]?=some (some ao))(dD:RO T H o' ao)
  {v:SV T.den} {a:AV} (hv:RV T (H.set n (some o')) v a) {m:RM dm} {rd:List Nat} (hy:aE hp m ⟨a,[]⟩ rd) (h:(K v [(n,o')] rd).run=some r) (hj:o.yh=true):jm T H hp m K r:=by
 obtain⟨O0,NX⟩:=hh.Rj ho (o':=o') hc hl dD
 rw[gZ c6]at NX
 have bQ:=(List.getElem?_eq_some_iff.1 ho).1
 have e1:bf H [(n,o')]=H.set n (some o'):=by simp[bf,bN]; omega
 refine⟨_,_,_,⟨a,[]⟩,hy,⟨by rw[e1]; exact hv,by rw[e1]; exact NX,by rw[e1]; exact O0,fun q h=>by simp at h,fun k hk hl=>?_,by rw[e1]; simp,fun k hk ID=>by
  simp at ID
  subst ID
  simp only[recAt,ho,nJ hj,Bool.false_eq_true]at hk⟩,h⟩
 rw[e1]; simp at hk; rw[List.getElem?_set_ne (Ne.symm hk)]
theorem Fw[ab](hT:T.Ok)(hQ:Q.Ok)(hh:RH T H hp){nm:Nat}(hn:nm=H.length∨H[nm]?=some none){t xt:TypeId}{s x:SV T.den}{a b:AV}(hs:RV T H s a)(hx:RV T H x b)
  (h:(Bj Q nm H t xt s x K).run=some r):jm T H hp (fH Q.P nm t xt a b) K r:=by
 unfold Bj at h
 split at h
 ·simp[Tr.run]at h
 rename_i m hm
 obtain⟨q,gQ,dW,gG,Gt,IP⟩:=hQ.elem hm
 obtain⟨y,rd,ys,yc,yn,wg,h⟩:=GS hQ hh (q:=q) hx h
 split at h
 ·simp[Tr.run]at h
 rename_i bM
 simp only[Bool.and_eq_true,decide_eq_true_eq]at bM
 have hz:(cj q).isSome=true:=by
  cases YB:m.zero with
  |none=>rw[YB]at bM; simp at bM
  |some z=>rw[IP z YB]; rfl
 have bc:=wg.xZ hT dW gG bM.2
 have lA:((cj q).isSome&&decide (0<q.size)&&ys.all (aG q.isAgg q.size))=true:=by
  rw[hz,bc,gG]; simpa using bM.1.2
 have fQ:=wg.len
 have abs:∀ {rest:RM dm} {e:dm} {rd2:List Nat},(∀ n,n∈rd→n∈rd2)→aE hp rest e rd2 →
   sB q nm a ys yc=rest→aE hp (fH Q.P nm t xt a b) e rd2:=by
  intro rest e rd2 h1 h2 h3
  rw[Fv gQ]
  refine⟨?_,fun n hn=>?_⟩
  ·rw[RM.run_bind,yn.1]
   simp only[Option.bind_some]
   rw[h3]
   exact h2.1
  ·rw[RM.eC,yn.1]at hn
   simp only[List.mem_append]at hn
   rw[h3]at hn
   exact hn.elim (fun h=>h1 n (yn.2 n h)) (h2.2 n)
 unfold sB at abs
 rw[lA]at abs
 split at h
 ·-- nil
  have ha:=hs.lit rfl
  subst ha
  rcases gD wg h with ⟨he,h⟩|⟨he,h⟩
  ·rw[he]at abs
   exact ar hh (bn cK) (abs (fun _ h=>h) (aE.mono (aE.pure _) (fun _ h=>by simp at h)) rfl) h
  ·rw[he]at abs
   obtain⟨hg,h⟩:=aY h
   simp only[rm,Bool.and_eq_true,decide_eq_true_eq]at hg
   obtain⟨o1,o2,o3⟩:=Dj wg
   refine eJ hh hn o3 (v:=.bq m.size nm 0 none none) (a:=.bq q.size nm ys.length 0 ys.length none) ?_ (abs (fun _ h=>h) (aE.mono (aE.pure _) (fun _ h=>by simp at h)) ?_) h
   ·right
    simp only[R]
    have hv:=eK hh hn (o:=x5 y)
    rw[o1,o2,fQ]at hv
    exact⟨_,hv,by rw[gG]⟩
   ·simp only
    rw[if_pos ⟨by rw[←fQ,Gt]; exact hg.1,by rw[←fQ]; exact hg.2⟩]
 ·-- empty,without room
  have ha:=hs.live rfl
  simp only[R]at ha
  rcases gD wg h with ⟨he,h⟩|⟨he,h⟩
  ·rw[he]at abs
   subst ha
   exact ar hh hs (abs (fun _ h=>h) (aE.mono (aE.pure _) (fun _ h=>by simp at h)) rfl) h
  ·rw[he]at abs
   obtain⟨hg,h⟩:=aY h
   simp only[rm,Bool.and_eq_true,decide_eq_true_eq]at hg
   obtain⟨o1,o2,o3⟩:=Dj wg
   have key:∀ rest:RM dm,rest=(if ys.length*q.bytes≤2^44∧ys.length≤2^44 then
        pure ⟨.bq q.size nm ys.length 0 ys.length none,[(nm,.arr true yc false ys)]⟩ else .fail)→rest=pure ⟨.bq q.size nm ys.length 0 ys.length none,[(nm,.arr true yc false ys)]⟩:=by
    intro rest hr
    rw[hr,if_pos ⟨by rw[←fQ,Gt]; exact hg.1,by rw[←fQ]; exact hg.2⟩]
   refine eJ hh hn o3 (v:=.bq m.size nm 0 none none) (a:=.bq q.size nm ys.length 0 ys.length none) ?_ (abs (fun _ h=>h) (aE.mono (aE.pure _) (fun _ h=>by simp at h)) ?_) h
   ·right
    simp only[R]
    have hv:=eK hh hn (o:=x5 y)
    rw[o1,o2,fQ]at hv
    exact⟨_,hv,by rw[gG]⟩
   ·subst ha
    exact key _ rfl
 ·-- a slice by value
  have ha:=hs.live rfl
  rcases gD wg h with ⟨he,h⟩|⟨_,h⟩
  ·rw[he]at abs
   simp only[R]at ha
   obtain⟨l',rfl,hl⟩:=ha
   exact ar hh hs (abs (fun _ h=>h) (aE.mono (aE.pure _) (fun _ h=>by simp at h)) rfl) h
  ·simp[Tr.run]at h
 ·have ha:=hs.live rfl
  rcases gD wg h with ⟨he,h⟩|⟨_,h⟩
  ·rw[he]at abs
   have Ot:=ha
   simp only[R]at ha
   rcases ha with ⟨l',rfl,hl⟩|⟨_,rfl⟩
   ·exact ar hh hs (abs (fun _ h=>h) (aE.mono (aE.pure _) (fun _ h=>by simp at h)) rfl) h
   ·exact ar hh hs (abs (fun _ h=>h) (aE.mono (aE.pure _) (fun _ h=>by simp at h)) rfl) h
  ·simp[Tr.run]at h
 ·-- a slice by value,of known room
  rename_i t' l c b _
  have ha:=hs.live rfl
  have Ot:=ha
  simp only[R]at ha
  rcases gD wg h with ⟨he,h⟩|⟨he,h⟩
  ·rw[he]at abs
   rcases ha with ⟨_,l',rfl,hl⟩|⟨_,wI,rfl|rfl⟩
   ·exact ar hh (v:=.jt t' l) (a:=.sl l') (.inr (by simp only[R]; exact .inl ⟨l',rfl,hl⟩)) (abs (fun _ h=>h) (aE.mono (aE.pure _) (fun _ h=>by simp at h)) rfl) h
   ·exact ar hh (v:=.jt t' l) (a:=.sl []) (.inr (by simp only[R]; exact .inl ⟨[],rfl,by rw[wI]; trivial⟩)) (abs (fun _ h=>h) (aE.mono (aE.pure _) (fun _ h=>by simp at h)) rfl) h
   ·exact ar hh (v:=.jt t' l) (a:=.lit cK) (.inr (by simp only[R]; exact .inr ⟨wI,trivial⟩)) (abs (fun _ h=>h) (aE.mono (aE.pure _) (fun _ h=>by simp at h)) rfl) h
  ·rw[he]at abs
   obtain⟨hg,h⟩:=aY h
   simp only[rm,Bool.and_eq_true,decide_eq_true_eq]at hg
   obtain⟨⟨hb,hc⟩,qU,iH⟩:=hg
   split at h
   case h_2=>simp[Tr.run]at h
   rename_i o' SY xf
   simp only[Bool.and_eq_true,decide_eq_true_eq]at SY
   rcases ha with ⟨_,l',rfl,hl⟩|⟨o8,_⟩
   ·have hlen:=hl.length
    have dD:RO T H (.bW true false 0 t' l) (.arr true true false l'):=⟨l',rfl,hl⟩
    obtain⟨a1,a2,a3⟩:=u6 hT dD wg xf
    have SX:yc=true:=by
     cases y with
     |lM UG cl=>
      obtain⟨_,mh,_⟩:=wg
      cases yc with
      |true=>rfl
      |false=>rw[show cl=false from by simpa using mh.symm]at xf; simp[pS]at xf
     |y9 _ _=>exact wg.2
    subst SX
    have bc:=sA hT (agg:=q.isAgg) (size:=q.size) (by rw[dW]; exact SY.1) (by rw[gG]; exact SY.2) hl
    refine eJ hh hn a3 (v:=.bq m.size nm 0 none none) (a:=.bq q.size nm (l'.length+ys.length) 0 (l'.length+ys.length) none) ?_ (abs (fun _ h=>h) (aE.mono (aE.pure _) (fun _ h=>by simp at h)) ?_) h
    ·right
     simp only[R]
     have hv:=eK hh hn (o:=o')
     rw[a1,a2,fQ]at hv
     simp only[aB.len,hlen]at hv
     exact⟨_,hv,by rw[gG]⟩
    ·simp only
     rw[if_pos ⟨by rw[←hlen,←fQ]; exact hc,by rw[←hlen,←fQ,Gt]; exact qU,by rw[←hlen,←fQ]; exact iH,bc⟩]
     rfl
   ·rw[hb]at o8; simp at o8
 ·rename_i esz n c rg cap _
  have ha:=hs.live rfl
  split at h
  case h_2=>simp[Tr.run]at h
  rename_i o ho
  obtain⟨ao,c6,dD⟩:=hh.obj ho
  split at h
  case h_2=>simp[Tr.run]at h
  rename_i hc
  simp only[Bool.and_eq_true,Bool.not_eq_true',decide_eq_true_eq]at hc
  simp only[R]at ha
  obtain⟨aq,hv,ha⟩:=ha
  have ca:=hv.arr hh ho hc.1.1
  split at h
  ·-- the whole of a growing array
   simp only at ha
   subst ha
   split at h
   ·rename_i cl0
    have:ys=[]:=by
     have:=fQ
     cases ys with
     |nil=>rfl
     |cons=>simp[Src.len]at this
    subst this
    simp only[List.isEmpty_nil]at abs
    exact ar hh hs (abs (fun _ h=>h) (aE.mono (aE.pure _) (fun _ h=>by simp at h)) rfl) h
   ·rename_i dN
    split at h
    case h_2=>simp[Tr.run]at h
    rename_i o' O1 xf
    obtain⟨hg,h⟩:=aY h
    simp only[rm,Bool.and_eq_true,decide_eq_true_eq]at hg
    have hj:=yp xf
    obtain⟨es,rfl,wA⟩:=dD.Dh hj
    obtain⟨a1,a2,a3⟩:=u6 hT dD wg xf
    rw[O1]at c6
    cases he:ys.isEmpty with
    |true=>
     rw[he]at abs
     have SZ:ys=[]:=by simpa using he
     subst SZ
     have SX:yc=true:=by
      cases y with
      |lM l cl=>
       exfalso
       have:=fQ
       simp only[Src.len,List.length_nil]at this
       have wI:l=[]:=by simpa using this
       subst wI
       exact dN _ rfl
      |y9 t l=>exact wg.2
     subst SX
     simp only[Bool.and_true,List.append_nil]at a3
     obtain⟨O0,NX⟩:=hh.Rj ho (o':=o') (by omega) (fun e=>by omega) a3
     rw[gZ c6]at NX
     have bQ:=(List.getElem?_eq_some_iff.1 ho).1
     have e1:bf H [(n,o')]=H.set n (some o'):=by simp[bf,bN]; omega
     refine⟨_,_,_,⟨.bq esz n aq 0 aq none,[]⟩,abs (fun _ h=>List.mem_cons_of_mem _ h) (aE.mono (aE.pure _) (fun _ h=>by simp at h)) rfl,⟨?_,by rw[e1]; exact NX,by rw[e1]; exact O0,fun q h=>by simp at h,fun k hk hl=>?_,by rw[e1]; simp,fun k hk ID=>by
      simp at ID
      subst ID
      simp only[recAt,ho,nJ hj,Bool.false_eq_true]at hk⟩,h⟩
     ·rw[e1]
      right
      simp only[R]
      refine⟨aq,⟨o',by rw[List.getElem?_set_self bQ],by omega,fun _=>?_⟩,rfl⟩
      rw[a2,ca,fQ]; rfl
     ·rw[e1]; simp at hk; rw[List.getElem?_set_ne (Ne.symm hk)]
    |false=>
     rw[he]at abs
     have Pz:0<ys.length:=by cases ys with
      |nil=>simp at he
      |cons=>simp
     refine jP hh ho (o':=o') (by omega) (fun e=>by omega) a3 (v:=.bq esz n (o.cur+1) none none) (a:=.bq esz n (aq+ys.length) 0 (aq+ys.length) none) ?_
      (abs (fun _ h=>List.mem_cons_of_mem _ h) (rd2:=n::rd) (aE.mono (aE.bind (aE.arr c6 (by omega)) (rd':=[]) (b:=(⟨.bq esz n (aq+ys.length) 0 (aq+ys.length) none,[(n,.arr true (o.flags.2.1&&yc) o.flags.2.2 (es++ys))]⟩:dm)) ?_) (fun k hk=>by simp at hk; simp[hk])) rfl) h (nJ hj)
     ·right
      simp only[R]
      have bQ:=(List.getElem?_eq_some_iff.1 ho).1
      refine⟨_,⟨o',by rw[List.getElem?_set_self bQ],by omega,fun _=>?_⟩,rfl⟩
      rw[a2,ca,fQ]
     ·simp only
      rw[if_neg (by rw[hc.1.2]; simp only[Bool.false_eq_true,false_or,not_or]; exact⟨by omega,by rw[gG]; simp[hc.2]⟩),if_neg (by simp only[Option.getD_none]; omega),
       if_pos ⟨by rw[ca,←fQ,Gt]; exact hg.1,by rw[ca,←fQ]; exact hg.2⟩]
      simp only[and_self,if_true]
      exact aE.pure _
  ·-- of an array of fixed room
   rename_i k
   simp only at ha
   subst ha
   rcases gD wg h with ⟨he,h⟩|⟨he,h⟩
   ·rw[he]at abs
    exact ar hh hs (abs (fun _ h=>h) (aE.mono (aE.pure _) (fun _ h=>by simp at h)) rfl) h
   ·rw[he]at abs
    rcases fu h with ⟨_,h⟩|⟨hk,h⟩
    ·simp[Tr.run]at h
    simp only[decide_eq_false_iff_not]at hk
    split at h
    case h_2=>simp[Tr.run]at h
    rename_i o' hoa xf
    obtain⟨hg,h⟩:=aY h
    simp only[rm,Bool.and_eq_true,decide_eq_true_eq]at hg
    have hj:=yp xf
    obtain⟨es,rfl,wA⟩:=dD.Dh hj
    obtain⟨a1,a2,a3⟩:=u6 hT dD wg xf
    rw[hc.1.2]at a3
    refine eJ hh hn a3 (v:=.bq esz nm 0 none none) (a:=.bq esz nm (aq+ys.length) 0 (aq+ys.length) none) ?_
     (abs (fun _ h=>List.mem_cons_of_mem _ h) (rd2:=n::rd) (aE.mono (aE.bind (aE.arr c6 (by omega)) (rd':=[]) (b:=(⟨.bq esz nm (aq+ys.length) 0 (aq+ys.length) none,[(nm,.arr true (o.flags.2.1&&yc) false (es++ys))]⟩:dm)) ?_) (fun k hk=>by simp at hk; simp[hk])) rfl) h
    ·right
     simp only[R]
     have hv:=eK hh hn (o:=o')
     rw[a1,a2,fQ,←ca]at hv
     exact⟨_,hv,rfl⟩
    ·simp only
     rw[if_neg (by rw[hc.1.2]; simp only[Bool.false_eq_true,false_or,not_or]; exact⟨by omega,by rw[gG]; simp[hc.2]⟩),if_neg (by simp only[Option.getD_some]; omega),
      if_pos ⟨by rw[ca,←fQ,Gt]; exact hg.1,by rw[ca,←fQ]; exact hg.2⟩]
     rw[if_pos (K8 hT dD dW gG hoa)]
     simp only[List.drop_zero]
     rw[List.take_of_length_le (by omega)]
     exact aE.pure _
  ·-- into the room that there is
   rename_i k off len _
   simp only at ha
   subst ha
   split at h
   case h_2=>simp[Tr.run]at h
   rename_i o' Dk
   obtain⟨hg,h⟩:=aY h
   simp only[Bool.and_eq_true,decide_eq_true_eq]at hg
   obtain⟨hj,a1,a2,es,e0,a3⟩:=u7 hT dD wg (by omega) Dk
   obtain⟨es',e1,wA⟩:=dD.Dh hj
   rw[e1]at e0
   simp only[aN.arr.injEq,true_and]at e0
   subst e0
   subst e1
   cases he:ys.isEmpty with
   |true=>
    rw[he]at abs
    have SZ:ys=[]:=by simpa using he
    subst SZ
    obtain rfl:=Ak wg Dk
    simp only[Bool.and_true,bw]at a3
    refine yq hh ho (by omega) (fun _=>a2) c6 a3 (v:=.bq esz n c (some (off,len+y.len)) (some k)) (a:=.bq esz n aq off len (some k)) ?_
     (abs (fun _ h=>List.mem_cons_of_mem _ h) (aE.mono (aE.pure _) (fun _ h=>by simp at h)) rfl) h hj
    right
    simp only[R]
    have bQ:=(List.getElem?_eq_some_iff.1 ho).1
    refine⟨aq,⟨o',by rw[List.getElem?_set_self bQ],by rw[a1]; exact Nat.le_of_eq (Nat.eq_of_beq_eq_true hc.1.1),fun _=>by rw[a2,ca]⟩,by rw[fQ]; rfl⟩
   |false=>
    rw[he]at abs
    refine jP hh ho (o':=o') (by omega) (fun _=>a2) a3 (v:=.bq esz n c (some (off,len+y.len)) (some k)) (a:=.bq esz n aq off (len+ys.length) (some k)) ?_
     (abs (fun _ h=>List.mem_cons_of_mem _ h) (rd2:=n::rd) (aE.mono (aE.bind (aE.arr c6 (by omega)) (rd':=[]) (b:=(⟨.bq esz n aq off (len+ys.length) (some k),[(n,.arr o.flags.1 (o.flags.2.1&&yc) o.flags.2.2 (bw es' (off+len) ys))]⟩:dm)) ?_) (fun k hk=>by simp at hk; simp[hk])) rfl) h (nJ hj)
    ·right
     simp only[R]
     have bQ:=(List.getElem?_eq_some_iff.1 ho).1
     refine⟨aq,⟨o',by rw[List.getElem?_set_self bQ],by rw[a1]; exact Nat.le_of_eq (Nat.eq_of_beq_eq_true hc.1.1),fun _=>by rw[a2,ca]⟩,by rw[fQ]⟩
    ·simp only
     rw[if_neg (by rw[hc.1.2]; simp only[Bool.false_eq_true,false_or,not_or]; exact⟨by omega,by rw[gG]; simp[hc.2]⟩),if_pos (by simp only[Option.getD_some]; omega),if_pos (by omega)]
     exact aE.pure _
  ·simp[Tr.run]at h
 ·simp[Tr.run]at h
def yr(q:bJ)(d:AV)(ys:List AV)(yc:Bool):RM dm:=
 match decide (0<q.size)&&ys.all (aG q.isAgg q.size) with
  |false=>RM.fail
  |true=>
   match d with
   |.bq esz n aq off len _=>(match (ys.take len).isEmpty with
    |true=>pure ⟨.lit (.int .i64 0),[]⟩
    |false=>do
     let (g,c,f,es) ←RM.arr n aq
     if esz=q.size∧f=false∧off+len≤es.length∧0<aq then
      pure ⟨.lit (.int .i64 (ys.take len).length),[(n,.arr g (c&&yc) f (bw es off (ys.take len)))]⟩
     else RM.fail)
   |.lit (.slice none 0 0)=>pure ⟨.lit (.int .i64 0),[]⟩
   |_=>RM.fail
theorem K9{P:Program}{t:TypeId}{q:bJ}(h:aP P t=some q)(a b:AV):wY P t a b=(fR b >>= fun p=>yr q a p.1 p.2):=by
 unfold wY
 rw[h]
 rfl
theorem La[ab](hT:T.Ok)(hQ:Q.Ok)(hh:RH T H hp){t:TypeId}{d x:SV T.den}{a b:AV}(hd:RV T H d a)(hx:RV T H x b)
  (h:(KP Q H t d x K).run=some r):jm T H hp (wY Q.P t a b) K r:=by
 unfold KP at h
 split at h
 case h_2=>simp[Tr.run]at h
 rename_i m hm hs
 have hs:=hQ.NR hs
 obtain⟨q,gQ,dW,gG,Gt,IP⟩:=hQ.elem hm
 obtain⟨y,rd,ys,yc,yn,wg,h⟩:=GS hQ hh (q:=q) hx h
 have yn:aE hp (fR b) (ys,yc) rd:=by
  simp_all[wq]
 split at h
 case h_2=>simp[Tr.run]at h
 rename_i esz n c rg cap bM _
 simp only[Bool.and_eq_true,decide_eq_true_eq]at bM
 split at h
 case h_2=>simp[Tr.run]at h
 rename_i off len o hr ho
 split at h
 case h_2=>simp[Tr.run]at h
 rename_i o' hc Dk
 simp only[Bool.and_eq_true,Bool.not_eq_true',decide_eq_true_eq]at hc
 have ha:=hd.live rfl
 obtain⟨aq,rfl,hv,ca⟩:=qJ hh ha hr ho
 have ca:=ca hc.1.1
 obtain⟨ao,c6,dD⟩:=hh.obj ho
 have fQ:=wg.len
 have bc:=wg.xZ hT dW gG bM.1
 have lA:(decide (0<q.size)&&ys.all (aG q.isAgg q.size))=true:=by
  rw[bc,gG]; simpa using bM.2
 have abs:∀ {rest:RM dm} {e:dm} {rd2:List Nat},(∀ n,n∈rd→n∈rd2)→aE hp rest e rd2 →
   yr q (.bq esz n aq off len cap) ys yc=rest→aE hp (wY Q.P t (.bq esz n aq off len cap) b) e rd2:=by
  intro rest e rd2 h1 h2 h3
  rw[K9 gQ]
  refine⟨?_,fun k hk=>?_⟩
  ·rw[RM.run_bind,yn.1]
   simp only[Option.bind_some]
   rw[h3]
   exact h2.1
  ·rw[RM.eC,yn.1]at hk
   simp only[List.mem_append]at hk
   rw[h3]at hk
   exact hk.elim (fun h=>h1 k (yn.2 k h)) (h2.2 k)
 unfold yr at abs
 rw[lA]at abs
 obtain⟨hg,h⟩:=aY h
 simp only[Bool.and_eq_true,decide_eq_true_eq]at hg
 cases he:ys.isEmpty with
 |true=>
  have SZ:ys=[]:=by simpa using he
  subst SZ
  obtain⟨hj,a1,a2,es,e0,a3⟩:=u7 hT dD wg (by omega) Dk
  obtain⟨es',e1,wA⟩:=dD.Dh hj
  rw[e1]at e0
  simp only[aN.arr.injEq,true_and]at e0
  subst e0
  subst e1
  obtain rfl:=Ak wg Dk
  simp only[Bool.and_true,bw]at a3
  have YC:y.len=0:=by rw[fQ]; rfl
  rw[YC]at h
  exact yq hh ho (by omega) (fun _=>a2) c6 a3 (bn (.int .i64 0)) (abs (fun _ h=>List.mem_cons_of_mem _ h) (aE.mono (aE.pure _) (fun _ h=>by simp at h)) (by simp only[List.take_nil,List.isEmpty_nil])) h hj
 |false=>
  have Pz:0<ys.length:=by cases ys with
   |nil=>simp at he
   |cons=>simp
  have YD:ys.take len=ys:=List.take_of_length_le (by omega)
  obtain⟨hj,a1,a2,es,e0,a3⟩:=u7 hT dD wg (by omega) Dk
  obtain⟨es',e1,wA⟩:=dD.Dh hj
  rw[e1]at e0
  simp only[aN.arr.injEq,true_and]at e0
  subst e0
  subst e1
  have heq:∀ (f t:RM dm),(match (ys.take len).isEmpty with|true=>t|false=>f)=f:=by
   intro f t
   rw[YD,he]
  refine jP hh ho (o':=o') (by omega) (fun _=>a2) a3 (v:=.lit (.int .i64 y.len)) (a:=.lit (.int .i64 y.len)) (bn _)
   (abs (fun _ h=>List.mem_cons_of_mem _ h) (rd2:=n::rd) (aE.mono (aE.bind (aE.arr c6 (by omega)) (rd':=[]) (b:=(⟨.lit (.int .i64 y.len),[(n,.arr o.flags.1 (o.flags.2.1&&yc) o.flags.2.2 (bw es' off ys))]⟩:dm)) ?_) (fun k hk=>by simp at hk; simp[hk])) (heq _ _)) h (nJ hj)
  simp only
  rw[if_pos ⟨by rw[gG]; exact hc.2,hc.1.2,by omega,by omega⟩,fQ,YD]
  exact aE.pure _
theorem NY[ab](hQ:Q.Ok)(hh:RH T H hp){ts:Array TypeId}{type:TypeId}{x:SV T.den}{a:AV}(hx:RV T H x a)(h:(Qg Q H ts type x K).run=some r){nm:Nat}:
  jm T H hp (dh Q.P nm .len ts type [a]) K r:=by
 unfold Qg at h
 unfold dh
 simp only
 split at h
 case h_2=>simp[Tr.run]at h
 rename_i t ht
 rw[ht]
 simp only
 split at h
 ·rename_i hs
  have hs:=hQ.NR hs
  split at h
  ·have ha:=hx.lit rfl
   subst ha
   refine ar hh (bn (.int .i64 0)) (rd:=[]) ?_ h
   simp only[hs,nO]
   exact aE.pure _
  ·have ha:=hx.live rfl
   simp only[R]at ha
   subst ha
   refine ar hh (bn (.int .i64 0)) (rd:=[]) ?_ h
   simp only[hs,nO]
   exact aE.pure _
  ·have ha:=hx.live rfl
   simp only[R]at ha
   obtain⟨l',rfl,hl,_⟩:=ha
   refine ar hh (a:=.lit (.int .i64 l'.length)) (by rw[hl.length]; exact bn _) (rd:=[]) ?_ h
   simp only[hs,nO]
   exact aE.pure _
  ·rename_i t' l
   have ha:=hx.live rfl
   simp only[R]at ha
   rcases ha with ⟨l',rfl,hl⟩|⟨rfl,rfl⟩
   ·refine ar hh (a:=.lit (.int .i64 l'.length)) (by rw[hl.length]; exact bn _) (rd:=[]) ?_ h
    simp only[hs,nO]
    exact aE.pure _
   ·refine ar hh (bn (.int .i64 0)) (rd:=[]) ?_ h
    simp only[hs,nO]
    exact aE.pure _
  ·rename_i t' l c b
   have ha:=hx.live rfl
   simp only[R]at ha
   rcases ha with ⟨_,l',rfl,hl⟩|⟨_,rfl,rfl|rfl⟩
   ·refine ar hh (a:=.lit (.int .i64 l'.length)) (by rw[hl.length]; exact bn _) (rd:=[]) ?_ h
    simp only[hs,nO]
    exact aE.pure _
   ·refine ar hh (bn (.int .i64 0)) (rd:=[]) ?_ h
    simp only[hs,nO]
    exact aE.pure _
   ·refine ar hh (bn (.int .i64 0)) (rd:=[]) ?_ h
    simp only[hs,nO]
    exact aE.pure _
  ·rename_i esz n c rg cap
   have ha:=hx.live rfl
   split at h
   case h_2=>simp[Tr.run]at h
   rename_i off len hr
   have:∃ o,H[n]?=some (some o):=by
    simp only[R]at ha
    obtain⟨_,⟨o,ho,_⟩,_⟩:=ha
    exact⟨o,ho⟩
   obtain⟨o,ho⟩:=this
   obtain⟨aq,rfl,_,_⟩:=qJ hh ha hr ho
   refine ar hh (bn (.int .i64 len)) (rd:=[]) ?_ h
   simp only[hs,nO]
   exact aE.pure _
  ·rename_i n c k j len cap
   have ha:=hx.live rfl
   simp only[R]at ha
   obtain⟨aq,rfl,_⟩:=ha
   refine ar hh (bn (.int .i64 len)) (rd:=[]) ?_ h
   simp only[hs,nO]
   exact aE.pure _
  ·simp[Tr.run]at h
 ·simp[Tr.run]at h
 ·rename_i hs
  have hs:=hQ.NR hs
  split at h
  ·simp[Tr.run]at h
  ·rename_i v hv
   have ha:=hx.lit rfl
   subst ha
   obtain⟨w,hw,hk⟩:=hY h
   refine ar hh (bn w) (rd:=[]) ?_ hk
   split
   ·rename_i heq; injection heq with e; exact(hv e).elim
   ·rename_i heq; cases heq
   ·rename_i heq; cases heq
   ·rename_i heq; cases heq
   ·rename_i heq; cases heq
   ·rename_i heq; cases heq
   ·rename_i heq; injection heq with e; subst e; rw[hw]; exact aE.pure _
   ·rename_i h; exact(h v rfl).elim
  ·rename_i l
   have ha:=hx.live rfl
   simp only[R]at ha
   obtain⟨l',rfl,hl⟩:=ha
   split at h
   case h_2=>simp[Tr.run]at h
   rename_i n m hm
   obtain⟨q,gQ,_⟩:=hQ.Di hm
   refine ar hh (bn (.int .i64 n)) (rd:=[]) ?_ h
   simp only[gQ]
   exact aE.pure _
  ·have ha:=hx.live rfl
   simp only[R]at ha
   obtain⟨aq,rfl,hl⟩:=ha
   split at h
   case h_2=>simp[Tr.run]at h
   rename_i n m hm
   obtain⟨q,gQ,_⟩:=hQ.Di hm
   refine ar hh (bn (.int .i64 n)) (rd:=[]) ?_ h
   simp only[gQ]
   exact aE.pure _
  ·have ha:=hx.live rfl
   simp only[R]at ha
   obtain⟨aq,rfl,hl⟩:=ha
   split at h
   case h_2=>simp[Tr.run]at h
   rename_i n m hm
   obtain⟨q,gQ,_⟩:=hQ.Di hm
   refine ar hh (bn (.int .i64 n)) (rd:=[]) ?_ h
   simp only[gQ]
   exact aE.pure _
  ·simp[Tr.run]at h
theorem GU[ab]{l:List (SV T.den)}{m:List AV}(hv:aw (RV T H) l m){c:List Value}(hc:mw l=some c):cS m=some c:=by
 revert c
 induction l generalizing m with
 |nil=>
  intro c hc
  cases m with
  |nil=>simp[mw]at hc; subst hc; rfl
  |cons=>exact hv.elim
 |cons x xs ih=>
  intro c hc
  cases m with
  |nil=>exact hv.elim
  |cons a as=>
   cases x with
   |lit v=>
    simp only[mw,Option.map_eq_some_iff]at hc
    obtain⟨c',h1,rfl⟩:=hc
    have:=RV.lit hv.1 rfl
    subst this
    simp[cS,ih hv.2 h1]
   |_=>simp[mw]at hc
theorem Dl[ab](hT:T.Ok)(hQ:Q.Ok)(hh:RH T H hp){nm:Nat}(hn:nm=H.length∨H[nm]?=some none){b:Builtin}{ts:Array TypeId}{type:TypeId}{args:List (SV T.den)}{as:List AV}
  (ha:aw (RV T H) args as) (h:(x6 Q nm H b ts type args K).run=some r):jm T H hp (dh Q.P nm b ts type as) K r:=by
 unfold x6 at h
 split at h
 ·split at h
  ·rename_i t xt s x ht
   match as,ha with
   |[a,b],ha=>
    simp only[dh,ht]
    exact Fw hT hQ hh hn ha.1 ha.2.1 h
  ·simp[Tr.run]at h
 ·split at h
  ·rename_i t _ d x ht
   match as,ha with
   |[a,b],ha=>
    simp only[dh,ht]
    exact La hT hQ hh ha.1 ha.2.1 h
  ·simp[Tr.run]at h
 ·split at h
  ·rename_i x
   match as,ha with
   |[a],ha=>exact NY hQ hh ha.1 h
  ·simp[Tr.run]at h
 ·split at h
  ·rename_i vs lY
   obtain⟨w,hw,hk⟩:=hY h
   refine ar hh (bn w) (rd:=[]) ?_ hk
   simp only[dh,GU ha lY,hw]
   exact aE.pure _
  ·simp[Tr.run]at h
 ·split at h
  ·rename_i vs lY
   obtain⟨w,hw,hk⟩:=hY h
   refine ar hh (bn w) (rd:=[]) ?_ hk
   simp only[dh,GU ha lY,hw]
   exact aE.pure _
  ·simp[Tr.run]at h
 ·simp[Tr.run]at h
end
end Go.PI
end
section
/- PS, part Ia: maps. -/
namespace Go.PI
variable {T:dw}{ρ:Type}
theorem Bu(kk:KK)(a b:kk.D):qZ (kk.v a) (kk.v b)=kk.beq a b:=by cases kk<;>rfl
theorem Lb{kk:KK}{v:Value}{k:kk.D}(h:kk.get v=some k):v=kk.v k∧kk.ok v=true:=by
 cases kk with
 |int q=>
  cases v<;>simp[KK.get]at h
  obtain⟨rfl,h⟩:=h
  cases h
  exact⟨rfl,by simp[KK.ok]⟩
 |str=>
  cases v<;>simp[KK.get]at h
  cases h
  exact⟨rfl,rfl⟩
 |bool=>
  cases v<;>simp[KK.get]at h
  cases h
  exact⟨rfl,rfl⟩
theorem u9{kk:KK}{α:Type}{k:kk.D}:∀ {m:List (kk.D×α)} {i:Nat},kC kk m k=none→jx (kk.v k) (m.map fun q=>kk.v q.1) i=none
 |[],i,_=>rfl
 |(k',v)::m,i,h=>by
  simp only[kC]at h
  cases hb:kk.beq k k' with
  |true=>rw[hb]at h; simp at h
  |false=>
   rw[hb]at h
   simp only[List.map_cons,jx,Bu,hb,cond_false]
   exact u9 h
theorem vb{kk:KK}{α:Type}{k:kk.D}{x:α}:∀ {m:List (kk.D×α)} {i:Nat},kC kk m k=some x→∃ j,jx (kk.v k) (m.map fun q=>kk.v q.1) i=some (i+j)∧(m.map (·.2))[j]?=some x ∧
  ∀ y,(mN kk m k y).map (fun q=>kk.v q.1)=m.map (fun q=>kk.v q.1)∧(mN kk m k y).map (·.2)=(m.map (·.2)).set j y
 |[],i,h=>by simp[kC]at h
 |(k',v)::m,i,h=>by
  simp only[kC]at h
  cases hb:kk.beq k k' with
  |true=>
   simp_all[cond_true,jx,Bu,hb,mN]
  |false=>
   rw[hb]at h
   obtain⟨j,h1,h2,h3⟩:=vb (i:=i+1) h
   refine⟨j+1,?_,by simpa using h2,fun y=>?_⟩
   ·simp only[List.map_cons,jx,Bu,hb,cond_false,h1]
    congr 1; omega
   ·obtain⟨h4,h5⟩:=h3 y
    simp[mN,hb,h4,h5]
theorem Dm{kk:KK}{α:Type}{k:kk.D}{y:α}:∀ {m:List (kk.D×α)},kC kk m k=none→mN kk m k y=m++[(k,y)]
 |[],_=>rfl
 |(k',v)::m,h=>by
  simp only[kC]at h
  cases hb:kk.beq k k' with
  |true=>rw[hb]at h; simp at h
  |false=>
   rw[hb]at h
   simp only[mN,hb,cond_false,List.cons_append]
   rw[Dm h]
section
variable {H:ah T.den}{hp:ag}{K:EK T ρ}{r:ρ}{Q:gP}
theorem Bv{c:Bool}{v:SV T.den}{a:AV}{b:Bool}(h:R T H v a):R T H (Bk c v b) (w8 c a b):=by
 cases c with
 |false=>exact h
 |true=>
  simp only[Bk,w8,R]
  exact⟨_,rfl,h,rfl,trivial⟩
theorem Fx[ab](hT:T.Ok)(hQ:Q.Ok)(hZ:T.tO Q)(hh:RH T H hp){t:TypeId}{x ix:SV T.den}{a b:AV}(hx:RV T H x a)(hi:RV T H ix b){c:Bool}(h:(Bl Q H t x ix c K).run=some r):
  jm T H hp (sO Q.P t a b c) K r:=by
 unfold Bl at h
 split at h
 case h_2=>simp[Tr.run]at h
 rename_i kk et wL
 have JD:=hQ.map _ _ wL
 split at h
 case h_2=>simp[Tr.run]at h
 rename_i za z k Qu hz
 obtain⟨m,hm,YE⟩:=Option.bind_eq_some_iff.1 Qu
 obtain⟨q,gQ,_,_,_,IP⟩:=hQ.row _ _ hm
 have nS:=IP _ YE
 have Ed:=hZ et m z za hm YE hz
 have hi:=hi.lit rfl
 subst hi
 have Qt:(fh Q.P et).bind cj=some za:=by rw[gQ]; exact nS
 unfold sO
 simp only[JD,Qt]
 split at h
 ·rename_i k' hk
  obtain⟨rfl,bM⟩:=Lb hk
  have hx:=hx.lit rfl
  subst hx
  simp only[bM]
  exact ar hh (.inr (Bv (hT.up _ _ _ H Ed))) (aE.pure _) h
 ·rename_i k' n hk
  obtain⟨rfl,bM⟩:=Lb hk
  have hx:=hx.live rfl
  simp only[R]at hx
  obtain⟨rfl,_⟩:=hx
  split at h
  case h_2=>simp[Tr.run]at h
  rename_i qP t' mp ho
  split at h
  case isFalse=>simp[Tr.run]at h
  rename_i hc
  obtain⟨rfl,rfl⟩:=hc
  simp only[tH]at h
  obtain⟨ao,c6,dD⟩:=hh.obj ho
  obtain⟨vs,rfl,lY⟩:=dD
  simp only[bM]
  cases hg:kC qP mp k' with
  |none=>
   rw[hg]at h
   simp only[Option.getD_none,Option.isSome_none]at h
   refine ar hh (.inr (Bv (hT.up _ _ _ H Ed))) (rd:=[n]) (aE.get c6 ?_) h
   simp only[if_true,u9 hg]
   exact aE.pure _
  |some y=>
   rw[hg]at h
   simp only[Option.getD_some,Option.isSome_some]at h
   obtain⟨j,h1,h2,_⟩:=vb (i:=0) hg
   obtain⟨v,hv,hr⟩:=aw.get lY h2
   refine ar hh (.inr (Bv (hT.up _ _ _ H hr))) (rd:=[n]) (aE.get c6 ?_) h
   simp only[if_true,h1,Nat.zero_add,hv]
   exact aE.pure _
 ·simp[Tr.run]at h
theorem zh[ab](hT:T.Ok)(hQ:Q.Ok)(hh:RH T H hp){t:TypeId}{x ix v:SV T.den}{a b d:AV}(hx:RV T H x a)(hi:RV T H ix b)(hv:RV T H v d)(h:(sg Q H t x ix v K).run=some r):
  jm T H hp (lj Q.P t a b d) K r:=by
 unfold sg at h
 split at h
 case h_2=>simp[Tr.run]at h
 rename_i kk et wL
 have JD:=hQ.map _ _ wL
 split at h
 case h_2=>simp[Tr.run]at h
 rename_i k n
 split at h
 case h_2=>simp[Tr.run]at h
 rename_i k' qP t' mp hk ho
 split at h
 case h_2=>simp[Tr.run]at h
 rename_i y hd hy
 split at h
 case isFalse=>simp[Tr.run]at h
 rename_i hc
 obtain⟨rfl,Ow⟩:=hc
 obtain⟨rfl,bM⟩:=Lb hk
 have hi:=hi.lit rfl
 subst hi
 have hx:=hx.live rfl
 simp only[R]at hx
 obtain⟨rfl,_⟩:=hx
 have Ed:=hT.dn _ _ _ _ H hy (hv.live hd)
 obtain⟨ao,c6,dD⟩:=hh.obj ho
 obtain⟨vs,rfl,lY⟩:=dD
 unfold lj
 simp only[JD,bM]
 simp only[tH]at h
 cases hg:kC qP mp k' with
 |none=>
  have e:=Dm (y:=y) hg
  refine jP hh ho (o':=.kg qP t' (mN qP mp k' y)) (Nat.le_refl _) (fun _=>rfl) (a':=.gl (.map qP ((mp.map fun q=>qP.v q.1)++[qP.v k'])) (vs++[d])) ?_ (bn undef) (rd:=[n]) (aE.get c6 ?_) h
  ·rw[e]
   refine⟨vs++[d],by simp,?_⟩
   rw[List.map_append]
   exact lY.append (show aw (T.rp t') [y] [d] from ⟨Ed,trivial⟩)
  ·simp only[if_true,u9 hg]
   exact aE.pure _
 |some x0=>
  obtain⟨j,h1,h2,h3⟩:=vb (i:=0) hg
  obtain⟨h4,h5⟩:=h3 y
  refine jP hh ho (o':=.kg qP t' (mN qP mp k' y)) (Nat.le_refl _) (fun _=>rfl) (a':=.gl (.map qP (mp.map fun q=>qP.v q.1)) (vs.set j d)) ?_ (bn undef) (rd:=[n]) (aE.get c6 ?_) h
  ·exact⟨_,by rw[h4],by rw[h5]; exact lY.set j Ed⟩
  ·simp only[if_true,h1,Nat.zero_add]
   exact aE.pure _
theorem Dn[ab](hQ:Q.Ok)(hh:RH T H hp){nm:Nat}(hn:nm=H.length∨H[nm]?=some none){t:TypeId}{x:Option (SV T.den)}{a:Option AV}(hx:K6 T H x a)(h:(x7 Q nm t x K).run=some r):
  jm T H hp (.gU (pc Q.P nm t a)) K r:=by
 unfold x7 at h
 split at h
 case h_2=>simp[Tr.run]at h
 rename_i kk et wL
 have JD:=hQ.map _ _ wL
 obtain⟨n,Uo,h⟩:=ia hx h
 refine eJ hh hn (o:=.kg kk et []) (a':=.gl (.map kk []) []) ⟨[],rfl,trivial⟩ (a:=.mp false nm) (rd:=[]) (.inr ?_) ?_ h
 ·simp only[R]
  refine⟨trivial,.kg kk et [],?_⟩
  unfold bN
  rcases hn with rfl|hn
  ·simp
  ·have bQ:=(List.getElem?_eq_some_iff.1 hn).1
   rw[if_neg (by omega),List.getElem?_set_self bQ]
 ·simp only[pc,JD,Uo]
  exact aE.gU rfl
end
end Go.PI
end
section
/- PS, part J: every operation. -/
namespace Go.PI
variable {T:dw}{ρ:Type}
section
variable {H:ah T.den}{hp:ag}{K:EK T ρ}{r:ρ}{Q:gP}
theorem jn{ev:Operand→SV T.den}{Ee:Operand→AV}(bI:∀ x,RV T H (ev x) (Ee x)):∀ (l:List Operand),aw (RV T H) (l.map ev) (l.map Ee)
 |[]=>trivial
 |x::xs=>⟨bI x,jn bI xs⟩
theorem iQ[ab]:∀ {l:List (SV T.den)} {m:List AV},aw (RV T H) l m→l.any bP=false→RL T H l m
 |[],[],_,_=>by simp[RL]
 |x::xs,y::ys,h,hd=>by
  simp only[List.any_cons,Bool.or_eq_false_iff]at hd
  simp only[RL]
  exact⟨h.1.live hd.1,iQ h.2 hd.2⟩
theorem yu[ab]{ev:Operand→SV T.den}{Ee:Operand→AV}(bI:∀ x,RV T H (ev x) (Ee x)):∀ (l:List (Nat×Operand)),((l.map fun p=>(p.1,ev p.2)).any fun p=>bP p.2)=false →
  RP T H (l.map fun p=>(p.1,ev p.2)) (l.map fun p=>(p.1,Ee p.2))
 |[],_=>trivial
 |x::xs,hd=>by
  simp only[List.map_cons,List.any_cons,Bool.or_eq_false_iff]at hd
  exact⟨⟨rfl,(bI _).live hd.1⟩,yu bI xs hd.2⟩
theorem Fy[ab](hT:T.Ok)(hQ:Q.Ok)(hZ:T.tO Q)(hh:RH T H hp){nm:Nat}(hn:nm=H.length∨H[nm]?=some none){ev:Operand→SV T.den}{Ee:Operand→AV}(bI:∀ x,RV T H (ev x) (Ee x)){o:Oper}
  (h:(NI Q nm H ev o K).run=some r):jm T H hp (aK Q.P nm Ee o) K r:=by
 obtain⟨dst,op,type,pos,after,guard⟩:=o
 unfold NI at h
 cases op with
 |move x=>exact ar hh (bI x) (aE.ret _) h
 |assign x=>exact ar hh (bI x) (aE.ret _) h
 |pick c a b=>
  simp only at h
  split at h
  ·rename_i t ht
   have hc:=(bI c).lit ht
   obtain⟨v,hv,hk⟩:=NV (bI a) (bI b) h
   refine ar hh hv (rd:=[]) ?_ hk
   simp only[aK,hc]
   exact aE.pure _
  ·simp[Tr.run]at h
 |alloc t=>
  simp only at h
  split at h
  case h_2=>simp[Tr.run]at h
  rename_i m hm
  split at h
  case h_2=>simp[Tr.run]at h
  rename_i z hz
  split at h
  case isFalse=>simp[Tr.run]at h
  rename_i hs
  exact H6 hQ hh hn hm hz hs h
 |box t x=>
  simp only at h
  split at h
  case isFalse=>simp[Tr.run]at h
  rename_i hc
  have hv:=(bI x).live hc.2.2
  have mh:=hv.cells
  refine eJ hh hn (o:=.arr false (av (bL (ev x))) false 0 [ev x]) (a':=.arr false (aZ (cellsOf (Ee x))) false [Ee x]) ⟨_,by rw[RL.closed mh],by simp only[RL]; exact⟨hv,trivial⟩,fun mY=>by rw[zb]at mY; simp only[av,mY,Bool.and_self]⟩
   (a:=.ref nm 1 0 0) (rd:=[]) ?_ ?_ h
  ·right
   simp only[R]
   exact⟨1,rfl,eK hh hn (o:=.arr false (av (bL (ev x))) false 0 [ev x])⟩
  ·simp only[aK]
   rw[if_pos ⟨by rw[←mh.C6]; exact hc.1,by rw[←mh.length]; exact hc.2.1⟩]
   exact aE.pure _
 |build t parts=>
  simp only at h
  split at h
  ·simp[Tr.run]at h
  rename_i hd
  simp only[Bool.not_eq_true]at hd
  obtain⟨v,hv,hk⟩:=lV h
  obtain⟨a,ha,hr⟩:=H5 hQ (yu bI _ hd) hv
  refine ar hh (.inr hr) (rd:=[]) ?_ hk
  simp only[aK,ha]
  exact aE.pure _
 |buildSlice t len parts=>
  simp only at h
  split at h
  ·simp[Tr.run]at h
  rename_i hd
  simp only[Bool.not_eq_true]at hd
  exact yl hQ hh hn (yu bI _ hd) h
 |load t a=>
  simp only at h
  split at h
  case h_2=>simp[Tr.run]at h
  rename_i m hm
  obtain⟨q,h1,h2,h3,_⟩:=hQ.row _ _ hm
  have:∃ v c rd,aE hp (kF Q.P t (Ee a)) c rd∧R T H v c∧(K v [] rd).run=some r:=Dg hT h1 h2 h3 hh (bI a) h
  obtain⟨v,c,rd,hy,hr,hk⟩:=this
  refine ar hh (.inr hr) (rd:=rd) ?_ hk
  simp only[aK]
  exact aE.mono (aE.bind hy (aE.pure _)) (fun _ h=>by simpa using h)
 |store t a x=>
  simp only at h
  split at h
  case h_2=>simp[Tr.run]at h
  rename_i m hm
  obtain⟨q,h1,h2,h3,_⟩:=hQ.row _ _ hm
  exact H3 hT h1 h3 hh (bI a) (bI x) h
 |nilCheck x=>
  simp only at h
  have hx:=bI x
  split at h
  ·rename_i n c i j he
   rw[he]at hx
   have gm:=hx.live rfl
   simp only[R]at gm
   obtain⟨aq,e,hv⟩:=gm
   refine ar hh (a:=.ref n aq i j) (.inr (by simp only[R]; exact⟨aq,rfl,hv⟩)) (rd:=[]) ?_ h
   simp only[aK,e]; exact aE.pure _
  ·rename_i e0 j he
   rw[he]at hx
   have gm:=hx.live rfl
   have kB:=gm
   simp only[R]at gm
   obtain⟨e',e,hv⟩:=gm
   refine ar hh (a:=.bh e' j) (.inr (by rw[←e]; exact kB)) (rd:=[]) ?_ h
   simp only[aK,e]; exact aE.pure _
  ·rename_i t y he
   rw[he]at hx
   have gm:=hx.live rfl
   have kB:=gm
   simp only[R]at gm
   obtain⟨e',e,hv⟩:=gm
   refine ar hh (a:=.gi t e') (.inr (by rw[←e]; exact kB)) (rd:=[]) ?_ h
   simp only[aK,e]; exact aE.pure _
  ·rename_i f a c he
   rw[he]at hx
   have gm:=hx.live rfl
   have kB:=gm
   simp only[R]at gm
   obtain⟨f',c',e,hv⟩:=gm
   refine ar hh (a:=.iV (.func f) f' c') (.inr (by rw[←e]; exact kB)) (rd:=[]) ?_ h
   simp only[aK,e]; exact aE.pure _
  ·rename_i f a c he
   have e:=hx.lit he
   refine ar hh (bn (.func (.func f) a c)) (rd:=[]) ?_ h
   simp only[aK,e]; exact aE.pure _
  ·simp[Tr.run]at h
 |binOp op t x y u=>
  simp only at h
  obtain⟨v,hv,hk⟩:=NU hQ (bI x) (bI y) h
  refine ar hh (bn v) (rd:=[]) ?_ hk
  simp only[aK,hv]
  exact aE.pure _
 |unOp op t x=>
  simp only at h
  split at h
  ·rename_i a ha
   have hx:=(bI x).lit ha
   obtain⟨v,hv,hk⟩:=hY h
   refine ar hh (bn v) (rd:=[]) ?_ hk
   simp only[aK,hx,hv]
   exact aE.pure _
  ·simp[Tr.run]at h
 |convert s d x=>
  simp only at h
  split at h
  ·rename_i a ha
   have hx:=(bI x).lit ha
   obtain⟨v,hv,hk⟩:=hY h
   refine ar hh (bn v) (rd:=[]) ?_ hk
   simp only[aK,hx,hv]
   exact aE.pure _
  ·simp[Tr.run]at h
 |makeInterface t x=>
  simp only at h
  split at h
  ·simp[Tr.run]at h
  rename_i hc
  simp only[Bool.or_eq_true,not_or,Bool.not_eq_true]at hc
  have hx:=(bI x).live hc.2
  refine ar hh (a:=.gi t (Ee x)) (.inr (by simp only[R]; exact⟨_,rfl,hx⟩)) (rd:=[]) ?_ h
  simp only[aK]
  rw[if_neg (by simp[hc.1.1,hc.1.2])]
  exact aE.pure _
 |makeFunc fn first captured=>
  simp only at h
  split at h
  ·rename_i hc
   refine ar hh (bn (.func fn #[] #[])) (rd:=[]) ?_ h
   simp only[aK,hc,if_true]
   exact aE.pure _
  ·rename_i hc
   split at h
   ·simp[Tr.run]at h
   rename_i hd
   simp only[Bool.or_eq_true,not_or,Bool.not_eq_true]at hd
   have h1:=iQ (jn bI first.toList) hd.1
   have h2:=iQ (jn bI captured.toList) hd.2
   refine ar hh (a:=.iV fn (first.toList.map Ee) (captured.toList.map Ee)) (.inr (by simp only[R]; exact⟨_,_,rfl,h1,h2⟩)) (rd:=[]) ?_ h
   simp only[aK]
   rw[if_neg hc]
   exact aE.pure _
 |makeSlice t l c=>
  simp only at h
  split at h
  ·rename_i hs
   have e:l=c:=by
    unfold KN at hs
    split at hs
    ·rw[Nat.eq_of_beq_eq_true hs]
    ·simp at hs
   subst e
   exact ze hQ hZ hh hn (bI l) h
  ·exact zd hQ hZ hh hn (bI l) (bI c) h
 |slice t x lo hi mx=>
  simp only at h
  have ho:∀ o:Option Operand,K6 T H (o.map ev) (o.map Ee):=by
   intro o
   cases o with
   |none=>trivial
   |some o=>exact bI o
  obtain⟨v,b,hb,hv,hk⟩:=NW hT hQ hh (bI x) (ho lo) (ho hi) (ho mx) h
  refine ar hh hv (rd:=[]) ?_ hk
  simp only[aK,hb]
  exact aE.pure _
 |sliceToArrayPointer t x=>
  simp only at h
  have hx:=bI x
  unfold KO at h
  split at h
  case h_2=>simp[Tr.run]at h
  rename_i len m n c i j l cp hf he
  obtain⟨q,gQ,dW,gG⟩:=hQ.Di hf
  split at h
  case h_2=>simp[Tr.run]at h
  rename_i hle
  simp only[decide_eq_true_eq]at hle
  rw[he]at hx
  have gm:=hx.live rfl
  simp only[R]at gm
  obtain⟨aq,e,hv⟩:=gm
  refine ar hh (a:=.ref n aq i j) (.inr (by simp only[R]; exact⟨aq,rfl,hv⟩)) (rd:=[]) ?_ h
  simp only[aK,e,gQ]
  rw[if_pos hle]
  exact aE.pure _
 |fieldAddr s x f=>
  simp only at h
  have hx:=bI x
  split at h
  ·rename_i off m n c i j hf he
   obtain⟨q,hq,_⟩:=hQ.NQ hf
   rw[he]at hx
   have gm:=hx.live rfl
   simp only[R]at gm
   obtain⟨aq,e,hv⟩:=gm
   refine ar hh (a:=.ref n aq i (j+off)) (.inr (by simp only[R]; exact⟨aq,rfl,hv⟩)) (rd:=[]) ?_ h
   simp only[aK,e,hq]; exact aE.pure _
  ·rename_i off m e0 j hf he
   obtain⟨q,hq,_⟩:=hQ.NQ hf
   rw[he]at hx
   have gm:=hx.live rfl
   simp only[R]at gm
   obtain⟨e',e,hv⟩:=gm
   refine ar hh (a:=.bh e' (j+off)) (.inr (by simp only[R]; exact⟨e',rfl,hv.1,hv.2⟩)) (rd:=[]) ?_ h
   simp only[aK,e,hq]; exact aE.pure _
  ·rename_i off m v aW len i hf he
   obtain⟨q,hq,_⟩:=hQ.NQ hf
   rw[he]at hx
   have gm:=hx.live rfl
   simp only[R]at gm
   obtain⟨a0,h1,h2,h3⟩:=gm
   rcases h3 with ⟨n,aq,k,j,rfl,e⟩|⟨e',j,rfl,e⟩
   ·refine ar hh (a:=.ref n aq k (j+i*aW+off)) (.inr (by simp only[R]; exact⟨.ref n aq k (j+off),qI h1 (.inl ⟨_,_,_,_,rfl,rfl⟩),h2,.inl ⟨_,_,_,_,rfl,by rw[Nat.add_right_comm]⟩⟩)) (rd:=[]) ?_ h
    simp only[aK,e,hq]; exact aE.pure _
   ·refine ar hh (a:=.bh e' (j+i*aW+off)) (.inr (by simp only[R]; exact⟨.bh e' (j+off),qI h1 (.inr ⟨_,_,rfl,rfl⟩),h2,.inr ⟨_,_,rfl,by rw[Nat.add_right_comm]⟩⟩)) (rd:=[]) ?_ h
    simp only[aK,e,hq]; exact aE.pure _
  ·simp[Tr.run]at h
 |field s x f=>
  simp only at h
  have hx:=bI x
  split at h
  ·rename_i off m l hf he
   obtain⟨q,hq,dW,gG⟩:=hQ.NQ hf
   rw[he]at hx
   have gm:=hx.live rfl
   obtain⟨v,hv,hk⟩:=lV h
   rw[←dW,←gG]at hv
   obtain⟨c,hc,hr⟩:=R.part gm hv
   simp only[R]at gm
   obtain⟨l',e,_⟩:=gm
   refine ar hh (.inr hr) (rd:=[]) ?_ hk
   rw[e]at hc
   simp only[aK,e,hq,hc]; exact aE.pure _
  ·simp[Tr.run]at h
 |indexAddr t x ix=>
  simp only at h
  obtain⟨v,b,hb,hv,hk⟩:=zf hT hQ hh (bI x) (bI ix) h
  refine ar hh hv (rd:=[]) ?_ hk
  simp only[aK,hb]
  exact aE.pure _
 |index t x ix=>
  simp only at h
  obtain⟨v,b,hb,hv,hk⟩:=H7 hQ (bI x) (bI ix) h
  refine ar hh hv (rd:=[]) ?_ hk
  simp only[aK,hb]
  exact aE.pure _
 |makeMap t x=>
  simp only at h
  have ho:K6 T H (x.map ev) (x.map Ee):=by
   cases x with
   |none=>trivial
   |some o=>exact bI o
  have:=Dn (T:=T) hQ hh hn ho h
  exact this
 |lookup t x ix c=>
  simp only at h
  exact Fx hT hQ hZ hh (bI x) (bI ix) h
 |mapUpdate t x k v=>
  simp only at h
  exact zh hT hQ hh (bI x) (bI k) (bI v) h
 |extract t ix=>
  simp only at h
  have hx:=bI t
  split at h
  ·rename_i l he
   rw[he]at hx
   have gm:=hx.live rfl
   simp only[R]at gm
   obtain⟨l',e,hl⟩:=gm
   obtain⟨v,hv,hk⟩:=lV h
   obtain⟨b,hb,hr⟩:=aw.get (aQ.1 hl) hv
   refine ar hh (.inr hr) (rd:=[]) ?_ hk
   simp only[aK,e,hb]; exact aE.pure _
  ·simp[Tr.run]at h
 |call c=>
  obtain⟨callee,args,mg⟩:=c
  cases callee with
  |builtin b=>exact Dl hT hQ hh hn (jn bI args.toList) h
  |_=>simp[Tr.run]at h
 |_=>simp[Tr.run]at h
end
end Go.PI
end
section
/- PS, part K: by value, frozen, and calls of which an answer is known. -/
namespace Go.PI
variable {T:dw}{ρ:Type}
mutual
def km:AV→Bool
 |.lit v=>match v with
  |.slice none 0 0=>false
  |_=>true
 |.agg l|.ju l=>ox l
 |.gi _ v=>km v
 |.iV _ f c=>ox f&&ox c
 |_=>true
def ox:List AV→Bool
 |[]=>true
 |x::xs=>km x&&ox xs
end
section
variable {H:ah T.den}{hp:ag}{r:ρ}
mutual
theorem R.flat:∀ {v:SV T.den} {a:AV},R T H v a→km a=true→vX v=flat a
 |.dead,a,h,_=>by simp[R]at h
 |.hole,a,h,_=>by simp only[R]at h; subst h; rfl
 |.lit v,a,h,_=>by simp only[R]at h; subst h; rfl
 |.agg l,a,h,hn=>by
  simp only[R]at h
  obtain⟨l',rfl,h2⟩:=h
  simp only[km]at hn
  simp only[vX,Go.PI.flat]; exact RL.flat h2 hn
 |.ju l,a,h,hn=>by
  simp only[R]at h
  obtain⟨l',rfl,h2⟩:=h
  simp only[km]at hn
  simp only[vX,Go.PI.flat]; exact RL.flat h2 hn
 |.sl l,a,h,_=>by
  simp only[R]at h
  obtain⟨l',rfl,h2⟩:=h
  rfl
 |.jt t l,a,h,hn=>by
  simp only[R]at h
  rcases h with ⟨l',rfl,_⟩|⟨_,rfl⟩
  ·rfl
  ·simp[km]at hn
 |.bh e j,a,h,_=>by
  simp only[R]at h
  obtain⟨e',rfl,h2⟩:=h
  rfl
 |.ref n c i j,a,h,_=>by
  simp only[R]at h
  obtain⟨aq,rfl,h2⟩:=h
  rfl
 |.iU n c i j ln cp,a,h,_=>by
  simp only[R]at h
  obtain⟨aq,rfl,h2⟩:=h
  rfl
 |.bq esz n c rg cap,a,h,_=>by
  simp only[R]at h
  obtain⟨aq,h1,h2⟩:=h
  rcases rg with _|⟨off,len⟩<;>simp only at h2<;>subst h2<;>rfl
 |.iV fn f c,a,h,hn=>by
  simp only[R]at h
  obtain⟨f',c',rfl,h2,h3⟩:=h
  rfl
 |.gi t v,a,h,hn=>by
  simp only[R]at h
  obtain⟨v',rfl,h2⟩:=h
  simp only[km]at hn
  simp only[vX,Go.PI.flat]; exact R.flat h2 hn
 |.wR t l c b,a,h,hn=>by
  simp only[R]at h
  rcases h with ⟨_,l',rfl,_⟩|⟨_,_,rfl|rfl⟩
  ·rfl
  ·rfl
  ·simp[km]at hn
 |.nz,a,h,hn=>by
  simp only[R]at h
  subst h
  rfl
 |.mp y n,a,h,_=>by
  simp only[R]at h
  obtain⟨rfl,_⟩:=h
  rfl
 |.sK v s len i,a,h,_=>by
  simp only[R]at h
  obtain⟨a0,_,_,h2⟩:=h
  rcases h2 with ⟨n,aq,k,j,rfl,rfl⟩|⟨e,j,rfl,rfl⟩<;>rfl
theorem RL.flat:∀ {l:List (SV T.den)} {m:List AV},RL T H l m→ox m=true→Bg l=vp m
 |[],[],_,_=>rfl
 |x::xs,y::ys,h,hn=>by
  simp only[RL]at h
  simp only[ox,Bool.and_eq_true]at hn
  simp only[Bg,vp]; rw[R.flat h.1 hn.1,RL.flat h.2 hn.2]
 |[],_::_,h,_=>by simp[RL]at h
 |_::_,[],h,_=>by simp[RL]at h
end
theorem oy{den:Nat→Type}:∀ {l:List (SV den)} {i:Nat} {e:SV den},av l=true→l[i]?=some e→aD e=true
 |[],_,_,_,h=>by simp at h
 |x::xs,0,e,hc,h=>by
  simp_all[av]
 |x::xs,i+1,e,hc,h=>by
  simp only[av,Bool.and_eq_true]at hc
  simp only[List.getElem?_cons_succ]at h
  exact oy hc.2 h
theorem oz[ab](hh:RH T H hp):∀ k:Nat,
  (∀ (v:SV T.den) (a:AV) (K:SV T.den→List Nat→Tr ρ),R T H v a→(fZ T H k v K).run=some r →
    ∃ v' rd a',aE hp (aX k a) a' rd∧R T H v' a'∧(km a'=true∧aD v'=true)∧(K v' rd).run=some r) ∧
  (∀ (l:List (SV T.den)) (m:List AV) (K:List (SV T.den)→List Nat→Tr ρ),RL T H l m→(ga T H k l K).run=some r →
    ∃ l' rd m',aE hp (aO k m) m' rd∧RL T H l' m'∧(ox m'=true∧av l'=true)∧l'.length=l.length∧(K l' rd).run=some r)
 |0=>⟨fun v a K _ h=>by simp[fZ,Tr.run]at h,fun l m K _ h=>by simp[ga,Tr.run]at h⟩
 |k+1=>by
  obtain⟨Wk,Qv⟩:=oz hh k
  refine⟨fun v a K hr h=>?_,fun l m K hr h=>?_⟩
  ·cases v with
   |dead=>simp[R]at hr
   |hole=>simp[fZ,Tr.run]at h
   |lit v=>
    simp only[R]at hr
    subst hr
    simp only[fZ]at h
    split at h
    ·exact⟨_,_,.sl [],aE.pure _,by simp[R,RL,av],⟨rfl,rfl⟩,h⟩
    ·rename_i hv
     refine⟨_,_,.lit v,?_,by simp[R],⟨?_,rfl⟩,h⟩
     ·simp only[aX]
      exact aE.pure _
     ·simp only[km]
   |agg l=>
    simp only[R]at hr
    obtain⟨l',rfl,hl⟩:=hr
    simp only[fZ]at h
    obtain⟨l2,rd,m2,h1,h2,h3,_,h4⟩:=Qv _ _ _ hl h
    refine⟨_,_,.agg m2,?_,by simp only[R]; exact⟨_,rfl,h2⟩,⟨by simpa only[km] using h3.1,by simpa only[aD] using h3.2⟩,h4⟩
    simp only[aX]
    exact aE.mono (aE.bind h1 (aE.pure _)) (fun _ h=>by simpa using h)
   |ju l=>
    simp only[R]at hr
    obtain⟨l',rfl,hl⟩:=hr
    simp only[fZ]at h
    obtain⟨l2,rd,m2,h1,h2,h3,_,h4⟩:=Qv _ _ _ hl h
    refine⟨_,_,.ju m2,?_,by simp only[R]; exact⟨_,rfl,h2⟩,⟨by simpa only[km] using h3.1,by simpa only[aD] using h3.2⟩,h4⟩
    simp only[aX]
    exact aE.mono (aE.bind h1 (aE.pure _)) (fun _ h=>by simpa using h)
   |sl l=>
    have lr:=hr
    simp only[R]at hr
    obtain⟨l',rfl,hl⟩:=hr
    simp only[fZ]at h
    exact⟨_,_,.sl l',aE.pure _,lr,⟨rfl,rfl⟩,h⟩
   |jt t l=>
    have lr:=hr
    simp only[R]at hr
    simp only[fZ]at h
    rcases hr with ⟨l',rfl,hl⟩|⟨rfl,rfl⟩
    ·exact⟨_,_,.sl l',aE.pure _,lr,⟨rfl,rfl⟩,h⟩
    ·exact⟨_,_,.sl [],aE.pure _,by simp only[R]; exact .inl ⟨[],rfl,trivial⟩,⟨rfl,rfl⟩,h⟩
   |bh e j=>
    have lr:=hr
    simp only[R]at hr
    obtain⟨e',rfl,he⟩:=hr
    simp only[fZ]at h
    exact⟨_,_,.bh e' j,aE.pure _,lr,⟨rfl,rfl⟩,h⟩
   |ref n c i j=>
    simp only[R]at hr
    obtain⟨aq,rfl,hv⟩:=hr
    simp only[fZ]at h
    split at h
    case h_2=>simp[Tr.run]at h
    rename_i g cl f cur es ho
    obtain⟨o,c6,dD⟩:=hh.obj ho
    obtain⟨es',rfl,cC,qX⟩:=dD
    split at h
    case h_2=>simp[Tr.run]at h
    rename_i e hc he
    have ca:=hv.arr hh ho hc
    simp only[aB.len]at ca
    have hl:=cC.length
    obtain⟨e2,xL,Eb⟩:=aw.get (aQ.1 cC) he
    cases cl with
    |true=>
     simp only at h
     refine⟨_,_,.bh e2 j,?_,by simp only[R]; exact⟨_,rfl,Eb,oy (qX rfl) he⟩,⟨rfl,rfl⟩,h⟩
     simp only[aX]
     refine aE.mono (aE.bind (aE.arr c6 (by omega)) ?_) (rd:=[n]++[]) (fun _ h=>by simpa using h)
     simp only[xL]
     simp only[if_true]
     exact aE.pure _
    |false=>
     simp only at h
     obtain⟨v2,rd,a2,h1,h2,h3,h⟩:=Wk _ _ _ Eb h
     refine⟨_,_,.bh a2 j,?_,by simp only[R]; exact⟨_,rfl,h2,h3.2⟩,⟨rfl,rfl⟩,h⟩
     simp only[aX]
     refine aE.mono (aE.bind (aE.arr c6 (by omega)) (rd':=rd) ?_) (fun _ h=>by simpa using h)
     simp only[xL,Bool.false_eq_true,if_false]
     exact aE.mono (aE.bind h1 (aE.pure _)) (fun _ h=>by simpa using h)
   |iU n c i j ln cp=>
    simp only[R]at hr
    obtain⟨aq,rfl,hv⟩:=hr
    simp only[fZ]at h
    split at h
    case h_2=>simp[Tr.run]at h
    rename_i g cl f cur es ho
    obtain⟨o,c6,dD⟩:=hh.obj ho
    obtain⟨es',rfl,cC,qX⟩:=dD
    split at h
    case h_2=>simp[Tr.run]at h
    rename_i cs hc he
    have ca:=hv.arr hh ho hc
    simp only[aB.len]at ca
    have hl:=cC.length
    obtain⟨e2,xL,Eb⟩:=aw.get (aQ.1 cC) he
    simp only[R]at Eb
    obtain⟨lX,rfl,ui⟩:=Eb
    have mh:=ui.length
    split at h
    case h_2=>simp[Tr.run]at h
    rename_i hle
    simp only[Bool.and_eq_true,decide_eq_true_eq]at hle
    have GV:RL T H ((cs.drop j).take ln) ((lX.drop j).take ln):=aQ.2 (((aQ.1 ui).drop j).take ln)
    cases cl with
    |true=>
     simp only at h
     have mY:av cs=true:=by
      have:=oy (qX rfl) he
      simpa only[aD] using this
     refine⟨_,_,.sl ((lX.drop j).take ln),?_,by simp only[R]; exact⟨_,rfl,GV,mA mY _ _⟩,⟨rfl,rfl⟩,h⟩
     simp only[aX]
     refine aE.mono (aE.bind (aE.arr c6 (by omega)) ?_) (rd:=[n]++[]) (fun _ h=>by simpa using h)
     simp only[xL]
     rw[if_pos ⟨hle.1,by omega⟩]
     simp only[if_true]
     exact aE.pure _
    |false=>
     simp only at h
     obtain⟨l2,rd,m2,h1,h2,h3,_,h⟩:=Qv _ _ _ GV h
     refine⟨_,_,.sl m2,?_,by simp only[R]; exact⟨_,rfl,h2,h3.2⟩,⟨rfl,rfl⟩,h⟩
     simp only[aX]
     refine aE.mono (aE.bind (aE.arr c6 (by omega)) (rd':=rd) ?_) (fun _ h=>by simpa using h)
     simp only[xL]
     rw[if_pos ⟨hle.1,by omega⟩]
     simp only[Bool.false_eq_true,if_false]
     exact aE.mono (aE.bind h1 (aE.pure _)) (fun _ h=>by simpa using h)
   |iV fn f c=>
    simp only[R]at hr
    obtain⟨f',c',rfl,hf,hc⟩:=hr
    simp only[fZ]at h
    obtain⟨l2,rd,m2,h1,h2,h3,_,h⟩:=Qv _ _ _ hf h
    obtain⟨l3,rd3,m3,g1,g2,g3,_,h⟩:=Qv _ _ _ hc h
    refine⟨_,_,.iV fn m2 m3,?_,by simp only[R]; exact⟨_,_,rfl,h2,g2⟩,⟨by simp[km,h3.1,g3.1],by simp[aD,h3.2,g3.2]⟩,h⟩
    simp only[aX]
    exact aE.mono (aE.bind h1 (aE.bind g1 (aE.pure _))) (fun _ h=>by simpa using h)
   |gi t v=>
    simp only[R]at hr
    obtain⟨v',rfl,hv⟩:=hr
    simp only[fZ]at h
    obtain⟨v2,rd,a2,h1,h2,h3,h⟩:=Wk _ _ _ hv h
    refine⟨_,_,.gi t a2,?_,by simp only[R]; exact⟨_,rfl,h2⟩,⟨by simpa only[km] using h3.1,by simpa only[aD] using h3.2⟩,h⟩
    simp only[aX]
    exact aE.mono (aE.bind h1 (aE.pure _)) (fun _ h=>by simpa using h)
   |bq esz n c rg cap=>
    simp only[R]at hr
    obtain⟨aq,hv,ha⟩:=hr
    simp only[fZ]at h
    split at h
    ·rename_i g cl f cur es ho
     obtain⟨o,c6,dD⟩:=hh.obj ho
     obtain⟨es',rfl,cC,qX⟩:=dD
     split at h
     case h_2=>simp[Tr.run]at h
     rename_i hc
     have ca:=hv.arr hh ho hc
     simp only[aB.len]at ca
     have hl:=cC.length
     have key:∀ (off len:Nat) (part:List (SV T.den)) (h:(match cl with
        |true=>K (.sl part) [n]
        |false=>ga T H k part fun l rd=>K (.sl l) (n::rd)).run=some r),part=(es.drop off).take len→off+len≤es.length →
       ∃ v' rd a',aE hp (aX (k+1) (.bq esz n aq off len cap)) a' rd∧R T H v' a'∧(km a'=true∧aD v'=true)∧(K v' rd).run=some r:=by
      intro off len part h O2 hle
      have GV:RL T H part ((es'.drop off).take len):=by subst O2; exact aQ.2 (((aQ.1 cC).drop off).take len)
      cases cl with
      |true=>
       simp only at h
       refine⟨_,_,.sl ((es'.drop off).take len),?_,by simp only[R]; exact⟨_,rfl,GV,by subst O2; exact mA (qX rfl) _ _⟩,⟨rfl,rfl⟩,h⟩
       simp only[aX]
       refine aE.mono (aE.bind (aE.arr c6 (by omega)) ?_) (rd:=[n]++[]) (fun _ h=>by simpa using h)
       simp only
       rw[if_pos (by omega)]
       simp only[if_true]
       exact aE.pure _
      |false=>
       simp only at h
       obtain⟨l2,rd,m2,h1,h2,h3,_,h⟩:=Qv _ _ _ GV h
       refine⟨_,_,.sl m2,?_,by simp only[R]; exact⟨_,rfl,h2,h3.2⟩,⟨rfl,rfl⟩,h⟩
       simp only[aX]
       refine aE.mono (aE.bind (aE.arr c6 (by omega)) (rd':=rd) ?_) (fun _ h=>by simpa using h)
       simp only
       rw[if_pos (by omega)]
       simp only[Bool.false_eq_true,if_false]
       exact aE.mono (aE.bind h1 (aE.pure _)) (fun _ h=>by simpa using h)
     split at h
     ·simp only at ha
      subst ha
      exact key 0 aq es h (by simp only[List.drop_zero]; rw[List.take_of_length_le (by omega)]) (by omega)
     ·grind[Tr.run]
    ·rename_i g f cur t l ho
     obtain⟨o,c6,dD⟩:=hh.obj ho
     obtain⟨es',rfl,cC⟩:=dD
     split at h
     case h_2=>simp[Tr.run]at h
     rename_i hc
     have ca:=hv.arr hh ho hc
     simp only[aB.len]at ca
     have hl:=cC.length
     have key:∀ off len,off+len≤l.length→aE hp (aX (k+1) (.bq esz n aq off len cap)) (.sl ((es'.drop off).take len)) [n]:=by
      intro off len hle
      simp only[aX]
      refine aE.mono (aE.bind (aE.arr c6 (by omega)) (rd':=[]) ?_) (fun _ h=>by simpa using h)
      simp only
      rw[if_pos (by omega)]
      simp only[if_true]
      exact aE.pure _
     split at h
     ·simp only at ha
      subst ha
      refine⟨_,_,_,key 0 aq (by omega),?_,⟨rfl,rfl⟩,h⟩
      simp only[R,List.drop_zero]
      rw[List.take_of_length_le (by omega)]
      exact .inl ⟨_,rfl,cC⟩
     ·rename_i off len
      simp only at ha
      subst ha
      obtain⟨hle,h⟩:=aY h
      simp only[decide_eq_true_eq]at hle
      refine⟨_,_,_,key off len hle,?_,⟨rfl,rfl⟩,h⟩
      simp only[R]
      exact .inl ⟨_,rfl,(cC.drop off).take len⟩
    ·simp[Tr.run]at h
   |mp y n=>simp[fZ,Tr.run]at h
   |wR t l c b=>
    simp only[R]at hr
    simp only[fZ]at h
    rcases hr with ⟨_,l',rfl,hl⟩|⟨_,rfl,rfl|rfl⟩
    ·exact⟨_,_,.sl l',by simp only[aX]; exact aE.pure _,by simp only[R]; exact .inl ⟨_,rfl,hl⟩,⟨rfl,rfl⟩,h⟩
    ·exact⟨_,_,.sl [],by simp only[aX]; exact aE.pure _,by simp only[R]; exact .inl ⟨_,rfl,trivial⟩,⟨rfl,rfl⟩,h⟩
    ·exact⟨_,_,.sl [],by simp only[aX]; exact aE.pure _,by simp only[R]; exact .inl ⟨_,rfl,trivial⟩,⟨rfl,rfl⟩,h⟩
   |nz=>
    simp only[R]at hr
    simp only[fZ]at h
    subst hr
    exact⟨_,_,.sl [],by simp only[aX]; exact aE.pure _,by simp only[R]; exact⟨[],rfl,trivial,rfl⟩,⟨rfl,rfl⟩,h⟩
   |sK v s len i=>simp[fZ,Tr.run]at h
  ·cases l with
   |nil=>
    cases m with
    |nil=>
     simp only[ga]at h
     exact⟨[],[],[],aE.pure _,by simp[RL],⟨rfl,rfl⟩,rfl,h⟩
    |cons=>simp[RL]at hr
   |cons x xs=>
    cases m with
    |nil=>simp[RL]at hr
    |cons y ys=>
     simp only[RL]at hr
     simp only[ga]at h
     obtain⟨v2,rd,a2,h1,h2,h3,h⟩:=Wk _ _ _ hr.1 h
     obtain⟨l2,rd2,m2,g1,g2,g3,g4,h⟩:=Qv _ _ _ hr.2 h
     refine⟨_,_,a2::m2,?_,by simp only[RL]; exact⟨h2,g2⟩,⟨by simp[ox,h3.1,g3.1],by simp[av,h3.2,g3.2]⟩,by simp[g4],h⟩
     simp only[aO]
     exact aE.mono (aE.bind h1 (aE.bind g1 (aE.pure _))) (fun _ h=>by simpa using h)
theorem Lc[ab](hh:RH T H hp){k:Nat}{v:SV T.den}{a:AV}{K:SV T.den→List Nat→Tr ρ}(hr:R T H v a)(h:(fZ T H k v K).run=some r):
  ∃ v' rd a',aE hp (aX k a) a' rd∧R T H v' a'∧(km a'=true∧aD v'=true)∧(K v' rd).run=some r:=(oz hh k).1 v a K hr h
theorem vf[ab](hh:RH T H hp){k:Nat}{l:List (SV T.den)}{m:List AV}{K:List (SV T.den)→List Nat→Tr ρ}(hr:RL T H l m)(h:(ga T H k l K).run=some r):
  ∃ l' rd m',aE hp (aO k m) m' rd∧RL T H l' m'∧(ox m'=true∧av l'=true)∧l'.length=l.length∧(K l' rd).run=some r:=(oz hh k).2 l m K hr h
def FW(T:dw)(H:ah T.den):List (Nat×aB T.den)→List (Nat×aN)→Prop:=
 aw fun p q=>p.1=q.1∧RO T H p.2 q.2∧∃ o,H[p.1]?=some (some o)∧p.2.cur=o.cur∧p.2.len=o.len∧o.isRec=false∧p.2.isRec=false
theorem oA[ab](hh:RH T H hp):∀ {k:Nat} {ns:List Nat} {K:List (Nat×aB T.den)→List Nat→Tr ρ},(my T H k ns K).run=some r →
  ∃ wr rd w,aE hp (dM k ns) w rd∧FW T H wr w∧(K wr rd).run=some r
 |0,ns,K,h=>by simp[my,Tr.run]at h
 |k+1,[],K,h=>by
  simp only[my]at h
  exact⟨[],[],[],aE.pure _,trivial,h⟩
 |k+1,n::ns,K,h=>by
  simp only[my]at h
  split at h
  ·rename_i g cl f cur es ho
   obtain⟨o,c6,dD⟩:=hh.obj ho
   obtain⟨es',rfl,cC,qX⟩:=dD
   split at h
   ·obtain⟨wr,rd,w,h1,h2,h⟩:=oA hh h
    refine⟨(n,.arr g true true cur es)::wr,n::rd,(n,.arr g true true es')::w,?_,⟨⟨rfl,⟨_,rfl,cC,qX⟩,_,ho,rfl,rfl,rfl,rfl⟩,h2⟩,h⟩
    simp only[dM]
    refine aE.get c6 ?_
    simp only[if_true]
    exact aE.mono (aE.bind h1 (aE.pure _)) (fun _ h=>by simpa using h)
   ·obtain⟨Ra,rd,m2,g1,g2,g3,g4,h⟩:=vf hh cC h
    obtain⟨wr,rd2,w,h1,h2,h⟩:=oA hh h
    rw[RL.names cC]at h1
    refine⟨(n,.arr g true true cur Ra)::wr,n::rd++rd2,(n,.arr g true true m2)::w,?_,⟨⟨rfl,⟨_,rfl,g2,fun _=>g3.2⟩,_,ho,rfl,by simp[aB.len,g4],rfl,rfl⟩,h2⟩,h⟩
    simp only[dM]
    refine aE.get c6 ?_
    simp only[Bool.false_eq_true,if_false]
    exact aE.mono (aE.bind g1 (aE.bind h1 (aE.pure _))) (fun _ h=>by simpa using h)
  ·rename_i g f cur t l ho
   obtain⟨o,c6,dD⟩:=hh.obj ho
   obtain⟨es',rfl,cC⟩:=dD
   obtain⟨wr,rd,w,h1,h2,h⟩:=oA hh h
   refine⟨(n,.bW g true cur t l)::wr,n::rd,(n,.arr g true true es')::w,?_,⟨⟨rfl,⟨_,rfl,cC⟩,_,ho,rfl,rfl,rfl,rfl⟩,h2⟩,h⟩
   simp only[dM]
   refine aE.get c6 ?_
   simp only[if_true]
   exact aE.mono (aE.bind h1 (aE.pure _)) (fun _ h=>by simpa using h)
  ·simp[Tr.run]at h
theorem FW.names:∀ {wr:List (Nat×aB T.den)} {w:List (Nat×aN)},FW T H wr w→wr.map (·.1)=w.map (·.1)
 |[],[],_=>rfl
 |_::_,_::_,h=>by simp only[List.map_cons]; rw[h.1.1,FW.names h.2]
 |[],_::_,h=>h.elim
 |_::_,[],h=>h.elim
theorem FW.apply[ab]:∀ {wr:List (Nat×aB T.den)} {w:List (Nat×aN)} {H:ah T.den} {hp:ag},RH T H hp→FW T H wr w →
  dk H (bf H wr)∧RH T (bf H wr) (ak hp w)∧(∀ n:Nat,n∉wr.map (·.1)→(bf H wr)[n]?=H[n]?)∧(bf H wr).length=H.length
 |[],[],H,hp,hh,_=>⟨dk.refl _,hh,fun _ _=>rfl,rfl⟩
 |(n,o')::wr,(n',a')::w,H,hp,hh,h=>by
  obtain⟨⟨e1,h2,o,h3,h4,h5,wz,Cy⟩,h6⟩:=h
  simp only at e1 h2 h3 h4 h5 wz Cy
  subst e1
  obtain⟨hg,NX⟩:=hh.Rj h3 (o':=o') (by omega) (fun _=>h5) h2
  have bQ:=(List.getElem?_eq_some_iff.1 h3).1
  have e1:bN H n o'=H.set n (some o'):=by simp[bN]; omega
  have e2:setObj hp n a'=hp.set n (some a'):=by simp[setObj]; have:=hh.length; omega
  have h7:FW T (H.set n (some o')) wr w:=by
   refine aw.mono (fun p q Mw=>?_) h6
   obtain⟨q1,q2,o2,q3,q4,q5,q6,q7⟩:=Mw
   refine⟨q1,RO.mono hg q2,?_⟩
   by_cases e:p.1=n
   ·simp_all
   ·grind
  obtain⟨i1,i2,i3,i4⟩:=FW.apply NX h7
  simp only[bf,ak]
  rw[e1,e2]
  refine⟨hg.trans i1,i2,fun m hm=>?_,by rw[i4]; simp⟩
  simp only[List.map_cons,List.mem_cons,not_or]at hm
  rw[i3 m hm.2,List.getElem?_set_ne (Ne.symm hm.1)]
 |[],_::_,_,_,_,h=>h.elim
 |_::_,[],_,_,_,h=>h.elim
theorem FW.K3:∀ {wr:List (Nat×aB T.den)} {w:List (Nat×aN)},FW T H wr w→∀ n,recAt H n=true→n∉wr.map (·.1)
 |[],[],_,n,_=>by simp
 |(m,o')::wr,_::w,h,n,hn=>by
  obtain⟨⟨_,_,o,h3,_,_,wz,_⟩,h6⟩:=h
  simp only at h3
  simp only[List.map_cons,List.mem_cons,not_or]
  refine⟨?_,FW.K3 h6 n hn⟩
  rintro rfl
  simp only[recAt,h3,wz,Bool.false_eq_true]at hn
 |[],_::_,h,_,_=>h.elim
 |_::_,[],h,_,_=>h.elim
theorem FW.re[ab]{wr:List (Nat×aB T.den)}{w:List (Nat×aN)}(hh:RH T H hp)(h:FW T H wr w){v:SV T.den}{a:AV}(hv:∀ H,R T H v a):RE T H hp v wr ⟨a,w⟩:=by
 obtain⟨h1,h2,h3,h4⟩:=FW.apply hh h
 exact⟨.inr (hv _),h2,h1,fun q hq=>by rw[h.names]; exact List.mem_map_of_mem hq,fun n hn _=>h3 n hn,by rw[h4]; exact Nat.le_refl _,h.K3⟩
end
def O3(T:dw)(v:TV T.den)(a:AV):Prop:=
 match v with
 |⟨.v t,x⟩=>T.rp t x a
 |⟨.l t,l⟩=>∃ l',a=.sl l'∧aw (T.rp t) l l'
 |⟨.m _ _,_⟩=>False
theorem S0(hT:T.Ok){v:TV T.den}{a:AV}(h:O3 T v a)(H:ah T.den):R T H (SF T v) a:=by
 obtain⟨t,x⟩:=v
 cases t with
 |v t=>exact hT.up _ _ _ H h
 |l t=>
  obtain⟨l',rfl,hl⟩:=h
  simp only[SF,R]
  exact .inl ⟨l',rfl,hl⟩
 |m kk t=>exact h.elim
theorem Ld[ab](hT:T.Ok)(H:ah T.den):∀ {l:List (TV T.den)} {m:List AV},aw (O3 T) l m→RL T H (Qd T l) m
 |[],[],_=>by simp[Qd,RL]
 |v::vs,a::as,h=>by
  simp only[Qd,List.map_cons,RL]
  exact⟨S0 hT h.1 H,Ld hT H h.2⟩
 |[],_::_,h=>h.elim
 |_::_,[],h=>h.elim
theorem GW{H:ah T.den}{l:List (SV T.den)}{m:List AV}(h:RL T H l m):R T H (qW l) (cB m):=by
 match l,m,h with
 |[],[],h=>simp_all[qW,cB,R]
 |[x],[y],h=>simp only[RL]at h; exact h.1
 |x::x'::xs,y::y'::ys,h=>simp_all[qW,cB,R]
 |[],_::_,h=>simp[RL]at h
 |_::_,[],h=>simp[RL]at h
 |[x],_::_::_,h=>simp[RL]at h
 |_::_::_,[y],h=>simp[RL]at h
theorem Fz(hT:T.Ok){H:ah T.den}{ts:List Nat}:∀ {l:List (SV T.den)} {m:List AV} {xs:List (TV T.den)},RL T H l m→HS T ts l=some xs→aw (O3 T) xs m:=by
 induction ts with
 |nil=>
  intro l m xs hr h
  cases l with
  |cons=>simp[HS]at h
  |nil=>
   cases m with
   |cons=>simp[RL]at hr
   |nil=>
    simp[HS]at h
    subst h
    trivial
 |cons t ts ih=>
  intro l m xs hr h
  cases l with
  |nil=>simp[HS]at h
  |cons v vs=>
   cases m with
   |nil=>simp[RL]at hr
   |cons a as=>
    simp only[RL]at hr
    simp only[HS,Option.bind_eq_some_iff,Option.map_eq_some_iff]at h
    obtain⟨x,h1,ys,h2,rfl⟩:=h
    exact⟨hT.dn _ _ _ _ H h1 hr.1,ih hr.2 h2⟩
theorem GX{den:Nat→Type}{v:TV den}{t:VT}{x:t.den den}(h:v.as t=some x):v=⟨t,x⟩:=by
 obtain⟨t',y⟩:=v
 unfold TV.as at h
 split at h
 ·grind
 ·simp at h
theorem oB[ab]{den:Nat→Type}:∀ (ts:List VT) (l:List (TV den)) (x:HL den ts),uQ ts l=some x→fX ts x=l
 |[],l,x,h=>by
  cases l with
  |nil=>rfl
  |cons=>cases h
 |[t],l,x,h=>by
  match l,h with
  |[v],h=>
   have h':v.as t=some x:=h
   rw[GX h']; rfl
  |[],h=>cases h
  |_::_::_,h=>cases h
 |t::u::us,l,x,h=>by
  match l,h with
  |[],h=>cases h
  |v::l',h=>
   change VT.den den t×HL den (u::us) at x
   have h':((v.as t).bind fun x=>(uQ (u::us) l').map fun y=>(x,y))=some x:=h
   obtain⟨a,h1,h2⟩:=Option.bind_eq_some_iff.1 h'
   obtain⟨b,h3,h4⟩:=Option.map_eq_some_iff.1 h2
   subst h4
   have:=oB _ _ _ h3
   rw[GX h1,←this]
   rfl
noncomputable def Lf[ab](C:Ctx)(g:FuncId)(as:List AV):Option (AV×ag):=
 match C.ku g with
 |some h=>(h as).map fun r=>(r,[])
 |none=>match kx C g as [] with
  |some (.val v,ib)=>some (v,ib)
  |_=>none
noncomputable def S1[ab](C:Ctx)(g:FuncId)(as:List AV):Option (AV×ag):=
 match C.iX g with
 |some h=>h as
 |none=>match kx C g as [] with
  |some (.val v,ib)=>some (v,ib)
  |_=>none
structure GY[ab](C:Ctx)(T:dw)(g:FuncId)(σ:vY T):Prop where
 Rp:∀ (x:HL T.den (σ.args.map .v)) (as:List AV) (l:List (T.den σ.el)),aw (O3 T) (fX _ x) as→σ.fn x=some l →
  ∃ n cl es ib,S1 C g as=some (.bq σ.esz n es.length 0 es.length none,ib)∧ib[n]?=some (some (.arr true cl false es))∧es.all flat=true∧aw (T.rp σ.el) l es
structure p7[ab](C:Ctx)(T:dw)(g:FuncId)(σ:uR T):Prop where
 kind:C.kind g=.pure
 Rp:∀ (x:HL T.den (σ.args.map .v)) (as:List AV) (y:HL T.den (σ.res.map .v)),aw (O3 T) (fX _ x) as→σ.fn x=some y →
  ∃ v ib l,Lf C g as=some (v,ib)∧(aX 1000 v).run ib=some (cB l)∧km (cB l)=true∧aw (O3 T) (fX _ y) l
section
variable {H:ah T.den}{hp:ag}{r:ρ}
theorem GZ[ab](hT:T.Ok){C:Ctx}{g:FuncId}{σ:vY T}(hσ:GY C T g σ)(hh:RH T H hp){nm:Nat}(hn:nm=H.length∨H[nm]?=some none){args:List (SV T.den)}{as:List AV}(ha:RL T H args as){K:EK T ρ}
  (h:(NK T σ nm H args K).run=some r) :
  ∃ v wr rd e lg,Ev C nm g as hp=some (e,lg)∧(∀ n,n∈lg→n∈rd)∧RE T H hp v wr e∧(K v wr rd).run=some r:=by
 unfold NK at h
 obtain⟨nW,rd,Ug,h1,h2,_,_,h⟩:=vf hh ha h
 split at h
 case h_2=>simp[Tr.run]at h
 rename_i x hx
 rw[Option.bind_eq_some_iff]at hx
 obtain⟨l,hl,hx⟩:=hx
 obtain⟨y,hy,h⟩:=bind_some h
 have Ed:=Fz hT h2 hl
 rw[←oB _ _ _ hx]at Ed
 obtain⟨n,cl,es,ib,o6,yS,HO,cy⟩:=hσ.Rp x Ug y Ed hy
 have hlen:y.length=es.length:=aw.length cy
 have Jz:(fS nm (.bq σ.esz n es.length 0 es.length none) ib).run hp=some ⟨.bq σ.esz nm es.length 0 es.length none,[(nm,.arr true true false es)]⟩:=by
  simp only[fS,yS,HO,decide_true,Bool.and_self]
  rfl
 have hA:Ev C nm g as hp=some (⟨.bq σ.esz nm es.length 0 es.length none,[(nm,.arr true true false es)]⟩,(aO 1000 as).log hp):=by
  unfold Ev
  rw[h1.1]
  simp only[Option.bind_some]
  unfold S1 at o6
  cases hi:C.iX g with
  |some f=>
   simp_all
  |none=>
   rw[hi]at o6
   simp only at o6
   split at o6
   case h_2=>simp at o6
   rename_i v0 S2 aV
   simp only[Option.some.injEq,Prod.mk.injEq]at o6
   obtain⟨rfl,rfl⟩:=o6
   simp only[aV,Option.bind_some,pt,Jz,Option.map_some]
 have hg:jm T H hp (RM.ret (⟨.bq σ.esz nm es.length 0 es.length none,[(nm,.arr true true false es)]⟩:dm)) (fun v wr _=>K v wr rd) r:=by
  have hv:=eK hh hn (o:=.bW true false 0 σ.el y)
  simp only[aB.cur,aB.len,hlen]at hv
  refine eJ hh hn (o:=.bW true false 0 σ.el y) ⟨es,rfl,cy⟩ ?_ (aE.ret _) h
  right
  simp only[R]
  exact⟨es.length,hv,rfl⟩
 obtain⟨v,wr,rd',e,g1,g2,g3⟩:=hg
 have he:e=⟨.bq σ.esz nm es.length 0 es.length none,[(nm,.arr true true false es)]⟩:=by
  have:=g1.1
  simp only[RM.run,Option.some.injEq]at this
  exact this.symm
 subst he
 exact⟨v,wr,rd,_,_,hA,h1.2,g2,g3⟩
theorem wW[ab](hT:T.Ok){C:Ctx}{g:FuncId}{σ:uR T}(hσ:p7 C T g σ)(hh:RH T H hp){args:List (SV T.den)}{as:List AV}(ha:RL T H args as){K:EK T ρ}(h:(HV T σ H args K).run=some r):
  ∃ v wr rd a w lg,Jo C g as hp=some (.val a,w)∧(∀ nm,pz C nm false hp (g,as)=some (⟨a,w⟩,lg))∧(∀ n,n∈lg→n∈rd)∧RE T H hp v wr ⟨a,w⟩∧(K v wr rd).run=some r:=by
 unfold HV at h
 obtain⟨nW,rd,Ug,h1,h2,_,_,h⟩:=vf hh ha h
 split at h
 case h_2=>simp[Tr.run]at h
 rename_i x hx
 rw[Option.bind_eq_some_iff]at hx
 obtain⟨l,hl,hx⟩:=hx
 obtain⟨y,hy,h⟩:=bind_some h
 have Ed:=Fz hT h2 hl
 rw[←oB _ _ _ hx]at Ed
 obtain⟨v,ib,m,o6,nv,P7,cy⟩:=hσ.Rp x Ug y Ed hy
 have hR:∀ H,R T H (qW (Qd T (fX _ y))) (cB m):=fun H=>GW (Ld hT H cy)
 have HO:vX (qW (Qd T (fX _ y)))=flat (cB m):=R.flat (hR H) P7
 have O4:∀ w,ni hp as (.val v,ib)=some (.val (cB m),w)→Jo C g as hp=some (.val (cB m),w)∧(∀ nm,pz C nm false hp (g,as)=some (⟨cB m,w⟩,Jv hp as (.val v,ib))):=by
  intro w hw
  unfold Lf at o6
  cases hi:C.ku g with
  |some f=>
   rw[hi]at o6
   simp only[Option.map_eq_some_iff,Prod.mk.injEq]at o6
   obtain⟨r0,D3,rfl,rfl⟩:=o6
   constructor
   ·rw[Hk g hi,h1.1]
    simp only[Option.bind_some,D3,hw]
   ·intro nm; simp only[pz,hσ.kind,hi,h1.1,Option.bind_some,D3,nk,hw]
  |none=>
   rw[hi]at o6
   simp only at o6
   split at o6
   case h_2=>simp at o6
   rename_i v0 S2 aV
   simp only[Option.some.injEq,Prod.mk.injEq]at o6
   obtain⟨rfl,rfl⟩:=o6
   constructor
   ·rw[MS g hi,h1.1]
    simp only[Option.bind_some,aV,hw]
   ·intro nm; simp only[pz,hσ.kind,hi,h1.1,Option.bind_some,aV,nk,hw]
 simp only at h
 split at h
 ·rename_i hf
  rw[HO]at hf
  have wv:ni hp as (.val v,ib)=some (.val (cB m),[]):=by
   rw[zO,nv]
   simp only[Option.bind_some,M3,hf,cond_true]
  obtain⟨q1,q2⟩:=O4 _ wv
  refine⟨_,[],_,_,_,_,q1,q2,fun n hn=>?_,⟨.inr (hR _),hh,dk.refl _,fun q hq=>by simp at hq,fun _ _ _=>rfl,Nat.le_refl _,fun _ _ h=>by simp at h⟩,h⟩
  simp only[Jv,List.mem_append,gn,nv,hf,if_true]at hn
  rcases hn with hn|hn
  ·exact h1.2 n hn
  ·simp[Pure.pure,RM.log]at hn
 ·rename_i hf
  rw[HO]at hf
  obtain⟨wr,rd2,w,f1,f2,h⟩:=oA hh h
  rw[RL.names ha]at f1
  have wv:ni hp as (.val v,ib)=some (.val (cB m),w):=by
   rw[zO,nv]
   simp only[Option.bind_some,M3,hf,cond_false,f1.1,Option.map_some]
  obtain⟨q1,q2⟩:=O4 _ wv
  refine⟨_,_,_,_,_,_,q1,q2,fun n hn=>?_,FW.re hh f2 hR,h⟩
  simp only[Jv,List.mem_append,gn,nv,hf,Bool.false_eq_true,if_false]at hn
  simp only[List.mem_append]
  rcases hn with hn|hn
  ·exact .inl (h1.2 n hn)
  ·rw[RM.eC,f1.1]at hn
   simp only[List.mem_append]at hn
   rcases hn with hn|hn
   ·exact .inr (f1.2 n hn)
   ·simp[Pure.pure,RM.log]at hn
end
end Go.PI
end
section
/- PS, part L: states, regions. -/
namespace Go.PI
variable {T:dw}{ρ:Type}
theorem Dp{v:Value}{K:Value→Tr ρ}:x8 v K=K v:=by
 unfold x8
 split<;>rfl
mutual
theorem ld:∀ {v:SV T.den} {K:SV T.den→Tr ρ},dx v K=K v
 |.lit v,K=>by simp only[dx]; exact Dp
 |.agg l,K=>by simp only[dx]; exact iR
 |.ju l,K=>by simp only[dx]; exact iR
 |.sl l,K=>by simp only[dx]; exact iR
 |.bh e j,K=>by simp only[dx]; exact ld
 |.iV fn f c,K=>by simp only[dx]; rw[iR,iR]
 |.gi t v,K=>by simp only[dx]; exact ld
 |.dead,K=>by simp only[dx]
 |.hole,K=>by simp only[dx]
 |.jt t l,K=>by simp only[dx]
 |.ref n c i j,K=>by simp only[dx]
 |.iU n c i j ln cp,K=>by simp only[dx]
 |.bq esz n c rg cap,K=>by simp only[dx]
 |.mp y n,K=>by simp only[dx]
 |.wR t l c b,K=>by simp only[dx]
 |.nz,K=>by simp only[dx]
 |.sK v s l i,K=>by simp only[dx]; exact ld
theorem iR:∀ {l:List (SV T.den)} {K:List (SV T.den)→Tr ρ},lN l K=K l
 |[],K=>by simp only[lN]
 |x::xs,K=>by simp only[lN]; rw[ld,iR]
end
theorem H8[ab]{o:aB T.den}{K:aB T.den→Tr ρ}:KR o K=K o:=by
 cases o with
 |arr g cl f c es=>exact iR
 |oX fn ps as bd fr=>exact iR
 |_=>rfl
theorem jQ[ab]:∀ {H:ah T.den} {K:ah T.den→Tr ρ},mT H K=K H
 |[],K=>rfl
 |none::r,K=>by simp only[mT]; exact jQ
 |some o::r,K=>by simp only[mT]; rw[H8,jQ]
theorem nK:∀ {l:List Nat} {K:List Nat→Tr ρ},sh l K=K l
 |[],K=>rfl
 |x::r,K=>by simp only[sh]; exact nK
theorem Al[ab]:∀ {l:sL T.den} {K:sL T.den→Tr ρ},Bm l K=K l
 |[],K=>rfl
 |(d,v)::r,K=>by simp only[Bm]; rw[ld,Al]
theorem force_eq[ab]{s:bz T.den}{K:bz T.den→Tr ρ}:s.force K=K s:=by
 obtain⟨fn,n,fr,hp,wf,wh,js⟩:=s
 simp only[bz.force]
 rw[Al,jQ,nK,nK]
theorem cD[ab]{s:bz T.den}{dst:Option Tmp}{v:SV T.den}{wr:List (Nat×aB T.den)}{K:bz T.den→Tr ρ}:s.fp dst v wr K=K (s.step dst v wr):=by
 obtain⟨fn,n,fr,hp,wf,wh,js⟩:=s
 have h1:∀ {K':ah T.den→List Nat→Tr ρ},Fo hp wh wr K'=K' (bf hp wr) (wr.map (·.1)++wh):=by
  intro K'
  cases wr with
  |nil=>rfl
  |cons w r=>simp only[Fo]; rw[jQ,nK]
 simp only[bz.fp,h1]
 cases dst with
 |none=>rfl
 |some d=>
  simp only
  split
  ·rename_i hd
   simp only[bz.step,KL,tE,hd,NJ]
  ·rename_i hd
   rw[ld]
   simp only[bz.step,KL,tE,hd,NJ]
theorem qK{ops:Array Oper}:∀ {l:List Oper} {K:List (G×Oper)→Tr ρ},oj ops l K=K (l.map fun o=>(eW ops o,o))
 |[],K=>rfl
 |o::r,K=>by
  simp only[oj,List.map_cons]
  split<;>rename_i h<;>rw[qK,h]
theorem Am:∀ {l:List (G×Item)} {K:List (G×Item)→Tr ρ},ya l K=K l
 |[],K=>rfl
 |(g,⟨i,nm,o⟩)::r,K=>by simp only[ya]; exact Am
theorem rC[ab]{ops:Array Oper}:∀ (l:List Oper) (m i n:Nat),lP (bH i n (l.take m)) (l.map fun o=>(eW ops o,o))=(bH i n (l.take m)).map fun x=>(eW ops x.o,x)
 |[],m,i,n=>by simp[bH,lP]
 |o::r,0,i,n=>by simp[bH,lP]
 |o::r,m+1,i,n=>by
  simp only[List.take_succ_cons,bH,List.map_cons,lP]
  rw[rC]
def kE{den:Nat→Type}(js:List (Nat×kY))(H:ah den)(hp:ag):Prop:=∀ n st,cm js n=some st→recAt H n=true∧ig hp n=some st
theorem jo{den:Nat→Type}{H:ah den}{n:Nat}(h:recAt H n=true):n<H.length:=by
 grind[recAt]
theorem p8{den:Nat→Type}{H H':ah den}{n:Nat}(h:H'[n]?=H[n]?):recAt H' n=recAt H n:=by unfold recAt; rw[h]
theorem nL{hp cq:ag}{n:Nat}(h:cq[n]?=hp[n]?):ig cq n=ig hp n:=by unfold ig; rw[h]
theorem kE.Bs{den:Nat→Type}{js:List (Nat×kY)}{H H':ah den}{hp cq:ag}(h:kE js H hp)(hk:∀ n,recAt H n=true→H'[n]?=H[n]?∧cq[n]?=hp[n]?):kE js H' cq:=by
 intro n st hn
 obtain⟨h1,h2⟩:=h n st hn
 obtain⟨h3,h4⟩:=hk n h1
 exact⟨by rw[p8 h3]; exact h1,by rw[nL h4]; exact h2⟩
theorem tP{n:Nat}:∀ {wr:List (Nat×aN)} {hp:ag},n<hp.length→n∉wr.map (·.1)→(ak hp wr)[n]?=hp[n]?
 |[],hp,_,_=>rfl
 |(m,o)::wr,hp,hn,hm=>by
  simp only[List.map_cons,List.mem_cons,not_or]at hm
  simp only[ak]
  have:n<(setObj hp m o).length∧(setObj hp m o)[n]?=hp[n]?:=by
   grind[setObj]
  rw[tP this.1 hm.2,this.2]
theorem kE.re[ab]{js:List (Nat×kY)}{H:ah T.den}{hp:ag}(h:kE js H hp)(hh:RH T H hp){v:SV T.den}{wr:List (Nat×aB T.den)}{e:dm}(he:RE T H hp v wr e):kE js (bf H wr) (ak hp e.wr):=by
 refine h.Bs fun n hn=>⟨he.Bs n (he.K3 n hn) (jo hn),tP (by rw[←hh.length]; exact jo hn) fun hc=>?_⟩
 obtain⟨q,hq,rfl⟩:=List.mem_map.1 hc
 exact he.K3 _ hn (he.names q hq)
structure RS(T:dw)(s:bz T.den)(st:St):Prop where
 fn:s.fn=st.fn
 n:st.fr.length=s.n
 fr:∀ t,RV T s.hp (cH s.fr t) (st.fr.getD t .undef)
 hp:RH T s.hp st.hp
 js:kE s.js s.hp st.hp
structure bk(s s':bz T.den):Prop where
 fn:s'.fn=s.fn
 n:s'.n=s.n
 fr:∀ t,t∉s'.wf→cH s'.fr t=cH s.fr t
 wf:∀ t,t∈s.wf→t∈s'.wf
 hp:∀ n:Nat,n<s.hp.length→n∉s'.wh→s'.hp[n]?=s.hp[n]?
 wh:∀ n,n∈s.wh→n∈s'.wh
 len:s.hp.length≤s'.hp.length
 grow:dk s.hp s'.hp
theorem bk.refl[ab](s:bz T.den):bk s s:=⟨rfl,rfl,fun _ _=>rfl,fun _ h=>h,fun _ _ _=>rfl,fun _ h=>h,Nat.le_refl _,dk.refl _⟩
theorem bk.trans[ab]{s s' tZ:bz T.den}(h:bk s s')(h':bk s' tZ):bk s tZ where
 fn:=h'.fn.trans h.fn
 n:=h'.n.trans h.n
 fr:=fun t ht=>by rw[h'.fr t ht,h.fr t (fun hc=>ht (h'.wf t hc))]
 wf:=fun t ht=>h'.wf t (h.wf t ht)
 hp:=fun n hn ht=>by rw[h'.hp n (Nat.lt_of_lt_of_le hn h.len) ht,h.hp n hn (fun hc=>ht (h'.wh n hc))]
 wh:=fun t ht=>h'.wh t (h.wh t ht)
 len:=Nat.le_trans h.len h'.len
 grow:=h.grow.trans h'.grow
theorem kn{n d t:Nat}{fr:sL T.den}{v:SV T.den}:cH (tE n fr d v) t=if t=d∧d<n then v else cH fr t:=by
 unfold tE
 split
 ·rename_i h
  have:=Nat.le_of_ble_eq_true h
  rw[if_neg (by omega)]
 ·rename_i h
  have:¬n≤d:=fun hc=>by rw[Nat.ble_eq_true_of_le hc]at h; simp at h
  simp only[cH]
  split
  ·rename_i he
   have:=Nat.eq_of_beq_eq_true he
   rw[if_pos (by omega)]
  ·rename_i he
   have:¬d=t:=fun hc=>by subst hc; simp at he
   rw[if_neg (by omega)]
theorem Dq{l:List AV}{d t:Nat}{a u:AV}:(l.set d a).getD t u=if t=d∧d<l.length then a else l.getD t u:=by
 grind
theorem RS.step[ab]{s:bz T.den}{st:St}(h:RS T s st){v:SV T.den}{wr:List (Nat×aB T.den)}{e:dm}(he:RE T s.hp st.hp v wr e)(dst:Option Tmp):
  RS T (s.step dst v wr) { st with fr:=bG st.fr dst e.val,hp:=ak st.hp e.wr }∧bk s (s.step dst v wr):=by
 refine⟨⟨h.fn,?_,fun t=>?_,he.hp,h.js.re h.hp he⟩,⟨rfl,rfl,fun t ht=>?_,fun t ht=>?_,fun n hn ht=>?_,fun n hn=>?_,he.len,he.grow⟩⟩
 ·simp only[bz.step,bG]; cases dst<;>simp[h.n]
 ·simp only[bz.step]
  cases dst with
  |none=>exact(h.fr t).mono he.grow
  |some d=>
   simp only[KL,bG]
   rw[kn,Dq,h.n]
   split
   ·exact he.val
   ·exact(h.fr t).mono he.grow
 ·simp only[bz.step]at ht ⊢
  cases dst with
  |none=>rfl
  |some d=>
   simp only[NJ,List.mem_cons,not_or]at ht
   simp only[KL,kn]
   rw[if_neg (by omega)]
 ·simp only[bz.step]
  cases dst with
  |none=>exact ht
  |some d=>exact List.mem_cons_of_mem _ ht
 ·simp only[bz.step,List.mem_append,not_or]at ht ⊢
  exact he.Bs n ht.1 hn
 ·simp only[bz.step,List.mem_append]
  exact .inr hn
theorem Dr[ab]{H:ah T.den}{hp:ag}(hh:RH T H hp):RE T H hp (.lit undef) [] ⟨.undef,[]⟩:=
 ⟨bn undef,hh,dk.refl _,fun q h=>by simp at h,fun _ _ _=>rfl,Nat.le_refl _,fun _ _ h=>by simp at h⟩
theorem rD:∀ (c:List Value),av (den:=T.den) (c.map .lit)=true
 |[]=>by simp[av]
 |x::r=>by simp only[List.map_cons,av,aD,rD r,Bool.and_self]
theorem RS.ev[ab]{s:bz T.den}{st:St}(h:RS T s st)(o:Operand):RV T s.hp (cU s.fr o) (ay st.fr o):=by
 cases o with
 |tmp t=>exact h.fr t
 |const v=>
  simp only[cU,ay,KJ,nP]
  cases v with
  |agg c=>
   simp only
   by_cases hc:c.toList.all (fun v=>ba (.lit v))=true
   ·rw[if_pos hc,if_pos hc]
    right
    simp only[R]
    exact⟨_,rfl,RL.lits _⟩
   ·rw[if_neg hc]
    exact .inl rfl
  |tuple c=>
   right
   simp only[gT,R]
   exact⟨_,rfl,RL.lits _⟩
  |_=>exact bn _
 |global g=>
  simp only[cU,ay,BO]
  cases ab.g g with
  |none=>exact bn _
  |some c=>
   right
   simp only[R]
   exact⟨_,rfl,⟨_,rfl,RL.lits _⟩,by simp only[aD]; exact rD _⟩
 |func f=>exact bn _
theorem yv[ab]{g:G}{s:bz T.den}{st:St}(h:RS T s st){K:bz T.den→Bool→Tr ρ}{r:ρ}(hk:(wT g s K).run=some r):
  ∃ s' b,RS T s' st∧bk s s'∧sU st.fr g=some b∧s'.hp=s.hp∧(K s' b).run=some r:=by
 unfold wT at hk
 split at hk
 ·exact⟨s,true,h,bk.refl _,rfl,rfl,hk⟩
 ·exact⟨s,false,h,bk.refl _,rfl,rfl,hk⟩
 ·rename_i d want
  split at hk
  ·rename_i b hb
   have ha:=(h.fr d).lit hb
   have key:∀ b',b=b'→RS T (s.step (some d) (.lit (.bool b')) []) st∧bk s (s.step (some d) (.lit (.bool b')) []):=by
    rintro b' rfl
    have h1:=h.step (v:=.lit (.bool b)) (wr:=[]) (e:=⟨.lit (.bool b),[]⟩) ⟨bn _,h.hp,dk.refl _,fun q hq=>by simp at hq,fun _ _ _=>rfl,Nat.le_refl _,fun _ _ h=>by simp at h⟩ (some d)
    refine⟨?_,h1.2⟩
    have e:({ st with fr:=bG st.fr (some d) (AV.lit (.bool b)),hp:=ak st.hp [] }:St)=st:=by
     have:st.fr.set d (.lit (.bool b))=st.fr:=by
      by_cases hd:d<st.fr.length
      ·refine gZ ?_
       rw[List.getD_eq_getElem?_getD]at ha
       rw[List.getElem?_eq_getElem hd]at ha ⊢
       exact congrArg some ha
      ·exact List.set_eq_of_length_le (Nat.le_of_not_lt hd)
     simp only[bG,ak,this]
    rw[e]at h1
    exact h1.1
   have hw:sU st.fr (.on d want)=some (b==want):=by simp only[sU]; rw[ha]; rfl
   rcases fu hk with ⟨Po,Eu⟩|⟨Po,Eu⟩
   ·subst Po
    rw[cD]at Eu
    obtain⟨k1,k2⟩:=key true rfl
    exact⟨_,_,k1,k2,hw,rfl,Eu⟩
   ·subst Po
    rw[cD]at Eu
    obtain⟨k1,k2⟩:=key false rfl
    exact⟨_,_,k1,k2,hw,rfl,Eu⟩
  ·rename_i x hx
   have ha:=(h.fr d).lit hx
   refine⟨s,false,h,bk.refl _,?_,rfl,hk⟩
   simp only[sU]; rw[ha]; rfl
  ·simp[Tr.run]at hk
theorem p9[ab]{C:Ctx}{step:Oper→bz T.den→(bz T.den→Tr ρ)→Tr ρ}{r:ρ}
  (dH:∀ o s st K,RS T s st→(step o s K).run=some r→∃ s' st',ik C o st=some (.norm st')∧RS T s' st'∧bk s s'∧(K s').run=some r) :
  ∀ (l:List (G×Oper)) (s:bz T.den) (st:St) (K:bz T.den→Tr ρ),RS T s st→(vZ step l s K).run=some r→∃ s' st',tf C l st=some (.norm st')∧RS T s' st'∧bk s s'∧(K s').run=some r
 |[],s,st,K,h,hk=>⟨s,st,rfl,h,bk.refl _,hk⟩
 |(g,o)::l,s,st,K,h,hk=>by
  simp only[vZ]at hk
  obtain⟨s1,b,h1,h2,h3,_,hk⟩:=yv h hk
  cases b with
  |false=>
   simp only at hk
   rw[cD]at hk
   obtain⟨g1,g2⟩:=h1.step (Dr h1.hp) o.dst
   obtain⟨s',st',i1,i2,i3,hk⟩:=p9 dH l _ _ K g1 hk
   refine⟨s',st',?_,i2,(h2.trans g2).trans i3,hk⟩
   simp only[tf,h3]
   exact i1
  |true=>
   simp only at hk
   obtain⟨s2,NZ,g1,g2,g3,hk⟩:=dH o s1 st _ h1 hk
   obtain⟨s',st',i1,i2,i3,hk⟩:=p9 dH l _ _ K g2 hk
   refine⟨s',st',?_,i2,(h2.trans g3).trans i3,hk⟩
   simp only[tf,h3,g1,Option.bind_some]
   exact i1
def Bw(a b:fC):Prop:=a.idx=b.idx∧(∀ n,n∈a.rd→n∈b.rd)∧∀ n,n∈a.wr→n∈b.wr
theorem G0{a a' b b':List Nat}(ha:∀ n,n∈a→n∈a')(hb:∀ n,n∈b→n∈b')(h:Ef a' b'=true):Ef a b=true:=by
 grind[decide_eq_false_iff_not,Ef]
theorem H9[ab]{pr:List Nat}{x x' y y':fC}(hx:Bw x x')(hy:Bw y y')(h:rI pr x' y'=true):rI pr x y=true:=by
 unfold rI at h ⊢
 rw[hx.1,hy.1]
 simp only[Bool.or_eq_true,Bool.and_eq_true]at h ⊢
 refine h.imp id fun h=>⟨G0 hx.2.2 (fun n hn=>?_) h.1,G0 hy.2.2 hx.2.1 h.2⟩
 simp only[List.mem_append]at hn ⊢
 exact hn.imp (hy.2.1 n) (hy.2.2 n)
theorem yw[ab]{pr:List Nat}:∀ {l l':List fC},aw Bw l l'→eV pr l'=true→eV pr l=true
 |[],[],_,_=>rfl
 |x::xs,y::ys,h,hk=>by
  simp only[eV,Bool.and_eq_true]at hk ⊢
  refine⟨?_,yw h.2 hk.2⟩
  rw[List.all_eq_true]at hk ⊢
  intro z hz
  obtain⟨i,hi⟩:=List.getElem?_of_mem hz
  obtain⟨z',RQ,hle⟩:=aw.get h.2 hi
  exact H9 h.1 hle (hk.1 z' (List.mem_of_getElem? RQ))
theorem Bx{pr:List Nat}{fs:List fC}(h:qF pr fs=true):eV pr fs=true:=by
 unfold qF at h
 split at h
 ·rename_i hw
  clear h
  induction fs with
  |nil=>rfl
  |cons x xs ih=>
   simp only[List.all_cons,Bool.and_eq_true]at hw
   simp only[eV,Bool.and_eq_true]
   refine⟨?_,ih hw.2⟩
   rw[List.all_eq_true]
   intro y hy
   have h2:=List.all_eq_true.1 hw.2 y hy
   have e1:x.wr=[]:=by simpa using hw.1
   have e2:y.wr=[]:=by simpa using h2
   simp[rI,e1,e2,Ef]
 ·exact h
def Lg[ab]:Nat→List Item→Prop
 |_,[]=>True
 |n,x::r=>x.nm=n∧Lg (if au x.o.op then n+1 else n) r
def sC[ab](l:List Item):Nat:=(l.filter fun x=>au x.o.op).length
theorem qa[ab](x:Item)(l:List Item):sC (x::l)=(if au x.o.op then 1 else 0)+sC l:=by
 grind[sC]
theorem yx[ab]:∀ (l:List Oper) (i n:Nat),sC (bH i n l)=(l.filter fun o=>au o.op).length
 |[],_,_=>rfl
 |o::r,i,n=>by
  rw[bH,qa,yx r,List.filter_cons]
  split<;>simp[*]<;>omega
theorem An[ab]:∀ (l:List Oper) (i n:Nat),Lg n (bH i n l)
 |[],_,_=>trivial
 |_::r,i,n=>⟨rfl,An r (i+1) _⟩
theorem tQ:∀ {wr:List (Nat×aB T.den)} {H:ah T.den},(∀ q,q∈wr→q.1<H.length)→(bf H wr).length=H.length
 |[],H,_=>rfl
 |(n,o)::wr,H,h=>by
  have h0:=h (n,o) (by simp)
  have e:(bN H n o).length=H.length:=by
   grind[bN]
  simp only[bf]
  rw[tQ (fun q hq=>by rw[e]; exact h q (List.mem_cons_of_mem _ hq)),e]
theorem vg[ab]{C:Ctx}{ops:Array Oper}{step:Nat→Oper→bz T.den→EK T ρ→Tr ρ}{r:ρ}
  (dH:∀ nm o s st K,RS T s st→(nm=s.hp.length∨s.hp[nm]?=some none)→(au o.op=false→nm=s.hp.length)→(step nm o s K).run=some r →
    ∃ v wr rd e lg,Ca C nm o st.fr st.hp=some (e,lg)∧(∀ n,n∈lg→n∈rd)∧RE T s.hp st.hp v wr e∧(K v wr rd).run=some r) :
  ∀ (l:List Item) (n:Nat) (s:bz T.den) (st:St) (fs:List fC) (K:bz T.den→List fC→Tr ρ),Lg n l→n+sC l=s.hp.length→(∀ m:Nat,n≤m→m<s.hp.length→s.hp[m]?=some none)→RS T s st →
    (sq step (l.map fun x=>(eW ops x.o,x)) s fs K).run=some r →
    ∃ s' st' Qw M8,ta C ops l st=some (st',M8)∧aw Bw M8 Qw∧RS T s' st'∧bk s s'∧(K s' (fs++Qw)).run=some r
 |[],n,s,st,fs,K,_,_,_,h,hk=>⟨s,st,[],[],rfl,trivial,h,bk.refl _,by simpa[sq] using hk⟩
 |x::l,n,s,st,fs,K,hn,hle,po,h,hk=>by
  obtain⟨Uo,Mn⟩:=hn
  simp only[List.map_cons,sq]at hk
  obtain⟨s1,b,h1,h2,h3,h4,hk⟩:=yv h hk
  have hw:cF ops st.fr x.o=some b:=by rw[BR]; exact h3
  cases b with
  |false=>
   simp only at hk
   rw[cD]at hk
   obtain⟨g1,g2⟩:=h1.step (Dr h1.hp) x.o.dst
   have ehp:(s1.step x.o.dst (.lit undef) []).hp=s.hp:=by simp only[bz.step,bf]; exact h4
   have hinv:∀ m:Nat,(if au x.o.op then n+1 else n)≤m→m<(s1.step x.o.dst (.lit undef) []).hp.length→(s1.step x.o.dst (.lit undef) []).hp[m]?=some none:=by
    grind
   have hb:(if au x.o.op then n+1 else n)+sC l=s.hp.length:=by
    rw[qa]at hle; split<;>simp_all<;>omega
   ·obtain⟨s',st',Qw,M8,i1,i2,i3,i4,hk⟩:=vg dH l _ _ _ _ K Mn (by rw[ehp]; exact hb) hinv g1 hk
    refine⟨s',st',⟨x.idx,[],[]⟩::Qw,⟨x.idx,[],[]⟩::M8,?_,⟨⟨rfl,fun _ h=>h,fun _ h=>h⟩,i2⟩,i3,(h2.trans g2).trans i4,by simpa using hk⟩
    simp only[ta,Cb,hw,Option.bind_some]
    have Wl:ta C ops l { st with fr:=bG st.fr x.o.dst .undef }=some (st',M8):=i1
    rw[Wl]; rfl
  |true=>
   simp only at hk
   have nT:x.at s1.hp.length=s1.hp.length∨s1.hp[x.at s1.hp.length]?=some none:=by
    grind[Item.at]
   obtain⟨v,wr,rd,e,lg,e1,e2,e3,hk⟩:=dH (x.at s1.hp.length) x.o s1 st _ h1 nT (fun h=>by simp only[Item.at,h]) hk
   rw[show s1.hp.length=st.hp.length from h1.hp.length]at e1
   split at hk
   case h_2=>simp[Tr.run]at hk
   rename_i HC
   rw[List.all_eq_true]at HC
   rw[cD]at hk
   obtain⟨g1,g2⟩:=h1.step e3 x.o.dst
   have bc:∀ q,q∈wr→q.1<s1.hp.length∧((au x.o.op=true∧q.1=x.nm)∨∃ o,s1.hp[q.1]?=some (some o)):=by
    grind
   have S3:(s1.step x.o.dst v wr).hp.length=s.hp.length:=by
    simp only[bz.step]
    rw[tQ (fun q hq=>(bc q hq).1),h4]
   have hinv:∀ m:Nat,(if au x.o.op then n+1 else n)≤m→m<(s1.step x.o.dst v wr).hp.length→(s1.step x.o.dst v wr).hp[m]?=some none:=by
    intro m hm B0
    rw[S3]at B0
    have hold:s1.hp[m]?=some none:=by rw[h4]; exact po m (by split at hm<;>omega) B0
    simp only[bz.step]
    rw[e3.Bs m ?_ (by rw[h4]; exact B0)]
    ·exact hold
    ·grind
   have hb:(if au x.o.op then n+1 else n)+sC l=s.hp.length:=by
    rw[qa]at hle; split<;>simp_all<;>omega
   ·obtain⟨s',st',Qw,M8,i1,i2,i3,i4,hk⟩:=vg dH l _ _ _ _ K Mn (by rw[S3]; exact hb) hinv g1 hk
    refine⟨s',st',⟨x.idx,rd,wr.map (·.1)⟩::Qw,⟨x.idx,lg,e.wr.map (·.1)⟩::M8,?_,⟨⟨rfl,e2,fun n hn=>?_⟩,i2⟩,i3,(h2.trans g2).trans i4,by simpa using hk⟩
    ·simp only[ta,Cb,hw,e1,Option.bind_some,Pv]
     rw[if_pos ?_]
     ·simp_all
     ·rw[List.all_eq_true]
      intro q hq
      obtain⟨q',hq',eq'⟩:=List.mem_map.1 (e3.names q hq)
      obtain⟨c1,c2⟩:=bc q' hq'
      rw[eq']at c1 c2
      simp only[Bool.and_eq_true,decide_eq_true_eq,Bool.or_eq_true]
      refine⟨by rw[←h1.hp.length]; exact c1,c2.imp id fun⟨o,ho⟩=>?_⟩
      obtain⟨a,ha,_⟩:=h1.hp.obj ho
      rw[ha]
    ·obtain⟨q,hq,rfl⟩:=List.mem_map.1 hn
     exact e3.names q hq
end Go.PI
end
section
/- PS, part M: what is dropped; results; calls of what is looked into. -/
namespace Go.PI
variable {T:dw}{ρ:Type}
section
variable {den:Nat→Type}{n:Nat}
mutual
theorem kX:∀ {v:SV den},aD v=true→bt n v=true
 |.dead,h=>by simp[aD]at h
 |.hole,h=>by simp[aD]at h
 |.lit v,h=>rfl
 |.agg l,h=>by simp only[aD]at h; simp only[bt]; exact eg h
 |.ju l,h=>by simp only[aD]at h; simp only[bt]; exact eg h
 |.sl l,h=>rfl
 |.jt t l,h=>rfl
 |.wR t l c b,h=>rfl
 |.nz,h=>rfl
 |.bh e j,h=>rfl
 |.ref ..,h=>by simp[aD]at h
 |.iU ..,h=>by simp[aD]at h
 |.bq ..,h=>by simp[aD]at h
 |.iV fn f c,h=>by
  simp only[aD,Bool.and_eq_true]at h
  simp only[bt,Bool.and_eq_true]
  exact⟨eg h.1,eg h.2⟩
 |.gi t v,h=>by simp only[aD]at h; simp only[bt]; exact kX h
 |.sK v s l i,h=>by simp only[aD]at h; simp only[bt]; exact kX h
 |.mp ..,h=>by simp[aD]at h
theorem eg:∀ {l:List (SV den)},av l=true→gz n l=true
 |[],_=>rfl
 |x::xs,h=>by
  simp only[av,Bool.and_eq_true]at h
  simp only[gz,Bool.and_eq_true]
  exact⟨kX h.1,eg h.2⟩
end
end
section
variable {H:ah T.den}{hp:ag}{n:Nat}
theorem fP.take{den:Nat→Type}{H:ah den}{m c aq:Nat}(h:fP H m c aq)(hm:m<n):fP (H.take n) m c aq:=by
 obtain⟨o,h1,h2,h3⟩:=h
 exact⟨o,by rw[List.getElem?_take_of_lt hm]; exact h1,h2,h3⟩
mutual
theorem R.take:∀ {v:SV T.den} {a:AV},R T H v a→bt n v=true→R T (H.take n) v a
 |.dead,_,h,_=>by simp[R]at h
 |.hole,_,h,_=>by simpa[R] using h
 |.lit v,a,h,_=>by simpa[R] using h
 |.agg l,a,h,hb=>by
  simp only[R]at h ⊢
  simp only[bt]at hb
  obtain⟨l',h1,h2⟩:=h
  exact⟨l',h1,RL.take h2 hb⟩
 |.ju l,a,h,hb=>by
  simp only[R]at h ⊢
  simp only[bt]at hb
  obtain⟨l',h1,h2⟩:=h
  exact⟨l',h1,RL.take h2 hb⟩
 |.sl l,a,h,_=>by
  simp only[R]at h ⊢
  obtain⟨l',h1,h2,h3⟩:=h
  exact⟨l',h1,RL.take h2 (eg h3),h3⟩
 |.jt t l,a,h,_=>by simpa[R] using h
 |.wR t l c b,a,h,_=>by simp only[R]at h ⊢; exact h
 |.nz,a,h,_=>by simp only[R]at h ⊢; exact h
 |.bh e j,a,h,_=>by
  simp only[R]at h ⊢
  obtain⟨e',h1,h2,h3⟩:=h
  exact⟨e',h1,R.take h2 (kX h3),h3⟩
 |.ref m c i j,a,h,hb=>by
  simp only[R]at h ⊢
  simp only[bt,decide_eq_true_eq]at hb
  obtain⟨aq,h1,h2⟩:=h
  exact⟨aq,h1,h2.take hb⟩
 |.iU m c i j ln cp,a,h,hb=>by
  simp only[R]at h ⊢
  simp only[bt,decide_eq_true_eq]at hb
  obtain⟨aq,h1,h2⟩:=h
  exact⟨aq,h1,h2.take hb⟩
 |.bq esz m c rg cap,a,h,hb=>by
  simp only[R]at h ⊢
  simp only[bt,decide_eq_true_eq]at hb
  obtain⟨aq,h1,h2⟩:=h
  exact⟨aq,h1.take hb,h2⟩
 |.iV fn f c,a,h,hb=>by
  simp only[R]at h ⊢
  simp only[bt,Bool.and_eq_true]at hb
  obtain⟨f',c',h1,h2,h3⟩:=h
  exact⟨f',c',h1,RL.take h2 hb.1,RL.take h3 hb.2⟩
 |.gi t v,a,h,hb=>by
  simp only[R]at h ⊢
  simp only[bt]at hb
  obtain⟨v',h1,h2⟩:=h
  exact⟨v',h1,R.take h2 hb⟩
 |.mp y m,a,h,hb=>by
  simp_all[R,bt]
 |.sK v s l i,a,h,hb=>by
  simp only[R]at h ⊢
  simp only[bt]at hb
  obtain⟨a0,h1,h2⟩:=h
  exact⟨a0,R.take h1 hb,h2⟩
theorem RL.take:∀ {l:List (SV T.den)} {m:List AV},RL T H l m→gz n l=true→RL T (H.take n) l m
 |[],[],_,_=>by simp[RL]
 |x::xs,y::ys,h,hb=>by
  simp only[RL]at h ⊢
  simp only[gz,Bool.and_eq_true]at hb
  exact⟨R.take h.1 hb.1,RL.take h.2 hb.2⟩
 |[],_::_,h,_=>by simp[RL]at h
 |_::_,[],h,_=>by simp[RL]at h
end
theorem fP.lt{den:Nat→Type}{H:ah den}{m c aq:Nat}(h:fP H m c aq):m<H.length:=by
 obtain⟨o,h1,_⟩:=h
 exact(List.getElem?_eq_some_iff.1 h1).1
mutual
theorem R.lt:∀ {v:SV T.den} {a:AV},R T H v a→bt H.length v=true
 |.dead,_,h=>by simp[R]at h
 |.hole,_,h=>rfl
 |.lit v,a,h=>rfl
 |.agg l,a,h=>by
  simp only[R]at h
  simp only[bt]
  obtain⟨l',h1,h2⟩:=h
  exact RL.lt h2
 |.ju l,a,h=>by
  simp only[R]at h
  simp only[bt]
  obtain⟨l',h1,h2⟩:=h
  exact RL.lt h2
 |.sl l,a,h=>rfl
 |.jt t l,a,h=>rfl
 |.wR t l c b,a,h=>rfl
 |.nz,a,h=>rfl
 |.bh e j,a,h=>rfl
 |.ref m c i j,a,h=>by
  simp only[R]at h
  simp only[bt,decide_eq_true_eq]
  obtain⟨aq,h1,h2⟩:=h
  exact h2.lt
 |.iU m c i j ln cp,a,h=>by
  simp only[R]at h
  simp only[bt,decide_eq_true_eq]
  obtain⟨aq,h1,h2⟩:=h
  exact h2.lt
 |.bq esz m c rg cap,a,h=>by
  simp only[R]at h
  simp only[bt,decide_eq_true_eq]
  obtain⟨aq,h1,h2⟩:=h
  exact h1.lt
 |.iV fn f c,a,h=>by
  simp only[R]at h
  simp only[bt,Bool.and_eq_true]
  obtain⟨f',c',h1,h2,h3⟩:=h
  exact⟨RL.lt h2,RL.lt h3⟩
 |.gi t v,a,h=>by
  simp only[R]at h
  simp only[bt]
  obtain⟨v',h1,h2⟩:=h
  exact R.lt h2
 |.mp y m,a,h=>by
  grind[R,bt]
 |.sK v s l i,a,h=>by
  simp only[R]at h
  simp only[bt]
  obtain⟨a0,h1,h2⟩:=h
  exact R.lt h1
theorem RL.lt:∀ {l:List (SV T.den)} {m:List AV},RL T H l m→gz H.length l=true
 |[],[],_=>rfl
 |x::xs,y::ys,h=>by
  simp only[RL]at h
  simp only[gz,Bool.and_eq_true]
  exact⟨R.lt h.1,RL.lt h.2⟩
 |[],_::_,h=>by simp[RL]at h
 |_::_,[],h=>by simp[RL]at h
end
theorem yy{n:Nat}:∀ {l:List AV},cN n l=l.all (below n)
 |[]=>rfl
 |x::xs=>by simp only[cN,List.all_cons,yy]
theorem mV:∀ {a:AV},closed a=true→below n a=true
 |.lit _,_=>rfl
 |.agg l,h=>by simp only[Go.PI.closed]at h; simp only[Go.PI.below]; exact gf h
 |.ju l,h=>by simp only[Go.PI.closed]at h; simp only[Go.PI.below]; exact gf h
 |.sl _,_|.pa _ _,_|.bh _ _,_|.any,_|.nz,_=>rfl
 |.ref ..,h|.bq ..,h|.iU ..,h|.mp ..,h=>by simp[Go.PI.closed]at h
 |.iV fn f c,h=>by
  simp only[Go.PI.closed,Bool.and_eq_true]at h
  simp only[Go.PI.below,Bool.and_eq_true]
  exact⟨gf h.1,gf h.2⟩
 |.gi t v,h=>by simp only[Go.PI.closed]at h; simp only[Go.PI.below]; exact mV h
where gf:∀ {l:List AV},aZ l=true→cN n l=true
 |[],_=>rfl
 |x::xs,h=>by
  simp only[aZ,Bool.and_eq_true]at h
  simp only[cN,Bool.and_eq_true]
  exact⟨mV h.1,gf h.2⟩
theorem yz(hT:T.Ok){t:Nat}:∀ {l:List (T.den t)} {m:List AV},aw (T.rp t) l m→cN n m=true
 |[],[],_=>rfl
 |_::_,_::_,h=>by
  simp only[cN,Bool.and_eq_true]
  exact⟨mV (hT.closed _ _ _ h.1),yz hT h.2⟩
theorem Ds:∀ {fr:List (SV T.den)} {vs:List AV},aw (RD T H) fr vs→(fr.all fun v=>bP v||bt n v)=cN n vs
 |[],[],_=>rfl
 |v::fr,a::vs,h=>by
  simp only[List.all_cons,cN]
  rw[Ds h.2]
  congr 1
  rcases h.1 with ⟨rfl,rfl⟩|h1
  ·rfl
  ·have:bP v=false:=by cases v<;>first|rfl|simp[R]at h1
   rw[this,R.below h1]; rfl
theorem Ao[ab](hT:T.Ok){o:Option (aB T.den)}{a:Option aN}(h:Bq T H o a):jX n o=kp n a:=by
 cases o with
 |none=>cases a with
  |none=>rfl
  |some a=>exact h.elim
 |some o=>cases a with
  |none=>exact h.elim
  |some a=>
   cases o with
   |arr g cl f cur es=>
    obtain⟨es',rfl,cC,_⟩:=h
    simp only[jX,kp,aN.below]
    rw[RL.below cC]
   |bW g f cur t l=>obtain⟨es',rfl,_⟩:=h; rfl
   |hJ=>
    rcases h with ⟨g,f,es',rfl⟩|⟨k,vs,rfl,h⟩
    ·rfl
    ·exact(h n).symm
   |kg kk t m=>
    obtain⟨vs,rfl,h⟩:=h
    exact(yz hT h).symm
   |oX fn ps as bd fr=>
    obtain⟨st,vs,rfl,h⟩:=h
    exact Ds h
theorem lf[ab](hT:T.Ok):∀ {l:List (Option (aB T.den))} {m:List (Option aN)},aw (Bq T H) l m→l.all (jX n)=m.all (kp n)
 |[],[],_=>rfl
 |_::_,_::_,h=>by simp only[List.all_cons]; rw[Ao hT h.1,lf hT h.2]
theorem RO.take[ab]{o:aB T.den}{a:aN}(h:RO T H o a)(hb:jX n (some o)=true):RO T (H.take n) o a:=by
 cases o with
 |arr g cl f cur es=>
  obtain⟨es',h1,h2,h3⟩:=h
  refine⟨es',h1,RL.take h2 ?_,h3⟩
  simp only[jX,Bool.or_eq_true]at hb
  rcases hb with hb|hb
  ·exact eg (h3 hb)
  ·exact hb
 |bW g f cur t l=>exact h
 |hJ=>exact h
 |kg kk t m=>exact h
 |oX fn ps as bd fr=>
  obtain⟨st,vs,h1,h2⟩:=h
  refine⟨st,vs,h1,aw.ed h2.length fun i x y hx hy=>?_⟩
  obtain⟨y',AU,hr⟩:=aw.get h2 hx
  rw[hy]at AU
  simp only[Option.some.injEq]at AU
  subst AU
  simp only[jX,List.all_eq_true]at hb
  have:=hb x (List.mem_of_getElem? hx)
  rcases hr with hr|hr
  ·exact .inl hr
  ·have hd:bP x=false:=by cases x<;>first|rfl|simp[R]at hr
   rw[hd,Bool.false_or]at this
   exact .inr (hr.take this)
theorem RH.take[ab](hh:RH T H hp)(hb:(H.take n).all (jX n)=true):RH T (H.take n) (hp.take n):=by
 have h:=aw.take hh n
 rw[List.all_eq_true]at hb
 refine aw.ed h.length fun i x y hx hy=>?_
 obtain⟨y',AU,hr⟩:=aw.get h hx
 rw[hy]at AU
 simp only[Option.some.injEq]at AU
 subst AU
 have:=hb x (List.mem_of_getElem? hx)
 cases x with
 |none=>cases y with
  |none=>trivial
  |some _=>exact hr.elim
 |some o=>cases y with
  |none=>exact hr.elim
  |some a=>exact RO.take hr this
theorem Ia[ab](hT:T.Ok)(hh:RH T H hp){v:SV T.den}{a:AV}(hv:R T H v a):RH T (gb n v H) (gK n a hp)∧R T (gb n v H) v a:=by
 unfold gb gK
 rw[R.below hv,lf hT (aw.take hh n)]
 by_cases hc:(Go.PI.below n a&&(hp.take n).all (kp n))=true
 ·rw[if_pos hc,if_pos hc]
  simp only[Bool.and_eq_true]at hc
  exact⟨hh.take (by rw[lf hT (aw.take hh n)]; exact hc.2),hv.take (by rw[R.below hv]; exact hc.1)⟩
 ·grind
theorem Dt{fr:sL T.den}{t:Nat}:cH (fr.map fun q=>(q.1,qC n q.2)) t=qC n (cH fr t):=by
 induction fr with
 |nil=>rfl
 |cons q r ih=>
  grind[cH]
theorem RV.forget[ab]{v:SV T.den}{a:AV}(h:RV T H v a):RV T (H.take n) (qC n v) (Go.PI.forget n a):=by
 unfold qC Go.PI.forget
 rcases h with rfl|h
 ·left; simp[bt]
 ·rw[R.below h]
  split
  ·rename_i hb; right; exact h.take (by rw[R.below h]; exact hb)
  ·exact .inl rfl
theorem Du{l:List AV}{t:Nat}:(l.map (Go.PI.forget n)).getD t .undef=Go.PI.forget n (l.getD t .undef):=by
 simp only[List.getD_eq_getElem?_getD,List.getElem?_map]
 cases l[t]?<;>rfl
theorem kE.take{js:List (Nat×kY)}(h:kE js H hp)(hj:∀ m x,cm js m=some x→m<n):kE js (H.take n) (hp.take n):=by
 intro m x hm
 obtain⟨h1,h2⟩:=h m x hm
 have bQ:=hj m x hm
 exact⟨by rw[p8 (List.getElem?_take_of_lt bQ)]; exact h1,by rw[nL (List.getElem?_take_of_lt bQ)]; exact h2⟩
theorem Ap{js:List (Nat×kY)}(h:sr js n=true):∀ m x,cm js m=some x→m<n:=by
 intro m x hm
 have:=List.all_eq_true.1 h _ (gC hm)
 exact Nat.le_of_ble_eq_true this
theorem Dw[ab](hT:T.Ok){s:bz T.den}{st:St}(h:RS T s st)(hj:∀ m x,cm s.js m=some x→m<n):RS T (jL n s) (gJ n st):=by
 unfold jL gJ
 rw[lf hT (aw.take h.hp n)]
 by_cases hc:(st.hp.take n).all (kp n)=true
 ·rw[if_pos hc,if_pos hc]
  refine⟨h.fn,by simp[h.n],fun t=>?_,h.hp.take (by rw[lf hT (aw.take h.hp n)]; exact hc),h.js.take hj⟩
  rw[Dt,Du]
  exact(h.fr t).forget
 ·rw[if_neg hc,if_neg hc]
  exact h
theorem mW{den:Nat→Type}{H:ah den}{m:Nat}(hm:m<n):(H.take n)[m]?=H[m]?:=List.getElem?_take_of_lt hm
theorem wi[ab]{s s':bz T.den}{st:St}(h:RS T s st)(ha:bk s s'):bk s (jL s.hp.length s'):=by
 unfold jL
 split
 ·refine⟨ha.fn,ha.n,fun t ht=>?_,ha.wf,fun n hn hw=>?_,ha.wh,?_,?_⟩
  ·simp only at ht ⊢
   rw[Dt,ha.fr t ht]
   unfold qC
   rcases h.fr t with hv|hv
   ·rw[hv]; simp[bt]
   ·rw[if_pos hv.lt]
  ·simp only at hw ⊢
   rw[mW hn]
   exact ha.hp n hn hw
  ·simp only[List.length_take]
   have:=ha.len
   omega
  ·intro n o ho
   obtain⟨o',h1,h2⟩:=ha.grow n o ho
   have bQ:=(List.getElem?_eq_some_iff.1 ho).1
   exact⟨o',by simp only; rw[mW bQ]; exact h1,h2⟩
 ·exact ha
theorem oC[ab](hT:T.Ok){Q:gP}(hQ:Q.Ok){s:bz T.den}{st:St}(h:RS T s st){r:ρ}:∀ {rs:List ResultVar} {K:List (SV T.den)→Tr ρ},(si T Q s rs K).run=some r →
  ∃ l m,(aU Q.P st.fr rs).run st.hp=some m∧RL T s.hp l m∧(K l).run=some r
 |[],K,hk=>⟨[],[],rfl,by simp[RL],hk⟩
 |.tmp t::rs,K,hk=>by
  simp only[si]at hk
  split at hk
  ·simp[Tr.run]at hk
  ·rename_i dN
   obtain⟨l,m,h1,h2,hk⟩:=oC hT hQ h hk
   refine⟨_,st.fr.getD t .undef::m,?_,?_,hk⟩
   ·simp_all[aU,jS,RM.run_bind,RM.run_pure,h1]
   ·simp only[RL]
    refine⟨?_,h2⟩
    rcases h.fr t with hd|hd
    ·simp_all
    ·exact hd
 |.cell a t::rs,K,hk=>by
  simp only[si]at hk
  split at hk
  case h_2=>simp[Tr.run]at hk
  rename_i m hm
  obtain⟨q,h1,h2,h3,_⟩:=hQ.row _ _ hm
  have:∃ v c rd,aE st.hp (kF Q.P t (st.fr.getD a .undef)) c rd∧R T s.hp v c∧(si T Q s rs fun l=>K (v::l)).run=some r:=
   Dg (K:=fun v _ _=>si T Q s rs fun l=>K (v::l)) hT h1 h2 h3 h.hp (h.fr a) hk
  obtain⟨v,c,rd,g1,g2,hk⟩:=this
  obtain⟨l,m',i1,i2,hk⟩:=oC hT hQ h hk
  refine⟨_,c::m',?_,?_,hk⟩
  ·simp only[aU,jS,RM.run_bind,g1.1,RM.run_pure,Option.bind_some,i1]
  ·simp only[RL]
   exact⟨g2,i2⟩
theorem gg[ab]{fv:SV T.den}{fa:AV}(hf:RV T H fv fa){args:List (SV T.den)}{as:List AV}(ha:aw (RV T H) args as){g:FuncId}{l:List (SV T.den)}(h:lO fv args=some (g,l)):
  ∃ m,bE fa as=some (g,m)∧(l.any bP=false→RL T H l m):=by
 unfold lO at h
 split at h
 ·rename_i f first captured
  simp only[Option.some.injEq,Prod.mk.injEq]at h
  obtain⟨rfl,rfl⟩:=h
  have:=hf.lit rfl
  subst this
  refine⟨_,rfl,fun hd=>?_⟩
  refine iQ ?_ hd
  exact((aQ.1 (RL.lits first.toList)).mono fun _ _ h=>.inr h).append ha |>.append ((aQ.1 (RL.lits captured.toList)).mono fun _ _ h=>.inr h)
 ·rename_i f first captured
  simp only[Option.some.injEq,Prod.mk.injEq]at h
  obtain⟨rfl,rfl⟩:=h
  have:=hf.live rfl
  simp only[R]at this
  obtain⟨f',c',rfl,h1,h2⟩:=this
  refine⟨_,rfl,fun hd=>?_⟩
  refine iQ ?_ hd
  exact((aQ.1 h1).mono fun _ _ h=>.inr h).append ha |>.append ((aQ.1 h2).mono fun _ _ h=>.inr h)
 ·simp at h
theorem Dx[ab]{P:Program}{fv:SV T.den}{fa:AV}(hf:RV T H fv fa){name:String}{g:FuncId}{x:SV T.den}(h:GN P fv name=some (g,x)):∃ ax,pe P fa name=some (g,ax)∧R T H x ax:=by
 unfold GN at h
 split at h
 ·rename_i t y
  simp only[Option.map_eq_some_iff,Prod.mk.injEq]at h
  obtain⟨f,hm,rfl,rfl⟩:=h
  have:=hf.live rfl
  simp only[R]at this
  obtain⟨a,rfl,ha⟩:=this
  exact⟨a,by simp only[pe,hm,Option.map_some],ha⟩
 ·simp at h
theorem vh:∀ {l:List (SV T.den)} {d t:Nat},cH (mu d l) t=if d≤t then (match l[t-d]? with|some v=>v|none=>.lit undef) else .lit undef
 |[],d,t=>by simp[mu,cH]
 |v::r,d,t=>by
  simp only[mu,cH]
  split
  ·simp_all
  ·rename_i he
   have dN:d≠t:=fun hc=>by subst hc; simp at he
   rw[vh]
   by_cases hd:d≤t
   ·grind
   ·rw[if_neg hd,if_neg (by omega)]
theorem yA[ab]{f:FuncId}{args:List (SV T.den)}{as:List AV}(ha:RL T H args as)(hh:RH T H hp)(n:Nat)(wh:List Nat){js:List (Nat×kY)}(hj:kE js H hp):
  RS T ⟨f,max n args.length,mu 0 args,H,[],wh,js⟩ ⟨f,as++List.replicate (n-as.length) .undef,hp⟩:=by
 have hl:=ha.length
 refine⟨rfl,by simp; omega,fun t=>?_,hh,hj⟩
 simp only
 rw[vh]
 simp only[Nat.zero_le,if_true,Nat.sub_zero,List.getD_eq_getElem?_getD]
 by_cases ht:t<as.length
 ·rw[List.getElem?_append_left ht]
  obtain⟨v,hv,hr⟩:=aw.get' (aQ.1 ha) (List.getElem?_eq_getElem ht)
  rw[hv,List.getElem?_eq_getElem ht]
  exact .inr hr
 ·rw[List.getElem?_append_right (by omega)]
  have e1:args[t]?=none:=List.getElem?_eq_none (by omega)
  rw[e1]
  simp only
  rw[List.getElem?_replicate]
  split<;>exact bn undef
end
end Go.PI
end
section
/- PS, part N: states with variables. -/
namespace Go.PI
variable {T:dw}{ρ:Type}
def jq{den:Nat→Type}(H:ah den)(n:Nat):Option Nat:=
 match H[n]? with
 |some (some o)=>some o.cur
 |_=>none
theorem oD{den:Nat→Type}{H:ah den}{n:Nat}{o:aB den}(h:H[n]?=some (some o)):jq H n=some o.cur:=by simp[jq,h]
theorem qL{den:Nat→Type}{H:ah den}{n c:Nat}(h:jq H n=some c):∃ o,H[n]?=some (some o)∧o.cur=c:=by
 grind[jq]
def Dy{den:Nat→Type}(ok:Nat→Prop)(Hs Hf:ah den):Prop:=∀ (n:Nat) (o:aB den),ok n→Hs[n]?=some (some o)→∃ of:aB den,Hf[n]?=some (some of)∧of.len=o.len
section
variable {Hs Hf Hc:ah T.den}{ok:Nat→Prop}
theorem S4{H:ah T.den}{v:SV T.den}{k:IntKind}{m:Int}(h:R T H v (.lit (.int k m))):v=.lit (.int k m):=by
 cases v with
 |lit w=>simp_all[R,AV.lit.injEq]
 |bq esz n c rg cap=>
  grind[R]
 |sK v st ln i=>
  simp only[R]at h
  obtain⟨_,_,_,h⟩:=h
  rcases h with ⟨_,_,_,_,_,h⟩|⟨_,_,_,h⟩<;>cases h
 |_=>simp[R]at h
theorem FA[ab](hT:T.Ok){H:ah T.den}{t m:Nat}{x:T.den t}(h:T.dn t (.lit (.int .i64 m))=some x):HW T ⟨.v t,x⟩=m:=by
 have h1:=hT.dn _ _ _ (.lit (.int .i64 m)) H h (by simp[R])
 have h2:=S4 (hT.up _ _ _ H h1)
 show (match T.up t x with|.lit (.int _ m)=>m.toNat|_=>0)=m
 rw[h2]
 simp
theorem sD[ab](hT:T.Ok)(nH:∀ n,jq Hc n=jq Hf n)(hlen:Dy ok Hs Hf){p:oZ}(bM:∀ n,n∈p.kh→ok n){v:SV T.den}{a:AV}(hv:RV T Hs v a){ln:List (TV T.den)}(h:fG Hs p v=some ln)(rest:List (TV T.den)):
  ∃ v',fO Hc p (ln++rest)=(v',rest)∧R T Hf v' a∧(aD v=true→aD v'=true):=by
 cases p with
 |hole=>
  simp only[fG]at h
  split at h
  case h_2=>simp at h
  rename_i hh
  simp only[Option.some.injEq]at h
  subst h
  unfold isHole at hh
  split at hh
  case h_2=>simp at hh
  have hv:=hv.live rfl
  simp only[R]at hv
  subst hv
  exact⟨.hole,rfl,by simp[R],fun h=>h⟩
 |val t=>
  simp only[fG]at h
  split at h
  ·simp at h
  rename_i hd
  split at h
  case h_2=>simp at h
  rename_i x hx
  simp only[Option.some.injEq]at h
  subst h
  have Ed:=hT.dn _ _ _ _ Hs hx (hv.live hd)
  exact⟨T.up t x,rfl,hT.up _ _ _ Hf Ed,fun _=>u4 hT Ed⟩
 |HT esz n rg cap=>
  simp only[fG]at h
  split at h
  case h_2=>simp at h
  rename_i x9 n' c VS Fp
  have hv:=hv.live rfl
  split at h
  case h_2=>simp at h
  rename_i o ho
  split at h
  case isFalse=>simp at h
  rename_i hc
  obtain⟨rfl,rfl,rfl,rfl,rfl⟩:=hc
  simp only[Option.some.injEq]at h
  subst h
  obtain⟨of,Lh,FB⟩:=hlen _ _ (bM _ (by simp[oZ.kh])) ho
  have mY:=nH n'
  rw[oD Lh]at mY
  obtain⟨oc,BJ,Qx⟩:=qL mY
  refine⟨.bq x9 n' oc.cur VS Fp,?_,?_,fun h=>by simp[aD]at h⟩
  ·simp only[fO,BJ,List.nil_append]
  ·simp only[R]at hv ⊢
   obtain⟨aq,⟨o',h1,_,h3⟩,ha⟩:=hv
   rw[ho]at h1
   simp only[Option.some.injEq]at h1
   subst h1
   exact⟨aq,⟨of,Lh,by omega,fun _=>by rw[h3 rfl,FB]⟩,ha⟩
 |iU n i j len cap=>
  simp only[fG]at h
  split at h
  case h_2=>simp at h
  rename_i n' c i' j' NL Fp
  have hv:=hv.live rfl
  split at h
  case h_2=>simp at h
  rename_i o ho
  split at h
  case isFalse=>simp at h
  rename_i hc
  obtain⟨rfl,rfl,rfl,rfl,rfl,rfl⟩:=hc
  simp only[Option.some.injEq]at h
  subst h
  obtain⟨of,Lh,FB⟩:=hlen _ _ (bM _ (by simp[oZ.kh])) ho
  have mY:=nH n'
  rw[oD Lh]at mY
  obtain⟨oc,BJ,Qx⟩:=qL mY
  refine⟨.iU n' oc.cur i' j' NL Fp,?_,?_,fun h=>by simp[aD]at h⟩
  ·simp only[fO,BJ,List.nil_append]
  ·simp only[R]at hv ⊢
   obtain⟨aq,ha,⟨o',h1,_,h3⟩⟩:=hv
   rw[ho]at h1
   simp only[Option.some.injEq]at h1
   subst h1
   exact⟨aq,ha,⟨of,Lh,by omega,fun _=>by rw[h3 rfl,FB]⟩⟩
 |own esz n=>
  simp only[fG]at h
  split at h
  case h_2=>simp at h
  rename_i x9 n' c
  have hv:=hv.live rfl
  split at h
  case h_2=>simp at h
  rename_i o ho
  split at h
  case isFalse=>simp at h
  rename_i hc
  obtain⟨rfl,rfl,rfl⟩:=hc
  simp only[Option.some.injEq]at h
  subst h
  obtain⟨of,Lh,FB⟩:=hlen _ _ (bM _ (by simp[oZ.kh])) ho
  have mY:=nH n'
  rw[oD Lh]at mY
  obtain⟨oc,BJ,Qx⟩:=qL mY
  refine⟨.bq x9 n' oc.cur none none,?_,?_,fun h=>by simp[aD]at h⟩
  ·simp only[fO,BJ,List.nil_append]
  ·simp only[R]at hv ⊢
   obtain⟨aq,⟨o',h1,_,h3⟩,rfl⟩:=hv
   rw[ho]at h1
   simp only[Option.some.injEq]at h1
   subst h1
   exact⟨aq,⟨of,Lh,by omega,fun _=>by rw[h3 rfl,FB]⟩,rfl⟩
 |Ri esz n t k=>
  simp only[fG]at h
  split at h
  case h_2=>simp at h
  rename_i x9 n' c rg cap
  have hv:=hv.live rfl
  split at h
  case h_2=>simp at h
  rename_i o off len ho hr
  split at h
  case isFalse=>simp at h
  rename_i hc
  obtain⟨rfl,rfl,rfl⟩:=hc
  obtain⟨of,Lh,FB⟩:=hlen _ _ (bM _ (by simp[oZ.kh])) ho
  have mY:=nH n'
  rw[oD Lh]at mY
  obtain⟨oc,BJ,Qx⟩:=qL mY
  have hR:R T Hf (.bq x9 n' oc.cur (some (off,len)) cap) a:=by
   simp only[R]at hv ⊢
   obtain⟨aq,⟨o',h1,_,h3⟩,ha⟩:=hv
   rw[ho]at h1
   simp only[Option.some.injEq]at h1
   subst h1
   refine⟨aq,⟨of,Lh,by omega,fun _=>by rw[h3 rfl,FB]⟩,?_⟩
   cases rg with
   |some q=>
    simp_all[mR]
   |none=>
    have hb:Nat.beq o.cur o.cur=true:=by simp
    simp only[mR,ho,hb,if_true,Option.some.injEq,Prod.mk.injEq]at hr
    obtain⟨rfl,rfl⟩:=hr
    rw[←h3 rfl]
    exact ha
  rw[Option.bind_eq_some_iff]at h
  obtain⟨x,hx,h⟩:=h
  rw[Option.bind_eq_some_iff]at h
  obtain⟨y,hy,h⟩:=h
  have ex:=FA hT (H:=Hs) hx
  have ey:=FA hT (H:=Hs) hy
  split at h
  ·simp only[Option.some.injEq]at h
   subst h
   exact⟨_,by simp only[fO,List.cons_append,List.nil_append,BJ,ex,ey],hR,fun h=>by simp[aD]at h⟩
  ·obtain⟨z,hz,hl⟩:∃ z,T.dn t (.lit (.int .i64 _))=some z∧_=ln:=Option.map_eq_some_iff.1 h
   subst hl
   have ez:=FA hT (H:=Hs) hz
   exact⟨_,by simp only[fO,List.cons_append,List.nil_append,BJ,ex,ey,ez],hR,fun h=>by simp[aD]at h⟩
  ·simp at h
theorem wj[ab](hT:T.Ok)(nH:∀ n,jq Hc n=jq Hf n)(hlen:Dy ok Hs Hf):∀ {ps:List oZ} {vs:List (SV T.den)} {as:List AV} {ln:List (TV T.den)},(∀ n,n∈ps.flatMap oZ.kh→ok n)→RL T Hs vs as→ic Hs ps vs=some ln→∀ rest:List (TV T.den),
  ∃ vs',jj Hc ps (ln++rest)=(vs',rest)∧RL T Hf vs' as∧(av vs=true→av vs'=true)
 |[],[],[],ln,_,_,h,rest=>by
  simp only[ic,Option.some.injEq]at h
  subst h
  exact⟨[],rfl,by simp[RL],fun _=>rfl⟩
 |p::ps,v::vs,a::as,ln,bM,hr,h,rest=>by
  simp only[RL]at hr
  simp only[ic,Option.bind_eq_some_iff,Option.map_eq_some_iff]at h
  obtain⟨l1,h1,l2,h2,rfl⟩:=h
  obtain⟨v',e1,e2,e3⟩:=sD hT nH hlen (fun n hn=>bM n (by simp[hn])) (.inr hr.1) h1 (l2++rest)
  obtain⟨vs',g1,g2,g3⟩:=wj hT nH hlen (fun n hn=>bM n (by simp only[List.flatMap_cons,List.mem_append]; exact .inr hn)) hr.2 h2 rest
  refine⟨v'::vs',?_,by simp only[RL]; exact⟨e2,g2⟩,fun hc=>?_⟩
  ·simp_all[jj]
  ·simp_all[av]
 |[],_::_,_,_,_,_,h,_=>by simp[ic]at h
 |_::_,[],_,_,_,_,h,_=>by simp[ic]at h
 |_,[],_::_,_,_,h,_,_=>by simp[RL]at h
 |_,_::_,[],_,_,h,_,_=>by simp[RL]at h
end
def Compat{T:dw}(o:aB T.den):cO→Prop
 |.list t=>∃ g f c l,o=.bW g f c t l
 |.fix t=>∃ g f c l,o=.bW g f c t l
 |.one _=>∃ g cl f c es,o=.arr g cl f c es
 |.agg _=>∃ g cl f c es,o=.arr g cl f c es
 |.map kk t=>∃ m,o=.kg kk t m
section
variable {Hs Hf Hc:ah T.den}{ok:Nat→Prop}
theorem tR[ab](hT:T.Ok){os:aB T.den}{t:Nat}{ln:List (TV T.den)}(h:ee Hs os (.list t)=some ln∨ee Hs os (.fix t)=some ln):
  ∃ l:List (T.den t),ln=[⟨.l t,l⟩]∧l.length=os.len∧os.flags.2.1=true∧∀ a,RO T Hs os a→∃ es,a=.arr os.flags.1 true os.flags.2.2 es∧aw (T.rp t) l es:=by
 have h2:ee Hs os (.list t)=some ln:=h.elim id id
 clear h
 have h:=h2
 clear h2
 unfold ee at h
 simp only at h
 split at h
 ·rename_i g f c t' l
  split at h
  case isFalse=>simp at h
  rename_i ht
  subst ht
  refine⟨l,(Option.some.inj h).symm,rfl,rfl,fun a ha=>?_⟩
  obtain⟨es,rfl,cC⟩:=ha
  exact⟨es,rfl,cC⟩
 ·rename_i g f c es
  cases hd:oP T t es with
  |none=>rw[hd]at h; cases h
  |some l=>
   rw[hd]at h
   refine⟨l,(Option.some.inj h).symm,?_,rfl,fun a ha=>?_⟩
   ·have:∀ {l:List (T.den t)} {es:List (SV T.den)},oP T t es=some l→l.length=es.length:=by
     intro l es
     induction es generalizing l with
     |nil=>simp_all[oP]
     |cons x xs ih=>
      intro h
      simp only[oP,Option.bind_eq_some_iff,Option.map_eq_some_iff]at h
      obtain⟨_,_,y,hy,rfl⟩:=h
      simp[ih hy]
    exact this hd
   ·obtain⟨es',rfl,cC,_⟩:=ha
    exact⟨es',rfl,p5 hT cC hd⟩
 ·simp at h
theorem tS{os:aB T.den}{kk:KK}{t:Nat}{ln:List (TV T.den)}(h:ee Hs os (.map kk t)=some ln):∃ m,os=.kg kk t m∧ln=[⟨.m kk t,m⟩]:=by
 unfold ee at h
 simp only at h
 split at h
 case h_2=>simp at h
 rename_i qP t' m
 split at h
 case isFalse=>simp at h
 rename_i hc
 obtain⟨rfl,rfl⟩:=hc
 exact⟨m,rfl,(Option.some.inj h).symm⟩
theorem zi[ab](hT:T.Ok){o os:aB T.den}{p:cO}(hc:Compat o p){ln:List (TV T.den)}(h:ee Hs os p=some ln)(rest:List (TV T.den))
  (hp:∀ q (v:SV T.den) l,fG Hs q v=some l→∀ rest,(fO Hc q (l++rest)).2=rest) :
  ∃ o',jk Hc o p (ln++rest)=(o',rest)∧o'.cur=o.cur∧o'.len=os.len:=by
 have SU:∀ (ps:List oZ) (vs:List (SV T.den)) l,ic Hs ps vs=some l→∀ rest,(jj Hc ps (l++rest)).2=rest:=by
  intro ps
  induction ps with
  |nil=>
   intro vs l hl rest
   cases vs with
   |nil=>simp[ic]at hl; subst hl; rfl
   |cons=>simp[ic]at hl
  |cons q ps ih=>
   intro vs l hl rest
   cases vs with
   |nil=>simp[ic]at hl
   |cons v vs=>
    simp only[ic,Option.bind_eq_some_iff,Option.map_eq_some_iff]at hl
    obtain⟨l1,h1,l2,h2,rfl⟩:=hl
    have e1:=hp q v l1 h1 (l2++rest)
    have e2:=ih vs l2 h2 rest
    simp only[jj,List.append_assoc]
    rw[e1]
    exact e2
 cases p with
 |list t=>
  obtain⟨g,f,c,l0,rfl⟩:=hc
  obtain⟨l,rfl,hl,_⟩:=tR hT (.inl h)
  exact⟨.bW g f c t l,rfl,rfl,hl⟩
 |fix t=>
  obtain⟨g,f,c,l0,rfl⟩:=hc
  obtain⟨l,rfl,hl,_⟩:=tR hT (.inr h)
  exact⟨.bW g f c t l,rfl,rfl,hl⟩
 |one q=>
  obtain⟨g,cl,f,c,es,rfl⟩:=hc
  simp only[ee]at h
  split at h
  case h_2=>simp at h
  rename_i v
  have e:=hp q v ln h rest
  refine⟨.arr g cl f c [(fO Hc q (ln++rest)).1],?_,rfl,rfl⟩
  have e2:fO Hc q (ln++rest)=((fO Hc q (ln++rest)).1,rest):=Prod.ext rfl e
  simp only[jk]
  rw[e2]
 |agg ps=>
  obtain⟨g,cl,f,c,es,rfl⟩:=hc
  simp only[ee]at h
  split at h
  case h_2=>simp at h
  rename_i vs
  have e:=SU ps vs ln h rest
  refine⟨.arr g cl f c [.agg (jj Hc ps (ln++rest)).1],?_,rfl,rfl⟩
  have e2:jj Hc ps (ln++rest)=((jj Hc ps (ln++rest)).1,rest):=Prod.ext rfl e
  simp only[jk]
  rw[e2]
 |map kk t=>
  obtain⟨m0,rfl⟩:=hc
  obtain⟨m,rfl,rfl⟩:=tS h
  exact⟨.kg kk t m,rfl,rfl,rfl⟩
theorem yB[ab](hT:T.Ok)(nH:∀ n,jq Hc n=jq Hf n)(hlen:Dy ok Hs Hf){o os o':aB T.den}{p:cO}(bM:∀ n,n∈p.kh→ok n)(hc:Compat o p){ln:List (TV T.den)}(h:ee Hs os p=some ln){rest:List (TV T.den)}
  (ho:jk Hc o p (ln++rest)=(o',rest)) (qU:o.flags.1=os.flags.1) (iH:o.flags.2.1=os.flags.2.1) (Mr:o.flags.2.2=os.flags.2.2) {a:aN} (ha:RO T Hs os a):RO T Hf o' a:=by
 cases p with
 |list t=>
  obtain⟨g,f,c,l0,rfl⟩:=hc
  obtain⟨l,rfl,hl,_,hr⟩:=tR hT (.inl h)
  obtain⟨es,rfl,cC⟩:=hr a ha
  simp only[jk,List.cons_append,List.nil_append,Prod.mk.injEq]at ho
  obtain⟨rfl,_⟩:=ho
  have hg:g=os.flags.1:=qU
  have hf:f=os.flags.2.2:=Mr
  exact⟨es,by rw[hg,hf],cC⟩
 |fix t=>
  obtain⟨g,f,c,l0,rfl⟩:=hc
  obtain⟨l,rfl,hl,_,hr⟩:=tR hT (.inr h)
  obtain⟨es,rfl,cC⟩:=hr a ha
  simp only[jk,List.cons_append,List.nil_append,Prod.mk.injEq]at ho
  obtain⟨rfl,_⟩:=ho
  have hg:g=os.flags.1:=qU
  have hf:f=os.flags.2.2:=Mr
  exact⟨es,by rw[hg,hf],cC⟩
 |one q=>
  obtain⟨g,cl,f,c,es,rfl⟩:=hc
  simp only[ee]at h
  split at h
  case h_2=>simp at h
  rename_i g' cl' f' c' v
  simp only[aB.flags]at qU iH Mr
  subst qU; subst iH; subst Mr
  obtain⟨es',rfl,cC,mh⟩:=ha
  match es',cC with
  |[b],cC=>
   simp only[RL]at cC
   obtain⟨v',e1,e2,e3⟩:=sD hT nH hlen bM (.inr cC.1) h rest
   simp only[jk,e1,Prod.mk.injEq,and_true]at ho
   subst ho
   refine⟨[b],rfl,by simp only[RL]; exact⟨e2,trivial⟩,fun mY=>?_⟩
   have:=mh mY
   simp only[av,Bool.and_true]at this ⊢
   exact e3 this
  |[],cC=>simp[RL]at cC
  |_::_::_,cC=>simp[RL]at cC
 |agg ps=>
  obtain⟨g,cl,f,c,es,rfl⟩:=hc
  simp only[ee]at h
  split at h
  case h_2=>simp at h
  rename_i g' cl' f' c' vs
  simp only[aB.flags]at qU iH Mr
  subst qU; subst iH; subst Mr
  obtain⟨es',rfl,cC,mh⟩:=ha
  match es',cC with
  |[b],cC=>
   simp only[RL,R]at cC
   obtain⟨⟨as,rfl,cC⟩,_⟩:=cC
   obtain⟨vs',e1,e2,e3⟩:=wj hT nH hlen bM cC h rest
   simp only[jk,e1,Prod.mk.injEq,and_true]at ho
   subst ho
   refine⟨[.agg as],rfl,by simp only[RL,R]; exact⟨⟨as,rfl,e2⟩,trivial⟩,fun mY=>?_⟩
   have:=mh mY
   simp only[av,aD,Bool.and_true]at this ⊢
   exact e3 this
  |[],cC=>simp[RL]at cC
  |_::_::_,cC=>simp[RL]at cC
 |map kk t=>
  obtain⟨m0,rfl⟩:=hc
  obtain⟨m,rfl,rfl⟩:=tS h
  simp only[jk,List.cons_append,List.nil_append,Prod.mk.injEq]at ho
  obtain⟨rfl,_⟩:=ho
  exact ha
theorem Dz{q:oZ}{v:SV T.den}{l:List (TV T.den)}(h:fG Hs q v=some l)(rest:List (TV T.den)):(fO Hc q (l++rest)).2=rest:=by
 cases q with
 |HT esz n rg cap=>
  simp only[fG]at h
  split at h
  case h_2=>simp at h
  split at h
  case h_2=>simp at h
  split at h
  case isFalse=>simp at h
  simp only[Option.some.injEq]at h
  subst h
  rfl
 |iU n i j len cap=>
  simp only[fG]at h
  split at h
  case h_2=>simp at h
  split at h
  case h_2=>simp at h
  split at h
  case isFalse=>simp at h
  simp only[Option.some.injEq]at h
  subst h
  rfl
 |hole=>
  simp only[fG]at h
  split at h
  case h_2=>simp at h
  simp only[Option.some.injEq]at h
  subst h
  rfl
 |val t=>
  simp only[fG]at h
  split at h
  ·simp at h
  split at h
  case h_2=>simp at h
  simp only[Option.some.injEq]at h
  subst h
  rfl
 |own esz n=>
  simp only[fG]at h
  split at h
  case h_2=>simp at h
  split at h
  case h_2=>simp at h
  split at h
  case isFalse=>simp at h
  simp only[Option.some.injEq]at h
  subst h
  rfl
 |Ri esz n t k=>
  simp only[fG]at h
  split at h
  case h_2=>simp at h
  split at h
  case h_2=>simp at h
  split at h
  case isFalse=>simp at h
  rw[Option.bind_eq_some_iff]at h
  obtain⟨x,hx,h⟩:=h
  rw[Option.bind_eq_some_iff]at h
  obtain⟨y,hy,h⟩:=h
  split at h
  ·simp only[Option.some.injEq]at h
   subst h
   rfl
  ·obtain⟨z,_,hl⟩:∃ z,T.dn t (.lit (.int .i64 _))=some z∧_=l:=Option.map_eq_some_iff.1 h
   subst hl
   rfl
  ·simp at h
theorem nodup_cons{x:Nat}{l:List Nat}(h:cZ (x::l)=true):x∉l∧cZ l=true:=by
 simp_all[cZ,decide_eq_false_iff_not]
theorem Ib{H:ah T.den}{n:Nat}{o o':aB T.den}(ho:H[n]?=some (some o))(hc:o'.cur=o.cur)(m:Nat):jq (H.set n (some o')) m=jq H m:=by
 unfold jq
 by_cases e:m=n
 ·grind
 ·rw[List.getElem?_set_ne (Ne.symm e)]
theorem rE[ab](hT:T.Ok):∀ {objs:List (Nat×cO)} {H:ah T.den} {l:List (TV T.den)} (rest:List (TV T.den)),cZ (objs.map (·.1))=true→jZ Hs objs=some l →
  (∀ q,q∈objs→∃ o,H[q.1]?=some (some o)∧Compat o q.2) →
  (gd H objs (l++rest)).length=H.length∧(∀ n:Nat,n∉objs.map (·.1)→(gd H objs (l++rest))[n]?=H[n]?)∧(∀ n,jq (gd H objs (l++rest)) n=jq H n) ∧
  (∀ q,q∈objs→∃ o os o' ln Hc DA,H[q.1]?=some (some o)∧Hs[q.1]?=some (some os)∧ee Hs os q.2=some ln∧(∀ n,jq Hc n=jq H n)∧jk Hc o q.2 (ln++DA)=(o',DA) ∧
    (gd H objs (l++rest))[q.1]?=some (some o')∧o'.cur=o.cur∧o'.len=os.len)
 |[],H,l,rest,_,_,_=>⟨rfl,fun _ _=>rfl,fun _=>rfl,fun q hq=>by simp at hq⟩
 |(n,p)::objs,H,l,rest,zX,o7,Q7=>by
  simp only[List.map_cons]at zX
  obtain⟨Li,zX⟩:=nodup_cons zX
  simp only[jZ]at o7
  split at o7
  case h_2=>simp at o7
  rename_i os XM
  rw[Option.bind_eq_some_iff]at o7
  obtain⟨ln,h1,o7⟩:=o7
  rw[Option.map_eq_some_iff]at o7
  obtain⟨l2,h2,rfl⟩:=o7
  obtain⟨o,ho,YF⟩:=Q7 (n,p) (by simp)
  simp only at ho YF
  obtain⟨o',e1,e2,e3⟩:=zi (Hc:=H) hT YF h1 (l2++rest) fun q v l hl rest=>Dz hl rest
  have S5:gd H ((n,p)::objs) (ln++l2++rest)=gd (H.set n (some o')) objs (l2++rest):=by
   simp_all[gd,ho]
  rw[S5]
  have bQ:=(List.getElem?_eq_some_iff.1 ho).1
  have Wm:∀ q,q∈objs→∃ o,(H.set n (some o'))[q.1]?=some (some o)∧Compat o q.2:=by
   grind
  obtain⟨i1,i2,i3,i4⟩:=rE hT rest zX h2 Wm
  have ui:=Ib ho e2
  refine⟨by rw[i1]; simp,fun m hm=>?_,fun m=>by rw[i3,ui],fun q hq=>?_⟩
  ·grind
  ·grind
theorem sE[ab]:∀ {objs:List (Nat×cO)} {H:ah T.den},cZ (objs.map (·.1))=true →
  (rn H objs).length=H.length∧(∀ n:Nat,n∉objs.map (·.1)→(rn H objs)[n]?=H[n]?)∧(∀ q,q∈objs→∀ o,H[q.1]?=some (some o)→(rn H objs)[q.1]?=some (some (mz o q.2)))
 |[],H,_=>⟨rfl,fun _ _=>rfl,fun q hq=>by simp at hq⟩
 |(n,p)::objs,H,zX=>by
  simp only[List.map_cons]at zX
  obtain⟨Li,zX⟩:=nodup_cons zX
  simp only[rn]
  split
  ·rename_i o ho
   have bQ:=(List.getElem?_eq_some_iff.1 ho).1
   obtain⟨i1,i2,i3⟩:=sE (objs:=objs) (H:=H.set n (some (mz o p))) zX
   refine⟨by rw[i1]; simp,fun m hm=>?_,fun q hq o2 uB=>?_⟩
   ·grind
   ·grind
  ·rename_i xi
   obtain⟨i1,i2,i3⟩:=sE (objs:=objs) (H:=H) zX
   refine⟨i1,fun m hm=>?_,fun q hq o2 uB=>?_⟩
   ·simp_all
   ·grind
theorem qb[ab](hT:T.Ok)(nH:∀ n,jq Hc n=jq Hf n)(hlen:Dy ok Hs Hf){N:Nat}{frs:sL T.den}{ast:Nat→AV}(eu:∀ t,RV T Hs (cH frs t) (ast t)):
  ∀ {az:List (Nat×oZ)} {fr:sL T.den} {l:List (TV T.den)} (rest:List (TV T.den)),cZ (az.map (·.1))=true→(∀ q,q∈az→q.1<N∧∀ n,n∈q.2.kh→ok n)→pT Hs frs az=some l →
    ∃ yZ,qD N Hc fr az (l++rest)=(yZ,rest)∧(∀ t,t∉az.map (·.1)→cH yZ t=cH fr t)∧(∀ q,q∈az→R T Hf (cH yZ q.1) (ast q.1))
 |[],fr,l,rest,_,_,h=>by
  simp only[pT,Option.some.injEq]at h
  subst h
  exact⟨fr,rfl,fun _ _=>rfl,fun q hq=>by simp at hq⟩
 |(d,p)::az,fr,l,rest,zX,hN,h=>by
  simp only[List.map_cons]at zX
  obtain⟨Li,zX⟩:=nodup_cons zX
  simp only[pT,Option.bind_eq_some_iff,Option.map_eq_some_iff]at h
  obtain⟨l1,h1,l2,h2,rfl⟩:=h
  obtain⟨v',e1,e2,_⟩:=sD hT nH hlen (hN (d,p) (by simp)).2 (eu d) h1 (l2++rest)
  obtain⟨yZ,i1,i2,i3⟩:=qb hT nH hlen eu (fr:=tE N fr d v') rest zX (fun q hq=>hN q (List.mem_cons_of_mem _ hq)) h2
  refine⟨yZ,?_,fun t ht=>?_,fun q hq=>?_⟩
  ·simp_all[qD]
  ·simp only[List.map_cons,List.mem_cons,not_or]at ht
   rw[i2 t ht.2,kn,if_neg (by omega)]
  ·rcases List.mem_cons.1 hq with rfl|hq
   ·rw[i2 d Li,kn,if_pos ⟨rfl,(hN (d,p) (by simp)).1⟩]
    exact e2
   ·exact i3 q hq
theorem vj[ab]{N:Nat}:∀ {dead:List Nat} {fr:sL T.den} {t:Nat},cH (Ab N fr dead) t=(if t∈dead∧t<N then .dead else cH fr t)
 |[],fr,t=>by simp[Ab]
 |d::r,fr,t=>by
  simp only[Ab]
  rw[vj,kn]
  by_cases h1:t∈r∧t<N
  ·simp_all
  ·grind
end
end Go.PI
end
