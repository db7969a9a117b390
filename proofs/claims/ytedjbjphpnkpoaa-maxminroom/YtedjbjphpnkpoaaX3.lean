/- Part 3 of the proof: texts of this session laid one behind the other. -/
import Derived.Test.YtedjbjphpnkpoaaX2
set_option linter.unusedVariables false
set_option linter.unusedSimpArgs false
section
/- PS, part B: the operations on symbolic values, and the evaluator of code to a tree. -/
namespace Go.PI
structure vQ(T:dw)where
 args:List Nat
 el:Nat
 esz:Nat
 fn:HL T.den (args.map .v)→Option (List (T.den el))
inductive Tw where
 |num (d j b:Nat)
 |XS (d j n:Nat)
 |arr (d n:Nat)
 |name (d:Nat)
 |int (d j:Nat)
structure od where
 C:Ctx
 T:dw
 sum:FuncId→Option (uK T)
 hint:FuncId→Nat→Option Hint
 uM:FuncId→Nat→Bool
 M:List (Nat×j0)
 own:FuncId→Option (vQ T):=fun _=>none
 tD:FuncId→Nat→Bool:=fun _ _=>false
 tw:FuncId→Tmp→List Tw:=fun _ _=>[]
def od.Q(S:od):gK:=⟨S.C.P,S.M,fun _=>false⟩
def od.Qf(S:od)(f:FuncId):gK:=⟨S.C.P,S.M,S.tD f⟩
section
variable {T:dw}{ρ:Type}
abbrev EK(T:dw)(ρ:Type):=SV T.den→List (Nat×aC T.den)→List Nat→Tr ρ
def oO(r:Option AV)(K:EK T ρ):Tr ρ:=
 match r with
 |some (.lit v)=>K (.lit v) [] []
 | _ => .no "via"
def xP(r:Option (SV T.den))(rd:List Nat)(K:EK T ρ):Tr ρ:=
 match r with
 |some v=>K v [] rd
 | none => .no "part"
def fU(v:SV T.den)(K:Nat→Tr ρ):Tr ρ:=
 match v with
 |.lit (.int _ n)=>.cond (decide (0≤n)) (K n.toNat) .fail
 |_=>.fail
def T8{den:Nat→Type}:SV den→Bool
 |.lit (.int _ n)=>decide (n=0)
 |_=>false
def ji(d:Nat)(v:Option (SV T.den))(K:Nat→Tr ρ):Tr ρ:=
 match v with
 |none=>K d
 |some v=>fU v K
def fw(i:Nat):Nat→Nat→(Nat→Tr ρ)→Tr ρ
 |0,_,_=>.fail
 |len+1,m,K=>.cond (decide (i=m)) (K m) (fw i len (m+1) K)
def im(d:Nat):SV T.den→SV T.den
 |.ref n c i j=>.ref n c i (j+d)
 |.bf e j=>.bf e (j+d)
 |.sH v s l i=>.sH (im d v) s l i
 |v=>v
def gx(e:SV T.den)(j aV:Nat):Nat→Option (List (SV T.den))
 |0=>some []
 |n+1=>(nI false 1 e j).bind fun x=>(gx e (j+aV) aV n).map fun l=>x::l
def uN(k:IntKind):List (SV T.den)→Option (List Int)
 |[]=>some []
 |.lit (.int k' n)::r=>if k'=k then (uN k r).map fun l=>n::l else none
 |_=>none
def tE:List (SV T.den)→Option (List Bool)
 |[]=>some []
 |.lit (.bool b)::r=>(tE r).map fun l=>b::l
 |_=>none
def Gv{α:Type}(l:List α)(i:Nat)(d:α):α:=l.getD i d
def Kx(i:Nat)(xs:List (SV T.den)):Option (SV T.den):=
 match xs with
 |.lit (.int k n)::r=>(uN k r).map fun l=>.lit (.int k (Gv (n::l) i n))
 |.lit (.bool b)::r=>(tE r).map fun l=>.lit (.bool (Gv (b::l) i b))
 |_=>none
def T9(t:Nat)(x:T.den t)(K:SV T.den→Tr ρ):Tr ρ:=
 match T.alt t with
 |none=>K (T.up t x)
 |some f=>.cond (f.1 x) (K (f.2.1 x)) (K (f.2.2 x))
def oe(r:j0)(H:ah T.den)(a:SV T.den)(K:EK T ρ):Tr ρ:=
 match a with
 |.ref n c i j=>
  match H[n]? with
  |some (some (.arr _ _ _ cur es))=>(match Nat.beq c cur with
   |true=>(match es[i]? with
    |some e=>xP (nI r.agg r.size e j) [n] K
    | none => .no "memory")
   | false => .no "memory")
  |some (some (.bW _ _ cur t l))=>(match Nat.beq c cur with
   |true=>.bind l[i]? fun x=>T9 t x fun v=>xP (nI r.agg r.size v j) [n] K
   | false => .no "memory")
  | _ => .no "memory"
 |.bf e j=>xP (nI r.agg r.size e j) [] K
 | _ => .no "memory"
def E8(H:ah T.den)(a:SV T.den)(aV len:Nat):Option (List (SV T.den)×List Nat):=
 match a with
 |.ref n c i j=>(match H[n]? with
  |some (some (.arr _ _ _ cur es))=>(match Nat.beq c cur with
   |true=>(es[i]?).bind fun e=>(gx e j aV len).map fun l=>(l,[n])
   |false=>none)
  |_=>none)
 |.bf e j=>(gx e j aV len).map fun l=>(l,[])
 |_=>none
def Gw(r:j0)(H:ah T.den)(a:SV T.den)(K:EK T ρ):Tr ρ:=
 match a with
 |.sH v aV len i=>
  (match !r.agg&&Nat.beq r.size 1,E8 H v aV len with
  |true,some (xs,rd)=>(match Kx i xs with
   |some x=>K x [] rd
   |none=>fw i len 0 fun m=>oe r H (im (m*aV) v) K)
  |_,_=>fw i len 0 fun m=>oe r H (im (m*aV) v) K)
 |a=>oe r H a K
def qC(r:j0)(H:ah T.den)(a v:SV T.den)(K:EK T ρ):Tr ρ:=
 match bN v,decide ((bI v).length=r.size)&&(bI v).all gu with
 |false,true=>(match a with
  |.ref n c i j=>
   match H[n]? with
   |some (some (.arr g cl f cur es))=>(match Nat.beq c cur&&!f with
    |true=>(match es[i]? with
     |some e=>(match fS e j (bI v) with
      |some e'=>K (.lit undef) [(n,.arr g (cl&&av (bI v)) f cur (es.set i e'))] [n]
      | none => .no "memory")
     | none => .no "memory")
    | false => .no "memory")
   |some (some (.bW g f cur t l))=>(match Nat.beq c cur&&!f&&av (bI v) with
    |true=>.bind l[i]? fun x=>(match fS (T.up t x) j (bI v) with
     |some e'=>(match T.dn t e' with
      |some y=>K (.lit undef) [(n,.bW g f cur t (l.set i y))] [n]
      | none => .no "memory")
     | none => .no "memory")
    | false => .no "memory")
   | _ => .no "memory"
  | _ => .no "memory")
 | _, _ => .no "memory"
def E9(l:List (SV T.den))(j aV i m:Nat)(k:IntKind)(y:Int):List Int→List (SV T.den)
 |[]=>l
 |x::r=>E9 (l.set j (.lit (.int k (cond (Nat.beq i m) y x)))) (j+aV) aV i (m+1) k y r
def Fa(H:ah T.den)(a v:SV T.den)(aV len i:Nat):Option (Nat×aC T.den):=
 match a,v with
 |.ref n c i0 j,.lit (.int k y)=>(match H[n]? with
  |some (some (.arr g cl f cur es))=>(match Nat.beq c cur&&!f&&Nat.blt 0 aV,es[i0]? with
   |true,some (.agg l)=>((gx (.agg l) j aV len).bind (uN k)).map fun ns=>
    (n,.arr g cl f cur (es.set i0 (.agg (E9 l j aV i 0 k y ns))))
   |_,_=>none)
  |_=>none)
 |_,_=>none
def Fb(r:j0)(H:ah T.den)(a v:SV T.den)(K:EK T ρ):Tr ρ:=
 match a with
 |.sH b aV len i=>(match Nat.beq r.size 1,Fa H b v aV len i with
  |true,some (n,o)=>K (.lit undef) [(n,o)] [n]
  |_,_=>fw i len 0 fun m=>qC r H (im (m*aV) b) v K)
 |a=>qC r H a v K
def Fc(Q:gK)(t:TypeId)(parts:List (Nat×SV T.den)):Option (SV T.den):=
 match Q.ty t with
 |some r=>
  match r.kind,r.zero.bind gw with
  |.struct fs,some z=>(match Q.uI fs with
   |some pl=>(zZ (fun i=>pl[i]?) (bI z) parts).map .agg
   |none=>none)
  |.array _ e,some z=>(match Q.ty e with
   |some q=>(zZ (fun i=>some (i*q.size,q.size)) (bI z) parts).map .agg
   |none=>none)
  |_,_=>none
 |none=>none
def pT(Q:gK)(nm:Nat)(t:TypeId)(len:Nat)(parts:List (Nat×SV T.den))(K:EK T ρ):Tr ρ:=
 match Q.elem t with
 |some r=>
  match (r.zero).bind gw with
  |some z=>
   if 0<r.size∧len*r.size≤2^24∧parts.all (fun p=>decide (p.1<len)&&kW r.agg r.size p.2)=true then
    K (.bq r.size nm 0 none (some len)) [(nm,.arr false (av (parts.map (·.2))) false 0 (fk (List.replicate len z) parts))] []
   else .no "buildSlice"
  | none => .no "buildSlice"
 | none => .no "buildSlice"
def rZ(Q:gK)(nm:Nat)(t:TypeId)(l c:SV T.den)(K:EK T ρ):Tr ρ:=
 match Q.elemOf t with
 |some (e,r)=>
  match r.zero,T.zero e,decide (0<r.size) with
  |some _,some z,true=>
   fU l fun l=>fU c fun c=>
    .cond (decide (l≤c)&&decide (c*r.bytes≤2^47)&&decide (c<2^62))
     (K (.bq r.size nm 0 (some (0,l)) (some c)) [(nm,.bW false false 0 e (List.replicate c z))] []) .fail
  |_,_,_=>.fail
 |none=>.fail
def r8(Q:gK)(nm:Nat)(t:TypeId)(l:SV T.den)(K:EK T ρ):Tr ρ:=
 match Q.elemOf t with
 |some (e,r)=>
  match r.zero,T.zero e,decide (0<r.size) with
  |some _,some z,true=>
   fU l fun c=>.cond (decide (c*r.bytes≤2^47)&&decide (c<2^62)) (K (.bq r.size nm 0 none (some c)) [(nm,.bW false false 0 e (List.replicate c z))] []) .fail
  |_,_,_=>.fail
 |none=>.fail
def Ky:Operand→Operand→Bool
 |.tmp a,.tmp b=>Nat.beq a b
 |_,_=>false
def mU(H:ah T.den)(n c:Nat)(rg:Option (Nat×Nat)):Option (Nat×Nat):=
 match rg with
 |some q=>some q
 |none=>match H[n]? with
  |some (some o)=>if Nat.beq c o.cur then some (0,o.len) else none
  |_=>none
def uO:Option (SV T.den)→Option (Option AV)
 |none=>some none
 |some v=>(mT v).map some
def PY(Q:gK)(H:ah T.den)(t:TypeId)(x:SV T.den)(lo hi mx:Option (SV T.den))(K:EK T ρ):Tr ρ:=
 match x with
 |.lit v=>(match uO lo,uO hi,uO mx with
  |some l,some h,some m=>(match m8 Q.P t (.lit v) l h m with
   |some (.lit v)=>K (.lit v) [] []
   |some .nz=>K .nz [] []
   | _ => .no "via")
  | _, _, _ => .no "index")
 |.sl xs=>
  (match Q.elem t,mx with
  |some r,none=>ji 0 lo fun l=>ji xs.length hi fun h=>
   fw l (xs.length+1) 0 fun l=>fw h (xs.length+1) 0 fun h=>
    (match decide (l≤h)&&decide (h≤xs.length)&&xs.all (kW r.agg r.size) with
    |true=>K (.sl ((xs.drop l).take (h-l))) [] []
    | false => .no "index")
  | _, _ => .no "index")
 |.jt t' l=>
  (match Q.elem t,mx with
  |some r,none=>(match decide (r.agg=T.agg t')&&decide (r.size=T.size t') with
   |true=>(match lo,hi with
    |none,none=>K (.jt t' l) [] []
    |some lo,none=>fU lo fun a=>.cond (decide (a≤l.length)) (K (.jt t' (l.drop a)) [] []) .fail
    |none,some hi=>fU hi fun b=>.cond (decide (b≤l.length)) (K (.jt t' (l.take b)) [] []) .fail
    |some lo,some hi=>fU lo fun a=>fU hi fun b=>
     .cond (decide (a≤b)&&decide (b≤l.length)) (K (.jt t' ((l.drop a).take (b-a))) [] []) .fail)
   | false => .no "index")
  |some r,some mx=>(match decide (r.agg=T.agg t')&&decide (r.size=T.size t'),hi with
   |true,some hi=>(match lo.isNone&&(T8 hi&&T8 mx) with
    |true=>K .nz [] []
    |false=>ji 0 lo fun a=>fU hi fun b=>fU mx fun m=>
    .cond (decide (a≤b)&&decide (b≤m)&&decide (m≤l.length)&&decide (a<m)) (K (.wK t' ((l.drop a).take (b-a)) (m-a) (!l.isEmpty)) [] []) .fail)
   | _, _ => .no "index")
  | _, _ => .no "index")
 |.bq esz n c rg cap=>
  (match Q.elem t,mx,mU H n c rg,H[n]? with
  |some r,none,some (off,len),some (some o)=>(match Nat.beq c o.cur&&decide (esz=r.size) with
   |true=>ji 0 lo fun a=>ji len hi fun b=>
    .cond (decide (a≤b)&&decide (b≤cap.getD (o.len-off))&&decide (0<o.len))
     (K (.bq esz n c (some (off+a,b-a)) (cap.map (·-a))) [] []) .fail
   | false => .no "index")
  |some r,some mx,some (off,len),some (some o)=>(match Nat.beq c o.cur&&decide (esz=r.size),hi with
   |true,some hi=>ji 0 lo fun a=>fU hi fun b=>fU mx fun m=>
    .cond (decide (a≤b)&&decide (b≤m)&&decide (m≤cap.getD (o.len-off))&&decide (0<o.len))
     (K (.bq esz n c (some (off+a,b-a)) (some (m-a))) [] []) .fail
   | _, _ => .no "index")
  | _, _, _, _ => .no "index")
 |.ref n c i j=>(match Q.arr t,mx with
  |some (len,r),none=>ji 0 lo fun l=>ji len hi fun h=>
   fw l len 0 fun l=>fw h (len+1) 0 fun h=>(match decide (l≤h) with
    |true=>K (.iP n c i (j+l*r.size) (h-l) (len-l)) [] []
    |false=>.fail)
  | _, _ => .no "index")
 | _ => .no "index"
def Kz(Q:gK)(t:TypeId)(x:SV T.den)(K:EK T ρ):Tr ρ:=
 match Q.arr t,x with
 |some (len,_),.iP n c i j l _=>(match decide (len≤l) with
  |true=>K (.ref n c i j) [] []
  |false=>.fail)
 | _, _ => .no "an array"
def r9(Q:gK)(tD:Bool)(H:ah T.den)(t:TypeId)(x ix:SV T.den)(K:EK T ρ):Tr ρ:=
 fU ix fun i=>
  match x with
  |.sl xs=>(match Q.elem t with
   |some r=>fw i xs.length 0 fun m=>(match xs[m]? with
    |some e=>(match kW r.agg r.size e with
     |true=>K (.bf e 0) [] []
     | false => .no "index")
    | none => .no "index")
   | none => .no "index")
  |.jt t' l=>(match Q.elem t with
   |some r=>(match decide (r.agg=T.agg t')&&decide (r.size=T.size t') with
    |true=>.bind l[i]? fun x=>T9 t' x fun v=>K (.bf v 0) [] []
    | false => .no "index")
   | none => .no "index")
  |.bq esz n c rg _=>(match Q.elem t with
   |some r=>(match decide (0<r.size)&&decide (esz=r.size),mU H n c rg,H[n]? with
    |true,some (off,len),some (some (.arr ..))=>fw i len 0 fun m=>K (.ref n c (off+m) 0) [] []
    |true,some (off,len),some (some (.bW ..))=>.cond (decide (i<len)) (K (.ref n c (off+i) 0) [] []) .fail
    | _, _, _ => .no "index")
   | none => .no "index")
  |.iP n c k j len _=>(match Q.elem t with
   |some r=>fw i len 0 fun m=>K (.ref n c k (j+m*r.size)) [] []
   | none => .no "index")
  |.ref n c k j=>(match Q.arr t with
   |some (len,r)=>(match tD with
    |true=>.cond (decide (i<len)) (K (.sH (.ref n c k j) r.size len i) [] []) .fail
    |false=>fw i len 0 fun m=>K (.ref n c k (j+m*r.size)) [] [])
   | none => .no "index")
  |.bf e j=>(match Q.arr t with
   |some (len,r)=>(match tD with
    |true=>.cond (decide (i<len)) (K (.sH (.bf e j) r.size len i) [] []) .fail
    |false=>fw i len 0 fun m=>K (.bf e (j+m*r.size)) [] [])
   | none => .no "index")
  | _ => .no "index"
def Fe(Q:gK)(tD:Bool)(t:TypeId)(x ix:SV T.den)(K:EK T ρ):Tr ρ:=
 match x with
 |.lit v=>(match mT ix with
  |some i=>oO (tX Q.P t (.lit v) i) K
  | none => .no "index")
 |.agg l=>
  (match Q.arr t with
  |some (n,r)=>fU ix fun i=>(match tD&&!r.agg&&Nat.beq r.size 1,(gx (.agg l) 0 1 n).bind (Kx i) with
   |true,some x=>.cond (decide (i<n)) (K x [] []) .fail
   |_,_=>fw i n 0 fun m=>xP (nI r.agg r.size (.agg l) (m*r.size)) [] K)
  | none => .no "index")
 | _ => .no "index"
inductive Src(den:Nat→Type)where
 |lN (l:List (SV den)) (cl:Bool)
 |yX (t:Nat) (l:List (den t))
def Nq(Q:gK)(H:ah T.den)(xt:TypeId)(x:SV T.den)(K:Src T.den→List Nat→Tr ρ):Tr ρ:=
 match Q.isSlice xt with
 |some true=>(match x with
  |.lit (.slice none 0 0)=>K (.lN [] true) []
  |.sl xs=>K (.lN xs true) []
  |.jt t l=>K (.yX t l) []
  |.bq _ n c rg _=>(match H[n]? with
   |some (some (.arr _ cl _ cur es))=>(match Nat.beq c cur with
    |true=>(match rg with
     |none=>K (.lN es cl) [n]
     |some (off,len)=>if off+len≤es.length then K (.lN ((es.drop off).take len) cl) [n] else .fail)
    | _ => .no "append source")
   |some (some (.bW _ _ cur t l))=>(match Nat.beq c cur with
    |true=>(match rg with
     |none=>K (.yX t l) [n]
     |some (off,len)=>.cond (decide (off+len≤l.length)) (K (.yX t ((l.drop off).take len)) [n]) .fail)
    | _ => .no "append source")
   | _ => .no "append source")
  | _ => .no "append source")
 | _ => .no "append source"
def Src.ok(T:dw)(r:j0):Src T.den→Bool
 |.lN l _=>l.all (kW r.agg r.size)
 |.yX t _=>decide (r.agg=T.agg t)&&decide (r.size=T.size t)
def Src.len{den:Nat→Type}:Src den→Nat
 |.lN l _=>l.length
 |.yX _ l=>l.length
def rl(r:j0)(n:Nat):Bool:=decide (n*r.bytes≤2^44)&&decide (n≤2^44)
def pU(T:dw)(cur:Nat):aC T.den→Src T.den→Option (aC T.den)
 |.arr _ cl f _ es,.lN ys XT=>some (.arr true (cl&&XT) f cur (es++ys))
 |.arr _ true f _ es,.yX t l=>(oN T t es).map fun l0=>.bW true f cur t (l0++l)
 |.bW _ f _ t l,.lN ys true=>(oN T t ys).map fun l2=>.bW true f cur t (l++l2)
 |.bW _ f _ t l,.yX t' l2=>if h:t'=t then some (.bW true f cur t (l++zY h l2)) else none
 |_,_=>none
def aC.flags{den:Nat→Type}:aC den→Bool×Bool×Bool
 |.arr g cl f _ _=>(g,cl,f)
 |.bW g f _ _ _=>(g,true,f)
 |.gX|.kh _ _ _=>(false,true,true)
 |.oU _ _ _ _ _=>(false,false,true)
def aC.xQ(T:dw)(r:j0):aC T.den→Bool
 |.arr _ _ _ _ es=>es.all (kW r.agg r.size)
 |.bW _ _ _ t _=>decide (r.agg=T.agg t)&&decide (r.size=T.size t)
 |_=>false
def xR{den:Nat→Type}:Src den→aC den
 |.lN l cl=>.arr true cl false 0 l
 |.yX t l=>.bW true false 0 t l
def og(T:dw)(y:Src T.den)(a b:Tr ρ):Tr ρ:=
 match y with
 |.lN l _=>(match l with
  |[]=>a
  |_::_=>b)
 |.yX _ l=>.cond l.isEmpty a b
def HM{α:Type}(l:List α)(i:Nat)(ys:List α):List α:=l.take i++(ys++l.drop (i+ys.length))
def uQ(T:dw):aC T.den→Nat→Src T.den→Option (aC T.den)
 |.bW g f cur t l,i,.yX t' l2=>if h:t'=t then some (.bW g f cur t (HM l i (zY h l2))) else none
 |.bW g f cur t l,i,.lN ys true=>(oN T t ys).map fun l2=>.bW g f cur t (HM l i l2)
 |_,_,_=>none
def Ba(Q:gK)(nm:Nat)(H:ah T.den)(t xt:TypeId)(s x:SV T.den)(K:EK T ρ):Tr ρ:=
 match Q.elem t with
 | none => .no "append"
 |some r=>Nq Q H xt x fun y rd=>
  match (r.zero).isSome&&decide (0<r.size)&&y.ok T r with
  | false => .no "append"
  |true=>(match s with
   |.lit (.slice none 0 0)=>og T y (K s [] rd)
     (.cond (rl r y.len) (K (.bq r.size nm 0 none none) [(nm,xR y)] rd) .fail)
   |.nz=>og T y (K s [] rd)
     (.cond (rl r y.len) (K (.bq r.size nm 0 none none) [(nm,xR y)] rd) .fail)
   |.sl _|.jt _ _=>og T y (K s [] rd) .fail
   |.wK t' l c b=>og T y (K (.jt t' l) [] rd)
     (.cond (b&&decide (c<l.length+y.len)&&rl r (l.length+y.len))
       (match decide (r.agg=T.agg t')&&decide (r.size=T.size t'),pU T 0 (.bW true false 0 t' l) y with
       |true,some o'=>K (.bq r.size nm 0 none none) [(nm,o')] rd
       | _, _ => .no "append") .fail)
   |.bq esz n c rg cap=>(match H[n]? with
    |some (some o)=>(match Nat.beq c o.cur&&!o.flags.2.2&&decide (esz=r.size) with
     |true=>(match cap,rg with
      |none,none=>(match y with
       |.lN [] _=>K s [] rd
       |_=>(match o.flags.1,pU T (o.cur+1) o y with
        |true,some o'=>.cond (rl r (o.len+y.len)) (K (.bq esz n (o.cur+1) none none) [(n,o')] (n::rd)) .fail
        | _, _ => .no "append"))
      |some k,none=>og T y (K s [] rd)
       (.cond (decide (o.len+y.len≤k)) .fail
         (match o.xQ T r,pU T 0 o y with
         |true,some o'=>.cond (rl r (o.len+y.len)) (K (.bq esz nm 0 none none) [(nm,o')] (n::rd)) .fail
         | _, _ => .no "append"))
      |some k,some (off,len)=>(match uQ T o (off+len) y with
        |some o'=>.cond (decide (len+y.len≤k)&&decide (off+len+y.len≤o.len)) (K (.bq esz n c (some (off,len+y.len)) (some k)) [(n,o')] (n::rd)) .fail
        | none => .no "append")
      | _, _ => .no "append")
     | false => .no "append")
    | _ => .no "append")
   | _ => .no "append")
def KA(Q:gK)(H:ah T.den)(t:TypeId)(d x:SV T.den)(K:EK T ρ):Tr ρ:=
 match Q.elem t,Q.isSlice t with
 |some r,some true=>Nq Q H t x fun y rd=>(match y.ok T r&&decide (0<r.size),d with
  |true,.bq esz n c rg _=>(match mU H n c rg,H[n]? with
   |some (off,len),some (some o)=>(match Nat.beq c o.cur&&!o.flags.2.2&&decide (esz=r.size),uQ T o off y with
    |true,some o'=>.cond (decide (off+len≤o.len)&&decide (y.len≤len)) (K (.lit (.int .i64 y.len)) [(n,o')] (n::rd)) .fail
    | _, _ => .no "copy")
   | _, _ => .no "copy")
  | _, _ => .no "copy")
 | _, _ => .no "copy"
def PZ(Q:gK)(H:ah T.den)(argTypes:Array TypeId)(type:TypeId)(x:SV T.den)(K:EK T ρ):Tr ρ:=
 match argTypes.toList with
 |[t]=>(match Q.isSlice t with
  |some true=>(match x with
   |.lit (.slice none 0 0)=>K (.lit (.int .i64 0)) [] []
   |.nz=>K (.lit (.int .i64 0)) [] []
   |.sl xs=>K (.lit (.int .i64 xs.length)) [] []
   |.jt _ l|.wK _ l _ _=>K (.lit (.int .i64 l.length)) [] []
   |.bq _ n c rg _=>(match mU H n c rg with
    |some (_,len)=>K (.lit (.int .i64 len)) [] []
    | none => .no "builtin")
   |.iP _ _ _ _ len _=>K (.lit (.int .i64 len)) [] []
   | _ => .no "builtin")
  | none => .no "builtin"
  |some false=>(match x with
   | .lit (.slice none 0 0) => .no "builtin"
   |.lit v=>oO ((bu Q.P (Builtin.len_ argTypes type #[v])).bind gE) K
   |.agg _|.ref ..|.bf ..=>(match Q.arr t with
    |some (n,_)=>K (.lit (.int .i64 n)) [] []
    | none => .no "builtin")
   | _ => .no "builtin"))
 | _ => .no "builtin"
def xS(Q:gK)(nm:Nat)(H:ah T.den)(b:Builtin)(argTypes:Array TypeId)(type:TypeId)(args:List (SV T.den))(K:EK T ρ):Tr ρ:=
 match b with
 |.append=>(match argTypes.toList,args with
  |[t,xt],[s,x]=>Ba Q nm H t xt s x K
  | _, _ => .no "builtin")
 |.copy=>(match argTypes.toList,args with
  |[t,_],[d,x]=>KA Q H t d x K
  | _, _ => .no "builtin")
 |.len=>(match args with
  |[x]=>PZ Q H argTypes type x K
  | _ => .no "builtin")
 |.max=>(match mz args with
  |some vs=>oO ((bu Q.P (Builtin.max_ argTypes type vs.toArray)).bind gE) K
  | none => .no "builtin")
 |.min=>(match mz args with
  |some vs=>oO ((bu Q.P (Builtin.min_ argTypes type vs.toArray)).bind gE) K
  | none => .no "builtin")
 | _ => .no "builtin"
def P0(op:BinOp)(k:IntKind)(a b:Int):Option Value:=
 match op with
 |.lss=>some (.bool (decide (a<b)))
 |.leq=>some (.bool (decide (a≤b)))
 |.gtr=>some (.bool (decide (b<a)))
 |.geq=>some (.bool (decide (b≤a)))
 |.eql=>some (.bool (a==b))
 |.neq=>some (.bool (!(a==b)))
 |.add=>some (.int k (k.wrap (a+b)))
 |.sub=>some (.int k (k.wrap (a-b)))
 |.mul=>some (.int k (k.wrap (a*b)))
 |_=>none
def P3(op:BinOp)(k:IntKind)(a b:Int):Option Value:=
 match op with
 |.quo=>some (.int k (k.wrap (a.tdiv b)))
 |.rem=>some (.int k (a.tmod b))
 |_=>none
def Vx(op:BinOp)(k:IntKind)(a b:Int):Option Value:=
 match op with
 |.shl=>some (.int k (k.wrap (a*2^min b.toNat k.bits)))
 |.shr=>some (.int k (a.fdiv (2^min b.toNat k.bits)))
 |_=>none
def Sm:Operand→Bool
 |.tmp _=>true
 |_=>false
def CK.fits:CK→Value→Bool
 |.bool,.bool _=>true
 |.int k,.int k' _=>decide (k=k')
 |.str,.string _=>true
 |_,_=>false
def bk:List CK→List Value→Bool
 |[],[]=>true
 |k::ks,v::vs=>k.fits v&&bk ks vs
 |_,_=>false
def sa:Value→Value→Bool
 |.bool a,.bool b=>a==b
 |.int _ a,.int _ b=>a==b
 |.string a,.string b=>a==b
 |_,_=>false
def cI:List Value→List Value→Bool
 |[],[]=>true
 |x::xs,y::ys=>sa x y&&cI xs ys
 |_,_=>false
def wL(x y:Value)(K:Bool→Tr ρ):Tr ρ:=
 match x,y with
 |.bool a,.bool b=>K (a==b)
 |.int _ a,.int _ b=>K (a==b)
 |.string a,.string b=>K (a==b)
 |_,_=>K false
def kX:List Value→List Value→(Bool→Tr ρ)→Tr ρ
 |[],[],K=>K true
 |[x],[y],K=>wL x y K
 |x::x'::xs,y::y'::ys,K=>wL x y fun e=>kX (x'::xs) (y'::ys) fun r=>K (e&&r)
 |_,_,K=>K false
def Ff(Q:gK)(op:BinOp)(t:TypeId)(l l':List (SV T.den))(K:EK T ρ):Tr ρ:=
 match mz l,mz l',Q.ty t with
 |some c,some c',some m=>
  (match m.OD with
  |some ks=>(match m.agg&&bk ks c&&bk ks c' with
   |true=>kX c c' fun e=>(match op with
    |.eql=>K (.lit (.bool e)) [] []
    |.neq=>K (.lit (.bool (!e))) [] []
    | _ => .no "==")
   | false => .no "==")
  | none => .no "==")
 | _, _, _ => .no "=="
def P4(Q:gK)(op:BinOp)(t:TypeId)(xo yo:Operand)(x y:SV T.den)(K:EK T ρ):Tr ρ:=
 match x,y with
 |.lit (.int k a),.lit (.int k' b)=>(match decide (k=k'),P0 op k a b with
  |true,some v=>K (.lit v) [] []
  |_,_=>(match decide (k=k'),P3 op k a b with
   |true,some v=>.cond (decide (b=0)) .fail (K (.lit v) [] [])
   |_,_=>(match Sm yo,Vx op k a b with
    |true,some v=>.cond (decide (b<0)) .fail (K (.lit v) [] [])
    |_,_=>oO (fp Q.P op t xo yo (.lit (.int k a)) (.lit (.int k' b))) K)))
 |.agg l,.agg l'=>Ff Q op t l l' K
 |_,_=>(match mT x,mT y with
  |some a,some b=>oO (fp Q.P op t xo yo a b) K
  |_,_=>(match y with
   |.lit b=>oO (A8 Q.P op t x b) K
   |_=>(match x with
    |.lit a=>oO (A8 Q.P op t y a) K
    |_=>.fail)))
def KB(t:Bool)(a b:SV T.den)(K:EK T ρ):Tr ρ:=
 match a,b with
 |.lit (.bool x),.lit (.bool y)=>K (.lit (.bool (cond t x y))) [] []
 |.lit (.int k x),.lit (.int k' y)=>if k=k' then K (.lit (.int k (cond t x y))) [] [] else .cond t (K a [] []) (K b [] [])
 |_,_=>.cond t (K a [] []) (K b [] [])
def Bb(c:Bool)(v:SV T.den)(b:Bool):SV T.den:=
 match c with
 |true=>.ju [v,.lit (.bool b)]
 |false=>v
def tF{kk qQ:KK}{t t':Nat}(h:kk=qQ∧t=t')(m:List (kk.D×T.den t)):List (qQ.D×T.den t'):=by
 obtain⟨rfl,rfl⟩:=h; exact m
def Bc(Q:gK)(H:ah T.den)(t:TypeId)(x ix:SV T.den)(c:Bool)(K:EK T ρ):Tr ρ:=
 match Q.mapOf t with
 |some (kk,et)=>(match (Q.ty et).bind (·.zero),T.zero et,ix with
  |some _,some z,.lit k=>(match kk.get k,x with
   |some _,.lit (.map none)=>K (Bb c (T.up et z) false) [] []
   |some k',.mp false n=>(match H[n]? with
    |some (some (.kh qQ t' m))=>
     if h:qQ=kk∧t'=et then
      K (Bb c (T.up et ((kE kk (tF h m) k').getD z)) (kE kk (tF h m) k').isSome) [] [n]
     else .no "map"
    | _ => .no "map")
   | _, _ => .no "map")
  | _, _, _ => .no "map")
 | none => .no "map"
def sb(Q:gK)(H:ah T.den)(t:TypeId)(x ix v:SV T.den)(K:EK T ρ):Tr ρ:=
 match Q.mapOf t with
 |some (kk,_)=>(match ix,x with
  |.lit k,.mp false n=>(match kk.get k,H[n]? with
   |some k',some (some (.kh qQ t' m))=>
    (match bN v,T.dn t' v with
    | false, some y => if h : qQ = kk ∧ t' = t' then K (.lit undef) [(n, .kh kk t' (mQ kk (tF h m) k' y))] [n] else .no "map"
    | _, _ => .no "map")
   | _, _ => .no "map")
  | _, _ => .no "map")
 | none => .no "map"
def xT(Q:gK)(nm:Nat)(t:TypeId)(r:Option (SV T.den))(K:EK T ρ):Tr ρ:=
 match Q.mapOf t with
 |some (kk,et)=>ji 0 r fun _=>K (.mp false nm) [(nm,.kh kk et [])] []
 | none => .no "map"
def Nr(Q:gK)(nm:Nat)(H:ah T.den)(ev:Operand→SV T.den)(o:Oper)(K:EK T ρ):Tr ρ:=
 match o.op with
 |.move x|.assign x=>K (ev x) [] []
 |.pick c a b=>(match ev c with
  |.lit (.bool t)=>KB t (ev a) (ev b) K
  | _ => .no "pick")
 |.alloc t=>(match Q.ty t with
  |some r=>(match (r.zero).bind gw with
   |some z=>if 0<r.size then K (.ref nm 0 0 0) [(nm,.arr false true false 0 [z])] [] else .fail
   |none=>.fail)
  |none=>.fail)
 |.box _ x=>
  if (bI (ev x)).all gu=true∧0<(bI (ev x)).length∧bN (ev x)=false then
   K (.ref nm 0 0 0) [(nm, .arr false (av (bI (ev x))) false 0 [ev x])] [] else .no "box"
 | .build t parts => if ((parts.toList.map fun p => (p.1, ev p.2)).any fun p => bN p.2) = true then .no "build" else xP (Fc Q t (parts.toList.map fun p => (p.1, ev p.2))) [] K
 | .buildSlice t len parts => if ((parts.toList.map fun p => (p.1, ev p.2)).any fun p => bN p.2) = true then .no "build" else pT Q nm t len (parts.toList.map fun p => (p.1, ev p.2)) K
 |.load t a=>(match Q.ty t with
  |some r=>Gw r H (ev a) K
  |none=>.fail)
 |.store t a x=>(match Q.ty t with
  |some r=>Fb r H (ev a) (ev x) K
  |none=>.fail)
 |.nilCheck x=>(match ev x with
  |.ref n c i j=>K (.ref n c i j) [] []
  |.bf e j=>K (.bf e j) [] []
  |.gd t y=>K (.gd t y) [] []
  |.iR (.func f) a c=>K (.iR (.func f) a c) [] []
  |.lit (.func (.func f) a c)=>K (.lit (.func (.func f) a c)) [] []
  | _ => .no "nilCheck")
 |.binOp op t x y _=>P4 Q op t x y (ev x) (ev y) K
 |.unOp op _ x=>(match ev x with
  |.lit a=>oO ((bu Q.P (Op.unary op a)).bind gE) K
  | _ => .no "unOp")
 |.convert s d x=>(match ev x with
  |.lit a=>oO ((bu Q.P (convert s d a)).bind gE) K
  | _ => .no "convert")
 |.makeInterface t x=>if (jz Q.P t||(Q.P.underlying t).isNone||bN (ev x))=true then .fail else K (.gd t (ev x)) [] []
 |.makeFunc fn first captured=>
  if first.isEmpty&&captured.isEmpty then K (.lit (.func fn #[] #[])) [] []
  else if (first.toList.map ev).any bN||(captured.toList.map ev).any bN then .fail
  else K (.iR fn (first.toList.map ev) (captured.toList.map ev)) [] []
 |.makeSlice t l c=>(match Ky l c with
  |true=>r8 Q nm t (ev l) K
  |false=>rZ Q nm t (ev l) (ev c) K)
 |.slice t x lo hi mx=>PY Q H t (ev x) (lo.map ev) (hi.map ev) (mx.map ev) K
 |.sliceToArrayPointer t x=>Kz Q t (ev x) K
 |.fieldAddr s x f=>(match Q.T7 s f,ev x with
  |some (off,_),.ref n c i j=>K (.ref n c i (j+off)) [] []
  |some (off,_),.bf e j=>K (.bf e (j+off)) [] []
  |some (off,_),.sH v aV len i=>K (.sH (im off v) aV len i) [] []
  | _, _ => .no "fieldAddr")
 |.field s x f=>(match Q.T7 s f,ev x with
  |some (off,r),.agg l=>xP (nI r.agg r.size (.agg l) off) [] K
  | _, _ => .no "field")
 |.indexAddr t x ix=>r9 Q (match o.dst with|some d=>Q.tD d|none=>false) H t (ev x) (ev ix) K
 |.index t x ix=>Fe Q (match o.dst with|some d=>Q.tD d|none=>false) t (ev x) (ev ix) K
 |.makeMap t r=>xT Q nm t (r.map ev) K
 |.lookup t x ix c=>Bc Q H t (ev x) (ev ix) c K
 |.mapUpdate t m k x=>sb Q H t (ev m) (ev k) (ev x) K
 |.extract t ix=>(match ev t with
  |.ju l=>xP l[ix]? [] K
  | _ => .no "extract")
 |.call c=>(match c.callee with
  |.builtin b=>xS Q nm H b c.argTypes o.type (c.args.toList.map ev) K
  | _ => .no "call")
 | _ => .no "op"
end
section
variable {T:dw}{ρ:Type}
def Ns(dst:Option Tmp)(wf:List Nat):List Nat:=
 match dst with
 |some d=>d::wf
 |none=>wf
def bx.step(s:bx T.den)(dst:Option Tmp)(v:SV T.den)(wr:List (Nat×aC T.den)):bx T.den:=
 { s with fr:=Kw s.n s.fr dst v,hp:=bc s.hp wr,wf:=Ns dst s.wf,wh:=wr.map (·.1)++s.wh }
def xU(v:Value)(K:Value→Tr ρ):Tr ρ:=
 match v with
 |.int k n=>K (.int k n)
 |.bool b=>K (.bool b)
 |.string s=>K (.string s)
 |v=>K v
mutual
def dx:SV T.den→(SV T.den→Tr ρ)→Tr ρ
 |.lit v,K=>xU v fun v=>K (.lit v)
 |.agg l,K=>lO l fun l=>K (.agg l)
 |.ju l,K=>lO l fun l=>K (.ju l)
 |.sl l,K=>lO l fun l=>K (.sl l)
 |.bf e j,K=>dx e fun e=>K (.bf e j)
 |.iR fn f c,K=>lO f fun f=>lO c fun c=>K (.iR fn f c)
 |.gd t v,K=>dx v fun v=>K (.gd t v)
 |.dead,K=>K .dead
 |.hole,K=>K .hole
 |.jt t l,K=>K (.jt t l)
 |.ref n c i j,K=>K (.ref n c i j)
 |.iP n c i j ln cp,K=>K (.iP n c i j ln cp)
 |.bq esz n c rg cap,K=>K (.bq esz n c rg cap)
 |.mp y n,K=>K (.mp y n)
 |.wK t l c b,K=>K (.wK t l c b)
 |.nz,K=>K .nz
 |.sH v s len i,K=>dx v fun v=>K (.sH v s len i)
def lO:List (SV T.den)→(List (SV T.den)→Tr ρ)→Tr ρ
 |[],K=>K []
 |x::xs,K=>dx x fun x=>lO xs fun xs=>K (x::xs)
end
def KC(o:aC T.den)(K:aC T.den→Tr ρ):Tr ρ:=
 match o with
 |.arr g cl f c es=>lO es fun es=>K (.arr g cl f c es)
 |.bW g f c t l=>K (.bW g f c t l)
 |.gX=>K .gX
 |.kh kk t m=>K (.kh kk t m)
 |.oU fn ps as bd fr=>lO fr fun fr=>K (.oU fn ps as bd fr)
def mV:ah T.den→(ah T.den→Tr ρ)→Tr ρ
 |[],K=>K []
 |none::r,K=>mV r fun r=>K (none::r)
 |some o::r,K=>KC o fun o=>mV r fun r=>K (some o::r)
def sd:List Nat→(List Nat→Tr ρ)→Tr ρ
 |[],K=>K []
 |x::r,K=>sd r fun r=>K (x::r)
def Bd:sI T.den→(sI T.den→Tr ρ)→Tr ρ
 |[],K=>K []
 |(d,v)::r,K=>dx v fun v=>Bd r fun r=>K ((d,v)::r)
def bx.force(s:bx T.den)(K:bx T.den→Tr ρ):Tr ρ:=
 match s with
 |⟨fn,n,fr,hp,wf,wh,js⟩=>Bd fr fun fr=>mV hp fun hp=>sd wf fun wf=>sd wh fun wh=>K ⟨fn,n,fr,hp,wf,wh,js⟩
def Fg(hp:ah T.den)(wh:List Nat)(wr:List (Nat×aC T.den))(K:ah T.den→List Nat→Tr ρ):Tr ρ:=
 match wr with
 |[]=>K hp wh
 |w::r=>mV (bc hp (w::r)) fun hp=>sd ((w::r).map (·.1)++wh) fun wh=>K hp wh
def bx.ff(s:bx T.den)(dst:Option Tmp)(v:SV T.den)(wr:List (Nat×aC T.den))(K:bx T.den→Tr ρ):Tr ρ:=
 match s with
 |⟨fn,n,fr,hp,wf,wh,js⟩=>Fg hp wh wr fun hp wh=>
  match dst with
  |none=>K ⟨fn,n,fr,hp,wf,wh,js⟩
  |some d=>(match Nat.ble n d with
   |true=>K ⟨fn,n,fr,hp,d::wf,wh,js⟩
   |false=>dx v fun v=>K ⟨fn,n,(d,v)::fr,hp,d::wf,wh,js⟩)
def oh(ops:Array Oper):List Oper→(List (G×Oper)→Tr ρ)→Tr ρ
 |[],K=>K []
 |o::r,K=>(match eR ops o with
  |.always=>oh ops r fun l=>K ((.always,o)::l)
  |.never=>oh ops r fun l=>K ((.never,o)::l)
  |.on d w=>oh ops r fun l=>K ((.on d w,o)::l))
def wM(g:G)(s:bx T.den)(K:bx T.den→Bool→Tr ρ):Tr ρ:=
 match g with
 |.always=>K s true
 |.never=>K s false
 |.on d want=>(match cH s.fr d with
  |.lit (.bool b)=>.cond b (s.ff (some d) (.lit (.bool true)) [] fun s=>K s (true==want)) (s.ff (some d) (.lit (.bool false)) [] fun s=>K s (false==want))
  |.lit (.tuple _)=>K s false
  | _ => .no "guard")
def lP(fv:SV T.den)(args:List (SV T.den)):Option (FuncId×List (SV T.den)):=
 match fv with
 |.lit (.func (.func f) first captured)=>some (f,first.toList.map .lit++args++captured.toList.map .lit)
 |.iR (.func f) first captured=>some (f,first++args++captured)
 |_=>none
mutual
def fV(T:dw)(H:ah T.den):Nat→SV T.den→(SV T.den→List Nat→Tr ρ)→Tr ρ
 | 0, _, _ => .no "seal"
 |k+1,v,K=>match v with
  |.bq _ n c rg _=>(match H[n]? with
   |some (some (.arr _ cl _ cur es))=>(match Nat.beq c cur with
    |true=>(match rg with
     |none=>(match cl with
      |true=>K (.sl es) [n]
      |false=>fW T H k es fun l rd=>K (.sl l) (n::rd))
     |some (off,len)=>if off+len≤es.length then (match cl with
      |true=>K (.sl ((es.drop off).take len)) [n]
      | false => fW T H k ((es.drop off).take len) fun l rd => K (.sl l) (n :: rd)) else .no "seal")
    | false => .no "seal")
   |some (some (.bW _ _ cur t l))=>(match Nat.beq c cur with
    |true=>(match rg with
     |none=>K (.jt t l) [n]
     |some (off,len)=>.cond (decide (off+len≤l.length)) (K (.jt t ((l.drop off).take len)) [n]) .fail)
    | false => .no "seal")
   | _ => .no "seal")
  |.ref n c i j=>(match H[n]? with
   |some (some (.arr _ cl _ cur es))=>(match Nat.beq c cur,es[i]? with
    |true,some e=>(match cl with
     |true=>K (.bf e j) [n]
     |false=>fV T H k e fun e' rd=>K (.bf e' j) (n::rd))
    | _, _ => .no "seal")
   | _ => .no "seal")
  |.iP n c i j ln cp=>(match H[n]? with
   |some (some (.arr _ cl _ cur es))=>(match Nat.beq c cur,es[i]? with
    |true,some (.agg cs)=>(match decide (ln≤cp)&&decide (j+ln≤cs.length) with
     |true=>(match cl with
      |true=>K (.sl ((cs.drop j).take ln)) [n]
      |false=>fW T H k ((cs.drop j).take ln) fun l rd=>K (.sl l) (n::rd))
     | false => .no "seal")
    | _, _ => .no "seal")
   | _ => .no "seal")
  |.agg l=>fW T H k l fun l rd=>K (.agg l) rd
  |.ju l=>fW T H k l fun l rd=>K (.ju l) rd
  |.gd t v=>fV T H k v fun v rd=>K (.gd t v) rd
  |.iR fn f c=>fW T H k f fun f rd=>fW T H k c fun c rd2=>K (.iR fn f c) (rd++rd2)
  |.sl xs=>K (.sl xs) []
  |.jt t l=>K (.jt t l) []
  |.wK t l _ _=>K (.jt t l) []
  |.nz=>K (.sl []) []
  |.bf e j=>K (.bf e j) []
  |.lit v=>(match v with
   |.slice none 0 0=>K (.sl []) []
   |v=>K (.lit v) [])
  | _ => .no "seal"
def fW(T:dw)(H:ah T.den):Nat→List (SV T.den)→(List (SV T.den)→List Nat→Tr ρ)→Tr ρ
 | 0, _, _ => .no "seal"
 |k+1,xs,K=>match xs with
  |[]=>K [] []
  |x::xs=>fV T H k x fun y rd=>fW T H k xs fun ys rd2=>K (y::ys) (rd++rd2)
end
def mA(T:dw)(H:ah T.den):Nat→List Nat→(List (Nat×aC T.den)→List Nat→Tr ρ)→Tr ρ
 | 0, _, _ => .no "seal"
 |k+1,ns,K=>match ns with
  |[]=>K [] []
  |n::r=>(match H[n]? with
   |some (some (.arr g cl _ cur es))=>(match cl with
    |true=>mA T H k r fun l rd=>K ((n,.arr g true true cur es)::l) (n::rd)
    |false=>fW T H 1000 es fun es' rd=>mA T H k (my es++r) fun l rd2=>K ((n,.arr g true true cur es')::l) (n::rd++rd2))
   |some (some (.bW g _ cur t l))=>mA T H k r fun w rd=>K ((n,.bW g true cur t l)::w) (n::rd)
   | _ => .no "seal")
def HN(T:dw)(σ:uK T)(H:ah T.den)(args:List (SV T.den))(K:EK T ρ):Tr ρ:=
 fW T H 1000 args fun as rd=>
  match (HJ T σ.args as).bind (uJ (σ.args.map .v)) with
  |some xs=>.bind (σ.fn xs) fun r=>
   match qV (PX T (fT (σ.res.map .v) r)) with
   |v=>(match vP v with
    |true=>K v [] rd
    |false=>mA T H 1000 (my args) fun wr rd2=>K v wr (rd++rd2))
  | none => .no "seal"
def Nt(T:dw)(σ:vQ T)(nm:Nat)(H:ah T.den)(args:List (SV T.den))(K:EK T ρ):Tr ρ:=
 fW T H 1000 args fun as rd=>
  match (HJ T σ.args as).bind (uJ (σ.args.map .v)) with
  |some xs=>.bind (σ.fn xs) fun l=>K (.bq σ.esz nm 0 none none) [(nm,.bW true false 0 σ.el l)] rd
  | none => .no "seal"
def fX(n:Nat)(r:SV T.den)(hp:ah T.den):ah T.den:=
 if bt n r&&(hp.take n).all (jZ n) then hp.take n else hp
def qD(n:Nat)(v:SV T.den):SV T.den:=if bt n v then v else .dead
def jL(n:Nat)(s:bx T.den):bx T.den:=
 if (s.hp.take n).all (jZ n) then { s with fr:=s.fr.map fun q=>(q.1,qD n q.2),hp:=s.hp.take n } else s
def se(T:dw)(Q:gK)(s:bx T.den):List ResultVar→(List (SV T.den)→Tr ρ)→Tr ρ
 |[],K=>K []
 |.tmp t::rs,K=>(match cH s.fr t with
  |.dead=>.fail
  |v=>se T Q s rs fun l=>K (v::l))
 |.cell a t::rs,K=>(match Q.ty t with
  |some r=>Gw r s.hp (cH s.fr a) fun v _ _=>se T Q s rs fun l=>K (v::l)
  |none=>.fail)
def keyOf:Code→Nat
 |.region id _ _=>id
 |.seq a _=>keyOf a
 |.cond _ a _=>keyOf a
 |.block _ b|.loop b|.scope b=>keyOf b
 |_=>0
def sf(b:Code)(s:bx T.den):Nat:=keyOf b+1000*s.hp.length
def HO(T:dw)(x:TV T.den):Nat:=
 match Sl T x with
 |.lit (.int _ m)=>m.toNat
 |_=>0
def isHole{den:Nat→Type}:SV den→Bool
 |.hole=>true
 |_=>false
def fJ(H:ah T.den):oW→List (TV T.den)→SV T.den×List (TV T.den)
 |.hole,l=>(.hole,l)
 |.HK esz n rg cap,l=>((match H[n]? with
  |some (some o)=>.bq esz n o.cur rg cap
  |_=>.dead),l)
 |.iP n i j len cap,l=>((match H[n]? with
  |some (some o)=>.iP n o.cur i j len cap
  |_=>.dead),l)
 |.val _,l=>(match l with
  |x::r=>(Sl T x,r)
  |[]=>(.dead,[]))
 |.own esz n,l=>((match H[n]? with
  |some (some o)=>.bq esz n o.cur none none
  |_=>.dead),l)
 |.QW esz n _ k,l=>(match k with
  |false=>(match l with
   |x::y::r=>((match H[n]? with
    |some (some o)=>.bq esz n o.cur (some (HO T x,HO T y)) none
    |_=>.dead),r)
   |_=>(.dead,[]))
  |true=>(match l with
   |x::y::z::r=>((match H[n]? with
    |some (some o)=>.bq esz n o.cur (some (HO T x,HO T y)) (some (HO T z))
    |_=>.dead),r)
   |_=>(.dead,[])))
def jj(H:ah T.den):List oW→List (TV T.den)→List (SV T.den)×List (TV T.den)
 |[],l=>([],l)
 |p::ps,l=>match fJ H p l with
  |(v,l')=>match jj H ps l' with
   |(vs,ZJ)=>(v::vs,ZJ)
def mB:aC T.den→cP→aC T.den
 |.arr g _ f c _,.list t=>.bW g f (c+1) t []
 |.bW g f c _ _,.list t=>.bW g f (c+1) t []
 |.arr g _ f c _,.fix t=>.bW g f c t []
 |.bW g f c _ _,.fix t=>.bW g f c t []
 |.kh kk t _,.map _ _=>.kh kk t []
 |o,_=>o
def rm(H:ah T.den):List (Nat×cP)→ah T.den
 |[]=>H
 |(n,p)::r=>match H[n]? with
  |some (some o)=>rm (H.set n (some (mB o p))) r
  |_=>rm H r
def jk(H:ah T.den)(o:aC T.den):cP→List (TV T.den)→aC T.den×List (TV T.den)
 |.list _,l|.fix _,l=>(match o,l with
  |.bW g f c _ _,⟨.l t,x⟩::r=>(.bW g f c t x,r)
  |_,_=>(o,l))
 |.one p,l=>(match o,fJ H p l with
  |.arr g cl f c _,(v,r)=>(.arr g cl f c [v],r)
  |_,_=>(o,l))
 |.agg ps,l=>(match o,jj H ps l with
  |.arr g cl f c _,(vs,r)=>(.arr g cl f c [.agg vs],r)
  |_,_=>(o,l))
 |.map _ _,l=>(match o,l with
  |.kh _ _ _,⟨.m kk t,x⟩::r=>(.kh kk t x,r)
  |_,_=>(o,l))
def fY:ah T.den→List (Nat×cP)→List (TV T.den)→ah T.den
 |H,[],_=>H
 |H,(n,p)::r,l=>match H[n]? with
  |some (some o)=>(match jk H o p l with
   |(o',l')=>fY (H.set n (some o')) r l')
  |_=>fY H r l
def qE(n:Nat)(H:ah T.den):sI T.den→List (Nat×oW)→List (TV T.den)→sI T.den×List (TV T.den)
 |fr,[],l=>(fr,l)
 |fr,(d,p)::r,l=>match fJ H p l with
  |(v,l')=>qE n H (tC n fr d v) r l'
def z1(n:Nat)(fr:sI T.den):List Nat→sI T.den
 |[]=>fr
 |d::r=>z1 n (tC n fr d .dead) r
def HP:oX→Option (aC T.den)
 |.gX=>some .gX
 |.list g f t=>some (.bW g f 0 t [])
def aZ:Nat→List oX→List (Nat×cP)
 |_,[]=>[]
 |n,.gX::r=>aZ (n+1) r
 |n,.list _ _ t::r=>(n,.list t)::aZ (n+1) r
def c7(aA:List (Nat×oW))(dead:List Nat)(objs:List (Nat×cP))(ext:List oX)(s:bx T.den)(l:List (TV T.den)):bx T.den:=
 match qE s.n (rm s.hp objs++ext.map HP) (z1 s.n s.fr dead) aA l with
 |(fr,l')=>{ s with fr:=fr,hp:=fY (rm s.hp objs++ext.map HP) (objs++aZ s.hp.length ext) l' }
def fC(H:ah T.den)(p:oW)(v:SV T.den):Option (List (TV T.den)):=
 match p with
 |.hole=>(match isHole v with
  |true=>some []
  |false=>none)
 |.HK esz n rg cap=>(match v with
  |.bq xV n' c Vy Fh=>(match H[n]? with
   |some (some o)=>if xV=esz∧n'=n∧c=o.cur∧Vy=rg∧Fh=cap then some [] else none
   |_=>none)
  |_=>none)
 |.iP n i j len cap=>(match v with
  |.iP n' c i' j' Nu Fh=>(match H[n]? with
   |some (some o)=>if n'=n∧c=o.cur∧i'=i∧j'=j∧Nu=len∧Fh=cap then some [] else none
   |_=>none)
  |_=>none)
 |.val t=>(match bN v with
  |true=>none
  |false=>match T.dn t v with
   |some x=>some [⟨.v t,x⟩]
   |none=>none)
 |.own esz n=>match v with
  |.bq xV n' c none none=>(match H[n]? with
   |some (some o)=>if xV=esz∧n'=n∧c=o.cur then some [] else none
   |_=>none)
  |_=>none
 |.QW esz n t k=>match v with
  |.bq xV n' c rg cap=>(match H[n]?,mU H n' c rg with
   |some (some o),some (off,len)=>if xV=esz∧n'=n∧c=o.cur then
     (T.dn t (.lit (.int .i64 off))).bind fun x=>(T.dn t (.lit (.int .i64 len))).bind fun y=>(match k,cap with
       |false,none=>some [⟨.v t,x⟩,⟨.v t,y⟩]
       |true,some m=>(T.dn t (.lit (.int .i64 m))).map fun z=>[⟨.v t,x⟩,⟨.v t,y⟩,⟨.v t,z⟩]
       |_,_=>none) else none
   |_,_=>none)
  |_=>none
def hY(H:ah T.den):List oW→List (SV T.den)→Option (List (TV T.den))
 |[],[]=>some []
 |p::ps,v::vs=>(fC H p v).bind fun l=>(hY H ps vs).map fun r=>l++r
 |_,_=>none
def ee(H:ah T.den)(o:aC T.den):cP→Option (List (TV T.den))
 |.list t|.fix t=>(match o with
  |.bW _ _ _ t' l=>if h:t'=t then some [⟨.l t,zY h l⟩] else none
  |.arr _ true _ _ es=>(oN T t es).map fun l=>[⟨.l t,l⟩]
  |_=>none)
 |.one p=>(match o with
  |.arr _ _ _ _ [v]=>fC H p v
  |_=>none)
 |.agg ps=>(match o with
  |.arr _ _ _ _ [.agg vs]=>hY H ps vs
  |_=>none)
 |.map kk t=>(match o with
  |.kh qQ t' m=>if qQ=kk∧t'=t then some [⟨.m qQ t',m⟩] else none
  |_=>none)
def ka(H:ah T.den):List (Nat×cP)→Option (List (TV T.den))
 |[]=>some []
 |(n,p)::r=>match H[n]? with
  |some (some o)=>(ee H o p).bind fun l=>(ka H r).map fun m=>l++m
  |_=>none
def pV(H:ah T.den)(fr:sI T.den):List (Nat×oW)→Option (List (TV T.den))
 |[]=>some []
 |(d,p)::r=>(fC H p (cH fr d)).bind fun l=>(pV H fr r).map fun m=>l++m
def uR(aA:List (Nat×oW))(objs:List (Nat×cP))(s:bx T.den):Option (List (TV T.den)):=
 (pV s.hp s.fr aA).bind fun l=>(ka s.hp objs).map fun m=>l++m
def qF(H H':ah T.den)(objs:List (Nat×cP)):Bool:=
 objs.all fun q=>match H[q.1]?,H'[q.1]? with
  |some (some o),some (some o')=>decide (o.flags=o'.flags)
  |_,_=>false
def gY(H0 H:ah T.den):List (Nat×cP)→Tr ρ→Tr ρ
 |[],K=>K
 |(n,.fix _)::r,K=>(match H0[n]?,H[n]? with
  |some (some o),some (some o')=>.cond (decide (o'.len=o.len)) (gY H0 H r K) .fail
  | _, _ => .no "fix")
 |_::r,K=>gY H0 H r K
def wN(H0 H:ah T.den)(objs:List (Nat×cP)):Bool:=
 objs.all fun q=>match q.2 with
  |.list _=>true
  |_=>match H0[q.1]?,H[q.1]? with
   |some (some o),some (some o')=>Nat.beq o.cur o'.cur
   |_,_=>false
def subset(a b:List Nat):Bool:=a.all fun x=>b.contains x
def cZ:List Nat→Bool
 |[]=>true
 |x::r=>!r.contains x&&cZ r
def CQ(H:ah T.den):Nat→List oX→Bool
 |_,[]=>true
 |n,e::r=>(match H[n]?,e with
  |some (some o),.gX=>o.flags.2.1
  |some (some o),.list g f _=>decide (o.flags=(g,true,f))
  |_,_=>false)&&CQ H (n+1) r
def oW.ki:oW→List Nat
 |.val _|.hole=>[]
 |.own _ n|.QW _ n _ _|.HK _ n _ _|.iP n _ _ _ _=>[n]
def cP.ki:cP→List Nat
 |.list _|.fix _|.map _ _=>[]
 |.one p=>p.ki
 |.agg ps=>ps.flatMap oW.ki
def sg(lY:Nat)(aA:List (Nat×oW))(objs:List (Nat×cP)):Bool:=
 (aA.flatMap (fun q=>q.2.ki)++objs.flatMap (fun q=>q.2.ki)).all fun n=>Nat.blt n lY||(objs.map (·.1)).contains n
def Be(n:Nat)(aA:List (Nat×oW))(dead:List Nat):Bool:=(aA.map (·.1)++dead).all fun d=>Nat.blt d n
def sh(aA:List (Nat×oW))(dead:List Nat)(objs:List (Nat×cP))(ext:List oX)(s0 s:bx T.den):Bool:=
 Be s0.n aA dead&&sg s0.hp.length aA (objs++aZ s0.hp.length ext)&&subset s.wf (aA.map (·.1)++dead)&&subset (s.wh.filter fun n=>decide (n<s0.hp.length)) (objs.map (·.1)) &&
  decide (s.hp.length=s0.hp.length+ext.length)&&qF s0.hp s.hp objs&&wN s0.hp s.hp objs&&CQ s.hp s0.hp.length ext
def Gx(H:ah T.den)(l:List (Nat×cP)):Bool:=l.all fun q=>match H[q.1]?,q.2 with
 |some (some (.arr _ _ _ _ [_])),.one _=>true
 |some (some (.arr _ _ _ _ [_])),.agg _=>true
 |_,_=>false
def HQ(h:Hint)(s0 s:bx T.den)(kind:Option Nat)(o:A9):Option (HL T.den (o.jK h.objs)):=
 match decide (o.kind=kind)&&decide (s.js=o.js)&&(sh o.aA (h.aA.map (·.1)++h.dead) (jh h.objs o.more) o.ext s0 s&&(cZ ((jh h.objs o.more).map (·.1))&&Gx s0.hp o.more)) with
 |true=>(uR o.aA ((jh h.objs o.more)++aZ s0.hp.length o.ext) s).bind (uJ (o.jK h.objs))
 |false=>none
def tG(key:Nat)(h:Hint)(s0 s:bx T.den)(kind:Option Nat):(l:List A9)→(yW T.den h.objs l→Tr ρ)→Tr ρ
 |[],_=>.bad key (some kind) s0 s
 |[o],K=>(match HQ h s0 s kind o with
  |some x=>gY s0.hp s.hp h.objs (K x)
  |none=>.bad key (some kind) s0 s)
 |o::p::r,K=>(match HQ h s0 s kind o with
  |some x=>gY s0.hp s.hp h.objs (K (.inl x))
  |none=>tG key h s0 s kind (p::r) fun x=>K (.inr x))
def jM(h:Hint)(s:bx T.den)(o:A9)(x:HL T.den (o.jK h.objs)):bx T.den:=
 let s':=c7 o.aA (h.aA.map (·.1)++h.dead) (jh h.objs o.more) o.ext s (fT (o.jK h.objs) x)
 { s' with wf:=o.aA.map (·.1)++(h.aA.map (·.1)++(h.dead++s.wf)),wh:=(jh h.objs o.more).map (·.1)++s.wh,js:=o.js }
def Bf(s:bx T.den)(kind:Option Nat):oV T.den:=
 match kind with
 |some id=>.exit id s
 |none=>.ret s
def tv(h:Hint)(s:bx T.den):(l:List A9)→yW T.den h.objs l→(oV T.den→Tr ρ)→Tr ρ
 |[],_,_=>.fail
 |[o],w,K=>(jM h s o w).force fun s=>K (Bf s o.kind)
 |o::p::r,w,K=>.sum w (fun x=>(jM h s o x).force fun s=>K (Bf s o.kind)) fun w=>tv h s (p::r) w K
def Hint.ok(h:Hint):Bool:=
 cZ (h.aA.map (·.1)++h.dead)&&cZ (h.objs.map (·.1))&&h.outs.all fun o=>cZ (o.aA.map (·.1))
def vS(step:Oper→bx T.den→(bx T.den→Tr ρ)→Tr ρ):List (G×Oper)→bx T.den→(bx T.den→Tr ρ)→Tr ρ
 |[],s,K=>K s
 |(g,o)::rest,s,K=>wM g s fun s want=>
  match want with
  |false=>s.ff o.dst (.lit undef) [] fun s=>vS step rest s K
  |true=>step o s fun s'=>vS step rest s' K
def lQ:List Item→List (G×Oper)→List (G×Item)
 |x::r,(g,_)::l=>(g,x)::lQ r l
 |_,_=>[]
def xW:List (G×Item)→(List (G×Item)→Tr ρ)→Tr ρ
 |[],K=>K []
 |(g,⟨i,nm,o⟩)::r,K=>xW r fun l=>K ((g,⟨i,nm,o⟩)::l)
def si[ab](step:Nat→Oper→bx T.den→EK T ρ→Tr ρ):List (G×Item)→bx T.den→List fq→(bx T.den→List fq→Tr ρ)→Tr ρ
 |[],s,fs,K=>K s fs
 |(g,x)::rest,s,fs,K=>wM g s fun s want=>
  match want with
  |false=>s.ff x.o.dst (.lit undef) [] fun s=>si step rest s (fs++[⟨x.idx,[],[]⟩]) K
  |true=>step (x.at s.hp.length) x.o s fun v wr rd=>
   match wr.all (fun q=>decide (q.1<s.hp.length)&&((au x.o.op&&decide (q.1=x.nm))||(match s.hp[q.1]? with|some (some _)=>true|_=>false))) with
   |true=>s.ff x.o.dst v wr fun s=>si step rest s (fs++[⟨x.idx,rd,wr.map (·.1)⟩]) K
   |false=>.fail
end
def pW{T:dw}(esz j nm:Nat)(e:SV T.den):Option (SV T.den):=
 match e with
 |.agg l=>(match l[j]? with
  |some (.lit (.slice none 0 0))=>some (.agg (l.set j (.bq esz nm 0 none none)))
  |_=>none)
 |.lit (.slice none 0 0)=>if j=0 then some (.bq esz nm 0 none none) else none
 |_=>none
def HR{T:dw}{ρ:Type}(d:Tmp):List (Nat×Nat)→bx T.den→(bx T.den→Tr ρ)→Tr ρ
 |[],s,K=>K s
 |(j,esz)::r,s,K=>(match cH s.fr d with
  |.ref n _ i k=>(match s.hp[n]? with
   |some (some (.arr g _ f cur es))=>(match (es[i]?).bind (pW esz (k+j) s.hp.length) with
    |some e'=>s.ff none (.lit undef) [(n,.arr g false f cur (es.set i e')),(s.hp.length,.arr true true false 0 [])] fun s=>HR d r s K
    | none => .no "nil")
   | _ => .no "nil")
  |v=>(match pW esz j s.hp.length v with
   |some v'=>s.ff (some d) v' [(s.hp.length,.arr true true false 0 [])] fun s=>HR d r s K
   | none => .no "nil"))
def CR{T:dw}{ρ:Type}(l:Tmp→List (Nat×Nat))(dst:Option Tmp)(s:bx T.den)(K:bx T.den→Tr ρ):Tr ρ:=
 match dst with
 |some d=>HR d (l d) s K
 |none=>K s
def z2{den:Nat→Type}(j:Nat):SV den→Option (SV den)
 |.agg l=>(match Nat.blt j l.length with
  |true=>some (.agg (l.set j .hole))
  |false=>none)
 |_=>none
def xX{T:dw}{ρ:Type}:List (Nat×Nat)→bx T.den→(bx T.den→Tr ρ)→Tr ρ
 |[],s,K=>K s
 |(d,j)::r,s,K=>(match cH s.fr d with
  |.ref n _ i k=>(match s.hp[n]? with
   |some (some (.arr g _ f cur es))=>(match (es[i]?).bind (z2 (k+j)) with
    |some e'=>s.ff none (.lit undef) [(n,.arr g false f cur (es.set i e'))] fun s=>xX r s K
    | none => .no "a hole")
   | _ => .no "a hole")
  | _ => .no "a hole")
def cellOf{T:dw}(s:bx T.den)(d j:Nat):Option (SV T.den):=
 match cH s.fr d with
 |.ref n _ i k=>(match s.hp[n]? with
  |some (some (.arr _ _ _ _ es))=>(match es[i]? with
   |some (.agg l)=>l[k+j]?
   |_=>none)
  |_=>none)
 |.agg l=>l[j]?
 |v=>(match Nat.beq j 0 with
  |true=>some v
  |false=>none)
def setCell{T:dw}(s:bx T.den)(d j:Nat)(v:SV T.den):bx T.den:=
 match cH s.fr d with
 |.ref n _ i k=>(match s.hp[n]? with
  |some (some (.arr g cl f cur es))=>(match es[i]? with
   |some (.agg l)=>{ s with hp:=s.hp.set n (some (.arr g cl f cur (es.set i (.agg (l.set (k+j) v))))),wh:=n::s.wh }
   |_=>s)
  |_=>s)
 |.agg l=>{ s with fr:=tC s.n s.fr d (.agg (l.set j v)),wf:=d::s.wf }
 |_=>{ s with fr:=tC s.n s.fr d v,wf:=d::s.wf }
def KD{ρ:Type}:Nat→Nat→Int→(Int→Tr ρ)→Tr ρ
 |0,_,_,_=>.fail
 |b+1,m,n,K=>.cond (n==Int.ofNat m) (K (Int.ofNat m)) (KD b (m+1) n K)
def CS{T:dw}{ρ:Type}(t:Nat)(l:List (T.den t)):Nat→Nat→(List (SV T.den)→Tr ρ)→Tr ρ
 |0,_,K=>K []
 |b+1,i,K=>.bind l[i]? fun x=>CS t l b (i+1) fun xs=>K (T.up t x::xs)
def xY{T:dw}{ρ:Type}(s:bx T.den)(w:Tw)(K:bx T.den→Tr ρ):Tr ρ:=
 match w with
 |.num d j b=>(match cellOf s d j with
  |some (.lit (.int k n))=>KD b 0 n fun m=>(setCell s d j (.lit (.int k m))).force K
  | _ => .no "a number")
 |.XS d j n=>(match cellOf s d j with
  |some (.jt t l)=>.cond (Nat.blt 0 n&&decide (l.length=n)) (CS t l n 0 fun xs=>(setCell s d j (.sl xs)).force K) .fail
  | _ => .no "a list")
 |.arr d n=>(match cH s.fr d with
  |.bq _ nm _ _ _=>(match s.hp[nm]? with
   |some (some (.bW g f cur t l))=>.cond (decide (l.length=n)) (CS t l n 0 fun xs=>bx.force { s with hp:=s.hp.set nm (some (.arr g true f cur xs)),wh:=nm::s.wh } K) .fail
   | _ => .no "an array")
  | _ => .no "an array")
 |.int d j=>(match cellOf s d j with
  |some (.lit (.int k n))=>.bind (some n) fun n=>(setCell s d j (.lit (.int k n))).force K
  | _ => .no "a number")
 |.name d=>(match cH s.fr d with
  |.bq esz nm c rg cap=>(match s.hp[nm]? with
   |some (some (.bW g f cur t l))=>.bind (some l) fun l=>(match rg with
    |none=>bx.force { s with hp:=s.hp.set nm (some (.bW g f cur t l)),wh:=nm::s.wh } K
    |some (off,len)=>.bind (some off) fun off=>.bind (some len) fun len=>
     bx.force { s with fr:=tC s.n s.fr d (.bq esz nm c (some (off,len)) cap),hp:=s.hp.set nm (some (.bW g f cur t l)),wf:=d::s.wf,wh:=nm::s.wh } K)
   | _ => .no "a name")
  | _ => .no "a name")
def Sn{T:dw}{ρ:Type}:List Tw→bx T.den→(bx T.den→Tr ρ)→Tr ρ
 |[],s,K=>K s
 |w::r,s,K=>xY s w fun s=>Sn r s K
def So{T:dw}{ρ:Type}(l:Tmp→List Tw)(dst:Option Tmp)(s:bx T.den)(K:bx T.den→Tr ρ):Tr ρ:=
 match dst with
 |some d=>Sn (l d) s K
 |none=>K s
def wz{den:Nat→Type}(u:List Nat)(fr:sI den):List Nat→List (SV den)
 |[]=>[]
 |d::r=>(match u.contains d with
  |true=>cH fr d
  |false=>.dead)::wz u fr r
def lR{den:Nat→Type}(n:Nat)(fr:sI den):List Tmp→List (SV den)→sI den
 |p::ps,x::xs=>lR n (tC n fr p x) ps xs
 |_,_=>fr
def Bg(js:List (Nat×kZ))(n:Nat)(st:kZ):List (Nat×kZ):=js.map fun q=>match Nat.beq q.1 n with
 |true=>(q.1,st)
 |false=>q
def CT(js:List (Nat×kZ))(n:Nat):List (Nat×kZ):=js.filter fun q=>!Nat.beq q.1 n
def sj(js:List (Nat×kZ))(n:Nat):Bool:=js.all fun q=>Nat.blt q.1 n
def bx.gM{T:dw}(s:bx T.den)(n:Nat)(hp:ah T.den)(wh:List Nat)(js:List (Nat×kZ)):bx T.den:=
 { s with hp:=hp.set n (some .gX),wh:=wh,js:=CT js n }
def KE{T:dw}{ρ:Type}(s:bx T.den)(n:Nat)(dst:Option Tmp)(b:Bool)(st:kZ)(s2:bx T.den)(K:bx T.den→Tr ρ):Tr ρ:=
 match cm s2.js n with
 |some .busy=>(match sj s2.js s.hp.length with
  |true=>mV (fX s.hp.length (.lit (.bool b)) s2.hp) fun hp=>bx.ff ⟨s.fn,s.n,s.fr,hp,s.wf,s2.wh,Bg s2.js n st⟩ dst (.lit (.bool b)) [] K
  | false => .no "a round's end")
 | _ => .no "a round's end"
def qG(pr:List Nat)(fs:List fq):Bool:=
 match fs.all fun f=>f.wr.isEmpty with
 |true=>true
 |false=>eQ pr fs
def Gy{T:dw}(Q:gK)(ev:Operand→SV T.den)(op:Op)(H:ah T.den)(n:Nat)(o':aC T.den):Bool:=
 match op with
 |.store t a _=>(match Q.ty t,ev a,H[n]? with
  |some r,.ref n' _ i j,some (some (.arr _ false _ cur es))=>(match es[i]? with
   |some (.agg l)=>Nat.beq n' n&&Nat.ble (j+r.size) l.length&&((l.drop j).take r.size).all isHole&&Nat.beq cur o'.cur&&Nat.beq es.length o'.len
   |_=>false)
  |_,_,_=>false)
 |_=>false
def uS[ab]{T:dw}(Q:gK)(nm:Nat){ρ:Type}:List Oper→bx T.den→Option Nat→List Nat→(bx T.den→Option Nat→List Nat→Tr ρ)→Tr ρ
 |[],s,ov,rd,K=>K s ov rd
 |o::r,s,ov,rd,K=>(match o.guard with
  | some _ => .no "a look"
  |none=>(match o.op with
   | .call _ => .no "a look"
   |.assign (.const (.slice none 0 0))=>s.ff o.dst (.lit cK) [] fun s=>uS Q nm r s ov rd K
   |op=>Nr Q s.hp.length s.hp (cV s.fr) o fun v wr rd'=>(match wr.all fun q=>Nat.ble nm q.1 with
     |true=>s.ff o.dst v wr fun s=>uS Q nm r s ov (rd++rd') K
     |false=>(match ov,wr with
      |none,[(n,o')]=>(match Nat.blt n nm&&Gy Q (cV s.fr) op s.hp n o' with
       |true=>s.ff o.dst v [(n,o')] fun s=>uS Q nm r s (some n) (rd++(rd'++[n])) K
       | false => .no "a look")
      | _, _ => .no "a look"))))
def lT[ab]{T:dw}(Q:gK)(nm:Nat){ρ:Type}:Code→bx T.den→Option Nat→List Nat→(Bool→bx T.den→Option Nat→List Nat→Tr ρ)→Tr ρ
 |.skip,s,ov,rd,K=>K false s ov rd
 |.ret,s,ov,rd,K=>K true s ov rd
 |.seq a b,s,ov,rd,K=>lT Q nm a s ov rd fun q s ov rd=>(match q with
  |true=>K true s ov rd
  |false=>lT Q nm b s ov rd K)
 |.region _ ops false,s,ov,rd,K=>uS Q nm ops.toList s ov rd (K false)
 |.cond o a b,s,ov,rd,K=>(match cV s.fr o with
  |.lit (.bool t)=>.cond t (lT Q nm a s ov rd K) (lT Q nm b s ov rd K)
  | _ => .no "a look")
 | _, _, _, _, _ => .no "a look"
def Gz{den:Nat→Type}(fr:sI den)(rs:List ResultVar):List Nat:=rs.flatMap fun
 |.tmp _=>[]
 |.cell a _=>mR (cH fr a)
def wO{den:Nat→Type}(fr:sI den)(rs:List ResultVar):Bool:=rs.all fun
 |.tmp _=>true
 |.cell a _=>!bN (cH fr a)
def KF[ab](S:od){ρ:Type}(g:FuncId)(args:List (SV S.T.den))(H:ah S.T.den)(K:EK S.T ρ):Tr ρ:=
 match S.C.kind g,S.C.rb g,S.C.P.funcs[g]? with
 |.imp,none,some fn=>(match fn.body with
  |some c=>(match BI c with
   | true => .no "a look"
   |false=>lT (S.Qf g) H.length c ⟨g,max fn.ntmps args.length,mw 0 args,H,[],[],[]⟩ none [] fun _ s ov rd=>se S.T S.Q s fn.results.toList fun l=>
   (match bt H.length (qV l)&&wO s.fr fn.results.toList&&(match ov with
     |some n=>(match s.hp[n]? with
      |some o=>jZ H.length o
      |none=>false)
     |none=>true) with
   |true=>K (qV l) [] ((rd++Gz s.fr fn.results.toList).filter fun n=>Nat.blt n H.length)
   | false => .no "a look's answer"))
  | none => .no "a look")
 | _, _, _ => .no "a call without an answer"
def GA{den:Nat→Type}(P:Program)(v:SV den)(name:String):Option (FuncId×SV den):=
 match v with
 |.gd t x=>(Ar P t name).map fun f=>(f,x)
 |_=>none
def Ua[ab](S:od){ρ:Type}(nm:Nat)(o:Oper)(s:bx S.T.den)(K:EK S.T ρ):Tr ρ:=
 match o.op with
 |.call c=>
  (match c.callee with
  |.builtin _=>Nr (S.Qf s.fn) nm s.hp (cV s.fr) o K
  |.value f=>
   (match lP (cV s.fr f) (c.args.toList.map (cV s.fr)) with
   |none=>.fail
   |some (g,args)=>(match au o.op with
    |true=>(match args.any bN,S.own g with
     |false,some σ=>Nt S.T σ nm s.hp args K
     | _, _ => .no "a call of one's own without an answer")
    |false=>(match args.any bN,S.sum g with
     |false,some σ=>HN S.T σ s.hp args K
     |false,none=>KF S g args s.hp K
     | _, _ => .no "a call without an answer")))
  |.invoke rv name=>
   (match GA S.C.P (cV s.fr rv) name with
   | none => .no "invoke"
   |some (g,x)=>(match (x::c.args.toList.map (cV s.fr)).any bN,S.sum g with
    |false,some σ=>HN S.T σ s.hp (x::c.args.toList.map (cV s.fr)) K
    | _, _ => .no "a call without an answer")))
 |_=>Nr (S.Qf s.fn) nm s.hp (cV s.fr) o K
def KG[ab]{T:dw}{ρ:Type}(ec:Code→bx T.den→(oV T.den→Tr ρ)→Tr ρ)(eo:Oper→bx T.den→(bx T.den→Tr ρ)→Tr ρ):Code→bx T.den→(oV T.den→Option (SV T.den)→Tr ρ)→Tr ρ
 |.seq x y,s,K=>
  (match sP x with
  |some (ops,v)=>oh ops ops.toList.dropLast fun l=>vS eo l s fun s1=>(match lP (cV s1.fr v) [] with
   |some _=>ec y s1 fun o=>K o (some (cV s1.fr v))
   | none => .no "what is deferred")
  |none=>ec x s fun
   |.norm s'=>KG ec eo y s' K
   |r=>K r none)
 |c,s,K=>ec c s fun o=>K o none
def CU[ab]{T:dw}{ρ:Type}(ec:Code→bx T.den→(oV T.den→Tr ρ)→Tr ρ)(Q:gK)(P:Program)(rs:List ResultVar)(s:bx T.den)(d:Option (SV T.den))(K:List (SV T.den)→ah T.den→List Nat→List (Nat×kZ)→Tr ρ):Tr ρ:=
 match d with
 |none=>se T Q s rs fun l=>K l s.hp s.wh s.js
 |some v=>(match lP v [] with
  | none => .no "what is deferred"
  |some (g,as)=>(match P.funcs[g]? with
   |none=>.fail
   |some fg=>(match fg.body with
    |none=>.fail
    |some cg=>(match cx cg&&!as.any bN with
     | false => .no "what is deferred"
     |true=>bx.force ⟨g,max fg.ntmps as.length,mw 0 as,s.hp,[],s.wh,s.js⟩ fun t0=>ec (nQ cg) t0 fun
      |.norm t|.ret t=>se T Q t fg.results.toList fun _=>se T Q ⟨s.fn,s.n,s.fr,t.hp,s.wf,t.wh,t.js⟩ rs fun l=>K l t.hp t.wh t.js
      |.exit _ _=>.fail))))
mutual
def OE[ab](S:od):Nat→(ρ:Type)→FuncId→List (SV S.T.den)→ah S.T.den→List Nat→List (Nat×kZ)→(SV S.T.den→ah S.T.den→List Nat→List (Nat×kZ)→Tr ρ)→Tr ρ
 | 0, _, _, _, _, _, _, _ => .no "fuel"
 |k+1,ρ,f,args,hp,wh,js,K=>
  match S.C.P.funcs[f]? with
  |none=>.fail
  |some fn=>
   match fn.body with
   |none=>.fail
   |some c=>sd [max fn.ntmps args.length] fun _=>bx.force ⟨f,max fn.ntmps args.length,mw 0 args,hp,[],wh,js⟩ fun s=>
    (match BI c with
    |true=>(match cx c with
     |true=>KG (fun c s K=>wA S k ρ c s K) (fun o s K=>Nv S k ρ o s K) c s fun o d=>(match o with
      |.norm s'|.ret s'=>CU (fun c s K=>wA S k ρ c s K) S.Q S.C.P fn.results.toList s' d fun l hp wh js=>K (qV l) hp wh js
      |.exit _ _=>.fail)
     | false => .no "a range beside a deferred call")
    |false=>wA S k ρ c s fun
    |.norm s|.ret s=>se S.T S.Q s fn.results.toList fun l=>K (qV l) s.hp s.wh s.js
    |.exit _ _=>.fail)
def wA[ab](S:od):Nat→(ρ:Type)→Code→bx S.T.den→(oV S.T.den→Tr ρ)→Tr ρ
 | 0, _, _, _, _ => .no "fuel"
 |k+1,ρ,c,s,K=>
  match c with
  |.skip|.label _=>K (.norm s)
  |.ret=>K (.ret s)
  |.exit id=>K (.exit id s)
  |.seq a b=>wA S k ρ a s fun
   |.norm s'=>wA S k ρ b s' K
   |r=>K r
  |.cond o a b=>
   (match cV s.fr o with
   |.lit (.bool t)=>.cond t (wA S k ρ a s K) (wA S k ρ b s K)
   | _ => .no "cond")
  |.block id b=>wA S k ρ b s fun
   |.exit IK s'=>if IK=id then K (.norm s') else K (.exit IK s')
   |r=>K r
  |.scope b=>
   (match pd b with
   |some c=>wA S k ρ c s K
   | none => .no "code")
  |.loop b=>
   (match S.hint s.fn (sf b s) with
   |none=>(match S.uM s.fn (keyOf b) with
    |true=>wA S k ρ b s fun
     |.norm s'=>(match sj s'.js s.hp.length with
      |true=>(jL s.hp.length s').force fun s'=>wA S k ρ (.loop b) s' K
      | false => .no "a round's end")
     |r=>K r
    |false=>.mb s b)
   |some h=>
    (match h.ok&&Be s.n h.aA h.dead&&sg s.hp.length h.aA h.objs,(uR h.aA h.objs s).bind (uJ h.jK) with
    |true,some x0=>.loop (τ:=HL S.T.den h.jK) (ω:=yW S.T.den h.objs h.outs)
      (fun x=>bx.force { c7 h.aA h.dead h.objs [] s (fT h.jK x) with wf:=[],wh:=[] } fun s1=>wA S k _ b s1 fun
        |.norm s'=>
         (match jL s.hp.length s' with
         |tV=>(match decide (tV.js=s.js)&&sh h.aA h.dead h.objs [] s tV,(uR h.aA h.objs tV).bind (uJ h.jK) with
          |true,some y=>gY s.hp tV.hp h.objs (.ret (.inl y))
          |_,_=>.bad (sf b s) none s tV))
        |.exit id s'=>tG (sf b s) h s s' (some id) h.outs fun w=>.ret (.inr w)
        |.ret s'=>tG (sf b s) h s s' none h.outs fun w=>.ret (.inr w))
      x0 fun w=>tv h s h.outs w K
    |_,_=>.bad (sf b s) none s s))
  |.region id ops draw=>
   (match draw with
   |false=>xX (S.C.iq s.fn id) s fun s=>Sn (S.tw s.fn (1000000+id)) s fun s=>oh ops ops.toList fun l=>vS (fun o s K=>Nv S k ρ o s K) l s fun s'=>K (.norm s')
   |true=>
    if sO ops=true then
     xX (S.C.iq s.fn id) s fun s1=>Sn (S.tw s.fn (1000000+id)) s1 fun s1=>oh ops ops.toList fun l=>xW (lQ (bD 0 s1.hp.length (ops.toList.take (S.C.head s.fn id ops))) l) fun li=>si (fun nm o s K=>Ua S nm o s K) li
       { s1 with hp:=s1.hp++List.replicate ((ops.toList.take (S.C.head s.fn id ops)).filter fun o=>au o.op).length none } [] fun s' fs=>
      if (qG (bZ ops.toList) fs && mH (bZ ops.toList) ops.size (S.C.head s.fn id ops)) = true then vS (fun o s K => Nv S k ρ o s K) (l.drop (S.C.head s.fn id ops)) s' fun s' => K (.norm s') else .no "an order"
    else .no "a region")
  |.rangeFunc f ps as bd=>
   (match lP (cV s.fr f) [.mp true s.hp.length] with
   |some (g,args)=>(match !args.any bN&&(cW as++cW bd).all (fun d=>!bN (cH s.fr d)||!Nat.blt d s.n) with
    |true=>OE S k ρ g args (s.hp++[some (.oU s.fn ps as bd (wz (cW as++cW bd) s.fr (List.range s.n)))]) s.wh ((s.hp.length,.ready)::s.js) fun _ hp wh js=>
     (match cm js s.hp.length with
     |some .ready=>K (.norm (s.gM s.hp.length hp wh js))
     |some (.jump none)=>K (.ret (s.gM s.hp.length hp wh js))
     |some (.jump (some id))=>K (.exit id (s.gM s.hp.length hp wh js))
     | _ => .no "a range's end")
    | false => .no "a range over what is dead")
   | none => .no "a range")
  | _ => .no "code"
def Nv[ab](S:od):Nat→(ρ:Type)→Oper→bx S.T.den→(bx S.T.den→Tr ρ)→Tr ρ
 | 0, _, _, _, _ => .no "fuel"
 |k+1,ρ,o,s,K=>
  match o.op with
  |.call c=>
   (match c.callee with
   |.builtin _=>Nr (S.Qf s.fn) s.hp.length s.hp (cV s.fr) o fun v wr _=>s.ff o.dst v wr K
   |.value f=>
    (match lP (cV s.fr f) (c.args.toList.map (cV s.fr)) with
    |none=>(match cV s.fr f with
     |.mp true n=>(match s.hp[n]?,cm s.js n,(c.args.toList.map (cV s.fr)).any bN with
      |some (some (.oU fn ps as bd fr)),some .ready,false=>
       (match Nat.beq c.args.size ps.size with
       |true=>bx.force ⟨fn,fr.length,lR fr.length (mw 0 fr) ps.toList (c.args.toList.map (cV s.fr)),s.hp,[],s.wh,s.js⟩ fun s0=>
        wA S k ρ as s0 fun
        |.norm s1=>(match cm s1.js n with
         |some .ready=>wA S k ρ bd { s1 with js:=Bg s1.js n .busy } fun
          |.norm s2=>KE s n o.dst true .ready s2 K
          |.exit id s2=>KE s n o.dst false (.jump (some id)) s2 K
          |.ret s2=>KE s n o.dst false (.jump none) s2 K
         | _ => .no "a round")
        | _ => .no "a round"
       | false => .no "a round")
      | _, _, _ => .no "a round")
     | _ => .no "what is called")
    |some (g,args)=>(match au o.op with
     |true=>(match args.any bN,S.own g with
      |false,some σ=>Nt S.T σ s.hp.length s.hp args fun v wr _=>s.ff o.dst v wr K
      | _, _ => .no "a call of one's own without an answer")
     |false=>(match args.any bN,S.sum g with
     |false,some σ=>HN S.T σ s.hp args fun v wr _=>s.ff o.dst v wr K
     |false,none=>(match S.C.kind g with
      | .pure => .no "a call without an answer"
      |.imp=>OE S k ρ g args s.hp s.wh s.js fun v hp wh js=>(match sj js s.hp.length with
       |true=>mV (fX s.hp.length v hp) fun hp=>bx.ff ⟨s.fn,s.n,s.fr,hp,s.wf,wh,js⟩ o.dst v [] K
       | false => .no "a call's end"))
     | true, _ => .no "a dead argument")))
   |.invoke rv name=>
    (match GA S.C.P (cV s.fr rv) name with
    | none => .no "invoke"
    |some (g,x)=>(match (x::c.args.toList.map (cV s.fr)).any bN,S.sum g with
     |false,some σ=>HN S.T σ s.hp (x::c.args.toList.map (cV s.fr)) fun v wr _=>s.ff o.dst v wr K
     |false,none=>(match S.C.kind g with
      | .pure => .no "a call without an answer"
      |.imp=>OE S k ρ g (x::c.args.toList.map (cV s.fr)) s.hp s.wh s.js fun v hp wh js=>(match sj js s.hp.length with
       |true=>mV (fX s.hp.length v hp) fun hp=>bx.ff ⟨s.fn,s.n,s.fr,hp,s.wf,wh,js⟩ o.dst v [] K
       | false => .no "a call's end"))
     | true, _ => .no "a dead argument")))
  |.assign (.const (.slice none 0 0))=>
   (match o.dst with
   |some d=>
    if S.C.acc s.fn d then
     match S.Q.elem o.type with
     |some r=>if 0<r.size then s.ff (some d) (.bq r.size s.hp.length 0 none none) [(s.hp.length,.arr true true false 0 [])] K else .fail
     |none=>.fail
    else s.ff (some d) (.lit cK) [] K
   |none=>K s)
  |_=>Nr (S.Qf s.fn) s.hp.length s.hp (cV s.fr) o fun v wr _=>s.ff o.dst v wr fun s=>CR (S.C.qR s.fn) o.dst s fun s=>So (S.tw s.fn) o.dst s K
end
end Go.PI
namespace Go.PI
def KH{den:Nat→Type}(res:List Nat)(v:SV den):List (SV den):=
 match res with
 |[_]=>[v]
 |_=>match v with
  |.ju l=>l
  |_=>[.dead]
def P5[ab](S:od)(k:Nat)(f:FuncId)(args res:List Nat)(xs:HL S.T.den (args.map .v)):Tr (HL S.T.den (res.map .v)):=
 OE S k _ f (PX S.T (fT _ xs)) [] [] [] fun v hp _ _=>
  fV S.T hp 1000 v fun v' _=>match (HJ S.T res (KH res v')).bind (uJ (res.map .v)) with
  |some r=>.ret r
  | none => .no "a result"
end Go.PI
end
section
/- PS: words for the printed tables of a seat's types. -/
namespace Go.PI
section
variable {den:Nat→Type}{α:Type}
def dI(k:IntKind):SV den→Option Int
 |.lit (.int k' n)=>if k=k' then some n else none
 |_=>none
def dB:SV den→Option Bool
 |.lit (.bool b)=>some b
 |_=>none
def dS:SV den→Option ByteArray
 |.lit (.string s)=>some s
 |_=>none
def Sp(d:SV den→Option α):List (SV den)→Option (List α)
 |[]=>some []
 |v::vs=>(d v).bind fun x=>(Sp d vs).map fun l=>x::l
def OF(e:Nat)(d:SV den→Option (den e)):SV den→Option (List (den e))
 |.jt t l=>if h:t=e then some (zY h l) else none
 |.sl vs=>Sp d vs
 |.lit (.slice none 0 0)=>some []
 |_=>none
def Vz(d:SV den→Option α):SV den→Option α
 |.bf v 0=>d v
 |_=>none
end
abbrev Nw{α:Type}(q:α→AV→Prop)(x:List α)(a:AV):Prop:=(∃ l,a=.sl l∧aw q x l)∨(x=[]∧a=.lit cK)
abbrev Ub{α:Type}(q:α→AV→Prop)(x:α)(a:AV):Prop:=∃ b,a=.bf b 0∧q x b
abbrev lc{α:Type}(n m:Nat)(l:List α):Bool:=decide (n+m≤l.length)
def zI:AV:=.lit (.int .i64 0)
def zB:AV:=.lit (.bool false)
def zF:AV:=.lit .nilFunc
def zL:AV:=.lit (.slice none 0 0)
def zS:AV:=.lit (.string ByteArray.empty)
def kI:CK:=.int .i64
def mI:j0:=⟨false,1,8,some zI,.other,none,none⟩
def mF:j0:=⟨false,1,8,some zF,.other,none,none⟩
def mP:j0:=⟨false,1,8,some (.lit (.pointer none)),.other,none,none⟩
def mS:j0:=⟨false,1,16,some zS,.other,none,none⟩
def mL(e:Nat):j0:=⟨false,1,24,some zL,.slice e,none,none⟩
end Go.PI
end
section
/- PS, part C: what a symbolic value stands for. -/
namespace Go.PI
section
variable {α β:Type}{P:α→β→Prop}
theorem aw.length:∀ {l:List α} {m:List β},aw P l m→l.length=m.length
 |[],[],_=>rfl
 |_::_,_::_,h=>by simp[aw.length h.2]
theorem aw.get:∀ {l:List α} {m:List β},aw P l m→∀ {i:Nat} {x:α},l[i]?=some x→∃ y,m[i]?=some y∧P x y
 |x::xs,y::ys,h,0,z,e=>by simp at e; subst e; exact⟨y,rfl,h.1⟩
 |x::xs,y::ys,h,i+1,z,e=>by simp at e ⊢; exact aw.get h.2 e
 |[],[],_,i,z,e=>by simp at e
theorem aw.get':∀ {l:List α} {m:List β},aw P l m→∀ {i:Nat} {y:β},m[i]?=some y→∃ x,l[i]?=some x∧P x y
 |x::xs,y::ys,h,0,z,e=>by simp at e; subst e; exact⟨x,rfl,h.1⟩
 |x::xs,y::ys,h,i+1,z,e=>by simp at e ⊢; exact aw.get' h.2 e
 |[],[],_,i,z,e=>by simp at e
theorem aw.mono{Q:α→β→Prop}(Mc:∀ x y,P x y→Q x y):∀ {l:List α} {m:List β},aw P l m→aw Q l m
 |[],[],_=>trivial
 |_::_,_::_,h=>⟨Mc _ _ h.1,aw.mono Mc h.2⟩
theorem aw.append:∀ {l l':List α} {m m':List β},aw P l m→aw P l' m'→aw P (l++l') (m++m')
 |[],_,[],_,_,h=>h
 |_::_,_,_::_,_,h,h'=>⟨h.1,aw.append h.2 h'⟩
theorem aw.set:∀ {l:List α} {m:List β},aw P l m→∀ (i:Nat) {x:α} {y:β},P x y→aw P (l.set i x) (m.set i y)
 |[],[],_,_,_,_,_=>trivial
 |_::_,_::_,h,0,_,_,hp=>⟨hp,h.2⟩
 |_::_,_::_,h,i+1,_,_,hp=>⟨h.1,aw.set h.2 i hp⟩
theorem aw.drop:∀ {l:List α} {m:List β},aw P l m→∀ i,aw P (l.drop i) (m.drop i)
 |[],[],_,i=>by simp[aw]
 |_::_,_::_,h,0=>h
 |_::_,_::_,h,i+1=>aw.drop h.2 i
theorem aw.take:∀ {l:List α} {m:List β},aw P l m→∀ i,aw P (l.take i) (m.take i)
 |[],[],_,i=>by simp[aw]
 |_::_,_::_,h,0=>trivial
 |_::_,_::_,h,i+1=>⟨h.1,aw.take h.2 i⟩
theorem aw.replicate{x:α}{y:β}(h:P x y):∀ n,aw P (List.replicate n x) (List.replicate n y)
 |0=>trivial
 |n+1=>⟨h,aw.replicate h n⟩
theorem aw.CV{m:List β}(h:aw P [] m):m=[]:=by cases m with
 |nil=>rfl
 |cons y ys=>exact h.elim
theorem aw.dY:∀ {l:List α} {m:List β},l.length=m.length→(∀ (i:Nat) (x:α) (y:β),l[i]?=some x→m[i]?=some y→P x y)→aw P l m
 |[],[],_,_=>trivial
 |x::xs,y::ys,h,hg=>⟨hg 0 x y rfl rfl,aw.dY (by simpa using h) fun i a b ha hb=>hg (i+1) a b (by simpa using ha) (by simpa using hb)⟩
end
variable {T:dw}
def fK{den:Nat→Type}(H:ah den)(n c aq:Nat):Prop:=
 ∃ o:aC den,H[n]?=some (some o)∧c≤o.cur∧(c=o.cur→aq=o.len)
def VA(a0:AV)(d:Nat)(a:AV):Prop:=
 (∃ n aq k j,a0=.ref n aq k j∧a=.ref n aq k (j+d))∨∃ e j,a0=.bf e j∧a=.bf e (j+d)
mutual
def R(T:dw)(H:ah T.den):SV T.den→AV→Prop
 |.dead,_=>False
 |.hole,a=>a=.any
 |.lit v,a=>a=.lit v
 |.agg l,a=>∃ l',a=.agg l'∧RL T H l l'
 |.ju l,a=>∃ l',a=.ju l'∧RL T H l l'
 |.sl l,a=>∃ l',a=.sl l'∧RL T H l l'∧av l=true
 |.jt t l,a=>(∃ l',a=.sl l'∧aw (T.rp t) l l')∨(l=[]∧a=.lit cK)
 |.bf e j,a=>∃ e',a=.bf e' j∧R T H e e'∧aE e=true
 |.ref n c i j,a=>∃ aq,a=.ref n aq i j∧fK H n c aq
 |.iP n c i j ln cp,a=>∃ aq,a=.iP n aq i j ln cp∧fK H n c aq
 |.bq esz n c rg cap,a=>∃ aq,fK H n c aq∧(match rg with
  |none=>a=.bq esz n aq 0 aq cap
  |some (off,len)=>a=.bq esz n aq off len cap)
 |.iR fn f c,a=>∃ f' c',a=.iR fn f' c'∧RL T H f f'∧RL T H c c'
 |.gd t v,a=>∃ v',a=.gd t v'∧R T H v v'
 |.wK t l c b,a=>(b=true∧∃ l',a=.o6 l' c∧aw (T.rp t) l l')∨(b=false∧l=[]∧(a=.sl []∨a=.lit cK))
 |.nz,a=>a=.nz
 |.mp y n,a=>a=.mp y n∧∃ o:aC T.den,H[n]?=some (some o)
 |.sH v s len i,a=>∃ a0,R T H v a0∧i<len∧VA a0 (i*s) a
def RL(T:dw)(H:ah T.den):List (SV T.den)→List AV→Prop
 |[],[]=>True
 |x::xs,y::ys=>R T H x y∧RL T H xs ys
 |_,_=>False
end
theorem aP{H:ah T.den}:∀ {l:List (SV T.den)} {m:List AV},RL T H l m↔aw (R T H) l m
 |[],[]=>by simp[RL,aw]
 |x::xs,y::ys=>by simp only[RL,aw]; rw[aP]
 |[],_::_=>by simp[RL,aw]
 |_::_,[]=>by simp[RL,aw]
def RV(T:dw)(H:ah T.den)(v:SV T.den)(a:AV):Prop:=v=.dead∨R T H v a
theorem RV.live{H:ah T.den}{v:SV T.den}{a:AV}(h:RV T H v a)(hd:bN v=false):R T H v a:=by
 rcases h with h|h
 ·subst h; simp[bN]at hd
 ·exact h
def RD(T:dw)(H:ah T.den)(v:SV T.den)(a:AV):Prop:=(v=.dead∧a=.any)∨R T H v a
def RO(T:dw)(H:ah T.den):aC T.den→aL→Prop
 |.arr g cl f _ es,a=>∃ es',a=.arr g cl f es'∧RL T H es es'∧(cl=true→av es=true)
 |.bW g f _ t l,a=>∃ es',a=.arr g true f es'∧aw (T.rp t) l es'
 |.gX,a=>(∃ g f es',a=.arr g true f es')∨∃ k vs,a=.gf k vs∧∀ n,cO n vs=true
 |.kh kk t m,a=>∃ vs,a=.gf (.map kk (m.map fun q=>kk.v q.1)) vs∧aw (T.rp t) (m.map (·.2)) vs
 |.oU fn ps as bd fr,a=>∃ st vs,a=.gf (.loop fn ps as bd st) vs∧aw (RD T H) fr vs
def Bh(T:dw)(H:ah T.den):Option (aC T.den)→Option aL→Prop
 |none,none=>True
 |some o,some a=>RO T H o a
 |_,_=>False
def RH(T:dw)(H:ah T.den)(hp:ag):Prop:=aw (Bh T H) H hp
def aC.isRec{den:Nat→Type}:aC den→Bool
 |.oU ..=>true
 |_=>false
def recAt{den:Nat→Type}(H:ah den)(n:Nat):Bool:=
 match H[n]? with
 |some (some o)=>o.isRec
 |_=>false
def dk{den:Nat→Type}(H H':ah den):Prop:=
 ∀ (n:Nat) (o:aC den),H[n]?=some (some o)→∃ o':aC den,H'[n]?=some (some o')∧o.cur≤o'.cur∧(o'.cur=o.cur→o'.len=o.len)
theorem dk.refl{den:Nat→Type}(H:ah den):dk H H:=fun _ o h=>⟨o,h,Nat.le_refl _,fun _=>rfl⟩
theorem dk.trans{den:Nat→Type}{H H' XU:ah den}(h:dk H H')(h':dk H' XU):dk H XU:=by
 intro n o ho
 obtain⟨o',h1,h2,h3⟩:=h n o ho
 obtain⟨VB,h4,h5,h6⟩:=h' n o' h1
 exact⟨VB,h4,Nat.le_trans h2 h5,fun e=>by rw[h6 (by omega),h3 (by omega)]⟩
theorem fK.mono{den:Nat→Type}{H H':ah den}(h:dk H H'){n c aq:Nat}(hv:fK H n c aq):fK H' n c aq:=by
 obtain⟨o,h1,h2,h3⟩:=hv
 obtain⟨o',h4,h5,h6⟩:=h n o h1
 exact⟨o',h4,Nat.le_trans h2 h5,fun e=>by rw[h3 (by omega),h6 (by omega)]⟩
mutual
theorem R.mono{H H':ah T.den}(hg:dk H H'):∀ {v:SV T.den} {a:AV},R T H v a→R T H' v a
 |.dead,_,h=>by simp[R]at h
 |.hole,a,h=>by simpa[R] using h
 |.lit v,a,h=>by simpa[R] using h
 |.agg l,a,h=>by
  simp only[R]at h ⊢
  obtain⟨l',h1,h2⟩:=h
  exact⟨l',h1,RL.mono hg h2⟩
 |.ju l,a,h=>by
  simp only[R]at h ⊢
  obtain⟨l',h1,h2⟩:=h
  exact⟨l',h1,RL.mono hg h2⟩
 |.sl l,a,h=>by
  simp only[R]at h ⊢
  obtain⟨l',h1,h2,h3⟩:=h
  exact⟨l',h1,RL.mono hg h2,h3⟩
 |.jt t l,a,h=>by simpa[R] using h
 |.wK t l c b,a,h=>by simp only[R]at h ⊢; exact h
 |.nz,a,h=>by simp only[R]at h ⊢; exact h
 |.bf e j,a,h=>by
  simp only[R]at h ⊢
  obtain⟨e',h1,h2,h3⟩:=h
  exact⟨e',h1,R.mono hg h2,h3⟩
 |.ref n c i j,a,h=>by
  simp only[R]at h ⊢
  obtain⟨aq,h1,h2⟩:=h
  exact⟨aq,h1,h2.mono hg⟩
 |.iP n c i j ln cp,a,h=>by
  simp only[R]at h ⊢
  obtain⟨aq,h1,h2⟩:=h
  exact⟨aq,h1,h2.mono hg⟩
 |.bq esz n c rg cap,a,h=>by
  simp only[R]at h ⊢
  obtain⟨aq,h1,h2⟩:=h
  exact⟨aq,h1.mono hg,h2⟩
 |.iR fn f c,a,h=>by
  simp only[R]at h ⊢
  obtain⟨f',c',h1,h2,h3⟩:=h
  exact⟨f',c',h1,RL.mono hg h2,RL.mono hg h3⟩
 |.gd t v,a,h=>by
  simp only[R]at h ⊢
  obtain⟨v',h1,h2⟩:=h
  exact⟨v',h1,R.mono hg h2⟩
 |.mp y n,a,h=>by
  simp only[R]at h ⊢
  obtain⟨h1,o,h2⟩:=h
  obtain⟨o',h3,_⟩:=hg n o h2
  exact⟨h1,o',h3⟩
 |.sH v s len i,a,h=>by
  simp only[R]at h ⊢
  obtain⟨a0,h1,h2,h3⟩:=h
  exact⟨a0,R.mono hg h1,h2,h3⟩
theorem RL.mono{H H':ah T.den}(hg:dk H H'):∀ {l:List (SV T.den)} {m:List AV},RL T H l m→RL T H' l m
 |[],[],_=>by simp[RL]
 |x::xs,y::ys,h=>by
  simp only[RL]at h ⊢
  exact⟨R.mono hg h.1,RL.mono hg h.2⟩
 |[],_::_,h=>by simp[RL]at h
 |_::_,[],h=>by simp[RL]at h
end
theorem RV.mono[ab]{H H':ah T.den}(hg:dk H H'){v:SV T.den}{a:AV}(h:RV T H v a):RV T H' v a:=h.imp id (R.mono hg)
theorem RO.mono[ab]{H H':ah T.den}(hg:dk H H'){o:aC T.den}{a:aL}(h:RO T H o a):RO T H' o a:=by
 cases o with
 |arr g cl f cur es=>
  obtain⟨es',h1,h2,h3⟩:=h
  exact⟨es',h1,RL.mono hg h2,h3⟩
 |bW g f cur t l=>exact h
 |gX=>exact h
 |kh kk t m=>exact h
 |oU fn ps as bd fr=>
  obtain⟨st,vs,h1,h2⟩:=h
  exact⟨st,vs,h1,aw.mono (fun _ _ h=>h.imp id (R.mono hg)) h2⟩
theorem Bh.mono[ab]{H H':ah T.den}(hg:dk H H'){o:Option (aC T.den)}{a:Option aL}(h:Bh T H o a):Bh T H' o a:=by
 cases o<;>cases a<;>first|exact h|exact RO.mono hg h
theorem RH.length[ab]{H:ah T.den}{hp:ag}(h:RH T H hp):H.length=hp.length:=aw.length h
theorem RH.obj[ab]{H:ah T.den}{hp:ag}(h:RH T H hp){n:Nat}{o:aC T.den}(ho:H[n]?=some (some o)):∃ a,hp[n]?=some (some a)∧RO T H o a:=by
 obtain⟨a,h1,h2⟩:=aw.get h ho
 cases a with
 |none=>exact h2.elim
 |some a=>exact⟨a,h1,h2⟩
theorem RH.none[ab]{H:ah T.den}{hp:ag}(h:RH T H hp){n:Nat}(ho:H[n]?=some none):hp[n]?=some none:=by
 obtain⟨a,h1,h2⟩:=aw.get h ho
 cases a with
 |none=>exact h1
 |some a=>exact h2.elim
theorem RH.QX[ab]{H:ah T.den}{hp:ag}(h:RH T H hp){n:Nat}{o o':aC T.den}{a':aL}(ho:H[n]?=some (some o))(hc:o.cur≤o'.cur)(hl:o'.cur=o.cur→o'.len=o.len)
  (hr:RO T H o' a'):dk H (H.set n (some o'))∧RH T (H.set n (some o')) (hp.set n (some a')):=by
 have hg:dk H (H.set n (some o')):=by
  intro m q hq
  by_cases e:m=n
  ·grind
  ·grind
 exact⟨hg,aw.set (aw.mono (fun _ _=>Bh.mono hg) h) n (show Bh T _ (some o') (some a') from RO.mono hg hr)⟩
theorem RH.new[ab]{H:ah T.den}{hp:ag}(h:RH T H hp){nm:Nat}{o':aC T.den}{a':aL}(hn:nm=H.length∨H[nm]?=some .none)(hr:RO T H o' a'):
  dk H (bJ H nm o')∧RH T (bJ H nm o') (setObj hp nm a'):=by
 have hlen:=h.length
 unfold bJ setObj
 by_cases e:nm=H.length
 ·rw[if_pos e,if_pos (by omega)]
  have hg:dk H (H++[some o']):=by
   intro m q hq
   have bS:=(List.getElem?_eq_some_iff.1 hq).1
   exact⟨q,by rw[List.getElem?_append_left bS]; exact hq,Nat.le_refl _,fun _=>rfl⟩
  exact⟨hg,aw.append (aw.mono (fun _ _=>Bh.mono hg) h) ⟨RO.mono hg hr,trivial⟩⟩
 ·rw[if_neg e,if_neg (by omega)]
  have hn:H[nm]?=some .none:=hn.resolve_left e
  have hg:dk H (H.set nm (some o')):=by
   intro m q hq
   by_cases e:m=nm
   ·subst e; rw[hn]at hq; simp at hq
   ·grind
  exact⟨hg,aw.set (aw.mono (fun _ _=>Bh.mono hg) h) nm (show Bh T _ (some o') (some a') from RO.mono hg hr)⟩
structure dw.Ok(T:dw):Prop where
 up:∀ t x a H,T.rp t x a→R T H (T.up t x) a
 dn:∀ t v x a H,T.dn t v=some x→R T H v a→T.rp t x a
 ok:∀ t x a,T.rp t x a→aG (T.agg t) (T.size t) a=true
 closed:∀ t x a,T.rp t x a→closed a=true
 alt:∀ t f,T.alt t=some f→∀ x,(bif f.1 x then f.2.1 x else f.2.2 x)=T.up t x
theorem GB{T:dw}(hT:T.Ok){ρ:Type}(t:Nat)(x:T.den t)(K:SV T.den→Tr ρ):(T9 t x K).run=(K (T.up t x)).run:=by
 unfold T9
 split
 ·rfl
 ·rename_i f hf
  have h:=hT.alt t f hf x
  simp only[Tr.run]
  cases hb:f.1 x<;>rw[hb]at h<;>rw[←h]<;>rfl
theorem jl{den:Nat→Type}:∀ (l:List (SV den)),av l=l.all aE
 |[]=>rfl
 |x::xs=>by simp only[av,List.all_cons]; rw[jl xs]
theorem jN[ab]{den:Nat→Type}{l:List (SV den)}(h:av l=true){x:SV den}(hx:x∈l):aE x=true:=by
 rw[jl]at h
 exact List.all_eq_true.1 h x hx
theorem lf[ab]{den:Nat→Type}{l:List (SV den)}(h:∀ x,x∈l→aE x=true):av l=true:=by
 rw[jl]
 exact List.all_eq_true.2 h
theorem mC[ab]{den:Nat→Type}{l:List (SV den)}(h:av l=true)(a b:Nat):av ((l.drop a).take b)=true:=
 lf fun _ hx=>jN h (List.mem_of_mem_drop (List.mem_of_mem_take hx))
theorem Fi[ab]{den:Nat→Type}{l m:List (SV den)}(h:av l=true)(h':av m=true):av (l++m)=true:=
 lf fun _ hx=>(List.mem_append.1 hx).elim (jN h) (jN h')
theorem sk[ab]{den:Nat→Type}{l:List (SV den)}(h:av l=true){x:SV den}(hx:aE x=true)(i:Nat):av (l.set i x)=true:=
 lf fun _ hy=>(List.mem_or_eq_of_mem_set hy).elim (jN h) fun e=>e▸hx
theorem oP[ab]{den:Nat→Type}:∀ {cs l:List (SV den)} (j:Nat),av l=true→av cs=true→av (iI l j cs)=true
 |[],_,_,h,_=>h
 |x::xs,l,j,h,hc=>by
  simp only[av,Bool.and_eq_true]at hc
  simp only[iI]
  exact oP (j+1) (sk h hc.1 j) hc.2
theorem xZ[ab]{den:Nat→Type}{e e':SV den}{j:Nat}{cs:List (SV den)}(h:fS e j cs=some e')(he:aE e=true)(hc:av cs=true):aE e'=true:=by
 unfold fS at h
 split at h
 ·split at h
  case isFalse=>simp at h
  simp only[Option.some.injEq]at h
  subst h
  simp only[aE]at he ⊢
  exact oP j he hc
 ·grind[av]
theorem yY[ab]{den:Nat→Type}(v:SV den):av (bI v)=aE v:=by
 cases v with
 |lit v=>
  simp only[bI,aE]
  exact lf fun x hx=>by obtain⟨y,_,rfl⟩:=List.mem_map.1 hx; rfl
 |agg l=>rfl
 |_=>simp[bI,av]
theorem oQ[ab]{den:Nat→Type}:∀ {ps:List (Nat×SV den)} {es:List (SV den)},av es=true→av (ps.map (·.2))=true→av (fk es ps)=true
 |[],_,h,_=>h
 |(i,v)::ps,es,h,hc=>by
  simp only[List.map_cons,av,Bool.and_eq_true]at hc
  simp only[fk]
  exact oQ (sk h hc.1 i) hc.2
theorem tH[ab]{den:Nat→Type}{a:AV}{v:SV den}(h:(gw a:Option (SV den))=some v):aE v=true:=by
 cases a with
 |lit x=>simp[gw]at h; subst h; rfl
 |agg l=>
  simp only[gw,Option.map_eq_some_iff]at h
  obtain⟨c,_,rfl⟩:=h
  simp only[aE]
  exact lf fun x hx=>by obtain⟨y,_,rfl⟩:=List.mem_map.1 hx; rfl
 |_=>simp[gw]at h
end Go.PI
end
section
/- PS, part D: parts of values, by value, flat, below: on both sides alike. -/
namespace Go.PI
def aF{α:Type}(hp:ag)(r:RM α)(a:α)(rd:List Nat):Prop:=r.run hp=some a∧∀ n,n∈r.log hp→n∈rd
section
variable {α β:Type}{hp:ag}
theorem aF.pure(a:α):aF hp (pure a:RM α) a []:=⟨rfl,fun n h=>by simp[Pure.pure,RM.log]at h⟩
theorem aF.ret(a:α):aF hp (RM.ret a:RM α) a []:=⟨rfl,fun n h=>by simp[RM.log]at h⟩
theorem aF.mono{r:RM α}{a:α}{rd rd':List Nat}(h:aF hp r a rd)(hs:∀ n,n∈rd→n∈rd'):aF hp r a rd':=⟨h.1,fun n hn=>hs n (h.2 n hn)⟩
theorem aF.bind[ab]{r:RM α}{f:α→RM β}{a:α}{b:β}{rd rd':List Nat}(h:aF hp r a rd)(h':aF hp (f a) b rd'):aF hp (r >>= f) b (rd++rd'):=by
 refine⟨by rw[RM.run_bind,h.1]; exact h'.1,fun n hn=>?_⟩
 rw[RM.ek,h.1]at hn
 simp only[List.mem_append]at hn ⊢
 exact hn.imp (h.2 n) (h'.2 n)
theorem aF.get{n:Nat}{k:aL→RM α}{o:aL}{a:α}{rd:List Nat}(ho:hp[n]?=some (some o))(h:aF hp (k o) a rd):aF hp (.get n k) a (n::rd):=by
 refine⟨by simp[RM.run,ho,h.1],fun m hm=>?_⟩
 simp only[RM.log,ho,List.mem_cons]at hm ⊢
 exact hm.imp id (h.2 m)
theorem aF.arr[ab]{n aq:Nat}{g c f:Bool}{es:List AV}(ho:hp[n]?=some (some (.arr g c f es)))(hl:es.length=aq):aF hp (RM.arr n aq) (g,c,f,es) [n]:=by
 refine aF.get ho ?_
 simp only[hl,if_true]
 exact aF.ret _
theorem aF.gO[ab]{x:Option α}{a:α}(h:x=some a):aF hp (RM.gO x) a []:=by subst h; exact aF.ret a
end
variable {T:dw}
mutual
theorem R.closed{H:ah T.den}:∀ {v:SV T.den} {a:AV},R T H v a→aE v=closed a
 |.dead,a,h=>by simp[R]at h
 |.hole,a,h=>by simp only[R]at h; subst h; rfl
 |.lit v,a,h=>by simp only[R]at h; subst h; rfl
 |.agg l,a,h=>by
  simp only[R]at h
  obtain⟨l',rfl,h2⟩:=h
  simp only[aE,Go.PI.closed]; exact RL.closed h2
 |.ju l,a,h=>by
  simp only[R]at h
  obtain⟨l',rfl,h2⟩:=h
  simp only[aE,Go.PI.closed]; exact RL.closed h2
 |.sl l,a,h=>by
  simp only[R]at h
  obtain⟨l',rfl,h2⟩:=h
  rfl
 |.jt t l,a,h=>by
  simp only[R]at h
  rcases h with ⟨l',rfl,_⟩|⟨_,rfl⟩<;>rfl
 |.wK t l c b,a,h=>by
  simp only[R]at h
  rcases h with ⟨_,l',rfl,_⟩|⟨_,_,rfl|rfl⟩<;>rfl
 |.nz,a,h=>by
  simp only[R]at h
  subst h; rfl
 |.bf e j,a,h=>by
  simp only[R]at h
  obtain⟨e',rfl,h2⟩:=h
  rfl
 |.ref n c i j,a,h=>by
  simp only[R]at h
  obtain⟨aq,rfl,h2⟩:=h
  rfl
 |.iP n c i j ln cp,a,h=>by
  simp only[R]at h
  obtain⟨aq,rfl,h2⟩:=h
  rfl
 |.bq esz n c rg cap,a,h=>by
  simp only[R]at h
  obtain⟨aq,h1,h2⟩:=h
  rcases rg with _|⟨off,len⟩<;>simp only at h2<;>subst h2<;>rfl
 |.iR fn f c,a,h=>by
  simp only[R]at h
  obtain⟨f',c',rfl,h2,h3⟩:=h
  simp only[aE,Go.PI.closed]; rw[RL.closed h2,RL.closed h3]
 |.gd t v,a,h=>by
  simp only[R]at h
  obtain⟨v',rfl,h2⟩:=h
  simp only[aE,Go.PI.closed]; exact R.closed h2
 |.mp y n,a,h=>by
  simp only[R]at h
  obtain⟨rfl,_⟩:=h
  rfl
 |.sH v s len i,a,h=>by
  simp only[R]at h
  obtain⟨a0,h1,_,h2⟩:=h
  have:=R.closed h1
  simp only[aE]
  rcases h2 with ⟨n,aq,k,j,rfl,rfl⟩|⟨e,j,rfl,rfl⟩<;>exact this
theorem RL.closed{H:ah T.den}:∀ {l:List (SV T.den)} {m:List AV},RL T H l m→av l=aY m
 |[],[],_=>rfl
 |x::xs,y::ys,h=>by
  simp only[RL]at h
  simp only[av,aY]; rw[R.closed h.1,RL.closed h.2]
 |[],_::_,h=>by simp[RL]at h
 |_::_,[],h=>by simp[RL]at h
end
mutual
theorem R.below{H:ah T.den}{k:Nat}:∀ {v:SV T.den} {a:AV},R T H v a→bt k v=below k a
 |.dead,a,h=>by simp[R]at h
 |.hole,a,h=>by simp only[R]at h; subst h; rfl
 |.lit v,a,h=>by simp only[R]at h; subst h; rfl
 |.agg l,a,h=>by
  simp only[R]at h
  obtain⟨l',rfl,h2⟩:=h
  simp only[bt,Go.PI.below]; exact RL.below h2
 |.ju l,a,h=>by
  simp only[R]at h
  obtain⟨l',rfl,h2⟩:=h
  simp only[bt,Go.PI.below]; exact RL.below h2
 |.sl l,a,h=>by
  simp only[R]at h
  obtain⟨l',rfl,h2⟩:=h
  rfl
 |.jt t l,a,h=>by
  simp only[R]at h
  rcases h with ⟨l',rfl,_⟩|⟨_,rfl⟩<;>rfl
 |.wK t l c b,a,h=>by
  simp only[R]at h
  rcases h with ⟨_,l',rfl,_⟩|⟨_,_,rfl|rfl⟩<;>rfl
 |.nz,a,h=>by
  simp only[R]at h
  subst h; rfl
 |.bf e j,a,h=>by
  simp only[R]at h
  obtain⟨e',rfl,h2⟩:=h
  rfl
 |.ref n c i j,a,h=>by
  simp only[R]at h
  obtain⟨aq,rfl,h2⟩:=h
  rfl
 |.iP n c i j ln cp,a,h=>by
  simp only[R]at h
  obtain⟨aq,rfl,h2⟩:=h
  rfl
 |.bq esz n c rg cap,a,h=>by
  simp only[R]at h
  obtain⟨aq,h1,h2⟩:=h
  rcases rg with _|⟨off,len⟩<;>simp only at h2<;>subst h2<;>rfl
 |.iR fn f c,a,h=>by
  simp only[R]at h
  obtain⟨f',c',rfl,h2,h3⟩:=h
  simp only[bt,Go.PI.below]; rw[RL.below h2,RL.below h3]
 |.gd t v,a,h=>by
  simp only[R]at h
  obtain⟨v',rfl,h2⟩:=h
  simp only[bt,Go.PI.below]; exact R.below h2
 |.mp y n,a,h=>by
  simp only[R]at h
  obtain⟨rfl,_⟩:=h
  rfl
 |.sH v s len i,a,h=>by
  simp only[R]at h
  obtain⟨a0,h1,_,h2⟩:=h
  have:=R.below (k:=k) h1
  simp only[bt]
  rcases h2 with ⟨n,aq,k,j,rfl,rfl⟩|⟨e,j,rfl,rfl⟩<;>exact this
theorem RL.below{H:ah T.den}{k:Nat}:∀ {l:List (SV T.den)} {m:List AV},RL T H l m→gv k l=cO k m
 |[],[],_=>rfl
 |x::xs,y::ys,h=>by
  simp only[RL]at h
  simp only[gv,cO]; rw[R.below h.1,RL.below h.2]
 |[],_::_,h=>by simp[RL]at h
 |_::_,[],h=>by simp[RL]at h
end
mutual
theorem R.names{H:ah T.den}:∀ {v:SV T.den} {a:AV},R T H v a→mR v=names a
 |.dead,a,h=>by simp[R]at h
 |.hole,a,h=>by simp only[R]at h; subst h; rfl
 |.lit v,a,h=>by simp only[R]at h; subst h; rfl
 |.agg l,a,h=>by
  simp only[R]at h
  obtain⟨l',rfl,h2⟩:=h
  simp only[mR,Go.PI.names]; exact RL.names h2
 |.ju l,a,h=>by
  simp only[R]at h
  obtain⟨l',rfl,h2⟩:=h
  simp only[mR,Go.PI.names]; exact RL.names h2
 |.sl l,a,h=>by
  simp only[R]at h
  obtain⟨l',rfl,h2⟩:=h
  rfl
 |.jt t l,a,h=>by
  simp only[R]at h
  rcases h with ⟨l',rfl,_⟩|⟨_,rfl⟩<;>rfl
 |.wK t l c b,a,h=>by
  simp only[R]at h
  rcases h with ⟨_,l',rfl,_⟩|⟨_,_,rfl|rfl⟩<;>rfl
 |.nz,a,h=>by
  simp only[R]at h
  subst h; rfl
 |.bf e j,a,h=>by
  simp only[R]at h
  obtain⟨e',rfl,h2⟩:=h
  rfl
 |.ref n c i j,a,h=>by
  simp only[R]at h
  obtain⟨aq,rfl,h2⟩:=h
  rfl
 |.iP n c i j ln cp,a,h=>by
  simp only[R]at h
  obtain⟨aq,rfl,h2⟩:=h
  rfl
 |.bq esz n c rg cap,a,h=>by
  simp only[R]at h
  obtain⟨aq,h1,h2⟩:=h
  rcases rg with _|⟨off,len⟩<;>simp only at h2<;>subst h2<;>rfl
 |.iR fn f c,a,h=>by
  simp only[R]at h
  obtain⟨f',c',rfl,h2,h3⟩:=h
  simp only[mR,Go.PI.names]; rw[RL.names h2,RL.names h3]
 |.gd t v,a,h=>by
  simp only[R]at h
  obtain⟨v',rfl,h2⟩:=h
  simp only[mR,Go.PI.names]; exact R.names h2
 |.mp y n,a,h=>by
  simp only[R]at h
  obtain⟨rfl,_⟩:=h
  rfl
 |.sH v s len i,a,h=>by
  simp only[R]at h
  obtain⟨a0,h1,_,h2⟩:=h
  have:=R.names h1
  simp only[mR]
  rcases h2 with ⟨n,aq,k,j,rfl,rfl⟩|⟨e,j,rfl,rfl⟩<;>exact this
theorem RL.names{H:ah T.den}:∀ {l:List (SV T.den)} {m:List AV},RL T H l m→my l=ck m
 |[],[],_=>rfl
 |x::xs,y::ys,h=>by
  simp only[RL]at h
  simp only[my,ck]; rw[R.names h.1,RL.names h.2]
 |[],_::_,h=>by simp[RL]at h
 |_::_,[],h=>by simp[RL]at h
end
theorem R.leaf{H:ah T.den}{v:SV T.den}{a:AV}(h:R T H v a):gu v=a9 a:=by
 cases v with
 |dead=>simp[R]at h
 |hole=>simp only[R]at h; subst h; rfl
 |lit v=>simp only[R]at h; subst h; rfl
 |agg l=>simp only[R]at h; obtain⟨l',rfl,h2⟩:=h; rfl
 |ju l=>simp only[R]at h; obtain⟨l',rfl,h2⟩:=h; rfl
 |sl l=>simp only[R]at h; obtain⟨l',rfl,h2⟩:=h; rfl
 |jt t l=>simp only[R]at h; rcases h with ⟨l',rfl,_⟩|⟨_,rfl⟩<;>rfl
 |wK t l c b=>simp only[R]at h; rcases h with ⟨_,l',rfl,_⟩|⟨_,_,rfl|rfl⟩<;>rfl
 |nz=>simp only[R]at h; subst h; rfl
 |bf e j=>simp only[R]at h; obtain⟨e',rfl,h2⟩:=h; rfl
 |ref n c i j=>simp only[R]at h; obtain⟨aq,rfl,h2⟩:=h; rfl
 |iP n c i j ln cp=>simp only[R]at h; obtain⟨aq,rfl,h2⟩:=h; rfl
 |bq esz n c rg cap=>
  simp only[R]at h
  obtain⟨aq,h1,h2⟩:=h
  rcases rg with _|⟨off,len⟩<;>simp only at h2<;>subst h2<;>rfl
 |iR fn f c=>simp only[R]at h; obtain⟨f',c',rfl,h2,h3⟩:=h; rfl
 |gd t v=>simp only[R]at h; obtain⟨v',rfl,h2⟩:=h; rfl
 |mp y n=>simp only[R]at h; obtain⟨rfl,h2⟩:=h; rfl
 |sH v s len i=>simp only[R]at h; obtain⟨a0,_,_,h2⟩:=h; rcases h2 with ⟨n,aq,k,j,rfl,rfl⟩|⟨e,j,rfl,rfl⟩<;>rfl
theorem R.Fj{H:ah T.den}{v:SV T.den}{a:AV}(h:R T H v a)(hv:∀ l,v≠.agg l):∀ l,a≠.agg l:=by
 intro l e
 subst e
 cases v with
 |dead=>simp[R]at h
 |hole=>simp[R]at h
 |lit v=>simp[R]at h
 |agg l=>exact hv l rfl
 |ju l=>simp[R]at h
 |sl l=>simp[R]at h
 |jt t l=>simp[R]at h
 |bf e j=>simp[R]at h
 |ref n c i j=>simp[R]at h
 |iP n c i j ln cp=>simp[R]at h
 |bq esz n c rg cap=>
  grind[R]
 |iR fn f c=>simp[R]at h
 |gd t v=>simp[R]at h
 |mp y n=>simp[R]at h
 |sH v s len i=>simp[R,VA]at h
 |wK t l c b=>simp[R]at h
 |nz=>simp[R]at h
theorem RL.length[ab]{H:ah T.den}{l:List (SV T.den)}{m:List AV}(h:RL T H l m):l.length=m.length:=aw.length (aP.1 h)
theorem RL.lits{H:ah T.den}:∀ (c:List Value),RL T H (c.map .lit) (c.map .lit)
 |[]=>by simp[RL]
 |v::vs=>by simp only[List.map_cons,RL]; exact⟨by simp[R],RL.lits vs⟩
theorem R.cells[ab]{H:ah T.den}{v:SV T.den}{a:AV}(h:R T H v a):RL T H (bI v) (cellsOf a):=by
 cases v with
 |dead=>simp[R]at h
 |hole=>simp_all[R,bI,cellsOf,RL]
 |lit v=>simp only[R]at h; subst h; exact RL.lits _
 |agg l=>simp only[R]at h; obtain⟨l',rfl,h2⟩:=h; exact h2
 |jt t l=>
  have h':=h
  simp only[R]at h
  rcases h with ⟨l',rfl,_⟩|⟨_,rfl⟩
  ·simp_all[bI,cellsOf,RL]
  ·show RL T H [_] [AV.lit cK]
   simp only[RL]; exact⟨h',trivial⟩
 |ju l=>grind[R,bI,cellsOf,RL]
 |sl l=>grind[R,bI,cellsOf,RL]
 |bf e j=>grind[R,bI,cellsOf,RL]
 |ref n c i j=>grind[R,bI,cellsOf,RL]
 |iP n c i j ln cp=>grind[R,bI,cellsOf,RL]
 |bq esz n c rg cap=>
  grind[R,bI,cellsOf,RL]
 |iR fn f c=>grind[R,bI,cellsOf,RL]
 |gd t v=>grind[R,bI,cellsOf,RL]
 |nz=>
  simp_all[R,bI,cellsOf,RL]
 |wK t l c b=>
  have h':=h
  simp only[R]at h
  rcases h with ⟨_,l',rfl,_⟩|⟨_,_,rfl|rfl⟩
  ·simp_all[bI,cellsOf,RL]
  ·simp_all[bI,cellsOf,RL]
  ·show RL T H [_] [AV.lit cK]
   simp only[RL]; exact⟨h',trivial⟩
 |mp y n=>simp_all[R,bI,cellsOf,RL]
 |sH v s len i=>
  have h':=h
  simp only[R]at h
  obtain⟨a0,_,_,h2⟩:=h
  rcases h2 with ⟨n,aq,k,j,rfl,rfl⟩|⟨e,j,rfl,rfl⟩<;>simp only[bI,cellsOf,RL]<;>exact⟨h',trivial⟩
theorem RL.all{H:ah T.den}{p:SV T.den→Bool}{q:AV→Bool}(Mc:∀ v a,R T H v a→p v=q a):∀ {l:List (SV T.den)} {m:List AV},RL T H l m→l.all p=m.all q
 |[],[],_=>rfl
 |x::xs,y::ys,h=>by
  simp only[RL]at h
  simp only[List.all_cons]; rw[Mc _ _ h.1,RL.all Mc h.2]
 |[],_::_,h=>by simp[RL]at h
 |_::_,[],h=>by simp[RL]at h
theorem RL.CW[ab]{H:ah T.den}{l:List (SV T.den)}{m:List AV}(h:RL T H l m):l.all gu=m.all a9:=RL.all (fun _ _=>R.leaf) h
theorem CX{agg:Bool}{size:Nat}{a:AV}{j:Nat}(ha:∀ l,a≠.agg l):eH agg size a j=if !agg&&a9 a&&decide (j=0) then some a else none:=by
 cases a<;>first|rfl|exact absurd rfl (ha _)
theorem CY{agg:Bool}{size:Nat}{v:SV T.den}{j:Nat}(ha:∀ l,v≠.agg l):nI agg size v j=if !agg&&gu v&&decide (j=0) then some v else none:=by
 cases v<;>first|rfl|exact absurd rfl (ha _)
theorem R.part[ab]{H:ah T.den}{agg:Bool}{size:Nat}{v x:SV T.den}{a:AV}{j:Nat}(h:R T H v a)(hp:nI agg size v j=some x):∃ b,eH agg size a j=some b∧R T H x b:=by
 by_cases hv:∃ l,v=.agg l
 ·obtain⟨l,rfl⟩:=hv
  simp only[R]at h
  obtain⟨l',rfl,h2⟩:=h
  have hl:=h2.length
  cases agg with
  |true=>
   simp only[nI,if_true]at hp
   split at hp
   case isFalse=>simp at hp
   simp only[Option.some.injEq]at hp
   subst hp
   refine⟨_,by simp only[eH,if_true]; rw[if_pos (by omega)],?_⟩
   simp only[R]
   exact⟨_,rfl,aP.2 (((aP.1 h2).drop j).take size)⟩
  |false=>
   simp only[nI,Bool.false_eq_true,if_false]at hp
   obtain⟨b,h3,h4⟩:=aw.get (aP.1 h2) hp
   exact⟨b,by simpa[eH] using h3,h4⟩
 ·have jV:∀ l,v≠.agg l:=fun l e=>hv ⟨l,e⟩
  rw[CY jV]at hp
  rw[CX (h.Fj jV),←h.leaf]
  split at hp
  case isFalse=>simp at hp
  rename_i hc
  simp only[Option.some.injEq]at hp
  subst hp
  exact⟨a,by rw[if_pos hc],h⟩
theorem RL.setCells[ab]{H:ah T.den}:∀ {cs:List (SV T.den)} {lZ:List AV} {l:List (SV T.den)} {l':List AV} (j:Nat),RL T H l l'→RL T H cs lZ→RL T H (iI l j cs) (setCells l' j lZ)
 |[],[],l,l',j,h,_=>h
 |x::xs,y::ys,l,l',j,h,hc=>by
  simp only[RL]at hc
  simp only[iI,Go.PI.setCells]
  exact RL.setCells (j+1) (aP.2 ((aP.1 h).set j hc.1)) hc.2
 |[],_::_,_,_,_,_,h=>by simp[RL]at h
 |_::_,[],_,_,_,_,h=>by simp[RL]at h
theorem yZ{a y:AV}{j:Nat}(ha:∀ l,a≠.agg l)(hl:a9 a=true)(hj:j=0):iT a j [y]=some y:=by
 simp_all[iT,hl]
theorem x5{v e':SV T.den}{cs:List (SV T.den)}{j:Nat}(ha:∀ l,v≠.agg l)(h:fS v j cs=some e'):∃ y,cs=[y]∧e'=y∧gu v=true∧j=0:=by
 match cs with
 |[]=>simp_all[fS]
 |[y]=>simp_all[fS]
 |_::_::_=>simp_all[fS]
theorem R.iT[ab]{H:ah T.den}{v e':SV T.den}{a:AV}{j:Nat}{cs:List (SV T.den)}{lZ:List AV}(h:R T H v a)(hc:RL T H cs lZ)(hp:fS v j cs=some e'):
  ∃ b,Go.PI.iT a j lZ=some b∧R T H e' b:=by
 by_cases hv:∃ l,v=.agg l
 ·obtain⟨l,rfl⟩:=hv
  simp only[R]at h
  obtain⟨l',rfl,h2⟩:=h
  simp only[fS]at hp
  split at hp
  case isFalse=>simp at hp
  simp only[Option.some.injEq]at hp
  subst hp
  have h3:=h2.length
  have h4:=hc.length
  exact⟨_,by simp only[Go.PI.iT]; rw[if_pos (by omega)],by simp only[R]; exact⟨_,rfl,RL.setCells j h2 hc⟩⟩
 ·have jV:∀ l,v≠.agg l:=fun l e=>hv ⟨l,e⟩
  obtain⟨y,rfl,rfl,h3,h4⟩:=x5 jV hp
  match lZ,hc with
  |[b],hc=>
   simp only[RL]at hc
   exact⟨b,yZ (h.Fj jV) (by rw[←h.leaf]; exact h3) h4,hc.1⟩
  |[],hc=>simp[RL]at hc
  |_::_::_,hc=>simp[RL]at hc
def RP(T:dw)(H:ah T.den):List (Nat×SV T.den)→List (Nat×AV)→Prop:=aw fun p q=>p.1=q.1∧R T H p.2 q.2
theorem RP.fill[ab]{H:ah T.den}{place:Nat→Option (Nat×Nat)}:∀ {ps:List (Nat×SV T.den)} {qs:List (Nat×AV)} {l r:List (SV T.den)} {l':List AV},RP T H ps qs→RL T H l l'→zZ place l ps=some r →
  ∃ r',qZ place l' qs=some r'∧RL T H r r'
 |[],[],l,r,l',_,hl,h=>by
  simp only[zZ,Option.some.injEq]at h
  subst h
  exact⟨l',rfl,hl⟩
 |(i,v)::ps,(i',a)::qs,l,r,l',hp,hl,h=>by
  obtain⟨⟨h1,h2⟩,h3⟩:=hp
  simp only at h1 h2
  subst h1
  simp only[zZ]at h
  simp only[qZ]
  cases FR:place i with
  |none=>rw[FR]at h; simp at h
  |some q=>
   obtain⟨off,size⟩:=q
   rw[FR]at h
   simp only at h ⊢
   split at h
   case isFalse=>simp at h
   rename_i hc
   have mj:=h2.cells
   rw[if_pos ⟨by rw[←mj.length]; exact hc.1,by rw[←hl.length]; exact hc.2.1,by rw[←mj.CW]; exact hc.2.2⟩]
   exact RP.fill h3 (RL.setCells off hl mj) h
 |[],_::_,_,_,_,h,_,_=>h.elim
 |_::_,[],_,_,_,h,_,_=>h.elim
theorem R.aG[ab]{H:ah T.den}{agg:Bool}{size:Nat}{v:SV T.den}{a:AV}(h:R T H v a):kW agg size v=aG agg size a:=by
 by_cases hv:∃ l,v=.agg l
 ·obtain⟨l,rfl⟩:=hv
  simp only[R]at h
  obtain⟨l',rfl,h2⟩:=h
  simp only[kW,Go.PI.aG]
  rw[h2.length,h2.CW]
 ·have jV:∀ l,v≠.agg l:=fun l e=>hv ⟨l,e⟩
  have e1:kW agg size v=(!agg&&decide (size=1)&&gu v):=by cases v<;>first|rfl|exact absurd rfl (jV _)
  have e2:Go.PI.aG agg size a=(!agg&&decide (size=1)&&a9 a):=by
   have:=h.Fj jV
   cases a<;>first|rfl|exact absurd rfl (this _)
  rw[e1,e2,h.leaf]
theorem RL.cT{H:ah T.den}:∀ {l:List (SV T.den)} {m:List AV} {c:List Value},RL T H l m→mz l=some c→Go.PI.cT m=some c∧m=c.map .lit
 |[],[],c,_,h=>by simp[mz]at h; subst h; exact⟨rfl,rfl⟩
 |x::xs,y::ys,c,h,hc=>by
  simp only[RL]at h
  cases x with
  |lit v=>
   simp only[mz,Option.map_eq_some_iff]at hc
   obtain⟨c',h1,rfl⟩:=hc
   have h2:=h.1
   simp only[R]at h2
   subst h2
   obtain⟨h3,h4⟩:=RL.cT h.2 h1
   exact⟨by simp[Go.PI.cT,h3],by simp[h4]⟩
  |_=>simp[mz]at hc
 |[],_::_,_,h,_=>by simp[RL]at h
 |_::_,[],_,h,_=>by simp[RL]at h
theorem R.plain[ab]{H:ah T.den}{v:SV T.den}{a b:AV}(h:R T H v a)(hp:mT v=some b):a=b:=by
 cases v with
 |lit v=>simp_all[R,mT]
 |agg l=>
  simp only[R]at h
  obtain⟨l',rfl,h2⟩:=h
  simp only[mT,Option.map_eq_some_iff]at hp
  obtain⟨c,h3,rfl⟩:=hp
  rw[(RL.cT h2 h3).2]
 |_=>simp[mT]at hp
theorem uT[ab]{H:ah T.den}{a:AV}{v:SV T.den}(h:(gw a:Option (SV T.den))=some v):R T H v a:=by
 cases a with
 |lit x=>simp[gw]at h; subst h; simp[R]
 |agg l=>
  simp only[gw,Option.map_eq_some_iff]at h
  obtain⟨c,h1,rfl⟩:=h
  simp only[R]
  refine⟨l,rfl,?_⟩
  have:l=c.map .lit:=by
   revert c
   induction l with
   |nil=>simp_all[Go.PI.cT]
   |cons x xs ih=>
    intro c h1
    cases x with
    |lit v=>
     simp only[Go.PI.cT,Option.map_eq_some_iff]at h1
     obtain⟨c',h2,rfl⟩:=h1
     rw[ih c' h2]; rfl
    |_=>simp[Go.PI.cT]at h1
  rw[this]
  exact RL.lits c
 |_=>simp[gw]at h
end Go.PI
end
section
/- PS, part E: the tables looked up before. -/
namespace Go.PI
def oj:TypeDesc→MK
 |.slice e=>.slice e
 |.array n e=>.array n e
 |.struct fs=>.struct (fs.toList.map fun f=>(f.offset,f.type))
 |.interface _=>.iface
 |_=>.other
def kj(rec:TypeId→Option (List CK))(P:Program):Nat→List Field→Option (List CK)
 |_,[]=>some []
 | off, f :: fs => if f.name = "_" then none else
   if f.offset=off then
    match rec f.type with
    |some ks=>if ks.length=P.cellsOf f.type then (kj rec P (off+ks.length) fs).map fun l=>ks++l else none
    |none=>none
   else none
def mE(P:Program):Nat→TypeId→Option (List CK)
 |0,_=>none
 |d+1,t=>
  match P.underlying t with
  |some .bool=>some [.bool]
  |some (.int k)=>some [.int k]
  |some .string=>some [.str]
  |some (.array n e)=>if (P.info? e).isSome&&(P.underlying e).isSome then
    match mE P d e with
    |some ks=>if ks.length=P.cellsOf e then some (List.replicate n ks).flatten else none
    |none=>none
   else none
  |some (.struct fs)=>if P.stoodInHeld t then none else kj (mE P d) P 0 fs.toList
  |_=>none
theorem kl:∀ {ks:List CK} {vs:List Value},bk ks vs=true→ks.length=vs.length
 |[],[],_=>rfl
 |_::_,_::_,h=>by simp only[bk,Bool.and_eq_true]at h; simp[kl h.2]
 |[],_::_,h=>by simp[bk]at h
 |_::_,[],h=>by simp[bk]at h
theorem pY:∀ {ks ls:List CK} {vs:List Value},bk (ks++ls) vs=true→bk ks (vs.take ks.length)=true∧bk ls (vs.drop ks.length)=true
 |[],ls,vs,h=>by simpa[bk] using h
 |k::ks,ls,[],h=>by simp[bk]at h
 |k::ks,ls,v::vs,h=>by
  simp only[List.cons_append,bk,Bool.and_eq_true]at h
  obtain⟨h1,h2⟩:=pY h.2
  simp only[List.length_cons,List.take_succ_cons,List.drop_succ_cons,bk,Bool.and_eq_true]
  exact⟨⟨h.1,h1⟩,h2⟩
theorem pZ:∀ {a a' b b':List Value},a.length=a'.length→cI (a++b) (a'++b')=(cI a a'&&cI b b')
 |[],[],b,b',_=>by simp[cI]
 |x::xs,y::ys,b,b',h=>by
  simp only[List.cons_append,cI]
  rw[pZ (by simpa using h),Bool.and_assoc]
theorem p5[ab]{P:Program}{rec:TypeId→List Value→List Value→Option Bool}{kr:TypeId→Option (List CK)}
  (hr:∀ t ks c c',kr t=some ks→bk ks c=true→bk ks c'=true→rec t c c'=some (cI c c')) :
  ∀ (fs:List Field) (off:Nat) (ks:List CK) (cs lZ:List Value),kj kr P off fs=some ks→bk ks (cs.drop off)=true→bk ks (lZ.drop off)=true →
    jA rec P cs lZ fs=some (cI (cs.drop off) (lZ.drop off))
 |[],off,ks,cs,lZ,h,h1,h2=>by
  simp only[kj,Option.some.injEq]at h
  subst h
  have e1:cs.drop off=[]:=by cases hq:cs.drop off with
   |nil=>rfl
   |cons x xs=>rw[hq]at h1; simp[bk]at h1
  have e2:lZ.drop off=[]:=by cases hq:lZ.drop off with
   |nil=>rfl
   |cons x xs=>rw[hq]at h2; simp[bk]at h2
  rw[e1,e2]; rfl
 |f::fs,off,ks,cs,lZ,h,h1,h2=>by
  simp only[kj]at h
  split at h
  ·simp at h
  rename_i hn
  split at h
  case isFalse=>simp at h
  rename_i ho
  cases hk:kr f.type with
  |none=>rw[hk]at h; simp at h
  |some k1=>
   rw[hk]at h
   simp only at h
   split at h
   case isFalse=>simp at h
   rename_i hs
   rw[Option.map_eq_some_iff]at h
   obtain⟨k2,h3,rfl⟩:=h
   obtain⟨a1,a2⟩:=pY h1
   obtain⟨b1,b2⟩:=pY h2
   rw[List.drop_drop]at a2 b2
   have ih:=p5 hr fs (off+k1.length) k2 cs lZ h3 a2 b2
   have hc:chunk P cs f.offset f.type=(cs.drop off).take k1.length:=by simp[chunk,ho,hs]
   have HC:chunk P lZ f.offset f.type=(lZ.drop off).take k1.length:=by simp[chunk,ho,hs]
   simp only[jA,hn,if_false]
   rw[hc,HC,hr _ _ _ _ hk a1 b1]
   simp only
   rw[ih,Option.map_some]
   congr 1
   have l1:=kl a1
   have l2:=kl b1
   conv=>rhs; rw[←List.take_append_drop k1.length (cs.drop off),←List.take_append_drop k1.length (lZ.drop off)]
   rw[pZ (by omega),List.drop_drop,List.drop_drop]
theorem ru[ab]{P:Program}{rec:TypeId→List Value→List Value→Option Bool}{e:TypeId}{ks:List CK}(hs:ks.length=P.cellsOf e)
  (hr:∀ c c',bk ks c=true→bk ks c'=true→rec e c c'=some (cI c c')) :
  ∀ (n m:Nat) (cs lZ:List Value),bk (List.replicate n ks).flatten (cs.drop (m*ks.length))=true→bk (List.replicate n ks).flatten (lZ.drop (m*ks.length))=true →
    lr rec P e cs lZ (List.range' m n)=some (cI (cs.drop (m*ks.length)) (lZ.drop (m*ks.length)))
 |0,m,cs,lZ,h1,h2=>by
  simp only[List.replicate_zero,List.flatten_nil]at h1 h2
  have e1:cs.drop (m*ks.length)=[]:=by cases hq:cs.drop (m*ks.length) with
   |nil=>rfl
   |cons x xs=>rw[hq]at h1; simp[bk]at h1
  have e2:lZ.drop (m*ks.length)=[]:=by cases hq:lZ.drop (m*ks.length) with
   |nil=>rfl
   |cons x xs=>rw[hq]at h2; simp[bk]at h2
  rw[e1,e2]; rfl
 |n+1,m,cs,lZ,h1,h2=>by
  simp only[List.replicate_succ,List.flatten_cons]at h1 h2
  obtain⟨a1,a2⟩:=pY h1
  obtain⟨b1,b2⟩:=pY h2
  rw[List.drop_drop]at a2 b2
  have em:m*ks.length+ks.length=(m+1)*ks.length:=by rw[Nat.succ_mul]
  rw[em]at a2 b2
  have ih:=ru hs hr n (m+1) cs lZ a2 b2
  have hc:chunk P cs (m*P.cellsOf e) e=(cs.drop (m*ks.length)).take ks.length:=by simp[chunk,hs]
  have HC:chunk P lZ (m*P.cellsOf e) e=(lZ.drop (m*ks.length)).take ks.length:=by simp[chunk,hs]
  rw[List.range'_succ]
  simp only[lr]
  rw[hc,HC,hr _ _ a1 b1]
  simp only
  rw[ih,Option.map_some]
  congr 1
  have l1:=kl a1
  have l2:=kl b1
  conv=>rhs; rw[←List.take_append_drop ks.length (cs.drop (m*ks.length)),←List.take_append_drop ks.length (lZ.drop (m*ks.length))]
  rw[pZ (by omega),List.drop_drop,List.drop_drop,em]
theorem sq[ab]{P:Program}:∀ (d:Nat) (t:TypeId) (ks:List CK) (c c':List Value),mE P d t=some ks→bk ks c=true→bk ks c'=true→ku P d t c c'=some (cI c c')
 |0,_,_,_,_,h,_,_=>by simp[mE]at h
 |d+1,t,ks,c,c',h,h1,h2=>by
  simp only[mE]at h
  simp only[ku]
  cases hu:P.underlying t with
  |none=>rw[hu]at h; simp at h
  |some ds=>
   rw[hu]at h
   cases ds with
   |bool=>
    simp only[Option.some.injEq]at h
    subst h
    match c,c',h1,h2 with
    |[.bool a],[.bool b],_,_=>simp[cI,sa]
    |[],_,h1,_=>simp[bk]at h1
    |_::_::_,_,h1,_=>simp[bk]at h1
    |_,[],_,h2=>simp[bk]at h2
    |_,_::_::_,_,h2=>simp[bk]at h2
    |[v],[w],h1,h2=>
     cases v<;>simp[bk,CK.fits]at h1
     cases w<;>simp[bk,CK.fits]at h2
     simp[cI,sa]
   |int k=>
    simp only[Option.some.injEq]at h
    subst h
    match c,c',h1,h2 with
    |[],_,h1,_=>simp[bk]at h1
    |_::_::_,_,h1,_=>simp[bk]at h1
    |_,[],_,h2=>simp[bk]at h2
    |_,_::_::_,_,h2=>simp[bk]at h2
    |[v],[w],h1,h2=>
     cases v<;>simp[bk,CK.fits]at h1
     cases w<;>simp[bk,CK.fits]at h2
     subst h1; subst h2
     simp[cI,sa]
   |string=>
    simp only[Option.some.injEq]at h
    subst h
    match c,c',h1,h2 with
    |[],_,h1,_=>simp[bk]at h1
    |_::_::_,_,h1,_=>simp[bk]at h1
    |_,[],_,h2=>simp[bk]at h2
    |_,_::_::_,_,h2=>simp[bk]at h2
    |[v],[w],h1,h2=>
     cases v<;>simp[bk,CK.fits]at h1
     cases w<;>simp[bk,CK.fits]at h2
     simp[cI,sa]
   |array n e=>
    simp only at h ⊢
    split at h
    case isFalse=>simp at h
    rename_i hc
    rw[if_pos hc]
    cases hk:mE P d e with
    |none=>rw[hk]at h; simp at h
    |some k1=>
     rw[hk]at h
     simp only at h
     split at h
     case isFalse=>simp at h
     rename_i hs
     simp only[Option.some.injEq]at h
     subst h
     have:=ru (rec:=ku P d) hs (fun c c'=>sq d e k1 c c' hk) n 0 c c' (by simpa using h1) (by simpa using h2)
     rw[List.range_eq_range']
     simpa using this
   |struct fs=>
    simp only at h ⊢
    split at h
    ·simp at h
    rename_i hc
    rw[if_neg hc]
    have:=p5 (rec:=ku P d) (fun t ks c c' hk=>sq d t ks c c' hk) fs.toList 0 ks c c' h (by simpa using h1) (by simpa using h2)
    simpa using this
   |_=>simp at h
structure gK.Ok(Q:gK):Prop where
 row:∀ t m,Q.ty t=some m→∃ r,eY Q.P t=some r∧r.isAgg=m.agg∧r.size=m.size∧r.bytes=m.bytes∧(∀ z,m.zero=some z→cj r=some z)
 kind:∀ t m,Q.ty t=some m→∃ d,Q.P.underlying t=some d∧oj d=m.kind
 OD:∀ t m ks,Q.ty t=some m→m.OD=some ks→Q.P.eqGuardType Q.P.depth t=false∧mE Q.P 20 t=some ks
 map:∀ t q,Q.mapOf t=some q→wS Q.P t=some q
theorem gz{α:Type}:∀ {l:List (Nat×α)} {n:Nat} {a:α},cm l n=some a→(n,a)∈l
 |[],_,_,h=>by simp[cm]at h
 |(m,b)::r,n,a,h=>by
  simp only[cm]at h
  split at h
  ·simp_all
  ·exact List.mem_cons_of_mem _ (gz h)
def rowOf(P:Program)(t:Nat):Option (Bool×Nat×Nat):=(eY P t).map fun r=>(r.isAgg,r.size,r.bytes)
def zeroOf(P:Program)(m:j0)(t:Nat):Option AV:=match m.zero with
 |none=>none
 |some _=>(eY P t).bind cj
def OJ(P:Program)(m:j0)(t:Nat):Option (List CK):=match m.OD with
 |none=>none
 |some _=>if P.eqGuardType P.depth t=false then mE P 20 t else none
def KN(P:Program)(m:j0)(t:Nat):Option (KK×Nat):=match m.map with
 |none=>none
 |some _=>wS P t
theorem uU{α β:Type}{f g:α→β}:∀ {l:List α},l.map f=l.map g→∀ x,x∈l→f x=g x
 |[],_,x,h=>by simp at h
 |y::ys,h,x,hx=>by
  simp only[List.map_cons,List.cons.injEq]at h
  rcases List.mem_cons.1 hx with rfl|hx
  ·exact h.1
  ·exact uU h.2 x hx
theorem gK.Ok.of[ab]{Q:gK}(h1:(Q.M.map fun q=>rowOf Q.P q.1)=Q.M.map fun q=>some (q.2.agg,q.2.size,q.2.bytes))
  (h2:(Q.M.map fun q=>zeroOf Q.P q.2 q.1)=Q.M.map fun q=>q.2.zero)
  (h3:(Q.M.map fun q=>(Q.P.underlying q.1).map oj)=Q.M.map fun q=>some q.2.kind)
  (h4:(Q.M.map fun q=>OJ Q.P q.2 q.1)=Q.M.map fun q=>q.2.OD) (h5:(Q.M.map fun q=>KN Q.P q.2 q.1)=Q.M.map fun q=>q.2.map):Q.Ok where
 row:=by
  intro t m h
  have hm:=gz h
  have e1:=uU h1 _ hm
  have e2:=uU h2 _ hm
  simp only[rowOf,Option.map_eq_some_iff,Prod.mk.injEq]at e1
  obtain⟨r,hr,a1,a2,a3⟩:=e1
  refine⟨r,hr,a1,a2,a3,fun z hz=>?_⟩
  simp only[zeroOf]at e2
  rw[hz]at e2
  simpa[hr] using e2
 kind:=by
  intro t m h
  have e:=uU h3 _ (gz h)
  simp only[Option.map_eq_some_iff]at e
  exact e
 OD:=by
  intro t m ks h hk
  have e:=uU h4 _ (gz h)
  simp only[OJ]at e
  rw[hk]at e
  simp only at e
  split at e
  ·exact⟨by assumption,e⟩
  ·simp at e
 map:=by
  intro t q h
  unfold gK.mapOf at h
  obtain⟨m,h1,h2⟩:=Option.bind_eq_some_iff.1 h
  have e:=uU h5 _ (gz h1)
  simp only[KN]at e
  rw[h2]at e
  exact e
end Go.PI
end
section
/- PS, part F: operations that only compute, and those on one object. -/
namespace Go.PI
variable {T:dw}{ρ:Type}
structure RE(T:dw)(H:ah T.den)(hp:ag)(v:SV T.den)(wr:List (Nat×aC T.den))(e:dm):Prop where
 val:RV T (bc H wr) v e.val
 hp:RH T (bc H wr) (ak hp e.wr)
 grow:dk H (bc H wr)
 names:∀ q,q∈e.wr→q.1∈wr.map (·.1)
 Bj:∀ n:Nat,n∉wr.map (·.1)→n<H.length→(bc H wr)[n]?=H[n]?
 len:H.length≤(bc H wr).length
 KO:∀ n,recAt H n=true→n∉wr.map (·.1)
def jn(T:dw)(H:ah T.den)(hp:ag)(m:RM dm)(K:EK T ρ)(r:ρ):Prop:=
 ∃ v wr rd e,aF hp m e rd∧RE T H hp v wr e∧(K v wr rd).run=some r
section
variable {H:ah T.den}{hp:ag}{K:EK T ρ}{r:ρ}
theorem ar[ab](hh:RH T H hp){m:RM dm}{v:SV T.den}{a:AV}{rd:List Nat}(hv:RV T H v a)(hm:aF hp m ⟨a,[]⟩ rd)(hk:(K v [] rd).run=some r):jn T H hp m K r:=
 ⟨v,[],rd,_,hm,⟨hv,hh,dk.refl _,fun q h=>by simp at h,fun _ _ _=>rfl,Nat.le_refl _,fun _ _ h=>by simp at h⟩,hk⟩
theorem vW{n:Nat}{o:aC T.den}(hn:n=H.length∨n<H.length):H.length≤(bJ H n o).length:=by
 unfold bJ
 split<;>simp
theorem x6{n m:Nat}{o:aC T.den}(hm:m<H.length)(dK:m≠n):(bJ H n o)[m]?=H[m]?:=by
 grind[bJ]
theorem eD[ab](hh:RH T H hp){m:RM dm}{nm:Nat}(hn:nm=H.length∨H[nm]?=some none){o:aC T.den}{a':aL}(ho:RO T H o a'){v:SV T.den}{a:AV}{rd:List Nat}
  (hv:RV T (bJ H nm o) v a) (hm:aF hp m ⟨a,[(nm,a')]⟩ rd) (hk:(K v [(nm,o)] rd).run=some r):jn T H hp m K r:=by
 obtain⟨hg,hr⟩:=hh.new hn ho
 refine⟨v,[(nm,o)],rd,_,hm,⟨hv,hr,hg,fun q h=>?_,fun n h hl=>?_,?_,fun n h1 h2=>?_⟩,hk⟩
 ·simp at h; subst h; simp
 ·simp at h; exact x6 hl h
 ·exact vW (hn.imp id fun h=>(List.getElem?_eq_some_iff.1 h).1)
 ·simp at h2
  subst h2
  unfold recAt at h1
  rcases hn with hn|hn
  ·rw[List.getElem?_eq_none (by omega)]at h1; simp at h1
  ·rw[hn]at h1; simp at h1
theorem jP[ab](hh:RH T H hp){m:RM dm}{n:Nat}{o o':aC T.den}{a':aL}(ho:H[n]?=some (some o))(hc:o.cur≤o'.cur)(hl:o'.cur=o.cur→o'.len=o.len)(dC:RO T H o' a')
  {v:SV T.den} {a:AV} {rd:List Nat} (hv:RV T (H.set n (some o')) v a) (hm:aF hp m ⟨a,[(n,a')]⟩ rd) (hk:(K v [(n,o')] rd).run=some r) (Sa:o.isRec=false:=by rfl):jn T H hp m K r:=by
 obtain⟨hg,hr⟩:=hh.QX ho hc hl dC
 have bS:=(List.getElem?_eq_some_iff.1 ho).1
 have e1:bc H [(n,o')]=H.set n (some o'):=by simp[bc,bJ]; omega
 have e2:ak hp [(n,a')]=hp.set n (some a'):=by simp[ak,setObj]; have:=hh.length; omega
 refine⟨v,[(n,o')],rd,_,hm,⟨by rw[e1]; exact hv,by rw[e1,e2]; exact hr,by rw[e1]; exact hg,fun q h=>?_,fun k h hl=>?_,?_,fun m h1 h2=>?_⟩,hk⟩
 ·simp at h; subst h; simp
 ·rw[e1]; simp at h; rw[List.getElem?_set_ne (Ne.symm h)]
 ·rw[e1]; simp
 ·simp at h2
  subst h2
  unfold recAt at h1
  rw[ho]at h1
  simp only at h1
  rw[Sa]at h1
  simp at h1
theorem gZ{x:Option AV}(h:(oO (T:=T) x K).run=some r):∃ v,x=some (.lit v)∧(K (.lit v) [] []).run=some r:=by
 unfold oO at h
 split at h
 ·exact⟨_,rfl,h⟩
 ·simp[Tr.run]at h
theorem lW{x:Option (SV T.den)}{rd:List Nat}(h:(xP x rd K).run=some r):∃ v,x=some v∧(K v [] rd).run=some r:=by
 unfold xP at h
 split at h
 ·exact⟨_,rfl,h⟩
 ·simp[Tr.run]at h
theorem fo{b:Bool}{x y:Tr ρ}(h:(Tr.cond b x y).run=some r):(b=true∧x.run=some r)∨(b=false∧y.run=some r):=by
 cases b with
 |true=>exact .inl ⟨rfl,h⟩
 |false=>exact .inr ⟨rfl,h⟩
theorem aX[ab]{b:Bool}{x:Tr ρ}(h:(Tr.cond b x .fail).run=some r):b=true∧x.run=some r:=by
 grind[Tr.run]
theorem bind_some{α:Type}{e:Option α}{k:α→Tr ρ}(h:(Tr.bind e k).run=some r):∃ a,e=some a∧(k a).run=some r:=by
 simp only[Tr.run,Option.bind_eq_some_iff]at h
 exact h
theorem iJ[ab]{v:SV T.den}{K:Nat→Tr ρ}(h:(fU v K).run=some r):∃ k n,v=.lit (.int k n)∧0≤n∧(K n.toNat).run=some r:=by
 unfold fU at h
 split at h
 ·obtain⟨h1,h2⟩:=aX h
  exact⟨_,_,rfl,by simpa using h1,h2⟩
 ·simp[Tr.run]at h
theorem qI[ab]{v:SV T.den}{a:AV}{k:IntKind}{n:Int}(hv:RV T H v a)(e:v=.lit (.int k n))(hn:0≤n):asNat a=some n.toNat:=by
 subst e
 have:=hv.live rfl
 simp only[R]at this
 subst this
 simp[asNat,hn]
theorem cU[ab]{i:Nat}{K:Nat→Tr ρ}:∀ {len m:Nat},(fw i len m K).run=some r→m≤i∧i<m+len∧(K i).run=some r
 |0,m,h=>by simp[fw,Tr.run]at h
 |len+1,m,h=>by
  simp only[fw]at h
  rcases fo h with ⟨h1,h2⟩|⟨h1,h2⟩
  ·simp_all
  ·obtain⟨h3,h4,h5⟩:=cU h2
   exact⟨by omega,by omega,h5⟩
theorem RV.lit[ab]{v:SV T.den}{a:AV}{x:Value}(hv:RV T H v a)(e:v=.lit x):a=.lit x:=by
 subst e
 have:=hv.live rfl
 simpa only[R] using this
theorem bm(x:Value):RV T H (.lit x) (.lit x):=.inr (by simp[R])
theorem fK.arr(hh:RH T H hp){n c aq:Nat}(hv:fK H n c aq){o:aC T.den}(ho:H[n]?=some (some o))(hc:Nat.beq c o.cur=true):aq=o.len:=by
 obtain⟨o',h1,h2,h3⟩:=hv
 rw[ho]at h1
 simp only[Option.some.injEq]at h1
 subst h1
 exact h3 (Nat.eq_of_beq_eq_true hc)
theorem qJ:∀ {v:SV T.den} {a0 a:AV} {d:Nat},R T H v a0→VA a0 d a→R T H (im d v) a
 |.ref n c i j,a0,a,d,h,hx=>by
  simp only[R]at h
  obtain⟨aq,rfl,hv⟩:=h
  rcases hx with ⟨n,aq,k,j,h1,rfl⟩|⟨e,j,h1,rfl⟩<;>cases h1
  simp only[im,R]
  exact⟨_,rfl,hv⟩
 |.bf e j,a0,a,d,h,hx=>by
  simp only[R]at h
  obtain⟨e',rfl,hv⟩:=h
  rcases hx with ⟨n,aq,k,j,h1,rfl⟩|⟨e,j,h1,rfl⟩<;>cases h1
  simp only[im,R]
  exact⟨_,rfl,hv⟩
 |.sH v s l i,a0,a,d,h,hx=>by
  simp only[R]at h
  obtain⟨a1,h1,h2,h3⟩:=h
  simp only[im,R]
  rcases h3 with ⟨n,aq,k,j,rfl,rfl⟩|⟨e,j,rfl,rfl⟩<;>rcases hx with ⟨n',BM,k',j',e1,rfl⟩|⟨e',j',e1,rfl⟩<;>cases e1
  ·exact⟨.ref n aq k (j+d),qJ h1 (.inl ⟨_,_,_,_,rfl,rfl⟩),h2,.inl ⟨_,_,_,_,rfl,by rw[Nat.add_right_comm]⟩⟩
  ·exact⟨.bf e (j+d),qJ h1 (.inr ⟨_,_,rfl,rfl⟩),h2,.inr ⟨_,_,rfl,by rw[Nat.add_right_comm]⟩⟩
 |.dead,_,_,_,h,_=>by simp[R]at h
 |.lit v,_,_,_,h,hx=>by
  simp only[R]at h; subst h
  rcases hx with ⟨n,aq,k,j,h1,_⟩|⟨e,j,h1,_⟩<;>cases h1
 |.agg l,_,_,_,h,hx=>by
  simp only[R]at h; obtain⟨_,rfl,_⟩:=h
  rcases hx with ⟨n,aq,k,j,h1,_⟩|⟨e,j,h1,_⟩<;>cases h1
 |.ju l,_,_,_,h,hx=>by
  simp only[R]at h; obtain⟨_,rfl,_⟩:=h
  rcases hx with ⟨n,aq,k,j,h1,_⟩|⟨e,j,h1,_⟩<;>cases h1
 |.sl l,_,_,_,h,hx=>by
  simp only[R]at h; obtain⟨_,rfl,_⟩:=h
  rcases hx with ⟨n,aq,k,j,h1,_⟩|⟨e,j,h1,_⟩<;>cases h1
 |.jt t l,_,_,_,h,hx=>by
  simp only[R]at h
  rcases h with ⟨_,rfl,_⟩|⟨_,rfl⟩<;>rcases hx with ⟨n,aq,k,j,h1,_⟩|⟨e,j,h1,_⟩<;>cases h1
 |.iP n c i j ln cp,_,_,_,h,hx=>by
  simp only[R]at h; obtain⟨_,rfl,_⟩:=h
  rcases hx with ⟨n,aq,k,j,h1,_⟩|⟨e,j,h1,_⟩<;>cases h1
 |.bq esz n c rg cap,_,_,_,h,hx=>by
  simp only[R]at h
  obtain⟨aq,_,h2⟩:=h
  rcases rg with _|⟨off,len⟩<;>simp only at h2<;>subst h2<;>rcases hx with ⟨n,aq,k,j,h1,_⟩|⟨e,j,h1,_⟩<;>cases h1
 |.iR fn f c,_,_,_,h,hx=>by
  simp only[R]at h; obtain⟨_,_,rfl,_⟩:=h
  rcases hx with ⟨n,aq,k,j,h1,_⟩|⟨e,j,h1,_⟩<;>cases h1
 |.gd t v,_,_,_,h,hx=>by
  simp only[R]at h; obtain⟨_,rfl,_⟩:=h
  rcases hx with ⟨n,aq,k,j,h1,_⟩|⟨e,j,h1,_⟩<;>cases h1
 |.wK t l c b,_,_,_,h,hx=>by
  simp only[R]at h
  rcases h with ⟨_,_,rfl,_⟩|⟨_,_,rfl|rfl⟩<;>rcases hx with ⟨n,aq,k,j,h1,_⟩|⟨e,j,h1,_⟩<;>cases h1
 |.nz,_,_,_,h,hx=>by
  simp only[R]at h
  subst h
  rcases hx with ⟨n,aq,k,j,h1,_⟩|⟨e,j,h1,_⟩<;>cases h1
 |.mp y n,_,_,_,h,hx=>by
  simp only[R]at h; obtain⟨rfl,_⟩:=h
  rcases hx with ⟨n,aq,k,j,h1,_⟩|⟨e,j,h1,_⟩<;>cases h1
theorem kb{e:SV T.den}{s:Nat}:∀ {n j:Nat} {xs:List (SV T.den)},gx e j s n=some xs→xs.length=n∧∀ m x,xs[m]?=some x→nI false 1 e (j+m*s)=some x
 |0,j,xs,h=>by simp only[gx,Option.some.injEq]at h; subst h; simp
 |n+1,j,xs,h=>by
  simp only[gx,Option.bind_eq_some_iff,Option.map_eq_some_iff]at h
  obtain⟨x,hx,l,hl,rfl⟩:=h
  obtain⟨h1,h2⟩:=kb hl
  refine⟨by simp[h1],fun m y hy=>?_⟩
  cases m with
  |zero=>simp at hy; subst hy; simpa using hx
  |succ m=>
   grind
theorem sr{k:IntKind}:∀ {xs:List (SV T.den)} {l:List Int},uN k xs=some l→xs=l.map fun n=>.lit (.int k n)
 |[],l,h=>by simp only[uN,Option.some.injEq]at h; subst h; rfl
 |x::r,l,h=>by
  unfold uN at h
  split at h
  ·simp at *
  ·rename_i k' n r' he
   cases he
   split at h
   case isFalse=>simp at h
   rename_i hk
   subst hk
   rw[Option.map_eq_some_iff]at h
   obtain⟨l',hl,rfl⟩:=h
   rw[sr hl]; rfl
  ·simp at h
theorem vX:∀ {xs:List (SV T.den)} {l:List Bool},tE xs=some l→xs=l.map fun n=>.lit (.bool n)
 |[],l,h=>by simp only[tE,Option.some.injEq]at h; subst h; rfl
 |x::r,l,h=>by
  unfold tE at h
  split at h
  ·simp at *
  ·rename_i n r' he
   cases he
   rw[Option.map_eq_some_iff]at h
   obtain⟨l',hl,rfl⟩:=h
   rw[vX hl]; rfl
  ·simp at h
theorem z6{α:Type}{l:List α}{i:Nat}{d x:α}(h:l[i]?=some x):Gv l i d=x:=by
 simp_all[Gv,h]
theorem C3{xs:List (SV T.den)}{i:Nat}{x y:SV T.den}(h:Kx i xs=some y)(hx:xs[i]?=some x):y=x:=by
 unfold Kx at h
 split at h
 ·rename_i k n r
  rw[Option.map_eq_some_iff]at h
  obtain⟨l,hl,rfl⟩:=h
  rw[sr hl]at hx
  have:(List.map (fun n=>(SV.lit (Value.int k n):SV T.den)) (n::l))[i]?=some x:=hx
  rw[List.getElem?_map,Option.map_eq_some_iff]at this
  obtain⟨z,hz,rfl⟩:=this
  rw[z6 hz]
 ·rename_i n r
  rw[Option.map_eq_some_iff]at h
  obtain⟨l,hl,rfl⟩:=h
  rw[vX hl]at hx
  have:(List.map (fun n=>(SV.lit (Value.bool n):SV T.den)) (n::l))[i]?=some x:=hx
  rw[List.getElem?_map,Option.map_eq_some_iff]at this
  obtain⟨z,hz,rfl⟩:=this
  rw[z6 hz]
 ·simp at h
theorem C4{m:j0}{v x:SV T.den}{aV len i:Nat}{xs:List (SV T.den)}{rd:List Nat}(h:E8 H v aV len=some (xs,rd))(hx:Kx i xs=some x)(hi:i<len)(h1:m.agg=false)(h2:m.size=1):
  oe m H (im (i*aV) v) K=K x [] rd:=by
 have fin:∀ (e:SV T.den) (j:Nat),gx e j aV len=some xs→nI m.agg m.size e (j+i*aV)=some x:=by
  intro e j hs
  obtain⟨g1,g2⟩:=kb hs
  have bS:i<xs.length:=by omega
  have hg:=List.getElem?_eq_getElem bS
  rw[C3 hx hg,h1,h2]
  exact g2 _ _ hg
 unfold E8 at h
 split at h
 ·rename_i n c k j
  split at h
  case h_2=>simp at h
  rename_i g cl f cur es ho
  split at h
  case h_2=>simp at h
  rename_i hc
  simp only[Option.bind_eq_some_iff,Option.map_eq_some_iff,Prod.mk.injEq]at h
  obtain⟨e,he,l,hl,rfl,rfl⟩:=h
  simp only[im,oe,ho,hc,he,fin e j hl,xP]
 ·rename_i e j
  simp only[Option.map_eq_some_iff,Prod.mk.injEq]at h
  obtain⟨l,hl,rfl,rfl⟩:=h
  simp only[im,oe,fin e j hl,xP]
 ·simp at h
theorem KP{α:Type}{l:List α}{n:Nat}{x:α}(h:l[n]?=some x):l.set n x=l:=Go.PI.gV h
theorem C5{k:IntKind}{y:Int}{aV i:Nat}:∀ {ns:List Int} {l:List (SV T.den)} {j m:Nat},i<m→(∀ p n,ns[p]?=some n→l[j+p*aV]?=some (.lit (.int k n)))→E9 l j aV i m k y ns=l
 |[],l,j,m,_,_=>rfl
 |n::ns,l,j,m,hm,h=>by
  have h0:l[j]?=some (.lit (.int k n)):=by simpa using h 0 n rfl
  have hb:Nat.beq i m=false:=by
   cases hb:Nat.beq i m
   ·rfl
   ·have:=Nat.eq_of_beq_eq_true hb; omega
  simp only[E9,hb,cond_false]
  rw[KP h0]
  refine C5 (by omega) fun p x hp=>?_
  have:=h (p+1) x (by simpa using hp)
  rwa [Nat.succ_mul,Nat.add_comm _ aV,←Nat.add_assoc]at this
theorem C6{k:IntKind}{y:Int}{aV i:Nat}(hs:0<aV):∀ {ns:List Int} {l:List (SV T.den)} {j m:Nat},m≤i→i<m+ns.length→(∀ p n,ns[p]?=some n→l[j+p*aV]?=some (.lit (.int k n))) →
  E9 l j aV i m k y ns=l.set (j+(i-m)*aV) (.lit (.int k y))
 |[],l,j,m,h1,h2,_=>by simp at h2; omega
 |n::ns,l,j,m,h1,h2,h=>by
  have h0:l[j]?=some (.lit (.int k n)):=by simpa using h 0 n rfl
  have hn:∀ (l':List (SV T.den)),(∀ q,j<q→l'[q]?=l[q]?)→∀ p x,ns[p]?=some x→l'[j+aV+p*aV]?=some (.lit (.int k x)):=by
   intro l' hl p x hp
   have:=h (p+1) x (by simpa using hp)
   rw[Nat.succ_mul,Nat.add_comm _ aV,←Nat.add_assoc]at this
   rw[hl _ (by omega)]; exact this
  by_cases hm:i=m
  ·subst hm
   have hb:Nat.beq i i=true:=by simp
   simp only[E9,hb,cond_true,Nat.sub_self,Nat.zero_mul,Nat.add_zero]
   exact C5 (by omega) (hn _ fun q hq=>by rw[List.getElem?_set_ne (by omega)])
  ·have hb:Nat.beq i m=false:=by
    cases hb:Nat.beq i m
    ·rfl
    ·simp_all
   simp only[E9,hb,cond_false]
   rw[KP h0,C6 hs (by omega) (by simp at h2; omega) (hn _ fun _ _=>rfl)]
   have:i-m=(i-(m+1))+1:=by omega
   rw[this,Nat.succ_mul,Nat.add_assoc,Nat.add_comm aV]
theorem Bk{m:j0}{b v:SV T.den}{aV len i n:Nat}{o:aC T.den}(h:Fa H b v aV len i=some (n,o))(hi:i<len)(h2:m.size=1):
  qC m H (im (i*aV) b) v K=K (.lit undef) [(n,o)] [n]:=by
 unfold Fa at h
 split at h
 case h_2=>simp at h
 rename_i n' c i0 j k y
 split at h
 case h_2=>simp at h
 rename_i g cl f cur es ho
 split at h
 case h_2=>simp at h
 rename_i l hc he
 simp only[Bool.and_eq_true]at hc
 obtain⟨⟨IY,Od⟩,VU⟩:=hc
 have hs:0<aV:=Nat.le_of_ble_eq_true VU
 simp only[Option.map_eq_some_iff,Option.bind_eq_some_iff,Prod.mk.injEq]at h
 obtain⟨ns,⟨xs,zp,VV⟩,rfl,rfl⟩:=h
 obtain⟨g1,g2⟩:=kb zp
 have hxe:=sr VV
 have vn:∀ p x,ns[p]?=some x→l[j+p*aV]?=some (.lit (.int k x)):=by
  simp_all[nI]
 have hlen:ns.length=len:=by rw[←g1,hxe,List.length_map]
 have Fl:=C6 (y:=y) hs (Nat.zero_le i) (by omega) vn
 rw[Nat.sub_zero]at Fl
 rw[Fl]
 have bS:j+i*aV<l.length:=by
  have:=vn i _ (List.getElem?_eq_getElem (by omega:i<ns.length))
  exact(List.getElem?_eq_some_iff.1 this).1
 have ud:(bI (SV.lit (Value.int k y):SV T.den))=[.lit (.int k y)]:=rfl
 simp only[im,qC,bN,ud,ho,IY,Od,he,h2]
 simp[fS,iI,gu,av,aE]
 rw[if_pos (show j+i*aV+1≤l.length from bS)]
theorem uV[ab](hT:T.Ok){P:Program}{t:TypeId}{m:j0}{q:bG}(hq:eY P t=some q)(h1:q.isAgg=m.agg)(h2:q.size=m.size)(hh:RH T H hp){a:SV T.den}{b:AV}(ha:RV T H a b)
  (h:(oe m H a K).run=some r):∃ v c rd,aF hp (kH P t b) c rd∧R T H v c∧(K v [] rd).run=some r:=by
 unfold kH
 rw[hq]
 simp only
 unfold oe at h
 split at h
 ·-- a reference
  rename_i n c i j
  have ha:=ha.live rfl
  simp only[R]at ha
  obtain⟨aq,rfl,ca⟩:=ha
  simp only
  split at h
  ·rename_i g cl f cur es ho
   obtain⟨o,c6,dC⟩:=hh.obj ho
   obtain⟨es',rfl,cC,qX⟩:=dC
   split at h
   case h_2=>simp[Tr.run]at h
   rename_i hc
   have ca:=ca.arr hh ho hc
   simp only[aC.len]at ca
   split at h
   case h_2=>simp[Tr.run]at h
   rename_i e he
   obtain⟨v,hv,hk⟩:=lW h
   obtain⟨e',F5,D2⟩:=aw.get (aP.1 cC) he
   rw[←h1,←h2]at hv
   obtain⟨c',HC,Sz⟩:=R.part D2 hv
   refine⟨v,c',[n],?_,Sz,hk⟩
   refine aF.mono (aF.bind (aF.arr c6 (by rw[ca]; exact(RL.length cC).symm)) ?_) (rd:=[n]++[]) (fun _ h=>by simpa using h)
   simp only[F5]
   exact aF.gO HC
  ·rename_i g f cur t' l ho
   obtain⟨o,c6,dC⟩:=hh.obj ho
   obtain⟨es',rfl,cC⟩:=dC
   split at h
   case h_2=>simp[Tr.run]at h
   rename_i hc
   have ca:=ca.arr hh ho hc
   simp only[aC.len]at ca
   obtain⟨x,hx,h⟩:=bind_some h
   rw[GB hT]at h
   obtain⟨v,hv,hk⟩:=lW h
   obtain⟨e',F5,D2⟩:=aw.get cC hx
   rw[←h1,←h2]at hv
   obtain⟨c',HC,Sz⟩:=R.part (hT.up _ _ _ H D2) hv
   refine⟨v,c',[n],?_,Sz,hk⟩
   refine aF.mono (aF.bind (aF.arr c6 (by rw[ca]; exact(aw.length cC).symm)) ?_) (rd:=[n]++[]) (fun _ h=>by simpa using h)
   simp only[F5]
   exact aF.gO HC
  ·simp[Tr.run]at h
 ·rename_i e j
  have ha:=ha.live rfl
  simp only[R]at ha
  obtain⟨e',rfl,D2,_⟩:=ha
  obtain⟨v,hv,hk⟩:=lW h
  rw[←h1,←h2]at hv
  obtain⟨c',HC,Sz⟩:=R.part D2 hv
  exact⟨v,c',[],aF.gO HC,Sz,hk⟩
 ·simp[Tr.run]at h
theorem C7[ab](hT:T.Ok){P:Program}{t:TypeId}{m:j0}{q:bG}(hq:eY P t=some q)(h1:q.isAgg=m.agg)(h2:q.size=m.size)(hh:RH T H hp){a:SV T.den}{b:AV}(ha:RV T H a b)
  (h:(Gw m H a K).run=some r):∃ v c rd,aF hp (kH P t b) c rd∧R T H v c∧(K v [] rd).run=some r:=by
 unfold Gw at h
 split at h
 ·rename_i v aV len i
  have ha:=ha.live rfl
  simp only[R]at ha
  obtain⟨a0,g1,g2,g3⟩:=ha
  have hR:=qJ g1 g3
  have chain:(fw i len 0 fun k=>oe m H (im (k*aV) v) K).run=some r→∃ v c rd,aF hp (kH P t b) c rd∧R T H v c∧(K v [] rd).run=some r:=by
   intro h
   obtain⟨_,_,h⟩:=cU h
   exact uV hT hq h1 h2 hh (.inr hR) h
  split at h
  ·rename_i xs rd hs hx
   simp only[Bool.and_eq_true,Bool.not_eq_true']at hs
   split at h
   ·rename_i x KQ
    rw[←C4 (K:=K) (m:=m) hx KQ g2 hs.1 (Nat.eq_of_beq_eq_true hs.2)]at h
    exact uV hT hq h1 h2 hh (.inr hR) h
   ·exact chain h
  ·exact chain h
 ·exact uV hT hq h1 h2 hh ha h
def aC.x7{den:Nat→Type}:aC den→Bool
 |.arr ..|.bW ..=>true
 |_=>false
theorem RO.C8[ab]{o:aC T.den}{a:aL}(dC:RO T H o a)(hj:o.x7=true):∃ es,a=.arr o.flags.1 o.flags.2.1 o.flags.2.2 es∧es.length=o.len:=by
 cases o with
 |arr g cl f cur es=>obtain⟨es',rfl,cC,_⟩:=dC; exact⟨es',rfl,(RL.length cC).symm⟩
 |bW g f cur t l=>obtain⟨es',rfl,cC⟩:=dC; exact⟨es',rfl,(aw.length cC).symm⟩
 |_=>simp[aC.x7]at hj
theorem ss[ab](hT:T.Ok){P:Program}{t:TypeId}{m:j0}{q:bG}(hq:eY P t=some q)(h2:q.size=m.size)(hh:RH T H hp){a v:SV T.den}{b c:AV}(ha:RV T H a b)(hv:RV T H v c)
  (h:(qC m H a v K).run=some r):jn T H hp (o7 P t b c) K r:=by
 unfold o7
 rw[hq]
 simp only
 unfold qC at h
 split at h
 case h_2=>simp[Tr.run]at h
 rename_i hd kN
 simp only[Bool.and_eq_true,decide_eq_true_eq]at kN
 have hv:=hv.live hd
 have mj:=hv.cells
 split at h
 case h_2=>simp[Tr.run]at h
 rename_i n cc i j
 have ha:=ha.live rfl
 simp only[R]at ha
 obtain⟨aq,rfl,ca⟩:=ha
 simp only
 split at h
 ·rename_i g cl f cur es ho
  obtain⟨o,c6,dC⟩:=hh.obj ho
  obtain⟨es',rfl,cC,qX⟩:=dC
  split at h
  case h_2=>simp[Tr.run]at h
  rename_i hc
  simp only[Bool.and_eq_true,Bool.not_eq_true']at hc
  have ca:=ca.arr hh ho hc.1
  simp only[aC.len]at ca
  split at h
  case h_2=>simp[Tr.run]at h
  rename_i e he
  split at h
  case h_2=>simp[Tr.run]at h
  rename_i e' yR
  obtain⟨b',oG,Q1⟩:=aw.get (aP.1 cC) he
  obtain⟨e2,xE,Qe⟩:=R.iT Q1 mj yR
  have dU:RL T H (es.set i e') (es'.set i e2):=aP.2 ((aP.1 cC).set i Qe)
  refine jP (o':=.arr g (cl&&av (bI v)) f cur (es.set i e')) hh ho (Nat.le_refl _) (fun _=>by simp[aC.len]) (a':=.arr g (cl&&aY (cellsOf c)) f (es'.set i e2)) ⟨_,by rw[RL.closed mj],dU,fun m6=>by simp only[Bool.and_eq_true]at m6; exact sk (qX m6.1) (xZ yR (jN (qX m6.1) (List.mem_of_getElem? he)) m6.2) i⟩ (bm undef) ?_ h
  refine aF.mono (aF.bind (aF.arr c6 (by rw[ca]; exact(RL.length cC).symm)) ?_) (rd:=[n]++[]) (fun _ h=>by simpa using h)
  simp only[oG,xE]
  rw[if_pos ⟨hc.2,by rw[←mj.length,h2]; exact kN.1,by rw[←mj.CW]; exact kN.2⟩]
  exact aF.ret _
 ·rename_i g f cur t' l ho
  obtain⟨o,c6,dC⟩:=hh.obj ho
  obtain⟨es',rfl,cC⟩:=dC
  split at h
  case h_2=>simp[Tr.run]at h
  rename_i hc
  simp only[Bool.and_eq_true,Bool.not_eq_true']at hc
  have ca:=ca.arr hh ho hc.1.1
  simp only[aC.len]at ca
  obtain⟨x,hx,h⟩:=bind_some h
  split at h
  case h_2=>simp[Tr.run]at h
  rename_i e' yR
  split at h
  case h_2=>simp[Tr.run]at h
  rename_i y hy
  obtain⟨b',oG,Q1⟩:=aw.get cC hx
  obtain⟨e2,xE,Qe⟩:=R.iT (hT.up _ _ _ H Q1) mj yR
  have dU:aw (T.rp t') (l.set i y) (es'.set i e2):=cC.set i (hT.dn _ _ _ _ H hy Qe)
  refine jP (o':=.bW g f cur t' (l.set i y)) hh ho (Nat.le_refl _) (fun _=>by simp[aC.len]) (a':=.arr g (true&&aY (cellsOf c)) f (es'.set i e2)) ⟨_,by rw[←RL.closed mj,hc.2]; rfl,dU⟩ (bm undef) ?_ h
  refine aF.mono (aF.bind (aF.arr c6 (by rw[ca]; exact(aw.length cC).symm)) ?_) (rd:=[n]++[]) (fun _ h=>by simpa using h)
  simp only[oG,xE]
  rw[if_pos ⟨hc.1.2,by rw[←mj.length,h2]; exact kN.1,by rw[←mj.CW]; exact kN.2⟩]
  exact aF.ret _
 ·simp[Tr.run]at h
theorem HT[ab](hT:T.Ok){P:Program}{t:TypeId}{m:j0}{q:bG}(hq:eY P t=some q)(h2:q.size=m.size)(hh:RH T H hp){a v:SV T.den}{b c:AV}(ha:RV T H a b)(hv:RV T H v c)
  (h:(Fb m H a v K).run=some r):jn T H hp (o7 P t b c) K r:=by
 unfold Fb at h
 split at h
 ·rename_i w aV len i
  have ha:=ha.live rfl
  simp only[R]at ha
  obtain⟨a0,g1,g2,g3⟩:=ha
  have hR:=qJ g1 g3
  split at h
  ·rename_i n o hs hx
   rw[←Bk (K:=K) (m:=m) hx g2 (Nat.eq_of_beq_eq_true hs)]at h
   exact ss hT hq h2 hh (.inr hR) hv h
  ·obtain⟨_,_,h⟩:=cU h
   exact ss hT hq h2 hh (.inr hR) hv h
 ·exact ss hT hq h2 hh ha hv h
end
end Go.PI
end
section
/- PS, part G: the other operations. -/
namespace Go.PI
variable {T:dw}{ρ:Type}
section
variable {H:ah T.den}{hp:ag}{K:EK T ρ}{r:ρ}{Q:gK}
theorem gK.Ok.slice(hQ:Q.Ok){t e:Nat}{m:j0}(h:Q.elemOf t=some (e,m)):Q.P.underlying t=some (.slice e)∧Q.ty e=some m:=by
 unfold gK.elemOf at h
 cases ht:Q.ty t with
 |none=>rw[ht]at h; simp at h
 |some m1=>
  rw[ht]at h
  simp only at h
  obtain⟨d,hd,hk⟩:=hQ.kind t m1 ht
  cases hm:m1.kind with
  |slice e'=>
   rw[hm]at h hk
   simp only[Option.map_eq_some_iff,Prod.mk.injEq]at h
   obtain⟨m2,h1,rfl,rfl⟩:=h
   cases d<;>simp[oj]at hk
   subst hk
   exact⟨hd,h1⟩
  |_=>rw[hm]at h; simp at h
theorem gK.Ok.elem[ab](hQ:Q.Ok){t:Nat}{m:j0}(h:Q.elem t=some m):∃ r,aN Q.P t=some r∧r.isAgg=m.agg∧r.size=m.size∧r.bytes=m.bytes∧(∀ z,m.zero=some z→cj r=some z):=by
 unfold gK.elem at h
 rw[Option.map_eq_some_iff]at h
 obtain⟨⟨e,m'⟩,h1,rfl⟩:=h
 obtain⟨h2,h3⟩:=hQ.slice h1
 obtain⟨r,h4,h5⟩:=hQ.row e _ h3
 exact⟨r,by simp[aN,h2,h4],h5⟩
theorem gK.Ok.C9(hQ:Q.Ok){t n:Nat}{m:j0}(h:Q.arr t=some (n,m)):∃ r,arrayElem Q.P t=some (n,r)∧r.isAgg=m.agg∧r.size=m.size:=by
 unfold gK.arr at h
 cases ht:Q.ty t with
 |none=>rw[ht]at h; simp at h
 |some m1=>
  rw[ht]at h
  simp only at h
  obtain⟨d,hd,hk⟩:=hQ.kind t m1 ht
  cases hm:m1.kind with
  |array n' e=>
   rw[hm]at h hk
   simp only[Option.map_eq_some_iff,Prod.mk.injEq]at h
   obtain⟨m2,h1,rfl,rfl⟩:=h
   cases d<;>simp[oj]at hk
   obtain⟨rfl,rfl⟩:=hk
   obtain⟨r,h4,h5,h6,_⟩:=hQ.row _ _ h1
   exact⟨r,by simp[arrayElem,hd,h4],h5,h6⟩
  |_=>rw[hm]at h; simp at h
theorem gK.Ok.Nz(hQ:Q.Ok){t f off:Nat}{m:j0}(h:Q.T7 t f=some (off,m)):∃ r,me Q.P t f=some (off,r)∧r.isAgg=m.agg∧r.size=m.size:=by
 unfold gK.T7 at h
 cases ht:Q.ty t with
 |none=>rw[ht]at h; simp at h
 |some m1=>
  rw[ht]at h
  simp only at h
  obtain⟨d,hd,hk⟩:=hQ.kind t m1 ht
  cases hm:m1.kind with
  |struct fs=>
   rw[hm]at h hk
   simp only at h
   cases d<;>simp[oj]at hk
   rename_i DP
   subst hk
   cases hf:(List.map (fun f=>(f.offset,f.type)) DP.toList)[f]? with
   |none=>rw[hf]at h; simp at h
   |some q=>
    obtain⟨VW,e⟩:=q
    rw[hf]at h
    simp only at h
    rw[List.getElem?_map,Option.map_eq_some_iff]at hf
    obtain⟨fd,Uz,hq⟩:=hf
    simp only[Prod.mk.injEq]at hq
    obtain⟨rfl,rfl⟩:=hq
    cases he:Q.ty fd.type with
    |none=>rw[he]at h; simp at h
    |some m2=>
     rw[he]at h
     simp only at h
     split at h
     ·simp at h
     rename_i hz
     simp only[Option.some.injEq,Prod.mk.injEq]at h
     obtain⟨rfl,rfl⟩:=h
     obtain⟨r,h4,h5,h6,_⟩:=hQ.row _ _ he
     refine⟨r,?_,h5,h6⟩
     have VX:DP[f]?=some fd:=by simpa using Uz
     simp[me,structFields,hd,VX,h4]
     omega
  |_=>rw[hm]at h; simp at h
theorem gK.Ok.NA(hQ:Q.Ok){t:Nat}{b:Bool}(h:Q.isSlice t=some b):bX Q.P t=b:=by
 unfold gK.isSlice at h
 cases ht:Q.ty t with
 |none=>rw[ht]at h; simp at h
 |some m1=>
  rw[ht]at h
  simp only at h
  obtain⟨d,hd,hk⟩:=hQ.kind t m1 ht
  unfold bX
  rw[hd]
  cases hm:m1.kind<;>rw[hm]at h hk<;>cases d<;>simp[oj]at hk<;>simp_all
theorem NB[ab]{P:Program}{op:BinOp}{t:TypeId}{xo yo:Operand}{k:IntKind}{a b:Int}{v:Value}(h:P0 op k a b=some v):
  fp P op t xo yo (.lit (.int k a)) (.lit (.int k b))=some (.lit v):=by
 cases op<;>simp only[P0,Option.some.injEq,reduceCtorEq]at h<;>subst h
 ·exact AM
 ·exact F7
 ·exact MI
 ·rw[MG]; congr
 ·rw[MH]; congr
 ·exact qm
 ·exact ME
 ·exact F6
 ·exact MF
theorem NC[ab]{P:Program}{op:BinOp}{t:TypeId}{xo yo:Operand}{k:IntKind}{a b:Int}{v:Value}(h:P3 op k a b=some v)(hb:b≠0):
  fp P op t xo yo (.lit (.int k a)) (.lit (.int k b))=some (.lit v):=by
 cases op<;>simp only[P3,Option.some.injEq,reduceCtorEq]at h<;>subst h
 ·simp only[fp,ei,c8]; rw[eu _ (by simp) (by simp)]; simp[binOp,Op.intDiv,hb]; rfl
 ·simp only[fp,ei,c8]; rw[eu _ (by simp) (by simp)]; simp[binOp,Op.intDiv,hb]; rfl
theorem Qg[ab]{P:Program}{op:BinOp}{t:TypeId}{xo yo:Operand}{k k':IntKind}{a b:Int}{v:Value}(h:Vx op k a b=some v)(hb:¬b<0):
  fp P op t xo yo (.lit (.int k a)) (.lit (.int k' b))=some (.lit v):=by
 cases op<;>simp only[Vx,Option.some.injEq,reduceCtorEq]at h<;>subst h
 ·simp only[fp,ei,c8]; rw[eu _ (by simp) (by simp)]; simp[binOp,Op.shift,hb]; rfl
 ·simp only[fp,ei,c8]; rw[eu _ (by simp) (by simp)]; simp[binOp,Op.shift,hb]; rfl
theorem vY{x y:Value}{K:Bool→Tr ρ}:wL x y K=K (sa x y):=by
 unfold wL sa
 split<;>simp_all
theorem vZ[ab]:∀ {c c':List Value} {K:Bool→Tr ρ},kX c c' K=K (cI c c')
 |[],[],K=>rfl
 |[x],[y],K=>by simp[kX,vY,cI]
 |x::x'::xs,y::y'::ys,K=>by
  simp only[kX,vY]
  rw[vZ]
  rfl
 |[],_::_,K=>by simp[kX,cI]
 |_::_,[],K=>by simp[kX,cI]
 |[x],y::y'::ys,K=>by simp[kX,cI]
 |x::x'::xs,[y],K=>by simp[kX,cI]
theorem x8:∀ (c:List Value),cT (c.map .lit)=some c
 |[]=>rfl
 |v::vs=>by simp[cT,x8 vs]
theorem HU[ab](hQ:Q.Ok){op:BinOp}{t:TypeId}{xo yo:Operand}{l l':List (SV T.den)}{a b:List AV}(h1:RL T H l a)(h2:RL T H l' b)(h:(Ff Q op t l l' K).run=some r):
  ∃ v,fp Q.P op t xo yo (.agg a) (.agg b)=some (.lit v)∧(K (.lit v) [] []).run=some r:=by
 unfold Ff at h
 split at h
 case h_2=>simp[Tr.run]at h
 rename_i c c' m hc HC hm
 split at h
 case h_2=>simp[Tr.run]at h
 rename_i ks Vw
 split at h
 case h_2=>simp[Tr.run]at h
 rename_i hf
 simp only[Bool.and_eq_true]at hf
 obtain⟨_,rfl⟩:=RL.cT h1 hc
 obtain⟨_,rfl⟩:=RL.cT h2 HC
 obtain⟨hg,GZ⟩:=hQ.OD _ _ _ hm Vw
 have he:=sq 20 t ks c c' GZ hf.1.2 hf.2
 obtain⟨rr,wo,EJ,_⟩:=hQ.row _ _ hm
 have hd:∃ d,Q.P.underlying t=some d∧eh d=true:=by
  unfold eY at wo
  cases hi:Q.P.info? t with
  |none=>rw[hi]at wo; simp at wo
  |some i=>
   cases hu:Q.P.underlying t with
   |none=>rw[hi,hu]at wo; simp at wo
   |some d=>
    rw[hi,hu]at wo
    simp only[Option.some.injEq]at wo
    refine⟨d,rfl,?_⟩
    rw[←hf.1.1,←EJ,←wo]
    rfl
 obtain⟨d,Om,TR⟩:=hd
 have hA:∀ op,ei Q.P op t (.agg (c.map .lit)) (.agg (c'.map .lit))=ll op (cI c c'):=by
  intro op
  unfold ei
  simp only[x8,Om]
  cases d<;>simp[eh]at TR<;>simp[hg,he]
 have hB:∀ op x,ll op (cI c c')=some x→fp Q.P op t xo yo (.agg (c.map .lit)) (.agg (c'.map .lit))=some x:=by
  intro op x hx
  unfold fp
  rw[hA,hx]
 rw[vZ]at h
 cases op<;>simp only[Tr.run,reduceCtorEq]at h
 ·exact⟨_,hB _ _ rfl,h⟩
 ·exact⟨_,hB _ _ rfl,h⟩
theorem tK[ab]{v:SV T.den}{a b:AV}(hv:RV T H v a)(h:mT v=some b):a=b:=by
 rcases hv with hv|hv
 ·subst hv; simp[mT]at h
 ·exact hv.plain h
theorem tL{P:Program}{op:BinOp}{t:TypeId}{a b:AV}(ha:(∀ l,a≠.agg l)∨∀ l,b≠.agg l):ei P op t a b=none:=by
 unfold ei
 split
 ·simp_all
 ·rfl
theorem z7[ab]{P:Program}{op:BinOp}{t:TypeId}{x:SV T.den}{a:AV}{n:Value}{y:AV}(hx:RV T H x a)(h:A8 P op t x n=some y):
  nN P op t a n=some y∧c8 a=none∧∀ l,a≠.agg l:=by
 unfold A8 at h
 split at h
 ·split at h
  ·have:=hx.live rfl
   simp only[R]at this
   obtain⟨v',rfl,l',rfl,_⟩:=this
   exact⟨by simpa[nN] using h,rfl,by simp⟩
  ·have:=hx.live rfl
   simp only[R]at this
   obtain⟨v',rfl,l',rfl,_⟩:=this
   exact⟨by simpa[nN] using h,rfl,by simp⟩
  ·simp at h
 ·split at h
  ·have:=hx.live rfl
   simp only[R]at this
   obtain⟨f',c',rfl,_⟩:=this
   exact⟨by simpa[nN] using h,rfl,by simp⟩
  ·simp at h
 ·split at h
  case isFalse=>simp at h
  rename_i hc
  simp only[Bool.and_eq_true]at hc
  cases x<;>simp[Gt]at hc
  rename_i xs
  have:=hx.live rfl
  simp only[R]at this
  obtain⟨l',rfl,hl,_⟩:=this
  have:notNil (.sl l')=true:=by
   simp only[notNil]
   have:=hl.length
   cases l' with
   |nil=>simp at this; exact absurd this hc.2
   |cons=>rfl
  refine⟨?_,rfl,by simp⟩
  simp only[nN,hc.1,this,Bool.and_self,if_true]
  exact h
 ·simp at h
theorem ND[ab](hQ:Q.Ok){op:BinOp}{t:TypeId}{xo yo:Operand}{x y:SV T.den}{a b:AV}(hx:RV T H x a)(hy:RV T H y b)(h:(P4 Q op t xo yo x y K).run=some r):
  ∃ v,fp Q.P op t xo yo a b=some (.lit v)∧(K (.lit v) [] []).run=some r:=by
 unfold P4 at h
 split at h
 ·rename_i k m k' m'
  have ha:=hx.lit rfl
  have hb:=hy.lit rfl
  subst ha; subst hb
  split at h
  ·rename_i v hk hv
   simp only[decide_eq_true_eq]at hk
   subst hk
   exact⟨v,NB hv,h⟩
  ·split at h
   ·rename_i v hk hv
    simp only[decide_eq_true_eq]at hk
    subst hk
    rcases fo h with ⟨_,h⟩|⟨h0,h⟩
    ·simp[Tr.run]at h
    ·exact⟨v,NC hv (by simpa using h0),h⟩
   ·split at h
    ·rename_i v hk hv
     rcases fo h with ⟨_,h⟩|⟨h0,h⟩
     ·simp[Tr.run]at h
     ·exact⟨v,Qg hv (by simpa using h0),h⟩
    ·exact gZ h
 ·rename_i l l'
  have ha:=hx.live rfl
  have hb:=hy.live rfl
  simp only[R]at ha hb
  obtain⟨a',rfl,ha⟩:=ha
  obtain⟨b',rfl,hb⟩:=hb
  exact HU hQ ha hb h
 ·split at h
  ·rename_i a' b' h1 h2
   rw[tK hx h1,tK hy h2]
   exact gZ h
  ·split at h
   ·rename_i n
    obtain⟨v,hv,hk⟩:=gZ h
    obtain⟨h1,h2,h3⟩:=z7 hx hv
    have hb:=hy.lit rfl
    subst hb
    refine⟨v,?_,hk⟩
    unfold fp
    rw[tL (.inl h3),h2]
    exact h1
   ·rename_i hyn
    split at h
    ·rename_i n
     obtain⟨v,hv,hk⟩:=gZ h
     obtain⟨h1,h2,h3⟩:=z7 hy hv
     have ha:=hx.lit rfl
     subst ha
     refine⟨v,?_,hk⟩
     unfold fp
     rw[tL (.inr h3),h2]
     cases b with
     |lit b=>
      exfalso
      simp[c8]at h2
     |_=>exact h1
    ·simp[Tr.run]at h
theorem NF[ab]{t:Bool}{x y:SV T.den}{a b:AV}(hx:RV T H x a)(hy:RV T H y b)(h:(KB t x y K).run=some r):
  ∃ v,RV T H v (cond t a b)∧(K v [] []).run=some r:=by
 unfold KB at h
 split at h
 ·have ha:=hx.lit rfl
  have hb:=hy.lit rfl
  subst ha; subst hb
  refine⟨_,?_,h⟩
  cases t<;>exact bm _
 ·rename_i k m k' m'
  have ha:=hx.lit rfl
  have hb:=hy.lit rfl
  subst ha; subst hb
  split at h
  ·rename_i hk
   subst hk
   refine⟨_,?_,h⟩
   cases t<;>exact bm _
  ·rcases fo h with ⟨rfl,h⟩|⟨rfl,h⟩
   ·exact⟨_,bm _,h⟩
   ·exact⟨_,bm _,h⟩
 ·rcases fo h with ⟨rfl,h⟩|⟨rfl,h⟩
  ·exact⟨_,hx,h⟩
  ·exact⟨_,hy,h⟩
end
end Go.PI
end
section
/- PS, part H: structs and slices built, cut, indexed. -/
namespace Go.PI
variable {T:dw}{ρ:Type}
section
variable {H:ah T.den}{hp:ag}{K:EK T ρ}{r:ρ}{Q:gK}
theorem x9(hQ:Q.Ok):∀ {fs:List Field} {pl:List (Nat×Nat)},Q.uI (fs.map fun f=>(f.offset,f.type))=some pl→mf Q.P fs=some pl
 |[],pl,h=>by simpa[gK.uI,mf] using h
 |f::fs,pl,h=>by
  simp only[List.map_cons,gK.uI]at h
  cases hm:Q.ty f.type with
  |none=>rw[hm]at h; simp at h
  |some m=>
   cases hp:Q.uI (fs.map fun f=>(f.offset,f.type)) with
   |none=>rw[hm,hp]at h; simp at h
   |some l=>
    rw[hm,hp]at h
    simp only[Option.some.injEq]at h
    subst h
    obtain⟨r,h1,_,h2,_⟩:=hQ.row _ _ hm
    simp[mf,h1,x9 hQ hp,h2]
theorem ya[ab]{q:bG}{z:AV}{zs:SV T.den}(h:cj q=some z)(hz:(gw z:Option (SV T.den))=some zs):
  ∃ v,q.zero=some v∧v.cells.toList.all (fun v=>a9 (.lit v))=true∧RL T H (bI zs) (v.cells.toList.map .lit):=by
 unfold cj at h
 cases hv:q.zero with
 |none=>rw[hv]at h; simp at h
 |some v=>
  rw[hv]at h
  simp only at h
  split at h
  case isFalse=>simp at h
  rename_i hc
  simp only[Option.some.injEq]at h
  refine⟨v,rfl,hc.2.2.1,?_⟩
  have h1:=(uT (H:=H) hz).cells
  rw[←h]at h1
  cases v<;>first|exact h1|(simp[wQ]at hc)
theorem HV[ab](hQ:Q.Ok){t:TypeId}{ps:List (Nat×SV T.den)}{qs:List (Nat×AV)}(hp:RP T H ps qs){v:SV T.den}(h:Fc Q t ps=some v):∃ a,tW Q.P t qs=some a∧R T H v a:=by
 unfold Fc at h
 split at h
 case h_2=>simp at h
 rename_i m hm
 obtain⟨q,gL,dR,gD,_,Gl⟩:=hQ.row _ _ hm
 obtain⟨d,hd,hk⟩:=hQ.kind _ _ hm
 split at h
 ·rename_i fs z RW hz
  rw[Option.bind_eq_some_iff]at hz
  obtain⟨z0,M7,hz⟩:=hz
  obtain⟨zv,PH,Qh,SA⟩:=ya (H:=H) (Gl _ M7) hz
  rw[RW]at hk
  cases d<;>simp[oj]at hk
  rename_i DP
  subst hk
  split at h
  case h_2=>simp at h
  rename_i pl FR
  rw[Option.map_eq_some_iff]at h
  obtain⟨l,h1,rfl⟩:=h
  obtain⟨l',h2,h3⟩:=RP.fill hp SA h1
  refine⟨.agg l',?_,by simp only[R]; exact⟨l',rfl,h3⟩⟩
  unfold tW
  simp only[hd,gL,PH,x9 hQ FR,Qh,if_true]
  rw[h2]; rfl
 ·rename_i n e z RW hz
  rw[Option.bind_eq_some_iff]at hz
  obtain⟨z0,M7,hz⟩:=hz
  obtain⟨zv,PH,Qh,SA⟩:=ya (H:=H) (Gl _ M7) hz
  rw[RW]at hk
  cases d<;>simp[oj]at hk
  obtain⟨rfl,rfl⟩:=hk
  split at h
  case h_2=>simp at h
  rename_i m2 yE
  obtain⟨q2,wo,_,hr3,_⟩:=hQ.row _ _ yE
  rw[Option.map_eq_some_iff]at h
  obtain⟨l,h1,rfl⟩:=h
  obtain⟨l',h2,h3⟩:=RP.fill hp SA h1
  refine⟨.agg l',?_,by simp only[R]; exact⟨l',rfl,h3⟩⟩
  unfold tW
  simp only[hd,gL,PH,wo,Qh,if_true,hr3]
  rw[h2]; rfl
 ·simp at h
theorem v5[ab]:∀ {ps:List (Nat×SV T.den)} {qs:List (Nat×AV)} {es:List (SV T.den)} {es':List AV},RP T H ps qs→RL T H es es'→RL T H (fk es ps) (gP es' qs)
 |[],[],es,es',_,h=>h
 |(i,v)::ps,(i',a)::qs,es,es',hp,h=>by
  obtain⟨⟨h1,h2⟩,h3⟩:=hp
  simp only at h1 h2
  subst h1
  simp only[fk,gP]
  exact v5 h3 (aP.2 ((aP.1 h).set i h2))
 |[],_::_,_,_,h,_=>h.elim
 |_::_,[],_,_,h,_=>h.elim
theorem RP.snd:∀ {ps:List (Nat×SV T.den)} {qs:List (Nat×AV)},RP T H ps qs→RL T H (ps.map (·.2)) (qs.map (·.2))
 |[],[],_=>by simp[RL]
 |(i,v)::ps,(i',a)::qs,h=>by
  obtain⟨⟨_,h2⟩,h3⟩:=h
  simp only[List.map_cons,RL]
  exact⟨h2,RP.snd h3⟩
 |[],_::_,h=>h.elim
 |_::_,[],h=>h.elim
theorem RP.all{p:Nat×SV T.den→Bool}{q:Nat×AV→Bool}(Mc:∀ i v a,R T H v a→p (i,v)=q (i,a)):∀ {ps:List (Nat×SV T.den)} {qs:List (Nat×AV)},RP T H ps qs→ps.all p=qs.all q
 |[],[],_=>rfl
 |(i,v)::ps,(i',a)::qs,h=>by
  obtain⟨⟨h1,h2⟩,h3⟩:=h
  simp only at h1 h2
  subst h1
  simp only[List.all_cons]
  rw[Mc i v a h2,RP.all Mc h3]
 |[],_::_,h=>h.elim
 |_::_,[],h=>h.elim
theorem eE(hh:RH T H hp){nm:Nat}(hn:nm=H.length∨H[nm]?=some none){o:aC T.den}:fK (bJ H nm o) nm o.cur o.len:=by
 refine⟨o,?_,Nat.le_refl _,fun _=>rfl⟩
 unfold bJ
 split
 ·rename_i h; subst h; simp
 ·grind
theorem rz:∀ (ps:List (Nat×SV T.den)) (es:List (SV T.den)),(fk es ps).length=es.length
 |[],es=>rfl
 |(i,v)::ps,es=>by simp only[fk]; rw[rz ps]; simp
theorem yb[ab](hQ:Q.Ok)(hh:RH T H hp){nm:Nat}(hn:nm=H.length∨H[nm]?=some none){t:TypeId}{len:Nat}{ps:List (Nat×SV T.den)}{qs:List (Nat×AV)}(SB:RP T H ps qs)
  (h:(pT Q nm t len ps K).run=some r):jn T H hp (.gO (kc Q.P nm t len qs)) K r:=by
 unfold pT at h
 split at h
 case h_2=>simp[Tr.run]at h
 rename_i m hm
 obtain⟨q,gL,dR,gD,Gl,IC⟩:=hQ.elem hm
 split at h
 case h_2=>simp[Tr.run]at h
 rename_i z hz
 rw[Option.bind_eq_some_iff]at hz
 obtain⟨z0,M7,hz⟩:=hz
 split at h
 case isFalse=>simp[Tr.run]at h
 rename_i hc
 have nS:=IC _ M7
 have cC:=v5 SB (aP.2 (aw.replicate (uT (H:=H) hz) len))
 refine eD hh hn (o:=.arr false (av (ps.map (·.2))) false 0 (fk (List.replicate len z) ps)) (a':=.arr false (aY (qs.map (·.2))) false (gP (List.replicate len z0) qs))
  ⟨_,by rw[RL.closed (RP.snd SB)],cC,fun m6=>oQ (lf fun x hx=>by rw[List.eq_of_mem_replicate hx]; exact tH hz) m6⟩ (a:=.bq q.size nm len 0 len (some len)) (rd:=[]) ?_ ?_ h
 ·right
  simp only[R]
  have hv:=eE hh hn (o:=.arr false (av (ps.map (·.2))) false 0 (fk (List.replicate len z) ps))
  simp only[aC.cur,aC.len,rz,List.length_replicate]at hv
  exact⟨len,hv,by rw[gD]⟩
 ·have bg:qs.all (fun p=>decide (p.1<len)&&aG q.isAgg q.size p.2)=true:=by
   rw[←RP.all (p:=fun p=>decide (p.1<len)&&kW m.agg m.size p.2) (fun i v a Me=>by simp only[dR,gD,R.aG Me]) SB]; exact hc.2.2
  refine aF.gO ?_
  unfold kc
  simp only[gL,nS]
  rw[if_pos ⟨by rw[gD]; exact hc.1,by rw[gD]; exact hc.2.1,bg⟩]
def dw.tM(T:dw)(Q:gK):Prop:=∀ t m z za,Q.ty t=some m→m.zero=some za→T.zero t=some z→T.rp t z za
theorem y4[ab](hQ:Q.Ok)(hZ:T.tM Q)(hh:RH T H hp){nm:Nat}(hn:nm=H.length∨H[nm]?=some none){t:TypeId}{l c:SV T.den}{a b:AV}(hl:RV T H l a)(hc:RV T H c b)
  (h:(rZ Q nm t l c K).run=some r):jn T H hp (.gO (eM Q.P nm t a b)) K r:=by
 unfold rZ at h
 split at h
 case h_2=>simp[Tr.run]at h
 rename_i e m hm
 obtain⟨hu,ml⟩:=hQ.slice hm
 obtain⟨q,gL,dR,gD,Gl,IC⟩:=hQ.row _ _ ml
 have yR:aN Q.P t=some q:=by simp[aN,hu,gL]
 split at h
 case h_2=>simp[Tr.run]at h
 rename_i za z Qi hz DX
 simp only[decide_eq_true_eq]at DX
 have nS:=IC _ Qi
 have VY:=hZ _ _ _ _ ml Qi hz
 obtain⟨k,n,e1,Ef,h⟩:=iJ h
 obtain⟨k',n',e2,VZ,h⟩:=iJ h
 have ha:=qI hl e1 Ef
 have hb:=qI hc e2 VZ
 obtain⟨hg,h⟩:=aX h
 simp only[Bool.and_eq_true,decide_eq_true_eq]at hg
 have xm:aw (T.rp e) (List.replicate n'.toNat z) (List.replicate n'.toNat za):=aw.replicate VY _
 have hA:eM Q.P nm t a b=some ⟨.bq q.size nm n'.toNat 0 n.toNat (some n'.toNat),[(nm,.arr false true false (List.replicate n'.toNat za))]⟩:=by
  simp_all[yR,ha,hb,nS,eM]
 have hv:=eE hh hn (o:=.bW false false 0 e (List.replicate n'.toNat z))
 simp only[aC.cur,aC.len,List.length_replicate]at hv
 refine eD hh hn (o:=.bW false false 0 e (List.replicate n'.toNat z)) ⟨_,rfl,xm⟩ ?_ (aF.gO hA) h
 right
 simp only[R]
 exact⟨n'.toNat,hv,by rw[gD]⟩
theorem y5[ab](hQ:Q.Ok)(hZ:T.tM Q)(hh:RH T H hp){nm:Nat}(hn:nm=H.length∨H[nm]?=some none){t:TypeId}{l:SV T.den}{a:AV}(hl:RV T H l a)
  (h:(r8 Q nm t l K).run=some r):jn T H hp (.gO (eM Q.P nm t a a)) K r:=by
 unfold r8 at h
 split at h
 case h_2=>simp[Tr.run]at h
 rename_i e m hm
 obtain⟨hu,ml⟩:=hQ.slice hm
 obtain⟨q,gL,dR,gD,Gl,IC⟩:=hQ.row _ _ ml
 have yR:aN Q.P t=some q:=by simp[aN,hu,gL]
 split at h
 case h_2=>simp[Tr.run]at h
 rename_i za z Qi hz DX
 simp only[decide_eq_true_eq]at DX
 have nS:=IC _ Qi
 have VY:=hZ _ _ _ _ ml Qi hz
 obtain⟨k,n,e1,Ef,h⟩:=iJ h
 have ha:=qI hl e1 Ef
 obtain⟨hg,h⟩:=aX h
 simp only[Bool.and_eq_true,decide_eq_true_eq]at hg
 have xm:aw (T.rp e) (List.replicate n.toNat z) (List.replicate n.toNat za):=aw.replicate VY _
 have hA:eM Q.P nm t a a=some ⟨.bq q.size nm n.toNat 0 n.toNat (some n.toNat),[(nm,.arr false true false (List.replicate n.toNat za))]⟩:=by
  simp_all[yR,ha,nS,eM]
 have hv:=eE hh hn (o:=.bW false false 0 e (List.replicate n.toNat z))
 simp only[aC.cur,aC.len,List.length_replicate]at hv
 refine eD hh hn (o:=.bW false false 0 e (List.replicate n.toNat z)) ⟨_,rfl,xm⟩ ?_ (aF.gO hA) h
 right
 simp only[R]
 exact⟨n.toNat,hv,by rw[gD]⟩
theorem HW[ab](hQ:Q.Ok)(hh:RH T H hp){nm:Nat}(hn:nm=H.length∨H[nm]?=some none){t:TypeId}{m:j0}(hm:Q.ty t=some m){z:SV T.den}(hz:m.zero.bind gw=some z)(hs:0<m.size)
  (h:(K (.ref nm 0 0 0) [(nm,.arr false true false 0 [z])] []).run=some r) {ev:Operand→AV} {dst:Option Tmp} {type:TypeId} {pos:String} {after:Array Edge} {guard:Option (Nat×Bool)} :
  jn T H hp (aK Q.P nm ev ⟨dst,.alloc t,type,pos,after,guard⟩) K r:=by
 obtain⟨q,gL,dR,gD,Gl,IC⟩:=hQ.row _ _ hm
 rw[Option.bind_eq_some_iff]at hz
 obtain⟨z0,M7,hz⟩:=hz
 have nS:=IC _ M7
 refine eD hh hn (o:=.arr false true false 0 [z]) (a':=.arr false true false [z0]) ⟨_,rfl,by simp only[RL]; exact⟨uT hz,trivial⟩,fun _=>by simp only[av,tH hz,Bool.and_self]⟩ (a:=.ref nm 1 0 0) (rd:=[]) ?_ ?_ h
 ·right
  simp only[R]
  exact⟨1,rfl,eE hh hn (o:=.arr false true false 0 [z])⟩
 ·simp only[aK,gL,nS]
  rw[if_pos (by omega)]
  exact aF.ret _
def KR(T:dw)(H:ah T.den)(x:Option (SV T.den))(y:Option AV):Prop:=
 match x,y with
 |none,none=>True
 |some v,some a=>RV T H v a
 |_,_=>False
theorem hG[ab]{d:Nat}{x:Option (SV T.den)}{y:Option AV}(HI:KR T H x y){K:Nat→Tr ρ}(h:(ji d x K).run=some r):∃ n,br d y=some n∧(K n).run=some r:=by
 unfold ji at h
 split at h
 ·cases y with
  |none=>exact⟨d,rfl,h⟩
  |some a=>exact HI.elim
 ·cases y with
  |none=>exact HI.elim
  |some a=>
   obtain⟨k,n,e1,Ef,h⟩:=iJ h
   exact⟨n.toNat,qI HI e1 Ef,h⟩
theorem km[ab]{d:Nat}{v:SV T.den}{y:Option AV}(HI:KR T H (some v) y){K:Nat→Tr ρ}(h:(fU v K).run=some r):∃ n,br d y=some n∧(K n).run=some r:=
 hG (d:=d) HI h
theorem su[ab]{x:Option (SV T.den)}{y z:Option AV}(HI:KR T H x y)(h:uO x=some z):y=z:=by
 cases x with
 |none=>
  cases y with
  |none=>simpa[uO] using h
  |some a=>exact HI.elim
 |some v=>
  cases y with
  |none=>exact HI.elim
  |some a=>
   simp only[uO,Option.map_eq_some_iff]at h
   obtain⟨b,hb,rfl⟩:=h
   rw[tK HI hb]
theorem KR.isSome{x:Option (SV T.den)}{y:Option AV}(HI:KR T H x y):x.isSome=y.isSome:=by
 cases x<;>cases y<;>first|rfl|exact HI.elim
theorem qK[ab](hh:RH T H hp){esz n c:Nat}{rg:Option (Nat×Nat)}{cap:Option Nat}{a:AV}(ha:R T H (.bq esz n c rg cap) a){off len:Nat}(hr:mU H n c rg=some (off,len)){o:aC T.den}
  (ho:H[n]?=some (some o)):∃ aq,a=.bq esz n aq off len cap∧fK H n c aq∧(Nat.beq c o.cur=true→aq=o.len):=by
 simp only[R]at ha
 obtain⟨aq,hv,ha⟩:=ha
 have ca:Nat.beq c o.cur=true→aq=o.len:=hv.arr hh ho
 cases rg with
 |some q=>
  obtain⟨VW,Nu⟩:=q
  simp only[mU,Option.some.injEq,Prod.mk.injEq]at hr
  obtain⟨rfl,rfl⟩:=hr
  exact⟨aq,ha,hv,ca⟩
 |none=>
  simp only[mU,ho]at hr
  split at hr
  case isFalse=>simp at hr
  rename_i hc
  simp only[Option.some.injEq,Prod.mk.injEq]at hr
  obtain⟨rfl,rfl⟩:=hr
  have:=ca hc
  subst this
  exact⟨_,ha,hv,fun _=>rfl⟩
theorem sv(hT:T.Ok){t:Nat}{agg:Bool}{size:Nat}(h1:agg=T.agg t)(h2:size=T.size t):∀ {l:List (T.den t)} {l':List AV},aw (T.rp t) l l'→l'.all (aG agg size)=true
 |[],[],_=>rfl
 |_::_,_::_,h=>by
  subst h1; subst h2
  simp only[List.all_cons,Bool.and_eq_true]
  exact⟨hT.ok _ _ _ h.1,sv hT rfl rfl h.2⟩
theorem NG[ab](hT:T.Ok)(hQ:Q.Ok)(hh:RH T H hp){t:TypeId}{x:SV T.den}{a:AV}(hx:RV T H x a){lo hi mx:Option (SV T.den)}{Q2 wk OK:Option AV}(h1:KR T H lo Q2)(h2:KR T H hi wk)(h3:KR T H mx OK)
  (h:(PY Q H t x lo hi mx K).run=some r):∃ v b,m8 Q.P t a Q2 wk OK=some b∧RV T H v b∧(K v [] []).run=some r:=by
 unfold PY at h
 split at h
 ·rename_i v
  have ha:=hx.lit rfl
  subst ha
  split at h
  ·rename_i l hh' m e1 e2 e3
   rw[su h1 e1,su h2 e2,su h3 e3]
   split at h
   ·rename_i w hw
    exact⟨_,_,hw,bm w,h⟩
   ·rename_i hw
    exact⟨_,_,hw,.inr (by simp only[R]),h⟩
   ·simp[Tr.run]at h
  ·simp[Tr.run]at h
 ·rename_i xs
  have ha:=hx.live rfl
  simp only[R]at ha
  obtain⟨l',rfl,hl,DT⟩:=ha
  split at h
  ·rename_i m hm
   obtain⟨q,gL,dR,gD,_⟩:=hQ.elem hm
   obtain⟨n1,e1,h⟩:=hG h1 h
   obtain⟨n2,e2,h⟩:=hG h2 h
   obtain⟨_,_,h⟩:=cU h
   obtain⟨_,_,h⟩:=cU h
   split at h
   case h_2=>simp[Tr.run]at h
   rename_i hc
   simp only[Bool.and_eq_true,decide_eq_true_eq]at hc
   cases OK with
   |some _=>exact h3.elim
   |none=>
    refine⟨_,.sl ((l'.drop n1).take (n2-n1)),?_,?_,h⟩
    ·have bg:l'.all (aG q.isAgg q.size)=true:=by
      rw[dR,gD,←RL.all (fun _ _=>R.aG) hl]; exact hc.2
     simp only[m8,gL,e1]
     rw[show br l'.length wk=some n2 by rw[←hl.length]; exact e2]
     simp only
     rw[if_pos ⟨hc.1.1,by rw[←hl.length]; exact hc.1.2,bg⟩]
    ·right
     simp only[R]
     exact⟨_,rfl,aP.2 (((aP.1 hl).drop n1).take (n2-n1)),mC DT _ _⟩
  ·simp[Tr.run]at h
 ·rename_i t' l
  split at h
  ·rename_i m hm
   obtain⟨q,gL,dR,gD,_⟩:=hQ.elem hm
   split at h
   case h_2=>simp[Tr.run]at h
   rename_i hc
   simp only[Bool.and_eq_true,decide_eq_true_eq]at hc
   have ha:=hx.live rfl
   cases OK with
   |some _=>exact h3.elim
   |none=>
    have key:∀ n1 n2,br 0 Q2=some n1→br l.length wk=some n2→n1≤n2→n2≤l.length →
      ∃ b,m8 Q.P t a Q2 wk none=some b∧RV T H (.jt t' ((l.drop n1).take (n2-n1))) b:=by
     intro n1 n2 e1 e2 hle yO
     simp only[R]at ha
     rcases ha with ⟨l',rfl,hl⟩|⟨rfl,rfl⟩
     ·refine⟨.sl ((l'.drop n1).take (n2-n1)),?_,?_⟩
      ·simp only[m8,gL,e1]
       rw[show br l'.length wk=some n2 by rw[←hl.length]; exact e2]
       simp only
       rw[if_pos ⟨hle,by rw[←hl.length]; exact yO,sv hT (by rw[dR]; exact hc.1) (by rw[gD]; exact hc.2) hl⟩]
      ·right
       simp only[R]
       exact .inl ⟨_,rfl,(hl.drop n1).take (n2-n1)⟩
     ·simp only[List.length_nil,Nat.le_zero]at yO
      subst yO
      have:n1=0:=by omega
      subst this
      refine⟨.lit cK,?_,?_⟩
      ·simp only[List.length_nil]at e2
       simp only[m8,gL,e1,e2]
       rfl
      ·right
       show R T H (.jt t' _) (.lit cK)
       unfold R
       exact .inr ⟨by simp,rfl⟩
    cases lo with
    |none=>
     cases Q2 with
     |some _=>exact h1.elim
     |none=>
      cases hi with
      |none=>
       cases wk with
       |some _=>exact h2.elim
       |none=>
        obtain⟨b,hb,hr⟩:=key 0 l.length rfl rfl (Nat.zero_le _) (Nat.le_refl _)
        simp only[List.drop_zero,Nat.sub_zero,List.take_length]at hr
        exact⟨_,b,hb,hr,h⟩
      |some hi=>
       obtain⟨n2,e2,h⟩:=km (d:=l.length) h2 h
       obtain⟨hg,h⟩:=aX h
       simp only[decide_eq_true_eq]at hg
       obtain⟨b,hb,hr⟩:=key 0 n2 rfl e2 (Nat.zero_le _) hg
       simp only[List.drop_zero,Nat.sub_zero]at hr
       exact⟨_,b,hb,hr,h⟩
    |some lo=>
     cases hi with
     |none=>
      cases wk with
      |some _=>exact h2.elim
      |none=>
       obtain⟨n1,e1,h⟩:=km (d:=0) h1 h
       obtain⟨hg,h⟩:=aX h
       simp only[decide_eq_true_eq]at hg
       obtain⟨b,hb,hr⟩:=key n1 l.length e1 rfl hg (Nat.le_refl _)
       rw[List.take_of_length_le (by simp)]at hr
       exact⟨_,b,hb,hr,h⟩
     |some hi=>
      obtain⟨n1,e1,h⟩:=km (d:=0) h1 h
      obtain⟨n2,e2,h⟩:=km (d:=l.length) h2 h
      obtain⟨hg,h⟩:=aX h
      simp only[Bool.and_eq_true,decide_eq_true_eq]at hg
      obtain⟨b,hb,hr⟩:=key n1 n2 e1 e2 hg.1 hg.2
      exact⟨_,b,hb,hr,h⟩
  ·rename_i m mx hm
   obtain⟨q,gL,dR,gD,_⟩:=hQ.elem hm
   split at h
   case h_2=>simp[Tr.run]at h
   rename_i hi hc
   simp only[Bool.and_eq_true,decide_eq_true_eq]at hc
   cases wk with
   |none=>exact h2.elim
   |some SC=>
   cases OK with
   |none=>exact h3.elim
   |some Uk=>
   have ha:=hx.live rfl
   simp only[R]at ha
   split at h
   ·rename_i hz
    simp only[Bool.and_eq_true]at hz
    obtain⟨PH,Qh,SA⟩:=hz
    cases lo with
    |some _=>simp at PH
    |none=>
    cases Q2 with
    |some _=>exact h1.elim
    |none=>
    have z0:∀ {v:SV T.den} {a:AV},T8 v=true→RV T H v a→asNat a=some 0:=by
     intro v a hv hr
     unfold T8 at hv
     split at hv
     ·simp only[decide_eq_true_eq]at hv
      subst hv
      have:=hr.live rfl
      simp only[R]at this
      subst this
      rfl
     ·simp at hv
    have e2:=z0 Qh h2
    have e3:=z0 SA h3
    rcases ha with ⟨l',rfl,hl⟩|⟨rfl,rfl⟩
    ·have bg:=sv hT (agg:=q.isAgg) (size:=q.size) (by rw[dR]; exact hc.1) (by rw[gD]; exact hc.2) hl
     refine⟨_,.nz,?_,.inr (by simp only[R]),h⟩
     simp only[m8,gL,br,e2,e3]
     rw[if_pos ⟨Nat.zero_le _,Nat.zero_le _,Nat.zero_le _,bg⟩]
     rfl
    ·refine⟨_,.nz,?_,.inr (by simp only[R]),h⟩
     simp only[m8,gL,br,e2,e3,Option.isSome_some,Option.isNone_some,Bool.and_false,Bool.false_eq_true,if_false]
   obtain⟨n1,e1,h⟩:=hG h1 h
   obtain⟨n2,e2,h⟩:=km (d:=l.length) h2 h
   obtain⟨n3,e3,h⟩:=km (d:=l.length) h3 h
   obtain⟨hg,h⟩:=aX h
   simp only[Bool.and_eq_true,decide_eq_true_eq]at hg
   have V0:asNat SC=some n2:=e2
   have Ul:asNat Uk=some n3:=e3
   have f2:∀ d,br d (some SC)=some n2:=fun _=>V0
   rcases ha with ⟨l',rfl,hl⟩|⟨rfl,rfl⟩
   ·have hlen:=hl.length
    have bg:=sv hT (agg:=q.isAgg) (size:=q.size) (by rw[dR]; exact hc.1) (by rw[gD]; exact hc.2) hl
    have dK:l'.isEmpty=false:=by
     grind
    have MZ:n3≠0:=by omega
    refine⟨_,.o6 ((l'.drop n1).take (n2-n1)) (n3-n1),?_,.inr (by simp only[R]; exact .inl ⟨by cases l with
      |nil=>exfalso; cases l' with
       |nil=>simp at dK
       |cons=>simp at hlen
      |cons=>rfl,_,rfl,(hl.drop n1).take (n2-n1)⟩),h⟩
    simp only[m8,gL,e1,f2,Ul]
    rw[if_pos ⟨hg.1.1.1,hg.1.1.2,by rw[←hlen]; exact hg.1.2,bg⟩,if_neg MZ,dK]
    rfl
   ·exfalso
    simp only[List.length_nil]at hg
    omega
  ·simp[Tr.run]at h
 ·rename_i esz n c rg cap
  have ha:=hx.live rfl
  split at h
  ·rename_i m off len o hm hr ho
   obtain⟨q,gL,dR,gD,_⟩:=hQ.elem hm
   split at h
   case h_2=>simp[Tr.run]at h
   rename_i hc
   simp only[Bool.and_eq_true,decide_eq_true_eq]at hc
   obtain⟨aq,rfl,hv,ca⟩:=qK hh ha hr ho
   have ca:=ca hc.1
   obtain⟨n1,e1,h⟩:=hG h1 h
   obtain⟨n2,e2,h⟩:=hG h2 h
   obtain⟨hg,h⟩:=aX h
   simp only[Bool.and_eq_true,decide_eq_true_eq]at hg
   cases OK with
   |some _=>exact h3.elim
   |none=>
    refine⟨_,.bq esz n aq (off+n1) (n2-n1) (cap.map (·-n1)),?_,?_,h⟩
    ·simp only[m8,gL,e1,e2]
     rw[if_pos ⟨hg.1.1,by rw[ca]; exact hg.1.2,by rw[ca]; exact hg.2,by rw[gD]; exact hc.2⟩]
    ·right
     simp only[R]
     exact⟨aq,hv,rfl⟩
  ·rename_i m mx off len o hm hr ho
   obtain⟨q,gL,dR,gD,_⟩:=hQ.elem hm
   split at h
   case h_2=>simp[Tr.run]at h
   rename_i hi hc
   simp only[Bool.and_eq_true,decide_eq_true_eq]at hc
   cases wk with
   |none=>exact h2.elim
   |some SC=>
   cases OK with
   |none=>exact h3.elim
   |some Uk=>
   obtain⟨aq,rfl,hv,ca⟩:=qK hh ha hr ho
   have ca:=ca hc.1
   obtain⟨n1,e1,h⟩:=hG h1 h
   obtain⟨n2,e2,h⟩:=km (d:=len) h2 h
   obtain⟨n3,e3,h⟩:=km (d:=len) h3 h
   obtain⟨hg,h⟩:=aX h
   simp only[Bool.and_eq_true,decide_eq_true_eq]at hg
   have V0:asNat SC=some n2:=e2
   have Ul:asNat Uk=some n3:=e3
   have f2:∀ d,br d (some SC)=some n2:=fun _=>V0
   have f3:∀ d,br d (some Uk)=some n3:=fun _=>Ul
   refine⟨_,.bq esz n aq (off+n1) (n2-n1) (some (n3-n1)),?_,?_,h⟩
   ·simp only[m8,gL,e1,f2,Ul]
    rw[if_pos ⟨hg.1.1.1,hg.1.1.2,by rw[ca]; exact hg.1.2,by rw[ca]; exact hg.2,by rw[gD]; exact hc.2⟩]
   ·right
    simp only[R]
    exact⟨aq,hv,rfl⟩
  ·simp[Tr.run]at h
 ·rename_i n' c k' j
  have ha:=hx.live rfl
  simp only[R]at ha
  obtain⟨aq,rfl,hv⟩:=ha
  split at h
  case h_2=>simp[Tr.run]at h
  rename_i len m hm
  obtain⟨q,gL,dR,gD⟩:=hQ.C9 hm
  cases OK with
  |some _=>exact h3.elim
  |none=>
   obtain⟨n1,e1,h⟩:=hG h1 h
   obtain⟨n2,e2,h⟩:=hG h2 h
   obtain⟨_,hl,h⟩:=cU h
   obtain⟨_,rh,h⟩:=cU h
   split at h
   case h_2=>simp[Tr.run]at h
   rename_i hle
   simp only[decide_eq_true_eq]at hle
   refine⟨_,.iP n' aq k' (j+n1*q.size) (n2-n1) (len-n1),?_,.inr (by simp only[R]; exact⟨aq,by rw[gD],hv⟩),h⟩
   simp only[m8,gL,e1,e2]
   rw[if_pos ⟨hle,by omega,by omega⟩]
 ·simp[Tr.run]at h
theorem uW[ab](hT:T.Ok){t:Nat}{x:T.den t}{a:AV}(h:T.rp t x a):aE (T.up t x)=true:=by
 rw[R.closed (hT.up t x a [] h)]
 exact hT.closed _ _ _ h
theorem y6[ab](hT:T.Ok)(hQ:Q.Ok)(hh:RH T H hp){t:TypeId}{x ix:SV T.den}{a b:AV}(hx:RV T H x a)(hi:RV T H ix b){tD:Bool}(h:(r9 Q tD H t x ix K).run=some r):
  ∃ v c,eO Q.P t a b=some c∧RV T H v c∧(K v [] []).run=some r:=by
 unfold r9 at h
 obtain⟨k,n,e1,Ef,h⟩:=iJ h
 have hb:=qI hi e1 Ef
 unfold eO
 rw[hb]
 simp only
 split at h
 ·rename_i xs
  have ha:=hx.live rfl
  simp only[R]at ha
  obtain⟨l',rfl,hl,DT⟩:=ha
  split at h
  case h_2=>simp[Tr.run]at h
  rename_i m hm
  obtain⟨q,gL,dR,gD,_⟩:=hQ.elem hm
  obtain⟨_,_,h⟩:=cU h
  split at h
  case h_2=>simp[Tr.run]at h
  rename_i e he
  split at h
  case h_2=>simp[Tr.run]at h
  rename_i bL
  obtain⟨e',F5,hr⟩:=aw.get (aP.1 hl) he
  refine⟨_,.bf e' 0,?_,.inr (by simp only[R]; exact⟨e',rfl,hr,jN DT (List.mem_of_getElem? he)⟩),h⟩
  simp only[gL,F5]
  rw[if_pos (by rw[dR,gD,←R.aG hr]; exact bL)]
 ·rename_i t' l
  have ha:=hx.live rfl
  split at h
  case h_2=>simp[Tr.run]at h
  rename_i m hm
  obtain⟨q,gL,dR,gD,_⟩:=hQ.elem hm
  split at h
  case h_2=>simp[Tr.run]at h
  rename_i hc
  simp only[Bool.and_eq_true,decide_eq_true_eq]at hc
  obtain⟨y,hy,h⟩:=bind_some h
  rw[GB hT]at h
  simp only[R]at ha
  rcases ha with ⟨l',rfl,hl⟩|⟨rfl,_⟩
  ·obtain⟨e',F5,hr⟩:=aw.get hl hy
   refine⟨_,.bf e' 0,?_,.inr (by simp only[R]; exact⟨e',rfl,hT.up _ _ _ H hr,uW hT hr⟩),h⟩
   simp only[gL,F5]
   rw[if_pos (by rw[dR,gD,hc.1,hc.2]; exact hT.ok _ _ _ hr)]
  ·simp at hy
 ·rename_i esz n' c rg cap _
  have ha:=hx.live rfl
  split at h
  case h_2=>simp[Tr.run]at h
  rename_i m hm
  obtain⟨q,gL,dR,gD,_⟩:=hQ.elem hm
  split at h
  ·rename_i off len g cl f cu es hc hr ho
   simp only[Bool.and_eq_true,decide_eq_true_eq]at hc
   obtain⟨aq,rfl,hv,_⟩:=qK hh ha hr ho
   obtain⟨_,bS,h⟩:=cU h
   refine⟨_,.ref n' aq (off+n.toNat) 0,?_,.inr (by simp only[R]; exact⟨aq,rfl,hv⟩),h⟩
   simp only[gL]
   rw[if_pos ⟨by omega,by rw[gD]; exact hc.1,by rw[gD]; exact hc.2⟩]
  ·rename_i off len g f cu t' l hc hr ho
   simp only[Bool.and_eq_true,decide_eq_true_eq]at hc
   obtain⟨aq,rfl,hv,_⟩:=qK hh ha hr ho
   obtain⟨bS,h⟩:=aX h
   simp only[decide_eq_true_eq]at bS
   refine⟨_,.ref n' aq (off+n.toNat) 0,?_,.inr (by simp only[R]; exact⟨aq,rfl,hv⟩),h⟩
   simp only[gL]
   rw[if_pos ⟨bS,by rw[gD]; exact hc.1,by rw[gD]; exact hc.2⟩]
  ·simp[Tr.run]at h
 ·rename_i n' c k' j len cap _
  have ha:=hx.live rfl
  simp only[R]at ha
  obtain⟨aq,rfl,hv⟩:=ha
  split at h
  case h_2=>simp[Tr.run]at h
  rename_i m hm
  obtain⟨q,gL,dR,gD,_⟩:=hQ.elem hm
  obtain⟨_,bS,h⟩:=cU h
  refine⟨_,.ref n' aq k' (j+n.toNat*q.size),?_,.inr (by simp only[R]; exact⟨aq,by rw[gD],hv⟩),h⟩
  simp only[gL]
  rw[if_pos (by omega)]
 ·rename_i n' c k' j _
  have ha:=hx.live rfl
  simp only[R]at ha
  obtain⟨aq,rfl,hv⟩:=ha
  split at h
  case h_2=>simp[Tr.run]at h
  rename_i len m hm
  obtain⟨q,gL,dR,gD⟩:=hQ.C9 hm
  split at h
  ·obtain⟨bS,h⟩:=aX h
   simp only[decide_eq_true_eq]at bS
   refine⟨_,.ref n' aq k' (j+n.toNat*q.size),?_,.inr (by simp only[R]; exact⟨.ref n' aq k' j,⟨aq,rfl,hv⟩,bS,.inl ⟨_,_,_,_,rfl,by rw[gD]⟩⟩),h⟩
   simp only[gL]
   rw[if_pos (by omega)]
  obtain⟨_,bS,h⟩:=cU h
  refine⟨_,.ref n' aq k' (j+n.toNat*q.size),?_,.inr (by simp only[R]; exact⟨aq,by rw[gD],hv⟩),h⟩
  simp only[gL]
  rw[if_pos (by omega)]
 ·rename_i e j _
  have ha:=hx.live rfl
  simp only[R]at ha
  obtain⟨e',rfl,hr,Yb⟩:=ha
  split at h
  case h_2=>simp[Tr.run]at h
  rename_i len m hm
  obtain⟨q,gL,dR,gD⟩:=hQ.C9 hm
  split at h
  ·obtain⟨bS,h⟩:=aX h
   simp only[decide_eq_true_eq]at bS
   refine⟨_,.bf e' (j+n.toNat*q.size),?_,.inr (by simp only[R]; exact⟨.bf e' j,⟨e',rfl,hr,Yb⟩,bS,.inr ⟨_,_,rfl,by rw[gD]⟩⟩),h⟩
   simp only[gL]
   rw[if_pos (by omega)]
  obtain⟨_,bS,h⟩:=cU h
  refine⟨_,.bf e' (j+n.toNat*q.size),?_,.inr (by simp only[R]; exact⟨e',by rw[gD],hr,Yb⟩),h⟩
  simp only[gL]
  rw[if_pos (by omega)]
 ·simp[Tr.run]at h
theorem HX[ab](hQ:Q.Ok){t:TypeId}{x ix:SV T.den}{a b:AV}(hx:RV T H x a)(hi:RV T H ix b){tD:Bool}(h:(Fe Q tD t x ix K).run=some r):
  ∃ v c,tX Q.P t a b=some c∧RV T H v c∧(K v [] []).run=some r:=by
 unfold Fe at h
 split at h
 ·have ha:=hx.lit rfl
  subst ha
  split at h
  ·rename_i i wk
   rw[tK hi wk]
   obtain⟨w,hw,hk⟩:=gZ h
   exact⟨_,_,hw,bm w,hk⟩
  ·simp[Tr.run]at h
 ·rename_i l
  have ha:=hx.live rfl
  have Oa:=ha
  simp only[R]at ha
  obtain⟨l',rfl,hl⟩:=ha
  split at h
  case h_2=>simp[Tr.run]at h
  rename_i n m hm
  obtain⟨q,gL,dR,gD⟩:=hQ.C9 hm
  obtain⟨k,n',e1,Ef,h⟩:=iJ h
  have hb:=qI hi e1 Ef
  split at h
  ·rename_i y hs KQ
   simp only[Bool.and_eq_true,Bool.not_eq_true']at hs
   obtain⟨bS,h⟩:=aX h
   simp only[decide_eq_true_eq]at bS
   obtain⟨xs,zp,KQ⟩:=Option.bind_eq_some_iff.1 KQ
   obtain⟨g1,g2⟩:=kb zp
   have hg:=List.getElem?_eq_getElem (by omega:n'.toNat<xs.length)
   have hy:=g2 _ _ hg
   rw[←C3 KQ hg,Nat.zero_add,Nat.mul_one]at hy
   obtain⟨c,hc,hr⟩:=R.part Oa hy
   refine⟨y,c,?_,.inr hr,h⟩
   simp only[tX,gL,hb]
   rw[if_pos (by omega),dR,gD,hs.1.2,Nat.eq_of_beq_eq_true hs.2,Nat.mul_one]
   exact hc
  obtain⟨_,bS,h⟩:=cU h
  obtain⟨v,hv,hk⟩:=lW h
  rw[←dR,←gD]at hv
  obtain⟨c,hc,hr⟩:=R.part Oa hv
  refine⟨v,c,?_,.inr hr,hk⟩
  simp only[tX,gL,hb]
  rw[if_pos (by omega)]
  exact hc
 ·simp[Tr.run]at h
end
end Go.PI
end
section
/- PS, part I: append, and the builtins. -/
namespace Go.PI
variable {T:dw}{ρ:Type}
section
variable {H:ah T.den}{hp:ag}{K:EK T ρ}{r:ρ}{Q:gK}
def y7(T:dw)(H:ah T.den)(y:Src T.den)(ys:List AV)(yc:Bool):Prop:=
 match y with
 |.lN l cl=>RL T H l ys∧yc=cl∧(cl=true→av l=true)
 |.yX t l=>aw (T.rp t) l ys∧yc=true
theorem y7.len[ab]{y:Src T.den}{ys:List AV}{yc:Bool}(h:y7 T H y ys yc):y.len=ys.length:=by
 cases y with
 |lN l cl=>exact h.1.length
 |yX t l=>exact h.1.length
theorem GG[ab](hQ:Q.Ok)(hh:RH T H hp){q:bG}{xt:TypeId}{x:SV T.den}{a:AV}(hx:RV T H x a){K:Src T.den→List Nat→Tr ρ}(h:(Nq Q H xt x K).run=some r):
  ∃ y rd ys yc,aF hp (wg Q.P q xt a) (ys,yc) rd∧y7 T H y ys yc∧(K y rd).run=some r:=by
 unfold Nq at h
 split at h
 case h_2=>simp[Tr.run]at h
 rename_i hs
 have hs:=hQ.NA hs
 unfold wg
 rw[hs]
 simp only
 split at h
 ·have ha:=hx.lit rfl
  subst ha
  exact⟨.lN [] true,_,[],true,aF.pure _,⟨by simp[RL],rfl,fun _=>rfl⟩,h⟩
 ·have ha:=hx.live rfl
  simp only[R]at ha
  obtain⟨l',rfl,hl,DT⟩:=ha
  exact⟨.lN _ true,_,l',true,aF.pure _,⟨hl,rfl,fun _=>DT⟩,h⟩
 ·have ha:=hx.live rfl
  simp only[R]at ha
  rcases ha with ⟨l',rfl,hl⟩|⟨rfl,rfl⟩
  ·exact⟨.yX _ _,_,l',true,aF.pure _,⟨hl,rfl⟩,h⟩
  ·exact⟨.yX _ _,_,[],true,aF.pure _,⟨(show aw (T.rp _) [] [] from trivial),rfl⟩,h⟩
 ·rename_i esz n c rg cap
  have ha:=hx.live rfl
  simp only[R]at ha
  obtain⟨aq,hv,ha⟩:=ha
  split at h
  ·rename_i g cl f cur es ho
   obtain⟨o,c6,dC⟩:=hh.obj ho
   obtain⟨es',rfl,cC,qX⟩:=dC
   split at h
   case h_2=>simp[Tr.run]at h
   rename_i hc
   have ca:=hv.arr hh ho hc
   simp only[aC.len]at ca
   have hl:=cC.length
   split at h
   ·simp only at ha
    subst ha
    refine⟨.lN es cl,_,es',cl,?_,⟨cC,rfl,qX⟩,h⟩
    simp only[fM]
    refine aF.mono (aF.bind (aF.arr c6 (by omega)) ?_) (rd:=[n]++[]) (fun _ h=>by simpa using h)
    simp only
    rw[if_pos (by omega)]
    simp only[List.drop_zero]
    rw[List.take_of_length_le (by omega)]
    exact aF.pure _
   ·rename_i off len
    simp only at ha
    subst ha
    split at h
    case isFalse=>simp[Tr.run]at h
    rename_i hle
    refine⟨.lN _ cl,_,(es'.drop off).take len,cl,?_,⟨aP.2 (((aP.1 cC).drop off).take len),rfl,fun m6=>mC (qX m6) _ _⟩,h⟩
    simp only[fM]
    refine aF.mono (aF.bind (aF.arr c6 (by omega)) ?_) (rd:=[n]++[]) (fun _ h=>by simpa using h)
    simp only
    rw[if_pos (by omega)]
    exact aF.pure _
  ·rename_i g f cur t l ho
   obtain⟨o,c6,dC⟩:=hh.obj ho
   obtain⟨es',rfl,cC⟩:=dC
   split at h
   case h_2=>simp[Tr.run]at h
   rename_i hc
   have ca:=hv.arr hh ho hc
   simp only[aC.len]at ca
   have hl:=cC.length
   split at h
   ·simp only at ha
    subst ha
    refine⟨.yX t l,_,es',true,?_,⟨cC,rfl⟩,h⟩
    simp only[fM]
    refine aF.mono (aF.bind (aF.arr c6 (by omega)) ?_) (rd:=[n]++[]) (fun _ h=>by simpa using h)
    simp only
    rw[if_pos (by omega)]
    simp only[List.drop_zero]
    rw[List.take_of_length_le (by omega)]
    exact aF.pure _
   ·rename_i off len
    simp only at ha
    subst ha
    obtain⟨hle,h⟩:=aX h
    simp only[decide_eq_true_eq]at hle
    refine⟨.yX t _,_,(es'.drop off).take len,true,?_,⟨(cC.drop off).take len,rfl⟩,h⟩
    simp only[fM]
    refine aF.mono (aF.bind (aF.arr c6 (by omega)) ?_) (rd:=[n]++[]) (fun _ h=>by simpa using h)
    simp only
    rw[if_pos (by omega)]
    exact aF.pure _
  ·simp[Tr.run]at h
 ·simp[Tr.run]at h
theorem y7.xQ[ab](hT:T.Ok){y:Src T.den}{ys:List AV}{yc:Bool}(h:y7 T H y ys yc){m:j0}{q:bG}(h1:q.isAgg=m.agg)(h2:q.size=m.size)(bL:y.ok T m=true):ys.all (aG q.isAgg q.size)=true:=by
 cases y with
 |lN l cl=>
  rw[h1,h2,←RL.all (fun _ _=>R.aG) h.1]
  exact bL
 |yX t l=>
  simp only[Src.ok,Bool.and_eq_true,decide_eq_true_eq]at bL
  exact sv hT (by rw[h1,bL.1]) (by rw[h2,bL.2]) h.1
theorem gA[ab]{y:Src T.den}{ys:List AV}{yc:Bool}(hy:y7 T H y ys yc){a b:Tr ρ}(h:(og T y a b).run=some r):(ys.isEmpty=true∧a.run=some r)∨(ys.isEmpty=false∧b.run=some r):=by
 have hl:=hy.len
 unfold og at h
 split at h
 ·grind[Src.len]
 ·rename_i t l
  rcases fo h with ⟨he,h⟩|⟨he,h⟩
  ·grind[Src.len]
  ·grind[Src.len]
theorem p6(hT:T.Ok){t:Nat}:∀ {l:List (SV T.den)} {m:List AV} {xs:List (T.den t)},RL T H l m→oN T t l=some xs→aw (T.rp t) xs m
 |[],[],xs,_,h=>by simp[oN]at h; subst h; trivial
 |v::vs,a::as,xs,hr,h=>by
  simp only[RL]at hr
  simp only[oN,Option.bind_eq_some_iff,Option.map_eq_some_iff]at h
  obtain⟨x,h1,ys,h2,rfl⟩:=h
  exact⟨hT.dn _ _ _ _ H h1 hr.1,p6 hT hr.2 h2⟩
 |[],_::_,_,h,_=>by simp[RL]at h
 |_::_,[],_,h,_=>by simp[RL]at h
theorem yd{t t':Nat}(h:t=t'){l:List (T.den t)}{m:List AV}(hl:aw (T.rp t) l m):aw (T.rp t') (zY h l) m:=by subst h; exact hl
theorem z8{den:Nat→Type}{t t':Nat}(h:t=t')(l:List (den t)):(zY h l).length=l.length:=by subst h; rfl
theorem uX[ab](hT:T.Ok){cur:Nat}{o o':aC T.den}{y:Src T.den}{g c f:Bool}{es ys:List AV}{yc:Bool}(ho:RO T H o (.arr g c f es))(hy:y7 T H y ys yc)(h:pU T cur o y=some o'):
  o'.cur=cur∧o'.len=o.len+y.len∧RO T H o' (.arr true (c&&yc) f (es++ys)):=by
 unfold pU at h
 split at h
 ·rename_i cl f' cu V1 Um XT
  simp only[Option.some.injEq]at h
  subst h
  obtain⟨es',e,cC,qX⟩:=ho
  simp only[aL.arr.injEq]at e
  obtain⟨rfl,rfl,rfl,rfl⟩:=e
  obtain⟨ye,rfl,SD⟩:=hy
  exact⟨rfl,by simp[aC.len,Src.len],_,rfl,aP.2 ((aP.1 cC).append (aP.1 ye)),fun m6=>by simp only[Bool.and_eq_true]at m6; exact Fi (qX m6.1) (SD m6.2)⟩
 ·rename_i f' cu V1 t l
  rw[Option.map_eq_some_iff]at h
  obtain⟨l0,h1,rfl⟩:=h
  obtain⟨es',e,cC,_⟩:=ho
  simp only[aL.arr.injEq]at e
  obtain⟨rfl,rfl,rfl,rfl⟩:=e
  obtain⟨ye,rfl⟩:=hy
  have h2:=p6 hT cC h1
  refine⟨rfl,?_,_,rfl,h2.append ye⟩
  simp[aC.len,Src.len,h2.length,cC.length]
 ·rename_i f' cu t l Um
  rw[Option.map_eq_some_iff]at h
  obtain⟨l0,h1,rfl⟩:=h
  obtain⟨es',e,cC⟩:=ho
  simp only[aL.arr.injEq]at e
  obtain⟨rfl,rfl,rfl,rfl⟩:=e
  obtain⟨ye,rfl,_⟩:=hy
  have h2:=p6 hT ye h1
  refine⟨rfl,?_,_,rfl,cC.append h2⟩
  simp[aC.len,Src.len,h2.length,ye.length]
 ·rename_i f' cu t l t' l2
  split at h
  case isFalse=>simp at h
  rename_i ht
  simp only[Option.some.injEq]at h
  subst h
  obtain⟨es',e,cC⟩:=ho
  simp only[aL.arr.injEq]at e
  obtain⟨rfl,rfl,rfl,rfl⟩:=e
  obtain⟨ye,rfl⟩:=hy
  refine⟨rfl,?_,_,rfl,cC.append (yd ht ye)⟩
  simp[aC.len,Src.len,z8]
 ·simp at h
theorem Da{y:Src T.den}{ys:List AV}{yc:Bool}(hy:y7 T H y ys yc):(xR y).cur=0∧(xR y).len=y.len∧RO T H (xR y) (.arr true yc false ys):=by
 cases y with
 |lN l cl=>obtain⟨h1,rfl,h2⟩:=hy; exact⟨rfl,rfl,_,rfl,h1,h2⟩
 |yX t l=>obtain⟨h1,rfl⟩:=hy; exact⟨rfl,rfl,_,rfl,h1⟩
theorem KS[ab](hT:T.Ok){o:aC T.den}{g c f:Bool}{es:List AV}(ho:RO T H o (.arr g c f es)){m:j0}{q:bG}(h1:q.isAgg=m.agg)(h2:q.size=m.size)(bL:o.xQ T m=true):es.all (aG q.isAgg q.size)=true:=by
 cases o with
 |arr g' cl f' cu V1=>
  obtain⟨es',e,cC,_⟩:=ho
  simp only[aL.arr.injEq]at e
  obtain⟨rfl,rfl,rfl,rfl⟩:=e
  rw[h1,h2,←RL.all (fun _ _=>R.aG) cC]
  exact bL
 |bW g' f' cu t l=>
  obtain⟨es',e,cC⟩:=ho
  simp only[aL.arr.injEq]at e
  obtain⟨rfl,rfl,rfl,rfl⟩:=e
  simp only[aC.xQ,Bool.and_eq_true,decide_eq_true_eq]at bL
  exact sv hT (by rw[h1,bL.1]) (by rw[h2,bL.2]) cC
 |_=>simp[aC.xQ]at bL
theorem yf{cur:Nat}{o o':aC T.den}{y:Src T.den}(h:pU T cur o y=some o'):o.x7=true:=by
 cases o<;>first|rfl|(cases y<;>simp[pU]at h)
theorem nJ{o:aC T.den}(h:o.x7=true):o.isRec=false:=by cases o<;>first|rfl|simp[aC.x7]at h
theorem p7:∀ (ys es:List AV) (i:Nat),i+ys.length≤es.length→bw es i ys=es.take i++(ys++es.drop (i+ys.length))
 |[],es,i,_=>by simp[bw]
 |y::ys,es,i,h=>by
  simp only[List.length_cons]at h
  simp only[bw]
  rw[p7 ys (es.set i y) (i+1) (by simp; omega)]
  have e1:(es.set i y).take (i+1)=es.take i++[y]:=by
   rw[List.take_succ_eq_append_getElem (by simp; omega),List.take_set_of_le (Nat.le_refl i)]
   simp
  have e2:(es.set i y).drop (i+1+ys.length)=es.drop (i+(ys.length+1)):=by
   rw[List.drop_set_of_lt (by omega)]
   congr 1; omega
  rw[e1,e2]
  simp
theorem z9{α β:Type}{P:α→β→Prop}{l l2:List α}{m m2:List β}(h:aw P l m)(h2:aw P l2 m2)(i:Nat):aw P (HM l i l2) (m.take i++(m2++m.drop (i+m2.length))):=by
 unfold HM
 rw[h2.length]
 exact(h.take i).append (h2.append (h.drop _))
theorem uY[ab](hT:T.Ok){i:Nat}{o o':aC T.den}{y:Src T.den}{ao:aL}{ys:List AV}{yc:Bool}(ho:RO T H o ao)(hy:y7 T H y ys yc)(hi:i+y.len≤o.len)(h:uQ T o i y=some o'):
  o.x7=true∧o'.cur=o.cur∧o'.len=o.len∧∃ es,ao=.arr o.flags.1 o.flags.2.1 o.flags.2.2 es∧RO T H o' (.arr o.flags.1 (o.flags.2.1&&yc) o.flags.2.2 (bw es i ys)):=by
 have hlen:=hy.len
 unfold uQ at h
 split at h
 ·rename_i g f cu t l t' l2
  split at h
  case isFalse=>simp at h
  rename_i ht
  simp only[Option.some.injEq]at h
  subst h
  obtain⟨es',rfl,cC⟩:=ho
  obtain⟨ye,rfl⟩:=hy
  have hl:=cC.length
  simp only[aC.len,Src.len]at hi hlen
  refine⟨rfl,rfl,?_,es',rfl,_,rfl,?_⟩
  ·simp[aC.len,HM,z8]; omega
  ·rw[p7 _ _ _ (by omega)]
   exact z9 cC (yd ht ye) i
 ·rename_i g f cu t l Um
  rw[Option.map_eq_some_iff]at h
  obtain⟨l0,h1,rfl⟩:=h
  obtain⟨es',rfl,cC⟩:=ho
  obtain⟨ye,rfl,_⟩:=hy
  have h2:=p6 hT ye h1
  have hl:=cC.length
  have rh:=h2.length
  simp only[aC.len,Src.len]at hi hlen
  refine⟨rfl,rfl,?_,es',rfl,_,rfl,?_⟩
  ·simp[aC.len,HM]; omega
  ·rw[p7 _ _ _ (by omega)]
   exact z9 cC h2 i
 ·simp at h
def sw(q:bG)(nm:Nat)(a:AV)(ys:List AV)(yc:Bool):RM dm:=
   (match (cj q).isSome&&decide (0<q.size)&&ys.all (aG q.isAgg q.size) with
     |false=>RM.fail
     |true=>match ys.isEmpty with
      |true=>(match a with
       |.o6 xs _=>pure ⟨.sl xs,[]⟩
       |.lit (.slice none 0 0)|.sl _|.bq _ _ _ _ _ _|.nz=>pure ⟨a,[]⟩
       |_=>.fail)
      |false=>match a with
       |.lit (.slice none 0 0)|.nz=>
        if ys.length*q.bytes≤2^44∧ys.length≤2^44 then
         pure ⟨.bq q.size nm ys.length 0 ys.length none,[(nm,.arr true yc false ys)]⟩ else .fail
       |.o6 xs c=>
        if c<xs.length+ys.length∧(xs.length+ys.length)*q.bytes≤2^44∧xs.length+ys.length≤2^44∧xs.all (aG q.isAgg q.size)=true then
         pure ⟨.bq q.size nm (xs.length+ys.length) 0 (xs.length+ys.length) none,[(nm,.arr true yc false (xs++ys))]⟩ else .fail
       |.bq esz n aq off len cap=>do
        let (g,c,f,es) ←RM.arr n aq
        if f=true∨es.length<off+len∨esz≠q.size then RM.fail else
        if len+ys.length≤cap.getD (aq-off) then
         if off+len+ys.length≤es.length then
          pure ⟨.bq esz n aq off (len+ys.length) cap,[(n,.arr g (c&&yc) f (bw es (off+len) ys))]⟩
         else RM.fail
        else if (len+ys.length)*q.bytes≤2^44∧len+ys.length≤2^44 then
         (match cap with
         |none=>if g=true∧off=0∧len=aq then
           pure ⟨.bq esz n (len+ys.length) 0 (len+ys.length) none,[(n,.arr true (c&&yc) f (es++ys))]⟩
          else RM.fail
         |some _=>if es.all (aG q.isAgg q.size)=true then
           pure ⟨.bq esz nm (len+ys.length) 0 (len+ys.length) none,[(nm,.arr true (c&&yc) false ((es.drop off).take len++ys))]⟩
          else RM.fail)
        else RM.fail
       |_=>.fail)
theorem Fm{P:Program}{t xt:TypeId}{q:bG}(h:aN P t=some q)(nm:Nat)(a b:AV):
  fD P nm t xt a b=(wg P q xt b >>= fun p=>sw q nm a p.1 p.2):=by
 unfold fD
 rw[h]
 rfl
theorem Aa{i:Nat}{o o':aC T.den}{y:Src T.den}{ys:List AV}{yc:Bool}(hy:y7 T H y ys yc)(h:uQ T o i y=some o'):yc=true:=by
 cases y with
 |lN l cl=>cases cl with
  |true=>exact hy.2.1
  |false=>unfold uQ at h; cases o<;>simp at h
 |yX t l=>exact hy.2
theorem yg[ab](hh:RH T H hp){n:Nat}{o o':aC T.den}{ao:aL}(ho:H[n]?=some (some o))(hc:o.cur≤o'.cur)(hl:o'.cur=o.cur→o'.len=o.len)(c6:hp[n]?=some (some ao))(dC:RO T H o' ao)
  {v:SV T.den} {a:AV} (hv:RV T (H.set n (some o')) v a) {m:RM dm} {rd:List Nat} (hy:aF hp m ⟨a,[]⟩ rd) (h:(K v [(n,o')] rd).run=some r) (hj:o.x7=true):jn T H hp m K r:=by
 obtain⟨OL,NH⟩:=hh.QX ho (o':=o') hc hl dC
 rw[gV c6]at NH
 have bS:=(List.getElem?_eq_some_iff.1 ho).1
 have e1:bc H [(n,o')]=H.set n (some o'):=by simp[bc,bJ]; omega
 refine⟨_,_,_,⟨a,[]⟩,hy,⟨by rw[e1]; exact hv,by rw[e1]; exact NH,by rw[e1]; exact OL,fun q h=>by simp at h,fun k hk hl=>?_,by rw[e1]; simp,fun k hk Iv=>by
  simp at Iv
  subst Iv
  simp only[recAt,ho,nJ hj,Bool.false_eq_true]at hk⟩,h⟩
 rw[e1]; simp at hk; rw[List.getElem?_set_ne (Ne.symm hk)]
theorem Fo[ab](hT:T.Ok)(hQ:Q.Ok)(hh:RH T H hp){nm:Nat}(hn:nm=H.length∨H[nm]?=some none){t xt:TypeId}{s x:SV T.den}{a b:AV}(hs:RV T H s a)(hx:RV T H x b)
  (h:(Ba Q nm H t xt s x K).run=some r):jn T H hp (fD Q.P nm t xt a b) K r:=by
 unfold Ba at h
 split at h
 ·simp[Tr.run]at h
 rename_i m hm
 obtain⟨q,gL,dR,gD,Gl,IC⟩:=hQ.elem hm
 obtain⟨y,rd,ys,yc,ye,v7,h⟩:=GG hQ hh (q:=q) hx h
 split at h
 ·simp[Tr.run]at h
 rename_i bL
 simp only[Bool.and_eq_true,decide_eq_true_eq]at bL
 have hz:(cj q).isSome=true:=by
  cases Yc:m.zero with
  |none=>rw[Yc]at bL; simp at bL
  |some z=>rw[IC z Yc]; rfl
 have bg:=v7.xQ hT dR gD bL.2
 have lC:((cj q).isSome&&decide (0<q.size)&&ys.all (aG q.isAgg q.size))=true:=by
  rw[hz,bg,gD]; simpa using bL.1.2
 have fL:=v7.len
 have abs:∀ {rest:RM dm} {e:dm} {rd2:List Nat},(∀ n,n∈rd→n∈rd2)→aF hp rest e rd2 →
   sw q nm a ys yc=rest→aF hp (fD Q.P nm t xt a b) e rd2:=by
  intro rest e rd2 h1 h2 h3
  rw[Fm gL]
  refine⟨?_,fun n hn=>?_⟩
  ·rw[RM.run_bind,ye.1]
   simp only[Option.bind_some]
   rw[h3]
   exact h2.1
  ·rw[RM.ek,ye.1]at hn
   simp only[List.mem_append]at hn
   rw[h3]at hn
   exact hn.elim (fun h=>h1 n (ye.2 n h)) (h2.2 n)
 unfold sw at abs
 rw[lC]at abs
 split at h
 ·-- nil
  have ha:=hs.lit rfl
  subst ha
  rcases gA v7 h with ⟨he,h⟩|⟨he,h⟩
  ·rw[he]at abs
   exact ar hh (bm cK) (abs (fun _ h=>h) (aF.mono (aF.pure _) (fun _ h=>by simp at h)) rfl) h
  ·rw[he]at abs
   obtain⟨hg,h⟩:=aX h
   simp only[rl,Bool.and_eq_true,decide_eq_true_eq]at hg
   obtain⟨o1,o2,o3⟩:=Da v7
   refine eD hh hn o3 (v:=.bq m.size nm 0 none none) (a:=.bq q.size nm ys.length 0 ys.length none) ?_ (abs (fun _ h=>h) (aF.mono (aF.pure _) (fun _ h=>by simp at h)) ?_) h
   ·right
    simp only[R]
    have hv:=eE hh hn (o:=xR y)
    rw[o1,o2,fL]at hv
    exact⟨_,hv,by rw[gD]⟩
   ·simp only
    rw[if_pos ⟨by rw[←fL,Gl]; exact hg.1,by rw[←fL]; exact hg.2⟩]
 ·-- empty,without room
  have ha:=hs.live rfl
  simp only[R]at ha
  rcases gA v7 h with ⟨he,h⟩|⟨he,h⟩
  ·rw[he]at abs
   subst ha
   exact ar hh hs (abs (fun _ h=>h) (aF.mono (aF.pure _) (fun _ h=>by simp at h)) rfl) h
  ·rw[he]at abs
   obtain⟨hg,h⟩:=aX h
   simp only[rl,Bool.and_eq_true,decide_eq_true_eq]at hg
   obtain⟨o1,o2,o3⟩:=Da v7
   have key:∀ rest:RM dm,rest=(if ys.length*q.bytes≤2^44∧ys.length≤2^44 then
        pure ⟨.bq q.size nm ys.length 0 ys.length none,[(nm,.arr true yc false ys)]⟩ else .fail)→rest=pure ⟨.bq q.size nm ys.length 0 ys.length none,[(nm,.arr true yc false ys)]⟩:=by
    intro rest hr
    rw[hr,if_pos ⟨by rw[←fL,Gl]; exact hg.1,by rw[←fL]; exact hg.2⟩]
   refine eD hh hn o3 (v:=.bq m.size nm 0 none none) (a:=.bq q.size nm ys.length 0 ys.length none) ?_ (abs (fun _ h=>h) (aF.mono (aF.pure _) (fun _ h=>by simp at h)) ?_) h
   ·right
    simp only[R]
    have hv:=eE hh hn (o:=xR y)
    rw[o1,o2,fL]at hv
    exact⟨_,hv,by rw[gD]⟩
   ·subst ha
    exact key _ rfl
 ·-- a slice by value
  have ha:=hs.live rfl
  rcases gA v7 h with ⟨he,h⟩|⟨_,h⟩
  ·rw[he]at abs
   simp only[R]at ha
   obtain⟨l',rfl,hl⟩:=ha
   exact ar hh hs (abs (fun _ h=>h) (aF.mono (aF.pure _) (fun _ h=>by simp at h)) rfl) h
  ·simp[Tr.run]at h
 ·have ha:=hs.live rfl
  rcases gA v7 h with ⟨he,h⟩|⟨_,h⟩
  ·rw[he]at abs
   have Oa:=ha
   simp only[R]at ha
   rcases ha with ⟨l',rfl,hl⟩|⟨_,rfl⟩
   ·exact ar hh hs (abs (fun _ h=>h) (aF.mono (aF.pure _) (fun _ h=>by simp at h)) rfl) h
   ·exact ar hh hs (abs (fun _ h=>h) (aF.mono (aF.pure _) (fun _ h=>by simp at h)) rfl) h
  ·simp[Tr.run]at h
 ·-- a slice by value,of known room
  rename_i t' l c b _
  have ha:=hs.live rfl
  have Oa:=ha
  simp only[R]at ha
  rcases gA v7 h with ⟨he,h⟩|⟨he,h⟩
  ·rw[he]at abs
   rcases ha with ⟨_,l',rfl,hl⟩|⟨_,wm,rfl|rfl⟩
   ·exact ar hh (v:=.jt t' l) (a:=.sl l') (.inr (by simp only[R]; exact .inl ⟨l',rfl,hl⟩)) (abs (fun _ h=>h) (aF.mono (aF.pure _) (fun _ h=>by simp at h)) rfl) h
   ·exact ar hh (v:=.jt t' l) (a:=.sl []) (.inr (by simp only[R]; exact .inl ⟨[],rfl,by rw[wm]; trivial⟩)) (abs (fun _ h=>h) (aF.mono (aF.pure _) (fun _ h=>by simp at h)) rfl) h
   ·exact ar hh (v:=.jt t' l) (a:=.lit cK) (.inr (by simp only[R]; exact .inr ⟨wm,trivial⟩)) (abs (fun _ h=>h) (aF.mono (aF.pure _) (fun _ h=>by simp at h)) rfl) h
  ·rw[he]at abs
   obtain⟨hg,h⟩:=aX h
   simp only[rl,Bool.and_eq_true,decide_eq_true_eq]at hg
   obtain⟨⟨hb,hc⟩,rP,iD⟩:=hg
   split at h
   case h_2=>simp[Tr.run]at h
   rename_i o' SE wZ
   simp only[Bool.and_eq_true,decide_eq_true_eq]at SE
   rcases ha with ⟨_,l',rfl,hl⟩|⟨oG,_⟩
   ·have hlen:=hl.length
    have dC:RO T H (.bW true false 0 t' l) (.arr true true false l'):=⟨l',rfl,hl⟩
    obtain⟨a1,a2,a3⟩:=uX hT dC v7 wZ
    have SD:yc=true:=by
     cases y with
     |lN Um cl=>
      obtain⟨_,mj,_⟩:=v7
      cases yc with
      |true=>rfl
      |false=>rw[show cl=false from by simpa using mj.symm]at wZ; simp[pU]at wZ
     |yX _ _=>exact v7.2
    subst SD
    have bg:=sv hT (agg:=q.isAgg) (size:=q.size) (by rw[dR]; exact SE.1) (by rw[gD]; exact SE.2) hl
    refine eD hh hn a3 (v:=.bq m.size nm 0 none none) (a:=.bq q.size nm (l'.length+ys.length) 0 (l'.length+ys.length) none) ?_ (abs (fun _ h=>h) (aF.mono (aF.pure _) (fun _ h=>by simp at h)) ?_) h
    ·right
     simp only[R]
     have hv:=eE hh hn (o:=o')
     rw[a1,a2,fL]at hv
     simp only[aC.len,hlen]at hv
     exact⟨_,hv,by rw[gD]⟩
    ·simp only
     rw[if_pos ⟨by rw[←hlen,←fL]; exact hc,by rw[←hlen,←fL,Gl]; exact rP,by rw[←hlen,←fL]; exact iD,bg⟩]
     rfl
   ·rw[hb]at oG; simp at oG
 ·rename_i esz n c rg cap _
  have ha:=hs.live rfl
  split at h
  case h_2=>simp[Tr.run]at h
  rename_i o ho
  obtain⟨ao,c6,dC⟩:=hh.obj ho
  split at h
  case h_2=>simp[Tr.run]at h
  rename_i hc
  simp only[Bool.and_eq_true,Bool.not_eq_true',decide_eq_true_eq]at hc
  simp only[R]at ha
  obtain⟨aq,hv,ha⟩:=ha
  have ca:=hv.arr hh ho hc.1.1
  split at h
  ·-- the whole of a growing array
   simp only at ha
   subst ha
   split at h
   ·rename_i cl0
    have:ys=[]:=by
     have:=fL
     cases ys with
     |nil=>rfl
     |cons=>simp[Src.len]at this
    subst this
    simp only[List.isEmpty_nil]at abs
    exact ar hh hs (abs (fun _ h=>h) (aF.mono (aF.pure _) (fun _ h=>by simp at h)) rfl) h
   ·rename_i dK
    split at h
    case h_2=>simp[Tr.run]at h
    rename_i o' OM wZ
    obtain⟨hg,h⟩:=aX h
    simp only[rl,Bool.and_eq_true,decide_eq_true_eq]at hg
    have hj:=yf wZ
    obtain⟨es,rfl,wq⟩:=dC.C8 hj
    obtain⟨a1,a2,a3⟩:=uX hT dC v7 wZ
    rw[OM]at c6
    cases he:ys.isEmpty with
    |true=>
     rw[he]at abs
     have SF:ys=[]:=by simpa using he
     subst SF
     have SD:yc=true:=by
      cases y with
      |lN l cl=>
       exfalso
       have:=fL
       simp only[Src.len,List.length_nil]at this
       have wm:l=[]:=by simpa using this
       subst wm
       exact dK _ rfl
      |yX t l=>exact v7.2
     subst SD
     simp only[Bool.and_true,List.append_nil]at a3
     obtain⟨OL,NH⟩:=hh.QX ho (o':=o') (by omega) (fun e=>by omega) a3
     rw[gV c6]at NH
     have bS:=(List.getElem?_eq_some_iff.1 ho).1
     have e1:bc H [(n,o')]=H.set n (some o'):=by simp[bc,bJ]; omega
     refine⟨_,_,_,⟨.bq esz n aq 0 aq none,[]⟩,abs (fun _ h=>List.mem_cons_of_mem _ h) (aF.mono (aF.pure _) (fun _ h=>by simp at h)) rfl,⟨?_,by rw[e1]; exact NH,by rw[e1]; exact OL,fun q h=>by simp at h,fun k hk hl=>?_,by rw[e1]; simp,fun k hk Iv=>by
      simp at Iv
      subst Iv
      simp only[recAt,ho,nJ hj,Bool.false_eq_true]at hk⟩,h⟩
     ·rw[e1]
      right
      simp only[R]
      refine⟨aq,⟨o',by rw[List.getElem?_set_self bS],by omega,fun _=>?_⟩,rfl⟩
      rw[a2,ca,fL]; rfl
     ·rw[e1]; simp at hk; rw[List.getElem?_set_ne (Ne.symm hk)]
    |false=>
     rw[he]at abs
     have Pj:0<ys.length:=by cases ys with
      |nil=>simp at he
      |cons=>simp
     refine jP hh ho (o':=o') (by omega) (fun e=>by omega) a3 (v:=.bq esz n (o.cur+1) none none) (a:=.bq esz n (aq+ys.length) 0 (aq+ys.length) none) ?_
      (abs (fun _ h=>List.mem_cons_of_mem _ h) (rd2:=n::rd) (aF.mono (aF.bind (aF.arr c6 (by omega)) (rd':=[]) (b:=(⟨.bq esz n (aq+ys.length) 0 (aq+ys.length) none,[(n,.arr true (o.flags.2.1&&yc) o.flags.2.2 (es++ys))]⟩:dm)) ?_) (fun k hk=>by simp at hk; simp[hk])) rfl) h (nJ hj)
     ·right
      simp only[R]
      have bS:=(List.getElem?_eq_some_iff.1 ho).1
      refine⟨_,⟨o',by rw[List.getElem?_set_self bS],by omega,fun _=>?_⟩,rfl⟩
      rw[a2,ca,fL]
     ·simp only
      rw[if_neg (by rw[hc.1.2]; simp only[Bool.false_eq_true,false_or,not_or]; exact⟨by omega,by rw[gD]; simp[hc.2]⟩),if_neg (by simp only[Option.getD_none]; omega),
       if_pos ⟨by rw[ca,←fL,Gl]; exact hg.1,by rw[ca,←fL]; exact hg.2⟩]
      simp only[and_self,if_true]
      exact aF.pure _
  ·-- of an array of fixed room
   rename_i k
   simp only at ha
   subst ha
   rcases gA v7 h with ⟨he,h⟩|⟨he,h⟩
   ·rw[he]at abs
    exact ar hh hs (abs (fun _ h=>h) (aF.mono (aF.pure _) (fun _ h=>by simp at h)) rfl) h
   ·rw[he]at abs
    rcases fo h with ⟨_,h⟩|⟨hk,h⟩
    ·simp[Tr.run]at h
    simp only[decide_eq_false_iff_not]at hk
    split at h
    case h_2=>simp[Tr.run]at h
    rename_i o' hoa wZ
    obtain⟨hg,h⟩:=aX h
    simp only[rl,Bool.and_eq_true,decide_eq_true_eq]at hg
    have hj:=yf wZ
    obtain⟨es,rfl,wq⟩:=dC.C8 hj
    obtain⟨a1,a2,a3⟩:=uX hT dC v7 wZ
    rw[hc.1.2]at a3
    refine eD hh hn a3 (v:=.bq esz nm 0 none none) (a:=.bq esz nm (aq+ys.length) 0 (aq+ys.length) none) ?_
     (abs (fun _ h=>List.mem_cons_of_mem _ h) (rd2:=n::rd) (aF.mono (aF.bind (aF.arr c6 (by omega)) (rd':=[]) (b:=(⟨.bq esz nm (aq+ys.length) 0 (aq+ys.length) none,[(nm,.arr true (o.flags.2.1&&yc) false (es++ys))]⟩:dm)) ?_) (fun k hk=>by simp at hk; simp[hk])) rfl) h
    ·right
     simp only[R]
     have hv:=eE hh hn (o:=o')
     rw[a1,a2,fL,←ca]at hv
     exact⟨_,hv,rfl⟩
    ·simp only
     rw[if_neg (by rw[hc.1.2]; simp only[Bool.false_eq_true,false_or,not_or]; exact⟨by omega,by rw[gD]; simp[hc.2]⟩),if_neg (by simp only[Option.getD_some]; omega),
      if_pos ⟨by rw[ca,←fL,Gl]; exact hg.1,by rw[ca,←fL]; exact hg.2⟩]
     rw[if_pos (KS hT dC dR gD hoa)]
     simp only[List.drop_zero]
     rw[List.take_of_length_le (by omega)]
     exact aF.pure _
  ·-- into the room that there is
   rename_i k off len _
   simp only at ha
   subst ha
   split at h
   case h_2=>simp[Tr.run]at h
   rename_i o' Db
   obtain⟨hg,h⟩:=aX h
   simp only[Bool.and_eq_true,decide_eq_true_eq]at hg
   obtain⟨hj,a1,a2,es,e0,a3⟩:=uY hT dC v7 (by omega) Db
   obtain⟨es',e1,wq⟩:=dC.C8 hj
   rw[e1]at e0
   simp only[aL.arr.injEq,true_and]at e0
   subst e0
   subst e1
   cases he:ys.isEmpty with
   |true=>
    rw[he]at abs
    have SF:ys=[]:=by simpa using he
    subst SF
    obtain rfl:=Aa v7 Db
    simp only[Bool.and_true,bw]at a3
    refine yg hh ho (by omega) (fun _=>a2) c6 a3 (v:=.bq esz n c (some (off,len+y.len)) (some k)) (a:=.bq esz n aq off len (some k)) ?_
     (abs (fun _ h=>List.mem_cons_of_mem _ h) (aF.mono (aF.pure _) (fun _ h=>by simp at h)) rfl) h hj
    right
    simp only[R]
    have bS:=(List.getElem?_eq_some_iff.1 ho).1
    refine⟨aq,⟨o',by rw[List.getElem?_set_self bS],by rw[a1]; exact Nat.le_of_eq (Nat.eq_of_beq_eq_true hc.1.1),fun _=>by rw[a2,ca]⟩,by rw[fL]; rfl⟩
   |false=>
    rw[he]at abs
    refine jP hh ho (o':=o') (by omega) (fun _=>a2) a3 (v:=.bq esz n c (some (off,len+y.len)) (some k)) (a:=.bq esz n aq off (len+ys.length) (some k)) ?_
     (abs (fun _ h=>List.mem_cons_of_mem _ h) (rd2:=n::rd) (aF.mono (aF.bind (aF.arr c6 (by omega)) (rd':=[]) (b:=(⟨.bq esz n aq off (len+ys.length) (some k),[(n,.arr o.flags.1 (o.flags.2.1&&yc) o.flags.2.2 (bw es' (off+len) ys))]⟩:dm)) ?_) (fun k hk=>by simp at hk; simp[hk])) rfl) h (nJ hj)
    ·right
     simp only[R]
     have bS:=(List.getElem?_eq_some_iff.1 ho).1
     refine⟨aq,⟨o',by rw[List.getElem?_set_self bS],by rw[a1]; exact Nat.le_of_eq (Nat.eq_of_beq_eq_true hc.1.1),fun _=>by rw[a2,ca]⟩,by rw[fL]⟩
    ·simp only
     rw[if_neg (by rw[hc.1.2]; simp only[Bool.false_eq_true,false_or,not_or]; exact⟨by omega,by rw[gD]; simp[hc.2]⟩),if_pos (by simp only[Option.getD_some]; omega),if_pos (by omega)]
     exact aF.pure _
  ·simp[Tr.run]at h
 ·simp[Tr.run]at h
def yh(q:bG)(d:AV)(ys:List AV)(yc:Bool):RM dm:=
 match decide (0<q.size)&&ys.all (aG q.isAgg q.size) with
  |false=>RM.fail
  |true=>
   match d with
   |.bq esz n aq off len _=>(match (ys.take len).isEmpty with
    |true=>pure ⟨.lit (.int .i64 0),[]⟩
    |false=>do
     let (g,c,f,es) ←RM.arr n aq
     if esz=q.size∧f=false∧off+len≤es.length∧0<aq then
      pure ⟨.lit (.int .i64 (ys.take len).length),[(n,.arr g (c&&yc) f (bw es off (ys.take len)))]⟩
     else RM.fail)
   |.lit (.slice none 0 0)=>pure ⟨.lit (.int .i64 0),[]⟩
   |_=>RM.fail
theorem KT{P:Program}{t:TypeId}{q:bG}(h:aN P t=some q)(a b:AV):wR P t a b=(fM b >>= fun p=>yh q a p.1 p.2):=by
 unfold wR
 rw[h]
 rfl
theorem KU[ab](hT:T.Ok)(hQ:Q.Ok)(hh:RH T H hp){t:TypeId}{d x:SV T.den}{a b:AV}(hd:RV T H d a)(hx:RV T H x b)
  (h:(KA Q H t d x K).run=some r):jn T H hp (wR Q.P t a b) K r:=by
 unfold KA at h
 split at h
 case h_2=>simp[Tr.run]at h
 rename_i m hm hs
 have hs:=hQ.NA hs
 obtain⟨q,gL,dR,gD,Gl,IC⟩:=hQ.elem hm
 obtain⟨y,rd,ys,yc,ye,v7,h⟩:=GG hQ hh (q:=q) hx h
 have ye:aF hp (fM b) (ys,yc) rd:=by
  simp_all[wg]
 split at h
 case h_2=>simp[Tr.run]at h
 rename_i esz n c rg cap bL _
 simp only[Bool.and_eq_true,decide_eq_true_eq]at bL
 split at h
 case h_2=>simp[Tr.run]at h
 rename_i off len o hr ho
 split at h
 case h_2=>simp[Tr.run]at h
 rename_i o' hc Db
 simp only[Bool.and_eq_true,Bool.not_eq_true',decide_eq_true_eq]at hc
 have ha:=hd.live rfl
 obtain⟨aq,rfl,hv,ca⟩:=qK hh ha hr ho
 have ca:=ca hc.1.1
 obtain⟨ao,c6,dC⟩:=hh.obj ho
 have fL:=v7.len
 have bg:=v7.xQ hT dR gD bL.1
 have lC:(decide (0<q.size)&&ys.all (aG q.isAgg q.size))=true:=by
  rw[bg,gD]; simpa using bL.2
 have abs:∀ {rest:RM dm} {e:dm} {rd2:List Nat},(∀ n,n∈rd→n∈rd2)→aF hp rest e rd2 →
   yh q (.bq esz n aq off len cap) ys yc=rest→aF hp (wR Q.P t (.bq esz n aq off len cap) b) e rd2:=by
  intro rest e rd2 h1 h2 h3
  rw[KT gL]
  refine⟨?_,fun k hk=>?_⟩
  ·rw[RM.run_bind,ye.1]
   simp only[Option.bind_some]
   rw[h3]
   exact h2.1
  ·rw[RM.ek,ye.1]at hk
   simp only[List.mem_append]at hk
   rw[h3]at hk
   exact hk.elim (fun h=>h1 k (ye.2 k h)) (h2.2 k)
 unfold yh at abs
 rw[lC]at abs
 obtain⟨hg,h⟩:=aX h
 simp only[Bool.and_eq_true,decide_eq_true_eq]at hg
 cases he:ys.isEmpty with
 |true=>
  have SF:ys=[]:=by simpa using he
  subst SF
  obtain⟨hj,a1,a2,es,e0,a3⟩:=uY hT dC v7 (by omega) Db
  obtain⟨es',e1,wq⟩:=dC.C8 hj
  rw[e1]at e0
  simp only[aL.arr.injEq,true_and]at e0
  subst e0
  subst e1
  obtain rfl:=Aa v7 Db
  simp only[Bool.and_true,bw]at a3
  have Yd:y.len=0:=by rw[fL]; rfl
  rw[Yd]at h
  exact yg hh ho (by omega) (fun _=>a2) c6 a3 (bm (.int .i64 0)) (abs (fun _ h=>List.mem_cons_of_mem _ h) (aF.mono (aF.pure _) (fun _ h=>by simp at h)) (by simp only[List.take_nil,List.isEmpty_nil])) h hj
 |false=>
  have Pj:0<ys.length:=by cases ys with
   |nil=>simp at he
   |cons=>simp
  have Ye:ys.take len=ys:=List.take_of_length_le (by omega)
  obtain⟨hj,a1,a2,es,e0,a3⟩:=uY hT dC v7 (by omega) Db
  obtain⟨es',e1,wq⟩:=dC.C8 hj
  rw[e1]at e0
  simp only[aL.arr.injEq,true_and]at e0
  subst e0
  subst e1
  have heq:∀ (f t:RM dm),(match (ys.take len).isEmpty with|true=>t|false=>f)=f:=by
   intro f t
   rw[Ye,he]
  refine jP hh ho (o':=o') (by omega) (fun _=>a2) a3 (v:=.lit (.int .i64 y.len)) (a:=.lit (.int .i64 y.len)) (bm _)
   (abs (fun _ h=>List.mem_cons_of_mem _ h) (rd2:=n::rd) (aF.mono (aF.bind (aF.arr c6 (by omega)) (rd':=[]) (b:=(⟨.lit (.int .i64 y.len),[(n,.arr o.flags.1 (o.flags.2.1&&yc) o.flags.2.2 (bw es' off ys))]⟩:dm)) ?_) (fun k hk=>by simp at hk; simp[hk])) (heq _ _)) h (nJ hj)
  simp only
  rw[if_pos ⟨by rw[gD]; exact hc.2,hc.1.2,by omega,by omega⟩,fL,Ye]
  exact aF.pure _
theorem NI[ab](hQ:Q.Ok)(hh:RH T H hp){ts:Array TypeId}{type:TypeId}{x:SV T.den}{a:AV}(hx:RV T H x a)(h:(PZ Q H ts type x K).run=some r){nm:Nat}:
  jn T H hp (dh Q.P nm .len ts type [a]) K r:=by
 unfold PZ at h
 unfold dh
 simp only
 split at h
 case h_2=>simp[Tr.run]at h
 rename_i t ht
 rw[ht]
 simp only
 split at h
 ·rename_i hs
  have hs:=hQ.NA hs
  split at h
  ·have ha:=hx.lit rfl
   subst ha
   refine ar hh (bm (.int .i64 0)) (rd:=[]) ?_ h
   simp only[hs,nO]
   exact aF.pure _
  ·have ha:=hx.live rfl
   simp only[R]at ha
   subst ha
   refine ar hh (bm (.int .i64 0)) (rd:=[]) ?_ h
   simp only[hs,nO]
   exact aF.pure _
  ·have ha:=hx.live rfl
   simp only[R]at ha
   obtain⟨l',rfl,hl,_⟩:=ha
   refine ar hh (a:=.lit (.int .i64 l'.length)) (by rw[hl.length]; exact bm _) (rd:=[]) ?_ h
   simp only[hs,nO]
   exact aF.pure _
  ·rename_i t' l
   have ha:=hx.live rfl
   simp only[R]at ha
   rcases ha with ⟨l',rfl,hl⟩|⟨rfl,rfl⟩
   ·refine ar hh (a:=.lit (.int .i64 l'.length)) (by rw[hl.length]; exact bm _) (rd:=[]) ?_ h
    simp only[hs,nO]
    exact aF.pure _
   ·refine ar hh (bm (.int .i64 0)) (rd:=[]) ?_ h
    simp only[hs,nO]
    exact aF.pure _
  ·rename_i t' l c b
   have ha:=hx.live rfl
   simp only[R]at ha
   rcases ha with ⟨_,l',rfl,hl⟩|⟨_,rfl,rfl|rfl⟩
   ·refine ar hh (a:=.lit (.int .i64 l'.length)) (by rw[hl.length]; exact bm _) (rd:=[]) ?_ h
    simp only[hs,nO]
    exact aF.pure _
   ·refine ar hh (bm (.int .i64 0)) (rd:=[]) ?_ h
    simp only[hs,nO]
    exact aF.pure _
   ·refine ar hh (bm (.int .i64 0)) (rd:=[]) ?_ h
    simp only[hs,nO]
    exact aF.pure _
  ·rename_i esz n c rg cap
   have ha:=hx.live rfl
   split at h
   case h_2=>simp[Tr.run]at h
   rename_i off len hr
   have:∃ o,H[n]?=some (some o):=by
    simp only[R]at ha
    obtain⟨_,⟨o,ho,_⟩,_⟩:=ha
    exact⟨o,ho⟩
   obtain⟨o,ho⟩:=this
   obtain⟨aq,rfl,_,_⟩:=qK hh ha hr ho
   refine ar hh (bm (.int .i64 len)) (rd:=[]) ?_ h
   simp only[hs,nO]
   exact aF.pure _
  ·rename_i n c k j len cap
   have ha:=hx.live rfl
   simp only[R]at ha
   obtain⟨aq,rfl,_⟩:=ha
   refine ar hh (bm (.int .i64 len)) (rd:=[]) ?_ h
   simp only[hs,nO]
   exact aF.pure _
  ·simp[Tr.run]at h
 ·simp[Tr.run]at h
 ·rename_i hs
  have hs:=hQ.NA hs
  split at h
  ·simp[Tr.run]at h
  ·rename_i v hv
   have ha:=hx.lit rfl
   subst ha
   obtain⟨w,hw,hk⟩:=gZ h
   refine ar hh (bm w) (rd:=[]) ?_ hk
   split
   ·rename_i heq; injection heq with e; exact(hv e).elim
   ·rename_i heq; cases heq
   ·rename_i heq; cases heq
   ·rename_i heq; cases heq
   ·rename_i heq; cases heq
   ·rename_i heq; cases heq
   ·rename_i heq; injection heq with e; subst e; rw[hw]; exact aF.pure _
   ·rename_i h; exact(h v rfl).elim
  ·rename_i l
   have ha:=hx.live rfl
   simp only[R]at ha
   obtain⟨l',rfl,hl⟩:=ha
   split at h
   case h_2=>simp[Tr.run]at h
   rename_i n m hm
   obtain⟨q,gL,_⟩:=hQ.C9 hm
   refine ar hh (bm (.int .i64 n)) (rd:=[]) ?_ h
   simp only[gL]
   exact aF.pure _
  ·have ha:=hx.live rfl
   simp only[R]at ha
   obtain⟨aq,rfl,hl⟩:=ha
   split at h
   case h_2=>simp[Tr.run]at h
   rename_i n m hm
   obtain⟨q,gL,_⟩:=hQ.C9 hm
   refine ar hh (bm (.int .i64 n)) (rd:=[]) ?_ h
   simp only[gL]
   exact aF.pure _
  ·have ha:=hx.live rfl
   simp only[R]at ha
   obtain⟨aq,rfl,hl⟩:=ha
   split at h
   case h_2=>simp[Tr.run]at h
   rename_i n m hm
   obtain⟨q,gL,_⟩:=hQ.C9 hm
   refine ar hh (bm (.int .i64 n)) (rd:=[]) ?_ h
   simp only[gL]
   exact aF.pure _
  ·simp[Tr.run]at h
theorem GH[ab]{l:List (SV T.den)}{m:List AV}(hv:aw (RV T H) l m){c:List Value}(hc:mz l=some c):cT m=some c:=by
 revert c
 induction l generalizing m with
 |nil=>
  intro c hc
  cases m with
  |nil=>simp[mz]at hc; subst hc; rfl
  |cons=>exact hv.elim
 |cons x xs ih=>
  intro c hc
  cases m with
  |nil=>exact hv.elim
  |cons a as=>
   cases x with
   |lit v=>
    simp only[mz,Option.map_eq_some_iff]at hc
    obtain⟨c',h1,rfl⟩:=hc
    have:=RV.lit hv.1 rfl
    subst this
    simp[cT,ih hv.2 h1]
   |_=>simp[mz]at hc
theorem Dc[ab](hT:T.Ok)(hQ:Q.Ok)(hh:RH T H hp){nm:Nat}(hn:nm=H.length∨H[nm]?=some none){b:Builtin}{ts:Array TypeId}{type:TypeId}{args:List (SV T.den)}{as:List AV}
  (ha:aw (RV T H) args as) (h:(xS Q nm H b ts type args K).run=some r):jn T H hp (dh Q.P nm b ts type as) K r:=by
 unfold xS at h
 split at h
 ·split at h
  ·rename_i t xt s x ht
   match as,ha with
   |[a,b],ha=>
    simp only[dh,ht]
    exact Fo hT hQ hh hn ha.1 ha.2.1 h
  ·simp[Tr.run]at h
 ·split at h
  ·rename_i t _ d x ht
   match as,ha with
   |[a,b],ha=>
    simp only[dh,ht]
    exact KU hT hQ hh ha.1 ha.2.1 h
  ·simp[Tr.run]at h
 ·split at h
  ·rename_i x
   match as,ha with
   |[a],ha=>exact NI hQ hh ha.1 h
  ·simp[Tr.run]at h
 ·split at h
  ·rename_i vs ma
   obtain⟨w,hw,hk⟩:=gZ h
   refine ar hh (bm w) (rd:=[]) ?_ hk
   simp only[dh,GH ha ma,hw]
   exact aF.pure _
  ·simp[Tr.run]at h
 ·split at h
  ·rename_i vs ma
   obtain⟨w,hw,hk⟩:=gZ h
   refine ar hh (bm w) (rd:=[]) ?_ hk
   simp only[dh,GH ha ma,hw]
   exact aF.pure _
  ·simp[Tr.run]at h
 ·simp[Tr.run]at h
end
end Go.PI
end
section
/- PS, part Ia: maps. -/
namespace Go.PI
variable {T:dw}{ρ:Type}
theorem Bl(kk:KK)(a b:kk.D):ra (kk.v a) (kk.v b)=kk.beq a b:=by cases kk<;>rfl
theorem KV{kk:KK}{v:Value}{k:kk.D}(h:kk.get v=some k):v=kk.v k∧kk.ok v=true:=by
 cases kk with
 |int q=>
  cases v<;>simp[KK.get]at h
  obtain⟨rfl,h⟩:=h
  cases h
  exact⟨rfl,by simp[KK.ok]⟩
 |str=>
  cases v<;>simp[KK.get]at h
  cases h
  exact⟨rfl,rfl⟩
 |bool=>
  cases v<;>simp[KK.get]at h
  cases h
  exact⟨rfl,rfl⟩
theorem uZ{kk:KK}{α:Type}{k:kk.D}:∀ {m:List (kk.D×α)} {i:Nat},kE kk m k=none→jx (kk.v k) (m.map fun q=>kk.v q.1) i=none
 |[],i,_=>rfl
 |(k',v)::m,i,h=>by
  simp only[kE]at h
  cases hb:kk.beq k k' with
  |true=>rw[hb]at h; simp at h
  |false=>
   rw[hb]at h
   simp only[List.map_cons,jx,Bl,hb,cond_false]
   exact uZ h
theorem u0{kk:KK}{α:Type}{k:kk.D}{x:α}:∀ {m:List (kk.D×α)} {i:Nat},kE kk m k=some x→∃ j,jx (kk.v k) (m.map fun q=>kk.v q.1) i=some (i+j)∧(m.map (·.2))[j]?=some x ∧
  ∀ y,(mQ kk m k y).map (fun q=>kk.v q.1)=m.map (fun q=>kk.v q.1)∧(mQ kk m k y).map (·.2)=(m.map (·.2)).set j y
 |[],i,h=>by simp[kE]at h
 |(k',v)::m,i,h=>by
  simp only[kE]at h
  cases hb:kk.beq k k' with
  |true=>
   simp_all[cond_true,jx,Bl,hb,mQ]
  |false=>
   rw[hb]at h
   obtain⟨j,h1,h2,h3⟩:=u0 (i:=i+1) h
   refine⟨j+1,?_,by simpa using h2,fun y=>?_⟩
   ·simp only[List.map_cons,jx,Bl,hb,cond_false,h1]
    congr 1; omega
   ·obtain⟨h4,h5⟩:=h3 y
    simp[mQ,hb,h4,h5]
theorem Dd{kk:KK}{α:Type}{k:kk.D}{y:α}:∀ {m:List (kk.D×α)},kE kk m k=none→mQ kk m k y=m++[(k,y)]
 |[],_=>rfl
 |(k',v)::m,h=>by
  simp only[kE]at h
  cases hb:kk.beq k k' with
  |true=>rw[hb]at h; simp at h
  |false=>
   rw[hb]at h
   simp only[mQ,hb,cond_false,List.cons_append]
   rw[Dd h]
section
variable {H:ah T.den}{hp:ag}{K:EK T ρ}{r:ρ}{Q:gK}
theorem Bm{c:Bool}{v:SV T.den}{a:AV}{b:Bool}(h:R T H v a):R T H (Bb c v b) (wT c a b):=by
 cases c with
 |false=>exact h
 |true=>
  simp only[Bb,wT,R]
  exact⟨_,rfl,h,rfl,trivial⟩
theorem Fp[ab](hT:T.Ok)(hQ:Q.Ok)(hZ:T.tM Q)(hh:RH T H hp){t:TypeId}{x ix:SV T.den}{a b:AV}(hx:RV T H x a)(hi:RV T H ix b){c:Bool}(h:(Bc Q H t x ix c K).run=some r):
  jn T H hp (sL Q.P t a b c) K r:=by
 unfold Bc at h
 split at h
 case h_2=>simp[Tr.run]at h
 rename_i kk et wF
 have Js:=hQ.map _ _ wF
 split at h
 case h_2=>simp[Tr.run]at h
 rename_i za z k Qi hz
 obtain⟨m,hm,Yf⟩:=Option.bind_eq_some_iff.1 Qi
 obtain⟨q,gL,_,_,_,IC⟩:=hQ.row _ _ hm
 have nS:=IC _ Yf
 have D3:=hZ et m z za hm Yf hz
 have hi:=hi.lit rfl
 subst hi
 have Qh:(eY Q.P et).bind cj=some za:=by rw[gL]; exact nS
 unfold sL
 simp only[Js,Qh]
 split at h
 ·rename_i k' hk
  obtain⟨rfl,bL⟩:=KV hk
  have hx:=hx.lit rfl
  subst hx
  simp only[bL]
  exact ar hh (.inr (Bm (hT.up _ _ _ H D3))) (aF.pure _) h
 ·rename_i k' n hk
  obtain⟨rfl,bL⟩:=KV hk
  have hx:=hx.live rfl
  simp only[R]at hx
  obtain⟨rfl,_⟩:=hx
  split at h
  case h_2=>simp[Tr.run]at h
  rename_i qQ t' mp ho
  split at h
  case isFalse=>simp[Tr.run]at h
  rename_i hc
  obtain⟨rfl,rfl⟩:=hc
  simp only[tF]at h
  obtain⟨ao,c6,dC⟩:=hh.obj ho
  obtain⟨vs,rfl,ma⟩:=dC
  simp only[bL]
  cases hg:kE qQ mp k' with
  |none=>
   rw[hg]at h
   simp only[Option.getD_none,Option.isSome_none]at h
   refine ar hh (.inr (Bm (hT.up _ _ _ H D3))) (rd:=[n]) (aF.get c6 ?_) h
   simp only[if_true,uZ hg]
   exact aF.pure _
  |some y=>
   rw[hg]at h
   simp only[Option.getD_some,Option.isSome_some]at h
   obtain⟨j,h1,h2,_⟩:=u0 (i:=0) hg
   obtain⟨v,hv,hr⟩:=aw.get ma h2
   refine ar hh (.inr (Bm (hT.up _ _ _ H hr))) (rd:=[n]) (aF.get c6 ?_) h
   simp only[if_true,h1,Nat.zero_add,hv]
   exact aF.pure _
 ·simp[Tr.run]at h
theorem y8[ab](hT:T.Ok)(hQ:Q.Ok)(hh:RH T H hp){t:TypeId}{x ix v:SV T.den}{a b d:AV}(hx:RV T H x a)(hi:RV T H ix b)(hv:RV T H v d)(h:(sb Q H t x ix v K).run=some r):
  jn T H hp (lq Q.P t a b d) K r:=by
 unfold sb at h
 split at h
 case h_2=>simp[Tr.run]at h
 rename_i kk et wF
 have Js:=hQ.map _ _ wF
 split at h
 case h_2=>simp[Tr.run]at h
 rename_i k n
 split at h
 case h_2=>simp[Tr.run]at h
 rename_i k' qQ t' mp hk ho
 split at h
 case h_2=>simp[Tr.run]at h
 rename_i y hd hy
 split at h
 case isFalse=>simp[Tr.run]at h
 rename_i hc
 obtain⟨rfl,Od⟩:=hc
 obtain⟨rfl,bL⟩:=KV hk
 have hi:=hi.lit rfl
 subst hi
 have hx:=hx.live rfl
 simp only[R]at hx
 obtain⟨rfl,_⟩:=hx
 have D3:=hT.dn _ _ _ _ H hy (hv.live hd)
 obtain⟨ao,c6,dC⟩:=hh.obj ho
 obtain⟨vs,rfl,ma⟩:=dC
 unfold lq
 simp only[Js,bL]
 simp only[tF]at h
 cases hg:kE qQ mp k' with
 |none=>
  have e:=Dd (y:=y) hg
  refine jP hh ho (o':=.kh qQ t' (mQ qQ mp k' y)) (Nat.le_refl _) (fun _=>rfl) (a':=.gf (.map qQ ((mp.map fun q=>qQ.v q.1)++[qQ.v k'])) (vs++[d])) ?_ (bm undef) (rd:=[n]) (aF.get c6 ?_) h
  ·rw[e]
   refine⟨vs++[d],by simp,?_⟩
   rw[List.map_append]
   exact ma.append (show aw (T.rp t') [y] [d] from ⟨D3,trivial⟩)
  ·simp only[if_true,uZ hg]
   exact aF.pure _
 |some x0=>
  obtain⟨j,h1,h2,h3⟩:=u0 (i:=0) hg
  obtain⟨h4,h5⟩:=h3 y
  refine jP hh ho (o':=.kh qQ t' (mQ qQ mp k' y)) (Nat.le_refl _) (fun _=>rfl) (a':=.gf (.map qQ (mp.map fun q=>qQ.v q.1)) (vs.set j d)) ?_ (bm undef) (rd:=[n]) (aF.get c6 ?_) h
  ·exact⟨_,by rw[h4],by rw[h5]; exact ma.set j D3⟩
  ·simp only[if_true,h1,Nat.zero_add]
   exact aF.pure _
theorem De[ab](hQ:Q.Ok)(hh:RH T H hp){nm:Nat}(hn:nm=H.length∨H[nm]?=some none){t:TypeId}{x:Option (SV T.den)}{a:Option AV}(hx:KR T H x a)(h:(xT Q nm t x K).run=some r):
  jn T H hp (.gO (o8 Q.P nm t a)) K r:=by
 unfold xT at h
 split at h
 case h_2=>simp[Tr.run]at h
 rename_i kk et wF
 have Js:=hQ.map _ _ wF
 obtain⟨n,T5,h⟩:=hG hx h
 refine eD hh hn (o:=.kh kk et []) (a':=.gf (.map kk []) []) ⟨[],rfl,trivial⟩ (a:=.mp false nm) (rd:=[]) (.inr ?_) ?_ h
 ·simp only[R]
  refine⟨trivial,.kh kk et [],?_⟩
  unfold bJ
  rcases hn with rfl|hn
  ·simp
  ·have bS:=(List.getElem?_eq_some_iff.1 hn).1
   rw[if_neg (by omega),List.getElem?_set_self bS]
 ·simp only[o8,Js,T5]
  exact aF.gO rfl
end
end Go.PI
end
section
/- PS, part J: every operation. -/
namespace Go.PI
variable {T:dw}{ρ:Type}
section
variable {H:ah T.den}{hp:ag}{K:EK T ρ}{r:ρ}{Q:gK}
theorem jo{ev:Operand→SV T.den}{D4:Operand→AV}(bE:∀ x,RV T H (ev x) (D4 x)):∀ (l:List Operand),aw (RV T H) (l.map ev) (l.map D4)
 |[]=>trivial
 |x::xs=>⟨bE x,jo bE xs⟩
theorem iK[ab]:∀ {l:List (SV T.den)} {m:List AV},aw (RV T H) l m→l.any bN=false→RL T H l m
 |[],[],_,_=>by simp[RL]
 |x::xs,y::ys,h,hd=>by
  simp only[List.any_cons,Bool.or_eq_false_iff]at hd
  simp only[RL]
  exact⟨h.1.live hd.1,iK h.2 hd.2⟩
theorem yi[ab]{ev:Operand→SV T.den}{D4:Operand→AV}(bE:∀ x,RV T H (ev x) (D4 x)):∀ (l:List (Nat×Operand)),((l.map fun p=>(p.1,ev p.2)).any fun p=>bN p.2)=false →
  RP T H (l.map fun p=>(p.1,ev p.2)) (l.map fun p=>(p.1,D4 p.2))
 |[],_=>trivial
 |x::xs,hd=>by
  simp only[List.map_cons,List.any_cons,Bool.or_eq_false_iff]at hd
  exact⟨⟨rfl,(bE _).live hd.1⟩,yi bE xs hd.2⟩
theorem Fq[ab](hT:T.Ok)(hQ:Q.Ok)(hZ:T.tM Q)(hh:RH T H hp){nm:Nat}(hn:nm=H.length∨H[nm]?=some none){ev:Operand→SV T.den}{D4:Operand→AV}(bE:∀ x,RV T H (ev x) (D4 x)){o:Oper}
  (h:(Nr Q nm H ev o K).run=some r):jn T H hp (aK Q.P nm D4 o) K r:=by
 obtain⟨dst,op,type,pos,after,guard⟩:=o
 unfold Nr at h
 cases op with
 |move x=>exact ar hh (bE x) (aF.ret _) h
 |assign x=>exact ar hh (bE x) (aF.ret _) h
 |pick c a b=>
  simp only at h
  split at h
  ·rename_i t ht
   have hc:=(bE c).lit ht
   obtain⟨v,hv,hk⟩:=NF (bE a) (bE b) h
   refine ar hh hv (rd:=[]) ?_ hk
   simp only[aK,hc]
   exact aF.pure _
  ·simp[Tr.run]at h
 |alloc t=>
  simp only at h
  split at h
  case h_2=>simp[Tr.run]at h
  rename_i m hm
  split at h
  case h_2=>simp[Tr.run]at h
  rename_i z hz
  split at h
  case isFalse=>simp[Tr.run]at h
  rename_i hs
  exact HW hQ hh hn hm hz hs h
 |box t x=>
  simp only at h
  split at h
  case isFalse=>simp[Tr.run]at h
  rename_i hc
  have hv:=(bE x).live hc.2.2
  have mj:=hv.cells
  refine eD hh hn (o:=.arr false (av (bI (ev x))) false 0 [ev x]) (a':=.arr false (aY (cellsOf (D4 x))) false [D4 x]) ⟨_,by rw[RL.closed mj],by simp only[RL]; exact⟨hv,trivial⟩,fun m6=>by rw[yY]at m6; simp only[av,m6,Bool.and_self]⟩
   (a:=.ref nm 1 0 0) (rd:=[]) ?_ ?_ h
  ·right
   simp only[R]
   exact⟨1,rfl,eE hh hn (o:=.arr false (av (bI (ev x))) false 0 [ev x])⟩
  ·simp only[aK]
   rw[if_pos ⟨by rw[←mj.CW]; exact hc.1,by rw[←mj.length]; exact hc.2.1⟩]
   exact aF.pure _
 |build t parts=>
  simp only at h
  split at h
  ·simp[Tr.run]at h
  rename_i hd
  simp only[Bool.not_eq_true]at hd
  obtain⟨v,hv,hk⟩:=lW h
  obtain⟨a,ha,hr⟩:=HV hQ (yi bE _ hd) hv
  refine ar hh (.inr hr) (rd:=[]) ?_ hk
  simp only[aK,ha]
  exact aF.pure _
 |buildSlice t len parts=>
  simp only at h
  split at h
  ·simp[Tr.run]at h
  rename_i hd
  simp only[Bool.not_eq_true]at hd
  exact yb hQ hh hn (yi bE _ hd) h
 |load t a=>
  simp only at h
  split at h
  case h_2=>simp[Tr.run]at h
  rename_i m hm
  obtain⟨q,h1,h2,h3,_⟩:=hQ.row _ _ hm
  have:∃ v c rd,aF hp (kH Q.P t (D4 a)) c rd∧R T H v c∧(K v [] rd).run=some r:=C7 hT h1 h2 h3 hh (bE a) h
  obtain⟨v,c,rd,hy,hr,hk⟩:=this
  refine ar hh (.inr hr) (rd:=rd) ?_ hk
  simp only[aK]
  exact aF.mono (aF.bind hy (aF.pure _)) (fun _ h=>by simpa using h)
 |store t a x=>
  simp only at h
  split at h
  case h_2=>simp[Tr.run]at h
  rename_i m hm
  obtain⟨q,h1,h2,h3,_⟩:=hQ.row _ _ hm
  exact HT hT h1 h3 hh (bE a) (bE x) h
 |nilCheck x=>
  simp only at h
  have hx:=bE x
  split at h
  ·rename_i n c i j he
   rw[he]at hx
   have gg:=hx.live rfl
   simp only[R]at gg
   obtain⟨aq,e,hv⟩:=gg
   refine ar hh (a:=.ref n aq i j) (.inr (by simp only[R]; exact⟨aq,rfl,hv⟩)) (rd:=[]) ?_ h
   simp only[aK,e]; exact aF.pure _
  ·rename_i e0 j he
   rw[he]at hx
   have gg:=hx.live rfl
   have kC:=gg
   simp only[R]at gg
   obtain⟨e',e,hv⟩:=gg
   refine ar hh (a:=.bf e' j) (.inr (by rw[←e]; exact kC)) (rd:=[]) ?_ h
   simp only[aK,e]; exact aF.pure _
  ·rename_i t y he
   rw[he]at hx
   have gg:=hx.live rfl
   have kC:=gg
   simp only[R]at gg
   obtain⟨e',e,hv⟩:=gg
   refine ar hh (a:=.gd t e') (.inr (by rw[←e]; exact kC)) (rd:=[]) ?_ h
   simp only[aK,e]; exact aF.pure _
  ·rename_i f a c he
   rw[he]at hx
   have gg:=hx.live rfl
   have kC:=gg
   simp only[R]at gg
   obtain⟨f',c',e,hv⟩:=gg
   refine ar hh (a:=.iR (.func f) f' c') (.inr (by rw[←e]; exact kC)) (rd:=[]) ?_ h
   simp only[aK,e]; exact aF.pure _
  ·rename_i f a c he
   have e:=hx.lit he
   refine ar hh (bm (.func (.func f) a c)) (rd:=[]) ?_ h
   simp only[aK,e]; exact aF.pure _
  ·simp[Tr.run]at h
 |binOp op t x y u=>
  simp only at h
  obtain⟨v,hv,hk⟩:=ND hQ (bE x) (bE y) h
  refine ar hh (bm v) (rd:=[]) ?_ hk
  simp only[aK,hv]
  exact aF.pure _
 |unOp op t x=>
  simp only at h
  split at h
  ·rename_i a ha
   have hx:=(bE x).lit ha
   obtain⟨v,hv,hk⟩:=gZ h
   refine ar hh (bm v) (rd:=[]) ?_ hk
   simp only[aK,hx,hv]
   exact aF.pure _
  ·simp[Tr.run]at h
 |convert s d x=>
  simp only at h
  split at h
  ·rename_i a ha
   have hx:=(bE x).lit ha
   obtain⟨v,hv,hk⟩:=gZ h
   refine ar hh (bm v) (rd:=[]) ?_ hk
   simp only[aK,hx,hv]
   exact aF.pure _
  ·simp[Tr.run]at h
 |makeInterface t x=>
  simp only at h
  split at h
  ·simp[Tr.run]at h
  rename_i hc
  simp only[Bool.or_eq_true,not_or,Bool.not_eq_true]at hc
  have hx:=(bE x).live hc.2
  refine ar hh (a:=.gd t (D4 x)) (.inr (by simp only[R]; exact⟨_,rfl,hx⟩)) (rd:=[]) ?_ h
  simp only[aK]
  rw[if_neg (by simp[hc.1.1,hc.1.2])]
  exact aF.pure _
 |makeFunc fn first captured=>
  simp only at h
  split at h
  ·rename_i hc
   refine ar hh (bm (.func fn #[] #[])) (rd:=[]) ?_ h
   simp only[aK,hc,if_true]
   exact aF.pure _
  ·rename_i hc
   split at h
   ·simp[Tr.run]at h
   rename_i hd
   simp only[Bool.or_eq_true,not_or,Bool.not_eq_true]at hd
   have h1:=iK (jo bE first.toList) hd.1
   have h2:=iK (jo bE captured.toList) hd.2
   refine ar hh (a:=.iR fn (first.toList.map D4) (captured.toList.map D4)) (.inr (by simp only[R]; exact⟨_,_,rfl,h1,h2⟩)) (rd:=[]) ?_ h
   simp only[aK]
   rw[if_neg hc]
   exact aF.pure _
 |makeSlice t l c=>
  simp only at h
  split at h
  ·rename_i hs
   have e:l=c:=by
    unfold Ky at hs
    split at hs
    ·rw[Nat.eq_of_beq_eq_true hs]
    ·simp at hs
   subst e
   exact y5 hQ hZ hh hn (bE l) h
  ·exact y4 hQ hZ hh hn (bE l) (bE c) h
 |slice t x lo hi mx=>
  simp only at h
  have ho:∀ o:Option Operand,KR T H (o.map ev) (o.map D4):=by
   intro o
   cases o with
   |none=>trivial
   |some o=>exact bE o
  obtain⟨v,b,hb,hv,hk⟩:=NG hT hQ hh (bE x) (ho lo) (ho hi) (ho mx) h
  refine ar hh hv (rd:=[]) ?_ hk
  simp only[aK,hb]
  exact aF.pure _
 |sliceToArrayPointer t x=>
  simp only at h
  have hx:=bE x
  unfold Kz at h
  split at h
  case h_2=>simp[Tr.run]at h
  rename_i len m n c i j l cp hf he
  obtain⟨q,gL,dR,gD⟩:=hQ.C9 hf
  split at h
  case h_2=>simp[Tr.run]at h
  rename_i hle
  simp only[decide_eq_true_eq]at hle
  rw[he]at hx
  have gg:=hx.live rfl
  simp only[R]at gg
  obtain⟨aq,e,hv⟩:=gg
  refine ar hh (a:=.ref n aq i j) (.inr (by simp only[R]; exact⟨aq,rfl,hv⟩)) (rd:=[]) ?_ h
  simp only[aK,e,gL]
  rw[if_pos hle]
  exact aF.pure _
 |fieldAddr s x f=>
  simp only at h
  have hx:=bE x
  split at h
  ·rename_i off m n c i j hf he
   obtain⟨q,hq,_⟩:=hQ.Nz hf
   rw[he]at hx
   have gg:=hx.live rfl
   simp only[R]at gg
   obtain⟨aq,e,hv⟩:=gg
   refine ar hh (a:=.ref n aq i (j+off)) (.inr (by simp only[R]; exact⟨aq,rfl,hv⟩)) (rd:=[]) ?_ h
   simp only[aK,e,hq]; exact aF.pure _
  ·rename_i off m e0 j hf he
   obtain⟨q,hq,_⟩:=hQ.Nz hf
   rw[he]at hx
   have gg:=hx.live rfl
   simp only[R]at gg
   obtain⟨e',e,hv⟩:=gg
   refine ar hh (a:=.bf e' (j+off)) (.inr (by simp only[R]; exact⟨e',rfl,hv.1,hv.2⟩)) (rd:=[]) ?_ h
   simp only[aK,e,hq]; exact aF.pure _
  ·rename_i off m v aV len i hf he
   obtain⟨q,hq,_⟩:=hQ.Nz hf
   rw[he]at hx
   have gg:=hx.live rfl
   simp only[R]at gg
   obtain⟨a0,h1,h2,h3⟩:=gg
   rcases h3 with ⟨n,aq,k,j,rfl,e⟩|⟨e',j,rfl,e⟩
   ·refine ar hh (a:=.ref n aq k (j+i*aV+off)) (.inr (by simp only[R]; exact⟨.ref n aq k (j+off),qJ h1 (.inl ⟨_,_,_,_,rfl,rfl⟩),h2,.inl ⟨_,_,_,_,rfl,by rw[Nat.add_right_comm]⟩⟩)) (rd:=[]) ?_ h
    simp only[aK,e,hq]; exact aF.pure _
   ·refine ar hh (a:=.bf e' (j+i*aV+off)) (.inr (by simp only[R]; exact⟨.bf e' (j+off),qJ h1 (.inr ⟨_,_,rfl,rfl⟩),h2,.inr ⟨_,_,rfl,by rw[Nat.add_right_comm]⟩⟩)) (rd:=[]) ?_ h
    simp only[aK,e,hq]; exact aF.pure _
  ·simp[Tr.run]at h
 |field s x f=>
  simp only at h
  have hx:=bE x
  split at h
  ·rename_i off m l hf he
   obtain⟨q,hq,dR,gD⟩:=hQ.Nz hf
   rw[he]at hx
   have gg:=hx.live rfl
   obtain⟨v,hv,hk⟩:=lW h
   rw[←dR,←gD]at hv
   obtain⟨c,hc,hr⟩:=R.part gg hv
   simp only[R]at gg
   obtain⟨l',e,_⟩:=gg
   refine ar hh (.inr hr) (rd:=[]) ?_ hk
   rw[e]at hc
   simp only[aK,e,hq,hc]; exact aF.pure _
  ·simp[Tr.run]at h
 |indexAddr t x ix=>
  simp only at h
  obtain⟨v,b,hb,hv,hk⟩:=y6 hT hQ hh (bE x) (bE ix) h
  refine ar hh hv (rd:=[]) ?_ hk
  simp only[aK,hb]
  exact aF.pure _
 |index t x ix=>
  simp only at h
  obtain⟨v,b,hb,hv,hk⟩:=HX hQ (bE x) (bE ix) h
  refine ar hh hv (rd:=[]) ?_ hk
  simp only[aK,hb]
  exact aF.pure _
 |makeMap t x=>
  simp only at h
  have ho:KR T H (x.map ev) (x.map D4):=by
   cases x with
   |none=>trivial
   |some o=>exact bE o
  have:=De (T:=T) hQ hh hn ho h
  exact this
 |lookup t x ix c=>
  simp only at h
  exact Fp hT hQ hZ hh (bE x) (bE ix) h
 |mapUpdate t x k v=>
  simp only at h
  exact y8 hT hQ hh (bE x) (bE k) (bE v) h
 |extract t ix=>
  simp only at h
  have hx:=bE t
  split at h
  ·rename_i l he
   rw[he]at hx
   have gg:=hx.live rfl
   simp only[R]at gg
   obtain⟨l',e,hl⟩:=gg
   obtain⟨v,hv,hk⟩:=lW h
   obtain⟨b,hb,hr⟩:=aw.get (aP.1 hl) hv
   refine ar hh (.inr hr) (rd:=[]) ?_ hk
   simp only[aK,e,hb]; exact aF.pure _
  ·simp[Tr.run]at h
 |call c=>
  obtain⟨callee,args,mh⟩:=c
  cases callee with
  |builtin b=>exact Dc hT hQ hh hn (jo bE args.toList) h
  |_=>simp[Tr.run]at h
 |_=>simp[Tr.run]at h
end
end Go.PI
end
section
/- PS, part K: by value, frozen, and calls of which an answer is known. -/
namespace Go.PI
variable {T:dw}{ρ:Type}
mutual
def kn:AV→Bool
 |.lit v=>match v with
  |.slice none 0 0=>false
  |_=>true
 |.agg l|.ju l=>oq l
 |.gd _ v=>kn v
 |.iR _ f c=>oq f&&oq c
 |_=>true
def oq:List AV→Bool
 |[]=>true
 |x::xs=>kn x&&oq xs
end
section
variable {H:ah T.den}{hp:ag}{r:ρ}
mutual
theorem R.flat:∀ {v:SV T.den} {a:AV},R T H v a→kn a=true→vP v=flat a
 |.dead,a,h,_=>by simp[R]at h
 |.hole,a,h,_=>by simp only[R]at h; subst h; rfl
 |.lit v,a,h,_=>by simp only[R]at h; subst h; rfl
 |.agg l,a,h,hn=>by
  simp only[R]at h
  obtain⟨l',rfl,h2⟩:=h
  simp only[kn]at hn
  simp only[vP,Go.PI.flat]; exact RL.flat h2 hn
 |.ju l,a,h,hn=>by
  simp only[R]at h
  obtain⟨l',rfl,h2⟩:=h
  simp only[kn]at hn
  simp only[vP,Go.PI.flat]; exact RL.flat h2 hn
 |.sl l,a,h,_=>by
  simp only[R]at h
  obtain⟨l',rfl,h2⟩:=h
  rfl
 |.jt t l,a,h,hn=>by
  simp only[R]at h
  rcases h with ⟨l',rfl,_⟩|⟨_,rfl⟩
  ·rfl
  ·simp[kn]at hn
 |.bf e j,a,h,_=>by
  simp only[R]at h
  obtain⟨e',rfl,h2⟩:=h
  rfl
 |.ref n c i j,a,h,_=>by
  simp only[R]at h
  obtain⟨aq,rfl,h2⟩:=h
  rfl
 |.iP n c i j ln cp,a,h,_=>by
  simp only[R]at h
  obtain⟨aq,rfl,h2⟩:=h
  rfl
 |.bq esz n c rg cap,a,h,_=>by
  simp only[R]at h
  obtain⟨aq,h1,h2⟩:=h
  rcases rg with _|⟨off,len⟩<;>simp only at h2<;>subst h2<;>rfl
 |.iR fn f c,a,h,hn=>by
  simp only[R]at h
  obtain⟨f',c',rfl,h2,h3⟩:=h
  rfl
 |.gd t v,a,h,hn=>by
  simp only[R]at h
  obtain⟨v',rfl,h2⟩:=h
  simp only[kn]at hn
  simp only[vP,Go.PI.flat]; exact R.flat h2 hn
 |.wK t l c b,a,h,hn=>by
  simp only[R]at h
  rcases h with ⟨_,l',rfl,_⟩|⟨_,_,rfl|rfl⟩
  ·rfl
  ·rfl
  ·simp[kn]at hn
 |.nz,a,h,hn=>by
  simp only[R]at h
  subst h
  rfl
 |.mp y n,a,h,_=>by
  simp only[R]at h
  obtain⟨rfl,_⟩:=h
  rfl
 |.sH v s len i,a,h,_=>by
  simp only[R]at h
  obtain⟨a0,_,_,h2⟩:=h
  rcases h2 with ⟨n,aq,k,j,rfl,rfl⟩|⟨e,j,rfl,rfl⟩<;>rfl
theorem RL.flat:∀ {l:List (SV T.den)} {m:List AV},RL T H l m→oq m=true→A7 l=vh m
 |[],[],_,_=>rfl
 |x::xs,y::ys,h,hn=>by
  simp only[RL]at h
  simp only[oq,Bool.and_eq_true]at hn
  simp only[A7,vh]; rw[R.flat h.1 hn.1,RL.flat h.2 hn.2]
 |[],_::_,h,_=>by simp[RL]at h
 |_::_,[],h,_=>by simp[RL]at h
end
theorem ot{den:Nat→Type}:∀ {l:List (SV den)} {i:Nat} {e:SV den},av l=true→l[i]?=some e→aE e=true
 |[],_,_,_,h=>by simp at h
 |x::xs,0,e,hc,h=>by
  simp_all[av]
 |x::xs,i+1,e,hc,h=>by
  simp only[av,Bool.and_eq_true]at hc
  simp only[List.getElem?_cons_succ]at h
  exact ot hc.2 h
theorem ou[ab](hh:RH T H hp):∀ k:Nat,
  (∀ (v:SV T.den) (a:AV) (K:SV T.den→List Nat→Tr ρ),R T H v a→(fV T H k v K).run=some r →
    ∃ v' rd a',aF hp (aW k a) a' rd∧R T H v' a'∧(kn a'=true∧aE v'=true)∧(K v' rd).run=some r) ∧
  (∀ (l:List (SV T.den)) (m:List AV) (K:List (SV T.den)→List Nat→Tr ρ),RL T H l m→(fW T H k l K).run=some r →
    ∃ l' rd m',aF hp (aM k m) m' rd∧RL T H l' m'∧(oq m'=true∧av l'=true)∧l'.length=l.length∧(K l' rd).run=some r)
 |0=>⟨fun v a K _ h=>by simp[fV,Tr.run]at h,fun l m K _ h=>by simp[fW,Tr.run]at h⟩
 |k+1=>by
  obtain⟨V2,Qj⟩:=ou hh k
  refine⟨fun v a K hr h=>?_,fun l m K hr h=>?_⟩
  ·cases v with
   |dead=>simp[R]at hr
   |hole=>simp[fV,Tr.run]at h
   |lit v=>
    simp only[R]at hr
    subst hr
    simp only[fV]at h
    split at h
    ·exact⟨_,_,.sl [],aF.pure _,by simp[R,RL,av],⟨rfl,rfl⟩,h⟩
    ·rename_i hv
     refine⟨_,_,.lit v,?_,by simp[R],⟨?_,rfl⟩,h⟩
     ·simp only[aW]
      exact aF.pure _
     ·simp only[kn]
   |agg l=>
    simp only[R]at hr
    obtain⟨l',rfl,hl⟩:=hr
    simp only[fV]at h
    obtain⟨l2,rd,m2,h1,h2,h3,_,h4⟩:=Qj _ _ _ hl h
    refine⟨_,_,.agg m2,?_,by simp only[R]; exact⟨_,rfl,h2⟩,⟨by simpa only[kn] using h3.1,by simpa only[aE] using h3.2⟩,h4⟩
    simp only[aW]
    exact aF.mono (aF.bind h1 (aF.pure _)) (fun _ h=>by simpa using h)
   |ju l=>
    simp only[R]at hr
    obtain⟨l',rfl,hl⟩:=hr
    simp only[fV]at h
    obtain⟨l2,rd,m2,h1,h2,h3,_,h4⟩:=Qj _ _ _ hl h
    refine⟨_,_,.ju m2,?_,by simp only[R]; exact⟨_,rfl,h2⟩,⟨by simpa only[kn] using h3.1,by simpa only[aE] using h3.2⟩,h4⟩
    simp only[aW]
    exact aF.mono (aF.bind h1 (aF.pure _)) (fun _ h=>by simpa using h)
   |sl l=>
    have lz:=hr
    simp only[R]at hr
    obtain⟨l',rfl,hl⟩:=hr
    simp only[fV]at h
    exact⟨_,_,.sl l',aF.pure _,lz,⟨rfl,rfl⟩,h⟩
   |jt t l=>
    have lz:=hr
    simp only[R]at hr
    simp only[fV]at h
    rcases hr with ⟨l',rfl,hl⟩|⟨rfl,rfl⟩
    ·exact⟨_,_,.sl l',aF.pure _,lz,⟨rfl,rfl⟩,h⟩
    ·exact⟨_,_,.sl [],aF.pure _,by simp only[R]; exact .inl ⟨[],rfl,trivial⟩,⟨rfl,rfl⟩,h⟩
   |bf e j=>
    have lz:=hr
    simp only[R]at hr
    obtain⟨e',rfl,he⟩:=hr
    simp only[fV]at h
    exact⟨_,_,.bf e' j,aF.pure _,lz,⟨rfl,rfl⟩,h⟩
   |ref n c i j=>
    simp only[R]at hr
    obtain⟨aq,rfl,hv⟩:=hr
    simp only[fV]at h
    split at h
    case h_2=>simp[Tr.run]at h
    rename_i g cl f cur es ho
    obtain⟨o,c6,dC⟩:=hh.obj ho
    obtain⟨es',rfl,cC,qX⟩:=dC
    split at h
    case h_2=>simp[Tr.run]at h
    rename_i e hc he
    have ca:=hv.arr hh ho hc
    simp only[aC.len]at ca
    have hl:=cC.length
    obtain⟨e2,xE,D2⟩:=aw.get (aP.1 cC) he
    cases cl with
    |true=>
     simp only at h
     refine⟨_,_,.bf e2 j,?_,by simp only[R]; exact⟨_,rfl,D2,ot (qX rfl) he⟩,⟨rfl,rfl⟩,h⟩
     simp only[aW]
     refine aF.mono (aF.bind (aF.arr c6 (by omega)) ?_) (rd:=[n]++[]) (fun _ h=>by simpa using h)
     simp only[xE]
     simp only[if_true]
     exact aF.pure _
    |false=>
     simp only at h
     obtain⟨v2,rd,a2,h1,h2,h3,h⟩:=V2 _ _ _ D2 h
     refine⟨_,_,.bf a2 j,?_,by simp only[R]; exact⟨_,rfl,h2,h3.2⟩,⟨rfl,rfl⟩,h⟩
     simp only[aW]
     refine aF.mono (aF.bind (aF.arr c6 (by omega)) (rd':=rd) ?_) (fun _ h=>by simpa using h)
     simp only[xE,Bool.false_eq_true,if_false]
     exact aF.mono (aF.bind h1 (aF.pure _)) (fun _ h=>by simpa using h)
   |iP n c i j ln cp=>
    simp only[R]at hr
    obtain⟨aq,rfl,hv⟩:=hr
    simp only[fV]at h
    split at h
    case h_2=>simp[Tr.run]at h
    rename_i g cl f cur es ho
    obtain⟨o,c6,dC⟩:=hh.obj ho
    obtain⟨es',rfl,cC,qX⟩:=dC
    split at h
    case h_2=>simp[Tr.run]at h
    rename_i cs hc he
    have ca:=hv.arr hh ho hc
    simp only[aC.len]at ca
    have hl:=cC.length
    obtain⟨e2,xE,D2⟩:=aw.get (aP.1 cC) he
    simp only[R]at D2
    obtain⟨lZ,rfl,ud⟩:=D2
    have mj:=ud.length
    split at h
    case h_2=>simp[Tr.run]at h
    rename_i hle
    simp only[Bool.and_eq_true,decide_eq_true_eq]at hle
    have GI:RL T H ((cs.drop j).take ln) ((lZ.drop j).take ln):=aP.2 (((aP.1 ud).drop j).take ln)
    cases cl with
    |true=>
     simp only at h
     have m6:av cs=true:=by
      have:=ot (qX rfl) he
      simpa only[aE] using this
     refine⟨_,_,.sl ((lZ.drop j).take ln),?_,by simp only[R]; exact⟨_,rfl,GI,mC m6 _ _⟩,⟨rfl,rfl⟩,h⟩
     simp only[aW]
     refine aF.mono (aF.bind (aF.arr c6 (by omega)) ?_) (rd:=[n]++[]) (fun _ h=>by simpa using h)
     simp only[xE]
     rw[if_pos ⟨hle.1,by omega⟩]
     simp only[if_true]
     exact aF.pure _
    |false=>
     simp only at h
     obtain⟨l2,rd,m2,h1,h2,h3,_,h⟩:=Qj _ _ _ GI h
     refine⟨_,_,.sl m2,?_,by simp only[R]; exact⟨_,rfl,h2,h3.2⟩,⟨rfl,rfl⟩,h⟩
     simp only[aW]
     refine aF.mono (aF.bind (aF.arr c6 (by omega)) (rd':=rd) ?_) (fun _ h=>by simpa using h)
     simp only[xE]
     rw[if_pos ⟨hle.1,by omega⟩]
     simp only[Bool.false_eq_true,if_false]
     exact aF.mono (aF.bind h1 (aF.pure _)) (fun _ h=>by simpa using h)
   |iR fn f c=>
    simp only[R]at hr
    obtain⟨f',c',rfl,hf,hc⟩:=hr
    simp only[fV]at h
    obtain⟨l2,rd,m2,h1,h2,h3,_,h⟩:=Qj _ _ _ hf h
    obtain⟨l3,rd3,m3,g1,g2,g3,_,h⟩:=Qj _ _ _ hc h
    refine⟨_,_,.iR fn m2 m3,?_,by simp only[R]; exact⟨_,_,rfl,h2,g2⟩,⟨by simp[kn,h3.1,g3.1],by simp[aE,h3.2,g3.2]⟩,h⟩
    simp only[aW]
    exact aF.mono (aF.bind h1 (aF.bind g1 (aF.pure _))) (fun _ h=>by simpa using h)
   |gd t v=>
    simp only[R]at hr
    obtain⟨v',rfl,hv⟩:=hr
    simp only[fV]at h
    obtain⟨v2,rd,a2,h1,h2,h3,h⟩:=V2 _ _ _ hv h
    refine⟨_,_,.gd t a2,?_,by simp only[R]; exact⟨_,rfl,h2⟩,⟨by simpa only[kn] using h3.1,by simpa only[aE] using h3.2⟩,h⟩
    simp only[aW]
    exact aF.mono (aF.bind h1 (aF.pure _)) (fun _ h=>by simpa using h)
   |bq esz n c rg cap=>
    simp only[R]at hr
    obtain⟨aq,hv,ha⟩:=hr
    simp only[fV]at h
    split at h
    ·rename_i g cl f cur es ho
     obtain⟨o,c6,dC⟩:=hh.obj ho
     obtain⟨es',rfl,cC,qX⟩:=dC
     split at h
     case h_2=>simp[Tr.run]at h
     rename_i hc
     have ca:=hv.arr hh ho hc
     simp only[aC.len]at ca
     have hl:=cC.length
     have key:∀ (off len:Nat) (part:List (SV T.den)) (h:(match cl with
        |true=>K (.sl part) [n]
        |false=>fW T H k part fun l rd=>K (.sl l) (n::rd)).run=some r),part=(es.drop off).take len→off+len≤es.length →
       ∃ v' rd a',aF hp (aW (k+1) (.bq esz n aq off len cap)) a' rd∧R T H v' a'∧(kn a'=true∧aE v'=true)∧(K v' rd).run=some r:=by
      intro off len part h ON hle
      have GI:RL T H part ((es'.drop off).take len):=by subst ON; exact aP.2 (((aP.1 cC).drop off).take len)
      cases cl with
      |true=>
       simp only at h
       refine⟨_,_,.sl ((es'.drop off).take len),?_,by simp only[R]; exact⟨_,rfl,GI,by subst ON; exact mC (qX rfl) _ _⟩,⟨rfl,rfl⟩,h⟩
       simp only[aW]
       refine aF.mono (aF.bind (aF.arr c6 (by omega)) ?_) (rd:=[n]++[]) (fun _ h=>by simpa using h)
       simp only
       rw[if_pos (by omega)]
       simp only[if_true]
       exact aF.pure _
      |false=>
       simp only at h
       obtain⟨l2,rd,m2,h1,h2,h3,_,h⟩:=Qj _ _ _ GI h
       refine⟨_,_,.sl m2,?_,by simp only[R]; exact⟨_,rfl,h2,h3.2⟩,⟨rfl,rfl⟩,h⟩
       simp only[aW]
       refine aF.mono (aF.bind (aF.arr c6 (by omega)) (rd':=rd) ?_) (fun _ h=>by simpa using h)
       simp only
       rw[if_pos (by omega)]
       simp only[Bool.false_eq_true,if_false]
       exact aF.mono (aF.bind h1 (aF.pure _)) (fun _ h=>by simpa using h)
     split at h
     ·simp only at ha
      subst ha
      exact key 0 aq es h (by simp only[List.drop_zero]; rw[List.take_of_length_le (by omega)]) (by omega)
     ·grind[Tr.run]
    ·rename_i g f cur t l ho
     obtain⟨o,c6,dC⟩:=hh.obj ho
     obtain⟨es',rfl,cC⟩:=dC
     split at h
     case h_2=>simp[Tr.run]at h
     rename_i hc
     have ca:=hv.arr hh ho hc
     simp only[aC.len]at ca
     have hl:=cC.length
     have key:∀ off len,off+len≤l.length→aF hp (aW (k+1) (.bq esz n aq off len cap)) (.sl ((es'.drop off).take len)) [n]:=by
      intro off len hle
      simp only[aW]
      refine aF.mono (aF.bind (aF.arr c6 (by omega)) (rd':=[]) ?_) (fun _ h=>by simpa using h)
      simp only
      rw[if_pos (by omega)]
      simp only[if_true]
      exact aF.pure _
     split at h
     ·simp only at ha
      subst ha
      refine⟨_,_,_,key 0 aq (by omega),?_,⟨rfl,rfl⟩,h⟩
      simp only[R,List.drop_zero]
      rw[List.take_of_length_le (by omega)]
      exact .inl ⟨_,rfl,cC⟩
     ·rename_i off len
      simp only at ha
      subst ha
      obtain⟨hle,h⟩:=aX h
      simp only[decide_eq_true_eq]at hle
      refine⟨_,_,_,key off len hle,?_,⟨rfl,rfl⟩,h⟩
      simp only[R]
      exact .inl ⟨_,rfl,(cC.drop off).take len⟩
    ·simp[Tr.run]at h
   |mp y n=>simp[fV,Tr.run]at h
   |wK t l c b=>
    simp only[R]at hr
    simp only[fV]at h
    rcases hr with ⟨_,l',rfl,hl⟩|⟨_,rfl,rfl|rfl⟩
    ·exact⟨_,_,.sl l',by simp only[aW]; exact aF.pure _,by simp only[R]; exact .inl ⟨_,rfl,hl⟩,⟨rfl,rfl⟩,h⟩
    ·exact⟨_,_,.sl [],by simp only[aW]; exact aF.pure _,by simp only[R]; exact .inl ⟨_,rfl,trivial⟩,⟨rfl,rfl⟩,h⟩
    ·exact⟨_,_,.sl [],by simp only[aW]; exact aF.pure _,by simp only[R]; exact .inl ⟨_,rfl,trivial⟩,⟨rfl,rfl⟩,h⟩
   |nz=>
    simp only[R]at hr
    simp only[fV]at h
    subst hr
    exact⟨_,_,.sl [],by simp only[aW]; exact aF.pure _,by simp only[R]; exact⟨[],rfl,trivial,rfl⟩,⟨rfl,rfl⟩,h⟩
   |sH v s len i=>simp[fV,Tr.run]at h
  ·cases l with
   |nil=>
    cases m with
    |nil=>
     simp only[fW]at h
     exact⟨[],[],[],aF.pure _,by simp[RL],⟨rfl,rfl⟩,rfl,h⟩
    |cons=>simp[RL]at hr
   |cons x xs=>
    cases m with
    |nil=>simp[RL]at hr
    |cons y ys=>
     simp only[RL]at hr
     simp only[fW]at h
     obtain⟨v2,rd,a2,h1,h2,h3,h⟩:=V2 _ _ _ hr.1 h
     obtain⟨l2,rd2,m2,g1,g2,g3,g4,h⟩:=Qj _ _ _ hr.2 h
     refine⟨_,_,a2::m2,?_,by simp only[RL]; exact⟨h2,g2⟩,⟨by simp[oq,h3.1,g3.1],by simp[av,h3.2,g3.2]⟩,by simp[g4],h⟩
     simp only[aM]
     exact aF.mono (aF.bind h1 (aF.bind g1 (aF.pure _))) (fun _ h=>by simpa using h)
theorem KW[ab](hh:RH T H hp){k:Nat}{v:SV T.den}{a:AV}{K:SV T.den→List Nat→Tr ρ}(hr:R T H v a)(h:(fV T H k v K).run=some r):
  ∃ v' rd a',aF hp (aW k a) a' rd∧R T H v' a'∧(kn a'=true∧aE v'=true)∧(K v' rd).run=some r:=(ou hh k).1 v a K hr h
theorem u3[ab](hh:RH T H hp){k:Nat}{l:List (SV T.den)}{m:List AV}{K:List (SV T.den)→List Nat→Tr ρ}(hr:RL T H l m)(h:(fW T H k l K).run=some r):
  ∃ l' rd m',aF hp (aM k m) m' rd∧RL T H l' m'∧(oq m'=true∧av l'=true)∧l'.length=l.length∧(K l' rd).run=some r:=(ou hh k).2 l m K hr h
def FW(T:dw)(H:ah T.den):List (Nat×aC T.den)→List (Nat×aL)→Prop:=
 aw fun p q=>p.1=q.1∧RO T H p.2 q.2∧∃ o,H[p.1]?=some (some o)∧p.2.cur=o.cur∧p.2.len=o.len∧o.isRec=false∧p.2.isRec=false
theorem ow[ab](hh:RH T H hp):∀ {k:Nat} {ns:List Nat} {K:List (Nat×aC T.den)→List Nat→Tr ρ},(mA T H k ns K).run=some r →
  ∃ wr rd w,aF hp (dJ k ns) w rd∧FW T H wr w∧(K wr rd).run=some r
 |0,ns,K,h=>by simp[mA,Tr.run]at h
 |k+1,[],K,h=>by
  simp only[mA]at h
  exact⟨[],[],[],aF.pure _,trivial,h⟩
 |k+1,n::ns,K,h=>by
  simp only[mA]at h
  split at h
  ·rename_i g cl f cur es ho
   obtain⟨o,c6,dC⟩:=hh.obj ho
   obtain⟨es',rfl,cC,qX⟩:=dC
   split at h
   ·obtain⟨wr,rd,w,h1,h2,h⟩:=ow hh h
    refine⟨(n,.arr g true true cur es)::wr,n::rd,(n,.arr g true true es')::w,?_,⟨⟨rfl,⟨_,rfl,cC,qX⟩,_,ho,rfl,rfl,rfl,rfl⟩,h2⟩,h⟩
    simp only[dJ]
    refine aF.get c6 ?_
    simp only[if_true]
    exact aF.mono (aF.bind h1 (aF.pure _)) (fun _ h=>by simpa using h)
   ·obtain⟨QS,rd,m2,g1,g2,g3,g4,h⟩:=u3 hh cC h
    obtain⟨wr,rd2,w,h1,h2,h⟩:=ow hh h
    rw[RL.names cC]at h1
    refine⟨(n,.arr g true true cur QS)::wr,n::rd++rd2,(n,.arr g true true m2)::w,?_,⟨⟨rfl,⟨_,rfl,g2,fun _=>g3.2⟩,_,ho,rfl,by simp[aC.len,g4],rfl,rfl⟩,h2⟩,h⟩
    simp only[dJ]
    refine aF.get c6 ?_
    simp only[Bool.false_eq_true,if_false]
    exact aF.mono (aF.bind g1 (aF.bind h1 (aF.pure _))) (fun _ h=>by simpa using h)
  ·rename_i g f cur t l ho
   obtain⟨o,c6,dC⟩:=hh.obj ho
   obtain⟨es',rfl,cC⟩:=dC
   obtain⟨wr,rd,w,h1,h2,h⟩:=ow hh h
   refine⟨(n,.bW g true cur t l)::wr,n::rd,(n,.arr g true true es')::w,?_,⟨⟨rfl,⟨_,rfl,cC⟩,_,ho,rfl,rfl,rfl,rfl⟩,h2⟩,h⟩
   simp only[dJ]
   refine aF.get c6 ?_
   simp only[if_true]
   exact aF.mono (aF.bind h1 (aF.pure _)) (fun _ h=>by simpa using h)
  ·simp[Tr.run]at h
theorem FW.names:∀ {wr:List (Nat×aC T.den)} {w:List (Nat×aL)},FW T H wr w→wr.map (·.1)=w.map (·.1)
 |[],[],_=>rfl
 |_::_,_::_,h=>by simp only[List.map_cons]; rw[h.1.1,FW.names h.2]
 |[],_::_,h=>h.elim
 |_::_,[],h=>h.elim
theorem FW.apply[ab]:∀ {wr:List (Nat×aC T.den)} {w:List (Nat×aL)} {H:ah T.den} {hp:ag},RH T H hp→FW T H wr w →
  dk H (bc H wr)∧RH T (bc H wr) (ak hp w)∧(∀ n:Nat,n∉wr.map (·.1)→(bc H wr)[n]?=H[n]?)∧(bc H wr).length=H.length
 |[],[],H,hp,hh,_=>⟨dk.refl _,hh,fun _ _=>rfl,rfl⟩
 |(n,o')::wr,(n',a')::w,H,hp,hh,h=>by
  obtain⟨⟨e1,h2,o,h3,h4,h5,wo,EJ⟩,h6⟩:=h
  simp only at e1 h2 h3 h4 h5 wo EJ
  subst e1
  obtain⟨hg,NH⟩:=hh.QX h3 (o':=o') (by omega) (fun _=>h5) h2
  have bS:=(List.getElem?_eq_some_iff.1 h3).1
  have e1:bJ H n o'=H.set n (some o'):=by simp[bJ]; omega
  have e2:setObj hp n a'=hp.set n (some a'):=by simp[setObj]; have:=hh.length; omega
  have h7:FW T (H.set n (some o')) wr w:=by
   refine aw.mono (fun p q Mc=>?_) h6
   obtain⟨q1,q2,o2,q3,q4,q5,q6,q7⟩:=Mc
   refine⟨q1,RO.mono hg q2,?_⟩
   by_cases e:p.1=n
   ·simp_all
   ·grind
  obtain⟨i1,i2,i3,i4⟩:=FW.apply NH h7
  simp only[bc,ak]
  rw[e1,e2]
  refine⟨hg.trans i1,i2,fun m hm=>?_,by rw[i4]; simp⟩
  simp only[List.map_cons,List.mem_cons,not_or]at hm
  rw[i3 m hm.2,List.getElem?_set_ne (Ne.symm hm.1)]
 |[],_::_,_,_,_,h=>h.elim
 |_::_,[],_,_,_,h=>h.elim
theorem FW.KO:∀ {wr:List (Nat×aC T.den)} {w:List (Nat×aL)},FW T H wr w→∀ n,recAt H n=true→n∉wr.map (·.1)
 |[],[],_,n,_=>by simp
 |(m,o')::wr,_::w,h,n,hn=>by
  obtain⟨⟨_,_,o,h3,_,_,wo,_⟩,h6⟩:=h
  simp only at h3
  simp only[List.map_cons,List.mem_cons,not_or]
  refine⟨?_,FW.KO h6 n hn⟩
  rintro rfl
  simp only[recAt,h3,wo,Bool.false_eq_true]at hn
 |[],_::_,h,_,_=>h.elim
 |_::_,[],h,_,_=>h.elim
theorem FW.re[ab]{wr:List (Nat×aC T.den)}{w:List (Nat×aL)}(hh:RH T H hp)(h:FW T H wr w){v:SV T.den}{a:AV}(hv:∀ H,R T H v a):RE T H hp v wr ⟨a,w⟩:=by
 obtain⟨h1,h2,h3,h4⟩:=FW.apply hh h
 exact⟨.inr (hv _),h2,h1,fun q hq=>by rw[h.names]; exact List.mem_map_of_mem hq,fun n hn _=>h3 n hn,by rw[h4]; exact Nat.le_refl _,h.KO⟩
end
def OO(T:dw)(v:TV T.den)(a:AV):Prop:=
 match v with
 |⟨.v t,x⟩=>T.rp t x a
 |⟨.l t,l⟩=>∃ l',a=.sl l'∧aw (T.rp t) l l'
 |⟨.m _ _,_⟩=>False
theorem SG(hT:T.Ok){v:TV T.den}{a:AV}(h:OO T v a)(H:ah T.den):R T H (Sl T v) a:=by
 obtain⟨t,x⟩:=v
 cases t with
 |v t=>exact hT.up _ _ _ H h
 |l t=>
  obtain⟨l',rfl,hl⟩:=h
  simp only[Sl,R]
  exact .inl ⟨l',rfl,hl⟩
 |m kk t=>exact h.elim
theorem KX[ab](hT:T.Ok)(H:ah T.den):∀ {l:List (TV T.den)} {m:List AV},aw (OO T) l m→RL T H (PX T l) m
 |[],[],_=>by simp[PX,RL]
 |v::vs,a::as,h=>by
  simp only[PX,List.map_cons,RL]
  exact⟨SG hT h.1 H,KX hT H h.2⟩
 |[],_::_,h=>h.elim
 |_::_,[],h=>h.elim
theorem GJ{H:ah T.den}{l:List (SV T.den)}{m:List AV}(h:RL T H l m):R T H (qV l) (cB m):=by
 match l,m,h with
 |[],[],h=>simp_all[qV,cB,R]
 |[x],[y],h=>simp only[RL]at h; exact h.1
 |x::x'::xs,y::y'::ys,h=>simp_all[qV,cB,R]
 |[],_::_,h=>simp[RL]at h
 |_::_,[],h=>simp[RL]at h
 |[x],_::_::_,h=>simp[RL]at h
 |_::_::_,[y],h=>simp[RL]at h
theorem Fs(hT:T.Ok){H:ah T.den}{ts:List Nat}:∀ {l:List (SV T.den)} {m:List AV} {xs:List (TV T.den)},RL T H l m→HJ T ts l=some xs→aw (OO T) xs m:=by
 induction ts with
 |nil=>
  intro l m xs hr h
  cases l with
  |cons=>simp[HJ]at h
  |nil=>
   cases m with
   |cons=>simp[RL]at hr
   |nil=>
    simp[HJ]at h
    subst h
    trivial
 |cons t ts ih=>
  intro l m xs hr h
  cases l with
  |nil=>simp[HJ]at h
  |cons v vs=>
   cases m with
   |nil=>simp[RL]at hr
   |cons a as=>
    simp only[RL]at hr
    simp only[HJ,Option.bind_eq_some_iff,Option.map_eq_some_iff]at h
    obtain⟨x,h1,ys,h2,rfl⟩:=h
    exact⟨hT.dn _ _ _ _ H h1 hr.1,ih hr.2 h2⟩
theorem GK{den:Nat→Type}{v:TV den}{t:VT}{x:t.den den}(h:v.as t=some x):v=⟨t,x⟩:=by
 obtain⟨t',y⟩:=v
 unfold TV.as at h
 split at h
 ·grind
 ·simp at h
theorem ox[ab]{den:Nat→Type}:∀ (ts:List VT) (l:List (TV den)) (x:HL den ts),uJ ts l=some x→fT ts x=l
 |[],l,x,h=>by
  cases l with
  |nil=>rfl
  |cons=>cases h
 |[t],l,x,h=>by
  match l,h with
  |[v],h=>
   have h':v.as t=some x:=h
   rw[GK h']; rfl
  |[],h=>cases h
  |_::_::_,h=>cases h
 |t::u::us,l,x,h=>by
  match l,h with
  |[],h=>cases h
  |v::l',h=>
   change VT.den den t×HL den (u::us) at x
   have h':((v.as t).bind fun x=>(uJ (u::us) l').map fun y=>(x,y))=some x:=h
   obtain⟨a,h1,h2⟩:=Option.bind_eq_some_iff.1 h'
   obtain⟨b,h3,h4⟩:=Option.map_eq_some_iff.1 h2
   subst h4
   have:=ox _ _ _ h3
   rw[GK h1,←this]
   rfl
noncomputable def KY[ab](C:Ctx)(g:FuncId)(as:List AV):Option (AV×ag):=
 match C.kv g with
 |some h=>(h as).map fun r=>(r,[])
 |none=>match ky C g as [] with
  |some (.val v,hJ)=>some (v,hJ)
  |_=>none
noncomputable def SH[ab](C:Ctx)(g:FuncId)(as:List AV):Option (AV×ag):=
 match C.iU g with
 |some h=>h as
 |none=>match ky C g as [] with
  |some (.val v,hJ)=>some (v,hJ)
  |_=>none
structure GL[ab](C:Ctx)(T:dw)(g:FuncId)(σ:vQ T):Prop where
 Q3:∀ (x:HL T.den (σ.args.map .v)) (as:List AV) (l:List (T.den σ.el)),aw (OO T) (fT _ x) as→σ.fn x=some l →
  ∃ n cl es hJ,SH C g as=some (.bq σ.esz n es.length 0 es.length none,hJ)∧hJ[n]?=some (some (.arr true cl false es))∧es.all flat=true∧aw (T.rp σ.el) l es
structure p8[ab](C:Ctx)(T:dw)(g:FuncId)(σ:uK T):Prop where
 kind:C.kind g=.pure
 Q3:∀ (x:HL T.den (σ.args.map .v)) (as:List AV) (y:HL T.den (σ.res.map .v)),aw (OO T) (fT _ x) as→σ.fn x=some y →
  ∃ v hJ l,KY C g as=some (v,hJ)∧(aW 1000 v).run hJ=some (cB l)∧kn (cB l)=true∧aw (OO T) (fT _ y) l
section
variable {H:ah T.den}{hp:ag}{r:ρ}
theorem GM[ab](hT:T.Ok){C:Ctx}{g:FuncId}{σ:vQ T}(hσ:GL C T g σ)(hh:RH T H hp){nm:Nat}(hn:nm=H.length∨H[nm]?=some none){args:List (SV T.den)}{as:List AV}(ha:RL T H args as){K:EK T ρ}
  (h:(Nt T σ nm H args K).run=some r) :
  ∃ v wr rd e lg,El C nm g as hp=some (e,lg)∧(∀ n,n∈lg→n∈rd)∧RE T H hp v wr e∧(K v wr rd).run=some r:=by
 unfold Nt at h
 obtain⟨nW,rd,TW,h1,h2,_,_,h⟩:=u3 hh ha h
 split at h
 case h_2=>simp[Tr.run]at h
 rename_i x hx
 rw[Option.bind_eq_some_iff]at hx
 obtain⟨l,hl,hx⟩:=hx
 obtain⟨y,hy,h⟩:=bind_some h
 have D3:=Fs hT h2 hl
 rw[←ox _ _ _ hx]at D3
 obtain⟨n,cl,es,hJ,oY,yK,HD,cy⟩:=hσ.Q3 x TW y D3 hy
 have hlen:y.length=es.length:=aw.length cy
 have Jo:(fN nm (.bq σ.esz n es.length 0 es.length none) hJ).run hp=some ⟨.bq σ.esz nm es.length 0 es.length none,[(nm,.arr true true false es)]⟩:=by
  simp only[fN,yK,HD,decide_true,Bool.and_self]
  rfl
 have hA:El C nm g as hp=some (⟨.bq σ.esz nm es.length 0 es.length none,[(nm,.arr true true false es)]⟩,(aM 1000 as).log hp):=by
  unfold El
  rw[h1.1]
  simp only[Option.bind_some]
  unfold SH at oY
  cases hi:C.iU g with
  |some f=>
   simp_all
  |none=>
   rw[hi]at oY
   simp only at oY
   split at oY
   case h_2=>simp at oY
   rename_i v0 SI aU
   simp only[Option.some.injEq,Prod.mk.injEq]at oY
   obtain⟨rfl,rfl⟩:=oY
   simp only[aU,Option.bind_some,pk,Jo,Option.map_some]
 have hg:jn T H hp (RM.ret (⟨.bq σ.esz nm es.length 0 es.length none,[(nm,.arr true true false es)]⟩:dm)) (fun v wr _=>K v wr rd) r:=by
  have hv:=eE hh hn (o:=.bW true false 0 σ.el y)
  simp only[aC.cur,aC.len,hlen]at hv
  refine eD hh hn (o:=.bW true false 0 σ.el y) ⟨es,rfl,cy⟩ ?_ (aF.ret _) h
  right
  simp only[R]
  exact⟨es.length,hv,rfl⟩
 obtain⟨v,wr,rd',e,g1,g2,g3⟩:=hg
 have he:e=⟨.bq σ.esz nm es.length 0 es.length none,[(nm,.arr true true false es)]⟩:=by
  have:=g1.1
  simp only[RM.run,Option.some.injEq]at this
  exact this.symm
 subst he
 exact⟨v,wr,rd,_,_,hA,h1.2,g2,g3⟩
theorem wP[ab](hT:T.Ok){C:Ctx}{g:FuncId}{σ:uK T}(hσ:p8 C T g σ)(hh:RH T H hp){args:List (SV T.den)}{as:List AV}(ha:RL T H args as){K:EK T ρ}(h:(HN T σ H args K).run=some r):
  ∃ v wr rd a w lg,Jd C g as hp=some (.val a,w)∧(∀ nm,pq C nm false hp (g,as)=some (⟨a,w⟩,lg))∧(∀ n,n∈lg→n∈rd)∧RE T H hp v wr ⟨a,w⟩∧(K v wr rd).run=some r:=by
 unfold HN at h
 obtain⟨nW,rd,TW,h1,h2,_,_,h⟩:=u3 hh ha h
 split at h
 case h_2=>simp[Tr.run]at h
 rename_i x hx
 rw[Option.bind_eq_some_iff]at hx
 obtain⟨l,hl,hx⟩:=hx
 obtain⟨y,hy,h⟩:=bind_some h
 have D3:=Fs hT h2 hl
 rw[←ox _ _ _ hx]at D3
 obtain⟨v,hJ,m,oY,nx,PM,cy⟩:=hσ.Q3 x TW y D3 hy
 have hR:∀ H,R T H (qV (PX T (fT _ y))) (cB m):=fun H=>GJ (KX hT H cy)
 have HD:vP (qV (PX T (fT _ y)))=flat (cB m):=R.flat (hR H) PM
 have OP:∀ w,nj hp as (.val v,hJ)=some (.val (cB m),w)→Jd C g as hp=some (.val (cB m),w)∧(∀ nm,pq C nm false hp (g,as)=some (⟨cB m,w⟩,Jk hp as (.val v,hJ))):=by
  intro w hw
  unfold KY at oY
  cases hi:C.kv g with
  |some f=>
   rw[hi]at oY
   simp only[Option.map_eq_some_iff,Prod.mk.injEq]at oY
   obtain⟨r0,DU,rfl,rfl⟩:=oY
   constructor
   ·rw[G6 g hi,h1.1]
    simp only[Option.bind_some,DU,hw]
   ·intro nm; simp only[pq,hσ.kind,hi,h1.1,Option.bind_some,DU,np,hw]
  |none=>
   rw[hi]at oY
   simp only at oY
   split at oY
   case h_2=>simp at oY
   rename_i v0 SI aU
   simp only[Option.some.injEq,Prod.mk.injEq]at oY
   obtain⟨rfl,rfl⟩:=oY
   constructor
   ·rw[MA g hi,h1.1]
    simp only[Option.bind_some,aU,hw]
   ·intro nm; simp only[pq,hσ.kind,hi,h1.1,Option.bind_some,aU,np,hw]
 simp only at h
 split at h
 ·rename_i hf
  rw[HD]at hf
  have wj:nj hp as (.val v,hJ)=some (.val (cB m),[]):=by
   rw[zD,nx]
   simp only[Option.bind_some,ML,hf,cond_true]
  obtain⟨q1,q2⟩:=OP _ wj
  refine⟨_,[],_,_,_,_,q1,q2,fun n hn=>?_,⟨.inr (hR _),hh,dk.refl _,fun q hq=>by simp at hq,fun _ _ _=>rfl,Nat.le_refl _,fun _ _ h=>by simp at h⟩,h⟩
  simp only[Jk,List.mem_append,gh,nx,hf,if_true]at hn
  rcases hn with hn|hn
  ·exact h1.2 n hn
  ·simp[Pure.pure,RM.log]at hn
 ·rename_i hf
  rw[HD]at hf
  obtain⟨wr,rd2,w,f1,f2,h⟩:=ow hh h
  rw[RL.names ha]at f1
  have wj:nj hp as (.val v,hJ)=some (.val (cB m),w):=by
   rw[zD,nx]
   simp only[Option.bind_some,ML,hf,cond_false,f1.1,Option.map_some]
  obtain⟨q1,q2⟩:=OP _ wj
  refine⟨_,_,_,_,_,_,q1,q2,fun n hn=>?_,FW.re hh f2 hR,h⟩
  simp only[Jk,List.mem_append,gh,nx,hf,Bool.false_eq_true,if_false]at hn
  simp only[List.mem_append]
  rcases hn with hn|hn
  ·exact .inl (h1.2 n hn)
  ·rw[RM.ek,f1.1]at hn
   simp only[List.mem_append]at hn
   rcases hn with hn|hn
   ·exact .inr (f1.2 n hn)
   ·simp[Pure.pure,RM.log]at hn
end
end Go.PI
end
section
/- PS, part L: states, regions. -/
namespace Go.PI
variable {T:dw}{ρ:Type}
theorem Df{v:Value}{K:Value→Tr ρ}:xU v K=K v:=by
 unfold xU
 split<;>rfl
mutual
theorem lh:∀ {v:SV T.den} {K:SV T.den→Tr ρ},dx v K=K v
 |.lit v,K=>by simp only[dx]; exact Df
 |.agg l,K=>by simp only[dx]; exact iL
 |.ju l,K=>by simp only[dx]; exact iL
 |.sl l,K=>by simp only[dx]; exact iL
 |.bf e j,K=>by simp only[dx]; exact lh
 |.iR fn f c,K=>by simp only[dx]; rw[iL,iL]
 |.gd t v,K=>by simp only[dx]; exact lh
 |.dead,K=>by simp only[dx]
 |.hole,K=>by simp only[dx]
 |.jt t l,K=>by simp only[dx]
 |.ref n c i j,K=>by simp only[dx]
 |.iP n c i j ln cp,K=>by simp only[dx]
 |.bq esz n c rg cap,K=>by simp only[dx]
 |.mp y n,K=>by simp only[dx]
 |.wK t l c b,K=>by simp only[dx]
 |.nz,K=>by simp only[dx]
 |.sH v s l i,K=>by simp only[dx]; exact lh
theorem iL:∀ {l:List (SV T.den)} {K:List (SV T.den)→Tr ρ},lO l K=K l
 |[],K=>by simp only[lO]
 |x::xs,K=>by simp only[lO]; rw[lh,iL]
end
theorem HY[ab]{o:aC T.den}{K:aC T.den→Tr ρ}:KC o K=K o:=by
 cases o with
 |arr g cl f c es=>exact iL
 |oU fn ps as bd fr=>exact iL
 |_=>rfl
theorem jQ[ab]:∀ {H:ah T.den} {K:ah T.den→Tr ρ},mV H K=K H
 |[],K=>rfl
 |none::r,K=>by simp only[mV]; exact jQ
 |some o::r,K=>by simp only[mV]; rw[HY,jQ]
theorem nK:∀ {l:List Nat} {K:List Nat→Tr ρ},sd l K=K l
 |[],K=>rfl
 |x::r,K=>by simp only[sd]; exact nK
theorem Ab[ab]:∀ {l:sI T.den} {K:sI T.den→Tr ρ},Bd l K=K l
 |[],K=>rfl
 |(d,v)::r,K=>by simp only[Bd]; rw[lh,Ab]
theorem force_eq[ab]{s:bx T.den}{K:bx T.den→Tr ρ}:s.force K=K s:=by
 obtain⟨fn,n,fr,hp,wf,wh,js⟩:=s
 simp only[bx.force]
 rw[Ab,jQ,nK,nK]
theorem cD[ab]{s:bx T.den}{dst:Option Tmp}{v:SV T.den}{wr:List (Nat×aC T.den)}{K:bx T.den→Tr ρ}:s.ff dst v wr K=K (s.step dst v wr):=by
 obtain⟨fn,n,fr,hp,wf,wh,js⟩:=s
 have h1:∀ {K':ah T.den→List Nat→Tr ρ},Fg hp wh wr K'=K' (bc hp wr) (wr.map (·.1)++wh):=by
  intro K'
  cases wr with
  |nil=>rfl
  |cons w r=>simp only[Fg]; rw[jQ,nK]
 simp only[bx.ff,h1]
 cases dst with
 |none=>rfl
 |some d=>
  simp only
  split
  ·rename_i hd
   simp only[bx.step,Kw,tC,hd,Ns]
  ·rename_i hd
   rw[lh]
   simp only[bx.step,Kw,tC,hd,Ns]
theorem qL{ops:Array Oper}:∀ {l:List Oper} {K:List (G×Oper)→Tr ρ},oh ops l K=K (l.map fun o=>(eR ops o,o))
 |[],K=>rfl
 |o::r,K=>by
  simp only[oh,List.map_cons]
  split<;>rename_i h<;>rw[qL,h]
theorem Ac:∀ {l:List (G×Item)} {K:List (G×Item)→Tr ρ},xW l K=K l
 |[],K=>rfl
 |(g,⟨i,nm,o⟩)::r,K=>by simp only[xW]; exact Ac
theorem rA[ab]{ops:Array Oper}:∀ (l:List Oper) (m i n:Nat),lQ (bD i n (l.take m)) (l.map fun o=>(eR ops o,o))=(bD i n (l.take m)).map fun x=>(eR ops x.o,x)
 |[],m,i,n=>by simp[bD,lQ]
 |o::r,0,i,n=>by simp[bD,lQ]
 |o::r,m+1,i,n=>by
  simp only[List.take_succ_cons,bD,List.map_cons,lQ]
  rw[rA]
def kG{den:Nat→Type}(js:List (Nat×kZ))(H:ah den)(hp:ag):Prop:=∀ n st,cm js n=some st→recAt H n=true∧ib hp n=some st
theorem jq{den:Nat→Type}{H:ah den}{n:Nat}(h:recAt H n=true):n<H.length:=by
 grind[recAt]
theorem p9{den:Nat→Type}{H H':ah den}{n:Nat}(h:H'[n]?=H[n]?):recAt H' n=recAt H n:=by unfold recAt; rw[h]
theorem nL{hp cq:ag}{n:Nat}(h:cq[n]?=hp[n]?):ib cq n=ib hp n:=by unfold ib; rw[h]
theorem kG.Bj{den:Nat→Type}{js:List (Nat×kZ)}{H H':ah den}{hp cq:ag}(h:kG js H hp)(hk:∀ n,recAt H n=true→H'[n]?=H[n]?∧cq[n]?=hp[n]?):kG js H' cq:=by
 intro n st hn
 obtain⟨h1,h2⟩:=h n st hn
 obtain⟨h3,h4⟩:=hk n h1
 exact⟨by rw[p9 h3]; exact h1,by rw[nL h4]; exact h2⟩
theorem tN{n:Nat}:∀ {wr:List (Nat×aL)} {hp:ag},n<hp.length→n∉wr.map (·.1)→(ak hp wr)[n]?=hp[n]?
 |[],hp,_,_=>rfl
 |(m,o)::wr,hp,hn,hm=>by
  simp only[List.map_cons,List.mem_cons,not_or]at hm
  simp only[ak]
  have:n<(setObj hp m o).length∧(setObj hp m o)[n]?=hp[n]?:=by
   grind[setObj]
  rw[tN this.1 hm.2,this.2]
theorem kG.re[ab]{js:List (Nat×kZ)}{H:ah T.den}{hp:ag}(h:kG js H hp)(hh:RH T H hp){v:SV T.den}{wr:List (Nat×aC T.den)}{e:dm}(he:RE T H hp v wr e):kG js (bc H wr) (ak hp e.wr):=by
 refine h.Bj fun n hn=>⟨he.Bj n (he.KO n hn) (jq hn),tN (by rw[←hh.length]; exact jq hn) fun hc=>?_⟩
 obtain⟨q,hq,rfl⟩:=List.mem_map.1 hc
 exact he.KO _ hn (he.names q hq)
structure RS(T:dw)(s:bx T.den)(st:St):Prop where
 fn:s.fn=st.fn
 n:st.fr.length=s.n
 fr:∀ t,RV T s.hp (cH s.fr t) (st.fr.getD t .undef)
 hp:RH T s.hp st.hp
 js:kG s.js s.hp st.hp
structure bj(s s':bx T.den):Prop where
 fn:s'.fn=s.fn
 n:s'.n=s.n
 fr:∀ t,t∉s'.wf→cH s'.fr t=cH s.fr t
 wf:∀ t,t∈s.wf→t∈s'.wf
 hp:∀ n:Nat,n<s.hp.length→n∉s'.wh→s'.hp[n]?=s.hp[n]?
 wh:∀ n,n∈s.wh→n∈s'.wh
 len:s.hp.length≤s'.hp.length
 grow:dk s.hp s'.hp
theorem bj.refl[ab](s:bx T.den):bj s s:=⟨rfl,rfl,fun _ _=>rfl,fun _ h=>h,fun _ _ _=>rfl,fun _ h=>h,Nat.le_refl _,dk.refl _⟩
theorem bj.trans[ab]{s s' tV:bx T.den}(h:bj s s')(h':bj s' tV):bj s tV where
 fn:=h'.fn.trans h.fn
 n:=h'.n.trans h.n
 fr:=fun t ht=>by rw[h'.fr t ht,h.fr t (fun hc=>ht (h'.wf t hc))]
 wf:=fun t ht=>h'.wf t (h.wf t ht)
 hp:=fun n hn ht=>by rw[h'.hp n (Nat.lt_of_lt_of_le hn h.len) ht,h.hp n hn (fun hc=>ht (h'.wh n hc))]
 wh:=fun t ht=>h'.wh t (h.wh t ht)
 len:=Nat.le_trans h.len h'.len
 grow:=h.grow.trans h'.grow
theorem ko{n d t:Nat}{fr:sI T.den}{v:SV T.den}:cH (tC n fr d v) t=if t=d∧d<n then v else cH fr t:=by
 unfold tC
 split
 ·rename_i h
  have:=Nat.le_of_ble_eq_true h
  rw[if_neg (by omega)]
 ·rename_i h
  have:¬n≤d:=fun hc=>by rw[Nat.ble_eq_true_of_le hc]at h; simp at h
  simp only[cH]
  split
  ·rename_i he
   have:=Nat.eq_of_beq_eq_true he
   rw[if_pos (by omega)]
  ·rename_i he
   have:¬d=t:=fun hc=>by subst hc; simp at he
   rw[if_neg (by omega)]
theorem Dg{l:List AV}{d t:Nat}{a u:AV}:(l.set d a).getD t u=if t=d∧d<l.length then a else l.getD t u:=by
 grind
theorem RS.step[ab]{s:bx T.den}{st:St}(h:RS T s st){v:SV T.den}{wr:List (Nat×aC T.den)}{e:dm}(he:RE T s.hp st.hp v wr e)(dst:Option Tmp):
  RS T (s.step dst v wr) { st with fr:=bC st.fr dst e.val,hp:=ak st.hp e.wr }∧bj s (s.step dst v wr):=by
 refine⟨⟨h.fn,?_,fun t=>?_,he.hp,h.js.re h.hp he⟩,⟨rfl,rfl,fun t ht=>?_,fun t ht=>?_,fun n hn ht=>?_,fun n hn=>?_,he.len,he.grow⟩⟩
 ·simp only[bx.step,bC]; cases dst<;>simp[h.n]
 ·simp only[bx.step]
  cases dst with
  |none=>exact(h.fr t).mono he.grow
  |some d=>
   simp only[Kw,bC]
   rw[ko,Dg,h.n]
   split
   ·exact he.val
   ·exact(h.fr t).mono he.grow
 ·simp only[bx.step]at ht ⊢
  cases dst with
  |none=>rfl
  |some d=>
   simp only[Ns,List.mem_cons,not_or]at ht
   simp only[Kw,ko]
   rw[if_neg (by omega)]
 ·simp only[bx.step]
  cases dst with
  |none=>exact ht
  |some d=>exact List.mem_cons_of_mem _ ht
 ·simp only[bx.step,List.mem_append,not_or]at ht ⊢
  exact he.Bj n ht.1 hn
 ·simp only[bx.step,List.mem_append]
  exact .inr hn
theorem Dh[ab]{H:ah T.den}{hp:ag}(hh:RH T H hp):RE T H hp (.lit undef) [] ⟨.undef,[]⟩:=
 ⟨bm undef,hh,dk.refl _,fun q h=>by simp at h,fun _ _ _=>rfl,Nat.le_refl _,fun _ _ h=>by simp at h⟩
theorem rB:∀ (c:List Value),av (den:=T.den) (c.map .lit)=true
 |[]=>by simp[av]
 |x::r=>by simp only[List.map_cons,av,aE,rB r,Bool.and_self]
theorem RS.ev[ab]{s:bx T.den}{st:St}(h:RS T s st)(o:Operand):RV T s.hp (cV s.fr o) (az st.fr o):=by
 cases o with
 |tmp t=>exact h.fr t
 |const v=>
  simp only[cV,az,Kv,nP]
  cases v with
  |agg c=>
   simp only
   by_cases hc:c.toList.all (fun v=>a9 (.lit v))=true
   ·rw[if_pos hc,if_pos hc]
    right
    simp only[R]
    exact⟨_,rfl,RL.lits _⟩
   ·rw[if_neg hc]
    exact .inl rfl
  |tuple c=>
   right
   simp only[gN,R]
   exact⟨_,rfl,RL.lits _⟩
  |_=>exact bm _
 |global g=>
  simp only[cV,az,BG]
  cases ab.g g with
  |none=>exact bm _
  |some c=>
   right
   simp only[R]
   exact⟨_,rfl,⟨_,rfl,RL.lits _⟩,by simp only[aE]; exact rB _⟩
 |func f=>exact bm _
theorem yj[ab]{g:G}{s:bx T.den}{st:St}(h:RS T s st){K:bx T.den→Bool→Tr ρ}{r:ρ}(hk:(wM g s K).run=some r):
  ∃ s' b,RS T s' st∧bj s s'∧sR st.fr g=some b∧s'.hp=s.hp∧(K s' b).run=some r:=by
 unfold wM at hk
 split at hk
 ·exact⟨s,true,h,bj.refl _,rfl,rfl,hk⟩
 ·exact⟨s,false,h,bj.refl _,rfl,rfl,hk⟩
 ·rename_i d want
  split at hk
  ·rename_i b hb
   have ha:=(h.fr d).lit hb
   have key:∀ b',b=b'→RS T (s.step (some d) (.lit (.bool b')) []) st∧bj s (s.step (some d) (.lit (.bool b')) []):=by
    rintro b' rfl
    have h1:=h.step (v:=.lit (.bool b)) (wr:=[]) (e:=⟨.lit (.bool b),[]⟩) ⟨bm _,h.hp,dk.refl _,fun q hq=>by simp at hq,fun _ _ _=>rfl,Nat.le_refl _,fun _ _ h=>by simp at h⟩ (some d)
    refine⟨?_,h1.2⟩
    have e:({ st with fr:=bC st.fr (some d) (AV.lit (.bool b)),hp:=ak st.hp [] }:St)=st:=by
     have:st.fr.set d (.lit (.bool b))=st.fr:=by
      by_cases hd:d<st.fr.length
      ·refine gV ?_
       rw[List.getD_eq_getElem?_getD]at ha
       rw[List.getElem?_eq_getElem hd]at ha ⊢
       exact congrArg some ha
      ·exact List.set_eq_of_length_le (Nat.le_of_not_lt hd)
     simp only[bC,ak,this]
    rw[e]at h1
    exact h1.1
   have hw:sR st.fr (.on d want)=some (b==want):=by simp only[sR]; rw[ha]; rfl
   rcases fo hk with ⟨O7,Ek⟩|⟨O7,Ek⟩
   ·subst O7
    rw[cD]at Ek
    obtain⟨k1,k2⟩:=key true rfl
    exact⟨_,_,k1,k2,hw,rfl,Ek⟩
   ·subst O7
    rw[cD]at Ek
    obtain⟨k1,k2⟩:=key false rfl
    exact⟨_,_,k1,k2,hw,rfl,Ek⟩
  ·rename_i x hx
   have ha:=(h.fr d).lit hx
   refine⟨s,false,h,bj.refl _,?_,rfl,hk⟩
   simp only[sR]; rw[ha]; rfl
  ·simp[Tr.run]at hk
theorem qa[ab]{C:Ctx}{step:Oper→bx T.den→(bx T.den→Tr ρ)→Tr ρ}{r:ρ}
  (dF:∀ o s st K,RS T s st→(step o s K).run=some r→∃ s' st',ie C o st=some (.norm st')∧RS T s' st'∧bj s s'∧(K s').run=some r) :
  ∀ (l:List (G×Oper)) (s:bx T.den) (st:St) (K:bx T.den→Tr ρ),RS T s st→(vS step l s K).run=some r→∃ s' st',tc C l st=some (.norm st')∧RS T s' st'∧bj s s'∧(K s').run=some r
 |[],s,st,K,h,hk=>⟨s,st,rfl,h,bj.refl _,hk⟩
 |(g,o)::l,s,st,K,h,hk=>by
  simp only[vS]at hk
  obtain⟨s1,b,h1,h2,h3,_,hk⟩:=yj h hk
  cases b with
  |false=>
   simp only at hk
   rw[cD]at hk
   obtain⟨g1,g2⟩:=h1.step (Dh h1.hp) o.dst
   obtain⟨s',st',i1,i2,i3,hk⟩:=qa dF l _ _ K g1 hk
   refine⟨s',st',?_,i2,(h2.trans g2).trans i3,hk⟩
   simp only[tc,h3]
   exact i1
  |true=>
   simp only at hk
   obtain⟨s2,NJ,g1,g2,g3,hk⟩:=dF o s1 st _ h1 hk
   obtain⟨s',st',i1,i2,i3,hk⟩:=qa dF l _ _ K g2 hk
   refine⟨s',st',?_,i2,(h2.trans g3).trans i3,hk⟩
   simp only[tc,h3,g1,Option.bind_some]
   exact i1
def Bn(a b:fq):Prop:=a.idx=b.idx∧(∀ n,n∈a.rd→n∈b.rd)∧∀ n,n∈a.wr→n∈b.wr
theorem GN{a a' b b':List Nat}(ha:∀ n,n∈a→n∈a')(hb:∀ n,n∈b→n∈b')(h:D5 a' b'=true):D5 a b=true:=by
 grind[decide_eq_false_iff_not,D5]
theorem HZ[ab]{pr:List Nat}{x x' y y':fq}(hx:Bn x x')(hy:Bn y y')(h:rF pr x' y'=true):rF pr x y=true:=by
 unfold rF at h ⊢
 rw[hx.1,hy.1]
 simp only[Bool.or_eq_true,Bool.and_eq_true]at h ⊢
 refine h.imp id fun h=>⟨GN hx.2.2 (fun n hn=>?_) h.1,GN hy.2.2 hx.2.1 h.2⟩
 simp only[List.mem_append]at hn ⊢
 exact hn.imp (hy.2.1 n) (hy.2.2 n)
theorem yk[ab]{pr:List Nat}:∀ {l l':List fq},aw Bn l l'→eQ pr l'=true→eQ pr l=true
 |[],[],_,_=>rfl
 |x::xs,y::ys,h,hk=>by
  simp only[eQ,Bool.and_eq_true]at hk ⊢
  refine⟨?_,yk h.2 hk.2⟩
  rw[List.all_eq_true]at hk ⊢
  intro z hz
  obtain⟨i,hi⟩:=List.getElem?_of_mem hz
  obtain⟨z',Ro,hle⟩:=aw.get h.2 hi
  exact HZ h.1 hle (hk.1 z' (List.mem_of_getElem? Ro))
theorem Bo{pr:List Nat}{fs:List fq}(h:qG pr fs=true):eQ pr fs=true:=by
 unfold qG at h
 split at h
 ·rename_i hw
  clear h
  induction fs with
  |nil=>rfl
  |cons x xs ih=>
   simp only[List.all_cons,Bool.and_eq_true]at hw
   simp only[eQ,Bool.and_eq_true]
   refine⟨?_,ih hw.2⟩
   rw[List.all_eq_true]
   intro y hy
   have h2:=List.all_eq_true.1 hw.2 y hy
   have e1:x.wr=[]:=by simpa using hw.1
   have e2:y.wr=[]:=by simpa using h2
   simp[rF,e1,e2,D5]
 ·exact h
def KZ[ab]:Nat→List Item→Prop
 |_,[]=>True
 |n,x::r=>x.nm=n∧KZ (if au x.o.op then n+1 else n) r
def sy[ab](l:List Item):Nat:=(l.filter fun x=>au x.o.op).length
theorem qb[ab](x:Item)(l:List Item):sy (x::l)=(if au x.o.op then 1 else 0)+sy l:=by
 grind[sy]
theorem yl[ab]:∀ (l:List Oper) (i n:Nat),sy (bD i n l)=(l.filter fun o=>au o.op).length
 |[],_,_=>rfl
 |o::r,i,n=>by
  rw[bD,qb,yl r,List.filter_cons]
  split<;>simp[*]<;>omega
theorem Ad[ab]:∀ (l:List Oper) (i n:Nat),KZ n (bD i n l)
 |[],_,_=>trivial
 |_::r,i,n=>⟨rfl,Ad r (i+1) _⟩
theorem tO:∀ {wr:List (Nat×aC T.den)} {H:ah T.den},(∀ q,q∈wr→q.1<H.length)→(bc H wr).length=H.length
 |[],H,_=>rfl
 |(n,o)::wr,H,h=>by
  have h0:=h (n,o) (by simp)
  have e:(bJ H n o).length=H.length:=by
   grind[bJ]
  simp only[bc]
  rw[tO (fun q hq=>by rw[e]; exact h q (List.mem_cons_of_mem _ hq)),e]
theorem u4[ab]{C:Ctx}{ops:Array Oper}{step:Nat→Oper→bx T.den→EK T ρ→Tr ρ}{r:ρ}
  (dF:∀ nm o s st K,RS T s st→(nm=s.hp.length∨s.hp[nm]?=some none)→(au o.op=false→nm=s.hp.length)→(step nm o s K).run=some r →
    ∃ v wr rd e lg,B2 C nm o st.fr st.hp=some (e,lg)∧(∀ n,n∈lg→n∈rd)∧RE T s.hp st.hp v wr e∧(K v wr rd).run=some r) :
  ∀ (l:List Item) (n:Nat) (s:bx T.den) (st:St) (fs:List fq) (K:bx T.den→List fq→Tr ρ),KZ n l→n+sy l=s.hp.length→(∀ m:Nat,n≤m→m<s.hp.length→s.hp[m]?=some none)→RS T s st →
    (si step (l.map fun x=>(eR ops x.o,x)) s fs K).run=some r →
    ∃ s' st' Qk MR,sX C ops l st=some (st',MR)∧aw Bn MR Qk∧RS T s' st'∧bj s s'∧(K s' (fs++Qk)).run=some r
 |[],n,s,st,fs,K,_,_,_,h,hk=>⟨s,st,[],[],rfl,trivial,h,bj.refl _,by simpa[si] using hk⟩
 |x::l,n,s,st,fs,K,hn,hle,ph,h,hk=>by
  obtain⟨T5,L4⟩:=hn
  simp only[List.map_cons,si]at hk
  obtain⟨s1,b,h1,h2,h3,h4,hk⟩:=yj h hk
  have hw:cF ops st.fr x.o=some b:=by rw[BJ]; exact h3
  cases b with
  |false=>
   simp only at hk
   rw[cD]at hk
   obtain⟨g1,g2⟩:=h1.step (Dh h1.hp) x.o.dst
   have ehp:(s1.step x.o.dst (.lit undef) []).hp=s.hp:=by simp only[bx.step,bc]; exact h4
   have hinv:∀ m:Nat,(if au x.o.op then n+1 else n)≤m→m<(s1.step x.o.dst (.lit undef) []).hp.length→(s1.step x.o.dst (.lit undef) []).hp[m]?=some none:=by
    grind
   have hb:(if au x.o.op then n+1 else n)+sy l=s.hp.length:=by
    rw[qb]at hle; split<;>simp_all<;>omega
   ·obtain⟨s',st',Qk,MR,i1,i2,i3,i4,hk⟩:=u4 dF l _ _ _ _ K L4 (by rw[ehp]; exact hb) hinv g1 hk
    refine⟨s',st',⟨x.idx,[],[]⟩::Qk,⟨x.idx,[],[]⟩::MR,?_,⟨⟨rfl,fun _ h=>h,fun _ h=>h⟩,i2⟩,i3,(h2.trans g2).trans i4,by simpa using hk⟩
    simp only[sX,B3,hw,Option.bind_some]
    have V3:sX C ops l { st with fr:=bC st.fr x.o.dst .undef }=some (st',MR):=i1
    rw[V3]; rfl
  |true=>
   simp only at hk
   have nT:x.at s1.hp.length=s1.hp.length∨s1.hp[x.at s1.hp.length]?=some none:=by
    grind[Item.at]
   obtain⟨v,wr,rd,e,lg,e1,e2,e3,hk⟩:=dF (x.at s1.hp.length) x.o s1 st _ h1 nT (fun h=>by simp only[Item.at,h]) hk
   rw[show s1.hp.length=st.hp.length from h1.hp.length]at e1
   split at hk
   case h_2=>simp[Tr.run]at hk
   rename_i Hq
   rw[List.all_eq_true]at Hq
   rw[cD]at hk
   obtain⟨g1,g2⟩:=h1.step e3 x.o.dst
   have bg:∀ q,q∈wr→q.1<s1.hp.length∧((au x.o.op=true∧q.1=x.nm)∨∃ o,s1.hp[q.1]?=some (some o)):=by
    grind
   have SJ:(s1.step x.o.dst v wr).hp.length=s.hp.length:=by
    simp only[bx.step]
    rw[tO (fun q hq=>(bg q hq).1),h4]
   have hinv:∀ m:Nat,(if au x.o.op then n+1 else n)≤m→m<(s1.step x.o.dst v wr).hp.length→(s1.step x.o.dst v wr).hp[m]?=some none:=by
    intro m hm Iu
    rw[SJ]at Iu
    have hold:s1.hp[m]?=some none:=by rw[h4]; exact ph m (by split at hm<;>omega) Iu
    simp only[bx.step]
    rw[e3.Bj m ?_ (by rw[h4]; exact Iu)]
    ·exact hold
    ·grind
   have hb:(if au x.o.op then n+1 else n)+sy l=s.hp.length:=by
    rw[qb]at hle; split<;>simp_all<;>omega
   ·obtain⟨s',st',Qk,MR,i1,i2,i3,i4,hk⟩:=u4 dF l _ _ _ _ K L4 (by rw[SJ]; exact hb) hinv g1 hk
    refine⟨s',st',⟨x.idx,rd,wr.map (·.1)⟩::Qk,⟨x.idx,lg,e.wr.map (·.1)⟩::MR,?_,⟨⟨rfl,e2,fun n hn=>?_⟩,i2⟩,i3,(h2.trans g2).trans i4,by simpa using hk⟩
    ·simp only[sX,B3,hw,e1,Option.bind_some,Pe]
     rw[if_pos ?_]
     ·simp_all
     ·rw[List.all_eq_true]
      intro q hq
      obtain⟨q',hq',eq'⟩:=List.mem_map.1 (e3.names q hq)
      obtain⟨c1,c2⟩:=bg q' hq'
      rw[eq']at c1 c2
      simp only[Bool.and_eq_true,decide_eq_true_eq,Bool.or_eq_true]
      refine⟨by rw[←h1.hp.length]; exact c1,c2.imp id fun⟨o,ho⟩=>?_⟩
      obtain⟨a,ha,_⟩:=h1.hp.obj ho
      rw[ha]
    ·obtain⟨q,hq,rfl⟩:=List.mem_map.1 hn
     exact e3.names q hq
end Go.PI
end
section
/- PS, part M: what is dropped; results; calls of what is looked into. -/
namespace Go.PI
variable {T:dw}{ρ:Type}
section
variable {den:Nat→Type}{n:Nat}
mutual
theorem kY:∀ {v:SV den},aE v=true→bt n v=true
 |.dead,h=>by simp[aE]at h
 |.hole,h=>by simp[aE]at h
 |.lit v,h=>rfl
 |.agg l,h=>by simp only[aE]at h; simp only[bt]; exact eg h
 |.ju l,h=>by simp only[aE]at h; simp only[bt]; exact eg h
 |.sl l,h=>rfl
 |.jt t l,h=>rfl
 |.wK t l c b,h=>rfl
 |.nz,h=>rfl
 |.bf e j,h=>rfl
 |.ref ..,h=>by simp[aE]at h
 |.iP ..,h=>by simp[aE]at h
 |.bq ..,h=>by simp[aE]at h
 |.iR fn f c,h=>by
  simp only[aE,Bool.and_eq_true]at h
  simp only[bt,Bool.and_eq_true]
  exact⟨eg h.1,eg h.2⟩
 |.gd t v,h=>by simp only[aE]at h; simp only[bt]; exact kY h
 |.sH v s l i,h=>by simp only[aE]at h; simp only[bt]; exact kY h
 |.mp ..,h=>by simp[aE]at h
theorem eg:∀ {l:List (SV den)},av l=true→gv n l=true
 |[],_=>rfl
 |x::xs,h=>by
  simp only[av,Bool.and_eq_true]at h
  simp only[gv,Bool.and_eq_true]
  exact⟨kY h.1,eg h.2⟩
end
end
section
variable {H:ah T.den}{hp:ag}{n:Nat}
theorem fK.take{den:Nat→Type}{H:ah den}{m c aq:Nat}(h:fK H m c aq)(hm:m<n):fK (H.take n) m c aq:=by
 obtain⟨o,h1,h2,h3⟩:=h
 exact⟨o,by rw[List.getElem?_take_of_lt hm]; exact h1,h2,h3⟩
mutual
theorem R.take:∀ {v:SV T.den} {a:AV},R T H v a→bt n v=true→R T (H.take n) v a
 |.dead,_,h,_=>by simp[R]at h
 |.hole,_,h,_=>by simpa[R] using h
 |.lit v,a,h,_=>by simpa[R] using h
 |.agg l,a,h,hb=>by
  simp only[R]at h ⊢
  simp only[bt]at hb
  obtain⟨l',h1,h2⟩:=h
  exact⟨l',h1,RL.take h2 hb⟩
 |.ju l,a,h,hb=>by
  simp only[R]at h ⊢
  simp only[bt]at hb
  obtain⟨l',h1,h2⟩:=h
  exact⟨l',h1,RL.take h2 hb⟩
 |.sl l,a,h,_=>by
  simp only[R]at h ⊢
  obtain⟨l',h1,h2,h3⟩:=h
  exact⟨l',h1,RL.take h2 (eg h3),h3⟩
 |.jt t l,a,h,_=>by simpa[R] using h
 |.wK t l c b,a,h,_=>by simp only[R]at h ⊢; exact h
 |.nz,a,h,_=>by simp only[R]at h ⊢; exact h
 |.bf e j,a,h,_=>by
  simp only[R]at h ⊢
  obtain⟨e',h1,h2,h3⟩:=h
  exact⟨e',h1,R.take h2 (kY h3),h3⟩
 |.ref m c i j,a,h,hb=>by
  simp only[R]at h ⊢
  simp only[bt,decide_eq_true_eq]at hb
  obtain⟨aq,h1,h2⟩:=h
  exact⟨aq,h1,h2.take hb⟩
 |.iP m c i j ln cp,a,h,hb=>by
  simp only[R]at h ⊢
  simp only[bt,decide_eq_true_eq]at hb
  obtain⟨aq,h1,h2⟩:=h
  exact⟨aq,h1,h2.take hb⟩
 |.bq esz m c rg cap,a,h,hb=>by
  simp only[R]at h ⊢
  simp only[bt,decide_eq_true_eq]at hb
  obtain⟨aq,h1,h2⟩:=h
  exact⟨aq,h1.take hb,h2⟩
 |.iR fn f c,a,h,hb=>by
  simp only[R]at h ⊢
  simp only[bt,Bool.and_eq_true]at hb
  obtain⟨f',c',h1,h2,h3⟩:=h
  exact⟨f',c',h1,RL.take h2 hb.1,RL.take h3 hb.2⟩
 |.gd t v,a,h,hb=>by
  simp only[R]at h ⊢
  simp only[bt]at hb
  obtain⟨v',h1,h2⟩:=h
  exact⟨v',h1,R.take h2 hb⟩
 |.mp y m,a,h,hb=>by
  simp_all[R,bt]
 |.sH v s l i,a,h,hb=>by
  simp only[R]at h ⊢
  simp only[bt]at hb
  obtain⟨a0,h1,h2⟩:=h
  exact⟨a0,R.take h1 hb,h2⟩
theorem RL.take:∀ {l:List (SV T.den)} {m:List AV},RL T H l m→gv n l=true→RL T (H.take n) l m
 |[],[],_,_=>by simp[RL]
 |x::xs,y::ys,h,hb=>by
  simp only[RL]at h ⊢
  simp only[gv,Bool.and_eq_true]at hb
  exact⟨R.take h.1 hb.1,RL.take h.2 hb.2⟩
 |[],_::_,h,_=>by simp[RL]at h
 |_::_,[],h,_=>by simp[RL]at h
end
theorem fK.lt{den:Nat→Type}{H:ah den}{m c aq:Nat}(h:fK H m c aq):m<H.length:=by
 obtain⟨o,h1,_⟩:=h
 exact(List.getElem?_eq_some_iff.1 h1).1
mutual
theorem R.lt:∀ {v:SV T.den} {a:AV},R T H v a→bt H.length v=true
 |.dead,_,h=>by simp[R]at h
 |.hole,_,h=>rfl
 |.lit v,a,h=>rfl
 |.agg l,a,h=>by
  simp only[R]at h
  simp only[bt]
  obtain⟨l',h1,h2⟩:=h
  exact RL.lt h2
 |.ju l,a,h=>by
  simp only[R]at h
  simp only[bt]
  obtain⟨l',h1,h2⟩:=h
  exact RL.lt h2
 |.sl l,a,h=>rfl
 |.jt t l,a,h=>rfl
 |.wK t l c b,a,h=>rfl
 |.nz,a,h=>rfl
 |.bf e j,a,h=>rfl
 |.ref m c i j,a,h=>by
  simp only[R]at h
  simp only[bt,decide_eq_true_eq]
  obtain⟨aq,h1,h2⟩:=h
  exact h2.lt
 |.iP m c i j ln cp,a,h=>by
  simp only[R]at h
  simp only[bt,decide_eq_true_eq]
  obtain⟨aq,h1,h2⟩:=h
  exact h2.lt
 |.bq esz m c rg cap,a,h=>by
  simp only[R]at h
  simp only[bt,decide_eq_true_eq]
  obtain⟨aq,h1,h2⟩:=h
  exact h1.lt
 |.iR fn f c,a,h=>by
  simp only[R]at h
  simp only[bt,Bool.and_eq_true]
  obtain⟨f',c',h1,h2,h3⟩:=h
  exact⟨RL.lt h2,RL.lt h3⟩
 |.gd t v,a,h=>by
  simp only[R]at h
  simp only[bt]
  obtain⟨v',h1,h2⟩:=h
  exact R.lt h2
 |.mp y m,a,h=>by
  grind[R,bt]
 |.sH v s l i,a,h=>by
  simp only[R]at h
  simp only[bt]
  obtain⟨a0,h1,h2⟩:=h
  exact R.lt h1
theorem RL.lt:∀ {l:List (SV T.den)} {m:List AV},RL T H l m→gv H.length l=true
 |[],[],_=>rfl
 |x::xs,y::ys,h=>by
  simp only[RL]at h
  simp only[gv,Bool.and_eq_true]
  exact⟨R.lt h.1,RL.lt h.2⟩
 |[],_::_,h=>by simp[RL]at h
 |_::_,[],h=>by simp[RL]at h
end
theorem ym{n:Nat}:∀ {l:List AV},cO n l=l.all (below n)
 |[]=>rfl
 |x::xs=>by simp only[cO,List.all_cons,ym]
theorem mX:∀ {a:AV},closed a=true→below n a=true
 |.lit _,_=>rfl
 |.agg l,h=>by simp only[Go.PI.closed]at h; simp only[Go.PI.below]; exact fZ h
 |.ju l,h=>by simp only[Go.PI.closed]at h; simp only[Go.PI.below]; exact fZ h
 |.sl _,_|.o6 _ _,_|.bf _ _,_|.any,_|.nz,_=>rfl
 |.ref ..,h|.bq ..,h|.iP ..,h|.mp ..,h=>by simp[Go.PI.closed]at h
 |.iR fn f c,h=>by
  simp only[Go.PI.closed,Bool.and_eq_true]at h
  simp only[Go.PI.below,Bool.and_eq_true]
  exact⟨fZ h.1,fZ h.2⟩
 |.gd t v,h=>by simp only[Go.PI.closed]at h; simp only[Go.PI.below]; exact mX h
where fZ:∀ {l:List AV},aY l=true→cO n l=true
 |[],_=>rfl
 |x::xs,h=>by
  simp only[aY,Bool.and_eq_true]at h
  simp only[cO,Bool.and_eq_true]
  exact⟨mX h.1,fZ h.2⟩
theorem yn(hT:T.Ok){t:Nat}:∀ {l:List (T.den t)} {m:List AV},aw (T.rp t) l m→cO n m=true
 |[],[],_=>rfl
 |_::_,_::_,h=>by
  simp only[cO,Bool.and_eq_true]
  exact⟨mX (hT.closed _ _ _ h.1),yn hT h.2⟩
theorem Di:∀ {fr:List (SV T.den)} {vs:List AV},aw (RD T H) fr vs→(fr.all fun v=>bN v||bt n v)=cO n vs
 |[],[],_=>rfl
 |v::fr,a::vs,h=>by
  simp only[List.all_cons,cO]
  rw[Di h.2]
  congr 1
  rcases h.1 with ⟨rfl,rfl⟩|h1
  ·rfl
  ·have:bN v=false:=by cases v<;>first|rfl|simp[R]at h1
   rw[this,R.below h1]; rfl
theorem Ae[ab](hT:T.Ok){o:Option (aC T.den)}{a:Option aL}(h:Bh T H o a):jZ n o=kq n a:=by
 cases o with
 |none=>cases a with
  |none=>rfl
  |some a=>exact h.elim
 |some o=>cases a with
  |none=>exact h.elim
  |some a=>
   cases o with
   |arr g cl f cur es=>
    obtain⟨es',rfl,cC,_⟩:=h
    simp only[jZ,kq,aL.below]
    rw[RL.below cC]
   |bW g f cur t l=>obtain⟨es',rfl,_⟩:=h; rfl
   |gX=>
    rcases h with ⟨g,f,es',rfl⟩|⟨k,vs,rfl,h⟩
    ·rfl
    ·exact(h n).symm
   |kh kk t m=>
    obtain⟨vs,rfl,h⟩:=h
    exact(yn hT h).symm
   |oU fn ps as bd fr=>
    obtain⟨st,vs,rfl,h⟩:=h
    exact Di h
theorem lj[ab](hT:T.Ok):∀ {l:List (Option (aC T.den))} {m:List (Option aL)},aw (Bh T H) l m→l.all (jZ n)=m.all (kq n)
 |[],[],_=>rfl
 |_::_,_::_,h=>by simp only[List.all_cons]; rw[Ae hT h.1,lj hT h.2]
theorem RO.take[ab]{o:aC T.den}{a:aL}(h:RO T H o a)(hb:jZ n (some o)=true):RO T (H.take n) o a:=by
 cases o with
 |arr g cl f cur es=>
  obtain⟨es',h1,h2,h3⟩:=h
  refine⟨es',h1,RL.take h2 ?_,h3⟩
  simp only[jZ,Bool.or_eq_true]at hb
  rcases hb with hb|hb
  ·exact eg (h3 hb)
  ·exact hb
 |bW g f cur t l=>exact h
 |gX=>exact h
 |kh kk t m=>exact h
 |oU fn ps as bd fr=>
  obtain⟨st,vs,h1,h2⟩:=h
  refine⟨st,vs,h1,aw.dY h2.length fun i x y hx hy=>?_⟩
  obtain⟨y',AI,hr⟩:=aw.get h2 hx
  rw[hy]at AI
  simp only[Option.some.injEq]at AI
  subst AI
  simp only[jZ,List.all_eq_true]at hb
  have:=hb x (List.mem_of_getElem? hx)
  rcases hr with hr|hr
  ·exact .inl hr
  ·have hd:bN x=false:=by cases x<;>first|rfl|simp[R]at hr
   rw[hd,Bool.false_or]at this
   exact .inr (hr.take this)
theorem RH.take[ab](hh:RH T H hp)(hb:(H.take n).all (jZ n)=true):RH T (H.take n) (hp.take n):=by
 have h:=aw.take hh n
 rw[List.all_eq_true]at hb
 refine aw.dY h.length fun i x y hx hy=>?_
 obtain⟨y',AI,hr⟩:=aw.get h hx
 rw[hy]at AI
 simp only[Option.some.injEq]at AI
 subst AI
 have:=hb x (List.mem_of_getElem? hx)
 cases x with
 |none=>cases y with
  |none=>trivial
  |some _=>exact hr.elim
 |some o=>cases y with
  |none=>exact hr.elim
  |some a=>exact RO.take hr this
theorem H2[ab](hT:T.Ok)(hh:RH T H hp){v:SV T.den}{a:AV}(hv:R T H v a):RH T (fX n v H) (gH n a hp)∧R T (fX n v H) v a:=by
 unfold fX gH
 rw[R.below hv,lj hT (aw.take hh n)]
 by_cases hc:(Go.PI.below n a&&(hp.take n).all (kq n))=true
 ·rw[if_pos hc,if_pos hc]
  simp only[Bool.and_eq_true]at hc
  exact⟨hh.take (by rw[lj hT (aw.take hh n)]; exact hc.2),hv.take (by rw[R.below hv]; exact hc.1)⟩
 ·grind
theorem Dj{fr:sI T.den}{t:Nat}:cH (fr.map fun q=>(q.1,qD n q.2)) t=qD n (cH fr t):=by
 induction fr with
 |nil=>rfl
 |cons q r ih=>
  grind[cH]
theorem RV.forget[ab]{v:SV T.den}{a:AV}(h:RV T H v a):RV T (H.take n) (qD n v) (Go.PI.forget n a):=by
 unfold qD Go.PI.forget
 rcases h with rfl|h
 ·left; simp[bt]
 ·rw[R.below h]
  split
  ·rename_i hb; right; exact h.take (by rw[R.below h]; exact hb)
  ·exact .inl rfl
theorem Dk{l:List AV}{t:Nat}:(l.map (Go.PI.forget n)).getD t .undef=Go.PI.forget n (l.getD t .undef):=by
 simp only[List.getD_eq_getElem?_getD,List.getElem?_map]
 cases l[t]?<;>rfl
theorem kG.take{js:List (Nat×kZ)}(h:kG js H hp)(hj:∀ m x,cm js m=some x→m<n):kG js (H.take n) (hp.take n):=by
 intro m x hm
 obtain⟨h1,h2⟩:=h m x hm
 have bS:=hj m x hm
 exact⟨by rw[p9 (List.getElem?_take_of_lt bS)]; exact h1,by rw[nL (List.getElem?_take_of_lt bS)]; exact h2⟩
theorem Af{js:List (Nat×kZ)}(h:sj js n=true):∀ m x,cm js m=some x→m<n:=by
 intro m x hm
 have:=List.all_eq_true.1 h _ (gz hm)
 exact Nat.le_of_ble_eq_true this
theorem Dl[ab](hT:T.Ok){s:bx T.den}{st:St}(h:RS T s st)(hj:∀ m x,cm s.js m=some x→m<n):RS T (jL n s) (gG n st):=by
 unfold jL gG
 rw[lj hT (aw.take h.hp n)]
 by_cases hc:(st.hp.take n).all (kq n)=true
 ·rw[if_pos hc,if_pos hc]
  refine⟨h.fn,by simp[h.n],fun t=>?_,h.hp.take (by rw[lj hT (aw.take h.hp n)]; exact hc),h.js.take hj⟩
  rw[Dj,Dk]
  exact(h.fr t).forget
 ·rw[if_neg hc,if_neg hc]
  exact h
theorem mY{den:Nat→Type}{H:ah den}{m:Nat}(hm:m<n):(H.take n)[m]?=H[m]?:=List.getElem?_take_of_lt hm
theorem v8[ab]{s s':bx T.den}{st:St}(h:RS T s st)(ha:bj s s'):bj s (jL s.hp.length s'):=by
 unfold jL
 split
 ·refine⟨ha.fn,ha.n,fun t ht=>?_,ha.wf,fun n hn hw=>?_,ha.wh,?_,?_⟩
  ·simp only at ht ⊢
   rw[Dj,ha.fr t ht]
   unfold qD
   rcases h.fr t with hv|hv
   ·rw[hv]; simp[bt]
   ·rw[if_pos hv.lt]
  ·simp only at hw ⊢
   rw[mY hn]
   exact ha.hp n hn hw
  ·simp only[List.length_take]
   have:=ha.len
   omega
  ·intro n o ho
   obtain⟨o',h1,h2⟩:=ha.grow n o ho
   have bS:=(List.getElem?_eq_some_iff.1 ho).1
   exact⟨o',by simp only; rw[mY bS]; exact h1,h2⟩
 ·exact ha
theorem oy[ab](hT:T.Ok){Q:gK}(hQ:Q.Ok){s:bx T.den}{st:St}(h:RS T s st){r:ρ}:∀ {rs:List ResultVar} {K:List (SV T.den)→Tr ρ},(se T Q s rs K).run=some r →
  ∃ l m,(aR Q.P st.fr rs).run st.hp=some m∧RL T s.hp l m∧(K l).run=some r
 |[],K,hk=>⟨[],[],rfl,by simp[RL],hk⟩
 |.tmp t::rs,K,hk=>by
  simp only[se]at hk
  split at hk
  ·simp[Tr.run]at hk
  ·rename_i dK
   obtain⟨l,m,h1,h2,hk⟩:=oy hT hQ h hk
   refine⟨_,st.fr.getD t .undef::m,?_,?_,hk⟩
   ·simp_all[aR,jT,RM.run_bind,RM.run_pure,h1]
   ·simp only[RL]
    refine⟨?_,h2⟩
    rcases h.fr t with hd|hd
    ·simp_all
    ·exact hd
 |.cell a t::rs,K,hk=>by
  simp only[se]at hk
  split at hk
  case h_2=>simp[Tr.run]at hk
  rename_i m hm
  obtain⟨q,h1,h2,h3,_⟩:=hQ.row _ _ hm
  have:∃ v c rd,aF st.hp (kH Q.P t (st.fr.getD a .undef)) c rd∧R T s.hp v c∧(se T Q s rs fun l=>K (v::l)).run=some r:=
   C7 (K:=fun v _ _=>se T Q s rs fun l=>K (v::l)) hT h1 h2 h3 h.hp (h.fr a) hk
  obtain⟨v,c,rd,g1,g2,hk⟩:=this
  obtain⟨l,m',i1,i2,hk⟩:=oy hT hQ h hk
  refine⟨_,c::m',?_,?_,hk⟩
  ·simp only[aR,jT,RM.run_bind,g1.1,RM.run_pure,Option.bind_some,i1]
  ·simp only[RL]
   exact⟨g2,i2⟩
theorem ga[ab]{fv:SV T.den}{fa:AV}(hf:RV T H fv fa){args:List (SV T.den)}{as:List AV}(ha:aw (RV T H) args as){g:FuncId}{l:List (SV T.den)}(h:lP fv args=some (g,l)):
  ∃ m,bA fa as=some (g,m)∧(l.any bN=false→RL T H l m):=by
 unfold lP at h
 split at h
 ·rename_i f first captured
  simp only[Option.some.injEq,Prod.mk.injEq]at h
  obtain⟨rfl,rfl⟩:=h
  have:=hf.lit rfl
  subst this
  refine⟨_,rfl,fun hd=>?_⟩
  refine iK ?_ hd
  exact((aP.1 (RL.lits first.toList)).mono fun _ _ h=>.inr h).append ha |>.append ((aP.1 (RL.lits captured.toList)).mono fun _ _ h=>.inr h)
 ·rename_i f first captured
  simp only[Option.some.injEq,Prod.mk.injEq]at h
  obtain⟨rfl,rfl⟩:=h
  have:=hf.live rfl
  simp only[R]at this
  obtain⟨f',c',rfl,h1,h2⟩:=this
  refine⟨_,rfl,fun hd=>?_⟩
  refine iK ?_ hd
  exact((aP.1 h1).mono fun _ _ h=>.inr h).append ha |>.append ((aP.1 h2).mono fun _ _ h=>.inr h)
 ·simp at h
theorem Dm[ab]{P:Program}{fv:SV T.den}{fa:AV}(hf:RV T H fv fa){name:String}{g:FuncId}{x:SV T.den}(h:GA P fv name=some (g,x)):∃ ax,pa P fa name=some (g,ax)∧R T H x ax:=by
 unfold GA at h
 split at h
 ·rename_i t y
  simp only[Option.map_eq_some_iff,Prod.mk.injEq]at h
  obtain⟨f,hm,rfl,rfl⟩:=h
  have:=hf.live rfl
  simp only[R]at this
  obtain⟨a,rfl,ha⟩:=this
  exact⟨a,by simp only[pa,hm,Option.map_some],ha⟩
 ·simp at h
theorem u6:∀ {l:List (SV T.den)} {d t:Nat},cH (mw d l) t=if d≤t then (match l[t-d]? with|some v=>v|none=>.lit undef) else .lit undef
 |[],d,t=>by simp[mw,cH]
 |v::r,d,t=>by
  simp only[mw,cH]
  split
  ·simp_all
  ·rename_i he
   have dK:d≠t:=fun hc=>by subst hc; simp at he
   rw[u6]
   by_cases hd:d≤t
   ·grind
   ·rw[if_neg hd,if_neg (by omega)]
theorem yp[ab]{f:FuncId}{args:List (SV T.den)}{as:List AV}(ha:RL T H args as)(hh:RH T H hp)(n:Nat)(wh:List Nat){js:List (Nat×kZ)}(hj:kG js H hp):
  RS T ⟨f,max n args.length,mw 0 args,H,[],wh,js⟩ ⟨f,as++List.replicate (n-as.length) .undef,hp⟩:=by
 have hl:=ha.length
 refine⟨rfl,by simp; omega,fun t=>?_,hh,hj⟩
 simp only
 rw[u6]
 simp only[Nat.zero_le,if_true,Nat.sub_zero,List.getD_eq_getElem?_getD]
 by_cases ht:t<as.length
 ·rw[List.getElem?_append_left ht]
  obtain⟨v,hv,hr⟩:=aw.get' (aP.1 ha) (List.getElem?_eq_getElem ht)
  rw[hv,List.getElem?_eq_getElem ht]
  exact .inr hr
 ·rw[List.getElem?_append_right (by omega)]
  have e1:args[t]?=none:=List.getElem?_eq_none (by omega)
  rw[e1]
  simp only
  rw[List.getElem?_replicate]
  split<;>exact bm undef
end
end Go.PI
end
section
/- PS, part N: states with variables. -/
namespace Go.PI
variable {T:dw}{ρ:Type}
def jr{den:Nat→Type}(H:ah den)(n:Nat):Option Nat:=
 match H[n]? with
 |some (some o)=>some o.cur
 |_=>none
theorem oz{den:Nat→Type}{H:ah den}{n:Nat}{o:aC den}(h:H[n]?=some (some o)):jr H n=some o.cur:=by simp[jr,h]
theorem qM{den:Nat→Type}{H:ah den}{n c:Nat}(h:jr H n=some c):∃ o,H[n]?=some (some o)∧o.cur=c:=by
 grind[jr]
def Dn{den:Nat→Type}(ok:Nat→Prop)(Hs Hf:ah den):Prop:=∀ (n:Nat) (o:aC den),ok n→Hs[n]?=some (some o)→∃ of:aC den,Hf[n]?=some (some of)∧of.len=o.len
section
variable {Hs Hf Hc:ah T.den}{ok:Nat→Prop}
theorem SK{H:ah T.den}{v:SV T.den}{k:IntKind}{m:Int}(h:R T H v (.lit (.int k m))):v=.lit (.int k m):=by
 cases v with
 |lit w=>simp_all[R,AV.lit.injEq]
 |bq esz n c rg cap=>
  grind[R]
 |sH v st ln i=>
  simp only[R]at h
  obtain⟨_,_,_,h⟩:=h
  rcases h with ⟨_,_,_,_,_,h⟩|⟨_,_,_,h⟩<;>cases h
 |_=>simp[R]at h
theorem Ft[ab](hT:T.Ok){H:ah T.den}{t m:Nat}{x:T.den t}(h:T.dn t (.lit (.int .i64 m))=some x):HO T ⟨.v t,x⟩=m:=by
 have h1:=hT.dn _ _ _ (.lit (.int .i64 m)) H h (by simp[R])
 have h2:=SK (hT.up _ _ _ H h1)
 show (match T.up t x with|.lit (.int _ m)=>m.toNat|_=>0)=m
 rw[h2]
 simp
theorem sz[ab](hT:T.Ok)(qY:∀ n,jr Hc n=jr Hf n)(hlen:Dn ok Hs Hf){p:oW}(bL:∀ n,n∈p.ki→ok n){v:SV T.den}{a:AV}(hv:RV T Hs v a){ln:List (TV T.den)}(h:fC Hs p v=some ln)(rest:List (TV T.den)):
  ∃ v',fJ Hc p (ln++rest)=(v',rest)∧R T Hf v' a∧(aE v=true→aE v'=true):=by
 cases p with
 |hole=>
  simp only[fC]at h
  split at h
  case h_2=>simp at h
  rename_i hh
  simp only[Option.some.injEq]at h
  subst h
  unfold isHole at hh
  split at hh
  case h_2=>simp at hh
  have hv:=hv.live rfl
  simp only[R]at hv
  subst hv
  exact⟨.hole,rfl,by simp[R],fun h=>h⟩
 |val t=>
  simp only[fC]at h
  split at h
  ·simp at h
  rename_i hd
  split at h
  case h_2=>simp at h
  rename_i x hx
  simp only[Option.some.injEq]at h
  subst h
  have D3:=hT.dn _ _ _ _ Hs hx (hv.live hd)
  exact⟨T.up t x,rfl,hT.up _ _ _ Hf D3,fun _=>uW hT D3⟩
 |HK esz n rg cap=>
  simp only[fC]at h
  split at h
  case h_2=>simp at h
  rename_i xV n' c Vy Fh
  have hv:=hv.live rfl
  split at h
  case h_2=>simp at h
  rename_i o ho
  split at h
  case isFalse=>simp at h
  rename_i hc
  obtain⟨rfl,rfl,rfl,rfl,rfl⟩:=hc
  simp only[Option.some.injEq]at h
  subst h
  obtain⟨of,K0,Fu⟩:=hlen _ _ (bL _ (by simp[oW.ki])) ho
  have m6:=qY n'
  rw[oz K0]at m6
  obtain⟨oc,BB,Ql⟩:=qM m6
  refine⟨.bq xV n' oc.cur Vy Fh,?_,?_,fun h=>by simp[aE]at h⟩
  ·simp only[fJ,BB,List.nil_append]
  ·simp only[R]at hv ⊢
   obtain⟨aq,⟨o',h1,_,h3⟩,ha⟩:=hv
   rw[ho]at h1
   simp only[Option.some.injEq]at h1
   subst h1
   exact⟨aq,⟨of,K0,by omega,fun _=>by rw[h3 rfl,Fu]⟩,ha⟩
 |iP n i j len cap=>
  simp only[fC]at h
  split at h
  case h_2=>simp at h
  rename_i n' c i' j' Nu Fh
  have hv:=hv.live rfl
  split at h
  case h_2=>simp at h
  rename_i o ho
  split at h
  case isFalse=>simp at h
  rename_i hc
  obtain⟨rfl,rfl,rfl,rfl,rfl,rfl⟩:=hc
  simp only[Option.some.injEq]at h
  subst h
  obtain⟨of,K0,Fu⟩:=hlen _ _ (bL _ (by simp[oW.ki])) ho
  have m6:=qY n'
  rw[oz K0]at m6
  obtain⟨oc,BB,Ql⟩:=qM m6
  refine⟨.iP n' oc.cur i' j' Nu Fh,?_,?_,fun h=>by simp[aE]at h⟩
  ·simp only[fJ,BB,List.nil_append]
  ·simp only[R]at hv ⊢
   obtain⟨aq,ha,⟨o',h1,_,h3⟩⟩:=hv
   rw[ho]at h1
   simp only[Option.some.injEq]at h1
   subst h1
   exact⟨aq,ha,⟨of,K0,by omega,fun _=>by rw[h3 rfl,Fu]⟩⟩
 |own esz n=>
  simp only[fC]at h
  split at h
  case h_2=>simp at h
  rename_i xV n' c
  have hv:=hv.live rfl
  split at h
  case h_2=>simp at h
  rename_i o ho
  split at h
  case isFalse=>simp at h
  rename_i hc
  obtain⟨rfl,rfl,rfl⟩:=hc
  simp only[Option.some.injEq]at h
  subst h
  obtain⟨of,K0,Fu⟩:=hlen _ _ (bL _ (by simp[oW.ki])) ho
  have m6:=qY n'
  rw[oz K0]at m6
  obtain⟨oc,BB,Ql⟩:=qM m6
  refine⟨.bq xV n' oc.cur none none,?_,?_,fun h=>by simp[aE]at h⟩
  ·simp only[fJ,BB,List.nil_append]
  ·simp only[R]at hv ⊢
   obtain⟨aq,⟨o',h1,_,h3⟩,rfl⟩:=hv
   rw[ho]at h1
   simp only[Option.some.injEq]at h1
   subst h1
   exact⟨aq,⟨of,K0,by omega,fun _=>by rw[h3 rfl,Fu]⟩,rfl⟩
 |QW esz n t k=>
  simp only[fC]at h
  split at h
  case h_2=>simp at h
  rename_i xV n' c rg cap
  have hv:=hv.live rfl
  split at h
  case h_2=>simp at h
  rename_i o off len ho hr
  split at h
  case isFalse=>simp at h
  rename_i hc
  obtain⟨rfl,rfl,rfl⟩:=hc
  obtain⟨of,K0,Fu⟩:=hlen _ _ (bL _ (by simp[oW.ki])) ho
  have m6:=qY n'
  rw[oz K0]at m6
  obtain⟨oc,BB,Ql⟩:=qM m6
  have hR:R T Hf (.bq xV n' oc.cur (some (off,len)) cap) a:=by
   simp only[R]at hv ⊢
   obtain⟨aq,⟨o',h1,_,h3⟩,ha⟩:=hv
   rw[ho]at h1
   simp only[Option.some.injEq]at h1
   subst h1
   refine⟨aq,⟨of,K0,by omega,fun _=>by rw[h3 rfl,Fu]⟩,?_⟩
   cases rg with
   |some q=>
    simp_all[mU]
   |none=>
    have hb:Nat.beq o.cur o.cur=true:=by simp
    simp only[mU,ho,hb,if_true,Option.some.injEq,Prod.mk.injEq]at hr
    obtain⟨rfl,rfl⟩:=hr
    rw[←h3 rfl]
    exact ha
  rw[Option.bind_eq_some_iff]at h
  obtain⟨x,hx,h⟩:=h
  rw[Option.bind_eq_some_iff]at h
  obtain⟨y,hy,h⟩:=h
  have ex:=Ft hT (H:=Hs) hx
  have ey:=Ft hT (H:=Hs) hy
  split at h
  ·simp only[Option.some.injEq]at h
   subst h
   exact⟨_,by simp only[fJ,List.cons_append,List.nil_append,BB,ex,ey],hR,fun h=>by simp[aE]at h⟩
  ·obtain⟨z,hz,hl⟩:∃ z,T.dn t (.lit (.int .i64 _))=some z∧_=ln:=Option.map_eq_some_iff.1 h
   subst hl
   have ez:=Ft hT (H:=Hs) hz
   exact⟨_,by simp only[fJ,List.cons_append,List.nil_append,BB,ex,ey,ez],hR,fun h=>by simp[aE]at h⟩
  ·simp at h
theorem v9[ab](hT:T.Ok)(qY:∀ n,jr Hc n=jr Hf n)(hlen:Dn ok Hs Hf):∀ {ps:List oW} {vs:List (SV T.den)} {as:List AV} {ln:List (TV T.den)},(∀ n,n∈ps.flatMap oW.ki→ok n)→RL T Hs vs as→hY Hs ps vs=some ln→∀ rest:List (TV T.den),
  ∃ vs',jj Hc ps (ln++rest)=(vs',rest)∧RL T Hf vs' as∧(av vs=true→av vs'=true)
 |[],[],[],ln,_,_,h,rest=>by
  simp only[hY,Option.some.injEq]at h
  subst h
  exact⟨[],rfl,by simp[RL],fun _=>rfl⟩
 |p::ps,v::vs,a::as,ln,bL,hr,h,rest=>by
  simp only[RL]at hr
  simp only[hY,Option.bind_eq_some_iff,Option.map_eq_some_iff]at h
  obtain⟨l1,h1,l2,h2,rfl⟩:=h
  obtain⟨v',e1,e2,e3⟩:=sz hT qY hlen (fun n hn=>bL n (by simp[hn])) (.inr hr.1) h1 (l2++rest)
  obtain⟨vs',g1,g2,g3⟩:=v9 hT qY hlen (fun n hn=>bL n (by simp only[List.flatMap_cons,List.mem_append]; exact .inr hn)) hr.2 h2 rest
  refine⟨v'::vs',?_,by simp only[RL]; exact⟨e2,g2⟩,fun hc=>?_⟩
  ·simp_all[jj]
  ·simp_all[av]
 |[],_::_,_,_,_,_,h,_=>by simp[hY]at h
 |_::_,[],_,_,_,_,h,_=>by simp[hY]at h
 |_,[],_::_,_,_,h,_,_=>by simp[RL]at h
 |_,_::_,[],_,_,h,_,_=>by simp[RL]at h
end
def Compat{T:dw}(o:aC T.den):cP→Prop
 |.list t=>∃ g f c l,o=.bW g f c t l
 |.fix t=>∃ g f c l,o=.bW g f c t l
 |.one _=>∃ g cl f c es,o=.arr g cl f c es
 |.agg _=>∃ g cl f c es,o=.arr g cl f c es
 |.map kk t=>∃ m,o=.kh kk t m
section
variable {Hs Hf Hc:ah T.den}{ok:Nat→Prop}
theorem tP[ab](hT:T.Ok){os:aC T.den}{t:Nat}{ln:List (TV T.den)}(h:ee Hs os (.list t)=some ln∨ee Hs os (.fix t)=some ln):
  ∃ l:List (T.den t),ln=[⟨.l t,l⟩]∧l.length=os.len∧os.flags.2.1=true∧∀ a,RO T Hs os a→∃ es,a=.arr os.flags.1 true os.flags.2.2 es∧aw (T.rp t) l es:=by
 have h2:ee Hs os (.list t)=some ln:=h.elim id id
 clear h
 have h:=h2
 clear h2
 unfold ee at h
 simp only at h
 split at h
 ·rename_i g f c t' l
  split at h
  case isFalse=>simp at h
  rename_i ht
  subst ht
  refine⟨l,(Option.some.inj h).symm,rfl,rfl,fun a ha=>?_⟩
  obtain⟨es,rfl,cC⟩:=ha
  exact⟨es,rfl,cC⟩
 ·rename_i g f c es
  cases hd:oN T t es with
  |none=>rw[hd]at h; cases h
  |some l=>
   rw[hd]at h
   refine⟨l,(Option.some.inj h).symm,?_,rfl,fun a ha=>?_⟩
   ·have:∀ {l:List (T.den t)} {es:List (SV T.den)},oN T t es=some l→l.length=es.length:=by
     intro l es
     induction es generalizing l with
     |nil=>simp_all[oN]
     |cons x xs ih=>
      intro h
      simp only[oN,Option.bind_eq_some_iff,Option.map_eq_some_iff]at h
      obtain⟨_,_,y,hy,rfl⟩:=h
      simp[ih hy]
    exact this hd
   ·obtain⟨es',rfl,cC,_⟩:=ha
    exact⟨es',rfl,p6 hT cC hd⟩
 ·simp at h
theorem tQ{os:aC T.den}{kk:KK}{t:Nat}{ln:List (TV T.den)}(h:ee Hs os (.map kk t)=some ln):∃ m,os=.kh kk t m∧ln=[⟨.m kk t,m⟩]:=by
 unfold ee at h
 simp only at h
 split at h
 case h_2=>simp at h
 rename_i qQ t' m
 split at h
 case isFalse=>simp at h
 rename_i hc
 obtain⟨rfl,rfl⟩:=hc
 exact⟨m,rfl,(Option.some.inj h).symm⟩
theorem y9[ab](hT:T.Ok){o os:aC T.den}{p:cP}(hc:Compat o p){ln:List (TV T.den)}(h:ee Hs os p=some ln)(rest:List (TV T.den))
  (hp:∀ q (v:SV T.den) l,fC Hs q v=some l→∀ rest,(fJ Hc q (l++rest)).2=rest) :
  ∃ o',jk Hc o p (ln++rest)=(o',rest)∧o'.cur=o.cur∧o'.len=os.len:=by
 have SB:∀ (ps:List oW) (vs:List (SV T.den)) l,hY Hs ps vs=some l→∀ rest,(jj Hc ps (l++rest)).2=rest:=by
  intro ps
  induction ps with
  |nil=>
   intro vs l hl rest
   cases vs with
   |nil=>simp[hY]at hl; subst hl; rfl
   |cons=>simp[hY]at hl
  |cons q ps ih=>
   intro vs l hl rest
   cases vs with
   |nil=>simp[hY]at hl
   |cons v vs=>
    simp only[hY,Option.bind_eq_some_iff,Option.map_eq_some_iff]at hl
    obtain⟨l1,h1,l2,h2,rfl⟩:=hl
    have e1:=hp q v l1 h1 (l2++rest)
    have e2:=ih vs l2 h2 rest
    simp only[jj,List.append_assoc]
    rw[e1]
    exact e2
 cases p with
 |list t=>
  obtain⟨g,f,c,l0,rfl⟩:=hc
  obtain⟨l,rfl,hl,_⟩:=tP hT (.inl h)
  exact⟨.bW g f c t l,rfl,rfl,hl⟩
 |fix t=>
  obtain⟨g,f,c,l0,rfl⟩:=hc
  obtain⟨l,rfl,hl,_⟩:=tP hT (.inr h)
  exact⟨.bW g f c t l,rfl,rfl,hl⟩
 |one q=>
  obtain⟨g,cl,f,c,es,rfl⟩:=hc
  simp only[ee]at h
  split at h
  case h_2=>simp at h
  rename_i v
  have e:=hp q v ln h rest
  refine⟨.arr g cl f c [(fJ Hc q (ln++rest)).1],?_,rfl,rfl⟩
  have e2:fJ Hc q (ln++rest)=((fJ Hc q (ln++rest)).1,rest):=Prod.ext rfl e
  simp only[jk]
  rw[e2]
 |agg ps=>
  obtain⟨g,cl,f,c,es,rfl⟩:=hc
  simp only[ee]at h
  split at h
  case h_2=>simp at h
  rename_i vs
  have e:=SB ps vs ln h rest
  refine⟨.arr g cl f c [.agg (jj Hc ps (ln++rest)).1],?_,rfl,rfl⟩
  have e2:jj Hc ps (ln++rest)=((jj Hc ps (ln++rest)).1,rest):=Prod.ext rfl e
  simp only[jk]
  rw[e2]
 |map kk t=>
  obtain⟨m0,rfl⟩:=hc
  obtain⟨m,rfl,rfl⟩:=tQ h
  exact⟨.kh kk t m,rfl,rfl,rfl⟩
theorem yq[ab](hT:T.Ok)(qY:∀ n,jr Hc n=jr Hf n)(hlen:Dn ok Hs Hf){o os o':aC T.den}{p:cP}(bL:∀ n,n∈p.ki→ok n)(hc:Compat o p){ln:List (TV T.den)}(h:ee Hs os p=some ln){rest:List (TV T.den)}
  (ho:jk Hc o p (ln++rest)=(o',rest)) (rP:o.flags.1=os.flags.1) (iD:o.flags.2.1=os.flags.2.1) (L8:o.flags.2.2=os.flags.2.2) {a:aL} (ha:RO T Hs os a):RO T Hf o' a:=by
 cases p with
 |list t=>
  obtain⟨g,f,c,l0,rfl⟩:=hc
  obtain⟨l,rfl,hl,_,hr⟩:=tP hT (.inl h)
  obtain⟨es,rfl,cC⟩:=hr a ha
  simp only[jk,List.cons_append,List.nil_append,Prod.mk.injEq]at ho
  obtain⟨rfl,_⟩:=ho
  have hg:g=os.flags.1:=rP
  have hf:f=os.flags.2.2:=L8
  exact⟨es,by rw[hg,hf],cC⟩
 |fix t=>
  obtain⟨g,f,c,l0,rfl⟩:=hc
  obtain⟨l,rfl,hl,_,hr⟩:=tP hT (.inr h)
  obtain⟨es,rfl,cC⟩:=hr a ha
  simp only[jk,List.cons_append,List.nil_append,Prod.mk.injEq]at ho
  obtain⟨rfl,_⟩:=ho
  have hg:g=os.flags.1:=rP
  have hf:f=os.flags.2.2:=L8
  exact⟨es,by rw[hg,hf],cC⟩
 |one q=>
  obtain⟨g,cl,f,c,es,rfl⟩:=hc
  simp only[ee]at h
  split at h
  case h_2=>simp at h
  rename_i g' cl' f' c' v
  simp only[aC.flags]at rP iD L8
  subst rP; subst iD; subst L8
  obtain⟨es',rfl,cC,mj⟩:=ha
  match es',cC with
  |[b],cC=>
   simp only[RL]at cC
   obtain⟨v',e1,e2,e3⟩:=sz hT qY hlen bL (.inr cC.1) h rest
   simp only[jk,e1,Prod.mk.injEq,and_true]at ho
   subst ho
   refine⟨[b],rfl,by simp only[RL]; exact⟨e2,trivial⟩,fun m6=>?_⟩
   have:=mj m6
   simp only[av,Bool.and_true]at this ⊢
   exact e3 this
  |[],cC=>simp[RL]at cC
  |_::_::_,cC=>simp[RL]at cC
 |agg ps=>
  obtain⟨g,cl,f,c,es,rfl⟩:=hc
  simp only[ee]at h
  split at h
  case h_2=>simp at h
  rename_i g' cl' f' c' vs
  simp only[aC.flags]at rP iD L8
  subst rP; subst iD; subst L8
  obtain⟨es',rfl,cC,mj⟩:=ha
  match es',cC with
  |[b],cC=>
   simp only[RL,R]at cC
   obtain⟨⟨as,rfl,cC⟩,_⟩:=cC
   obtain⟨vs',e1,e2,e3⟩:=v9 hT qY hlen bL cC h rest
   simp only[jk,e1,Prod.mk.injEq,and_true]at ho
   subst ho
   refine⟨[.agg as],rfl,by simp only[RL,R]; exact⟨⟨as,rfl,e2⟩,trivial⟩,fun m6=>?_⟩
   have:=mj m6
   simp only[av,aE,Bool.and_true]at this ⊢
   exact e3 this
  |[],cC=>simp[RL]at cC
  |_::_::_,cC=>simp[RL]at cC
 |map kk t=>
  obtain⟨m0,rfl⟩:=hc
  obtain⟨m,rfl,rfl⟩:=tQ h
  simp only[jk,List.cons_append,List.nil_append,Prod.mk.injEq]at ho
  obtain⟨rfl,_⟩:=ho
  exact ha
theorem Dp{q:oW}{v:SV T.den}{l:List (TV T.den)}(h:fC Hs q v=some l)(rest:List (TV T.den)):(fJ Hc q (l++rest)).2=rest:=by
 cases q with
 |HK esz n rg cap=>
  simp only[fC]at h
  split at h
  case h_2=>simp at h
  split at h
  case h_2=>simp at h
  split at h
  case isFalse=>simp at h
  simp only[Option.some.injEq]at h
  subst h
  rfl
 |iP n i j len cap=>
  simp only[fC]at h
  split at h
  case h_2=>simp at h
  split at h
  case h_2=>simp at h
  split at h
  case isFalse=>simp at h
  simp only[Option.some.injEq]at h
  subst h
  rfl
 |hole=>
  simp only[fC]at h
  split at h
  case h_2=>simp at h
  simp only[Option.some.injEq]at h
  subst h
  rfl
 |val t=>
  simp only[fC]at h
  split at h
  ·simp at h
  split at h
  case h_2=>simp at h
  simp only[Option.some.injEq]at h
  subst h
  rfl
 |own esz n=>
  simp only[fC]at h
  split at h
  case h_2=>simp at h
  split at h
  case h_2=>simp at h
  split at h
  case isFalse=>simp at h
  simp only[Option.some.injEq]at h
  subst h
  rfl
 |QW esz n t k=>
  simp only[fC]at h
  split at h
  case h_2=>simp at h
  split at h
  case h_2=>simp at h
  split at h
  case isFalse=>simp at h
  rw[Option.bind_eq_some_iff]at h
  obtain⟨x,hx,h⟩:=h
  rw[Option.bind_eq_some_iff]at h
  obtain⟨y,hy,h⟩:=h
  split at h
  ·simp only[Option.some.injEq]at h
   subst h
   rfl
  ·obtain⟨z,_,hl⟩:∃ z,T.dn t (.lit (.int .i64 _))=some z∧_=l:=Option.map_eq_some_iff.1 h
   subst hl
   rfl
  ·simp at h
theorem nodup_cons{x:Nat}{l:List Nat}(h:cZ (x::l)=true):x∉l∧cZ l=true:=by
 simp_all[cZ,decide_eq_false_iff_not]
theorem H3{H:ah T.den}{n:Nat}{o o':aC T.den}(ho:H[n]?=some (some o))(hc:o'.cur=o.cur)(m:Nat):jr (H.set n (some o')) m=jr H m:=by
 unfold jr
 by_cases e:m=n
 ·grind
 ·rw[List.getElem?_set_ne (Ne.symm e)]
theorem rC[ab](hT:T.Ok):∀ {objs:List (Nat×cP)} {H:ah T.den} {l:List (TV T.den)} (rest:List (TV T.den)),cZ (objs.map (·.1))=true→ka Hs objs=some l →
  (∀ q,q∈objs→∃ o,H[q.1]?=some (some o)∧Compat o q.2) →
  (fY H objs (l++rest)).length=H.length∧(∀ n:Nat,n∉objs.map (·.1)→(fY H objs (l++rest))[n]?=H[n]?)∧(∀ n,jr (fY H objs (l++rest)) n=jr H n) ∧
  (∀ q,q∈objs→∃ o os o' ln Hc Dq,H[q.1]?=some (some o)∧Hs[q.1]?=some (some os)∧ee Hs os q.2=some ln∧(∀ n,jr Hc n=jr H n)∧jk Hc o q.2 (ln++Dq)=(o',Dq) ∧
    (fY H objs (l++rest))[q.1]?=some (some o')∧o'.cur=o.cur∧o'.len=os.len)
 |[],H,l,rest,_,_,_=>⟨rfl,fun _ _=>rfl,fun _=>rfl,fun q hq=>by simp at hq⟩
 |(n,p)::objs,H,l,rest,zO,oZ,QQ=>by
  simp only[List.map_cons]at zO
  obtain⟨K1,zO⟩:=nodup_cons zO
  simp only[ka]at oZ
  split at oZ
  case h_2=>simp at oZ
  rename_i os Xm
  rw[Option.bind_eq_some_iff]at oZ
  obtain⟨ln,h1,oZ⟩:=oZ
  rw[Option.map_eq_some_iff]at oZ
  obtain⟨l2,h2,rfl⟩:=oZ
  obtain⟨o,ho,Yg⟩:=QQ (n,p) (by simp)
  simp only at ho Yg
  obtain⟨o',e1,e2,e3⟩:=y9 (Hc:=H) hT Yg h1 (l2++rest) fun q v l hl rest=>Dp hl rest
  have SL:fY H ((n,p)::objs) (ln++l2++rest)=fY (H.set n (some o')) objs (l2++rest):=by
   simp_all[fY,ho]
  rw[SL]
  have bS:=(List.getElem?_eq_some_iff.1 ho).1
  have V4:∀ q,q∈objs→∃ o,(H.set n (some o'))[q.1]?=some (some o)∧Compat o q.2:=by
   grind
  obtain⟨i1,i2,i3,i4⟩:=rC hT rest zO h2 V4
  have ud:=H3 ho e2
  refine⟨by rw[i1]; simp,fun m hm=>?_,fun m=>by rw[i3,ud],fun q hq=>?_⟩
  ·grind
  ·grind
theorem sA[ab]:∀ {objs:List (Nat×cP)} {H:ah T.den},cZ (objs.map (·.1))=true →
  (rm H objs).length=H.length∧(∀ n:Nat,n∉objs.map (·.1)→(rm H objs)[n]?=H[n]?)∧(∀ q,q∈objs→∀ o,H[q.1]?=some (some o)→(rm H objs)[q.1]?=some (some (mB o q.2)))
 |[],H,_=>⟨rfl,fun _ _=>rfl,fun q hq=>by simp at hq⟩
 |(n,p)::objs,H,zO=>by
  simp only[List.map_cons]at zO
  obtain⟨K1,zO⟩:=nodup_cons zO
  simp only[rm]
  split
  ·rename_i o ho
   have bS:=(List.getElem?_eq_some_iff.1 ho).1
   obtain⟨i1,i2,i3⟩:=sA (objs:=objs) (H:=H.set n (some (mB o p))) zO
   refine⟨by rw[i1]; simp,fun m hm=>?_,fun q hq o2 uv=>?_⟩
   ·grind
   ·grind
  ·rename_i zm
   obtain⟨i1,i2,i3⟩:=sA (objs:=objs) (H:=H) zO
   refine⟨i1,fun m hm=>?_,fun q hq o2 uv=>?_⟩
   ·simp_all
   ·grind
theorem qc[ab](hT:T.Ok)(qY:∀ n,jr Hc n=jr Hf n)(hlen:Dn ok Hs Hf){N:Nat}{frs:sI T.den}{ast:Nat→AV}(eT:∀ t,RV T Hs (cH frs t) (ast t)):
  ∀ {aA:List (Nat×oW)} {fr:sI T.den} {l:List (TV T.den)} (rest:List (TV T.den)),cZ (aA.map (·.1))=true→(∀ q,q∈aA→q.1<N∧∀ n,n∈q.2.ki→ok n)→pV Hs frs aA=some l →
    ∃ yS,qE N Hc fr aA (l++rest)=(yS,rest)∧(∀ t,t∉aA.map (·.1)→cH yS t=cH fr t)∧(∀ q,q∈aA→R T Hf (cH yS q.1) (ast q.1))
 |[],fr,l,rest,_,_,h=>by
  simp only[pV,Option.some.injEq]at h
  subst h
  exact⟨fr,rfl,fun _ _=>rfl,fun q hq=>by simp at hq⟩
 |(d,p)::aA,fr,l,rest,zO,hN,h=>by
  simp only[List.map_cons]at zO
  obtain⟨K1,zO⟩:=nodup_cons zO
  simp only[pV,Option.bind_eq_some_iff,Option.map_eq_some_iff]at h
  obtain⟨l1,h1,l2,h2,rfl⟩:=h
  obtain⟨v',e1,e2,_⟩:=sz hT qY hlen (hN (d,p) (by simp)).2 (eT d) h1 (l2++rest)
  obtain⟨yS,i1,i2,i3⟩:=qc hT qY hlen eT (fr:=tC N fr d v') rest zO (fun q hq=>hN q (List.mem_cons_of_mem _ hq)) h2
  refine⟨yS,?_,fun t ht=>?_,fun q hq=>?_⟩
  ·simp_all[qE]
  ·simp only[List.map_cons,List.mem_cons,not_or]at ht
   rw[i2 t ht.2,ko,if_neg (by omega)]
  ·rcases List.mem_cons.1 hq with rfl|hq
   ·rw[i2 d K1,ko,if_pos ⟨rfl,(hN (d,p) (by simp)).1⟩]
    exact e2
   ·exact i3 q hq
theorem u7[ab]{N:Nat}:∀ {dead:List Nat} {fr:sI T.den} {t:Nat},cH (z1 N fr dead) t=(if t∈dead∧t<N then .dead else cH fr t)
 |[],fr,t=>by simp[z1]
 |d::r,fr,t=>by
  simp only[z1]
  rw[u7,ko]
  by_cases h1:t∈r∧t<N
  ·simp_all
  ·grind
end
end Go.PI
end
