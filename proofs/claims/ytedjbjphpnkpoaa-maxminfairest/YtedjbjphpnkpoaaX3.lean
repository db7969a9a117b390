/- Part 3 of the proof: texts of this session laid one behind the other. -/
import Derived.Test.YtedjbjphpnkpoaaX2
set_option linter.unusedVariables false
set_option linter.unusedSimpArgs false
section
/- PS, part B: the operations on symbolic values, and the evaluator of code to a tree. -/
namespace Go.PI
structure wA(T:dm)where
 args:List Nat
 el:Nat
 esz:Nat
 fn:HL T.den (args.map .v)→Option (List (T.den el))
inductive Tw where
 |num (d j b:Nat)
 |ZS (d j n:Nat)
 |arr (d n:Nat)
 |name (d:Nat)
 |int (d j:Nat)
structure oF where
 C:Ctx
 T:dm
 sum:FuncId→Option (vf T)
 hint:FuncId→Nat→Option Hint
 vg:FuncId→Nat→Bool
 M:List (Nat×kp)
 own:FuncId→Option (wA T):=fun _=>none
 tY:FuncId→Nat→Bool:=fun _ _=>false
 tw:FuncId→Tmp→List Tw:=fun _ _=>[]
def oF.Q(S:oF):gO:=⟨S.C.P,S.M,fun _=>false⟩
def oF.Qf(S:oF)(f:FuncId):gO:=⟨S.C.P,S.M,S.tY f⟩
section
variable {T:dm}{ρ:Type}
abbrev EK(T:dm)(ρ:Type):=SV T.den→List (Nat×aB T.den)→List Nat→Tr ρ
def pb(r:Option AV)(K:EK T ρ):Tr ρ:=
 match r with
 |some (.lit v)=>K (.lit v) [] []
 | _ => .no "via"
def yC(r:Option (SV T.den))(rd:List Nat)(K:EK T ρ):Tr ρ:=
 match r with
 |some v=>K v [] rd
 | none => .no "part"
def gm(v:SV T.den)(K:Nat→Tr ρ):Tr ρ:=
 match v with
 |.lit (.int _ n)=>.cond (decide (0≤n)) (K n.toNat) .fail
 |_=>.fail
def VS{den:Nat→Type}:SV den→Bool
 |.lit (.int _ n)=>decide (n=0)
 |_=>false
def jy(d:Nat)(v:Option (SV T.den))(K:Nat→Tr ρ):Tr ρ:=
 match v with
 |none=>K d
 |some v=>gm v K
def fL(i:Nat):Nat→Nat→(Nat→Tr ρ)→Tr ρ
 |0,_,_=>.fail
 |len+1,m,K=>.cond (decide (i=m)) (K m) (fL i len (m+1) K)
def iB(d:Nat):SV T.den→SV T.den
 |.ref n c i j=>.ref n c i (j+d)
 |.bj e j=>.bj e (j+d)
 |.ss v s l i=>.ss (iB d v) s l i
 |v=>v
def gP(e:SV T.den)(j aY:Nat):Nat→Option (List (SV T.den))
 |0=>some []
 |n+1=>(n7 false 1 e j).bind fun x=>(gP e (j+aY) aY n).map fun l=>x::l
def vh(k:IntKind):List (SV T.den)→Option (List Int)
 |[]=>some []
 |.lit (.int k' n)::r=>if k'=k then (vh k r).map fun l=>n::l else none
 |_=>none
def tZ:List (SV T.den)→Option (List Bool)
 |[]=>some []
 |.lit (.bool b)::r=>(tZ r).map fun l=>b::l
 |_=>none
def HM{α:Type}(l:List α)(i:Nat)(d:α):α:=l.getD i d
def LV(i:Nat)(xs:List (SV T.den)):Option (SV T.den):=
 match xs with
 |.lit (.int k n)::r=>(vh k r).map fun l=>.lit (.int k (HM (n::l) i n))
 |.lit (.bool b)::r=>(tZ r).map fun l=>.lit (.bool (HM (b::l) i b))
 |_=>none
def VU(t:Nat)(x:T.den t)(K:SV T.den→Tr ρ):Tr ρ:=
 match T.alt t with
 |none=>K (T.up t x)
 |some f=>.cond (f.1 x) (K (f.2.1 x)) (K (f.2.2 x))
def oG(r:kp)(H:ah T.den)(a:SV T.den)(K:EK T ρ):Tr ρ:=
 match a with
 |.ref n c i j=>
  match H[n]? with
  |some (some (.arr _ _ _ cur es))=>(match Nat.beq c cur with
   |true=>(match es[i]? with
    |some e=>yC (n7 r.agg r.size e j) [n] K
    | none => .no "memory")
   | false => .no "memory")
  |some (some (.ca _ _ cur t l))=>(match Nat.beq c cur with
   |true=>.bind l[i]? fun x=>VU t x fun v=>yC (n7 r.agg r.size v j) [n] K
   | false => .no "memory")
  | _ => .no "memory"
 |.bj e j=>yC (n7 r.agg r.size e j) [] K
 | _ => .no "memory"
def Ge(H:ah T.den)(a:SV T.den)(aY len:Nat):Option (List (SV T.den)×List Nat):=
 match a with
 |.ref n c i j=>(match H[n]? with
  |some (some (.arr _ _ _ cur es))=>(match Nat.beq c cur with
   |true=>(es[i]?).bind fun e=>(gP e j aY len).map fun l=>(l,[n])
   |false=>none)
  |_=>none)
 |.bj e j=>(gP e j aY len).map fun l=>(l,[])
 |_=>none
def HN(r:kp)(H:ah T.den)(a:SV T.den)(K:EK T ρ):Tr ρ:=
 match a with
 |.ss v aY len i=>
  (match !r.agg&&Nat.beq r.size 1,Ge H v aY len with
  |true,some (xs,rd)=>(match LV i xs with
   |some x=>K x [] rd
   |none=>fL i len 0 fun m=>oG r H (iB (m*aY) v) K)
  |_,_=>fL i len 0 fun m=>oG r H (iB (m*aY) v) K)
 |a=>oG r H a K
def qR(r:kp)(H:ah T.den)(a v:SV T.den)(K:EK T ρ):Tr ρ:=
 match bQ v,decide ((bK v).length=r.size)&&(bK v).all gL with
 |false,true=>(match a with
  |.ref n c i j=>
   match H[n]? with
   |some (some (.arr g cl f cur es))=>(match Nat.beq c cur&&!f with
    |true=>(match es[i]? with
     |some e=>(match gi e j (bK v) with
      |some e'=>K (.lit undef) [(n,.arr g (cl&&av (bK v)) f cur (es.set i e'))] [n]
      | none => .no "memory")
     | none => .no "memory")
    | false => .no "memory")
   |some (some (.ca g f cur t l))=>(match Nat.beq c cur&&!f&&av (bK v) with
    |true=>.bind l[i]? fun x=>(match gi (T.up t x) j (bK v) with
     |some e'=>(match T.dn t e' with
      |some y=>K (.lit undef) [(n,.ca g f cur t (l.set i y))] [n]
      | none => .no "memory")
     | none => .no "memory")
    | false => .no "memory")
   | _ => .no "memory"
  | _ => .no "memory")
 | _, _ => .no "memory"
def Gf(l:List (SV T.den))(j aY i m:Nat)(k:IntKind)(y:Int):List Int→List (SV T.den)
 |[]=>l
 |x::r=>Gf (l.set j (.lit (.int k (cond (Nat.beq i m) y x)))) (j+aY) aY i (m+1) k y r
def Gg(H:ah T.den)(a v:SV T.den)(aY len i:Nat):Option (Nat×aB T.den):=
 match a,v with
 |.ref n c i0 j,.lit (.int k y)=>(match H[n]? with
  |some (some (.arr g cl f cur es))=>(match Nat.beq c cur&&!f&&Nat.blt 0 aY,es[i0]? with
   |true,some (.agg l)=>((gP (.agg l) j aY len).bind (vh k)).map fun ns=>
    (n,.arr g cl f cur (es.set i0 (.agg (Gf l j aY i 0 k y ns))))
   |_,_=>none)
  |_=>none)
 |_,_=>none
def Gh(r:kp)(H:ah T.den)(a v:SV T.den)(K:EK T ρ):Tr ρ:=
 match a with
 |.ss b aY len i=>(match Nat.beq r.size 1,Gg H b v aY len i with
  |true,some (n,o)=>K (.lit undef) [(n,o)] [n]
  |_,_=>fL i len 0 fun m=>qR r H (iB (m*aY) b) v K)
 |a=>qR r H a v K
def Gi(Q:gO)(t:TypeId)(parts:List (Nat×SV T.den)):Option (SV T.den):=
 match Q.ty t with
 |some r=>
  match r.kind,r.zero.bind gN with
  |.struct fs,some z=>(match Q.u9 fs with
   |some pl=>(AP (fun i=>pl[i]?) (bK z) parts).map .agg
   |none=>none)
  |.array _ e,some z=>(match Q.ty e with
   |some q=>(AP (fun i=>some (i*q.size,q.size)) (bK z) parts).map .agg
   |none=>none)
  |_,_=>none
 |none=>none
def mQ(Q:gO)(nm:Nat)(t:TypeId)(len:Nat)(parts:List (Nat×SV T.den))(K:EK T ρ):Tr ρ:=
 match Q.elem t with
 |some r=>
  match (r.zero).bind gN with
  |some z=>
   if 0<r.size∧len*r.size≤2^24∧parts.all (fun p=>decide (p.1<len)&&ll r.agg r.size p.2)=true then
    K (.bh r.size nm 0 none (some len)) [(nm,.arr false (av (parts.map (·.2))) false 0 (fE (List.replicate len z) parts))] []
   else .no "buildSlice"
  | none => .no "buildSlice"
 | none => .no "buildSlice"
def su(Q:gO)(nm:Nat)(t:TypeId)(l c:SV T.den)(K:EK T ρ):Tr ρ:=
 match Q.elemOf t with
 |some (e,r)=>
  match r.zero,T.zero e,decide (0<r.size) with
  |some _,some z,true=>
   gm l fun l=>gm c fun c=>
    .cond (decide (l≤c)&&decide (c*r.bytes≤2^47)&&decide (c<2^62))
     (K (.bh r.size nm 0 (some (0,l)) (some c)) [(nm,.ca false false 0 e (List.replicate c z))] []) .fail
  |_,_,_=>.fail
 |none=>.fail
def sv(Q:gO)(nm:Nat)(t:TypeId)(l:SV T.den)(K:EK T ρ):Tr ρ:=
 match Q.elemOf t with
 |some (e,r)=>
  match r.zero,T.zero e,decide (0<r.size) with
  |some _,some z,true=>
   gm l fun c=>.cond (decide (c*r.bytes≤2^47)&&decide (c<2^62)) (K (.bh r.size nm 0 none (some c)) [(nm,.ca false false 0 e (List.replicate c z))] []) .fail
  |_,_,_=>.fail
 |none=>.fail
def LW:Operand→Operand→Bool
 |.tmp a,.tmp b=>Nat.beq a b
 |_,_=>false
def nj(H:ah T.den)(n c:Nat)(rg:Option (Nat×Nat)):Option (Nat×Nat):=
 match rg with
 |some q=>some q
 |none=>match H[n]? with
  |some (some o)=>if Nat.beq c o.cur then some (0,o.len) else none
  |_=>none
def vj:Option (SV T.den)→Option (Option AV)
 |none=>some none
 |some v=>(ni v).map some
def Rr(Q:gO)(H:ah T.den)(t:TypeId)(x:SV T.den)(lo hi mx:Option (SV T.den))(K:EK T ρ):Tr ρ:=
 match x with
 |.lit v=>(match vj lo,vj hi,vj mx with
  |some l,some h,some m=>(match ny Q.P t (.lit v) l h m with
   |some (.lit v)=>K (.lit v) [] []
   |some .nz=>K .nz [] []
   | _ => .no "via")
  | _, _, _ => .no "index")
 |.sl xs=>
  (match Q.elem t,mx with
  |some r,none=>jy 0 lo fun l=>jy xs.length hi fun h=>
   fL l (xs.length+1) 0 fun l=>fL h (xs.length+1) 0 fun h=>
    (match decide (l≤h)&&decide (h≤xs.length)&&xs.all (ll r.agg r.size) with
    |true=>K (.sl ((xs.drop l).take (h-l))) [] []
    | false => .no "index")
  | _, _ => .no "index")
 |.jw t' l=>
  (match Q.elem t,mx with
  |some r,none=>(match decide (r.agg=T.agg t')&&decide (r.size=T.size t') with
   |true=>(match lo,hi with
    |none,none=>K (.jw t' l) [] []
    |some lo,none=>gm lo fun a=>.cond (decide (a≤l.length)) (K (.jw t' (l.drop a)) [] []) .fail
    |none,some hi=>gm hi fun b=>.cond (decide (b≤l.length)) (K (.jw t' (l.take b)) [] []) .fail
    |some lo,some hi=>gm lo fun a=>gm hi fun b=>
     .cond (decide (a≤b)&&decide (b≤l.length)) (K (.jw t' ((l.drop a).take (b-a))) [] []) .fail)
   | false => .no "index")
  |some r,some mx=>(match decide (r.agg=T.agg t')&&decide (r.size=T.size t'),hi with
   |true,some hi=>(match lo.isNone&&(VS hi&&VS mx) with
    |true=>K .nz [] []
    |false=>jy 0 lo fun a=>gm hi fun b=>gm mx fun m=>
    .cond (decide (a≤b)&&decide (b≤m)&&decide (m≤l.length)&&decide (a<m)) (K (.w8 t' ((l.drop a).take (b-a)) (m-a) (!l.isEmpty)) [] []) .fail)
   | _, _ => .no "index")
  | _, _ => .no "index")
 |.bh esz n c rg cap=>
  (match Q.elem t,mx,nj H n c rg,H[n]? with
  |some r,none,some (off,len),some (some o)=>(match Nat.beq c o.cur&&decide (esz=r.size) with
   |true=>jy 0 lo fun a=>jy len hi fun b=>
    .cond (decide (a≤b)&&decide (b≤cap.getD (o.len-off))&&decide (0<o.len))
     (K (.bh esz n c (some (off+a,b-a)) (cap.map (·-a))) [] []) .fail
   | false => .no "index")
  |some r,some mx,some (off,len),some (some o)=>(match Nat.beq c o.cur&&decide (esz=r.size),hi with
   |true,some hi=>jy 0 lo fun a=>gm hi fun b=>gm mx fun m=>
    .cond (decide (a≤b)&&decide (b≤m)&&decide (m≤cap.getD (o.len-off))&&decide (0<o.len))
     (K (.bh esz n c (some (off+a,b-a)) (some (m-a))) [] []) .fail
   | _, _ => .no "index")
  | _, _, _, _ => .no "index")
 |.ref n c i j=>(match Q.arr t,mx with
  |some (len,r),none=>jy 0 lo fun l=>jy len hi fun h=>
   fL l len 0 fun l=>fL h (len+1) 0 fun h=>(match decide (l≤h) with
    |true=>K (.iD n c i (j+l*r.size) (h-l) (len-l)) [] []
    |false=>.fail)
  | _, _ => .no "index")
 | _ => .no "index"
def LX(Q:gO)(t:TypeId)(x:SV T.den)(K:EK T ρ):Tr ρ:=
 match Q.arr t,x with
 |some (len,_),.iD n c i j l _=>(match decide (len≤l) with
  |true=>K (.ref n c i j) [] []
  |false=>.fail)
 | _, _ => .no "an array"
def sw(Q:gO)(tY:Bool)(H:ah T.den)(t:TypeId)(x ix:SV T.den)(K:EK T ρ):Tr ρ:=
 gm ix fun i=>
  match x with
  |.sl xs=>(match Q.elem t with
   |some r=>fL i xs.length 0 fun m=>(match xs[m]? with
    |some e=>(match ll r.agg r.size e with
     |true=>K (.bj e 0) [] []
     | false => .no "index")
    | none => .no "index")
   | none => .no "index")
  |.jw t' l=>(match Q.elem t with
   |some r=>(match decide (r.agg=T.agg t')&&decide (r.size=T.size t') with
    |true=>.bind l[i]? fun x=>VU t' x fun v=>K (.bj v 0) [] []
    | false => .no "index")
   | none => .no "index")
  |.bh esz n c rg _=>(match Q.elem t with
   |some r=>(match decide (0<r.size)&&decide (esz=r.size),nj H n c rg,H[n]? with
    |true,some (off,len),some (some (.arr ..))=>fL i len 0 fun m=>K (.ref n c (off+m) 0) [] []
    |true,some (off,len),some (some (.ca ..))=>.cond (decide (i<len)) (K (.ref n c (off+i) 0) [] []) .fail
    | _, _, _ => .no "index")
   | none => .no "index")
  |.iD n c k j len _=>(match Q.elem t with
   |some r=>fL i len 0 fun m=>K (.ref n c k (j+m*r.size)) [] []
   | none => .no "index")
  |.ref n c k j=>(match Q.arr t with
   |some (len,r)=>(match tY with
    |true=>.cond (decide (i<len)) (K (.ss (.ref n c k j) r.size len i) [] []) .fail
    |false=>fL i len 0 fun m=>K (.ref n c k (j+m*r.size)) [] [])
   | none => .no "index")
  |.bj e j=>(match Q.arr t with
   |some (len,r)=>(match tY with
    |true=>.cond (decide (i<len)) (K (.ss (.bj e j) r.size len i) [] []) .fail
    |false=>fL i len 0 fun m=>K (.bj e (j+m*r.size)) [] [])
   | none => .no "index")
  | _ => .no "index"
def LY(s:ByteArray)(n:Int):Option Int:=if 0≤n then (s[n.toNat]?).map fun b=>(b.toNat:Int) else none
def Gj(Q:gO)(tY:Bool)(t:TypeId)(x ix:SV T.den)(K:EK T ρ):Tr ρ:=
 match x with
 |.lit v=>(match v,ix with
  |.string s,.lit (.int _ n)=>(match Q.P.underlying t with
   |some .string=>.bind (LY s n) fun b=>K (.lit (.int .u8 b)) [] []
   | _ => .no "index")
  |_,_=>(match ni ix with
   |some i=>pb (pz Q.P t (.lit v) i) K
   | none => .no "index"))
 |.agg l=>
  (match Q.arr t with
  |some (n,r)=>gm ix fun i=>(match tY&&!r.agg&&Nat.beq r.size 1,(gP (.agg l) 0 1 n).bind (LV i) with
   |true,some x=>.cond (decide (i<n)) (K x [] []) .fail
   |_,_=>fL i n 0 fun m=>yC (n7 r.agg r.size (.agg l) (m*r.size)) [] K)
  | none => .no "index")
 | _ => .no "index"
inductive Src(den:Nat→Type)where
 |me (l:List (SV den)) (cl:Bool)
 |zU (t:Nat) (l:List (den t))
def OS(Q:gO)(H:ah T.den)(xt:TypeId)(x:SV T.den)(K:Src T.den→List Nat→Tr ρ):Tr ρ:=
 match Q.isSlice xt with
 |some true=>(match x with
  |.lit (.slice none 0 0)=>K (.me [] true) []
  |.sl xs=>K (.me xs true) []
  |.jw t l=>K (.zU t l) []
  |.bh _ n c rg _=>(match H[n]? with
   |some (some (.arr _ cl _ cur es))=>(match Nat.beq c cur with
    |true=>(match rg with
     |none=>K (.me es cl) [n]
     |some (off,len)=>if off+len≤es.length then K (.me ((es.drop off).take len) cl) [n] else .fail)
    | _ => .no "append source")
   |some (some (.ca _ _ cur t l))=>(match Nat.beq c cur with
    |true=>(match rg with
     |none=>K (.zU t l) [n]
     |some (off,len)=>.cond (decide (off+len≤l.length)) (K (.zU t ((l.drop off).take len)) [n]) .fail)
    | _ => .no "append source")
   | _ => .no "append source")
  | _ => .no "append source")
 | _ => .no "append source"
def Src.ok(T:dm)(r:kp):Src T.den→Bool
 |.me l _=>l.all (ll r.agg r.size)
 |.zU t _=>decide (r.agg=T.agg t)&&decide (r.size=T.size t)
def Src.len{den:Nat→Type}:Src den→Nat
 |.me l _=>l.length
 |.zU _ l=>l.length
def rK(r:kp)(n:Nat):Bool:=decide (n*r.bytes≤2^44)&&decide (n≤2^44)
def qc(T:dm)(cur:Nat):aB T.den→Src T.den→Option (aB T.den)
 |.arr _ cl f _ es,.me ys ZT=>some (.arr true (cl&&ZT) f cur (es++ys))
 |.arr _ true f _ es,.zU t l=>(pa T t es).map fun l0=>.ca true f cur t (l0++l)
 |.ca _ f _ t l,.me ys true=>(pa T t ys).map fun l2=>.ca true f cur t (l++l2)
 |.ca _ f _ t l,.zU t' l2=>if h:t'=t then some (.ca true f cur t (l++AO h l2)) else none
 |_,_=>none
def aB.flags{den:Nat→Type}:aB den→Bool×Bool×Bool
 |.arr g cl f _ _=>(g,cl,f)
 |.ca g f _ _ _=>(g,true,f)
 |.ij|.kz _ _ _=>(false,true,true)
 |.pg _ _ _ _ _=>(false,false,true)
def aB.yD(T:dm)(r:kp):aB T.den→Bool
 |.arr _ _ _ _ es=>es.all (ll r.agg r.size)
 |.ca _ _ _ t _=>decide (r.agg=T.agg t)&&decide (r.size=T.size t)
 |_=>false
def yE{den:Nat→Type}:Src den→aB den
 |.me l cl=>.arr true cl false 0 l
 |.zU t l=>.ca true false 0 t l
def oH(T:dm)(y:Src T.den)(a b:Tr ρ):Tr ρ:=
 match y with
 |.me l _=>(match l with
  |[]=>a
  |_::_=>b)
 |.zU _ l=>.cond l.isEmpty a b
def I4{α:Type}(l:List α)(i:Nat)(ys:List α):List α:=l.take i++(ys++l.drop (i+ys.length))
def vk(T:dm):aB T.den→Nat→Src T.den→Option (aB T.den)
 |.ca g f cur t l,i,.zU t' l2=>if h:t'=t then some (.ca g f cur t (I4 l i (AO h l2))) else none
 |.ca g f cur t l,i,.me ys true=>(pa T t ys).map fun l2=>.ca g f cur t (I4 l i l2)
 |_,_,_=>none
def B7(Q:gO)(nm:Nat)(H:ah T.den)(t xt:TypeId)(s x:SV T.den)(K:EK T ρ):Tr ρ:=
 match Q.elem t with
 | none => .no "append"
 |some r=>OS Q H xt x fun y rd=>
  match (r.zero).isSome&&decide (0<r.size)&&y.ok T r with
  | false => .no "append"
  |true=>(match s with
   |.lit (.slice none 0 0)=>oH T y (K s [] rd)
     (.cond (rK r y.len) (K (.bh r.size nm 0 none none) [(nm,yE y)] rd) .fail)
   |.nz=>oH T y (K s [] rd)
     (.cond (rK r y.len) (K (.bh r.size nm 0 none none) [(nm,yE y)] rd) .fail)
   |.sl _|.jw _ _=>oH T y (K s [] rd) .fail
   |.w8 t' l c b=>oH T y (K (.jw t' l) [] rd)
     (.cond (b&&decide (c<l.length+y.len)&&rK r (l.length+y.len))
       (match decide (r.agg=T.agg t')&&decide (r.size=T.size t'),qc T 0 (.ca true false 0 t' l) y with
       |true,some o'=>K (.bh r.size nm 0 none none) [(nm,o')] rd
       | _, _ => .no "append") .fail)
   |.bh esz n c rg cap=>(match H[n]? with
    |some (some o)=>(match Nat.beq c o.cur&&!o.flags.2.2&&decide (esz=r.size) with
     |true=>(match cap,rg with
      |none,none=>(match y with
       |.me [] _=>K s [] rd
       |_=>(match o.flags.1,qc T (o.cur+1) o y with
        |true,some o'=>.cond (rK r (o.len+y.len)) (K (.bh esz n (o.cur+1) none none) [(n,o')] (n::rd)) .fail
        | _, _ => .no "append"))
      |some k,none=>oH T y (K s [] rd)
       (.cond (decide (o.len+y.len≤k)) .fail
         (match o.yD T r,qc T 0 o y with
         |true,some o'=>.cond (rK r (o.len+y.len)) (K (.bh esz nm 0 none none) [(nm,o')] (n::rd)) .fail
         | _, _ => .no "append"))
      |some k,some (off,len)=>(match vk T o (off+len) y with
        |some o'=>.cond (decide (len+y.len≤k)&&decide (off+len+y.len≤o.len)) (K (.bh esz n c (some (off,len+y.len)) (some k)) [(n,o')] (n::rd)) .fail
        | none => .no "append")
      | _, _ => .no "append")
     | false => .no "append")
    | _ => .no "append")
   | _ => .no "append")
def LZ(Q:gO)(H:ah T.den)(t:TypeId)(d x:SV T.den)(K:EK T ρ):Tr ρ:=
 match Q.elem t,Q.isSlice t with
 |some r,some true=>OS Q H t x fun y rd=>(match y.ok T r&&decide (0<r.size),d with
  |true,.bh esz n c rg _=>(match nj H n c rg,H[n]? with
   |some (off,len),some (some o)=>(match Nat.beq c o.cur&&!o.flags.2.2&&decide (esz=r.size),vk T o off y with
    |true,some o'=>.cond (decide (off+len≤o.len)&&decide (y.len≤len)) (K (.lit (.int .i64 y.len)) [(n,o')] (n::rd)) .fail
    | _, _ => .no "copy")
   | _, _ => .no "copy")
  | _, _ => .no "copy")
 | _, _ => .no "copy"
def Rs(Q:gO)(H:ah T.den)(argTypes:Array TypeId)(type:TypeId)(x:SV T.den)(K:EK T ρ):Tr ρ:=
 match argTypes.toList with
 |[t]=>(match Q.isSlice t with
  |some true=>(match x with
   |.lit (.slice none 0 0)=>K (.lit (.int .i64 0)) [] []
   |.nz=>K (.lit (.int .i64 0)) [] []
   |.sl xs=>K (.lit (.int .i64 xs.length)) [] []
   |.jw _ l|.w8 _ l _ _=>K (.lit (.int .i64 l.length)) [] []
   |.bh _ n c rg _=>(match nj H n c rg with
    |some (_,len)=>K (.lit (.int .i64 len)) [] []
    | none => .no "builtin")
   |.iD _ _ _ _ len _=>K (.lit (.int .i64 len)) [] []
   | _ => .no "builtin")
  | none => .no "builtin"
  |some false=>(match x with
   | .lit (.slice none 0 0) => .no "builtin"
   |.lit v=>pb ((bn Q.P (Builtin.len_ argTypes type #[v])).bind fe) K
   |.agg _|.ref ..|.bj ..=>(match Q.arr t with
    |some (n,_)=>K (.lit (.int .i64 n)) [] []
    | none => .no "builtin")
   | _ => .no "builtin"))
 | _ => .no "builtin"
def yF(Q:gO)(nm:Nat)(H:ah T.den)(b:Builtin)(argTypes:Array TypeId)(type:TypeId)(args:List (SV T.den))(K:EK T ρ):Tr ρ:=
 match b with
 |.append=>(match argTypes.toList,args with
  |[t,xt],[s,x]=>B7 Q nm H t xt s x K
  | _, _ => .no "builtin")
 |.copy=>(match argTypes.toList,args with
  |[t,_],[d,x]=>LZ Q H t d x K
  | _, _ => .no "builtin")
 |.len=>(match args with
  |[x]=>Rs Q H argTypes type x K
  | _ => .no "builtin")
 |.max=>(match mO args with
  |some vs=>pb ((bn Q.P (Builtin.max_ argTypes type vs.toArray)).bind fe) K
  | none => .no "builtin")
 |.min=>(match mO args with
  |some vs=>pb ((bn Q.P (Builtin.min_ argTypes type vs.toArray)).bind fe) K
  | none => .no "builtin")
 | _ => .no "builtin"
def Rt(op:BinOp)(k:IntKind)(a b:Int):Option Value:=
 match op with
 |.lss=>some (.bool (decide (a<b)))
 |.leq=>some (.bool (decide (a≤b)))
 |.gtr=>some (.bool (decide (b<a)))
 |.geq=>some (.bool (decide (b≤a)))
 |.eql=>some (.bool (a==b))
 |.neq=>some (.bool (!(a==b)))
 |.add=>some (.int k (k.wrap (a+b)))
 |.sub=>some (.int k (k.wrap (a-b)))
 |.mul=>some (.int k (k.wrap (a*b)))
 |_=>none
def Ru(op:BinOp)(k:IntKind)(a b:Int):Option Value:=
 match op with
 |.quo=>some (.int k (k.wrap (a.tdiv b)))
 |.rem=>some (.int k (a.tmod b))
 |_=>none
def Xl(op:BinOp)(k:IntKind)(a b:Int):Option Value:=
 match op with
 |.shl=>some (.int k (k.wrap (a*2^min b.toNat k.bits)))
 |.shr=>some (.int k (a.fdiv (2^min b.toNat k.bits)))
 |_=>none
def TZ:Operand→Bool
 |.tmp _=>true
 |_=>false
def CK.fits:CK→Value→Bool
 |.bool,.bool _=>true
 |.int k,.int k' _=>decide (k=k')
 |.str,.string _=>true
 |_,_=>false
def bo:List CK→List Value→Bool
 |[],[]=>true
 |k::ks,v::vs=>k.fits v&&bo ks vs
 |_,_=>false
def sy:Value→Value→Bool
 |.bool a,.bool b=>a==b
 |.int _ a,.int _ b=>a==b
 |.string a,.string b=>a==b
 |_,_=>false
def cM:List Value→List Value→Bool
 |[],[]=>true
 |x::xs,y::ys=>sy x y&&cM xs ys
 |_,_=>false
def xq(x y:Value)(K:Bool→Tr ρ):Tr ρ:=
 match x,y with
 |.bool a,.bool b=>K (a==b)
 |.int _ a,.int _ b=>K (a==b)
 |.string a,.string b=>K (a==b)
 |_,_=>K false
def lq:List Value→List Value→(Bool→Tr ρ)→Tr ρ
 |[],[],K=>K true
 |[x],[y],K=>xq x y K
 |x::x'::xs,y::y'::ys,K=>xq x y fun e=>lq (x'::xs) (y'::ys) fun r=>K (e&&r)
 |_,_,K=>K false
def Gk(Q:gO)(op:BinOp)(t:TypeId)(l l':List (SV T.den))(K:EK T ρ):Tr ρ:=
 match mO l,mO l',Q.ty t with
 |some c,some c',some m=>
  (match m.Qa with
  |some ks=>(match m.agg&&bo ks c&&bo ks c' with
   |true=>lq c c' fun e=>(match op with
    |.eql=>K (.lit (.bool e)) [] []
    |.neq=>K (.lit (.bool (!e))) [] []
    | _ => .no "==")
   | false => .no "==")
  | none => .no "==")
 | _, _, _ => .no "=="
def Rv(Q:gO)(op:BinOp)(t:TypeId)(xo yo:Operand)(x y:SV T.den)(K:EK T ρ):Tr ρ:=
 match x,y with
 |.lit (.int k a),.lit (.int k' b)=>(match decide (k=k'),Rt op k a b with
  |true,some v=>K (.lit v) [] []
  |_,_=>(match decide (k=k'),Ru op k a b with
   |true,some v=>.cond (decide (b=0)) .fail (K (.lit v) [] [])
   |_,_=>(match TZ yo,Xl op k a b with
    |true,some v=>.cond (decide (b<0)) .fail (K (.lit v) [] [])
    |_,_=>pb (fh Q.P op t xo yo (.lit (.int k a)) (.lit (.int k' b))) K)))
 |.agg l,.agg l'=>Gk Q op t l l' K
 |_,_=>(match ni x,ni y with
  |some a,some b=>pb (fh Q.P op t xo yo a b) K
  |_,_=>(match y with
   |.lit b=>pb (B5 Q.P op t x b) K
   |_=>(match x with
    |.lit a=>pb (B5 Q.P op t y a) K
    |_=>.fail)))
def L0(t:Bool)(a b:SV T.den)(K:EK T ρ):Tr ρ:=
 match a,b with
 |.lit (.bool x),.lit (.bool y)=>K (.lit (.bool (cond t x y))) [] []
 |.lit (.int k x),.lit (.int k' y)=>if k=k' then K (.lit (.int k (cond t x y))) [] [] else .cond t (K a [] []) (K b [] [])
 |_,_=>.cond t (K a [] []) (K b [] [])
def B8(c:Bool)(v:SV T.den)(b:Bool):SV T.den:=
 match c with
 |true=>.jF [v,.lit (.bool b)]
 |false=>v
def ua{kk rj:KK}{t t':Nat}(h:kk=rj∧t=t')(m:List (kk.D×T.den t)):List (rj.D×T.den t'):=by
 obtain⟨rfl,rfl⟩:=h; exact m
def B9(Q:gO)(H:ah T.den)(t:TypeId)(x ix:SV T.den)(c:Bool)(K:EK T ρ):Tr ρ:=
 match Q.mapOf t with
 |some (kk,et)=>(match (Q.ty et).bind (·.zero),T.zero et,ix with
  |some _,some z,.lit k=>(match kk.get k,x with
   |some _,.lit (.map none)=>K (B8 c (T.up et z) false) [] []
   |some k',.mp false n=>(match H[n]? with
    |some (some (.kz rj t' m))=>
     if h:rj=kk∧t'=et then
      K (B8 c (T.up et ((kS kk (ua h m) k').getD z)) (kS kk (ua h m) k').isSome) [] [n]
     else .no "map"
    | _ => .no "map")
   | _, _ => .no "map")
  | _, _, _ => .no "map")
 | none => .no "map"
def sz(Q:gO)(H:ah T.den)(t:TypeId)(x ix v:SV T.den)(K:EK T ρ):Tr ρ:=
 match Q.mapOf t with
 |some (kk,_)=>(match ix,x with
  |.lit k,.mp false n=>(match kk.get k,H[n]? with
   |some k',some (some (.kz rj t' m))=>
    (match bQ v,T.dn t' v with
    | false, some y => if h : rj = kk ∧ t' = t' then K (.lit undef) [(n, .kz kk t' (ng kk (ua h m) k' y))] [n] else .no "map"
    | _, _ => .no "map")
   | _, _ => .no "map")
  | _, _ => .no "map")
 | none => .no "map"
def yG(Q:gO)(nm:Nat)(t:TypeId)(r:Option (SV T.den))(K:EK T ρ):Tr ρ:=
 match Q.mapOf t with
 |some (kk,et)=>jy 0 r fun _=>K (.mp false nm) [(nm,.kz kk et [])] []
 | none => .no "map"
mutual
def gn(T:dm)(H:ah T.den):Nat→SV T.den→(SV T.den→List Nat→Tr ρ)→Tr ρ
 | 0, _, _ => .no "seal"
 |k+1,v,K=>match v with
  |.bh _ n c rg _=>(match H[n]? with
   |some (some (.arr _ cl _ cur es))=>(match Nat.beq c cur with
    |true=>(match rg with
     |none=>(match cl with
      |true=>K (.sl es) [n]
      |false=>fM T H k es fun l rd=>K (.sl l) (n::rd))
     |some (off,len)=>if off+len≤es.length then (match cl with
      |true=>K (.sl ((es.drop off).take len)) [n]
      | false => fM T H k ((es.drop off).take len) fun l rd => K (.sl l) (n :: rd)) else .no "seal")
    | false => .no "seal")
   |some (some (.ca _ _ cur t l))=>(match Nat.beq c cur with
    |true=>(match rg with
     |none=>K (.jw t l) [n]
     |some (off,len)=>.cond (decide (off+len≤l.length)) (K (.jw t ((l.drop off).take len)) [n]) .fail)
    | false => .no "seal")
   | _ => .no "seal")
  |.ref n c i j=>(match H[n]? with
   |some (some (.arr _ cl _ cur es))=>(match Nat.beq c cur,es[i]? with
    |true,some e=>(match cl with
     |true=>K (.bj e j) [n]
     |false=>gn T H k e fun e' rd=>K (.bj e' j) (n::rd))
    | _, _ => .no "seal")
   | _ => .no "seal")
  |.iD n c i j ln cp=>(match H[n]? with
   |some (some (.arr _ cl _ cur es))=>(match Nat.beq c cur,es[i]? with
    |true,some (.agg cs)=>(match decide (ln≤cp)&&decide (j+ln≤cs.length) with
     |true=>(match cl with
      |true=>K (.sl ((cs.drop j).take ln)) [n]
      |false=>fM T H k ((cs.drop j).take ln) fun l rd=>K (.sl l) (n::rd))
     | false => .no "seal")
    | _, _ => .no "seal")
   | _ => .no "seal")
  |.agg l=>fM T H k l fun l rd=>K (.agg l) rd
  |.jF l=>fM T H k l fun l rd=>K (.jF l) rd
  |.fW t v=>gn T H k v fun v rd=>K (.fW t v) rd
  |.jd fn f c=>fM T H k f fun f rd=>fM T H k c fun c rd2=>K (.jd fn f c) (rd++rd2)
  |.sl xs=>K (.sl xs) []
  |.jw t l=>K (.jw t l) []
  |.w8 t l _ _=>K (.jw t l) []
  |.nz=>K (.sl []) []
  |.bj e j=>K (.bj e j) []
  |.lit v=>(match v with
   |.slice none 0 0=>K (.sl []) []
   |v=>K (.lit v) [])
  | _ => .no "seal"
def fM(T:dm)(H:ah T.den):Nat→List (SV T.den)→(List (SV T.den)→List Nat→Tr ρ)→Tr ρ
 | 0, _, _ => .no "seal"
 |k+1,xs,K=>match xs with
  |[]=>K [] []
  |x::xs=>gn T H k x fun y rd=>fM T H k xs fun ys rd2=>K (y::ys) (rd++rd2)
end
def lr(T:dm)(H:ah T.den):Nat→List Nat→(List (Nat×aB T.den)→List Nat→Tr ρ)→Tr ρ
 | 0, _, _ => .no "seal"
 |k+1,ns,K=>match ns with
  |[]=>K [] []
  |n::r=>(match H[n]? with
   |some (some (.arr g cl _ cur es))=>(match cl with
    |true=>lr T H k r fun l rd=>K ((n,.arr g true true cur es)::l) (n::rd)
    |false=>fM T H 1000 es fun es' rd=>lr T H k (lj es++r) fun l rd2=>K ((n,.arr g true true cur es')::l) (n::rd++rd2))
   |some (some (.ca g _ cur t l))=>lr T H k r fun w rd=>K ((n,.ca g true cur t l)::w) (n::rd)
   | _ => .no "seal")
mutual
def vm{den:Nat→Type}:SV den→Bool
 |.bh _ _ _ _ _=>true
 |.agg l=>jZ l
 |x=>aE x
def jZ{den:Nat→Type}:List (SV den)→Bool
 |[]=>true
 |x::xs=>vm x&&jZ xs
end
def sC(T:dm)(Q:gO)(nm:Nat)(H:ah T.den)(t:TypeId)(len:Nat)(parts:List (Nat×SV T.den))(K:EK T ρ):Tr ρ:=
 match jZ (parts.map (·.2))&&!av (parts.map (·.2)) with
 |true=>fM T H 1000 (parts.map (·.2)) fun ys rd=>lr T H 1000 (lj (parts.map (·.2))) fun wr rd2=>
   mQ Q nm t len ((parts.map (·.1)).zip ys) fun v w T2=>K v (wr++w) (rd++(rd2++T2))
 |false=>mQ Q nm t len parts K
def OT(Q:gO)(nm:Nat)(H:ah T.den)(ev:Operand→SV T.den)(o:Oper)(K:EK T ρ):Tr ρ:=
 match o.op with
 |.move x|.assign x=>K (ev x) [] []
 |.pick c a b=>(match ev c with
  |.lit (.bool t)=>L0 t (ev a) (ev b) K
  | _ => .no "pick")
 |.alloc t=>(match Q.ty t with
  |some r=>(match (r.zero).bind gN with
   |some z=>if 0<r.size then K (.ref nm 0 0 0) [(nm,.arr false true false 0 [z])] [] else .fail
   |none=>.fail)
  |none=>.fail)
 |.box _ x=>
  if (bK (ev x)).all gL=true∧0<(bK (ev x)).length∧bQ (ev x)=false then
   K (.ref nm 0 0 0) [(nm, .arr false (av (bK (ev x))) false 0 [ev x])] [] else .no "box"
 | .build t parts => if ((parts.toList.map fun p => (p.1, ev p.2)).any fun p => bQ p.2) = true then .no "build" else yC (Gi Q t (parts.toList.map fun p => (p.1, ev p.2))) [] K
 | .buildSlice t len parts => if ((parts.toList.map fun p => (p.1, ev p.2)).any fun p => bQ p.2) = true then .no "build" else sC T Q nm H t len (parts.toList.map fun p => (p.1, ev p.2)) K
 |.load t a=>(match Q.ty t with
  |some r=>HN r H (ev a) K
  |none=>.fail)
 |.store t a x=>(match Q.ty t with
  |some r=>Gh r H (ev a) (ev x) K
  |none=>.fail)
 |.nilCheck x=>(match ev x with
  |.ref n c i j=>K (.ref n c i j) [] []
  |.bj e j=>K (.bj e j) [] []
  |.fW t y=>K (.fW t y) [] []
  |.jd (.func f) a c=>K (.jd (.func f) a c) [] []
  |.lit (.func (.func f) a c)=>K (.lit (.func (.func f) a c)) [] []
  | _ => .no "nilCheck")
 |.binOp op t x y _=>Rv Q op t x y (ev x) (ev y) K
 |.unOp op _ x=>(match ev x with
  |.lit a=>pb ((bn Q.P (Op.unary op a)).bind fe) K
  | _ => .no "unOp")
 |.convert s d x=>(match ev x with
  |.lit a=>pb ((bn Q.P (convert s d a)).bind fe) K
  | _ => .no "convert")
 |.makeInterface t x=>if (jJ Q.P t||(Q.P.underlying t).isNone||bQ (ev x))=true then .fail else K (.fW t (ev x)) [] []
 |.makeFunc fn first captured=>
  if first.isEmpty&&captured.isEmpty then K (.lit (.func fn #[] #[])) [] []
  else if (first.toList.map ev).any bQ||(captured.toList.map ev).any bQ then .fail
  else K (.jd fn (first.toList.map ev) (captured.toList.map ev)) [] []
 |.makeSlice t l c=>(match LW l c with
  |true=>sv Q nm t (ev l) K
  |false=>su Q nm t (ev l) (ev c) K)
 |.slice t x lo hi mx=>Rr Q H t (ev x) (lo.map ev) (hi.map ev) (mx.map ev) K
 |.sliceToArrayPointer t x=>LX Q t (ev x) K
 |.fieldAddr s x f=>(match Q.VR s f,ev x with
  |some (off,_),.ref n c i j=>K (.ref n c i (j+off)) [] []
  |some (off,_),.bj e j=>K (.bj e (j+off)) [] []
  |some (off,_),.ss v aY len i=>K (.ss (iB off v) aY len i) [] []
  | _, _ => .no "fieldAddr")
 |.field s x f=>(match Q.VR s f,ev x with
  |some (off,r),.agg l=>yC (n7 r.agg r.size (.agg l) off) [] K
  | _, _ => .no "field")
 |.indexAddr t x ix=>sw Q (match o.dst with|some d=>Q.tY d|none=>false) H t (ev x) (ev ix) K
 |.index t x ix=>Gj Q (match o.dst with|some d=>Q.tY d|none=>false) t (ev x) (ev ix) K
 |.makeMap t r=>yG Q nm t (r.map ev) K
 |.lookup t x ix c=>B9 Q H t (ev x) (ev ix) c K
 |.mapUpdate t m k x=>sz Q H t (ev m) (ev k) (ev x) K
 |.extract t ix=>(match ev t with
  |.jF l=>yC l[ix]? [] K
  | _ => .no "extract")
 |.call c=>(match c.callee with
  |.builtin b=>yF Q nm H b c.argTypes o.type (c.args.toList.map ev) K
  | _ => .no "call")
 | _ => .no "op"
end
section
variable {T:dm}{ρ:Type}
def OU(dst:Option Tmp)(wf:List Nat):List Nat:=
 match dst with
 |some d=>d::wf
 |none=>wf
def bA.step(s:bA T.den)(dst:Option Tmp)(v:SV T.den)(wr:List (Nat×aB T.den)):bA T.den:=
 { s with fr:=LU s.n s.fr dst v,hp:=aP s.hp wr,wf:=OU dst s.wf,wh:=wr.map (·.1)++s.wh }
def yH(v:Value)(K:Value→Tr ρ):Tr ρ:=
 match v with
 |.int k n=>K (.int k n)
 |.bool b=>K (.bool b)
 |.string s=>K (.string s)
 |v=>K v
mutual
def dD:SV T.den→(SV T.den→Tr ρ)→Tr ρ
 |.lit v,K=>yH v fun v=>K (.lit v)
 |.agg l,K=>mf l fun l=>K (.agg l)
 |.jF l,K=>mf l fun l=>K (.jF l)
 |.sl l,K=>mf l fun l=>K (.sl l)
 |.bj e j,K=>dD e fun e=>K (.bj e j)
 |.jd fn f c,K=>mf f fun f=>mf c fun c=>K (.jd fn f c)
 |.fW t v,K=>dD v fun v=>K (.fW t v)
 |.dead,K=>K .dead
 |.hole,K=>K .hole
 |.jw t l,K=>K (.jw t l)
 |.ref n c i j,K=>K (.ref n c i j)
 |.iD n c i j ln cp,K=>K (.iD n c i j ln cp)
 |.bh esz n c rg cap,K=>K (.bh esz n c rg cap)
 |.mp y n,K=>K (.mp y n)
 |.w8 t l c b,K=>K (.w8 t l c b)
 |.nz,K=>K .nz
 |.ss v s len i,K=>dD v fun v=>K (.ss v s len i)
def mf:List (SV T.den)→(List (SV T.den)→Tr ρ)→Tr ρ
 |[],K=>K []
 |x::xs,K=>dD x fun x=>mf xs fun xs=>K (x::xs)
end
def L1(o:aB T.den)(K:aB T.den→Tr ρ):Tr ρ:=
 match o with
 |.arr g cl f c es=>mf es fun es=>K (.arr g cl f c es)
 |.ca g f c t l=>K (.ca g f c t l)
 |.ij=>K .ij
 |.kz kk t m=>K (.kz kk t m)
 |.pg fn ps as bd fr=>mf fr fun fr=>K (.pg fn ps as bd fr)
def nk:ah T.den→(ah T.den→Tr ρ)→Tr ρ
 |[],K=>K []
 |none::r,K=>nk r fun r=>K (none::r)
 |some o::r,K=>L1 o fun o=>nk r fun r=>K (some o::r)
def sD:List Nat→(List Nat→Tr ρ)→Tr ρ
 |[],K=>K []
 |x::r,K=>sD r fun r=>K (x::r)
def Ca:tb T.den→(tb T.den→Tr ρ)→Tr ρ
 |[],K=>K []
 |(d,v)::r,K=>dD v fun v=>Ca r fun r=>K ((d,v)::r)
def bA.force(s:bA T.den)(K:bA T.den→Tr ρ):Tr ρ:=
 match s with
 |⟨fn,n,fr,hp,wf,wh,js⟩=>Ca fr fun fr=>nk hp fun hp=>sD wf fun wf=>sD wh fun wh=>K ⟨fn,n,fr,hp,wf,wh,js⟩
def Gl(hp:ah T.den)(wh:List Nat)(wr:List (Nat×aB T.den))(K:ah T.den→List Nat→Tr ρ):Tr ρ:=
 match wr with
 |[]=>K hp wh
 |w::r=>nk (aP hp (w::r)) fun hp=>sD ((w::r).map (·.1)++wh) fun wh=>K hp wh
def bA.fw(s:bA T.den)(dst:Option Tmp)(v:SV T.den)(wr:List (Nat×aB T.den))(K:bA T.den→Tr ρ):Tr ρ:=
 match s with
 |⟨fn,n,fr,hp,wf,wh,js⟩=>Gl hp wh wr fun hp wh=>
  match dst with
  |none=>K ⟨fn,n,fr,hp,wf,wh,js⟩
  |some d=>(match Nat.ble n d with
   |true=>K ⟨fn,n,fr,hp,d::wf,wh,js⟩
   |false=>dD v fun v=>K ⟨fn,n,(d,v)::fr,hp,d::wf,wh,js⟩)
def oI(ops:Array Oper):List Oper→(List (G×Oper)→Tr ρ)→Tr ρ
 |[],K=>K []
 |o::r,K=>(match eL ops o with
  |.always=>oI ops r fun l=>K ((.always,o)::l)
  |.never=>oI ops r fun l=>K ((.never,o)::l)
  |.on d w=>oI ops r fun l=>K ((.on d w,o)::l))
def xr(g:G)(s:bA T.den)(K:bA T.den→Bool→Tr ρ):Tr ρ:=
 match g with
 |.always=>K s true
 |.never=>K s false
 |.on d want=>(match cL s.fr d with
  |.lit (.bool b)=>.cond b (s.fw (some d) (.lit (.bool true)) [] fun s=>K s (true==want)) (s.fw (some d) (.lit (.bool false)) [] fun s=>K s (false==want))
  |.lit (.tuple _)=>K s false
  | _ => .no "guard")
def mg(fv:SV T.den)(args:List (SV T.den)):Option (FuncId×List (SV T.den)):=
 match fv with
 |.lit (.func (.func f) first captured)=>some (f,first.toList.map .lit++args++captured.toList.map .lit)
 |.jd (.func f) first captured=>some (f,first++args++captured)
 |_=>none
def I5(T:dm)(σ:vf T)(H:ah T.den)(args:List (SV T.den))(K:EK T ρ):Tr ρ:=
 fM T H 1000 args fun as rd=>
  match (I0 T σ.args as).bind (vb (σ.args.map .v)) with
  |some xs=>.bind (σ.fn xs) fun r=>
   match rA (Rq T (gl (σ.res.map .v) r)) with
   |v=>(match wz v with
    |true=>K v [] rd
    |false=>lr T H 1000 (lj args) fun wr rd2=>K v wr (rd++rd2))
  | none => .no "seal"
def OV(T:dm)(σ:wA T)(nm:Nat)(H:ah T.den)(args:List (SV T.den))(K:EK T ρ):Tr ρ:=
 fM T H 1000 args fun as rd=>
  match (I0 T σ.args as).bind (vb (σ.args.map .v)) with
  |some xs=>.bind (σ.fn xs) fun l=>K (.bh σ.esz nm 0 none none) [(nm,.ca true false 0 σ.el l)] rd
  | none => .no "seal"
def gp(n:Nat)(r:SV T.den)(hp:ah T.den):ah T.den:=
 if bx n r&&(hp.take n).all (ko n) then hp.take n else hp
def qS(n:Nat)(v:SV T.den):SV T.den:=if bx n v then v else .dead
def ka(n:Nat)(s:bA T.den):bA T.den:=
 if (s.hp.take n).all (ko n) then { s with fr:=s.fr.map fun q=>(q.1,qS n q.2),hp:=s.hp.take n } else s
def sE(T:dm)(Q:gO)(s:bA T.den):List ResultVar→(List (SV T.den)→Tr ρ)→Tr ρ
 |[],K=>K []
 |.tmp t::rs,K=>(match cL s.fr t with
  |.dead=>.fail
  |v=>sE T Q s rs fun l=>K (v::l))
 |.cell a t::rs,K=>(match Q.ty t with
  |some r=>HN r s.hp (cL s.fr a) fun v _ _=>sE T Q s rs fun l=>K (v::l)
  |none=>.fail)
def keyOf:Code→Nat
 |.region id _ _=>id
 |.seq a _=>keyOf a
 |.cond _ a _=>keyOf a
 |.block _ b|.loop b|.scope b=>keyOf b
 |_=>0
def sG(b:Code)(s:bA T.den):Nat:=keyOf b+1000*s.hp.length
def I6(T:dm)(x:TV T.den):Nat:=
 match TY T x with
 |.lit (.int _ m)=>m.toNat
 |_=>0
def isHole{den:Nat→Type}:SV den→Bool
 |.hole=>true
 |_=>false
def fT(H:ah T.den):pj→List (TV T.den)→SV T.den×List (TV T.den)
 |.hole,l=>(.hole,l)
 |.I3 esz n rg cap,l=>((match H[n]? with
  |some (some o)=>.bh esz n o.cur rg cap
  |_=>.dead),l)
 |.iD n i j len cap,l=>((match H[n]? with
  |some (some o)=>.iD n o.cur i j len cap
  |_=>.dead),l)
 |.val _,l=>(match l with
  |x::r=>(TY T x,r)
  |[]=>(.dead,[]))
 |.own esz n,l=>((match H[n]? with
  |some (some o)=>.bh esz n o.cur none none
  |_=>.dead),l)
 |.SB esz n _ k,l=>(match k with
  |false=>(match l with
   |x::y::r=>((match H[n]? with
    |some (some o)=>.bh esz n o.cur (some (I6 T x,I6 T y)) none
    |_=>.dead),r)
   |_=>(.dead,[]))
  |true=>(match l with
   |x::y::z::r=>((match H[n]? with
    |some (some o)=>.bh esz n o.cur (some (I6 T x,I6 T y)) (some (I6 T z))
    |_=>.dead),r)
   |_=>(.dead,[])))
def jz(H:ah T.den):List pj→List (TV T.den)→List (SV T.den)×List (TV T.den)
 |[],l=>([],l)
 |p::ps,l=>match fT H p l with
  |(v,l')=>match jz H ps l' with
   |(vs,l'')=>(v::vs,l'')
def mR:aB T.den→cR→aB T.den
 |.arr g _ f c _,.list t=>.ca g f (c+1) t []
 |.ca g f c _ _,.list t=>.ca g f (c+1) t []
 |.arr g _ f c _,.fix t=>.ca g f c t []
 |.ca g f c _ _,.fix t=>.ca g f c t []
 |.kz kk t _,.map _ _=>.kz kk t []
 |o,_=>o
def rL(H:ah T.den):List (Nat×cR)→ah T.den
 |[]=>H
 |(n,p)::r=>match H[n]? with
  |some (some o)=>rL (H.set n (some (mR o p))) r
  |_=>rL H r
def jA(H:ah T.den)(o:aB T.den):cR→List (TV T.den)→aB T.den×List (TV T.den)
 |.list _,l|.fix _,l=>(match o,l with
  |.ca g f c _ _,⟨.l t,x⟩::r=>(.ca g f c t x,r)
  |_,_=>(o,l))
 |.one p,l=>(match o,fT H p l with
  |.arr g cl f c _,(v,r)=>(.arr g cl f c [v],r)
  |_,_=>(o,l))
 |.agg ps,l=>(match o,jz H ps l with
  |.arr g cl f c _,(vs,r)=>(.arr g cl f c [.agg vs],r)
  |_,_=>(o,l))
 |.map _ _,l=>(match o,l with
  |.kz _ _ _,⟨.m kk t,x⟩::r=>(.kz kk t x,r)
  |_,_=>(o,l))
def gq:ah T.den→List (Nat×cR)→List (TV T.den)→ah T.den
 |H,[],_=>H
 |H,(n,p)::r,l=>match H[n]? with
  |some (some o)=>(match jA H o p l with
   |(o',l')=>gq (H.set n (some o')) r l')
  |_=>gq H r l
def qT(n:Nat)(H:ah T.den):tb T.den→List (Nat×pj)→List (TV T.den)→tb T.den×List (TV T.den)
 |fr,[],l=>(fr,l)
 |fr,(d,p)::r,l=>match fT H p l with
  |(v,l')=>qT n H (tX n fr d v) r l'
def AQ(n:Nat)(fr:tb T.den):List Nat→tb T.den
 |[]=>fr
 |d::r=>AQ n (tX n fr d .dead) r
def I7:pk→Option (aB T.den)
 |.ij=>some .ij
 |.list g f t=>some (.ca g f 0 t [])
def bc:Nat→List pk→List (Nat×cR)
 |_,[]=>[]
 |n,.ij::r=>bc (n+1) r
 |n,.list _ _ t::r=>(n,.list t)::bc (n+1) r
def dc(az:List (Nat×pj))(dead:List Nat)(objs:List (Nat×cR))(ext:List pk)(s:bA T.den)(l:List (TV T.den)):bA T.den:=
 match qT s.n (rL s.hp objs++ext.map I7) (AQ s.n s.fr dead) az l with
 |(fr,l')=>{ s with fr:=fr,hp:=gq (rL s.hp objs++ext.map I7) (objs++bc s.hp.length ext) l' }
def fN(H:ah T.den)(p:pj)(v:SV T.den):Option (List (TV T.den)):=
 match p with
 |.hole=>(match isHole v with
  |true=>some []
  |false=>none)
 |.I3 esz n rg cap=>(match v with
  |.bh yI n' c Xm Gm=>(match H[n]? with
   |some (some o)=>if yI=esz∧n'=n∧c=o.cur∧Xm=rg∧Gm=cap then some [] else none
   |_=>none)
  |_=>none)
 |.iD n i j len cap=>(match v with
  |.iD n' c i' j' OW Gm=>(match H[n]? with
   |some (some o)=>if n'=n∧c=o.cur∧i'=i∧j'=j∧OW=len∧Gm=cap then some [] else none
   |_=>none)
  |_=>none)
 |.val t=>(match bQ v with
  |true=>none
  |false=>match T.dn t v with
   |some x=>some [⟨.v t,x⟩]
   |none=>none)
 |.own esz n=>match v with
  |.bh yI n' c none none=>(match H[n]? with
   |some (some o)=>if yI=esz∧n'=n∧c=o.cur then some [] else none
   |_=>none)
  |_=>none
 |.SB esz n t k=>match v with
  |.bh yI n' c rg cap=>(match H[n]?,nj H n' c rg with
   |some (some o),some (off,len)=>if yI=esz∧n'=n∧c=o.cur then
     (T.dn t (.lit (.int .i64 off))).bind fun x=>(T.dn t (.lit (.int .i64 len))).bind fun y=>(match k,cap with
       |false,none=>some [⟨.v t,x⟩,⟨.v t,y⟩]
       |true,some m=>(T.dn t (.lit (.int .i64 m))).map fun z=>[⟨.v t,x⟩,⟨.v t,y⟩,⟨.v t,z⟩]
       |_,_=>none) else none
   |_,_=>none)
  |_=>none
def iq(H:ah T.den):List pj→List (SV T.den)→Option (List (TV T.den))
 |[],[]=>some []
 |p::ps,v::vs=>(fN H p v).bind fun l=>(iq H ps vs).map fun r=>l++r
 |_,_=>none
def eD(H:ah T.den)(o:aB T.den):cR→Option (List (TV T.den))
 |.list t|.fix t=>(match o with
  |.ca _ _ _ t' l=>if h:t'=t then some [⟨.l t,AO h l⟩] else none
  |.arr _ true _ _ es=>(pa T t es).map fun l=>[⟨.l t,l⟩]
  |_=>none)
 |.one p=>(match o with
  |.arr _ _ _ _ [v]=>fN H p v
  |_=>none)
 |.agg ps=>(match o with
  |.arr _ _ _ _ [.agg vs]=>iq H ps vs
  |_=>none)
 |.map kk t=>(match o with
  |.kz rj t' m=>if rj=kk∧t'=t then some [⟨.m rj t',m⟩] else none
  |_=>none)
def kq(H:ah T.den):List (Nat×cR)→Option (List (TV T.den))
 |[]=>some []
 |(n,p)::r=>match H[n]? with
  |some (some o)=>(eD H o p).bind fun l=>(kq H r).map fun m=>l++m
  |_=>none
def qd(H:ah T.den)(fr:tb T.den):List (Nat×pj)→Option (List (TV T.den))
 |[]=>some []
 |(d,p)::r=>(fN H p (cL fr d)).bind fun l=>(qd H fr r).map fun m=>l++m
def vn(az:List (Nat×pj))(objs:List (Nat×cR))(s:bA T.den):Option (List (TV T.den)):=
 (qd s.hp s.fr az).bind fun l=>(kq s.hp objs).map fun m=>l++m
def qU(H H':ah T.den)(objs:List (Nat×cR)):Bool:=
 objs.all fun q=>match H[q.1]?,H'[q.1]? with
  |some (some o),some (some o')=>decide (o.flags=o'.flags)
  |_,_=>false
def ik(H0 H:ah T.den):List (Nat×cR)→Tr ρ→Tr ρ
 |[],K=>K
 |(n,.fix _)::r,K=>(match H0[n]?,H[n]? with
  |some (some o),some (some o')=>.cond (decide (o'.len=o.len)) (ik H0 H r K) .fail
  | _, _ => .no "fix")
 |_::r,K=>ik H0 H r K
def xu(H0 H:ah T.den)(objs:List (Nat×cR)):Bool:=
 objs.all fun q=>match q.2 with
  |.list _=>true
  |_=>match H0[q.1]?,H[q.1]? with
   |some (some o),some (some o')=>Nat.beq o.cur o'.cur
   |_,_=>false
def subset(a b:List Nat):Bool:=a.all fun x=>b.contains x
def c9:List Nat→Bool
 |[]=>true
 |x::r=>!r.contains x&&c9 r
def DV(H:ah T.den):Nat→List pk→Bool
 |_,[]=>true
 |n,e::r=>(match H[n]?,e with
  |some (some o),.ij=>o.flags.2.1
  |some (some o),.list g f _=>decide (o.flags=(g,true,f))
  |_,_=>false)&&DV H (n+1) r
def pj.kA:pj→List Nat
 |.val _|.hole=>[]
 |.own _ n|.SB _ n _ _|.I3 _ n _ _|.iD n _ _ _ _=>[n]
def cR.kA:cR→List Nat
 |.list _|.fix _|.map _ _=>[]
 |.one p=>p.kA
 |.agg ps=>ps.flatMap pj.kA
def sH(lO:Nat)(az:List (Nat×pj))(objs:List (Nat×cR)):Bool:=
 (az.flatMap (fun q=>q.2.kA)++objs.flatMap (fun q=>q.2.kA)).all fun n=>Nat.blt n lO||(objs.map (·.1)).contains n
def Cb(n:Nat)(az:List (Nat×pj))(dead:List Nat):Bool:=(az.map (·.1)++dead).all fun d=>Nat.blt d n
def sI(az:List (Nat×pj))(dead:List Nat)(objs:List (Nat×cR))(ext:List pk)(s0 s:bA T.den):Bool:=
 Cb s0.n az dead&&sH s0.hp.length az (objs++bc s0.hp.length ext)&&subset s.wf (az.map (·.1)++dead)&&subset (s.wh.filter fun n=>decide (n<s0.hp.length)) (objs.map (·.1)) &&
  decide (s.hp.length=s0.hp.length+ext.length)&&qU s0.hp s.hp objs&&xu s0.hp s.hp objs&&DV s.hp s0.hp.length ext
def HO(H:ah T.den)(l:List (Nat×cR)):Bool:=l.all fun q=>match H[q.1]?,q.2 with
 |some (some (.arr _ _ _ _ [_])),.one _=>true
 |some (some (.arr _ _ _ _ [_])),.agg _=>true
 |_,_=>false
def I8(h:Hint)(s0 s:bA T.den)(kind:Option Nat)(o:B6):Option (HL T.den (o.jY h.objs)):=
 match decide (o.kind=kind)&&decide (s.js=o.js)&&(sI o.az (h.az.map (·.1)++h.dead) (jx h.objs o.more) o.ext s0 s&&(c9 ((jx h.objs o.more).map (·.1))&&HO s0.hp o.more)) with
 |true=>(vn o.az ((jx h.objs o.more)++bc s0.hp.length o.ext) s).bind (vb (o.jY h.objs))
 |false=>none
def ub(key:Nat)(h:Hint)(s0 s:bA T.den)(kind:Option Nat):(l:List B6)→(zT T.den h.objs l→Tr ρ)→Tr ρ
 |[],_=>.bad key (some kind) s0 s
 |[o],K=>(match I8 h s0 s kind o with
  |some x=>ik s0.hp s.hp h.objs (K x)
  |none=>.bad key (some kind) s0 s)
 |o::p::r,K=>(match I8 h s0 s kind o with
  |some x=>ik s0.hp s.hp h.objs (K (.inl x))
  |none=>ub key h s0 s kind (p::r) fun x=>K (.inr x))
def kb(h:Hint)(s:bA T.den)(o:B6)(x:HL T.den (o.jY h.objs)):bA T.den:=
 let s':=dc o.az (h.az.map (·.1)++h.dead) (jx h.objs o.more) o.ext s (gl (o.jY h.objs) x)
 { s' with wf:=o.az.map (·.1)++(h.az.map (·.1)++(h.dead++s.wf)),wh:=(jx h.objs o.more).map (·.1)++s.wh,js:=o.js }
def Cc(s:bA T.den)(kind:Option Nat):ph T.den:=
 match kind with
 |some id=>.exit id s
 |none=>.ret s
def uw(h:Hint)(s:bA T.den):(l:List B6)→zT T.den h.objs l→(ph T.den→Tr ρ)→Tr ρ
 |[],_,_=>.fail
 |[o],w,K=>(kb h s o w).force fun s=>K (Cc s o.kind)
 |o::p::r,w,K=>.sum w (fun x=>(kb h s o x).force fun s=>K (Cc s o.kind)) fun w=>uw h s (p::r) w K
def Hint.ok(h:Hint):Bool:=
 c9 (h.az.map (·.1)++h.dead)&&c9 (h.objs.map (·.1))&&h.outs.all fun o=>c9 (o.az.map (·.1))
def wB(step:Oper→bA T.den→(bA T.den→Tr ρ)→Tr ρ):List (G×Oper)→bA T.den→(bA T.den→Tr ρ)→Tr ρ
 |[],s,K=>K s
 |(g,o)::rest,s,K=>xr g s fun s want=>
  match want with
  |false=>s.fw o.dst (.lit undef) [] fun s=>wB step rest s K
  |true=>step o s fun s'=>wB step rest s' K
def mh:List Item→List (G×Oper)→List (G×Item)
 |x::r,(g,_)::l=>(g,x)::mh r l
 |_,_=>[]
def yJ:List (G×Item)→(List (G×Item)→Tr ρ)→Tr ρ
 |[],K=>K []
 |(g,⟨i,nm,o⟩)::r,K=>yJ r fun l=>K ((g,⟨i,nm,o⟩)::l)
def sJ[ab](step:Nat→Oper→bA T.den→EK T ρ→Tr ρ):List (G×Item)→bA T.den→List fH→(bA T.den→List fH→Tr ρ)→Tr ρ
 |[],s,fs,K=>K s fs
 |(g,x)::rest,s,fs,K=>xr g s fun s want=>
  match want with
  |false=>s.fw x.o.dst (.lit undef) [] fun s=>sJ step rest s (fs++[⟨x.idx,[],[]⟩]) K
  |true=>step (x.at s.hp.length) x.o s fun v wr rd=>
   match wr.all (fun q=>decide (q.1<s.hp.length)&&((au x.o.op&&decide (q.1=x.nm))||(match s.hp[q.1]? with|some (some _)=>true|_=>false))) with
   |true=>s.fw x.o.dst v wr fun s=>sJ step rest s (fs++[⟨x.idx,rd,wr.map (·.1)⟩]) K
   |false=>.fail
end
def qe{T:dm}(esz j nm:Nat)(e:SV T.den):Option (SV T.den):=
 match e with
 |.agg l=>(match l[j]? with
  |some (.lit (.slice none 0 0))=>some (.agg (l.set j (.bh esz nm 0 none none)))
  |_=>none)
 |.lit (.slice none 0 0)=>if j=0 then some (.bh esz nm 0 none none) else none
 |_=>none
def I9{T:dm}{ρ:Type}(d:Tmp):List (Nat×Nat)→bA T.den→(bA T.den→Tr ρ)→Tr ρ
 |[],s,K=>K s
 |(j,esz)::r,s,K=>(match cL s.fr d with
  |.ref n _ i k=>(match s.hp[n]? with
   |some (some (.arr g _ f cur es))=>(match (es[i]?).bind (qe esz (k+j) s.hp.length) with
    |some e'=>s.fw none (.lit undef) [(n,.arr g false f cur (es.set i e')),(s.hp.length,.arr true true false 0 [])] fun s=>I9 d r s K
    | none => .no "nil")
   | _ => .no "nil")
  |v=>(match qe esz j s.hp.length v with
   |some v'=>s.fw (some d) v' [(s.hp.length,.arr true true false 0 [])] fun s=>I9 d r s K
   | none => .no "nil"))
def DW{T:dm}{ρ:Type}(l:Tmp→List (Nat×Nat))(dst:Option Tmp)(s:bA T.den)(K:bA T.den→Tr ρ):Tr ρ:=
 match dst with
 |some d=>I9 d (l d) s K
 |none=>K s
def AR{den:Nat→Type}(j:Nat):SV den→Option (SV den)
 |.agg l=>(match Nat.blt j l.length with
  |true=>some (.agg (l.set j .hole))
  |false=>none)
 |_=>none
def yK{T:dm}{ρ:Type}:List (Nat×Nat)→bA T.den→(bA T.den→Tr ρ)→Tr ρ
 |[],s,K=>K s
 |(d,j)::r,s,K=>(match cL s.fr d with
  |.ref n _ i k=>(match s.hp[n]? with
   |some (some (.arr g _ f cur es))=>(match (es[i]?).bind (AR (k+j)) with
    |some e'=>s.fw none (.lit undef) [(n,.arr g false f cur (es.set i e'))] fun s=>yK r s K
    | none => .no "a hole")
   | _ => .no "a hole")
  | _ => .no "a hole")
def cellOf{T:dm}(s:bA T.den)(d j:Nat):Option (SV T.den):=
 match cL s.fr d with
 |.ref n _ i k=>(match s.hp[n]? with
  |some (some (.arr _ _ _ _ es))=>(match es[i]? with
   |some (.agg l)=>l[k+j]?
   |_=>none)
  |_=>none)
 |.agg l=>l[j]?
 |v=>(match Nat.beq j 0 with
  |true=>some v
  |false=>none)
def setCell{T:dm}(s:bA T.den)(d j:Nat)(v:SV T.den):bA T.den:=
 match cL s.fr d with
 |.ref n _ i k=>(match s.hp[n]? with
  |some (some (.arr g cl f cur es))=>(match es[i]? with
   |some (.agg l)=>{ s with hp:=s.hp.set n (some (.arr g cl f cur (es.set i (.agg (l.set (k+j) v))))),wh:=n::s.wh }
   |_=>s)
  |_=>s)
 |.agg l=>{ s with fr:=tX s.n s.fr d (.agg (l.set j v)),wf:=d::s.wf }
 |_=>{ s with fr:=tX s.n s.fr d v,wf:=d::s.wf }
def L2{ρ:Type}:Nat→Nat→Int→(Int→Tr ρ)→Tr ρ
 |0,_,_,_=>.fail
 |b+1,m,n,K=>.cond (n==Int.ofNat m) (K (Int.ofNat m)) (L2 b (m+1) n K)
def DX{T:dm}{ρ:Type}(t:Nat)(l:List (T.den t)):Nat→Nat→(List (SV T.den)→Tr ρ)→Tr ρ
 |0,_,K=>K []
 |b+1,i,K=>.bind l[i]? fun x=>DX t l b (i+1) fun xs=>K (T.up t x::xs)
def yL{T:dm}{ρ:Type}(s:bA T.den)(w:Tw)(K:bA T.den→Tr ρ):Tr ρ:=
 match w with
 |.num d j b=>(match cellOf s d j with
  |some (.lit (.int k n))=>L2 b 0 n fun m=>(setCell s d j (.lit (.int k m))).force K
  | _ => .no "a number")
 |.ZS d j n=>(match cellOf s d j with
  |some (.jw t l)=>.cond (Nat.blt 0 n&&decide (l.length=n)) (DX t l n 0 fun xs=>(setCell s d j (.sl xs)).force K) .fail
  | _ => .no "a list")
 |.arr d n=>(match cL s.fr d with
  |.bh _ nm _ _ _=>(match s.hp[nm]? with
   |some (some (.ca g f cur t l))=>.cond (decide (l.length=n)) (DX t l n 0 fun xs=>bA.force { s with hp:=s.hp.set nm (some (.arr g true f cur xs)),wh:=nm::s.wh } K) .fail
   | _ => .no "an array")
  | _ => .no "an array")
 |.int d j=>(match cellOf s d j with
  |some (.lit (.int k n))=>.bind (some n) fun n=>(setCell s d j (.lit (.int k n))).force K
  | _ => .no "a number")
 |.name d=>(match cL s.fr d with
  |.bh esz nm c rg cap=>(match s.hp[nm]? with
   |some (some (.ca g f cur t l))=>.bind (some l) fun l=>(match rg with
    |none=>bA.force { s with hp:=s.hp.set nm (some (.ca g f cur t l)),wh:=nm::s.wh } K
    |some (off,len)=>.bind (some off) fun off=>.bind (some len) fun len=>
     bA.force { s with fr:=tX s.n s.fr d (.bh esz nm c (some (off,len)) cap),hp:=s.hp.set nm (some (.ca g f cur t l)),wf:=d::s.wf,wh:=nm::s.wh } K)
   | _ => .no "a name")
  | _ => .no "a name")
def T3{T:dm}{ρ:Type}:List Tw→bA T.den→(bA T.den→Tr ρ)→Tr ρ
 |[],s,K=>K s
 |w::r,s,K=>yL s w fun s=>T3 r s K
def T4{T:dm}{ρ:Type}(l:Tmp→List Tw)(dst:Option Tmp)(s:bA T.den)(K:bA T.den→Tr ρ):Tr ρ:=
 match dst with
 |some d=>T3 (l d) s K
 |none=>K s
def w9{den:Nat→Type}(u:List Nat)(fr:tb den):List Nat→List (SV den)
 |[]=>[]
 |d::r=>(match u.contains d with
  |true=>cL fr d
  |false=>.dead)::w9 u fr r
def mi{den:Nat→Type}(n:Nat)(fr:tb den):List Tmp→List (SV den)→tb den
 |p::ps,x::xs=>mi n (tX n fr p x) ps xs
 |_,_=>fr
def Cd(js:List (Nat×lz))(n:Nat)(st:lz):List (Nat×lz):=js.map fun q=>match Nat.beq q.1 n with
 |true=>(q.1,st)
 |false=>q
def DY(js:List (Nat×lz))(n:Nat):List (Nat×lz):=js.filter fun q=>!Nat.beq q.1 n
def sK(js:List (Nat×lz))(n:Nat):Bool:=js.all fun q=>Nat.blt q.1 n
def bA.hJ{T:dm}(s:bA T.den)(n:Nat)(hp:ah T.den)(wh:List Nat)(js:List (Nat×lz)):bA T.den:=
 { s with hp:=hp.set n (some .ij),wh:=wh,js:=DY js n }
def L3{T:dm}{ρ:Type}(s:bA T.den)(n:Nat)(dst:Option Tmp)(b:Bool)(st:lz)(s2:bA T.den)(K:bA T.den→Tr ρ):Tr ρ:=
 match cq s2.js n with
 |some .busy=>(match sK s2.js s.hp.length with
  |true=>nk (gp s.hp.length (.lit (.bool b)) s2.hp) fun hp=>bA.fw ⟨s.fn,s.n,s.fr,hp,s.wf,s2.wh,Cd s2.js n st⟩ dst (.lit (.bool b)) [] K
  | false => .no "a round's end")
 | _ => .no "a round's end"
def qV(pr:List Nat)(fs:List fH):Bool:=
 match fs.all fun f=>f.wr.isEmpty with
 |true=>true
 |false=>fk pr fs
def HP{T:dm}(Q:gO)(ev:Operand→SV T.den)(op:Op)(H:ah T.den)(n:Nat)(o':aB T.den):Bool:=
 match op with
 |.store t a _=>(match Q.ty t,ev a,H[n]? with
  |some r,.ref n' _ i j,some (some (.arr _ false _ cur es))=>(match es[i]? with
   |some (.agg l)=>Nat.beq n' n&&Nat.ble (j+r.size) l.length&&((l.drop j).take r.size).all isHole&&Nat.beq cur o'.cur&&Nat.beq es.length o'.len
   |_=>false)
  |_,_,_=>false)
 |_=>false
def vo[ab]{T:dm}(Q:gO)(nm:Nat){ρ:Type}:List Oper→bA T.den→Option Nat→List Nat→(bA T.den→Option Nat→List Nat→Tr ρ)→Tr ρ
 |[],s,ov,rd,K=>K s ov rd
 |o::r,s,ov,rd,K=>(match o.guard with
  | some _ => .no "a look"
  |none=>(match o.op with
   | .call _ => .no "a look"
   |.assign (.const (.slice none 0 0))=>s.fw o.dst (.lit bV) [] fun s=>vo Q nm r s ov rd K
   |op=>OT Q s.hp.length s.hp (cX s.fr) o fun v wr rd'=>(match wr.all fun q=>Nat.ble nm q.1 with
     |true=>s.fw o.dst v wr fun s=>vo Q nm r s ov (rd++rd') K
     |false=>(match ov,wr with
      |none,[(n,o')]=>(match Nat.blt n nm&&HP Q (cX s.fr) op s.hp n o' with
       |true=>s.fw o.dst v [(n,o')] fun s=>vo Q nm r s (some n) (rd++(rd'++[n])) K
       | false => .no "a look")
      | _, _ => .no "a look"))))
def mj[ab]{T:dm}(Q:gO)(nm:Nat){ρ:Type}:Code→bA T.den→Option Nat→List Nat→(Bool→bA T.den→Option Nat→List Nat→Tr ρ)→Tr ρ
 |.skip,s,ov,rd,K=>K false s ov rd
 |.ret,s,ov,rd,K=>K true s ov rd
 |.seq a b,s,ov,rd,K=>mj Q nm a s ov rd fun q s ov rd=>(match q with
  |true=>K true s ov rd
  |false=>mj Q nm b s ov rd K)
 |.region _ ops false,s,ov,rd,K=>vo Q nm ops.toList s ov rd (K false)
 |.cond o a b,s,ov,rd,K=>(match cX s.fr o with
  |.lit (.bool t)=>.cond t (mj Q nm a s ov rd K) (mj Q nm b s ov rd K)
  | _ => .no "a look")
 | _, _, _, _, _ => .no "a look"
def HQ{den:Nat→Type}(fr:tb den)(rs:List ResultVar):List Nat:=rs.flatMap fun
 |.tmp _=>[]
 |.cell a _=>nh (cL fr a)
def xv{den:Nat→Type}(fr:tb den)(rs:List ResultVar):Bool:=rs.all fun
 |.tmp _=>true
 |.cell a _=>!bQ (cL fr a)
def L4[ab](S:oF){ρ:Type}(g:FuncId)(args:List (SV S.T.den))(H:ah S.T.den)(K:EK S.T ρ):Tr ρ:=
 match S.C.kind g,S.C.pB g,S.C.P.funcs[g]? with
 |.imp,none,some fn=>(match fn.body with
  |some c=>(match CF c with
   | true => .no "a look"
   |false=>mj (S.Qf g) H.length c ⟨g,max fn.ntmps args.length,mN 0 args,H,[],[],[]⟩ none [] fun _ s ov rd=>sE S.T S.Q s fn.results.toList fun l=>
   (match bx H.length (rA l)&&xv s.fr fn.results.toList&&(match ov with
     |some n=>(match s.hp[n]? with
      |some o=>ko H.length o
      |none=>false)
     |none=>true) with
   |true=>K (rA l) [] ((rd++HQ s.fr fn.results.toList).filter fun n=>Nat.blt n H.length)
   | false => .no "a look's answer"))
  | none => .no "a look")
 | _, _, _ => .no "a call without an answer"
def HR{den:Nat→Type}(P:Program)(v:SV den)(name:String):Option (FuncId×SV den):=
 match v with
 |.fW t x=>(Bm P t name).map fun f=>(f,x)
 |_=>none
def VV[ab](S:oF){ρ:Type}(nm:Nat)(o:Oper)(s:bA S.T.den)(K:EK S.T ρ):Tr ρ:=
 match o.op with
 |.call c=>
  (match c.callee with
  |.builtin _=>OT (S.Qf s.fn) nm s.hp (cX s.fr) o K
  |.value f=>
   (match mg (cX s.fr f) (c.args.toList.map (cX s.fr)) with
   |none=>.fail
   |some (g,args)=>(match au o.op with
    |true=>(match args.any bQ,S.own g with
     |false,some σ=>OV S.T σ nm s.hp args K
     | _, _ => .no "a call of one's own without an answer")
    |false=>(match args.any bQ,S.sum g with
     |false,some σ=>I5 S.T σ s.hp args K
     |false,none=>L4 S g args s.hp K
     | _, _ => .no "a call without an answer")))
  |.invoke rv name=>
   (match HR S.C.P (cX s.fr rv) name with
   | none => .no "invoke"
   |some (g,x)=>(match (x::c.args.toList.map (cX s.fr)).any bQ,S.sum g with
    |false,some σ=>I5 S.T σ s.hp (x::c.args.toList.map (cX s.fr)) K
    | _, _ => .no "a call without an answer")))
 |_=>OT (S.Qf s.fn) nm s.hp (cX s.fr) o K
def L5[ab]{T:dm}{ρ:Type}(ec:Code→bA T.den→(ph T.den→Tr ρ)→Tr ρ)(eo:Oper→bA T.den→(bA T.den→Tr ρ)→Tr ρ):Code→bA T.den→(ph T.den→Option (SV T.den)→Tr ρ)→Tr ρ
 |.seq x y,s,K=>
  (match tj x with
  |some (ops,v)=>oI ops ops.toList.dropLast fun l=>wB eo l s fun s1=>(match mg (cX s1.fr v) [] with
   |some _=>ec y s1 fun o=>K o (some (cX s1.fr v))
   | none => .no "what is deferred")
  |none=>ec x s fun
   |.norm s'=>L5 ec eo y s' K
   |r=>K r none)
 |c,s,K=>ec c s fun o=>K o none
def DZ[ab]{T:dm}{ρ:Type}(ec:Code→bA T.den→(ph T.den→Tr ρ)→Tr ρ)(Q:gO)(P:Program)(rs:List ResultVar)(s:bA T.den)(d:Option (SV T.den))(K:List (SV T.den)→ah T.den→List Nat→List (Nat×lz)→Tr ρ):Tr ρ:=
 match d with
 |none=>sE T Q s rs fun l=>K l s.hp s.wh s.js
 |some v=>(match mg v [] with
  | none => .no "what is deferred"
  |some (g,as)=>(match P.funcs[g]? with
   |none=>.fail
   |some fg=>(match fg.body with
    |none=>.fail
    |some cg=>(match cA cg&&!as.any bQ with
     | false => .no "what is deferred"
     |true=>bA.force ⟨g,max fg.ntmps as.length,mN 0 as,s.hp,[],s.wh,s.js⟩ fun t0=>ec (oh cg) t0 fun
      |.norm t|.ret t=>sE T Q t fg.results.toList fun _=>sE T Q ⟨s.fn,s.n,s.fr,t.hp,s.wf,t.wh,t.js⟩ rs fun l=>K l t.hp t.wh t.js
      |.exit _ _=>.fail))))
mutual
def Qb[ab](S:oF):Nat→(ρ:Type)→FuncId→List (SV S.T.den)→ah S.T.den→List Nat→List (Nat×lz)→(SV S.T.den→ah S.T.den→List Nat→List (Nat×lz)→Tr ρ)→Tr ρ
 | 0, _, _, _, _, _, _, _ => .no "fuel"
 |k+1,ρ,f,args,hp,wh,js,K=>
  match S.C.P.funcs[f]? with
  |none=>.fail
  |some fn=>
   match fn.body with
   |none=>.fail
   |some c=>sD [max fn.ntmps args.length] fun _=>bA.force ⟨f,max fn.ntmps args.length,mN 0 args,hp,[],wh,js⟩ fun s=>
    (match CF c with
    |true=>(match cA c with
     |true=>L5 (fun c s K=>xa S k ρ c s K) (fun o s K=>OX S k ρ o s K) c s fun o d=>(match o with
      |.norm s'|.ret s'=>DZ (fun c s K=>xa S k ρ c s K) S.Q S.C.P fn.results.toList s' d fun l hp wh js=>K (rA l) hp wh js
      |.exit _ _=>.fail)
     | false => .no "a range beside a deferred call")
    |false=>xa S k ρ c s fun
    |.norm s|.ret s=>sE S.T S.Q s fn.results.toList fun l=>K (rA l) s.hp s.wh s.js
    |.exit _ _=>.fail)
def xa[ab](S:oF):Nat→(ρ:Type)→Code→bA S.T.den→(ph S.T.den→Tr ρ)→Tr ρ
 | 0, _, _, _, _ => .no "fuel"
 |k+1,ρ,c,s,K=>
  match c with
  |.skip|.label _=>K (.norm s)
  |.ret=>K (.ret s)
  |.exit id=>K (.exit id s)
  |.seq a b=>xa S k ρ a s fun
   |.norm s'=>xa S k ρ b s' K
   |r=>K r
  |.cond o a b=>
   (match cX s.fr o with
   |.lit (.bool t)=>.cond t (xa S k ρ a s K) (xa S k ρ b s K)
   | _ => .no "cond")
  |.block id b=>xa S k ρ b s fun
   |.exit J0 s'=>if J0=id then K (.norm s') else K (.exit J0 s')
   |r=>K r
  |.scope b=>
   (match pH b with
   |some c=>xa S k ρ c s K
   | none => .no "code")
  |.loop b=>
   (match S.hint s.fn (sG b s) with
   |none=>(match S.vg s.fn (keyOf b) with
    |true=>xa S k ρ b s fun
     |.norm s'=>(match sK s'.js s.hp.length with
      |true=>(ka s.hp.length s').force fun s'=>xa S k ρ (.loop b) s' K
      | false => .no "a round's end")
     |r=>K r
    |false=>.mw s b)
   |some h=>
    (match h.ok&&Cb s.n h.az h.dead&&sH s.hp.length h.az h.objs,(vn h.az h.objs s).bind (vb h.jY) with
    |true,some x0=>.loop (τ:=HL S.T.den h.jY) (ω:=zT S.T.den h.objs h.outs)
      (fun x=>bA.force { dc h.az h.dead h.objs [] s (gl h.jY x) with wf:=[],wh:=[] } fun s1=>xa S k _ b s1 fun
        |.norm s'=>
         (match ka s.hp.length s' with
         |uv=>(match decide (uv.js=s.js)&&sI h.az h.dead h.objs [] s uv,(vn h.az h.objs uv).bind (vb h.jY) with
          |true,some y=>ik s.hp uv.hp h.objs (.ret (.inl y))
          |_,_=>.bad (sG b s) none s uv))
        |.exit id s'=>ub (sG b s) h s s' (some id) h.outs fun w=>.ret (.inr w)
        |.ret s'=>ub (sG b s) h s s' none h.outs fun w=>.ret (.inr w))
      x0 fun w=>uw h s h.outs w K
    |_,_=>.bad (sG b s) none s s))
  |.region id ops draw=>
   (match draw with
   |false=>yK (S.C.iE s.fn id) s fun s=>T3 (S.tw s.fn (1000000+id)) s fun s=>oI ops ops.toList fun l=>wB (fun o s K=>OX S k ρ o s K) l s fun s'=>K (.norm s')
   |true=>
    if ti ops=true then
     yK (S.C.iE s.fn id) s fun s1=>T3 (S.tw s.fn (1000000+id)) s1 fun s1=>oI ops ops.toList fun l=>yJ (mh (bH 0 s1.hp.length (ops.toList.take (S.C.head s.fn id ops))) l) fun li=>sJ (fun nm o s K=>VV S nm o s K) li
       { s1 with hp:=s1.hp++List.replicate ((ops.toList.take (S.C.head s.fn id ops)).filter fun o=>au o.op).length none } [] fun s' fs=>
      if (qV (cd ops.toList) fs && mZ (cd ops.toList) ops.size (S.C.head s.fn id ops)) = true then wB (fun o s K => OX S k ρ o s K) (l.drop (S.C.head s.fn id ops)) s' fun s' => K (.norm s') else .no "an order"
    else .no "a region")
  |.rangeFunc f ps as bd=>
   (match mg (cX s.fr f) [.mp true s.hp.length] with
   |some (g,args)=>(match !args.any bQ&&(c7 as++c7 bd).all (fun d=>!bQ (cL s.fr d)||!Nat.blt d s.n) with
    |true=>Qb S k ρ g args (s.hp++[some (.pg s.fn ps as bd (w9 (c7 as++c7 bd) s.fr (List.range s.n)))]) s.wh ((s.hp.length,.ready)::s.js) fun _ hp wh js=>
     (match cq js s.hp.length with
     |some .ready=>K (.norm (s.hJ s.hp.length hp wh js))
     |some (.jump none)=>K (.ret (s.hJ s.hp.length hp wh js))
     |some (.jump (some id))=>K (.exit id (s.hJ s.hp.length hp wh js))
     | _ => .no "a range's end")
    | false => .no "a range over what is dead")
   | none => .no "a range")
  | _ => .no "code"
def OX[ab](S:oF):Nat→(ρ:Type)→Oper→bA S.T.den→(bA S.T.den→Tr ρ)→Tr ρ
 | 0, _, _, _, _ => .no "fuel"
 |k+1,ρ,o,s,K=>
  match o.op with
  |.call c=>
   (match c.callee with
   |.builtin _=>OT (S.Qf s.fn) s.hp.length s.hp (cX s.fr) o fun v wr _=>s.fw o.dst v wr K
   |.value f=>
    (match mg (cX s.fr f) (c.args.toList.map (cX s.fr)) with
    |none=>(match cX s.fr f with
     |.mp true n=>(match s.hp[n]?,cq s.js n,(c.args.toList.map (cX s.fr)).any bQ with
      |some (some (.pg fn ps as bd fr)),some .ready,false=>
       (match Nat.beq c.args.size ps.size with
       |true=>bA.force ⟨fn,fr.length,mi fr.length (mN 0 fr) ps.toList (c.args.toList.map (cX s.fr)),s.hp,[],s.wh,s.js⟩ fun s0=>
        xa S k ρ as s0 fun
        |.norm s1=>(match cq s1.js n with
         |some .ready=>xa S k ρ bd { s1 with js:=Cd s1.js n .busy } fun
          |.norm s2=>L3 s n o.dst true .ready s2 K
          |.exit id s2=>L3 s n o.dst false (.jump (some id)) s2 K
          |.ret s2=>L3 s n o.dst false (.jump none) s2 K
         | _ => .no "a round")
        | _ => .no "a round"
       | false => .no "a round")
      | _, _, _ => .no "a round")
     | _ => .no "what is called")
    |some (g,args)=>(match au o.op with
     |true=>(match args.any bQ,S.own g with
      |false,some σ=>OV S.T σ s.hp.length s.hp args fun v wr _=>s.fw o.dst v wr K
      | _, _ => .no "a call of one's own without an answer")
     |false=>(match args.any bQ,S.sum g with
     |false,some σ=>I5 S.T σ s.hp args fun v wr _=>s.fw o.dst v wr K
     |false,none=>(match S.C.kind g with
      | .pure => .no "a call without an answer"
      |.imp=>Qb S k ρ g args s.hp s.wh s.js fun v hp wh js=>(match sK js s.hp.length with
       |true=>nk (gp s.hp.length v hp) fun hp=>bA.fw ⟨s.fn,s.n,s.fr,hp,s.wf,wh,js⟩ o.dst v [] K
       | false => .no "a call's end"))
     | true, _ => .no "a dead argument")))
   |.invoke rv name=>
    (match HR S.C.P (cX s.fr rv) name with
    | none => .no "invoke"
    |some (g,x)=>(match (x::c.args.toList.map (cX s.fr)).any bQ,S.sum g with
     |false,some σ=>I5 S.T σ s.hp (x::c.args.toList.map (cX s.fr)) fun v wr _=>s.fw o.dst v wr K
     |false,none=>(match S.C.kind g with
      | .pure => .no "a call without an answer"
      |.imp=>Qb S k ρ g (x::c.args.toList.map (cX s.fr)) s.hp s.wh s.js fun v hp wh js=>(match sK js s.hp.length with
       |true=>nk (gp s.hp.length v hp) fun hp=>bA.fw ⟨s.fn,s.n,s.fr,hp,s.wf,wh,js⟩ o.dst v [] K
       | false => .no "a call's end"))
     | true, _ => .no "a dead argument")))
  |.assign (.const (.slice none 0 0))=>
   (match o.dst with
   |some d=>
    if S.C.acc s.fn d then
     match S.Q.elem o.type with
     |some r=>if 0<r.size then s.fw (some d) (.bh r.size s.hp.length 0 none none) [(s.hp.length,.arr true true false 0 [])] K else .fail
     |none=>.fail
    else s.fw (some d) (.lit bV) [] K
   |none=>K s)
  |_=>OT (S.Qf s.fn) s.hp.length s.hp (cX s.fr) o fun v wr _=>s.fw o.dst v wr fun s=>DW (S.C.rk s.fn) o.dst s fun s=>T4 (S.tw s.fn) o.dst s K
end
end Go.PI
namespace Go.PI
def L6{den:Nat→Type}(res:List Nat)(v:SV den):List (SV den):=
 match res with
 |[_]=>[v]
 |_=>match v with
  |.jF l=>l
  |_=>[.dead]
def Rw[ab](S:oF)(k:Nat)(f:FuncId)(args res:List Nat)(xs:HL S.T.den (args.map .v)):Tr (HL S.T.den (res.map .v)):=
 Qb S k _ f (Rq S.T (gl _ xs)) [] [] [] fun v hp _ _=>
  gn S.T hp 1000 v fun v' _=>match (I0 S.T res (L6 res v')).bind (vb (res.map .v)) with
  |some r=>.ret r
  | none => .no "a result"
end Go.PI
end
section
/- PS: words for the printed tables of a seat's types. -/
namespace Go.PI
section
variable {den:Nat→Type}{α:Type}
def dI(k:IntKind):SV den→Option Int
 |.lit (.int k' n)=>if k=k' then some n else none
 |_=>none
def dB:SV den→Option Bool
 |.lit (.bool b)=>some b
 |_=>none
def dS:SV den→Option ByteArray
 |.lit (.string s)=>some s
 |_=>none
def T5(d:SV den→Option α):List (SV den)→Option (List α)
 |[]=>some []
 |v::vs=>(d v).bind fun x=>(T5 d vs).map fun l=>x::l
def Qc(e:Nat)(d:SV den→Option (den e)):SV den→Option (List (den e))
 |.jw t l=>if h:t=e then some (AO h l) else none
 |.sl vs=>T5 d vs
 |.lit (.slice none 0 0)=>some []
 |_=>none
def Xn(d:SV den→Option α):SV den→Option α
 |.bj v 0=>d v
 |_=>none
end
abbrev OY{α:Type}(q:α→AV→Prop)(x:List α)(a:AV):Prop:=(∃ l,a=.sl l∧aw q x l)∨(x=[]∧a=.lit bV)
abbrev VW{α:Type}(q:α→AV→Prop)(x:α)(a:AV):Prop:=∃ b,a=.bj b 0∧q x b
abbrev lc{α:Type}(n m:Nat)(l:List α):Bool:=decide (n+m≤l.length)
def zI:AV:=.lit (.int .i64 0)
def zB:AV:=.lit (.bool false)
def zF:AV:=.lit .nilFunc
def zL:AV:=.lit (.slice none 0 0)
def zS:AV:=.lit (.string ByteArray.empty)
def kI:CK:=.int .i64
def mI:kp:=⟨false,1,8,some zI,.other,none,none⟩
def mF:kp:=⟨false,1,8,some zF,.other,none,none⟩
def mP:kp:=⟨false,1,8,some (.lit (.pointer none)),.other,none,none⟩
def mS:kp:=⟨false,1,16,some zS,.other,none,none⟩
def mL(e:Nat):kp:=⟨false,1,24,some zL,.slice e,none,none⟩
end Go.PI
end
section
/- PS, part C: what a symbolic value stands for. -/
namespace Go.PI
section
variable {α β:Type}{P:α→β→Prop}
theorem aw.length:∀ {l:List α} {m:List β},aw P l m→l.length=m.length
 |[],[],_=>rfl
 |_::_,_::_,h=>by simp[aw.length h.2]
theorem aw.get:∀ {l:List α} {m:List β},aw P l m→∀ {i:Nat} {x:α},l[i]?=some x→∃ y,m[i]?=some y∧P x y
 |x::xs,y::ys,h,0,z,e=>by simp at e; subst e; exact⟨y,rfl,h.1⟩
 |x::xs,y::ys,h,i+1,z,e=>by simp at e ⊢; exact aw.get h.2 e
 |[],[],_,i,z,e=>by simp at e
theorem aw.get':∀ {l:List α} {m:List β},aw P l m→∀ {i:Nat} {y:β},m[i]?=some y→∃ x,l[i]?=some x∧P x y
 |x::xs,y::ys,h,0,z,e=>by simp at e; subst e; exact⟨x,rfl,h.1⟩
 |x::xs,y::ys,h,i+1,z,e=>by simp at e ⊢; exact aw.get' h.2 e
 |[],[],_,i,z,e=>by simp at e
theorem aw.mono{Q:α→β→Prop}(NK:∀ x y,P x y→Q x y):∀ {l:List α} {m:List β},aw P l m→aw Q l m
 |[],[],_=>trivial
 |_::_,_::_,h=>⟨NK _ _ h.1,aw.mono NK h.2⟩
theorem aw.append:∀ {l l':List α} {m m':List β},aw P l m→aw P l' m'→aw P (l++l') (m++m')
 |[],_,[],_,_,h=>h
 |_::_,_,_::_,_,h,h'=>⟨h.1,aw.append h.2 h'⟩
theorem aw.set:∀ {l:List α} {m:List β},aw P l m→∀ (i:Nat) {x:α} {y:β},P x y→aw P (l.set i x) (m.set i y)
 |[],[],_,_,_,_,_=>trivial
 |_::_,_::_,h,0,_,_,hp=>⟨hp,h.2⟩
 |_::_,_::_,h,i+1,_,_,hp=>⟨h.1,aw.set h.2 i hp⟩
theorem aw.drop:∀ {l:List α} {m:List β},aw P l m→∀ i,aw P (l.drop i) (m.drop i)
 |[],[],_,i=>by simp[aw]
 |_::_,_::_,h,0=>h
 |_::_,_::_,h,i+1=>aw.drop h.2 i
theorem aw.take:∀ {l:List α} {m:List β},aw P l m→∀ i,aw P (l.take i) (m.take i)
 |[],[],_,i=>by simp[aw]
 |_::_,_::_,h,0=>trivial
 |_::_,_::_,h,i+1=>⟨h.1,aw.take h.2 i⟩
theorem aw.replicate{x:α}{y:β}(h:P x y):∀ n,aw P (List.replicate n x) (List.replicate n y)
 |0=>trivial
 |n+1=>⟨h,aw.replicate h n⟩
theorem aw.D0{m:List β}(h:aw P [] m):m=[]:=by cases m with
 |nil=>rfl
 |cons y ys=>exact h.elim
theorem aw.eu:∀ {l:List α} {m:List β},l.length=m.length→(∀ (i:Nat) (x:α) (y:β),l[i]?=some x→m[i]?=some y→P x y)→aw P l m
 |[],[],_,_=>trivial
 |x::xs,y::ys,h,hg=>⟨hg 0 x y rfl rfl,aw.eu (by simpa using h) fun i a b ha hb=>hg (i+1) a b (by simpa using ha) (by simpa using hb)⟩
end
variable {T:dm}
def fU{den:Nat→Type}(H:ah den)(n c aq:Nat):Prop:=
 ∃ o:aB den,H[n]?=some (some o)∧c≤o.cur∧(c=o.cur→aq=o.len)
def Xo(a0:AV)(d:Nat)(a:AV):Prop:=
 (∃ n aq k j,a0=.ref n aq k j∧a=.ref n aq k (j+d))∨∃ e j,a0=.bj e j∧a=.bj e (j+d)
mutual
def R(T:dm)(H:ah T.den):SV T.den→AV→Prop
 |.dead,_=>False
 |.hole,a=>a=.any
 |.lit v,a=>a=.lit v
 |.agg l,a=>∃ l',a=.agg l'∧RL T H l l'
 |.jF l,a=>∃ l',a=.jF l'∧RL T H l l'
 |.sl l,a=>∃ l',a=.sl l'∧RL T H l l'∧av l=true
 |.jw t l,a=>(∃ l',a=.sl l'∧aw (T.rp t) l l')∨(l=[]∧a=.lit bV)
 |.bj e j,a=>∃ e',a=.bj e' j∧R T H e e'∧aE e=true
 |.ref n c i j,a=>∃ aq,a=.ref n aq i j∧fU H n c aq
 |.iD n c i j ln cp,a=>∃ aq,a=.iD n aq i j ln cp∧fU H n c aq
 |.bh esz n c rg cap,a=>∃ aq,fU H n c aq∧(match rg with
  |none=>a=.bh esz n aq 0 aq cap
  |some (off,len)=>a=.bh esz n aq off len cap)
 |.jd fn f c,a=>∃ f' c',a=.jd fn f' c'∧RL T H f f'∧RL T H c c'
 |.fW t v,a=>∃ v',a=.fW t v'∧R T H v v'
 |.w8 t l c b,a=>(b=true∧∃ l',a=.kW l' c∧aw (T.rp t) l l')∨(b=false∧l=[]∧(a=.sl []∨a=.lit bV))
 |.nz,a=>a=.nz
 |.mp y n,a=>a=.mp y n∧∃ o:aB T.den,H[n]?=some (some o)
 |.ss v s len i,a=>∃ a0,R T H v a0∧i<len∧Xo a0 (i*s) a
def RL(T:dm)(H:ah T.den):List (SV T.den)→List AV→Prop
 |[],[]=>True
 |x::xs,y::ys=>R T H x y∧RL T H xs ys
 |_,_=>False
end
theorem aR{H:ah T.den}:∀ {l:List (SV T.den)} {m:List AV},RL T H l m↔aw (R T H) l m
 |[],[]=>by simp[RL,aw]
 |x::xs,y::ys=>by simp only[RL,aw]; rw[aR]
 |[],_::_=>by simp[RL,aw]
 |_::_,[]=>by simp[RL,aw]
def RV(T:dm)(H:ah T.den)(v:SV T.den)(a:AV):Prop:=v=.dead∨R T H v a
theorem RV.live{H:ah T.den}{v:SV T.den}{a:AV}(h:RV T H v a)(hd:bQ v=false):R T H v a:=by
 rcases h with h|h
 ·subst h; simp[bQ]at hd
 ·exact h
def RD(T:dm)(H:ah T.den)(v:SV T.den)(a:AV):Prop:=(v=.dead∧a=.any)∨R T H v a
def RO(T:dm)(H:ah T.den):aB T.den→aJ→Prop
 |.arr g cl f _ es,a=>∃ es',a=.arr g cl f es'∧RL T H es es'∧(cl=true→av es=true)
 |.ca g f _ t l,a=>∃ es',a=.arr g true f es'∧aw (T.rp t) l es'
 |.ij,a=>(∃ g f es',a=.arr g true f es')∨∃ k vs,a=.gw k vs∧∀ n,cQ n vs=true
 |.kz kk t m,a=>∃ vs,a=.gw (.map kk (m.map fun q=>kk.v q.1)) vs∧aw (T.rp t) (m.map (·.2)) vs
 |.pg fn ps as bd fr,a=>∃ st vs,a=.gw (.loop fn ps as bd st) vs∧aw (RD T H) fr vs
def Ce(T:dm)(H:ah T.den):Option (aB T.den)→Option aJ→Prop
 |none,none=>True
 |some o,some a=>RO T H o a
 |_,_=>False
def RH(T:dm)(H:ah T.den)(hp:ag):Prop:=aw (Ce T H) H hp
def aB.isRec{den:Nat→Type}:aB den→Bool
 |.pg ..=>true
 |_=>false
def recAt{den:Nat→Type}(H:ah den)(n:Nat):Bool:=
 match H[n]? with
 |some (some o)=>o.isRec
 |_=>false
def dy{den:Nat→Type}(H H':ah den):Prop:=
 ∀ (n:Nat) (o:aB den),H[n]?=some (some o)→∃ o':aB den,H'[n]?=some (some o')∧o.cur≤o'.cur∧(o'.cur=o.cur→o'.len=o.len)
theorem dy.refl{den:Nat→Type}(H:ah den):dy H H:=fun _ o h=>⟨o,h,Nat.le_refl _,fun _=>rfl⟩
theorem dy.trans{den:Nat→Type}{H H' ZU:ah den}(h:dy H H')(h':dy H' ZU):dy H ZU:=by
 intro n o ho
 obtain⟨o',h1,h2,h3⟩:=h n o ho
 obtain⟨Xp,h4,h5,h6⟩:=h' n o' h1
 exact⟨Xp,h4,Nat.le_trans h2 h5,fun e=>by rw[h6 (by omega),h3 (by omega)]⟩
theorem fU.mono{den:Nat→Type}{H H':ah den}(h:dy H H'){n c aq:Nat}(hv:fU H n c aq):fU H' n c aq:=by
 obtain⟨o,h1,h2,h3⟩:=hv
 obtain⟨o',h4,h5,h6⟩:=h n o h1
 exact⟨o',h4,Nat.le_trans h2 h5,fun e=>by rw[h3 (by omega),h6 (by omega)]⟩
mutual
theorem R.mono{H H':ah T.den}(hg:dy H H'):∀ {v:SV T.den} {a:AV},R T H v a→R T H' v a
 |.dead,_,h=>by simp[R]at h
 |.hole,a,h=>by simpa[R] using h
 |.lit v,a,h=>by simpa[R] using h
 |.agg l,a,h=>by
  simp only[R]at h ⊢
  obtain⟨l',h1,h2⟩:=h
  exact⟨l',h1,RL.mono hg h2⟩
 |.jF l,a,h=>by
  simp only[R]at h ⊢
  obtain⟨l',h1,h2⟩:=h
  exact⟨l',h1,RL.mono hg h2⟩
 |.sl l,a,h=>by
  simp only[R]at h ⊢
  obtain⟨l',h1,h2,h3⟩:=h
  exact⟨l',h1,RL.mono hg h2,h3⟩
 |.jw t l,a,h=>by simpa[R] using h
 |.w8 t l c b,a,h=>by simp only[R]at h ⊢; exact h
 |.nz,a,h=>by simp only[R]at h ⊢; exact h
 |.bj e j,a,h=>by
  simp only[R]at h ⊢
  obtain⟨e',h1,h2,h3⟩:=h
  exact⟨e',h1,R.mono hg h2,h3⟩
 |.ref n c i j,a,h=>by
  simp only[R]at h ⊢
  obtain⟨aq,h1,h2⟩:=h
  exact⟨aq,h1,h2.mono hg⟩
 |.iD n c i j ln cp,a,h=>by
  simp only[R]at h ⊢
  obtain⟨aq,h1,h2⟩:=h
  exact⟨aq,h1,h2.mono hg⟩
 |.bh esz n c rg cap,a,h=>by
  simp only[R]at h ⊢
  obtain⟨aq,h1,h2⟩:=h
  exact⟨aq,h1.mono hg,h2⟩
 |.jd fn f c,a,h=>by
  simp only[R]at h ⊢
  obtain⟨f',c',h1,h2,h3⟩:=h
  exact⟨f',c',h1,RL.mono hg h2,RL.mono hg h3⟩
 |.fW t v,a,h=>by
  simp only[R]at h ⊢
  obtain⟨v',h1,h2⟩:=h
  exact⟨v',h1,R.mono hg h2⟩
 |.mp y n,a,h=>by
  simp only[R]at h ⊢
  obtain⟨h1,o,h2⟩:=h
  obtain⟨o',h3,_⟩:=hg n o h2
  exact⟨h1,o',h3⟩
 |.ss v s len i,a,h=>by
  simp only[R]at h ⊢
  obtain⟨a0,h1,h2,h3⟩:=h
  exact⟨a0,R.mono hg h1,h2,h3⟩
theorem RL.mono{H H':ah T.den}(hg:dy H H'):∀ {l:List (SV T.den)} {m:List AV},RL T H l m→RL T H' l m
 |[],[],_=>by simp[RL]
 |x::xs,y::ys,h=>by
  simp only[RL]at h ⊢
  exact⟨R.mono hg h.1,RL.mono hg h.2⟩
 |[],_::_,h=>by simp[RL]at h
 |_::_,[],h=>by simp[RL]at h
end
theorem RV.mono[ab]{H H':ah T.den}(hg:dy H H'){v:SV T.den}{a:AV}(h:RV T H v a):RV T H' v a:=h.imp id (R.mono hg)
theorem RO.mono[ab]{H H':ah T.den}(hg:dy H H'){o:aB T.den}{a:aJ}(h:RO T H o a):RO T H' o a:=by
 cases o with
 |arr g cl f cur es=>
  obtain⟨es',h1,h2,h3⟩:=h
  exact⟨es',h1,RL.mono hg h2,h3⟩
 |ca g f cur t l=>exact h
 |ij=>exact h
 |kz kk t m=>exact h
 |pg fn ps as bd fr=>
  obtain⟨st,vs,h1,h2⟩:=h
  exact⟨st,vs,h1,aw.mono (fun _ _ h=>h.imp id (R.mono hg)) h2⟩
theorem Ce.mono[ab]{H H':ah T.den}(hg:dy H H'){o:Option (aB T.den)}{a:Option aJ}(h:Ce T H o a):Ce T H' o a:=by
 cases o<;>cases a<;>first|exact h|exact RO.mono hg h
theorem RH.length[ab]{H:ah T.den}{hp:ag}(h:RH T H hp):H.length=hp.length:=aw.length h
theorem RH.obj[ab]{H:ah T.den}{hp:ag}(h:RH T H hp){n:Nat}{o:aB T.den}(ho:H[n]?=some (some o)):∃ a,hp[n]?=some (some a)∧RO T H o a:=by
 obtain⟨a,h1,h2⟩:=aw.get h ho
 cases a with
 |none=>exact h2.elim
 |some a=>exact⟨a,h1,h2⟩
theorem RH.SC[ab]{H:ah T.den}{hp:ag}(h:RH T H hp){n:Nat}{o o':aB T.den}{a':aJ}(ho:H[n]?=some (some o))(hc:o.cur≤o'.cur)(hl:o'.cur=o.cur→o'.len=o.len)
  (hr:RO T H o' a'):dy H (H.set n (some o'))∧RH T (H.set n (some o')) (hp.set n (some a')):=by
 have hg:dy H (H.set n (some o')):=by
  intro m q hq
  by_cases e:m=n
  ·grind
  ·grind
 exact⟨hg,aw.set (aw.mono (fun _ _=>Ce.mono hg) h) n (show Ce T _ (some o') (some a') from RO.mono hg hr)⟩
theorem RH.new[ab]{H:ah T.den}{hp:ag}(h:RH T H hp){nm:Nat}{o':aB T.den}{a':aJ}(hn:nm=H.length∨H[nm]?=some .none)(hr:RO T H o' a'):
  dy H (bM H nm o')∧RH T (bM H nm o') (setObj hp nm a'):=by
 have hlen:=h.length
 unfold bM setObj
 by_cases e:nm=H.length
 ·rw[if_pos e,if_pos (by omega)]
  have hg:dy H (H++[some o']):=by
   intro m q hq
   have bL:=(List.getElem?_eq_some_iff.1 hq).1
   exact⟨q,by rw[List.getElem?_append_left bL]; exact hq,Nat.le_refl _,fun _=>rfl⟩
  exact⟨hg,aw.append (aw.mono (fun _ _=>Ce.mono hg) h) ⟨RO.mono hg hr,trivial⟩⟩
 ·rw[if_neg e,if_neg (by omega)]
  have hn:H[nm]?=some .none:=hn.resolve_left e
  have hg:dy H (H.set nm (some o')):=by
   intro m q hq
   by_cases e:m=nm
   ·subst e; rw[hn]at hq; simp at hq
   ·grind
  exact⟨hg,aw.set (aw.mono (fun _ _=>Ce.mono hg) h) nm (show Ce T _ (some o') (some a') from RO.mono hg hr)⟩
structure dm.Ok(T:dm):Prop where
 up:∀ t x a H,T.rp t x a→R T H (T.up t x) a
 dn:∀ t v x a H,T.dn t v=some x→R T H v a→T.rp t x a
 ok:∀ t x a,T.rp t x a→aC (T.agg t) (T.size t) a=true
 closed:∀ t x a,T.rp t x a→closed a=true
 alt:∀ t f,T.alt t=some f→∀ x,(bif f.1 x then f.2.1 x else f.2.2 x)=T.up t x
theorem HS{T:dm}(hT:T.Ok){ρ:Type}(t:Nat)(x:T.den t)(K:SV T.den→Tr ρ):(VU t x K).run=(K (T.up t x)).run:=by
 unfold VU
 split
 ·rfl
 ·rename_i f hf
  have h:=hT.alt t f hf x
  simp only[Tr.run]
  cases hb:f.1 x<;>rw[hb]at h<;>rw[←h]<;>rfl
theorem jB{den:Nat→Type}:∀ (l:List (SV den)),av l=l.all aE
 |[]=>rfl
 |x::xs=>by simp only[av,List.all_cons]; rw[jB xs]
theorem kc[ab]{den:Nat→Type}{l:List (SV den)}(h:av l=true){x:SV den}(hx:x∈l):aE x=true:=by
 rw[jB]at h
 exact List.all_eq_true.1 h x hx
theorem lD[ab]{den:Nat→Type}{l:List (SV den)}(h:∀ x,x∈l→aE x=true):av l=true:=by
 rw[jB]
 exact List.all_eq_true.2 h
theorem mT[ab]{den:Nat→Type}{l:List (SV den)}(h:av l=true)(a b:Nat):av ((l.drop a).take b)=true:=
 lD fun _ hx=>kc h (List.mem_of_mem_drop (List.mem_of_mem_take hx))
theorem Gn[ab]{den:Nat→Type}{l m:List (SV den)}(h:av l=true)(h':av m=true):av (l++m)=true:=
 lD fun _ hx=>(List.mem_append.1 hx).elim (kc h) (kc h')
theorem sL[ab]{den:Nat→Type}{l:List (SV den)}(h:av l=true){x:SV den}(hx:aE x=true)(i:Nat):av (l.set i x)=true:=
 lD fun _ hy=>(List.mem_or_eq_of_mem_set hy).elim (kc h) fun e=>e▸hx
theorem pc[ab]{den:Nat→Type}:∀ {cs l:List (SV den)} (j:Nat),av l=true→av cs=true→av (iW l j cs)=true
 |[],_,_,h,_=>h
 |x::xs,l,j,h,hc=>by
  simp only[av,Bool.and_eq_true]at hc
  simp only[iW]
  exact pc (j+1) (sL h hc.1 j) hc.2
theorem yM[ab]{den:Nat→Type}{e e':SV den}{j:Nat}{cs:List (SV den)}(h:gi e j cs=some e')(he:aE e=true)(hc:av cs=true):aE e'=true:=by
 unfold gi at h
 split at h
 ·split at h
  case isFalse=>simp at h
  simp only[Option.some.injEq]at h
  subst h
  simp only[aE]at he ⊢
  exact pc j he hc
 ·grind[av]
theorem zV[ab]{den:Nat→Type}(v:SV den):av (bK v)=aE v:=by
 cases v with
 |lit v=>
  simp only[bK,aE]
  exact lD fun x hx=>by obtain⟨y,_,rfl⟩:=List.mem_map.1 hx; rfl
 |agg l=>rfl
 |_=>simp[bK,av]
theorem pd[ab]{den:Nat→Type}:∀ {ps:List (Nat×SV den)} {es:List (SV den)},av es=true→av (ps.map (·.2))=true→av (fE es ps)=true
 |[],_,h,_=>h
 |(i,v)::ps,es,h,hc=>by
  simp only[List.map_cons,av,Bool.and_eq_true]at hc
  simp only[fE]
  exact pd (sL h hc.1 i) hc.2
theorem uc[ab]{den:Nat→Type}{a:AV}{v:SV den}(h:(gN a:Option (SV den))=some v):aE v=true:=by
 cases a with
 |lit x=>simp[gN]at h; subst h; rfl
 |agg l=>
  simp only[gN,Option.map_eq_some_iff]at h
  obtain⟨c,_,rfl⟩:=h
  simp only[aE]
  exact lD fun x hx=>by obtain⟨y,_,rfl⟩:=List.mem_map.1 hx; rfl
 |_=>simp[gN]at h
end Go.PI
end
section
/- PS, part D: parts of values, by value, flat, below: on both sides alike. -/
namespace Go.PI
def aD{α:Type}(hp:ag)(r:RM α)(a:α)(rd:List Nat):Prop:=r.run hp=some a∧∀ n,n∈r.log hp→n∈rd
section
variable {α β:Type}{hp:ag}
theorem aD.pure(a:α):aD hp (pure a:RM α) a []:=⟨rfl,fun n h=>by simp[Pure.pure,RM.log]at h⟩
theorem aD.ret(a:α):aD hp (RM.ret a:RM α) a []:=⟨rfl,fun n h=>by simp[RM.log]at h⟩
theorem aD.mono{r:RM α}{a:α}{rd rd':List Nat}(h:aD hp r a rd)(hs:∀ n,n∈rd→n∈rd'):aD hp r a rd':=⟨h.1,fun n hn=>hs n (h.2 n hn)⟩
theorem aD.bind[ab]{r:RM α}{f:α→RM β}{a:α}{b:β}{rd rd':List Nat}(h:aD hp r a rd)(h':aD hp (f a) b rd'):aD hp (r >>= f) b (rd++rd'):=by
 refine⟨by rw[RM.run_bind,h.1]; exact h'.1,fun n hn=>?_⟩
 rw[RM.eO,h.1]at hn
 simp only[List.mem_append]at hn ⊢
 exact hn.imp (h.2 n) (h'.2 n)
theorem aD.get{n:Nat}{k:aJ→RM α}{o:aJ}{a:α}{rd:List Nat}(ho:hp[n]?=some (some o))(h:aD hp (k o) a rd):aD hp (.get n k) a (n::rd):=by
 refine⟨by simp[RM.run,ho,h.1],fun m hm=>?_⟩
 simp only[RM.log,ho,List.mem_cons]at hm ⊢
 exact hm.imp id (h.2 m)
theorem aD.arr[ab]{n aq:Nat}{g c f:Bool}{es:List AV}(ho:hp[n]?=some (some (.arr g c f es)))(hl:es.length=aq):aD hp (RM.arr n aq) (g,c,f,es) [n]:=by
 refine aD.get ho ?_
 simp only[hl,if_true]
 exact aD.ret _
theorem aD.eZ[ab]{x:Option α}{a:α}(h:x=some a):aD hp (RM.eZ x) a []:=by subst h; exact aD.ret a
end
variable {T:dm}
mutual
theorem R.closed{H:ah T.den}:∀ {v:SV T.den} {a:AV},R T H v a→aE v=closed a
 |.dead,a,h=>by simp[R]at h
 |.hole,a,h=>by simp only[R]at h; subst h; rfl
 |.lit v,a,h=>by simp only[R]at h; subst h; rfl
 |.agg l,a,h=>by
  simp only[R]at h
  obtain⟨l',rfl,h2⟩:=h
  simp only[aE,Go.PI.closed]; exact RL.closed h2
 |.jF l,a,h=>by
  simp only[R]at h
  obtain⟨l',rfl,h2⟩:=h
  simp only[aE,Go.PI.closed]; exact RL.closed h2
 |.sl l,a,h=>by
  simp only[R]at h
  obtain⟨l',rfl,h2⟩:=h
  rfl
 |.jw t l,a,h=>by
  simp only[R]at h
  rcases h with ⟨l',rfl,_⟩|⟨_,rfl⟩<;>rfl
 |.w8 t l c b,a,h=>by
  simp only[R]at h
  rcases h with ⟨_,l',rfl,_⟩|⟨_,_,rfl|rfl⟩<;>rfl
 |.nz,a,h=>by
  simp only[R]at h
  subst h; rfl
 |.bj e j,a,h=>by
  simp only[R]at h
  obtain⟨e',rfl,h2⟩:=h
  rfl
 |.ref n c i j,a,h=>by
  simp only[R]at h
  obtain⟨aq,rfl,h2⟩:=h
  rfl
 |.iD n c i j ln cp,a,h=>by
  simp only[R]at h
  obtain⟨aq,rfl,h2⟩:=h
  rfl
 |.bh esz n c rg cap,a,h=>by
  simp only[R]at h
  obtain⟨aq,h1,h2⟩:=h
  rcases rg with _|⟨off,len⟩<;>simp only at h2<;>subst h2<;>rfl
 |.jd fn f c,a,h=>by
  simp only[R]at h
  obtain⟨f',c',rfl,h2,h3⟩:=h
  simp only[aE,Go.PI.closed]; rw[RL.closed h2,RL.closed h3]
 |.fW t v,a,h=>by
  simp only[R]at h
  obtain⟨v',rfl,h2⟩:=h
  simp only[aE,Go.PI.closed]; exact R.closed h2
 |.mp y n,a,h=>by
  simp only[R]at h
  obtain⟨rfl,_⟩:=h
  rfl
 |.ss v s len i,a,h=>by
  simp only[R]at h
  obtain⟨a0,h1,_,h2⟩:=h
  have:=R.closed h1
  simp only[aE]
  rcases h2 with ⟨n,aq,k,j,rfl,rfl⟩|⟨e,j,rfl,rfl⟩<;>exact this
theorem RL.closed{H:ah T.den}:∀ {l:List (SV T.den)} {m:List AV},RL T H l m→av l=aZ m
 |[],[],_=>rfl
 |x::xs,y::ys,h=>by
  simp only[RL]at h
  simp only[av,aZ]; rw[R.closed h.1,RL.closed h.2]
 |[],_::_,h=>by simp[RL]at h
 |_::_,[],h=>by simp[RL]at h
end
mutual
theorem R.below{H:ah T.den}{k:Nat}:∀ {v:SV T.den} {a:AV},R T H v a→bx k v=below k a
 |.dead,a,h=>by simp[R]at h
 |.hole,a,h=>by simp only[R]at h; subst h; rfl
 |.lit v,a,h=>by simp only[R]at h; subst h; rfl
 |.agg l,a,h=>by
  simp only[R]at h
  obtain⟨l',rfl,h2⟩:=h
  simp only[bx,Go.PI.below]; exact RL.below h2
 |.jF l,a,h=>by
  simp only[R]at h
  obtain⟨l',rfl,h2⟩:=h
  simp only[bx,Go.PI.below]; exact RL.below h2
 |.sl l,a,h=>by
  simp only[R]at h
  obtain⟨l',rfl,h2⟩:=h
  rfl
 |.jw t l,a,h=>by
  simp only[R]at h
  rcases h with ⟨l',rfl,_⟩|⟨_,rfl⟩<;>rfl
 |.w8 t l c b,a,h=>by
  simp only[R]at h
  rcases h with ⟨_,l',rfl,_⟩|⟨_,_,rfl|rfl⟩<;>rfl
 |.nz,a,h=>by
  simp only[R]at h
  subst h; rfl
 |.bj e j,a,h=>by
  simp only[R]at h
  obtain⟨e',rfl,h2⟩:=h
  rfl
 |.ref n c i j,a,h=>by
  simp only[R]at h
  obtain⟨aq,rfl,h2⟩:=h
  rfl
 |.iD n c i j ln cp,a,h=>by
  simp only[R]at h
  obtain⟨aq,rfl,h2⟩:=h
  rfl
 |.bh esz n c rg cap,a,h=>by
  simp only[R]at h
  obtain⟨aq,h1,h2⟩:=h
  rcases rg with _|⟨off,len⟩<;>simp only at h2<;>subst h2<;>rfl
 |.jd fn f c,a,h=>by
  simp only[R]at h
  obtain⟨f',c',rfl,h2,h3⟩:=h
  simp only[bx,Go.PI.below]; rw[RL.below h2,RL.below h3]
 |.fW t v,a,h=>by
  simp only[R]at h
  obtain⟨v',rfl,h2⟩:=h
  simp only[bx,Go.PI.below]; exact R.below h2
 |.mp y n,a,h=>by
  simp only[R]at h
  obtain⟨rfl,_⟩:=h
  rfl
 |.ss v s len i,a,h=>by
  simp only[R]at h
  obtain⟨a0,h1,_,h2⟩:=h
  have:=R.below (k:=k) h1
  simp only[bx]
  rcases h2 with ⟨n,aq,k,j,rfl,rfl⟩|⟨e,j,rfl,rfl⟩<;>exact this
theorem RL.below{H:ah T.den}{k:Nat}:∀ {l:List (SV T.den)} {m:List AV},RL T H l m→gM k l=cQ k m
 |[],[],_=>rfl
 |x::xs,y::ys,h=>by
  simp only[RL]at h
  simp only[gM,cQ]; rw[R.below h.1,RL.below h.2]
 |[],_::_,h=>by simp[RL]at h
 |_::_,[],h=>by simp[RL]at h
end
mutual
theorem R.names{H:ah T.den}:∀ {v:SV T.den} {a:AV},R T H v a→nh v=names a
 |.dead,a,h=>by simp[R]at h
 |.hole,a,h=>by simp only[R]at h; subst h; rfl
 |.lit v,a,h=>by simp only[R]at h; subst h; rfl
 |.agg l,a,h=>by
  simp only[R]at h
  obtain⟨l',rfl,h2⟩:=h
  simp only[nh,Go.PI.names]; exact RL.names h2
 |.jF l,a,h=>by
  simp only[R]at h
  obtain⟨l',rfl,h2⟩:=h
  simp only[nh,Go.PI.names]; exact RL.names h2
 |.sl l,a,h=>by
  simp only[R]at h
  obtain⟨l',rfl,h2⟩:=h
  rfl
 |.jw t l,a,h=>by
  simp only[R]at h
  rcases h with ⟨l',rfl,_⟩|⟨_,rfl⟩<;>rfl
 |.w8 t l c b,a,h=>by
  simp only[R]at h
  rcases h with ⟨_,l',rfl,_⟩|⟨_,_,rfl|rfl⟩<;>rfl
 |.nz,a,h=>by
  simp only[R]at h
  subst h; rfl
 |.bj e j,a,h=>by
  simp only[R]at h
  obtain⟨e',rfl,h2⟩:=h
  rfl
 |.ref n c i j,a,h=>by
  simp only[R]at h
  obtain⟨aq,rfl,h2⟩:=h
  rfl
 |.iD n c i j ln cp,a,h=>by
  simp only[R]at h
  obtain⟨aq,rfl,h2⟩:=h
  rfl
 |.bh esz n c rg cap,a,h=>by
  simp only[R]at h
  obtain⟨aq,h1,h2⟩:=h
  rcases rg with _|⟨off,len⟩<;>simp only at h2<;>subst h2<;>rfl
 |.jd fn f c,a,h=>by
  simp only[R]at h
  obtain⟨f',c',rfl,h2,h3⟩:=h
  simp only[nh,Go.PI.names]; rw[RL.names h2,RL.names h3]
 |.fW t v,a,h=>by
  simp only[R]at h
  obtain⟨v',rfl,h2⟩:=h
  simp only[nh,Go.PI.names]; exact R.names h2
 |.mp y n,a,h=>by
  simp only[R]at h
  obtain⟨rfl,_⟩:=h
  rfl
 |.ss v s len i,a,h=>by
  simp only[R]at h
  obtain⟨a0,h1,_,h2⟩:=h
  have:=R.names h1
  simp only[nh]
  rcases h2 with ⟨n,aq,k,j,rfl,rfl⟩|⟨e,j,rfl,rfl⟩<;>exact this
theorem RL.names{H:ah T.den}:∀ {l:List (SV T.den)} {m:List AV},RL T H l m→lj l=bS m
 |[],[],_=>rfl
 |x::xs,y::ys,h=>by
  simp only[RL]at h
  simp only[lj,bS]; rw[R.names h.1,RL.names h.2]
 |[],_::_,h=>by simp[RL]at h
 |_::_,[],h=>by simp[RL]at h
end
theorem R.leaf{H:ah T.den}{v:SV T.den}{a:AV}(h:R T H v a):gL v=bf a:=by
 cases v with
 |dead=>simp[R]at h
 |hole=>simp only[R]at h; subst h; rfl
 |lit v=>simp only[R]at h; subst h; rfl
 |agg l=>simp only[R]at h; obtain⟨l',rfl,h2⟩:=h; rfl
 |jF l=>simp only[R]at h; obtain⟨l',rfl,h2⟩:=h; rfl
 |sl l=>simp only[R]at h; obtain⟨l',rfl,h2⟩:=h; rfl
 |jw t l=>simp only[R]at h; rcases h with ⟨l',rfl,_⟩|⟨_,rfl⟩<;>rfl
 |w8 t l c b=>simp only[R]at h; rcases h with ⟨_,l',rfl,_⟩|⟨_,_,rfl|rfl⟩<;>rfl
 |nz=>simp only[R]at h; subst h; rfl
 |bj e j=>simp only[R]at h; obtain⟨e',rfl,h2⟩:=h; rfl
 |ref n c i j=>simp only[R]at h; obtain⟨aq,rfl,h2⟩:=h; rfl
 |iD n c i j ln cp=>simp only[R]at h; obtain⟨aq,rfl,h2⟩:=h; rfl
 |bh esz n c rg cap=>
  simp only[R]at h
  obtain⟨aq,h1,h2⟩:=h
  rcases rg with _|⟨off,len⟩<;>simp only at h2<;>subst h2<;>rfl
 |jd fn f c=>simp only[R]at h; obtain⟨f',c',rfl,h2,h3⟩:=h; rfl
 |fW t v=>simp only[R]at h; obtain⟨v',rfl,h2⟩:=h; rfl
 |mp y n=>simp only[R]at h; obtain⟨rfl,h2⟩:=h; rfl
 |ss v s len i=>simp only[R]at h; obtain⟨a0,_,_,h2⟩:=h; rcases h2 with ⟨n,aq,k,j,rfl,rfl⟩|⟨e,j,rfl,rfl⟩<;>rfl
theorem R.Gp{H:ah T.den}{v:SV T.den}{a:AV}(h:R T H v a)(hv:∀ l,v≠.agg l):∀ l,a≠.agg l:=by
 intro l e
 subst e
 cases v with
 |dead=>simp[R]at h
 |hole=>simp[R]at h
 |lit v=>simp[R]at h
 |agg l=>exact hv l rfl
 |jF l=>simp[R]at h
 |sl l=>simp[R]at h
 |jw t l=>simp[R]at h
 |bj e j=>simp[R]at h
 |ref n c i j=>simp[R]at h
 |iD n c i j ln cp=>simp[R]at h
 |bh esz n c rg cap=>
  grind[R]
 |jd fn f c=>simp[R]at h
 |fW t v=>simp[R]at h
 |mp y n=>simp[R]at h
 |ss v s len i=>simp[R,Xo]at h
 |w8 t l c b=>simp[R]at h
 |nz=>simp[R]at h
theorem RL.length[ab]{H:ah T.den}{l:List (SV T.den)}{m:List AV}(h:RL T H l m):l.length=m.length:=aw.length (aR.1 h)
theorem RL.lits{H:ah T.den}:∀ (c:List Value),RL T H (c.map .lit) (c.map .lit)
 |[]=>by simp[RL]
 |v::vs=>by simp only[List.map_cons,RL]; exact⟨by simp[R],RL.lits vs⟩
theorem R.cells[ab]{H:ah T.den}{v:SV T.den}{a:AV}(h:R T H v a):RL T H (bK v) (cellsOf a):=by
 cases v with
 |dead=>simp[R]at h
 |hole=>simp_all[R,bK,cellsOf,RL]
 |lit v=>simp only[R]at h; subst h; exact RL.lits _
 |agg l=>simp only[R]at h; obtain⟨l',rfl,h2⟩:=h; exact h2
 |jw t l=>
  have h':=h
  simp only[R]at h
  rcases h with ⟨l',rfl,_⟩|⟨_,rfl⟩
  ·simp_all[bK,cellsOf,RL]
  ·show RL T H [_] [AV.lit bV]
   simp only[RL]; exact⟨h',trivial⟩
 |jF l=>grind[R,bK,cellsOf,RL]
 |sl l=>grind[R,bK,cellsOf,RL]
 |bj e j=>grind[R,bK,cellsOf,RL]
 |ref n c i j=>grind[R,bK,cellsOf,RL]
 |iD n c i j ln cp=>grind[R,bK,cellsOf,RL]
 |bh esz n c rg cap=>
  grind[R,bK,cellsOf,RL]
 |jd fn f c=>grind[R,bK,cellsOf,RL]
 |fW t v=>grind[R,bK,cellsOf,RL]
 |nz=>
  simp_all[R,bK,cellsOf,RL]
 |w8 t l c b=>
  have h':=h
  simp only[R]at h
  rcases h with ⟨_,l',rfl,_⟩|⟨_,_,rfl|rfl⟩
  ·simp_all[bK,cellsOf,RL]
  ·simp_all[bK,cellsOf,RL]
  ·show RL T H [_] [AV.lit bV]
   simp only[RL]; exact⟨h',trivial⟩
 |mp y n=>simp_all[R,bK,cellsOf,RL]
 |ss v s len i=>
  have h':=h
  simp only[R]at h
  obtain⟨a0,_,_,h2⟩:=h
  rcases h2 with ⟨n,aq,k,j,rfl,rfl⟩|⟨e,j,rfl,rfl⟩<;>simp only[bK,cellsOf,RL]<;>exact⟨h',trivial⟩
theorem RL.all{H:ah T.den}{p:SV T.den→Bool}{q:AV→Bool}(NK:∀ v a,R T H v a→p v=q a):∀ {l:List (SV T.den)} {m:List AV},RL T H l m→l.all p=m.all q
 |[],[],_=>rfl
 |x::xs,y::ys,h=>by
  simp only[RL]at h
  simp only[List.all_cons]; rw[NK _ _ h.1,RL.all NK h.2]
 |[],_::_,h=>by simp[RL]at h
 |_::_,[],h=>by simp[RL]at h
theorem RL.D1[ab]{H:ah T.den}{l:List (SV T.den)}{m:List AV}(h:RL T H l m):l.all gL=m.all bf:=RL.all (fun _ _=>R.leaf) h
theorem D2{agg:Bool}{size:Nat}{a:AV}{j:Nat}(ha:∀ l,a≠.agg l):e9 agg size a j=if !agg&&bf a&&decide (j=0) then some a else none:=by
 cases a<;>first|rfl|exact absurd rfl (ha _)
theorem D3{agg:Bool}{size:Nat}{v:SV T.den}{j:Nat}(ha:∀ l,v≠.agg l):n7 agg size v j=if !agg&&gL v&&decide (j=0) then some v else none:=by
 cases v<;>first|rfl|exact absurd rfl (ha _)
theorem R.part[ab]{H:ah T.den}{agg:Bool}{size:Nat}{v x:SV T.den}{a:AV}{j:Nat}(h:R T H v a)(hp:n7 agg size v j=some x):∃ b,e9 agg size a j=some b∧R T H x b:=by
 by_cases hv:∃ l,v=.agg l
 ·obtain⟨l,rfl⟩:=hv
  simp only[R]at h
  obtain⟨l',rfl,h2⟩:=h
  have hl:=h2.length
  cases agg with
  |true=>
   simp only[n7,if_true]at hp
   split at hp
   case isFalse=>simp at hp
   simp only[Option.some.injEq]at hp
   subst hp
   refine⟨_,by simp only[e9,if_true]; rw[if_pos (by omega)],?_⟩
   simp only[R]
   exact⟨_,rfl,aR.2 (((aR.1 h2).drop j).take size)⟩
  |false=>
   simp only[n7,Bool.false_eq_true,if_false]at hp
   obtain⟨b,h3,h4⟩:=aw.get (aR.1 h2) hp
   exact⟨b,by simpa[e9] using h3,h4⟩
 ·have kj:∀ l,v≠.agg l:=fun l e=>hv ⟨l,e⟩
  rw[D3 kj]at hp
  rw[D2 (h.Gp kj),←h.leaf]
  split at hp
  case isFalse=>simp at hp
  rename_i hc
  simp only[Option.some.injEq]at hp
  subst hp
  exact⟨a,by rw[if_pos hc],h⟩
theorem RL.setCells[ab]{H:ah T.den}:∀ {cs:List (SV T.den)} {mu:List AV} {l:List (SV T.den)} {l':List AV} (j:Nat),RL T H l l'→RL T H cs mu→RL T H (iW l j cs) (setCells l' j mu)
 |[],[],l,l',j,h,_=>h
 |x::xs,y::ys,l,l',j,h,hc=>by
  simp only[RL]at hc
  simp only[iW,Go.PI.setCells]
  exact RL.setCells (j+1) (aR.2 ((aR.1 h).set j hc.1)) hc.2
 |[],_::_,_,_,_,_,h=>by simp[RL]at h
 |_::_,[],_,_,_,_,h=>by simp[RL]at h
theorem zW{a y:AV}{j:Nat}(ha:∀ l,a≠.agg l)(hl:bf a=true)(hj:j=0):jf a j [y]=some y:=by
 simp_all[jf,hl]
theorem yN{v e':SV T.den}{cs:List (SV T.den)}{j:Nat}(ha:∀ l,v≠.agg l)(h:gi v j cs=some e'):∃ y,cs=[y]∧e'=y∧gL v=true∧j=0:=by
 match cs with
 |[]=>simp_all[gi]
 |[y]=>simp_all[gi]
 |_::_::_=>simp_all[gi]
theorem R.jf[ab]{H:ah T.den}{v e':SV T.den}{a:AV}{j:Nat}{cs:List (SV T.den)}{mu:List AV}(h:R T H v a)(hc:RL T H cs mu)(hp:gi v j cs=some e'):
  ∃ b,Go.PI.jf a j mu=some b∧R T H e' b:=by
 by_cases hv:∃ l,v=.agg l
 ·obtain⟨l,rfl⟩:=hv
  simp only[R]at h
  obtain⟨l',rfl,h2⟩:=h
  simp only[gi]at hp
  split at hp
  case isFalse=>simp at hp
  simp only[Option.some.injEq]at hp
  subst hp
  have h3:=h2.length
  have h4:=hc.length
  exact⟨_,by simp only[Go.PI.jf]; rw[if_pos (by omega)],by simp only[R]; exact⟨_,rfl,RL.setCells j h2 hc⟩⟩
 ·have kj:∀ l,v≠.agg l:=fun l e=>hv ⟨l,e⟩
  obtain⟨y,rfl,rfl,h3,h4⟩:=yN kj hp
  match mu,hc with
  |[b],hc=>
   simp only[RL]at hc
   exact⟨b,zW (h.Gp kj) (by rw[←h.leaf]; exact h3) h4,hc.1⟩
  |[],hc=>simp[RL]at hc
  |_::_::_,hc=>simp[RL]at hc
def RP(T:dm)(H:ah T.den):List (Nat×SV T.den)→List (Nat×AV)→Prop:=aw fun p q=>p.1=q.1∧R T H p.2 q.2
theorem RP.fill[ab]{H:ah T.den}{place:Nat→Option (Nat×Nat)}:∀ {ps:List (Nat×SV T.den)} {qs:List (Nat×AV)} {l r:List (SV T.den)} {l':List AV},RP T H ps qs→RL T H l l'→AP place l ps=some r →
  ∃ r',rD place l' qs=some r'∧RL T H r r'
 |[],[],l,r,l',_,hl,h=>by
  simp only[AP,Option.some.injEq]at h
  subst h
  exact⟨l',rfl,hl⟩
 |(i,v)::ps,(i',a)::qs,l,r,l',hp,hl,h=>by
  obtain⟨⟨h1,h2⟩,h3⟩:=hp
  simp only at h1 h2
  subst h1
  simp only[AP]at h
  simp only[rD]
  cases G2:place i with
  |none=>rw[G2]at h; simp at h
  |some q=>
   obtain⟨off,size⟩:=q
   rw[G2]at h
   simp only at h ⊢
   split at h
   case isFalse=>simp at h
   rename_i hc
   have kM:=h2.cells
   rw[if_pos ⟨by rw[←kM.length]; exact hc.1,by rw[←hl.length]; exact hc.2.1,by rw[←kM.D1]; exact hc.2.2⟩]
   exact RP.fill h3 (RL.setCells off hl kM) h
 |[],_::_,_,_,_,h,_,_=>h.elim
 |_::_,[],_,_,_,h,_,_=>h.elim
theorem R.aC[ab]{H:ah T.den}{agg:Bool}{size:Nat}{v:SV T.den}{a:AV}(h:R T H v a):ll agg size v=aC agg size a:=by
 by_cases hv:∃ l,v=.agg l
 ·obtain⟨l,rfl⟩:=hv
  simp only[R]at h
  obtain⟨l',rfl,h2⟩:=h
  simp only[ll,Go.PI.aC]
  rw[h2.length,h2.D1]
 ·have kj:∀ l,v≠.agg l:=fun l e=>hv ⟨l,e⟩
  have e1:ll agg size v=(!agg&&decide (size=1)&&gL v):=by cases v<;>first|rfl|exact absurd rfl (kj _)
  have e2:Go.PI.aC agg size a=(!agg&&decide (size=1)&&bf a):=by
   have:=h.Gp kj
   cases a<;>first|rfl|exact absurd rfl (this _)
  rw[e1,e2,h.leaf]
theorem RL.cV{H:ah T.den}:∀ {l:List (SV T.den)} {m:List AV} {c:List Value},RL T H l m→mO l=some c→Go.PI.cV m=some c∧m=c.map .lit
 |[],[],c,_,h=>by simp[mO]at h; subst h; exact⟨rfl,rfl⟩
 |x::xs,y::ys,c,h,hc=>by
  simp only[RL]at h
  cases x with
  |lit v=>
   simp only[mO,Option.map_eq_some_iff]at hc
   obtain⟨c',h1,rfl⟩:=hc
   have h2:=h.1
   simp only[R]at h2
   subst h2
   obtain⟨h3,h4⟩:=RL.cV h.2 h1
   exact⟨by simp[Go.PI.cV,h3],by simp[h4]⟩
  |_=>simp[mO]at hc
 |[],_::_,_,h,_=>by simp[RL]at h
 |_::_,[],_,h,_=>by simp[RL]at h
theorem R.plain[ab]{H:ah T.den}{v:SV T.den}{a b:AV}(h:R T H v a)(hp:ni v=some b):a=b:=by
 cases v with
 |lit v=>simp_all[R,ni]
 |agg l=>
  simp only[R]at h
  obtain⟨l',rfl,h2⟩:=h
  simp only[ni,Option.map_eq_some_iff]at hp
  obtain⟨c,h3,rfl⟩:=hp
  rw[(RL.cV h2 h3).2]
 |_=>simp[ni]at hp
theorem vp[ab]{H:ah T.den}{a:AV}{v:SV T.den}(h:(gN a:Option (SV T.den))=some v):R T H v a:=by
 cases a with
 |lit x=>simp[gN]at h; subst h; simp[R]
 |agg l=>
  simp only[gN,Option.map_eq_some_iff]at h
  obtain⟨c,h1,rfl⟩:=h
  simp only[R]
  refine⟨l,rfl,?_⟩
  have:l=c.map .lit:=by
   revert c
   induction l with
   |nil=>simp_all[Go.PI.cV]
   |cons x xs ih=>
    intro c h1
    cases x with
    |lit v=>
     simp only[Go.PI.cV,Option.map_eq_some_iff]at h1
     obtain⟨c',h2,rfl⟩:=h1
     rw[ih c' h2]; rfl
    |_=>simp[Go.PI.cV]at h1
  rw[this]
  exact RL.lits c
 |_=>simp[gN]at h
end Go.PI
end
section
/- PS, part E: the tables looked up before. -/
namespace Go.PI
def oK:TypeDesc→MK
 |.slice e=>.slice e
 |.array n e=>.array n e
 |.struct fs=>.struct (fs.toList.map fun f=>(f.offset,f.type))
 |.interface _=>.iface
 |_=>.other
def kB(rec:TypeId→Option (List CK))(P:Program):Nat→List Field→Option (List CK)
 |_,[]=>some []
 | off, f :: fs => if f.name = "_" then none else
   if f.offset=off then
    match rec f.type with
    |some ks=>if ks.length=P.cellsOf f.type then (kB rec P (off+ks.length) fs).map fun l=>ks++l else none
    |none=>none
   else none
def mV(P:Program):Nat→TypeId→Option (List CK)
 |0,_=>none
 |d+1,t=>
  match P.underlying t with
  |some .bool=>some [.bool]
  |some (.int k)=>some [.int k]
  |some .string=>some [.str]
  |some (.array n e)=>if (P.info? e).isSome&&(P.underlying e).isSome then
    match mV P d e with
    |some ks=>if ks.length=P.cellsOf e then some (List.replicate n ks).flatten else none
    |none=>none
   else none
  |some (.struct fs)=>if P.stoodInHeld t then none else kB (mV P d) P 0 fs.toList
  |_=>none
theorem kC:∀ {ks:List CK} {vs:List Value},bo ks vs=true→ks.length=vs.length
 |[],[],_=>rfl
 |_::_,_::_,h=>by simp only[bo,Bool.and_eq_true]at h; simp[kC h.2]
 |[],_::_,h=>by simp[bo]at h
 |_::_,[],h=>by simp[bo]at h
theorem qh:∀ {ks ls:List CK} {vs:List Value},bo (ks++ls) vs=true→bo ks (vs.take ks.length)=true∧bo ls (vs.drop ks.length)=true
 |[],ls,vs,h=>by simpa[bo] using h
 |k::ks,ls,[],h=>by simp[bo]at h
 |k::ks,ls,v::vs,h=>by
  simp only[List.cons_append,bo,Bool.and_eq_true]at h
  obtain⟨h1,h2⟩:=qh h.2
  simp only[List.length_cons,List.take_succ_cons,List.drop_succ_cons,bo,Bool.and_eq_true]
  exact⟨⟨h.1,h1⟩,h2⟩
theorem qi:∀ {a a' b b':List Value},a.length=a'.length→cM (a++b) (a'++b')=(cM a a'&&cM b b')
 |[],[],b,b',_=>by simp[cM]
 |x::xs,y::ys,b,b',h=>by
  simp only[List.cons_append,cM]
  rw[qi (by simpa using h),Bool.and_assoc]
theorem qj[ab]{P:Program}{rec:TypeId→List Value→List Value→Option Bool}{kr:TypeId→Option (List CK)}
  (hr:∀ t ks c c',kr t=some ks→bo ks c=true→bo ks c'=true→rec t c c'=some (cM c c')) :
  ∀ (fs:List Field) (off:Nat) (ks:List CK) (cs mu:List Value),kB kr P off fs=some ks→bo ks (cs.drop off)=true→bo ks (mu.drop off)=true →
    jK rec P cs mu fs=some (cM (cs.drop off) (mu.drop off))
 |[],off,ks,cs,mu,h,h1,h2=>by
  simp only[kB,Option.some.injEq]at h
  subst h
  have e1:cs.drop off=[]:=by cases hq:cs.drop off with
   |nil=>rfl
   |cons x xs=>rw[hq]at h1; simp[bo]at h1
  have e2:mu.drop off=[]:=by cases hq:mu.drop off with
   |nil=>rfl
   |cons x xs=>rw[hq]at h2; simp[bo]at h2
  rw[e1,e2]; rfl
 |f::fs,off,ks,cs,mu,h,h1,h2=>by
  simp only[kB]at h
  split at h
  ·simp at h
  rename_i hn
  split at h
  case isFalse=>simp at h
  rename_i ho
  cases hk:kr f.type with
  |none=>rw[hk]at h; simp at h
  |some k1=>
   rw[hk]at h
   simp only at h
   split at h
   case isFalse=>simp at h
   rename_i hs
   rw[Option.map_eq_some_iff]at h
   obtain⟨k2,h3,rfl⟩:=h
   obtain⟨a1,a2⟩:=qh h1
   obtain⟨b1,b2⟩:=qh h2
   rw[List.drop_drop]at a2 b2
   have ih:=qj hr fs (off+k1.length) k2 cs mu h3 a2 b2
   have hc:chunk P cs f.offset f.type=(cs.drop off).take k1.length:=by simp[chunk,ho,hs]
   have IW:chunk P mu f.offset f.type=(mu.drop off).take k1.length:=by simp[chunk,ho,hs]
   simp only[jK,hn,if_false]
   rw[hc,IW,hr _ _ _ _ hk a1 b1]
   simp only
   rw[ih,Option.map_some]
   congr 1
   have l1:=kC a1
   have l2:=kC b1
   conv=>rhs; rw[←List.take_append_drop k1.length (cs.drop off),←List.take_append_drop k1.length (mu.drop off)]
   rw[qi (by omega),List.drop_drop,List.drop_drop]
theorem rM[ab]{P:Program}{rec:TypeId→List Value→List Value→Option Bool}{e:TypeId}{ks:List CK}(hs:ks.length=P.cellsOf e)
  (hr:∀ c c',bo ks c=true→bo ks c'=true→rec e c c'=some (cM c c')) :
  ∀ (n m:Nat) (cs mu:List Value),bo (List.replicate n ks).flatten (cs.drop (m*ks.length))=true→bo (List.replicate n ks).flatten (mu.drop (m*ks.length))=true →
    lJ rec P e cs mu (List.range' m n)=some (cM (cs.drop (m*ks.length)) (mu.drop (m*ks.length)))
 |0,m,cs,mu,h1,h2=>by
  simp only[List.replicate_zero,List.flatten_nil]at h1 h2
  have e1:cs.drop (m*ks.length)=[]:=by cases hq:cs.drop (m*ks.length) with
   |nil=>rfl
   |cons x xs=>rw[hq]at h1; simp[bo]at h1
  have e2:mu.drop (m*ks.length)=[]:=by cases hq:mu.drop (m*ks.length) with
   |nil=>rfl
   |cons x xs=>rw[hq]at h2; simp[bo]at h2
  rw[e1,e2]; rfl
 |n+1,m,cs,mu,h1,h2=>by
  simp only[List.replicate_succ,List.flatten_cons]at h1 h2
  obtain⟨a1,a2⟩:=qh h1
  obtain⟨b1,b2⟩:=qh h2
  rw[List.drop_drop]at a2 b2
  have em:m*ks.length+ks.length=(m+1)*ks.length:=by rw[Nat.succ_mul]
  rw[em]at a2 b2
  have ih:=rM hs hr n (m+1) cs mu a2 b2
  have hc:chunk P cs (m*P.cellsOf e) e=(cs.drop (m*ks.length)).take ks.length:=by simp[chunk,hs]
  have IW:chunk P mu (m*P.cellsOf e) e=(mu.drop (m*ks.length)).take ks.length:=by simp[chunk,hs]
  rw[List.range'_succ]
  simp only[lJ]
  rw[hc,IW,hr _ _ a1 b1]
  simp only
  rw[ih,Option.map_some]
  congr 1
  have l1:=kC a1
  have l2:=kC b1
  conv=>rhs; rw[←List.take_append_drop ks.length (cs.drop (m*ks.length)),←List.take_append_drop ks.length (mu.drop (m*ks.length))]
  rw[qi (by omega),List.drop_drop,List.drop_drop,em]
theorem sO[ab]{P:Program}:∀ (d:Nat) (t:TypeId) (ks:List CK) (c c':List Value),mV P d t=some ks→bo ks c=true→bo ks c'=true→kK P d t c c'=some (cM c c')
 |0,_,_,_,_,h,_,_=>by simp[mV]at h
 |d+1,t,ks,c,c',h,h1,h2=>by
  simp only[mV]at h
  simp only[kK]
  cases hu:P.underlying t with
  |none=>rw[hu]at h; simp at h
  |some ds=>
   rw[hu]at h
   cases ds with
   |bool=>
    simp only[Option.some.injEq]at h
    subst h
    match c,c',h1,h2 with
    |[.bool a],[.bool b],_,_=>simp[cM,sy]
    |[],_,h1,_=>simp[bo]at h1
    |_::_::_,_,h1,_=>simp[bo]at h1
    |_,[],_,h2=>simp[bo]at h2
    |_,_::_::_,_,h2=>simp[bo]at h2
    |[v],[w],h1,h2=>
     cases v<;>simp[bo,CK.fits]at h1
     cases w<;>simp[bo,CK.fits]at h2
     simp[cM,sy]
   |int k=>
    simp only[Option.some.injEq]at h
    subst h
    match c,c',h1,h2 with
    |[],_,h1,_=>simp[bo]at h1
    |_::_::_,_,h1,_=>simp[bo]at h1
    |_,[],_,h2=>simp[bo]at h2
    |_,_::_::_,_,h2=>simp[bo]at h2
    |[v],[w],h1,h2=>
     cases v<;>simp[bo,CK.fits]at h1
     cases w<;>simp[bo,CK.fits]at h2
     subst h1; subst h2
     simp[cM,sy]
   |string=>
    simp only[Option.some.injEq]at h
    subst h
    match c,c',h1,h2 with
    |[],_,h1,_=>simp[bo]at h1
    |_::_::_,_,h1,_=>simp[bo]at h1
    |_,[],_,h2=>simp[bo]at h2
    |_,_::_::_,_,h2=>simp[bo]at h2
    |[v],[w],h1,h2=>
     cases v<;>simp[bo,CK.fits]at h1
     cases w<;>simp[bo,CK.fits]at h2
     simp[cM,sy]
   |array n e=>
    simp only at h ⊢
    split at h
    case isFalse=>simp at h
    rename_i hc
    rw[if_pos hc]
    cases hk:mV P d e with
    |none=>rw[hk]at h; simp at h
    |some k1=>
     rw[hk]at h
     simp only at h
     split at h
     case isFalse=>simp at h
     rename_i hs
     simp only[Option.some.injEq]at h
     subst h
     have:=rM (rec:=kK P d) hs (fun c c'=>sO d e k1 c c' hk) n 0 c c' (by simpa using h1) (by simpa using h2)
     rw[List.range_eq_range']
     simpa using this
   |struct fs=>
    simp only at h ⊢
    split at h
    ·simp at h
    rename_i hc
    rw[if_neg hc]
    have:=qj (rec:=kK P d) (fun t ks c c' hk=>sO d t ks c c' hk) fs.toList 0 ks c c' h (by simpa using h1) (by simpa using h2)
    simpa using this
   |_=>simp at h
structure gO.Ok(Q:gO):Prop where
 row:∀ t m,Q.ty t=some m→∃ r,ff Q.P t=some r∧r.isAgg=m.agg∧r.size=m.size∧r.bytes=m.bytes∧(∀ z,m.zero=some z→bR r=some z)
 kind:∀ t m,Q.ty t=some m→∃ d,Q.P.underlying t=some d∧oK d=m.kind
 Qa:∀ t m ks,Q.ty t=some m→m.Qa=some ks→Q.P.eqGuardType Q.P.depth t=false∧mV Q.P 20 t=some ks
 map:∀ t q,Q.mapOf t=some q→xz Q.P t=some q
theorem eU{α:Type}:∀ {l:List (Nat×α)} {n:Nat} {a:α},cq l n=some a→(n,a)∈l
 |[],_,_,h=>by simp[cq]at h
 |(m,b)::r,n,a,h=>by
  simp only[cq]at h
  split at h
  ·simp_all
  ·exact List.mem_cons_of_mem _ (eU h)
def rowOf(P:Program)(t:Nat):Option (Bool×Nat×Nat):=(ff P t).map fun r=>(r.isAgg,r.size,r.bytes)
def zeroOf(P:Program)(m:kp)(t:Nat):Option AV:=match m.zero with
 |none=>none
 |some _=>(ff P t).bind bR
def Qh(P:Program)(m:kp)(t:Nat):Option (List CK):=match m.Qa with
 |none=>none
 |some _=>if P.eqGuardType P.depth t=false then mV P 20 t else none
def Md(P:Program)(m:kp)(t:Nat):Option (KK×Nat):=match m.map with
 |none=>none
 |some _=>xz P t
theorem vq{α β:Type}{f g:α→β}:∀ {l:List α},l.map f=l.map g→∀ x,x∈l→f x=g x
 |[],_,x,h=>by simp at h
 |y::ys,h,x,hx=>by
  simp only[List.map_cons,List.cons.injEq]at h
  rcases List.mem_cons.1 hx with rfl|hx
  ·exact h.1
  ·exact vq h.2 x hx
theorem gO.Ok.of[ab]{Q:gO}(h1:(Q.M.map fun q=>rowOf Q.P q.1)=Q.M.map fun q=>some (q.2.agg,q.2.size,q.2.bytes))
  (h2:(Q.M.map fun q=>zeroOf Q.P q.2 q.1)=Q.M.map fun q=>q.2.zero)
  (h3:(Q.M.map fun q=>(Q.P.underlying q.1).map oK)=Q.M.map fun q=>some q.2.kind)
  (h4:(Q.M.map fun q=>Qh Q.P q.2 q.1)=Q.M.map fun q=>q.2.Qa) (h5:(Q.M.map fun q=>Md Q.P q.2 q.1)=Q.M.map fun q=>q.2.map):Q.Ok where
 row:=by
  intro t m h
  have hm:=eU h
  have e1:=vq h1 _ hm
  have e2:=vq h2 _ hm
  simp only[rowOf,Option.map_eq_some_iff,Prod.mk.injEq]at e1
  obtain⟨r,hr,a1,a2,a3⟩:=e1
  refine⟨r,hr,a1,a2,a3,fun z hz=>?_⟩
  simp only[zeroOf]at e2
  rw[hz]at e2
  simpa[hr] using e2
 kind:=by
  intro t m h
  have e:=vq h3 _ (eU h)
  simp only[Option.map_eq_some_iff]at e
  exact e
 Qa:=by
  intro t m ks h hk
  have e:=vq h4 _ (eU h)
  simp only[Qh]at e
  rw[hk]at e
  simp only at e
  split at e
  ·exact⟨by assumption,e⟩
  ·simp at e
 map:=by
  intro t q h
  unfold gO.mapOf at h
  obtain⟨m,h1,h2⟩:=Option.bind_eq_some_iff.1 h
  have e:=vq h5 _ (eU h1)
  simp only[Md]at e
  rw[h2]at e
  exact e
end Go.PI
end
section
/- PS, part F: operations that only compute, and those on one object. -/
namespace Go.PI
variable {T:dm}{ρ:Type}
structure RE(T:dm)(H:ah T.den)(hp:ag)(v:SV T.den)(wr:List (Nat×aB T.den))(e:dk):Prop where
 val:RV T (aP H wr) v e.val
 hp:RH T (aP H wr) (ai hp e.wr)
 grow:dy H (aP H wr)
 names:∀ q,q∈e.wr→q.1∈wr.map (·.1)
 zX:∀ n:Nat,n∉wr.map (·.1)→n<H.length→(aP H wr)[n]?=H[n]?
 len:H.length≤(aP H wr).length
 D8:∀ n,recAt H n=true→n∉wr.map (·.1)
def iX(T:dm)(H:ah T.den)(hp:ag)(m:RM dk)(K:EK T ρ)(r:ρ):Prop:=
 ∃ v wr rd e,aD hp m e rd∧RE T H hp v wr e∧(K v wr rd).run=some r
section
variable {H:ah T.den}{hp:ag}{K:EK T ρ}{r:ρ}
theorem ar[ab](hh:RH T H hp){m:RM dk}{v:SV T.den}{a:AV}{rd:List Nat}(hv:RV T H v a)(hm:aD hp m ⟨a,[]⟩ rd)(hk:(K v [] rd).run=some r):iX T H hp m K r:=
 ⟨v,[],rd,_,hm,⟨hv,hh,dy.refl _,fun q h=>by simp at h,fun _ _ _=>rfl,Nat.le_refl _,fun _ _ h=>by simp at h⟩,hk⟩
theorem wD{n:Nat}{o:aB T.den}(hn:n=H.length∨n<H.length):H.length≤(bM H n o).length:=by
 unfold bM
 split<;>simp
theorem yR{n m:Nat}{o:aB T.den}(hm:m<H.length)(dA:m≠n):(bM H n o)[m]?=H[m]?:=by
 grind[bM]
theorem eV[ab](hh:RH T H hp){m:RM dk}{nm:Nat}(hn:nm=H.length∨H[nm]?=some none){o:aB T.den}{a':aJ}(ho:RO T H o a'){v:SV T.den}{a:AV}{rd:List Nat}
  (hv:RV T (bM H nm o) v a) (hm:aD hp m ⟨a,[(nm,a')]⟩ rd) (hk:(K v [(nm,o)] rd).run=some r):iX T H hp m K r:=by
 obtain⟨hg,hr⟩:=hh.new hn ho
 refine⟨v,[(nm,o)],rd,_,hm,⟨hv,hr,hg,fun q h=>?_,fun n h hl=>?_,?_,fun n h1 h2=>?_⟩,hk⟩
 ·simp at h; subst h; simp
 ·simp at h; exact yR hl h
 ·exact wD (hn.imp id fun h=>(List.getElem?_eq_some_iff.1 h).1)
 ·simp at h2
  subst h2
  unfold recAt at h1
  rcases hn with hn|hn
  ·rw[List.getElem?_eq_none (by omega)]at h1; simp at h1
  ·rw[hn]at h1; simp at h1
theorem ke[ab](hh:RH T H hp){m:RM dk}{n:Nat}{o o':aB T.den}{a':aJ}(ho:H[n]?=some (some o))(hc:o.cur≤o'.cur)(hl:o'.cur=o.cur→o'.len=o.len)(dJ:RO T H o' a')
  {v:SV T.den} {a:AV} {rd:List Nat} (hv:RV T (H.set n (some o')) v a) (hm:aD hp m ⟨a,[(n,a')]⟩ rd) (hk:(K v [(n,o')] rd).run=some r) (TL:o.isRec=false:=by rfl):iX T H hp m K r:=by
 obtain⟨hg,hr⟩:=hh.SC ho hc hl dJ
 have bL:=(List.getElem?_eq_some_iff.1 ho).1
 have e1:aP H [(n,o')]=H.set n (some o'):=by simp[aP,bM]; omega
 have e2:ai hp [(n,a')]=hp.set n (some a'):=by simp[ai,setObj]; have:=hh.length; omega
 refine⟨v,[(n,o')],rd,_,hm,⟨by rw[e1]; exact hv,by rw[e1,e2]; exact hr,by rw[e1]; exact hg,fun q h=>?_,fun k h hl=>?_,?_,fun m h1 h2=>?_⟩,hk⟩
 ·simp at h; subst h; simp
 ·rw[e1]; simp at h; rw[List.getElem?_set_ne (Ne.symm h)]
 ·rw[e1]; simp
 ·simp at h2
  subst h2
  unfold recAt at h1
  rw[ho]at h1
  simp only at h1
  rw[TL]at h1
  simp at h1
theorem il{x:Option AV}(h:(pb (T:=T) x K).run=some r):∃ v,x=some (.lit v)∧(K (.lit v) [] []).run=some r:=by
 unfold pb at h
 split at h
 ·exact⟨_,rfl,h⟩
 ·simp[Tr.run]at h
theorem mn{x:Option (SV T.den)}{rd:List Nat}(h:(yC x rd K).run=some r):∃ v,x=some v∧(K v [] rd).run=some r:=by
 unfold yC at h
 split at h
 ·exact⟨_,rfl,h⟩
 ·simp[Tr.run]at h
theorem fF{b:Bool}{x y:Tr ρ}(h:(Tr.cond b x y).run=some r):(b=true∧x.run=some r)∨(b=false∧y.run=some r):=by
 cases b with
 |true=>exact .inl ⟨rfl,h⟩
 |false=>exact .inr ⟨rfl,h⟩
theorem ba[ab]{b:Bool}{x:Tr ρ}(h:(Tr.cond b x .fail).run=some r):b=true∧x.run=some r:=by
 grind[Tr.run]
theorem bind_some{α:Type}{e:Option α}{k:α→Tr ρ}(h:(Tr.bind e k).run=some r):∃ a,e=some a∧(k a).run=some r:=by
 simp only[Tr.run,Option.bind_eq_some_iff]at h
 exact h
theorem iY[ab]{v:SV T.den}{K:Nat→Tr ρ}(h:(gm v K).run=some r):∃ k n,v=.lit (.int k n)∧0≤n∧(K n.toNat).run=some r:=by
 unfold gm at h
 split at h
 ·obtain⟨h1,h2⟩:=ba h
  exact⟨_,_,rfl,by simpa using h1,h2⟩
 ·simp[Tr.run]at h
theorem qW[ab]{v:SV T.den}{a:AV}{k:IntKind}{n:Int}(hv:RV T H v a)(e:v=.lit (.int k n))(hn:0≤n):asNat a=some n.toNat:=by
 subst e
 have:=hv.live rfl
 simp only[R]at this
 subst this
 simp[asNat,hn]
theorem cW[ab]{i:Nat}{K:Nat→Tr ρ}:∀ {len m:Nat},(fL i len m K).run=some r→m≤i∧i<m+len∧(K i).run=some r
 |0,m,h=>by simp[fL,Tr.run]at h
 |len+1,m,h=>by
  simp only[fL]at h
  rcases fF h with ⟨h1,h2⟩|⟨h1,h2⟩
  ·simp_all
  ·obtain⟨h3,h4,h5⟩:=cW h2
   exact⟨by omega,by omega,h5⟩
theorem RV.lit[ab]{v:SV T.den}{a:AV}{x:Value}(hv:RV T H v a)(e:v=.lit x):a=.lit x:=by
 subst e
 have:=hv.live rfl
 simpa only[R] using this
theorem bk(x:Value):RV T H (.lit x) (.lit x):=.inr (by simp[R])
theorem fU.arr(hh:RH T H hp){n c aq:Nat}(hv:fU H n c aq){o:aB T.den}(ho:H[n]?=some (some o))(hc:Nat.beq c o.cur=true):aq=o.len:=by
 obtain⟨o',h1,h2,h3⟩:=hv
 rw[ho]at h1
 simp only[Option.some.injEq]at h1
 subst h1
 exact h3 (Nat.eq_of_beq_eq_true hc)
theorem qX:∀ {v:SV T.den} {a0 a:AV} {d:Nat},R T H v a0→Xo a0 d a→R T H (iB d v) a
 |.ref n c i j,a0,a,d,h,hx=>by
  simp only[R]at h
  obtain⟨aq,rfl,hv⟩:=h
  rcases hx with ⟨n,aq,k,j,h1,rfl⟩|⟨e,j,h1,rfl⟩<;>cases h1
  simp only[iB,R]
  exact⟨_,rfl,hv⟩
 |.bj e j,a0,a,d,h,hx=>by
  simp only[R]at h
  obtain⟨e',rfl,hv⟩:=h
  rcases hx with ⟨n,aq,k,j,h1,rfl⟩|⟨e,j,h1,rfl⟩<;>cases h1
  simp only[iB,R]
  exact⟨_,rfl,hv⟩
 |.ss v s l i,a0,a,d,h,hx=>by
  simp only[R]at h
  obtain⟨a1,h1,h2,h3⟩:=h
  simp only[iB,R]
  rcases h3 with ⟨n,aq,k,j,rfl,rfl⟩|⟨e,j,rfl,rfl⟩<;>rcases hx with ⟨n',CJ,k',j',e1,rfl⟩|⟨e',j',e1,rfl⟩<;>cases e1
  ·exact⟨.ref n aq k (j+d),qX h1 (.inl ⟨_,_,_,_,rfl,rfl⟩),h2,.inl ⟨_,_,_,_,rfl,by rw[Nat.add_right_comm]⟩⟩
  ·exact⟨.bj e (j+d),qX h1 (.inr ⟨_,_,rfl,rfl⟩),h2,.inr ⟨_,_,rfl,by rw[Nat.add_right_comm]⟩⟩
 |.dead,_,_,_,h,_=>by simp[R]at h
 |.lit v,_,_,_,h,hx=>by
  simp only[R]at h; subst h
  rcases hx with ⟨n,aq,k,j,h1,_⟩|⟨e,j,h1,_⟩<;>cases h1
 |.agg l,_,_,_,h,hx=>by
  simp only[R]at h; obtain⟨_,rfl,_⟩:=h
  rcases hx with ⟨n,aq,k,j,h1,_⟩|⟨e,j,h1,_⟩<;>cases h1
 |.jF l,_,_,_,h,hx=>by
  simp only[R]at h; obtain⟨_,rfl,_⟩:=h
  rcases hx with ⟨n,aq,k,j,h1,_⟩|⟨e,j,h1,_⟩<;>cases h1
 |.sl l,_,_,_,h,hx=>by
  simp only[R]at h; obtain⟨_,rfl,_⟩:=h
  rcases hx with ⟨n,aq,k,j,h1,_⟩|⟨e,j,h1,_⟩<;>cases h1
 |.jw t l,_,_,_,h,hx=>by
  simp only[R]at h
  rcases h with ⟨_,rfl,_⟩|⟨_,rfl⟩<;>rcases hx with ⟨n,aq,k,j,h1,_⟩|⟨e,j,h1,_⟩<;>cases h1
 |.iD n c i j ln cp,_,_,_,h,hx=>by
  simp only[R]at h; obtain⟨_,rfl,_⟩:=h
  rcases hx with ⟨n,aq,k,j,h1,_⟩|⟨e,j,h1,_⟩<;>cases h1
 |.bh esz n c rg cap,_,_,_,h,hx=>by
  simp only[R]at h
  obtain⟨aq,_,h2⟩:=h
  rcases rg with _|⟨off,len⟩<;>simp only at h2<;>subst h2<;>rcases hx with ⟨n,aq,k,j,h1,_⟩|⟨e,j,h1,_⟩<;>cases h1
 |.jd fn f c,_,_,_,h,hx=>by
  simp only[R]at h; obtain⟨_,_,rfl,_⟩:=h
  rcases hx with ⟨n,aq,k,j,h1,_⟩|⟨e,j,h1,_⟩<;>cases h1
 |.fW t v,_,_,_,h,hx=>by
  simp only[R]at h; obtain⟨_,rfl,_⟩:=h
  rcases hx with ⟨n,aq,k,j,h1,_⟩|⟨e,j,h1,_⟩<;>cases h1
 |.w8 t l c b,_,_,_,h,hx=>by
  simp only[R]at h
  rcases h with ⟨_,_,rfl,_⟩|⟨_,_,rfl|rfl⟩<;>rcases hx with ⟨n,aq,k,j,h1,_⟩|⟨e,j,h1,_⟩<;>cases h1
 |.nz,_,_,_,h,hx=>by
  simp only[R]at h
  subst h
  rcases hx with ⟨n,aq,k,j,h1,_⟩|⟨e,j,h1,_⟩<;>cases h1
 |.mp y n,_,_,_,h,hx=>by
  simp only[R]at h; obtain⟨rfl,_⟩:=h
  rcases hx with ⟨n,aq,k,j,h1,_⟩|⟨e,j,h1,_⟩<;>cases h1
theorem kv{e:SV T.den}{s:Nat}:∀ {n j:Nat} {xs:List (SV T.den)},gP e j s n=some xs→xs.length=n∧∀ m x,xs[m]?=some x→n7 false 1 e (j+m*s)=some x
 |0,j,xs,h=>by simp only[gP,Option.some.injEq]at h; subst h; simp
 |n+1,j,xs,h=>by
  simp only[gP,Option.bind_eq_some_iff,Option.map_eq_some_iff]at h
  obtain⟨x,hx,l,hl,rfl⟩:=h
  obtain⟨h1,h2⟩:=kv hl
  refine⟨by simp[h1],fun m y hy=>?_⟩
  cases m with
  |zero=>simp at hy; subst hy; simpa using hx
  |succ m=>
   grind
theorem sP{k:IntKind}:∀ {xs:List (SV T.den)} {l:List Int},vh k xs=some l→xs=l.map fun n=>.lit (.int k n)
 |[],l,h=>by simp only[vh,Option.some.injEq]at h; subst h; rfl
 |x::r,l,h=>by
  unfold vh at h
  split at h
  ·simp at *
  ·rename_i k' n r' he
   cases he
   split at h
   case isFalse=>simp at h
   rename_i hk
   subst hk
   rw[Option.map_eq_some_iff]at h
   obtain⟨l',hl,rfl⟩:=h
   rw[sP hl]; rfl
  ·simp at h
theorem wE:∀ {xs:List (SV T.den)} {l:List Bool},tZ xs=some l→xs=l.map fun n=>.lit (.bool n)
 |[],l,h=>by simp only[tZ,Option.some.injEq]at h; subst h; rfl
 |x::r,l,h=>by
  unfold tZ at h
  split at h
  ·simp at *
  ·rename_i n r' he
   cases he
   rw[Option.map_eq_some_iff]at h
   obtain⟨l',hl,rfl⟩:=h
   rw[wE hl]; rfl
  ·simp at h
theorem AZ{α:Type}{l:List α}{i:Nat}{d x:α}(h:l[i]?=some x):HM l i d=x:=by
 simp_all[HM,h]
theorem D9{xs:List (SV T.den)}{i:Nat}{x y:SV T.den}(h:LV i xs=some y)(hx:xs[i]?=some x):y=x:=by
 unfold LV at h
 split at h
 ·rename_i k n r
  rw[Option.map_eq_some_iff]at h
  obtain⟨l,hl,rfl⟩:=h
  rw[sP hl]at hx
  have:(List.map (fun n=>(SV.lit (Value.int k n):SV T.den)) (n::l))[i]?=some x:=hx
  rw[List.getElem?_map,Option.map_eq_some_iff]at this
  obtain⟨z,hz,rfl⟩:=this
  rw[AZ hz]
 ·rename_i n r
  rw[Option.map_eq_some_iff]at h
  obtain⟨l,hl,rfl⟩:=h
  rw[wE hl]at hx
  have:(List.map (fun n=>(SV.lit (Value.bool n):SV T.den)) (n::l))[i]?=some x:=hx
  rw[List.getElem?_map,Option.map_eq_some_iff]at this
  obtain⟨z,hz,rfl⟩:=this
  rw[AZ hz]
 ·simp at h
theorem Ea{m:kp}{v x:SV T.den}{aY len i:Nat}{xs:List (SV T.den)}{rd:List Nat}(h:Ge H v aY len=some (xs,rd))(hx:LV i xs=some x)(hi:i<len)(h1:m.agg=false)(h2:m.size=1):
  oG m H (iB (i*aY) v) K=K x [] rd:=by
 have fin:∀ (e:SV T.den) (j:Nat),gP e j aY len=some xs→n7 m.agg m.size e (j+i*aY)=some x:=by
  intro e j hs
  obtain⟨g1,g2⟩:=kv hs
  have bL:i<xs.length:=by omega
  have hg:=List.getElem?_eq_getElem bL
  rw[D9 hx hg,h1,h2]
  exact g2 _ _ hg
 unfold Ge at h
 split at h
 ·rename_i n c k j
  split at h
  case h_2=>simp at h
  rename_i g cl f cur es ho
  split at h
  case h_2=>simp at h
  rename_i hc
  simp only[Option.bind_eq_some_iff,Option.map_eq_some_iff,Prod.mk.injEq]at h
  obtain⟨e,he,l,hl,rfl,rfl⟩:=h
  simp only[iB,oG,ho,hc,he,fin e j hl,yC]
 ·rename_i e j
  simp only[Option.map_eq_some_iff,Prod.mk.injEq]at h
  obtain⟨l,hl,rfl,rfl⟩:=h
  simp only[iB,oG,fin e j hl,yC]
 ·simp at h
theorem Me{α:Type}{l:List α}{n:Nat}{x:α}(h:l[n]?=some x):l.set n x=l:=Go.PI.ie h
theorem Eb{k:IntKind}{y:Int}{aY i:Nat}:∀ {ns:List Int} {l:List (SV T.den)} {j m:Nat},i<m→(∀ p n,ns[p]?=some n→l[j+p*aY]?=some (.lit (.int k n)))→Gf l j aY i m k y ns=l
 |[],l,j,m,_,_=>rfl
 |n::ns,l,j,m,hm,h=>by
  have h0:l[j]?=some (.lit (.int k n)):=by simpa using h 0 n rfl
  have hb:Nat.beq i m=false:=by
   cases hb:Nat.beq i m
   ·rfl
   ·have:=Nat.eq_of_beq_eq_true hb; omega
  simp only[Gf,hb,cond_false]
  rw[Me h0]
  refine Eb (by omega) fun p x hp=>?_
  have:=h (p+1) x (by simpa using hp)
  rwa [Nat.succ_mul,Nat.add_comm _ aY,←Nat.add_assoc]at this
theorem Ed{k:IntKind}{y:Int}{aY i:Nat}(hs:0<aY):∀ {ns:List Int} {l:List (SV T.den)} {j m:Nat},m≤i→i<m+ns.length→(∀ p n,ns[p]?=some n→l[j+p*aY]?=some (.lit (.int k n))) →
  Gf l j aY i m k y ns=l.set (j+(i-m)*aY) (.lit (.int k y))
 |[],l,j,m,h1,h2,_=>by simp at h2; omega
 |n::ns,l,j,m,h1,h2,h=>by
  have h0:l[j]?=some (.lit (.int k n)):=by simpa using h 0 n rfl
  have hn:∀ (l':List (SV T.den)),(∀ q,j<q→l'[q]?=l[q]?)→∀ p x,ns[p]?=some x→l'[j+aY+p*aY]?=some (.lit (.int k x)):=by
   intro l' hl p x hp
   have:=h (p+1) x (by simpa using hp)
   rw[Nat.succ_mul,Nat.add_comm _ aY,←Nat.add_assoc]at this
   rw[hl _ (by omega)]; exact this
  by_cases hm:i=m
  ·subst hm
   have hb:Nat.beq i i=true:=by simp
   simp only[Gf,hb,cond_true,Nat.sub_self,Nat.zero_mul,Nat.add_zero]
   exact Eb (by omega) (hn _ fun q hq=>by rw[List.getElem?_set_ne (by omega)])
  ·have hb:Nat.beq i m=false:=by
    cases hb:Nat.beq i m
    ·rfl
    ·simp_all
   simp only[Gf,hb,cond_false]
   rw[Me h0,Ed hs (by omega) (by simp at h2; omega) (hn _ fun _ _=>rfl)]
   have:i-m=(i-(m+1))+1:=by omega
   rw[this,Nat.succ_mul,Nat.add_assoc,Nat.add_comm aY]
theorem Cg{m:kp}{b v:SV T.den}{aY len i n:Nat}{o:aB T.den}(h:Gg H b v aY len i=some (n,o))(hi:i<len)(h2:m.size=1):
  qR m H (iB (i*aY) b) v K=K (.lit undef) [(n,o)] [n]:=by
 unfold Gg at h
 split at h
 case h_2=>simp at h
 rename_i n' c i0 j k y
 split at h
 case h_2=>simp at h
 rename_i g cl f cur es ho
 split at h
 case h_2=>simp at h
 rename_i l hc he
 simp only[Bool.and_eq_true]at hc
 obtain⟨⟨Kb,NB⟩,XK⟩:=hc
 have hs:0<aY:=Nat.le_of_ble_eq_true XK
 simp only[Option.map_eq_some_iff,Option.bind_eq_some_iff,Prod.mk.injEq]at h
 obtain⟨ns,⟨xs,Aj,XL⟩,rfl,rfl⟩:=h
 obtain⟨g1,g2⟩:=kv Aj
 have SA:=sP XL
 have vP:∀ p x,ns[p]?=some x→l[j+p*aY]?=some (.lit (.int k x)):=by
  simp_all[n7]
 have hlen:ns.length=len:=by rw[←g1,SA,List.length_map]
 have Gs:=Ed (y:=y) hs (Nat.zero_le i) (by omega) vP
 rw[Nat.sub_zero]at Gs
 rw[Gs]
 have bL:j+i*aY<l.length:=by
  have:=vP i _ (List.getElem?_eq_getElem (by omega:i<ns.length))
  exact(List.getElem?_eq_some_iff.1 this).1
 have uE:(bK (SV.lit (Value.int k y):SV T.den))=[.lit (.int k y)]:=rfl
 simp only[iB,qR,bQ,uE,ho,Kb,NB,he,h2]
 simp[gi,iW,gL,av,aE]
 rw[if_pos (show j+i*aY+1≤l.length from bL)]
theorem vt[ab](hT:T.Ok){P:Program}{t:TypeId}{m:kp}{q:bu}(hq:ff P t=some q)(h1:q.isAgg=m.agg)(h2:q.size=m.size)(hh:RH T H hp){a:SV T.den}{b:AV}(ha:RV T H a b)
  (h:(oG m H a K).run=some r):∃ v c rd,aD hp (kU P t b) c rd∧R T H v c∧(K v [] rd).run=some r:=by
 unfold kU
 rw[hq]
 simp only
 unfold oG at h
 split at h
 ·-- a reference
  rename_i n c i j
  have ha:=ha.live rfl
  simp only[R]at ha
  obtain⟨aq,rfl,cf⟩:=ha
  simp only
  split at h
  ·rename_i g cl f cur es ho
   obtain⟨o,db,dJ⟩:=hh.obj ho
   obtain⟨es',rfl,cF,rB⟩:=dJ
   split at h
   case h_2=>simp[Tr.run]at h
   rename_i hc
   have cf:=cf.arr hh ho hc
   simp only[aB.len]at cf
   split at h
   case h_2=>simp[Tr.run]at h
   rename_i e he
   obtain⟨v,hv,hk⟩:=mn h
   obtain⟨e',Hh,Fa⟩:=aw.get (aR.1 cF) he
   rw[←h1,←h2]at hv
   obtain⟨c',IW,Ue⟩:=R.part Fa hv
   refine⟨v,c',[n],?_,Ue,hk⟩
   refine aD.mono (aD.bind (aD.arr db (by rw[cf]; exact(RL.length cF).symm)) ?_) (rd:=[n]++[]) (fun _ h=>by simpa using h)
   simp only[Hh]
   exact aD.eZ IW
  ·rename_i g f cur t' l ho
   obtain⟨o,db,dJ⟩:=hh.obj ho
   obtain⟨es',rfl,cF⟩:=dJ
   split at h
   case h_2=>simp[Tr.run]at h
   rename_i hc
   have cf:=cf.arr hh ho hc
   simp only[aB.len]at cf
   obtain⟨x,hx,h⟩:=bind_some h
   rw[HS hT]at h
   obtain⟨v,hv,hk⟩:=mn h
   obtain⟨e',Hh,Fa⟩:=aw.get cF hx
   rw[←h1,←h2]at hv
   obtain⟨c',IW,Ue⟩:=R.part (hT.up _ _ _ H Fa) hv
   refine⟨v,c',[n],?_,Ue,hk⟩
   refine aD.mono (aD.bind (aD.arr db (by rw[cf]; exact(aw.length cF).symm)) ?_) (rd:=[n]++[]) (fun _ h=>by simpa using h)
   simp only[Hh]
   exact aD.eZ IW
  ·simp[Tr.run]at h
 ·rename_i e j
  have ha:=ha.live rfl
  simp only[R]at ha
  obtain⟨e',rfl,Fa,_⟩:=ha
  obtain⟨v,hv,hk⟩:=mn h
  rw[←h1,←h2]at hv
  obtain⟨c',IW,Ue⟩:=R.part Fa hv
  exact⟨v,c',[],aD.eZ IW,Ue,hk⟩
 ·simp[Tr.run]at h
theorem Ee[ab](hT:T.Ok){P:Program}{t:TypeId}{m:kp}{q:bu}(hq:ff P t=some q)(h1:q.isAgg=m.agg)(h2:q.size=m.size)(hh:RH T H hp){a:SV T.den}{b:AV}(ha:RV T H a b)
  (h:(HN m H a K).run=some r):∃ v c rd,aD hp (kU P t b) c rd∧R T H v c∧(K v [] rd).run=some r:=by
 unfold HN at h
 split at h
 ·rename_i v aY len i
  have ha:=ha.live rfl
  simp only[R]at ha
  obtain⟨a0,g1,g2,g3⟩:=ha
  have hR:=qX g1 g3
  have chain:(fL i len 0 fun k=>oG m H (iB (k*aY) v) K).run=some r→∃ v c rd,aD hp (kU P t b) c rd∧R T H v c∧(K v [] rd).run=some r:=by
   intro h
   obtain⟨_,_,h⟩:=cW h
   exact vt hT hq h1 h2 hh (.inr hR) h
  split at h
  ·rename_i xs rd hs hx
   simp only[Bool.and_eq_true,Bool.not_eq_true']at hs
   split at h
   ·rename_i x Mf
    rw[←Ea (K:=K) (m:=m) hx Mf g2 hs.1 (Nat.eq_of_beq_eq_true hs.2)]at h
    exact vt hT hq h1 h2 hh (.inr hR) h
   ·exact chain h
  ·exact chain h
 ·exact vt hT hq h1 h2 hh ha h
def aB.yS{den:Nat→Type}:aB den→Bool
 |.arr ..|.ca ..=>true
 |_=>false
theorem RO.Ef[ab]{o:aB T.den}{a:aJ}(dJ:RO T H o a)(hj:o.yS=true):∃ es,a=.arr o.flags.1 o.flags.2.1 o.flags.2.2 es∧es.length=o.len:=by
 cases o with
 |arr g cl f cur es=>obtain⟨es',rfl,cF,_⟩:=dJ; exact⟨es',rfl,(RL.length cF).symm⟩
 |ca g f cur t l=>obtain⟨es',rfl,cF⟩:=dJ; exact⟨es',rfl,(aw.length cF).symm⟩
 |_=>simp[aB.yS]at hj
theorem sQ[ab](hT:T.Ok){P:Program}{t:TypeId}{m:kp}{q:bu}(hq:ff P t=some q)(h2:q.size=m.size)(hh:RH T H hp){a v:SV T.den}{b c:AV}(ha:RV T H a b)(hv:RV T H v c)
  (h:(qR m H a v K).run=some r):iX T H hp (pw P t b c) K r:=by
 unfold pw
 rw[hq]
 simp only
 unfold qR at h
 split at h
 case h_2=>simp[Tr.run]at h
 rename_i hd kZ
 simp only[Bool.and_eq_true,decide_eq_true_eq]at kZ
 have hv:=hv.live hd
 have kM:=hv.cells
 split at h
 case h_2=>simp[Tr.run]at h
 rename_i n cc i j
 have ha:=ha.live rfl
 simp only[R]at ha
 obtain⟨aq,rfl,cf⟩:=ha
 simp only
 split at h
 ·rename_i g cl f cur es ho
  obtain⟨o,db,dJ⟩:=hh.obj ho
  obtain⟨es',rfl,cF,rB⟩:=dJ
  split at h
  case h_2=>simp[Tr.run]at h
  rename_i hc
  simp only[Bool.and_eq_true,Bool.not_eq_true']at hc
  have cf:=cf.arr hh ho hc.1
  simp only[aB.len]at cf
  split at h
  case h_2=>simp[Tr.run]at h
  rename_i e he
  split at h
  case h_2=>simp[Tr.run]at h
  rename_i e' wW
  obtain⟨b',pq,SK⟩:=aw.get (aR.1 cF) he
  obtain⟨e2,yj,RG⟩:=R.jf SK kM wW
  have du:RL T H (es.set i e') (es'.set i e2):=aR.2 ((aR.1 cF).set i RG)
  refine ke (o':=.arr g (cl&&av (bK v)) f cur (es.set i e')) hh ho (Nat.le_refl _) (fun _=>by simp[aB.len]) (a':=.arr g (cl&&aZ (cellsOf c)) f (es'.set i e2)) ⟨_,by rw[RL.closed kM],du,fun nu=>by simp only[Bool.and_eq_true]at nu; exact sL (rB nu.1) (yM wW (kc (rB nu.1) (List.mem_of_getElem? he)) nu.2) i⟩ (bk undef) ?_ h
  refine aD.mono (aD.bind (aD.arr db (by rw[cf]; exact(RL.length cF).symm)) ?_) (rd:=[n]++[]) (fun _ h=>by simpa using h)
  simp only[pq,yj]
  rw[if_pos ⟨hc.2,by rw[←kM.length,h2]; exact kZ.1,by rw[←kM.D1]; exact kZ.2⟩]
  exact aD.ret _
 ·rename_i g f cur t' l ho
  obtain⟨o,db,dJ⟩:=hh.obj ho
  obtain⟨es',rfl,cF⟩:=dJ
  split at h
  case h_2=>simp[Tr.run]at h
  rename_i hc
  simp only[Bool.and_eq_true,Bool.not_eq_true']at hc
  have cf:=cf.arr hh ho hc.1.1
  simp only[aB.len]at cf
  obtain⟨x,hx,h⟩:=bind_some h
  split at h
  case h_2=>simp[Tr.run]at h
  rename_i e' wW
  split at h
  case h_2=>simp[Tr.run]at h
  rename_i y hy
  obtain⟨b',pq,SK⟩:=aw.get cF hx
  obtain⟨e2,yj,RG⟩:=R.jf (hT.up _ _ _ H SK) kM wW
  have du:aw (T.rp t') (l.set i y) (es'.set i e2):=cF.set i (hT.dn _ _ _ _ H hy RG)
  refine ke (o':=.ca g f cur t' (l.set i y)) hh ho (Nat.le_refl _) (fun _=>by simp[aB.len]) (a':=.arr g (true&&aZ (cellsOf c)) f (es'.set i e2)) ⟨_,by rw[←RL.closed kM,hc.2]; rfl,du⟩ (bk undef) ?_ h
  refine aD.mono (aD.bind (aD.arr db (by rw[cf]; exact(aw.length cF).symm)) ?_) (rd:=[n]++[]) (fun _ h=>by simpa using h)
  simp only[pq,yj]
  rw[if_pos ⟨hc.1.2,by rw[←kM.length,h2]; exact kZ.1,by rw[←kM.D1]; exact kZ.2⟩]
  exact aD.ret _
 ·simp[Tr.run]at h
theorem Ja[ab](hT:T.Ok){P:Program}{t:TypeId}{m:kp}{q:bu}(hq:ff P t=some q)(h2:q.size=m.size)(hh:RH T H hp){a v:SV T.den}{b c:AV}(ha:RV T H a b)(hv:RV T H v c)
  (h:(Gh m H a v K).run=some r):iX T H hp (pw P t b c) K r:=by
 unfold Gh at h
 split at h
 ·rename_i w aY len i
  have ha:=ha.live rfl
  simp only[R]at ha
  obtain⟨a0,g1,g2,g3⟩:=ha
  have hR:=qX g1 g3
  split at h
  ·rename_i n o hs hx
   rw[←Cg (K:=K) (m:=m) hx g2 (Nat.eq_of_beq_eq_true hs)]at h
   exact sQ hT hq h2 hh (.inr hR) hv h
  ·obtain⟨_,_,h⟩:=cW h
   exact sQ hT hq h2 hh (.inr hR) hv h
 ·exact sQ hT hq h2 hh ha hv h
end
end Go.PI
end
section
/- PS, part G: the other operations. -/
namespace Go.PI
variable {T:dm}{ρ:Type}
section
variable {H:ah T.den}{hp:ag}{K:EK T ρ}{r:ρ}{Q:gO}
theorem gO.Ok.slice(hQ:Q.Ok){t e:Nat}{m:kp}(h:Q.elemOf t=some (e,m)):Q.P.underlying t=some (.slice e)∧Q.ty e=some m:=by
 unfold gO.elemOf at h
 cases ht:Q.ty t with
 |none=>rw[ht]at h; simp at h
 |some m1=>
  rw[ht]at h
  simp only at h
  obtain⟨d,hd,hk⟩:=hQ.kind t m1 ht
  cases hm:m1.kind with
  |slice e'=>
   rw[hm]at h hk
   simp only[Option.map_eq_some_iff,Prod.mk.injEq]at h
   obtain⟨m2,h1,rfl,rfl⟩:=h
   cases d<;>simp[oK]at hk
   subst hk
   exact⟨hd,h1⟩
  |_=>rw[hm]at h; simp at h
theorem gO.Ok.elem[ab](hQ:Q.Ok){t:Nat}{m:kp}(h:Q.elem t=some m):∃ r,aH Q.P t=some r∧r.isAgg=m.agg∧r.size=m.size∧r.bytes=m.bytes∧(∀ z,m.zero=some z→bR r=some z):=by
 unfold gO.elem at h
 rw[Option.map_eq_some_iff]at h
 obtain⟨⟨e,m'⟩,h1,rfl⟩:=h
 obtain⟨h2,h3⟩:=hQ.slice h1
 obtain⟨r,h4,h5⟩:=hQ.row e _ h3
 exact⟨r,by simp[aH,h2,h4],h5⟩
theorem gO.Ok.Eg(hQ:Q.Ok){t n:Nat}{m:kp}(h:Q.arr t=some (n,m)):∃ r,arrayElem Q.P t=some (n,r)∧r.isAgg=m.agg∧r.size=m.size:=by
 unfold gO.arr at h
 cases ht:Q.ty t with
 |none=>rw[ht]at h; simp at h
 |some m1=>
  rw[ht]at h
  simp only at h
  obtain⟨d,hd,hk⟩:=hQ.kind t m1 ht
  cases hm:m1.kind with
  |array n' e=>
   rw[hm]at h hk
   simp only[Option.map_eq_some_iff,Prod.mk.injEq]at h
   obtain⟨m2,h1,rfl,rfl⟩:=h
   cases d<;>simp[oK]at hk
   obtain⟨rfl,rfl⟩:=hk
   obtain⟨r,h4,h5,h6,_⟩:=hQ.row _ _ h1
   exact⟨r,by simp[arrayElem,hd,h4],h5,h6⟩
  |_=>rw[hm]at h; simp at h
theorem gO.Ok.O2(hQ:Q.Ok){t f off:Nat}{m:kp}(h:Q.VR t f=some (off,m)):∃ r,mz Q.P t f=some (off,r)∧r.isAgg=m.agg∧r.size=m.size:=by
 unfold gO.VR at h
 cases ht:Q.ty t with
 |none=>rw[ht]at h; simp at h
 |some m1=>
  rw[ht]at h
  simp only at h
  obtain⟨d,hd,hk⟩:=hQ.kind t m1 ht
  cases hm:m1.kind with
  |struct fs=>
   rw[hm]at h hk
   simp only at h
   cases d<;>simp[oK]at hk
   rename_i EX
   subst hk
   cases hf:(List.map (fun f=>(f.offset,f.type)) EX.toList)[f]? with
   |none=>rw[hf]at h; simp at h
   |some q=>
    obtain⟨XM,e⟩:=q
    rw[hf]at h
    simp only at h
    rw[List.getElem?_map,Option.map_eq_some_iff]at hf
    obtain⟨fd,Wk,hq⟩:=hf
    simp only[Prod.mk.injEq]at hq
    obtain⟨rfl,rfl⟩:=hq
    cases he:Q.ty fd.type with
    |none=>rw[he]at h; simp at h
    |some m2=>
     rw[he]at h
     simp only at h
     split at h
     ·simp at h
     rename_i hz
     simp only[Option.some.injEq,Prod.mk.injEq]at h
     obtain⟨rfl,rfl⟩:=h
     obtain⟨r,h4,h5,h6,_⟩:=hQ.row _ _ he
     refine⟨r,?_,h5,h6⟩
     have XN:EX[f]?=some fd:=by simpa using Wk
     simp[mz,structFields,hd,XN,h4]
     omega
  |_=>rw[hm]at h; simp at h
theorem gO.Ok.O3(hQ:Q.Ok){t:Nat}{b:Bool}(h:Q.isSlice t=some b):bN Q.P t=b:=by
 unfold gO.isSlice at h
 cases ht:Q.ty t with
 |none=>rw[ht]at h; simp at h
 |some m1=>
  rw[ht]at h
  simp only at h
  obtain⟨d,hd,hk⟩:=hQ.kind t m1 ht
  unfold bN
  rw[hd]
  cases hm:m1.kind<;>rw[hm]at h hk<;>cases d<;>simp[oK]at hk<;>simp_all
theorem O4[ab]{P:Program}{op:BinOp}{t:TypeId}{xo yo:Operand}{k:IntKind}{a b:Int}{v:Value}(h:Rt op k a b=some v):
  fh P op t xo yo (.lit (.int k a)) (.lit (.int k b))=some (.lit v):=by
 cases op<;>simp only[Rt,Option.some.injEq,reduceCtorEq]at h<;>subst h
 ·exact BF
 ·exact Hk
 ·exact N7
 ·rw[N5]; congr
 ·rw[N6]; congr
 ·exact qG
 ·exact N3
 ·exact Hj
 ·exact N4
theorem O5[ab]{P:Program}{op:BinOp}{t:TypeId}{xo yo:Operand}{k:IntKind}{a b:Int}{v:Value}(h:Ru op k a b=some v)(hb:b≠0):
  fh P op t xo yo (.lit (.int k a)) (.lit (.int k b))=some (.lit v):=by
 cases op<;>simp only[Ru,Option.some.injEq,reduceCtorEq]at h<;>subst h
 ·simp only[fh,ep,dg]; rw[eR _ (by simp) (by simp)]; simp[binOp,Op.intDiv,hb]; rfl
 ·simp only[fh,ep,dg]; rw[eR _ (by simp) (by simp)]; simp[binOp,Op.intDiv,hb]; rfl
theorem RI[ab]{P:Program}{op:BinOp}{t:TypeId}{xo yo:Operand}{k k':IntKind}{a b:Int}{v:Value}(h:Xl op k a b=some v)(hb:¬b<0):
  fh P op t xo yo (.lit (.int k a)) (.lit (.int k' b))=some (.lit v):=by
 cases op<;>simp only[Xl,Option.some.injEq,reduceCtorEq]at h<;>subst h
 ·simp only[fh,ep,dg]; rw[eR _ (by simp) (by simp)]; simp[binOp,Op.shift,hb]; rfl
 ·simp only[fh,ep,dg]; rw[eR _ (by simp) (by simp)]; simp[binOp,Op.shift,hb]; rfl
theorem wF{x y:Value}{K:Bool→Tr ρ}:xq x y K=K (sy x y):=by
 unfold xq sy
 split<;>simp_all
theorem wG[ab]:∀ {c c':List Value} {K:Bool→Tr ρ},lq c c' K=K (cM c c')
 |[],[],K=>rfl
 |[x],[y],K=>by simp[lq,wF,cM]
 |x::x'::xs,y::y'::ys,K=>by
  simp only[lq,wF]
  rw[wG]
  rfl
 |[],_::_,K=>by simp[lq,cM]
 |_::_,[],K=>by simp[lq,cM]
 |[x],y::y'::ys,K=>by simp[lq,cM]
 |x::x'::xs,[y],K=>by simp[lq,cM]
theorem yT:∀ (c:List Value),cV (c.map .lit)=some c
 |[]=>rfl
 |v::vs=>by simp[cV,yT vs]
theorem Jb[ab](hQ:Q.Ok){op:BinOp}{t:TypeId}{xo yo:Operand}{l l':List (SV T.den)}{a b:List AV}(h1:RL T H l a)(h2:RL T H l' b)(h:(Gk Q op t l l' K).run=some r):
  ∃ v,fh Q.P op t xo yo (.agg a) (.agg b)=some (.lit v)∧(K (.lit v) [] []).run=some r:=by
 unfold Gk at h
 split at h
 case h_2=>simp[Tr.run]at h
 rename_i c c' m hc IW hm
 split at h
 case h_2=>simp[Tr.run]at h
 rename_i ks TU
 split at h
 case h_2=>simp[Tr.run]at h
 rename_i hf
 simp only[Bool.and_eq_true]at hf
 obtain⟨_,rfl⟩:=RL.cV h1 hc
 obtain⟨_,rfl⟩:=RL.cV h2 IW
 obtain⟨hg,Ig⟩:=hQ.Qa _ _ _ hm TU
 have he:=sO 20 t ks c c' Ig hf.1.2 hf.2
 obtain⟨rr,wR,BU,_⟩:=hQ.row _ _ hm
 have hd:∃ d,Q.P.underlying t=some d∧dT d=true:=by
  unfold ff at wR
  cases hi:Q.P.info? t with
  |none=>rw[hi]at wR; simp at wR
  |some i=>
   cases hu:Q.P.underlying t with
   |none=>rw[hi,hu]at wR; simp at wR
   |some d=>
    rw[hi,hu]at wR
    simp only[Option.some.injEq]at wR
    refine⟨d,rfl,?_⟩
    rw[←hf.1.1,←BU,←wR]
    rfl
 obtain⟨d,PV,Vw⟩:=hd
 have hA:∀ op,ep Q.P op t (.agg (c.map .lit)) (.agg (c'.map .lit))=lG op (cM c c'):=by
  intro op
  unfold ep
  simp only[yT,PV]
  cases d<;>simp[dT]at Vw<;>simp[hg,he]
 have hB:∀ op x,lG op (cM c c')=some x→fh Q.P op t xo yo (.agg (c.map .lit)) (.agg (c'.map .lit))=some x:=by
  intro op x hx
  unfold fh
  rw[hA,hx]
 rw[wG]at h
 cases op<;>simp only[Tr.run,reduceCtorEq]at h
 ·exact⟨_,hB _ _ rfl,h⟩
 ·exact⟨_,hB _ _ rfl,h⟩
theorem uf[ab]{v:SV T.den}{a b:AV}(hv:RV T H v a)(h:ni v=some b):a=b:=by
 rcases hv with hv|hv
 ·subst hv; simp[ni]at h
 ·exact hv.plain h
theorem ug{P:Program}{op:BinOp}{t:TypeId}{a b:AV}(ha:(∀ l,a≠.agg l)∨∀ l,b≠.agg l):ep P op t a b=none:=by
 unfold ep
 split
 ·simp_all
 ·rfl
theorem A0[ab]{P:Program}{op:BinOp}{t:TypeId}{x:SV T.den}{a:AV}{n:Value}{y:AV}(hx:RV T H x a)(h:B5 P op t x n=some y):
  mX P op t a n=some y∧dg a=none∧∀ l,a≠.agg l:=by
 unfold B5 at h
 split at h
 ·split at h
  ·have:=hx.live rfl
   simp only[R]at this
   obtain⟨v',rfl,l',rfl,_⟩:=this
   exact⟨by simpa[mX] using h,rfl,by simp⟩
  ·have:=hx.live rfl
   simp only[R]at this
   obtain⟨v',rfl,l',rfl,_⟩:=this
   exact⟨by simpa[mX] using h,rfl,by simp⟩
  ·simp at h
 ·split at h
  ·have:=hx.live rfl
   simp only[R]at this
   obtain⟨f',c',rfl,_⟩:=this
   exact⟨by simpa[mX] using h,rfl,by simp⟩
  ·simp at h
 ·split at h
  case isFalse=>simp at h
  rename_i hc
  simp only[Bool.and_eq_true]at hc
  cases x<;>simp[HJ]at hc
  rename_i xs
  have:=hx.live rfl
  simp only[R]at this
  obtain⟨l',rfl,hl,_⟩:=this
  have:notNil (.sl l')=true:=by
   simp only[notNil]
   have:=hl.length
   cases l' with
   |nil=>simp at this; exact absurd this hc.2
   |cons=>rfl
  refine⟨?_,rfl,by simp⟩
  simp only[mX,hc.1,this,Bool.and_self,if_true]
  exact h
 ·simp at h
theorem O6[ab](hQ:Q.Ok){op:BinOp}{t:TypeId}{xo yo:Operand}{x y:SV T.den}{a b:AV}(hx:RV T H x a)(hy:RV T H y b)(h:(Rv Q op t xo yo x y K).run=some r):
  ∃ v,fh Q.P op t xo yo a b=some (.lit v)∧(K (.lit v) [] []).run=some r:=by
 unfold Rv at h
 split at h
 ·rename_i k m k' m'
  have ha:=hx.lit rfl
  have hb:=hy.lit rfl
  subst ha; subst hb
  split at h
  ·rename_i v hk hv
   simp only[decide_eq_true_eq]at hk
   subst hk
   exact⟨v,O4 hv,h⟩
  ·split at h
   ·rename_i v hk hv
    simp only[decide_eq_true_eq]at hk
    subst hk
    rcases fF h with ⟨_,h⟩|⟨h0,h⟩
    ·simp[Tr.run]at h
    ·exact⟨v,O5 hv (by simpa using h0),h⟩
   ·split at h
    ·rename_i v hk hv
     rcases fF h with ⟨_,h⟩|⟨h0,h⟩
     ·simp[Tr.run]at h
     ·exact⟨v,RI hv (by simpa using h0),h⟩
    ·exact il h
 ·rename_i l l'
  have ha:=hx.live rfl
  have hb:=hy.live rfl
  simp only[R]at ha hb
  obtain⟨a',rfl,ha⟩:=ha
  obtain⟨b',rfl,hb⟩:=hb
  exact Jb hQ ha hb h
 ·split at h
  ·rename_i a' b' h1 h2
   rw[uf hx h1,uf hy h2]
   exact il h
  ·split at h
   ·rename_i n
    obtain⟨v,hv,hk⟩:=il h
    obtain⟨h1,h2,h3⟩:=A0 hx hv
    have hb:=hy.lit rfl
    subst hb
    refine⟨v,?_,hk⟩
    unfold fh
    rw[ug (.inl h3),h2]
    exact h1
   ·rename_i hyn
    split at h
    ·rename_i n
     obtain⟨v,hv,hk⟩:=il h
     obtain⟨h1,h2,h3⟩:=A0 hy hv
     have ha:=hx.lit rfl
     subst ha
     refine⟨v,?_,hk⟩
     unfold fh
     rw[ug (.inr h3),h2]
     cases b with
     |lit b=>
      exfalso
      simp[dg]at h2
     |_=>exact h1
    ·simp[Tr.run]at h
theorem O7[ab]{t:Bool}{x y:SV T.den}{a b:AV}(hx:RV T H x a)(hy:RV T H y b)(h:(L0 t x y K).run=some r):
  ∃ v,RV T H v (cond t a b)∧(K v [] []).run=some r:=by
 unfold L0 at h
 split at h
 ·have ha:=hx.lit rfl
  have hb:=hy.lit rfl
  subst ha; subst hb
  refine⟨_,?_,h⟩
  cases t<;>exact bk _
 ·rename_i k m k' m'
  have ha:=hx.lit rfl
  have hb:=hy.lit rfl
  subst ha; subst hb
  split at h
  ·rename_i hk
   subst hk
   refine⟨_,?_,h⟩
   cases t<;>exact bk _
  ·rcases fF h with ⟨rfl,h⟩|⟨rfl,h⟩
   ·exact⟨_,bk _,h⟩
   ·exact⟨_,bk _,h⟩
 ·rcases fF h with ⟨rfl,h⟩|⟨rfl,h⟩
  ·exact⟨_,hx,h⟩
  ·exact⟨_,hy,h⟩
end
end Go.PI
end
section
/- PS, part H: structs and slices built, cut, indexed. -/
namespace Go.PI
variable {T:dm}{ρ:Type}
section
variable {H:ah T.den}{hp:ag}{K:EK T ρ}{r:ρ}{Q:gO}
theorem yU(hQ:Q.Ok):∀ {fs:List Field} {pl:List (Nat×Nat)},Q.u9 (fs.map fun f=>(f.offset,f.type))=some pl→mA Q.P fs=some pl
 |[],pl,h=>by simpa[gO.u9,mA] using h
 |f::fs,pl,h=>by
  simp only[List.map_cons,gO.u9]at h
  cases hm:Q.ty f.type with
  |none=>rw[hm]at h; simp at h
  |some m=>
   cases hp:Q.u9 (fs.map fun f=>(f.offset,f.type)) with
   |none=>rw[hm,hp]at h; simp at h
   |some l=>
    rw[hm,hp]at h
    simp only[Option.some.injEq]at h
    subst h
    obtain⟨r,h1,_,h2,_⟩:=hQ.row _ _ hm
    simp[mA,h1,yU hQ hp,h2]
theorem yV[ab]{q:bu}{z:AV}{zs:SV T.den}(h:bR q=some z)(hz:(gN z:Option (SV T.den))=some zs):
  ∃ v,q.zero=some v∧v.cells.toList.all (fun v=>bf (.lit v))=true∧RL T H (bK zs) (v.cells.toList.map .lit):=by
 unfold bR at h
 cases hv:q.zero with
 |none=>rw[hv]at h; simp at h
 |some v=>
  rw[hv]at h
  simp only at h
  split at h
  case isFalse=>simp at h
  rename_i hc
  simp only[Option.some.injEq]at h
  refine⟨v,rfl,hc.2.2.1,?_⟩
  have h1:=(vp (H:=H) hz).cells
  rw[←h]at h1
  cases v<;>first|exact h1|(simp[xx]at hc)
theorem Jc[ab](hQ:Q.Ok){t:TypeId}{ps:List (Nat×SV T.den)}{qs:List (Nat×AV)}(hp:RP T H ps qs){v:SV T.den}(h:Gi Q t ps=some v):∃ a,ux Q.P t qs=some a∧R T H v a:=by
 unfold Gi at h
 split at h
 case h_2=>simp at h
 rename_i m hm
 obtain⟨q,hG,ed,gU,_,Hv⟩:=hQ.row _ _ hm
 obtain⟨d,hd,hk⟩:=hQ.kind _ _ hm
 split at h
 ·rename_i fs z Tt hz
  rw[Option.bind_eq_some_iff]at hz
  obtain⟨z0,Ow,hz⟩:=hz
  obtain⟨zv,Rf,RJ,Uf⟩:=yV (H:=H) (Hv _ Ow) hz
  rw[Tt]at hk
  cases d<;>simp[oK]at hk
  rename_i EX
  subst hk
  split at h
  case h_2=>simp at h
  rename_i pl G2
  rw[Option.map_eq_some_iff]at h
  obtain⟨l,h1,rfl⟩:=h
  obtain⟨l',h2,h3⟩:=RP.fill hp Uf h1
  refine⟨.agg l',?_,by simp only[R]; exact⟨l',rfl,h3⟩⟩
  unfold ux
  simp only[hd,hG,Rf,yU hQ G2,RJ,if_true]
  rw[h2]; rfl
 ·rename_i n e z Tt hz
  rw[Option.bind_eq_some_iff]at hz
  obtain⟨z0,Ow,hz⟩:=hz
  obtain⟨zv,Rf,RJ,Uf⟩:=yV (H:=H) (Hv _ Ow) hz
  rw[Tt]at hk
  cases d<;>simp[oK]at hk
  obtain⟨rfl,rfl⟩:=hk
  split at h
  case h_2=>simp at h
  rename_i m2 vY
  obtain⟨q2,wR,_,hr3,_⟩:=hQ.row _ _ vY
  rw[Option.map_eq_some_iff]at h
  obtain⟨l,h1,rfl⟩:=h
  obtain⟨l',h2,h3⟩:=RP.fill hp Uf h1
  refine⟨.agg l',?_,by simp only[R]; exact⟨l',rfl,h3⟩⟩
  unfold ux
  simp only[hd,hG,Rf,wR,RJ,if_true,hr3]
  rw[h2]; rfl
 ·simp at h
theorem wH[ab]:∀ {ps:List (Nat×SV T.den)} {qs:List (Nat×AV)} {es:List (SV T.den)} {es':List AV},RP T H ps qs→RL T H es es'→RL T H (fE es ps) (fX es' qs)
 |[],[],es,es',_,h=>h
 |(i,v)::ps,(i',a)::qs,es,es',hp,h=>by
  obtain⟨⟨h1,h2⟩,h3⟩:=hp
  simp only at h1 h2
  subst h1
  simp only[fE,fX]
  exact wH h3 (aR.2 ((aR.1 h).set i h2))
 |[],_::_,_,_,h,_=>h.elim
 |_::_,[],_,_,h,_=>h.elim
theorem RP.snd:∀ {ps:List (Nat×SV T.den)} {qs:List (Nat×AV)},RP T H ps qs→RL T H (ps.map (·.2)) (qs.map (·.2))
 |[],[],_=>by simp[RL]
 |(i,v)::ps,(i',a)::qs,h=>by
  obtain⟨⟨_,h2⟩,h3⟩:=h
  simp only[List.map_cons,RL]
  exact⟨h2,RP.snd h3⟩
 |[],_::_,h=>h.elim
 |_::_,[],h=>h.elim
theorem RP.all{p:Nat×SV T.den→Bool}{q:Nat×AV→Bool}(NK:∀ i v a,R T H v a→p (i,v)=q (i,a)):∀ {ps:List (Nat×SV T.den)} {qs:List (Nat×AV)},RP T H ps qs→ps.all p=qs.all q
 |[],[],_=>rfl
 |(i,v)::ps,(i',a)::qs,h=>by
  obtain⟨⟨h1,h2⟩,h3⟩:=h
  simp only at h1 h2
  subst h1
  simp only[List.all_cons]
  rw[NK i v a h2,RP.all NK h3]
 |[],_::_,h=>h.elim
 |_::_,[],h=>h.elim
theorem eW(hh:RH T H hp){nm:Nat}(hn:nm=H.length∨H[nm]?=some none){o:aB T.den}:fU (bM H nm o) nm o.cur o.len:=by
 refine⟨o,?_,Nat.le_refl _,fun _=>rfl⟩
 unfold bM
 split
 ·rename_i h; subst h; simp
 ·grind
theorem rN:∀ (ps:List (Nat×SV T.den)) (es:List (SV T.den)),(fE es ps).length=es.length
 |[],es=>rfl
 |(i,v)::ps,es=>by simp only[fE]; rw[rN ps]; simp
theorem qk[ab](hQ:Q.Ok)(hh:RH T H hp){nm:Nat}(hn:nm=H.length∨H[nm]?=some none){t:TypeId}{len:Nat}{ps:List (Nat×SV T.den)}{qs:List (Nat×AV)}(O8:RP T H ps qs)
  (h:(mQ Q nm t len ps K).run=some r):iX T H hp (.eZ (c6 Q.P nm t len qs)) K r:=by
 unfold mQ at h
 split at h
 case h_2=>simp[Tr.run]at h
 rename_i m hm
 obtain⟨q,hG,ed,gU,Hv,JU⟩:=hQ.elem hm
 split at h
 case h_2=>simp[Tr.run]at h
 rename_i z hz
 rw[Option.bind_eq_some_iff]at hz
 obtain⟨z0,Ow,hz⟩:=hz
 split at h
 case isFalse=>simp[Tr.run]at h
 rename_i hc
 have nE:=JU _ Ow
 have cF:=wH O8 (aR.2 (aw.replicate (vp (H:=H) hz) len))
 refine eV hh hn (o:=.arr false (av (ps.map (·.2))) false 0 (fE (List.replicate len z) ps)) (a':=.arr false (aZ (qs.map (·.2))) false (fX (List.replicate len z0) qs))
  ⟨_,by rw[RL.closed (RP.snd O8)],cF,fun nu=>pd (lD fun x hx=>by rw[List.eq_of_mem_replicate hx]; exact uc hz) nu⟩ (a:=.bh q.size nm len 0 len (some len)) (rd:=[]) ?_ ?_ h
 ·right
  simp only[R]
  have hv:=eW hh hn (o:=.arr false (av (ps.map (·.2))) false 0 (fE (List.replicate len z) ps))
  simp only[aB.cur,aB.len,rN,List.length_replicate]at hv
  exact⟨len,hv,by rw[gU]⟩
 ·have bg:qs.all (fun p=>decide (p.1<len)&&aC q.isAgg q.size p.2)=true:=by
   rw[←RP.all (p:=fun p=>decide (p.1<len)&&ll m.agg m.size p.2) (fun i v a NL=>by simp only[ed,gU,R.aC NL]) O8]; exact hc.2.2
  refine aD.eZ ?_
  unfold c6
  simp only[hG,nE]
  rw[if_pos ⟨by rw[gU]; exact hc.1,by rw[gU]; exact hc.2.1,bg⟩]
def dm.uh(T:dm)(Q:gO):Prop:=∀ t m z za,Q.ty t=some m→m.zero=some za→T.zero t=some z→T.rp t z za
theorem zY[ab](hQ:Q.Ok)(hZ:T.uh Q)(hh:RH T H hp){nm:Nat}(hn:nm=H.length∨H[nm]?=some none){t:TypeId}{l c:SV T.den}{a b:AV}(hl:RV T H l a)(hc:RV T H c b)
  (h:(su Q nm t l c K).run=some r):iX T H hp (.eZ (fi Q.P nm t a b)) K r:=by
 unfold su at h
 split at h
 case h_2=>simp[Tr.run]at h
 rename_i e m hm
 obtain⟨hu,mr⟩:=hQ.slice hm
 obtain⟨q,hG,ed,gU,Hv,JU⟩:=hQ.row _ _ mr
 have wW:aH Q.P t=some q:=by simp[aH,hu,hG]
 split at h
 case h_2=>simp[Tr.run]at h
 rename_i za z RK hz E8
 simp only[decide_eq_true_eq]at E8
 have nE:=JU _ RK
 have XO:=hZ _ _ _ _ mr RK hz
 obtain⟨k,n,e1,Fp,h⟩:=iY h
 obtain⟨k',n',e2,XP,h⟩:=iY h
 have ha:=qW hl e1 Fp
 have hb:=qW hc e2 XP
 obtain⟨hg,h⟩:=ba h
 simp only[Bool.and_eq_true,decide_eq_true_eq]at hg
 have tA:aw (T.rp e) (List.replicate n'.toNat z) (List.replicate n'.toNat za):=aw.replicate XO _
 have hA:fi Q.P nm t a b=some ⟨.bh q.size nm n'.toNat 0 n.toNat (some n'.toNat),[(nm,.arr false true false (List.replicate n'.toNat za))]⟩:=by
  simp_all[wW,ha,hb,nE,fi]
 have hv:=eW hh hn (o:=.ca false false 0 e (List.replicate n'.toNat z))
 simp only[aB.cur,aB.len,List.length_replicate]at hv
 refine eV hh hn (o:=.ca false false 0 e (List.replicate n'.toNat z)) ⟨_,rfl,tA⟩ ?_ (aD.eZ hA) h
 right
 simp only[R]
 exact⟨n'.toNat,hv,by rw[gU]⟩
theorem zZ[ab](hQ:Q.Ok)(hZ:T.uh Q)(hh:RH T H hp){nm:Nat}(hn:nm=H.length∨H[nm]?=some none){t:TypeId}{l:SV T.den}{a:AV}(hl:RV T H l a)
  (h:(sv Q nm t l K).run=some r):iX T H hp (.eZ (fi Q.P nm t a a)) K r:=by
 unfold sv at h
 split at h
 case h_2=>simp[Tr.run]at h
 rename_i e m hm
 obtain⟨hu,mr⟩:=hQ.slice hm
 obtain⟨q,hG,ed,gU,Hv,JU⟩:=hQ.row _ _ mr
 have wW:aH Q.P t=some q:=by simp[aH,hu,hG]
 split at h
 case h_2=>simp[Tr.run]at h
 rename_i za z RK hz E8
 simp only[decide_eq_true_eq]at E8
 have nE:=JU _ RK
 have XO:=hZ _ _ _ _ mr RK hz
 obtain⟨k,n,e1,Fp,h⟩:=iY h
 have ha:=qW hl e1 Fp
 obtain⟨hg,h⟩:=ba h
 simp only[Bool.and_eq_true,decide_eq_true_eq]at hg
 have tA:aw (T.rp e) (List.replicate n.toNat z) (List.replicate n.toNat za):=aw.replicate XO _
 have hA:fi Q.P nm t a a=some ⟨.bh q.size nm n.toNat 0 n.toNat (some n.toNat),[(nm,.arr false true false (List.replicate n.toNat za))]⟩:=by
  simp_all[wW,ha,nE,fi]
 have hv:=eW hh hn (o:=.ca false false 0 e (List.replicate n.toNat z))
 simp only[aB.cur,aB.len,List.length_replicate]at hv
 refine eV hh hn (o:=.ca false false 0 e (List.replicate n.toNat z)) ⟨_,rfl,tA⟩ ?_ (aD.eZ hA) h
 right
 simp only[R]
 exact⟨n.toNat,hv,by rw[gU]⟩
theorem Jd[ab](hQ:Q.Ok)(hh:RH T H hp){nm:Nat}(hn:nm=H.length∨H[nm]?=some none){t:TypeId}{m:kp}(hm:Q.ty t=some m){z:SV T.den}(hz:m.zero.bind gN=some z)(hs:0<m.size)
  (h:(K (.ref nm 0 0 0) [(nm,.arr false true false 0 [z])] []).run=some r) {ev:Operand→AV} {dst:Option Tmp} {type:TypeId} {pos:String} {after:Array Edge} {guard:Option (Nat×Bool)} :
  iX T H hp (aK Q.P nm ev ⟨dst,.alloc t,type,pos,after,guard⟩) K r:=by
 obtain⟨q,hG,ed,gU,Hv,JU⟩:=hQ.row _ _ hm
 rw[Option.bind_eq_some_iff]at hz
 obtain⟨z0,Ow,hz⟩:=hz
 have nE:=JU _ Ow
 refine eV hh hn (o:=.arr false true false 0 [z]) (a':=.arr false true false [z0]) ⟨_,rfl,by simp only[RL]; exact⟨vp hz,trivial⟩,fun _=>by simp only[av,uc hz,Bool.and_self]⟩ (a:=.ref nm 1 0 0) (rd:=[]) ?_ ?_ h
 ·right
  simp only[R]
  exact⟨1,rfl,eW hh hn (o:=.arr false true false 0 [z])⟩
 ·simp only[aK,hG,nE]
  rw[if_pos (by omega)]
  exact aD.ret _
def Mg(T:dm)(H:ah T.den)(x:Option (SV T.den))(y:Option AV):Prop:=
 match x,y with
 |none,none=>True
 |some v,some a=>RV T H v a
 |_,_=>False
theorem im[ab]{d:Nat}{x:Option (SV T.den)}{y:Option AV}(Mh:Mg T H x y){K:Nat→Tr ρ}(h:(jy d x K).run=some r):∃ n,bw d y=some n∧(K n).run=some r:=by
 unfold jy at h
 split at h
 ·cases y with
  |none=>exact⟨d,rfl,h⟩
  |some a=>exact Mh.elim
 ·cases y with
  |none=>exact Mh.elim
  |some a=>
   obtain⟨k,n,e1,Fp,h⟩:=iY h
   exact⟨n.toNat,qW Mh e1 Fp,h⟩
theorem kD[ab]{d:Nat}{v:SV T.den}{y:Option AV}(Mh:Mg T H (some v) y){K:Nat→Tr ρ}(h:(gm v K).run=some r):∃ n,bw d y=some n∧(K n).run=some r:=
 im (d:=d) Mh h
theorem sR[ab]{x:Option (SV T.den)}{y z:Option AV}(Mh:Mg T H x y)(h:vj x=some z):y=z:=by
 cases x with
 |none=>
  cases y with
  |none=>simpa[vj] using h
  |some a=>exact Mh.elim
 |some v=>
  cases y with
  |none=>exact Mh.elim
  |some a=>
   simp only[vj,Option.map_eq_some_iff]at h
   obtain⟨b,hb,rfl⟩:=h
   rw[uf Mh hb]
theorem Mg.isSome{x:Option (SV T.den)}{y:Option AV}(Mh:Mg T H x y):x.isSome=y.isSome:=by
 cases x<;>cases y<;>first|rfl|exact Mh.elim
theorem qY[ab](hh:RH T H hp){esz n c:Nat}{rg:Option (Nat×Nat)}{cap:Option Nat}{a:AV}(ha:R T H (.bh esz n c rg cap) a){off len:Nat}(hr:nj H n c rg=some (off,len)){o:aB T.den}
  (ho:H[n]?=some (some o)):∃ aq,a=.bh esz n aq off len cap∧fU H n c aq∧(Nat.beq c o.cur=true→aq=o.len):=by
 simp only[R]at ha
 obtain⟨aq,hv,ha⟩:=ha
 have cf:Nat.beq c o.cur=true→aq=o.len:=hv.arr hh ho
 cases rg with
 |some q=>
  obtain⟨XM,OW⟩:=q
  simp only[nj,Option.some.injEq,Prod.mk.injEq]at hr
  obtain⟨rfl,rfl⟩:=hr
  exact⟨aq,ha,hv,cf⟩
 |none=>
  simp only[nj,ho]at hr
  split at hr
  case isFalse=>simp at hr
  rename_i hc
  simp only[Option.some.injEq,Prod.mk.injEq]at hr
  obtain⟨rfl,rfl⟩:=hr
  have:=cf hc
  subst this
  exact⟨_,ha,hv,fun _=>rfl⟩
theorem sS(hT:T.Ok){t:Nat}{agg:Bool}{size:Nat}(h1:agg=T.agg t)(h2:size=T.size t):∀ {l:List (T.den t)} {l':List AV},aw (T.rp t) l l'→l'.all (aC agg size)=true
 |[],[],_=>rfl
 |_::_,_::_,h=>by
  subst h1; subst h2
  simp only[List.all_cons,Bool.and_eq_true]
  exact⟨hT.ok _ _ _ h.1,sS hT rfl rfl h.2⟩
theorem O9[ab](hT:T.Ok)(hQ:Q.Ok)(hh:RH T H hp){t:TypeId}{x:SV T.den}{a:AV}(hx:RV T H x a){lo hi mx:Option (SV T.den)}{SL wQ Qi:Option AV}(h1:Mg T H lo SL)(h2:Mg T H hi wQ)(h3:Mg T H mx Qi)
  (h:(Rr Q H t x lo hi mx K).run=some r):∃ v b,ny Q.P t a SL wQ Qi=some b∧RV T H v b∧(K v [] []).run=some r:=by
 unfold Rr at h
 split at h
 ·rename_i v
  have ha:=hx.lit rfl
  subst ha
  split at h
  ·rename_i l hh' m e1 e2 e3
   rw[sR h1 e1,sR h2 e2,sR h3 e3]
   split at h
   ·rename_i w hw
    exact⟨_,_,hw,bk w,h⟩
   ·rename_i hw
    exact⟨_,_,hw,.inr (by simp only[R]),h⟩
   ·simp[Tr.run]at h
  ·simp[Tr.run]at h
 ·rename_i xs
  have ha:=hx.live rfl
  simp only[R]at ha
  obtain⟨l',rfl,hl,E5⟩:=ha
  split at h
  ·rename_i m hm
   obtain⟨q,hG,ed,gU,_⟩:=hQ.elem hm
   obtain⟨n1,e1,h⟩:=im h1 h
   obtain⟨n2,e2,h⟩:=im h2 h
   obtain⟨_,_,h⟩:=cW h
   obtain⟨_,_,h⟩:=cW h
   split at h
   case h_2=>simp[Tr.run]at h
   rename_i hc
   simp only[Bool.and_eq_true,decide_eq_true_eq]at hc
   cases Qi with
   |some _=>exact h3.elim
   |none=>
    refine⟨_,.sl ((l'.drop n1).take (n2-n1)),?_,?_,h⟩
    ·have bg:l'.all (aC q.isAgg q.size)=true:=by
      rw[ed,gU,←RL.all (fun _ _=>R.aC) hl]; exact hc.2
     simp only[ny,hG,e1]
     rw[show bw l'.length wQ=some n2 by rw[←hl.length]; exact e2]
     simp only
     rw[if_pos ⟨hc.1.1,by rw[←hl.length]; exact hc.1.2,bg⟩]
    ·right
     simp only[R]
     exact⟨_,rfl,aR.2 (((aR.1 hl).drop n1).take (n2-n1)),mT E5 _ _⟩
  ·simp[Tr.run]at h
 ·rename_i t' l
  split at h
  ·rename_i m hm
   obtain⟨q,hG,ed,gU,_⟩:=hQ.elem hm
   split at h
   case h_2=>simp[Tr.run]at h
   rename_i hc
   simp only[Bool.and_eq_true,decide_eq_true_eq]at hc
   have ha:=hx.live rfl
   cases Qi with
   |some _=>exact h3.elim
   |none=>
    have key:∀ n1 n2,bw 0 SL=some n1→bw l.length wQ=some n2→n1≤n2→n2≤l.length →
      ∃ b,ny Q.P t a SL wQ none=some b∧RV T H (.jw t' ((l.drop n1).take (n2-n1))) b:=by
     intro n1 n2 e1 e2 hle zD
     simp only[R]at ha
     rcases ha with ⟨l',rfl,hl⟩|⟨rfl,rfl⟩
     ·refine⟨.sl ((l'.drop n1).take (n2-n1)),?_,?_⟩
      ·simp only[ny,hG,e1]
       rw[show bw l'.length wQ=some n2 by rw[←hl.length]; exact e2]
       simp only
       rw[if_pos ⟨hle,by rw[←hl.length]; exact zD,sS hT (by rw[ed]; exact hc.1) (by rw[gU]; exact hc.2) hl⟩]
      ·right
       simp only[R]
       exact .inl ⟨_,rfl,(hl.drop n1).take (n2-n1)⟩
     ·simp only[List.length_nil,Nat.le_zero]at zD
      subst zD
      have:n1=0:=by omega
      subst this
      refine⟨.lit bV,?_,?_⟩
      ·simp only[List.length_nil]at e2
       simp only[ny,hG,e1,e2]
       rfl
      ·right
       show R T H (.jw t' _) (.lit bV)
       unfold R
       exact .inr ⟨by simp,rfl⟩
    cases lo with
    |none=>
     cases SL with
     |some _=>exact h1.elim
     |none=>
      cases hi with
      |none=>
       cases wQ with
       |some _=>exact h2.elim
       |none=>
        obtain⟨b,hb,hr⟩:=key 0 l.length rfl rfl (Nat.zero_le _) (Nat.le_refl _)
        simp only[List.drop_zero,Nat.sub_zero,List.take_length]at hr
        exact⟨_,b,hb,hr,h⟩
      |some hi=>
       obtain⟨n2,e2,h⟩:=kD (d:=l.length) h2 h
       obtain⟨hg,h⟩:=ba h
       simp only[decide_eq_true_eq]at hg
       obtain⟨b,hb,hr⟩:=key 0 n2 rfl e2 (Nat.zero_le _) hg
       simp only[List.drop_zero,Nat.sub_zero]at hr
       exact⟨_,b,hb,hr,h⟩
    |some lo=>
     cases hi with
     |none=>
      cases wQ with
      |some _=>exact h2.elim
      |none=>
       obtain⟨n1,e1,h⟩:=kD (d:=0) h1 h
       obtain⟨hg,h⟩:=ba h
       simp only[decide_eq_true_eq]at hg
       obtain⟨b,hb,hr⟩:=key n1 l.length e1 rfl hg (Nat.le_refl _)
       rw[List.take_of_length_le (by simp)]at hr
       exact⟨_,b,hb,hr,h⟩
     |some hi=>
      obtain⟨n1,e1,h⟩:=kD (d:=0) h1 h
      obtain⟨n2,e2,h⟩:=kD (d:=l.length) h2 h
      obtain⟨hg,h⟩:=ba h
      simp only[Bool.and_eq_true,decide_eq_true_eq]at hg
      obtain⟨b,hb,hr⟩:=key n1 n2 e1 e2 hg.1 hg.2
      exact⟨_,b,hb,hr,h⟩
  ·rename_i m mx hm
   obtain⟨q,hG,ed,gU,_⟩:=hQ.elem hm
   split at h
   case h_2=>simp[Tr.run]at h
   rename_i hi hc
   simp only[Bool.and_eq_true,decide_eq_true_eq]at hc
   cases wQ with
   |none=>exact h2.elim
   |some Ug=>
   cases Qi with
   |none=>exact h3.elim
   |some V3=>
   have ha:=hx.live rfl
   simp only[R]at ha
   split at h
   ·rename_i hz
    simp only[Bool.and_eq_true]at hz
    obtain⟨Rf,RJ,Uf⟩:=hz
    cases lo with
    |some _=>simp at Rf
    |none=>
    cases SL with
    |some _=>exact h1.elim
    |none=>
    have z0:∀ {v:SV T.den} {a:AV},VS v=true→RV T H v a→asNat a=some 0:=by
     intro v a hv hr
     unfold VS at hv
     split at hv
     ·simp only[decide_eq_true_eq]at hv
      subst hv
      have:=hr.live rfl
      simp only[R]at this
      subst this
      rfl
     ·simp at hv
    have e2:=z0 RJ h2
    have e3:=z0 Uf h3
    rcases ha with ⟨l',rfl,hl⟩|⟨rfl,rfl⟩
    ·have bg:=sS hT (agg:=q.isAgg) (size:=q.size) (by rw[ed]; exact hc.1) (by rw[gU]; exact hc.2) hl
     refine⟨_,.nz,?_,.inr (by simp only[R]),h⟩
     simp only[ny,hG,bw,e2,e3]
     rw[if_pos ⟨Nat.zero_le _,Nat.zero_le _,Nat.zero_le _,bg⟩]
     rfl
    ·refine⟨_,.nz,?_,.inr (by simp only[R]),h⟩
     simp only[ny,hG,bw,e2,e3,Option.isSome_some,Option.isNone_some,Bool.and_false,Bool.false_eq_true,if_false]
   obtain⟨n1,e1,h⟩:=im h1 h
   obtain⟨n2,e2,h⟩:=kD (d:=l.length) h2 h
   obtain⟨n3,e3,h⟩:=kD (d:=l.length) h3 h
   obtain⟨hg,h⟩:=ba h
   simp only[Bool.and_eq_true,decide_eq_true_eq]at hg
   have XQ:asNat Ug=some n2:=e2
   have V4:asNat V3=some n3:=e3
   have f2:∀ d,bw d (some Ug)=some n2:=fun _=>XQ
   rcases ha with ⟨l',rfl,hl⟩|⟨rfl,rfl⟩
   ·have hlen:=hl.length
    have bg:=sS hT (agg:=q.isAgg) (size:=q.size) (by rw[ed]; exact hc.1) (by rw[gU]; exact hc.2) hl
    have dA:l'.isEmpty=false:=by
     grind
    have Om:n3≠0:=by omega
    refine⟨_,.kW ((l'.drop n1).take (n2-n1)) (n3-n1),?_,.inr (by simp only[R]; exact .inl ⟨by cases l with
      |nil=>exfalso; cases l' with
       |nil=>simp at dA
       |cons=>simp at hlen
      |cons=>rfl,_,rfl,(hl.drop n1).take (n2-n1)⟩),h⟩
    simp only[ny,hG,e1,f2,V4]
    rw[if_pos ⟨hg.1.1.1,hg.1.1.2,by rw[←hlen]; exact hg.1.2,bg⟩,if_neg Om,dA]
    rfl
   ·exfalso
    simp only[List.length_nil]at hg
    omega
  ·simp[Tr.run]at h
 ·rename_i esz n c rg cap
  have ha:=hx.live rfl
  split at h
  ·rename_i m off len o hm hr ho
   obtain⟨q,hG,ed,gU,_⟩:=hQ.elem hm
   split at h
   case h_2=>simp[Tr.run]at h
   rename_i hc
   simp only[Bool.and_eq_true,decide_eq_true_eq]at hc
   obtain⟨aq,rfl,hv,cf⟩:=qY hh ha hr ho
   have cf:=cf hc.1
   obtain⟨n1,e1,h⟩:=im h1 h
   obtain⟨n2,e2,h⟩:=im h2 h
   obtain⟨hg,h⟩:=ba h
   simp only[Bool.and_eq_true,decide_eq_true_eq]at hg
   cases Qi with
   |some _=>exact h3.elim
   |none=>
    refine⟨_,.bh esz n aq (off+n1) (n2-n1) (cap.map (·-n1)),?_,?_,h⟩
    ·simp only[ny,hG,e1,e2]
     rw[if_pos ⟨hg.1.1,by rw[cf]; exact hg.1.2,by rw[cf]; exact hg.2,by rw[gU]; exact hc.2⟩]
    ·right
     simp only[R]
     exact⟨aq,hv,rfl⟩
  ·rename_i m mx off len o hm hr ho
   obtain⟨q,hG,ed,gU,_⟩:=hQ.elem hm
   split at h
   case h_2=>simp[Tr.run]at h
   rename_i hi hc
   simp only[Bool.and_eq_true,decide_eq_true_eq]at hc
   cases wQ with
   |none=>exact h2.elim
   |some Ug=>
   cases Qi with
   |none=>exact h3.elim
   |some V3=>
   obtain⟨aq,rfl,hv,cf⟩:=qY hh ha hr ho
   have cf:=cf hc.1
   obtain⟨n1,e1,h⟩:=im h1 h
   obtain⟨n2,e2,h⟩:=kD (d:=len) h2 h
   obtain⟨n3,e3,h⟩:=kD (d:=len) h3 h
   obtain⟨hg,h⟩:=ba h
   simp only[Bool.and_eq_true,decide_eq_true_eq]at hg
   have XQ:asNat Ug=some n2:=e2
   have V4:asNat V3=some n3:=e3
   have f2:∀ d,bw d (some Ug)=some n2:=fun _=>XQ
   have f3:∀ d,bw d (some V3)=some n3:=fun _=>V4
   refine⟨_,.bh esz n aq (off+n1) (n2-n1) (some (n3-n1)),?_,?_,h⟩
   ·simp only[ny,hG,e1,f2,V4]
    rw[if_pos ⟨hg.1.1.1,hg.1.1.2,by rw[cf]; exact hg.1.2,by rw[cf]; exact hg.2,by rw[gU]; exact hc.2⟩]
   ·right
    simp only[R]
    exact⟨aq,hv,rfl⟩
  ·simp[Tr.run]at h
 ·rename_i n' c k' j
  have ha:=hx.live rfl
  simp only[R]at ha
  obtain⟨aq,rfl,hv⟩:=ha
  split at h
  case h_2=>simp[Tr.run]at h
  rename_i len m hm
  obtain⟨q,hG,ed,gU⟩:=hQ.Eg hm
  cases Qi with
  |some _=>exact h3.elim
  |none=>
   obtain⟨n1,e1,h⟩:=im h1 h
   obtain⟨n2,e2,h⟩:=im h2 h
   obtain⟨_,hl,h⟩:=cW h
   obtain⟨_,pf,h⟩:=cW h
   split at h
   case h_2=>simp[Tr.run]at h
   rename_i hle
   simp only[decide_eq_true_eq]at hle
   refine⟨_,.iD n' aq k' (j+n1*q.size) (n2-n1) (len-n1),?_,.inr (by simp only[R]; exact⟨aq,by rw[gU],hv⟩),h⟩
   simp only[ny,hG,e1,e2]
   rw[if_pos ⟨hle,by omega,by omega⟩]
 ·simp[Tr.run]at h
theorem vu[ab](hT:T.Ok){t:Nat}{x:T.den t}{a:AV}(h:T.rp t x a):aE (T.up t x)=true:=by
 rw[R.closed (hT.up t x a [] h)]
 exact hT.closed _ _ _ h
theorem z1[ab](hT:T.Ok)(hQ:Q.Ok)(hh:RH T H hp){t:TypeId}{x ix:SV T.den}{a b:AV}(hx:RV T H x a)(hi:RV T H ix b){tY:Bool}(h:(sw Q tY H t x ix K).run=some r):
  ∃ v c,fj Q.P t a b=some c∧RV T H v c∧(K v [] []).run=some r:=by
 unfold sw at h
 obtain⟨k,n,e1,Fp,h⟩:=iY h
 have hb:=qW hi e1 Fp
 unfold fj
 rw[hb]
 simp only
 split at h
 ·rename_i xs
  have ha:=hx.live rfl
  simp only[R]at ha
  obtain⟨l',rfl,hl,E5⟩:=ha
  split at h
  case h_2=>simp[Tr.run]at h
  rename_i m hm
  obtain⟨q,hG,ed,gU,_⟩:=hQ.elem hm
  obtain⟨_,_,h⟩:=cW h
  split at h
  case h_2=>simp[Tr.run]at h
  rename_i e he
  split at h
  case h_2=>simp[Tr.run]at h
  rename_i bI
  obtain⟨e',Hh,hr⟩:=aw.get (aR.1 hl) he
  refine⟨_,.bj e' 0,?_,.inr (by simp only[R]; exact⟨e',rfl,hr,kc E5 (List.mem_of_getElem? he)⟩),h⟩
  simp only[hG,Hh]
  rw[if_pos (by rw[ed,gU,←R.aC hr]; exact bI)]
 ·rename_i t' l
  have ha:=hx.live rfl
  split at h
  case h_2=>simp[Tr.run]at h
  rename_i m hm
  obtain⟨q,hG,ed,gU,_⟩:=hQ.elem hm
  split at h
  case h_2=>simp[Tr.run]at h
  rename_i hc
  simp only[Bool.and_eq_true,decide_eq_true_eq]at hc
  obtain⟨y,hy,h⟩:=bind_some h
  rw[HS hT]at h
  simp only[R]at ha
  rcases ha with ⟨l',rfl,hl⟩|⟨rfl,_⟩
  ·obtain⟨e',Hh,hr⟩:=aw.get hl hy
   refine⟨_,.bj e' 0,?_,.inr (by simp only[R]; exact⟨e',rfl,hT.up _ _ _ H hr,vu hT hr⟩),h⟩
   simp only[hG,Hh]
   rw[if_pos (by rw[ed,gU,hc.1,hc.2]; exact hT.ok _ _ _ hr)]
  ·simp at hy
 ·rename_i esz n' c rg cap _
  have ha:=hx.live rfl
  split at h
  case h_2=>simp[Tr.run]at h
  rename_i m hm
  obtain⟨q,hG,ed,gU,_⟩:=hQ.elem hm
  split at h
  ·rename_i off len g cl f cu es hc hr ho
   simp only[Bool.and_eq_true,decide_eq_true_eq]at hc
   obtain⟨aq,rfl,hv,_⟩:=qY hh ha hr ho
   obtain⟨_,bL,h⟩:=cW h
   refine⟨_,.ref n' aq (off+n.toNat) 0,?_,.inr (by simp only[R]; exact⟨aq,rfl,hv⟩),h⟩
   simp only[hG]
   rw[if_pos ⟨by omega,by rw[gU]; exact hc.1,by rw[gU]; exact hc.2⟩]
  ·rename_i off len g f cu t' l hc hr ho
   simp only[Bool.and_eq_true,decide_eq_true_eq]at hc
   obtain⟨aq,rfl,hv,_⟩:=qY hh ha hr ho
   obtain⟨bL,h⟩:=ba h
   simp only[decide_eq_true_eq]at bL
   refine⟨_,.ref n' aq (off+n.toNat) 0,?_,.inr (by simp only[R]; exact⟨aq,rfl,hv⟩),h⟩
   simp only[hG]
   rw[if_pos ⟨bL,by rw[gU]; exact hc.1,by rw[gU]; exact hc.2⟩]
  ·simp[Tr.run]at h
 ·rename_i n' c k' j len cap _
  have ha:=hx.live rfl
  simp only[R]at ha
  obtain⟨aq,rfl,hv⟩:=ha
  split at h
  case h_2=>simp[Tr.run]at h
  rename_i m hm
  obtain⟨q,hG,ed,gU,_⟩:=hQ.elem hm
  obtain⟨_,bL,h⟩:=cW h
  refine⟨_,.ref n' aq k' (j+n.toNat*q.size),?_,.inr (by simp only[R]; exact⟨aq,by rw[gU],hv⟩),h⟩
  simp only[hG]
  rw[if_pos (by omega)]
 ·rename_i n' c k' j _
  have ha:=hx.live rfl
  simp only[R]at ha
  obtain⟨aq,rfl,hv⟩:=ha
  split at h
  case h_2=>simp[Tr.run]at h
  rename_i len m hm
  obtain⟨q,hG,ed,gU⟩:=hQ.Eg hm
  split at h
  ·obtain⟨bL,h⟩:=ba h
   simp only[decide_eq_true_eq]at bL
   refine⟨_,.ref n' aq k' (j+n.toNat*q.size),?_,.inr (by simp only[R]; exact⟨.ref n' aq k' j,⟨aq,rfl,hv⟩,bL,.inl ⟨_,_,_,_,rfl,by rw[gU]⟩⟩),h⟩
   simp only[hG]
   rw[if_pos (by omega)]
  obtain⟨_,bL,h⟩:=cW h
  refine⟨_,.ref n' aq k' (j+n.toNat*q.size),?_,.inr (by simp only[R]; exact⟨aq,by rw[gU],hv⟩),h⟩
  simp only[hG]
  rw[if_pos (by omega)]
 ·rename_i e j _
  have ha:=hx.live rfl
  simp only[R]at ha
  obtain⟨e',rfl,hr,hec⟩:=ha
  split at h
  case h_2=>simp[Tr.run]at h
  rename_i len m hm
  obtain⟨q,hG,ed,gU⟩:=hQ.Eg hm
  split at h
  ·obtain⟨bL,h⟩:=ba h
   simp only[decide_eq_true_eq]at bL
   refine⟨_,.bj e' (j+n.toNat*q.size),?_,.inr (by simp only[R]; exact⟨.bj e' j,⟨e',rfl,hr,hec⟩,bL,.inr ⟨_,_,rfl,by rw[gU]⟩⟩),h⟩
   simp only[hG]
   rw[if_pos (by omega)]
  obtain⟨_,bL,h⟩:=cW h
  refine⟨_,.bj e' (j+n.toNat*q.size),?_,.inr (by simp only[R]; exact⟨e',by rw[gU],hr,hec⟩),h⟩
  simp only[hG]
  rw[if_pos (by omega)]
 ·simp[Tr.run]at h
theorem Mi{P:Program}{t:TypeId}{s:ByteArray}{k:IntKind}{n b:Int}(hu:P.underlying t=some .string)(h:LY s n=some b):
  pz P t (.lit (.string s)) (.lit (.int k n))=some (.lit (.int .u8 b)):=by
 unfold LY at h
 split at h
 case isFalse=>simp at h
 rename_i hn
 obtain⟨c,hc,rfl⟩:=Option.map_eq_some_iff.1 h
 simp only[pz]
 have:Instr.index t (.string s) (.int k n)=(do
   let d ←underlying t
   match d,(Value.string s) with
   |.array len elem,.agg cs=>if 0≤n∧n<len then part elem cs (n.toNat*(←sizeOf elem)) else boundsPanic k n len .index
   |.string,.string s=>(match (if 0≤n then s[n.toNat]? else none) with
    |some b=>pure (.int .u8 b.toNat)
    |none=>boundsPanic k n s.size .index)
   | _, _ => stuck "Index: array or string expected") := rfl
 rw[this]
 show (bn P (Sem.bind (underlying t) _)).bind fe=_
 have JI : underlying t = Sem.program fun P => (match P.underlying t with | some d => pure d | none => stuck "no such type") := rfl
 rw[JI]
 show (bn P (Sem.bind (match P.underlying t with | some d => pure d | none => stuck "no such type") _)).bind fe = _
 rw[hu]
 show (bn P (match (if 0≤n then s[n.toNat]? else none) with|some b=>pure (Value.int .u8 b.toNat)|none=>boundsPanic k n s.size .index)).bind fe=_
 rw[if_pos hn,hc]
 rfl
theorem Je[ab](hQ:Q.Ok){t:TypeId}{x ix:SV T.den}{a b:AV}(hx:RV T H x a)(hi:RV T H ix b){tY:Bool}(h:(Gj Q tY t x ix K).run=some r):
  ∃ v c,pz Q.P t a b=some c∧RV T H v c∧(K v [] []).run=some r:=by
 unfold Gj at h
 split at h
 ·have ha:=hx.lit rfl
  subst ha
  split at h
  ·rename_i s k n
   have hb:=hi.lit rfl
   subst hb
   split at h
   case h_2=>simp[Tr.run]at h
   rename_i hu
   obtain⟨c,hc,h⟩:=bind_some h
   exact⟨_,_,Mi hu hc,bk _,h⟩
  ·split at h
   ·rename_i i wQ
    rw[uf hi wQ]
    obtain⟨w,hw,hk⟩:=il h
    exact⟨_,_,hw,bk w,hk⟩
   ·simp[Tr.run]at h
 ·rename_i l
  have ha:=hx.live rfl
  have PJ:=ha
  simp only[R]at ha
  obtain⟨l',rfl,hl⟩:=ha
  split at h
  case h_2=>simp[Tr.run]at h
  rename_i n m hm
  obtain⟨q,hG,ed,gU⟩:=hQ.Eg hm
  obtain⟨k,n',e1,Fp,h⟩:=iY h
  have hb:=qW hi e1 Fp
  split at h
  ·rename_i y hs Mf
   simp only[Bool.and_eq_true,Bool.not_eq_true']at hs
   obtain⟨bL,h⟩:=ba h
   simp only[decide_eq_true_eq]at bL
   obtain⟨xs,Aj,Mf⟩:=Option.bind_eq_some_iff.1 Mf
   obtain⟨g1,g2⟩:=kv Aj
   have hg:=List.getElem?_eq_getElem (by omega:n'.toNat<xs.length)
   have hy:=g2 _ _ hg
   rw[←D9 Mf hg,Nat.zero_add,Nat.mul_one]at hy
   obtain⟨c,hc,hr⟩:=R.part PJ hy
   refine⟨y,c,?_,.inr hr,h⟩
   simp only[pz,hG,hb]
   rw[if_pos (by omega),ed,gU,hs.1.2,Nat.eq_of_beq_eq_true hs.2,Nat.mul_one]
   exact hc
  obtain⟨_,bL,h⟩:=cW h
  obtain⟨v,hv,hk⟩:=mn h
  rw[←ed,←gU]at hv
  obtain⟨c,hc,hr⟩:=R.part PJ hv
  refine⟨v,c,?_,.inr hr,hk⟩
  simp only[pz,hG,hb]
  rw[if_pos (by omega)]
  exact hc
 ·simp[Tr.run]at h
end
end Go.PI
end
section
/- PS, part Hb: by value, and frozen. -/
namespace Go.PI
variable {T:dm}{ρ:Type}{Q:gO}
mutual
def kE:AV→Bool
 |.lit v=>match v with
  |.slice none 0 0=>false
  |_=>true
 |.agg l|.jF l=>oM l
 |.fW _ v=>kE v
 |.jd _ f c=>oM f&&oM c
 |_=>true
def oM:List AV→Bool
 |[]=>true
 |x::xs=>kE x&&oM xs
end
section
variable {H:ah T.den}{hp:ag}{r:ρ}
mutual
theorem R.flat:∀ {v:SV T.den} {a:AV},R T H v a→kE a=true→wz v=flat a
 |.dead,a,h,_=>by simp[R]at h
 |.hole,a,h,_=>by simp only[R]at h; subst h; rfl
 |.lit v,a,h,_=>by simp only[R]at h; subst h; rfl
 |.agg l,a,h,hn=>by
  simp only[R]at h
  obtain⟨l',rfl,h2⟩:=h
  simp only[kE]at hn
  simp only[wz,Go.PI.flat]; exact RL.flat h2 hn
 |.jF l,a,h,hn=>by
  simp only[R]at h
  obtain⟨l',rfl,h2⟩:=h
  simp only[kE]at hn
  simp only[wz,Go.PI.flat]; exact RL.flat h2 hn
 |.sl l,a,h,_=>by
  simp only[R]at h
  obtain⟨l',rfl,h2⟩:=h
  rfl
 |.jw t l,a,h,hn=>by
  simp only[R]at h
  rcases h with ⟨l',rfl,_⟩|⟨_,rfl⟩
  ·rfl
  ·simp[kE]at hn
 |.bj e j,a,h,_=>by
  simp only[R]at h
  obtain⟨e',rfl,h2⟩:=h
  rfl
 |.ref n c i j,a,h,_=>by
  simp only[R]at h
  obtain⟨aq,rfl,h2⟩:=h
  rfl
 |.iD n c i j ln cp,a,h,_=>by
  simp only[R]at h
  obtain⟨aq,rfl,h2⟩:=h
  rfl
 |.bh esz n c rg cap,a,h,_=>by
  simp only[R]at h
  obtain⟨aq,h1,h2⟩:=h
  rcases rg with _|⟨off,len⟩<;>simp only at h2<;>subst h2<;>rfl
 |.jd fn f c,a,h,hn=>by
  simp only[R]at h
  obtain⟨f',c',rfl,h2,h3⟩:=h
  rfl
 |.fW t v,a,h,hn=>by
  simp only[R]at h
  obtain⟨v',rfl,h2⟩:=h
  simp only[kE]at hn
  simp only[wz,Go.PI.flat]; exact R.flat h2 hn
 |.w8 t l c b,a,h,hn=>by
  simp only[R]at h
  rcases h with ⟨_,l',rfl,_⟩|⟨_,_,rfl|rfl⟩
  ·rfl
  ·rfl
  ·simp[kE]at hn
 |.nz,a,h,hn=>by
  simp only[R]at h
  subst h
  rfl
 |.mp y n,a,h,_=>by
  simp only[R]at h
  obtain⟨rfl,_⟩:=h
  rfl
 |.ss v s len i,a,h,_=>by
  simp only[R]at h
  obtain⟨a0,_,_,h2⟩:=h
  rcases h2 with ⟨n,aq,k,j,rfl,rfl⟩|⟨e,j,rfl,rfl⟩<;>rfl
theorem RL.flat:∀ {l:List (SV T.den)} {m:List AV},RL T H l m→oM m=true→B4 l=vJ m
 |[],[],_,_=>rfl
 |x::xs,y::ys,h,hn=>by
  simp only[RL]at h
  simp only[oM,Bool.and_eq_true]at hn
  simp only[B4,vJ]; rw[R.flat h.1 hn.1,RL.flat h.2 hn.2]
 |[],_::_,h,_=>by simp[RL]at h
 |_::_,[],h,_=>by simp[RL]at h
end
theorem oN{den:Nat→Type}:∀ {l:List (SV den)} {i:Nat} {e:SV den},av l=true→l[i]?=some e→aE e=true
 |[],_,_,_,h=>by simp at h
 |x::xs,0,e,hc,h=>by
  simp_all[av]
 |x::xs,i+1,e,hc,h=>by
  simp only[av,Bool.and_eq_true]at hc
  simp only[List.getElem?_cons_succ]at h
  exact oN hc.2 h
theorem oO[ab](hh:RH T H hp):∀ k:Nat,
  (∀ (v:SV T.den) (a:AV) (K:SV T.den→List Nat→Tr ρ),R T H v a→(gn T H k v K).run=some r →
    ∃ v' rd a',aD hp (a9 k a) a' rd∧R T H v' a'∧(kE a'=true∧aE v'=true)∧(K v' rd).run=some r) ∧
  (∀ (l:List (SV T.den)) (m:List AV) (K:List (SV T.den)→List Nat→Tr ρ),RL T H l m→(fM T H k l K).run=some r →
    ∃ l' rd m',aD hp (aM k m) m' rd∧RL T H l' m'∧(oM m'=true∧av l'=true)∧l'.length=l.length∧(K l' rd).run=some r)
 |0=>⟨fun v a K _ h=>by simp[gn,Tr.run]at h,fun l m K _ h=>by simp[fM,Tr.run]at h⟩
 |k+1=>by
  obtain⟨XR,RN⟩:=oO hh k
  refine⟨fun v a K hr h=>?_,fun l m K hr h=>?_⟩
  ·cases v with
   |dead=>simp[R]at hr
   |hole=>simp[gn,Tr.run]at h
   |lit v=>
    simp only[R]at hr
    subst hr
    simp only[gn]at h
    split at h
    ·exact⟨_,_,.sl [],aD.pure _,by simp[R,RL,av],⟨rfl,rfl⟩,h⟩
    ·rename_i hv
     refine⟨_,_,.lit v,?_,by simp[R],⟨?_,rfl⟩,h⟩
     ·simp only[a9]
      exact aD.pure _
     ·simp only[kE]
   |agg l=>
    simp only[R]at hr
    obtain⟨l',rfl,hl⟩:=hr
    simp only[gn]at h
    obtain⟨l2,rd,m2,h1,h2,h3,_,h4⟩:=RN _ _ _ hl h
    refine⟨_,_,.agg m2,?_,by simp only[R]; exact⟨_,rfl,h2⟩,⟨by simpa only[kE] using h3.1,by simpa only[aE] using h3.2⟩,h4⟩
    simp only[a9]
    exact aD.mono (aD.bind h1 (aD.pure _)) (fun _ h=>by simpa using h)
   |jF l=>
    simp only[R]at hr
    obtain⟨l',rfl,hl⟩:=hr
    simp only[gn]at h
    obtain⟨l2,rd,m2,h1,h2,h3,_,h4⟩:=RN _ _ _ hl h
    refine⟨_,_,.jF m2,?_,by simp only[R]; exact⟨_,rfl,h2⟩,⟨by simpa only[kE] using h3.1,by simpa only[aE] using h3.2⟩,h4⟩
    simp only[a9]
    exact aD.mono (aD.bind h1 (aD.pure _)) (fun _ h=>by simpa using h)
   |sl l=>
    have kL:=hr
    simp only[R]at hr
    obtain⟨l',rfl,hl⟩:=hr
    simp only[gn]at h
    exact⟨_,_,.sl l',aD.pure _,kL,⟨rfl,rfl⟩,h⟩
   |jw t l=>
    have kL:=hr
    simp only[R]at hr
    simp only[gn]at h
    rcases hr with ⟨l',rfl,hl⟩|⟨rfl,rfl⟩
    ·exact⟨_,_,.sl l',aD.pure _,kL,⟨rfl,rfl⟩,h⟩
    ·exact⟨_,_,.sl [],aD.pure _,by simp only[R]; exact .inl ⟨[],rfl,trivial⟩,⟨rfl,rfl⟩,h⟩
   |bj e j=>
    have kL:=hr
    simp only[R]at hr
    obtain⟨e',rfl,he⟩:=hr
    simp only[gn]at h
    exact⟨_,_,.bj e' j,aD.pure _,kL,⟨rfl,rfl⟩,h⟩
   |ref n c i j=>
    simp only[R]at hr
    obtain⟨aq,rfl,hv⟩:=hr
    simp only[gn]at h
    split at h
    case h_2=>simp[Tr.run]at h
    rename_i g cl f cur es ho
    obtain⟨o,db,dJ⟩:=hh.obj ho
    obtain⟨es',rfl,cF,rB⟩:=dJ
    split at h
    case h_2=>simp[Tr.run]at h
    rename_i e hc he
    have cf:=hv.arr hh ho hc
    simp only[aB.len]at cf
    have hl:=cF.length
    obtain⟨e2,yj,Fa⟩:=aw.get (aR.1 cF) he
    cases cl with
    |true=>
     simp only at h
     refine⟨_,_,.bj e2 j,?_,by simp only[R]; exact⟨_,rfl,Fa,oN (rB rfl) he⟩,⟨rfl,rfl⟩,h⟩
     simp only[a9]
     refine aD.mono (aD.bind (aD.arr db (by omega)) ?_) (rd:=[n]++[]) (fun _ h=>by simpa using h)
     simp only[yj]
     simp only[if_true]
     exact aD.pure _
    |false=>
     simp only at h
     obtain⟨v2,rd,a2,h1,h2,h3,h⟩:=XR _ _ _ Fa h
     refine⟨_,_,.bj a2 j,?_,by simp only[R]; exact⟨_,rfl,h2,h3.2⟩,⟨rfl,rfl⟩,h⟩
     simp only[a9]
     refine aD.mono (aD.bind (aD.arr db (by omega)) (rd':=rd) ?_) (fun _ h=>by simpa using h)
     simp only[yj,Bool.false_eq_true,if_false]
     exact aD.mono (aD.bind h1 (aD.pure _)) (fun _ h=>by simpa using h)
   |iD n c i j ln cp=>
    simp only[R]at hr
    obtain⟨aq,rfl,hv⟩:=hr
    simp only[gn]at h
    split at h
    case h_2=>simp[Tr.run]at h
    rename_i g cl f cur es ho
    obtain⟨o,db,dJ⟩:=hh.obj ho
    obtain⟨es',rfl,cF,rB⟩:=dJ
    split at h
    case h_2=>simp[Tr.run]at h
    rename_i cs hc he
    have cf:=hv.arr hh ho hc
    simp only[aB.len]at cf
    have hl:=cF.length
    obtain⟨e2,yj,Fa⟩:=aw.get (aR.1 cF) he
    simp only[R]at Fa
    obtain⟨mu,rfl,uE⟩:=Fa
    have kM:=uE.length
    split at h
    case h_2=>simp[Tr.run]at h
    rename_i hle
    simp only[Bool.and_eq_true,decide_eq_true_eq]at hle
    have zQ:RL T H ((cs.drop j).take ln) ((mu.drop j).take ln):=aR.2 (((aR.1 uE).drop j).take ln)
    cases cl with
    |true=>
     simp only at h
     have nu:av cs=true:=by
      have:=oN (rB rfl) he
      simpa only[aE] using this
     refine⟨_,_,.sl ((mu.drop j).take ln),?_,by simp only[R]; exact⟨_,rfl,zQ,mT nu _ _⟩,⟨rfl,rfl⟩,h⟩
     simp only[a9]
     refine aD.mono (aD.bind (aD.arr db (by omega)) ?_) (rd:=[n]++[]) (fun _ h=>by simpa using h)
     simp only[yj]
     rw[if_pos ⟨hle.1,by omega⟩]
     simp only[if_true]
     exact aD.pure _
    |false=>
     simp only at h
     obtain⟨l2,rd,m2,h1,h2,h3,_,h⟩:=RN _ _ _ zQ h
     refine⟨_,_,.sl m2,?_,by simp only[R]; exact⟨_,rfl,h2,h3.2⟩,⟨rfl,rfl⟩,h⟩
     simp only[a9]
     refine aD.mono (aD.bind (aD.arr db (by omega)) (rd':=rd) ?_) (fun _ h=>by simpa using h)
     simp only[yj]
     rw[if_pos ⟨hle.1,by omega⟩]
     simp only[Bool.false_eq_true,if_false]
     exact aD.mono (aD.bind h1 (aD.pure _)) (fun _ h=>by simpa using h)
   |jd fn f c=>
    simp only[R]at hr
    obtain⟨f',c',rfl,hf,hc⟩:=hr
    simp only[gn]at h
    obtain⟨l2,rd,m2,h1,h2,h3,_,h⟩:=RN _ _ _ hf h
    obtain⟨l3,T2,m3,g1,g2,g3,_,h⟩:=RN _ _ _ hc h
    refine⟨_,_,.jd fn m2 m3,?_,by simp only[R]; exact⟨_,_,rfl,h2,g2⟩,⟨by simp[kE,h3.1,g3.1],by simp[aE,h3.2,g3.2]⟩,h⟩
    simp only[a9]
    exact aD.mono (aD.bind h1 (aD.bind g1 (aD.pure _))) (fun _ h=>by simpa using h)
   |fW t v=>
    simp only[R]at hr
    obtain⟨v',rfl,hv⟩:=hr
    simp only[gn]at h
    obtain⟨v2,rd,a2,h1,h2,h3,h⟩:=XR _ _ _ hv h
    refine⟨_,_,.fW t a2,?_,by simp only[R]; exact⟨_,rfl,h2⟩,⟨by simpa only[kE] using h3.1,by simpa only[aE] using h3.2⟩,h⟩
    simp only[a9]
    exact aD.mono (aD.bind h1 (aD.pure _)) (fun _ h=>by simpa using h)
   |bh esz n c rg cap=>
    simp only[R]at hr
    obtain⟨aq,hv,ha⟩:=hr
    simp only[gn]at h
    split at h
    ·rename_i g cl f cur es ho
     obtain⟨o,db,dJ⟩:=hh.obj ho
     obtain⟨es',rfl,cF,rB⟩:=dJ
     split at h
     case h_2=>simp[Tr.run]at h
     rename_i hc
     have cf:=hv.arr hh ho hc
     simp only[aB.len]at cf
     have hl:=cF.length
     have key:∀ (off len:Nat) (part:List (SV T.den)) (h:(match cl with
        |true=>K (.sl part) [n]
        |false=>fM T H k part fun l rd=>K (.sl l) (n::rd)).run=some r),part=(es.drop off).take len→off+len≤es.length →
       ∃ v' rd a',aD hp (a9 (k+1) (.bh esz n aq off len cap)) a' rd∧R T H v' a'∧(kE a'=true∧aE v'=true)∧(K v' rd).run=some r:=by
      intro off len part h Qj hle
      have zQ:RL T H part ((es'.drop off).take len):=by subst Qj; exact aR.2 (((aR.1 cF).drop off).take len)
      cases cl with
      |true=>
       simp only at h
       refine⟨_,_,.sl ((es'.drop off).take len),?_,by simp only[R]; exact⟨_,rfl,zQ,by subst Qj; exact mT (rB rfl) _ _⟩,⟨rfl,rfl⟩,h⟩
       simp only[a9]
       refine aD.mono (aD.bind (aD.arr db (by omega)) ?_) (rd:=[n]++[]) (fun _ h=>by simpa using h)
       simp only
       rw[if_pos (by omega)]
       simp only[if_true]
       exact aD.pure _
      |false=>
       simp only at h
       obtain⟨l2,rd,m2,h1,h2,h3,_,h⟩:=RN _ _ _ zQ h
       refine⟨_,_,.sl m2,?_,by simp only[R]; exact⟨_,rfl,h2,h3.2⟩,⟨rfl,rfl⟩,h⟩
       simp only[a9]
       refine aD.mono (aD.bind (aD.arr db (by omega)) (rd':=rd) ?_) (fun _ h=>by simpa using h)
       simp only
       rw[if_pos (by omega)]
       simp only[Bool.false_eq_true,if_false]
       exact aD.mono (aD.bind h1 (aD.pure _)) (fun _ h=>by simpa using h)
     split at h
     ·simp only at ha
      subst ha
      exact key 0 aq es h (by simp only[List.drop_zero]; rw[List.take_of_length_le (by omega)]) (by omega)
     ·grind[Tr.run]
    ·rename_i g f cur t l ho
     obtain⟨o,db,dJ⟩:=hh.obj ho
     obtain⟨es',rfl,cF⟩:=dJ
     split at h
     case h_2=>simp[Tr.run]at h
     rename_i hc
     have cf:=hv.arr hh ho hc
     simp only[aB.len]at cf
     have hl:=cF.length
     have key:∀ off len,off+len≤l.length→aD hp (a9 (k+1) (.bh esz n aq off len cap)) (.sl ((es'.drop off).take len)) [n]:=by
      intro off len hle
      simp only[a9]
      refine aD.mono (aD.bind (aD.arr db (by omega)) (rd':=[]) ?_) (fun _ h=>by simpa using h)
      simp only
      rw[if_pos (by omega)]
      simp only[if_true]
      exact aD.pure _
     split at h
     ·simp only at ha
      subst ha
      refine⟨_,_,_,key 0 aq (by omega),?_,⟨rfl,rfl⟩,h⟩
      simp only[R,List.drop_zero]
      rw[List.take_of_length_le (by omega)]
      exact .inl ⟨_,rfl,cF⟩
     ·rename_i off len
      simp only at ha
      subst ha
      obtain⟨hle,h⟩:=ba h
      simp only[decide_eq_true_eq]at hle
      refine⟨_,_,_,key off len hle,?_,⟨rfl,rfl⟩,h⟩
      simp only[R]
      exact .inl ⟨_,rfl,(cF.drop off).take len⟩
    ·simp[Tr.run]at h
   |mp y n=>simp[gn,Tr.run]at h
   |w8 t l c b=>
    simp only[R]at hr
    simp only[gn]at h
    rcases hr with ⟨_,l',rfl,hl⟩|⟨_,rfl,rfl|rfl⟩
    ·exact⟨_,_,.sl l',by simp only[a9]; exact aD.pure _,by simp only[R]; exact .inl ⟨_,rfl,hl⟩,⟨rfl,rfl⟩,h⟩
    ·exact⟨_,_,.sl [],by simp only[a9]; exact aD.pure _,by simp only[R]; exact .inl ⟨_,rfl,trivial⟩,⟨rfl,rfl⟩,h⟩
    ·exact⟨_,_,.sl [],by simp only[a9]; exact aD.pure _,by simp only[R]; exact .inl ⟨_,rfl,trivial⟩,⟨rfl,rfl⟩,h⟩
   |nz=>
    simp only[R]at hr
    simp only[gn]at h
    subst hr
    exact⟨_,_,.sl [],by simp only[a9]; exact aD.pure _,by simp only[R]; exact⟨[],rfl,trivial,rfl⟩,⟨rfl,rfl⟩,h⟩
   |ss v s len i=>simp[gn,Tr.run]at h
  ·cases l with
   |nil=>
    cases m with
    |nil=>
     simp only[fM]at h
     exact⟨[],[],[],aD.pure _,by simp[RL],⟨rfl,rfl⟩,rfl,h⟩
    |cons=>simp[RL]at hr
   |cons x xs=>
    cases m with
    |nil=>simp[RL]at hr
    |cons y ys=>
     simp only[RL]at hr
     simp only[fM]at h
     obtain⟨v2,rd,a2,h1,h2,h3,h⟩:=XR _ _ _ hr.1 h
     obtain⟨l2,rd2,m2,g1,g2,g3,g4,h⟩:=RN _ _ _ hr.2 h
     refine⟨_,_,a2::m2,?_,by simp only[RL]; exact⟨h2,g2⟩,⟨by simp[oM,h3.1,g3.1],by simp[av,h3.2,g3.2]⟩,by simp[g4],h⟩
     simp only[aM]
     exact aD.mono (aD.bind h1 (aD.bind g1 (aD.pure _))) (fun _ h=>by simpa using h)
theorem Mj[ab](hh:RH T H hp){k:Nat}{v:SV T.den}{a:AV}{K:SV T.den→List Nat→Tr ρ}(hr:R T H v a)(h:(gn T H k v K).run=some r):
  ∃ v' rd a',aD hp (a9 k a) a' rd∧R T H v' a'∧(kE a'=true∧aE v'=true)∧(K v' rd).run=some r:=(oO hh k).1 v a K hr h
theorem qZ[ab](hh:RH T H hp){k:Nat}{l:List (SV T.den)}{m:List AV}{K:List (SV T.den)→List Nat→Tr ρ}(hr:RL T H l m)(h:(fM T H k l K).run=some r):
  ∃ l' rd m',aD hp (aM k m) m' rd∧RL T H l' m'∧(oM m'=true∧av l'=true)∧l'.length=l.length∧(K l' rd).run=some r:=(oO hh k).2 l m K hr h
def FW(T:dm)(H:ah T.den):List (Nat×aB T.den)→List (Nat×aJ)→Prop:=
 aw fun p q=>p.1=q.1∧RO T H p.2 q.2∧∃ o,H[p.1]?=some (some o)∧p.2.cur=o.cur∧p.2.len=o.len∧o.isRec=false∧p.2.isRec=false
theorem mo[ab](hh:RH T H hp):∀ {k:Nat} {ns:List Nat} {K:List (Nat×aB T.den)→List Nat→Tr ρ},(lr T H k ns K).run=some r →
  ∃ wr rd w,aD hp (cY k ns) w rd∧FW T H wr w∧(K wr rd).run=some r
 |0,ns,K,h=>by simp[lr,Tr.run]at h
 |k+1,[],K,h=>by
  simp only[lr]at h
  exact⟨[],[],[],aD.pure _,trivial,h⟩
 |k+1,n::ns,K,h=>by
  simp only[lr]at h
  split at h
  ·rename_i g cl f cur es ho
   obtain⟨o,db,dJ⟩:=hh.obj ho
   obtain⟨es',rfl,cF,rB⟩:=dJ
   split at h
   ·obtain⟨wr,rd,w,h1,h2,h⟩:=mo hh h
    refine⟨(n,.arr g true true cur es)::wr,n::rd,(n,.arr g true true es')::w,?_,⟨⟨rfl,⟨_,rfl,cF,rB⟩,_,ho,rfl,rfl,rfl,rfl⟩,h2⟩,h⟩
    simp only[cY]
    refine aD.get db ?_
    simp only[if_true]
    exact aD.mono (aD.bind h1 (aD.pure _)) (fun _ h=>by simpa using h)
   ·obtain⟨Su,rd,m2,g1,g2,g3,g4,h⟩:=qZ hh cF h
    obtain⟨wr,rd2,w,h1,h2,h⟩:=mo hh h
    rw[RL.names cF]at h1
    refine⟨(n,.arr g true true cur Su)::wr,n::rd++rd2,(n,.arr g true true m2)::w,?_,⟨⟨rfl,⟨_,rfl,g2,fun _=>g3.2⟩,_,ho,rfl,by simp[aB.len,g4],rfl,rfl⟩,h2⟩,h⟩
    simp only[cY]
    refine aD.get db ?_
    simp only[Bool.false_eq_true,if_false]
    exact aD.mono (aD.bind g1 (aD.bind h1 (aD.pure _))) (fun _ h=>by simpa using h)
  ·rename_i g f cur t l ho
   obtain⟨o,db,dJ⟩:=hh.obj ho
   obtain⟨es',rfl,cF⟩:=dJ
   obtain⟨wr,rd,w,h1,h2,h⟩:=mo hh h
   refine⟨(n,.ca g true cur t l)::wr,n::rd,(n,.arr g true true es')::w,?_,⟨⟨rfl,⟨_,rfl,cF⟩,_,ho,rfl,rfl,rfl,rfl⟩,h2⟩,h⟩
   simp only[cY]
   refine aD.get db ?_
   simp only[if_true]
   exact aD.mono (aD.bind h1 (aD.pure _)) (fun _ h=>by simpa using h)
  ·simp[Tr.run]at h
theorem FW.names:∀ {wr:List (Nat×aB T.den)} {w:List (Nat×aJ)},FW T H wr w→wr.map (·.1)=w.map (·.1)
 |[],[],_=>rfl
 |_::_,_::_,h=>by simp only[List.map_cons]; rw[h.1.1,FW.names h.2]
 |[],_::_,h=>h.elim
 |_::_,[],h=>h.elim
theorem FW.apply[ab]:∀ {wr:List (Nat×aB T.den)} {w:List (Nat×aJ)} {H:ah T.den} {hp:ag},RH T H hp→FW T H wr w →
  dy H (aP H wr)∧RH T (aP H wr) (ai hp w)∧(∀ n:Nat,n∉wr.map (·.1)→(aP H wr)[n]?=H[n]?)∧(aP H wr).length=H.length
 |[],[],H,hp,hh,_=>⟨dy.refl _,hh,fun _ _=>rfl,rfl⟩
 |(n,o')::wr,(n',a')::w,H,hp,hh,h=>by
  obtain⟨⟨e1,h2,o,h3,h4,h5,wR,BU⟩,h6⟩:=h
  simp only at e1 h2 h3 h4 h5 wR BU
  subst e1
  obtain⟨hg,Pa⟩:=hh.SC h3 (o':=o') (by omega) (fun _=>h5) h2
  have bL:=(List.getElem?_eq_some_iff.1 h3).1
  have e1:bM H n o'=H.set n (some o'):=by simp[bM]; omega
  have e2:setObj hp n a'=hp.set n (some a'):=by simp[setObj]; have:=hh.length; omega
  have h7:FW T (H.set n (some o')) wr w:=by
   refine aw.mono (fun p q NK=>?_) h6
   obtain⟨q1,q2,o2,q3,q4,q5,q6,q7⟩:=NK
   refine⟨q1,RO.mono hg q2,?_⟩
   by_cases e:p.1=n
   ·simp_all
   ·grind
  obtain⟨i1,i2,i3,i4⟩:=FW.apply Pa h7
  simp only[aP,ai]
  rw[e1,e2]
  refine⟨hg.trans i1,i2,fun m hm=>?_,by rw[i4]; simp⟩
  simp only[List.map_cons,List.mem_cons,not_or]at hm
  rw[i3 m hm.2,List.getElem?_set_ne (Ne.symm hm.1)]
 |[],_::_,_,_,_,h=>h.elim
 |_::_,[],_,_,_,h=>h.elim
theorem FW.D8:∀ {wr:List (Nat×aB T.den)} {w:List (Nat×aJ)},FW T H wr w→∀ n,recAt H n=true→n∉wr.map (·.1)
 |[],[],_,n,_=>by simp
 |(m,o')::wr,_::w,h,n,hn=>by
  obtain⟨⟨_,_,o,h3,_,_,wR,_⟩,h6⟩:=h
  simp only at h3
  simp only[List.map_cons,List.mem_cons,not_or]
  refine⟨?_,FW.D8 h6 n hn⟩
  rintro rfl
  simp only[recAt,h3,wR,Bool.false_eq_true]at hn
 |[],_::_,h,_,_=>h.elim
 |_::_,[],h,_,_=>h.elim
theorem FW.re[ab]{wr:List (Nat×aB T.den)}{w:List (Nat×aJ)}(hh:RH T H hp)(h:FW T H wr w){v:SV T.den}{a:AV}(hv:∀ H,R T H v a):RE T H hp v wr ⟨a,w⟩:=by
 obtain⟨h1,h2,h3,h4⟩:=FW.apply hh h
 exact⟨.inr (hv _),h2,h1,fun q hq=>by rw[h.names]; exact List.mem_map_of_mem hq,fun n hn _=>h3 n hn,by rw[h4]; exact Nat.le_refl _,h.D8⟩
mutual
theorem R.jg:∀ {v:SV T.den} {a:AV},R T H v a→vm v=jg a
 |.agg l,a,h=>by
  simp only[R]at h
  obtain⟨l',rfl,h2⟩:=h
  simp only[vm,Go.PI.jg]; exact RL.jg h2
 |.bh esz n c rg cap,a,h=>by
  simp only[R]at h
  obtain⟨aq,h1,h2⟩:=h
  rcases rg with _|⟨off,len⟩<;>simp only at h2<;>subst h2<;>rfl
 |.dead,a,h=>by simp[R]at h
 |.hole,a,h|.lit v,a,h|.nz,a,h=>by simp only[R]at h; subst h; rfl
 |.jF l,a,h=>by
  have h0:=R.closed h
  simp only[R]at h
  obtain⟨l',rfl,h2⟩:=h
  exact h0
 |.sl l,a,h=>by
  simp only[R]at h
  obtain⟨l',rfl,h2⟩:=h
  rfl
 |.jw t l,a,h=>by
  simp only[R]at h
  rcases h with ⟨l',rfl,_⟩|⟨_,rfl⟩<;>rfl
 |.bj e j,a,h=>by
  simp only[R]at h
  obtain⟨e',rfl,h2⟩:=h
  rfl
 |.ref n c i j,a,h|.iD n c i j ln cp,a,h=>by
  simp only[R]at h
  obtain⟨aq,rfl,h2⟩:=h
  rfl
 |.jd fn f c,a,h=>by
  have h0:=R.closed h
  simp only[R]at h
  obtain⟨f',c',rfl,h2,h3⟩:=h
  exact h0
 |.fW t v,a,h=>by
  have h0:=R.closed h
  simp only[R]at h
  obtain⟨v',rfl,h2⟩:=h
  exact h0
 |.w8 t l c b,a,h=>by
  simp only[R]at h
  rcases h with ⟨_,l',rfl,_⟩|⟨_,_,rfl|rfl⟩<;>rfl
 |.mp y n,a,h=>by
  simp only[R]at h
  obtain⟨rfl,_⟩:=h
  rfl
 |.ss v s len i,a,h=>by
  have h0:=R.closed h
  simp only[R]at h
  obtain⟨a0,_,h1,h2⟩:=h
  rcases h2 with ⟨n,aq,k,j,rfl,rfl⟩|⟨e,j,rfl,rfl⟩<;>exact h0
theorem RL.jg:∀ {l:List (SV T.den)} {m:List AV},RL T H l m→jZ l=nA m
 |[],[],_=>rfl
 |x::xs,y::ys,h=>by
  simp only[RL]at h
  simp only[jZ,nA]; rw[R.jg h.1,RL.jg h.2]
 |[],_::_,h=>by simp[RL]at h
 |_::_,[],h=>by simp[RL]at h
end
theorem RP.zip{H':ah T.den}:∀ {ps:List (Nat×SV T.den)} {qs:List (Nat×AV)} {l:List (SV T.den)} {m:List AV},RP T H ps qs→RL T H' l m→RP T H' ((ps.map (·.1)).zip l) ((qs.map (·.1)).zip m)
 |[],[],_,_,_,_=>trivial
 |_::_,_::_,[],[],_,_=>trivial
 |p::ps,q::qs,x::l,y::m,h,h2=>by
  simp only[RL]at h2
  exact⟨⟨h.1.1,h2.1⟩,RP.zip h.2 h2.2⟩
 |_,_,[],_::_,_,h=>by simp[RL]at h
 |_,_,_::_,[],_,h=>by simp[RL]at h
 |[],_::_,_,_,h,_=>h.elim
 |_::_,[],_,_,h,_=>h.elim
theorem ee{den:Nat→Type}:∀ {a b:List (Nat×aB den)} {H:ah den},aP H (a++b)=aP (aP H a) b
 |[],_,_=>rfl
 |_::a,_,_=>ee (a:=a)
theorem FW.none[ab]:∀ {wr:List (Nat×aB T.den)} {w:List (Nat×aJ)},FW T H wr w→∀ n:Nat,H[n]?=some none→n∉wr.map (·.1)
 |[],[],_,n,_=>by simp
 |(m,o')::wr,_::w,h,n,hn=>by
  obtain⟨⟨_,_,o,h3,_,_,_,_⟩,h6⟩:=h
  simp only at h3
  simp only[List.map_cons,List.mem_cons,not_or]
  refine⟨?_,FW.none h6 n hn⟩
  rintro rfl
  rw[hn]at h3; simp at h3
 |[],_::_,h,_,_=>h.elim
 |_::_,[],h,_,_=>h.elim
theorem FW.XS[ab]{wr:List (Nat×aB T.den)}{w:List (Nat×aJ)}(h:FW T H wr w)(hk:∀ n:Nat,n∉wr.map (·.1)→(aP H wr)[n]?=H[n]?){n:Nat}(hn:recAt H n=true):recAt (aP H wr) n=true:=by
 unfold recAt at hn ⊢
 rw[hk n (h.D8 n (by unfold recAt; exact hn))]; exact hn
theorem z2[ab](hQ:Q.Ok)(hh:RH T H hp){nm:Nat}(hn:nm=H.length∨H[nm]?=some none){t:TypeId}{len:Nat}{ps:List (Nat×SV T.den)}{qs:List (Nat×AV)}(O8:RP T H ps qs){K:EK T ρ}
  (h:(sC T Q nm H t len ps K).run=some r):iX T H hp (match byValue (qs.map (·.2)) with|true=>lI Q.P nm t len qs|false=>.eZ (c6 Q.P nm t len qs)) K r:=by
 unfold sC at h
 have hs:=RP.snd O8
 unfold byValue
 rw[←RL.jg hs,←RL.closed hs]
 generalize (jZ (ps.map (·.2))&&!av (ps.map (·.2)))=b at h ⊢
 cases b with
 |true=>
  simp only at h ⊢
  obtain⟨l',rd,m',g1,g2,_,_,h⟩:=qZ hh hs h
  obtain⟨wr,rd2,w,f1,f2,h⟩:=mo hh h
  rw[RL.names hs]at f1
  obtain⟨a1,a2,a3,a4⟩:=FW.apply hh f2
  have z9:nm=(aP H wr).length∨(aP H wr)[nm]?=some .none:=by
   rcases hn with hn|hn
   ·exact .inl (by rw[a4]; exact hn)
   ·exact .inr (by rw[a3 _ (f2.none _ hn)]; exact hn)
  obtain⟨v,wr2,T2,e,y1,y2,h⟩:=qk hQ a2 z9 (RP.zip O8 (RL.mono a1 g2)) h
  refine⟨v,wr++wr2,rd++(rd2++T2),⟨e.val,w++e.wr⟩,?_,?_,h⟩
  ·simp only[lI]
   have y1':aD hp (RM.eZ (c6 Q.P nm t len ((qs.map (·.1)).zip m'))) e T2:=by
    cases hx:c6 Q.P nm t len ((qs.map (·.1)).zip m') with
    |none=>rw[hx]at y1; simp[aD,RM.eZ,RM.run]at y1
    |some e2=>
     rw[hx]at y1
     simp only[aD,RM.eZ,RM.run,RM.log]at y1 ⊢
     exact⟨y1.1,by simp⟩
   exact aD.mono (aD.bind g1 (aD.bind f1 (aD.bind y1' (aD.pure _)))) (fun _ h=>by simpa using h)
  ·refine⟨by rw[ee]; exact y2.val,by rw[ee,pS]; exact y2.hp,by rw[ee]; exact a1.trans y2.grow,fun q hq=>?_,fun n hn hl=>?_,?_,fun n hn=>?_⟩
   ·simp only[List.mem_append,List.map_append]at hq ⊢
    rcases hq with hq|hq
    ·exact .inl (by rw[f2.names]; exact List.mem_map_of_mem hq)
    ·exact .inr (y2.names q hq)
   ·simp only[List.map_append,List.mem_append,not_or]at hn
    rw[ee,y2.zX n hn.2 (by rw[a4]; exact hl),a3 n hn.1]
   ·rw[ee]; exact Nat.le_trans (Nat.le_of_eq a4.symm) y2.len
   ·simp only[List.map_append,List.mem_append,not_or]
    exact⟨f2.D8 n hn,y2.D8 n (f2.XS a3 hn)⟩
 |false=>
  simp only at h ⊢
  exact qk hQ hh hn O8 h
end
end Go.PI
end
section
/- PS, part I: append, and the builtins. -/
namespace Go.PI
variable {T:dm}{ρ:Type}
section
variable {H:ah T.den}{hp:ag}{K:EK T ρ}{r:ρ}{Q:gO}
def z3(T:dm)(H:ah T.den)(y:Src T.den)(ys:List AV)(yc:Bool):Prop:=
 match y with
 |.me l cl=>RL T H l ys∧yc=cl∧(cl=true→av l=true)
 |.zU t l=>aw (T.rp t) l ys∧yc=true
theorem z3.len[ab]{y:Src T.den}{ys:List AV}{yc:Bool}(h:z3 T H y ys yc):y.len=ys.length:=by
 cases y with
 |me l cl=>exact h.1.length
 |zU t l=>exact h.1.length
theorem HV[ab](hQ:Q.Ok)(hh:RH T H hp){q:bu}{xt:TypeId}{x:SV T.den}{a:AV}(hx:RV T H x a){K:Src T.den→List Nat→Tr ρ}(h:(OS Q H xt x K).run=some r):
  ∃ y rd ys yc,aD hp (uy Q.P q xt a) (ys,yc) rd∧z3 T H y ys yc∧(K y rd).run=some r:=by
 unfold OS at h
 split at h
 case h_2=>simp[Tr.run]at h
 rename_i hs
 have hs:=hQ.O3 hs
 unfold uy
 rw[hs]
 simp only
 split at h
 ·have ha:=hx.lit rfl
  subst ha
  exact⟨.me [] true,_,[],true,aD.pure _,⟨by simp[RL],rfl,fun _=>rfl⟩,h⟩
 ·have ha:=hx.live rfl
  simp only[R]at ha
  obtain⟨l',rfl,hl,E5⟩:=ha
  exact⟨.me _ true,_,l',true,aD.pure _,⟨hl,rfl,fun _=>E5⟩,h⟩
 ·have ha:=hx.live rfl
  simp only[R]at ha
  rcases ha with ⟨l',rfl,hl⟩|⟨rfl,rfl⟩
  ·exact⟨.zU _ _,_,l',true,aD.pure _,⟨hl,rfl⟩,h⟩
  ·exact⟨.zU _ _,_,[],true,aD.pure _,⟨(show aw (T.rp _) [] [] from trivial),rfl⟩,h⟩
 ·rename_i esz n c rg cap
  have ha:=hx.live rfl
  simp only[R]at ha
  obtain⟨aq,hv,ha⟩:=ha
  split at h
  ·rename_i g cl f cur es ho
   obtain⟨o,db,dJ⟩:=hh.obj ho
   obtain⟨es',rfl,cF,rB⟩:=dJ
   split at h
   case h_2=>simp[Tr.run]at h
   rename_i hc
   have cf:=hv.arr hh ho hc
   simp only[aB.len]at cf
   have hl:=cF.length
   split at h
   ·simp only at ha
    subst ha
    refine⟨.me es cl,_,es',cl,?_,⟨cF,rfl,rB⟩,h⟩
    simp only[fG]
    refine aD.mono (aD.bind (aD.arr db (by omega)) ?_) (rd:=[n]++[]) (fun _ h=>by simpa using h)
    simp only
    rw[if_pos (by omega)]
    simp only[List.drop_zero]
    rw[List.take_of_length_le (by omega)]
    exact aD.pure _
   ·rename_i off len
    simp only at ha
    subst ha
    split at h
    case isFalse=>simp[Tr.run]at h
    rename_i hle
    refine⟨.me _ cl,_,(es'.drop off).take len,cl,?_,⟨aR.2 (((aR.1 cF).drop off).take len),rfl,fun nu=>mT (rB nu) _ _⟩,h⟩
    simp only[fG]
    refine aD.mono (aD.bind (aD.arr db (by omega)) ?_) (rd:=[n]++[]) (fun _ h=>by simpa using h)
    simp only
    rw[if_pos (by omega)]
    exact aD.pure _
  ·rename_i g f cur t l ho
   obtain⟨o,db,dJ⟩:=hh.obj ho
   obtain⟨es',rfl,cF⟩:=dJ
   split at h
   case h_2=>simp[Tr.run]at h
   rename_i hc
   have cf:=hv.arr hh ho hc
   simp only[aB.len]at cf
   have hl:=cF.length
   split at h
   ·simp only at ha
    subst ha
    refine⟨.zU t l,_,es',true,?_,⟨cF,rfl⟩,h⟩
    simp only[fG]
    refine aD.mono (aD.bind (aD.arr db (by omega)) ?_) (rd:=[n]++[]) (fun _ h=>by simpa using h)
    simp only
    rw[if_pos (by omega)]
    simp only[List.drop_zero]
    rw[List.take_of_length_le (by omega)]
    exact aD.pure _
   ·rename_i off len
    simp only at ha
    subst ha
    obtain⟨hle,h⟩:=ba h
    simp only[decide_eq_true_eq]at hle
    refine⟨.zU t _,_,(es'.drop off).take len,true,?_,⟨(cF.drop off).take len,rfl⟩,h⟩
    simp only[fG]
    refine aD.mono (aD.bind (aD.arr db (by omega)) ?_) (rd:=[n]++[]) (fun _ h=>by simpa using h)
    simp only
    rw[if_pos (by omega)]
    exact aD.pure _
  ·simp[Tr.run]at h
 ·simp[Tr.run]at h
theorem z3.yD[ab](hT:T.Ok){y:Src T.den}{ys:List AV}{yc:Bool}(h:z3 T H y ys yc){m:kp}{q:bu}(h1:q.isAgg=m.agg)(h2:q.size=m.size)(bI:y.ok T m=true):ys.all (aC q.isAgg q.size)=true:=by
 cases y with
 |me l cl=>
  rw[h1,h2,←RL.all (fun _ _=>R.aC) h.1]
  exact bI
 |zU t l=>
  simp only[Src.ok,Bool.and_eq_true,decide_eq_true_eq]at bI
  exact sS hT (by rw[h1,bI.1]) (by rw[h2,bI.2]) h.1
theorem gQ[ab]{y:Src T.den}{ys:List AV}{yc:Bool}(hy:z3 T H y ys yc){a b:Tr ρ}(h:(oH T y a b).run=some r):(ys.isEmpty=true∧a.run=some r)∨(ys.isEmpty=false∧b.run=some r):=by
 have hl:=hy.len
 unfold oH at h
 split at h
 ·grind[Src.len]
 ·rename_i t l
  rcases fF h with ⟨he,h⟩|⟨he,h⟩
  ·grind[Src.len]
  ·grind[Src.len]
theorem ql(hT:T.Ok){t:Nat}:∀ {l:List (SV T.den)} {m:List AV} {xs:List (T.den t)},RL T H l m→pa T t l=some xs→aw (T.rp t) xs m
 |[],[],xs,_,h=>by simp[pa]at h; subst h; trivial
 |v::vs,a::as,xs,hr,h=>by
  simp only[RL]at hr
  simp only[pa,Option.bind_eq_some_iff,Option.map_eq_some_iff]at h
  obtain⟨x,h1,ys,h2,rfl⟩:=h
  exact⟨hT.dn _ _ _ _ H h1 hr.1,ql hT hr.2 h2⟩
 |[],_::_,_,h,_=>by simp[RL]at h
 |_::_,[],_,h,_=>by simp[RL]at h
theorem yW{t t':Nat}(h:t=t'){l:List (T.den t)}{m:List AV}(hl:aw (T.rp t) l m):aw (T.rp t') (AO h l) m:=by subst h; exact hl
theorem A1{den:Nat→Type}{t t':Nat}(h:t=t')(l:List (den t)):(AO h l).length=l.length:=by subst h; rfl
theorem vw[ab](hT:T.Ok){cur:Nat}{o o':aB T.den}{y:Src T.den}{g c f:Bool}{es ys:List AV}{yc:Bool}(ho:RO T H o (.arr g c f es))(hy:z3 T H y ys yc)(h:qc T cur o y=some o'):
  o'.cur=cur∧o'.len=o.len+y.len∧RO T H o' (.arr true (c&&yc) f (es++ys)):=by
 unfold qc at h
 split at h
 ·rename_i cl f' cu XT V5 ZT
  simp only[Option.some.injEq]at h
  subst h
  obtain⟨es',e,cF,rB⟩:=ho
  simp only[aJ.arr.injEq]at e
  obtain⟨rfl,rfl,rfl,rfl⟩:=e
  obtain⟨yX,rfl,Uh⟩:=hy
  exact⟨rfl,by simp[aB.len,Src.len],_,rfl,aR.2 ((aR.1 cF).append (aR.1 yX)),fun nu=>by simp only[Bool.and_eq_true]at nu; exact Gn (rB nu.1) (Uh nu.2)⟩
 ·rename_i f' cu XT t l
  rw[Option.map_eq_some_iff]at h
  obtain⟨l0,h1,rfl⟩:=h
  obtain⟨es',e,cF,_⟩:=ho
  simp only[aJ.arr.injEq]at e
  obtain⟨rfl,rfl,rfl,rfl⟩:=e
  obtain⟨yX,rfl⟩:=hy
  have h2:=ql hT cF h1
  refine⟨rfl,?_,_,rfl,h2.append yX⟩
  simp[aB.len,Src.len,h2.length,cF.length]
 ·rename_i f' cu t l V5
  rw[Option.map_eq_some_iff]at h
  obtain⟨l0,h1,rfl⟩:=h
  obtain⟨es',e,cF⟩:=ho
  simp only[aJ.arr.injEq]at e
  obtain⟨rfl,rfl,rfl,rfl⟩:=e
  obtain⟨yX,rfl,_⟩:=hy
  have h2:=ql hT yX h1
  refine⟨rfl,?_,_,rfl,cF.append h2⟩
  simp[aB.len,Src.len,h2.length,yX.length]
 ·rename_i f' cu t l t' l2
  split at h
  case isFalse=>simp at h
  rename_i ht
  simp only[Option.some.injEq]at h
  subst h
  obtain⟨es',e,cF⟩:=ho
  simp only[aJ.arr.injEq]at e
  obtain⟨rfl,rfl,rfl,rfl⟩:=e
  obtain⟨yX,rfl⟩:=hy
  refine⟨rfl,?_,_,rfl,cF.append (yW ht yX)⟩
  simp[aB.len,Src.len,A1]
 ·simp at h
theorem Eh{y:Src T.den}{ys:List AV}{yc:Bool}(hy:z3 T H y ys yc):(yE y).cur=0∧(yE y).len=y.len∧RO T H (yE y) (.arr true yc false ys):=by
 cases y with
 |me l cl=>obtain⟨h1,rfl,h2⟩:=hy; exact⟨rfl,rfl,_,rfl,h1,h2⟩
 |zU t l=>obtain⟨h1,rfl⟩:=hy; exact⟨rfl,rfl,_,rfl,h1⟩
theorem Mk[ab](hT:T.Ok){o:aB T.den}{g c f:Bool}{es:List AV}(ho:RO T H o (.arr g c f es)){m:kp}{q:bu}(h1:q.isAgg=m.agg)(h2:q.size=m.size)(bI:o.yD T m=true):es.all (aC q.isAgg q.size)=true:=by
 cases o with
 |arr g' cl f' cu XT=>
  obtain⟨es',e,cF,_⟩:=ho
  simp only[aJ.arr.injEq]at e
  obtain⟨rfl,rfl,rfl,rfl⟩:=e
  rw[h1,h2,←RL.all (fun _ _=>R.aC) cF]
  exact bI
 |ca g' f' cu t l=>
  obtain⟨es',e,cF⟩:=ho
  simp only[aJ.arr.injEq]at e
  obtain⟨rfl,rfl,rfl,rfl⟩:=e
  simp only[aB.yD,Bool.and_eq_true,decide_eq_true_eq]at bI
  exact sS hT (by rw[h1,bI.1]) (by rw[h2,bI.2]) cF
 |_=>simp[aB.yD]at bI
theorem yY{cur:Nat}{o o':aB T.den}{y:Src T.den}(h:qc T cur o y=some o'):o.yS=true:=by
 cases o<;>first|rfl|(cases y<;>simp[qc]at h)
theorem n8{o:aB T.den}(h:o.yS=true):o.isRec=false:=by cases o<;>first|rfl|simp[aB.yS]at h
theorem qm:∀ (ys es:List AV) (i:Nat),i+ys.length≤es.length→bz es i ys=es.take i++(ys++es.drop (i+ys.length))
 |[],es,i,_=>by simp[bz]
 |y::ys,es,i,h=>by
  simp only[List.length_cons]at h
  simp only[bz]
  rw[qm ys (es.set i y) (i+1) (by simp; omega)]
  have e1:(es.set i y).take (i+1)=es.take i++[y]:=by
   rw[List.take_succ_eq_append_getElem (by simp; omega),List.take_set_of_le (Nat.le_refl i)]
   simp
  have e2:(es.set i y).drop (i+1+ys.length)=es.drop (i+(ys.length+1)):=by
   rw[List.drop_set_of_lt (by omega)]
   congr 1; omega
  rw[e1,e2]
  simp
theorem A2{α β:Type}{P:α→β→Prop}{l l2:List α}{m m2:List β}(h:aw P l m)(h2:aw P l2 m2)(i:Nat):aw P (I4 l i l2) (m.take i++(m2++m.drop (i+m2.length))):=by
 unfold I4
 rw[h2.length]
 exact(h.take i).append (h2.append (h.drop _))
theorem vz[ab](hT:T.Ok){i:Nat}{o o':aB T.den}{y:Src T.den}{ao:aJ}{ys:List AV}{yc:Bool}(ho:RO T H o ao)(hy:z3 T H y ys yc)(hi:i+y.len≤o.len)(h:vk T o i y=some o'):
  o.yS=true∧o'.cur=o.cur∧o'.len=o.len∧∃ es,ao=.arr o.flags.1 o.flags.2.1 o.flags.2.2 es∧RO T H o' (.arr o.flags.1 (o.flags.2.1&&yc) o.flags.2.2 (bz es i ys)):=by
 have hlen:=hy.len
 unfold vk at h
 split at h
 ·rename_i g f cu t l t' l2
  split at h
  case isFalse=>simp at h
  rename_i ht
  simp only[Option.some.injEq]at h
  subst h
  obtain⟨es',rfl,cF⟩:=ho
  obtain⟨yX,rfl⟩:=hy
  have hl:=cF.length
  simp only[aB.len,Src.len]at hi hlen
  refine⟨rfl,rfl,?_,es',rfl,_,rfl,?_⟩
  ·simp[aB.len,I4,A1]; omega
  ·rw[qm _ _ _ (by omega)]
   exact A2 cF (yW ht yX) i
 ·rename_i g f cu t l V5
  rw[Option.map_eq_some_iff]at h
  obtain⟨l0,h1,rfl⟩:=h
  obtain⟨es',rfl,cF⟩:=ho
  obtain⟨yX,rfl,_⟩:=hy
  have h2:=ql hT yX h1
  have hl:=cF.length
  have pf:=h2.length
  simp only[aB.len,Src.len]at hi hlen
  refine⟨rfl,rfl,?_,es',rfl,_,rfl,?_⟩
  ·simp[aB.len,I4]; omega
  ·rw[qm _ _ _ (by omega)]
   exact A2 cF h2 i
 ·simp at h
def sT(q:bu)(nm:Nat)(a:AV)(ys:List AV)(yc:Bool):RM dk:=
   (match (bR q).isSome&&decide (0<q.size)&&ys.all (aC q.isAgg q.size) with
     |false=>RM.fail
     |true=>match ys.isEmpty with
      |true=>(match a with
       |.kW xs _=>pure ⟨.sl xs,[]⟩
       |.lit (.slice none 0 0)|.sl _|.bh _ _ _ _ _ _|.nz=>pure ⟨a,[]⟩
       |_=>.fail)
      |false=>match a with
       |.lit (.slice none 0 0)|.nz=>
        if ys.length*q.bytes≤2^44∧ys.length≤2^44 then
         pure ⟨.bh q.size nm ys.length 0 ys.length none,[(nm,.arr true yc false ys)]⟩ else .fail
       |.kW xs c=>
        if c<xs.length+ys.length∧(xs.length+ys.length)*q.bytes≤2^44∧xs.length+ys.length≤2^44∧xs.all (aC q.isAgg q.size)=true then
         pure ⟨.bh q.size nm (xs.length+ys.length) 0 (xs.length+ys.length) none,[(nm,.arr true yc false (xs++ys))]⟩ else .fail
       |.bh esz n aq off len cap=>do
        let (g,c,f,es) ←RM.arr n aq
        if f=true∨es.length<off+len∨esz≠q.size then RM.fail else
        if len+ys.length≤cap.getD (aq-off) then
         if off+len+ys.length≤es.length then
          pure ⟨.bh esz n aq off (len+ys.length) cap,[(n,.arr g (c&&yc) f (bz es (off+len) ys))]⟩
         else RM.fail
        else if (len+ys.length)*q.bytes≤2^44∧len+ys.length≤2^44 then
         (match cap with
         |none=>if g=true∧off=0∧len=aq then
           pure ⟨.bh esz n (len+ys.length) 0 (len+ys.length) none,[(n,.arr true (c&&yc) f (es++ys))]⟩
          else RM.fail
         |some _=>if es.all (aC q.isAgg q.size)=true then
           pure ⟨.bh esz nm (len+ys.length) 0 (len+ys.length) none,[(nm,.arr true (c&&yc) false ((es.drop off).take len++ys))]⟩
          else RM.fail)
        else RM.fail
       |_=>.fail)
theorem Gt{P:Program}{t xt:TypeId}{q:bu}(h:aH P t=some q)(nm:Nat)(a b:AV):
  eJ P nm t xt a b=(uy P q xt b >>= fun p=>sT q nm a p.1 p.2):=by
 unfold eJ
 rw[h]
 rfl
theorem A3{i:Nat}{o o':aB T.den}{y:Src T.den}{ys:List AV}{yc:Bool}(hy:z3 T H y ys yc)(h:vk T o i y=some o'):yc=true:=by
 cases y with
 |me l cl=>cases cl with
  |true=>exact hy.2.1
  |false=>unfold vk at h; cases o<;>simp at h
 |zU t l=>exact hy.2
theorem yZ[ab](hh:RH T H hp){n:Nat}{o o':aB T.den}{ao:aJ}(ho:H[n]?=some (some o))(hc:o.cur≤o'.cur)(hl:o'.cur=o.cur→o'.len=o.len)(db:hp[n]?=some (some ao))(dJ:RO T H o' ao)
  {v:SV T.den} {a:AV} (hv:RV T (H.set n (some o')) v a) {m:RM dk} {rd:List Nat} (hy:aD hp m ⟨a,[]⟩ rd) (h:(K v [(n,o')] rd).run=some r) (hj:o.yS=true):iX T H hp m K r:=by
 obtain⟨Qk,Pa⟩:=hh.SC ho (o':=o') hc hl dJ
 rw[ie db]at Pa
 have bL:=(List.getElem?_eq_some_iff.1 ho).1
 have e1:aP H [(n,o')]=H.set n (some o'):=by simp[aP,bM]; omega
 refine⟨_,_,_,⟨a,[]⟩,hy,⟨by rw[e1]; exact hv,by rw[e1]; exact Pa,by rw[e1]; exact Qk,fun q h=>by simp at h,fun k hk hl=>?_,by rw[e1]; simp,fun k hk CP=>by
  simp at CP
  subst CP
  simp only[recAt,ho,n8 hj,Bool.false_eq_true]at hk⟩,h⟩
 rw[e1]; simp at hk; rw[List.getElem?_set_ne (Ne.symm hk)]
theorem Gu[ab](hT:T.Ok)(hQ:Q.Ok)(hh:RH T H hp){nm:Nat}(hn:nm=H.length∨H[nm]?=some none){t xt:TypeId}{s x:SV T.den}{a b:AV}(hs:RV T H s a)(hx:RV T H x b)
  (h:(B7 Q nm H t xt s x K).run=some r):iX T H hp (eJ Q.P nm t xt a b) K r:=by
 unfold B7 at h
 split at h
 ·simp[Tr.run]at h
 rename_i m hm
 obtain⟨q,hG,ed,gU,Hv,JU⟩:=hQ.elem hm
 obtain⟨y,rd,ys,yc,yX,wI,h⟩:=HV hQ hh (q:=q) hx h
 split at h
 ·simp[Tr.run]at h
 rename_i bI
 simp only[Bool.and_eq_true,decide_eq_true_eq]at bI
 have hz:(bR q).isSome=true:=by
  cases hzz:m.zero with
  |none=>rw[hzz]at bI; simp at bI
  |some z=>rw[JU z hzz]; rfl
 have bg:=wI.yD hT ed gU bI.2
 have lN:((bR q).isSome&&decide (0<q.size)&&ys.all (aC q.isAgg q.size))=true:=by
  rw[hz,bg,gU]; simpa using bI.1.2
 have fV:=wI.len
 have abs:∀ {rest:RM dk} {e:dk} {rd2:List Nat},(∀ n,n∈rd→n∈rd2)→aD hp rest e rd2 →
   sT q nm a ys yc=rest→aD hp (eJ Q.P nm t xt a b) e rd2:=by
  intro rest e rd2 h1 h2 h3
  rw[Gt hG]
  refine⟨?_,fun n hn=>?_⟩
  ·rw[RM.run_bind,yX.1]
   simp only[Option.bind_some]
   rw[h3]
   exact h2.1
  ·rw[RM.eO,yX.1]at hn
   simp only[List.mem_append]at hn
   rw[h3]at hn
   exact hn.elim (fun h=>h1 n (yX.2 n h)) (h2.2 n)
 unfold sT at abs
 rw[lN]at abs
 split at h
 ·-- nil
  have ha:=hs.lit rfl
  subst ha
  rcases gQ wI h with ⟨he,h⟩|⟨he,h⟩
  ·rw[he]at abs
   exact ar hh (bk bV) (abs (fun _ h=>h) (aD.mono (aD.pure _) (fun _ h=>by simp at h)) rfl) h
  ·rw[he]at abs
   obtain⟨hg,h⟩:=ba h
   simp only[rK,Bool.and_eq_true,decide_eq_true_eq]at hg
   obtain⟨o1,o2,o3⟩:=Eh wI
   refine eV hh hn o3 (v:=.bh m.size nm 0 none none) (a:=.bh q.size nm ys.length 0 ys.length none) ?_ (abs (fun _ h=>h) (aD.mono (aD.pure _) (fun _ h=>by simp at h)) ?_) h
   ·right
    simp only[R]
    have hv:=eW hh hn (o:=yE y)
    rw[o1,o2,fV]at hv
    exact⟨_,hv,by rw[gU]⟩
   ·simp only
    rw[if_pos ⟨by rw[←fV,Hv]; exact hg.1,by rw[←fV]; exact hg.2⟩]
 ·-- empty,without room
  have ha:=hs.live rfl
  simp only[R]at ha
  rcases gQ wI h with ⟨he,h⟩|⟨he,h⟩
  ·rw[he]at abs
   subst ha
   exact ar hh hs (abs (fun _ h=>h) (aD.mono (aD.pure _) (fun _ h=>by simp at h)) rfl) h
  ·rw[he]at abs
   obtain⟨hg,h⟩:=ba h
   simp only[rK,Bool.and_eq_true,decide_eq_true_eq]at hg
   obtain⟨o1,o2,o3⟩:=Eh wI
   have key:∀ rest:RM dk,rest=(if ys.length*q.bytes≤2^44∧ys.length≤2^44 then
        pure ⟨.bh q.size nm ys.length 0 ys.length none,[(nm,.arr true yc false ys)]⟩ else .fail)→rest=pure ⟨.bh q.size nm ys.length 0 ys.length none,[(nm,.arr true yc false ys)]⟩:=by
    intro rest hr
    rw[hr,if_pos ⟨by rw[←fV,Hv]; exact hg.1,by rw[←fV]; exact hg.2⟩]
   refine eV hh hn o3 (v:=.bh m.size nm 0 none none) (a:=.bh q.size nm ys.length 0 ys.length none) ?_ (abs (fun _ h=>h) (aD.mono (aD.pure _) (fun _ h=>by simp at h)) ?_) h
   ·right
    simp only[R]
    have hv:=eW hh hn (o:=yE y)
    rw[o1,o2,fV]at hv
    exact⟨_,hv,by rw[gU]⟩
   ·subst ha
    exact key _ rfl
 ·-- a slice by value
  have ha:=hs.live rfl
  rcases gQ wI h with ⟨he,h⟩|⟨_,h⟩
  ·rw[he]at abs
   simp only[R]at ha
   obtain⟨l',rfl,hl⟩:=ha
   exact ar hh hs (abs (fun _ h=>h) (aD.mono (aD.pure _) (fun _ h=>by simp at h)) rfl) h
  ·simp[Tr.run]at h
 ·have ha:=hs.live rfl
  rcases gQ wI h with ⟨he,h⟩|⟨_,h⟩
  ·rw[he]at abs
   have PJ:=ha
   simp only[R]at ha
   rcases ha with ⟨l',rfl,hl⟩|⟨_,rfl⟩
   ·exact ar hh hs (abs (fun _ h=>h) (aD.mono (aD.pure _) (fun _ h=>by simp at h)) rfl) h
   ·exact ar hh hs (abs (fun _ h=>h) (aD.mono (aD.pure _) (fun _ h=>by simp at h)) rfl) h
  ·simp[Tr.run]at h
 ·-- a slice by value,of known room
  rename_i t' l c b _
  have ha:=hs.live rfl
  have PJ:=ha
  simp only[R]at ha
  rcases gQ wI h with ⟨he,h⟩|⟨he,h⟩
  ·rw[he]at abs
   rcases ha with ⟨_,l',rfl,hl⟩|⟨_,xf,rfl|rfl⟩
   ·exact ar hh (v:=.jw t' l) (a:=.sl l') (.inr (by simp only[R]; exact .inl ⟨l',rfl,hl⟩)) (abs (fun _ h=>h) (aD.mono (aD.pure _) (fun _ h=>by simp at h)) rfl) h
   ·exact ar hh (v:=.jw t' l) (a:=.sl []) (.inr (by simp only[R]; exact .inl ⟨[],rfl,by rw[xf]; trivial⟩)) (abs (fun _ h=>h) (aD.mono (aD.pure _) (fun _ h=>by simp at h)) rfl) h
   ·exact ar hh (v:=.jw t' l) (a:=.lit bV) (.inr (by simp only[R]; exact .inr ⟨xf,trivial⟩)) (abs (fun _ h=>h) (aD.mono (aD.pure _) (fun _ h=>by simp at h)) rfl) h
  ·rw[he]at abs
   obtain⟨hg,h⟩:=ba h
   simp only[rK,Bool.and_eq_true,decide_eq_true_eq]at hg
   obtain⟨⟨hb,hc⟩,rz,gZ⟩:=hg
   split at h
   case h_2=>simp[Tr.run]at h
   rename_i o' Ui xG
   simp only[Bool.and_eq_true,decide_eq_true_eq]at Ui
   rcases ha with ⟨_,l',rfl,hl⟩|⟨pq,_⟩
   ·have hlen:=hl.length
    have dJ:RO T H (.ca true false 0 t' l) (.arr true true false l'):=⟨l',rfl,hl⟩
    obtain⟨a1,a2,a3⟩:=vw hT dJ wI xG
    have Uh:yc=true:=by
     cases y with
     |me V5 cl=>
      obtain⟨_,kM,_⟩:=wI
      cases yc with
      |true=>rfl
      |false=>rw[show cl=false from by simpa using kM.symm]at xG; simp[qc]at xG
     |zU _ _=>exact wI.2
    subst Uh
    have bg:=sS hT (agg:=q.isAgg) (size:=q.size) (by rw[ed]; exact Ui.1) (by rw[gU]; exact Ui.2) hl
    refine eV hh hn a3 (v:=.bh m.size nm 0 none none) (a:=.bh q.size nm (l'.length+ys.length) 0 (l'.length+ys.length) none) ?_ (abs (fun _ h=>h) (aD.mono (aD.pure _) (fun _ h=>by simp at h)) ?_) h
    ·right
     simp only[R]
     have hv:=eW hh hn (o:=o')
     rw[a1,a2,fV]at hv
     simp only[aB.len,hlen]at hv
     exact⟨_,hv,by rw[gU]⟩
    ·simp only
     rw[if_pos ⟨by rw[←hlen,←fV]; exact hc,by rw[←hlen,←fV,Hv]; exact rz,by rw[←hlen,←fV]; exact gZ,bg⟩]
     rfl
   ·rw[hb]at pq; simp at pq
 ·rename_i esz n c rg cap _
  have ha:=hs.live rfl
  split at h
  case h_2=>simp[Tr.run]at h
  rename_i o ho
  obtain⟨ao,db,dJ⟩:=hh.obj ho
  split at h
  case h_2=>simp[Tr.run]at h
  rename_i hc
  simp only[Bool.and_eq_true,Bool.not_eq_true',decide_eq_true_eq]at hc
  simp only[R]at ha
  obtain⟨aq,hv,ha⟩:=ha
  have cf:=hv.arr hh ho hc.1.1
  split at h
  ·-- the whole of a growing array
   simp only at ha
   subst ha
   split at h
   ·rename_i cl0
    have:ys=[]:=by
     have:=fV
     cases ys with
     |nil=>rfl
     |cons=>simp[Src.len]at this
    subst this
    simp only[List.isEmpty_nil]at abs
    exact ar hh hs (abs (fun _ h=>h) (aD.mono (aD.pure _) (fun _ h=>by simp at h)) rfl) h
   ·rename_i dA
    split at h
    case h_2=>simp[Tr.run]at h
    rename_i o' Ql xG
    obtain⟨hg,h⟩:=ba h
    simp only[rK,Bool.and_eq_true,decide_eq_true_eq]at hg
    have hj:=yY xG
    obtain⟨es,rfl,wT⟩:=dJ.Ef hj
    obtain⟨a1,a2,a3⟩:=vw hT dJ wI xG
    rw[Ql]at db
    cases he:ys.isEmpty with
    |true=>
     rw[he]at abs
     have Uj:ys=[]:=by simpa using he
     subst Uj
     have Uh:yc=true:=by
      cases y with
      |me l cl=>
       exfalso
       have:=fV
       simp only[Src.len,List.length_nil]at this
       have xf:l=[]:=by simpa using this
       subst xf
       exact dA _ rfl
      |zU t l=>exact wI.2
     subst Uh
     simp only[Bool.and_true,List.append_nil]at a3
     obtain⟨Qk,Pa⟩:=hh.SC ho (o':=o') (by omega) (fun e=>by omega) a3
     rw[ie db]at Pa
     have bL:=(List.getElem?_eq_some_iff.1 ho).1
     have e1:aP H [(n,o')]=H.set n (some o'):=by simp[aP,bM]; omega
     refine⟨_,_,_,⟨.bh esz n aq 0 aq none,[]⟩,abs (fun _ h=>List.mem_cons_of_mem _ h) (aD.mono (aD.pure _) (fun _ h=>by simp at h)) rfl,⟨?_,by rw[e1]; exact Pa,by rw[e1]; exact Qk,fun q h=>by simp at h,fun k hk hl=>?_,by rw[e1]; simp,fun k hk CP=>by
      simp at CP
      subst CP
      simp only[recAt,ho,n8 hj,Bool.false_eq_true]at hk⟩,h⟩
     ·rw[e1]
      right
      simp only[R]
      refine⟨aq,⟨o',by rw[List.getElem?_set_self bL],by omega,fun _=>?_⟩,rfl⟩
      rw[a2,cf,fV]; rfl
     ·rw[e1]; simp at hk; rw[List.getElem?_set_ne (Ne.symm hk)]
    |false=>
     rw[he]at abs
     have QS:0<ys.length:=by cases ys with
      |nil=>simp at he
      |cons=>simp
     refine ke hh ho (o':=o') (by omega) (fun e=>by omega) a3 (v:=.bh esz n (o.cur+1) none none) (a:=.bh esz n (aq+ys.length) 0 (aq+ys.length) none) ?_
      (abs (fun _ h=>List.mem_cons_of_mem _ h) (rd2:=n::rd) (aD.mono (aD.bind (aD.arr db (by omega)) (rd':=[]) (b:=(⟨.bh esz n (aq+ys.length) 0 (aq+ys.length) none,[(n,.arr true (o.flags.2.1&&yc) o.flags.2.2 (es++ys))]⟩:dk)) ?_) (fun k hk=>by simp at hk; simp[hk])) rfl) h (n8 hj)
     ·right
      simp only[R]
      have bL:=(List.getElem?_eq_some_iff.1 ho).1
      refine⟨_,⟨o',by rw[List.getElem?_set_self bL],by omega,fun _=>?_⟩,rfl⟩
      rw[a2,cf,fV]
     ·simp only
      rw[if_neg (by rw[hc.1.2]; simp only[Bool.false_eq_true,false_or,not_or]; exact⟨by omega,by rw[gU]; simp[hc.2]⟩),if_neg (by simp only[Option.getD_none]; omega),
       if_pos ⟨by rw[cf,←fV,Hv]; exact hg.1,by rw[cf,←fV]; exact hg.2⟩]
      simp only[and_self,if_true]
      exact aD.pure _
  ·-- of an array of fixed room
   rename_i k
   simp only at ha
   subst ha
   rcases gQ wI h with ⟨he,h⟩|⟨he,h⟩
   ·rw[he]at abs
    exact ar hh hs (abs (fun _ h=>h) (aD.mono (aD.pure _) (fun _ h=>by simp at h)) rfl) h
   ·rw[he]at abs
    rcases fF h with ⟨_,h⟩|⟨hk,h⟩
    ·simp[Tr.run]at h
    simp only[decide_eq_false_iff_not]at hk
    split at h
    case h_2=>simp[Tr.run]at h
    rename_i o' hoa xG
    obtain⟨hg,h⟩:=ba h
    simp only[rK,Bool.and_eq_true,decide_eq_true_eq]at hg
    have hj:=yY xG
    obtain⟨es,rfl,wT⟩:=dJ.Ef hj
    obtain⟨a1,a2,a3⟩:=vw hT dJ wI xG
    rw[hc.1.2]at a3
    refine eV hh hn a3 (v:=.bh esz nm 0 none none) (a:=.bh esz nm (aq+ys.length) 0 (aq+ys.length) none) ?_
     (abs (fun _ h=>List.mem_cons_of_mem _ h) (rd2:=n::rd) (aD.mono (aD.bind (aD.arr db (by omega)) (rd':=[]) (b:=(⟨.bh esz nm (aq+ys.length) 0 (aq+ys.length) none,[(nm,.arr true (o.flags.2.1&&yc) false (es++ys))]⟩:dk)) ?_) (fun k hk=>by simp at hk; simp[hk])) rfl) h
    ·right
     simp only[R]
     have hv:=eW hh hn (o:=o')
     rw[a1,a2,fV,←cf]at hv
     exact⟨_,hv,rfl⟩
    ·simp only
     rw[if_neg (by rw[hc.1.2]; simp only[Bool.false_eq_true,false_or,not_or]; exact⟨by omega,by rw[gU]; simp[hc.2]⟩),if_neg (by simp only[Option.getD_some]; omega),
      if_pos ⟨by rw[cf,←fV,Hv]; exact hg.1,by rw[cf,←fV]; exact hg.2⟩]
     rw[if_pos (Mk hT dJ ed gU hoa)]
     simp only[List.drop_zero]
     rw[List.take_of_length_le (by omega)]
     exact aD.pure _
  ·-- into the room that there is
   rename_i k off len _
   simp only at ha
   subst ha
   split at h
   case h_2=>simp[Tr.run]at h
   rename_i o' Ei
   obtain⟨hg,h⟩:=ba h
   simp only[Bool.and_eq_true,decide_eq_true_eq]at hg
   obtain⟨hj,a1,a2,es,e0,a3⟩:=vz hT dJ wI (by omega) Ei
   obtain⟨es',e1,wT⟩:=dJ.Ef hj
   rw[e1]at e0
   simp only[aJ.arr.injEq,true_and]at e0
   subst e0
   subst e1
   cases he:ys.isEmpty with
   |true=>
    rw[he]at abs
    have Uj:ys=[]:=by simpa using he
    subst Uj
    obtain rfl:=A3 wI Ei
    simp only[Bool.and_true,bz]at a3
    refine yZ hh ho (by omega) (fun _=>a2) db a3 (v:=.bh esz n c (some (off,len+y.len)) (some k)) (a:=.bh esz n aq off len (some k)) ?_
     (abs (fun _ h=>List.mem_cons_of_mem _ h) (aD.mono (aD.pure _) (fun _ h=>by simp at h)) rfl) h hj
    right
    simp only[R]
    have bL:=(List.getElem?_eq_some_iff.1 ho).1
    refine⟨aq,⟨o',by rw[List.getElem?_set_self bL],by rw[a1]; exact Nat.le_of_eq (Nat.eq_of_beq_eq_true hc.1.1),fun _=>by rw[a2,cf]⟩,by rw[fV]; rfl⟩
   |false=>
    rw[he]at abs
    refine ke hh ho (o':=o') (by omega) (fun _=>a2) a3 (v:=.bh esz n c (some (off,len+y.len)) (some k)) (a:=.bh esz n aq off (len+ys.length) (some k)) ?_
     (abs (fun _ h=>List.mem_cons_of_mem _ h) (rd2:=n::rd) (aD.mono (aD.bind (aD.arr db (by omega)) (rd':=[]) (b:=(⟨.bh esz n aq off (len+ys.length) (some k),[(n,.arr o.flags.1 (o.flags.2.1&&yc) o.flags.2.2 (bz es' (off+len) ys))]⟩:dk)) ?_) (fun k hk=>by simp at hk; simp[hk])) rfl) h (n8 hj)
    ·right
     simp only[R]
     have bL:=(List.getElem?_eq_some_iff.1 ho).1
     refine⟨aq,⟨o',by rw[List.getElem?_set_self bL],by rw[a1]; exact Nat.le_of_eq (Nat.eq_of_beq_eq_true hc.1.1),fun _=>by rw[a2,cf]⟩,by rw[fV]⟩
    ·simp only
     rw[if_neg (by rw[hc.1.2]; simp only[Bool.false_eq_true,false_or,not_or]; exact⟨by omega,by rw[gU]; simp[hc.2]⟩),if_pos (by simp only[Option.getD_some]; omega),if_pos (by omega)]
     exact aD.pure _
  ·simp[Tr.run]at h
 ·simp[Tr.run]at h
def y6(q:bu)(d:AV)(ys:List AV)(yc:Bool):RM dk:=
 match decide (0<q.size)&&ys.all (aC q.isAgg q.size) with
  |false=>RM.fail
  |true=>
   match d with
   |.bh esz n aq off len _=>(match (ys.take len).isEmpty with
    |true=>pure ⟨.lit (.int .i64 0),[]⟩
    |false=>do
     let (g,c,f,es) ←RM.arr n aq
     if esz=q.size∧f=false∧off+len≤es.length∧0<aq then
      pure ⟨.lit (.int .i64 (ys.take len).length),[(n,.arr g (c&&yc) f (bz es off (ys.take len)))]⟩
     else RM.fail)
   |.lit (.slice none 0 0)=>pure ⟨.lit (.int .i64 0),[]⟩
   |_=>RM.fail
theorem Ml{P:Program}{t:TypeId}{q:bu}(h:aH P t=some q)(a b:AV):xy P t a b=(fG b >>= fun p=>y6 q a p.1 p.2):=by
 unfold xy
 rw[h]
 rfl
theorem Mn[ab](hT:T.Ok)(hQ:Q.Ok)(hh:RH T H hp){t:TypeId}{d x:SV T.den}{a b:AV}(hd:RV T H d a)(hx:RV T H x b)
  (h:(LZ Q H t d x K).run=some r):iX T H hp (xy Q.P t a b) K r:=by
 unfold LZ at h
 split at h
 case h_2=>simp[Tr.run]at h
 rename_i m hm hs
 have hs:=hQ.O3 hs
 obtain⟨q,hG,ed,gU,Hv,JU⟩:=hQ.elem hm
 obtain⟨y,rd,ys,yc,yX,wI,h⟩:=HV hQ hh (q:=q) hx h
 have yX:aD hp (fG b) (ys,yc) rd:=by
  simp_all[uy]
 split at h
 case h_2=>simp[Tr.run]at h
 rename_i esz n c rg cap bI _
 simp only[Bool.and_eq_true,decide_eq_true_eq]at bI
 split at h
 case h_2=>simp[Tr.run]at h
 rename_i off len o hr ho
 split at h
 case h_2=>simp[Tr.run]at h
 rename_i o' hc Ei
 simp only[Bool.and_eq_true,Bool.not_eq_true',decide_eq_true_eq]at hc
 have ha:=hd.live rfl
 obtain⟨aq,rfl,hv,cf⟩:=qY hh ha hr ho
 have cf:=cf hc.1.1
 obtain⟨ao,db,dJ⟩:=hh.obj ho
 have fV:=wI.len
 have bg:=wI.yD hT ed gU bI.1
 have lN:(decide (0<q.size)&&ys.all (aC q.isAgg q.size))=true:=by
  rw[bg,gU]; simpa using bI.2
 have abs:∀ {rest:RM dk} {e:dk} {rd2:List Nat},(∀ n,n∈rd→n∈rd2)→aD hp rest e rd2 →
   y6 q (.bh esz n aq off len cap) ys yc=rest→aD hp (xy Q.P t (.bh esz n aq off len cap) b) e rd2:=by
  intro rest e rd2 h1 h2 h3
  rw[Ml hG]
  refine⟨?_,fun k hk=>?_⟩
  ·rw[RM.run_bind,yX.1]
   simp only[Option.bind_some]
   rw[h3]
   exact h2.1
  ·rw[RM.eO,yX.1]at hk
   simp only[List.mem_append]at hk
   rw[h3]at hk
   exact hk.elim (fun h=>h1 k (yX.2 k h)) (h2.2 k)
 unfold y6 at abs
 rw[lN]at abs
 obtain⟨hg,h⟩:=ba h
 simp only[Bool.and_eq_true,decide_eq_true_eq]at hg
 cases he:ys.isEmpty with
 |true=>
  have Uj:ys=[]:=by simpa using he
  subst Uj
  obtain⟨hj,a1,a2,es,e0,a3⟩:=vz hT dJ wI (by omega) Ei
  obtain⟨es',e1,wT⟩:=dJ.Ef hj
  rw[e1]at e0
  simp only[aJ.arr.injEq,true_and]at e0
  subst e0
  subst e1
  obtain rfl:=A3 wI Ei
  simp only[Bool.and_true,bz]at a3
  have VL:y.len=0:=by rw[fV]; rfl
  rw[VL]at h
  exact yZ hh ho (by omega) (fun _=>a2) db a3 (bk (.int .i64 0)) (abs (fun _ h=>List.mem_cons_of_mem _ h) (aD.mono (aD.pure _) (fun _ h=>by simp at h)) (by simp only[List.take_nil,List.isEmpty_nil])) h hj
 |false=>
  have QS:0<ys.length:=by cases ys with
   |nil=>simp at he
   |cons=>simp
  have Xj:ys.take len=ys:=List.take_of_length_le (by omega)
  obtain⟨hj,a1,a2,es,e0,a3⟩:=vz hT dJ wI (by omega) Ei
  obtain⟨es',e1,wT⟩:=dJ.Ef hj
  rw[e1]at e0
  simp only[aJ.arr.injEq,true_and]at e0
  subst e0
  subst e1
  have heq:∀ (f t:RM dk),(match (ys.take len).isEmpty with|true=>t|false=>f)=f:=by
   intro f t
   rw[Xj,he]
  refine ke hh ho (o':=o') (by omega) (fun _=>a2) a3 (v:=.lit (.int .i64 y.len)) (a:=.lit (.int .i64 y.len)) (bk _)
   (abs (fun _ h=>List.mem_cons_of_mem _ h) (rd2:=n::rd) (aD.mono (aD.bind (aD.arr db (by omega)) (rd':=[]) (b:=(⟨.lit (.int .i64 y.len),[(n,.arr o.flags.1 (o.flags.2.1&&yc) o.flags.2.2 (bz es' off ys))]⟩:dk)) ?_) (fun k hk=>by simp at hk; simp[hk])) (heq _ _)) h (n8 hj)
  simp only
  rw[if_pos ⟨by rw[gU]; exact hc.2,hc.1.2,by omega,by omega⟩,fV,Xj]
  exact aD.pure _
theorem Pb[ab](hQ:Q.Ok)(hh:RH T H hp){ts:Array TypeId}{type:TypeId}{x:SV T.den}{a:AV}(hx:RV T H x a)(h:(Rs Q H ts type x K).run=some r){nm:Nat}:
  iX T H hp (dr Q.P nm .len ts type [a]) K r:=by
 unfold Rs at h
 unfold dr
 simp only
 split at h
 case h_2=>simp[Tr.run]at h
 rename_i t ht
 rw[ht]
 simp only
 split at h
 ·rename_i hs
  have hs:=hQ.O3 hs
  split at h
  ·have ha:=hx.lit rfl
   subst ha
   refine ar hh (bk (.int .i64 0)) (rd:=[]) ?_ h
   simp only[hs,og]
   exact aD.pure _
  ·have ha:=hx.live rfl
   simp only[R]at ha
   subst ha
   refine ar hh (bk (.int .i64 0)) (rd:=[]) ?_ h
   simp only[hs,og]
   exact aD.pure _
  ·have ha:=hx.live rfl
   simp only[R]at ha
   obtain⟨l',rfl,hl,_⟩:=ha
   refine ar hh (a:=.lit (.int .i64 l'.length)) (by rw[hl.length]; exact bk _) (rd:=[]) ?_ h
   simp only[hs,og]
   exact aD.pure _
  ·rename_i t' l
   have ha:=hx.live rfl
   simp only[R]at ha
   rcases ha with ⟨l',rfl,hl⟩|⟨rfl,rfl⟩
   ·refine ar hh (a:=.lit (.int .i64 l'.length)) (by rw[hl.length]; exact bk _) (rd:=[]) ?_ h
    simp only[hs,og]
    exact aD.pure _
   ·refine ar hh (bk (.int .i64 0)) (rd:=[]) ?_ h
    simp only[hs,og]
    exact aD.pure _
  ·rename_i t' l c b
   have ha:=hx.live rfl
   simp only[R]at ha
   rcases ha with ⟨_,l',rfl,hl⟩|⟨_,rfl,rfl|rfl⟩
   ·refine ar hh (a:=.lit (.int .i64 l'.length)) (by rw[hl.length]; exact bk _) (rd:=[]) ?_ h
    simp only[hs,og]
    exact aD.pure _
   ·refine ar hh (bk (.int .i64 0)) (rd:=[]) ?_ h
    simp only[hs,og]
    exact aD.pure _
   ·refine ar hh (bk (.int .i64 0)) (rd:=[]) ?_ h
    simp only[hs,og]
    exact aD.pure _
  ·rename_i esz n c rg cap
   have ha:=hx.live rfl
   split at h
   case h_2=>simp[Tr.run]at h
   rename_i off len hr
   have:∃ o,H[n]?=some (some o):=by
    simp only[R]at ha
    obtain⟨_,⟨o,ho,_⟩,_⟩:=ha
    exact⟨o,ho⟩
   obtain⟨o,ho⟩:=this
   obtain⟨aq,rfl,_,_⟩:=qY hh ha hr ho
   refine ar hh (bk (.int .i64 len)) (rd:=[]) ?_ h
   simp only[hs,og]
   exact aD.pure _
  ·rename_i n c k j len cap
   have ha:=hx.live rfl
   simp only[R]at ha
   obtain⟨aq,rfl,_⟩:=ha
   refine ar hh (bk (.int .i64 len)) (rd:=[]) ?_ h
   simp only[hs,og]
   exact aD.pure _
  ·simp[Tr.run]at h
 ·simp[Tr.run]at h
 ·rename_i hs
  have hs:=hQ.O3 hs
  split at h
  ·simp[Tr.run]at h
  ·rename_i v hv
   have ha:=hx.lit rfl
   subst ha
   obtain⟨w,hw,hk⟩:=il h
   refine ar hh (bk w) (rd:=[]) ?_ hk
   split
   ·rename_i heq; injection heq with e; exact(hv e).elim
   ·rename_i heq; cases heq
   ·rename_i heq; cases heq
   ·rename_i heq; cases heq
   ·rename_i heq; cases heq
   ·rename_i heq; cases heq
   ·rename_i heq; injection heq with e; subst e; rw[hw]; exact aD.pure _
   ·rename_i h; exact(h v rfl).elim
  ·rename_i l
   have ha:=hx.live rfl
   simp only[R]at ha
   obtain⟨l',rfl,hl⟩:=ha
   split at h
   case h_2=>simp[Tr.run]at h
   rename_i n m hm
   obtain⟨q,hG,_⟩:=hQ.Eg hm
   refine ar hh (bk (.int .i64 n)) (rd:=[]) ?_ h
   simp only[hG]
   exact aD.pure _
  ·have ha:=hx.live rfl
   simp only[R]at ha
   obtain⟨aq,rfl,hl⟩:=ha
   split at h
   case h_2=>simp[Tr.run]at h
   rename_i n m hm
   obtain⟨q,hG,_⟩:=hQ.Eg hm
   refine ar hh (bk (.int .i64 n)) (rd:=[]) ?_ h
   simp only[hG]
   exact aD.pure _
  ·have ha:=hx.live rfl
   simp only[R]at ha
   obtain⟨aq,rfl,hl⟩:=ha
   split at h
   case h_2=>simp[Tr.run]at h
   rename_i n m hm
   obtain⟨q,hG,_⟩:=hQ.Eg hm
   refine ar hh (bk (.int .i64 n)) (rd:=[]) ?_ h
   simp only[hG]
   exact aD.pure _
  ·simp[Tr.run]at h
theorem HW[ab]{l:List (SV T.den)}{m:List AV}(hv:aw (RV T H) l m){c:List Value}(hc:mO l=some c):cV m=some c:=by
 revert c
 induction l generalizing m with
 |nil=>
  intro c hc
  cases m with
  |nil=>simp[mO]at hc; subst hc; rfl
  |cons=>exact hv.elim
 |cons x xs ih=>
  intro c hc
  cases m with
  |nil=>exact hv.elim
  |cons a as=>
   cases x with
   |lit v=>
    simp only[mO,Option.map_eq_some_iff]at hc
    obtain⟨c',h1,rfl⟩:=hc
    have:=RV.lit hv.1 rfl
    subst this
    simp[cV,ih hv.2 h1]
   |_=>simp[mO]at hc
theorem Ej[ab](hT:T.Ok)(hQ:Q.Ok)(hh:RH T H hp){nm:Nat}(hn:nm=H.length∨H[nm]?=some none){b:Builtin}{ts:Array TypeId}{type:TypeId}{args:List (SV T.den)}{as:List AV}
  (ha:aw (RV T H) args as) (h:(yF Q nm H b ts type args K).run=some r):iX T H hp (dr Q.P nm b ts type as) K r:=by
 unfold yF at h
 split at h
 ·split at h
  ·rename_i t xt s x ht
   match as,ha with
   |[a,b],ha=>
    simp only[dr,ht]
    exact Gu hT hQ hh hn ha.1 ha.2.1 h
  ·simp[Tr.run]at h
 ·split at h
  ·rename_i t _ d x ht
   match as,ha with
   |[a,b],ha=>
    simp only[dr,ht]
    exact Mn hT hQ hh ha.1 ha.2.1 h
  ·simp[Tr.run]at h
 ·split at h
  ·rename_i x
   match as,ha with
   |[a],ha=>exact Pb hQ hh ha.1 h
  ·simp[Tr.run]at h
 ·split at h
  ·rename_i vs mv
   obtain⟨w,hw,hk⟩:=il h
   refine ar hh (bk w) (rd:=[]) ?_ hk
   simp only[dr,HW ha mv,hw]
   exact aD.pure _
  ·simp[Tr.run]at h
 ·split at h
  ·rename_i vs mv
   obtain⟨w,hw,hk⟩:=il h
   refine ar hh (bk w) (rd:=[]) ?_ hk
   simp only[dr,HW ha mv,hw]
   exact aD.pure _
  ·simp[Tr.run]at h
 ·simp[Tr.run]at h
end
end Go.PI
end
section
/- PS, part Ia: maps. -/
namespace Go.PI
variable {T:dm}{ρ:Type}
theorem Ch(kk:KK)(a b:kk.D):rE (kk.v a) (kk.v b)=kk.beq a b:=by cases kk<;>rfl
theorem Mo{kk:KK}{v:Value}{k:kk.D}(h:kk.get v=some k):v=kk.v k∧kk.ok v=true:=by
 cases kk with
 |int q=>
  cases v<;>simp[KK.get]at h
  obtain⟨rfl,h⟩:=h
  cases h
  exact⟨rfl,by simp[KK.ok]⟩
 |str=>
  cases v<;>simp[KK.get]at h
  cases h
  exact⟨rfl,rfl⟩
 |bool=>
  cases v<;>simp[KK.get]at h
  cases h
  exact⟨rfl,rfl⟩
theorem vA{kk:KK}{α:Type}{k:kk.D}:∀ {m:List (kk.D×α)} {i:Nat},kS kk m k=none→jH (kk.v k) (m.map fun q=>kk.v q.1) i=none
 |[],i,_=>rfl
 |(k',v)::m,i,h=>by
  simp only[kS]at h
  cases hb:kk.beq k k' with
  |true=>rw[hb]at h; simp at h
  |false=>
   rw[hb]at h
   simp only[List.map_cons,jH,Ch,hb,cond_false]
   exact vA h
theorem vB{kk:KK}{α:Type}{k:kk.D}{x:α}:∀ {m:List (kk.D×α)} {i:Nat},kS kk m k=some x→∃ j,jH (kk.v k) (m.map fun q=>kk.v q.1) i=some (i+j)∧(m.map (·.2))[j]?=some x ∧
  ∀ y,(ng kk m k y).map (fun q=>kk.v q.1)=m.map (fun q=>kk.v q.1)∧(ng kk m k y).map (·.2)=(m.map (·.2)).set j y
 |[],i,h=>by simp[kS]at h
 |(k',v)::m,i,h=>by
  simp only[kS]at h
  cases hb:kk.beq k k' with
  |true=>
   simp_all[cond_true,jH,Ch,hb,ng]
  |false=>
   rw[hb]at h
   obtain⟨j,h1,h2,h3⟩:=vB (i:=i+1) h
   refine⟨j+1,?_,by simpa using h2,fun y=>?_⟩
   ·simp only[List.map_cons,jH,Ch,hb,cond_false,h1]
    congr 1; omega
   ·obtain⟨h4,h5⟩:=h3 y
    simp[ng,hb,h4,h5]
theorem Ek{kk:KK}{α:Type}{k:kk.D}{y:α}:∀ {m:List (kk.D×α)},kS kk m k=none→ng kk m k y=m++[(k,y)]
 |[],_=>rfl
 |(k',v)::m,h=>by
  simp only[kS]at h
  cases hb:kk.beq k k' with
  |true=>rw[hb]at h; simp at h
  |false=>
   rw[hb]at h
   simp only[ng,hb,cond_false,List.cons_append]
   rw[Ek h]
section
variable {H:ah T.den}{hp:ag}{K:EK T ρ}{r:ρ}{Q:gO}
theorem Ci{c:Bool}{v:SV T.den}{a:AV}{b:Bool}(h:R T H v a):R T H (B8 c v b) (xA c a b):=by
 cases c with
 |false=>exact h
 |true=>
  simp only[B8,xA,R]
  exact⟨_,rfl,h,rfl,trivial⟩
theorem Gv[ab](hT:T.Ok)(hQ:Q.Ok)(hZ:T.uh Q)(hh:RH T H hp){t:TypeId}{x ix:SV T.den}{a b:AV}(hx:RV T H x a)(hi:RV T H ix b){c:Bool}(h:(B9 Q H t x ix c K).run=some r):
  iX T H hp (tf Q.P t a b c) K r:=by
 unfold B9 at h
 split at h
 case h_2=>simp[Tr.run]at h
 rename_i kk et xj
 have KE:=hQ.map _ _ xj
 split at h
 case h_2=>simp[Tr.run]at h
 rename_i za z k RK hz
 obtain⟨m,hm,hmz⟩:=Option.bind_eq_some_iff.1 RK
 obtain⟨q,hG,_,_,_,JU⟩:=hQ.row _ _ hm
 have nE:=JU _ hmz
 have Fb:=hZ et m z za hm hmz hz
 have hi:=hi.lit rfl
 subst hi
 have RJ:(ff Q.P et).bind bR=some za:=by rw[hG]; exact nE
 unfold tf
 simp only[KE,RJ]
 split at h
 ·rename_i k' hk
  obtain⟨rfl,bI⟩:=Mo hk
  have hx:=hx.lit rfl
  subst hx
  simp only[bI]
  exact ar hh (.inr (Ci (hT.up _ _ _ H Fb))) (aD.pure _) h
 ·rename_i k' n hk
  obtain⟨rfl,bI⟩:=Mo hk
  have hx:=hx.live rfl
  simp only[R]at hx
  obtain⟨rfl,_⟩:=hx
  split at h
  case h_2=>simp[Tr.run]at h
  rename_i rj t' mp ho
  split at h
  case isFalse=>simp[Tr.run]at h
  rename_i hc
  obtain⟨rfl,rfl⟩:=hc
  simp only[ua]at h
  obtain⟨ao,db,dJ⟩:=hh.obj ho
  obtain⟨vs,rfl,mv⟩:=dJ
  simp only[bI]
  cases hg:kS rj mp k' with
  |none=>
   rw[hg]at h
   simp only[Option.getD_none,Option.isSome_none]at h
   refine ar hh (.inr (Ci (hT.up _ _ _ H Fb))) (rd:=[n]) (aD.get db ?_) h
   simp only[if_true,vA hg]
   exact aD.pure _
  |some y=>
   rw[hg]at h
   simp only[Option.getD_some,Option.isSome_some]at h
   obtain⟨j,h1,h2,_⟩:=vB (i:=0) hg
   obtain⟨v,hv,hr⟩:=aw.get mv h2
   refine ar hh (.inr (Ci (hT.up _ _ _ H hr))) (rd:=[n]) (aD.get db ?_) h
   simp only[if_true,h1,Nat.zero_add,hv]
   exact aD.pure _
 ·simp[Tr.run]at h
theorem z4[ab](hT:T.Ok)(hQ:Q.Ok)(hh:RH T H hp){t:TypeId}{x ix v:SV T.den}{a b d:AV}(hx:RV T H x a)(hi:RV T H ix b)(hv:RV T H v d)(h:(sz Q H t x ix v K).run=some r):
  iX T H hp (lH Q.P t a b d) K r:=by
 unfold sz at h
 split at h
 case h_2=>simp[Tr.run]at h
 rename_i kk et xj
 have KE:=hQ.map _ _ xj
 split at h
 case h_2=>simp[Tr.run]at h
 rename_i k n
 split at h
 case h_2=>simp[Tr.run]at h
 rename_i k' rj t' mp hk ho
 split at h
 case h_2=>simp[Tr.run]at h
 rename_i y hd hy
 split at h
 case isFalse=>simp[Tr.run]at h
 rename_i hc
 obtain⟨rfl,NB⟩:=hc
 obtain⟨rfl,bI⟩:=Mo hk
 have hi:=hi.lit rfl
 subst hi
 have hx:=hx.live rfl
 simp only[R]at hx
 obtain⟨rfl,_⟩:=hx
 have Fb:=hT.dn _ _ _ _ H hy (hv.live hd)
 obtain⟨ao,db,dJ⟩:=hh.obj ho
 obtain⟨vs,rfl,mv⟩:=dJ
 unfold lH
 simp only[KE,bI]
 simp only[ua]at h
 cases hg:kS rj mp k' with
 |none=>
  have e:=Ek (y:=y) hg
  refine ke hh ho (o':=.kz rj t' (ng rj mp k' y)) (Nat.le_refl _) (fun _=>rfl) (a':=.gw (.map rj ((mp.map fun q=>rj.v q.1)++[rj.v k'])) (vs++[d])) ?_ (bk undef) (rd:=[n]) (aD.get db ?_) h
  ·rw[e]
   refine⟨vs++[d],by simp,?_⟩
   rw[List.map_append]
   exact mv.append (show aw (T.rp t') [y] [d] from ⟨Fb,trivial⟩)
  ·simp only[if_true,vA hg]
   exact aD.pure _
 |some x0=>
  obtain⟨j,h1,h2,h3⟩:=vB (i:=0) hg
  obtain⟨h4,h5⟩:=h3 y
  refine ke hh ho (o':=.kz rj t' (ng rj mp k' y)) (Nat.le_refl _) (fun _=>rfl) (a':=.gw (.map rj (mp.map fun q=>rj.v q.1)) (vs.set j d)) ?_ (bk undef) (rd:=[n]) (aD.get db ?_) h
  ·exact⟨_,by rw[h4],by rw[h5]; exact mv.set j Fb⟩
  ·simp only[if_true,h1,Nat.zero_add]
   exact aD.pure _
theorem El[ab](hQ:Q.Ok)(hh:RH T H hp){nm:Nat}(hn:nm=H.length∨H[nm]?=some none){t:TypeId}{x:Option (SV T.den)}{a:Option AV}(hx:Mg T H x a)(h:(yG Q nm t x K).run=some r):
  iX T H hp (.eZ (pA Q.P nm t a)) K r:=by
 unfold yG at h
 split at h
 case h_2=>simp[Tr.run]at h
 rename_i kk et xj
 have KE:=hQ.map _ _ xj
 obtain⟨n,VI,h⟩:=im hx h
 refine eV hh hn (o:=.kz kk et []) (a':=.gw (.map kk []) []) ⟨[],rfl,trivial⟩ (a:=.mp false nm) (rd:=[]) (.inr ?_) ?_ h
 ·simp only[R]
  refine⟨trivial,.kz kk et [],?_⟩
  unfold bM
  rcases hn with rfl|hn
  ·simp
  ·have bL:=(List.getElem?_eq_some_iff.1 hn).1
   rw[if_neg (by omega),List.getElem?_set_self bL]
 ·simp only[pA,KE,VI]
  exact aD.eZ rfl
end
end Go.PI
end
section
/- PS, part J: every operation. -/
namespace Go.PI
variable {T:dm}{ρ:Type}
section
variable {H:ah T.den}{hp:ag}{K:EK T ρ}{r:ρ}{Q:gO}
theorem jC{ev:Operand→SV T.den}{Fc:Operand→AV}(bG:∀ x,RV T H (ev x) (Fc x)):∀ (l:List Operand),aw (RV T H) (l.map ev) (l.map Fc)
 |[]=>trivial
 |x::xs=>⟨bG x,jC bG xs⟩
theorem iZ[ab]:∀ {l:List (SV T.den)} {m:List AV},aw (RV T H) l m→l.any bQ=false→RL T H l m
 |[],[],_,_=>by simp[RL]
 |x::xs,y::ys,h,hd=>by
  simp only[List.any_cons,Bool.or_eq_false_iff]at hd
  simp only[RL]
  exact⟨h.1.live hd.1,iZ h.2 hd.2⟩
theorem y7[ab]{ev:Operand→SV T.den}{Fc:Operand→AV}(bG:∀ x,RV T H (ev x) (Fc x)):∀ (l:List (Nat×Operand)),((l.map fun p=>(p.1,ev p.2)).any fun p=>bQ p.2)=false →
  RP T H (l.map fun p=>(p.1,ev p.2)) (l.map fun p=>(p.1,Fc p.2))
 |[],_=>trivial
 |x::xs,hd=>by
  simp only[List.map_cons,List.any_cons,Bool.or_eq_false_iff]at hd
  exact⟨⟨rfl,(bG _).live hd.1⟩,y7 bG xs hd.2⟩
theorem Gw[ab](hT:T.Ok)(hQ:Q.Ok)(hZ:T.uh Q)(hh:RH T H hp){nm:Nat}(hn:nm=H.length∨H[nm]?=some none){ev:Operand→SV T.den}{Fc:Operand→AV}(bG:∀ x,RV T H (ev x) (Fc x)){o:Oper}
  (h:(OT Q nm H ev o K).run=some r):iX T H hp (aK Q.P nm Fc o) K r:=by
 obtain⟨dst,op,type,pos,after,guard⟩:=o
 unfold OT at h
 cases op with
 |move x=>exact ar hh (bG x) (aD.ret _) h
 |assign x=>exact ar hh (bG x) (aD.ret _) h
 |pick c a b=>
  simp only at h
  split at h
  ·rename_i t ht
   have hc:=(bG c).lit ht
   obtain⟨v,hv,hk⟩:=O7 (bG a) (bG b) h
   refine ar hh hv (rd:=[]) ?_ hk
   simp only[aK,hc]
   exact aD.pure _
  ·simp[Tr.run]at h
 |alloc t=>
  simp only at h
  split at h
  case h_2=>simp[Tr.run]at h
  rename_i m hm
  split at h
  case h_2=>simp[Tr.run]at h
  rename_i z hz
  split at h
  case isFalse=>simp[Tr.run]at h
  rename_i hs
  exact Jd hQ hh hn hm hz hs h
 |box t x=>
  simp only at h
  split at h
  case isFalse=>simp[Tr.run]at h
  rename_i hc
  have hv:=(bG x).live hc.2.2
  have kM:=hv.cells
  refine eV hh hn (o:=.arr false (av (bK (ev x))) false 0 [ev x]) (a':=.arr false (aZ (cellsOf (Fc x))) false [Fc x]) ⟨_,by rw[RL.closed kM],by simp only[RL]; exact⟨hv,trivial⟩,fun nu=>by rw[zV]at nu; simp only[av,nu,Bool.and_self]⟩
   (a:=.ref nm 1 0 0) (rd:=[]) ?_ ?_ h
  ·right
   simp only[R]
   exact⟨1,rfl,eW hh hn (o:=.arr false (av (bK (ev x))) false 0 [ev x])⟩
  ·simp only[aK]
   rw[if_pos ⟨by rw[←kM.D1]; exact hc.1,by rw[←kM.length]; exact hc.2.1⟩]
   exact aD.pure _
 |build t parts=>
  simp only at h
  split at h
  ·simp[Tr.run]at h
  rename_i hd
  simp only[Bool.not_eq_true]at hd
  obtain⟨v,hv,hk⟩:=mn h
  obtain⟨a,ha,hr⟩:=Jc hQ (y7 bG _ hd) hv
  refine ar hh (.inr hr) (rd:=[]) ?_ hk
  simp only[aK,ha]
  exact aD.pure _
 |buildSlice t len parts=>
  simp only at h
  split at h
  ·simp[Tr.run]at h
  rename_i hd
  simp only[Bool.not_eq_true]at hd
  exact z2 hQ hh hn (y7 bG _ hd) h
 |load t a=>
  simp only at h
  split at h
  case h_2=>simp[Tr.run]at h
  rename_i m hm
  obtain⟨q,h1,h2,h3,_⟩:=hQ.row _ _ hm
  have:∃ v c rd,aD hp (kU Q.P t (Fc a)) c rd∧R T H v c∧(K v [] rd).run=some r:=Ee hT h1 h2 h3 hh (bG a) h
  obtain⟨v,c,rd,hy,hr,hk⟩:=this
  refine ar hh (.inr hr) (rd:=rd) ?_ hk
  simp only[aK]
  exact aD.mono (aD.bind hy (aD.pure _)) (fun _ h=>by simpa using h)
 |store t a x=>
  simp only at h
  split at h
  case h_2=>simp[Tr.run]at h
  rename_i m hm
  obtain⟨q,h1,h2,h3,_⟩:=hQ.row _ _ hm
  exact Ja hT h1 h3 hh (bG a) (bG x) h
 |nilCheck x=>
  simp only at h
  have hx:=bG x
  split at h
  ·rename_i n c i j he
   rw[he]at hx
   have gz:=hx.live rfl
   simp only[R]at gz
   obtain⟨aq,e,hv⟩:=gz
   refine ar hh (a:=.ref n aq i j) (.inr (by simp only[R]; exact⟨aq,rfl,hv⟩)) (rd:=[]) ?_ h
   simp only[aK,e]; exact aD.pure _
  ·rename_i e0 j he
   rw[he]at hx
   have gz:=hx.live rfl
   have jS:=gz
   simp only[R]at gz
   obtain⟨e',e,hv⟩:=gz
   refine ar hh (a:=.bj e' j) (.inr (by rw[←e]; exact jS)) (rd:=[]) ?_ h
   simp only[aK,e]; exact aD.pure _
  ·rename_i t y he
   rw[he]at hx
   have gz:=hx.live rfl
   have jS:=gz
   simp only[R]at gz
   obtain⟨e',e,hv⟩:=gz
   refine ar hh (a:=.fW t e') (.inr (by rw[←e]; exact jS)) (rd:=[]) ?_ h
   simp only[aK,e]; exact aD.pure _
  ·rename_i f a c he
   rw[he]at hx
   have gz:=hx.live rfl
   have jS:=gz
   simp only[R]at gz
   obtain⟨f',c',e,hv⟩:=gz
   refine ar hh (a:=.jd (.func f) f' c') (.inr (by rw[←e]; exact jS)) (rd:=[]) ?_ h
   simp only[aK,e]; exact aD.pure _
  ·rename_i f a c he
   have e:=hx.lit he
   refine ar hh (bk (.func (.func f) a c)) (rd:=[]) ?_ h
   simp only[aK,e]; exact aD.pure _
  ·simp[Tr.run]at h
 |binOp op t x y u=>
  simp only at h
  obtain⟨v,hv,hk⟩:=O6 hQ (bG x) (bG y) h
  refine ar hh (bk v) (rd:=[]) ?_ hk
  simp only[aK,hv]
  exact aD.pure _
 |unOp op t x=>
  simp only at h
  split at h
  ·rename_i a ha
   have hx:=(bG x).lit ha
   obtain⟨v,hv,hk⟩:=il h
   refine ar hh (bk v) (rd:=[]) ?_ hk
   simp only[aK,hx,hv]
   exact aD.pure _
  ·simp[Tr.run]at h
 |convert s d x=>
  simp only at h
  split at h
  ·rename_i a ha
   have hx:=(bG x).lit ha
   obtain⟨v,hv,hk⟩:=il h
   refine ar hh (bk v) (rd:=[]) ?_ hk
   simp only[aK,hx,hv]
   exact aD.pure _
  ·simp[Tr.run]at h
 |makeInterface t x=>
  simp only at h
  split at h
  ·simp[Tr.run]at h
  rename_i hc
  simp only[Bool.or_eq_true,not_or,Bool.not_eq_true]at hc
  have hx:=(bG x).live hc.2
  refine ar hh (a:=.fW t (Fc x)) (.inr (by simp only[R]; exact⟨_,rfl,hx⟩)) (rd:=[]) ?_ h
  simp only[aK]
  rw[if_neg (by simp[hc.1.1,hc.1.2])]
  exact aD.pure _
 |makeFunc fn first captured=>
  simp only at h
  split at h
  ·rename_i hc
   refine ar hh (bk (.func fn #[] #[])) (rd:=[]) ?_ h
   simp only[aK,hc,if_true]
   exact aD.pure _
  ·rename_i hc
   split at h
   ·simp[Tr.run]at h
   rename_i hd
   simp only[Bool.or_eq_true,not_or,Bool.not_eq_true]at hd
   have h1:=iZ (jC bG first.toList) hd.1
   have h2:=iZ (jC bG captured.toList) hd.2
   refine ar hh (a:=.jd fn (first.toList.map Fc) (captured.toList.map Fc)) (.inr (by simp only[R]; exact⟨_,_,rfl,h1,h2⟩)) (rd:=[]) ?_ h
   simp only[aK]
   rw[if_neg hc]
   exact aD.pure _
 |makeSlice t l c=>
  simp only at h
  split at h
  ·rename_i hs
   have e:l=c:=by
    unfold LW at hs
    split at hs
    ·rw[Nat.eq_of_beq_eq_true hs]
    ·simp at hs
   subst e
   exact zZ hQ hZ hh hn (bG l) h
  ·exact zY hQ hZ hh hn (bG l) (bG c) h
 |slice t x lo hi mx=>
  simp only at h
  have ho:∀ o:Option Operand,Mg T H (o.map ev) (o.map Fc):=by
   intro o
   cases o with
   |none=>trivial
   |some o=>exact bG o
  obtain⟨v,b,hb,hv,hk⟩:=O9 hT hQ hh (bG x) (ho lo) (ho hi) (ho mx) h
  refine ar hh hv (rd:=[]) ?_ hk
  simp only[aK,hb]
  exact aD.pure _
 |sliceToArrayPointer t x=>
  simp only at h
  have hx:=bG x
  unfold LX at h
  split at h
  case h_2=>simp[Tr.run]at h
  rename_i len m n c i j l cp hf he
  obtain⟨q,hG,ed,gU⟩:=hQ.Eg hf
  split at h
  case h_2=>simp[Tr.run]at h
  rename_i hle
  simp only[decide_eq_true_eq]at hle
  rw[he]at hx
  have gz:=hx.live rfl
  simp only[R]at gz
  obtain⟨aq,e,hv⟩:=gz
  refine ar hh (a:=.ref n aq i j) (.inr (by simp only[R]; exact⟨aq,rfl,hv⟩)) (rd:=[]) ?_ h
  simp only[aK,e,hG]
  rw[if_pos hle]
  exact aD.pure _
 |fieldAddr s x f=>
  simp only at h
  have hx:=bG x
  split at h
  ·rename_i off m n c i j hf he
   obtain⟨q,hq,_⟩:=hQ.O2 hf
   rw[he]at hx
   have gz:=hx.live rfl
   simp only[R]at gz
   obtain⟨aq,e,hv⟩:=gz
   refine ar hh (a:=.ref n aq i (j+off)) (.inr (by simp only[R]; exact⟨aq,rfl,hv⟩)) (rd:=[]) ?_ h
   simp only[aK,e,hq]; exact aD.pure _
  ·rename_i off m e0 j hf he
   obtain⟨q,hq,_⟩:=hQ.O2 hf
   rw[he]at hx
   have gz:=hx.live rfl
   simp only[R]at gz
   obtain⟨e',e,hv⟩:=gz
   refine ar hh (a:=.bj e' (j+off)) (.inr (by simp only[R]; exact⟨e',rfl,hv.1,hv.2⟩)) (rd:=[]) ?_ h
   simp only[aK,e,hq]; exact aD.pure _
  ·rename_i off m v aY len i hf he
   obtain⟨q,hq,_⟩:=hQ.O2 hf
   rw[he]at hx
   have gz:=hx.live rfl
   simp only[R]at gz
   obtain⟨a0,h1,h2,h3⟩:=gz
   rcases h3 with ⟨n,aq,k,j,rfl,e⟩|⟨e',j,rfl,e⟩
   ·refine ar hh (a:=.ref n aq k (j+i*aY+off)) (.inr (by simp only[R]; exact⟨.ref n aq k (j+off),qX h1 (.inl ⟨_,_,_,_,rfl,rfl⟩),h2,.inl ⟨_,_,_,_,rfl,by rw[Nat.add_right_comm]⟩⟩)) (rd:=[]) ?_ h
    simp only[aK,e,hq]; exact aD.pure _
   ·refine ar hh (a:=.bj e' (j+i*aY+off)) (.inr (by simp only[R]; exact⟨.bj e' (j+off),qX h1 (.inr ⟨_,_,rfl,rfl⟩),h2,.inr ⟨_,_,rfl,by rw[Nat.add_right_comm]⟩⟩)) (rd:=[]) ?_ h
    simp only[aK,e,hq]; exact aD.pure _
  ·simp[Tr.run]at h
 |field s x f=>
  simp only at h
  have hx:=bG x
  split at h
  ·rename_i off m l hf he
   obtain⟨q,hq,ed,gU⟩:=hQ.O2 hf
   rw[he]at hx
   have gz:=hx.live rfl
   obtain⟨v,hv,hk⟩:=mn h
   rw[←ed,←gU]at hv
   obtain⟨c,hc,hr⟩:=R.part gz hv
   simp only[R]at gz
   obtain⟨l',e,_⟩:=gz
   refine ar hh (.inr hr) (rd:=[]) ?_ hk
   rw[e]at hc
   simp only[aK,e,hq,hc]; exact aD.pure _
  ·simp[Tr.run]at h
 |indexAddr t x ix=>
  simp only at h
  obtain⟨v,b,hb,hv,hk⟩:=z1 hT hQ hh (bG x) (bG ix) h
  refine ar hh hv (rd:=[]) ?_ hk
  simp only[aK,hb]
  exact aD.pure _
 |index t x ix=>
  simp only at h
  obtain⟨v,b,hb,hv,hk⟩:=Je hQ (bG x) (bG ix) h
  refine ar hh hv (rd:=[]) ?_ hk
  simp only[aK,hb]
  exact aD.pure _
 |makeMap t x=>
  simp only at h
  have ho:Mg T H (x.map ev) (x.map Fc):=by
   cases x with
   |none=>trivial
   |some o=>exact bG o
  have:=El (T:=T) hQ hh hn ho h
  exact this
 |lookup t x ix c=>
  simp only at h
  exact Gv hT hQ hZ hh (bG x) (bG ix) h
 |mapUpdate t x k v=>
  simp only at h
  exact z4 hT hQ hh (bG x) (bG k) (bG v) h
 |extract t ix=>
  simp only at h
  have hx:=bG t
  split at h
  ·rename_i l he
   rw[he]at hx
   have gz:=hx.live rfl
   simp only[R]at gz
   obtain⟨l',e,hl⟩:=gz
   obtain⟨v,hv,hk⟩:=mn h
   obtain⟨b,hb,hr⟩:=aw.get (aR.1 hl) hv
   refine ar hh (.inr hr) (rd:=[]) ?_ hk
   simp only[aK,e,hb]; exact aD.pure _
  ·simp[Tr.run]at h
 |call c=>
  obtain⟨callee,args,mC⟩:=c
  cases callee with
  |builtin b=>exact Ej hT hQ hh hn (jC bG args.toList) h
  |_=>simp[Tr.run]at h
 |_=>simp[Tr.run]at h
end
end Go.PI
end
section
/- PS, part K: by value, frozen, and calls of which an answer is known. -/
namespace Go.PI
variable {T:dm}{ρ:Type}
def Qm(T:dm)(v:TV T.den)(a:AV):Prop:=
 match v with
 |⟨.v t,x⟩=>T.rp t x a
 |⟨.l t,l⟩=>∃ l',a=.sl l'∧aw (T.rp t) l l'
 |⟨.m _ _,_⟩=>False
theorem Uk(hT:T.Ok){v:TV T.den}{a:AV}(h:Qm T v a)(H:ah T.den):R T H (TY T v) a:=by
 obtain⟨t,x⟩:=v
 cases t with
 |v t=>exact hT.up _ _ _ H h
 |l t=>
  obtain⟨l',rfl,hl⟩:=h
  simp only[TY,R]
  exact .inl ⟨l',rfl,hl⟩
 |m kk t=>exact h.elim
theorem Mp[ab](hT:T.Ok)(H:ah T.den):∀ {l:List (TV T.den)} {m:List AV},aw (Qm T) l m→RL T H (Rq T l) m
 |[],[],_=>by simp[Rq,RL]
 |v::vs,a::as,h=>by
  simp only[Rq,List.map_cons,RL]
  exact⟨Uk hT h.1 H,Mp hT H h.2⟩
 |[],_::_,h=>h.elim
 |_::_,[],h=>h.elim
theorem HX{H:ah T.den}{l:List (SV T.den)}{m:List AV}(h:RL T H l m):R T H (rA l) (cE m):=by
 match l,m,h with
 |[],[],h=>simp_all[rA,cE,R]
 |[x],[y],h=>simp only[RL]at h; exact h.1
 |x::x'::xs,y::y'::ys,h=>simp_all[rA,cE,R]
 |[],_::_,h=>simp[RL]at h
 |_::_,[],h=>simp[RL]at h
 |[x],_::_::_,h=>simp[RL]at h
 |_::_::_,[y],h=>simp[RL]at h
theorem Gx(hT:T.Ok){H:ah T.den}{ts:List Nat}:∀ {l:List (SV T.den)} {m:List AV} {xs:List (TV T.den)},RL T H l m→I0 T ts l=some xs→aw (Qm T) xs m:=by
 induction ts with
 |nil=>
  intro l m xs hr h
  cases l with
  |cons=>simp[I0]at h
  |nil=>
   cases m with
   |cons=>simp[RL]at hr
   |nil=>
    simp[I0]at h
    subst h
    trivial
 |cons t ts ih=>
  intro l m xs hr h
  cases l with
  |nil=>simp[I0]at h
  |cons v vs=>
   cases m with
   |nil=>simp[RL]at hr
   |cons a as=>
    simp only[RL]at hr
    simp only[I0,Option.bind_eq_some_iff,Option.map_eq_some_iff]at h
    obtain⟨x,h1,ys,h2,rfl⟩:=h
    exact⟨hT.dn _ _ _ _ H h1 hr.1,ih hr.2 h2⟩
theorem HY{den:Nat→Type}{v:TV den}{t:VT}{x:t.den den}(h:v.as t=some x):v=⟨t,x⟩:=by
 obtain⟨t',y⟩:=v
 unfold TV.as at h
 split at h
 ·grind
 ·simp at h
theorem oP[ab]{den:Nat→Type}:∀ (ts:List VT) (l:List (TV den)) (x:HL den ts),vb ts l=some x→gl ts x=l
 |[],l,x,h=>by
  cases l with
  |nil=>rfl
  |cons=>cases h
 |[t],l,x,h=>by
  match l,h with
  |[v],h=>
   have h':v.as t=some x:=h
   rw[HY h']; rfl
  |[],h=>cases h
  |_::_::_,h=>cases h
 |t::u::us,l,x,h=>by
  match l,h with
  |[],h=>cases h
  |v::l',h=>
   change VT.den den t×HL den (u::us) at x
   have h':((v.as t).bind fun x=>(vb (u::us) l').map fun y=>(x,y))=some x:=h
   obtain⟨a,h1,h2⟩:=Option.bind_eq_some_iff.1 h'
   obtain⟨b,h3,h4⟩:=Option.map_eq_some_iff.1 h2
   subst h4
   have:=oP _ _ _ h3
   rw[HY h1,←this]
   rfl
noncomputable def Mq[ab](C:Ctx)(g:FuncId)(as:List AV):Option (AV×ag):=
 match C.jL g with
 |some h=>(h as).map fun r=>(r,[])
 |none=>match iv C g as [] with
  |some (.val v,dQ)=>some (v,dQ)
  |_=>none
noncomputable def RQ[ab](C:Ctx)(g:FuncId)(as:List AV):Option (AV×ag):=
 match C.fY g with
 |some h=>h as
 |none=>match iv C g as [] with
  |some (.val v,dQ)=>some (v,dQ)
  |_=>none
structure A4[ab](C:Ctx)(T:dm)(g:FuncId)(σ:wA T):Prop where
 RR:∀ (x:HL T.den (σ.args.map .v)) (as:List AV) (l:List (T.den σ.el)),aw (Qm T) (gl _ x) as→σ.fn x=some l →
  ∃ n cl es dQ,RQ C g as=some (.bh σ.esz n es.length 0 es.length none,dQ)∧dQ[n]?=some (some (.arr true cl false es))∧es.all flat=true∧aw (T.rp σ.el) l es
structure qn[ab](C:Ctx)(T:dm)(g:FuncId)(σ:vf T):Prop where
 kind:C.kind g=.pure
 RR:∀ (x:HL T.den (σ.args.map .v)) (as:List AV) (y:HL T.den (σ.res.map .v)),aw (Qm T) (gl _ x) as→σ.fn x=some y →
  ∃ v dQ l,Mq C g as=some (v,dQ)∧(a9 1000 v).run dQ=some (cE l)∧kE (cE l)=true∧aw (Qm T) (gl _ y) l
section
variable {H:ah T.den}{hp:ag}{r:ρ}
theorem HZ[ab](hT:T.Ok){C:Ctx}{g:FuncId}{σ:wA T}(hσ:A4 C T g σ)(hh:RH T H hp){nm:Nat}(hn:nm=H.length∨H[nm]?=some none){args:List (SV T.den)}{as:List AV}(ha:RL T H args as){K:EK T ρ}
  (h:(OV T σ nm H args K).run=some r) :
  ∃ v wr rd e lg,Fx C nm g as hp=some (e,lg)∧(∀ n,n∈lg→n∈rd)∧RE T H hp v wr e∧(K v wr rd).run=some r:=by
 unfold OV at h
 obtain⟨ou,rd,VB,h1,h2,_,_,h⟩:=qZ hh ha h
 split at h
 case h_2=>simp[Tr.run]at h
 rename_i x hx
 rw[Option.bind_eq_some_iff]at hx
 obtain⟨l,hl,hx⟩:=hx
 obtain⟨y,hy,h⟩:=bind_some h
 have Fb:=Gx hT h2 hl
 rw[←oP _ _ _ hx]at Fb
 obtain⟨n,cl,es,dQ,pn,vQ,IX,cB⟩:=hσ.RR x VB y Fb hy
 have hlen:y.length=es.length:=aw.length cB
 have FB:(dz nm (.bh σ.esz n es.length 0 es.length none) dQ).run hp=some ⟨.bh σ.esz nm es.length 0 es.length none,[(nm,.arr true true false es)]⟩:=by
  simp only[dz,vQ,IX,decide_true,Bool.and_self]
  rfl
 have hA:Fx C nm g as hp=some (⟨.bh σ.esz nm es.length 0 es.length none,[(nm,.arr true true false es)]⟩,(aM 1000 as).log hp):=by
  unfold Fx
  rw[h1.1]
  simp only[Option.bind_some]
  unfold RQ at pn
  cases hi:C.fY g with
  |some f=>
   simp_all
  |none=>
   rw[hi]at pn
   simp only at pn
   split at pn
   case h_2=>simp at pn
   rename_i v0 Ul aU
   simp only[Option.some.injEq,Prod.mk.injEq]at pn
   obtain⟨rfl,rfl⟩:=pn
   simp only[aU,Option.bind_some,pM,FB,Option.map_some]
 have hg:iX T H hp (RM.ret (⟨.bh σ.esz nm es.length 0 es.length none,[(nm,.arr true true false es)]⟩:dk)) (fun v wr _=>K v wr rd) r:=by
  have hv:=eW hh hn (o:=.ca true false 0 σ.el y)
  simp only[aB.cur,aB.len,hlen]at hv
  refine eV hh hn (o:=.ca true false 0 σ.el y) ⟨es,rfl,cB⟩ ?_ (aD.ret _) h
  right
  simp only[R]
  exact⟨es.length,hv,rfl⟩
 obtain⟨v,wr,rd',e,g1,g2,g3⟩:=hg
 have he:e=⟨.bh σ.esz nm es.length 0 es.length none,[(nm,.arr true true false es)]⟩:=by
  have:=g1.1
  simp only[RM.run,Option.some.injEq]at this
  exact this.symm
 subst he
 exact⟨v,wr,rd,_,_,hA,h1.2,g2,g3⟩
theorem xw[ab](hT:T.Ok){C:Ctx}{g:FuncId}{σ:vf T}(hσ:qn C T g σ)(hh:RH T H hp){args:List (SV T.den)}{as:List AV}(ha:RL T H args as){K:EK T ρ}(h:(I5 T σ H args K).run=some r):
  ∃ v wr rd a w lg,Kp C g as hp=some (.val a,w)∧(∀ nm,pP C nm false hp (g,as)=some (⟨a,w⟩,lg))∧(∀ n,n∈lg→n∈rd)∧RE T H hp v wr ⟨a,w⟩∧(K v wr rd).run=some r:=by
 unfold I5 at h
 obtain⟨ou,rd,VB,h1,h2,_,_,h⟩:=qZ hh ha h
 split at h
 case h_2=>simp[Tr.run]at h
 rename_i x hx
 rw[Option.bind_eq_some_iff]at hx
 obtain⟨l,hl,hx⟩:=hx
 obtain⟨y,hy,h⟩:=bind_some h
 have Fb:=Gx hT h2 hl
 rw[←oP _ _ _ hx]at Fb
 obtain⟨v,dQ,m,pn,lT,Ri,cB⟩:=hσ.RR x VB y Fb hy
 have hR:∀ H,R T H (rA (Rq T (gl _ y))) (cE m):=fun H=>HX (Mp hT H cB)
 have IX:wz (rA (Rq T (gl _ y)))=flat (cE m):=R.flat (hR H) Ri
 have Qn:∀ w,nM hp as (.val v,dQ)=some (.val (cE m),w)→Kp C g as hp=some (.val (cE m),w)∧(∀ nm,pP C nm false hp (g,as)=some (⟨cE m,w⟩,Kw hp as (.val v,dQ))):=by
  intro w hw
  unfold Mq at pn
  cases hi:C.jL g with
  |some f=>
   rw[hi]at pn
   simp only[Option.map_eq_some_iff,Prod.mk.injEq]at pn
   obtain⟨r0,CQ,rfl,rfl⟩:=pn
   constructor
   ·rw[Ip g hi,h1.1]
    simp only[Option.bind_some,CQ,hw]
   ·intro nm; simp only[pP,hσ.kind,hi,h1.1,Option.bind_some,CQ,nO,hw]
  |none=>
   rw[hi]at pn
   simp only at pn
   split at pn
   case h_2=>simp at pn
   rename_i v0 Ul aU
   simp only[Option.some.injEq,Prod.mk.injEq]at pn
   obtain⟨rfl,rfl⟩:=pn
   constructor
   ·rw[NZ g hi,h1.1]
    simp only[Option.bind_some,aU,hw]
   ·intro nm; simp only[pP,hσ.kind,hi,h1.1,Option.bind_some,aU,nO,hw]
 simp only at h
 split at h
 ·rename_i hf
  rw[IX]at hf
  have vM:nM hp as (.val v,dQ)=some (.val (cE m),[]):=by
   rw[Aw,lT]
   simp only[Option.bind_some,N9,hf,cond_true]
  obtain⟨q1,q2⟩:=Qn _ vM
  refine⟨_,[],_,_,_,_,q1,q2,fun n hn=>?_,⟨.inr (hR _),hh,dy.refl _,fun q hq=>by simp at hq,fun _ _ _=>rfl,Nat.le_refl _,fun _ _ h=>by simp at h⟩,h⟩
  simp only[Kw,List.mem_append,gA,lT,hf,if_true]at hn
  rcases hn with hn|hn
  ·exact h1.2 n hn
  ·simp[Pure.pure,RM.log]at hn
 ·rename_i hf
  rw[IX]at hf
  obtain⟨wr,rd2,w,f1,f2,h⟩:=mo hh h
  rw[RL.names ha]at f1
  have vM:nM hp as (.val v,dQ)=some (.val (cE m),w):=by
   rw[Aw,lT]
   simp only[Option.bind_some,N9,hf,cond_false,f1.1,Option.map_some]
  obtain⟨q1,q2⟩:=Qn _ vM
  refine⟨_,_,_,_,_,_,q1,q2,fun n hn=>?_,FW.re hh f2 hR,h⟩
  simp only[Kw,List.mem_append,gA,lT,hf,Bool.false_eq_true,if_false]at hn
  simp only[List.mem_append]
  rcases hn with hn|hn
  ·exact .inl (h1.2 n hn)
  ·rw[RM.eO,f1.1]at hn
   simp only[List.mem_append]at hn
   rcases hn with hn|hn
   ·exact .inr (f1.2 n hn)
   ·simp[Pure.pure,RM.log]at hn
end
end Go.PI
end
section
/- PS, part L: states, regions. -/
namespace Go.PI
variable {T:dm}{ρ:Type}
theorem Em{v:Value}{K:Value→Tr ρ}:yH v K=K v:=by
 unfold yH
 split<;>rfl
mutual
theorem lE:∀ {v:SV T.den} {K:SV T.den→Tr ρ},dD v K=K v
 |.lit v,K=>by simp only[dD]; exact Em
 |.agg l,K=>by simp only[dD]; exact ja
 |.jF l,K=>by simp only[dD]; exact ja
 |.sl l,K=>by simp only[dD]; exact ja
 |.bj e j,K=>by simp only[dD]; exact lE
 |.jd fn f c,K=>by simp only[dD]; rw[ja,ja]
 |.fW t v,K=>by simp only[dD]; exact lE
 |.dead,K=>by simp only[dD]
 |.hole,K=>by simp only[dD]
 |.jw t l,K=>by simp only[dD]
 |.ref n c i j,K=>by simp only[dD]
 |.iD n c i j ln cp,K=>by simp only[dD]
 |.bh esz n c rg cap,K=>by simp only[dD]
 |.mp y n,K=>by simp only[dD]
 |.w8 t l c b,K=>by simp only[dD]
 |.nz,K=>by simp only[dD]
 |.ss v s l i,K=>by simp only[dD]; exact lE
theorem ja:∀ {l:List (SV T.den)} {K:List (SV T.den)→Tr ρ},mf l K=K l
 |[],K=>by simp only[mf]
 |x::xs,K=>by simp only[mf]; rw[lE,ja]
end
theorem Jf[ab]{o:aB T.den}{K:aB T.den→Tr ρ}:L1 o K=K o:=by
 cases o with
 |arr g cl f c es=>exact ja
 |pg fn ps as bd fr=>exact ja
 |_=>rfl
theorem kf[ab]:∀ {H:ah T.den} {K:ah T.den→Tr ρ},nk H K=K H
 |[],K=>rfl
 |none::r,K=>by simp only[nk]; exact kf
 |some o::r,K=>by simp only[nk]; rw[Jf,kf]
theorem n9:∀ {l:List Nat} {K:List Nat→Tr ρ},sD l K=K l
 |[],K=>rfl
 |x::r,K=>by simp only[sD]; exact n9
theorem A5[ab]:∀ {l:tb T.den} {K:tb T.den→Tr ρ},Ca l K=K l
 |[],K=>rfl
 |(d,v)::r,K=>by simp only[Ca]; rw[lE,A5]
theorem force_eq[ab]{s:bA T.den}{K:bA T.den→Tr ρ}:s.force K=K s:=by
 obtain⟨fn,n,fr,hp,wf,wh,js⟩:=s
 simp only[bA.force]
 rw[A5,kf,n9,n9]
theorem cG[ab]{s:bA T.den}{dst:Option Tmp}{v:SV T.den}{wr:List (Nat×aB T.den)}{K:bA T.den→Tr ρ}:s.fw dst v wr K=K (s.step dst v wr):=by
 obtain⟨fn,n,fr,hp,wf,wh,js⟩:=s
 have h1:∀ {K':ah T.den→List Nat→Tr ρ},Gl hp wh wr K'=K' (aP hp wr) (wr.map (·.1)++wh):=by
  intro K'
  cases wr with
  |nil=>rfl
  |cons w r=>simp only[Gl]; rw[kf,n9]
 simp only[bA.fw,h1]
 cases dst with
 |none=>rfl
 |some d=>
  simp only
  split
  ·rename_i hd
   simp only[bA.step,LU,tX,hd,OU]
  ·rename_i hd
   rw[lE]
   simp only[bA.step,LU,tX,hd,OU]
theorem ra{ops:Array Oper}:∀ {l:List Oper} {K:List (G×Oper)→Tr ρ},oI ops l K=K (l.map fun o=>(eL ops o,o))
 |[],K=>rfl
 |o::r,K=>by
  simp only[oI,List.map_cons]
  split<;>rename_i h<;>rw[ra,h]
theorem A6:∀ {l:List (G×Item)} {K:List (G×Item)→Tr ρ},yJ l K=K l
 |[],K=>rfl
 |(g,⟨i,nm,o⟩)::r,K=>by simp only[yJ]; exact A6
theorem rO[ab]{ops:Array Oper}:∀ (l:List Oper) (m i n:Nat),mh (bH i n (l.take m)) (l.map fun o=>(eL ops o,o))=(bH i n (l.take m)).map fun x=>(eL ops x.o,x)
 |[],m,i,n=>by simp[bH,mh]
 |o::r,0,i,n=>by simp[bH,mh]
 |o::r,m+1,i,n=>by
  simp only[List.take_succ_cons,bH,List.map_cons,mh]
  rw[rO]
def kT{den:Nat→Type}(js:List (Nat×lz))(H:ah den)(hp:ag):Prop:=∀ n st,cq js n=some st→recAt H n=true∧iu hp n=some st
theorem jD{den:Nat→Type}{H:ah den}{n:Nat}(h:recAt H n=true):n<H.length:=by
 grind[recAt]
theorem qo{den:Nat→Type}{H H':ah den}{n:Nat}(h:H'[n]?=H[n]?):recAt H' n=recAt H n:=by unfold recAt; rw[h]
theorem oa{hp cr:ag}{n:Nat}(h:cr[n]?=hp[n]?):iu cr n=iu hp n:=by unfold iu; rw[h]
theorem kT.zX{den:Nat→Type}{js:List (Nat×lz)}{H H':ah den}{hp cr:ag}(h:kT js H hp)(hk:∀ n,recAt H n=true→H'[n]?=H[n]?∧cr[n]?=hp[n]?):kT js H' cr:=by
 intro n st hn
 obtain⟨h1,h2⟩:=h n st hn
 obtain⟨h3,h4⟩:=hk n h1
 exact⟨by rw[qo h3]; exact h1,by rw[oa h4]; exact h2⟩
theorem ui{n:Nat}:∀ {wr:List (Nat×aJ)} {hp:ag},n<hp.length→n∉wr.map (·.1)→(ai hp wr)[n]?=hp[n]?
 |[],hp,_,_=>rfl
 |(m,o)::wr,hp,hn,hm=>by
  simp only[List.map_cons,List.mem_cons,not_or]at hm
  simp only[ai]
  have:n<(setObj hp m o).length∧(setObj hp m o)[n]?=hp[n]?:=by
   grind[setObj]
  rw[ui this.1 hm.2,this.2]
theorem kT.re[ab]{js:List (Nat×lz)}{H:ah T.den}{hp:ag}(h:kT js H hp)(hh:RH T H hp){v:SV T.den}{wr:List (Nat×aB T.den)}{e:dk}(he:RE T H hp v wr e):kT js (aP H wr) (ai hp e.wr):=by
 refine h.zX fun n hn=>⟨he.zX n (he.D8 n hn) (jD hn),ui (by rw[←hh.length]; exact jD hn) fun hc=>?_⟩
 obtain⟨q,hq,rfl⟩:=List.mem_map.1 hc
 exact he.D8 _ hn (he.names q hq)
structure RS(T:dm)(s:bA T.den)(st:St):Prop where
 fn:s.fn=st.fn
 n:st.fr.length=s.n
 fr:∀ t,RV T s.hp (cL s.fr t) (st.fr.getD t .undef)
 hp:RH T s.hp st.hp
 js:kT s.js s.hp st.hp
structure bm(s s':bA T.den):Prop where
 fn:s'.fn=s.fn
 n:s'.n=s.n
 fr:∀ t,t∉s'.wf→cL s'.fr t=cL s.fr t
 wf:∀ t,t∈s.wf→t∈s'.wf
 hp:∀ n:Nat,n<s.hp.length→n∉s'.wh→s'.hp[n]?=s.hp[n]?
 wh:∀ n,n∈s.wh→n∈s'.wh
 len:s.hp.length≤s'.hp.length
 grow:dy s.hp s'.hp
theorem bm.refl[ab](s:bA T.den):bm s s:=⟨rfl,rfl,fun _ _=>rfl,fun _ h=>h,fun _ _ _=>rfl,fun _ h=>h,Nat.le_refl _,dy.refl _⟩
theorem bm.trans[ab]{s s' uv:bA T.den}(h:bm s s')(h':bm s' uv):bm s uv where
 fn:=h'.fn.trans h.fn
 n:=h'.n.trans h.n
 fr:=fun t ht=>by rw[h'.fr t ht,h.fr t (fun hc=>ht (h'.wf t hc))]
 wf:=fun t ht=>h'.wf t (h.wf t ht)
 hp:=fun n hn ht=>by rw[h'.hp n (Nat.lt_of_lt_of_le hn h.len) ht,h.hp n hn (fun hc=>ht (h'.wh n hc))]
 wh:=fun t ht=>h'.wh t (h.wh t ht)
 len:=Nat.le_trans h.len h'.len
 grow:=h.grow.trans h'.grow
theorem kF{n d t:Nat}{fr:tb T.den}{v:SV T.den}:cL (tX n fr d v) t=if t=d∧d<n then v else cL fr t:=by
 unfold tX
 split
 ·rename_i h
  have:=Nat.le_of_ble_eq_true h
  rw[if_neg (by omega)]
 ·rename_i h
  have:¬n≤d:=fun hc=>by rw[Nat.ble_eq_true_of_le hc]at h; simp at h
  simp only[cL]
  split
  ·rename_i he
   have:=Nat.eq_of_beq_eq_true he
   rw[if_pos (by omega)]
  ·rename_i he
   have:¬d=t:=fun hc=>by subst hc; simp at he
   rw[if_neg (by omega)]
theorem En{l:List AV}{d t:Nat}{a u:AV}:(l.set d a).getD t u=if t=d∧d<l.length then a else l.getD t u:=by
 grind
theorem RS.step[ab]{s:bA T.den}{st:St}(h:RS T s st){v:SV T.den}{wr:List (Nat×aB T.den)}{e:dk}(he:RE T s.hp st.hp v wr e)(dst:Option Tmp):
  RS T (s.step dst v wr) { st with fr:=bD st.fr dst e.val,hp:=ai st.hp e.wr }∧bm s (s.step dst v wr):=by
 refine⟨⟨h.fn,?_,fun t=>?_,he.hp,h.js.re h.hp he⟩,⟨rfl,rfl,fun t ht=>?_,fun t ht=>?_,fun n hn ht=>?_,fun n hn=>?_,he.len,he.grow⟩⟩
 ·simp only[bA.step,bD]; cases dst<;>simp[h.n]
 ·simp only[bA.step]
  cases dst with
  |none=>exact(h.fr t).mono he.grow
  |some d=>
   simp only[LU,bD]
   rw[kF,En,h.n]
   split
   ·exact he.val
   ·exact(h.fr t).mono he.grow
 ·simp only[bA.step]at ht ⊢
  cases dst with
  |none=>rfl
  |some d=>
   simp only[OU,List.mem_cons,not_or]at ht
   simp only[LU,kF]
   rw[if_neg (by omega)]
 ·simp only[bA.step]
  cases dst with
  |none=>exact ht
  |some d=>exact List.mem_cons_of_mem _ ht
 ·simp only[bA.step,List.mem_append,not_or]at ht ⊢
  exact he.zX n ht.1 hn
 ·simp only[bA.step,List.mem_append]
  exact .inr hn
theorem Eo[ab]{H:ah T.den}{hp:ag}(hh:RH T H hp):RE T H hp (.lit undef) [] ⟨.undef,[]⟩:=
 ⟨bk undef,hh,dy.refl _,fun q h=>by simp at h,fun _ _ _=>rfl,Nat.le_refl _,fun _ _ h=>by simp at h⟩
theorem rP:∀ (c:List Value),av (den:=T.den) (c.map .lit)=true
 |[]=>by simp[av]
 |x::r=>by simp only[List.map_cons,av,aE,rP r,Bool.and_self]
theorem RS.ev[ab]{s:bA T.den}{st:St}(h:RS T s st)(o:Operand):RV T s.hp (cX s.fr o) (ay st.fr o):=by
 cases o with
 |tmp t=>exact h.fr t
 |const v=>
  simp only[cX,ay,LS,mY]
  cases v with
  |agg c=>
   simp only
   by_cases hc:c.toList.all (fun v=>bf (.lit v))=true
   ·rw[if_pos hc,if_pos hc]
    right
    simp only[R]
    exact⟨_,rfl,RL.lits _⟩
   ·rw[if_neg hc]
    exact .inl rfl
  |tuple c=>
   right
   simp only[gR,R]
   exact⟨_,rfl,RL.lits _⟩
  |_=>exact bk _
 |global g=>
  simp only[cX,ay,CD]
  cases ab.g g with
  |none=>exact bk _
  |some c=>
   right
   simp only[R]
   exact⟨_,rfl,⟨_,rfl,RL.lits _⟩,by simp only[aE]; exact rP _⟩
 |func f=>exact bk _
theorem y8[ab]{g:G}{s:bA T.den}{st:St}(h:RS T s st){K:bA T.den→Bool→Tr ρ}{r:ρ}(hk:(xr g s K).run=some r):
  ∃ s' b,RS T s' st∧bm s s'∧tm st.fr g=some b∧s'.hp=s.hp∧(K s' b).run=some r:=by
 unfold xr at hk
 split at hk
 ·exact⟨s,true,h,bm.refl _,rfl,rfl,hk⟩
 ·exact⟨s,false,h,bm.refl _,rfl,rfl,hk⟩
 ·rename_i d want
  split at hk
  ·rename_i b hb
   have ha:=(h.fr d).lit hb
   have key:∀ b',b=b'→RS T (s.step (some d) (.lit (.bool b')) []) st∧bm s (s.step (some d) (.lit (.bool b')) []):=by
    rintro b' rfl
    have h1:=h.step (v:=.lit (.bool b)) (wr:=[]) (e:=⟨.lit (.bool b),[]⟩) ⟨bk _,h.hp,dy.refl _,fun q hq=>by simp at hq,fun _ _ _=>rfl,Nat.le_refl _,fun _ _ h=>by simp at h⟩ (some d)
    refine⟨?_,h1.2⟩
    have e:({ st with fr:=bD st.fr (some d) (AV.lit (.bool b)),hp:=ai st.hp [] }:St)=st:=by
     have:st.fr.set d (.lit (.bool b))=st.fr:=by
      by_cases hd:d<st.fr.length
      ·refine ie ?_
       rw[List.getD_eq_getElem?_getD]at ha
       rw[List.getElem?_eq_getElem hd]at ha ⊢
       exact congrArg some ha
      ·exact List.set_eq_of_length_le (Nat.le_of_not_lt hd)
     simp only[bD,ai,this]
    rw[e]at h1
    exact h1.1
   have hw:tm st.fr (.on d want)=some (b==want):=by simp only[tm]; rw[ha]; rfl
   rcases fF hk with ⟨QH,Fw⟩|⟨QH,Fw⟩
   ·subst QH
    rw[cG]at Fw
    obtain⟨k1,k2⟩:=key true rfl
    exact⟨_,_,k1,k2,hw,rfl,Fw⟩
   ·subst QH
    rw[cG]at Fw
    obtain⟨k1,k2⟩:=key false rfl
    exact⟨_,_,k1,k2,hw,rfl,Fw⟩
  ·rename_i x hx
   have ha:=(h.fr d).lit hx
   refine⟨s,false,h,bm.refl _,?_,rfl,hk⟩
   simp only[tm]; rw[ha]; rfl
  ·simp[Tr.run]at hk
theorem qp[ab]{C:Ctx}{step:Oper→bA T.den→(bA T.den→Tr ρ)→Tr ρ}{r:ρ}
  (dM:∀ o s st K,RS T s st→(step o s K).run=some r→∃ s' st',hY C o st=some (.norm st')∧RS T s' st'∧bm s s'∧(K s').run=some r) :
  ∀ (l:List (G×Oper)) (s:bA T.den) (st:St) (K:bA T.den→Tr ρ),RS T s st→(wB step l s K).run=some r→∃ s' st',tF C l st=some (.norm st')∧RS T s' st'∧bm s s'∧(K s').run=some r
 |[],s,st,K,h,hk=>⟨s,st,rfl,h,bm.refl _,hk⟩
 |(g,o)::l,s,st,K,h,hk=>by
  simp only[wB]at hk
  obtain⟨s1,b,h1,h2,h3,_,hk⟩:=y8 h hk
  cases b with
  |false=>
   simp only at hk
   rw[cG]at hk
   obtain⟨g1,g2⟩:=h1.step (Eo h1.hp) o.dst
   obtain⟨s',st',i1,i2,i3,hk⟩:=qp dM l _ _ K g1 hk
   refine⟨s',st',?_,i2,(h2.trans g2).trans i3,hk⟩
   simp only[tF,h3]
   exact i1
  |true=>
   simp only at hk
   obtain⟨s2,Pc,g1,g2,g3,hk⟩:=dM o s1 st _ h1 hk
   obtain⟨s',st',i1,i2,i3,hk⟩:=qp dM l _ _ K g2 hk
   refine⟨s',st',?_,i2,(h2.trans g3).trans i3,hk⟩
   simp only[tF,h3,g1,Option.bind_some]
   exact i1
def Cj(a b:fH):Prop:=a.idx=b.idx∧(∀ n,n∈a.rd→n∈b.rd)∧∀ n,n∈a.wr→n∈b.wr
theorem H2{a a' b b':List Nat}(ha:∀ n,n∈a→n∈a')(hb:∀ n,n∈b→n∈b')(h:Fe a' b'=true):Fe a b=true:=by
 grind[decide_eq_false_iff_not,Fe]
theorem Jg[ab]{pr:List Nat}{x x' y y':fH}(hx:Cj x x')(hy:Cj y y')(h:rU pr x' y'=true):rU pr x y=true:=by
 unfold rU at h ⊢
 rw[hx.1,hy.1]
 simp only[Bool.or_eq_true,Bool.and_eq_true]at h ⊢
 refine h.imp id fun h=>⟨H2 hx.2.2 (fun n hn=>?_) h.1,H2 hy.2.2 hx.2.1 h.2⟩
 simp only[List.mem_append]at hn ⊢
 exact hn.imp (hy.2.1 n) (hy.2.2 n)
theorem y9[ab]{pr:List Nat}:∀ {l l':List fH},aw Cj l l'→fk pr l'=true→fk pr l=true
 |[],[],_,_=>rfl
 |x::xs,y::ys,h,hk=>by
  simp only[fk,Bool.and_eq_true]at hk ⊢
  refine⟨?_,y9 h.2 hk.2⟩
  rw[List.all_eq_true]at hk ⊢
  intro z hz
  obtain⟨i,hi⟩:=List.getElem?_of_mem hz
  obtain⟨z',S4,hle⟩:=aw.get h.2 hi
  exact Jg h.1 hle (hk.1 z' (List.mem_of_getElem? S4))
theorem Ck{pr:List Nat}{fs:List fH}(h:qV pr fs=true):fk pr fs=true:=by
 unfold qV at h
 split at h
 ·rename_i hw
  clear h
  induction fs with
  |nil=>rfl
  |cons x xs ih=>
   simp only[List.all_cons,Bool.and_eq_true]at hw
   simp only[fk,Bool.and_eq_true]
   refine⟨?_,ih hw.2⟩
   rw[List.all_eq_true]
   intro y hy
   have h2:=List.all_eq_true.1 hw.2 y hy
   have e1:x.wr=[]:=by simpa using hw.1
   have e2:y.wr=[]:=by simpa using h2
   simp[rU,e1,e2,Fe]
 ·exact h
def Mr[ab]:Nat→List Item→Prop
 |_,[]=>True
 |n,x::r=>x.nm=n∧Mr (if au x.o.op then n+1 else n) r
def sU[ab](l:List Item):Nat:=(l.filter fun x=>au x.o.op).length
theorem qt[ab](x:Item)(l:List Item):sU (x::l)=(if au x.o.op then 1 else 0)+sU l:=by
 grind[sU]
theorem zb[ab]:∀ (l:List Oper) (i n:Nat),sU (bH i n l)=(l.filter fun o=>au o.op).length
 |[],_,_=>rfl
 |o::r,i,n=>by
  rw[bH,qt,zb r,List.filter_cons]
  split<;>simp[*]<;>omega
theorem A7[ab]:∀ (l:List Oper) (i n:Nat),Mr n (bH i n l)
 |[],_,_=>trivial
 |_::r,i,n=>⟨rfl,A7 r (i+1) _⟩
theorem uj:∀ {wr:List (Nat×aB T.den)} {H:ah T.den},(∀ q,q∈wr→q.1<H.length)→(aP H wr).length=H.length
 |[],H,_=>rfl
 |(n,o)::wr,H,h=>by
  have h0:=h (n,o) (by simp)
  have e:(bM H n o).length=H.length:=by
   grind[bM]
  simp only[aP]
  rw[uj (fun q hq=>by rw[e]; exact h q (List.mem_cons_of_mem _ hq)),e]
theorem vC[ab]{C:Ctx}{ops:Array Oper}{step:Nat→Oper→bA T.den→EK T ρ→Tr ρ}{r:ρ}
  (dM:∀ nm o s st K,RS T s st→(nm=s.hp.length∨s.hp[nm]?=some none)→(au o.op=false→nm=s.hp.length)→(step nm o s K).run=some r →
    ∃ v wr rd e lg,C1 C nm o st.fr st.hp=some (e,lg)∧(∀ n,n∈lg→n∈rd)∧RE T s.hp st.hp v wr e∧(K v wr rd).run=some r) :
  ∀ (l:List Item) (n:Nat) (s:bA T.den) (st:St) (fs:List fH) (K:bA T.den→List fH→Tr ρ),Mr n l→n+sU l=s.hp.length→(∀ m:Nat,n≤m→m<s.hp.length→s.hp[m]?=some none)→RS T s st →
    (sJ step (l.map fun x=>(eL ops x.o,x)) s fs K).run=some r →
    ∃ s' st' RT Od,tz C ops l st=some (st',Od)∧aw Cj Od RT∧RS T s' st'∧bm s s'∧(K s' (fs++RT)).run=some r
 |[],n,s,st,fs,K,_,_,_,h,hk=>⟨s,st,[],[],rfl,trivial,h,bm.refl _,by simpa[sJ] using hk⟩
 |x::l,n,s,st,fs,K,hn,hle,nI,h,hk=>by
  obtain⟨VI,NC⟩:=hn
  simp only[List.map_cons,sJ]at hk
  obtain⟨s1,b,h1,h2,h3,h4,hk⟩:=y8 h hk
  have hw:cJ ops st.fr x.o=some b:=by rw[CG]; exact h3
  cases b with
  |false=>
   simp only at hk
   rw[cG]at hk
   obtain⟨g1,g2⟩:=h1.step (Eo h1.hp) x.o.dst
   have ehp:(s1.step x.o.dst (.lit undef) []).hp=s.hp:=by simp only[bA.step,aP]; exact h4
   have hinv:∀ m:Nat,(if au x.o.op then n+1 else n)≤m→m<(s1.step x.o.dst (.lit undef) []).hp.length→(s1.step x.o.dst (.lit undef) []).hp[m]?=some none:=by
    grind
   have hb:(if au x.o.op then n+1 else n)+sU l=s.hp.length:=by
    rw[qt]at hle; split<;>simp_all<;>omega
   ·obtain⟨s',st',RT,Od,i1,i2,i3,i4,hk⟩:=vC dM l _ _ _ _ K NC (by rw[ehp]; exact hb) hinv g1 hk
    refine⟨s',st',⟨x.idx,[],[]⟩::RT,⟨x.idx,[],[]⟩::Od,?_,⟨⟨rfl,fun _ h=>h,fun _ h=>h⟩,i2⟩,i3,(h2.trans g2).trans i4,by simpa using hk⟩
    simp only[tz,C2,hw,Option.bind_some]
    have XU:tz C ops l { st with fr:=bD st.fr x.o.dst .undef }=some (st',Od):=i1
    rw[XU]; rfl
  |true=>
   simp only at hk
   have nv:x.at s1.hp.length=s1.hp.length∨s1.hp[x.at s1.hp.length]?=some none:=by
    grind[Item.at]
   obtain⟨v,wr,rd,e,lg,e1,e2,e3,hk⟩:=dM (x.at s1.hp.length) x.o s1 st _ h1 nv (fun h=>by simp only[Item.at,h]) hk
   rw[show s1.hp.length=st.hp.length from h1.hp.length]at e1
   split at hk
   case h_2=>simp[Tr.run]at hk
   rename_i II
   rw[List.all_eq_true]at II
   rw[cG]at hk
   obtain⟨g1,g2⟩:=h1.step e3 x.o.dst
   have bg:∀ q,q∈wr→q.1<s1.hp.length∧((au x.o.op=true∧q.1=x.nm)∨∃ o,s1.hp[q.1]?=some (some o)):=by
    grind
   have Um:(s1.step x.o.dst v wr).hp.length=s.hp.length:=by
    simp only[bA.step]
    rw[uj (fun q hq=>(bg q hq).1),h4]
   have hinv:∀ m:Nat,(if au x.o.op then n+1 else n)≤m→m<(s1.step x.o.dst v wr).hp.length→(s1.step x.o.dst v wr).hp[m]?=some none:=by
    intro m hm JK
    rw[Um]at JK
    have hold:s1.hp[m]?=some none:=by rw[h4]; exact nI m (by split at hm<;>omega) JK
    simp only[bA.step]
    rw[e3.zX m ?_ (by rw[h4]; exact JK)]
    ·exact hold
    ·grind
   have hb:(if au x.o.op then n+1 else n)+sU l=s.hp.length:=by
    rw[qt]at hle; split<;>simp_all<;>omega
   ·obtain⟨s',st',RT,Od,i1,i2,i3,i4,hk⟩:=vC dM l _ _ _ _ K NC (by rw[Um]; exact hb) hinv g1 hk
    refine⟨s',st',⟨x.idx,rd,wr.map (·.1)⟩::RT,⟨x.idx,lg,e.wr.map (·.1)⟩::Od,?_,⟨⟨rfl,e2,fun n hn=>?_⟩,i2⟩,i3,(h2.trans g2).trans i4,by simpa using hk⟩
    ·simp only[tz,C2,hw,e1,Option.bind_some,QO]
     rw[if_pos ?_]
     ·simp_all
     ·rw[List.all_eq_true]
      intro q hq
      obtain⟨q',hq',eq'⟩:=List.mem_map.1 (e3.names q hq)
      obtain⟨c1,c2⟩:=bg q' hq'
      rw[eq']at c1 c2
      simp only[Bool.and_eq_true,decide_eq_true_eq,Bool.or_eq_true]
      refine⟨by rw[←h1.hp.length]; exact c1,c2.imp id fun⟨o,ho⟩=>?_⟩
      obtain⟨a,ha,_⟩:=h1.hp.obj ho
      rw[ha]
    ·obtain⟨q,hq,rfl⟩:=List.mem_map.1 hn
     exact e3.names q hq
end Go.PI
end
section
/- PS, part M: what is dropped; results; calls of what is looked into. -/
namespace Go.PI
variable {T:dm}{ρ:Type}
section
variable {den:Nat→Type}{n:Nat}
mutual
theorem lu:∀ {v:SV den},aE v=true→bx n v=true
 |.dead,h=>by simp[aE]at h
 |.hole,h=>by simp[aE]at h
 |.lit v,h=>rfl
 |.agg l,h=>by simp only[aE]at h; simp only[bx]; exact eE h
 |.jF l,h=>by simp only[aE]at h; simp only[bx]; exact eE h
 |.sl l,h=>rfl
 |.jw t l,h=>rfl
 |.w8 t l c b,h=>rfl
 |.nz,h=>rfl
 |.bj e j,h=>rfl
 |.ref ..,h=>by simp[aE]at h
 |.iD ..,h=>by simp[aE]at h
 |.bh ..,h=>by simp[aE]at h
 |.jd fn f c,h=>by
  simp only[aE,Bool.and_eq_true]at h
  simp only[bx,Bool.and_eq_true]
  exact⟨eE h.1,eE h.2⟩
 |.fW t v,h=>by simp only[aE]at h; simp only[bx]; exact lu h
 |.ss v s l i,h=>by simp only[aE]at h; simp only[bx]; exact lu h
 |.mp ..,h=>by simp[aE]at h
theorem eE:∀ {l:List (SV den)},av l=true→gM n l=true
 |[],_=>rfl
 |x::xs,h=>by
  simp only[av,Bool.and_eq_true]at h
  simp only[gM,Bool.and_eq_true]
  exact⟨lu h.1,eE h.2⟩
end
end
section
variable {H:ah T.den}{hp:ag}{n:Nat}
theorem fU.take{den:Nat→Type}{H:ah den}{m c aq:Nat}(h:fU H m c aq)(hm:m<n):fU (H.take n) m c aq:=by
 obtain⟨o,h1,h2,h3⟩:=h
 exact⟨o,by rw[List.getElem?_take_of_lt hm]; exact h1,h2,h3⟩
mutual
theorem R.take:∀ {v:SV T.den} {a:AV},R T H v a→bx n v=true→R T (H.take n) v a
 |.dead,_,h,_=>by simp[R]at h
 |.hole,_,h,_=>by simpa[R] using h
 |.lit v,a,h,_=>by simpa[R] using h
 |.agg l,a,h,hb=>by
  simp only[R]at h ⊢
  simp only[bx]at hb
  obtain⟨l',h1,h2⟩:=h
  exact⟨l',h1,RL.take h2 hb⟩
 |.jF l,a,h,hb=>by
  simp only[R]at h ⊢
  simp only[bx]at hb
  obtain⟨l',h1,h2⟩:=h
  exact⟨l',h1,RL.take h2 hb⟩
 |.sl l,a,h,_=>by
  simp only[R]at h ⊢
  obtain⟨l',h1,h2,h3⟩:=h
  exact⟨l',h1,RL.take h2 (eE h3),h3⟩
 |.jw t l,a,h,_=>by simpa[R] using h
 |.w8 t l c b,a,h,_=>by simp only[R]at h ⊢; exact h
 |.nz,a,h,_=>by simp only[R]at h ⊢; exact h
 |.bj e j,a,h,_=>by
  simp only[R]at h ⊢
  obtain⟨e',h1,h2,h3⟩:=h
  exact⟨e',h1,R.take h2 (lu h3),h3⟩
 |.ref m c i j,a,h,hb=>by
  simp only[R]at h ⊢
  simp only[bx,decide_eq_true_eq]at hb
  obtain⟨aq,h1,h2⟩:=h
  exact⟨aq,h1,h2.take hb⟩
 |.iD m c i j ln cp,a,h,hb=>by
  simp only[R]at h ⊢
  simp only[bx,decide_eq_true_eq]at hb
  obtain⟨aq,h1,h2⟩:=h
  exact⟨aq,h1,h2.take hb⟩
 |.bh esz m c rg cap,a,h,hb=>by
  simp only[R]at h ⊢
  simp only[bx,decide_eq_true_eq]at hb
  obtain⟨aq,h1,h2⟩:=h
  exact⟨aq,h1.take hb,h2⟩
 |.jd fn f c,a,h,hb=>by
  simp only[R]at h ⊢
  simp only[bx,Bool.and_eq_true]at hb
  obtain⟨f',c',h1,h2,h3⟩:=h
  exact⟨f',c',h1,RL.take h2 hb.1,RL.take h3 hb.2⟩
 |.fW t v,a,h,hb=>by
  simp only[R]at h ⊢
  simp only[bx]at hb
  obtain⟨v',h1,h2⟩:=h
  exact⟨v',h1,R.take h2 hb⟩
 |.mp y m,a,h,hb=>by
  simp_all[R,bx]
 |.ss v s l i,a,h,hb=>by
  simp only[R]at h ⊢
  simp only[bx]at hb
  obtain⟨a0,h1,h2⟩:=h
  exact⟨a0,R.take h1 hb,h2⟩
theorem RL.take:∀ {l:List (SV T.den)} {m:List AV},RL T H l m→gM n l=true→RL T (H.take n) l m
 |[],[],_,_=>by simp[RL]
 |x::xs,y::ys,h,hb=>by
  simp only[RL]at h ⊢
  simp only[gM,Bool.and_eq_true]at hb
  exact⟨R.take h.1 hb.1,RL.take h.2 hb.2⟩
 |[],_::_,h,_=>by simp[RL]at h
 |_::_,[],h,_=>by simp[RL]at h
end
theorem fU.lt{den:Nat→Type}{H:ah den}{m c aq:Nat}(h:fU H m c aq):m<H.length:=by
 obtain⟨o,h1,_⟩:=h
 exact(List.getElem?_eq_some_iff.1 h1).1
mutual
theorem R.lt:∀ {v:SV T.den} {a:AV},R T H v a→bx H.length v=true
 |.dead,_,h=>by simp[R]at h
 |.hole,_,h=>rfl
 |.lit v,a,h=>rfl
 |.agg l,a,h=>by
  simp only[R]at h
  simp only[bx]
  obtain⟨l',h1,h2⟩:=h
  exact RL.lt h2
 |.jF l,a,h=>by
  simp only[R]at h
  simp only[bx]
  obtain⟨l',h1,h2⟩:=h
  exact RL.lt h2
 |.sl l,a,h=>rfl
 |.jw t l,a,h=>rfl
 |.w8 t l c b,a,h=>rfl
 |.nz,a,h=>rfl
 |.bj e j,a,h=>rfl
 |.ref m c i j,a,h=>by
  simp only[R]at h
  simp only[bx,decide_eq_true_eq]
  obtain⟨aq,h1,h2⟩:=h
  exact h2.lt
 |.iD m c i j ln cp,a,h=>by
  simp only[R]at h
  simp only[bx,decide_eq_true_eq]
  obtain⟨aq,h1,h2⟩:=h
  exact h2.lt
 |.bh esz m c rg cap,a,h=>by
  simp only[R]at h
  simp only[bx,decide_eq_true_eq]
  obtain⟨aq,h1,h2⟩:=h
  exact h1.lt
 |.jd fn f c,a,h=>by
  simp only[R]at h
  simp only[bx,Bool.and_eq_true]
  obtain⟨f',c',h1,h2,h3⟩:=h
  exact⟨RL.lt h2,RL.lt h3⟩
 |.fW t v,a,h=>by
  simp only[R]at h
  simp only[bx]
  obtain⟨v',h1,h2⟩:=h
  exact R.lt h2
 |.mp y m,a,h=>by
  grind[R,bx]
 |.ss v s l i,a,h=>by
  simp only[R]at h
  simp only[bx]
  obtain⟨a0,h1,h2⟩:=h
  exact R.lt h1
theorem RL.lt:∀ {l:List (SV T.den)} {m:List AV},RL T H l m→gM H.length l=true
 |[],[],_=>rfl
 |x::xs,y::ys,h=>by
  simp only[RL]at h
  simp only[gM,Bool.and_eq_true]
  exact⟨R.lt h.1,RL.lt h.2⟩
 |[],_::_,h=>by simp[RL]at h
 |_::_,[],h=>by simp[RL]at h
end
theorem zc{n:Nat}:∀ {l:List AV},cQ n l=l.all (below n)
 |[]=>rfl
 |x::xs=>by simp only[cQ,List.all_cons,zc]
theorem np:∀ {a:AV},closed a=true→below n a=true
 |.lit _,_=>rfl
 |.agg l,h=>by simp only[Go.PI.closed]at h; simp only[Go.PI.below]; exact gr h
 |.jF l,h=>by simp only[Go.PI.closed]at h; simp only[Go.PI.below]; exact gr h
 |.sl _,_|.kW _ _,_|.bj _ _,_|.any,_|.nz,_=>rfl
 |.ref ..,h|.bh ..,h|.iD ..,h|.mp ..,h=>by simp[Go.PI.closed]at h
 |.jd fn f c,h=>by
  simp only[Go.PI.closed,Bool.and_eq_true]at h
  simp only[Go.PI.below,Bool.and_eq_true]
  exact⟨gr h.1,gr h.2⟩
 |.fW t v,h=>by simp only[Go.PI.closed]at h; simp only[Go.PI.below]; exact np h
where gr:∀ {l:List AV},aZ l=true→cQ n l=true
 |[],_=>rfl
 |x::xs,h=>by
  simp only[aZ,Bool.and_eq_true]at h
  simp only[cQ,Bool.and_eq_true]
  exact⟨np h.1,gr h.2⟩
theorem zd(hT:T.Ok){t:Nat}:∀ {l:List (T.den t)} {m:List AV},aw (T.rp t) l m→cQ n m=true
 |[],[],_=>rfl
 |_::_,_::_,h=>by
  simp only[cQ,Bool.and_eq_true]
  exact⟨np (hT.closed _ _ _ h.1),zd hT h.2⟩
theorem Ep:∀ {fr:List (SV T.den)} {vs:List AV},aw (RD T H) fr vs→(fr.all fun v=>bQ v||bx n v)=cQ n vs
 |[],[],_=>rfl
 |v::fr,a::vs,h=>by
  simp only[List.all_cons,cQ]
  rw[Ep h.2]
  congr 1
  rcases h.1 with ⟨rfl,rfl⟩|h1
  ·rfl
  ·have:bQ v=false:=by cases v<;>first|rfl|simp[R]at h1
   rw[this,R.below h1]; rfl
theorem A8[ab](hT:T.Ok){o:Option (aB T.den)}{a:Option aJ}(h:Ce T H o a):ko n o=kJ n a:=by
 cases o with
 |none=>cases a with
  |none=>rfl
  |some a=>exact h.elim
 |some o=>cases a with
  |none=>exact h.elim
  |some a=>
   cases o with
   |arr g cl f cur es=>
    obtain⟨es',rfl,cF,_⟩:=h
    simp only[ko,kJ,aJ.below]
    rw[RL.below cF]
   |ca g f cur t l=>obtain⟨es',rfl,_⟩:=h; rfl
   |ij=>
    rcases h with ⟨g,f,es',rfl⟩|⟨k,vs,rfl,h⟩
    ·rfl
    ·exact(h n).symm
   |kz kk t m=>
    obtain⟨vs,rfl,h⟩:=h
    exact(zd hT h).symm
   |pg fn ps as bd fr=>
    obtain⟨st,vs,rfl,h⟩:=h
    exact Ep h
theorem lF[ab](hT:T.Ok):∀ {l:List (Option (aB T.den))} {m:List (Option aJ)},aw (Ce T H) l m→l.all (ko n)=m.all (kJ n)
 |[],[],_=>rfl
 |_::_,_::_,h=>by simp only[List.all_cons]; rw[A8 hT h.1,lF hT h.2]
theorem RO.take[ab]{o:aB T.den}{a:aJ}(h:RO T H o a)(hb:ko n (some o)=true):RO T (H.take n) o a:=by
 cases o with
 |arr g cl f cur es=>
  obtain⟨es',h1,h2,h3⟩:=h
  refine⟨es',h1,RL.take h2 ?_,h3⟩
  simp only[ko,Bool.or_eq_true]at hb
  rcases hb with hb|hb
  ·exact eE (h3 hb)
  ·exact hb
 |ca g f cur t l=>exact h
 |ij=>exact h
 |kz kk t m=>exact h
 |pg fn ps as bd fr=>
  obtain⟨st,vs,h1,h2⟩:=h
  refine⟨st,vs,h1,aw.eu h2.length fun i x y hx hy=>?_⟩
  obtain⟨y',BA,hr⟩:=aw.get h2 hx
  rw[hy]at BA
  simp only[Option.some.injEq]at BA
  subst BA
  simp only[ko,List.all_eq_true]at hb
  have:=hb x (List.mem_of_getElem? hx)
  rcases hr with hr|hr
  ·exact .inl hr
  ·have hd:bQ x=false:=by cases x<;>first|rfl|simp[R]at hr
   rw[hd,Bool.false_or]at this
   exact .inr (hr.take this)
theorem RH.take[ab](hh:RH T H hp)(hb:(H.take n).all (ko n)=true):RH T (H.take n) (hp.take n):=by
 have h:=aw.take hh n
 rw[List.all_eq_true]at hb
 refine aw.eu h.length fun i x y hx hy=>?_
 obtain⟨y',BA,hr⟩:=aw.get h hx
 rw[hy]at BA
 simp only[Option.some.injEq]at BA
 subst BA
 have:=hb x (List.mem_of_getElem? hx)
 cases x with
 |none=>cases y with
  |none=>trivial
  |some _=>exact hr.elim
 |some o=>cases y with
  |none=>exact hr.elim
  |some a=>exact RO.take hr this
theorem Jh[ab](hT:T.Ok)(hh:RH T H hp){v:SV T.den}{a:AV}(hv:R T H v a):RH T (gp n v H) (gX n a hp)∧R T (gp n v H) v a:=by
 unfold gp gX
 rw[R.below hv,lF hT (aw.take hh n)]
 by_cases hc:(Go.PI.below n a&&(hp.take n).all (kJ n))=true
 ·rw[if_pos hc,if_pos hc]
  simp only[Bool.and_eq_true]at hc
  exact⟨hh.take (by rw[lF hT (aw.take hh n)]; exact hc.2),hv.take (by rw[R.below hv]; exact hc.1)⟩
 ·grind
theorem Er{fr:tb T.den}{t:Nat}:cL (fr.map fun q=>(q.1,qS n q.2)) t=qS n (cL fr t):=by
 induction fr with
 |nil=>rfl
 |cons q r ih=>
  grind[cL]
theorem RV.forget[ab]{v:SV T.den}{a:AV}(h:RV T H v a):RV T (H.take n) (qS n v) (Go.PI.forget n a):=by
 unfold qS Go.PI.forget
 rcases h with rfl|h
 ·left; simp[bx]
 ·rw[R.below h]
  split
  ·rename_i hb; right; exact h.take (by rw[R.below h]; exact hb)
  ·exact .inl rfl
theorem Et{l:List AV}{t:Nat}:(l.map (Go.PI.forget n)).getD t .undef=Go.PI.forget n (l.getD t .undef):=by
 simp only[List.getD_eq_getElem?_getD,List.getElem?_map]
 cases l[t]?<;>rfl
theorem kT.take{js:List (Nat×lz)}(h:kT js H hp)(hj:∀ m x,cq js m=some x→m<n):kT js (H.take n) (hp.take n):=by
 intro m x hm
 obtain⟨h1,h2⟩:=h m x hm
 have bL:=hj m x hm
 exact⟨by rw[qo (List.getElem?_take_of_lt bL)]; exact h1,by rw[oa (List.getElem?_take_of_lt bL)]; exact h2⟩
theorem A9{js:List (Nat×lz)}(h:sK js n=true):∀ m x,cq js m=some x→m<n:=by
 intro m x hm
 have:=List.all_eq_true.1 h _ (eU hm)
 exact Nat.le_of_ble_eq_true this
theorem Eu[ab](hT:T.Ok){s:bA T.den}{st:St}(h:RS T s st)(hj:∀ m x,cq s.js m=some x→m<n):RS T (ka n s) (gW n st):=by
 unfold ka gW
 rw[lF hT (aw.take h.hp n)]
 by_cases hc:(st.hp.take n).all (kJ n)=true
 ·rw[if_pos hc,if_pos hc]
  refine⟨h.fn,by simp[h.n],fun t=>?_,h.hp.take (by rw[lF hT (aw.take h.hp n)]; exact hc),h.js.take hj⟩
  rw[Er,Et]
  exact(h.fr t).forget
 ·rw[if_neg hc,if_neg hc]
  exact h
theorem nq{den:Nat→Type}{H:ah den}{m:Nat}(hm:m<n):(H.take n)[m]?=H[m]?:=List.getElem?_take_of_lt hm
theorem wJ[ab]{s s':bA T.den}{st:St}(h:RS T s st)(ha:bm s s'):bm s (ka s.hp.length s'):=by
 unfold ka
 split
 ·refine⟨ha.fn,ha.n,fun t ht=>?_,ha.wf,fun n hn hw=>?_,ha.wh,?_,?_⟩
  ·simp only at ht ⊢
   rw[Er,ha.fr t ht]
   unfold qS
   rcases h.fr t with hv|hv
   ·rw[hv]; simp[bx]
   ·rw[if_pos hv.lt]
  ·simp only at hw ⊢
   rw[nq hn]
   exact ha.hp n hn hw
  ·simp only[List.length_take]
   have:=ha.len
   omega
  ·intro n o ho
   obtain⟨o',h1,h2⟩:=ha.grow n o ho
   have bL:=(List.getElem?_eq_some_iff.1 ho).1
   exact⟨o',by simp only; rw[nq bL]; exact h1,h2⟩
 ·exact ha
theorem oQ[ab](hT:T.Ok){Q:gO}(hQ:Q.Ok){s:bA T.den}{st:St}(h:RS T s st){r:ρ}:∀ {rs:List ResultVar} {K:List (SV T.den)→Tr ρ},(sE T Q s rs K).run=some r →
  ∃ l m,(aW Q.P st.fr rs).run st.hp=some m∧RL T s.hp l m∧(K l).run=some r
 |[],K,hk=>⟨[],[],rfl,by simp[RL],hk⟩
 |.tmp t::rs,K,hk=>by
  simp only[sE]at hk
  split at hk
  ·simp[Tr.run]at hk
  ·rename_i dA
   obtain⟨l,m,h1,h2,hk⟩:=oQ hT hQ h hk
   refine⟨_,st.fr.getD t .undef::m,?_,?_,hk⟩
   ·simp_all[aW,kh,RM.run_bind,RM.run_pure,h1]
   ·simp only[RL]
    refine⟨?_,h2⟩
    rcases h.fr t with hd|hd
    ·simp_all
    ·exact hd
 |.cell a t::rs,K,hk=>by
  simp only[sE]at hk
  split at hk
  case h_2=>simp[Tr.run]at hk
  rename_i m hm
  obtain⟨q,h1,h2,h3,_⟩:=hQ.row _ _ hm
  have:∃ v c rd,aD st.hp (kU Q.P t (st.fr.getD a .undef)) c rd∧R T s.hp v c∧(sE T Q s rs fun l=>K (v::l)).run=some r:=
   Ee (K:=fun v _ _=>sE T Q s rs fun l=>K (v::l)) hT h1 h2 h3 h.hp (h.fr a) hk
  obtain⟨v,c,rd,g1,g2,hk⟩:=this
  obtain⟨l,m',i1,i2,hk⟩:=oQ hT hQ h hk
  refine⟨_,c::m',?_,?_,hk⟩
  ·simp only[aW,kh,RM.run_bind,g1.1,RM.run_pure,Option.bind_some,i1]
  ·simp only[RL]
   exact⟨g2,i2⟩
theorem gu[ab]{fv:SV T.den}{fa:AV}(hf:RV T H fv fa){args:List (SV T.den)}{as:List AV}(ha:aw (RV T H) args as){g:FuncId}{l:List (SV T.den)}(h:mg fv args=some (g,l)):
  ∃ m,bE fa as=some (g,m)∧(l.any bQ=false→RL T H l m):=by
 unfold mg at h
 split at h
 ·rename_i f first captured
  simp only[Option.some.injEq,Prod.mk.injEq]at h
  obtain⟨rfl,rfl⟩:=h
  have:=hf.lit rfl
  subst this
  refine⟨_,rfl,fun hd=>?_⟩
  refine iZ ?_ hd
  exact((aR.1 (RL.lits first.toList)).mono fun _ _ h=>.inr h).append ha |>.append ((aR.1 (RL.lits captured.toList)).mono fun _ _ h=>.inr h)
 ·rename_i f first captured
  simp only[Option.some.injEq,Prod.mk.injEq]at h
  obtain⟨rfl,rfl⟩:=h
  have:=hf.live rfl
  simp only[R]at this
  obtain⟨f',c',rfl,h1,h2⟩:=this
  refine⟨_,rfl,fun hd=>?_⟩
  refine iZ ?_ hd
  exact((aR.1 h1).mono fun _ _ h=>.inr h).append ha |>.append ((aR.1 h2).mono fun _ _ h=>.inr h)
 ·simp at h
theorem Ev[ab]{P:Program}{fv:SV T.den}{fa:AV}(hf:RV T H fv fa){name:String}{g:FuncId}{x:SV T.den}(h:HR P fv name=some (g,x)):∃ ax,pD P fa name=some (g,ax)∧R T H x ax:=by
 unfold HR at h
 split at h
 ·rename_i t y
  simp only[Option.map_eq_some_iff,Prod.mk.injEq]at h
  obtain⟨f,hm,rfl,rfl⟩:=h
  have:=hf.live rfl
  simp only[R]at this
  obtain⟨a,rfl,ha⟩:=this
  exact⟨a,by simp only[pD,hm,Option.map_some],ha⟩
 ·simp at h
theorem vD:∀ {l:List (SV T.den)} {d t:Nat},cL (mN d l) t=if d≤t then (match l[t-d]? with|some v=>v|none=>.lit undef) else .lit undef
 |[],d,t=>by simp[mN,cL]
 |v::r,d,t=>by
  simp only[mN,cL]
  split
  ·simp_all
  ·rename_i he
   have dA:d≠t:=fun hc=>by subst hc; simp at he
   rw[vD]
   by_cases hd:d≤t
   ·grind
   ·rw[if_neg hd,if_neg (by omega)]
theorem ze[ab]{f:FuncId}{args:List (SV T.den)}{as:List AV}(ha:RL T H args as)(hh:RH T H hp)(n:Nat)(wh:List Nat){js:List (Nat×lz)}(hj:kT js H hp):
  RS T ⟨f,max n args.length,mN 0 args,H,[],wh,js⟩ ⟨f,as++List.replicate (n-as.length) .undef,hp⟩:=by
 have hl:=ha.length
 refine⟨rfl,by simp; omega,fun t=>?_,hh,hj⟩
 simp only
 rw[vD]
 simp only[Nat.zero_le,if_true,Nat.sub_zero,List.getD_eq_getElem?_getD]
 by_cases ht:t<as.length
 ·rw[List.getElem?_append_left ht]
  obtain⟨v,hv,hr⟩:=aw.get' (aR.1 ha) (List.getElem?_eq_getElem ht)
  rw[hv,List.getElem?_eq_getElem ht]
  exact .inr hr
 ·rw[List.getElem?_append_right (by omega)]
  have e1:args[t]?=none:=List.getElem?_eq_none (by omega)
  rw[e1]
  simp only
  rw[List.getElem?_replicate]
  split<;>exact bk undef
end
end Go.PI
end
