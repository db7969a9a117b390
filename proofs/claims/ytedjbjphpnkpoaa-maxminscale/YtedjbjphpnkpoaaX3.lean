/- Part 3 of the proof: texts of this session laid one behind the other. -/
import Derived.Test.YtedjbjphpnkpoaaX2
set_option linter.unusedVariables false
set_option linter.unusedSimpArgs false
section
/- PS, part B: the operations on symbolic values, and the evaluator of code to a tree. -/
namespace Go.PI
structure vI(T:dm)where
 args:List Nat
 el:Nat
 esz:Nat
 fn:HL T.den (args.map .v)→Option (List (T.den el))
inductive Tw where
 |num (d j b:Nat)
 |Xy (d j n:Nat)
 |arr (d n:Nat)
 |name (d:Nat)
 |int (d j:Nat)
structure nW where
 C:Ctx
 T:dm
 sum:FuncId→Option (uB T)
 hint:FuncId→Nat→Option Hint
 uC:FuncId→Nat→Bool
 M:List (Nat×jS)
 own:FuncId→Option (vI T):=fun _=>none
 tp:FuncId→Nat→Bool:=fun _ _=>false
 tw:FuncId→Tmp→List Tw:=fun _ _=>[]
def nW.Q(S:nW):gH:=⟨S.C.P,S.M,fun _=>false⟩
def nW.Qf(S:nW)(f:FuncId):gH:=⟨S.C.P,S.M,S.tp f⟩
section
variable {T:dm}{ρ:Type}
abbrev EK(T:dm)(ρ:Type):=SV T.den→List (Nat×aC T.den)→List Nat→Tr ρ
def oD(r:Option AV)(K:EK T ρ):Tr ρ:=
 match r with
 |some (.lit v)=>K (.lit v) [] []
 | _ => .no "via"
def xJ(r:Option (SV T.den))(rd:List Nat)(K:EK T ρ):Tr ρ:=
 match r with
 |some v=>K v [] rd
 | none => .no "part"
def fR(v:SV T.den)(K:Nat→Tr ρ):Tr ρ:=
 match v with
 |.lit (.int _ n)=>.cond (decide (0≤n)) (K n.toNat) .fail
 |_=>.fail
def TM{den:Nat→Type}:SV den→Bool
 |.lit (.int _ n)=>decide (n=0)
 |_=>false
def iZ(d:Nat)(v:Option (SV T.den))(K:Nat→Tr ρ):Tr ρ:=
 match v with
 |none=>K d
 |some v=>fR v K
def fp(i:Nat):Nat→Nat→(Nat→Tr ρ)→Tr ρ
 |0,_,_=>.fail
 |len+1,m,K=>.cond (decide (i=m)) (K m) (fp i len (m+1) K)
def ic(d:Nat):SV T.den→SV T.den
 |.ref n c i j=>.ref n c i (j+d)
 |.bc e j=>.bc e (j+d)
 |.sy v s l i=>.sy (ic d v) s l i
 |v=>v
def gr(e:SV T.den)(j aV:Nat):Nat→Option (List (SV T.den))
 |0=>some []
 |n+1=>(nx false 1 e j).bind fun x=>(gr e (j+aV) aV n).map fun l=>x::l
def uD(k:IntKind):List (SV T.den)→Option (List Int)
 |[]=>some []
 |.lit (.int k' n)::r=>if k'=k then (uD k r).map fun l=>n::l else none
 |_=>none
def tq:List (SV T.den)→Option (List Bool)
 |[]=>some []
 |.lit (.bool b)::r=>(tq r).map fun l=>b::l
 |_=>none
def Gl{α:Type}(l:List α)(i:Nat)(d:α):α:=l.getD i d
def Kl(i:Nat)(xs:List (SV T.den)):Option (SV T.den):=
 match xs with
 |.lit (.int k n)::r=>(uD k r).map fun l=>.lit (.int k (Gl (n::l) i n))
 |.lit (.bool b)::r=>(tq r).map fun l=>.lit (.bool (Gl (b::l) i b))
 |_=>none
def TN(t:Nat)(x:T.den t)(K:SV T.den→Tr ρ):Tr ρ:=
 match T.alt t with
 |none=>K (T.up t x)
 |some f=>.cond (f.1 x) (K (f.2.1 x)) (K (f.2.2 x))
def nX(r:jS)(H:ah T.den)(a:SV T.den)(K:EK T ρ):Tr ρ:=
 match a with
 |.ref n c i j=>
  match H[n]? with
  |some (some (.arr _ _ _ cur es))=>(match Nat.beq c cur with
   |true=>(match es[i]? with
    |some e=>xJ (nx r.agg r.size e j) [n] K
    | none => .no "memory")
   | false => .no "memory")
  |some (some (.bU _ _ cur t l))=>(match Nat.beq c cur with
   |true=>.bind l[i]? fun x=>TN t x fun v=>xJ (nx r.agg r.size v j) [n] K
   | false => .no "memory")
  | _ => .no "memory"
 |.bc e j=>xJ (nx r.agg r.size e j) [] K
 | _ => .no "memory"
def EU(H:ah T.den)(a:SV T.den)(aV len:Nat):Option (List (SV T.den)×List Nat):=
 match a with
 |.ref n c i j=>(match H[n]? with
  |some (some (.arr _ _ _ cur es))=>(match Nat.beq c cur with
   |true=>(es[i]?).bind fun e=>(gr e j aV len).map fun l=>(l,[n])
   |false=>none)
  |_=>none)
 |.bc e j=>(gr e j aV len).map fun l=>(l,[])
 |_=>none
def Gm(r:jS)(H:ah T.den)(a:SV T.den)(K:EK T ρ):Tr ρ:=
 match a with
 |.sy v aV len i=>
  (match !r.agg&&Nat.beq r.size 1,EU H v aV len with
  |true,some (xs,rd)=>(match Kl i xs with
   |some x=>K x [] rd
   |none=>fp i len 0 fun m=>nX r H (ic (m*aV) v) K)
  |_,_=>fp i len 0 fun m=>nX r H (ic (m*aV) v) K)
 |a=>nX r H a K
def qu(r:jS)(H:ah T.den)(a v:SV T.den)(K:EK T ρ):Tr ρ:=
 match bN v,decide ((bI v).length=r.size)&&(bI v).all gn with
 |false,true=>(match a with
  |.ref n c i j=>
   match H[n]? with
   |some (some (.arr g cl f cur es))=>(match Nat.beq c cur&&!f with
    |true=>(match es[i]? with
     |some e=>(match fP e j (bI v) with
      |some e'=>K (.lit undef) [(n,.arr g (cl&&av (bI v)) f cur (es.set i e'))] [n]
      | none => .no "memory")
     | none => .no "memory")
    | false => .no "memory")
   |some (some (.bU g f cur t l))=>(match Nat.beq c cur&&!f&&av (bI v) with
    |true=>.bind l[i]? fun x=>(match fP (T.up t x) j (bI v) with
     |some e'=>(match T.dn t e' with
      |some y=>K (.lit undef) [(n,.bU g f cur t (l.set i y))] [n]
      | none => .no "memory")
     | none => .no "memory")
    | false => .no "memory")
   | _ => .no "memory"
  | _ => .no "memory")
 | _, _ => .no "memory"
def EV(l:List (SV T.den))(j aV i m:Nat)(k:IntKind)(y:Int):List Int→List (SV T.den)
 |[]=>l
 |x::r=>EV (l.set j (.lit (.int k (cond (Nat.beq i m) y x)))) (j+aV) aV i (m+1) k y r
def EW(H:ah T.den)(a v:SV T.den)(aV len i:Nat):Option (Nat×aC T.den):=
 match a,v with
 |.ref n c i0 j,.lit (.int k y)=>(match H[n]? with
  |some (some (.arr g cl f cur es))=>(match Nat.beq c cur&&!f&&Nat.blt 0 aV,es[i0]? with
   |true,some (.agg l)=>((gr (.agg l) j aV len).bind (uD k)).map fun ns=>
    (n,.arr g cl f cur (es.set i0 (.agg (EV l j aV i 0 k y ns))))
   |_,_=>none)
  |_=>none)
 |_,_=>none
def EX(r:jS)(H:ah T.den)(a v:SV T.den)(K:EK T ρ):Tr ρ:=
 match a with
 |.sy b aV len i=>(match Nat.beq r.size 1,EW H b v aV len i with
  |true,some (n,o)=>K (.lit undef) [(n,o)] [n]
  |_,_=>fp i len 0 fun m=>qu r H (ic (m*aV) b) v K)
 |a=>qu r H a v K
def EY(Q:gH)(t:TypeId)(parts:List (Nat×SV T.den)):Option (SV T.den):=
 match Q.ty t with
 |some r=>
  match r.kind,r.zero.bind gq with
  |.struct fs,some z=>(match Q.uz fs with
   |some pl=>(zQ (fun i=>pl[i]?) (bI z) parts).map .agg
   |none=>none)
  |.array _ e,some z=>(match Q.ty e with
   |some q=>(zQ (fun i=>some (i*q.size,q.size)) (bI z) parts).map .agg
   |none=>none)
  |_,_=>none
 |none=>none
def pK(Q:gH)(nm:Nat)(t:TypeId)(len:Nat)(parts:List (Nat×SV T.den))(K:EK T ρ):Tr ρ:=
 match Q.elem t with
 |some r=>
  match (r.zero).bind gq with
  |some z=>
   if 0<r.size∧len*r.size≤2^24∧parts.all (fun p=>decide (p.1<len)&&kP r.agg r.size p.2)=true then
    K (.bp r.size nm 0 none (some len)) [(nm,.arr false (av (parts.map (·.2))) false 0 (fe (List.replicate len z) parts))] []
   else .no "buildSlice"
  | none => .no "buildSlice"
 | none => .no "buildSlice"
def rR(Q:gH)(nm:Nat)(t:TypeId)(l c:SV T.den)(K:EK T ρ):Tr ρ:=
 match Q.elemOf t with
 |some (e,r)=>
  match r.zero,T.zero e,decide (0<r.size) with
  |some _,some z,true=>
   fR l fun l=>fR c fun c=>
    .cond (decide (l≤c)&&decide (c*r.bytes≤2^47)&&decide (c<2^62))
     (K (.bp r.size nm 0 (some (0,l)) (some c)) [(nm,.bU false false 0 e (List.replicate c z))] []) .fail
  |_,_,_=>.fail
 |none=>.fail
def rS(Q:gH)(nm:Nat)(t:TypeId)(l:SV T.den)(K:EK T ρ):Tr ρ:=
 match Q.elemOf t with
 |some (e,r)=>
  match r.zero,T.zero e,decide (0<r.size) with
  |some _,some z,true=>
   fR l fun c=>.cond (decide (c*r.bytes≤2^47)&&decide (c<2^62)) (K (.bp r.size nm 0 none (some c)) [(nm,.bU false false 0 e (List.replicate c z))] []) .fail
  |_,_,_=>.fail
 |none=>.fail
def Km:Operand→Operand→Bool
 |.tmp a,.tmp b=>Nat.beq a b
 |_,_=>false
def mG(H:ah T.den)(n c:Nat)(rg:Option (Nat×Nat)):Option (Nat×Nat):=
 match rg with
 |some q=>some q
 |none=>match H[n]? with
  |some (some o)=>if Nat.beq c o.cur then some (0,o.len) else none
  |_=>none
def uE:Option (SV T.den)→Option (Option AV)
 |none=>some none
 |some v=>(mE v).map some
def Py(Q:gH)(H:ah T.den)(t:TypeId)(x:SV T.den)(lo hi mx:Option (SV T.den))(K:EK T ρ):Tr ρ:=
 match x with
 |.lit v=>(match uE lo,uE hi,uE mx with
  |some l,some h,some m=>(match mQ Q.P t (.lit v) l h m with
   |some (.lit v)=>K (.lit v) [] []
   |some .nz=>K .nz [] []
   | _ => .no "via")
  | _, _, _ => .no "index")
 |.sl xs=>
  (match Q.elem t,mx with
  |some r,none=>iZ 0 lo fun l=>iZ xs.length hi fun h=>
   fp l (xs.length+1) 0 fun l=>fp h (xs.length+1) 0 fun h=>
    (match decide (l≤h)&&decide (h≤xs.length)&&xs.all (kP r.agg r.size) with
    |true=>K (.sl ((xs.drop l).take (h-l))) [] []
    | false => .no "index")
  | _, _ => .no "index")
 |.ji t' l=>
  (match Q.elem t,mx with
  |some r,none=>(match decide (r.agg=T.agg t')&&decide (r.size=T.size t') with
   |true=>(match lo,hi with
    |none,none=>K (.ji t' l) [] []
    |some lo,none=>fR lo fun a=>.cond (decide (a≤l.length)) (K (.ji t' (l.drop a)) [] []) .fail
    |none,some hi=>fR hi fun b=>.cond (decide (b≤l.length)) (K (.ji t' (l.take b)) [] []) .fail
    |some lo,some hi=>fR lo fun a=>fR hi fun b=>
     .cond (decide (a≤b)&&decide (b≤l.length)) (K (.ji t' ((l.drop a).take (b-a))) [] []) .fail)
   | false => .no "index")
  |some r,some mx=>(match decide (r.agg=T.agg t')&&decide (r.size=T.size t'),hi with
   |true,some hi=>(match lo.isNone&&(TM hi&&TM mx) with
    |true=>K .nz [] []
    |false=>iZ 0 lo fun a=>fR hi fun b=>fR mx fun m=>
    .cond (decide (a≤b)&&decide (b≤m)&&decide (m≤l.length)&&decide (a<m)) (K (.wC t' ((l.drop a).take (b-a)) (m-a) (!l.isEmpty)) [] []) .fail)
   | _, _ => .no "index")
  | _, _ => .no "index")
 |.bp esz n c rg cap=>
  (match Q.elem t,mx,mG H n c rg,H[n]? with
  |some r,none,some (off,len),some (some o)=>(match Nat.beq c o.cur&&decide (esz=r.size) with
   |true=>iZ 0 lo fun a=>iZ len hi fun b=>
    .cond (decide (a≤b)&&decide (b≤cap.getD (o.len-off))&&decide (0<o.len))
     (K (.bp esz n c (some (off+a,b-a)) (cap.map (·-a))) [] []) .fail
   | false => .no "index")
  |some r,some mx,some (off,len),some (some o)=>(match Nat.beq c o.cur&&decide (esz=r.size),hi with
   |true,some hi=>iZ 0 lo fun a=>fR hi fun b=>fR mx fun m=>
    .cond (decide (a≤b)&&decide (b≤m)&&decide (m≤cap.getD (o.len-off))&&decide (0<o.len))
     (K (.bp esz n c (some (off+a,b-a)) (some (m-a))) [] []) .fail
   | _, _ => .no "index")
  | _, _, _, _ => .no "index")
 |.ref n c i j=>(match Q.arr t,mx with
  |some (len,r),none=>iZ 0 lo fun l=>iZ len hi fun h=>
   fp l len 0 fun l=>fp h (len+1) 0 fun h=>(match decide (l≤h) with
    |true=>K (.iI n c i (j+l*r.size) (h-l) (len-l)) [] []
    |false=>.fail)
  | _, _ => .no "index")
 | _ => .no "index"
def Kn(Q:gH)(t:TypeId)(x:SV T.den)(K:EK T ρ):Tr ρ:=
 match Q.arr t,x with
 |some (len,_),.iI n c i j l _=>(match decide (len≤l) with
  |true=>K (.ref n c i j) [] []
  |false=>.fail)
 | _, _ => .no "an array"
def rT(Q:gH)(tp:Bool)(H:ah T.den)(t:TypeId)(x ix:SV T.den)(K:EK T ρ):Tr ρ:=
 fR ix fun i=>
  match x with
  |.sl xs=>(match Q.elem t with
   |some r=>fp i xs.length 0 fun m=>(match xs[m]? with
    |some e=>(match kP r.agg r.size e with
     |true=>K (.bc e 0) [] []
     | false => .no "index")
    | none => .no "index")
   | none => .no "index")
  |.ji t' l=>(match Q.elem t with
   |some r=>(match decide (r.agg=T.agg t')&&decide (r.size=T.size t') with
    |true=>.bind l[i]? fun x=>TN t' x fun v=>K (.bc v 0) [] []
    | false => .no "index")
   | none => .no "index")
  |.bp esz n c rg _=>(match Q.elem t with
   |some r=>(match decide (0<r.size)&&decide (esz=r.size),mG H n c rg,H[n]? with
    |true,some (off,len),some (some (.arr ..))=>fp i len 0 fun m=>K (.ref n c (off+m) 0) [] []
    |true,some (off,len),some (some (.bU ..))=>.cond (decide (i<len)) (K (.ref n c (off+i) 0) [] []) .fail
    | _, _, _ => .no "index")
   | none => .no "index")
  |.iI n c k j len _=>(match Q.elem t with
   |some r=>fp i len 0 fun m=>K (.ref n c k (j+m*r.size)) [] []
   | none => .no "index")
  |.ref n c k j=>(match Q.arr t with
   |some (len,r)=>(match tp with
    |true=>.cond (decide (i<len)) (K (.sy (.ref n c k j) r.size len i) [] []) .fail
    |false=>fp i len 0 fun m=>K (.ref n c k (j+m*r.size)) [] [])
   | none => .no "index")
  |.bc e j=>(match Q.arr t with
   |some (len,r)=>(match tp with
    |true=>.cond (decide (i<len)) (K (.sy (.bc e j) r.size len i) [] []) .fail
    |false=>fp i len 0 fun m=>K (.bc e (j+m*r.size)) [] [])
   | none => .no "index")
  | _ => .no "index"
def EZ(Q:gH)(tp:Bool)(t:TypeId)(x ix:SV T.den)(K:EK T ρ):Tr ρ:=
 match x with
 |.lit v=>(match mE ix with
  |some i=>oD (tO Q.P t (.lit v) i) K
  | none => .no "index")
 |.agg l=>
  (match Q.arr t with
  |some (n,r)=>fR ix fun i=>(match tp&&!r.agg&&Nat.beq r.size 1,(gr (.agg l) 0 1 n).bind (Kl i) with
   |true,some x=>.cond (decide (i<n)) (K x [] []) .fail
   |_,_=>fp i n 0 fun m=>xJ (nx r.agg r.size (.agg l) (m*r.size)) [] K)
  | none => .no "index")
 | _ => .no "index"
inductive Src(den:Nat→Type)where
 |lE (l:List (SV den)) (cl:Bool)
 |yP (t:Nat) (l:List (den t))
def Nc(Q:gH)(H:ah T.den)(xt:TypeId)(x:SV T.den)(K:Src T.den→List Nat→Tr ρ):Tr ρ:=
 match Q.isSlice xt with
 |some true=>(match x with
  |.lit (.slice none 0 0)=>K (.lE [] true) []
  |.sl xs=>K (.lE xs true) []
  |.ji t l=>K (.yP t l) []
  |.bp _ n c rg _=>(match H[n]? with
   |some (some (.arr _ cl _ cur es))=>(match Nat.beq c cur with
    |true=>(match rg with
     |none=>K (.lE es cl) [n]
     |some (off,len)=>if off+len≤es.length then K (.lE ((es.drop off).take len) cl) [n] else .fail)
    | _ => .no "append source")
   |some (some (.bU _ _ cur t l))=>(match Nat.beq c cur with
    |true=>(match rg with
     |none=>K (.yP t l) [n]
     |some (off,len)=>.cond (decide (off+len≤l.length)) (K (.yP t ((l.drop off).take len)) [n]) .fail)
    | _ => .no "append source")
   | _ => .no "append source")
  | _ => .no "append source")
 | _ => .no "append source"
def Src.ok(T:dm)(r:jS):Src T.den→Bool
 |.lE l _=>l.all (kP r.agg r.size)
 |.yP t _=>decide (r.agg=T.agg t)&&decide (r.size=T.size t)
def Src.len{den:Nat→Type}:Src den→Nat
 |.lE l _=>l.length
 |.yP _ l=>l.length
def qZ(r:jS)(n:Nat):Bool:=decide (n*r.bytes≤2^44)&&decide (n≤2^44)
def pL(T:dm)(cur:Nat):aC T.den→Src T.den→Option (aC T.den)
 |.arr _ cl f _ es,.lE ys Xz=>some (.arr true (cl&&Xz) f cur (es++ys))
 |.arr _ true f _ es,.yP t l=>(oC T t es).map fun l0=>.bU true f cur t (l0++l)
 |.bU _ f _ t l,.lE ys true=>(oC T t ys).map fun l2=>.bU true f cur t (l++l2)
 |.bU _ f _ t l,.yP t' l2=>if h:t'=t then some (.bU true f cur t (l++zP h l2)) else none
 |_,_=>none
def aC.flags{den:Nat→Type}:aC den→Bool×Bool×Bool
 |.arr g cl f _ _=>(g,cl,f)
 |.bU g f _ _ _=>(g,true,f)
 |.gT|.j0 _ _ _=>(false,true,true)
 |.oJ _ _ _ _ _=>(false,false,true)
def aC.xK(T:dm)(r:jS):aC T.den→Bool
 |.arr _ _ _ _ es=>es.all (kP r.agg r.size)
 |.bU _ _ _ t _=>decide (r.agg=T.agg t)&&decide (r.size=T.size t)
 |_=>false
def xL{den:Nat→Type}:Src den→aC den
 |.lE l cl=>.arr true cl false 0 l
 |.yP t l=>.bU true false 0 t l
def nY(T:dm)(y:Src T.den)(a b:Tr ρ):Tr ρ:=
 match y with
 |.lE l _=>(match l with
  |[]=>a
  |_::_=>b)
 |.yP _ l=>.cond l.isEmpty a b
def Hy{α:Type}(l:List α)(i:Nat)(ys:List α):List α:=l.take i++(ys++l.drop (i+ys.length))
def uF(T:dm):aC T.den→Nat→Src T.den→Option (aC T.den)
 |.bU g f cur t l,i,.yP t' l2=>if h:t'=t then some (.bU g f cur t (Hy l i (zP h l2))) else none
 |.bU g f cur t l,i,.lE ys true=>(oC T t ys).map fun l2=>.bU g f cur t (Hy l i l2)
 |_,_,_=>none
def A3(Q:gH)(nm:Nat)(H:ah T.den)(t xt:TypeId)(s x:SV T.den)(K:EK T ρ):Tr ρ:=
 match Q.elem t with
 | none => .no "append"
 |some r=>Nc Q H xt x fun y rd=>
  match (r.zero).isSome&&decide (0<r.size)&&y.ok T r with
  | false => .no "append"
  |true=>(match s with
   |.lit (.slice none 0 0)=>nY T y (K s [] rd)
     (.cond (qZ r y.len) (K (.bp r.size nm 0 none none) [(nm,xL y)] rd) .fail)
   |.nz=>nY T y (K s [] rd)
     (.cond (qZ r y.len) (K (.bp r.size nm 0 none none) [(nm,xL y)] rd) .fail)
   |.sl _|.ji _ _=>nY T y (K s [] rd) .fail
   |.wC t' l c b=>nY T y (K (.ji t' l) [] rd)
     (.cond (b&&decide (c<l.length+y.len)&&qZ r (l.length+y.len))
       (match decide (r.agg=T.agg t')&&decide (r.size=T.size t'),pL T 0 (.bU true false 0 t' l) y with
       |true,some o'=>K (.bp r.size nm 0 none none) [(nm,o')] rd
       | _, _ => .no "append") .fail)
   |.bp esz n c rg cap=>(match H[n]? with
    |some (some o)=>(match Nat.beq c o.cur&&!o.flags.2.2&&decide (esz=r.size) with
     |true=>(match cap,rg with
      |none,none=>(match y with
       |.lE [] _=>K s [] rd
       |_=>(match o.flags.1,pL T (o.cur+1) o y with
        |true,some o'=>.cond (qZ r (o.len+y.len)) (K (.bp esz n (o.cur+1) none none) [(n,o')] (n::rd)) .fail
        | _, _ => .no "append"))
      |some k,none=>nY T y (K s [] rd)
       (.cond (decide (o.len+y.len≤k)) .fail
         (match o.xK T r,pL T 0 o y with
         |true,some o'=>.cond (qZ r (o.len+y.len)) (K (.bp esz nm 0 none none) [(nm,o')] (n::rd)) .fail
         | _, _ => .no "append"))
      |some k,some (off,len)=>(match uF T o (off+len) y with
        |some o'=>.cond (decide (len+y.len≤k)&&decide (off+len+y.len≤o.len)) (K (.bp esz n c (some (off,len+y.len)) (some k)) [(n,o')] (n::rd)) .fail
        | none => .no "append")
      | _, _ => .no "append")
     | false => .no "append")
    | _ => .no "append")
   | _ => .no "append")
def Ko(Q:gH)(H:ah T.den)(t:TypeId)(d x:SV T.den)(K:EK T ρ):Tr ρ:=
 match Q.elem t,Q.isSlice t with
 |some r,some true=>Nc Q H t x fun y rd=>(match y.ok T r&&decide (0<r.size),d with
  |true,.bp esz n c rg _=>(match mG H n c rg,H[n]? with
   |some (off,len),some (some o)=>(match Nat.beq c o.cur&&!o.flags.2.2&&decide (esz=r.size),uF T o off y with
    |true,some o'=>.cond (decide (off+len≤o.len)&&decide (y.len≤len)) (K (.lit (.int .i64 y.len)) [(n,o')] (n::rd)) .fail
    | _, _ => .no "copy")
   | _, _ => .no "copy")
  | _, _ => .no "copy")
 | _, _ => .no "copy"
def Pz(Q:gH)(H:ah T.den)(argTypes:Array TypeId)(type:TypeId)(x:SV T.den)(K:EK T ρ):Tr ρ:=
 match argTypes.toList with
 |[t]=>(match Q.isSlice t with
  |some true=>(match x with
   |.lit (.slice none 0 0)=>K (.lit (.int .i64 0)) [] []
   |.nz=>K (.lit (.int .i64 0)) [] []
   |.sl xs=>K (.lit (.int .i64 xs.length)) [] []
   |.ji _ l|.wC _ l _ _=>K (.lit (.int .i64 l.length)) [] []
   |.bp _ n c rg _=>(match mG H n c rg with
    |some (_,len)=>K (.lit (.int .i64 len)) [] []
    | none => .no "builtin")
   |.iI _ _ _ _ len _=>K (.lit (.int .i64 len)) [] []
   | _ => .no "builtin")
  | none => .no "builtin"
  |some false=>(match x with
   | .lit (.slice none 0 0) => .no "builtin"
   |.lit v=>oD ((bu Q.P (Builtin.len_ argTypes type #[v])).bind gB) K
   |.agg _|.ref ..|.bc ..=>(match Q.arr t with
    |some (n,_)=>K (.lit (.int .i64 n)) [] []
    | none => .no "builtin")
   | _ => .no "builtin"))
 | _ => .no "builtin"
def xM(Q:gH)(nm:Nat)(H:ah T.den)(b:Builtin)(argTypes:Array TypeId)(type:TypeId)(args:List (SV T.den))(K:EK T ρ):Tr ρ:=
 match b with
 |.append=>(match argTypes.toList,args with
  |[t,xt],[s,x]=>A3 Q nm H t xt s x K
  | _, _ => .no "builtin")
 |.copy=>(match argTypes.toList,args with
  |[t,_],[d,x]=>Ko Q H t d x K
  | _, _ => .no "builtin")
 |.len=>(match args with
  |[x]=>Pz Q H argTypes type x K
  | _ => .no "builtin")
 |.max=>(match mj args with
  |some vs=>oD ((bu Q.P (Builtin.max_ argTypes type vs.toArray)).bind gB) K
  | none => .no "builtin")
 |.min=>(match mj args with
  |some vs=>oD ((bu Q.P (Builtin.min_ argTypes type vs.toArray)).bind gB) K
  | none => .no "builtin")
 | _ => .no "builtin"
def PA(op:BinOp)(k:IntKind)(a b:Int):Option Value:=
 match op with
 |.lss=>some (.bool (decide (a<b)))
 |.leq=>some (.bool (decide (a≤b)))
 |.gtr=>some (.bool (decide (b<a)))
 |.geq=>some (.bool (decide (b≤a)))
 |.eql=>some (.bool (a==b))
 |.neq=>some (.bool (!(a==b)))
 |.add=>some (.int k (k.wrap (a+b)))
 |.sub=>some (.int k (k.wrap (a-b)))
 |.mul=>some (.int k (k.wrap (a*b)))
 |_=>none
def PB(op:BinOp)(k:IntKind)(a b:Int):Option Value:=
 match op with
 |.quo=>some (.int k (k.wrap (a.tdiv b)))
 |.rem=>some (.int k (a.tmod b))
 |_=>none
def Ve(op:BinOp)(k:IntKind)(a b:Int):Option Value:=
 match op with
 |.shl=>some (.int k (k.wrap (a*2^min b.toNat k.bits)))
 |.shr=>some (.int k (a.fdiv (2^min b.toNat k.bits)))
 |_=>none
def R0:Operand→Bool
 |.tmp _=>true
 |_=>false
def CK.fits:CK→Value→Bool
 |.bool,.bool _=>true
 |.int k,.int k' _=>decide (k=k')
 |.str,.string _=>true
 |_,_=>false
def bj:List CK→List Value→Bool
 |[],[]=>true
 |k::ks,v::vs=>k.fits v&&bj ks vs
 |_,_=>false
def rU:Value→Value→Bool
 |.bool a,.bool b=>a==b
 |.int _ a,.int _ b=>a==b
 |.string a,.string b=>a==b
 |_,_=>false
def cI:List Value→List Value→Bool
 |[],[]=>true
 |x::xs,y::ys=>rU x y&&cI xs ys
 |_,_=>false
def wD(x y:Value)(K:Bool→Tr ρ):Tr ρ:=
 match x,y with
 |.bool a,.bool b=>K (a==b)
 |.int _ a,.int _ b=>K (a==b)
 |.string a,.string b=>K (a==b)
 |_,_=>K false
def kQ:List Value→List Value→(Bool→Tr ρ)→Tr ρ
 |[],[],K=>K true
 |[x],[y],K=>wD x y K
 |x::x'::xs,y::y'::ys,K=>wD x y fun e=>kQ (x'::xs) (y'::ys) fun r=>K (e&&r)
 |_,_,K=>K false
def E5(Q:gH)(op:BinOp)(t:TypeId)(l l':List (SV T.den))(K:EK T ρ):Tr ρ:=
 match mj l,mj l',Q.ty t with
 |some c,some c',some m=>
  (match m.Oi with
  |some ks=>(match m.agg&&bj ks c&&bj ks c' with
   |true=>kQ c c' fun e=>(match op with
    |.eql=>K (.lit (.bool e)) [] []
    |.neq=>K (.lit (.bool (!e))) [] []
    | _ => .no "==")
   | false => .no "==")
  | none => .no "==")
 | _, _, _ => .no "=="
def PC(Q:gH)(op:BinOp)(t:TypeId)(xo yo:Operand)(x y:SV T.den)(K:EK T ρ):Tr ρ:=
 match x,y with
 |.lit (.int k a),.lit (.int k' b)=>(match decide (k=k'),PA op k a b with
  |true,some v=>K (.lit v) [] []
  |_,_=>(match decide (k=k'),PB op k a b with
   |true,some v=>.cond (decide (b=0)) .fail (K (.lit v) [] [])
   |_,_=>(match R0 yo,Ve op k a b with
    |true,some v=>.cond (decide (b<0)) .fail (K (.lit v) [] [])
    |_,_=>oD (fh Q.P op t xo yo (.lit (.int k a)) (.lit (.int k' b))) K)))
 |.agg l,.agg l'=>E5 Q op t l l' K
 |_,_=>(match mE x,mE y with
  |some a,some b=>oD (fh Q.P op t xo yo a b) K
  |_,_=>(match y with
   |.lit b=>oD (A1 Q.P op t x b) K
   |_=>(match x with
    |.lit a=>oD (A1 Q.P op t y a) K
    |_=>.fail)))
def Kp(t:Bool)(a b:SV T.den)(K:EK T ρ):Tr ρ:=
 match a,b with
 |.lit (.bool x),.lit (.bool y)=>K (.lit (.bool (cond t x y))) [] []
 |.lit (.int k x),.lit (.int k' y)=>if k=k' then K (.lit (.int k (cond t x y))) [] [] else .cond t (K a [] []) (K b [] [])
 |_,_=>.cond t (K a [] []) (K b [] [])
def A4(c:Bool)(v:SV T.den)(b:Bool):SV T.den:=
 match c with
 |true=>.jj [v,.lit (.bool b)]
 |false=>v
def tu{kk qJ:KK}{t t':Nat}(h:kk=qJ∧t=t')(m:List (kk.D×T.den t)):List (qJ.D×T.den t'):=by
 obtain⟨rfl,rfl⟩:=h; exact m
def A5(Q:gH)(H:ah T.den)(t:TypeId)(x ix:SV T.den)(c:Bool)(K:EK T ρ):Tr ρ:=
 match Q.mapOf t with
 |some (kk,et)=>(match (Q.ty et).bind (·.zero),T.zero et,ix with
  |some _,some z,.lit k=>(match kk.get k,x with
   |some _,.lit (.map none)=>K (A4 c (T.up et z) false) [] []
   |some k',.mp false n=>(match H[n]? with
    |some (some (.j0 qJ t' m))=>
     if h:qJ=kk∧t'=et then
      K (A4 c (T.up et ((kx kk (tu h m) k').getD z)) (kx kk (tu h m) k').isSome) [] [n]
     else .no "map"
    | _ => .no "map")
   | _, _ => .no "map")
  | _, _, _ => .no "map")
 | none => .no "map"
def rV(Q:gH)(H:ah T.den)(t:TypeId)(x ix v:SV T.den)(K:EK T ρ):Tr ρ:=
 match Q.mapOf t with
 |some (kk,_)=>(match ix,x with
  |.lit k,.mp false n=>(match kk.get k,H[n]? with
   |some k',some (some (.j0 qJ t' m))=>
    (match bN v,T.dn t' v with
    | false, some y => if h : qJ = kk ∧ t' = t' then K (.lit undef) [(n, .j0 kk t' (mC kk (tu h m) k' y))] [n] else .no "map"
    | _, _ => .no "map")
   | _, _ => .no "map")
  | _, _ => .no "map")
 | none => .no "map"
def xN(Q:gH)(nm:Nat)(t:TypeId)(r:Option (SV T.den))(K:EK T ρ):Tr ρ:=
 match Q.mapOf t with
 |some (kk,et)=>iZ 0 r fun _=>K (.mp false nm) [(nm,.j0 kk et [])] []
 | none => .no "map"
def Nd(Q:gH)(nm:Nat)(H:ah T.den)(ev:Operand→SV T.den)(o:Oper)(K:EK T ρ):Tr ρ:=
 match o.op with
 |.move x|.assign x=>K (ev x) [] []
 |.pick c a b=>(match ev c with
  |.lit (.bool t)=>Kp t (ev a) (ev b) K
  | _ => .no "pick")
 |.alloc t=>(match Q.ty t with
  |some r=>(match (r.zero).bind gq with
   |some z=>if 0<r.size then K (.ref nm 0 0 0) [(nm,.arr false true false 0 [z])] [] else .fail
   |none=>.fail)
  |none=>.fail)
 |.box _ x=>
  if (bI (ev x)).all gn=true∧0<(bI (ev x)).length∧bN (ev x)=false then
   K (.ref nm 0 0 0) [(nm, .arr false (av (bI (ev x))) false 0 [ev x])] [] else .no "box"
 | .build t parts => if ((parts.toList.map fun p => (p.1, ev p.2)).any fun p => bN p.2) = true then .no "build" else xJ (EY Q t (parts.toList.map fun p => (p.1, ev p.2))) [] K
 | .buildSlice t len parts => if ((parts.toList.map fun p => (p.1, ev p.2)).any fun p => bN p.2) = true then .no "build" else pK Q nm t len (parts.toList.map fun p => (p.1, ev p.2)) K
 |.load t a=>(match Q.ty t with
  |some r=>Gm r H (ev a) K
  |none=>.fail)
 |.store t a x=>(match Q.ty t with
  |some r=>EX r H (ev a) (ev x) K
  |none=>.fail)
 |.nilCheck x=>(match ev x with
  |.ref n c i j=>K (.ref n c i j) [] []
  |.bc e j=>K (.bc e j) [] []
  |.fZ t y=>K (.fZ t y) [] []
  |.iK (.func f) a c=>K (.iK (.func f) a c) [] []
  |.lit (.func (.func f) a c)=>K (.lit (.func (.func f) a c)) [] []
  | _ => .no "nilCheck")
 |.binOp op t x y _=>PC Q op t x y (ev x) (ev y) K
 |.unOp op _ x=>(match ev x with
  |.lit a=>oD ((bu Q.P (Op.unary op a)).bind gB) K
  | _ => .no "unOp")
 |.convert s d x=>(match ev x with
  |.lit a=>oD ((bu Q.P (convert s d a)).bind gB) K
  | _ => .no "convert")
 |.makeInterface t x=>if (jq Q.P t||(Q.P.underlying t).isNone||bN (ev x))=true then .fail else K (.fZ t (ev x)) [] []
 |.makeFunc fn first captured=>
  if first.isEmpty&&captured.isEmpty then K (.lit (.func fn #[] #[])) [] []
  else if (first.toList.map ev).any bN||(captured.toList.map ev).any bN then .fail
  else K (.iK fn (first.toList.map ev) (captured.toList.map ev)) [] []
 |.makeSlice t l c=>(match Km l c with
  |true=>rS Q nm t (ev l) K
  |false=>rR Q nm t (ev l) (ev c) K)
 |.slice t x lo hi mx=>Py Q H t (ev x) (lo.map ev) (hi.map ev) (mx.map ev) K
 |.sliceToArrayPointer t x=>Kn Q t (ev x) K
 |.fieldAddr s x f=>(match Q.TL s f,ev x with
  |some (off,_),.ref n c i j=>K (.ref n c i (j+off)) [] []
  |some (off,_),.bc e j=>K (.bc e (j+off)) [] []
  |some (off,_),.sy v aV len i=>K (.sy (ic off v) aV len i) [] []
  | _, _ => .no "fieldAddr")
 |.field s x f=>(match Q.TL s f,ev x with
  |some (off,r),.agg l=>xJ (nx r.agg r.size (.agg l) off) [] K
  | _, _ => .no "field")
 |.indexAddr t x ix=>rT Q (match o.dst with|some d=>Q.tp d|none=>false) H t (ev x) (ev ix) K
 |.index t x ix=>EZ Q (match o.dst with|some d=>Q.tp d|none=>false) t (ev x) (ev ix) K
 |.makeMap t r=>xN Q nm t (r.map ev) K
 |.lookup t x ix c=>A5 Q H t (ev x) (ev ix) c K
 |.mapUpdate t m k x=>rV Q H t (ev m) (ev k) (ev x) K
 |.extract t ix=>(match ev t with
  |.jj l=>xJ l[ix]? [] K
  | _ => .no "extract")
 |.call c=>(match c.callee with
  |.builtin b=>xM Q nm H b c.argTypes o.type (c.args.toList.map ev) K
  | _ => .no "call")
 | _ => .no "op"
end
section
variable {T:dm}{ρ:Type}
def Nf(dst:Option Tmp)(wf:List Nat):List Nat:=
 match dst with
 |some d=>d::wf
 |none=>wf
def bx.step(s:bx T.den)(dst:Option Tmp)(v:SV T.den)(wr:List (Nat×aC T.den)):bx T.den:=
 { s with fr:=Kk s.n s.fr dst v,hp:=ba s.hp wr,wf:=Nf dst s.wf,wh:=wr.map (·.1)++s.wh }
def xO(v:Value)(K:Value→Tr ρ):Tr ρ:=
 match v with
 |.int k n=>K (.int k n)
 |.bool b=>K (.bool b)
 |.string s=>K (.string s)
 |v=>K v
mutual
def dr:SV T.den→(SV T.den→Tr ρ)→Tr ρ
 |.lit v,K=>xO v fun v=>K (.lit v)
 |.agg l,K=>lF l fun l=>K (.agg l)
 |.jj l,K=>lF l fun l=>K (.jj l)
 |.sl l,K=>lF l fun l=>K (.sl l)
 |.bc e j,K=>dr e fun e=>K (.bc e j)
 |.iK fn f c,K=>lF f fun f=>lF c fun c=>K (.iK fn f c)
 |.fZ t v,K=>dr v fun v=>K (.fZ t v)
 |.dead,K=>K .dead
 |.hole,K=>K .hole
 |.ji t l,K=>K (.ji t l)
 |.ref n c i j,K=>K (.ref n c i j)
 |.iI n c i j ln cp,K=>K (.iI n c i j ln cp)
 |.bp esz n c rg cap,K=>K (.bp esz n c rg cap)
 |.mp y n,K=>K (.mp y n)
 |.wC t l c b,K=>K (.wC t l c b)
 |.nz,K=>K .nz
 |.sy v s len i,K=>dr v fun v=>K (.sy v s len i)
def lF:List (SV T.den)→(List (SV T.den)→Tr ρ)→Tr ρ
 |[],K=>K []
 |x::xs,K=>dr x fun x=>lF xs fun xs=>K (x::xs)
end
def Kq(o:aC T.den)(K:aC T.den→Tr ρ):Tr ρ:=
 match o with
 |.arr g cl f c es=>lF es fun es=>K (.arr g cl f c es)
 |.bU g f c t l=>K (.bU g f c t l)
 |.gT=>K .gT
 |.j0 kk t m=>K (.j0 kk t m)
 |.oJ fn ps as bd fr=>lF fr fun fr=>K (.oJ fn ps as bd fr)
def mH:ah T.den→(ah T.den→Tr ρ)→Tr ρ
 |[],K=>K []
 |none::r,K=>mH r fun r=>K (none::r)
 |some o::r,K=>Kq o fun o=>mH r fun r=>K (some o::r)
def rW:List Nat→(List Nat→Tr ρ)→Tr ρ
 |[],K=>K []
 |x::r,K=>rW r fun r=>K (x::r)
def A6:sz T.den→(sz T.den→Tr ρ)→Tr ρ
 |[],K=>K []
 |(d,v)::r,K=>dr v fun v=>A6 r fun r=>K ((d,v)::r)
def bx.force(s:bx T.den)(K:bx T.den→Tr ρ):Tr ρ:=
 match s with
 |⟨fn,n,fr,hp,wf,wh,js⟩=>A6 fr fun fr=>mH hp fun hp=>rW wf fun wf=>rW wh fun wh=>K ⟨fn,n,fr,hp,wf,wh,js⟩
def E6(hp:ah T.den)(wh:List Nat)(wr:List (Nat×aC T.den))(K:ah T.den→List Nat→Tr ρ):Tr ρ:=
 match wr with
 |[]=>K hp wh
 |w::r=>mH (ba hp (w::r)) fun hp=>rW ((w::r).map (·.1)++wh) fun wh=>K hp wh
def bx.fb(s:bx T.den)(dst:Option Tmp)(v:SV T.den)(wr:List (Nat×aC T.den))(K:bx T.den→Tr ρ):Tr ρ:=
 match s with
 |⟨fn,n,fr,hp,wf,wh,js⟩=>E6 hp wh wr fun hp wh=>
  match dst with
  |none=>K ⟨fn,n,fr,hp,wf,wh,js⟩
  |some d=>(match Nat.ble n d with
   |true=>K ⟨fn,n,fr,hp,d::wf,wh,js⟩
   |false=>dr v fun v=>K ⟨fn,n,(d,v)::fr,hp,d::wf,wh,js⟩)
def nZ(ops:Array Oper):List Oper→(List (G×Oper)→Tr ρ)→Tr ρ
 |[],K=>K []
 |o::r,K=>(match eM ops o with
  |.always=>nZ ops r fun l=>K ((.always,o)::l)
  |.never=>nZ ops r fun l=>K ((.never,o)::l)
  |.on d w=>nZ ops r fun l=>K ((.on d w,o)::l))
def wE(g:G)(s:bx T.den)(K:bx T.den→Bool→Tr ρ):Tr ρ:=
 match g with
 |.always=>K s true
 |.never=>K s false
 |.on d want=>(match cH s.fr d with
  |.lit (.bool b)=>.cond b (s.fb (some d) (.lit (.bool true)) [] fun s=>K s (true==want)) (s.fb (some d) (.lit (.bool false)) [] fun s=>K s (false==want))
  |.lit (.tuple _)=>K s false
  | _ => .no "guard")
def lG(fv:SV T.den)(args:List (SV T.den)):Option (FuncId×List (SV T.den)):=
 match fv with
 |.lit (.func (.func f) first captured)=>some (f,first.toList.map .lit++args++captured.toList.map .lit)
 |.iK (.func f) first captured=>some (f,first++args++captured)
 |_=>none
mutual
def fS(T:dm)(H:ah T.den):Nat→SV T.den→(SV T.den→List Nat→Tr ρ)→Tr ρ
 | 0, _, _ => .no "seal"
 |k+1,v,K=>match v with
  |.bp _ n c rg _=>(match H[n]? with
   |some (some (.arr _ cl _ cur es))=>(match Nat.beq c cur with
    |true=>(match rg with
     |none=>(match cl with
      |true=>K (.sl es) [n]
      |false=>fT T H k es fun l rd=>K (.sl l) (n::rd))
     |some (off,len)=>if off+len≤es.length then (match cl with
      |true=>K (.sl ((es.drop off).take len)) [n]
      | false => fT T H k ((es.drop off).take len) fun l rd => K (.sl l) (n :: rd)) else .no "seal")
    | false => .no "seal")
   |some (some (.bU _ _ cur t l))=>(match Nat.beq c cur with
    |true=>(match rg with
     |none=>K (.ji t l) [n]
     |some (off,len)=>.cond (decide (off+len≤l.length)) (K (.ji t ((l.drop off).take len)) [n]) .fail)
    | false => .no "seal")
   | _ => .no "seal")
  |.ref n c i j=>(match H[n]? with
   |some (some (.arr _ cl _ cur es))=>(match Nat.beq c cur,es[i]? with
    |true,some e=>(match cl with
     |true=>K (.bc e j) [n]
     |false=>fS T H k e fun e' rd=>K (.bc e' j) (n::rd))
    | _, _ => .no "seal")
   | _ => .no "seal")
  |.iI n c i j ln cp=>(match H[n]? with
   |some (some (.arr _ cl _ cur es))=>(match Nat.beq c cur,es[i]? with
    |true,some (.agg cs)=>(match decide (ln≤cp)&&decide (j+ln≤cs.length) with
     |true=>(match cl with
      |true=>K (.sl ((cs.drop j).take ln)) [n]
      |false=>fT T H k ((cs.drop j).take ln) fun l rd=>K (.sl l) (n::rd))
     | false => .no "seal")
    | _, _ => .no "seal")
   | _ => .no "seal")
  |.agg l=>fT T H k l fun l rd=>K (.agg l) rd
  |.jj l=>fT T H k l fun l rd=>K (.jj l) rd
  |.fZ t v=>fS T H k v fun v rd=>K (.fZ t v) rd
  |.iK fn f c=>fT T H k f fun f rd=>fT T H k c fun c rd2=>K (.iK fn f c) (rd++rd2)
  |.sl xs=>K (.sl xs) []
  |.ji t l=>K (.ji t l) []
  |.wC t l _ _=>K (.ji t l) []
  |.nz=>K (.sl []) []
  |.bc e j=>K (.bc e j) []
  |.lit v=>(match v with
   |.slice none 0 0=>K (.sl []) []
   |v=>K (.lit v) [])
  | _ => .no "seal"
def fT(T:dm)(H:ah T.den):Nat→List (SV T.den)→(List (SV T.den)→List Nat→Tr ρ)→Tr ρ
 | 0, _, _ => .no "seal"
 |k+1,xs,K=>match xs with
  |[]=>K [] []
  |x::xs=>fS T H k x fun y rd=>fT T H k xs fun ys rd2=>K (y::ys) (rd++rd2)
end
def ml(T:dm)(H:ah T.den):Nat→List Nat→(List (Nat×aC T.den)→List Nat→Tr ρ)→Tr ρ
 | 0, _, _ => .no "seal"
 |k+1,ns,K=>match ns with
  |[]=>K [] []
  |n::r=>(match H[n]? with
   |some (some (.arr g cl _ cur es))=>(match cl with
    |true=>ml T H k r fun l rd=>K ((n,.arr g true true cur es)::l) (n::rd)
    |false=>fT T H 1000 es fun es' rd=>ml T H k (mi es++r) fun l rd2=>K ((n,.arr g true true cur es')::l) (n::rd++rd2))
   |some (some (.bU g _ cur t l))=>ml T H k r fun w rd=>K ((n,.bU g true cur t l)::w) (n::rd)
   | _ => .no "seal")
def Hz(T:dm)(σ:uB T)(H:ah T.den)(args:List (SV T.den))(K:EK T ρ):Tr ρ:=
 fT T H 1000 args fun as rd=>
  match (Hw T σ.args as).bind (uA (σ.args.map .v)) with
  |some xs=>.bind (σ.fn xs) fun r=>
   match qN (Px T (fQ (σ.res.map .v) r)) with
   |v=>(match vH v with
    |true=>K v [] rd
    |false=>ml T H 1000 (mi args) fun wr rd2=>K v wr (rd++rd2))
  | none => .no "seal"
def Ng(T:dm)(σ:vI T)(nm:Nat)(H:ah T.den)(args:List (SV T.den))(K:EK T ρ):Tr ρ:=
 fT T H 1000 args fun as rd=>
  match (Hw T σ.args as).bind (uA (σ.args.map .v)) with
  |some xs=>.bind (σ.fn xs) fun l=>K (.bp σ.esz nm 0 none none) [(nm,.bU true false 0 σ.el l)] rd
  | none => .no "seal"
def fU(n:Nat)(r:SV T.den)(hp:ah T.den):ah T.den:=
 if bt n r&&(hp.take n).all (jR n) then hp.take n else hp
def qv(n:Nat)(v:SV T.den):SV T.den:=if bt n v then v else .dead
def jC(n:Nat)(s:bx T.den):bx T.den:=
 if (s.hp.take n).all (jR n) then { s with fr:=s.fr.map fun q=>(q.1,qv n q.2),hp:=s.hp.take n } else s
def rX(T:dm)(Q:gH)(s:bx T.den):List ResultVar→(List (SV T.den)→Tr ρ)→Tr ρ
 |[],K=>K []
 |.tmp t::rs,K=>(match cH s.fr t with
  |.dead=>.fail
  |v=>rX T Q s rs fun l=>K (v::l))
 |.cell a t::rs,K=>(match Q.ty t with
  |some r=>Gm r s.hp (cH s.fr a) fun v _ _=>rX T Q s rs fun l=>K (v::l)
  |none=>.fail)
def keyOf:Code→Nat
 |.region id _ _=>id
 |.seq a _=>keyOf a
 |.cond _ a _=>keyOf a
 |.block _ b|.loop b|.scope b=>keyOf b
 |_=>0
def rY(b:Code)(s:bx T.den):Nat:=keyOf b+1000*s.hp.length
def HA(T:dm)(x:TV T.den):Nat:=
 match RZ T x with
 |.lit (.int _ m)=>m.toNat
 |_=>0
def isHole{den:Nat→Type}:SV den→Bool
 |.hole=>true
 |_=>false
def fG(H:ah T.den):oM→List (TV T.den)→SV T.den×List (TV T.den)
 |.hole,l=>(.hole,l)
 |.Hx esz n rg cap,l=>((match H[n]? with
  |some (some o)=>.bp esz n o.cur rg cap
  |_=>.dead),l)
 |.iI n i j len cap,l=>((match H[n]? with
  |some (some o)=>.iI n o.cur i j len cap
  |_=>.dead),l)
 |.val _,l=>(match l with
  |x::r=>(RZ T x,r)
  |[]=>(.dead,[]))
 |.own esz n,l=>((match H[n]? with
  |some (some o)=>.bp esz n o.cur none none
  |_=>.dead),l)
 |.QC esz n _ k,l=>(match k with
  |false=>(match l with
   |x::y::r=>((match H[n]? with
    |some (some o)=>.bp esz n o.cur (some (HA T x,HA T y)) none
    |_=>.dead),r)
   |_=>(.dead,[]))
  |true=>(match l with
   |x::y::z::r=>((match H[n]? with
    |some (some o)=>.bp esz n o.cur (some (HA T x,HA T y)) (some (HA T z))
    |_=>.dead),r)
   |_=>(.dead,[])))
def ja(H:ah T.den):List oM→List (TV T.den)→List (SV T.den)×List (TV T.den)
 |[],l=>([],l)
 |p::ps,l=>match fG H p l with
  |(v,l')=>match ja H ps l' with
   |(vs,Zn)=>(v::vs,Zn)
def mn:aC T.den→cO→aC T.den
 |.arr g _ f c _,.list t=>.bU g f (c+1) t []
 |.bU g f c _ _,.list t=>.bU g f (c+1) t []
 |.arr g _ f c _,.fix t=>.bU g f c t []
 |.bU g f c _ _,.fix t=>.bU g f c t []
 |.j0 kk t _,.map _ _=>.j0 kk t []
 |o,_=>o
def ra(H:ah T.den):List (Nat×cO)→ah T.den
 |[]=>H
 |(n,p)::r=>match H[n]? with
  |some (some o)=>ra (H.set n (some (mn o p))) r
  |_=>ra H r
def jb(H:ah T.den)(o:aC T.den):cO→List (TV T.den)→aC T.den×List (TV T.den)
 |.list _,l|.fix _,l=>(match o,l with
  |.bU g f c _ _,⟨.l t,x⟩::r=>(.bU g f c t x,r)
  |_,_=>(o,l))
 |.one p,l=>(match o,fG H p l with
  |.arr g cl f c _,(v,r)=>(.arr g cl f c [v],r)
  |_,_=>(o,l))
 |.agg ps,l=>(match o,ja H ps l with
  |.arr g cl f c _,(vs,r)=>(.arr g cl f c [.agg vs],r)
  |_,_=>(o,l))
 |.map _ _,l=>(match o,l with
  |.j0 _ _ _,⟨.m kk t,x⟩::r=>(.j0 kk t x,r)
  |_,_=>(o,l))
def fV:ah T.den→List (Nat×cO)→List (TV T.den)→ah T.den
 |H,[],_=>H
 |H,(n,p)::r,l=>match H[n]? with
  |some (some o)=>(match jb H o p l with
   |(o',l')=>fV (H.set n (some o')) r l')
  |_=>fV H r l
def qw(n:Nat)(H:ah T.den):sz T.den→List (Nat×oM)→List (TV T.den)→sz T.den×List (TV T.den)
 |fr,[],l=>(fr,l)
 |fr,(d,p)::r,l=>match fG H p l with
  |(v,l')=>qw n H (tn n fr d v) r l'
def zR(n:Nat)(fr:sz T.den):List Nat→sz T.den
 |[]=>fr
 |d::r=>zR n (tn n fr d .dead) r
def HB:oN→Option (aC T.den)
 |.gT=>some .gT
 |.list g f t=>some (.bU g f 0 t [])
def aZ:Nat→List oN→List (Nat×cO)
 |_,[]=>[]
 |n,.gT::r=>aZ (n+1) r
 |n,.list _ _ t::r=>(n,.list t)::aZ (n+1) r
def c6(az:List (Nat×oM))(dead:List Nat)(objs:List (Nat×cO))(ext:List oN)(s:bx T.den)(l:List (TV T.den)):bx T.den:=
 match qw s.n (ra s.hp objs++ext.map HB) (zR s.n s.fr dead) az l with
 |(fr,l')=>{ s with fr:=fr,hp:=fV (ra s.hp objs++ext.map HB) (objs++aZ s.hp.length ext) l' }
def fq(H:ah T.den)(p:oM)(v:SV T.den):Option (List (TV T.den)):=
 match p with
 |.hole=>(match isHole v with
  |true=>some []
  |false=>none)
 |.Hx esz n rg cap=>(match v with
  |.bp xP n' c Vf E7=>(match H[n]? with
   |some (some o)=>if xP=esz∧n'=n∧c=o.cur∧Vf=rg∧E7=cap then some [] else none
   |_=>none)
  |_=>none)
 |.iI n i j len cap=>(match v with
  |.iI n' c i' j' Nh E7=>(match H[n]? with
   |some (some o)=>if n'=n∧c=o.cur∧i'=i∧j'=j∧Nh=len∧E7=cap then some [] else none
   |_=>none)
  |_=>none)
 |.val t=>(match bN v with
  |true=>none
  |false=>match T.dn t v with
   |some x=>some [⟨.v t,x⟩]
   |none=>none)
 |.own esz n=>match v with
  |.bp xP n' c none none=>(match H[n]? with
   |some (some o)=>if xP=esz∧n'=n∧c=o.cur then some [] else none
   |_=>none)
  |_=>none
 |.QC esz n t k=>match v with
  |.bp xP n' c rg cap=>(match H[n]?,mG H n' c rg with
   |some (some o),some (off,len)=>if xP=esz∧n'=n∧c=o.cur then
     (T.dn t (.lit (.int .i64 off))).bind fun x=>(T.dn t (.lit (.int .i64 len))).bind fun y=>(match k,cap with
       |false,none=>some [⟨.v t,x⟩,⟨.v t,y⟩]
       |true,some m=>(T.dn t (.lit (.int .i64 m))).map fun z=>[⟨.v t,x⟩,⟨.v t,y⟩,⟨.v t,z⟩]
       |_,_=>none) else none
   |_,_=>none)
  |_=>none
def gY(H:ah T.den):List oM→List (SV T.den)→Option (List (TV T.den))
 |[],[]=>some []
 |p::ps,v::vs=>(fq H p v).bind fun l=>(gY H ps vs).map fun r=>l++r
 |_,_=>none
def eb(H:ah T.den)(o:aC T.den):cO→Option (List (TV T.den))
 |.list t|.fix t=>(match o with
  |.bU _ _ _ t' l=>if h:t'=t then some [⟨.l t,zP h l⟩] else none
  |.arr _ true _ _ es=>(oC T t es).map fun l=>[⟨.l t,l⟩]
  |_=>none)
 |.one p=>(match o with
  |.arr _ _ _ _ [v]=>fq H p v
  |_=>none)
 |.agg ps=>(match o with
  |.arr _ _ _ _ [.agg vs]=>gY H ps vs
  |_=>none)
 |.map kk t=>(match o with
  |.j0 qJ t' m=>if qJ=kk∧t'=t then some [⟨.m qJ t',m⟩] else none
  |_=>none)
def jT(H:ah T.den):List (Nat×cO)→Option (List (TV T.den))
 |[]=>some []
 |(n,p)::r=>match H[n]? with
  |some (some o)=>(eb H o p).bind fun l=>(jT H r).map fun m=>l++m
  |_=>none
def pM(H:ah T.den)(fr:sz T.den):List (Nat×oM)→Option (List (TV T.den))
 |[]=>some []
 |(d,p)::r=>(fq H p (cH fr d)).bind fun l=>(pM H fr r).map fun m=>l++m
def uH(az:List (Nat×oM))(objs:List (Nat×cO))(s:bx T.den):Option (List (TV T.den)):=
 (pM s.hp s.fr az).bind fun l=>(jT s.hp objs).map fun m=>l++m
def qx(H H':ah T.den)(objs:List (Nat×cO)):Bool:=
 objs.all fun q=>match H[q.1]?,H'[q.1]? with
  |some (some o),some (some o')=>decide (o.flags=o'.flags)
  |_,_=>false
def gU(H0 H:ah T.den):List (Nat×cO)→Tr ρ→Tr ρ
 |[],K=>K
 |(n,.fix _)::r,K=>(match H0[n]?,H[n]? with
  |some (some o),some (some o')=>.cond (decide (o'.len=o.len)) (gU H0 H r K) .fail
  | _, _ => .no "fix")
 |_::r,K=>gU H0 H r K
def wF(H0 H:ah T.den)(objs:List (Nat×cO)):Bool:=
 objs.all fun q=>match q.2 with
  |.list _=>true
  |_=>match H0[q.1]?,H[q.1]? with
   |some (some o),some (some o')=>Nat.beq o.cur o'.cur
   |_,_=>false
def subset(a b:List Nat):Bool:=a.all fun x=>b.contains x
def cY:List Nat→Bool
 |[]=>true
 |x::r=>!r.contains x&&cY r
def CL(H:ah T.den):Nat→List oN→Bool
 |_,[]=>true
 |n,e::r=>(match H[n]?,e with
  |some (some o),.gT=>o.flags.2.1
  |some (some o),.list g f _=>decide (o.flags=(g,true,f))
  |_,_=>false)&&CL H (n+1) r
def oM.ka:oM→List Nat
 |.val _|.hole=>[]
 |.own _ n|.QC _ n _ _|.Hx _ n _ _|.iI n _ _ _ _=>[n]
def cO.ka:cO→List Nat
 |.list _|.fix _|.map _ _=>[]
 |.one p=>p.ka
 |.agg ps=>ps.flatMap oM.ka
def rZ(lP:Nat)(az:List (Nat×oM))(objs:List (Nat×cO)):Bool:=
 (az.flatMap (fun q=>q.2.ka)++objs.flatMap (fun q=>q.2.ka)).all fun n=>Nat.blt n lP||(objs.map (·.1)).contains n
def A7(n:Nat)(az:List (Nat×oM))(dead:List Nat):Bool:=(az.map (·.1)++dead).all fun d=>Nat.blt d n
def r8(az:List (Nat×oM))(dead:List Nat)(objs:List (Nat×cO))(ext:List oN)(s0 s:bx T.den):Bool:=
 A7 s0.n az dead&&rZ s0.hp.length az (objs++aZ s0.hp.length ext)&&subset s.wf (az.map (·.1)++dead)&&subset (s.wh.filter fun n=>decide (n<s0.hp.length)) (objs.map (·.1)) &&
  decide (s.hp.length=s0.hp.length+ext.length)&&qx s0.hp s.hp objs&&wF s0.hp s.hp objs&&CL s.hp s0.hp.length ext
def Gn(H:ah T.den)(l:List (Nat×cO)):Bool:=l.all fun q=>match H[q.1]?,q.2 with
 |some (some (.arr _ _ _ _ [_])),.one _=>true
 |some (some (.arr _ _ _ _ [_])),.agg _=>true
 |_,_=>false
def HC(h:Hint)(s0 s:bx T.den)(kind:Option Nat)(o:A2):Option (HL T.den (o.jB h.objs)):=
 match decide (o.kind=kind)&&decide (s.js=o.js)&&(r8 o.az (h.az.map (·.1)++h.dead) (iY h.objs o.more) o.ext s0 s&&(cY ((iY h.objs o.more).map (·.1))&&Gn s0.hp o.more)) with
 |true=>(uH o.az ((iY h.objs o.more)++aZ s0.hp.length o.ext) s).bind (uA (o.jB h.objs))
 |false=>none
def tv(key:Nat)(h:Hint)(s0 s:bx T.den)(kind:Option Nat):(l:List A2)→(yO T.den h.objs l→Tr ρ)→Tr ρ
 |[],_=>.bad key (some kind) s0 s
 |[o],K=>(match HC h s0 s kind o with
  |some x=>gU s0.hp s.hp h.objs (K x)
  |none=>.bad key (some kind) s0 s)
 |o::p::r,K=>(match HC h s0 s kind o with
  |some x=>gU s0.hp s.hp h.objs (K (.inl x))
  |none=>tv key h s0 s kind (p::r) fun x=>K (.inr x))
def jD(h:Hint)(s:bx T.den)(o:A2)(x:HL T.den (o.jB h.objs)):bx T.den:=
 let s':=c6 o.az (h.az.map (·.1)++h.dead) (iY h.objs o.more) o.ext s (fQ (o.jB h.objs) x)
 { s' with wf:=o.az.map (·.1)++(h.az.map (·.1)++(h.dead++s.wf)),wh:=(iY h.objs o.more).map (·.1)++s.wh,js:=o.js }
def A8(s:bx T.den)(kind:Option Nat):oK T.den:=
 match kind with
 |some id=>.exit id s
 |none=>.ret s
def tM(h:Hint)(s:bx T.den):(l:List A2)→yO T.den h.objs l→(oK T.den→Tr ρ)→Tr ρ
 |[],_,_=>.fail
 |[o],w,K=>(jD h s o w).force fun s=>K (A8 s o.kind)
 |o::p::r,w,K=>.sum w (fun x=>(jD h s o x).force fun s=>K (A8 s o.kind)) fun w=>tM h s (p::r) w K
def Hint.ok(h:Hint):Bool:=
 cY (h.az.map (·.1)++h.dead)&&cY (h.objs.map (·.1))&&h.outs.all fun o=>cY (o.az.map (·.1))
def vJ(step:Oper→bx T.den→(bx T.den→Tr ρ)→Tr ρ):List (G×Oper)→bx T.den→(bx T.den→Tr ρ)→Tr ρ
 |[],s,K=>K s
 |(g,o)::rest,s,K=>wE g s fun s want=>
  match want with
  |false=>s.fb o.dst (.lit undef) [] fun s=>vJ step rest s K
  |true=>step o s fun s'=>vJ step rest s' K
def lH:List Item→List (G×Oper)→List (G×Item)
 |x::r,(g,_)::l=>(g,x)::lH r l
 |_,_=>[]
def xQ:List (G×Item)→(List (G×Item)→Tr ρ)→Tr ρ
 |[],K=>K []
 |(g,⟨i,nm,o⟩)::r,K=>xQ r fun l=>K ((g,⟨i,nm,o⟩)::l)
def r9[ab](step:Nat→Oper→bx T.den→EK T ρ→Tr ρ):List (G×Item)→bx T.den→List fi→(bx T.den→List fi→Tr ρ)→Tr ρ
 |[],s,fs,K=>K s fs
 |(g,x)::rest,s,fs,K=>wE g s fun s want=>
  match want with
  |false=>s.fb x.o.dst (.lit undef) [] fun s=>r9 step rest s (fs++[⟨x.idx,[],[]⟩]) K
  |true=>step (x.at s.hp.length) x.o s fun v wr rd=>
   match wr.all (fun q=>decide (q.1<s.hp.length)&&((au x.o.op&&decide (q.1=x.nm))||(match s.hp[q.1]? with|some (some _)=>true|_=>false))) with
   |true=>s.fb x.o.dst v wr fun s=>r9 step rest s (fs++[⟨x.idx,rd,wr.map (·.1)⟩]) K
   |false=>.fail
end
def pN{T:dm}(esz j nm:Nat)(e:SV T.den):Option (SV T.den):=
 match e with
 |.agg l=>(match l[j]? with
  |some (.lit (.slice none 0 0))=>some (.agg (l.set j (.bp esz nm 0 none none)))
  |_=>none)
 |.lit (.slice none 0 0)=>if j=0 then some (.bp esz nm 0 none none) else none
 |_=>none
def HD{T:dm}{ρ:Type}(d:Tmp):List (Nat×Nat)→bx T.den→(bx T.den→Tr ρ)→Tr ρ
 |[],s,K=>K s
 |(j,esz)::r,s,K=>(match cH s.fr d with
  |.ref n _ i k=>(match s.hp[n]? with
   |some (some (.arr g _ f cur es))=>(match (es[i]?).bind (pN esz (k+j) s.hp.length) with
    |some e'=>s.fb none (.lit undef) [(n,.arr g false f cur (es.set i e')),(s.hp.length,.arr true true false 0 [])] fun s=>HD d r s K
    | none => .no "nil")
   | _ => .no "nil")
  |v=>(match pN esz j s.hp.length v with
   |some v'=>s.fb (some d) v' [(s.hp.length,.arr true true false 0 [])] fun s=>HD d r s K
   | none => .no "nil"))
def CM{T:dm}{ρ:Type}(l:Tmp→List (Nat×Nat))(dst:Option Tmp)(s:bx T.den)(K:bx T.den→Tr ρ):Tr ρ:=
 match dst with
 |some d=>HD d (l d) s K
 |none=>K s
def zT{den:Nat→Type}(j:Nat):SV den→Option (SV den)
 |.agg l=>(match Nat.blt j l.length with
  |true=>some (.agg (l.set j .hole))
  |false=>none)
 |_=>none
def xR{T:dm}{ρ:Type}:List (Nat×Nat)→bx T.den→(bx T.den→Tr ρ)→Tr ρ
 |[],s,K=>K s
 |(d,j)::r,s,K=>(match cH s.fr d with
  |.ref n _ i k=>(match s.hp[n]? with
   |some (some (.arr g _ f cur es))=>(match (es[i]?).bind (zT (k+j)) with
    |some e'=>s.fb none (.lit undef) [(n,.arr g false f cur (es.set i e'))] fun s=>xR r s K
    | none => .no "a hole")
   | _ => .no "a hole")
  | _ => .no "a hole")
def cellOf{T:dm}(s:bx T.den)(d j:Nat):Option (SV T.den):=
 match cH s.fr d with
 |.ref n _ i k=>(match s.hp[n]? with
  |some (some (.arr _ _ _ _ es))=>(match es[i]? with
   |some (.agg l)=>l[k+j]?
   |_=>none)
  |_=>none)
 |.agg l=>l[j]?
 |v=>(match Nat.beq j 0 with
  |true=>some v
  |false=>none)
def setCell{T:dm}(s:bx T.den)(d j:Nat)(v:SV T.den):bx T.den:=
 match cH s.fr d with
 |.ref n _ i k=>(match s.hp[n]? with
  |some (some (.arr g cl f cur es))=>(match es[i]? with
   |some (.agg l)=>{ s with hp:=s.hp.set n (some (.arr g cl f cur (es.set i (.agg (l.set (k+j) v))))),wh:=n::s.wh }
   |_=>s)
  |_=>s)
 |.agg l=>{ s with fr:=tn s.n s.fr d (.agg (l.set j v)),wf:=d::s.wf }
 |_=>{ s with fr:=tn s.n s.fr d v,wf:=d::s.wf }
def Kr{ρ:Type}:Nat→Nat→Int→(Int→Tr ρ)→Tr ρ
 |0,_,_,_=>.fail
 |b+1,m,n,K=>.cond (n==Int.ofNat m) (K (Int.ofNat m)) (Kr b (m+1) n K)
def CN{T:dm}{ρ:Type}(t:Nat)(l:List (T.den t)):Nat→Nat→(List (SV T.den)→Tr ρ)→Tr ρ
 |0,_,K=>K []
 |b+1,i,K=>.bind l[i]? fun x=>CN t l b (i+1) fun xs=>K (T.up t x::xs)
def xS{T:dm}{ρ:Type}(s:bx T.den)(w:Tw)(K:bx T.den→Tr ρ):Tr ρ:=
 match w with
 |.num d j b=>(match cellOf s d j with
  |some (.lit (.int k n))=>Kr b 0 n fun m=>(setCell s d j (.lit (.int k m))).force K
  | _ => .no "a number")
 |.Xy d j n=>(match cellOf s d j with
  |some (.ji t l)=>.cond (Nat.blt 0 n&&decide (l.length=n)) (CN t l n 0 fun xs=>(setCell s d j (.sl xs)).force K) .fail
  | _ => .no "a list")
 |.arr d n=>(match cH s.fr d with
  |.bp _ nm _ _ _=>(match s.hp[nm]? with
   |some (some (.bU g f cur t l))=>.cond (decide (l.length=n)) (CN t l n 0 fun xs=>bx.force { s with hp:=s.hp.set nm (some (.arr g true f cur xs)),wh:=nm::s.wh } K) .fail
   | _ => .no "an array")
  | _ => .no "an array")
 |.int d j=>(match cellOf s d j with
  |some (.lit (.int k n))=>.bind (some n) fun n=>(setCell s d j (.lit (.int k n))).force K
  | _ => .no "a number")
 |.name d=>(match cH s.fr d with
  |.bp esz nm c rg cap=>(match s.hp[nm]? with
   |some (some (.bU g f cur t l))=>.bind (some l) fun l=>(match rg with
    |none=>bx.force { s with hp:=s.hp.set nm (some (.bU g f cur t l)),wh:=nm::s.wh } K
    |some (off,len)=>.bind (some off) fun off=>.bind (some len) fun len=>
     bx.force { s with fr:=tn s.n s.fr d (.bp esz nm c (some (off,len)) cap),hp:=s.hp.set nm (some (.bU g f cur t l)),wf:=d::s.wf,wh:=nm::s.wh } K)
   | _ => .no "a name")
  | _ => .no "a name")
def R1{T:dm}{ρ:Type}:List Tw→bx T.den→(bx T.den→Tr ρ)→Tr ρ
 |[],s,K=>K s
 |w::r,s,K=>xS s w fun s=>R1 r s K
def R2{T:dm}{ρ:Type}(l:Tmp→List Tw)(dst:Option Tmp)(s:bx T.den)(K:bx T.den→Tr ρ):Tr ρ:=
 match dst with
 |some d=>R1 (l d) s K
 |none=>K s
def wg{den:Nat→Type}(u:List Nat)(fr:sz den):List Nat→List (SV den)
 |[]=>[]
 |d::r=>(match u.contains d with
  |true=>cH fr d
  |false=>.dead)::wg u fr r
def lI{den:Nat→Type}(n:Nat)(fr:sz den):List Tmp→List (SV den)→sz den
 |p::ps,x::xs=>lI n (tn n fr p x) ps xs
 |_,_=>fr
def A9(js:List (Nat×kS))(n:Nat)(st:kS):List (Nat×kS):=js.map fun q=>match Nat.beq q.1 n with
 |true=>(q.1,st)
 |false=>q
def CO(js:List (Nat×kS))(n:Nat):List (Nat×kS):=js.filter fun q=>!Nat.beq q.1 n
def sa(js:List (Nat×kS))(n:Nat):Bool:=js.all fun q=>Nat.blt q.1 n
def bx.gJ{T:dm}(s:bx T.den)(n:Nat)(hp:ah T.den)(wh:List Nat)(js:List (Nat×kS)):bx T.den:=
 { s with hp:=hp.set n (some .gT),wh:=wh,js:=CO js n }
def Ks{T:dm}{ρ:Type}(s:bx T.den)(n:Nat)(dst:Option Tmp)(b:Bool)(st:kS)(s2:bx T.den)(K:bx T.den→Tr ρ):Tr ρ:=
 match cm s2.js n with
 |some .busy=>(match sa s2.js s.hp.length with
  |true=>mH (fU s.hp.length (.lit (.bool b)) s2.hp) fun hp=>bx.fb ⟨s.fn,s.n,s.fr,hp,s.wf,s2.wh,A9 s2.js n st⟩ dst (.lit (.bool b)) [] K
  | false => .no "a round's end")
 | _ => .no "a round's end"
def qy(pr:List Nat)(fs:List fi):Bool:=
 match fs.all fun f=>f.wr.isEmpty with
 |true=>true
 |false=>eL pr fs
def Gp{T:dm}(Q:gH)(ev:Operand→SV T.den)(op:Op)(H:ah T.den)(n:Nat)(o':aC T.den):Bool:=
 match op with
 |.store t a _=>(match Q.ty t,ev a,H[n]? with
  |some r,.ref n' _ i j,some (some (.arr _ false _ cur es))=>(match es[i]? with
   |some (.agg l)=>Nat.beq n' n&&Nat.ble (j+r.size) l.length&&((l.drop j).take r.size).all isHole&&Nat.beq cur o'.cur&&Nat.beq es.length o'.len
   |_=>false)
  |_,_,_=>false)
 |_=>false
def uI[ab]{T:dm}(Q:gH)(nm:Nat){ρ:Type}:List Oper→bx T.den→Option Nat→List Nat→(bx T.den→Option Nat→List Nat→Tr ρ)→Tr ρ
 |[],s,ov,rd,K=>K s ov rd
 |o::r,s,ov,rd,K=>(match o.guard with
  | some _ => .no "a look"
  |none=>(match o.op with
   | .call _ => .no "a look"
   |.assign (.const (.slice none 0 0))=>s.fb o.dst (.lit cK) [] fun s=>uI Q nm r s ov rd K
   |op=>Nd Q s.hp.length s.hp (cU s.fr) o fun v wr rd'=>(match wr.all fun q=>Nat.ble nm q.1 with
     |true=>s.fb o.dst v wr fun s=>uI Q nm r s ov (rd++rd') K
     |false=>(match ov,wr with
      |none,[(n,o')]=>(match Nat.blt n nm&&Gp Q (cU s.fr) op s.hp n o' with
       |true=>s.fb o.dst v [(n,o')] fun s=>uI Q nm r s (some n) (rd++(rd'++[n])) K
       | false => .no "a look")
      | _, _ => .no "a look"))))
def lJ[ab]{T:dm}(Q:gH)(nm:Nat){ρ:Type}:Code→bx T.den→Option Nat→List Nat→(Bool→bx T.den→Option Nat→List Nat→Tr ρ)→Tr ρ
 |.skip,s,ov,rd,K=>K false s ov rd
 |.ret,s,ov,rd,K=>K true s ov rd
 |.seq a b,s,ov,rd,K=>lJ Q nm a s ov rd fun q s ov rd=>(match q with
  |true=>K true s ov rd
  |false=>lJ Q nm b s ov rd K)
 |.region _ ops false,s,ov,rd,K=>uI Q nm ops.toList s ov rd (K false)
 |.cond o a b,s,ov,rd,K=>(match cU s.fr o with
  |.lit (.bool t)=>.cond t (lJ Q nm a s ov rd K) (lJ Q nm b s ov rd K)
  | _ => .no "a look")
 | _, _, _, _, _ => .no "a look"
def Gq{den:Nat→Type}(fr:sz den)(rs:List ResultVar):List Nat:=rs.flatMap fun
 |.tmp _=>[]
 |.cell a _=>mD (cH fr a)
def wG{den:Nat→Type}(fr:sz den)(rs:List ResultVar):Bool:=rs.all fun
 |.tmp _=>true
 |.cell a _=>!bN (cH fr a)
def Kt[ab](S:nW){ρ:Type}(g:FuncId)(args:List (SV S.T.den))(H:ah S.T.den)(K:EK S.T ρ):Tr ρ:=
 match S.C.kind g,S.C.qT g,S.C.P.funcs[g]? with
 |.imp,none,some fn=>(match fn.body with
  |some c=>(match BB c with
   | true => .no "a look"
   |false=>lJ (S.Qf g) H.length c ⟨g,max fn.ntmps args.length,mh 0 args,H,[],[],[]⟩ none [] fun _ s ov rd=>rX S.T S.Q s fn.results.toList fun l=>
   (match bt H.length (qN l)&&wG s.fr fn.results.toList&&(match ov with
     |some n=>(match s.hp[n]? with
      |some o=>jR H.length o
      |none=>false)
     |none=>true) with
   |true=>K (qN l) [] ((rd++Gq s.fr fn.results.toList).filter fun n=>Nat.blt n H.length)
   | false => .no "a look's answer"))
  | none => .no "a look")
 | _, _, _ => .no "a call without an answer"
def Gr{den:Nat→Type}(P:Program)(v:SV den)(name:String):Option (FuncId×SV den):=
 match v with
 |.fZ t x=>(Ak P t name).map fun f=>(f,x)
 |_=>none
def TO[ab](S:nW){ρ:Type}(nm:Nat)(o:Oper)(s:bx S.T.den)(K:EK S.T ρ):Tr ρ:=
 match o.op with
 |.call c=>
  (match c.callee with
  |.builtin _=>Nd (S.Qf s.fn) nm s.hp (cU s.fr) o K
  |.value f=>
   (match lG (cU s.fr f) (c.args.toList.map (cU s.fr)) with
   |none=>.fail
   |some (g,args)=>(match au o.op with
    |true=>(match args.any bN,S.own g with
     |false,some σ=>Ng S.T σ nm s.hp args K
     | _, _ => .no "a call of one's own without an answer")
    |false=>(match args.any bN,S.sum g with
     |false,some σ=>Hz S.T σ s.hp args K
     |false,none=>Kt S g args s.hp K
     | _, _ => .no "a call without an answer")))
  |.invoke rv name=>
   (match Gr S.C.P (cU s.fr rv) name with
   | none => .no "invoke"
   |some (g,x)=>(match (x::c.args.toList.map (cU s.fr)).any bN,S.sum g with
    |false,some σ=>Hz S.T σ s.hp (x::c.args.toList.map (cU s.fr)) K
    | _, _ => .no "a call without an answer")))
 |_=>Nd (S.Qf s.fn) nm s.hp (cU s.fr) o K
def Ku[ab]{T:dm}{ρ:Type}(ec:Code→bx T.den→(oK T.den→Tr ρ)→Tr ρ)(eo:Oper→bx T.den→(bx T.den→Tr ρ)→Tr ρ):Code→bx T.den→(oK T.den→Option (SV T.den)→Tr ρ)→Tr ρ
 |.seq x y,s,K=>
  (match sH x with
  |some (ops,v)=>nZ ops ops.toList.dropLast fun l=>vJ eo l s fun s1=>(match lG (cU s1.fr v) [] with
   |some _=>ec y s1 fun o=>K o (some (cU s1.fr v))
   | none => .no "what is deferred")
  |none=>ec x s fun
   |.norm s'=>Ku ec eo y s' K
   |r=>K r none)
 |c,s,K=>ec c s fun o=>K o none
def CP[ab]{T:dm}{ρ:Type}(ec:Code→bx T.den→(oK T.den→Tr ρ)→Tr ρ)(Q:gH)(P:Program)(rs:List ResultVar)(s:bx T.den)(d:Option (SV T.den))(K:List (SV T.den)→ah T.den→List Nat→List (Nat×kS)→Tr ρ):Tr ρ:=
 match d with
 |none=>rX T Q s rs fun l=>K l s.hp s.wh s.js
 |some v=>(match lG v [] with
  | none => .no "what is deferred"
  |some (g,as)=>(match P.funcs[g]? with
   |none=>.fail
   |some fg=>(match fg.body with
    |none=>.fail
    |some cg=>(match cx cg&&!as.any bN with
     | false => .no "what is deferred"
     |true=>bx.force ⟨g,max fg.ntmps as.length,mh 0 as,s.hp,[],s.wh,s.js⟩ fun t0=>ec (nG cg) t0 fun
      |.norm t|.ret t=>rX T Q t fg.results.toList fun _=>rX T Q ⟨s.fn,s.n,s.fr,t.hp,s.wf,t.wh,t.js⟩ rs fun l=>K l t.hp t.wh t.js
      |.exit _ _=>.fail))))
mutual
def Oj[ab](S:nW):Nat→(ρ:Type)→FuncId→List (SV S.T.den)→ah S.T.den→List Nat→List (Nat×kS)→(SV S.T.den→ah S.T.den→List Nat→List (Nat×kS)→Tr ρ)→Tr ρ
 | 0, _, _, _, _, _, _, _ => .no "fuel"
 |k+1,ρ,f,args,hp,wh,js,K=>
  match S.C.P.funcs[f]? with
  |none=>.fail
  |some fn=>
   match fn.body with
   |none=>.fail
   |some c=>rW [max fn.ntmps args.length] fun _=>bx.force ⟨f,max fn.ntmps args.length,mh 0 args,hp,[],wh,js⟩ fun s=>
    (match BB c with
    |true=>(match cx c with
     |true=>Ku (fun c s K=>wi S k ρ c s K) (fun o s K=>Ni S k ρ o s K) c s fun o d=>(match o with
      |.norm s'|.ret s'=>CP (fun c s K=>wi S k ρ c s K) S.Q S.C.P fn.results.toList s' d fun l hp wh js=>K (qN l) hp wh js
      |.exit _ _=>.fail)
     | false => .no "a range beside a deferred call")
    |false=>wi S k ρ c s fun
    |.norm s|.ret s=>rX S.T S.Q s fn.results.toList fun l=>K (qN l) s.hp s.wh s.js
    |.exit _ _=>.fail)
def wi[ab](S:nW):Nat→(ρ:Type)→Code→bx S.T.den→(oK S.T.den→Tr ρ)→Tr ρ
 | 0, _, _, _, _ => .no "fuel"
 |k+1,ρ,c,s,K=>
  match c with
  |.skip|.label _=>K (.norm s)
  |.ret=>K (.ret s)
  |.exit id=>K (.exit id s)
  |.seq a b=>wi S k ρ a s fun
   |.norm s'=>wi S k ρ b s' K
   |r=>K r
  |.cond o a b=>
   (match cU s.fr o with
   |.lit (.bool t)=>.cond t (wi S k ρ a s K) (wi S k ρ b s K)
   | _ => .no "cond")
  |.block id b=>wi S k ρ b s fun
   |.exit Ix s'=>if Ix=id then K (.norm s') else K (.exit Ix s')
   |r=>K r
  |.scope b=>
   (match o5 b with
   |some c=>wi S k ρ c s K
   | none => .no "code")
  |.loop b=>
   (match S.hint s.fn (rY b s) with
   |none=>(match S.uC s.fn (keyOf b) with
    |true=>wi S k ρ b s fun
     |.norm s'=>(match sa s'.js s.hp.length with
      |true=>(jC s.hp.length s').force fun s'=>wi S k ρ (.loop b) s' K
      | false => .no "a round's end")
     |r=>K r
    |false=>.lT s b)
   |some h=>
    (match h.ok&&A7 s.n h.az h.dead&&rZ s.hp.length h.az h.objs,(uH h.az h.objs s).bind (uA h.jB) with
    |true,some x0=>.loop (τ:=HL S.T.den h.jB) (ω:=yO S.T.den h.objs h.outs)
      (fun x=>bx.force { c6 h.az h.dead h.objs [] s (fQ h.jB x) with wf:=[],wh:=[] } fun s1=>wi S k _ b s1 fun
        |.norm s'=>
         (match jC s.hp.length s' with
         |tL=>(match decide (tL.js=s.js)&&r8 h.az h.dead h.objs [] s tL,(uH h.az h.objs tL).bind (uA h.jB) with
          |true,some y=>gU s.hp tL.hp h.objs (.ret (.inl y))
          |_,_=>.bad (rY b s) none s tL))
        |.exit id s'=>tv (rY b s) h s s' (some id) h.outs fun w=>.ret (.inr w)
        |.ret s'=>tv (rY b s) h s s' none h.outs fun w=>.ret (.inr w))
      x0 fun w=>tM h s h.outs w K
    |_,_=>.bad (rY b s) none s s))
  |.region id ops draw=>
   (match draw with
   |false=>xR (S.C.ie s.fn id) s fun s=>R1 (S.tw s.fn (1000000+id)) s fun s=>nZ ops ops.toList fun l=>vJ (fun o s K=>Ni S k ρ o s K) l s fun s'=>K (.norm s')
   |true=>
    if sG ops=true then
     xR (S.C.ie s.fn id) s fun s1=>R1 (S.tw s.fn (1000000+id)) s1 fun s1=>nZ ops ops.toList fun l=>xQ (lH (bD 0 s1.hp.length (ops.toList.take (S.C.head s.fn id ops))) l) fun li=>r9 (fun nm o s K=>TO S nm o s K) li
       { s1 with hp:=s1.hp++List.replicate ((ops.toList.take (S.C.head s.fn id ops)).filter fun o=>au o.op).length none } [] fun s' fs=>
      if (qy (bW ops.toList) fs && mv (bW ops.toList) ops.size (S.C.head s.fn id ops)) = true then vJ (fun o s K => Ni S k ρ o s K) (l.drop (S.C.head s.fn id ops)) s' fun s' => K (.norm s') else .no "an order"
    else .no "a region")
  |.rangeFunc f ps as bd=>
   (match lG (cU s.fr f) [.mp true s.hp.length] with
   |some (g,args)=>(match !args.any bN&&(cV as++cV bd).all (fun d=>!bN (cH s.fr d)||!Nat.blt d s.n) with
    |true=>Oj S k ρ g args (s.hp++[some (.oJ s.fn ps as bd (wg (cV as++cV bd) s.fr (List.range s.n)))]) s.wh ((s.hp.length,.ready)::s.js) fun _ hp wh js=>
     (match cm js s.hp.length with
     |some .ready=>K (.norm (s.gJ s.hp.length hp wh js))
     |some (.jump none)=>K (.ret (s.gJ s.hp.length hp wh js))
     |some (.jump (some id))=>K (.exit id (s.gJ s.hp.length hp wh js))
     | _ => .no "a range's end")
    | false => .no "a range over what is dead")
   | none => .no "a range")
  | _ => .no "code"
def Ni[ab](S:nW):Nat→(ρ:Type)→Oper→bx S.T.den→(bx S.T.den→Tr ρ)→Tr ρ
 | 0, _, _, _, _ => .no "fuel"
 |k+1,ρ,o,s,K=>
  match o.op with
  |.call c=>
   (match c.callee with
   |.builtin _=>Nd (S.Qf s.fn) s.hp.length s.hp (cU s.fr) o fun v wr _=>s.fb o.dst v wr K
   |.value f=>
    (match lG (cU s.fr f) (c.args.toList.map (cU s.fr)) with
    |none=>(match cU s.fr f with
     |.mp true n=>(match s.hp[n]?,cm s.js n,(c.args.toList.map (cU s.fr)).any bN with
      |some (some (.oJ fn ps as bd fr)),some .ready,false=>
       (match Nat.beq c.args.size ps.size with
       |true=>bx.force ⟨fn,fr.length,lI fr.length (mh 0 fr) ps.toList (c.args.toList.map (cU s.fr)),s.hp,[],s.wh,s.js⟩ fun s0=>
        wi S k ρ as s0 fun
        |.norm s1=>(match cm s1.js n with
         |some .ready=>wi S k ρ bd { s1 with js:=A9 s1.js n .busy } fun
          |.norm s2=>Ks s n o.dst true .ready s2 K
          |.exit id s2=>Ks s n o.dst false (.jump (some id)) s2 K
          |.ret s2=>Ks s n o.dst false (.jump none) s2 K
         | _ => .no "a round")
        | _ => .no "a round"
       | false => .no "a round")
      | _, _, _ => .no "a round")
     | _ => .no "what is called")
    |some (g,args)=>(match au o.op with
     |true=>(match args.any bN,S.own g with
      |false,some σ=>Ng S.T σ s.hp.length s.hp args fun v wr _=>s.fb o.dst v wr K
      | _, _ => .no "a call of one's own without an answer")
     |false=>(match args.any bN,S.sum g with
     |false,some σ=>Hz S.T σ s.hp args fun v wr _=>s.fb o.dst v wr K
     |false,none=>(match S.C.kind g with
      | .pure => .no "a call without an answer"
      |.imp=>Oj S k ρ g args s.hp s.wh s.js fun v hp wh js=>(match sa js s.hp.length with
       |true=>mH (fU s.hp.length v hp) fun hp=>bx.fb ⟨s.fn,s.n,s.fr,hp,s.wf,wh,js⟩ o.dst v [] K
       | false => .no "a call's end"))
     | true, _ => .no "a dead argument")))
   |.invoke rv name=>
    (match Gr S.C.P (cU s.fr rv) name with
    | none => .no "invoke"
    |some (g,x)=>(match (x::c.args.toList.map (cU s.fr)).any bN,S.sum g with
     |false,some σ=>Hz S.T σ s.hp (x::c.args.toList.map (cU s.fr)) fun v wr _=>s.fb o.dst v wr K
     |false,none=>(match S.C.kind g with
      | .pure => .no "a call without an answer"
      |.imp=>Oj S k ρ g (x::c.args.toList.map (cU s.fr)) s.hp s.wh s.js fun v hp wh js=>(match sa js s.hp.length with
       |true=>mH (fU s.hp.length v hp) fun hp=>bx.fb ⟨s.fn,s.n,s.fr,hp,s.wf,wh,js⟩ o.dst v [] K
       | false => .no "a call's end"))
     | true, _ => .no "a dead argument")))
  |.assign (.const (.slice none 0 0))=>
   (match o.dst with
   |some d=>
    if S.C.acc s.fn d then
     match S.Q.elem o.type with
     |some r=>if 0<r.size then s.fb (some d) (.bp r.size s.hp.length 0 none none) [(s.hp.length,.arr true true false 0 [])] K else .fail
     |none=>.fail
    else s.fb (some d) (.lit cK) [] K
   |none=>K s)
  |_=>Nd (S.Qf s.fn) s.hp.length s.hp (cU s.fr) o fun v wr _=>s.fb o.dst v wr fun s=>CM (S.C.qK s.fn) o.dst s fun s=>R2 (S.tw s.fn) o.dst s K
end
end Go.PI
namespace Go.PI
def Kv{den:Nat→Type}(res:List Nat)(v:SV den):List (SV den):=
 match res with
 |[_]=>[v]
 |_=>match v with
  |.jj l=>l
  |_=>[.dead]
def PD[ab](S:nW)(k:Nat)(f:FuncId)(args res:List Nat)(xs:HL S.T.den (args.map .v)):Tr (HL S.T.den (res.map .v)):=
 Oj S k _ f (Px S.T (fQ _ xs)) [] [] [] fun v hp _ _=>
  fS S.T hp 1000 v fun v' _=>match (Hw S.T res (Kv res v')).bind (uA (res.map .v)) with
  |some r=>.ret r
  | none => .no "a result"
end Go.PI
end
section
/- PS: words for the printed tables of a seat's types. -/
namespace Go.PI
section
variable {den:Nat→Type}{α:Type}
def dI(k:IntKind):SV den→Option Int
 |.lit (.int k' n)=>if k=k' then some n else none
 |_=>none
def dB:SV den→Option Bool
 |.lit (.bool b)=>some b
 |_=>none
def dS:SV den→Option ByteArray
 |.lit (.string s)=>some s
 |_=>none
def R3(d:SV den→Option α):List (SV den)→Option (List α)
 |[]=>some []
 |v::vs=>(d v).bind fun x=>(R3 d vs).map fun l=>x::l
def Ol(e:Nat)(d:SV den→Option (den e)):SV den→Option (List (den e))
 |.ji t l=>if h:t=e then some (zP h l) else none
 |.sl vs=>R3 d vs
 |.lit (.slice none 0 0)=>some []
 |_=>none
def Vg(d:SV den→Option α):SV den→Option α
 |.bc v 0=>d v
 |_=>none
end
abbrev Nj{α:Type}(q:α→AV→Prop)(x:List α)(a:AV):Prop:=(∃ l,a=.sl l∧aw q x l)∨(x=[]∧a=.lit cK)
abbrev TP{α:Type}(q:α→AV→Prop)(x:α)(a:AV):Prop:=∃ b,a=.bc b 0∧q x b
abbrev lc{α:Type}(n m:Nat)(l:List α):Bool:=decide (n+m≤l.length)
def zI:AV:=.lit (.int .i64 0)
def zB:AV:=.lit (.bool false)
def zF:AV:=.lit .nilFunc
def zL:AV:=.lit (.slice none 0 0)
def zS:AV:=.lit (.string ByteArray.empty)
def kI:CK:=.int .i64
def mI:jS:=⟨false,1,8,some zI,.other,none,none⟩
def mF:jS:=⟨false,1,8,some zF,.other,none,none⟩
def mP:jS:=⟨false,1,8,some (.lit (.pointer none)),.other,none,none⟩
def mS:jS:=⟨false,1,16,some zS,.other,none,none⟩
def mL(e:Nat):jS:=⟨false,1,24,some zL,.slice e,none,none⟩
end Go.PI
end
section
/- PS, part C: what a symbolic value stands for. -/
namespace Go.PI
section
variable {α β:Type}{P:α→β→Prop}
theorem aw.length:∀ {l:List α} {m:List β},aw P l m→l.length=m.length
 |[],[],_=>rfl
 |_::_,_::_,h=>by simp[aw.length h.2]
theorem aw.get:∀ {l:List α} {m:List β},aw P l m→∀ {i:Nat} {x:α},l[i]?=some x→∃ y,m[i]?=some y∧P x y
 |x::xs,y::ys,h,0,z,e=>by simp at e; subst e; exact⟨y,rfl,h.1⟩
 |x::xs,y::ys,h,i+1,z,e=>by simp at e ⊢; exact aw.get h.2 e
 |[],[],_,i,z,e=>by simp at e
theorem aw.get':∀ {l:List α} {m:List β},aw P l m→∀ {i:Nat} {y:β},m[i]?=some y→∃ x,l[i]?=some x∧P x y
 |x::xs,y::ys,h,0,z,e=>by simp at e; subst e; exact⟨x,rfl,h.1⟩
 |x::xs,y::ys,h,i+1,z,e=>by simp at e ⊢; exact aw.get' h.2 e
 |[],[],_,i,z,e=>by simp at e
theorem aw.mono{Q:α→β→Prop}(L2:∀ x y,P x y→Q x y):∀ {l:List α} {m:List β},aw P l m→aw Q l m
 |[],[],_=>trivial
 |_::_,_::_,h=>⟨L2 _ _ h.1,aw.mono L2 h.2⟩
theorem aw.append:∀ {l l':List α} {m m':List β},aw P l m→aw P l' m'→aw P (l++l') (m++m')
 |[],_,[],_,_,h=>h
 |_::_,_,_::_,_,h,h'=>⟨h.1,aw.append h.2 h'⟩
theorem aw.set:∀ {l:List α} {m:List β},aw P l m→∀ (i:Nat) {x:α} {y:β},P x y→aw P (l.set i x) (m.set i y)
 |[],[],_,_,_,_,_=>trivial
 |_::_,_::_,h,0,_,_,hp=>⟨hp,h.2⟩
 |_::_,_::_,h,i+1,_,_,hp=>⟨h.1,aw.set h.2 i hp⟩
theorem aw.drop:∀ {l:List α} {m:List β},aw P l m→∀ i,aw P (l.drop i) (m.drop i)
 |[],[],_,i=>by simp[aw]
 |_::_,_::_,h,0=>h
 |_::_,_::_,h,i+1=>aw.drop h.2 i
theorem aw.take:∀ {l:List α} {m:List β},aw P l m→∀ i,aw P (l.take i) (m.take i)
 |[],[],_,i=>by simp[aw]
 |_::_,_::_,h,0=>trivial
 |_::_,_::_,h,i+1=>⟨h.1,aw.take h.2 i⟩
theorem aw.replicate{x:α}{y:β}(h:P x y):∀ n,aw P (List.replicate n x) (List.replicate n y)
 |0=>trivial
 |n+1=>⟨h,aw.replicate h n⟩
theorem aw.CQ{m:List β}(h:aw P [] m):m=[]:=by cases m with
 |nil=>rfl
 |cons y ys=>exact h.elim
theorem aw.dY:∀ {l:List α} {m:List β},l.length=m.length→(∀ (i:Nat) (x:α) (y:β),l[i]?=some x→m[i]?=some y→P x y)→aw P l m
 |[],[],_,_=>trivial
 |x::xs,y::ys,h,hg=>⟨hg 0 x y rfl rfl,aw.dY (by simpa using h) fun i a b ha hb=>hg (i+1) a b (by simpa using ha) (by simpa using hb)⟩
end
variable {T:dm}
def fH{den:Nat→Type}(H:ah den)(n c aq:Nat):Prop:=
 ∃ o:aC den,H[n]?=some (some o)∧c≤o.cur∧(c=o.cur→aq=o.len)
def Vh(a0:AV)(d:Nat)(a:AV):Prop:=
 (∃ n aq k j,a0=.ref n aq k j∧a=.ref n aq k (j+d))∨∃ e j,a0=.bc e j∧a=.bc e (j+d)
mutual
def R(T:dm)(H:ah T.den):SV T.den→AV→Prop
 |.dead,_=>False
 |.hole,a=>a=.any
 |.lit v,a=>a=.lit v
 |.agg l,a=>∃ l',a=.agg l'∧RL T H l l'
 |.jj l,a=>∃ l',a=.jj l'∧RL T H l l'
 |.sl l,a=>∃ l',a=.sl l'∧RL T H l l'∧av l=true
 |.ji t l,a=>(∃ l',a=.sl l'∧aw (T.rp t) l l')∨(l=[]∧a=.lit cK)
 |.bc e j,a=>∃ e',a=.bc e' j∧R T H e e'∧aE e=true
 |.ref n c i j,a=>∃ aq,a=.ref n aq i j∧fH H n c aq
 |.iI n c i j ln cp,a=>∃ aq,a=.iI n aq i j ln cp∧fH H n c aq
 |.bp esz n c rg cap,a=>∃ aq,fH H n c aq∧(match rg with
  |none=>a=.bp esz n aq 0 aq cap
  |some (off,len)=>a=.bp esz n aq off len cap)
 |.iK fn f c,a=>∃ f' c',a=.iK fn f' c'∧RL T H f f'∧RL T H c c'
 |.fZ t v,a=>∃ v',a=.fZ t v'∧R T H v v'
 |.wC t l c b,a=>(b=true∧∃ l',a=.oT l' c∧aw (T.rp t) l l')∨(b=false∧l=[]∧(a=.sl []∨a=.lit cK))
 |.nz,a=>a=.nz
 |.mp y n,a=>a=.mp y n∧∃ o:aC T.den,H[n]?=some (some o)
 |.sy v s len i,a=>∃ a0,R T H v a0∧i<len∧Vh a0 (i*s) a
def RL(T:dm)(H:ah T.den):List (SV T.den)→List AV→Prop
 |[],[]=>True
 |x::xs,y::ys=>R T H x y∧RL T H xs ys
 |_,_=>False
end
theorem aO{H:ah T.den}:∀ {l:List (SV T.den)} {m:List AV},RL T H l m↔aw (R T H) l m
 |[],[]=>by simp[RL,aw]
 |x::xs,y::ys=>by simp only[RL,aw]; rw[aO]
 |[],_::_=>by simp[RL,aw]
 |_::_,[]=>by simp[RL,aw]
def RV(T:dm)(H:ah T.den)(v:SV T.den)(a:AV):Prop:=v=.dead∨R T H v a
theorem RV.live{H:ah T.den}{v:SV T.den}{a:AV}(h:RV T H v a)(hd:bN v=false):R T H v a:=by
 rcases h with h|h
 ·subst h; simp[bN]at hd
 ·exact h
def RD(T:dm)(H:ah T.den)(v:SV T.den)(a:AV):Prop:=(v=.dead∧a=.any)∨R T H v a
def RO(T:dm)(H:ah T.den):aC T.den→aL→Prop
 |.arr g cl f _ es,a=>∃ es',a=.arr g cl f es'∧RL T H es es'∧(cl=true→av es=true)
 |.bU g f _ t l,a=>∃ es',a=.arr g true f es'∧aw (T.rp t) l es'
 |.gT,a=>(∃ g f es',a=.arr g true f es')∨∃ k vs,a=.ga k vs∧∀ n,cN n vs=true
 |.j0 kk t m,a=>∃ vs,a=.ga (.map kk (m.map fun q=>kk.v q.1)) vs∧aw (T.rp t) (m.map (·.2)) vs
 |.oJ fn ps as bd fr,a=>∃ st vs,a=.ga (.loop fn ps as bd st) vs∧aw (RD T H) fr vs
def Ba(T:dm)(H:ah T.den):Option (aC T.den)→Option aL→Prop
 |none,none=>True
 |some o,some a=>RO T H o a
 |_,_=>False
def RH(T:dm)(H:ah T.den)(hp:af):Prop:=aw (Ba T H) H hp
def aC.isRec{den:Nat→Type}:aC den→Bool
 |.oJ ..=>true
 |_=>false
def recAt{den:Nat→Type}(H:ah den)(n:Nat):Bool:=
 match H[n]? with
 |some (some o)=>o.isRec
 |_=>false
def dh{den:Nat→Type}(H H':ah den):Prop:=
 ∀ (n:Nat) (o:aC den),H[n]?=some (some o)→∃ o':aC den,H'[n]?=some (some o')∧o.cur≤o'.cur∧(o'.cur=o.cur→o'.len=o.len)
theorem dh.refl{den:Nat→Type}(H:ah den):dh H H:=fun _ o h=>⟨o,h,Nat.le_refl _,fun _=>rfl⟩
theorem dh.trans{den:Nat→Type}{H H' XA:ah den}(h:dh H H')(h':dh H' XA):dh H XA:=by
 intro n o ho
 obtain⟨o',h1,h2,h3⟩:=h n o ho
 obtain⟨Vi,h4,h5,h6⟩:=h' n o' h1
 exact⟨Vi,h4,Nat.le_trans h2 h5,fun e=>by rw[h6 (by omega),h3 (by omega)]⟩
theorem fH.mono{den:Nat→Type}{H H':ah den}(h:dh H H'){n c aq:Nat}(hv:fH H n c aq):fH H' n c aq:=by
 obtain⟨o,h1,h2,h3⟩:=hv
 obtain⟨o',h4,h5,h6⟩:=h n o h1
 exact⟨o',h4,Nat.le_trans h2 h5,fun e=>by rw[h3 (by omega),h6 (by omega)]⟩
mutual
theorem R.mono{H H':ah T.den}(hg:dh H H'):∀ {v:SV T.den} {a:AV},R T H v a→R T H' v a
 |.dead,_,h=>by simp[R]at h
 |.hole,a,h=>by simpa[R] using h
 |.lit v,a,h=>by simpa[R] using h
 |.agg l,a,h=>by
  simp only[R]at h ⊢
  obtain⟨l',h1,h2⟩:=h
  exact⟨l',h1,RL.mono hg h2⟩
 |.jj l,a,h=>by
  simp only[R]at h ⊢
  obtain⟨l',h1,h2⟩:=h
  exact⟨l',h1,RL.mono hg h2⟩
 |.sl l,a,h=>by
  simp only[R]at h ⊢
  obtain⟨l',h1,h2,h3⟩:=h
  exact⟨l',h1,RL.mono hg h2,h3⟩
 |.ji t l,a,h=>by simpa[R] using h
 |.wC t l c b,a,h=>by simp only[R]at h ⊢; exact h
 |.nz,a,h=>by simp only[R]at h ⊢; exact h
 |.bc e j,a,h=>by
  simp only[R]at h ⊢
  obtain⟨e',h1,h2,h3⟩:=h
  exact⟨e',h1,R.mono hg h2,h3⟩
 |.ref n c i j,a,h=>by
  simp only[R]at h ⊢
  obtain⟨aq,h1,h2⟩:=h
  exact⟨aq,h1,h2.mono hg⟩
 |.iI n c i j ln cp,a,h=>by
  simp only[R]at h ⊢
  obtain⟨aq,h1,h2⟩:=h
  exact⟨aq,h1,h2.mono hg⟩
 |.bp esz n c rg cap,a,h=>by
  simp only[R]at h ⊢
  obtain⟨aq,h1,h2⟩:=h
  exact⟨aq,h1.mono hg,h2⟩
 |.iK fn f c,a,h=>by
  simp only[R]at h ⊢
  obtain⟨f',c',h1,h2,h3⟩:=h
  exact⟨f',c',h1,RL.mono hg h2,RL.mono hg h3⟩
 |.fZ t v,a,h=>by
  simp only[R]at h ⊢
  obtain⟨v',h1,h2⟩:=h
  exact⟨v',h1,R.mono hg h2⟩
 |.mp y n,a,h=>by
  simp only[R]at h ⊢
  obtain⟨h1,o,h2⟩:=h
  obtain⟨o',h3,_⟩:=hg n o h2
  exact⟨h1,o',h3⟩
 |.sy v s len i,a,h=>by
  simp only[R]at h ⊢
  obtain⟨a0,h1,h2,h3⟩:=h
  exact⟨a0,R.mono hg h1,h2,h3⟩
theorem RL.mono{H H':ah T.den}(hg:dh H H'):∀ {l:List (SV T.den)} {m:List AV},RL T H l m→RL T H' l m
 |[],[],_=>by simp[RL]
 |x::xs,y::ys,h=>by
  simp only[RL]at h ⊢
  exact⟨R.mono hg h.1,RL.mono hg h.2⟩
 |[],_::_,h=>by simp[RL]at h
 |_::_,[],h=>by simp[RL]at h
end
theorem RV.mono[ab]{H H':ah T.den}(hg:dh H H'){v:SV T.den}{a:AV}(h:RV T H v a):RV T H' v a:=h.imp id (R.mono hg)
theorem RO.mono[ab]{H H':ah T.den}(hg:dh H H'){o:aC T.den}{a:aL}(h:RO T H o a):RO T H' o a:=by
 cases o with
 |arr g cl f cur es=>
  obtain⟨es',h1,h2,h3⟩:=h
  exact⟨es',h1,RL.mono hg h2,h3⟩
 |bU g f cur t l=>exact h
 |gT=>exact h
 |j0 kk t m=>exact h
 |oJ fn ps as bd fr=>
  obtain⟨st,vs,h1,h2⟩:=h
  exact⟨st,vs,h1,aw.mono (fun _ _ h=>h.imp id (R.mono hg)) h2⟩
theorem Ba.mono[ab]{H H':ah T.den}(hg:dh H H'){o:Option (aC T.den)}{a:Option aL}(h:Ba T H o a):Ba T H' o a:=by
 cases o<;>cases a<;>first|exact h|exact RO.mono hg h
theorem RH.length[ab]{H:ah T.den}{hp:af}(h:RH T H hp):H.length=hp.length:=aw.length h
theorem RH.obj[ab]{H:ah T.den}{hp:af}(h:RH T H hp){n:Nat}{o:aC T.den}(ho:H[n]?=some (some o)):∃ a,hp[n]?=some (some a)∧RO T H o a:=by
 obtain⟨a,h1,h2⟩:=aw.get h ho
 cases a with
 |none=>exact h2.elim
 |some a=>exact⟨a,h1,h2⟩
theorem RH.none[ab]{H:ah T.den}{hp:af}(h:RH T H hp){n:Nat}(ho:H[n]?=some none):hp[n]?=some none:=by
 obtain⟨a,h1,h2⟩:=aw.get h ho
 cases a with
 |none=>exact h1
 |some a=>exact h2.elim
theorem RH.QD[ab]{H:ah T.den}{hp:af}(h:RH T H hp){n:Nat}{o o':aC T.den}{a':aL}(ho:H[n]?=some (some o))(hc:o.cur≤o'.cur)(hl:o'.cur=o.cur→o'.len=o.len)
  (hr:RO T H o' a'):dh H (H.set n (some o'))∧RH T (H.set n (some o')) (hp.set n (some a')):=by
 have hg:dh H (H.set n (some o')):=by
  intro m q hq
  by_cases e:m=n
  ·grind
  ·grind
 exact⟨hg,aw.set (aw.mono (fun _ _=>Ba.mono hg) h) n (show Ba T _ (some o') (some a') from RO.mono hg hr)⟩
theorem RH.new[ab]{H:ah T.den}{hp:af}(h:RH T H hp){nm:Nat}{o':aC T.den}{a':aL}(hn:nm=H.length∨H[nm]?=some .none)(hr:RO T H o' a'):
  dh H (bJ H nm o')∧RH T (bJ H nm o') (setObj hp nm a'):=by
 have hlen:=h.length
 unfold bJ setObj
 by_cases e:nm=H.length
 ·rw[if_pos e,if_pos (by omega)]
  have hg:dh H (H++[some o']):=by
   intro m q hq
   have bZ:=(List.getElem?_eq_some_iff.1 hq).1
   exact⟨q,by rw[List.getElem?_append_left bZ]; exact hq,Nat.le_refl _,fun _=>rfl⟩
  exact⟨hg,aw.append (aw.mono (fun _ _=>Ba.mono hg) h) ⟨RO.mono hg hr,trivial⟩⟩
 ·rw[if_neg e,if_neg (by omega)]
  have hn:H[nm]?=some .none:=hn.resolve_left e
  have hg:dh H (H.set nm (some o')):=by
   intro m q hq
   by_cases e:m=nm
   ·subst e; rw[hn]at hq; simp at hq
   ·grind
  exact⟨hg,aw.set (aw.mono (fun _ _=>Ba.mono hg) h) nm (show Ba T _ (some o') (some a') from RO.mono hg hr)⟩
structure dm.Ok(T:dm):Prop where
 up:∀ t x a H,T.rp t x a→R T H (T.up t x) a
 dn:∀ t v x a H,T.dn t v=some x→R T H v a→T.rp t x a
 ok:∀ t x a,T.rp t x a→aG (T.agg t) (T.size t) a=true
 closed:∀ t x a,T.rp t x a→closed a=true
 alt:∀ t f,T.alt t=some f→∀ x,(bif f.1 x then f.2.1 x else f.2.2 x)=T.up t x
theorem Gs{T:dm}(hT:T.Ok){ρ:Type}(t:Nat)(x:T.den t)(K:SV T.den→Tr ρ):(TN t x K).run=(K (T.up t x)).run:=by
 unfold TN
 split
 ·rfl
 ·rename_i f hf
  have h:=hT.alt t f hf x
  simp only[Tr.run]
  cases hb:f.1 x<;>rw[hb]at h<;>rw[←h]<;>rfl
theorem jc{den:Nat→Type}:∀ (l:List (SV den)),av l=l.all aE
 |[]=>rfl
 |x::xs=>by simp only[av,List.all_cons]; rw[jc xs]
theorem jE[ab]{den:Nat→Type}{l:List (SV den)}(h:av l=true){x:SV den}(hx:x∈l):aE x=true:=by
 rw[jc]at h
 exact List.all_eq_true.1 h x hx
theorem kX[ab]{den:Nat→Type}{l:List (SV den)}(h:∀ x,x∈l→aE x=true):av l=true:=by
 rw[jc]
 exact List.all_eq_true.2 h
theorem mo[ab]{den:Nat→Type}{l:List (SV den)}(h:av l=true)(a b:Nat):av ((l.drop a).take b)=true:=
 kX fun _ hx=>jE h (List.mem_of_mem_drop (List.mem_of_mem_take hx))
theorem E8[ab]{den:Nat→Type}{l m:List (SV den)}(h:av l=true)(h':av m=true):av (l++m)=true:=
 kX fun _ hx=>(List.mem_append.1 hx).elim (jE h) (jE h')
theorem sb[ab]{den:Nat→Type}{l:List (SV den)}(h:av l=true){x:SV den}(hx:aE x=true)(i:Nat):av (l.set i x)=true:=
 kX fun _ hy=>(List.mem_or_eq_of_mem_set hy).elim (jE h) fun e=>e▸hx
theorem oE[ab]{den:Nat→Type}:∀ {cs l:List (SV den)} (j:Nat),av l=true→av cs=true→av (iB l j cs)=true
 |[],_,_,h,_=>h
 |x::xs,l,j,h,hc=>by
  simp only[av,Bool.and_eq_true]at hc
  simp only[iB]
  exact oE (j+1) (sb h hc.1 j) hc.2
theorem xT[ab]{den:Nat→Type}{e e':SV den}{j:Nat}{cs:List (SV den)}(h:fP e j cs=some e')(he:aE e=true)(hc:av cs=true):aE e'=true:=by
 unfold fP at h
 split at h
 ·split at h
  case isFalse=>simp at h
  simp only[Option.some.injEq]at h
  subst h
  simp only[aE]at he ⊢
  exact oE j he hc
 ·grind[av]
theorem yQ[ab]{den:Nat→Type}(v:SV den):av (bI v)=aE v:=by
 cases v with
 |lit v=>
  simp only[bI,aE]
  exact kX fun x hx=>by obtain⟨y,_,rfl⟩:=List.mem_map.1 hx; rfl
 |agg l=>rfl
 |_=>simp[bI,av]
theorem oF[ab]{den:Nat→Type}:∀ {ps:List (Nat×SV den)} {es:List (SV den)},av es=true→av (ps.map (·.2))=true→av (fe es ps)=true
 |[],_,h,_=>h
 |(i,v)::ps,es,h,hc=>by
  simp only[List.map_cons,av,Bool.and_eq_true]at hc
  simp only[fe]
  exact oF (sb h hc.1 i) hc.2
theorem tx[ab]{den:Nat→Type}{a:AV}{v:SV den}(h:(gq a:Option (SV den))=some v):aE v=true:=by
 cases a with
 |lit x=>simp[gq]at h; subst h; rfl
 |agg l=>
  simp only[gq,Option.map_eq_some_iff]at h
  obtain⟨c,_,rfl⟩:=h
  simp only[aE]
  exact kX fun x hx=>by obtain⟨y,_,rfl⟩:=List.mem_map.1 hx; rfl
 |_=>simp[gq]at h
end Go.PI
end
section
/- PS, part D: parts of values, by value, flat, below: on both sides alike. -/
namespace Go.PI
def aF{α:Type}(hp:af)(r:RM α)(a:α)(rd:List Nat):Prop:=r.run hp=some a∧∀ n,n∈r.log hp→n∈rd
section
variable {α β:Type}{hp:af}
theorem aF.pure(a:α):aF hp (pure a:RM α) a []:=⟨rfl,fun n h=>by simp[Pure.pure,RM.log]at h⟩
theorem aF.ret(a:α):aF hp (RM.ret a:RM α) a []:=⟨rfl,fun n h=>by simp[RM.log]at h⟩
theorem aF.mono{r:RM α}{a:α}{rd rd':List Nat}(h:aF hp r a rd)(hs:∀ n,n∈rd→n∈rd'):aF hp r a rd':=⟨h.1,fun n hn=>hs n (h.2 n hn)⟩
theorem aF.bind[ab]{r:RM α}{f:α→RM β}{a:α}{b:β}{rd rd':List Nat}(h:aF hp r a rd)(h':aF hp (f a) b rd'):aF hp (r >>= f) b (rd++rd'):=by
 refine⟨by rw[RM.run_bind,h.1]; exact h'.1,fun n hn=>?_⟩
 rw[RM.ej,h.1]at hn
 simp only[List.mem_append]at hn ⊢
 exact hn.imp (h.2 n) (h'.2 n)
theorem aF.get{n:Nat}{k:aL→RM α}{o:aL}{a:α}{rd:List Nat}(ho:hp[n]?=some (some o))(h:aF hp (k o) a rd):aF hp (.get n k) a (n::rd):=by
 refine⟨by simp[RM.run,ho,h.1],fun m hm=>?_⟩
 simp only[RM.log,ho,List.mem_cons]at hm ⊢
 exact hm.imp id (h.2 m)
theorem aF.arr[ab]{n aq:Nat}{g c f:Bool}{es:List AV}(ho:hp[n]?=some (some (.arr g c f es)))(hl:es.length=aq):aF hp (RM.arr n aq) (g,c,f,es) [n]:=by
 refine aF.get ho ?_
 simp only[hl,if_true]
 exact aF.ret _
theorem aF.gL[ab]{x:Option α}{a:α}(h:x=some a):aF hp (RM.gL x) a []:=by subst h; exact aF.ret a
end
variable {T:dm}
mutual
theorem R.closed{H:ah T.den}:∀ {v:SV T.den} {a:AV},R T H v a→aE v=closed a
 |.dead,a,h=>by simp[R]at h
 |.hole,a,h=>by simp only[R]at h; subst h; rfl
 |.lit v,a,h=>by simp only[R]at h; subst h; rfl
 |.agg l,a,h=>by
  simp only[R]at h
  obtain⟨l',rfl,h2⟩:=h
  simp only[aE,Go.PI.closed]; exact RL.closed h2
 |.jj l,a,h=>by
  simp only[R]at h
  obtain⟨l',rfl,h2⟩:=h
  simp only[aE,Go.PI.closed]; exact RL.closed h2
 |.sl l,a,h=>by
  simp only[R]at h
  obtain⟨l',rfl,h2⟩:=h
  rfl
 |.ji t l,a,h=>by
  simp only[R]at h
  rcases h with ⟨l',rfl,_⟩|⟨_,rfl⟩<;>rfl
 |.wC t l c b,a,h=>by
  simp only[R]at h
  rcases h with ⟨_,l',rfl,_⟩|⟨_,_,rfl|rfl⟩<;>rfl
 |.nz,a,h=>by
  simp only[R]at h
  subst h; rfl
 |.bc e j,a,h=>by
  simp only[R]at h
  obtain⟨e',rfl,h2⟩:=h
  rfl
 |.ref n c i j,a,h=>by
  simp only[R]at h
  obtain⟨aq,rfl,h2⟩:=h
  rfl
 |.iI n c i j ln cp,a,h=>by
  simp only[R]at h
  obtain⟨aq,rfl,h2⟩:=h
  rfl
 |.bp esz n c rg cap,a,h=>by
  simp only[R]at h
  obtain⟨aq,h1,h2⟩:=h
  rcases rg with _|⟨off,len⟩<;>simp only at h2<;>subst h2<;>rfl
 |.iK fn f c,a,h=>by
  simp only[R]at h
  obtain⟨f',c',rfl,h2,h3⟩:=h
  simp only[aE,Go.PI.closed]; rw[RL.closed h2,RL.closed h3]
 |.fZ t v,a,h=>by
  simp only[R]at h
  obtain⟨v',rfl,h2⟩:=h
  simp only[aE,Go.PI.closed]; exact R.closed h2
 |.mp y n,a,h=>by
  simp only[R]at h
  obtain⟨rfl,_⟩:=h
  rfl
 |.sy v s len i,a,h=>by
  simp only[R]at h
  obtain⟨a0,h1,_,h2⟩:=h
  have:=R.closed h1
  simp only[aE]
  rcases h2 with ⟨n,aq,k,j,rfl,rfl⟩|⟨e,j,rfl,rfl⟩<;>exact this
theorem RL.closed{H:ah T.den}:∀ {l:List (SV T.den)} {m:List AV},RL T H l m→av l=aY m
 |[],[],_=>rfl
 |x::xs,y::ys,h=>by
  simp only[RL]at h
  simp only[av,aY]; rw[R.closed h.1,RL.closed h.2]
 |[],_::_,h=>by simp[RL]at h
 |_::_,[],h=>by simp[RL]at h
end
mutual
theorem R.below{H:ah T.den}{k:Nat}:∀ {v:SV T.den} {a:AV},R T H v a→bt k v=below k a
 |.dead,a,h=>by simp[R]at h
 |.hole,a,h=>by simp only[R]at h; subst h; rfl
 |.lit v,a,h=>by simp only[R]at h; subst h; rfl
 |.agg l,a,h=>by
  simp only[R]at h
  obtain⟨l',rfl,h2⟩:=h
  simp only[bt,Go.PI.below]; exact RL.below h2
 |.jj l,a,h=>by
  simp only[R]at h
  obtain⟨l',rfl,h2⟩:=h
  simp only[bt,Go.PI.below]; exact RL.below h2
 |.sl l,a,h=>by
  simp only[R]at h
  obtain⟨l',rfl,h2⟩:=h
  rfl
 |.ji t l,a,h=>by
  simp only[R]at h
  rcases h with ⟨l',rfl,_⟩|⟨_,rfl⟩<;>rfl
 |.wC t l c b,a,h=>by
  simp only[R]at h
  rcases h with ⟨_,l',rfl,_⟩|⟨_,_,rfl|rfl⟩<;>rfl
 |.nz,a,h=>by
  simp only[R]at h
  subst h; rfl
 |.bc e j,a,h=>by
  simp only[R]at h
  obtain⟨e',rfl,h2⟩:=h
  rfl
 |.ref n c i j,a,h=>by
  simp only[R]at h
  obtain⟨aq,rfl,h2⟩:=h
  rfl
 |.iI n c i j ln cp,a,h=>by
  simp only[R]at h
  obtain⟨aq,rfl,h2⟩:=h
  rfl
 |.bp esz n c rg cap,a,h=>by
  simp only[R]at h
  obtain⟨aq,h1,h2⟩:=h
  rcases rg with _|⟨off,len⟩<;>simp only at h2<;>subst h2<;>rfl
 |.iK fn f c,a,h=>by
  simp only[R]at h
  obtain⟨f',c',rfl,h2,h3⟩:=h
  simp only[bt,Go.PI.below]; rw[RL.below h2,RL.below h3]
 |.fZ t v,a,h=>by
  simp only[R]at h
  obtain⟨v',rfl,h2⟩:=h
  simp only[bt,Go.PI.below]; exact R.below h2
 |.mp y n,a,h=>by
  simp only[R]at h
  obtain⟨rfl,_⟩:=h
  rfl
 |.sy v s len i,a,h=>by
  simp only[R]at h
  obtain⟨a0,h1,_,h2⟩:=h
  have:=R.below (k:=k) h1
  simp only[bt]
  rcases h2 with ⟨n,aq,k,j,rfl,rfl⟩|⟨e,j,rfl,rfl⟩<;>exact this
theorem RL.below{H:ah T.den}{k:Nat}:∀ {l:List (SV T.den)} {m:List AV},RL T H l m→gp k l=cN k m
 |[],[],_=>rfl
 |x::xs,y::ys,h=>by
  simp only[RL]at h
  simp only[gp,cN]; rw[R.below h.1,RL.below h.2]
 |[],_::_,h=>by simp[RL]at h
 |_::_,[],h=>by simp[RL]at h
end
mutual
theorem R.names{H:ah T.den}:∀ {v:SV T.den} {a:AV},R T H v a→mD v=names a
 |.dead,a,h=>by simp[R]at h
 |.hole,a,h=>by simp only[R]at h; subst h; rfl
 |.lit v,a,h=>by simp only[R]at h; subst h; rfl
 |.agg l,a,h=>by
  simp only[R]at h
  obtain⟨l',rfl,h2⟩:=h
  simp only[mD,Go.PI.names]; exact RL.names h2
 |.jj l,a,h=>by
  simp only[R]at h
  obtain⟨l',rfl,h2⟩:=h
  simp only[mD,Go.PI.names]; exact RL.names h2
 |.sl l,a,h=>by
  simp only[R]at h
  obtain⟨l',rfl,h2⟩:=h
  rfl
 |.ji t l,a,h=>by
  simp only[R]at h
  rcases h with ⟨l',rfl,_⟩|⟨_,rfl⟩<;>rfl
 |.wC t l c b,a,h=>by
  simp only[R]at h
  rcases h with ⟨_,l',rfl,_⟩|⟨_,_,rfl|rfl⟩<;>rfl
 |.nz,a,h=>by
  simp only[R]at h
  subst h; rfl
 |.bc e j,a,h=>by
  simp only[R]at h
  obtain⟨e',rfl,h2⟩:=h
  rfl
 |.ref n c i j,a,h=>by
  simp only[R]at h
  obtain⟨aq,rfl,h2⟩:=h
  rfl
 |.iI n c i j ln cp,a,h=>by
  simp only[R]at h
  obtain⟨aq,rfl,h2⟩:=h
  rfl
 |.bp esz n c rg cap,a,h=>by
  simp only[R]at h
  obtain⟨aq,h1,h2⟩:=h
  rcases rg with _|⟨off,len⟩<;>simp only at h2<;>subst h2<;>rfl
 |.iK fn f c,a,h=>by
  simp only[R]at h
  obtain⟨f',c',rfl,h2,h3⟩:=h
  simp only[mD,Go.PI.names]; rw[RL.names h2,RL.names h3]
 |.fZ t v,a,h=>by
  simp only[R]at h
  obtain⟨v',rfl,h2⟩:=h
  simp only[mD,Go.PI.names]; exact R.names h2
 |.mp y n,a,h=>by
  simp only[R]at h
  obtain⟨rfl,_⟩:=h
  rfl
 |.sy v s len i,a,h=>by
  simp only[R]at h
  obtain⟨a0,h1,_,h2⟩:=h
  have:=R.names h1
  simp only[mD]
  rcases h2 with ⟨n,aq,k,j,rfl,rfl⟩|⟨e,j,rfl,rfl⟩<;>exact this
theorem RL.names{H:ah T.den}:∀ {l:List (SV T.den)} {m:List AV},RL T H l m→mi l=ck m
 |[],[],_=>rfl
 |x::xs,y::ys,h=>by
  simp only[RL]at h
  simp only[mi,ck]; rw[R.names h.1,RL.names h.2]
 |[],_::_,h=>by simp[RL]at h
 |_::_,[],h=>by simp[RL]at h
end
theorem R.leaf{H:ah T.den}{v:SV T.den}{a:AV}(h:R T H v a):gn v=a9 a:=by
 cases v with
 |dead=>simp[R]at h
 |hole=>simp only[R]at h; subst h; rfl
 |lit v=>simp only[R]at h; subst h; rfl
 |agg l=>simp only[R]at h; obtain⟨l',rfl,h2⟩:=h; rfl
 |jj l=>simp only[R]at h; obtain⟨l',rfl,h2⟩:=h; rfl
 |sl l=>simp only[R]at h; obtain⟨l',rfl,h2⟩:=h; rfl
 |ji t l=>simp only[R]at h; rcases h with ⟨l',rfl,_⟩|⟨_,rfl⟩<;>rfl
 |wC t l c b=>simp only[R]at h; rcases h with ⟨_,l',rfl,_⟩|⟨_,_,rfl|rfl⟩<;>rfl
 |nz=>simp only[R]at h; subst h; rfl
 |bc e j=>simp only[R]at h; obtain⟨e',rfl,h2⟩:=h; rfl
 |ref n c i j=>simp only[R]at h; obtain⟨aq,rfl,h2⟩:=h; rfl
 |iI n c i j ln cp=>simp only[R]at h; obtain⟨aq,rfl,h2⟩:=h; rfl
 |bp esz n c rg cap=>
  simp only[R]at h
  obtain⟨aq,h1,h2⟩:=h
  rcases rg with _|⟨off,len⟩<;>simp only at h2<;>subst h2<;>rfl
 |iK fn f c=>simp only[R]at h; obtain⟨f',c',rfl,h2,h3⟩:=h; rfl
 |fZ t v=>simp only[R]at h; obtain⟨v',rfl,h2⟩:=h; rfl
 |mp y n=>simp only[R]at h; obtain⟨rfl,h2⟩:=h; rfl
 |sy v s len i=>simp only[R]at h; obtain⟨a0,_,_,h2⟩:=h; rcases h2 with ⟨n,aq,k,j,rfl,rfl⟩|⟨e,j,rfl,rfl⟩<;>rfl
theorem R.E9{H:ah T.den}{v:SV T.den}{a:AV}(h:R T H v a)(hv:∀ l,v≠.agg l):∀ l,a≠.agg l:=by
 intro l e
 subst e
 cases v with
 |dead=>simp[R]at h
 |hole=>simp[R]at h
 |lit v=>simp[R]at h
 |agg l=>exact hv l rfl
 |jj l=>simp[R]at h
 |sl l=>simp[R]at h
 |ji t l=>simp[R]at h
 |bc e j=>simp[R]at h
 |ref n c i j=>simp[R]at h
 |iI n c i j ln cp=>simp[R]at h
 |bp esz n c rg cap=>
  grind[R]
 |iK fn f c=>simp[R]at h
 |fZ t v=>simp[R]at h
 |mp y n=>simp[R]at h
 |sy v s len i=>simp[R,Vh]at h
 |wC t l c b=>simp[R]at h
 |nz=>simp[R]at h
theorem RL.length[ab]{H:ah T.den}{l:List (SV T.den)}{m:List AV}(h:RL T H l m):l.length=m.length:=aw.length (aO.1 h)
theorem RL.lits{H:ah T.den}:∀ (c:List Value),RL T H (c.map .lit) (c.map .lit)
 |[]=>by simp[RL]
 |v::vs=>by simp only[List.map_cons,RL]; exact⟨by simp[R],RL.lits vs⟩
theorem R.cells[ab]{H:ah T.den}{v:SV T.den}{a:AV}(h:R T H v a):RL T H (bI v) (cellsOf a):=by
 cases v with
 |dead=>simp[R]at h
 |hole=>simp_all[R,bI,cellsOf,RL]
 |lit v=>simp only[R]at h; subst h; exact RL.lits _
 |agg l=>simp only[R]at h; obtain⟨l',rfl,h2⟩:=h; exact h2
 |ji t l=>
  have h':=h
  simp only[R]at h
  rcases h with ⟨l',rfl,_⟩|⟨_,rfl⟩
  ·simp_all[bI,cellsOf,RL]
  ·show RL T H [_] [AV.lit cK]
   simp only[RL]; exact⟨h',trivial⟩
 |jj l=>grind[R,bI,cellsOf,RL]
 |sl l=>grind[R,bI,cellsOf,RL]
 |bc e j=>grind[R,bI,cellsOf,RL]
 |ref n c i j=>grind[R,bI,cellsOf,RL]
 |iI n c i j ln cp=>grind[R,bI,cellsOf,RL]
 |bp esz n c rg cap=>
  grind[R,bI,cellsOf,RL]
 |iK fn f c=>grind[R,bI,cellsOf,RL]
 |fZ t v=>grind[R,bI,cellsOf,RL]
 |nz=>
  simp_all[R,bI,cellsOf,RL]
 |wC t l c b=>
  have h':=h
  simp only[R]at h
  rcases h with ⟨_,l',rfl,_⟩|⟨_,_,rfl|rfl⟩
  ·simp_all[bI,cellsOf,RL]
  ·simp_all[bI,cellsOf,RL]
  ·show RL T H [_] [AV.lit cK]
   simp only[RL]; exact⟨h',trivial⟩
 |mp y n=>simp_all[R,bI,cellsOf,RL]
 |sy v s len i=>
  have h':=h
  simp only[R]at h
  obtain⟨a0,_,_,h2⟩:=h
  rcases h2 with ⟨n,aq,k,j,rfl,rfl⟩|⟨e,j,rfl,rfl⟩<;>simp only[bI,cellsOf,RL]<;>exact⟨h',trivial⟩
theorem RL.all{H:ah T.den}{p:SV T.den→Bool}{q:AV→Bool}(L2:∀ v a,R T H v a→p v=q a):∀ {l:List (SV T.den)} {m:List AV},RL T H l m→l.all p=m.all q
 |[],[],_=>rfl
 |x::xs,y::ys,h=>by
  simp only[RL]at h
  simp only[List.all_cons]; rw[L2 _ _ h.1,RL.all L2 h.2]
 |[],_::_,h=>by simp[RL]at h
 |_::_,[],h=>by simp[RL]at h
theorem RL.CR[ab]{H:ah T.den}{l:List (SV T.den)}{m:List AV}(h:RL T H l m):l.all gn=m.all a9:=RL.all (fun _ _=>R.leaf) h
theorem CS{agg:Bool}{size:Nat}{a:AV}{j:Nat}(ha:∀ l,a≠.agg l):eE agg size a j=if !agg&&a9 a&&decide (j=0) then some a else none:=by
 cases a<;>first|rfl|exact absurd rfl (ha _)
theorem CT{agg:Bool}{size:Nat}{v:SV T.den}{j:Nat}(ha:∀ l,v≠.agg l):nx agg size v j=if !agg&&gn v&&decide (j=0) then some v else none:=by
 cases v<;>first|rfl|exact absurd rfl (ha _)
theorem R.part[ab]{H:ah T.den}{agg:Bool}{size:Nat}{v x:SV T.den}{a:AV}{j:Nat}(h:R T H v a)(hp:nx agg size v j=some x):∃ b,eE agg size a j=some b∧R T H x b:=by
 by_cases hv:∃ l,v=.agg l
 ·obtain⟨l,rfl⟩:=hv
  simp only[R]at h
  obtain⟨l',rfl,h2⟩:=h
  have hl:=h2.length
  cases agg with
  |true=>
   simp only[nx,if_true]at hp
   split at hp
   case isFalse=>simp at hp
   simp only[Option.some.injEq]at hp
   subst hp
   refine⟨_,by simp only[eE,if_true]; rw[if_pos (by omega)],?_⟩
   simp only[R]
   exact⟨_,rfl,aO.2 (((aO.1 h2).drop j).take size)⟩
  |false=>
   simp only[nx,Bool.false_eq_true,if_false]at hp
   obtain⟨b,h3,h4⟩:=aw.get (aO.1 h2) hp
   exact⟨b,by simpa[eE] using h3,h4⟩
 ·have jM:∀ l,v≠.agg l:=fun l e=>hv ⟨l,e⟩
  rw[CT jM]at hp
  rw[CS (h.E9 jM),←h.leaf]
  split at hp
  case isFalse=>simp at hp
  rename_i hc
  simp only[Option.some.injEq]at hp
  subst hp
  exact⟨a,by rw[if_pos hc],h⟩
theorem RL.setCells[ab]{H:ah T.den}:∀ {cs:List (SV T.den)} {lQ:List AV} {l:List (SV T.den)} {l':List AV} (j:Nat),RL T H l l'→RL T H cs lQ→RL T H (iB l j cs) (setCells l' j lQ)
 |[],[],l,l',j,h,_=>h
 |x::xs,y::ys,l,l',j,h,hc=>by
  simp only[RL]at hc
  simp only[iB,Go.PI.setCells]
  exact RL.setCells (j+1) (aO.2 ((aO.1 h).set j hc.1)) hc.2
 |[],_::_,_,_,_,_,h=>by simp[RL]at h
 |_::_,[],_,_,_,_,h=>by simp[RL]at h
theorem yR{a y:AV}{j:Nat}(ha:∀ l,a≠.agg l)(hl:a9 a=true)(hj:j=0):iL a j [y]=some y:=by
 simp_all[iL,hl]
theorem xU{v e':SV T.den}{cs:List (SV T.den)}{j:Nat}(ha:∀ l,v≠.agg l)(h:fP v j cs=some e'):∃ y,cs=[y]∧e'=y∧gn v=true∧j=0:=by
 match cs with
 |[]=>simp_all[fP]
 |[y]=>simp_all[fP]
 |_::_::_=>simp_all[fP]
theorem R.iL[ab]{H:ah T.den}{v e':SV T.den}{a:AV}{j:Nat}{cs:List (SV T.den)}{lQ:List AV}(h:R T H v a)(hc:RL T H cs lQ)(hp:fP v j cs=some e'):
  ∃ b,Go.PI.iL a j lQ=some b∧R T H e' b:=by
 by_cases hv:∃ l,v=.agg l
 ·obtain⟨l,rfl⟩:=hv
  simp only[R]at h
  obtain⟨l',rfl,h2⟩:=h
  simp only[fP]at hp
  split at hp
  case isFalse=>simp at hp
  simp only[Option.some.injEq]at hp
  subst hp
  have h3:=h2.length
  have h4:=hc.length
  exact⟨_,by simp only[Go.PI.iL]; rw[if_pos (by omega)],by simp only[R]; exact⟨_,rfl,RL.setCells j h2 hc⟩⟩
 ·have jM:∀ l,v≠.agg l:=fun l e=>hv ⟨l,e⟩
  obtain⟨y,rfl,rfl,h3,h4⟩:=xU jM hp
  match lQ,hc with
  |[b],hc=>
   simp only[RL]at hc
   exact⟨b,yR (h.E9 jM) (by rw[←h.leaf]; exact h3) h4,hc.1⟩
  |[],hc=>simp[RL]at hc
  |_::_::_,hc=>simp[RL]at hc
def RP(T:dm)(H:ah T.den):List (Nat×SV T.den)→List (Nat×AV)→Prop:=aw fun p q=>p.1=q.1∧R T H p.2 q.2
theorem RP.fill[ab]{H:ah T.den}{place:Nat→Option (Nat×Nat)}:∀ {ps:List (Nat×SV T.den)} {qs:List (Nat×AV)} {l r:List (SV T.den)} {l':List AV},RP T H ps qs→RL T H l l'→zQ place l ps=some r →
  ∃ r',qR place l' qs=some r'∧RL T H r r'
 |[],[],l,r,l',_,hl,h=>by
  simp only[zQ,Option.some.injEq]at h
  subst h
  exact⟨l',rfl,hl⟩
 |(i,v)::ps,(i',a)::qs,l,r,l',hp,hl,h=>by
  obtain⟨⟨h1,h2⟩,h3⟩:=hp
  simp only at h1 h2
  subst h1
  simp only[zQ]at h
  simp only[qR]
  cases FH:place i with
  |none=>rw[FH]at h; simp at h
  |some q=>
   obtain⟨off,size⟩:=q
   rw[FH]at h
   simp only at h ⊢
   split at h
   case isFalse=>simp at h
   rename_i hc
   have lZ:=h2.cells
   rw[if_pos ⟨by rw[←lZ.length]; exact hc.1,by rw[←hl.length]; exact hc.2.1,by rw[←lZ.CR]; exact hc.2.2⟩]
   exact RP.fill h3 (RL.setCells off hl lZ) h
 |[],_::_,_,_,_,h,_,_=>h.elim
 |_::_,[],_,_,_,h,_,_=>h.elim
theorem R.aG[ab]{H:ah T.den}{agg:Bool}{size:Nat}{v:SV T.den}{a:AV}(h:R T H v a):kP agg size v=aG agg size a:=by
 by_cases hv:∃ l,v=.agg l
 ·obtain⟨l,rfl⟩:=hv
  simp only[R]at h
  obtain⟨l',rfl,h2⟩:=h
  simp only[kP,Go.PI.aG]
  rw[h2.length,h2.CR]
 ·have jM:∀ l,v≠.agg l:=fun l e=>hv ⟨l,e⟩
  have e1:kP agg size v=(!agg&&decide (size=1)&&gn v):=by cases v<;>first|rfl|exact absurd rfl (jM _)
  have e2:Go.PI.aG agg size a=(!agg&&decide (size=1)&&a9 a):=by
   have:=h.E9 jM
   cases a<;>first|rfl|exact absurd rfl (this _)
  rw[e1,e2,h.leaf]
theorem RL.cS{H:ah T.den}:∀ {l:List (SV T.den)} {m:List AV} {c:List Value},RL T H l m→mj l=some c→Go.PI.cS m=some c∧m=c.map .lit
 |[],[],c,_,h=>by simp[mj]at h; subst h; exact⟨rfl,rfl⟩
 |x::xs,y::ys,c,h,hc=>by
  simp only[RL]at h
  cases x with
  |lit v=>
   simp only[mj,Option.map_eq_some_iff]at hc
   obtain⟨c',h1,rfl⟩:=hc
   have h2:=h.1
   simp only[R]at h2
   subst h2
   obtain⟨h3,h4⟩:=RL.cS h.2 h1
   exact⟨by simp[Go.PI.cS,h3],by simp[h4]⟩
  |_=>simp[mj]at hc
 |[],_::_,_,h,_=>by simp[RL]at h
 |_::_,[],_,h,_=>by simp[RL]at h
theorem R.plain[ab]{H:ah T.den}{v:SV T.den}{a b:AV}(h:R T H v a)(hp:mE v=some b):a=b:=by
 cases v with
 |lit v=>simp_all[R,mE]
 |agg l=>
  simp only[R]at h
  obtain⟨l',rfl,h2⟩:=h
  simp only[mE,Option.map_eq_some_iff]at hp
  obtain⟨c,h3,rfl⟩:=hp
  rw[(RL.cS h2 h3).2]
 |_=>simp[mE]at hp
theorem uJ[ab]{H:ah T.den}{a:AV}{v:SV T.den}(h:(gq a:Option (SV T.den))=some v):R T H v a:=by
 cases a with
 |lit x=>simp[gq]at h; subst h; simp[R]
 |agg l=>
  simp only[gq,Option.map_eq_some_iff]at h
  obtain⟨c,h1,rfl⟩:=h
  simp only[R]
  refine⟨l,rfl,?_⟩
  have:l=c.map .lit:=by
   revert c
   induction l with
   |nil=>simp_all[Go.PI.cS]
   |cons x xs ih=>
    intro c h1
    cases x with
    |lit v=>
     simp only[Go.PI.cS,Option.map_eq_some_iff]at h1
     obtain⟨c',h2,rfl⟩:=h1
     rw[ih c' h2]; rfl
    |_=>simp[Go.PI.cS]at h1
  rw[this]
  exact RL.lits c
 |_=>simp[gq]at h
end Go.PI
end
section
/- PS, part E: the tables looked up before. -/
namespace Go.PI
def n7:TypeDesc→MK
 |.slice e=>.slice e
 |.array n e=>.array n e
 |.struct fs=>.struct (fs.toList.map fun f=>(f.offset,f.type))
 |.interface _=>.iface
 |_=>.other
def kb(rec:TypeId→Option (List CK))(P:Program):Nat→List Field→Option (List CK)
 |_,[]=>some []
 | off, f :: fs => if f.name = "_" then none else
   if f.offset=off then
    match rec f.type with
    |some ks=>if ks.length=P.cellsOf f.type then (kb rec P (off+ks.length) fs).map fun l=>ks++l else none
    |none=>none
   else none
def mr(P:Program):Nat→TypeId→Option (List CK)
 |0,_=>none
 |d+1,t=>
  match P.underlying t with
  |some .bool=>some [.bool]
  |some (.int k)=>some [.int k]
  |some .string=>some [.str]
  |some (.array n e)=>if (P.info? e).isSome&&(P.underlying e).isSome then
    match mr P d e with
    |some ks=>if ks.length=P.cellsOf e then some (List.replicate n ks).flatten else none
    |none=>none
   else none
  |some (.struct fs)=>if P.stoodInHeld t then none else kb (mr P d) P 0 fs.toList
  |_=>none
theorem kc:∀ {ks:List CK} {vs:List Value},bj ks vs=true→ks.length=vs.length
 |[],[],_=>rfl
 |_::_,_::_,h=>by simp only[bj,Bool.and_eq_true]at h; simp[kc h.2]
 |[],_::_,h=>by simp[bj]at h
 |_::_,[],h=>by simp[bj]at h
theorem pQ:∀ {ks ls:List CK} {vs:List Value},bj (ks++ls) vs=true→bj ks (vs.take ks.length)=true∧bj ls (vs.drop ks.length)=true
 |[],ls,vs,h=>by simpa[bj] using h
 |k::ks,ls,[],h=>by simp[bj]at h
 |k::ks,ls,v::vs,h=>by
  simp only[List.cons_append,bj,Bool.and_eq_true]at h
  obtain⟨h1,h2⟩:=pQ h.2
  simp only[List.length_cons,List.take_succ_cons,List.drop_succ_cons,bj,Bool.and_eq_true]
  exact⟨⟨h.1,h1⟩,h2⟩
theorem pR:∀ {a a' b b':List Value},a.length=a'.length→cI (a++b) (a'++b')=(cI a a'&&cI b b')
 |[],[],b,b',_=>by simp[cI]
 |x::xs,y::ys,b,b',h=>by
  simp only[List.cons_append,cI]
  rw[pR (by simpa using h),Bool.and_assoc]
theorem pS[ab]{P:Program}{rec:TypeId→List Value→List Value→Option Bool}{kr:TypeId→Option (List CK)}
  (hr:∀ t ks c c',kr t=some ks→bj ks c=true→bj ks c'=true→rec t c c'=some (cI c c')) :
  ∀ (fs:List Field) (off:Nat) (ks:List CK) (cs lQ:List Value),kb kr P off fs=some ks→bj ks (cs.drop off)=true→bj ks (lQ.drop off)=true →
    jr rec P cs lQ fs=some (cI (cs.drop off) (lQ.drop off))
 |[],off,ks,cs,lQ,h,h1,h2=>by
  simp only[kb,Option.some.injEq]at h
  subst h
  have e1:cs.drop off=[]:=by cases hq:cs.drop off with
   |nil=>rfl
   |cons x xs=>rw[hq]at h1; simp[bj]at h1
  have e2:lQ.drop off=[]:=by cases hq:lQ.drop off with
   |nil=>rfl
   |cons x xs=>rw[hq]at h2; simp[bj]at h2
  rw[e1,e2]; rfl
 |f::fs,off,ks,cs,lQ,h,h1,h2=>by
  simp only[kb]at h
  split at h
  ·simp at h
  rename_i hn
  split at h
  case isFalse=>simp at h
  rename_i ho
  cases hk:kr f.type with
  |none=>rw[hk]at h; simp at h
  |some k1=>
   rw[hk]at h
   simp only at h
   split at h
   case isFalse=>simp at h
   rename_i hs
   rw[Option.map_eq_some_iff]at h
   obtain⟨k2,h3,rfl⟩:=h
   obtain⟨a1,a2⟩:=pQ h1
   obtain⟨b1,b2⟩:=pQ h2
   rw[List.drop_drop]at a2 b2
   have ih:=pS hr fs (off+k1.length) k2 cs lQ h3 a2 b2
   have hc:chunk P cs f.offset f.type=(cs.drop off).take k1.length:=by simp[chunk,ho,hs]
   have Hr:chunk P lQ f.offset f.type=(lQ.drop off).take k1.length:=by simp[chunk,ho,hs]
   simp only[jr,hn,if_false]
   rw[hc,Hr,hr _ _ _ _ hk a1 b1]
   simp only
   rw[ih,Option.map_some]
   congr 1
   have l1:=kc a1
   have l2:=kc b1
   conv=>rhs; rw[←List.take_append_drop k1.length (cs.drop off),←List.take_append_drop k1.length (lQ.drop off)]
   rw[pR (by omega),List.drop_drop,List.drop_drop]
theorem rf[ab]{P:Program}{rec:TypeId→List Value→List Value→Option Bool}{e:TypeId}{ks:List CK}(hs:ks.length=P.cellsOf e)
  (hr:∀ c c',bj ks c=true→bj ks c'=true→rec e c c'=some (cI c c')) :
  ∀ (n m:Nat) (cs lQ:List Value),bj (List.replicate n ks).flatten (cs.drop (m*ks.length))=true→bj (List.replicate n ks).flatten (lQ.drop (m*ks.length))=true →
    k8 rec P e cs lQ (List.range' m n)=some (cI (cs.drop (m*ks.length)) (lQ.drop (m*ks.length)))
 |0,m,cs,lQ,h1,h2=>by
  simp only[List.replicate_zero,List.flatten_nil]at h1 h2
  have e1:cs.drop (m*ks.length)=[]:=by cases hq:cs.drop (m*ks.length) with
   |nil=>rfl
   |cons x xs=>rw[hq]at h1; simp[bj]at h1
  have e2:lQ.drop (m*ks.length)=[]:=by cases hq:lQ.drop (m*ks.length) with
   |nil=>rfl
   |cons x xs=>rw[hq]at h2; simp[bj]at h2
  rw[e1,e2]; rfl
 |n+1,m,cs,lQ,h1,h2=>by
  simp only[List.replicate_succ,List.flatten_cons]at h1 h2
  obtain⟨a1,a2⟩:=pQ h1
  obtain⟨b1,b2⟩:=pQ h2
  rw[List.drop_drop]at a2 b2
  have em:m*ks.length+ks.length=(m+1)*ks.length:=by rw[Nat.succ_mul]
  rw[em]at a2 b2
  have ih:=rf hs hr n (m+1) cs lQ a2 b2
  have hc:chunk P cs (m*P.cellsOf e) e=(cs.drop (m*ks.length)).take ks.length:=by simp[chunk,hs]
  have Hr:chunk P lQ (m*P.cellsOf e) e=(lQ.drop (m*ks.length)).take ks.length:=by simp[chunk,hs]
  rw[List.range'_succ]
  simp only[k8]
  rw[hc,Hr,hr _ _ a1 b1]
  simp only
  rw[ih,Option.map_some]
  congr 1
  have l1:=kc a1
  have l2:=kc b1
  conv=>rhs; rw[←List.take_append_drop ks.length (cs.drop (m*ks.length)),←List.take_append_drop ks.length (lQ.drop (m*ks.length))]
  rw[pR (by omega),List.drop_drop,List.drop_drop,em]
theorem se[ab]{P:Program}:∀ (d:Nat) (t:TypeId) (ks:List CK) (c c':List Value),mr P d t=some ks→bj ks c=true→bj ks c'=true→kj P d t c c'=some (cI c c')
 |0,_,_,_,_,h,_,_=>by simp[mr]at h
 |d+1,t,ks,c,c',h,h1,h2=>by
  simp only[mr]at h
  simp only[kj]
  cases hu:P.underlying t with
  |none=>rw[hu]at h; simp at h
  |some ds=>
   rw[hu]at h
   cases ds with
   |bool=>
    simp only[Option.some.injEq]at h
    subst h
    match c,c',h1,h2 with
    |[.bool a],[.bool b],_,_=>simp[cI,rU]
    |[],_,h1,_=>simp[bj]at h1
    |_::_::_,_,h1,_=>simp[bj]at h1
    |_,[],_,h2=>simp[bj]at h2
    |_,_::_::_,_,h2=>simp[bj]at h2
    |[v],[w],h1,h2=>
     cases v<;>simp[bj,CK.fits]at h1
     cases w<;>simp[bj,CK.fits]at h2
     simp[cI,rU]
   |int k=>
    simp only[Option.some.injEq]at h
    subst h
    match c,c',h1,h2 with
    |[],_,h1,_=>simp[bj]at h1
    |_::_::_,_,h1,_=>simp[bj]at h1
    |_,[],_,h2=>simp[bj]at h2
    |_,_::_::_,_,h2=>simp[bj]at h2
    |[v],[w],h1,h2=>
     cases v<;>simp[bj,CK.fits]at h1
     cases w<;>simp[bj,CK.fits]at h2
     subst h1; subst h2
     simp[cI,rU]
   |string=>
    simp only[Option.some.injEq]at h
    subst h
    match c,c',h1,h2 with
    |[],_,h1,_=>simp[bj]at h1
    |_::_::_,_,h1,_=>simp[bj]at h1
    |_,[],_,h2=>simp[bj]at h2
    |_,_::_::_,_,h2=>simp[bj]at h2
    |[v],[w],h1,h2=>
     cases v<;>simp[bj,CK.fits]at h1
     cases w<;>simp[bj,CK.fits]at h2
     simp[cI,rU]
   |array n e=>
    simp only at h ⊢
    split at h
    case isFalse=>simp at h
    rename_i hc
    rw[if_pos hc]
    cases hk:mr P d e with
    |none=>rw[hk]at h; simp at h
    |some k1=>
     rw[hk]at h
     simp only at h
     split at h
     case isFalse=>simp at h
     rename_i hs
     simp only[Option.some.injEq]at h
     subst h
     have:=rf (rec:=kj P d) hs (fun c c'=>se d e k1 c c' hk) n 0 c c' (by simpa using h1) (by simpa using h2)
     rw[List.range_eq_range']
     simpa using this
   |struct fs=>
    simp only at h ⊢
    split at h
    ·simp at h
    rename_i hc
    rw[if_neg hc]
    have:=pS (rec:=kj P d) (fun t ks c c' hk=>se d t ks c c' hk) fs.toList 0 ks c c' h (by simpa using h1) (by simpa using h2)
    simpa using this
   |_=>simp at h
structure gH.Ok(Q:gH):Prop where
 row:∀ t m,Q.ty t=some m→∃ r,eW Q.P t=some r∧r.isAgg=m.agg∧r.size=m.size∧r.bytes=m.bytes∧(∀ z,m.zero=some z→cj r=some z)
 kind:∀ t m,Q.ty t=some m→∃ d,Q.P.underlying t=some d∧n7 d=m.kind
 Oi:∀ t m ks,Q.ty t=some m→m.Oi=some ks→Q.P.eqGuardType Q.P.depth t=false∧mr Q.P 20 t=some ks
 map:∀ t q,Q.mapOf t=some q→wK Q.P t=some q
theorem gu{α:Type}:∀ {l:List (Nat×α)} {n:Nat} {a:α},cm l n=some a→(n,a)∈l
 |[],_,_,h=>by simp[cm]at h
 |(m,b)::r,n,a,h=>by
  simp only[cm]at h
  split at h
  ·simp_all
  ·exact List.mem_cons_of_mem _ (gu h)
def rowOf(P:Program)(t:Nat):Option (Bool×Nat×Nat):=(eW P t).map fun r=>(r.isAgg,r.size,r.bytes)
def zeroOf(P:Program)(m:jS)(t:Nat):Option AV:=match m.zero with
 |none=>none
 |some _=>(eW P t).bind cj
def Oq(P:Program)(m:jS)(t:Nat):Option (List CK):=match m.Oi with
 |none=>none
 |some _=>if P.eqGuardType P.depth t=false then mr P 20 t else none
def KA(P:Program)(m:jS)(t:Nat):Option (KK×Nat):=match m.map with
 |none=>none
 |some _=>wK P t
theorem uM{α β:Type}{f g:α→β}:∀ {l:List α},l.map f=l.map g→∀ x,x∈l→f x=g x
 |[],_,x,h=>by simp at h
 |y::ys,h,x,hx=>by
  simp only[List.map_cons,List.cons.injEq]at h
  rcases List.mem_cons.1 hx with rfl|hx
  ·exact h.1
  ·exact uM h.2 x hx
theorem gH.Ok.of[ab]{Q:gH}(h1:(Q.M.map fun q=>rowOf Q.P q.1)=Q.M.map fun q=>some (q.2.agg,q.2.size,q.2.bytes))
  (h2:(Q.M.map fun q=>zeroOf Q.P q.2 q.1)=Q.M.map fun q=>q.2.zero)
  (h3:(Q.M.map fun q=>(Q.P.underlying q.1).map n7)=Q.M.map fun q=>some q.2.kind)
  (h4:(Q.M.map fun q=>Oq Q.P q.2 q.1)=Q.M.map fun q=>q.2.Oi) (h5:(Q.M.map fun q=>KA Q.P q.2 q.1)=Q.M.map fun q=>q.2.map):Q.Ok where
 row:=by
  intro t m h
  have hm:=gu h
  have e1:=uM h1 _ hm
  have e2:=uM h2 _ hm
  simp only[rowOf,Option.map_eq_some_iff,Prod.mk.injEq]at e1
  obtain⟨r,hr,a1,a2,a3⟩:=e1
  refine⟨r,hr,a1,a2,a3,fun z hz=>?_⟩
  simp only[zeroOf]at e2
  rw[hz]at e2
  simpa[hr] using e2
 kind:=by
  intro t m h
  have e:=uM h3 _ (gu h)
  simp only[Option.map_eq_some_iff]at e
  exact e
 Oi:=by
  intro t m ks h hk
  have e:=uM h4 _ (gu h)
  simp only[Oq]at e
  rw[hk]at e
  simp only at e
  split at e
  ·exact⟨by assumption,e⟩
  ·simp at e
 map:=by
  intro t q h
  unfold gH.mapOf at h
  obtain⟨m,h1,h2⟩:=Option.bind_eq_some_iff.1 h
  have e:=uM h5 _ (gu h1)
  simp only[KA]at e
  rw[h2]at e
  exact e
end Go.PI
end
section
/- PS, part F: operations that only compute, and those on one object. -/
namespace Go.PI
variable {T:dm}{ρ:Type}
structure RE(T:dm)(H:ah T.den)(hp:af)(v:SV T.den)(wr:List (Nat×aC T.den))(e:di):Prop where
 val:RV T (ba H wr) v e.val
 hp:RH T (ba H wr) (ak hp e.wr)
 grow:dh H (ba H wr)
 names:∀ q,q∈e.wr→q.1∈wr.map (·.1)
 Bc:∀ n:Nat,n∉wr.map (·.1)→n<H.length→(ba H wr)[n]?=H[n]?
 len:H.length≤(ba H wr).length
 KB:∀ n,recAt H n=true→n∉wr.map (·.1)
def je(T:dm)(H:ah T.den)(hp:af)(m:RM di)(K:EK T ρ)(r:ρ):Prop:=
 ∃ v wr rd e,aF hp m e rd∧RE T H hp v wr e∧(K v wr rd).run=some r
section
variable {H:ah T.den}{hp:af}{K:EK T ρ}{r:ρ}
theorem ar[ab](hh:RH T H hp){m:RM di}{v:SV T.den}{a:AV}{rd:List Nat}(hv:RV T H v a)(hm:aF hp m ⟨a,[]⟩ rd)(hk:(K v [] rd).run=some r):je T H hp m K r:=
 ⟨v,[],rd,_,hm,⟨hv,hh,dh.refl _,fun q h=>by simp at h,fun _ _ _=>rfl,Nat.le_refl _,fun _ _ h=>by simp at h⟩,hk⟩
theorem vO{n:Nat}{o:aC T.den}(hn:n=H.length∨n<H.length):H.length≤(bJ H n o).length:=by
 unfold bJ
 split<;>simp
theorem xV{n m:Nat}{o:aC T.den}(hm:m<H.length)(dK:m≠n):(bJ H n o)[m]?=H[m]?:=by
 grind[bJ]
theorem eA[ab](hh:RH T H hp){m:RM di}{nm:Nat}(hn:nm=H.length∨H[nm]?=some none){o:aC T.den}{a':aL}(ho:RO T H o a'){v:SV T.den}{a:AV}{rd:List Nat}
  (hv:RV T (bJ H nm o) v a) (hm:aF hp m ⟨a,[(nm,a')]⟩ rd) (hk:(K v [(nm,o)] rd).run=some r):je T H hp m K r:=by
 obtain⟨hg,hr⟩:=hh.new hn ho
 refine⟨v,[(nm,o)],rd,_,hm,⟨hv,hr,hg,fun q h=>?_,fun n h hl=>?_,?_,fun n h1 h2=>?_⟩,hk⟩
 ·simp at h; subst h; simp
 ·simp at h; exact xV hl h
 ·exact vO (hn.imp id fun h=>(List.getElem?_eq_some_iff.1 h).1)
 ·simp at h2
  subst h2
  unfold recAt at h1
  rcases hn with hn|hn
  ·rw[List.getElem?_eq_none (by omega)]at h1; simp at h1
  ·rw[hn]at h1; simp at h1
theorem jG[ab](hh:RH T H hp){m:RM di}{n:Nat}{o o':aC T.den}{a':aL}(ho:H[n]?=some (some o))(hc:o.cur≤o'.cur)(hl:o'.cur=o.cur→o'.len=o.len)(dA:RO T H o' a')
  {v:SV T.den} {a:AV} {rd:List Nat} (hv:RV T (H.set n (some o')) v a) (hm:aF hp m ⟨a,[(n,a')]⟩ rd) (hk:(K v [(n,o')] rd).run=some r) (RR:o.isRec=false:=by rfl):je T H hp m K r:=by
 obtain⟨hg,hr⟩:=hh.QD ho hc hl dA
 have bZ:=(List.getElem?_eq_some_iff.1 ho).1
 have e1:ba H [(n,o')]=H.set n (some o'):=by simp[ba,bJ]; omega
 have e2:ak hp [(n,a')]=hp.set n (some a'):=by simp[ak,setObj]; have:=hh.length; omega
 refine⟨v,[(n,o')],rd,_,hm,⟨by rw[e1]; exact hv,by rw[e1,e2]; exact hr,by rw[e1]; exact hg,fun q h=>?_,fun k h hl=>?_,?_,fun m h1 h2=>?_⟩,hk⟩
 ·simp at h; subst h; simp
 ·rw[e1]; simp at h; rw[List.getElem?_set_ne (Ne.symm h)]
 ·rw[e1]; simp
 ·simp at h2
  subst h2
  unfold recAt at h1
  rw[ho]at h1
  simp only at h1
  rw[RR]at h1
  simp at h1
theorem gV{x:Option AV}(h:(oD (T:=T) x K).run=some r):∃ v,x=some (.lit v)∧(K (.lit v) [] []).run=some r:=by
 unfold oD at h
 split at h
 ·exact⟨_,rfl,h⟩
 ·simp[Tr.run]at h
theorem lN{x:Option (SV T.den)}{rd:List Nat}(h:(xJ x rd K).run=some r):∃ v,x=some v∧(K v [] rd).run=some r:=by
 unfold xJ at h
 split at h
 ·exact⟨_,rfl,h⟩
 ·simp[Tr.run]at h
theorem ff{b:Bool}{x y:Tr ρ}(h:(Tr.cond b x y).run=some r):(b=true∧x.run=some r)∨(b=false∧y.run=some r):=by
 cases b with
 |true=>exact .inl ⟨rfl,h⟩
 |false=>exact .inr ⟨rfl,h⟩
theorem aX[ab]{b:Bool}{x:Tr ρ}(h:(Tr.cond b x .fail).run=some r):b=true∧x.run=some r:=by
 grind[Tr.run]
theorem bind_some{α:Type}{e:Option α}{k:α→Tr ρ}(h:(Tr.bind e k).run=some r):∃ a,e=some a∧(k a).run=some r:=by
 simp only[Tr.run,Option.bind_eq_some_iff]at h
 exact h
theorem iD[ab]{v:SV T.den}{K:Nat→Tr ρ}(h:(fR v K).run=some r):∃ k n,v=.lit (.int k n)∧0≤n∧(K n.toNat).run=some r:=by
 unfold fR at h
 split at h
 ·obtain⟨h1,h2⟩:=aX h
  exact⟨_,_,rfl,by simpa using h1,h2⟩
 ·simp[Tr.run]at h
theorem qB[ab]{v:SV T.den}{a:AV}{k:IntKind}{n:Int}(hv:RV T H v a)(e:v=.lit (.int k n))(hn:0≤n):asNat a=some n.toNat:=by
 subst e
 have:=hv.live rfl
 simp only[R]at this
 subst this
 simp[asNat,hn]
theorem cT[ab]{i:Nat}{K:Nat→Tr ρ}:∀ {len m:Nat},(fp i len m K).run=some r→m≤i∧i<m+len∧(K i).run=some r
 |0,m,h=>by simp[fp,Tr.run]at h
 |len+1,m,h=>by
  simp only[fp]at h
  rcases ff h with ⟨h1,h2⟩|⟨h1,h2⟩
  ·simp_all
  ·obtain⟨h3,h4,h5⟩:=cT h2
   exact⟨by omega,by omega,h5⟩
theorem RV.lit[ab]{v:SV T.den}{a:AV}{x:Value}(hv:RV T H v a)(e:v=.lit x):a=.lit x:=by
 subst e
 have:=hv.live rfl
 simpa only[R] using this
theorem bk(x:Value):RV T H (.lit x) (.lit x):=.inr (by simp[R])
theorem fH.arr(hh:RH T H hp){n c aq:Nat}(hv:fH H n c aq){o:aC T.den}(ho:H[n]?=some (some o))(hc:Nat.beq c o.cur=true):aq=o.len:=by
 obtain⟨o',h1,h2,h3⟩:=hv
 rw[ho]at h1
 simp only[Option.some.injEq]at h1
 subst h1
 exact h3 (Nat.eq_of_beq_eq_true hc)
theorem qC:∀ {v:SV T.den} {a0 a:AV} {d:Nat},R T H v a0→Vh a0 d a→R T H (ic d v) a
 |.ref n c i j,a0,a,d,h,hx=>by
  simp only[R]at h
  obtain⟨aq,rfl,hv⟩:=h
  rcases hx with ⟨n,aq,k,j,h1,rfl⟩|⟨e,j,h1,rfl⟩<;>cases h1
  simp only[ic,R]
  exact⟨_,rfl,hv⟩
 |.bc e j,a0,a,d,h,hx=>by
  simp only[R]at h
  obtain⟨e',rfl,hv⟩:=h
  rcases hx with ⟨n,aq,k,j,h1,rfl⟩|⟨e,j,h1,rfl⟩<;>cases h1
  simp only[ic,R]
  exact⟨_,rfl,hv⟩
 |.sy v s l i,a0,a,d,h,hx=>by
  simp only[R]at h
  obtain⟨a1,h1,h2,h3⟩:=h
  simp only[ic,R]
  rcases h3 with ⟨n,aq,k,j,rfl,rfl⟩|⟨e,j,rfl,rfl⟩<;>rcases hx with ⟨n',BF,k',j',e1,rfl⟩|⟨e',j',e1,rfl⟩<;>cases e1
  ·exact⟨.ref n aq k (j+d),qC h1 (.inl ⟨_,_,_,_,rfl,rfl⟩),h2,.inl ⟨_,_,_,_,rfl,by rw[Nat.add_right_comm]⟩⟩
  ·exact⟨.bc e (j+d),qC h1 (.inr ⟨_,_,rfl,rfl⟩),h2,.inr ⟨_,_,rfl,by rw[Nat.add_right_comm]⟩⟩
 |.dead,_,_,_,h,_=>by simp[R]at h
 |.lit v,_,_,_,h,hx=>by
  simp only[R]at h; subst h
  rcases hx with ⟨n,aq,k,j,h1,_⟩|⟨e,j,h1,_⟩<;>cases h1
 |.agg l,_,_,_,h,hx=>by
  simp only[R]at h; obtain⟨_,rfl,_⟩:=h
  rcases hx with ⟨n,aq,k,j,h1,_⟩|⟨e,j,h1,_⟩<;>cases h1
 |.jj l,_,_,_,h,hx=>by
  simp only[R]at h; obtain⟨_,rfl,_⟩:=h
  rcases hx with ⟨n,aq,k,j,h1,_⟩|⟨e,j,h1,_⟩<;>cases h1
 |.sl l,_,_,_,h,hx=>by
  simp only[R]at h; obtain⟨_,rfl,_⟩:=h
  rcases hx with ⟨n,aq,k,j,h1,_⟩|⟨e,j,h1,_⟩<;>cases h1
 |.ji t l,_,_,_,h,hx=>by
  simp only[R]at h
  rcases h with ⟨_,rfl,_⟩|⟨_,rfl⟩<;>rcases hx with ⟨n,aq,k,j,h1,_⟩|⟨e,j,h1,_⟩<;>cases h1
 |.iI n c i j ln cp,_,_,_,h,hx=>by
  simp only[R]at h; obtain⟨_,rfl,_⟩:=h
  rcases hx with ⟨n,aq,k,j,h1,_⟩|⟨e,j,h1,_⟩<;>cases h1
 |.bp esz n c rg cap,_,_,_,h,hx=>by
  simp only[R]at h
  obtain⟨aq,_,h2⟩:=h
  rcases rg with _|⟨off,len⟩<;>simp only at h2<;>subst h2<;>rcases hx with ⟨n,aq,k,j,h1,_⟩|⟨e,j,h1,_⟩<;>cases h1
 |.iK fn f c,_,_,_,h,hx=>by
  simp only[R]at h; obtain⟨_,_,rfl,_⟩:=h
  rcases hx with ⟨n,aq,k,j,h1,_⟩|⟨e,j,h1,_⟩<;>cases h1
 |.fZ t v,_,_,_,h,hx=>by
  simp only[R]at h; obtain⟨_,rfl,_⟩:=h
  rcases hx with ⟨n,aq,k,j,h1,_⟩|⟨e,j,h1,_⟩<;>cases h1
 |.wC t l c b,_,_,_,h,hx=>by
  simp only[R]at h
  rcases h with ⟨_,_,rfl,_⟩|⟨_,_,rfl|rfl⟩<;>rcases hx with ⟨n,aq,k,j,h1,_⟩|⟨e,j,h1,_⟩<;>cases h1
 |.nz,_,_,_,h,hx=>by
  simp only[R]at h
  subst h
  rcases hx with ⟨n,aq,k,j,h1,_⟩|⟨e,j,h1,_⟩<;>cases h1
 |.mp y n,_,_,_,h,hx=>by
  simp only[R]at h; obtain⟨rfl,_⟩:=h
  rcases hx with ⟨n,aq,k,j,h1,_⟩|⟨e,j,h1,_⟩<;>cases h1
theorem jW{e:SV T.den}{s:Nat}:∀ {n j:Nat} {xs:List (SV T.den)},gr e j s n=some xs→xs.length=n∧∀ m x,xs[m]?=some x→nx false 1 e (j+m*s)=some x
 |0,j,xs,h=>by simp only[gr,Option.some.injEq]at h; subst h; simp
 |n+1,j,xs,h=>by
  simp only[gr,Option.bind_eq_some_iff,Option.map_eq_some_iff]at h
  obtain⟨x,hx,l,hl,rfl⟩:=h
  obtain⟨h1,h2⟩:=jW hl
  refine⟨by simp[h1],fun m y hy=>?_⟩
  cases m with
  |zero=>simp at hy; subst hy; simpa using hx
  |succ m=>
   grind
theorem sf{k:IntKind}:∀ {xs:List (SV T.den)} {l:List Int},uD k xs=some l→xs=l.map fun n=>.lit (.int k n)
 |[],l,h=>by simp only[uD,Option.some.injEq]at h; subst h; rfl
 |x::r,l,h=>by
  unfold uD at h
  split at h
  ·simp at *
  ·rename_i k' n r' he
   cases he
   split at h
   case isFalse=>simp at h
   rename_i hk
   subst hk
   rw[Option.map_eq_some_iff]at h
   obtain⟨l',hl,rfl⟩:=h
   rw[sf hl]; rfl
  ·simp at h
theorem vP:∀ {xs:List (SV T.den)} {l:List Bool},tq xs=some l→xs=l.map fun n=>.lit (.bool n)
 |[],l,h=>by simp only[tq,Option.some.injEq]at h; subst h; rfl
 |x::r,l,h=>by
  unfold tq at h
  split at h
  ·simp at *
  ·rename_i n r' he
   cases he
   rw[Option.map_eq_some_iff]at h
   obtain⟨l',hl,rfl⟩:=h
   rw[vP hl]; rfl
  ·simp at h
theorem zY{α:Type}{l:List α}{i:Nat}{d x:α}(h:l[i]?=some x):Gl l i d=x:=by
 simp_all[Gl,h]
theorem CX{xs:List (SV T.den)}{i:Nat}{x y:SV T.den}(h:Kl i xs=some y)(hx:xs[i]?=some x):y=x:=by
 unfold Kl at h
 split at h
 ·rename_i k n r
  rw[Option.map_eq_some_iff]at h
  obtain⟨l,hl,rfl⟩:=h
  rw[sf hl]at hx
  have:(List.map (fun n=>(SV.lit (Value.int k n):SV T.den)) (n::l))[i]?=some x:=hx
  rw[List.getElem?_map,Option.map_eq_some_iff]at this
  obtain⟨z,hz,rfl⟩:=this
  rw[zY hz]
 ·rename_i n r
  rw[Option.map_eq_some_iff]at h
  obtain⟨l,hl,rfl⟩:=h
  rw[vP hl]at hx
  have:(List.map (fun n=>(SV.lit (Value.bool n):SV T.den)) (n::l))[i]?=some x:=hx
  rw[List.getElem?_map,Option.map_eq_some_iff]at this
  obtain⟨z,hz,rfl⟩:=this
  rw[zY hz]
 ·simp at h
theorem CY{m:jS}{v x:SV T.den}{aV len i:Nat}{xs:List (SV T.den)}{rd:List Nat}(h:EU H v aV len=some (xs,rd))(hx:Kl i xs=some x)(hi:i<len)(h1:m.agg=false)(h2:m.size=1):
  nX m H (ic (i*aV) v) K=K x [] rd:=by
 have fin:∀ (e:SV T.den) (j:Nat),gr e j aV len=some xs→nx m.agg m.size e (j+i*aV)=some x:=by
  intro e j hs
  obtain⟨g1,g2⟩:=jW hs
  have bZ:i<xs.length:=by omega
  have hg:=List.getElem?_eq_getElem bZ
  rw[CX hx hg,h1,h2]
  exact g2 _ _ hg
 unfold EU at h
 split at h
 ·rename_i n c k j
  split at h
  case h_2=>simp at h
  rename_i g cl f cur es ho
  split at h
  case h_2=>simp at h
  rename_i hc
  simp only[Option.bind_eq_some_iff,Option.map_eq_some_iff,Prod.mk.injEq]at h
  obtain⟨e,he,l,hl,rfl,rfl⟩:=h
  simp only[ic,nX,ho,hc,he,fin e j hl,xJ]
 ·rename_i e j
  simp only[Option.map_eq_some_iff,Prod.mk.injEq]at h
  obtain⟨l,hl,rfl,rfl⟩:=h
  simp only[ic,nX,fin e j hl,xJ]
 ·simp at h
theorem KC{α:Type}{l:List α}{n:Nat}{x:α}(h:l[n]?=some x):l.set n x=l:=Go.PI.gQ h
theorem CZ{k:IntKind}{y:Int}{aV i:Nat}:∀ {ns:List Int} {l:List (SV T.den)} {j m:Nat},i<m→(∀ p n,ns[p]?=some n→l[j+p*aV]?=some (.lit (.int k n)))→EV l j aV i m k y ns=l
 |[],l,j,m,_,_=>rfl
 |n::ns,l,j,m,hm,h=>by
  have h0:l[j]?=some (.lit (.int k n)):=by simpa using h 0 n rfl
  have hb:Nat.beq i m=false:=by
   cases hb:Nat.beq i m
   ·rfl
   ·have:=Nat.eq_of_beq_eq_true hb; omega
  simp only[EV,hb,cond_false]
  rw[KC h0]
  refine CZ (by omega) fun p x hp=>?_
  have:=h (p+1) x (by simpa using hp)
  rwa [Nat.succ_mul,Nat.add_comm _ aV,←Nat.add_assoc]at this
theorem C1{k:IntKind}{y:Int}{aV i:Nat}(hs:0<aV):∀ {ns:List Int} {l:List (SV T.den)} {j m:Nat},m≤i→i<m+ns.length→(∀ p n,ns[p]?=some n→l[j+p*aV]?=some (.lit (.int k n))) →
  EV l j aV i m k y ns=l.set (j+(i-m)*aV) (.lit (.int k y))
 |[],l,j,m,h1,h2,_=>by simp at h2; omega
 |n::ns,l,j,m,h1,h2,h=>by
  have h0:l[j]?=some (.lit (.int k n)):=by simpa using h 0 n rfl
  have hn:∀ (l':List (SV T.den)),(∀ q,j<q→l'[q]?=l[q]?)→∀ p x,ns[p]?=some x→l'[j+aV+p*aV]?=some (.lit (.int k x)):=by
   intro l' hl p x hp
   have:=h (p+1) x (by simpa using hp)
   rw[Nat.succ_mul,Nat.add_comm _ aV,←Nat.add_assoc]at this
   rw[hl _ (by omega)]; exact this
  by_cases hm:i=m
  ·subst hm
   have hb:Nat.beq i i=true:=by simp
   simp only[EV,hb,cond_true,Nat.sub_self,Nat.zero_mul,Nat.add_zero]
   exact CZ (by omega) (hn _ fun q hq=>by rw[List.getElem?_set_ne (by omega)])
  ·have hb:Nat.beq i m=false:=by
    cases hb:Nat.beq i m
    ·rfl
    ·simp_all
   simp only[EV,hb,cond_false]
   rw[KC h0,C1 hs (by omega) (by simp at h2; omega) (hn _ fun _ _=>rfl)]
   have:i-m=(i-(m+1))+1:=by omega
   rw[this,Nat.succ_mul,Nat.add_assoc,Nat.add_comm aV]
theorem Bd{m:jS}{b v:SV T.den}{aV len i n:Nat}{o:aC T.den}(h:EW H b v aV len i=some (n,o))(hi:i<len)(h2:m.size=1):
  qu m H (ic (i*aV) b) v K=K (.lit undef) [(n,o)] [n]:=by
 unfold EW at h
 split at h
 case h_2=>simp at h
 rename_i n' c i0 j k y
 split at h
 case h_2=>simp at h
 rename_i g cl f cur es ho
 split at h
 case h_2=>simp at h
 rename_i l hc he
 simp only[Bool.and_eq_true]at hc
 obtain⟨⟨Mf,NZ⟩,VA⟩:=hc
 have hs:0<aV:=Nat.le_of_ble_eq_true VA
 simp only[Option.map_eq_some_iff,Option.bind_eq_some_iff,Prod.mk.injEq]at h
 obtain⟨ns,⟨xs,zg,VB⟩,rfl,rfl⟩:=h
 obtain⟨g1,g2⟩:=jW zg
 have hxe:=sf VB
 have vb:∀ p x,ns[p]?=some x→l[j+p*aV]?=some (.lit (.int k x)):=by
  simp_all[nx]
 have hlen:ns.length=len:=by rw[←g1,hxe,List.length_map]
 have Fb:=C1 (y:=y) hs (Nat.zero_le i) (by omega) vb
 rw[Nat.sub_zero]at Fb
 rw[Fb]
 have bZ:j+i*aV<l.length:=by
  have:=vb i _ (List.getElem?_eq_getElem (by omega:i<ns.length))
  exact(List.getElem?_eq_some_iff.1 this).1
 have tU:(bI (SV.lit (Value.int k y):SV T.den))=[.lit (.int k y)]:=rfl
 simp only[ic,qu,bN,tU,ho,Mf,NZ,he,h2]
 simp[fP,iB,gn,av,aE]
 rw[if_pos (show j+i*aV+1≤l.length from bZ)]
theorem uN[ab](hT:T.Ok){P:Program}{t:TypeId}{m:jS}{q:bG}(hq:eW P t=some q)(h1:q.isAgg=m.agg)(h2:q.size=m.size)(hh:RH T H hp){a:SV T.den}{b:AV}(ha:RV T H a b)
  (h:(nX m H a K).run=some r):∃ v c rd,aF hp (kA P t b) c rd∧R T H v c∧(K v [] rd).run=some r:=by
 unfold kA
 rw[hq]
 simp only
 unfold nX at h
 split at h
 ·-- a reference
  rename_i n c i j
  have ha:=ha.live rfl
  simp only[R]at ha
  obtain⟨aq,rfl,bX⟩:=ha
  simp only
  split at h
  ·rename_i g cl f cur es ho
   obtain⟨o,cZ,dA⟩:=hh.obj ho
   obtain⟨es',rfl,cC,qP⟩:=dA
   split at h
   case h_2=>simp[Tr.run]at h
   rename_i hc
   have bX:=bX.arr hh ho hc
   simp only[aC.len]at bX
   split at h
   case h_2=>simp[Tr.run]at h
   rename_i e he
   obtain⟨v,hv,hk⟩:=lN h
   obtain⟨e',FU,DW⟩:=aw.get (aO.1 cC) he
   rw[←h1,←h2]at hv
   obtain⟨c',Hr,Sc⟩:=R.part DW hv
   refine⟨v,c',[n],?_,Sc,hk⟩
   refine aF.mono (aF.bind (aF.arr cZ (by rw[bX]; exact(RL.length cC).symm)) ?_) (rd:=[n]++[]) (fun _ h=>by simpa using h)
   simp only[FU]
   exact aF.gL Hr
  ·rename_i g f cur t' l ho
   obtain⟨o,cZ,dA⟩:=hh.obj ho
   obtain⟨es',rfl,cC⟩:=dA
   split at h
   case h_2=>simp[Tr.run]at h
   rename_i hc
   have bX:=bX.arr hh ho hc
   simp only[aC.len]at bX
   obtain⟨x,hx,h⟩:=bind_some h
   rw[Gs hT]at h
   obtain⟨v,hv,hk⟩:=lN h
   obtain⟨e',FU,DW⟩:=aw.get cC hx
   rw[←h1,←h2]at hv
   obtain⟨c',Hr,Sc⟩:=R.part (hT.up _ _ _ H DW) hv
   refine⟨v,c',[n],?_,Sc,hk⟩
   refine aF.mono (aF.bind (aF.arr cZ (by rw[bX]; exact(aw.length cC).symm)) ?_) (rd:=[n]++[]) (fun _ h=>by simpa using h)
   simp only[FU]
   exact aF.gL Hr
  ·simp[Tr.run]at h
 ·rename_i e j
  have ha:=ha.live rfl
  simp only[R]at ha
  obtain⟨e',rfl,DW,_⟩:=ha
  obtain⟨v,hv,hk⟩:=lN h
  rw[←h1,←h2]at hv
  obtain⟨c',Hr,Sc⟩:=R.part DW hv
  exact⟨v,c',[],aF.gL Hr,Sc,hk⟩
 ·simp[Tr.run]at h
theorem C2[ab](hT:T.Ok){P:Program}{t:TypeId}{m:jS}{q:bG}(hq:eW P t=some q)(h1:q.isAgg=m.agg)(h2:q.size=m.size)(hh:RH T H hp){a:SV T.den}{b:AV}(ha:RV T H a b)
  (h:(Gm m H a K).run=some r):∃ v c rd,aF hp (kA P t b) c rd∧R T H v c∧(K v [] rd).run=some r:=by
 unfold Gm at h
 split at h
 ·rename_i v aV len i
  have ha:=ha.live rfl
  simp only[R]at ha
  obtain⟨a0,g1,g2,g3⟩:=ha
  have hR:=qC g1 g3
  have chain:(fp i len 0 fun k=>nX m H (ic (k*aV) v) K).run=some r→∃ v c rd,aF hp (kA P t b) c rd∧R T H v c∧(K v [] rd).run=some r:=by
   intro h
   obtain⟨_,_,h⟩:=cT h
   exact uN hT hq h1 h2 hh (.inr hR) h
  split at h
  ·rename_i xs rd hs hx
   simp only[Bool.and_eq_true,Bool.not_eq_true']at hs
   split at h
   ·rename_i x KD
    rw[←CY (K:=K) (m:=m) hx KD g2 hs.1 (Nat.eq_of_beq_eq_true hs.2)]at h
    exact uN hT hq h1 h2 hh (.inr hR) h
   ·exact chain h
  ·exact chain h
 ·exact uN hT hq h1 h2 hh ha h
def aC.xW{den:Nat→Type}:aC den→Bool
 |.arr ..|.bU ..=>true
 |_=>false
theorem RO.C3[ab]{o:aC T.den}{a:aL}(dA:RO T H o a)(hj:o.xW=true):∃ es,a=.arr o.flags.1 o.flags.2.1 o.flags.2.2 es∧es.length=o.len:=by
 cases o with
 |arr g cl f cur es=>obtain⟨es',rfl,cC,_⟩:=dA; exact⟨es',rfl,(RL.length cC).symm⟩
 |bU g f cur t l=>obtain⟨es',rfl,cC⟩:=dA; exact⟨es',rfl,(aw.length cC).symm⟩
 |_=>simp[aC.xW]at hj
theorem sg[ab](hT:T.Ok){P:Program}{t:TypeId}{m:jS}{q:bG}(hq:eW P t=some q)(h2:q.size=m.size)(hh:RH T H hp){a v:SV T.den}{b c:AV}(ha:RV T H a b)(hv:RV T H v c)
  (h:(qu m H a v K).run=some r):je T H hp (oU P t b c) K r:=by
 unfold oU
 rw[hq]
 simp only
 unfold qu at h
 split at h
 case h_2=>simp[Tr.run]at h
 rename_i hd kF
 simp only[Bool.and_eq_true,decide_eq_true_eq]at kF
 have hv:=hv.live hd
 have lZ:=hv.cells
 split at h
 case h_2=>simp[Tr.run]at h
 rename_i n cc i j
 have ha:=ha.live rfl
 simp only[R]at ha
 obtain⟨aq,rfl,bX⟩:=ha
 simp only
 split at h
 ·rename_i g cl f cur es ho
  obtain⟨o,cZ,dA⟩:=hh.obj ho
  obtain⟨es',rfl,cC,qP⟩:=dA
  split at h
  case h_2=>simp[Tr.run]at h
  rename_i hc
  simp only[Bool.and_eq_true,Bool.not_eq_true']at hc
  have bX:=bX.arr hh ho hc.1
  simp only[aC.len]at bX
  split at h
  case h_2=>simp[Tr.run]at h
  rename_i e he
  split at h
  case h_2=>simp[Tr.run]at h
  rename_i e' yJ
  obtain⟨b',oQ,QH⟩:=aw.get (aO.1 cC) he
  obtain⟨e2,xw,PN⟩:=R.iL QH lZ yJ
  have ee:RL T H (es.set i e') (es'.set i e2):=aO.2 ((aO.1 cC).set i PN)
  refine jG (o':=.arr g (cl&&av (bI v)) f cur (es.set i e')) hh ho (Nat.le_refl _) (fun _=>by simp[aC.len]) (a':=.arr g (cl&&aY (cellsOf c)) f (es'.set i e2)) ⟨_,by rw[RL.closed lZ],ee,fun mO=>by simp only[Bool.and_eq_true]at mO; exact sb (qP mO.1) (xT yJ (jE (qP mO.1) (List.mem_of_getElem? he)) mO.2) i⟩ (bk undef) ?_ h
  refine aF.mono (aF.bind (aF.arr cZ (by rw[bX]; exact(RL.length cC).symm)) ?_) (rd:=[n]++[]) (fun _ h=>by simpa using h)
  simp only[oQ,xw]
  rw[if_pos ⟨hc.2,by rw[←lZ.length,h2]; exact kF.1,by rw[←lZ.CR]; exact kF.2⟩]
  exact aF.ret _
 ·rename_i g f cur t' l ho
  obtain⟨o,cZ,dA⟩:=hh.obj ho
  obtain⟨es',rfl,cC⟩:=dA
  split at h
  case h_2=>simp[Tr.run]at h
  rename_i hc
  simp only[Bool.and_eq_true,Bool.not_eq_true']at hc
  have bX:=bX.arr hh ho hc.1.1
  simp only[aC.len]at bX
  obtain⟨x,hx,h⟩:=bind_some h
  split at h
  case h_2=>simp[Tr.run]at h
  rename_i e' yJ
  split at h
  case h_2=>simp[Tr.run]at h
  rename_i y hy
  obtain⟨b',oQ,QH⟩:=aw.get cC hx
  obtain⟨e2,xw,PN⟩:=R.iL (hT.up _ _ _ H QH) lZ yJ
  have ee:aw (T.rp t') (l.set i y) (es'.set i e2):=cC.set i (hT.dn _ _ _ _ H hy PN)
  refine jG (o':=.bU g f cur t' (l.set i y)) hh ho (Nat.le_refl _) (fun _=>by simp[aC.len]) (a':=.arr g (true&&aY (cellsOf c)) f (es'.set i e2)) ⟨_,by rw[←RL.closed lZ,hc.2]; rfl,ee⟩ (bk undef) ?_ h
  refine aF.mono (aF.bind (aF.arr cZ (by rw[bX]; exact(aw.length cC).symm)) ?_) (rd:=[n]++[]) (fun _ h=>by simpa using h)
  simp only[oQ,xw]
  rw[if_pos ⟨hc.1.2,by rw[←lZ.length,h2]; exact kF.1,by rw[←lZ.CR]; exact kF.2⟩]
  exact aF.ret _
 ·simp[Tr.run]at h
theorem HF[ab](hT:T.Ok){P:Program}{t:TypeId}{m:jS}{q:bG}(hq:eW P t=some q)(h2:q.size=m.size)(hh:RH T H hp){a v:SV T.den}{b c:AV}(ha:RV T H a b)(hv:RV T H v c)
  (h:(EX m H a v K).run=some r):je T H hp (oU P t b c) K r:=by
 unfold EX at h
 split at h
 ·rename_i w aV len i
  have ha:=ha.live rfl
  simp only[R]at ha
  obtain⟨a0,g1,g2,g3⟩:=ha
  have hR:=qC g1 g3
  split at h
  ·rename_i n o hs hx
   rw[←Bd (K:=K) (m:=m) hx g2 (Nat.eq_of_beq_eq_true hs)]at h
   exact sg hT hq h2 hh (.inr hR) hv h
  ·obtain⟨_,_,h⟩:=cT h
   exact sg hT hq h2 hh (.inr hR) hv h
 ·exact sg hT hq h2 hh ha hv h
end
end Go.PI
end
section
/- PS, part G: the other operations. -/
namespace Go.PI
variable {T:dm}{ρ:Type}
section
variable {H:ah T.den}{hp:af}{K:EK T ρ}{r:ρ}{Q:gH}
theorem gH.Ok.slice(hQ:Q.Ok){t e:Nat}{m:jS}(h:Q.elemOf t=some (e,m)):Q.P.underlying t=some (.slice e)∧Q.ty e=some m:=by
 unfold gH.elemOf at h
 cases ht:Q.ty t with
 |none=>rw[ht]at h; simp at h
 |some m1=>
  rw[ht]at h
  simp only at h
  obtain⟨d,hd,hk⟩:=hQ.kind t m1 ht
  cases hm:m1.kind with
  |slice e'=>
   rw[hm]at h hk
   simp only[Option.map_eq_some_iff,Prod.mk.injEq]at h
   obtain⟨m2,h1,rfl,rfl⟩:=h
   cases d<;>simp[n7]at hk
   subst hk
   exact⟨hd,h1⟩
  |_=>rw[hm]at h; simp at h
theorem gH.Ok.elem[ab](hQ:Q.Ok){t:Nat}{m:jS}(h:Q.elem t=some m):∃ r,aN Q.P t=some r∧r.isAgg=m.agg∧r.size=m.size∧r.bytes=m.bytes∧(∀ z,m.zero=some z→cj r=some z):=by
 unfold gH.elem at h
 rw[Option.map_eq_some_iff]at h
 obtain⟨⟨e,m'⟩,h1,rfl⟩:=h
 obtain⟨h2,h3⟩:=hQ.slice h1
 obtain⟨r,h4,h5⟩:=hQ.row e _ h3
 exact⟨r,by simp[aN,h2,h4],h5⟩
theorem gH.Ok.C4(hQ:Q.Ok){t n:Nat}{m:jS}(h:Q.arr t=some (n,m)):∃ r,arrayElem Q.P t=some (n,r)∧r.isAgg=m.agg∧r.size=m.size:=by
 unfold gH.arr at h
 cases ht:Q.ty t with
 |none=>rw[ht]at h; simp at h
 |some m1=>
  rw[ht]at h
  simp only at h
  obtain⟨d,hd,hk⟩:=hQ.kind t m1 ht
  cases hm:m1.kind with
  |array n' e=>
   rw[hm]at h hk
   simp only[Option.map_eq_some_iff,Prod.mk.injEq]at h
   obtain⟨m2,h1,rfl,rfl⟩:=h
   cases d<;>simp[n7]at hk
   obtain⟨rfl,rfl⟩:=hk
   obtain⟨r,h4,h5,h6,_⟩:=hQ.row _ _ h1
   exact⟨r,by simp[arrayElem,hd,h4],h5,h6⟩
  |_=>rw[hm]at h; simp at h
theorem gH.Ok.Nm(hQ:Q.Ok){t f off:Nat}{m:jS}(h:Q.TL t f=some (off,m)):∃ r,lV Q.P t f=some (off,r)∧r.isAgg=m.agg∧r.size=m.size:=by
 unfold gH.TL at h
 cases ht:Q.ty t with
 |none=>rw[ht]at h; simp at h
 |some m1=>
  rw[ht]at h
  simp only at h
  obtain⟨d,hd,hk⟩:=hQ.kind t m1 ht
  cases hm:m1.kind with
  |struct fs=>
   rw[hm]at h hk
   simp only at h
   cases d<;>simp[n7]at hk
   rename_i DJ
   subst hk
   cases hf:(List.map (fun f=>(f.offset,f.type)) DJ.toList)[f]? with
   |none=>rw[hf]at h; simp at h
   |some q=>
    obtain⟨VC,e⟩:=q
    rw[hf]at h
    simp only at h
    rw[List.getElem?_map,Option.map_eq_some_iff]at hf
    obtain⟨fd,Ug,hq⟩:=hf
    simp only[Prod.mk.injEq]at hq
    obtain⟨rfl,rfl⟩:=hq
    cases he:Q.ty fd.type with
    |none=>rw[he]at h; simp at h
    |some m2=>
     rw[he]at h
     simp only at h
     split at h
     ·simp at h
     rename_i hz
     simp only[Option.some.injEq,Prod.mk.injEq]at h
     obtain⟨rfl,rfl⟩:=h
     obtain⟨r,h4,h5,h6,_⟩:=hQ.row _ _ he
     refine⟨r,?_,h5,h6⟩
     have VD:DJ[f]?=some fd:=by simpa using Ug
     simp[lV,structFields,hd,VD,h4]
     omega
  |_=>rw[hm]at h; simp at h
theorem gH.Ok.Nn(hQ:Q.Ok){t:Nat}{b:Bool}(h:Q.isSlice t=some b):bV Q.P t=b:=by
 unfold gH.isSlice at h
 cases ht:Q.ty t with
 |none=>rw[ht]at h; simp at h
 |some m1=>
  rw[ht]at h
  simp only at h
  obtain⟨d,hd,hk⟩:=hQ.kind t m1 ht
  unfold bV
  rw[hd]
  cases hm:m1.kind<;>rw[hm]at h hk<;>cases d<;>simp[n7]at hk<;>simp_all
theorem No[ab]{P:Program}{op:BinOp}{t:TypeId}{xo yo:Operand}{k:IntKind}{a b:Int}{v:Value}(h:PA op k a b=some v):
  fh P op t xo yo (.lit (.int k a)) (.lit (.int k b))=some (.lit v):=by
 cases op<;>simp only[PA,Option.some.injEq,reduceCtorEq]at h<;>subst h
 ·exact AH
 ·exact FX
 ·exact Mz
 ·rw[Mx]; congr
 ·rw[My]; congr
 ·exact qf
 ·exact Mv
 ·exact FV
 ·exact Mw
theorem Np[ab]{P:Program}{op:BinOp}{t:TypeId}{xo yo:Operand}{k:IntKind}{a b:Int}{v:Value}(h:PB op k a b=some v)(hb:b≠0):
  fh P op t xo yo (.lit (.int k a)) (.lit (.int k b))=some (.lit v):=by
 cases op<;>simp only[PB,Option.some.injEq,reduceCtorEq]at h<;>subst h
 ·simp only[fh,eh,c7]; rw[ep _ (by simp) (by simp)]; simp[binOp,Op.intDiv,hb]; rfl
 ·simp only[fh,eh,c7]; rw[ep _ (by simp) (by simp)]; simp[binOp,Op.intDiv,hb]; rfl
theorem PO[ab]{P:Program}{op:BinOp}{t:TypeId}{xo yo:Operand}{k k':IntKind}{a b:Int}{v:Value}(h:Ve op k a b=some v)(hb:¬b<0):
  fh P op t xo yo (.lit (.int k a)) (.lit (.int k' b))=some (.lit v):=by
 cases op<;>simp only[Ve,Option.some.injEq,reduceCtorEq]at h<;>subst h
 ·simp only[fh,eh,c7]; rw[ep _ (by simp) (by simp)]; simp[binOp,Op.shift,hb]; rfl
 ·simp only[fh,eh,c7]; rw[ep _ (by simp) (by simp)]; simp[binOp,Op.shift,hb]; rfl
theorem vQ{x y:Value}{K:Bool→Tr ρ}:wD x y K=K (rU x y):=by
 unfold wD rU
 split<;>simp_all
theorem vS[ab]:∀ {c c':List Value} {K:Bool→Tr ρ},kQ c c' K=K (cI c c')
 |[],[],K=>rfl
 |[x],[y],K=>by simp[kQ,vQ,cI]
 |x::x'::xs,y::y'::ys,K=>by
  simp only[kQ,vQ]
  rw[vS]
  rfl
 |[],_::_,K=>by simp[kQ,cI]
 |_::_,[],K=>by simp[kQ,cI]
 |[x],y::y'::ys,K=>by simp[kQ,cI]
 |x::x'::xs,[y],K=>by simp[kQ,cI]
theorem xX:∀ (c:List Value),cS (c.map .lit)=some c
 |[]=>rfl
 |v::vs=>by simp[cS,xX vs]
theorem HG[ab](hQ:Q.Ok){op:BinOp}{t:TypeId}{xo yo:Operand}{l l':List (SV T.den)}{a b:List AV}(h1:RL T H l a)(h2:RL T H l' b)(h:(E5 Q op t l l' K).run=some r):
  ∃ v,fh Q.P op t xo yo (.agg a) (.agg b)=some (.lit v)∧(K (.lit v) [] []).run=some r:=by
 unfold E5 at h
 split at h
 case h_2=>simp[Tr.run]at h
 rename_i c c' m hc Hr hm
 split at h
 case h_2=>simp[Tr.run]at h
 rename_i ks hks
 split at h
 case h_2=>simp[Tr.run]at h
 rename_i hf
 simp only[Bool.and_eq_true]at hf
 obtain⟨_,rfl⟩:=RL.cS h1 hc
 obtain⟨_,rfl⟩:=RL.cS h2 Hr
 obtain⟨hg,GP⟩:=hQ.Oi _ _ _ hm hks
 have he:=se 20 t ks c c' GP hf.1.2 hf.2
 obtain⟨rr,wb,ED,_⟩:=hQ.row _ _ hm
 have hd:∃ d,Q.P.underlying t=some d∧eg d=true:=by
  unfold eW at wb
  cases hi:Q.P.info? t with
  |none=>rw[hi]at wb; simp at wb
  |some i=>
   cases hu:Q.P.underlying t with
   |none=>rw[hi,hu]at wb; simp at wb
   |some d=>
    rw[hi,hu]at wb
    simp only[Option.some.injEq]at wb
    refine⟨d,rfl,?_⟩
    rw[←hf.1.1,←ED,←wb]
    rfl
 obtain⟨d,N7,Tv⟩:=hd
 have hA:∀ op,eh Q.P op t (.agg (c.map .lit)) (.agg (c'.map .lit))=k6 op (cI c c'):=by
  intro op
  unfold eh
  simp only[xX,N7]
  cases d<;>simp[eg]at Tv<;>simp[hg,he]
 have hB:∀ op x,k6 op (cI c c')=some x→fh Q.P op t xo yo (.agg (c.map .lit)) (.agg (c'.map .lit))=some x:=by
  intro op x hx
  unfold fh
  rw[hA,hx]
 rw[vS]at h
 cases op<;>simp only[Tr.run,reduceCtorEq]at h
 ·exact⟨_,hB _ _ rfl,h⟩
 ·exact⟨_,hB _ _ rfl,h⟩
theorem tA[ab]{v:SV T.den}{a b:AV}(hv:RV T H v a)(h:mE v=some b):a=b:=by
 rcases hv with hv|hv
 ·subst hv; simp[mE]at h
 ·exact hv.plain h
theorem tB{P:Program}{op:BinOp}{t:TypeId}{a b:AV}(ha:(∀ l,a≠.agg l)∨∀ l,b≠.agg l):eh P op t a b=none:=by
 unfold eh
 split
 ·simp_all
 ·rfl
theorem zZ[ab]{P:Program}{op:BinOp}{t:TypeId}{x:SV T.den}{a:AV}{n:Value}{y:AV}(hx:RV T H x a)(h:A1 P op t x n=some y):
  nD P op t a n=some y∧c7 a=none∧∀ l,a≠.agg l:=by
 unfold A1 at h
 split at h
 ·split at h
  ·have:=hx.live rfl
   simp only[R]at this
   obtain⟨v',rfl,l',rfl,_⟩:=this
   exact⟨by simpa[nD] using h,rfl,by simp⟩
  ·have:=hx.live rfl
   simp only[R]at this
   obtain⟨v',rfl,l',rfl,_⟩:=this
   exact⟨by simpa[nD] using h,rfl,by simp⟩
  ·simp at h
 ·split at h
  ·have:=hx.live rfl
   simp only[R]at this
   obtain⟨f',c',rfl,_⟩:=this
   exact⟨by simpa[nD] using h,rfl,by simp⟩
  ·simp at h
 ·split at h
  case isFalse=>simp at h
  rename_i hc
  simp only[Bool.and_eq_true]at hc
  cases x<;>simp[Gj]at hc
  rename_i xs
  have:=hx.live rfl
  simp only[R]at this
  obtain⟨l',rfl,hl,_⟩:=this
  have:notNil (.sl l')=true:=by
   simp only[notNil]
   have:=hl.length
   cases l' with
   |nil=>simp at this; exact absurd this hc.2
   |cons=>rfl
  refine⟨?_,rfl,by simp⟩
  simp only[nD,hc.1,this,Bool.and_self,if_true]
  exact h
 ·simp at h
theorem Nq[ab](hQ:Q.Ok){op:BinOp}{t:TypeId}{xo yo:Operand}{x y:SV T.den}{a b:AV}(hx:RV T H x a)(hy:RV T H y b)(h:(PC Q op t xo yo x y K).run=some r):
  ∃ v,fh Q.P op t xo yo a b=some (.lit v)∧(K (.lit v) [] []).run=some r:=by
 unfold PC at h
 split at h
 ·rename_i k m k' m'
  have ha:=hx.lit rfl
  have hb:=hy.lit rfl
  subst ha; subst hb
  split at h
  ·rename_i v hk hv
   simp only[decide_eq_true_eq]at hk
   subst hk
   exact⟨v,No hv,h⟩
  ·split at h
   ·rename_i v hk hv
    simp only[decide_eq_true_eq]at hk
    subst hk
    rcases ff h with ⟨_,h⟩|⟨h0,h⟩
    ·simp[Tr.run]at h
    ·exact⟨v,Np hv (by simpa using h0),h⟩
   ·split at h
    ·rename_i v hk hv
     rcases ff h with ⟨_,h⟩|⟨h0,h⟩
     ·simp[Tr.run]at h
     ·exact⟨v,PO hv (by simpa using h0),h⟩
    ·exact gV h
 ·rename_i l l'
  have ha:=hx.live rfl
  have hb:=hy.live rfl
  simp only[R]at ha hb
  obtain⟨a',rfl,ha⟩:=ha
  obtain⟨b',rfl,hb⟩:=hb
  exact HG hQ ha hb h
 ·split at h
  ·rename_i a' b' h1 h2
   rw[tA hx h1,tA hy h2]
   exact gV h
  ·split at h
   ·rename_i n
    obtain⟨v,hv,hk⟩:=gV h
    obtain⟨h1,h2,h3⟩:=zZ hx hv
    have hb:=hy.lit rfl
    subst hb
    refine⟨v,?_,hk⟩
    unfold fh
    rw[tB (.inl h3),h2]
    exact h1
   ·rename_i hyn
    split at h
    ·rename_i n
     obtain⟨v,hv,hk⟩:=gV h
     obtain⟨h1,h2,h3⟩:=zZ hy hv
     have ha:=hx.lit rfl
     subst ha
     refine⟨v,?_,hk⟩
     unfold fh
     rw[tB (.inr h3),h2]
     cases b with
     |lit b=>
      exfalso
      simp[c7]at h2
     |_=>exact h1
    ·simp[Tr.run]at h
theorem Nr[ab]{t:Bool}{x y:SV T.den}{a b:AV}(hx:RV T H x a)(hy:RV T H y b)(h:(Kp t x y K).run=some r):
  ∃ v,RV T H v (cond t a b)∧(K v [] []).run=some r:=by
 unfold Kp at h
 split at h
 ·have ha:=hx.lit rfl
  have hb:=hy.lit rfl
  subst ha; subst hb
  refine⟨_,?_,h⟩
  cases t<;>exact bk _
 ·rename_i k m k' m'
  have ha:=hx.lit rfl
  have hb:=hy.lit rfl
  subst ha; subst hb
  split at h
  ·rename_i hk
   subst hk
   refine⟨_,?_,h⟩
   cases t<;>exact bk _
  ·rcases ff h with ⟨rfl,h⟩|⟨rfl,h⟩
   ·exact⟨_,bk _,h⟩
   ·exact⟨_,bk _,h⟩
 ·rcases ff h with ⟨rfl,h⟩|⟨rfl,h⟩
  ·exact⟨_,hx,h⟩
  ·exact⟨_,hy,h⟩
end
end Go.PI
end
section
/- PS, part H: structs and slices built, cut, indexed. -/
namespace Go.PI
variable {T:dm}{ρ:Type}
section
variable {H:ah T.den}{hp:af}{K:EK T ρ}{r:ρ}{Q:gH}
theorem xY(hQ:Q.Ok):∀ {fs:List Field} {pl:List (Nat×Nat)},Q.uz (fs.map fun f=>(f.offset,f.type))=some pl→lW Q.P fs=some pl
 |[],pl,h=>by simpa[gH.uz,lW] using h
 |f::fs,pl,h=>by
  simp only[List.map_cons,gH.uz]at h
  cases hm:Q.ty f.type with
  |none=>rw[hm]at h; simp at h
  |some m=>
   cases hp:Q.uz (fs.map fun f=>(f.offset,f.type)) with
   |none=>rw[hm,hp]at h; simp at h
   |some l=>
    rw[hm,hp]at h
    simp only[Option.some.injEq]at h
    subst h
    obtain⟨r,h1,_,h2,_⟩:=hQ.row _ _ hm
    simp[lW,h1,xY hQ hp,h2]
theorem xZ[ab]{q:bG}{z:AV}{zs:SV T.den}(h:cj q=some z)(hz:(gq z:Option (SV T.den))=some zs):
  ∃ v,q.zero=some v∧v.cells.toList.all (fun v=>a9 (.lit v))=true∧RL T H (bI zs) (v.cells.toList.map .lit):=by
 unfold cj at h
 cases hv:q.zero with
 |none=>rw[hv]at h; simp at h
 |some v=>
  rw[hv]at h
  simp only at h
  split at h
  case isFalse=>simp at h
  rename_i hc
  simp only[Option.some.injEq]at h
  refine⟨v,rfl,hc.2.2.1,?_⟩
  have h1:=(uJ (H:=H) hz).cells
  rw[←h]at h1
  cases v<;>first|exact h1|(simp[wI]at hc)
theorem HH[ab](hQ:Q.Ok){t:TypeId}{ps:List (Nat×SV T.den)}{qs:List (Nat×AV)}(hp:RP T H ps qs){v:SV T.den}(h:EY Q t ps=some v):∃ a,tN Q.P t qs=some a∧R T H v a:=by
 unfold EY at h
 split at h
 case h_2=>simp at h
 rename_i m hm
 obtain⟨q,gI,dR,gA,_,Gb⟩:=hQ.row _ _ hm
 obtain⟨d,hd,hk⟩:=hQ.kind _ _ hm
 split at h
 ·rename_i fs z Ru hz
  rw[Option.bind_eq_some_iff]at hz
  obtain⟨z0,MW,hz⟩:=hz
  obtain⟨zv,Pp,PQ,Sd⟩:=xZ (H:=H) (Gb _ MW) hz
  rw[Ru]at hk
  cases d<;>simp[n7]at hk
  rename_i DJ
  subst hk
  split at h
  case h_2=>simp at h
  rename_i pl FH
  rw[Option.map_eq_some_iff]at h
  obtain⟨l,h1,rfl⟩:=h
  obtain⟨l',h2,h3⟩:=RP.fill hp Sd h1
  refine⟨.agg l',?_,by simp only[R]; exact⟨l',rfl,h3⟩⟩
  unfold tN
  simp only[hd,gI,Pp,xY hQ FH,PQ,if_true]
  rw[h2]; rfl
 ·rename_i n e z Ru hz
  rw[Option.bind_eq_some_iff]at hz
  obtain⟨z0,MW,hz⟩:=hz
  obtain⟨zv,Pp,PQ,Sd⟩:=xZ (H:=H) (Gb _ MW) hz
  rw[Ru]at hk
  cases d<;>simp[n7]at hk
  obtain⟨rfl,rfl⟩:=hk
  split at h
  case h_2=>simp at h
  rename_i m2 yx
  obtain⟨q2,wb,_,hr3,_⟩:=hQ.row _ _ yx
  rw[Option.map_eq_some_iff]at h
  obtain⟨l,h1,rfl⟩:=h
  obtain⟨l',h2,h3⟩:=RP.fill hp Sd h1
  refine⟨.agg l',?_,by simp only[R]; exact⟨l',rfl,h3⟩⟩
  unfold tN
  simp only[hd,gI,Pp,wb,PQ,if_true,hr3]
  rw[h2]; rfl
 ·simp at h
theorem vT[ab]:∀ {ps:List (Nat×SV T.den)} {qs:List (Nat×AV)} {es:List (SV T.den)} {es':List AV},RP T H ps qs→RL T H es es'→RL T H (fe es ps) (gM es' qs)
 |[],[],es,es',_,h=>h
 |(i,v)::ps,(i',a)::qs,es,es',hp,h=>by
  obtain⟨⟨h1,h2⟩,h3⟩:=hp
  simp only at h1 h2
  subst h1
  simp only[fe,gM]
  exact vT h3 (aO.2 ((aO.1 h).set i h2))
 |[],_::_,_,_,h,_=>h.elim
 |_::_,[],_,_,h,_=>h.elim
theorem RP.snd:∀ {ps:List (Nat×SV T.den)} {qs:List (Nat×AV)},RP T H ps qs→RL T H (ps.map (·.2)) (qs.map (·.2))
 |[],[],_=>by simp[RL]
 |(i,v)::ps,(i',a)::qs,h=>by
  obtain⟨⟨_,h2⟩,h3⟩:=h
  simp only[List.map_cons,RL]
  exact⟨h2,RP.snd h3⟩
 |[],_::_,h=>h.elim
 |_::_,[],h=>h.elim
theorem RP.all{p:Nat×SV T.den→Bool}{q:Nat×AV→Bool}(L2:∀ i v a,R T H v a→p (i,v)=q (i,a)):∀ {ps:List (Nat×SV T.den)} {qs:List (Nat×AV)},RP T H ps qs→ps.all p=qs.all q
 |[],[],_=>rfl
 |(i,v)::ps,(i',a)::qs,h=>by
  obtain⟨⟨h1,h2⟩,h3⟩:=h
  simp only at h1 h2
  subst h1
  simp only[List.all_cons]
  rw[L2 i v a h2,RP.all L2 h3]
 |[],_::_,h=>h.elim
 |_::_,[],h=>h.elim
theorem eC(hh:RH T H hp){nm:Nat}(hn:nm=H.length∨H[nm]?=some none){o:aC T.den}:fH (bJ H nm o) nm o.cur o.len:=by
 refine⟨o,?_,Nat.le_refl _,fun _=>rfl⟩
 unfold bJ
 split
 ·rename_i h; subst h; simp
 ·grind
theorem rh:∀ (ps:List (Nat×SV T.den)) (es:List (SV T.den)),(fe es ps).length=es.length
 |[],es=>rfl
 |(i,v)::ps,es=>by simp only[fe]; rw[rh ps]; simp
theorem x5[ab](hQ:Q.Ok)(hh:RH T H hp){nm:Nat}(hn:nm=H.length∨H[nm]?=some none){t:TypeId}{len:Nat}{ps:List (Nat×SV T.den)}{qs:List (Nat×AV)}(Se:RP T H ps qs)
  (h:(pK Q nm t len ps K).run=some r):je T H hp (.gL (jX Q.P nm t len qs)) K r:=by
 unfold pK at h
 split at h
 case h_2=>simp[Tr.run]at h
 rename_i m hm
 obtain⟨q,gI,dR,gA,Gb,Iq⟩:=hQ.elem hm
 split at h
 case h_2=>simp[Tr.run]at h
 rename_i z hz
 rw[Option.bind_eq_some_iff]at hz
 obtain⟨z0,MW,hz⟩:=hz
 split at h
 case isFalse=>simp[Tr.run]at h
 rename_i hc
 have nI:=Iq _ MW
 have cC:=vT Se (aO.2 (aw.replicate (uJ (H:=H) hz) len))
 refine eA hh hn (o:=.arr false (av (ps.map (·.2))) false 0 (fe (List.replicate len z) ps)) (a':=.arr false (aY (qs.map (·.2))) false (gM (List.replicate len z0) qs))
  ⟨_,by rw[RL.closed (RP.snd Se)],cC,fun mO=>oF (kX fun x hx=>by rw[List.eq_of_mem_replicate hx]; exact tx hz) mO⟩ (a:=.bp q.size nm len 0 len (some len)) (rd:=[]) ?_ ?_ h
 ·right
  simp only[R]
  have hv:=eC hh hn (o:=.arr false (av (ps.map (·.2))) false 0 (fe (List.replicate len z) ps))
  simp only[aC.cur,aC.len,rh,List.length_replicate]at hv
  exact⟨len,hv,by rw[gA]⟩
 ·have bf:qs.all (fun p=>decide (p.1<len)&&aG q.isAgg q.size p.2)=true:=by
   rw[←RP.all (p:=fun p=>decide (p.1<len)&&kP m.agg m.size p.2) (fun i v a L4=>by simp only[dR,gA,R.aG L4]) Se]; exact hc.2.2
  refine aF.gL ?_
  unfold jX
  simp only[gI,nI]
  rw[if_pos ⟨by rw[gA]; exact hc.1,by rw[gA]; exact hc.2.1,bf⟩]
def dm.tC(T:dm)(Q:gH):Prop:=∀ t m z za,Q.ty t=some m→m.zero=some za→T.zero t=some z→T.rp t z za
theorem yS[ab](hQ:Q.Ok)(hZ:T.tC Q)(hh:RH T H hp){nm:Nat}(hn:nm=H.length∨H[nm]?=some none){t:TypeId}{l c:SV T.den}{a b:AV}(hl:RV T H l a)(hc:RV T H c b)
  (h:(rR Q nm t l c K).run=some r):je T H hp (.gL (eJ Q.P nm t a b)) K r:=by
 unfold rR at h
 split at h
 case h_2=>simp[Tr.run]at h
 rename_i e m hm
 obtain⟨hu,ma⟩:=hQ.slice hm
 obtain⟨q,gI,dR,gA,Gb,Iq⟩:=hQ.row _ _ ma
 have yJ:aN Q.P t=some q:=by simp[aN,hu,gI]
 split at h
 case h_2=>simp[Tr.run]at h
 rename_i za z PR hz DQ
 simp only[decide_eq_true_eq]at DQ
 have nI:=Iq _ PR
 have VE:=hZ _ _ _ _ ma PR hz
 obtain⟨k,n,e1,D8,h⟩:=iD h
 obtain⟨k',n',e2,VF,h⟩:=iD h
 have ha:=qB hl e1 D8
 have hb:=qB hc e2 VF
 obtain⟨hg,h⟩:=aX h
 simp only[Bool.and_eq_true,decide_eq_true_eq]at hg
 have xe:aw (T.rp e) (List.replicate n'.toNat z) (List.replicate n'.toNat za):=aw.replicate VE _
 have hA:eJ Q.P nm t a b=some ⟨.bp q.size nm n'.toNat 0 n.toNat (some n'.toNat),[(nm,.arr false true false (List.replicate n'.toNat za))]⟩:=by
  simp_all[yJ,ha,hb,nI,eJ]
 have hv:=eC hh hn (o:=.bU false false 0 e (List.replicate n'.toNat z))
 simp only[aC.cur,aC.len,List.length_replicate]at hv
 refine eA hh hn (o:=.bU false false 0 e (List.replicate n'.toNat z)) ⟨_,rfl,xe⟩ ?_ (aF.gL hA) h
 right
 simp only[R]
 exact⟨n'.toNat,hv,by rw[gA]⟩
theorem yT[ab](hQ:Q.Ok)(hZ:T.tC Q)(hh:RH T H hp){nm:Nat}(hn:nm=H.length∨H[nm]?=some none){t:TypeId}{l:SV T.den}{a:AV}(hl:RV T H l a)
  (h:(rS Q nm t l K).run=some r):je T H hp (.gL (eJ Q.P nm t a a)) K r:=by
 unfold rS at h
 split at h
 case h_2=>simp[Tr.run]at h
 rename_i e m hm
 obtain⟨hu,ma⟩:=hQ.slice hm
 obtain⟨q,gI,dR,gA,Gb,Iq⟩:=hQ.row _ _ ma
 have yJ:aN Q.P t=some q:=by simp[aN,hu,gI]
 split at h
 case h_2=>simp[Tr.run]at h
 rename_i za z PR hz DQ
 simp only[decide_eq_true_eq]at DQ
 have nI:=Iq _ PR
 have VE:=hZ _ _ _ _ ma PR hz
 obtain⟨k,n,e1,D8,h⟩:=iD h
 have ha:=qB hl e1 D8
 obtain⟨hg,h⟩:=aX h
 simp only[Bool.and_eq_true,decide_eq_true_eq]at hg
 have xe:aw (T.rp e) (List.replicate n.toNat z) (List.replicate n.toNat za):=aw.replicate VE _
 have hA:eJ Q.P nm t a a=some ⟨.bp q.size nm n.toNat 0 n.toNat (some n.toNat),[(nm,.arr false true false (List.replicate n.toNat za))]⟩:=by
  simp_all[yJ,ha,nI,eJ]
 have hv:=eC hh hn (o:=.bU false false 0 e (List.replicate n.toNat z))
 simp only[aC.cur,aC.len,List.length_replicate]at hv
 refine eA hh hn (o:=.bU false false 0 e (List.replicate n.toNat z)) ⟨_,rfl,xe⟩ ?_ (aF.gL hA) h
 right
 simp only[R]
 exact⟨n.toNat,hv,by rw[gA]⟩
theorem HI[ab](hQ:Q.Ok)(hh:RH T H hp){nm:Nat}(hn:nm=H.length∨H[nm]?=some none){t:TypeId}{m:jS}(hm:Q.ty t=some m){z:SV T.den}(hz:m.zero.bind gq=some z)(hs:0<m.size)
  (h:(K (.ref nm 0 0 0) [(nm,.arr false true false 0 [z])] []).run=some r) {ev:Operand→AV} {dst:Option Tmp} {type:TypeId} {pos:String} {after:Array Edge} {guard:Option (Nat×Bool)} :
  je T H hp (aK Q.P nm ev ⟨dst,.alloc t,type,pos,after,guard⟩) K r:=by
 obtain⟨q,gI,dR,gA,Gb,Iq⟩:=hQ.row _ _ hm
 rw[Option.bind_eq_some_iff]at hz
 obtain⟨z0,MW,hz⟩:=hz
 have nI:=Iq _ MW
 refine eA hh hn (o:=.arr false true false 0 [z]) (a':=.arr false true false [z0]) ⟨_,rfl,by simp only[RL]; exact⟨uJ hz,trivial⟩,fun _=>by simp only[av,tx hz,Bool.and_self]⟩ (a:=.ref nm 1 0 0) (rd:=[]) ?_ ?_ h
 ·right
  simp only[R]
  exact⟨1,rfl,eC hh hn (o:=.arr false true false 0 [z])⟩
 ·simp only[aK,gI,nI]
  rw[if_pos (by omega)]
  exact aF.ret _
def KE(T:dm)(H:ah T.den)(x:Option (SV T.den))(y:Option AV):Prop:=
 match x,y with
 |none,none=>True
 |some v,some a=>RV T H v a
 |_,_=>False
theorem gW[ab]{d:Nat}{x:Option (SV T.den)}{y:Option AV}(KF:KE T H x y){K:Nat→Tr ρ}(h:(iZ d x K).run=some r):∃ n,bq d y=some n∧(K n).run=some r:=by
 unfold iZ at h
 split at h
 ·cases y with
  |none=>exact⟨d,rfl,h⟩
  |some a=>exact KF.elim
 ·cases y with
  |none=>exact KF.elim
  |some a=>
   obtain⟨k,n,e1,D8,h⟩:=iD h
   exact⟨n.toNat,qB KF e1 D8,h⟩
theorem ke[ab]{d:Nat}{v:SV T.den}{y:Option AV}(KF:KE T H (some v) y){K:Nat→Tr ρ}(h:(fR v K).run=some r):∃ n,bq d y=some n∧(K n).run=some r:=
 gW (d:=d) KF h
theorem sh[ab]{x:Option (SV T.den)}{y z:Option AV}(KF:KE T H x y)(h:uE x=some z):y=z:=by
 cases x with
 |none=>
  cases y with
  |none=>simpa[uE] using h
  |some a=>exact KF.elim
 |some v=>
  cases y with
  |none=>exact KF.elim
  |some a=>
   simp only[uE,Option.map_eq_some_iff]at h
   obtain⟨b,hb,rfl⟩:=h
   rw[tA KF hb]
theorem KE.isSome{x:Option (SV T.den)}{y:Option AV}(KF:KE T H x y):x.isSome=y.isSome:=by
 cases x<;>cases y<;>first|rfl|exact KF.elim
theorem qD[ab](hh:RH T H hp){esz n c:Nat}{rg:Option (Nat×Nat)}{cap:Option Nat}{a:AV}(ha:R T H (.bp esz n c rg cap) a){off len:Nat}(hr:mG H n c rg=some (off,len)){o:aC T.den}
  (ho:H[n]?=some (some o)):∃ aq,a=.bp esz n aq off len cap∧fH H n c aq∧(Nat.beq c o.cur=true→aq=o.len):=by
 simp only[R]at ha
 obtain⟨aq,hv,ha⟩:=ha
 have bX:Nat.beq c o.cur=true→aq=o.len:=hv.arr hh ho
 cases rg with
 |some q=>
  obtain⟨VC,Nh⟩:=q
  simp only[mG,Option.some.injEq,Prod.mk.injEq]at hr
  obtain⟨rfl,rfl⟩:=hr
  exact⟨aq,ha,hv,bX⟩
 |none=>
  simp only[mG,ho]at hr
  split at hr
  case isFalse=>simp at hr
  rename_i hc
  simp only[Option.some.injEq,Prod.mk.injEq]at hr
  obtain⟨rfl,rfl⟩:=hr
  have:=bX hc
  subst this
  exact⟨_,ha,hv,fun _=>rfl⟩
theorem si(hT:T.Ok){t:Nat}{agg:Bool}{size:Nat}(h1:agg=T.agg t)(h2:size=T.size t):∀ {l:List (T.den t)} {l':List AV},aw (T.rp t) l l'→l'.all (aG agg size)=true
 |[],[],_=>rfl
 |_::_,_::_,h=>by
  subst h1; subst h2
  simp only[List.all_cons,Bool.and_eq_true]
  exact⟨hT.ok _ _ _ h.1,si hT rfl rfl h.2⟩
theorem Ns[ab](hT:T.Ok)(hQ:Q.Ok)(hh:RH T H hp){t:TypeId}{x:SV T.den}{a:AV}(hx:RV T H x a){lo hi mx:Option (SV T.den)}{QI p9 Ot:Option AV}(h1:KE T H lo QI)(h2:KE T H hi p9)(h3:KE T H mx Ot)
  (h:(Py Q H t x lo hi mx K).run=some r):∃ v b,mQ Q.P t a QI p9 Ot=some b∧RV T H v b∧(K v [] []).run=some r:=by
 unfold Py at h
 split at h
 ·rename_i v
  have ha:=hx.lit rfl
  subst ha
  split at h
  ·rename_i l hh' m e1 e2 e3
   rw[sh h1 e1,sh h2 e2,sh h3 e3]
   split at h
   ·rename_i w hw
    exact⟨_,_,hw,bk w,h⟩
   ·rename_i hw
    exact⟨_,_,hw,.inr (by simp only[R]),h⟩
   ·simp[Tr.run]at h
  ·simp[Tr.run]at h
 ·rename_i xs
  have ha:=hx.live rfl
  simp only[R]at ha
  obtain⟨l',rfl,hl,DM⟩:=ha
  split at h
  ·rename_i m hm
   obtain⟨q,gI,dR,gA,_⟩:=hQ.elem hm
   obtain⟨n1,e1,h⟩:=gW h1 h
   obtain⟨n2,e2,h⟩:=gW h2 h
   obtain⟨_,_,h⟩:=cT h
   obtain⟨_,_,h⟩:=cT h
   split at h
   case h_2=>simp[Tr.run]at h
   rename_i hc
   simp only[Bool.and_eq_true,decide_eq_true_eq]at hc
   cases Ot with
   |some _=>exact h3.elim
   |none=>
    refine⟨_,.sl ((l'.drop n1).take (n2-n1)),?_,?_,h⟩
    ·have bf:l'.all (aG q.isAgg q.size)=true:=by
      rw[dR,gA,←RL.all (fun _ _=>R.aG) hl]; exact hc.2
     simp only[mQ,gI,e1]
     rw[show bq l'.length p9=some n2 by rw[←hl.length]; exact e2]
     simp only
     rw[if_pos ⟨hc.1.1,by rw[←hl.length]; exact hc.1.2,bf⟩]
    ·right
     simp only[R]
     exact⟨_,rfl,aO.2 (((aO.1 hl).drop n1).take (n2-n1)),mo DM _ _⟩
  ·simp[Tr.run]at h
 ·rename_i t' l
  split at h
  ·rename_i m hm
   obtain⟨q,gI,dR,gA,_⟩:=hQ.elem hm
   split at h
   case h_2=>simp[Tr.run]at h
   rename_i hc
   simp only[Bool.and_eq_true,decide_eq_true_eq]at hc
   have ha:=hx.live rfl
   cases Ot with
   |some _=>exact h3.elim
   |none=>
    have key:∀ n1 n2,bq 0 QI=some n1→bq l.length p9=some n2→n1≤n2→n2≤l.length →
      ∃ b,mQ Q.P t a QI p9 none=some b∧RV T H (.ji t' ((l.drop n1).take (n2-n1))) b:=by
     intro n1 n2 e1 e2 hle yG
     simp only[R]at ha
     rcases ha with ⟨l',rfl,hl⟩|⟨rfl,rfl⟩
     ·refine⟨.sl ((l'.drop n1).take (n2-n1)),?_,?_⟩
      ·simp only[mQ,gI,e1]
       rw[show bq l'.length p9=some n2 by rw[←hl.length]; exact e2]
       simp only
       rw[if_pos ⟨hle,by rw[←hl.length]; exact yG,si hT (by rw[dR]; exact hc.1) (by rw[gA]; exact hc.2) hl⟩]
      ·right
       simp only[R]
       exact .inl ⟨_,rfl,(hl.drop n1).take (n2-n1)⟩
     ·simp only[List.length_nil,Nat.le_zero]at yG
      subst yG
      have:n1=0:=by omega
      subst this
      refine⟨.lit cK,?_,?_⟩
      ·simp only[List.length_nil]at e2
       simp only[mQ,gI,e1,e2]
       rfl
      ·right
       show R T H (.ji t' _) (.lit cK)
       unfold R
       exact .inr ⟨by simp,rfl⟩
    cases lo with
    |none=>
     cases QI with
     |some _=>exact h1.elim
     |none=>
      cases hi with
      |none=>
       cases p9 with
       |some _=>exact h2.elim
       |none=>
        obtain⟨b,hb,hr⟩:=key 0 l.length rfl rfl (Nat.zero_le _) (Nat.le_refl _)
        simp only[List.drop_zero,Nat.sub_zero,List.take_length]at hr
        exact⟨_,b,hb,hr,h⟩
      |some hi=>
       obtain⟨n2,e2,h⟩:=ke (d:=l.length) h2 h
       obtain⟨hg,h⟩:=aX h
       simp only[decide_eq_true_eq]at hg
       obtain⟨b,hb,hr⟩:=key 0 n2 rfl e2 (Nat.zero_le _) hg
       simp only[List.drop_zero,Nat.sub_zero]at hr
       exact⟨_,b,hb,hr,h⟩
    |some lo=>
     cases hi with
     |none=>
      cases p9 with
      |some _=>exact h2.elim
      |none=>
       obtain⟨n1,e1,h⟩:=ke (d:=0) h1 h
       obtain⟨hg,h⟩:=aX h
       simp only[decide_eq_true_eq]at hg
       obtain⟨b,hb,hr⟩:=key n1 l.length e1 rfl hg (Nat.le_refl _)
       rw[List.take_of_length_le (by simp)]at hr
       exact⟨_,b,hb,hr,h⟩
     |some hi=>
      obtain⟨n1,e1,h⟩:=ke (d:=0) h1 h
      obtain⟨n2,e2,h⟩:=ke (d:=l.length) h2 h
      obtain⟨hg,h⟩:=aX h
      simp only[Bool.and_eq_true,decide_eq_true_eq]at hg
      obtain⟨b,hb,hr⟩:=key n1 n2 e1 e2 hg.1 hg.2
      exact⟨_,b,hb,hr,h⟩
  ·rename_i m mx hm
   obtain⟨q,gI,dR,gA,_⟩:=hQ.elem hm
   split at h
   case h_2=>simp[Tr.run]at h
   rename_i hi hc
   simp only[Bool.and_eq_true,decide_eq_true_eq]at hc
   cases p9 with
   |none=>exact h2.elim
   |some Sf=>
   cases Ot with
   |none=>exact h3.elim
   |some TZ=>
   have ha:=hx.live rfl
   simp only[R]at ha
   split at h
   ·rename_i hz
    simp only[Bool.and_eq_true]at hz
    obtain⟨Pp,PQ,Sd⟩:=hz
    cases lo with
    |some _=>simp at Pp
    |none=>
    cases QI with
    |some _=>exact h1.elim
    |none=>
    have z0:∀ {v:SV T.den} {a:AV},TM v=true→RV T H v a→asNat a=some 0:=by
     intro v a hv hr
     unfold TM at hv
     split at hv
     ·simp only[decide_eq_true_eq]at hv
      subst hv
      have:=hr.live rfl
      simp only[R]at this
      subst this
      rfl
     ·simp at hv
    have e2:=z0 PQ h2
    have e3:=z0 Sd h3
    rcases ha with ⟨l',rfl,hl⟩|⟨rfl,rfl⟩
    ·have bf:=si hT (agg:=q.isAgg) (size:=q.size) (by rw[dR]; exact hc.1) (by rw[gA]; exact hc.2) hl
     refine⟨_,.nz,?_,.inr (by simp only[R]),h⟩
     simp only[mQ,gI,bq,e2,e3]
     rw[if_pos ⟨Nat.zero_le _,Nat.zero_le _,Nat.zero_le _,bf⟩]
     rfl
    ·refine⟨_,.nz,?_,.inr (by simp only[R]),h⟩
     simp only[mQ,gI,bq,e2,e3,Option.isSome_some,Option.isNone_some,Bool.and_false,Bool.false_eq_true,if_false]
   obtain⟨n1,e1,h⟩:=gW h1 h
   obtain⟨n2,e2,h⟩:=ke (d:=l.length) h2 h
   obtain⟨n3,e3,h⟩:=ke (d:=l.length) h3 h
   obtain⟨hg,h⟩:=aX h
   simp only[Bool.and_eq_true,decide_eq_true_eq]at hg
   have VG:asNat Sf=some n2:=e2
   have T2:asNat TZ=some n3:=e3
   have f2:∀ d,bq d (some Sf)=some n2:=fun _=>VG
   rcases ha with ⟨l',rfl,hl⟩|⟨rfl,rfl⟩
   ·have hlen:=hl.length
    have bf:=si hT (agg:=q.isAgg) (size:=q.size) (by rw[dR]; exact hc.1) (by rw[gA]; exact hc.2) hl
    have dK:l'.isEmpty=false:=by
     grind
    have MQ:n3≠0:=by omega
    refine⟨_,.oT ((l'.drop n1).take (n2-n1)) (n3-n1),?_,.inr (by simp only[R]; exact .inl ⟨by cases l with
      |nil=>exfalso; cases l' with
       |nil=>simp at dK
       |cons=>simp at hlen
      |cons=>rfl,_,rfl,(hl.drop n1).take (n2-n1)⟩),h⟩
    simp only[mQ,gI,e1,f2,T2]
    rw[if_pos ⟨hg.1.1.1,hg.1.1.2,by rw[←hlen]; exact hg.1.2,bf⟩,if_neg MQ,dK]
    rfl
   ·exfalso
    simp only[List.length_nil]at hg
    omega
  ·simp[Tr.run]at h
 ·rename_i esz n c rg cap
  have ha:=hx.live rfl
  split at h
  ·rename_i m off len o hm hr ho
   obtain⟨q,gI,dR,gA,_⟩:=hQ.elem hm
   split at h
   case h_2=>simp[Tr.run]at h
   rename_i hc
   simp only[Bool.and_eq_true,decide_eq_true_eq]at hc
   obtain⟨aq,rfl,hv,bX⟩:=qD hh ha hr ho
   have bX:=bX hc.1
   obtain⟨n1,e1,h⟩:=gW h1 h
   obtain⟨n2,e2,h⟩:=gW h2 h
   obtain⟨hg,h⟩:=aX h
   simp only[Bool.and_eq_true,decide_eq_true_eq]at hg
   cases Ot with
   |some _=>exact h3.elim
   |none=>
    refine⟨_,.bp esz n aq (off+n1) (n2-n1) (cap.map (·-n1)),?_,?_,h⟩
    ·simp only[mQ,gI,e1,e2]
     rw[if_pos ⟨hg.1.1,by rw[bX]; exact hg.1.2,by rw[bX]; exact hg.2,by rw[gA]; exact hc.2⟩]
    ·right
     simp only[R]
     exact⟨aq,hv,rfl⟩
  ·rename_i m mx off len o hm hr ho
   obtain⟨q,gI,dR,gA,_⟩:=hQ.elem hm
   split at h
   case h_2=>simp[Tr.run]at h
   rename_i hi hc
   simp only[Bool.and_eq_true,decide_eq_true_eq]at hc
   cases p9 with
   |none=>exact h2.elim
   |some Sf=>
   cases Ot with
   |none=>exact h3.elim
   |some TZ=>
   obtain⟨aq,rfl,hv,bX⟩:=qD hh ha hr ho
   have bX:=bX hc.1
   obtain⟨n1,e1,h⟩:=gW h1 h
   obtain⟨n2,e2,h⟩:=ke (d:=len) h2 h
   obtain⟨n3,e3,h⟩:=ke (d:=len) h3 h
   obtain⟨hg,h⟩:=aX h
   simp only[Bool.and_eq_true,decide_eq_true_eq]at hg
   have VG:asNat Sf=some n2:=e2
   have T2:asNat TZ=some n3:=e3
   have f2:∀ d,bq d (some Sf)=some n2:=fun _=>VG
   have f3:∀ d,bq d (some TZ)=some n3:=fun _=>T2
   refine⟨_,.bp esz n aq (off+n1) (n2-n1) (some (n3-n1)),?_,?_,h⟩
   ·simp only[mQ,gI,e1,f2,T2]
    rw[if_pos ⟨hg.1.1.1,hg.1.1.2,by rw[bX]; exact hg.1.2,by rw[bX]; exact hg.2,by rw[gA]; exact hc.2⟩]
   ·right
    simp only[R]
    exact⟨aq,hv,rfl⟩
  ·simp[Tr.run]at h
 ·rename_i n' c k' j
  have ha:=hx.live rfl
  simp only[R]at ha
  obtain⟨aq,rfl,hv⟩:=ha
  split at h
  case h_2=>simp[Tr.run]at h
  rename_i len m hm
  obtain⟨q,gI,dR,gA⟩:=hQ.C4 hm
  cases Ot with
  |some _=>exact h3.elim
  |none=>
   obtain⟨n1,e1,h⟩:=gW h1 h
   obtain⟨n2,e2,h⟩:=gW h2 h
   obtain⟨_,hl,h⟩:=cT h
   obtain⟨_,qV,h⟩:=cT h
   split at h
   case h_2=>simp[Tr.run]at h
   rename_i hle
   simp only[decide_eq_true_eq]at hle
   refine⟨_,.iI n' aq k' (j+n1*q.size) (n2-n1) (len-n1),?_,.inr (by simp only[R]; exact⟨aq,by rw[gA],hv⟩),h⟩
   simp only[mQ,gI,e1,e2]
   rw[if_pos ⟨hle,by omega,by omega⟩]
 ·simp[Tr.run]at h
theorem uO[ab](hT:T.Ok){t:Nat}{x:T.den t}{a:AV}(h:T.rp t x a):aE (T.up t x)=true:=by
 rw[R.closed (hT.up t x a [] h)]
 exact hT.closed _ _ _ h
theorem yU[ab](hT:T.Ok)(hQ:Q.Ok)(hh:RH T H hp){t:TypeId}{x ix:SV T.den}{a b:AV}(hx:RV T H x a)(hi:RV T H ix b){tp:Bool}(h:(rT Q tp H t x ix K).run=some r):
  ∃ v c,eK Q.P t a b=some c∧RV T H v c∧(K v [] []).run=some r:=by
 unfold rT at h
 obtain⟨k,n,e1,D8,h⟩:=iD h
 have hb:=qB hi e1 D8
 unfold eK
 rw[hb]
 simp only
 split at h
 ·rename_i xs
  have ha:=hx.live rfl
  simp only[R]at ha
  obtain⟨l',rfl,hl,DM⟩:=ha
  split at h
  case h_2=>simp[Tr.run]at h
  rename_i m hm
  obtain⟨q,gI,dR,gA,_⟩:=hQ.elem hm
  obtain⟨_,_,h⟩:=cT h
  split at h
  case h_2=>simp[Tr.run]at h
  rename_i e he
  split at h
  case h_2=>simp[Tr.run]at h
  rename_i bL
  obtain⟨e',FU,hr⟩:=aw.get (aO.1 hl) he
  refine⟨_,.bc e' 0,?_,.inr (by simp only[R]; exact⟨e',rfl,hr,jE DM (List.mem_of_getElem? he)⟩),h⟩
  simp only[gI,FU]
  rw[if_pos (by rw[dR,gA,←R.aG hr]; exact bL)]
 ·rename_i t' l
  have ha:=hx.live rfl
  split at h
  case h_2=>simp[Tr.run]at h
  rename_i m hm
  obtain⟨q,gI,dR,gA,_⟩:=hQ.elem hm
  split at h
  case h_2=>simp[Tr.run]at h
  rename_i hc
  simp only[Bool.and_eq_true,decide_eq_true_eq]at hc
  obtain⟨y,hy,h⟩:=bind_some h
  rw[Gs hT]at h
  simp only[R]at ha
  rcases ha with ⟨l',rfl,hl⟩|⟨rfl,_⟩
  ·obtain⟨e',FU,hr⟩:=aw.get hl hy
   refine⟨_,.bc e' 0,?_,.inr (by simp only[R]; exact⟨e',rfl,hT.up _ _ _ H hr,uO hT hr⟩),h⟩
   simp only[gI,FU]
   rw[if_pos (by rw[dR,gA,hc.1,hc.2]; exact hT.ok _ _ _ hr)]
  ·simp at hy
 ·rename_i esz n' c rg cap _
  have ha:=hx.live rfl
  split at h
  case h_2=>simp[Tr.run]at h
  rename_i m hm
  obtain⟨q,gI,dR,gA,_⟩:=hQ.elem hm
  split at h
  ·rename_i off len g cl f cu es hc hr ho
   simp only[Bool.and_eq_true,decide_eq_true_eq]at hc
   obtain⟨aq,rfl,hv,_⟩:=qD hh ha hr ho
   obtain⟨_,bZ,h⟩:=cT h
   refine⟨_,.ref n' aq (off+n.toNat) 0,?_,.inr (by simp only[R]; exact⟨aq,rfl,hv⟩),h⟩
   simp only[gI]
   rw[if_pos ⟨by omega,by rw[gA]; exact hc.1,by rw[gA]; exact hc.2⟩]
  ·rename_i off len g f cu t' l hc hr ho
   simp only[Bool.and_eq_true,decide_eq_true_eq]at hc
   obtain⟨aq,rfl,hv,_⟩:=qD hh ha hr ho
   obtain⟨bZ,h⟩:=aX h
   simp only[decide_eq_true_eq]at bZ
   refine⟨_,.ref n' aq (off+n.toNat) 0,?_,.inr (by simp only[R]; exact⟨aq,rfl,hv⟩),h⟩
   simp only[gI]
   rw[if_pos ⟨bZ,by rw[gA]; exact hc.1,by rw[gA]; exact hc.2⟩]
  ·simp[Tr.run]at h
 ·rename_i n' c k' j len cap _
  have ha:=hx.live rfl
  simp only[R]at ha
  obtain⟨aq,rfl,hv⟩:=ha
  split at h
  case h_2=>simp[Tr.run]at h
  rename_i m hm
  obtain⟨q,gI,dR,gA,_⟩:=hQ.elem hm
  obtain⟨_,bZ,h⟩:=cT h
  refine⟨_,.ref n' aq k' (j+n.toNat*q.size),?_,.inr (by simp only[R]; exact⟨aq,by rw[gA],hv⟩),h⟩
  simp only[gI]
  rw[if_pos (by omega)]
 ·rename_i n' c k' j _
  have ha:=hx.live rfl
  simp only[R]at ha
  obtain⟨aq,rfl,hv⟩:=ha
  split at h
  case h_2=>simp[Tr.run]at h
  rename_i len m hm
  obtain⟨q,gI,dR,gA⟩:=hQ.C4 hm
  split at h
  ·obtain⟨bZ,h⟩:=aX h
   simp only[decide_eq_true_eq]at bZ
   refine⟨_,.ref n' aq k' (j+n.toNat*q.size),?_,.inr (by simp only[R]; exact⟨.ref n' aq k' j,⟨aq,rfl,hv⟩,bZ,.inl ⟨_,_,_,_,rfl,by rw[gA]⟩⟩),h⟩
   simp only[gI]
   rw[if_pos (by omega)]
  obtain⟨_,bZ,h⟩:=cT h
  refine⟨_,.ref n' aq k' (j+n.toNat*q.size),?_,.inr (by simp only[R]; exact⟨aq,by rw[gA],hv⟩),h⟩
  simp only[gI]
  rw[if_pos (by omega)]
 ·rename_i e j _
  have ha:=hx.live rfl
  simp only[R]at ha
  obtain⟨e',rfl,hr,XR⟩:=ha
  split at h
  case h_2=>simp[Tr.run]at h
  rename_i len m hm
  obtain⟨q,gI,dR,gA⟩:=hQ.C4 hm
  split at h
  ·obtain⟨bZ,h⟩:=aX h
   simp only[decide_eq_true_eq]at bZ
   refine⟨_,.bc e' (j+n.toNat*q.size),?_,.inr (by simp only[R]; exact⟨.bc e' j,⟨e',rfl,hr,XR⟩,bZ,.inr ⟨_,_,rfl,by rw[gA]⟩⟩),h⟩
   simp only[gI]
   rw[if_pos (by omega)]
  obtain⟨_,bZ,h⟩:=cT h
  refine⟨_,.bc e' (j+n.toNat*q.size),?_,.inr (by simp only[R]; exact⟨e',by rw[gA],hr,XR⟩),h⟩
  simp only[gI]
  rw[if_pos (by omega)]
 ·simp[Tr.run]at h
theorem HJ[ab](hQ:Q.Ok){t:TypeId}{x ix:SV T.den}{a b:AV}(hx:RV T H x a)(hi:RV T H ix b){tp:Bool}(h:(EZ Q tp t x ix K).run=some r):
  ∃ v c,tO Q.P t a b=some c∧RV T H v c∧(K v [] []).run=some r:=by
 unfold EZ at h
 split at h
 ·have ha:=hx.lit rfl
  subst ha
  split at h
  ·rename_i i p9
   rw[tA hi p9]
   obtain⟨w,hw,hk⟩:=gV h
   exact⟨_,_,hw,bk w,hk⟩
  ·simp[Tr.run]at h
 ·rename_i l
  have ha:=hx.live rfl
  have NW:=ha
  simp only[R]at ha
  obtain⟨l',rfl,hl⟩:=ha
  split at h
  case h_2=>simp[Tr.run]at h
  rename_i n m hm
  obtain⟨q,gI,dR,gA⟩:=hQ.C4 hm
  obtain⟨k,n',e1,D8,h⟩:=iD h
  have hb:=qB hi e1 D8
  split at h
  ·rename_i y hs KD
   simp only[Bool.and_eq_true,Bool.not_eq_true']at hs
   obtain⟨bZ,h⟩:=aX h
   simp only[decide_eq_true_eq]at bZ
   obtain⟨xs,zg,KD⟩:=Option.bind_eq_some_iff.1 KD
   obtain⟨g1,g2⟩:=jW zg
   have hg:=List.getElem?_eq_getElem (by omega:n'.toNat<xs.length)
   have hy:=g2 _ _ hg
   rw[←CX KD hg,Nat.zero_add,Nat.mul_one]at hy
   obtain⟨c,hc,hr⟩:=R.part NW hy
   refine⟨y,c,?_,.inr hr,h⟩
   simp only[tO,gI,hb]
   rw[if_pos (by omega),dR,gA,hs.1.2,Nat.eq_of_beq_eq_true hs.2,Nat.mul_one]
   exact hc
  obtain⟨_,bZ,h⟩:=cT h
  obtain⟨v,hv,hk⟩:=lN h
  rw[←dR,←gA]at hv
  obtain⟨c,hc,hr⟩:=R.part NW hv
  refine⟨v,c,?_,.inr hr,hk⟩
  simp only[tO,gI,hb]
  rw[if_pos (by omega)]
  exact hc
 ·simp[Tr.run]at h
end
end Go.PI
end
section
/- PS, part I: append, and the builtins. -/
namespace Go.PI
variable {T:dm}{ρ:Type}
section
variable {H:ah T.den}{hp:af}{K:EK T ρ}{r:ρ}{Q:gH}
def yV(T:dm)(H:ah T.den)(y:Src T.den)(ys:List AV)(yc:Bool):Prop:=
 match y with
 |.lE l cl=>RL T H l ys∧yc=cl∧(cl=true→av l=true)
 |.yP t l=>aw (T.rp t) l ys∧yc=true
theorem yV.len[ab]{y:Src T.den}{ys:List AV}{yc:Bool}(h:yV T H y ys yc):y.len=ys.length:=by
 cases y with
 |lE l cl=>exact h.1.length
 |yP t l=>exact h.1.length
theorem Gw[ab](hQ:Q.Ok)(hh:RH T H hp){q:bG}{xt:TypeId}{x:SV T.den}{a:AV}(hx:RV T H x a){K:Src T.den→List Nat→Tr ρ}(h:(Nc Q H xt x K).run=some r):
  ∃ y rd ys yc,aF hp (v8 Q.P q xt a) (ys,yc) rd∧yV T H y ys yc∧(K y rd).run=some r:=by
 unfold Nc at h
 split at h
 case h_2=>simp[Tr.run]at h
 rename_i hs
 have hs:=hQ.Nn hs
 unfold v8
 rw[hs]
 simp only
 split at h
 ·have ha:=hx.lit rfl
  subst ha
  exact⟨.lE [] true,_,[],true,aF.pure _,⟨by simp[RL],rfl,fun _=>rfl⟩,h⟩
 ·have ha:=hx.live rfl
  simp only[R]at ha
  obtain⟨l',rfl,hl,DM⟩:=ha
  exact⟨.lE _ true,_,l',true,aF.pure _,⟨hl,rfl,fun _=>DM⟩,h⟩
 ·have ha:=hx.live rfl
  simp only[R]at ha
  rcases ha with ⟨l',rfl,hl⟩|⟨rfl,rfl⟩
  ·exact⟨.yP _ _,_,l',true,aF.pure _,⟨hl,rfl⟩,h⟩
  ·exact⟨.yP _ _,_,[],true,aF.pure _,⟨(show aw (T.rp _) [] [] from trivial),rfl⟩,h⟩
 ·rename_i esz n c rg cap
  have ha:=hx.live rfl
  simp only[R]at ha
  obtain⟨aq,hv,ha⟩:=ha
  split at h
  ·rename_i g cl f cur es ho
   obtain⟨o,cZ,dA⟩:=hh.obj ho
   obtain⟨es',rfl,cC,qP⟩:=dA
   split at h
   case h_2=>simp[Tr.run]at h
   rename_i hc
   have bX:=hv.arr hh ho hc
   simp only[aC.len]at bX
   have hl:=cC.length
   split at h
   ·simp only at ha
    subst ha
    refine⟨.lE es cl,_,es',cl,?_,⟨cC,rfl,qP⟩,h⟩
    simp only[fJ]
    refine aF.mono (aF.bind (aF.arr cZ (by omega)) ?_) (rd:=[n]++[]) (fun _ h=>by simpa using h)
    simp only
    rw[if_pos (by omega)]
    simp only[List.drop_zero]
    rw[List.take_of_length_le (by omega)]
    exact aF.pure _
   ·rename_i off len
    simp only at ha
    subst ha
    split at h
    case isFalse=>simp[Tr.run]at h
    rename_i hle
    refine⟨.lE _ cl,_,(es'.drop off).take len,cl,?_,⟨aO.2 (((aO.1 cC).drop off).take len),rfl,fun mO=>mo (qP mO) _ _⟩,h⟩
    simp only[fJ]
    refine aF.mono (aF.bind (aF.arr cZ (by omega)) ?_) (rd:=[n]++[]) (fun _ h=>by simpa using h)
    simp only
    rw[if_pos (by omega)]
    exact aF.pure _
  ·rename_i g f cur t l ho
   obtain⟨o,cZ,dA⟩:=hh.obj ho
   obtain⟨es',rfl,cC⟩:=dA
   split at h
   case h_2=>simp[Tr.run]at h
   rename_i hc
   have bX:=hv.arr hh ho hc
   simp only[aC.len]at bX
   have hl:=cC.length
   split at h
   ·simp only at ha
    subst ha
    refine⟨.yP t l,_,es',true,?_,⟨cC,rfl⟩,h⟩
    simp only[fJ]
    refine aF.mono (aF.bind (aF.arr cZ (by omega)) ?_) (rd:=[n]++[]) (fun _ h=>by simpa using h)
    simp only
    rw[if_pos (by omega)]
    simp only[List.drop_zero]
    rw[List.take_of_length_le (by omega)]
    exact aF.pure _
   ·rename_i off len
    simp only at ha
    subst ha
    obtain⟨hle,h⟩:=aX h
    simp only[decide_eq_true_eq]at hle
    refine⟨.yP t _,_,(es'.drop off).take len,true,?_,⟨(cC.drop off).take len,rfl⟩,h⟩
    simp only[fJ]
    refine aF.mono (aF.bind (aF.arr cZ (by omega)) ?_) (rd:=[n]++[]) (fun _ h=>by simpa using h)
    simp only
    rw[if_pos (by omega)]
    exact aF.pure _
  ·simp[Tr.run]at h
 ·simp[Tr.run]at h
theorem yV.xK[ab](hT:T.Ok){y:Src T.den}{ys:List AV}{yc:Bool}(h:yV T H y ys yc){m:jS}{q:bG}(h1:q.isAgg=m.agg)(h2:q.size=m.size)(bL:y.ok T m=true):ys.all (aG q.isAgg q.size)=true:=by
 cases y with
 |lE l cl=>
  rw[h1,h2,←RL.all (fun _ _=>R.aG) h.1]
  exact bL
 |yP t l=>
  simp only[Src.ok,Bool.and_eq_true,decide_eq_true_eq]at bL
  exact si hT (by rw[h1,bL.1]) (by rw[h2,bL.2]) h.1
theorem gv[ab]{y:Src T.den}{ys:List AV}{yc:Bool}(hy:yV T H y ys yc){a b:Tr ρ}(h:(nY T y a b).run=some r):(ys.isEmpty=true∧a.run=some r)∨(ys.isEmpty=false∧b.run=some r):=by
 have hl:=hy.len
 unfold nY at h
 split at h
 ·grind[Src.len]
 ·rename_i t l
  rcases ff h with ⟨he,h⟩|⟨he,h⟩
  ·grind[Src.len]
  ·grind[Src.len]
theorem pT(hT:T.Ok){t:Nat}:∀ {l:List (SV T.den)} {m:List AV} {xs:List (T.den t)},RL T H l m→oC T t l=some xs→aw (T.rp t) xs m
 |[],[],xs,_,h=>by simp[oC]at h; subst h; trivial
 |v::vs,a::as,xs,hr,h=>by
  simp only[RL]at hr
  simp only[oC,Option.bind_eq_some_iff,Option.map_eq_some_iff]at h
  obtain⟨x,h1,ys,h2,rfl⟩:=h
  exact⟨hT.dn _ _ _ _ H h1 hr.1,pT hT hr.2 h2⟩
 |[],_::_,_,h,_=>by simp[RL]at h
 |_::_,[],_,h,_=>by simp[RL]at h
theorem x6{t t':Nat}(h:t=t'){l:List (T.den t)}{m:List AV}(hl:aw (T.rp t) l m):aw (T.rp t') (zP h l) m:=by subst h; exact hl
theorem z1{den:Nat→Type}{t t':Nat}(h:t=t')(l:List (den t)):(zP h l).length=l.length:=by subst h; rfl
theorem uQ[ab](hT:T.Ok){cur:Nat}{o o':aC T.den}{y:Src T.den}{g c f:Bool}{es ys:List AV}{yc:Bool}(ho:RO T H o (.arr g c f es))(hy:yV T H y ys yc)(h:pL T cur o y=some o'):
  o'.cur=cur∧o'.len=o.len+y.len∧RO T H o' (.arr true (c&&yc) f (es++ys)):=by
 unfold pL at h
 split at h
 ·rename_i cl f' cu VH T3 Xz
  simp only[Option.some.injEq]at h
  subst h
  obtain⟨es',e,cC,qP⟩:=ho
  simp only[aL.arr.injEq]at e
  obtain⟨rfl,rfl,rfl,rfl⟩:=e
  obtain⟨x7,rfl,Sg⟩:=hy
  exact⟨rfl,by simp[aC.len,Src.len],_,rfl,aO.2 ((aO.1 cC).append (aO.1 x7)),fun mO=>by simp only[Bool.and_eq_true]at mO; exact E8 (qP mO.1) (Sg mO.2)⟩
 ·rename_i f' cu VH t l
  rw[Option.map_eq_some_iff]at h
  obtain⟨l0,h1,rfl⟩:=h
  obtain⟨es',e,cC,_⟩:=ho
  simp only[aL.arr.injEq]at e
  obtain⟨rfl,rfl,rfl,rfl⟩:=e
  obtain⟨x7,rfl⟩:=hy
  have h2:=pT hT cC h1
  refine⟨rfl,?_,_,rfl,h2.append x7⟩
  simp[aC.len,Src.len,h2.length,cC.length]
 ·rename_i f' cu t l T3
  rw[Option.map_eq_some_iff]at h
  obtain⟨l0,h1,rfl⟩:=h
  obtain⟨es',e,cC⟩:=ho
  simp only[aL.arr.injEq]at e
  obtain⟨rfl,rfl,rfl,rfl⟩:=e
  obtain⟨x7,rfl,_⟩:=hy
  have h2:=pT hT x7 h1
  refine⟨rfl,?_,_,rfl,cC.append h2⟩
  simp[aC.len,Src.len,h2.length,x7.length]
 ·rename_i f' cu t l t' l2
  split at h
  case isFalse=>simp at h
  rename_i ht
  simp only[Option.some.injEq]at h
  subst h
  obtain⟨es',e,cC⟩:=ho
  simp only[aL.arr.injEq]at e
  obtain⟨rfl,rfl,rfl,rfl⟩:=e
  obtain⟨x7,rfl⟩:=hy
  refine⟨rfl,?_,_,rfl,cC.append (x6 ht x7)⟩
  simp[aC.len,Src.len,z1]
 ·simp at h
theorem C5{y:Src T.den}{ys:List AV}{yc:Bool}(hy:yV T H y ys yc):(xL y).cur=0∧(xL y).len=y.len∧RO T H (xL y) (.arr true yc false ys):=by
 cases y with
 |lE l cl=>obtain⟨h1,rfl,h2⟩:=hy; exact⟨rfl,rfl,_,rfl,h1,h2⟩
 |yP t l=>obtain⟨h1,rfl⟩:=hy; exact⟨rfl,rfl,_,rfl,h1⟩
theorem KG[ab](hT:T.Ok){o:aC T.den}{g c f:Bool}{es:List AV}(ho:RO T H o (.arr g c f es)){m:jS}{q:bG}(h1:q.isAgg=m.agg)(h2:q.size=m.size)(bL:o.xK T m=true):es.all (aG q.isAgg q.size)=true:=by
 cases o with
 |arr g' cl f' cu VH=>
  obtain⟨es',e,cC,_⟩:=ho
  simp only[aL.arr.injEq]at e
  obtain⟨rfl,rfl,rfl,rfl⟩:=e
  rw[h1,h2,←RL.all (fun _ _=>R.aG) cC]
  exact bL
 |bU g' f' cu t l=>
  obtain⟨es',e,cC⟩:=ho
  simp only[aL.arr.injEq]at e
  obtain⟨rfl,rfl,rfl,rfl⟩:=e
  simp only[aC.xK,Bool.and_eq_true,decide_eq_true_eq]at bL
  exact si hT (by rw[h1,bL.1]) (by rw[h2,bL.2]) cC
 |_=>simp[aC.xK]at bL
theorem x8{cur:Nat}{o o':aC T.den}{y:Src T.den}(h:pL T cur o y=some o'):o.xW=true:=by
 cases o<;>first|rfl|(cases y<;>simp[pL]at h)
theorem ny{o:aC T.den}(h:o.xW=true):o.isRec=false:=by cases o<;>first|rfl|simp[aC.xW]at h
theorem pU:∀ (ys es:List AV) (i:Nat),i+ys.length≤es.length→bw es i ys=es.take i++(ys++es.drop (i+ys.length))
 |[],es,i,_=>by simp[bw]
 |y::ys,es,i,h=>by
  simp only[List.length_cons]at h
  simp only[bw]
  rw[pU ys (es.set i y) (i+1) (by simp; omega)]
  have e1:(es.set i y).take (i+1)=es.take i++[y]:=by
   rw[List.take_succ_eq_append_getElem (by simp; omega),List.take_set_of_le (Nat.le_refl i)]
   simp
  have e2:(es.set i y).drop (i+1+ys.length)=es.drop (i+(ys.length+1)):=by
   rw[List.drop_set_of_lt (by omega)]
   congr 1; omega
  rw[e1,e2]
  simp
theorem z2{α β:Type}{P:α→β→Prop}{l l2:List α}{m m2:List β}(h:aw P l m)(h2:aw P l2 m2)(i:Nat):aw P (Hy l i l2) (m.take i++(m2++m.drop (i+m2.length))):=by
 unfold Hy
 rw[h2.length]
 exact(h.take i).append (h2.append (h.drop _))
theorem uR[ab](hT:T.Ok){i:Nat}{o o':aC T.den}{y:Src T.den}{ao:aL}{ys:List AV}{yc:Bool}(ho:RO T H o ao)(hy:yV T H y ys yc)(hi:i+y.len≤o.len)(h:uF T o i y=some o'):
  o.xW=true∧o'.cur=o.cur∧o'.len=o.len∧∃ es,ao=.arr o.flags.1 o.flags.2.1 o.flags.2.2 es∧RO T H o' (.arr o.flags.1 (o.flags.2.1&&yc) o.flags.2.2 (bw es i ys)):=by
 have hlen:=hy.len
 unfold uF at h
 split at h
 ·rename_i g f cu t l t' l2
  split at h
  case isFalse=>simp at h
  rename_i ht
  simp only[Option.some.injEq]at h
  subst h
  obtain⟨es',rfl,cC⟩:=ho
  obtain⟨x7,rfl⟩:=hy
  have hl:=cC.length
  simp only[aC.len,Src.len]at hi hlen
  refine⟨rfl,rfl,?_,es',rfl,_,rfl,?_⟩
  ·simp[aC.len,Hy,z1]; omega
  ·rw[pU _ _ _ (by omega)]
   exact z2 cC (x6 ht x7) i
 ·rename_i g f cu t l T3
  rw[Option.map_eq_some_iff]at h
  obtain⟨l0,h1,rfl⟩:=h
  obtain⟨es',rfl,cC⟩:=ho
  obtain⟨x7,rfl,_⟩:=hy
  have h2:=pT hT x7 h1
  have hl:=cC.length
  have qV:=h2.length
  simp only[aC.len,Src.len]at hi hlen
  refine⟨rfl,rfl,?_,es',rfl,_,rfl,?_⟩
  ·simp[aC.len,Hy]; omega
  ·rw[pU _ _ _ (by omega)]
   exact z2 cC h2 i
 ·simp at h
def sj(q:bG)(nm:Nat)(a:AV)(ys:List AV)(yc:Bool):RM di:=
   (match (cj q).isSome&&decide (0<q.size)&&ys.all (aG q.isAgg q.size) with
     |false=>RM.fail
     |true=>match ys.isEmpty with
      |true=>(match a with
       |.oT xs _=>pure ⟨.sl xs,[]⟩
       |.lit (.slice none 0 0)|.sl _|.bp _ _ _ _ _ _|.nz=>pure ⟨a,[]⟩
       |_=>.fail)
      |false=>match a with
       |.lit (.slice none 0 0)|.nz=>
        if ys.length*q.bytes≤2^44∧ys.length≤2^44 then
         pure ⟨.bp q.size nm ys.length 0 ys.length none,[(nm,.arr true yc false ys)]⟩ else .fail
       |.oT xs c=>
        if c<xs.length+ys.length∧(xs.length+ys.length)*q.bytes≤2^44∧xs.length+ys.length≤2^44∧xs.all (aG q.isAgg q.size)=true then
         pure ⟨.bp q.size nm (xs.length+ys.length) 0 (xs.length+ys.length) none,[(nm,.arr true yc false (xs++ys))]⟩ else .fail
       |.bp esz n aq off len cap=>do
        let (g,c,f,es) ←RM.arr n aq
        if f=true∨es.length<off+len∨esz≠q.size then RM.fail else
        if len+ys.length≤cap.getD (aq-off) then
         if off+len+ys.length≤es.length then
          pure ⟨.bp esz n aq off (len+ys.length) cap,[(n,.arr g (c&&yc) f (bw es (off+len) ys))]⟩
         else RM.fail
        else if (len+ys.length)*q.bytes≤2^44∧len+ys.length≤2^44 then
         (match cap with
         |none=>if g=true∧off=0∧len=aq then
           pure ⟨.bp esz n (len+ys.length) 0 (len+ys.length) none,[(n,.arr true (c&&yc) f (es++ys))]⟩
          else RM.fail
         |some _=>if es.all (aG q.isAgg q.size)=true then
           pure ⟨.bp esz nm (len+ys.length) 0 (len+ys.length) none,[(nm,.arr true (c&&yc) false ((es.drop off).take len++ys))]⟩
          else RM.fail)
        else RM.fail
       |_=>.fail)
theorem Fc{P:Program}{t xt:TypeId}{q:bG}(h:aN P t=some q)(nm:Nat)(a b:AV):
  ft P nm t xt a b=(v8 P q xt b >>= fun p=>sj q nm a p.1 p.2):=by
 unfold ft
 rw[h]
 rfl
theorem z3{i:Nat}{o o':aC T.den}{y:Src T.den}{ys:List AV}{yc:Bool}(hy:yV T H y ys yc)(h:uF T o i y=some o'):yc=true:=by
 cases y with
 |lE l cl=>cases cl with
  |true=>exact hy.2.1
  |false=>unfold uF at h; cases o<;>simp at h
 |yP t l=>exact hy.2
theorem x9[ab](hh:RH T H hp){n:Nat}{o o':aC T.den}{ao:aL}(ho:H[n]?=some (some o))(hc:o.cur≤o'.cur)(hl:o'.cur=o.cur→o'.len=o.len)(cZ:hp[n]?=some (some ao))(dA:RO T H o' ao)
  {v:SV T.den} {a:AV} (hv:RV T (H.set n (some o')) v a) {m:RM di} {rd:List Nat} (hy:aF hp m ⟨a,[]⟩ rd) (h:(K v [(n,o')] rd).run=some r) (hj:o.xW=true):je T H hp m K r:=by
 obtain⟨Ou,Nt⟩:=hh.QD ho (o':=o') hc hl dA
 rw[gQ cZ]at Nt
 have bZ:=(List.getElem?_eq_some_iff.1 ho).1
 have e1:ba H [(n,o')]=H.set n (some o'):=by simp[ba,bJ]; omega
 refine⟨_,_,_,⟨a,[]⟩,hy,⟨by rw[e1]; exact hv,by rw[e1]; exact Nt,by rw[e1]; exact Ou,fun q h=>by simp at h,fun k hk hl=>?_,by rw[e1]; simp,fun k hk Ig=>by
  simp at Ig
  subst Ig
  simp only[recAt,ho,ny hj,Bool.false_eq_true]at hk⟩,h⟩
 rw[e1]; simp at hk; rw[List.getElem?_set_ne (Ne.symm hk)]
theorem Fe[ab](hT:T.Ok)(hQ:Q.Ok)(hh:RH T H hp){nm:Nat}(hn:nm=H.length∨H[nm]?=some none){t xt:TypeId}{s x:SV T.den}{a b:AV}(hs:RV T H s a)(hx:RV T H x b)
  (h:(A3 Q nm H t xt s x K).run=some r):je T H hp (ft Q.P nm t xt a b) K r:=by
 unfold A3 at h
 split at h
 ·simp[Tr.run]at h
 rename_i m hm
 obtain⟨q,gI,dR,gA,Gb,Iq⟩:=hQ.elem hm
 obtain⟨y,rd,ys,yc,x7,vU,h⟩:=Gw hQ hh (q:=q) hx h
 split at h
 ·simp[Tr.run]at h
 rename_i bL
 simp only[Bool.and_eq_true,decide_eq_true_eq]at bL
 have hz:(cj q).isSome=true:=by
  cases XS:m.zero with
  |none=>rw[XS]at bL; simp at bL
  |some z=>rw[Iq z XS]; rfl
 have bf:=vU.xK hT dR gA bL.2
 have lj:((cj q).isSome&&decide (0<q.size)&&ys.all (aG q.isAgg q.size))=true:=by
  rw[hz,bf,gA]; simpa using bL.1.2
 have fI:=vU.len
 have abs:∀ {rest:RM di} {e:di} {rd2:List Nat},(∀ n,n∈rd→n∈rd2)→aF hp rest e rd2 →
   sj q nm a ys yc=rest→aF hp (ft Q.P nm t xt a b) e rd2:=by
  intro rest e rd2 h1 h2 h3
  rw[Fc gI]
  refine⟨?_,fun n hn=>?_⟩
  ·rw[RM.run_bind,x7.1]
   simp only[Option.bind_some]
   rw[h3]
   exact h2.1
  ·rw[RM.ej,x7.1]at hn
   simp only[List.mem_append]at hn
   rw[h3]at hn
   exact hn.elim (fun h=>h1 n (x7.2 n h)) (h2.2 n)
 unfold sj at abs
 rw[lj]at abs
 split at h
 ·-- nil
  have ha:=hs.lit rfl
  subst ha
  rcases gv vU h with ⟨he,h⟩|⟨he,h⟩
  ·rw[he]at abs
   exact ar hh (bk cK) (abs (fun _ h=>h) (aF.mono (aF.pure _) (fun _ h=>by simp at h)) rfl) h
  ·rw[he]at abs
   obtain⟨hg,h⟩:=aX h
   simp only[qZ,Bool.and_eq_true,decide_eq_true_eq]at hg
   obtain⟨o1,o2,o3⟩:=C5 vU
   refine eA hh hn o3 (v:=.bp m.size nm 0 none none) (a:=.bp q.size nm ys.length 0 ys.length none) ?_ (abs (fun _ h=>h) (aF.mono (aF.pure _) (fun _ h=>by simp at h)) ?_) h
   ·right
    simp only[R]
    have hv:=eC hh hn (o:=xL y)
    rw[o1,o2,fI]at hv
    exact⟨_,hv,by rw[gA]⟩
   ·simp only
    rw[if_pos ⟨by rw[←fI,Gb]; exact hg.1,by rw[←fI]; exact hg.2⟩]
 ·-- empty,without room
  have ha:=hs.live rfl
  simp only[R]at ha
  rcases gv vU h with ⟨he,h⟩|⟨he,h⟩
  ·rw[he]at abs
   subst ha
   exact ar hh hs (abs (fun _ h=>h) (aF.mono (aF.pure _) (fun _ h=>by simp at h)) rfl) h
  ·rw[he]at abs
   obtain⟨hg,h⟩:=aX h
   simp only[qZ,Bool.and_eq_true,decide_eq_true_eq]at hg
   obtain⟨o1,o2,o3⟩:=C5 vU
   have key:∀ rest:RM di,rest=(if ys.length*q.bytes≤2^44∧ys.length≤2^44 then
        pure ⟨.bp q.size nm ys.length 0 ys.length none,[(nm,.arr true yc false ys)]⟩ else .fail)→rest=pure ⟨.bp q.size nm ys.length 0 ys.length none,[(nm,.arr true yc false ys)]⟩:=by
    intro rest hr
    rw[hr,if_pos ⟨by rw[←fI,Gb]; exact hg.1,by rw[←fI]; exact hg.2⟩]
   refine eA hh hn o3 (v:=.bp m.size nm 0 none none) (a:=.bp q.size nm ys.length 0 ys.length none) ?_ (abs (fun _ h=>h) (aF.mono (aF.pure _) (fun _ h=>by simp at h)) ?_) h
   ·right
    simp only[R]
    have hv:=eC hh hn (o:=xL y)
    rw[o1,o2,fI]at hv
    exact⟨_,hv,by rw[gA]⟩
   ·subst ha
    exact key _ rfl
 ·-- a slice by value
  have ha:=hs.live rfl
  rcases gv vU h with ⟨he,h⟩|⟨_,h⟩
  ·rw[he]at abs
   simp only[R]at ha
   obtain⟨l',rfl,hl⟩:=ha
   exact ar hh hs (abs (fun _ h=>h) (aF.mono (aF.pure _) (fun _ h=>by simp at h)) rfl) h
  ·simp[Tr.run]at h
 ·have ha:=hs.live rfl
  rcases gv vU h with ⟨he,h⟩|⟨_,h⟩
  ·rw[he]at abs
   have NW:=ha
   simp only[R]at ha
   rcases ha with ⟨l',rfl,hl⟩|⟨_,rfl⟩
   ·exact ar hh hs (abs (fun _ h=>h) (aF.mono (aF.pure _) (fun _ h=>by simp at h)) rfl) h
   ·exact ar hh hs (abs (fun _ h=>h) (aF.mono (aF.pure _) (fun _ h=>by simp at h)) rfl) h
  ·simp[Tr.run]at h
 ·-- a slice by value,of known room
  rename_i t' l c b _
  have ha:=hs.live rfl
  have NW:=ha
  simp only[R]at ha
  rcases gv vU h with ⟨he,h⟩|⟨he,h⟩
  ·rw[he]at abs
   rcases ha with ⟨_,l',rfl,hl⟩|⟨_,wm,rfl|rfl⟩
   ·exact ar hh (v:=.ji t' l) (a:=.sl l') (.inr (by simp only[R]; exact .inl ⟨l',rfl,hl⟩)) (abs (fun _ h=>h) (aF.mono (aF.pure _) (fun _ h=>by simp at h)) rfl) h
   ·exact ar hh (v:=.ji t' l) (a:=.sl []) (.inr (by simp only[R]; exact .inl ⟨[],rfl,by rw[wm]; trivial⟩)) (abs (fun _ h=>h) (aF.mono (aF.pure _) (fun _ h=>by simp at h)) rfl) h
   ·exact ar hh (v:=.ji t' l) (a:=.lit cK) (.inr (by simp only[R]; exact .inr ⟨wm,trivial⟩)) (abs (fun _ h=>h) (aF.mono (aF.pure _) (fun _ h=>by simp at h)) rfl) h
  ·rw[he]at abs
   obtain⟨hg,h⟩:=aX h
   simp only[qZ,Bool.and_eq_true,decide_eq_true_eq]at hg
   obtain⟨⟨hb,hc⟩,rH,iw⟩:=hg
   split at h
   case h_2=>simp[Tr.run]at h
   rename_i o' Si wR
   simp only[Bool.and_eq_true,decide_eq_true_eq]at Si
   rcases ha with ⟨_,l',rfl,hl⟩|⟨oQ,_⟩
   ·have hlen:=hl.length
    have dA:RO T H (.bU true false 0 t' l) (.arr true true false l'):=⟨l',rfl,hl⟩
    obtain⟨a1,a2,a3⟩:=uQ hT dA vU wR
    have Sg:yc=true:=by
     cases y with
     |lE T3 cl=>
      obtain⟨_,lZ,_⟩:=vU
      cases yc with
      |true=>rfl
      |false=>rw[show cl=false from by simpa using lZ.symm]at wR; simp[pL]at wR
     |yP _ _=>exact vU.2
    subst Sg
    have bf:=si hT (agg:=q.isAgg) (size:=q.size) (by rw[dR]; exact Si.1) (by rw[gA]; exact Si.2) hl
    refine eA hh hn a3 (v:=.bp m.size nm 0 none none) (a:=.bp q.size nm (l'.length+ys.length) 0 (l'.length+ys.length) none) ?_ (abs (fun _ h=>h) (aF.mono (aF.pure _) (fun _ h=>by simp at h)) ?_) h
    ·right
     simp only[R]
     have hv:=eC hh hn (o:=o')
     rw[a1,a2,fI]at hv
     simp only[aC.len,hlen]at hv
     exact⟨_,hv,by rw[gA]⟩
    ·simp only
     rw[if_pos ⟨by rw[←hlen,←fI]; exact hc,by rw[←hlen,←fI,Gb]; exact rH,by rw[←hlen,←fI]; exact iw,bf⟩]
     rfl
   ·rw[hb]at oQ; simp at oQ
 ·rename_i esz n c rg cap _
  have ha:=hs.live rfl
  split at h
  case h_2=>simp[Tr.run]at h
  rename_i o ho
  obtain⟨ao,cZ,dA⟩:=hh.obj ho
  split at h
  case h_2=>simp[Tr.run]at h
  rename_i hc
  simp only[Bool.and_eq_true,Bool.not_eq_true',decide_eq_true_eq]at hc
  simp only[R]at ha
  obtain⟨aq,hv,ha⟩:=ha
  have bX:=hv.arr hh ho hc.1.1
  split at h
  ·-- the whole of a growing array
   simp only at ha
   subst ha
   split at h
   ·rename_i cl0
    have:ys=[]:=by
     have:=fI
     cases ys with
     |nil=>rfl
     |cons=>simp[Src.len]at this
    subst this
    simp only[List.isEmpty_nil]at abs
    exact ar hh hs (abs (fun _ h=>h) (aF.mono (aF.pure _) (fun _ h=>by simp at h)) rfl) h
   ·rename_i dK
    split at h
    case h_2=>simp[Tr.run]at h
    rename_i o' Ov wR
    obtain⟨hg,h⟩:=aX h
    simp only[qZ,Bool.and_eq_true,decide_eq_true_eq]at hg
    have hj:=x8 wR
    obtain⟨es,rfl,wc⟩:=dA.C3 hj
    obtain⟨a1,a2,a3⟩:=uQ hT dA vU wR
    rw[Ov]at cZ
    cases he:ys.isEmpty with
    |true=>
     rw[he]at abs
     have Sj:ys=[]:=by simpa using he
     subst Sj
     have Sg:yc=true:=by
      cases y with
      |lE l cl=>
       exfalso
       have:=fI
       simp only[Src.len,List.length_nil]at this
       have wm:l=[]:=by simpa using this
       subst wm
       exact dK _ rfl
      |yP t l=>exact vU.2
     subst Sg
     simp only[Bool.and_true,List.append_nil]at a3
     obtain⟨Ou,Nt⟩:=hh.QD ho (o':=o') (by omega) (fun e=>by omega) a3
     rw[gQ cZ]at Nt
     have bZ:=(List.getElem?_eq_some_iff.1 ho).1
     have e1:ba H [(n,o')]=H.set n (some o'):=by simp[ba,bJ]; omega
     refine⟨_,_,_,⟨.bp esz n aq 0 aq none,[]⟩,abs (fun _ h=>List.mem_cons_of_mem _ h) (aF.mono (aF.pure _) (fun _ h=>by simp at h)) rfl,⟨?_,by rw[e1]; exact Nt,by rw[e1]; exact Ou,fun q h=>by simp at h,fun k hk hl=>?_,by rw[e1]; simp,fun k hk Ig=>by
      simp at Ig
      subst Ig
      simp only[recAt,ho,ny hj,Bool.false_eq_true]at hk⟩,h⟩
     ·rw[e1]
      right
      simp only[R]
      refine⟨aq,⟨o',by rw[List.getElem?_set_self bZ],by omega,fun _=>?_⟩,rfl⟩
      rw[a2,bX,fI]; rfl
     ·rw[e1]; simp at hk; rw[List.getElem?_set_ne (Ne.symm hk)]
    |false=>
     rw[he]at abs
     have O1:0<ys.length:=by cases ys with
      |nil=>simp at he
      |cons=>simp
     refine jG hh ho (o':=o') (by omega) (fun e=>by omega) a3 (v:=.bp esz n (o.cur+1) none none) (a:=.bp esz n (aq+ys.length) 0 (aq+ys.length) none) ?_
      (abs (fun _ h=>List.mem_cons_of_mem _ h) (rd2:=n::rd) (aF.mono (aF.bind (aF.arr cZ (by omega)) (rd':=[]) (b:=(⟨.bp esz n (aq+ys.length) 0 (aq+ys.length) none,[(n,.arr true (o.flags.2.1&&yc) o.flags.2.2 (es++ys))]⟩:di)) ?_) (fun k hk=>by simp at hk; simp[hk])) rfl) h (ny hj)
     ·right
      simp only[R]
      have bZ:=(List.getElem?_eq_some_iff.1 ho).1
      refine⟨_,⟨o',by rw[List.getElem?_set_self bZ],by omega,fun _=>?_⟩,rfl⟩
      rw[a2,bX,fI]
     ·simp only
      rw[if_neg (by rw[hc.1.2]; simp only[Bool.false_eq_true,false_or,not_or]; exact⟨by omega,by rw[gA]; simp[hc.2]⟩),if_neg (by simp only[Option.getD_none]; omega),
       if_pos ⟨by rw[bX,←fI,Gb]; exact hg.1,by rw[bX,←fI]; exact hg.2⟩]
      simp only[and_self,if_true]
      exact aF.pure _
  ·-- of an array of fixed room
   rename_i k
   simp only at ha
   subst ha
   rcases gv vU h with ⟨he,h⟩|⟨he,h⟩
   ·rw[he]at abs
    exact ar hh hs (abs (fun _ h=>h) (aF.mono (aF.pure _) (fun _ h=>by simp at h)) rfl) h
   ·rw[he]at abs
    rcases ff h with ⟨_,h⟩|⟨hk,h⟩
    ·simp[Tr.run]at h
    simp only[decide_eq_false_iff_not]at hk
    split at h
    case h_2=>simp[Tr.run]at h
    rename_i o' hoa wR
    obtain⟨hg,h⟩:=aX h
    simp only[qZ,Bool.and_eq_true,decide_eq_true_eq]at hg
    have hj:=x8 wR
    obtain⟨es,rfl,wc⟩:=dA.C3 hj
    obtain⟨a1,a2,a3⟩:=uQ hT dA vU wR
    rw[hc.1.2]at a3
    refine eA hh hn a3 (v:=.bp esz nm 0 none none) (a:=.bp esz nm (aq+ys.length) 0 (aq+ys.length) none) ?_
     (abs (fun _ h=>List.mem_cons_of_mem _ h) (rd2:=n::rd) (aF.mono (aF.bind (aF.arr cZ (by omega)) (rd':=[]) (b:=(⟨.bp esz nm (aq+ys.length) 0 (aq+ys.length) none,[(nm,.arr true (o.flags.2.1&&yc) false (es++ys))]⟩:di)) ?_) (fun k hk=>by simp at hk; simp[hk])) rfl) h
    ·right
     simp only[R]
     have hv:=eC hh hn (o:=o')
     rw[a1,a2,fI,←bX]at hv
     exact⟨_,hv,rfl⟩
    ·simp only
     rw[if_neg (by rw[hc.1.2]; simp only[Bool.false_eq_true,false_or,not_or]; exact⟨by omega,by rw[gA]; simp[hc.2]⟩),if_neg (by simp only[Option.getD_some]; omega),
      if_pos ⟨by rw[bX,←fI,Gb]; exact hg.1,by rw[bX,←fI]; exact hg.2⟩]
     rw[if_pos (KG hT dA dR gA hoa)]
     simp only[List.drop_zero]
     rw[List.take_of_length_le (by omega)]
     exact aF.pure _
  ·-- into the room that there is
   rename_i k off len _
   simp only at ha
   subst ha
   split at h
   case h_2=>simp[Tr.run]at h
   rename_i o' C6
   obtain⟨hg,h⟩:=aX h
   simp only[Bool.and_eq_true,decide_eq_true_eq]at hg
   obtain⟨hj,a1,a2,es,e0,a3⟩:=uR hT dA vU (by omega) C6
   obtain⟨es',e1,wc⟩:=dA.C3 hj
   rw[e1]at e0
   simp only[aL.arr.injEq,true_and]at e0
   subst e0
   subst e1
   cases he:ys.isEmpty with
   |true=>
    rw[he]at abs
    have Sj:ys=[]:=by simpa using he
    subst Sj
    obtain rfl:=z3 vU C6
    simp only[Bool.and_true,bw]at a3
    refine x9 hh ho (by omega) (fun _=>a2) cZ a3 (v:=.bp esz n c (some (off,len+y.len)) (some k)) (a:=.bp esz n aq off len (some k)) ?_
     (abs (fun _ h=>List.mem_cons_of_mem _ h) (aF.mono (aF.pure _) (fun _ h=>by simp at h)) rfl) h hj
    right
    simp only[R]
    have bZ:=(List.getElem?_eq_some_iff.1 ho).1
    refine⟨aq,⟨o',by rw[List.getElem?_set_self bZ],by rw[a1]; exact Nat.le_of_eq (Nat.eq_of_beq_eq_true hc.1.1),fun _=>by rw[a2,bX]⟩,by rw[fI]; rfl⟩
   |false=>
    rw[he]at abs
    refine jG hh ho (o':=o') (by omega) (fun _=>a2) a3 (v:=.bp esz n c (some (off,len+y.len)) (some k)) (a:=.bp esz n aq off (len+ys.length) (some k)) ?_
     (abs (fun _ h=>List.mem_cons_of_mem _ h) (rd2:=n::rd) (aF.mono (aF.bind (aF.arr cZ (by omega)) (rd':=[]) (b:=(⟨.bp esz n aq off (len+ys.length) (some k),[(n,.arr o.flags.1 (o.flags.2.1&&yc) o.flags.2.2 (bw es' (off+len) ys))]⟩:di)) ?_) (fun k hk=>by simp at hk; simp[hk])) rfl) h (ny hj)
    ·right
     simp only[R]
     have bZ:=(List.getElem?_eq_some_iff.1 ho).1
     refine⟨aq,⟨o',by rw[List.getElem?_set_self bZ],by rw[a1]; exact Nat.le_of_eq (Nat.eq_of_beq_eq_true hc.1.1),fun _=>by rw[a2,bX]⟩,by rw[fI]⟩
    ·simp only
     rw[if_neg (by rw[hc.1.2]; simp only[Bool.false_eq_true,false_or,not_or]; exact⟨by omega,by rw[gA]; simp[hc.2]⟩),if_pos (by simp only[Option.getD_some]; omega),if_pos (by omega)]
     exact aF.pure _
  ·simp[Tr.run]at h
 ·simp[Tr.run]at h
def ya(q:bG)(d:AV)(ys:List AV)(yc:Bool):RM di:=
 match decide (0<q.size)&&ys.all (aG q.isAgg q.size) with
  |false=>RM.fail
  |true=>
   match d with
   |.bp esz n aq off len _=>(match (ys.take len).isEmpty with
    |true=>pure ⟨.lit (.int .i64 0),[]⟩
    |false=>do
     let (g,c,f,es) ←RM.arr n aq
     if esz=q.size∧f=false∧off+len≤es.length∧0<aq then
      pure ⟨.lit (.int .i64 (ys.take len).length),[(n,.arr g (c&&yc) f (bw es off (ys.take len)))]⟩
     else RM.fail)
   |.lit (.slice none 0 0)=>pure ⟨.lit (.int .i64 0),[]⟩
   |_=>RM.fail
theorem KH{P:Program}{t:TypeId}{q:bG}(h:aN P t=some q)(a b:AV):wJ P t a b=(fJ b >>= fun p=>ya q a p.1 p.2):=by
 unfold wJ
 rw[h]
 rfl
theorem KI[ab](hT:T.Ok)(hQ:Q.Ok)(hh:RH T H hp){t:TypeId}{d x:SV T.den}{a b:AV}(hd:RV T H d a)(hx:RV T H x b)
  (h:(Ko Q H t d x K).run=some r):je T H hp (wJ Q.P t a b) K r:=by
 unfold Ko at h
 split at h
 case h_2=>simp[Tr.run]at h
 rename_i m hm hs
 have hs:=hQ.Nn hs
 obtain⟨q,gI,dR,gA,Gb,Iq⟩:=hQ.elem hm
 obtain⟨y,rd,ys,yc,x7,vU,h⟩:=Gw hQ hh (q:=q) hx h
 have x7:aF hp (fJ b) (ys,yc) rd:=by
  simp_all[v8]
 split at h
 case h_2=>simp[Tr.run]at h
 rename_i esz n c rg cap bL _
 simp only[Bool.and_eq_true,decide_eq_true_eq]at bL
 split at h
 case h_2=>simp[Tr.run]at h
 rename_i off len o hr ho
 split at h
 case h_2=>simp[Tr.run]at h
 rename_i o' hc C6
 simp only[Bool.and_eq_true,Bool.not_eq_true',decide_eq_true_eq]at hc
 have ha:=hd.live rfl
 obtain⟨aq,rfl,hv,bX⟩:=qD hh ha hr ho
 have bX:=bX hc.1.1
 obtain⟨ao,cZ,dA⟩:=hh.obj ho
 have fI:=vU.len
 have bf:=vU.xK hT dR gA bL.1
 have lj:(decide (0<q.size)&&ys.all (aG q.isAgg q.size))=true:=by
  rw[bf,gA]; simpa using bL.2
 have abs:∀ {rest:RM di} {e:di} {rd2:List Nat},(∀ n,n∈rd→n∈rd2)→aF hp rest e rd2 →
   ya q (.bp esz n aq off len cap) ys yc=rest→aF hp (wJ Q.P t (.bp esz n aq off len cap) b) e rd2:=by
  intro rest e rd2 h1 h2 h3
  rw[KH gI]
  refine⟨?_,fun k hk=>?_⟩
  ·rw[RM.run_bind,x7.1]
   simp only[Option.bind_some]
   rw[h3]
   exact h2.1
  ·rw[RM.ej,x7.1]at hk
   simp only[List.mem_append]at hk
   rw[h3]at hk
   exact hk.elim (fun h=>h1 k (x7.2 k h)) (h2.2 k)
 unfold ya at abs
 rw[lj]at abs
 obtain⟨hg,h⟩:=aX h
 simp only[Bool.and_eq_true,decide_eq_true_eq]at hg
 cases he:ys.isEmpty with
 |true=>
  have Sj:ys=[]:=by simpa using he
  subst Sj
  obtain⟨hj,a1,a2,es,e0,a3⟩:=uR hT dA vU (by omega) C6
  obtain⟨es',e1,wc⟩:=dA.C3 hj
  rw[e1]at e0
  simp only[aL.arr.injEq,true_and]at e0
  subst e0
  subst e1
  obtain rfl:=z3 vU C6
  simp only[Bool.and_true,bw]at a3
  have XT:y.len=0:=by rw[fI]; rfl
  rw[XT]at h
  exact x9 hh ho (by omega) (fun _=>a2) cZ a3 (bk (.int .i64 0)) (abs (fun _ h=>List.mem_cons_of_mem _ h) (aF.mono (aF.pure _) (fun _ h=>by simp at h)) (by simp only[List.take_nil,List.isEmpty_nil])) h hj
 |false=>
  have O1:0<ys.length:=by cases ys with
   |nil=>simp at he
   |cons=>simp
  have XU:ys.take len=ys:=List.take_of_length_le (by omega)
  obtain⟨hj,a1,a2,es,e0,a3⟩:=uR hT dA vU (by omega) C6
  obtain⟨es',e1,wc⟩:=dA.C3 hj
  rw[e1]at e0
  simp only[aL.arr.injEq,true_and]at e0
  subst e0
  subst e1
  have heq:∀ (f t:RM di),(match (ys.take len).isEmpty with|true=>t|false=>f)=f:=by
   intro f t
   rw[XU,he]
  refine jG hh ho (o':=o') (by omega) (fun _=>a2) a3 (v:=.lit (.int .i64 y.len)) (a:=.lit (.int .i64 y.len)) (bk _)
   (abs (fun _ h=>List.mem_cons_of_mem _ h) (rd2:=n::rd) (aF.mono (aF.bind (aF.arr cZ (by omega)) (rd':=[]) (b:=(⟨.lit (.int .i64 y.len),[(n,.arr o.flags.1 (o.flags.2.1&&yc) o.flags.2.2 (bw es' off ys))]⟩:di)) ?_) (fun k hk=>by simp at hk; simp[hk])) (heq _ _)) h (ny hj)
  simp only
  rw[if_pos ⟨by rw[gA]; exact hc.2,hc.1.2,by omega,by omega⟩,fI,XU]
  exact aF.pure _
theorem Nu[ab](hQ:Q.Ok)(hh:RH T H hp){ts:Array TypeId}{type:TypeId}{x:SV T.den}{a:AV}(hx:RV T H x a)(h:(Pz Q H ts type x K).run=some r){nm:Nat}:
  je T H hp (dc Q.P nm .len ts type [a]) K r:=by
 unfold Pz at h
 unfold dc
 simp only
 split at h
 case h_2=>simp[Tr.run]at h
 rename_i t ht
 rw[ht]
 simp only
 split at h
 ·rename_i hs
  have hs:=hQ.Nn hs
  split at h
  ·have ha:=hx.lit rfl
   subst ha
   refine ar hh (bk (.int .i64 0)) (rd:=[]) ?_ h
   simp only[hs,nE]
   exact aF.pure _
  ·have ha:=hx.live rfl
   simp only[R]at ha
   subst ha
   refine ar hh (bk (.int .i64 0)) (rd:=[]) ?_ h
   simp only[hs,nE]
   exact aF.pure _
  ·have ha:=hx.live rfl
   simp only[R]at ha
   obtain⟨l',rfl,hl,_⟩:=ha
   refine ar hh (a:=.lit (.int .i64 l'.length)) (by rw[hl.length]; exact bk _) (rd:=[]) ?_ h
   simp only[hs,nE]
   exact aF.pure _
  ·rename_i t' l
   have ha:=hx.live rfl
   simp only[R]at ha
   rcases ha with ⟨l',rfl,hl⟩|⟨rfl,rfl⟩
   ·refine ar hh (a:=.lit (.int .i64 l'.length)) (by rw[hl.length]; exact bk _) (rd:=[]) ?_ h
    simp only[hs,nE]
    exact aF.pure _
   ·refine ar hh (bk (.int .i64 0)) (rd:=[]) ?_ h
    simp only[hs,nE]
    exact aF.pure _
  ·rename_i t' l c b
   have ha:=hx.live rfl
   simp only[R]at ha
   rcases ha with ⟨_,l',rfl,hl⟩|⟨_,rfl,rfl|rfl⟩
   ·refine ar hh (a:=.lit (.int .i64 l'.length)) (by rw[hl.length]; exact bk _) (rd:=[]) ?_ h
    simp only[hs,nE]
    exact aF.pure _
   ·refine ar hh (bk (.int .i64 0)) (rd:=[]) ?_ h
    simp only[hs,nE]
    exact aF.pure _
   ·refine ar hh (bk (.int .i64 0)) (rd:=[]) ?_ h
    simp only[hs,nE]
    exact aF.pure _
  ·rename_i esz n c rg cap
   have ha:=hx.live rfl
   split at h
   case h_2=>simp[Tr.run]at h
   rename_i off len hr
   have:∃ o,H[n]?=some (some o):=by
    simp only[R]at ha
    obtain⟨_,⟨o,ho,_⟩,_⟩:=ha
    exact⟨o,ho⟩
   obtain⟨o,ho⟩:=this
   obtain⟨aq,rfl,_,_⟩:=qD hh ha hr ho
   refine ar hh (bk (.int .i64 len)) (rd:=[]) ?_ h
   simp only[hs,nE]
   exact aF.pure _
  ·rename_i n c k j len cap
   have ha:=hx.live rfl
   simp only[R]at ha
   obtain⟨aq,rfl,_⟩:=ha
   refine ar hh (bk (.int .i64 len)) (rd:=[]) ?_ h
   simp only[hs,nE]
   exact aF.pure _
  ·simp[Tr.run]at h
 ·simp[Tr.run]at h
 ·rename_i hs
  have hs:=hQ.Nn hs
  split at h
  ·simp[Tr.run]at h
  ·rename_i v hv
   have ha:=hx.lit rfl
   subst ha
   obtain⟨w,hw,hk⟩:=gV h
   refine ar hh (bk w) (rd:=[]) ?_ hk
   split
   ·rename_i heq; injection heq with e; exact(hv e).elim
   ·rename_i heq; cases heq
   ·rename_i heq; cases heq
   ·rename_i heq; cases heq
   ·rename_i heq; cases heq
   ·rename_i heq; cases heq
   ·rename_i heq; injection heq with e; subst e; rw[hw]; exact aF.pure _
   ·rename_i h; exact(h v rfl).elim
  ·rename_i l
   have ha:=hx.live rfl
   simp only[R]at ha
   obtain⟨l',rfl,hl⟩:=ha
   split at h
   case h_2=>simp[Tr.run]at h
   rename_i n m hm
   obtain⟨q,gI,_⟩:=hQ.C4 hm
   refine ar hh (bk (.int .i64 n)) (rd:=[]) ?_ h
   simp only[gI]
   exact aF.pure _
  ·have ha:=hx.live rfl
   simp only[R]at ha
   obtain⟨aq,rfl,hl⟩:=ha
   split at h
   case h_2=>simp[Tr.run]at h
   rename_i n m hm
   obtain⟨q,gI,_⟩:=hQ.C4 hm
   refine ar hh (bk (.int .i64 n)) (rd:=[]) ?_ h
   simp only[gI]
   exact aF.pure _
  ·have ha:=hx.live rfl
   simp only[R]at ha
   obtain⟨aq,rfl,hl⟩:=ha
   split at h
   case h_2=>simp[Tr.run]at h
   rename_i n m hm
   obtain⟨q,gI,_⟩:=hQ.C4 hm
   refine ar hh (bk (.int .i64 n)) (rd:=[]) ?_ h
   simp only[gI]
   exact aF.pure _
  ·simp[Tr.run]at h
theorem Gx[ab]{l:List (SV T.den)}{m:List AV}(hv:aw (RV T H) l m){c:List Value}(hc:mj l=some c):cS m=some c:=by
 revert c
 induction l generalizing m with
 |nil=>
  intro c hc
  cases m with
  |nil=>simp[mj]at hc; subst hc; rfl
  |cons=>exact hv.elim
 |cons x xs ih=>
  intro c hc
  cases m with
  |nil=>exact hv.elim
  |cons a as=>
   cases x with
   |lit v=>
    simp only[mj,Option.map_eq_some_iff]at hc
    obtain⟨c',h1,rfl⟩:=hc
    have:=RV.lit hv.1 rfl
    subst this
    simp[cS,ih hv.2 h1]
   |_=>simp[mj]at hc
theorem C7[ab](hT:T.Ok)(hQ:Q.Ok)(hh:RH T H hp){nm:Nat}(hn:nm=H.length∨H[nm]?=some none){b:Builtin}{ts:Array TypeId}{type:TypeId}{args:List (SV T.den)}{as:List AV}
  (ha:aw (RV T H) args as) (h:(xM Q nm H b ts type args K).run=some r):je T H hp (dc Q.P nm b ts type as) K r:=by
 unfold xM at h
 split at h
 ·split at h
  ·rename_i t xt s x ht
   match as,ha with
   |[a,b],ha=>
    simp only[dc,ht]
    exact Fe hT hQ hh hn ha.1 ha.2.1 h
  ·simp[Tr.run]at h
 ·split at h
  ·rename_i t _ d x ht
   match as,ha with
   |[a,b],ha=>
    simp only[dc,ht]
    exact KI hT hQ hh ha.1 ha.2.1 h
  ·simp[Tr.run]at h
 ·split at h
  ·rename_i x
   match as,ha with
   |[a],ha=>exact Nu hQ hh ha.1 h
  ·simp[Tr.run]at h
 ·split at h
  ·rename_i vs lR
   obtain⟨w,hw,hk⟩:=gV h
   refine ar hh (bk w) (rd:=[]) ?_ hk
   simp only[dc,Gx ha lR,hw]
   exact aF.pure _
  ·simp[Tr.run]at h
 ·split at h
  ·rename_i vs lR
   obtain⟨w,hw,hk⟩:=gV h
   refine ar hh (bk w) (rd:=[]) ?_ hk
   simp only[dc,Gx ha lR,hw]
   exact aF.pure _
  ·simp[Tr.run]at h
 ·simp[Tr.run]at h
end
end Go.PI
end
section
/- PS, part Ia: maps. -/
namespace Go.PI
variable {T:dm}{ρ:Type}
theorem Be(kk:KK)(a b:kk.D):qS (kk.v a) (kk.v b)=kk.beq a b:=by cases kk<;>rfl
theorem KJ{kk:KK}{v:Value}{k:kk.D}(h:kk.get v=some k):v=kk.v k∧kk.ok v=true:=by
 cases kk with
 |int q=>
  cases v<;>simp[KK.get]at h
  obtain⟨rfl,h⟩:=h
  cases h
  exact⟨rfl,by simp[KK.ok]⟩
 |str=>
  cases v<;>simp[KK.get]at h
  cases h
  exact⟨rfl,rfl⟩
 |bool=>
  cases v<;>simp[KK.get]at h
  cases h
  exact⟨rfl,rfl⟩
theorem uS{kk:KK}{α:Type}{k:kk.D}:∀ {m:List (kk.D×α)} {i:Nat},kx kk m k=none→jn (kk.v k) (m.map fun q=>kk.v q.1) i=none
 |[],i,_=>rfl
 |(k',v)::m,i,h=>by
  simp only[kx]at h
  cases hb:kk.beq k k' with
  |true=>rw[hb]at h; simp at h
  |false=>
   rw[hb]at h
   simp only[List.map_cons,jn,Be,hb,cond_false]
   exact uS h
theorem uT{kk:KK}{α:Type}{k:kk.D}{x:α}:∀ {m:List (kk.D×α)} {i:Nat},kx kk m k=some x→∃ j,jn (kk.v k) (m.map fun q=>kk.v q.1) i=some (i+j)∧(m.map (·.2))[j]?=some x ∧
  ∀ y,(mC kk m k y).map (fun q=>kk.v q.1)=m.map (fun q=>kk.v q.1)∧(mC kk m k y).map (·.2)=(m.map (·.2)).set j y
 |[],i,h=>by simp[kx]at h
 |(k',v)::m,i,h=>by
  simp only[kx]at h
  cases hb:kk.beq k k' with
  |true=>
   simp_all[cond_true,jn,Be,hb,mC]
  |false=>
   rw[hb]at h
   obtain⟨j,h1,h2,h3⟩:=uT (i:=i+1) h
   refine⟨j+1,?_,by simpa using h2,fun y=>?_⟩
   ·simp only[List.map_cons,jn,Be,hb,cond_false,h1]
    congr 1; omega
   ·obtain⟨h4,h5⟩:=h3 y
    simp[mC,hb,h4,h5]
theorem C8{kk:KK}{α:Type}{k:kk.D}{y:α}:∀ {m:List (kk.D×α)},kx kk m k=none→mC kk m k y=m++[(k,y)]
 |[],_=>rfl
 |(k',v)::m,h=>by
  simp only[kx]at h
  cases hb:kk.beq k k' with
  |true=>rw[hb]at h; simp at h
  |false=>
   rw[hb]at h
   simp only[mC,hb,cond_false,List.cons_append]
   rw[C8 h]
section
variable {H:ah T.den}{hp:af}{K:EK T ρ}{r:ρ}{Q:gH}
theorem Bf{c:Bool}{v:SV T.den}{a:AV}{b:Bool}(h:R T H v a):R T H (A4 c v b) (wL c a b):=by
 cases c with
 |false=>exact h
 |true=>
  simp only[A4,wL,R]
  exact⟨_,rfl,h,rfl,trivial⟩
theorem Ff[ab](hT:T.Ok)(hQ:Q.Ok)(hZ:T.tC Q)(hh:RH T H hp){t:TypeId}{x ix:SV T.den}{a b:AV}(hx:RV T H x a)(hi:RV T H ix b){c:Bool}(h:(A5 Q H t x ix c K).run=some r):
  je T H hp (sC Q.P t a b c) K r:=by
 unfold A5 at h
 split at h
 case h_2=>simp[Tr.run]at h
 rename_i kk et wu
 have Jg:=hQ.map _ _ wu
 split at h
 case h_2=>simp[Tr.run]at h
 rename_i za z k PR hz
 obtain⟨m,hm,XV⟩:=Option.bind_eq_some_iff.1 PR
 obtain⟨q,gI,_,_,_,Iq⟩:=hQ.row _ _ hm
 have nI:=Iq _ XV
 have DX:=hZ et m z za hm XV hz
 have hi:=hi.lit rfl
 subst hi
 have PQ:(eW Q.P et).bind cj=some za:=by rw[gI]; exact nI
 unfold sC
 simp only[Jg,PQ]
 split at h
 ·rename_i k' hk
  obtain⟨rfl,bL⟩:=KJ hk
  have hx:=hx.lit rfl
  subst hx
  simp only[bL]
  exact ar hh (.inr (Bf (hT.up _ _ _ H DX))) (aF.pure _) h
 ·rename_i k' n hk
  obtain⟨rfl,bL⟩:=KJ hk
  have hx:=hx.live rfl
  simp only[R]at hx
  obtain⟨rfl,_⟩:=hx
  split at h
  case h_2=>simp[Tr.run]at h
  rename_i qJ t' mp ho
  split at h
  case isFalse=>simp[Tr.run]at h
  rename_i hc
  obtain⟨rfl,rfl⟩:=hc
  simp only[tu]at h
  obtain⟨ao,cZ,dA⟩:=hh.obj ho
  obtain⟨vs,rfl,lR⟩:=dA
  simp only[bL]
  cases hg:kx qJ mp k' with
  |none=>
   rw[hg]at h
   simp only[Option.getD_none,Option.isSome_none]at h
   refine ar hh (.inr (Bf (hT.up _ _ _ H DX))) (rd:=[n]) (aF.get cZ ?_) h
   simp only[if_true,uS hg]
   exact aF.pure _
  |some y=>
   rw[hg]at h
   simp only[Option.getD_some,Option.isSome_some]at h
   obtain⟨j,h1,h2,_⟩:=uT (i:=0) hg
   obtain⟨v,hv,hr⟩:=aw.get lR h2
   refine ar hh (.inr (Bf (hT.up _ _ _ H hr))) (rd:=[n]) (aF.get cZ ?_) h
   simp only[if_true,h1,Nat.zero_add,hv]
   exact aF.pure _
 ·simp[Tr.run]at h
theorem yW[ab](hT:T.Ok)(hQ:Q.Ok)(hh:RH T H hp){t:TypeId}{x ix v:SV T.den}{a b d:AV}(hx:RV T H x a)(hi:RV T H ix b)(hv:RV T H v d)(h:(rV Q H t x ix v K).run=some r):
  je T H hp (k7 Q.P t a b d) K r:=by
 unfold rV at h
 split at h
 case h_2=>simp[Tr.run]at h
 rename_i kk et wu
 have Jg:=hQ.map _ _ wu
 split at h
 case h_2=>simp[Tr.run]at h
 rename_i k n
 split at h
 case h_2=>simp[Tr.run]at h
 rename_i k' qJ t' mp hk ho
 split at h
 case h_2=>simp[Tr.run]at h
 rename_i y hd hy
 split at h
 case isFalse=>simp[Tr.run]at h
 rename_i hc
 obtain⟨rfl,NZ⟩:=hc
 obtain⟨rfl,bL⟩:=KJ hk
 have hi:=hi.lit rfl
 subst hi
 have hx:=hx.live rfl
 simp only[R]at hx
 obtain⟨rfl,_⟩:=hx
 have DX:=hT.dn _ _ _ _ H hy (hv.live hd)
 obtain⟨ao,cZ,dA⟩:=hh.obj ho
 obtain⟨vs,rfl,lR⟩:=dA
 unfold k7
 simp only[Jg,bL]
 simp only[tu]at h
 cases hg:kx qJ mp k' with
 |none=>
  have e:=C8 (y:=y) hg
  refine jG hh ho (o':=.j0 qJ t' (mC qJ mp k' y)) (Nat.le_refl _) (fun _=>rfl) (a':=.ga (.map qJ ((mp.map fun q=>qJ.v q.1)++[qJ.v k'])) (vs++[d])) ?_ (bk undef) (rd:=[n]) (aF.get cZ ?_) h
  ·rw[e]
   refine⟨vs++[d],by simp,?_⟩
   rw[List.map_append]
   exact lR.append (show aw (T.rp t') [y] [d] from ⟨DX,trivial⟩)
  ·simp only[if_true,uS hg]
   exact aF.pure _
 |some x0=>
  obtain⟨j,h1,h2,h3⟩:=uT (i:=0) hg
  obtain⟨h4,h5⟩:=h3 y
  refine jG hh ho (o':=.j0 qJ t' (mC qJ mp k' y)) (Nat.le_refl _) (fun _=>rfl) (a':=.ga (.map qJ (mp.map fun q=>qJ.v q.1)) (vs.set j d)) ?_ (bk undef) (rd:=[n]) (aF.get cZ ?_) h
  ·exact⟨_,by rw[h4],by rw[h5]; exact lR.set j DX⟩
  ·simp only[if_true,h1,Nat.zero_add]
   exact aF.pure _
theorem C9[ab](hQ:Q.Ok)(hh:RH T H hp){nm:Nat}(hn:nm=H.length∨H[nm]?=some none){t:TypeId}{x:Option (SV T.den)}{a:Option AV}(hx:KE T H x a)(h:(xN Q nm t x K).run=some r):
  je T H hp (.gL (oV Q.P nm t a)) K r:=by
 unfold xN at h
 split at h
 case h_2=>simp[Tr.run]at h
 rename_i kk et wu
 have Jg:=hQ.map _ _ wu
 obtain⟨n,TH,h⟩:=gW hx h
 refine eA hh hn (o:=.j0 kk et []) (a':=.ga (.map kk []) []) ⟨[],rfl,trivial⟩ (a:=.mp false nm) (rd:=[]) (.inr ?_) ?_ h
 ·simp only[R]
  refine⟨trivial,.j0 kk et [],?_⟩
  unfold bJ
  rcases hn with rfl|hn
  ·simp
  ·have bZ:=(List.getElem?_eq_some_iff.1 hn).1
   rw[if_neg (by omega),List.getElem?_set_self bZ]
 ·simp only[oV,Jg,TH]
  exact aF.gL rfl
end
end Go.PI
end
section
/- PS, part J: every operation. -/
namespace Go.PI
variable {T:dm}{ρ:Type}
section
variable {H:ah T.den}{hp:af}{K:EK T ρ}{r:ρ}{Q:gH}
theorem jf{ev:Operand→SV T.den}{DY:Operand→AV}(bE:∀ x,RV T H (ev x) (DY x)):∀ (l:List Operand),aw (RV T H) (l.map ev) (l.map DY)
 |[]=>trivial
 |x::xs=>⟨bE x,jf bE xs⟩
theorem iE[ab]:∀ {l:List (SV T.den)} {m:List AV},aw (RV T H) l m→l.any bN=false→RL T H l m
 |[],[],_,_=>by simp[RL]
 |x::xs,y::ys,h,hd=>by
  simp only[List.any_cons,Bool.or_eq_false_iff]at hd
  simp only[RL]
  exact⟨h.1.live hd.1,iE h.2 hd.2⟩
theorem yb[ab]{ev:Operand→SV T.den}{DY:Operand→AV}(bE:∀ x,RV T H (ev x) (DY x)):∀ (l:List (Nat×Operand)),((l.map fun p=>(p.1,ev p.2)).any fun p=>bN p.2)=false →
  RP T H (l.map fun p=>(p.1,ev p.2)) (l.map fun p=>(p.1,DY p.2))
 |[],_=>trivial
 |x::xs,hd=>by
  simp only[List.map_cons,List.any_cons,Bool.or_eq_false_iff]at hd
  exact⟨⟨rfl,(bE _).live hd.1⟩,yb bE xs hd.2⟩
theorem Fg[ab](hT:T.Ok)(hQ:Q.Ok)(hZ:T.tC Q)(hh:RH T H hp){nm:Nat}(hn:nm=H.length∨H[nm]?=some none){ev:Operand→SV T.den}{DY:Operand→AV}(bE:∀ x,RV T H (ev x) (DY x)){o:Oper}
  (h:(Nd Q nm H ev o K).run=some r):je T H hp (aK Q.P nm DY o) K r:=by
 obtain⟨dst,op,type,pos,after,guard⟩:=o
 unfold Nd at h
 cases op with
 |move x=>exact ar hh (bE x) (aF.ret _) h
 |assign x=>exact ar hh (bE x) (aF.ret _) h
 |pick c a b=>
  simp only at h
  split at h
  ·rename_i t ht
   have hc:=(bE c).lit ht
   obtain⟨v,hv,hk⟩:=Nr (bE a) (bE b) h
   refine ar hh hv (rd:=[]) ?_ hk
   simp only[aK,hc]
   exact aF.pure _
  ·simp[Tr.run]at h
 |alloc t=>
  simp only at h
  split at h
  case h_2=>simp[Tr.run]at h
  rename_i m hm
  split at h
  case h_2=>simp[Tr.run]at h
  rename_i z hz
  split at h
  case isFalse=>simp[Tr.run]at h
  rename_i hs
  exact HI hQ hh hn hm hz hs h
 |box t x=>
  simp only at h
  split at h
  case isFalse=>simp[Tr.run]at h
  rename_i hc
  have hv:=(bE x).live hc.2.2
  have lZ:=hv.cells
  refine eA hh hn (o:=.arr false (av (bI (ev x))) false 0 [ev x]) (a':=.arr false (aY (cellsOf (DY x))) false [DY x]) ⟨_,by rw[RL.closed lZ],by simp only[RL]; exact⟨hv,trivial⟩,fun mO=>by rw[yQ]at mO; simp only[av,mO,Bool.and_self]⟩
   (a:=.ref nm 1 0 0) (rd:=[]) ?_ ?_ h
  ·right
   simp only[R]
   exact⟨1,rfl,eC hh hn (o:=.arr false (av (bI (ev x))) false 0 [ev x])⟩
  ·simp only[aK]
   rw[if_pos ⟨by rw[←lZ.CR]; exact hc.1,by rw[←lZ.length]; exact hc.2.1⟩]
   exact aF.pure _
 |build t parts=>
  simp only at h
  split at h
  ·simp[Tr.run]at h
  rename_i hd
  simp only[Bool.not_eq_true]at hd
  obtain⟨v,hv,hk⟩:=lN h
  obtain⟨a,ha,hr⟩:=HH hQ (yb bE _ hd) hv
  refine ar hh (.inr hr) (rd:=[]) ?_ hk
  simp only[aK,ha]
  exact aF.pure _
 |buildSlice t len parts=>
  simp only at h
  split at h
  ·simp[Tr.run]at h
  rename_i hd
  simp only[Bool.not_eq_true]at hd
  exact x5 hQ hh hn (yb bE _ hd) h
 |load t a=>
  simp only at h
  split at h
  case h_2=>simp[Tr.run]at h
  rename_i m hm
  obtain⟨q,h1,h2,h3,_⟩:=hQ.row _ _ hm
  have:∃ v c rd,aF hp (kA Q.P t (DY a)) c rd∧R T H v c∧(K v [] rd).run=some r:=C2 hT h1 h2 h3 hh (bE a) h
  obtain⟨v,c,rd,hy,hr,hk⟩:=this
  refine ar hh (.inr hr) (rd:=rd) ?_ hk
  simp only[aK]
  exact aF.mono (aF.bind hy (aF.pure _)) (fun _ h=>by simpa using h)
 |store t a x=>
  simp only at h
  split at h
  case h_2=>simp[Tr.run]at h
  rename_i m hm
  obtain⟨q,h1,h2,h3,_⟩:=hQ.row _ _ hm
  exact HF hT h1 h3 hh (bE a) (bE x) h
 |nilCheck x=>
  simp only at h
  have hx:=bE x
  split at h
  ·rename_i n c i j he
   rw[he]at hx
   have gb:=hx.live rfl
   simp only[R]at gb
   obtain⟨aq,e,hv⟩:=gb
   refine ar hh (a:=.ref n aq i j) (.inr (by simp only[R]; exact⟨aq,rfl,hv⟩)) (rd:=[]) ?_ h
   simp only[aK,e]; exact aF.pure _
  ·rename_i e0 j he
   rw[he]at hx
   have gb:=hx.live rfl
   have ku:=gb
   simp only[R]at gb
   obtain⟨e',e,hv⟩:=gb
   refine ar hh (a:=.bc e' j) (.inr (by rw[←e]; exact ku)) (rd:=[]) ?_ h
   simp only[aK,e]; exact aF.pure _
  ·rename_i t y he
   rw[he]at hx
   have gb:=hx.live rfl
   have ku:=gb
   simp only[R]at gb
   obtain⟨e',e,hv⟩:=gb
   refine ar hh (a:=.fZ t e') (.inr (by rw[←e]; exact ku)) (rd:=[]) ?_ h
   simp only[aK,e]; exact aF.pure _
  ·rename_i f a c he
   rw[he]at hx
   have gb:=hx.live rfl
   have ku:=gb
   simp only[R]at gb
   obtain⟨f',c',e,hv⟩:=gb
   refine ar hh (a:=.iK (.func f) f' c') (.inr (by rw[←e]; exact ku)) (rd:=[]) ?_ h
   simp only[aK,e]; exact aF.pure _
  ·rename_i f a c he
   have e:=hx.lit he
   refine ar hh (bk (.func (.func f) a c)) (rd:=[]) ?_ h
   simp only[aK,e]; exact aF.pure _
  ·simp[Tr.run]at h
 |binOp op t x y u=>
  simp only at h
  obtain⟨v,hv,hk⟩:=Nq hQ (bE x) (bE y) h
  refine ar hh (bk v) (rd:=[]) ?_ hk
  simp only[aK,hv]
  exact aF.pure _
 |unOp op t x=>
  simp only at h
  split at h
  ·rename_i a ha
   have hx:=(bE x).lit ha
   obtain⟨v,hv,hk⟩:=gV h
   refine ar hh (bk v) (rd:=[]) ?_ hk
   simp only[aK,hx,hv]
   exact aF.pure _
  ·simp[Tr.run]at h
 |convert s d x=>
  simp only at h
  split at h
  ·rename_i a ha
   have hx:=(bE x).lit ha
   obtain⟨v,hv,hk⟩:=gV h
   refine ar hh (bk v) (rd:=[]) ?_ hk
   simp only[aK,hx,hv]
   exact aF.pure _
  ·simp[Tr.run]at h
 |makeInterface t x=>
  simp only at h
  split at h
  ·simp[Tr.run]at h
  rename_i hc
  simp only[Bool.or_eq_true,not_or,Bool.not_eq_true]at hc
  have hx:=(bE x).live hc.2
  refine ar hh (a:=.fZ t (DY x)) (.inr (by simp only[R]; exact⟨_,rfl,hx⟩)) (rd:=[]) ?_ h
  simp only[aK]
  rw[if_neg (by simp[hc.1.1,hc.1.2])]
  exact aF.pure _
 |makeFunc fn first captured=>
  simp only at h
  split at h
  ·rename_i hc
   refine ar hh (bk (.func fn #[] #[])) (rd:=[]) ?_ h
   simp only[aK,hc,if_true]
   exact aF.pure _
  ·rename_i hc
   split at h
   ·simp[Tr.run]at h
   rename_i hd
   simp only[Bool.or_eq_true,not_or,Bool.not_eq_true]at hd
   have h1:=iE (jf bE first.toList) hd.1
   have h2:=iE (jf bE captured.toList) hd.2
   refine ar hh (a:=.iK fn (first.toList.map DY) (captured.toList.map DY)) (.inr (by simp only[R]; exact⟨_,_,rfl,h1,h2⟩)) (rd:=[]) ?_ h
   simp only[aK]
   rw[if_neg hc]
   exact aF.pure _
 |makeSlice t l c=>
  simp only at h
  split at h
  ·rename_i hs
   have e:l=c:=by
    unfold Km at hs
    split at hs
    ·rw[Nat.eq_of_beq_eq_true hs]
    ·simp at hs
   subst e
   exact yT hQ hZ hh hn (bE l) h
  ·exact yS hQ hZ hh hn (bE l) (bE c) h
 |slice t x lo hi mx=>
  simp only at h
  have ho:∀ o:Option Operand,KE T H (o.map ev) (o.map DY):=by
   intro o
   cases o with
   |none=>trivial
   |some o=>exact bE o
  obtain⟨v,b,hb,hv,hk⟩:=Ns hT hQ hh (bE x) (ho lo) (ho hi) (ho mx) h
  refine ar hh hv (rd:=[]) ?_ hk
  simp only[aK,hb]
  exact aF.pure _
 |sliceToArrayPointer t x=>
  simp only at h
  have hx:=bE x
  unfold Kn at h
  split at h
  case h_2=>simp[Tr.run]at h
  rename_i len m n c i j l cp hf he
  obtain⟨q,gI,dR,gA⟩:=hQ.C4 hf
  split at h
  case h_2=>simp[Tr.run]at h
  rename_i hle
  simp only[decide_eq_true_eq]at hle
  rw[he]at hx
  have gb:=hx.live rfl
  simp only[R]at gb
  obtain⟨aq,e,hv⟩:=gb
  refine ar hh (a:=.ref n aq i j) (.inr (by simp only[R]; exact⟨aq,rfl,hv⟩)) (rd:=[]) ?_ h
  simp only[aK,e,gI]
  rw[if_pos hle]
  exact aF.pure _
 |fieldAddr s x f=>
  simp only at h
  have hx:=bE x
  split at h
  ·rename_i off m n c i j hf he
   obtain⟨q,hq,_⟩:=hQ.Nm hf
   rw[he]at hx
   have gb:=hx.live rfl
   simp only[R]at gb
   obtain⟨aq,e,hv⟩:=gb
   refine ar hh (a:=.ref n aq i (j+off)) (.inr (by simp only[R]; exact⟨aq,rfl,hv⟩)) (rd:=[]) ?_ h
   simp only[aK,e,hq]; exact aF.pure _
  ·rename_i off m e0 j hf he
   obtain⟨q,hq,_⟩:=hQ.Nm hf
   rw[he]at hx
   have gb:=hx.live rfl
   simp only[R]at gb
   obtain⟨e',e,hv⟩:=gb
   refine ar hh (a:=.bc e' (j+off)) (.inr (by simp only[R]; exact⟨e',rfl,hv.1,hv.2⟩)) (rd:=[]) ?_ h
   simp only[aK,e,hq]; exact aF.pure _
  ·rename_i off m v aV len i hf he
   obtain⟨q,hq,_⟩:=hQ.Nm hf
   rw[he]at hx
   have gb:=hx.live rfl
   simp only[R]at gb
   obtain⟨a0,h1,h2,h3⟩:=gb
   rcases h3 with ⟨n,aq,k,j,rfl,e⟩|⟨e',j,rfl,e⟩
   ·refine ar hh (a:=.ref n aq k (j+i*aV+off)) (.inr (by simp only[R]; exact⟨.ref n aq k (j+off),qC h1 (.inl ⟨_,_,_,_,rfl,rfl⟩),h2,.inl ⟨_,_,_,_,rfl,by rw[Nat.add_right_comm]⟩⟩)) (rd:=[]) ?_ h
    simp only[aK,e,hq]; exact aF.pure _
   ·refine ar hh (a:=.bc e' (j+i*aV+off)) (.inr (by simp only[R]; exact⟨.bc e' (j+off),qC h1 (.inr ⟨_,_,rfl,rfl⟩),h2,.inr ⟨_,_,rfl,by rw[Nat.add_right_comm]⟩⟩)) (rd:=[]) ?_ h
    simp only[aK,e,hq]; exact aF.pure _
  ·simp[Tr.run]at h
 |field s x f=>
  simp only at h
  have hx:=bE x
  split at h
  ·rename_i off m l hf he
   obtain⟨q,hq,dR,gA⟩:=hQ.Nm hf
   rw[he]at hx
   have gb:=hx.live rfl
   obtain⟨v,hv,hk⟩:=lN h
   rw[←dR,←gA]at hv
   obtain⟨c,hc,hr⟩:=R.part gb hv
   simp only[R]at gb
   obtain⟨l',e,_⟩:=gb
   refine ar hh (.inr hr) (rd:=[]) ?_ hk
   rw[e]at hc
   simp only[aK,e,hq,hc]; exact aF.pure _
  ·simp[Tr.run]at h
 |indexAddr t x ix=>
  simp only at h
  obtain⟨v,b,hb,hv,hk⟩:=yU hT hQ hh (bE x) (bE ix) h
  refine ar hh hv (rd:=[]) ?_ hk
  simp only[aK,hb]
  exact aF.pure _
 |index t x ix=>
  simp only at h
  obtain⟨v,b,hb,hv,hk⟩:=HJ hQ (bE x) (bE ix) h
  refine ar hh hv (rd:=[]) ?_ hk
  simp only[aK,hb]
  exact aF.pure _
 |makeMap t x=>
  simp only at h
  have ho:KE T H (x.map ev) (x.map DY):=by
   cases x with
   |none=>trivial
   |some o=>exact bE o
  have:=C9 (T:=T) hQ hh hn ho h
  exact this
 |lookup t x ix c=>
  simp only at h
  exact Ff hT hQ hZ hh (bE x) (bE ix) h
 |mapUpdate t x k v=>
  simp only at h
  exact yW hT hQ hh (bE x) (bE k) (bE v) h
 |extract t ix=>
  simp only at h
  have hx:=bE t
  split at h
  ·rename_i l he
   rw[he]at hx
   have gb:=hx.live rfl
   simp only[R]at gb
   obtain⟨l',e,hl⟩:=gb
   obtain⟨v,hv,hk⟩:=lN h
   obtain⟨b,hb,hr⟩:=aw.get (aO.1 hl) hv
   refine ar hh (.inr hr) (rd:=[]) ?_ hk
   simp only[aK,e,hb]; exact aF.pure _
  ·simp[Tr.run]at h
 |call c=>
  obtain⟨callee,args,lY⟩:=c
  cases callee with
  |builtin b=>exact C7 hT hQ hh hn (jf bE args.toList) h
  |_=>simp[Tr.run]at h
 |_=>simp[Tr.run]at h
end
end Go.PI
end
section
/- PS, part K: by value, frozen, and calls of which an answer is known. -/
namespace Go.PI
variable {T:dm}{ρ:Type}
mutual
def kf:AV→Bool
 |.lit v=>match v with
  |.slice none 0 0=>false
  |_=>true
 |.agg l|.jj l=>n8 l
 |.fZ _ v=>kf v
 |.iK _ f c=>n8 f&&n8 c
 |_=>true
def n8:List AV→Bool
 |[]=>true
 |x::xs=>kf x&&n8 xs
end
section
variable {H:ah T.den}{hp:af}{r:ρ}
mutual
theorem R.flat:∀ {v:SV T.den} {a:AV},R T H v a→kf a=true→vH v=flat a
 |.dead,a,h,_=>by simp[R]at h
 |.hole,a,h,_=>by simp only[R]at h; subst h; rfl
 |.lit v,a,h,_=>by simp only[R]at h; subst h; rfl
 |.agg l,a,h,hn=>by
  simp only[R]at h
  obtain⟨l',rfl,h2⟩:=h
  simp only[kf]at hn
  simp only[vH,Go.PI.flat]; exact RL.flat h2 hn
 |.jj l,a,h,hn=>by
  simp only[R]at h
  obtain⟨l',rfl,h2⟩:=h
  simp only[kf]at hn
  simp only[vH,Go.PI.flat]; exact RL.flat h2 hn
 |.sl l,a,h,_=>by
  simp only[R]at h
  obtain⟨l',rfl,h2⟩:=h
  rfl
 |.ji t l,a,h,hn=>by
  simp only[R]at h
  rcases h with ⟨l',rfl,_⟩|⟨_,rfl⟩
  ·rfl
  ·simp[kf]at hn
 |.bc e j,a,h,_=>by
  simp only[R]at h
  obtain⟨e',rfl,h2⟩:=h
  rfl
 |.ref n c i j,a,h,_=>by
  simp only[R]at h
  obtain⟨aq,rfl,h2⟩:=h
  rfl
 |.iI n c i j ln cp,a,h,_=>by
  simp only[R]at h
  obtain⟨aq,rfl,h2⟩:=h
  rfl
 |.bp esz n c rg cap,a,h,_=>by
  simp only[R]at h
  obtain⟨aq,h1,h2⟩:=h
  rcases rg with _|⟨off,len⟩<;>simp only at h2<;>subst h2<;>rfl
 |.iK fn f c,a,h,hn=>by
  simp only[R]at h
  obtain⟨f',c',rfl,h2,h3⟩:=h
  rfl
 |.fZ t v,a,h,hn=>by
  simp only[R]at h
  obtain⟨v',rfl,h2⟩:=h
  simp only[kf]at hn
  simp only[vH,Go.PI.flat]; exact R.flat h2 hn
 |.wC t l c b,a,h,hn=>by
  simp only[R]at h
  rcases h with ⟨_,l',rfl,_⟩|⟨_,_,rfl|rfl⟩
  ·rfl
  ·rfl
  ·simp[kf]at hn
 |.nz,a,h,hn=>by
  simp only[R]at h
  subst h
  rfl
 |.mp y n,a,h,_=>by
  simp only[R]at h
  obtain⟨rfl,_⟩:=h
  rfl
 |.sy v s len i,a,h,_=>by
  simp only[R]at h
  obtain⟨a0,_,_,h2⟩:=h
  rcases h2 with ⟨n,aq,k,j,rfl,rfl⟩|⟨e,j,rfl,rfl⟩<;>rfl
theorem RL.flat:∀ {l:List (SV T.den)} {m:List AV},RL T H l m→n8 m=true→A0 l=u4 m
 |[],[],_,_=>rfl
 |x::xs,y::ys,h,hn=>by
  simp only[RL]at h
  simp only[n8,Bool.and_eq_true]at hn
  simp only[A0,u4]; rw[R.flat h.1 hn.1,RL.flat h.2 hn.2]
 |[],_::_,h,_=>by simp[RL]at h
 |_::_,[],h,_=>by simp[RL]at h
end
theorem n9{den:Nat→Type}:∀ {l:List (SV den)} {i:Nat} {e:SV den},av l=true→l[i]?=some e→aE e=true
 |[],_,_,_,h=>by simp at h
 |x::xs,0,e,hc,h=>by
  simp_all[av]
 |x::xs,i+1,e,hc,h=>by
  simp only[av,Bool.and_eq_true]at hc
  simp only[List.getElem?_cons_succ]at h
  exact n9 hc.2 h
theorem oa[ab](hh:RH T H hp):∀ k:Nat,
  (∀ (v:SV T.den) (a:AV) (K:SV T.den→List Nat→Tr ρ),R T H v a→(fS T H k v K).run=some r →
    ∃ v' rd a',aF hp (aW k a) a' rd∧R T H v' a'∧(kf a'=true∧aE v'=true)∧(K v' rd).run=some r) ∧
  (∀ (l:List (SV T.den)) (m:List AV) (K:List (SV T.den)→List Nat→Tr ρ),RL T H l m→(fT T H k l K).run=some r →
    ∃ l' rd m',aF hp (aM k m) m' rd∧RL T H l' m'∧(n8 m'=true∧av l'=true)∧l'.length=l.length∧(K l' rd).run=some r)
 |0=>⟨fun v a K _ h=>by simp[fS,Tr.run]at h,fun l m K _ h=>by simp[fT,Tr.run]at h⟩
 |k+1=>by
  obtain⟨VI,PS⟩:=oa hh k
  refine⟨fun v a K hr h=>?_,fun l m K hr h=>?_⟩
  ·cases v with
   |dead=>simp[R]at hr
   |hole=>simp[fS,Tr.run]at h
   |lit v=>
    simp only[R]at hr
    subst hr
    simp only[fS]at h
    split at h
    ·exact⟨_,_,.sl [],aF.pure _,by simp[R,RL,av],⟨rfl,rfl⟩,h⟩
    ·rename_i hv
     refine⟨_,_,.lit v,?_,by simp[R],⟨?_,rfl⟩,h⟩
     ·simp only[aW]
      exact aF.pure _
     ·simp only[kf]
   |agg l=>
    simp only[R]at hr
    obtain⟨l',rfl,hl⟩:=hr
    simp only[fS]at h
    obtain⟨l2,rd,m2,h1,h2,h3,_,h4⟩:=PS _ _ _ hl h
    refine⟨_,_,.agg m2,?_,by simp only[R]; exact⟨_,rfl,h2⟩,⟨by simpa only[kf] using h3.1,by simpa only[aE] using h3.2⟩,h4⟩
    simp only[aW]
    exact aF.mono (aF.bind h1 (aF.pure _)) (fun _ h=>by simpa using h)
   |jj l=>
    simp only[R]at hr
    obtain⟨l',rfl,hl⟩:=hr
    simp only[fS]at h
    obtain⟨l2,rd,m2,h1,h2,h3,_,h4⟩:=PS _ _ _ hl h
    refine⟨_,_,.jj m2,?_,by simp only[R]; exact⟨_,rfl,h2⟩,⟨by simpa only[kf] using h3.1,by simpa only[aE] using h3.2⟩,h4⟩
    simp only[aW]
    exact aF.mono (aF.bind h1 (aF.pure _)) (fun _ h=>by simpa using h)
   |sl l=>
    have ld:=hr
    simp only[R]at hr
    obtain⟨l',rfl,hl⟩:=hr
    simp only[fS]at h
    exact⟨_,_,.sl l',aF.pure _,ld,⟨rfl,rfl⟩,h⟩
   |ji t l=>
    have ld:=hr
    simp only[R]at hr
    simp only[fS]at h
    rcases hr with ⟨l',rfl,hl⟩|⟨rfl,rfl⟩
    ·exact⟨_,_,.sl l',aF.pure _,ld,⟨rfl,rfl⟩,h⟩
    ·exact⟨_,_,.sl [],aF.pure _,by simp only[R]; exact .inl ⟨[],rfl,trivial⟩,⟨rfl,rfl⟩,h⟩
   |bc e j=>
    have ld:=hr
    simp only[R]at hr
    obtain⟨e',rfl,he⟩:=hr
    simp only[fS]at h
    exact⟨_,_,.bc e' j,aF.pure _,ld,⟨rfl,rfl⟩,h⟩
   |ref n c i j=>
    simp only[R]at hr
    obtain⟨aq,rfl,hv⟩:=hr
    simp only[fS]at h
    split at h
    case h_2=>simp[Tr.run]at h
    rename_i g cl f cur es ho
    obtain⟨o,cZ,dA⟩:=hh.obj ho
    obtain⟨es',rfl,cC,qP⟩:=dA
    split at h
    case h_2=>simp[Tr.run]at h
    rename_i e hc he
    have bX:=hv.arr hh ho hc
    simp only[aC.len]at bX
    have hl:=cC.length
    obtain⟨e2,xw,DW⟩:=aw.get (aO.1 cC) he
    cases cl with
    |true=>
     simp only at h
     refine⟨_,_,.bc e2 j,?_,by simp only[R]; exact⟨_,rfl,DW,n9 (qP rfl) he⟩,⟨rfl,rfl⟩,h⟩
     simp only[aW]
     refine aF.mono (aF.bind (aF.arr cZ (by omega)) ?_) (rd:=[n]++[]) (fun _ h=>by simpa using h)
     simp only[xw]
     simp only[if_true]
     exact aF.pure _
    |false=>
     simp only at h
     obtain⟨v2,rd,a2,h1,h2,h3,h⟩:=VI _ _ _ DW h
     refine⟨_,_,.bc a2 j,?_,by simp only[R]; exact⟨_,rfl,h2,h3.2⟩,⟨rfl,rfl⟩,h⟩
     simp only[aW]
     refine aF.mono (aF.bind (aF.arr cZ (by omega)) (rd':=rd) ?_) (fun _ h=>by simpa using h)
     simp only[xw,Bool.false_eq_true,if_false]
     exact aF.mono (aF.bind h1 (aF.pure _)) (fun _ h=>by simpa using h)
   |iI n c i j ln cp=>
    simp only[R]at hr
    obtain⟨aq,rfl,hv⟩:=hr
    simp only[fS]at h
    split at h
    case h_2=>simp[Tr.run]at h
    rename_i g cl f cur es ho
    obtain⟨o,cZ,dA⟩:=hh.obj ho
    obtain⟨es',rfl,cC,qP⟩:=dA
    split at h
    case h_2=>simp[Tr.run]at h
    rename_i cs hc he
    have bX:=hv.arr hh ho hc
    simp only[aC.len]at bX
    have hl:=cC.length
    obtain⟨e2,xw,DW⟩:=aw.get (aO.1 cC) he
    simp only[R]at DW
    obtain⟨lQ,rfl,tU⟩:=DW
    have lZ:=tU.length
    split at h
    case h_2=>simp[Tr.run]at h
    rename_i hle
    simp only[Bool.and_eq_true,decide_eq_true_eq]at hle
    have Gy:RL T H ((cs.drop j).take ln) ((lQ.drop j).take ln):=aO.2 (((aO.1 tU).drop j).take ln)
    cases cl with
    |true=>
     simp only at h
     have mO:av cs=true:=by
      have:=n9 (qP rfl) he
      simpa only[aE] using this
     refine⟨_,_,.sl ((lQ.drop j).take ln),?_,by simp only[R]; exact⟨_,rfl,Gy,mo mO _ _⟩,⟨rfl,rfl⟩,h⟩
     simp only[aW]
     refine aF.mono (aF.bind (aF.arr cZ (by omega)) ?_) (rd:=[n]++[]) (fun _ h=>by simpa using h)
     simp only[xw]
     rw[if_pos ⟨hle.1,by omega⟩]
     simp only[if_true]
     exact aF.pure _
    |false=>
     simp only at h
     obtain⟨l2,rd,m2,h1,h2,h3,_,h⟩:=PS _ _ _ Gy h
     refine⟨_,_,.sl m2,?_,by simp only[R]; exact⟨_,rfl,h2,h3.2⟩,⟨rfl,rfl⟩,h⟩
     simp only[aW]
     refine aF.mono (aF.bind (aF.arr cZ (by omega)) (rd':=rd) ?_) (fun _ h=>by simpa using h)
     simp only[xw]
     rw[if_pos ⟨hle.1,by omega⟩]
     simp only[Bool.false_eq_true,if_false]
     exact aF.mono (aF.bind h1 (aF.pure _)) (fun _ h=>by simpa using h)
   |iK fn f c=>
    simp only[R]at hr
    obtain⟨f',c',rfl,hf,hc⟩:=hr
    simp only[fS]at h
    obtain⟨l2,rd,m2,h1,h2,h3,_,h⟩:=PS _ _ _ hf h
    obtain⟨l3,rd3,m3,g1,g2,g3,_,h⟩:=PS _ _ _ hc h
    refine⟨_,_,.iK fn m2 m3,?_,by simp only[R]; exact⟨_,_,rfl,h2,g2⟩,⟨by simp[kf,h3.1,g3.1],by simp[aE,h3.2,g3.2]⟩,h⟩
    simp only[aW]
    exact aF.mono (aF.bind h1 (aF.bind g1 (aF.pure _))) (fun _ h=>by simpa using h)
   |fZ t v=>
    simp only[R]at hr
    obtain⟨v',rfl,hv⟩:=hr
    simp only[fS]at h
    obtain⟨v2,rd,a2,h1,h2,h3,h⟩:=VI _ _ _ hv h
    refine⟨_,_,.fZ t a2,?_,by simp only[R]; exact⟨_,rfl,h2⟩,⟨by simpa only[kf] using h3.1,by simpa only[aE] using h3.2⟩,h⟩
    simp only[aW]
    exact aF.mono (aF.bind h1 (aF.pure _)) (fun _ h=>by simpa using h)
   |bp esz n c rg cap=>
    simp only[R]at hr
    obtain⟨aq,hv,ha⟩:=hr
    simp only[fS]at h
    split at h
    ·rename_i g cl f cur es ho
     obtain⟨o,cZ,dA⟩:=hh.obj ho
     obtain⟨es',rfl,cC,qP⟩:=dA
     split at h
     case h_2=>simp[Tr.run]at h
     rename_i hc
     have bX:=hv.arr hh ho hc
     simp only[aC.len]at bX
     have hl:=cC.length
     have key:∀ (off len:Nat) (part:List (SV T.den)) (h:(match cl with
        |true=>K (.sl part) [n]
        |false=>fT T H k part fun l rd=>K (.sl l) (n::rd)).run=some r),part=(es.drop off).take len→off+len≤es.length →
       ∃ v' rd a',aF hp (aW (k+1) (.bp esz n aq off len cap)) a' rd∧R T H v' a'∧(kf a'=true∧aE v'=true)∧(K v' rd).run=some r:=by
      intro off len part h Ow hle
      have Gy:RL T H part ((es'.drop off).take len):=by subst Ow; exact aO.2 (((aO.1 cC).drop off).take len)
      cases cl with
      |true=>
       simp only at h
       refine⟨_,_,.sl ((es'.drop off).take len),?_,by simp only[R]; exact⟨_,rfl,Gy,by subst Ow; exact mo (qP rfl) _ _⟩,⟨rfl,rfl⟩,h⟩
       simp only[aW]
       refine aF.mono (aF.bind (aF.arr cZ (by omega)) ?_) (rd:=[n]++[]) (fun _ h=>by simpa using h)
       simp only
       rw[if_pos (by omega)]
       simp only[if_true]
       exact aF.pure _
      |false=>
       simp only at h
       obtain⟨l2,rd,m2,h1,h2,h3,_,h⟩:=PS _ _ _ Gy h
       refine⟨_,_,.sl m2,?_,by simp only[R]; exact⟨_,rfl,h2,h3.2⟩,⟨rfl,rfl⟩,h⟩
       simp only[aW]
       refine aF.mono (aF.bind (aF.arr cZ (by omega)) (rd':=rd) ?_) (fun _ h=>by simpa using h)
       simp only
       rw[if_pos (by omega)]
       simp only[Bool.false_eq_true,if_false]
       exact aF.mono (aF.bind h1 (aF.pure _)) (fun _ h=>by simpa using h)
     split at h
     ·simp only at ha
      subst ha
      exact key 0 aq es h (by simp only[List.drop_zero]; rw[List.take_of_length_le (by omega)]) (by omega)
     ·grind[Tr.run]
    ·rename_i g f cur t l ho
     obtain⟨o,cZ,dA⟩:=hh.obj ho
     obtain⟨es',rfl,cC⟩:=dA
     split at h
     case h_2=>simp[Tr.run]at h
     rename_i hc
     have bX:=hv.arr hh ho hc
     simp only[aC.len]at bX
     have hl:=cC.length
     have key:∀ off len,off+len≤l.length→aF hp (aW (k+1) (.bp esz n aq off len cap)) (.sl ((es'.drop off).take len)) [n]:=by
      intro off len hle
      simp only[aW]
      refine aF.mono (aF.bind (aF.arr cZ (by omega)) (rd':=[]) ?_) (fun _ h=>by simpa using h)
      simp only
      rw[if_pos (by omega)]
      simp only[if_true]
      exact aF.pure _
     split at h
     ·simp only at ha
      subst ha
      refine⟨_,_,_,key 0 aq (by omega),?_,⟨rfl,rfl⟩,h⟩
      simp only[R,List.drop_zero]
      rw[List.take_of_length_le (by omega)]
      exact .inl ⟨_,rfl,cC⟩
     ·rename_i off len
      simp only at ha
      subst ha
      obtain⟨hle,h⟩:=aX h
      simp only[decide_eq_true_eq]at hle
      refine⟨_,_,_,key off len hle,?_,⟨rfl,rfl⟩,h⟩
      simp only[R]
      exact .inl ⟨_,rfl,(cC.drop off).take len⟩
    ·simp[Tr.run]at h
   |mp y n=>simp[fS,Tr.run]at h
   |wC t l c b=>
    simp only[R]at hr
    simp only[fS]at h
    rcases hr with ⟨_,l',rfl,hl⟩|⟨_,rfl,rfl|rfl⟩
    ·exact⟨_,_,.sl l',by simp only[aW]; exact aF.pure _,by simp only[R]; exact .inl ⟨_,rfl,hl⟩,⟨rfl,rfl⟩,h⟩
    ·exact⟨_,_,.sl [],by simp only[aW]; exact aF.pure _,by simp only[R]; exact .inl ⟨_,rfl,trivial⟩,⟨rfl,rfl⟩,h⟩
    ·exact⟨_,_,.sl [],by simp only[aW]; exact aF.pure _,by simp only[R]; exact .inl ⟨_,rfl,trivial⟩,⟨rfl,rfl⟩,h⟩
   |nz=>
    simp only[R]at hr
    simp only[fS]at h
    subst hr
    exact⟨_,_,.sl [],by simp only[aW]; exact aF.pure _,by simp only[R]; exact⟨[],rfl,trivial,rfl⟩,⟨rfl,rfl⟩,h⟩
   |sy v s len i=>simp[fS,Tr.run]at h
  ·cases l with
   |nil=>
    cases m with
    |nil=>
     simp only[fT]at h
     exact⟨[],[],[],aF.pure _,by simp[RL],⟨rfl,rfl⟩,rfl,h⟩
    |cons=>simp[RL]at hr
   |cons x xs=>
    cases m with
    |nil=>simp[RL]at hr
    |cons y ys=>
     simp only[RL]at hr
     simp only[fT]at h
     obtain⟨v2,rd,a2,h1,h2,h3,h⟩:=VI _ _ _ hr.1 h
     obtain⟨l2,rd2,m2,g1,g2,g3,g4,h⟩:=PS _ _ _ hr.2 h
     refine⟨_,_,a2::m2,?_,by simp only[RL]; exact⟨h2,g2⟩,⟨by simp[n8,h3.1,g3.1],by simp[av,h3.2,g3.2]⟩,by simp[g4],h⟩
     simp only[aM]
     exact aF.mono (aF.bind h1 (aF.bind g1 (aF.pure _))) (fun _ h=>by simpa using h)
theorem KL[ab](hh:RH T H hp){k:Nat}{v:SV T.den}{a:AV}{K:SV T.den→List Nat→Tr ρ}(hr:R T H v a)(h:(fS T H k v K).run=some r):
  ∃ v' rd a',aF hp (aW k a) a' rd∧R T H v' a'∧(kf a'=true∧aE v'=true)∧(K v' rd).run=some r:=(oa hh k).1 v a K hr h
theorem uU[ab](hh:RH T H hp){k:Nat}{l:List (SV T.den)}{m:List AV}{K:List (SV T.den)→List Nat→Tr ρ}(hr:RL T H l m)(h:(fT T H k l K).run=some r):
  ∃ l' rd m',aF hp (aM k m) m' rd∧RL T H l' m'∧(n8 m'=true∧av l'=true)∧l'.length=l.length∧(K l' rd).run=some r:=(oa hh k).2 l m K hr h
def FW(T:dm)(H:ah T.den):List (Nat×aC T.den)→List (Nat×aL)→Prop:=
 aw fun p q=>p.1=q.1∧RO T H p.2 q.2∧∃ o,H[p.1]?=some (some o)∧p.2.cur=o.cur∧p.2.len=o.len∧o.isRec=false∧p.2.isRec=false
theorem od[ab](hh:RH T H hp):∀ {k:Nat} {ns:List Nat} {K:List (Nat×aC T.den)→List Nat→Tr ρ},(ml T H k ns K).run=some r →
  ∃ wr rd w,aF hp (dJ k ns) w rd∧FW T H wr w∧(K wr rd).run=some r
 |0,ns,K,h=>by simp[ml,Tr.run]at h
 |k+1,[],K,h=>by
  simp only[ml]at h
  exact⟨[],[],[],aF.pure _,trivial,h⟩
 |k+1,n::ns,K,h=>by
  simp only[ml]at h
  split at h
  ·rename_i g cl f cur es ho
   obtain⟨o,cZ,dA⟩:=hh.obj ho
   obtain⟨es',rfl,cC,qP⟩:=dA
   split at h
   ·obtain⟨wr,rd,w,h1,h2,h⟩:=od hh h
    refine⟨(n,.arr g true true cur es)::wr,n::rd,(n,.arr g true true es')::w,?_,⟨⟨rfl,⟨_,rfl,cC,qP⟩,_,ho,rfl,rfl,rfl,rfl⟩,h2⟩,h⟩
    simp only[dJ]
    refine aF.get cZ ?_
    simp only[if_true]
    exact aF.mono (aF.bind h1 (aF.pure _)) (fun _ h=>by simpa using h)
   ·obtain⟨Qv,rd,m2,g1,g2,g3,g4,h⟩:=uU hh cC h
    obtain⟨wr,rd2,w,h1,h2,h⟩:=od hh h
    rw[RL.names cC]at h1
    refine⟨(n,.arr g true true cur Qv)::wr,n::rd++rd2,(n,.arr g true true m2)::w,?_,⟨⟨rfl,⟨_,rfl,g2,fun _=>g3.2⟩,_,ho,rfl,by simp[aC.len,g4],rfl,rfl⟩,h2⟩,h⟩
    simp only[dJ]
    refine aF.get cZ ?_
    simp only[Bool.false_eq_true,if_false]
    exact aF.mono (aF.bind g1 (aF.bind h1 (aF.pure _))) (fun _ h=>by simpa using h)
  ·rename_i g f cur t l ho
   obtain⟨o,cZ,dA⟩:=hh.obj ho
   obtain⟨es',rfl,cC⟩:=dA
   obtain⟨wr,rd,w,h1,h2,h⟩:=od hh h
   refine⟨(n,.bU g true cur t l)::wr,n::rd,(n,.arr g true true es')::w,?_,⟨⟨rfl,⟨_,rfl,cC⟩,_,ho,rfl,rfl,rfl,rfl⟩,h2⟩,h⟩
   simp only[dJ]
   refine aF.get cZ ?_
   simp only[if_true]
   exact aF.mono (aF.bind h1 (aF.pure _)) (fun _ h=>by simpa using h)
  ·simp[Tr.run]at h
theorem FW.names:∀ {wr:List (Nat×aC T.den)} {w:List (Nat×aL)},FW T H wr w→wr.map (·.1)=w.map (·.1)
 |[],[],_=>rfl
 |_::_,_::_,h=>by simp only[List.map_cons]; rw[h.1.1,FW.names h.2]
 |[],_::_,h=>h.elim
 |_::_,[],h=>h.elim
theorem FW.apply[ab]:∀ {wr:List (Nat×aC T.den)} {w:List (Nat×aL)} {H:ah T.den} {hp:af},RH T H hp→FW T H wr w →
  dh H (ba H wr)∧RH T (ba H wr) (ak hp w)∧(∀ n:Nat,n∉wr.map (·.1)→(ba H wr)[n]?=H[n]?)∧(ba H wr).length=H.length
 |[],[],H,hp,hh,_=>⟨dh.refl _,hh,fun _ _=>rfl,rfl⟩
 |(n,o')::wr,(n',a')::w,H,hp,hh,h=>by
  obtain⟨⟨e1,h2,o,h3,h4,h5,wb,ED⟩,h6⟩:=h
  simp only at e1 h2 h3 h4 h5 wb ED
  subst e1
  obtain⟨hg,Nt⟩:=hh.QD h3 (o':=o') (by omega) (fun _=>h5) h2
  have bZ:=(List.getElem?_eq_some_iff.1 h3).1
  have e1:bJ H n o'=H.set n (some o'):=by simp[bJ]; omega
  have e2:setObj hp n a'=hp.set n (some a'):=by simp[setObj]; have:=hh.length; omega
  have h7:FW T (H.set n (some o')) wr w:=by
   refine aw.mono (fun p q L2=>?_) h6
   obtain⟨q1,q2,o2,q3,q4,q5,q6,q7⟩:=L2
   refine⟨q1,RO.mono hg q2,?_⟩
   by_cases e:p.1=n
   ·simp_all
   ·grind
  obtain⟨i1,i2,i3,i4⟩:=FW.apply Nt h7
  simp only[ba,ak]
  rw[e1,e2]
  refine⟨hg.trans i1,i2,fun m hm=>?_,by rw[i4]; simp⟩
  simp only[List.map_cons,List.mem_cons,not_or]at hm
  rw[i3 m hm.2,List.getElem?_set_ne (Ne.symm hm.1)]
 |[],_::_,_,_,_,h=>h.elim
 |_::_,[],_,_,_,h=>h.elim
theorem FW.KB:∀ {wr:List (Nat×aC T.den)} {w:List (Nat×aL)},FW T H wr w→∀ n,recAt H n=true→n∉wr.map (·.1)
 |[],[],_,n,_=>by simp
 |(m,o')::wr,_::w,h,n,hn=>by
  obtain⟨⟨_,_,o,h3,_,_,wb,_⟩,h6⟩:=h
  simp only at h3
  simp only[List.map_cons,List.mem_cons,not_or]
  refine⟨?_,FW.KB h6 n hn⟩
  rintro rfl
  simp only[recAt,h3,wb,Bool.false_eq_true]at hn
 |[],_::_,h,_,_=>h.elim
 |_::_,[],h,_,_=>h.elim
theorem FW.re[ab]{wr:List (Nat×aC T.den)}{w:List (Nat×aL)}(hh:RH T H hp)(h:FW T H wr w){v:SV T.den}{a:AV}(hv:∀ H,R T H v a):RE T H hp v wr ⟨a,w⟩:=by
 obtain⟨h1,h2,h3,h4⟩:=FW.apply hh h
 exact⟨.inr (hv _),h2,h1,fun q hq=>by rw[h.names]; exact List.mem_map_of_mem hq,fun n hn _=>h3 n hn,by rw[h4]; exact Nat.le_refl _,h.KB⟩
end
def Ox(T:dm)(v:TV T.den)(a:AV):Prop:=
 match v with
 |⟨.v t,x⟩=>T.rp t x a
 |⟨.l t,l⟩=>∃ l',a=.sl l'∧aw (T.rp t) l l'
 |⟨.m _ _,_⟩=>False
theorem Sk(hT:T.Ok){v:TV T.den}{a:AV}(h:Ox T v a)(H:ah T.den):R T H (RZ T v) a:=by
 obtain⟨t,x⟩:=v
 cases t with
 |v t=>exact hT.up _ _ _ H h
 |l t=>
  obtain⟨l',rfl,hl⟩:=h
  simp only[RZ,R]
  exact .inl ⟨l',rfl,hl⟩
 |m kk t=>exact h.elim
theorem KM[ab](hT:T.Ok)(H:ah T.den):∀ {l:List (TV T.den)} {m:List AV},aw (Ox T) l m→RL T H (Px T l) m
 |[],[],_=>by simp[Px,RL]
 |v::vs,a::as,h=>by
  simp only[Px,List.map_cons,RL]
  exact⟨Sk hT h.1 H,KM hT H h.2⟩
 |[],_::_,h=>h.elim
 |_::_,[],h=>h.elim
theorem Gz{H:ah T.den}{l:List (SV T.den)}{m:List AV}(h:RL T H l m):R T H (qN l) (cB m):=by
 match l,m,h with
 |[],[],h=>simp_all[qN,cB,R]
 |[x],[y],h=>simp only[RL]at h; exact h.1
 |x::x'::xs,y::y'::ys,h=>simp_all[qN,cB,R]
 |[],_::_,h=>simp[RL]at h
 |_::_,[],h=>simp[RL]at h
 |[x],_::_::_,h=>simp[RL]at h
 |_::_::_,[y],h=>simp[RL]at h
theorem Fh(hT:T.Ok){H:ah T.den}{ts:List Nat}:∀ {l:List (SV T.den)} {m:List AV} {xs:List (TV T.den)},RL T H l m→Hw T ts l=some xs→aw (Ox T) xs m:=by
 induction ts with
 |nil=>
  intro l m xs hr h
  cases l with
  |cons=>simp[Hw]at h
  |nil=>
   cases m with
   |cons=>simp[RL]at hr
   |nil=>
    simp[Hw]at h
    subst h
    trivial
 |cons t ts ih=>
  intro l m xs hr h
  cases l with
  |nil=>simp[Hw]at h
  |cons v vs=>
   cases m with
   |nil=>simp[RL]at hr
   |cons a as=>
    simp only[RL]at hr
    simp only[Hw,Option.bind_eq_some_iff,Option.map_eq_some_iff]at h
    obtain⟨x,h1,ys,h2,rfl⟩:=h
    exact⟨hT.dn _ _ _ _ H h1 hr.1,ih hr.2 h2⟩
theorem GA{den:Nat→Type}{v:TV den}{t:VT}{x:t.den den}(h:v.as t=some x):v=⟨t,x⟩:=by
 obtain⟨t',y⟩:=v
 unfold TV.as at h
 split at h
 ·grind
 ·simp at h
theorem oe[ab]{den:Nat→Type}:∀ (ts:List VT) (l:List (TV den)) (x:HL den ts),uA ts l=some x→fQ ts x=l
 |[],l,x,h=>by
  cases l with
  |nil=>rfl
  |cons=>cases h
 |[t],l,x,h=>by
  match l,h with
  |[v],h=>
   have h':v.as t=some x:=h
   rw[GA h']; rfl
  |[],h=>cases h
  |_::_::_,h=>cases h
 |t::u::us,l,x,h=>by
  match l,h with
  |[],h=>cases h
  |v::l',h=>
   change VT.den den t×HL den (u::us) at x
   have h':((v.as t).bind fun x=>(uA (u::us) l').map fun y=>(x,y))=some x:=h
   obtain⟨a,h1,h2⟩:=Option.bind_eq_some_iff.1 h'
   obtain⟨b,h3,h4⟩:=Option.map_eq_some_iff.1 h2
   subst h4
   have:=oe _ _ _ h3
   rw[GA h1,←this]
   rfl
noncomputable def KN[ab](C:Ctx)(g:FuncId)(as:List AV):Option (AV×af):=
 match C.kl g with
 |some h=>(h as).map fun r=>(r,[])
 |none=>match kn C g as [] with
  |some (.val v,gX)=>some (v,gX)
  |_=>none
noncomputable def Sl[ab](C:Ctx)(g:FuncId)(as:List AV):Option (AV×af):=
 match C.iM g with
 |some h=>h as
 |none=>match kn C g as [] with
  |some (.val v,gX)=>some (v,gX)
  |_=>none
structure GB[ab](C:Ctx)(T:dm)(g:FuncId)(σ:vI T):Prop where
 QJ:∀ (x:HL T.den (σ.args.map .v)) (as:List AV) (l:List (T.den σ.el)),aw (Ox T) (fQ _ x) as→σ.fn x=some l →
  ∃ n cl es gX,Sl C g as=some (.bp σ.esz n es.length 0 es.length none,gX)∧gX[n]?=some (some (.arr true cl false es))∧es.all flat=true∧aw (T.rp σ.el) l es
structure pV[ab](C:Ctx)(T:dm)(g:FuncId)(σ:uB T):Prop where
 kind:C.kind g=.pure
 QJ:∀ (x:HL T.den (σ.args.map .v)) (as:List AV) (y:HL T.den (σ.res.map .v)),aw (Ox T) (fQ _ x) as→σ.fn x=some y →
  ∃ v gX l,KN C g as=some (v,gX)∧(aW 1000 v).run gX=some (cB l)∧kf (cB l)=true∧aw (Ox T) (fQ _ y) l
section
variable {H:ah T.den}{hp:af}{r:ρ}
theorem GC[ab](hT:T.Ok){C:Ctx}{g:FuncId}{σ:vI T}(hσ:GB C T g σ)(hh:RH T H hp){nm:Nat}(hn:nm=H.length∨H[nm]?=some none){args:List (SV T.den)}{as:List AV}(ha:RL T H args as){K:EK T ρ}
  (h:(Ng T σ nm H args K).run=some r) :
  ∃ v wr rd e lg,Ef C nm g as hp=some (e,lg)∧(∀ n,n∈lg→n∈rd)∧RE T H hp v wr e∧(K v wr rd).run=some r:=by
 unfold Ng at h
 obtain⟨nM,rd,TA,h1,h2,_,_,h⟩:=uU hh ha h
 split at h
 case h_2=>simp[Tr.run]at h
 rename_i x hx
 rw[Option.bind_eq_some_iff]at hx
 obtain⟨l,hl,hx⟩:=hx
 obtain⟨y,hy,h⟩:=bind_some h
 have DX:=Fh hT h2 hl
 rw[←oe _ _ _ hx]at DX
 obtain⟨n,cl,es,gX,oO,yD,Ht,cy⟩:=hσ.QJ x TA y DX hy
 have hlen:y.length=es.length:=aw.length cy
 have Jc:(fK nm (.bp σ.esz n es.length 0 es.length none) gX).run hp=some ⟨.bp σ.esz nm es.length 0 es.length none,[(nm,.arr true true false es)]⟩:=by
  simp only[fK,yD,Ht,decide_true,Bool.and_self]
  rfl
 have hA:Ef C nm g as hp=some (⟨.bp σ.esz nm es.length 0 es.length none,[(nm,.arr true true false es)]⟩,(aM 1000 as).log hp):=by
  unfold Ef
  rw[h1.1]
  simp only[Option.bind_some]
  unfold Sl at oO
  cases hi:C.iM g with
  |some f=>
   simp_all
  |none=>
   rw[hi]at oO
   simp only at oO
   split at oO
   case h_2=>simp at oO
   rename_i v0 Sm aU
   simp only[Option.some.injEq,Prod.mk.injEq]at oO
   obtain⟨rfl,rfl⟩:=oO
   simp only[aU,Option.bind_some,pb,Jc,Option.map_some]
 have hg:je T H hp (RM.ret (⟨.bp σ.esz nm es.length 0 es.length none,[(nm,.arr true true false es)]⟩:di)) (fun v wr _=>K v wr rd) r:=by
  have hv:=eC hh hn (o:=.bU true false 0 σ.el y)
  simp only[aC.cur,aC.len,hlen]at hv
  refine eA hh hn (o:=.bU true false 0 σ.el y) ⟨es,rfl,cy⟩ ?_ (aF.ret _) h
  right
  simp only[R]
  exact⟨es.length,hv,rfl⟩
 obtain⟨v,wr,rd',e,g1,g2,g3⟩:=hg
 have he:e=⟨.bp σ.esz nm es.length 0 es.length none,[(nm,.arr true true false es)]⟩:=by
  have:=g1.1
  simp only[RM.run,Option.some.injEq]at this
  exact this.symm
 subst he
 exact⟨v,wr,rd,_,_,hA,h1.2,g2,g3⟩
theorem wH[ab](hT:T.Ok){C:Ctx}{g:FuncId}{σ:uB T}(hσ:pV C T g σ)(hh:RH T H hp){args:List (SV T.den)}{as:List AV}(ha:RL T H args as){K:EK T ρ}(h:(Hz T σ H args K).run=some r):
  ∃ v wr rd a w lg,IZ C g as hp=some (.val a,w)∧(∀ nm,pe C nm false hp (g,as)=some (⟨a,w⟩,lg))∧(∀ n,n∈lg→n∈rd)∧RE T H hp v wr ⟨a,w⟩∧(K v wr rd).run=some r:=by
 unfold Hz at h
 obtain⟨nM,rd,TA,h1,h2,_,_,h⟩:=uU hh ha h
 split at h
 case h_2=>simp[Tr.run]at h
 rename_i x hx
 rw[Option.bind_eq_some_iff]at hx
 obtain⟨l,hl,hx⟩:=hx
 obtain⟨y,hy,h⟩:=bind_some h
 have DX:=Fh hT h2 hl
 rw[←oe _ _ _ hx]at DX
 obtain⟨v,gX,m,oO,ng,Ps,cy⟩:=hσ.QJ x TA y DX hy
 have hR:∀ H,R T H (qN (Px T (fQ _ y))) (cB m):=fun H=>Gz (KM hT H cy)
 have Ht:vH (qN (Px T (fQ _ y)))=flat (cB m):=R.flat (hR H) Ps
 have Oy:∀ w,m6 hp as (.val v,gX)=some (.val (cB m),w)→IZ C g as hp=some (.val (cB m),w)∧(∀ nm,pe C nm false hp (g,as)=some (⟨cB m,w⟩,I8 hp as (.val v,gX))):=by
  intro w hw
  unfold KN at oO
  cases hi:C.kl g with
  |some f=>
   rw[hi]at oO
   simp only[Option.map_eq_some_iff,Prod.mk.injEq]at oO
   obtain⟨r0,DN,rfl,rfl⟩:=oO
   constructor
   ·rw[GX g hi,h1.1]
    simp only[Option.bind_some,DN,hw]
   ·intro nm; simp only[pe,hσ.kind,hi,h1.1,Option.bind_some,DN,m9,hw]
  |none=>
   rw[hi]at oO
   simp only at oO
   split at oO
   case h_2=>simp at oO
   rename_i v0 Sm aU
   simp only[Option.some.injEq,Prod.mk.injEq]at oO
   obtain⟨rfl,rfl⟩:=oO
   constructor
   ·rw[Mr g hi,h1.1]
    simp only[Option.bind_some,aU,hw]
   ·intro nm; simp only[pe,hσ.kind,hi,h1.1,Option.bind_some,aU,m9,hw]
 simp only at h
 split at h
 ·rename_i hf
  rw[Ht]at hf
  have wa:m6 hp as (.val v,gX)=some (.val (cB m),[]):=by
   rw[zr,ng]
   simp only[Option.bind_some,MB,hf,cond_true]
  obtain⟨q1,q2⟩:=Oy _ wa
  refine⟨_,[],_,_,_,_,q1,q2,fun n hn=>?_,⟨.inr (hR _),hh,dh.refl _,fun q hq=>by simp at hq,fun _ _ _=>rfl,Nat.le_refl _,fun _ _ h=>by simp at h⟩,h⟩
  simp only[I8,List.mem_append,gd,ng,hf,if_true]at hn
  rcases hn with hn|hn
  ·exact h1.2 n hn
  ·simp[Pure.pure,RM.log]at hn
 ·rename_i hf
  rw[Ht]at hf
  obtain⟨wr,rd2,w,f1,f2,h⟩:=od hh h
  rw[RL.names ha]at f1
  have wa:m6 hp as (.val v,gX)=some (.val (cB m),w):=by
   rw[zr,ng]
   simp only[Option.bind_some,MB,hf,cond_false,f1.1,Option.map_some]
  obtain⟨q1,q2⟩:=Oy _ wa
  refine⟨_,_,_,_,_,_,q1,q2,fun n hn=>?_,FW.re hh f2 hR,h⟩
  simp only[I8,List.mem_append,gd,ng,hf,Bool.false_eq_true,if_false]at hn
  simp only[List.mem_append]
  rcases hn with hn|hn
  ·exact .inl (h1.2 n hn)
  ·rw[RM.ej,f1.1]at hn
   simp only[List.mem_append]at hn
   rcases hn with hn|hn
   ·exact .inr (f1.2 n hn)
   ·simp[Pure.pure,RM.log]at hn
end
end Go.PI
end
section
/- PS, part L: states, regions. -/
namespace Go.PI
variable {T:dm}{ρ:Type}
theorem Da{v:Value}{K:Value→Tr ρ}:xO v K=K v:=by
 unfold xO
 split<;>rfl
mutual
theorem kY:∀ {v:SV T.den} {K:SV T.den→Tr ρ},dr v K=K v
 |.lit v,K=>by simp only[dr]; exact Da
 |.agg l,K=>by simp only[dr]; exact iG
 |.jj l,K=>by simp only[dr]; exact iG
 |.sl l,K=>by simp only[dr]; exact iG
 |.bc e j,K=>by simp only[dr]; exact kY
 |.iK fn f c,K=>by simp only[dr]; rw[iG,iG]
 |.fZ t v,K=>by simp only[dr]; exact kY
 |.dead,K=>by simp only[dr]
 |.hole,K=>by simp only[dr]
 |.ji t l,K=>by simp only[dr]
 |.ref n c i j,K=>by simp only[dr]
 |.iI n c i j ln cp,K=>by simp only[dr]
 |.bp esz n c rg cap,K=>by simp only[dr]
 |.mp y n,K=>by simp only[dr]
 |.wC t l c b,K=>by simp only[dr]
 |.nz,K=>by simp only[dr]
 |.sy v s l i,K=>by simp only[dr]; exact kY
theorem iG:∀ {l:List (SV T.den)} {K:List (SV T.den)→Tr ρ},lF l K=K l
 |[],K=>by simp only[lF]
 |x::xs,K=>by simp only[lF]; rw[kY,iG]
end
theorem HK[ab]{o:aC T.den}{K:aC T.den→Tr ρ}:Kq o K=K o:=by
 cases o with
 |arr g cl f c es=>exact iG
 |oJ fn ps as bd fr=>exact iG
 |_=>rfl
theorem jH[ab]:∀ {H:ah T.den} {K:ah T.den→Tr ρ},mH H K=K H
 |[],K=>rfl
 |none::r,K=>by simp only[mH]; exact jH
 |some o::r,K=>by simp only[mH]; rw[HK,jH]
theorem nA:∀ {l:List Nat} {K:List Nat→Tr ρ},rW l K=K l
 |[],K=>rfl
 |x::r,K=>by simp only[rW]; exact nA
theorem z4[ab]:∀ {l:sz T.den} {K:sz T.den→Tr ρ},A6 l K=K l
 |[],K=>rfl
 |(d,v)::r,K=>by simp only[A6]; rw[kY,z4]
theorem force_eq[ab]{s:bx T.den}{K:bx T.den→Tr ρ}:s.force K=K s:=by
 obtain⟨fn,n,fr,hp,wf,wh,js⟩:=s
 simp only[bx.force]
 rw[z4,jH,nA,nA]
theorem cD[ab]{s:bx T.den}{dst:Option Tmp}{v:SV T.den}{wr:List (Nat×aC T.den)}{K:bx T.den→Tr ρ}:s.fb dst v wr K=K (s.step dst v wr):=by
 obtain⟨fn,n,fr,hp,wf,wh,js⟩:=s
 have h1:∀ {K':ah T.den→List Nat→Tr ρ},E6 hp wh wr K'=K' (ba hp wr) (wr.map (·.1)++wh):=by
  intro K'
  cases wr with
  |nil=>rfl
  |cons w r=>simp only[E6]; rw[jH,nA]
 simp only[bx.fb,h1]
 cases dst with
 |none=>rfl
 |some d=>
  simp only
  split
  ·rename_i hd
   simp only[bx.step,Kk,tn,hd,Nf]
  ·rename_i hd
   rw[kY]
   simp only[bx.step,Kk,tn,hd,Nf]
theorem qE{ops:Array Oper}:∀ {l:List Oper} {K:List (G×Oper)→Tr ρ},nZ ops l K=K (l.map fun o=>(eM ops o,o))
 |[],K=>rfl
 |o::r,K=>by
  simp only[nZ,List.map_cons]
  split<;>rename_i h<;>rw[qE,h]
theorem z5:∀ {l:List (G×Item)} {K:List (G×Item)→Tr ρ},xQ l K=K l
 |[],K=>rfl
 |(g,⟨i,nm,o⟩)::r,K=>by simp only[xQ]; exact z5
theorem ri[ab]{ops:Array Oper}:∀ (l:List Oper) (m i n:Nat),lH (bD i n (l.take m)) (l.map fun o=>(eM ops o,o))=(bD i n (l.take m)).map fun x=>(eM ops x.o,x)
 |[],m,i,n=>by simp[bD,lH]
 |o::r,0,i,n=>by simp[bD,lH]
 |o::r,m+1,i,n=>by
  simp only[List.take_succ_cons,bD,List.map_cons,lH]
  rw[ri]
def kz{den:Nat→Type}(js:List (Nat×kS))(H:ah den)(hp:af):Prop:=∀ n st,cm js n=some st→recAt H n=true∧hG hp n=some st
theorem jg{den:Nat→Type}{H:ah den}{n:Nat}(h:recAt H n=true):n<H.length:=by
 grind[recAt]
theorem pW{den:Nat→Type}{H H':ah den}{n:Nat}(h:H'[n]?=H[n]?):recAt H' n=recAt H n:=by unfold recAt; rw[h]
theorem nB{hp cq:af}{n:Nat}(h:cq[n]?=hp[n]?):hG cq n=hG hp n:=by unfold hG; rw[h]
theorem kz.Bc{den:Nat→Type}{js:List (Nat×kS)}{H H':ah den}{hp cq:af}(h:kz js H hp)(hk:∀ n,recAt H n=true→H'[n]?=H[n]?∧cq[n]?=hp[n]?):kz js H' cq:=by
 intro n st hn
 obtain⟨h1,h2⟩:=h n st hn
 obtain⟨h3,h4⟩:=hk n h1
 exact⟨by rw[pW h3]; exact h1,by rw[nB h4]; exact h2⟩
theorem tD{n:Nat}:∀ {wr:List (Nat×aL)} {hp:af},n<hp.length→n∉wr.map (·.1)→(ak hp wr)[n]?=hp[n]?
 |[],hp,_,_=>rfl
 |(m,o)::wr,hp,hn,hm=>by
  simp only[List.map_cons,List.mem_cons,not_or]at hm
  simp only[ak]
  have:n<(setObj hp m o).length∧(setObj hp m o)[n]?=hp[n]?:=by
   grind[setObj]
  rw[tD this.1 hm.2,this.2]
theorem kz.re[ab]{js:List (Nat×kS)}{H:ah T.den}{hp:af}(h:kz js H hp)(hh:RH T H hp){v:SV T.den}{wr:List (Nat×aC T.den)}{e:di}(he:RE T H hp v wr e):kz js (ba H wr) (ak hp e.wr):=by
 refine h.Bc fun n hn=>⟨he.Bc n (he.KB n hn) (jg hn),tD (by rw[←hh.length]; exact jg hn) fun hc=>?_⟩
 obtain⟨q,hq,rfl⟩:=List.mem_map.1 hc
 exact he.KB _ hn (he.names q hq)
structure RS(T:dm)(s:bx T.den)(st:St):Prop where
 fn:s.fn=st.fn
 n:st.fr.length=s.n
 fr:∀ t,RV T s.hp (cH s.fr t) (st.fr.getD t .undef)
 hp:RH T s.hp st.hp
 js:kz s.js s.hp st.hp
structure bh(s s':bx T.den):Prop where
 fn:s'.fn=s.fn
 n:s'.n=s.n
 fr:∀ t,t∉s'.wf→cH s'.fr t=cH s.fr t
 wf:∀ t,t∈s.wf→t∈s'.wf
 hp:∀ n:Nat,n<s.hp.length→n∉s'.wh→s'.hp[n]?=s.hp[n]?
 wh:∀ n,n∈s.wh→n∈s'.wh
 len:s.hp.length≤s'.hp.length
 grow:dh s.hp s'.hp
theorem bh.refl[ab](s:bx T.den):bh s s:=⟨rfl,rfl,fun _ _=>rfl,fun _ h=>h,fun _ _ _=>rfl,fun _ h=>h,Nat.le_refl _,dh.refl _⟩
theorem bh.trans[ab]{s s' tL:bx T.den}(h:bh s s')(h':bh s' tL):bh s tL where
 fn:=h'.fn.trans h.fn
 n:=h'.n.trans h.n
 fr:=fun t ht=>by rw[h'.fr t ht,h.fr t (fun hc=>ht (h'.wf t hc))]
 wf:=fun t ht=>h'.wf t (h.wf t ht)
 hp:=fun n hn ht=>by rw[h'.hp n (Nat.lt_of_lt_of_le hn h.len) ht,h.hp n hn (fun hc=>ht (h'.wh n hc))]
 wh:=fun t ht=>h'.wh t (h.wh t ht)
 len:=Nat.le_trans h.len h'.len
 grow:=h.grow.trans h'.grow
theorem kg{n d t:Nat}{fr:sz T.den}{v:SV T.den}:cH (tn n fr d v) t=if t=d∧d<n then v else cH fr t:=by
 unfold tn
 split
 ·rename_i h
  have:=Nat.le_of_ble_eq_true h
  rw[if_neg (by omega)]
 ·rename_i h
  have:¬n≤d:=fun hc=>by rw[Nat.ble_eq_true_of_le hc]at h; simp at h
  simp only[cH]
  split
  ·rename_i he
   have:=Nat.eq_of_beq_eq_true he
   rw[if_pos (by omega)]
  ·rename_i he
   have:¬d=t:=fun hc=>by subst hc; simp at he
   rw[if_neg (by omega)]
theorem Db{l:List AV}{d t:Nat}{a u:AV}:(l.set d a).getD t u=if t=d∧d<l.length then a else l.getD t u:=by
 grind
theorem RS.step[ab]{s:bx T.den}{st:St}(h:RS T s st){v:SV T.den}{wr:List (Nat×aC T.den)}{e:di}(he:RE T s.hp st.hp v wr e)(dst:Option Tmp):
  RS T (s.step dst v wr) { st with fr:=bC st.fr dst e.val,hp:=ak st.hp e.wr }∧bh s (s.step dst v wr):=by
 refine⟨⟨h.fn,?_,fun t=>?_,he.hp,h.js.re h.hp he⟩,⟨rfl,rfl,fun t ht=>?_,fun t ht=>?_,fun n hn ht=>?_,fun n hn=>?_,he.len,he.grow⟩⟩
 ·simp only[bx.step,bC]; cases dst<;>simp[h.n]
 ·simp only[bx.step]
  cases dst with
  |none=>exact(h.fr t).mono he.grow
  |some d=>
   simp only[Kk,bC]
   rw[kg,Db,h.n]
   split
   ·exact he.val
   ·exact(h.fr t).mono he.grow
 ·simp only[bx.step]at ht ⊢
  cases dst with
  |none=>rfl
  |some d=>
   simp only[Nf,List.mem_cons,not_or]at ht
   simp only[Kk,kg]
   rw[if_neg (by omega)]
 ·simp only[bx.step]
  cases dst with
  |none=>exact ht
  |some d=>exact List.mem_cons_of_mem _ ht
 ·simp only[bx.step,List.mem_append,not_or]at ht ⊢
  exact he.Bc n ht.1 hn
 ·simp only[bx.step,List.mem_append]
  exact .inr hn
theorem Dc[ab]{H:ah T.den}{hp:af}(hh:RH T H hp):RE T H hp (.lit undef) [] ⟨.undef,[]⟩:=
 ⟨bk undef,hh,dh.refl _,fun q h=>by simp at h,fun _ _ _=>rfl,Nat.le_refl _,fun _ _ h=>by simp at h⟩
theorem rj:∀ (c:List Value),av (den:=T.den) (c.map .lit)=true
 |[]=>by simp[av]
 |x::r=>by simp only[List.map_cons,av,aE,rj r,Bool.and_self]
theorem RS.ev[ab]{s:bx T.den}{st:St}(h:RS T s st)(o:Operand):RV T s.hp (cU s.fr o) (ay st.fr o):=by
 cases o with
 |tmp t=>exact h.fr t
 |const v=>
  simp only[cU,ay,Kj,nF]
  cases v with
  |agg c=>
   simp only
   by_cases hc:c.toList.all (fun v=>a9 (.lit v))=true
   ·rw[if_pos hc,if_pos hc]
    right
    simp only[R]
    exact⟨_,rfl,RL.lits _⟩
   ·rw[if_neg hc]
    exact .inl rfl
  |tuple c=>
   right
   simp only[gK,R]
   exact⟨_,rfl,RL.lits _⟩
  |_=>exact bk _
 |global g=>
  simp only[cU,ay,Bz]
  cases ab.g g with
  |none=>exact bk _
  |some c=>
   right
   simp only[R]
   exact⟨_,rfl,⟨_,rfl,RL.lits _⟩,by simp only[aE]; exact rj _⟩
 |func f=>exact bk _
theorem yd[ab]{g:G}{s:bx T.den}{st:St}(h:RS T s st){K:bx T.den→Bool→Tr ρ}{r:ρ}(hk:(wE g s K).run=some r):
  ∃ s' b,RS T s' st∧bh s s'∧sJ st.fr g=some b∧s'.hp=s.hp∧(K s' b).run=some r:=by
 unfold wE at hk
 split at hk
 ·exact⟨s,true,h,bh.refl _,rfl,rfl,hk⟩
 ·exact⟨s,false,h,bh.refl _,rfl,rfl,hk⟩
 ·rename_i d want
  split at hk
  ·rename_i b hb
   have ha:=(h.fr d).lit hb
   have key:∀ b',b=b'→RS T (s.step (some d) (.lit (.bool b')) []) st∧bh s (s.step (some d) (.lit (.bool b')) []):=by
    rintro b' rfl
    have h1:=h.step (v:=.lit (.bool b)) (wr:=[]) (e:=⟨.lit (.bool b),[]⟩) ⟨bk _,h.hp,dh.refl _,fun q hq=>by simp at hq,fun _ _ _=>rfl,Nat.le_refl _,fun _ _ h=>by simp at h⟩ (some d)
    refine⟨?_,h1.2⟩
    have e:({ st with fr:=bC st.fr (some d) (AV.lit (.bool b)),hp:=ak st.hp [] }:St)=st:=by
     have:st.fr.set d (.lit (.bool b))=st.fr:=by
      by_cases hd:d<st.fr.length
      ·refine gQ ?_
       rw[List.getD_eq_getElem?_getD]at ha
       rw[List.getElem?_eq_getElem hd]at ha ⊢
       exact congrArg some ha
      ·exact List.set_eq_of_length_le (Nat.le_of_not_lt hd)
     simp only[bC,ak,this]
    rw[e]at h1
    exact h1.1
   have hw:sJ st.fr (.on d want)=some (b==want):=by simp only[sJ]; rw[ha]; rfl
   rcases ff hk with ⟨OP,Ee⟩|⟨OP,Ee⟩
   ·subst OP
    rw[cD]at Ee
    obtain⟨k1,k2⟩:=key true rfl
    exact⟨_,_,k1,k2,hw,rfl,Ee⟩
   ·subst OP
    rw[cD]at Ee
    obtain⟨k1,k2⟩:=key false rfl
    exact⟨_,_,k1,k2,hw,rfl,Ee⟩
  ·rename_i x hx
   have ha:=(h.fr d).lit hx
   refine⟨s,false,h,bh.refl _,?_,rfl,hk⟩
   simp only[sJ]; rw[ha]; rfl
  ·simp[Tr.run]at hk
theorem pX[ab]{C:Ctx}{step:Oper→bx T.den→(bx T.den→Tr ρ)→Tr ρ}{r:ρ}
  (dF:∀ o s st K,RS T s st→(step o s K).run=some r→∃ s' st',hX C o st=some (.norm st')∧RS T s' st'∧bh s s'∧(K s').run=some r) :
  ∀ (l:List (G×Oper)) (s:bx T.den) (st:St) (K:bx T.den→Tr ρ),RS T s st→(vJ step l s K).run=some r→∃ s' st',sU C l st=some (.norm st')∧RS T s' st'∧bh s s'∧(K s').run=some r
 |[],s,st,K,h,hk=>⟨s,st,rfl,h,bh.refl _,hk⟩
 |(g,o)::l,s,st,K,h,hk=>by
  simp only[vJ]at hk
  obtain⟨s1,b,h1,h2,h3,_,hk⟩:=yd h hk
  cases b with
  |false=>
   simp only at hk
   rw[cD]at hk
   obtain⟨g1,g2⟩:=h1.step (Dc h1.hp) o.dst
   obtain⟨s',st',i1,i2,i3,hk⟩:=pX dF l _ _ K g1 hk
   refine⟨s',st',?_,i2,(h2.trans g2).trans i3,hk⟩
   simp only[sU,h3]
   exact i1
  |true=>
   simp only at hk
   obtain⟨s2,Nv,g1,g2,g3,hk⟩:=dF o s1 st _ h1 hk
   obtain⟨s',st',i1,i2,i3,hk⟩:=pX dF l _ _ K g2 hk
   refine⟨s',st',?_,i2,(h2.trans g3).trans i3,hk⟩
   simp only[sU,h3,g1,Option.bind_some]
   exact i1
def Bg(a b:fi):Prop:=a.idx=b.idx∧(∀ n,n∈a.rd→n∈b.rd)∧∀ n,n∈a.wr→n∈b.wr
theorem GD{a a' b b':List Nat}(ha:∀ n,n∈a→n∈a')(hb:∀ n,n∈b→n∈b')(h:DZ a' b'=true):DZ a b=true:=by
 grind[decide_eq_false_iff_not,DZ]
theorem HM[ab]{pr:List Nat}{x x' y y':fi}(hx:Bg x x')(hy:Bg y y')(h:rn pr x' y'=true):rn pr x y=true:=by
 unfold rn at h ⊢
 rw[hx.1,hy.1]
 simp only[Bool.or_eq_true,Bool.and_eq_true]at h ⊢
 refine h.imp id fun h=>⟨GD hx.2.2 (fun n hn=>?_) h.1,GD hy.2.2 hx.2.1 h.2⟩
 simp only[List.mem_append]at hn ⊢
 exact hn.imp (hy.2.1 n) (hy.2.2 n)
theorem ye[ab]{pr:List Nat}:∀ {l l':List fi},aw Bg l l'→eL pr l'=true→eL pr l=true
 |[],[],_,_=>rfl
 |x::xs,y::ys,h,hk=>by
  simp only[eL,Bool.and_eq_true]at hk ⊢
  refine⟨?_,ye h.2 hk.2⟩
  rw[List.all_eq_true]at hk ⊢
  intro z hz
  obtain⟨i,hi⟩:=List.getElem?_of_mem hz
  obtain⟨z',Q5,hle⟩:=aw.get h.2 hi
  exact HM h.1 hle (hk.1 z' (List.mem_of_getElem? Q5))
theorem Bh{pr:List Nat}{fs:List fi}(h:qy pr fs=true):eL pr fs=true:=by
 unfold qy at h
 split at h
 ·rename_i hw
  clear h
  induction fs with
  |nil=>rfl
  |cons x xs ih=>
   simp only[List.all_cons,Bool.and_eq_true]at hw
   simp only[eL,Bool.and_eq_true]
   refine⟨?_,ih hw.2⟩
   rw[List.all_eq_true]
   intro y hy
   have h2:=List.all_eq_true.1 hw.2 y hy
   have e1:x.wr=[]:=by simpa using hw.1
   have e2:y.wr=[]:=by simpa using h2
   simp[rn,e1,e2,DZ]
 ·exact h
def KO[ab]:Nat→List Item→Prop
 |_,[]=>True
 |n,x::r=>x.nm=n∧KO (if au x.o.op then n+1 else n) r
def sk[ab](l:List Item):Nat:=(l.filter fun x=>au x.o.op).length
theorem pY[ab](x:Item)(l:List Item):sk (x::l)=(if au x.o.op then 1 else 0)+sk l:=by
 grind[sk]
theorem yf[ab]:∀ (l:List Oper) (i n:Nat),sk (bD i n l)=(l.filter fun o=>au o.op).length
 |[],_,_=>rfl
 |o::r,i,n=>by
  rw[bD,pY,yf r,List.filter_cons]
  split<;>simp[*]<;>omega
theorem z6[ab]:∀ (l:List Oper) (i n:Nat),KO n (bD i n l)
 |[],_,_=>trivial
 |_::r,i,n=>⟨rfl,z6 r (i+1) _⟩
theorem tE:∀ {wr:List (Nat×aC T.den)} {H:ah T.den},(∀ q,q∈wr→q.1<H.length)→(ba H wr).length=H.length
 |[],H,_=>rfl
 |(n,o)::wr,H,h=>by
  have h0:=h (n,o) (by simp)
  have e:(bJ H n o).length=H.length:=by
   grind[bJ]
  simp only[ba]
  rw[tE (fun q hq=>by rw[e]; exact h q (List.mem_cons_of_mem _ hq)),e]
theorem uV[ab]{C:Ctx}{ops:Array Oper}{step:Nat→Oper→bx T.den→EK T ρ→Tr ρ}{r:ρ}
  (dF:∀ nm o s st K,RS T s st→(nm=s.hp.length∨s.hp[nm]?=some none)→(au o.op=false→nm=s.hp.length)→(step nm o s K).run=some r →
    ∃ v wr rd e lg,BU C nm o st.fr st.hp=some (e,lg)∧(∀ n,n∈lg→n∈rd)∧RE T s.hp st.hp v wr e∧(K v wr rd).run=some r) :
  ∀ (l:List Item) (n:Nat) (s:bx T.den) (st:St) (fs:List fi) (K:bx T.den→List fi→Tr ρ),KO n l→n+sk l=s.hp.length→(∀ m:Nat,n≤m→m<s.hp.length→s.hp[m]?=some none)→RS T s st →
    (r9 step (l.map fun x=>(eM ops x.o,x)) s fs K).run=some r →
    ∃ s' st' PT MH,sP C ops l st=some (st',MH)∧aw Bg MH PT∧RS T s' st'∧bh s s'∧(K s' (fs++PT)).run=some r
 |[],n,s,st,fs,K,_,_,_,h,hk=>⟨s,st,[],[],rfl,trivial,h,bh.refl _,by simpa[r9] using hk⟩
 |x::l,n,s,st,fs,K,hn,hle,o9,h,hk=>by
  obtain⟨TH,LS⟩:=hn
  simp only[List.map_cons,r9]at hk
  obtain⟨s1,b,h1,h2,h3,h4,hk⟩:=yd h hk
  have hw:cF ops st.fr x.o=some b:=by rw[BC]; exact h3
  cases b with
  |false=>
   simp only at hk
   rw[cD]at hk
   obtain⟨g1,g2⟩:=h1.step (Dc h1.hp) x.o.dst
   have ehp:(s1.step x.o.dst (.lit undef) []).hp=s.hp:=by simp only[bx.step,ba]; exact h4
   have hinv:∀ m:Nat,(if au x.o.op then n+1 else n)≤m→m<(s1.step x.o.dst (.lit undef) []).hp.length→(s1.step x.o.dst (.lit undef) []).hp[m]?=some none:=by
    grind
   have hb:(if au x.o.op then n+1 else n)+sk l=s.hp.length:=by
    rw[pY]at hle; split<;>simp_all<;>omega
   ·obtain⟨s',st',PT,MH,i1,i2,i3,i4,hk⟩:=uV dF l _ _ _ _ K LS (by rw[ehp]; exact hb) hinv g1 hk
    refine⟨s',st',⟨x.idx,[],[]⟩::PT,⟨x.idx,[],[]⟩::MH,?_,⟨⟨rfl,fun _ h=>h,fun _ h=>h⟩,i2⟩,i3,(h2.trans g2).trans i4,by simpa using hk⟩
    simp only[sP,BV,hw,Option.bind_some]
    have VJ:sP C ops l { st with fr:=bC st.fr x.o.dst .undef }=some (st',MH):=i1
    rw[VJ]; rfl
  |true=>
   simp only at hk
   have nJ:x.at s1.hp.length=s1.hp.length∨s1.hp[x.at s1.hp.length]?=some none:=by
    grind[Item.at]
   obtain⟨v,wr,rd,e,lg,e1,e2,e3,hk⟩:=dF (x.at s1.hp.length) x.o s1 st _ h1 nJ (fun h=>by simp only[Item.at,h]) hk
   rw[show s1.hp.length=st.hp.length from h1.hp.length]at e1
   split at hk
   case h_2=>simp[Tr.run]at hk
   rename_i Hg
   rw[List.all_eq_true]at Hg
   rw[cD]at hk
   obtain⟨g1,g2⟩:=h1.step e3 x.o.dst
   have bf:∀ q,q∈wr→q.1<s1.hp.length∧((au x.o.op=true∧q.1=x.nm)∨∃ o,s1.hp[q.1]?=some (some o)):=by
    grind
   have Sn:(s1.step x.o.dst v wr).hp.length=s.hp.length:=by
    simp only[bx.step]
    rw[tE (fun q hq=>(bf q hq).1),h4]
   have hinv:∀ m:Nat,(if au x.o.op then n+1 else n)≤m→m<(s1.step x.o.dst v wr).hp.length→(s1.step x.o.dst v wr).hp[m]?=some none:=by
    intro m hm Ie
    rw[Sn]at Ie
    have hold:s1.hp[m]?=some none:=by rw[h4]; exact o9 m (by split at hm<;>omega) Ie
    simp only[bx.step]
    rw[e3.Bc m ?_ (by rw[h4]; exact Ie)]
    ·exact hold
    ·grind
   have hb:(if au x.o.op then n+1 else n)+sk l=s.hp.length:=by
    rw[pY]at hle; split<;>simp_all<;>omega
   ·obtain⟨s',st',PT,MH,i1,i2,i3,i4,hk⟩:=uV dF l _ _ _ _ K LS (by rw[Sn]; exact hb) hinv g1 hk
    refine⟨s',st',⟨x.idx,rd,wr.map (·.1)⟩::PT,⟨x.idx,lg,e.wr.map (·.1)⟩::MH,?_,⟨⟨rfl,e2,fun n hn=>?_⟩,i2⟩,i3,(h2.trans g2).trans i4,by simpa using hk⟩
    ·simp only[sP,BV,hw,e1,Option.bind_some,OX]
     rw[if_pos ?_]
     ·simp_all
     ·rw[List.all_eq_true]
      intro q hq
      obtain⟨q',hq',eq'⟩:=List.mem_map.1 (e3.names q hq)
      obtain⟨c1,c2⟩:=bf q' hq'
      rw[eq']at c1 c2
      simp only[Bool.and_eq_true,decide_eq_true_eq,Bool.or_eq_true]
      refine⟨by rw[←h1.hp.length]; exact c1,c2.imp id fun⟨o,ho⟩=>?_⟩
      obtain⟨a,ha,_⟩:=h1.hp.obj ho
      rw[ha]
    ·obtain⟨q,hq,rfl⟩:=List.mem_map.1 hn
     exact e3.names q hq
end Go.PI
end
section
/- PS, part M: what is dropped; results; calls of what is looked into. -/
namespace Go.PI
variable {T:dm}{ρ:Type}
section
variable {den:Nat→Type}{n:Nat}
mutual
theorem kR:∀ {v:SV den},aE v=true→bt n v=true
 |.dead,h=>by simp[aE]at h
 |.hole,h=>by simp[aE]at h
 |.lit v,h=>rfl
 |.agg l,h=>by simp only[aE]at h; simp only[bt]; exact ed h
 |.jj l,h=>by simp only[aE]at h; simp only[bt]; exact ed h
 |.sl l,h=>rfl
 |.ji t l,h=>rfl
 |.wC t l c b,h=>rfl
 |.nz,h=>rfl
 |.bc e j,h=>rfl
 |.ref ..,h=>by simp[aE]at h
 |.iI ..,h=>by simp[aE]at h
 |.bp ..,h=>by simp[aE]at h
 |.iK fn f c,h=>by
  simp only[aE,Bool.and_eq_true]at h
  simp only[bt,Bool.and_eq_true]
  exact⟨ed h.1,ed h.2⟩
 |.fZ t v,h=>by simp only[aE]at h; simp only[bt]; exact kR h
 |.sy v s l i,h=>by simp only[aE]at h; simp only[bt]; exact kR h
 |.mp ..,h=>by simp[aE]at h
theorem ed:∀ {l:List (SV den)},av l=true→gp n l=true
 |[],_=>rfl
 |x::xs,h=>by
  simp only[av,Bool.and_eq_true]at h
  simp only[gp,Bool.and_eq_true]
  exact⟨kR h.1,ed h.2⟩
end
end
section
variable {H:ah T.den}{hp:af}{n:Nat}
theorem fH.take{den:Nat→Type}{H:ah den}{m c aq:Nat}(h:fH H m c aq)(hm:m<n):fH (H.take n) m c aq:=by
 obtain⟨o,h1,h2,h3⟩:=h
 exact⟨o,by rw[List.getElem?_take_of_lt hm]; exact h1,h2,h3⟩
mutual
theorem R.take:∀ {v:SV T.den} {a:AV},R T H v a→bt n v=true→R T (H.take n) v a
 |.dead,_,h,_=>by simp[R]at h
 |.hole,_,h,_=>by simpa[R] using h
 |.lit v,a,h,_=>by simpa[R] using h
 |.agg l,a,h,hb=>by
  simp only[R]at h ⊢
  simp only[bt]at hb
  obtain⟨l',h1,h2⟩:=h
  exact⟨l',h1,RL.take h2 hb⟩
 |.jj l,a,h,hb=>by
  simp only[R]at h ⊢
  simp only[bt]at hb
  obtain⟨l',h1,h2⟩:=h
  exact⟨l',h1,RL.take h2 hb⟩
 |.sl l,a,h,_=>by
  simp only[R]at h ⊢
  obtain⟨l',h1,h2,h3⟩:=h
  exact⟨l',h1,RL.take h2 (ed h3),h3⟩
 |.ji t l,a,h,_=>by simpa[R] using h
 |.wC t l c b,a,h,_=>by simp only[R]at h ⊢; exact h
 |.nz,a,h,_=>by simp only[R]at h ⊢; exact h
 |.bc e j,a,h,_=>by
  simp only[R]at h ⊢
  obtain⟨e',h1,h2,h3⟩:=h
  exact⟨e',h1,R.take h2 (kR h3),h3⟩
 |.ref m c i j,a,h,hb=>by
  simp only[R]at h ⊢
  simp only[bt,decide_eq_true_eq]at hb
  obtain⟨aq,h1,h2⟩:=h
  exact⟨aq,h1,h2.take hb⟩
 |.iI m c i j ln cp,a,h,hb=>by
  simp only[R]at h ⊢
  simp only[bt,decide_eq_true_eq]at hb
  obtain⟨aq,h1,h2⟩:=h
  exact⟨aq,h1,h2.take hb⟩
 |.bp esz m c rg cap,a,h,hb=>by
  simp only[R]at h ⊢
  simp only[bt,decide_eq_true_eq]at hb
  obtain⟨aq,h1,h2⟩:=h
  exact⟨aq,h1.take hb,h2⟩
 |.iK fn f c,a,h,hb=>by
  simp only[R]at h ⊢
  simp only[bt,Bool.and_eq_true]at hb
  obtain⟨f',c',h1,h2,h3⟩:=h
  exact⟨f',c',h1,RL.take h2 hb.1,RL.take h3 hb.2⟩
 |.fZ t v,a,h,hb=>by
  simp only[R]at h ⊢
  simp only[bt]at hb
  obtain⟨v',h1,h2⟩:=h
  exact⟨v',h1,R.take h2 hb⟩
 |.mp y m,a,h,hb=>by
  simp_all[R,bt]
 |.sy v s l i,a,h,hb=>by
  simp only[R]at h ⊢
  simp only[bt]at hb
  obtain⟨a0,h1,h2⟩:=h
  exact⟨a0,R.take h1 hb,h2⟩
theorem RL.take:∀ {l:List (SV T.den)} {m:List AV},RL T H l m→gp n l=true→RL T (H.take n) l m
 |[],[],_,_=>by simp[RL]
 |x::xs,y::ys,h,hb=>by
  simp only[RL]at h ⊢
  simp only[gp,Bool.and_eq_true]at hb
  exact⟨R.take h.1 hb.1,RL.take h.2 hb.2⟩
 |[],_::_,h,_=>by simp[RL]at h
 |_::_,[],h,_=>by simp[RL]at h
end
theorem fH.lt{den:Nat→Type}{H:ah den}{m c aq:Nat}(h:fH H m c aq):m<H.length:=by
 obtain⟨o,h1,_⟩:=h
 exact(List.getElem?_eq_some_iff.1 h1).1
mutual
theorem R.lt:∀ {v:SV T.den} {a:AV},R T H v a→bt H.length v=true
 |.dead,_,h=>by simp[R]at h
 |.hole,_,h=>rfl
 |.lit v,a,h=>rfl
 |.agg l,a,h=>by
  simp only[R]at h
  simp only[bt]
  obtain⟨l',h1,h2⟩:=h
  exact RL.lt h2
 |.jj l,a,h=>by
  simp only[R]at h
  simp only[bt]
  obtain⟨l',h1,h2⟩:=h
  exact RL.lt h2
 |.sl l,a,h=>rfl
 |.ji t l,a,h=>rfl
 |.wC t l c b,a,h=>rfl
 |.nz,a,h=>rfl
 |.bc e j,a,h=>rfl
 |.ref m c i j,a,h=>by
  simp only[R]at h
  simp only[bt,decide_eq_true_eq]
  obtain⟨aq,h1,h2⟩:=h
  exact h2.lt
 |.iI m c i j ln cp,a,h=>by
  simp only[R]at h
  simp only[bt,decide_eq_true_eq]
  obtain⟨aq,h1,h2⟩:=h
  exact h2.lt
 |.bp esz m c rg cap,a,h=>by
  simp only[R]at h
  simp only[bt,decide_eq_true_eq]
  obtain⟨aq,h1,h2⟩:=h
  exact h1.lt
 |.iK fn f c,a,h=>by
  simp only[R]at h
  simp only[bt,Bool.and_eq_true]
  obtain⟨f',c',h1,h2,h3⟩:=h
  exact⟨RL.lt h2,RL.lt h3⟩
 |.fZ t v,a,h=>by
  simp only[R]at h
  simp only[bt]
  obtain⟨v',h1,h2⟩:=h
  exact R.lt h2
 |.mp y m,a,h=>by
  grind[R,bt]
 |.sy v s l i,a,h=>by
  simp only[R]at h
  simp only[bt]
  obtain⟨a0,h1,h2⟩:=h
  exact R.lt h1
theorem RL.lt:∀ {l:List (SV T.den)} {m:List AV},RL T H l m→gp H.length l=true
 |[],[],_=>rfl
 |x::xs,y::ys,h=>by
  simp only[RL]at h
  simp only[gp,Bool.and_eq_true]
  exact⟨R.lt h.1,RL.lt h.2⟩
 |[],_::_,h=>by simp[RL]at h
 |_::_,[],h=>by simp[RL]at h
end
theorem yg{n:Nat}:∀ {l:List AV},cN n l=l.all (below n)
 |[]=>rfl
 |x::xs=>by simp only[cN,List.all_cons,yg]
theorem mK:∀ {a:AV},closed a=true→below n a=true
 |.lit _,_=>rfl
 |.agg l,h=>by simp only[Go.PI.closed]at h; simp only[Go.PI.below]; exact fW h
 |.jj l,h=>by simp only[Go.PI.closed]at h; simp only[Go.PI.below]; exact fW h
 |.sl _,_|.oT _ _,_|.bc _ _,_|.any,_|.nz,_=>rfl
 |.ref ..,h|.bp ..,h|.iI ..,h|.mp ..,h=>by simp[Go.PI.closed]at h
 |.iK fn f c,h=>by
  simp only[Go.PI.closed,Bool.and_eq_true]at h
  simp only[Go.PI.below,Bool.and_eq_true]
  exact⟨fW h.1,fW h.2⟩
 |.fZ t v,h=>by simp only[Go.PI.closed]at h; simp only[Go.PI.below]; exact mK h
where fW:∀ {l:List AV},aY l=true→cN n l=true
 |[],_=>rfl
 |x::xs,h=>by
  simp only[aY,Bool.and_eq_true]at h
  simp only[cN,Bool.and_eq_true]
  exact⟨mK h.1,fW h.2⟩
theorem yh(hT:T.Ok){t:Nat}:∀ {l:List (T.den t)} {m:List AV},aw (T.rp t) l m→cN n m=true
 |[],[],_=>rfl
 |_::_,_::_,h=>by
  simp only[cN,Bool.and_eq_true]
  exact⟨mK (hT.closed _ _ _ h.1),yh hT h.2⟩
theorem Dd:∀ {fr:List (SV T.den)} {vs:List AV},aw (RD T H) fr vs→(fr.all fun v=>bN v||bt n v)=cN n vs
 |[],[],_=>rfl
 |v::fr,a::vs,h=>by
  simp only[List.all_cons,cN]
  rw[Dd h.2]
  congr 1
  rcases h.1 with ⟨rfl,rfl⟩|h1
  ·rfl
  ·have:bN v=false:=by cases v<;>first|rfl|simp[R]at h1
   rw[this,R.below h1]; rfl
theorem z7[ab](hT:T.Ok){o:Option (aC T.den)}{a:Option aL}(h:Ba T H o a):jR n o=ki n a:=by
 cases o with
 |none=>cases a with
  |none=>rfl
  |some a=>exact h.elim
 |some o=>cases a with
  |none=>exact h.elim
  |some a=>
   cases o with
   |arr g cl f cur es=>
    obtain⟨es',rfl,cC,_⟩:=h
    simp only[jR,ki,aL.below]
    rw[RL.below cC]
   |bU g f cur t l=>obtain⟨es',rfl,_⟩:=h; rfl
   |gT=>
    rcases h with ⟨g,f,es',rfl⟩|⟨k,vs,rfl,h⟩
    ·rfl
    ·exact(h n).symm
   |j0 kk t m=>
    obtain⟨vs,rfl,h⟩:=h
    exact(yh hT h).symm
   |oJ fn ps as bd fr=>
    obtain⟨st,vs,rfl,h⟩:=h
    exact Dd h
theorem kZ[ab](hT:T.Ok):∀ {l:List (Option (aC T.den))} {m:List (Option aL)},aw (Ba T H) l m→l.all (jR n)=m.all (ki n)
 |[],[],_=>rfl
 |_::_,_::_,h=>by simp only[List.all_cons]; rw[z7 hT h.1,kZ hT h.2]
theorem RO.take[ab]{o:aC T.den}{a:aL}(h:RO T H o a)(hb:jR n (some o)=true):RO T (H.take n) o a:=by
 cases o with
 |arr g cl f cur es=>
  obtain⟨es',h1,h2,h3⟩:=h
  refine⟨es',h1,RL.take h2 ?_,h3⟩
  simp only[jR,Bool.or_eq_true]at hb
  rcases hb with hb|hb
  ·exact ed (h3 hb)
  ·exact hb
 |bU g f cur t l=>exact h
 |gT=>exact h
 |j0 kk t m=>exact h
 |oJ fn ps as bd fr=>
  obtain⟨st,vs,h1,h2⟩:=h
  refine⟨st,vs,h1,aw.dY h2.length fun i x y hx hy=>?_⟩
  obtain⟨y',AD,hr⟩:=aw.get h2 hx
  rw[hy]at AD
  simp only[Option.some.injEq]at AD
  subst AD
  simp only[jR,List.all_eq_true]at hb
  have:=hb x (List.mem_of_getElem? hx)
  rcases hr with hr|hr
  ·exact .inl hr
  ·have hd:bN x=false:=by cases x<;>first|rfl|simp[R]at hr
   rw[hd,Bool.false_or]at this
   exact .inr (hr.take this)
theorem RH.take[ab](hh:RH T H hp)(hb:(H.take n).all (jR n)=true):RH T (H.take n) (hp.take n):=by
 have h:=aw.take hh n
 rw[List.all_eq_true]at hb
 refine aw.dY h.length fun i x y hx hy=>?_
 obtain⟨y',AD,hr⟩:=aw.get h hx
 rw[hy]at AD
 simp only[Option.some.injEq]at AD
 subst AD
 have:=hb x (List.mem_of_getElem? hx)
 cases x with
 |none=>cases y with
  |none=>trivial
  |some _=>exact hr.elim
 |some o=>cases y with
  |none=>exact hr.elim
  |some a=>exact RO.take hr this
theorem HN[ab](hT:T.Ok)(hh:RH T H hp){v:SV T.den}{a:AV}(hv:R T H v a):RH T (fU n v H) (gE n a hp)∧R T (fU n v H) v a:=by
 unfold fU gE
 rw[R.below hv,kZ hT (aw.take hh n)]
 by_cases hc:(Go.PI.below n a&&(hp.take n).all (ki n))=true
 ·rw[if_pos hc,if_pos hc]
  simp only[Bool.and_eq_true]at hc
  exact⟨hh.take (by rw[kZ hT (aw.take hh n)]; exact hc.2),hv.take (by rw[R.below hv]; exact hc.1)⟩
 ·grind
theorem De{fr:sz T.den}{t:Nat}:cH (fr.map fun q=>(q.1,qv n q.2)) t=qv n (cH fr t):=by
 induction fr with
 |nil=>rfl
 |cons q r ih=>
  grind[cH]
theorem RV.forget[ab]{v:SV T.den}{a:AV}(h:RV T H v a):RV T (H.take n) (qv n v) (Go.PI.forget n a):=by
 unfold qv Go.PI.forget
 rcases h with rfl|h
 ·left; simp[bt]
 ·rw[R.below h]
  split
  ·rename_i hb; right; exact h.take (by rw[R.below h]; exact hb)
  ·exact .inl rfl
theorem Df{l:List AV}{t:Nat}:(l.map (Go.PI.forget n)).getD t .undef=Go.PI.forget n (l.getD t .undef):=by
 simp only[List.getD_eq_getElem?_getD,List.getElem?_map]
 cases l[t]?<;>rfl
theorem kz.take{js:List (Nat×kS)}(h:kz js H hp)(hj:∀ m x,cm js m=some x→m<n):kz js (H.take n) (hp.take n):=by
 intro m x hm
 obtain⟨h1,h2⟩:=h m x hm
 have bZ:=hj m x hm
 exact⟨by rw[pW (List.getElem?_take_of_lt bZ)]; exact h1,by rw[nB (List.getElem?_take_of_lt bZ)]; exact h2⟩
theorem z8{js:List (Nat×kS)}(h:sa js n=true):∀ m x,cm js m=some x→m<n:=by
 intro m x hm
 have:=List.all_eq_true.1 h _ (gu hm)
 exact Nat.le_of_ble_eq_true this
theorem Dg[ab](hT:T.Ok){s:bx T.den}{st:St}(h:RS T s st)(hj:∀ m x,cm s.js m=some x→m<n):RS T (jC n s) (gD n st):=by
 unfold jC gD
 rw[kZ hT (aw.take h.hp n)]
 by_cases hc:(st.hp.take n).all (ki n)=true
 ·rw[if_pos hc,if_pos hc]
  refine⟨h.fn,by simp[h.n],fun t=>?_,h.hp.take (by rw[kZ hT (aw.take h.hp n)]; exact hc),h.js.take hj⟩
  rw[De,Df]
  exact(h.fr t).forget
 ·rw[if_neg hc,if_neg hc]
  exact h
theorem mM{den:Nat→Type}{H:ah den}{m:Nat}(hm:m<n):(H.take n)[m]?=H[m]?:=List.getElem?_take_of_lt hm
theorem vV[ab]{s s':bx T.den}{st:St}(h:RS T s st)(ha:bh s s'):bh s (jC s.hp.length s'):=by
 unfold jC
 split
 ·refine⟨ha.fn,ha.n,fun t ht=>?_,ha.wf,fun n hn hw=>?_,ha.wh,?_,?_⟩
  ·simp only at ht ⊢
   rw[De,ha.fr t ht]
   unfold qv
   rcases h.fr t with hv|hv
   ·rw[hv]; simp[bt]
   ·rw[if_pos hv.lt]
  ·simp only at hw ⊢
   rw[mM hn]
   exact ha.hp n hn hw
  ·simp only[List.length_take]
   have:=ha.len
   omega
  ·intro n o ho
   obtain⟨o',h1,h2⟩:=ha.grow n o ho
   have bZ:=(List.getElem?_eq_some_iff.1 ho).1
   exact⟨o',by simp only; rw[mM bZ]; exact h1,h2⟩
 ·exact ha
theorem og[ab](hT:T.Ok){Q:gH}(hQ:Q.Ok){s:bx T.den}{st:St}(h:RS T s st){r:ρ}:∀ {rs:List ResultVar} {K:List (SV T.den)→Tr ρ},(rX T Q s rs K).run=some r →
  ∃ l m,(aR Q.P st.fr rs).run st.hp=some m∧RL T s.hp l m∧(K l).run=some r
 |[],K,hk=>⟨[],[],rfl,by simp[RL],hk⟩
 |.tmp t::rs,K,hk=>by
  simp only[rX]at hk
  split at hk
  ·simp[Tr.run]at hk
  ·rename_i dK
   obtain⟨l,m,h1,h2,hk⟩:=og hT hQ h hk
   refine⟨_,st.fr.getD t .undef::m,?_,?_,hk⟩
   ·simp_all[aR,jK,RM.run_bind,RM.run_pure,h1]
   ·simp only[RL]
    refine⟨?_,h2⟩
    rcases h.fr t with hd|hd
    ·simp_all
    ·exact hd
 |.cell a t::rs,K,hk=>by
  simp only[rX]at hk
  split at hk
  case h_2=>simp[Tr.run]at hk
  rename_i m hm
  obtain⟨q,h1,h2,h3,_⟩:=hQ.row _ _ hm
  have:∃ v c rd,aF st.hp (kA Q.P t (st.fr.getD a .undef)) c rd∧R T s.hp v c∧(rX T Q s rs fun l=>K (v::l)).run=some r:=
   C2 (K:=fun v _ _=>rX T Q s rs fun l=>K (v::l)) hT h1 h2 h3 h.hp (h.fr a) hk
  obtain⟨v,c,rd,g1,g2,hk⟩:=this
  obtain⟨l,m',i1,i2,hk⟩:=og hT hQ h hk
  refine⟨_,c::m',?_,?_,hk⟩
  ·simp only[aR,jK,RM.run_bind,g1.1,RM.run_pure,Option.bind_some,i1]
  ·simp only[RL]
   exact⟨g2,i2⟩
theorem fX[ab]{fv:SV T.den}{fa:AV}(hf:RV T H fv fa){args:List (SV T.den)}{as:List AV}(ha:aw (RV T H) args as){g:FuncId}{l:List (SV T.den)}(h:lG fv args=some (g,l)):
  ∃ m,bA fa as=some (g,m)∧(l.any bN=false→RL T H l m):=by
 unfold lG at h
 split at h
 ·rename_i f first captured
  simp only[Option.some.injEq,Prod.mk.injEq]at h
  obtain⟨rfl,rfl⟩:=h
  have:=hf.lit rfl
  subst this
  refine⟨_,rfl,fun hd=>?_⟩
  refine iE ?_ hd
  exact((aO.1 (RL.lits first.toList)).mono fun _ _ h=>.inr h).append ha |>.append ((aO.1 (RL.lits captured.toList)).mono fun _ _ h=>.inr h)
 ·rename_i f first captured
  simp only[Option.some.injEq,Prod.mk.injEq]at h
  obtain⟨rfl,rfl⟩:=h
  have:=hf.live rfl
  simp only[R]at this
  obtain⟨f',c',rfl,h1,h2⟩:=this
  refine⟨_,rfl,fun hd=>?_⟩
  refine iE ?_ hd
  exact((aO.1 h1).mono fun _ _ h=>.inr h).append ha |>.append ((aO.1 h2).mono fun _ _ h=>.inr h)
 ·simp at h
theorem Dh[ab]{P:Program}{fv:SV T.den}{fa:AV}(hf:RV T H fv fa){name:String}{g:FuncId}{x:SV T.den}(h:Gr P fv name=some (g,x)):∃ ax,oX P fa name=some (g,ax)∧R T H x ax:=by
 unfold Gr at h
 split at h
 ·rename_i t y
  simp only[Option.map_eq_some_iff,Prod.mk.injEq]at h
  obtain⟨f,hm,rfl,rfl⟩:=h
  have:=hf.live rfl
  simp only[R]at this
  obtain⟨a,rfl,ha⟩:=this
  exact⟨a,by simp only[oX,hm,Option.map_some],ha⟩
 ·simp at h
theorem uW:∀ {l:List (SV T.den)} {d t:Nat},cH (mh d l) t=if d≤t then (match l[t-d]? with|some v=>v|none=>.lit undef) else .lit undef
 |[],d,t=>by simp[mh,cH]
 |v::r,d,t=>by
  simp only[mh,cH]
  split
  ·simp_all
  ·rename_i he
   have dK:d≠t:=fun hc=>by subst hc; simp at he
   rw[uW]
   by_cases hd:d≤t
   ·grind
   ·rw[if_neg hd,if_neg (by omega)]
theorem yi[ab]{f:FuncId}{args:List (SV T.den)}{as:List AV}(ha:RL T H args as)(hh:RH T H hp)(n:Nat)(wh:List Nat){js:List (Nat×kS)}(hj:kz js H hp):
  RS T ⟨f,max n args.length,mh 0 args,H,[],wh,js⟩ ⟨f,as++List.replicate (n-as.length) .undef,hp⟩:=by
 have hl:=ha.length
 refine⟨rfl,by simp; omega,fun t=>?_,hh,hj⟩
 simp only
 rw[uW]
 simp only[Nat.zero_le,if_true,Nat.sub_zero,List.getD_eq_getElem?_getD]
 by_cases ht:t<as.length
 ·rw[List.getElem?_append_left ht]
  obtain⟨v,hv,hr⟩:=aw.get' (aO.1 ha) (List.getElem?_eq_getElem ht)
  rw[hv,List.getElem?_eq_getElem ht]
  exact .inr hr
 ·rw[List.getElem?_append_right (by omega)]
  have e1:args[t]?=none:=List.getElem?_eq_none (by omega)
  rw[e1]
  simp only
  rw[List.getElem?_replicate]
  split<;>exact bk undef
end
end Go.PI
end
section
/- PS, part N: states with variables. -/
namespace Go.PI
variable {T:dm}{ρ:Type}
def jh{den:Nat→Type}(H:ah den)(n:Nat):Option Nat:=
 match H[n]? with
 |some (some o)=>some o.cur
 |_=>none
theorem oh{den:Nat→Type}{H:ah den}{n:Nat}{o:aC den}(h:H[n]?=some (some o)):jh H n=some o.cur:=by simp[jh,h]
theorem qF{den:Nat→Type}{H:ah den}{n c:Nat}(h:jh H n=some c):∃ o,H[n]?=some (some o)∧o.cur=c:=by
 grind[jh]
def Di{den:Nat→Type}(ok:Nat→Prop)(Hs Hf:ah den):Prop:=∀ (n:Nat) (o:aC den),ok n→Hs[n]?=some (some o)→∃ of:aC den,Hf[n]?=some (some of)∧of.len=o.len
section
variable {Hs Hf Hc:ah T.den}{ok:Nat→Prop}
theorem So{H:ah T.den}{v:SV T.den}{k:IntKind}{m:Int}(h:R T H v (.lit (.int k m))):v=.lit (.int k m):=by
 cases v with
 |lit w=>simp_all[R,AV.lit.injEq]
 |bp esz n c rg cap=>
  grind[R]
 |sy v st ln i=>
  simp only[R]at h
  obtain⟨_,_,_,h⟩:=h
  rcases h with ⟨_,_,_,_,_,h⟩|⟨_,_,_,h⟩<;>cases h
 |_=>simp[R]at h
theorem Fi[ab](hT:T.Ok){H:ah T.den}{t m:Nat}{x:T.den t}(h:T.dn t (.lit (.int .i64 m))=some x):HA T ⟨.v t,x⟩=m:=by
 have h1:=hT.dn _ _ _ (.lit (.int .i64 m)) H h (by simp[R])
 have h2:=So (hT.up _ _ _ H h1)
 show (match T.up t x with|.lit (.int _ m)=>m.toNat|_=>0)=m
 rw[h2]
 simp
theorem sn[ab](hT:T.Ok)(qQ:∀ n,jh Hc n=jh Hf n)(hlen:Di ok Hs Hf){p:oM}(bL:∀ n,n∈p.ka→ok n){v:SV T.den}{a:AV}(hv:RV T Hs v a){ln:List (TV T.den)}(h:fq Hs p v=some ln)(rest:List (TV T.den)):
  ∃ v',fG Hc p (ln++rest)=(v',rest)∧R T Hf v' a∧(aE v=true→aE v'=true):=by
 cases p with
 |hole=>
  simp only[fq]at h
  split at h
  case h_2=>simp at h
  rename_i hh
  simp only[Option.some.injEq]at h
  subst h
  unfold isHole at hh
  split at hh
  case h_2=>simp at hh
  have hv:=hv.live rfl
  simp only[R]at hv
  subst hv
  exact⟨.hole,rfl,by simp[R],fun h=>h⟩
 |val t=>
  simp only[fq]at h
  split at h
  ·simp at h
  rename_i hd
  split at h
  case h_2=>simp at h
  rename_i x hx
  simp only[Option.some.injEq]at h
  subst h
  have DX:=hT.dn _ _ _ _ Hs hx (hv.live hd)
  exact⟨T.up t x,rfl,hT.up _ _ _ Hf DX,fun _=>uO hT DX⟩
 |Hx esz n rg cap=>
  simp only[fq]at h
  split at h
  case h_2=>simp at h
  rename_i xP n' c Vf E7
  have hv:=hv.live rfl
  split at h
  case h_2=>simp at h
  rename_i o ho
  split at h
  case isFalse=>simp at h
  rename_i hc
  obtain⟨rfl,rfl,rfl,rfl,rfl⟩:=hc
  simp only[Option.some.injEq]at h
  subst h
  obtain⟨of,KP,Fj⟩:=hlen _ _ (bL _ (by simp[oM.ka])) ho
  have mO:=qQ n'
  rw[oh KP]at mO
  obtain⟨oc,Bt,PU⟩:=qF mO
  refine⟨.bp xP n' oc.cur Vf E7,?_,?_,fun h=>by simp[aE]at h⟩
  ·simp only[fG,Bt,List.nil_append]
  ·simp only[R]at hv ⊢
   obtain⟨aq,⟨o',h1,_,h3⟩,ha⟩:=hv
   rw[ho]at h1
   simp only[Option.some.injEq]at h1
   subst h1
   exact⟨aq,⟨of,KP,by omega,fun _=>by rw[h3 rfl,Fj]⟩,ha⟩
 |iI n i j len cap=>
  simp only[fq]at h
  split at h
  case h_2=>simp at h
  rename_i n' c i' j' Nh E7
  have hv:=hv.live rfl
  split at h
  case h_2=>simp at h
  rename_i o ho
  split at h
  case isFalse=>simp at h
  rename_i hc
  obtain⟨rfl,rfl,rfl,rfl,rfl,rfl⟩:=hc
  simp only[Option.some.injEq]at h
  subst h
  obtain⟨of,KP,Fj⟩:=hlen _ _ (bL _ (by simp[oM.ka])) ho
  have mO:=qQ n'
  rw[oh KP]at mO
  obtain⟨oc,Bt,PU⟩:=qF mO
  refine⟨.iI n' oc.cur i' j' Nh E7,?_,?_,fun h=>by simp[aE]at h⟩
  ·simp only[fG,Bt,List.nil_append]
  ·simp only[R]at hv ⊢
   obtain⟨aq,ha,⟨o',h1,_,h3⟩⟩:=hv
   rw[ho]at h1
   simp only[Option.some.injEq]at h1
   subst h1
   exact⟨aq,ha,⟨of,KP,by omega,fun _=>by rw[h3 rfl,Fj]⟩⟩
 |own esz n=>
  simp only[fq]at h
  split at h
  case h_2=>simp at h
  rename_i xP n' c
  have hv:=hv.live rfl
  split at h
  case h_2=>simp at h
  rename_i o ho
  split at h
  case isFalse=>simp at h
  rename_i hc
  obtain⟨rfl,rfl,rfl⟩:=hc
  simp only[Option.some.injEq]at h
  subst h
  obtain⟨of,KP,Fj⟩:=hlen _ _ (bL _ (by simp[oM.ka])) ho
  have mO:=qQ n'
  rw[oh KP]at mO
  obtain⟨oc,Bt,PU⟩:=qF mO
  refine⟨.bp xP n' oc.cur none none,?_,?_,fun h=>by simp[aE]at h⟩
  ·simp only[fG,Bt,List.nil_append]
  ·simp only[R]at hv ⊢
   obtain⟨aq,⟨o',h1,_,h3⟩,rfl⟩:=hv
   rw[ho]at h1
   simp only[Option.some.injEq]at h1
   subst h1
   exact⟨aq,⟨of,KP,by omega,fun _=>by rw[h3 rfl,Fj]⟩,rfl⟩
 |QC esz n t k=>
  simp only[fq]at h
  split at h
  case h_2=>simp at h
  rename_i xP n' c rg cap
  have hv:=hv.live rfl
  split at h
  case h_2=>simp at h
  rename_i o off len ho hr
  split at h
  case isFalse=>simp at h
  rename_i hc
  obtain⟨rfl,rfl,rfl⟩:=hc
  obtain⟨of,KP,Fj⟩:=hlen _ _ (bL _ (by simp[oM.ka])) ho
  have mO:=qQ n'
  rw[oh KP]at mO
  obtain⟨oc,Bt,PU⟩:=qF mO
  have hR:R T Hf (.bp xP n' oc.cur (some (off,len)) cap) a:=by
   simp only[R]at hv ⊢
   obtain⟨aq,⟨o',h1,_,h3⟩,ha⟩:=hv
   rw[ho]at h1
   simp only[Option.some.injEq]at h1
   subst h1
   refine⟨aq,⟨of,KP,by omega,fun _=>by rw[h3 rfl,Fj]⟩,?_⟩
   cases rg with
   |some q=>
    simp_all[mG]
   |none=>
    have hb:Nat.beq o.cur o.cur=true:=by simp
    simp only[mG,ho,hb,if_true,Option.some.injEq,Prod.mk.injEq]at hr
    obtain⟨rfl,rfl⟩:=hr
    rw[←h3 rfl]
    exact ha
  rw[Option.bind_eq_some_iff]at h
  obtain⟨x,hx,h⟩:=h
  rw[Option.bind_eq_some_iff]at h
  obtain⟨y,hy,h⟩:=h
  have ex:=Fi hT (H:=Hs) hx
  have ey:=Fi hT (H:=Hs) hy
  split at h
  ·simp only[Option.some.injEq]at h
   subst h
   exact⟨_,by simp only[fG,List.cons_append,List.nil_append,Bt,ex,ey],hR,fun h=>by simp[aE]at h⟩
  ·obtain⟨z,hz,hl⟩:∃ z,T.dn t (.lit (.int .i64 _))=some z∧_=ln:=Option.map_eq_some_iff.1 h
   subst hl
   have ez:=Fi hT (H:=Hs) hz
   exact⟨_,by simp only[fG,List.cons_append,List.nil_append,Bt,ex,ey,ez],hR,fun h=>by simp[aE]at h⟩
  ·simp at h
theorem vW[ab](hT:T.Ok)(qQ:∀ n,jh Hc n=jh Hf n)(hlen:Di ok Hs Hf):∀ {ps:List oM} {vs:List (SV T.den)} {as:List AV} {ln:List (TV T.den)},(∀ n,n∈ps.flatMap oM.ka→ok n)→RL T Hs vs as→gY Hs ps vs=some ln→∀ rest:List (TV T.den),
  ∃ vs',ja Hc ps (ln++rest)=(vs',rest)∧RL T Hf vs' as∧(av vs=true→av vs'=true)
 |[],[],[],ln,_,_,h,rest=>by
  simp only[gY,Option.some.injEq]at h
  subst h
  exact⟨[],rfl,by simp[RL],fun _=>rfl⟩
 |p::ps,v::vs,a::as,ln,bL,hr,h,rest=>by
  simp only[RL]at hr
  simp only[gY,Option.bind_eq_some_iff,Option.map_eq_some_iff]at h
  obtain⟨l1,h1,l2,h2,rfl⟩:=h
  obtain⟨v',e1,e2,e3⟩:=sn hT qQ hlen (fun n hn=>bL n (by simp[hn])) (.inr hr.1) h1 (l2++rest)
  obtain⟨vs',g1,g2,g3⟩:=vW hT qQ hlen (fun n hn=>bL n (by simp only[List.flatMap_cons,List.mem_append]; exact .inr hn)) hr.2 h2 rest
  refine⟨v'::vs',?_,by simp only[RL]; exact⟨e2,g2⟩,fun hc=>?_⟩
  ·simp_all[ja]
  ·simp_all[av]
 |[],_::_,_,_,_,_,h,_=>by simp[gY]at h
 |_::_,[],_,_,_,_,h,_=>by simp[gY]at h
 |_,[],_::_,_,_,h,_,_=>by simp[RL]at h
 |_,_::_,[],_,_,h,_,_=>by simp[RL]at h
end
def Compat{T:dm}(o:aC T.den):cO→Prop
 |.list t=>∃ g f c l,o=.bU g f c t l
 |.fix t=>∃ g f c l,o=.bU g f c t l
 |.one _=>∃ g cl f c es,o=.arr g cl f c es
 |.agg _=>∃ g cl f c es,o=.arr g cl f c es
 |.map kk t=>∃ m,o=.j0 kk t m
section
variable {Hs Hf Hc:ah T.den}{ok:Nat→Prop}
theorem tF[ab](hT:T.Ok){os:aC T.den}{t:Nat}{ln:List (TV T.den)}(h:eb Hs os (.list t)=some ln∨eb Hs os (.fix t)=some ln):
  ∃ l:List (T.den t),ln=[⟨.l t,l⟩]∧l.length=os.len∧os.flags.2.1=true∧∀ a,RO T Hs os a→∃ es,a=.arr os.flags.1 true os.flags.2.2 es∧aw (T.rp t) l es:=by
 have h2:eb Hs os (.list t)=some ln:=h.elim id id
 clear h
 have h:=h2
 clear h2
 unfold eb at h
 simp only at h
 split at h
 ·rename_i g f c t' l
  split at h
  case isFalse=>simp at h
  rename_i ht
  subst ht
  refine⟨l,(Option.some.inj h).symm,rfl,rfl,fun a ha=>?_⟩
  obtain⟨es,rfl,cC⟩:=ha
  exact⟨es,rfl,cC⟩
 ·rename_i g f c es
  cases hd:oC T t es with
  |none=>rw[hd]at h; cases h
  |some l=>
   rw[hd]at h
   refine⟨l,(Option.some.inj h).symm,?_,rfl,fun a ha=>?_⟩
   ·have:∀ {l:List (T.den t)} {es:List (SV T.den)},oC T t es=some l→l.length=es.length:=by
     intro l es
     induction es generalizing l with
     |nil=>simp_all[oC]
     |cons x xs ih=>
      intro h
      simp only[oC,Option.bind_eq_some_iff,Option.map_eq_some_iff]at h
      obtain⟨_,_,y,hy,rfl⟩:=h
      simp[ih hy]
    exact this hd
   ·obtain⟨es',rfl,cC,_⟩:=ha
    exact⟨es',rfl,pT hT cC hd⟩
 ·simp at h
theorem tG{os:aC T.den}{kk:KK}{t:Nat}{ln:List (TV T.den)}(h:eb Hs os (.map kk t)=some ln):∃ m,os=.j0 kk t m∧ln=[⟨.m kk t,m⟩]:=by
 unfold eb at h
 simp only at h
 split at h
 case h_2=>simp at h
 rename_i qJ t' m
 split at h
 case isFalse=>simp at h
 rename_i hc
 obtain⟨rfl,rfl⟩:=hc
 exact⟨m,rfl,(Option.some.inj h).symm⟩
theorem yX[ab](hT:T.Ok){o os:aC T.den}{p:cO}(hc:Compat o p){ln:List (TV T.den)}(h:eb Hs os p=some ln)(rest:List (TV T.den))
  (hp:∀ q (v:SV T.den) l,fq Hs q v=some l→∀ rest,(fG Hc q (l++rest)).2=rest) :
  ∃ o',jb Hc o p (ln++rest)=(o',rest)∧o'.cur=o.cur∧o'.len=os.len:=by
 have Se:∀ (ps:List oM) (vs:List (SV T.den)) l,gY Hs ps vs=some l→∀ rest,(ja Hc ps (l++rest)).2=rest:=by
  intro ps
  induction ps with
  |nil=>
   intro vs l hl rest
   cases vs with
   |nil=>simp[gY]at hl; subst hl; rfl
   |cons=>simp[gY]at hl
  |cons q ps ih=>
   intro vs l hl rest
   cases vs with
   |nil=>simp[gY]at hl
   |cons v vs=>
    simp only[gY,Option.bind_eq_some_iff,Option.map_eq_some_iff]at hl
    obtain⟨l1,h1,l2,h2,rfl⟩:=hl
    have e1:=hp q v l1 h1 (l2++rest)
    have e2:=ih vs l2 h2 rest
    simp only[ja,List.append_assoc]
    rw[e1]
    exact e2
 cases p with
 |list t=>
  obtain⟨g,f,c,l0,rfl⟩:=hc
  obtain⟨l,rfl,hl,_⟩:=tF hT (.inl h)
  exact⟨.bU g f c t l,rfl,rfl,hl⟩
 |fix t=>
  obtain⟨g,f,c,l0,rfl⟩:=hc
  obtain⟨l,rfl,hl,_⟩:=tF hT (.inr h)
  exact⟨.bU g f c t l,rfl,rfl,hl⟩
 |one q=>
  obtain⟨g,cl,f,c,es,rfl⟩:=hc
  simp only[eb]at h
  split at h
  case h_2=>simp at h
  rename_i v
  have e:=hp q v ln h rest
  refine⟨.arr g cl f c [(fG Hc q (ln++rest)).1],?_,rfl,rfl⟩
  have e2:fG Hc q (ln++rest)=((fG Hc q (ln++rest)).1,rest):=Prod.ext rfl e
  simp only[jb]
  rw[e2]
 |agg ps=>
  obtain⟨g,cl,f,c,es,rfl⟩:=hc
  simp only[eb]at h
  split at h
  case h_2=>simp at h
  rename_i vs
  have e:=Se ps vs ln h rest
  refine⟨.arr g cl f c [.agg (ja Hc ps (ln++rest)).1],?_,rfl,rfl⟩
  have e2:ja Hc ps (ln++rest)=((ja Hc ps (ln++rest)).1,rest):=Prod.ext rfl e
  simp only[jb]
  rw[e2]
 |map kk t=>
  obtain⟨m0,rfl⟩:=hc
  obtain⟨m,rfl,rfl⟩:=tG h
  exact⟨.j0 kk t m,rfl,rfl,rfl⟩
theorem yj[ab](hT:T.Ok)(qQ:∀ n,jh Hc n=jh Hf n)(hlen:Di ok Hs Hf){o os o':aC T.den}{p:cO}(bL:∀ n,n∈p.ka→ok n)(hc:Compat o p){ln:List (TV T.den)}(h:eb Hs os p=some ln){rest:List (TV T.den)}
  (ho:jb Hc o p (ln++rest)=(o',rest)) (rH:o.flags.1=os.flags.1) (iw:o.flags.2.1=os.flags.2.1) (LX:o.flags.2.2=os.flags.2.2) {a:aL} (ha:RO T Hs os a):RO T Hf o' a:=by
 cases p with
 |list t=>
  obtain⟨g,f,c,l0,rfl⟩:=hc
  obtain⟨l,rfl,hl,_,hr⟩:=tF hT (.inl h)
  obtain⟨es,rfl,cC⟩:=hr a ha
  simp only[jb,List.cons_append,List.nil_append,Prod.mk.injEq]at ho
  obtain⟨rfl,_⟩:=ho
  have hg:g=os.flags.1:=rH
  have hf:f=os.flags.2.2:=LX
  exact⟨es,by rw[hg,hf],cC⟩
 |fix t=>
  obtain⟨g,f,c,l0,rfl⟩:=hc
  obtain⟨l,rfl,hl,_,hr⟩:=tF hT (.inr h)
  obtain⟨es,rfl,cC⟩:=hr a ha
  simp only[jb,List.cons_append,List.nil_append,Prod.mk.injEq]at ho
  obtain⟨rfl,_⟩:=ho
  have hg:g=os.flags.1:=rH
  have hf:f=os.flags.2.2:=LX
  exact⟨es,by rw[hg,hf],cC⟩
 |one q=>
  obtain⟨g,cl,f,c,es,rfl⟩:=hc
  simp only[eb]at h
  split at h
  case h_2=>simp at h
  rename_i g' cl' f' c' v
  simp only[aC.flags]at rH iw LX
  subst rH; subst iw; subst LX
  obtain⟨es',rfl,cC,lZ⟩:=ha
  match es',cC with
  |[b],cC=>
   simp only[RL]at cC
   obtain⟨v',e1,e2,e3⟩:=sn hT qQ hlen bL (.inr cC.1) h rest
   simp only[jb,e1,Prod.mk.injEq,and_true]at ho
   subst ho
   refine⟨[b],rfl,by simp only[RL]; exact⟨e2,trivial⟩,fun mO=>?_⟩
   have:=lZ mO
   simp only[av,Bool.and_true]at this ⊢
   exact e3 this
  |[],cC=>simp[RL]at cC
  |_::_::_,cC=>simp[RL]at cC
 |agg ps=>
  obtain⟨g,cl,f,c,es,rfl⟩:=hc
  simp only[eb]at h
  split at h
  case h_2=>simp at h
  rename_i g' cl' f' c' vs
  simp only[aC.flags]at rH iw LX
  subst rH; subst iw; subst LX
  obtain⟨es',rfl,cC,lZ⟩:=ha
  match es',cC with
  |[b],cC=>
   simp only[RL,R]at cC
   obtain⟨⟨as,rfl,cC⟩,_⟩:=cC
   obtain⟨vs',e1,e2,e3⟩:=vW hT qQ hlen bL cC h rest
   simp only[jb,e1,Prod.mk.injEq,and_true]at ho
   subst ho
   refine⟨[.agg as],rfl,by simp only[RL,R]; exact⟨⟨as,rfl,e2⟩,trivial⟩,fun mO=>?_⟩
   have:=lZ mO
   simp only[av,aE,Bool.and_true]at this ⊢
   exact e3 this
  |[],cC=>simp[RL]at cC
  |_::_::_,cC=>simp[RL]at cC
 |map kk t=>
  obtain⟨m0,rfl⟩:=hc
  obtain⟨m,rfl,rfl⟩:=tG h
  simp only[jb,List.cons_append,List.nil_append,Prod.mk.injEq]at ho
  obtain⟨rfl,_⟩:=ho
  exact ha
theorem Dj{q:oM}{v:SV T.den}{l:List (TV T.den)}(h:fq Hs q v=some l)(rest:List (TV T.den)):(fG Hc q (l++rest)).2=rest:=by
 cases q with
 |Hx esz n rg cap=>
  simp only[fq]at h
  split at h
  case h_2=>simp at h
  split at h
  case h_2=>simp at h
  split at h
  case isFalse=>simp at h
  simp only[Option.some.injEq]at h
  subst h
  rfl
 |iI n i j len cap=>
  simp only[fq]at h
  split at h
  case h_2=>simp at h
  split at h
  case h_2=>simp at h
  split at h
  case isFalse=>simp at h
  simp only[Option.some.injEq]at h
  subst h
  rfl
 |hole=>
  simp only[fq]at h
  split at h
  case h_2=>simp at h
  simp only[Option.some.injEq]at h
  subst h
  rfl
 |val t=>
  simp only[fq]at h
  split at h
  ·simp at h
  split at h
  case h_2=>simp at h
  simp only[Option.some.injEq]at h
  subst h
  rfl
 |own esz n=>
  simp only[fq]at h
  split at h
  case h_2=>simp at h
  split at h
  case h_2=>simp at h
  split at h
  case isFalse=>simp at h
  simp only[Option.some.injEq]at h
  subst h
  rfl
 |QC esz n t k=>
  simp only[fq]at h
  split at h
  case h_2=>simp at h
  split at h
  case h_2=>simp at h
  split at h
  case isFalse=>simp at h
  rw[Option.bind_eq_some_iff]at h
  obtain⟨x,hx,h⟩:=h
  rw[Option.bind_eq_some_iff]at h
  obtain⟨y,hy,h⟩:=h
  split at h
  ·simp only[Option.some.injEq]at h
   subst h
   rfl
  ·obtain⟨z,_,hl⟩:∃ z,T.dn t (.lit (.int .i64 _))=some z∧_=l:=Option.map_eq_some_iff.1 h
   subst hl
   rfl
  ·simp at h
theorem nodup_cons{x:Nat}{l:List Nat}(h:cY (x::l)=true):x∉l∧cY l=true:=by
 simp_all[cY,decide_eq_false_iff_not]
theorem HO{H:ah T.den}{n:Nat}{o o':aC T.den}(ho:H[n]?=some (some o))(hc:o'.cur=o.cur)(m:Nat):jh (H.set n (some o')) m=jh H m:=by
 unfold jh
 by_cases e:m=n
 ·grind
 ·rw[List.getElem?_set_ne (Ne.symm e)]
theorem rk[ab](hT:T.Ok):∀ {objs:List (Nat×cO)} {H:ah T.den} {l:List (TV T.den)} (rest:List (TV T.den)),cY (objs.map (·.1))=true→jT Hs objs=some l →
  (∀ q,q∈objs→∃ o,H[q.1]?=some (some o)∧Compat o q.2) →
  (fV H objs (l++rest)).length=H.length∧(∀ n:Nat,n∉objs.map (·.1)→(fV H objs (l++rest))[n]?=H[n]?)∧(∀ n,jh (fV H objs (l++rest)) n=jh H n) ∧
  (∀ q,q∈objs→∃ o os o' ln Hc Dk,H[q.1]?=some (some o)∧Hs[q.1]?=some (some os)∧eb Hs os q.2=some ln∧(∀ n,jh Hc n=jh H n)∧jb Hc o q.2 (ln++Dk)=(o',Dk) ∧
    (fV H objs (l++rest))[q.1]?=some (some o')∧o'.cur=o.cur∧o'.len=os.len)
 |[],H,l,rest,_,_,_=>⟨rfl,fun _ _=>rfl,fun _=>rfl,fun q hq=>by simp at hq⟩
 |(n,p)::objs,H,l,rest,zD,oP,Qt=>by
  simp only[List.map_cons]at zD
  obtain⟨KQ,zD⟩:=nodup_cons zD
  simp only[jT]at oP
  split at oP
  case h_2=>simp at oP
  rename_i os W4
  rw[Option.bind_eq_some_iff]at oP
  obtain⟨ln,h1,oP⟩:=oP
  rw[Option.map_eq_some_iff]at oP
  obtain⟨l2,h2,rfl⟩:=oP
  obtain⟨o,ho,XW⟩:=Qt (n,p) (by simp)
  simp only at ho XW
  obtain⟨o',e1,e2,e3⟩:=yX (Hc:=H) hT XW h1 (l2++rest) fun q v l hl rest=>Dj hl rest
  have Sp:fV H ((n,p)::objs) (ln++l2++rest)=fV (H.set n (some o')) objs (l2++rest):=by
   simp_all[fV,ho]
  rw[Sp]
  have bZ:=(List.getElem?_eq_some_iff.1 ho).1
  have VK:∀ q,q∈objs→∃ o,(H.set n (some o'))[q.1]?=some (some o)∧Compat o q.2:=by
   grind
  obtain⟨i1,i2,i3,i4⟩:=rk hT rest zD h2 VK
  have tU:=HO ho e2
  refine⟨by rw[i1]; simp,fun m hm=>?_,fun m=>by rw[i3,tU],fun q hq=>?_⟩
  ·grind
  ·grind
theorem sq[ab]:∀ {objs:List (Nat×cO)} {H:ah T.den},cY (objs.map (·.1))=true →
  (ra H objs).length=H.length∧(∀ n:Nat,n∉objs.map (·.1)→(ra H objs)[n]?=H[n]?)∧(∀ q,q∈objs→∀ o,H[q.1]?=some (some o)→(ra H objs)[q.1]?=some (some (mn o q.2)))
 |[],H,_=>⟨rfl,fun _ _=>rfl,fun q hq=>by simp at hq⟩
 |(n,p)::objs,H,zD=>by
  simp only[List.map_cons]at zD
  obtain⟨KQ,zD⟩:=nodup_cons zD
  simp only[ra]
  split
  ·rename_i o ho
   have bZ:=(List.getElem?_eq_some_iff.1 ho).1
   obtain⟨i1,i2,i3⟩:=sq (objs:=objs) (H:=H.set n (some (mn o p))) zD
   refine⟨by rw[i1]; simp,fun m hm=>?_,fun q hq o2 ui=>?_⟩
   ·grind
   ·grind
  ·rename_i ze
   obtain⟨i1,i2,i3⟩:=sq (objs:=objs) (H:=H) zD
   refine⟨i1,fun m hm=>?_,fun q hq o2 ui=>?_⟩
   ·simp_all
   ·grind
theorem pZ[ab](hT:T.Ok)(qQ:∀ n,jh Hc n=jh Hf n)(hlen:Di ok Hs Hf){N:Nat}{frs:sz T.den}{ast:Nat→AV}(eO:∀ t,RV T Hs (cH frs t) (ast t)):
  ∀ {az:List (Nat×oM)} {fr:sz T.den} {l:List (TV T.den)} (rest:List (TV T.den)),cY (az.map (·.1))=true→(∀ q,q∈az→q.1<N∧∀ n,n∈q.2.ka→ok n)→pM Hs frs az=some l →
    ∃ yK,qw N Hc fr az (l++rest)=(yK,rest)∧(∀ t,t∉az.map (·.1)→cH yK t=cH fr t)∧(∀ q,q∈az→R T Hf (cH yK q.1) (ast q.1))
 |[],fr,l,rest,_,_,h=>by
  simp only[pM,Option.some.injEq]at h
  subst h
  exact⟨fr,rfl,fun _ _=>rfl,fun q hq=>by simp at hq⟩
 |(d,p)::az,fr,l,rest,zD,hN,h=>by
  simp only[List.map_cons]at zD
  obtain⟨KQ,zD⟩:=nodup_cons zD
  simp only[pM,Option.bind_eq_some_iff,Option.map_eq_some_iff]at h
  obtain⟨l1,h1,l2,h2,rfl⟩:=h
  obtain⟨v',e1,e2,_⟩:=sn hT qQ hlen (hN (d,p) (by simp)).2 (eO d) h1 (l2++rest)
  obtain⟨yK,i1,i2,i3⟩:=pZ hT qQ hlen eO (fr:=tn N fr d v') rest zD (fun q hq=>hN q (List.mem_cons_of_mem _ hq)) h2
  refine⟨yK,?_,fun t ht=>?_,fun q hq=>?_⟩
  ·simp_all[qw]
  ·simp only[List.map_cons,List.mem_cons,not_or]at ht
   rw[i2 t ht.2,kg,if_neg (by omega)]
  ·rcases List.mem_cons.1 hq with rfl|hq
   ·rw[i2 d KQ,kg,if_pos ⟨rfl,(hN (d,p) (by simp)).1⟩]
    exact e2
   ·exact i3 q hq
theorem uX[ab]{N:Nat}:∀ {dead:List Nat} {fr:sz T.den} {t:Nat},cH (zR N fr dead) t=(if t∈dead∧t<N then .dead else cH fr t)
 |[],fr,t=>by simp[zR]
 |d::r,fr,t=>by
  simp only[zR]
  rw[uX,kg]
  by_cases h1:t∈r∧t<N
  ·simp_all
  ·grind
end
end Go.PI
end
