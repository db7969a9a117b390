/- Part 3 of the proof: texts of this session laid one behind the other. -/
import Derived.Test.YtedjbjphpnkpoaaX2
set_option linter.unusedVariables false
set_option linter.unusedSimpArgs false
section
/- PS, part B: the operations on symbolic values, and the evaluator of code to a tree. -/
namespace Go.PI
structure vV(T:dk)where
 args:List Nat
 el:Nat
 esz:Nat
 fn:HL T.den (args.map .v)→Option (List (T.den el))
inductive Tw where
 |num (d j b:Nat)
 |X2 (d j n:Nat)
 |arr (d n:Nat)
 |name (d:Nat)
 |int (d j:Nat)
structure od where
 C:Ctx
 T:dk
 sum:FuncId→Option (uM T)
 hint:FuncId→Nat→Option Hint
 uN:FuncId→Nat→Bool
 M:List (Nat×jU)
 own:FuncId→Option (vV T):=fun _=>none
 tB:FuncId→Nat→Bool:=fun _ _=>false
 tw:FuncId→Tmp→List Tw:=fun _ _=>[]
def od.Q(S:od):gw:=⟨S.C.P,S.M,fun _=>false⟩
def od.Qf(S:od)(f:FuncId):gw:=⟨S.C.P,S.M,S.tB f⟩
section
variable {T:dk}{ρ:Type}
abbrev EK(T:dk)(ρ:Type):=SV T.den→List (Nat×aD T.den)→List Nat→Tr ρ
def oN(r:Option AV)(K:EK T ρ):Tr ρ:=
 match r with
 |some (.lit v)=>K (.lit v) [] []
 | _ => .no "via"
def xX(r:Option (SV T.den))(rd:List Nat)(K:EK T ρ):Tr ρ:=
 match r with
 |some v=>K v [] rd
 | none => .no "part"
def fV(v:SV T.den)(K:Nat→Tr ρ):Tr ρ:=
 match v with
 |.lit (.int _ n)=>.cond (decide (0≤n)) (K n.toNat) .fail
 |_=>.fail
def Ul{den:Nat→Type}:SV den→Bool
 |.lit (.int _ n)=>decide (n=0)
 |_=>false
def jf(d:Nat)(v:Option (SV T.den))(K:Nat→Tr ρ):Tr ρ:=
 match v with
 |none=>K d
 |some v=>fV v K
def ft(i:Nat):Nat→Nat→(Nat→Tr ρ)→Tr ρ
 |0,_,_=>.fail
 |len+1,m,K=>.cond (decide (i=m)) (K m) (ft i len (m+1) K)
def ik(d:Nat):SV T.den→SV T.den
 |.ref n c i j=>.ref n c i (j+d)
 |.bc e j=>.bc e (j+d)
 |.rW v s l i=>.rW (ik d v) s l i
 |v=>v
def gz(e:SV T.den)(j aW:Nat):Nat→Option (List (SV T.den))
 |0=>some []
 |n+1=>(nI false 1 e j).bind fun x=>(gz e (j+aW) aW n).map fun l=>x::l
def uO(k:IntKind):List (SV T.den)→Option (List Int)
 |[]=>some []
 |.lit (.int k' n)::r=>if k'=k then (uO k r).map fun l=>n::l else none
 |_=>none
def tC:List (SV T.den)→Option (List Bool)
 |[]=>some []
 |.lit (.bool b)::r=>(tC r).map fun l=>b::l
 |_=>none
def GO{α:Type}(l:List α)(i:Nat)(d:α):α:=l.getD i d
def KP(i:Nat)(xs:List (SV T.den)):Option (SV T.den):=
 match xs with
 |.lit (.int k n)::r=>(uO k r).map fun l=>.lit (.int k (GO (n::l) i n))
 |.lit (.bool b)::r=>(tC r).map fun l=>.lit (.bool (GO (b::l) i b))
 |_=>none
def Um(t:Nat)(x:T.den t)(K:SV T.den→Tr ρ):Tr ρ:=
 match T.alt t with
 |none=>K (T.up t x)
 |some f=>.cond (f.1 x) (K (f.2.1 x)) (K (f.2.2 x))
def oe(r:jU)(H:ah T.den)(a:SV T.den)(K:EK T ρ):Tr ρ:=
 match a with
 |.ref n c i j=>
  match H[n]? with
  |some (some (.arr _ _ _ cur es))=>(match Nat.beq c cur with
   |true=>(match es[i]? with
    |some e=>xX (nI r.agg r.size e j) [n] K
    | none => .no "memory")
   | false => .no "memory")
  |some (some (.bX _ _ cur t l))=>(match Nat.beq c cur with
   |true=>.bind l[i]? fun x=>Um t x fun v=>xX (nI r.agg r.size v j) [n] K
   | false => .no "memory")
  | _ => .no "memory"
 |.bc e j=>xX (nI r.agg r.size e j) [] K
 | _ => .no "memory"
def Fp(H:ah T.den)(a:SV T.den)(aW len:Nat):Option (List (SV T.den)×List Nat):=
 match a with
 |.ref n c i j=>(match H[n]? with
  |some (some (.arr _ _ _ cur es))=>(match Nat.beq c cur with
   |true=>(es[i]?).bind fun e=>(gz e j aW len).map fun l=>(l,[n])
   |false=>none)
  |_=>none)
 |.bc e j=>(gz e j aW len).map fun l=>(l,[])
 |_=>none
def GP(r:jU)(H:ah T.den)(a:SV T.den)(K:EK T ρ):Tr ρ:=
 match a with
 |.rW v aW len i=>
  (match !r.agg&&Nat.beq r.size 1,Fp H v aW len with
  |true,some (xs,rd)=>(match KP i xs with
   |some x=>K x [] rd
   |none=>ft i len 0 fun m=>oe r H (ik (m*aW) v) K)
  |_,_=>ft i len 0 fun m=>oe r H (ik (m*aW) v) K)
 |a=>oe r H a K
def qy(r:jU)(H:ah T.den)(a v:SV T.den)(K:EK T ρ):Tr ρ:=
 match bP v,decide ((bK v).length=r.size)&&(bK v).all gr with
 |false,true=>(match a with
  |.ref n c i j=>
   match H[n]? with
   |some (some (.arr g cl f cur es))=>(match Nat.beq c cur&&!f with
    |true=>(match es[i]? with
     |some e=>(match fT e j (bK v) with
      |some e'=>K (.lit undef) [(n,.arr g (cl&&av (bK v)) f cur (es.set i e'))] [n]
      | none => .no "memory")
     | none => .no "memory")
    | false => .no "memory")
   |some (some (.bX g f cur t l))=>(match Nat.beq c cur&&!f&&av (bK v) with
    |true=>.bind l[i]? fun x=>(match fT (T.up t x) j (bK v) with
     |some e'=>(match T.dn t e' with
      |some y=>K (.lit undef) [(n,.bX g f cur t (l.set i y))] [n]
      | none => .no "memory")
     | none => .no "memory")
    | false => .no "memory")
   | _ => .no "memory"
  | _ => .no "memory")
 | _, _ => .no "memory"
def Fq(l:List (SV T.den))(j aW i m:Nat)(k:IntKind)(y:Int):List Int→List (SV T.den)
 |[]=>l
 |x::r=>Fq (l.set j (.lit (.int k (cond (Nat.beq i m) y x)))) (j+aW) aW i (m+1) k y r
def Fs(H:ah T.den)(a v:SV T.den)(aW len i:Nat):Option (Nat×aD T.den):=
 match a,v with
 |.ref n c i0 j,.lit (.int k y)=>(match H[n]? with
  |some (some (.arr g cl f cur es))=>(match Nat.beq c cur&&!f&&Nat.blt 0 aW,es[i0]? with
   |true,some (.agg l)=>((gz (.agg l) j aW len).bind (uO k)).map fun ns=>
    (n,.arr g cl f cur (es.set i0 (.agg (Fq l j aW i 0 k y ns))))
   |_,_=>none)
  |_=>none)
 |_,_=>none
def Ft(r:jU)(H:ah T.den)(a v:SV T.den)(K:EK T ρ):Tr ρ:=
 match a with
 |.rW b aW len i=>(match Nat.beq r.size 1,Fs H b v aW len i with
  |true,some (n,o)=>K (.lit undef) [(n,o)] [n]
  |_,_=>ft i len 0 fun m=>qy r H (ik (m*aW) b) v K)
 |a=>qy r H a v K
def Fu(Q:gw)(t:TypeId)(parts:List (Nat×SV T.den)):Option (SV T.den):=
 match Q.ty t with
 |some r=>
  match r.kind,r.zero.bind gv with
  |.struct fs,some z=>(match Q.uJ fs with
   |some pl=>(Ab (fun i=>pl[i]?) (bK z) parts).map .agg
   |none=>none)
  |.array _ e,some z=>(match Q.ty e with
   |some q=>(Ab (fun i=>some (i*q.size,q.size)) (bK z) parts).map .agg
   |none=>none)
  |_,_=>none
 |none=>none
def my(Q:gw)(nm:Nat)(t:TypeId)(len:Nat)(parts:List (Nat×SV T.den))(K:EK T ρ):Tr ρ:=
 match Q.elem t with
 |some r=>
  match (r.zero).bind gv with
  |some z=>
   if 0<r.size∧len*r.size≤2^24∧parts.all (fun p=>decide (p.1<len)&&kS r.agg r.size p.2)=true then
    K (.bp r.size nm 0 none (some len)) [(nm,.arr false (av (parts.map (·.2))) false 0 (fh (List.replicate len z) parts))] []
   else .no "buildSlice"
  | none => .no "buildSlice"
 | none => .no "buildSlice"
def rX(Q:gw)(nm:Nat)(t:TypeId)(l c:SV T.den)(K:EK T ρ):Tr ρ:=
 match Q.elemOf t with
 |some (e,r)=>
  match r.zero,T.zero e,decide (0<r.size) with
  |some _,some z,true=>
   fV l fun l=>fV c fun c=>
    .cond (decide (l≤c)&&decide (c*r.bytes≤2^47)&&decide (c<2^62))
     (K (.bp r.size nm 0 (some (0,l)) (some c)) [(nm,.bX false false 0 e (List.replicate c z))] []) .fail
  |_,_,_=>.fail
 |none=>.fail
def rY(Q:gw)(nm:Nat)(t:TypeId)(l:SV T.den)(K:EK T ρ):Tr ρ:=
 match Q.elemOf t with
 |some (e,r)=>
  match r.zero,T.zero e,decide (0<r.size) with
  |some _,some z,true=>
   fV l fun c=>.cond (decide (c*r.bytes≤2^47)&&decide (c<2^62)) (K (.bp r.size nm 0 none (some c)) [(nm,.bX false false 0 e (List.replicate c z))] []) .fail
  |_,_,_=>.fail
 |none=>.fail
def KQ:Operand→Operand→Bool
 |.tmp a,.tmp b=>Nat.beq a b
 |_,_=>false
def mR(H:ah T.den)(n c:Nat)(rg:Option (Nat×Nat)):Option (Nat×Nat):=
 match rg with
 |some q=>some q
 |none=>match H[n]? with
  |some (some o)=>if Nat.beq c o.cur then some (0,o.len) else none
  |_=>none
def uQ:Option (SV T.den)→Option (Option AV)
 |none=>some none
 |some v=>(mQ v).map some
def Qb(Q:gw)(H:ah T.den)(t:TypeId)(x:SV T.den)(lo hi mx:Option (SV T.den))(K:EK T ρ):Tr ρ:=
 match x with
 |.lit v=>(match uQ lo,uQ hi,uQ mx with
  |some l,some h,some m=>(match m6 Q.P t (.lit v) l h m with
   |some (.lit v)=>K (.lit v) [] []
   |some .nz=>K .nz [] []
   | _ => .no "via")
  | _, _, _ => .no "index")
 |.sl xs=>
  (match Q.elem t,mx with
  |some r,none=>jf 0 lo fun l=>jf xs.length hi fun h=>
   ft l (xs.length+1) 0 fun l=>ft h (xs.length+1) 0 fun h=>
    (match decide (l≤h)&&decide (h≤xs.length)&&xs.all (kS r.agg r.size) with
    |true=>K (.sl ((xs.drop l).take (h-l))) [] []
    | false => .no "index")
  | _, _ => .no "index")
 |.jd t' l=>
  (match Q.elem t,mx with
  |some r,none=>(match decide (r.agg=T.agg t')&&decide (r.size=T.size t') with
   |true=>(match lo,hi with
    |none,none=>K (.jd t' l) [] []
    |some lo,none=>fV lo fun a=>.cond (decide (a≤l.length)) (K (.jd t' (l.drop a)) [] []) .fail
    |none,some hi=>fV hi fun b=>.cond (decide (b≤l.length)) (K (.jd t' (l.take b)) [] []) .fail
    |some lo,some hi=>fV lo fun a=>fV hi fun b=>
     .cond (decide (a≤b)&&decide (b≤l.length)) (K (.jd t' ((l.drop a).take (b-a))) [] []) .fail)
   | false => .no "index")
  |some r,some mx=>(match decide (r.agg=T.agg t')&&decide (r.size=T.size t'),hi with
   |true,some hi=>(match lo.isNone&&(Ul hi&&Ul mx) with
    |true=>K .nz [] []
    |false=>jf 0 lo fun a=>fV hi fun b=>fV mx fun m=>
    .cond (decide (a≤b)&&decide (b≤m)&&decide (m≤l.length)&&decide (a<m)) (K (.wC t' ((l.drop a).take (b-a)) (m-a) (!l.isEmpty)) [] []) .fail)
   | _, _ => .no "index")
  | _, _ => .no "index")
 |.bp esz n c rg cap=>
  (match Q.elem t,mx,mR H n c rg,H[n]? with
  |some r,none,some (off,len),some (some o)=>(match Nat.beq c o.cur&&decide (esz=r.size) with
   |true=>jf 0 lo fun a=>jf len hi fun b=>
    .cond (decide (a≤b)&&decide (b≤cap.getD (o.len-off))&&decide (0<o.len))
     (K (.bp esz n c (some (off+a,b-a)) (cap.map (·-a))) [] []) .fail
   | false => .no "index")
  |some r,some mx,some (off,len),some (some o)=>(match Nat.beq c o.cur&&decide (esz=r.size),hi with
   |true,some hi=>jf 0 lo fun a=>fV hi fun b=>fV mx fun m=>
    .cond (decide (a≤b)&&decide (b≤m)&&decide (m≤cap.getD (o.len-off))&&decide (0<o.len))
     (K (.bp esz n c (some (off+a,b-a)) (some (m-a))) [] []) .fail
   | _, _ => .no "index")
  | _, _, _, _ => .no "index")
 |.ref n c i j=>(match Q.arr t,mx with
  |some (len,r),none=>jf 0 lo fun l=>jf len hi fun h=>
   ft l len 0 fun l=>ft h (len+1) 0 fun h=>(match decide (l≤h) with
    |true=>K (.im n c i (j+l*r.size) (h-l) (len-l)) [] []
    |false=>.fail)
  | _, _ => .no "index")
 | _ => .no "index"
def KR(Q:gw)(t:TypeId)(x:SV T.den)(K:EK T ρ):Tr ρ:=
 match Q.arr t,x with
 |some (len,_),.im n c i j l _=>(match decide (len≤l) with
  |true=>K (.ref n c i j) [] []
  |false=>.fail)
 | _, _ => .no "an array"
def rZ(Q:gw)(tB:Bool)(H:ah T.den)(t:TypeId)(x ix:SV T.den)(K:EK T ρ):Tr ρ:=
 fV ix fun i=>
  match x with
  |.sl xs=>(match Q.elem t with
   |some r=>ft i xs.length 0 fun m=>(match xs[m]? with
    |some e=>(match kS r.agg r.size e with
     |true=>K (.bc e 0) [] []
     | false => .no "index")
    | none => .no "index")
   | none => .no "index")
  |.jd t' l=>(match Q.elem t with
   |some r=>(match decide (r.agg=T.agg t')&&decide (r.size=T.size t') with
    |true=>.bind l[i]? fun x=>Um t' x fun v=>K (.bc v 0) [] []
    | false => .no "index")
   | none => .no "index")
  |.bp esz n c rg _=>(match Q.elem t with
   |some r=>(match decide (0<r.size)&&decide (esz=r.size),mR H n c rg,H[n]? with
    |true,some (off,len),some (some (.arr ..))=>ft i len 0 fun m=>K (.ref n c (off+m) 0) [] []
    |true,some (off,len),some (some (.bX ..))=>.cond (decide (i<len)) (K (.ref n c (off+i) 0) [] []) .fail
    | _, _, _ => .no "index")
   | none => .no "index")
  |.im n c k j len _=>(match Q.elem t with
   |some r=>ft i len 0 fun m=>K (.ref n c k (j+m*r.size)) [] []
   | none => .no "index")
  |.ref n c k j=>(match Q.arr t with
   |some (len,r)=>(match tB with
    |true=>.cond (decide (i<len)) (K (.rW (.ref n c k j) r.size len i) [] []) .fail
    |false=>ft i len 0 fun m=>K (.ref n c k (j+m*r.size)) [] [])
   | none => .no "index")
  |.bc e j=>(match Q.arr t with
   |some (len,r)=>(match tB with
    |true=>.cond (decide (i<len)) (K (.rW (.bc e j) r.size len i) [] []) .fail
    |false=>ft i len 0 fun m=>K (.bc e (j+m*r.size)) [] [])
   | none => .no "index")
  | _ => .no "index"
def KS(s:ByteArray)(n:Int):Option Int:=if 0≤n then (s[n.toNat]?).map fun b=>(b.toNat:Int) else none
def Fv(Q:gw)(tB:Bool)(t:TypeId)(x ix:SV T.den)(K:EK T ρ):Tr ρ:=
 match x with
 |.lit v=>(match v,ix with
  |.string s,.lit (.int _ n)=>(match Q.P.underlying t with
   |some .string=>.bind (KS s n) fun b=>K (.lit (.int .u8 b)) [] []
   | _ => .no "index")
  |_,_=>(match mQ ix with
   |some i=>oN (o9 Q.P t (.lit v) i) K
   | none => .no "index"))
 |.agg l=>
  (match Q.arr t with
  |some (n,r)=>fV ix fun i=>(match tB&&!r.agg&&Nat.beq r.size 1,(gz (.agg l) 0 1 n).bind (KP i) with
   |true,some x=>.cond (decide (i<n)) (K x [] []) .fail
   |_,_=>ft i n 0 fun m=>xX (nI r.agg r.size (.agg l) (m*r.size)) [] K)
  | none => .no "index")
 | _ => .no "index"
inductive Src(den:Nat→Type)where
 |lN (l:List (SV den)) (cl:Bool)
 |y9 (t:Nat) (l:List (den t))
def NH(Q:gw)(H:ah T.den)(xt:TypeId)(x:SV T.den)(K:Src T.den→List Nat→Tr ρ):Tr ρ:=
 match Q.isSlice xt with
 |some true=>(match x with
  |.lit (.slice none 0 0)=>K (.lN [] true) []
  |.sl xs=>K (.lN xs true) []
  |.jd t l=>K (.y9 t l) []
  |.bp _ n c rg _=>(match H[n]? with
   |some (some (.arr _ cl _ cur es))=>(match Nat.beq c cur with
    |true=>(match rg with
     |none=>K (.lN es cl) [n]
     |some (off,len)=>if off+len≤es.length then K (.lN ((es.drop off).take len) cl) [n] else .fail)
    | _ => .no "append source")
   |some (some (.bX _ _ cur t l))=>(match Nat.beq c cur with
    |true=>(match rg with
     |none=>K (.y9 t l) [n]
     |some (off,len)=>.cond (decide (off+len≤l.length)) (K (.y9 t ((l.drop off).take len)) [n]) .fail)
    | _ => .no "append source")
   | _ => .no "append source")
  | _ => .no "append source")
 | _ => .no "append source"
def Src.ok(T:dk)(r:jU):Src T.den→Bool
 |.lN l _=>l.all (kS r.agg r.size)
 |.y9 t _=>decide (r.agg=T.agg t)&&decide (r.size=T.size t)
def Src.len{den:Nat→Type}:Src den→Nat
 |.lN l _=>l.length
 |.y9 _ l=>l.length
def rj(r:jU)(n:Nat):Bool:=decide (n*r.bytes≤2^44)&&decide (n≤2^44)
def pQ(T:dk)(cur:Nat):aD T.den→Src T.den→Option (aD T.den)
 |.arr _ cl f _ es,.lN ys X3=>some (.arr true (cl&&X3) f cur (es++ys))
 |.arr _ true f _ es,.y9 t l=>(oM T t es).map fun l0=>.bX true f cur t (l0++l)
 |.bX _ f _ t l,.lN ys true=>(oM T t ys).map fun l2=>.bX true f cur t (l++l2)
 |.bX _ f _ t l,.y9 t' l2=>if h:t'=t then some (.bX true f cur t (l++Aa h l2)) else none
 |_,_=>none
def aD.flags{den:Nat→Type}:aD den→Bool×Bool×Bool
 |.arr g cl f _ _=>(g,cl,f)
 |.bX g f _ _ _=>(g,true,f)
 |.gV|.kb _ _ _=>(false,true,true)
 |.oU _ _ _ _ _=>(false,false,true)
def aD.xY(T:dk)(r:jU):aD T.den→Bool
 |.arr _ _ _ _ es=>es.all (kS r.agg r.size)
 |.bX _ _ _ t _=>decide (r.agg=T.agg t)&&decide (r.size=T.size t)
 |_=>false
def xZ{den:Nat→Type}:Src den→aD den
 |.lN l cl=>.arr true cl false 0 l
 |.y9 t l=>.bX true false 0 t l
def og(T:dk)(y:Src T.den)(a b:Tr ρ):Tr ρ:=
 match y with
 |.lN l _=>(match l with
  |[]=>a
  |_::_=>b)
 |.y9 _ l=>.cond l.isEmpty a b
def HZ{α:Type}(l:List α)(i:Nat)(ys:List α):List α:=l.take i++(ys++l.drop (i+ys.length))
def uR(T:dk):aD T.den→Nat→Src T.den→Option (aD T.den)
 |.bX g f cur t l,i,.y9 t' l2=>if h:t'=t then some (.bX g f cur t (HZ l i (Aa h l2))) else none
 |.bX g f cur t l,i,.lN ys true=>(oM T t ys).map fun l2=>.bX g f cur t (HZ l i l2)
 |_,_,_=>none
def Bp(Q:gw)(nm:Nat)(H:ah T.den)(t xt:TypeId)(s x:SV T.den)(K:EK T ρ):Tr ρ:=
 match Q.elem t with
 | none => .no "append"
 |some r=>NH Q H xt x fun y rd=>
  match (r.zero).isSome&&decide (0<r.size)&&y.ok T r with
  | false => .no "append"
  |true=>(match s with
   |.lit (.slice none 0 0)=>og T y (K s [] rd)
     (.cond (rj r y.len) (K (.bp r.size nm 0 none none) [(nm,xZ y)] rd) .fail)
   |.nz=>og T y (K s [] rd)
     (.cond (rj r y.len) (K (.bp r.size nm 0 none none) [(nm,xZ y)] rd) .fail)
   |.sl _|.jd _ _=>og T y (K s [] rd) .fail
   |.wC t' l c b=>og T y (K (.jd t' l) [] rd)
     (.cond (b&&decide (c<l.length+y.len)&&rj r (l.length+y.len))
       (match decide (r.agg=T.agg t')&&decide (r.size=T.size t'),pQ T 0 (.bX true false 0 t' l) y with
       |true,some o'=>K (.bp r.size nm 0 none none) [(nm,o')] rd
       | _, _ => .no "append") .fail)
   |.bp esz n c rg cap=>(match H[n]? with
    |some (some o)=>(match Nat.beq c o.cur&&!o.flags.2.2&&decide (esz=r.size) with
     |true=>(match cap,rg with
      |none,none=>(match y with
       |.lN [] _=>K s [] rd
       |_=>(match o.flags.1,pQ T (o.cur+1) o y with
        |true,some o'=>.cond (rj r (o.len+y.len)) (K (.bp esz n (o.cur+1) none none) [(n,o')] (n::rd)) .fail
        | _, _ => .no "append"))
      |some k,none=>og T y (K s [] rd)
       (.cond (decide (o.len+y.len≤k)) .fail
         (match o.xY T r,pQ T 0 o y with
         |true,some o'=>.cond (rj r (o.len+y.len)) (K (.bp esz nm 0 none none) [(nm,o')] (n::rd)) .fail
         | _, _ => .no "append"))
      |some k,some (off,len)=>(match uR T o (off+len) y with
        |some o'=>.cond (decide (len+y.len≤k)&&decide (off+len+y.len≤o.len)) (K (.bp esz n c (some (off,len+y.len)) (some k)) [(n,o')] (n::rd)) .fail
        | none => .no "append")
      | _, _ => .no "append")
     | false => .no "append")
    | _ => .no "append")
   | _ => .no "append")
def KT(Q:gw)(H:ah T.den)(t:TypeId)(d x:SV T.den)(K:EK T ρ):Tr ρ:=
 match Q.elem t,Q.isSlice t with
 |some r,some true=>NH Q H t x fun y rd=>(match y.ok T r&&decide (0<r.size),d with
  |true,.bp esz n c rg _=>(match mR H n c rg,H[n]? with
   |some (off,len),some (some o)=>(match Nat.beq c o.cur&&!o.flags.2.2&&decide (esz=r.size),uR T o off y with
    |true,some o'=>.cond (decide (off+len≤o.len)&&decide (y.len≤len)) (K (.lit (.int .i64 y.len)) [(n,o')] (n::rd)) .fail
    | _, _ => .no "copy")
   | _, _ => .no "copy")
  | _, _ => .no "copy")
 | _, _ => .no "copy"
def Qc(Q:gw)(H:ah T.den)(argTypes:Array TypeId)(type:TypeId)(x:SV T.den)(K:EK T ρ):Tr ρ:=
 match argTypes.toList with
 |[t]=>(match Q.isSlice t with
  |some true=>(match x with
   |.lit (.slice none 0 0)=>K (.lit (.int .i64 0)) [] []
   |.nz=>K (.lit (.int .i64 0)) [] []
   |.sl xs=>K (.lit (.int .i64 xs.length)) [] []
   |.jd _ l|.wC _ l _ _=>K (.lit (.int .i64 l.length)) [] []
   |.bp _ n c rg _=>(match mR H n c rg with
    |some (_,len)=>K (.lit (.int .i64 len)) [] []
    | none => .no "builtin")
   |.im _ _ _ _ len _=>K (.lit (.int .i64 len)) [] []
   | _ => .no "builtin")
  | none => .no "builtin"
  |some false=>(match x with
   | .lit (.slice none 0 0) => .no "builtin"
   |.lit v=>oN ((bk Q.P (Builtin.len_ argTypes type #[v])).bind eK) K
   |.agg _|.ref ..|.bc ..=>(match Q.arr t with
    |some (n,_)=>K (.lit (.int .i64 n)) [] []
    | none => .no "builtin")
   | _ => .no "builtin"))
 | _ => .no "builtin"
def x5(Q:gw)(nm:Nat)(H:ah T.den)(b:Builtin)(argTypes:Array TypeId)(type:TypeId)(args:List (SV T.den))(K:EK T ρ):Tr ρ:=
 match b with
 |.append=>(match argTypes.toList,args with
  |[t,xt],[s,x]=>Bp Q nm H t xt s x K
  | _, _ => .no "builtin")
 |.copy=>(match argTypes.toList,args with
  |[t,_],[d,x]=>KT Q H t d x K
  | _, _ => .no "builtin")
 |.len=>(match args with
  |[x]=>Qc Q H argTypes type x K
  | _ => .no "builtin")
 |.max=>(match mw args with
  |some vs=>oN ((bk Q.P (Builtin.max_ argTypes type vs.toArray)).bind eK) K
  | none => .no "builtin")
 |.min=>(match mw args with
  |some vs=>oN ((bk Q.P (Builtin.min_ argTypes type vs.toArray)).bind eK) K
  | none => .no "builtin")
 | _ => .no "builtin"
def Qd(op:BinOp)(k:IntKind)(a b:Int):Option Value:=
 match op with
 |.lss=>some (.bool (decide (a<b)))
 |.leq=>some (.bool (decide (a≤b)))
 |.gtr=>some (.bool (decide (b<a)))
 |.geq=>some (.bool (decide (b≤a)))
 |.eql=>some (.bool (a==b))
 |.neq=>some (.bool (!(a==b)))
 |.add=>some (.int k (k.wrap (a+b)))
 |.sub=>some (.int k (k.wrap (a-b)))
 |.mul=>some (.int k (k.wrap (a*b)))
 |_=>none
def Qe(op:BinOp)(k:IntKind)(a b:Int):Option Value:=
 match op with
 |.quo=>some (.int k (k.wrap (a.tdiv b)))
 |.rem=>some (.int k (a.tmod b))
 |_=>none
def VL(op:BinOp)(k:IntKind)(a b:Int):Option Value:=
 match op with
 |.shl=>some (.int k (k.wrap (a*2^min b.toNat k.bits)))
 |.shr=>some (.int k (a.fdiv (2^min b.toNat k.bits)))
 |_=>none
def Sz:Operand→Bool
 |.tmp _=>true
 |_=>false
def CK.fits:CK→Value→Bool
 |.bool,.bool _=>true
 |.int k,.int k' _=>decide (k=k')
 |.str,.string _=>true
 |_,_=>false
def bm:List CK→List Value→Bool
 |[],[]=>true
 |k::ks,v::vs=>k.fits v&&bm ks vs
 |_,_=>false
def r8:Value→Value→Bool
 |.bool a,.bool b=>a==b
 |.int _ a,.int _ b=>a==b
 |.string a,.string b=>a==b
 |_,_=>false
def cI:List Value→List Value→Bool
 |[],[]=>true
 |x::xs,y::ys=>r8 x y&&cI xs ys
 |_,_=>false
def wO(x y:Value)(K:Bool→Tr ρ):Tr ρ:=
 match x,y with
 |.bool a,.bool b=>K (a==b)
 |.int _ a,.int _ b=>K (a==b)
 |.string a,.string b=>K (a==b)
 |_,_=>K false
def kT:List Value→List Value→(Bool→Tr ρ)→Tr ρ
 |[],[],K=>K true
 |[x],[y],K=>wO x y K
 |x::x'::xs,y::y'::ys,K=>wO x y fun e=>kT (x'::xs) (y'::ys) fun r=>K (e&&r)
 |_,_,K=>K false
def Fw(Q:gw)(op:BinOp)(t:TypeId)(l l':List (SV T.den))(K:EK T ρ):Tr ρ:=
 match mw l,mw l',Q.ty t with
 |some c,some c',some m=>
  (match m.OS with
  |some ks=>(match m.agg&&bm ks c&&bm ks c' with
   |true=>kT c c' fun e=>(match op with
    |.eql=>K (.lit (.bool e)) [] []
    |.neq=>K (.lit (.bool (!e))) [] []
    | _ => .no "==")
   | false => .no "==")
  | none => .no "==")
 | _, _, _ => .no "=="
def Qg(Q:gw)(op:BinOp)(t:TypeId)(xo yo:Operand)(x y:SV T.den)(K:EK T ρ):Tr ρ:=
 match x,y with
 |.lit (.int k a),.lit (.int k' b)=>(match decide (k=k'),Qd op k a b with
  |true,some v=>K (.lit v) [] []
  |_,_=>(match decide (k=k'),Qe op k a b with
   |true,some v=>.cond (decide (b=0)) .fail (K (.lit v) [] [])
   |_,_=>(match Sz yo,VL op k a b with
    |true,some v=>.cond (decide (b<0)) .fail (K (.lit v) [] [])
    |_,_=>oN (fj Q.P op t xo yo (.lit (.int k a)) (.lit (.int k' b))) K)))
 |.agg l,.agg l'=>Fw Q op t l l' K
 |_,_=>(match mQ x,mQ y with
  |some a,some b=>oN (fj Q.P op t xo yo a b) K
  |_,_=>(match y with
   |.lit b=>oN (Bn Q.P op t x b) K
   |_=>(match x with
    |.lit a=>oN (Bn Q.P op t y a) K
    |_=>.fail)))
def KU(t:Bool)(a b:SV T.den)(K:EK T ρ):Tr ρ:=
 match a,b with
 |.lit (.bool x),.lit (.bool y)=>K (.lit (.bool (cond t x y))) [] []
 |.lit (.int k x),.lit (.int k' y)=>if k=k' then K (.lit (.int k (cond t x y))) [] [] else .cond t (K a [] []) (K b [] [])
 |_,_=>.cond t (K a [] []) (K b [] [])
def Bq(c:Bool)(v:SV T.den)(b:Bool):SV T.den:=
 match c with
 |true=>.jn [v,.lit (.bool b)]
 |false=>v
def tD{kk qO:KK}{t t':Nat}(h:kk=qO∧t=t')(m:List (kk.D×T.den t)):List (qO.D×T.den t'):=by
 obtain⟨rfl,rfl⟩:=h; exact m
def Br(Q:gw)(H:ah T.den)(t:TypeId)(x ix:SV T.den)(c:Bool)(K:EK T ρ):Tr ρ:=
 match Q.mapOf t with
 |some (kk,et)=>(match (Q.ty et).bind (·.zero),T.zero et,ix with
  |some _,some z,.lit k=>(match kk.get k,x with
   |some _,.lit (.map none)=>K (Bq c (T.up et z) false) [] []
   |some k',.mp false n=>(match H[n]? with
    |some (some (.kb qO t' m))=>
     if h:qO=kk∧t'=et then
      K (Bq c (T.up et ((kx kk (tD h m) k').getD z)) (kx kk (tD h m) k').isSome) [] [n]
     else .no "map"
    | _ => .no "map")
   | _, _ => .no "map")
  | _, _, _ => .no "map")
 | none => .no "map"
def r9(Q:gw)(H:ah T.den)(t:TypeId)(x ix v:SV T.den)(K:EK T ρ):Tr ρ:=
 match Q.mapOf t with
 |some (kk,_)=>(match ix,x with
  |.lit k,.mp false n=>(match kk.get k,H[n]? with
   |some k',some (some (.kb qO t' m))=>
    (match bP v,T.dn t' v with
    | false, some y => if h : qO = kk ∧ t' = t' then K (.lit undef) [(n, .kb kk t' (mN kk (tD h m) k' y))] [n] else .no "map"
    | _, _ => .no "map")
   | _, _ => .no "map")
  | _, _ => .no "map")
 | none => .no "map"
def x6(Q:gw)(nm:Nat)(t:TypeId)(r:Option (SV T.den))(K:EK T ρ):Tr ρ:=
 match Q.mapOf t with
 |some (kk,et)=>jf 0 r fun _=>K (.mp false nm) [(nm,.kb kk et [])] []
 | none => .no "map"
mutual
def fW(T:dk)(H:ah T.den):Nat→SV T.den→(SV T.den→List Nat→Tr ρ)→Tr ρ
 | 0, _, _ => .no "seal"
 |k+1,v,K=>match v with
  |.bp _ n c rg _=>(match H[n]? with
   |some (some (.arr _ cl _ cur es))=>(match Nat.beq c cur with
    |true=>(match rg with
     |none=>(match cl with
      |true=>K (.sl es) [n]
      |false=>fu T H k es fun l rd=>K (.sl l) (n::rd))
     |some (off,len)=>if off+len≤es.length then (match cl with
      |true=>K (.sl ((es.drop off).take len)) [n]
      | false => fu T H k ((es.drop off).take len) fun l rd => K (.sl l) (n :: rd)) else .no "seal")
    | false => .no "seal")
   |some (some (.bX _ _ cur t l))=>(match Nat.beq c cur with
    |true=>(match rg with
     |none=>K (.jd t l) [n]
     |some (off,len)=>.cond (decide (off+len≤l.length)) (K (.jd t ((l.drop off).take len)) [n]) .fail)
    | false => .no "seal")
   | _ => .no "seal")
  |.ref n c i j=>(match H[n]? with
   |some (some (.arr _ cl _ cur es))=>(match Nat.beq c cur,es[i]? with
    |true,some e=>(match cl with
     |true=>K (.bc e j) [n]
     |false=>fW T H k e fun e' rd=>K (.bc e' j) (n::rd))
    | _, _ => .no "seal")
   | _ => .no "seal")
  |.im n c i j ln cp=>(match H[n]? with
   |some (some (.arr _ cl _ cur es))=>(match Nat.beq c cur,es[i]? with
    |true,some (.agg cs)=>(match decide (ln≤cp)&&decide (j+ln≤cs.length) with
     |true=>(match cl with
      |true=>K (.sl ((cs.drop j).take ln)) [n]
      |false=>fu T H k ((cs.drop j).take ln) fun l rd=>K (.sl l) (n::rd))
     | false => .no "seal")
    | _, _ => .no "seal")
   | _ => .no "seal")
  |.agg l=>fu T H k l fun l rd=>K (.agg l) rd
  |.jn l=>fu T H k l fun l rd=>K (.jn l) rd
  |.fL t v=>fW T H k v fun v rd=>K (.fL t v) rd
  |.iQ fn f c=>fu T H k f fun f rd=>fu T H k c fun c rd2=>K (.iQ fn f c) (rd++rd2)
  |.sl xs=>K (.sl xs) []
  |.jd t l=>K (.jd t l) []
  |.wC t l _ _=>K (.jd t l) []
  |.nz=>K (.sl []) []
  |.bc e j=>K (.bc e j) []
  |.lit v=>(match v with
   |.slice none 0 0=>K (.sl []) []
   |v=>K (.lit v) [])
  | _ => .no "seal"
def fu(T:dk)(H:ah T.den):Nat→List (SV T.den)→(List (SV T.den)→List Nat→Tr ρ)→Tr ρ
 | 0, _, _ => .no "seal"
 |k+1,xs,K=>match xs with
  |[]=>K [] []
  |x::xs=>fW T H k x fun y rd=>fu T H k xs fun ys rd2=>K (y::ys) (rd++rd2)
end
def kU(T:dk)(H:ah T.den):Nat→List Nat→(List (Nat×aD T.den)→List Nat→Tr ρ)→Tr ρ
 | 0, _, _ => .no "seal"
 |k+1,ns,K=>match ns with
  |[]=>K [] []
  |n::r=>(match H[n]? with
   |some (some (.arr g cl _ cur es))=>(match cl with
    |true=>kU T H k r fun l rd=>K ((n,.arr g true true cur es)::l) (n::rd)
    |false=>fu T H 1000 es fun es' rd=>kU T H k (kR es++r) fun l rd2=>K ((n,.arr g true true cur es')::l) (n::rd++rd2))
   |some (some (.bX g _ cur t l))=>kU T H k r fun w rd=>K ((n,.bX g true cur t l)::w) (n::rd)
   | _ => .no "seal")
mutual
def uS{den:Nat→Type}:SV den→Bool
 |.bp _ _ _ _ _=>true
 |.agg l=>jE l
 |x=>aF x
def jE{den:Nat→Type}:List (SV den)→Bool
 |[]=>true
 |x::xs=>uS x&&jE xs
end
def sa(T:dk)(Q:gw)(nm:Nat)(H:ah T.den)(t:TypeId)(len:Nat)(parts:List (Nat×SV T.den))(K:EK T ρ):Tr ρ:=
 match jE (parts.map (·.2))&&!av (parts.map (·.2)) with
 |true=>fu T H 1000 (parts.map (·.2)) fun ys rd=>kU T H 1000 (kR (parts.map (·.2))) fun wr rd2=>
   my Q nm t len ((parts.map (·.1)).zip ys) fun v w SA=>K v (wr++w) (rd++(rd2++SA))
 |false=>my Q nm t len parts K
def NI(Q:gw)(nm:Nat)(H:ah T.den)(ev:Operand→SV T.den)(o:Oper)(K:EK T ρ):Tr ρ:=
 match o.op with
 |.move x|.assign x=>K (ev x) [] []
 |.pick c a b=>(match ev c with
  |.lit (.bool t)=>KU t (ev a) (ev b) K
  | _ => .no "pick")
 |.alloc t=>(match Q.ty t with
  |some r=>(match (r.zero).bind gv with
   |some z=>if 0<r.size then K (.ref nm 0 0 0) [(nm,.arr false true false 0 [z])] [] else .fail
   |none=>.fail)
  |none=>.fail)
 |.box _ x=>
  if (bK (ev x)).all gr=true∧0<(bK (ev x)).length∧bP (ev x)=false then
   K (.ref nm 0 0 0) [(nm, .arr false (av (bK (ev x))) false 0 [ev x])] [] else .no "box"
 | .build t parts => if ((parts.toList.map fun p => (p.1, ev p.2)).any fun p => bP p.2) = true then .no "build" else xX (Fu Q t (parts.toList.map fun p => (p.1, ev p.2))) [] K
 | .buildSlice t len parts => if ((parts.toList.map fun p => (p.1, ev p.2)).any fun p => bP p.2) = true then .no "build" else sa T Q nm H t len (parts.toList.map fun p => (p.1, ev p.2)) K
 |.load t a=>(match Q.ty t with
  |some r=>GP r H (ev a) K
  |none=>.fail)
 |.store t a x=>(match Q.ty t with
  |some r=>Ft r H (ev a) (ev x) K
  |none=>.fail)
 |.nilCheck x=>(match ev x with
  |.ref n c i j=>K (.ref n c i j) [] []
  |.bc e j=>K (.bc e j) [] []
  |.fL t y=>K (.fL t y) [] []
  |.iQ (.func f) a c=>K (.iQ (.func f) a c) [] []
  |.lit (.func (.func f) a c)=>K (.lit (.func (.func f) a c)) [] []
  | _ => .no "nilCheck")
 |.binOp op t x y _=>Qg Q op t x y (ev x) (ev y) K
 |.unOp op _ x=>(match ev x with
  |.lit a=>oN ((bk Q.P (Op.unary op a)).bind eK) K
  | _ => .no "unOp")
 |.convert s d x=>(match ev x with
  |.lit a=>oN ((bk Q.P (convert s d a)).bind eK) K
  | _ => .no "convert")
 |.makeInterface t x=>if (ju Q.P t||(Q.P.underlying t).isNone||bP (ev x))=true then .fail else K (.fL t (ev x)) [] []
 |.makeFunc fn first captured=>
  if first.isEmpty&&captured.isEmpty then K (.lit (.func fn #[] #[])) [] []
  else if (first.toList.map ev).any bP||(captured.toList.map ev).any bP then .fail
  else K (.iQ fn (first.toList.map ev) (captured.toList.map ev)) [] []
 |.makeSlice t l c=>(match KQ l c with
  |true=>rY Q nm t (ev l) K
  |false=>rX Q nm t (ev l) (ev c) K)
 |.slice t x lo hi mx=>Qb Q H t (ev x) (lo.map ev) (hi.map ev) (mx.map ev) K
 |.sliceToArrayPointer t x=>KR Q t (ev x) K
 |.fieldAddr s x f=>(match Q.Uk s f,ev x with
  |some (off,_),.ref n c i j=>K (.ref n c i (j+off)) [] []
  |some (off,_),.bc e j=>K (.bc e (j+off)) [] []
  |some (off,_),.rW v aW len i=>K (.rW (ik off v) aW len i) [] []
  | _, _ => .no "fieldAddr")
 |.field s x f=>(match Q.Uk s f,ev x with
  |some (off,r),.agg l=>xX (nI r.agg r.size (.agg l) off) [] K
  | _, _ => .no "field")
 |.indexAddr t x ix=>rZ Q (match o.dst with|some d=>Q.tB d|none=>false) H t (ev x) (ev ix) K
 |.index t x ix=>Fv Q (match o.dst with|some d=>Q.tB d|none=>false) t (ev x) (ev ix) K
 |.makeMap t r=>x6 Q nm t (r.map ev) K
 |.lookup t x ix c=>Br Q H t (ev x) (ev ix) c K
 |.mapUpdate t m k x=>r9 Q H t (ev m) (ev k) (ev x) K
 |.extract t ix=>(match ev t with
  |.jn l=>xX l[ix]? [] K
  | _ => .no "extract")
 |.call c=>(match c.callee with
  |.builtin b=>x5 Q nm H b c.argTypes o.type (c.args.toList.map ev) K
  | _ => .no "call")
 | _ => .no "op"
end
section
variable {T:dk}{ρ:Type}
def NJ(dst:Option Tmp)(wf:List Nat):List Nat:=
 match dst with
 |some d=>d::wf
 |none=>wf
def bw.step(s:bw T.den)(dst:Option Tmp)(v:SV T.den)(wr:List (Nat×aD T.den)):bw T.den:=
 { s with fr:=KO s.n s.fr dst v,hp:=aN s.hp wr,wf:=NJ dst s.wf,wh:=wr.map (·.1)++s.wh }
def x7(v:Value)(K:Value→Tr ρ):Tr ρ:=
 match v with
 |.int k n=>K (.int k n)
 |.bool b=>K (.bool b)
 |.string s=>K (.string s)
 |v=>K v
mutual
def dw:SV T.den→(SV T.den→Tr ρ)→Tr ρ
 |.lit v,K=>x7 v fun v=>K (.lit v)
 |.agg l,K=>lO l fun l=>K (.agg l)
 |.jn l,K=>lO l fun l=>K (.jn l)
 |.sl l,K=>lO l fun l=>K (.sl l)
 |.bc e j,K=>dw e fun e=>K (.bc e j)
 |.iQ fn f c,K=>lO f fun f=>lO c fun c=>K (.iQ fn f c)
 |.fL t v,K=>dw v fun v=>K (.fL t v)
 |.dead,K=>K .dead
 |.hole,K=>K .hole
 |.jd t l,K=>K (.jd t l)
 |.ref n c i j,K=>K (.ref n c i j)
 |.im n c i j ln cp,K=>K (.im n c i j ln cp)
 |.bp esz n c rg cap,K=>K (.bp esz n c rg cap)
 |.mp y n,K=>K (.mp y n)
 |.wC t l c b,K=>K (.wC t l c b)
 |.nz,K=>K .nz
 |.rW v s len i,K=>dw v fun v=>K (.rW v s len i)
def lO:List (SV T.den)→(List (SV T.den)→Tr ρ)→Tr ρ
 |[],K=>K []
 |x::xs,K=>dw x fun x=>lO xs fun xs=>K (x::xs)
end
def KV(o:aD T.den)(K:aD T.den→Tr ρ):Tr ρ:=
 match o with
 |.arr g cl f c es=>lO es fun es=>K (.arr g cl f c es)
 |.bX g f c t l=>K (.bX g f c t l)
 |.gV=>K .gV
 |.kb kk t m=>K (.kb kk t m)
 |.oU fn ps as bd fr=>lO fr fun fr=>K (.oU fn ps as bd fr)
def mT:ah T.den→(ah T.den→Tr ρ)→Tr ρ
 |[],K=>K []
 |none::r,K=>mT r fun r=>K (none::r)
 |some o::r,K=>KV o fun o=>mT r fun r=>K (some o::r)
def sb:List Nat→(List Nat→Tr ρ)→Tr ρ
 |[],K=>K []
 |x::r,K=>sb r fun r=>K (x::r)
def Bs:sG T.den→(sG T.den→Tr ρ)→Tr ρ
 |[],K=>K []
 |(d,v)::r,K=>dw v fun v=>Bs r fun r=>K ((d,v)::r)
def bw.force(s:bw T.den)(K:bw T.den→Tr ρ):Tr ρ:=
 match s with
 |⟨fn,n,fr,hp,wf,wh,js⟩=>Bs fr fun fr=>mT hp fun hp=>sb wf fun wf=>sb wh fun wh=>K ⟨fn,n,fr,hp,wf,wh,js⟩
def Fx(hp:ah T.den)(wh:List Nat)(wr:List (Nat×aD T.den))(K:ah T.den→List Nat→Tr ρ):Tr ρ:=
 match wr with
 |[]=>K hp wh
 |w::r=>mT (aN hp (w::r)) fun hp=>sb ((w::r).map (·.1)++wh) fun wh=>K hp wh
def bw.fe(s:bw T.den)(dst:Option Tmp)(v:SV T.den)(wr:List (Nat×aD T.den))(K:bw T.den→Tr ρ):Tr ρ:=
 match s with
 |⟨fn,n,fr,hp,wf,wh,js⟩=>Fx hp wh wr fun hp wh=>
  match dst with
  |none=>K ⟨fn,n,fr,hp,wf,wh,js⟩
  |some d=>(match Nat.ble n d with
   |true=>K ⟨fn,n,fr,hp,d::wf,wh,js⟩
   |false=>dw v fun v=>K ⟨fn,n,(d,v)::fr,hp,d::wf,wh,js⟩)
def oh(ops:Array Oper):List Oper→(List (G×Oper)→Tr ρ)→Tr ρ
 |[],K=>K []
 |o::r,K=>(match eQ ops o with
  |.always=>oh ops r fun l=>K ((.always,o)::l)
  |.never=>oh ops r fun l=>K ((.never,o)::l)
  |.on d w=>oh ops r fun l=>K ((.on d w,o)::l))
def wP(g:G)(s:bw T.den)(K:bw T.den→Bool→Tr ρ):Tr ρ:=
 match g with
 |.always=>K s true
 |.never=>K s false
 |.on d want=>(match cH s.fr d with
  |.lit (.bool b)=>.cond b (s.fe (some d) (.lit (.bool true)) [] fun s=>K s (true==want)) (s.fe (some d) (.lit (.bool false)) [] fun s=>K s (false==want))
  |.lit (.tuple _)=>K s false
  | _ => .no "guard")
def lP(fv:SV T.den)(args:List (SV T.den)):Option (FuncId×List (SV T.den)):=
 match fv with
 |.lit (.func (.func f) first captured)=>some (f,first.toList.map .lit++args++captured.toList.map .lit)
 |.iQ (.func f) first captured=>some (f,first++args++captured)
 |_=>none
def H2(T:dk)(σ:uM T)(H:ah T.den)(args:List (SV T.den))(K:EK T ρ):Tr ρ:=
 fu T H 1000 args fun as rd=>
  match (HX T σ.args as).bind (uK (σ.args.map .v)) with
  |some xs=>.bind (σ.fn xs) fun r=>
   match qS (Qa T (fU (σ.res.map .v) r)) with
   |v=>(match vU v with
    |true=>K v [] rd
    |false=>kU T H 1000 (kR args) fun wr rd2=>K v wr (rd++rd2))
  | none => .no "seal"
def NK(T:dk)(σ:vV T)(nm:Nat)(H:ah T.den)(args:List (SV T.den))(K:EK T ρ):Tr ρ:=
 fu T H 1000 args fun as rd=>
  match (HX T σ.args as).bind (uK (σ.args.map .v)) with
  |some xs=>.bind (σ.fn xs) fun l=>K (.bp σ.esz nm 0 none none) [(nm,.bX true false 0 σ.el l)] rd
  | none => .no "seal"
def fX(n:Nat)(r:SV T.den)(hp:ah T.den):ah T.den:=
 if bt n r&&(hp.take n).all (jT n) then hp.take n else hp
def qz(n:Nat)(v:SV T.den):SV T.den:=if bt n v then v else .dead
def jF(n:Nat)(s:bw T.den):bw T.den:=
 if (s.hp.take n).all (jT n) then { s with fr:=s.fr.map fun q=>(q.1,qz n q.2),hp:=s.hp.take n } else s
def sd(T:dk)(Q:gw)(s:bw T.den):List ResultVar→(List (SV T.den)→Tr ρ)→Tr ρ
 |[],K=>K []
 |.tmp t::rs,K=>(match cH s.fr t with
  |.dead=>.fail
  |v=>sd T Q s rs fun l=>K (v::l))
 |.cell a t::rs,K=>(match Q.ty t with
  |some r=>GP r s.hp (cH s.fr a) fun v _ _=>sd T Q s rs fun l=>K (v::l)
  |none=>.fail)
def keyOf:Code→Nat
 |.region id _ _=>id
 |.seq a _=>keyOf a
 |.cond _ a _=>keyOf a
 |.block _ b|.loop b|.scope b=>keyOf b
 |_=>0
def se(b:Code)(s:bw T.den):Nat:=keyOf b+1000*s.hp.length
def H3(T:dk)(x:TV T.den):Nat:=
 match Sy T x with
 |.lit (.int _ m)=>m.toNat
 |_=>0
def isHole{den:Nat→Type}:SV den→Bool
 |.hole=>true
 |_=>false
def fI(H:ah T.den):oW→List (TV T.den)→SV T.den×List (TV T.den)
 |.hole,l=>(.hole,l)
 |.HY esz n rg cap,l=>((match H[n]? with
  |some (some o)=>.bp esz n o.cur rg cap
  |_=>.dead),l)
 |.im n i j len cap,l=>((match H[n]? with
  |some (some o)=>.im n o.cur i j len cap
  |_=>.dead),l)
 |.val _,l=>(match l with
  |x::r=>(Sy T x,r)
  |[]=>(.dead,[]))
 |.own esz n,l=>((match H[n]? with
  |some (some o)=>.bp esz n o.cur none none
  |_=>.dead),l)
 |.Q9 esz n _ k,l=>(match k with
  |false=>(match l with
   |x::y::r=>((match H[n]? with
    |some (some o)=>.bp esz n o.cur (some (H3 T x,H3 T y)) none
    |_=>.dead),r)
   |_=>(.dead,[]))
  |true=>(match l with
   |x::y::z::r=>((match H[n]? with
    |some (some o)=>.bp esz n o.cur (some (H3 T x,H3 T y)) (some (H3 T z))
    |_=>.dead),r)
   |_=>(.dead,[])))
def jg(H:ah T.den):List oW→List (TV T.den)→List (SV T.den)×List (TV T.den)
 |[],l=>([],l)
 |p::ps,l=>match fI H p l with
  |(v,l')=>match jg H ps l' with
   |(vs,ZM)=>(v::vs,ZM)
def mz:aD T.den→cP→aD T.den
 |.arr g _ f c _,.list t=>.bX g f (c+1) t []
 |.bX g f c _ _,.list t=>.bX g f (c+1) t []
 |.arr g _ f c _,.fix t=>.bX g f c t []
 |.bX g f c _ _,.fix t=>.bX g f c t []
 |.kb kk t _,.map _ _=>.kb kk t []
 |o,_=>o
def rk(H:ah T.den):List (Nat×cP)→ah T.den
 |[]=>H
 |(n,p)::r=>match H[n]? with
  |some (some o)=>rk (H.set n (some (mz o p))) r
  |_=>rk H r
def jh(H:ah T.den)(o:aD T.den):cP→List (TV T.den)→aD T.den×List (TV T.den)
 |.list _,l|.fix _,l=>(match o,l with
  |.bX g f c _ _,⟨.l t,x⟩::r=>(.bX g f c t x,r)
  |_,_=>(o,l))
 |.one p,l=>(match o,fI H p l with
  |.arr g cl f c _,(v,r)=>(.arr g cl f c [v],r)
  |_,_=>(o,l))
 |.agg ps,l=>(match o,jg H ps l with
  |.arr g cl f c _,(vs,r)=>(.arr g cl f c [.agg vs],r)
  |_,_=>(o,l))
 |.map _ _,l=>(match o,l with
  |.kb _ _ _,⟨.m kk t,x⟩::r=>(.kb kk t x,r)
  |_,_=>(o,l))
def fY:ah T.den→List (Nat×cP)→List (TV T.den)→ah T.den
 |H,[],_=>H
 |H,(n,p)::r,l=>match H[n]? with
  |some (some o)=>(match jh H o p l with
   |(o',l')=>fY (H.set n (some o')) r l')
  |_=>fY H r l
def qA(n:Nat)(H:ah T.den):sG T.den→List (Nat×oW)→List (TV T.den)→sG T.den×List (TV T.den)
 |fr,[],l=>(fr,l)
 |fr,(d,p)::r,l=>match fI H p l with
  |(v,l')=>qA n H (tA n fr d v) r l'
def Ac(n:Nat)(fr:sG T.den):List Nat→sG T.den
 |[]=>fr
 |d::r=>Ac n (tA n fr d .dead) r
def H4:oX→Option (aD T.den)
 |.gV=>some .gV
 |.list g f t=>some (.bX g f 0 t [])
def a9:Nat→List oX→List (Nat×cP)
 |_,[]=>[]
 |n,.gV::r=>a9 (n+1) r
 |n,.list _ _ t::r=>(n,.list t)::a9 (n+1) r
def c7(aA:List (Nat×oW))(dead:List Nat)(objs:List (Nat×cP))(ext:List oX)(s:bw T.den)(l:List (TV T.den)):bw T.den:=
 match qA s.n (rk s.hp objs++ext.map H4) (Ac s.n s.fr dead) aA l with
 |(fr,l')=>{ s with fr:=fr,hp:=fY (rk s.hp objs++ext.map H4) (objs++a9 s.hp.length ext) l' }
def fw(H:ah T.den)(p:oW)(v:SV T.den):Option (List (TV T.den)):=
 match p with
 |.hole=>(match isHole v with
  |true=>some []
  |false=>none)
 |.HY esz n rg cap=>(match v with
  |.bp x8 n' c VM Fy=>(match H[n]? with
   |some (some o)=>if x8=esz∧n'=n∧c=o.cur∧VM=rg∧Fy=cap then some [] else none
   |_=>none)
  |_=>none)
 |.im n i j len cap=>(match v with
  |.im n' c i' j' NL Fy=>(match H[n]? with
   |some (some o)=>if n'=n∧c=o.cur∧i'=i∧j'=j∧NL=len∧Fy=cap then some [] else none
   |_=>none)
  |_=>none)
 |.val t=>(match bP v with
  |true=>none
  |false=>match T.dn t v with
   |some x=>some [⟨.v t,x⟩]
   |none=>none)
 |.own esz n=>match v with
  |.bp x8 n' c none none=>(match H[n]? with
   |some (some o)=>if x8=esz∧n'=n∧c=o.cur then some [] else none
   |_=>none)
  |_=>none
 |.Q9 esz n t k=>match v with
  |.bp x8 n' c rg cap=>(match H[n]?,mR H n' c rg with
   |some (some o),some (off,len)=>if x8=esz∧n'=n∧c=o.cur then
     (T.dn t (.lit (.int .i64 off))).bind fun x=>(T.dn t (.lit (.int .i64 len))).bind fun y=>(match k,cap with
       |false,none=>some [⟨.v t,x⟩,⟨.v t,y⟩]
       |true,some m=>(T.dn t (.lit (.int .i64 m))).map fun z=>[⟨.v t,x⟩,⟨.v t,y⟩,⟨.v t,z⟩]
       |_,_=>none) else none
   |_,_=>none)
  |_=>none
def hX(H:ah T.den):List oW→List (SV T.den)→Option (List (TV T.den))
 |[],[]=>some []
 |p::ps,v::vs=>(fw H p v).bind fun l=>(hX H ps vs).map fun r=>l++r
 |_,_=>none
def dY(H:ah T.den)(o:aD T.den):cP→Option (List (TV T.den))
 |.list t|.fix t=>(match o with
  |.bX _ _ _ t' l=>if h:t'=t then some [⟨.l t,Aa h l⟩] else none
  |.arr _ true _ _ es=>(oM T t es).map fun l=>[⟨.l t,l⟩]
  |_=>none)
 |.one p=>(match o with
  |.arr _ _ _ _ [v]=>fw H p v
  |_=>none)
 |.agg ps=>(match o with
  |.arr _ _ _ _ [.agg vs]=>hX H ps vs
  |_=>none)
 |.map kk t=>(match o with
  |.kb qO t' m=>if qO=kk∧t'=t then some [⟨.m qO t',m⟩] else none
  |_=>none)
def jV(H:ah T.den):List (Nat×cP)→Option (List (TV T.den))
 |[]=>some []
 |(n,p)::r=>match H[n]? with
  |some (some o)=>(dY H o p).bind fun l=>(jV H r).map fun m=>l++m
  |_=>none
def pR(H:ah T.den)(fr:sG T.den):List (Nat×oW)→Option (List (TV T.den))
 |[]=>some []
 |(d,p)::r=>(fw H p (cH fr d)).bind fun l=>(pR H fr r).map fun m=>l++m
def uT(aA:List (Nat×oW))(objs:List (Nat×cP))(s:bw T.den):Option (List (TV T.den)):=
 (pR s.hp s.fr aA).bind fun l=>(jV s.hp objs).map fun m=>l++m
def qB(H H':ah T.den)(objs:List (Nat×cP)):Bool:=
 objs.all fun q=>match H[q.1]?,H'[q.1]? with
  |some (some o),some (some o')=>decide (o.flags=o'.flags)
  |_,_=>false
def gW(H0 H:ah T.den):List (Nat×cP)→Tr ρ→Tr ρ
 |[],K=>K
 |(n,.fix _)::r,K=>(match H0[n]?,H[n]? with
  |some (some o),some (some o')=>.cond (decide (o'.len=o.len)) (gW H0 H r K) .fail
  | _, _ => .no "fix")
 |_::r,K=>gW H0 H r K
def wQ(H0 H:ah T.den)(objs:List (Nat×cP)):Bool:=
 objs.all fun q=>match q.2 with
  |.list _=>true
  |_=>match H0[q.1]?,H[q.1]? with
   |some (some o),some (some o')=>Nat.beq o.cur o'.cur
   |_,_=>false
def subset(a b:List Nat):Bool:=a.all fun x=>b.contains x
def cZ:List Nat→Bool
 |[]=>true
 |x::r=>!r.contains x&&cZ r
def C5(H:ah T.den):Nat→List oX→Bool
 |_,[]=>true
 |n,e::r=>(match H[n]?,e with
  |some (some o),.gV=>o.flags.2.1
  |some (some o),.list g f _=>decide (o.flags=(g,true,f))
  |_,_=>false)&&C5 H (n+1) r
def oW.kc:oW→List Nat
 |.val _|.hole=>[]
 |.own _ n|.Q9 _ n _ _|.HY _ n _ _|.im n _ _ _ _=>[n]
def cP.kc:cP→List Nat
 |.list _|.fix _|.map _ _=>[]
 |.one p=>p.kc
 |.agg ps=>ps.flatMap oW.kc
def sf(ma:Nat)(aA:List (Nat×oW))(objs:List (Nat×cP)):Bool:=
 (aA.flatMap (fun q=>q.2.kc)++objs.flatMap (fun q=>q.2.kc)).all fun n=>Nat.blt n ma||(objs.map (·.1)).contains n
def Bt(n:Nat)(aA:List (Nat×oW))(dead:List Nat):Bool:=(aA.map (·.1)++dead).all fun d=>Nat.blt d n
def sg(aA:List (Nat×oW))(dead:List Nat)(objs:List (Nat×cP))(ext:List oX)(s0 s:bw T.den):Bool:=
 Bt s0.n aA dead&&sf s0.hp.length aA (objs++a9 s0.hp.length ext)&&subset s.wf (aA.map (·.1)++dead)&&subset (s.wh.filter fun n=>decide (n<s0.hp.length)) (objs.map (·.1)) &&
  decide (s.hp.length=s0.hp.length+ext.length)&&qB s0.hp s.hp objs&&wQ s0.hp s.hp objs&&C5 s.hp s0.hp.length ext
def GQ(H:ah T.den)(l:List (Nat×cP)):Bool:=l.all fun q=>match H[q.1]?,q.2 with
 |some (some (.arr _ _ _ _ [_])),.one _=>true
 |some (some (.arr _ _ _ _ [_])),.agg _=>true
 |_,_=>false
def H5(h:Hint)(s0 s:bw T.den)(kind:Option Nat)(o:Bo):Option (HL T.den (o.jD h.objs)):=
 match decide (o.kind=kind)&&decide (s.js=o.js)&&(sg o.aA (h.aA.map (·.1)++h.dead) (je h.objs o.more) o.ext s0 s&&(cZ ((je h.objs o.more).map (·.1))&&GQ s0.hp o.more)) with
 |true=>(uT o.aA ((je h.objs o.more)++a9 s0.hp.length o.ext) s).bind (uK (o.jD h.objs))
 |false=>none
def tE(key:Nat)(h:Hint)(s0 s:bw T.den)(kind:Option Nat):(l:List Bo)→(y8 T.den h.objs l→Tr ρ)→Tr ρ
 |[],_=>.bad key (some kind) s0 s
 |[o],K=>(match H5 h s0 s kind o with
  |some x=>gW s0.hp s.hp h.objs (K x)
  |none=>.bad key (some kind) s0 s)
 |o::p::r,K=>(match H5 h s0 s kind o with
  |some x=>gW s0.hp s.hp h.objs (K (.inl x))
  |none=>tE key h s0 s kind (p::r) fun x=>K (.inr x))
def jG(h:Hint)(s:bw T.den)(o:Bo)(x:HL T.den (o.jD h.objs)):bw T.den:=
 let s':=c7 o.aA (h.aA.map (·.1)++h.dead) (je h.objs o.more) o.ext s (fU (o.jD h.objs) x)
 { s' with wf:=o.aA.map (·.1)++(h.aA.map (·.1)++(h.dead++s.wf)),wh:=(je h.objs o.more).map (·.1)++s.wh,js:=o.js }
def Bu(s:bw T.den)(kind:Option Nat):oV T.den:=
 match kind with
 |some id=>.exit id s
 |none=>.ret s
def tU(h:Hint)(s:bw T.den):(l:List Bo)→y8 T.den h.objs l→(oV T.den→Tr ρ)→Tr ρ
 |[],_,_=>.fail
 |[o],w,K=>(jG h s o w).force fun s=>K (Bu s o.kind)
 |o::p::r,w,K=>.sum w (fun x=>(jG h s o x).force fun s=>K (Bu s o.kind)) fun w=>tU h s (p::r) w K
def Hint.ok(h:Hint):Bool:=
 cZ (h.aA.map (·.1)++h.dead)&&cZ (h.objs.map (·.1))&&h.outs.all fun o=>cZ (o.aA.map (·.1))
def vW(step:Oper→bw T.den→(bw T.den→Tr ρ)→Tr ρ):List (G×Oper)→bw T.den→(bw T.den→Tr ρ)→Tr ρ
 |[],s,K=>K s
 |(g,o)::rest,s,K=>wP g s fun s want=>
  match want with
  |false=>s.fe o.dst (.lit undef) [] fun s=>vW step rest s K
  |true=>step o s fun s'=>vW step rest s' K
def lQ:List Item→List (G×Oper)→List (G×Item)
 |x::r,(g,_)::l=>(g,x)::lQ r l
 |_,_=>[]
def x9:List (G×Item)→(List (G×Item)→Tr ρ)→Tr ρ
 |[],K=>K []
 |(g,⟨i,nm,o⟩)::r,K=>x9 r fun l=>K ((g,⟨i,nm,o⟩)::l)
def sh[ab](step:Nat→Oper→bw T.den→EK T ρ→Tr ρ):List (G×Item)→bw T.den→List fk→(bw T.den→List fk→Tr ρ)→Tr ρ
 |[],s,fs,K=>K s fs
 |(g,x)::rest,s,fs,K=>wP g s fun s want=>
  match want with
  |false=>s.fe x.o.dst (.lit undef) [] fun s=>sh step rest s (fs++[⟨x.idx,[],[]⟩]) K
  |true=>step (x.at s.hp.length) x.o s fun v wr rd=>
   match wr.all (fun q=>decide (q.1<s.hp.length)&&((au x.o.op&&decide (q.1=x.nm))||(match s.hp[q.1]? with|some (some _)=>true|_=>false))) with
   |true=>s.fe x.o.dst v wr fun s=>sh step rest s (fs++[⟨x.idx,rd,wr.map (·.1)⟩]) K
   |false=>.fail
end
def pS{T:dk}(esz j nm:Nat)(e:SV T.den):Option (SV T.den):=
 match e with
 |.agg l=>(match l[j]? with
  |some (.lit (.slice none 0 0))=>some (.agg (l.set j (.bp esz nm 0 none none)))
  |_=>none)
 |.lit (.slice none 0 0)=>if j=0 then some (.bp esz nm 0 none none) else none
 |_=>none
def H6{T:dk}{ρ:Type}(d:Tmp):List (Nat×Nat)→bw T.den→(bw T.den→Tr ρ)→Tr ρ
 |[],s,K=>K s
 |(j,esz)::r,s,K=>(match cH s.fr d with
  |.ref n _ i k=>(match s.hp[n]? with
   |some (some (.arr g _ f cur es))=>(match (es[i]?).bind (pS esz (k+j) s.hp.length) with
    |some e'=>s.fe none (.lit undef) [(n,.arr g false f cur (es.set i e')),(s.hp.length,.arr true true false 0 [])] fun s=>H6 d r s K
    | none => .no "nil")
   | _ => .no "nil")
  |v=>(match pS esz j s.hp.length v with
   |some v'=>s.fe (some d) v' [(s.hp.length,.arr true true false 0 [])] fun s=>H6 d r s K
   | none => .no "nil"))
def C6{T:dk}{ρ:Type}(l:Tmp→List (Nat×Nat))(dst:Option Tmp)(s:bw T.den)(K:bw T.den→Tr ρ):Tr ρ:=
 match dst with
 |some d=>H6 d (l d) s K
 |none=>K s
def Ad{den:Nat→Type}(j:Nat):SV den→Option (SV den)
 |.agg l=>(match Nat.blt j l.length with
  |true=>some (.agg (l.set j .hole))
  |false=>none)
 |_=>none
def ya{T:dk}{ρ:Type}:List (Nat×Nat)→bw T.den→(bw T.den→Tr ρ)→Tr ρ
 |[],s,K=>K s
 |(d,j)::r,s,K=>(match cH s.fr d with
  |.ref n _ i k=>(match s.hp[n]? with
   |some (some (.arr g _ f cur es))=>(match (es[i]?).bind (Ad (k+j)) with
    |some e'=>s.fe none (.lit undef) [(n,.arr g false f cur (es.set i e'))] fun s=>ya r s K
    | none => .no "a hole")
   | _ => .no "a hole")
  | _ => .no "a hole")
def cellOf{T:dk}(s:bw T.den)(d j:Nat):Option (SV T.den):=
 match cH s.fr d with
 |.ref n _ i k=>(match s.hp[n]? with
  |some (some (.arr _ _ _ _ es))=>(match es[i]? with
   |some (.agg l)=>l[k+j]?
   |_=>none)
  |_=>none)
 |.agg l=>l[j]?
 |v=>(match Nat.beq j 0 with
  |true=>some v
  |false=>none)
def setCell{T:dk}(s:bw T.den)(d j:Nat)(v:SV T.den):bw T.den:=
 match cH s.fr d with
 |.ref n _ i k=>(match s.hp[n]? with
  |some (some (.arr g cl f cur es))=>(match es[i]? with
   |some (.agg l)=>{ s with hp:=s.hp.set n (some (.arr g cl f cur (es.set i (.agg (l.set (k+j) v))))),wh:=n::s.wh }
   |_=>s)
  |_=>s)
 |.agg l=>{ s with fr:=tA s.n s.fr d (.agg (l.set j v)),wf:=d::s.wf }
 |_=>{ s with fr:=tA s.n s.fr d v,wf:=d::s.wf }
def KW{ρ:Type}:Nat→Nat→Int→(Int→Tr ρ)→Tr ρ
 |0,_,_,_=>.fail
 |b+1,m,n,K=>.cond (n==Int.ofNat m) (K (Int.ofNat m)) (KW b (m+1) n K)
def C7{T:dk}{ρ:Type}(t:Nat)(l:List (T.den t)):Nat→Nat→(List (SV T.den)→Tr ρ)→Tr ρ
 |0,_,K=>K []
 |b+1,i,K=>.bind l[i]? fun x=>C7 t l b (i+1) fun xs=>K (T.up t x::xs)
def yb{T:dk}{ρ:Type}(s:bw T.den)(w:Tw)(K:bw T.den→Tr ρ):Tr ρ:=
 match w with
 |.num d j b=>(match cellOf s d j with
  |some (.lit (.int k n))=>KW b 0 n fun m=>(setCell s d j (.lit (.int k m))).force K
  | _ => .no "a number")
 |.X2 d j n=>(match cellOf s d j with
  |some (.jd t l)=>.cond (Nat.blt 0 n&&decide (l.length=n)) (C7 t l n 0 fun xs=>(setCell s d j (.sl xs)).force K) .fail
  | _ => .no "a list")
 |.arr d n=>(match cH s.fr d with
  |.bp _ nm _ _ _=>(match s.hp[nm]? with
   |some (some (.bX g f cur t l))=>.cond (decide (l.length=n)) (C7 t l n 0 fun xs=>bw.force { s with hp:=s.hp.set nm (some (.arr g true f cur xs)),wh:=nm::s.wh } K) .fail
   | _ => .no "an array")
  | _ => .no "an array")
 |.int d j=>(match cellOf s d j with
  |some (.lit (.int k n))=>.bind (some n) fun n=>(setCell s d j (.lit (.int k n))).force K
  | _ => .no "a number")
 |.name d=>(match cH s.fr d with
  |.bp esz nm c rg cap=>(match s.hp[nm]? with
   |some (some (.bX g f cur t l))=>.bind (some l) fun l=>(match rg with
    |none=>bw.force { s with hp:=s.hp.set nm (some (.bX g f cur t l)),wh:=nm::s.wh } K
    |some (off,len)=>.bind (some off) fun off=>.bind (some len) fun len=>
     bw.force { s with fr:=tA s.n s.fr d (.bp esz nm c (some (off,len)) cap),hp:=s.hp.set nm (some (.bX g f cur t l)),wf:=d::s.wf,wh:=nm::s.wh } K)
   | _ => .no "a name")
  | _ => .no "a name")
def SB{T:dk}{ρ:Type}:List Tw→bw T.den→(bw T.den→Tr ρ)→Tr ρ
 |[],s,K=>K s
 |w::r,s,K=>yb s w fun s=>SB r s K
def SC{T:dk}{ρ:Type}(l:Tmp→List Tw)(dst:Option Tmp)(s:bw T.den)(K:bw T.den→Tr ρ):Tr ρ:=
 match dst with
 |some d=>SB (l d) s K
 |none=>K s
def wD{den:Nat→Type}(u:List Nat)(fr:sG den):List Nat→List (SV den)
 |[]=>[]
 |d::r=>(match u.contains d with
  |true=>cH fr d
  |false=>.dead)::wD u fr r
def lR{den:Nat→Type}(n:Nat)(fr:sG den):List Tmp→List (SV den)→sG den
 |p::ps,x::xs=>lR n (tA n fr p x) ps xs
 |_,_=>fr
def Bv(js:List (Nat×kW))(n:Nat)(st:kW):List (Nat×kW):=js.map fun q=>match Nat.beq q.1 n with
 |true=>(q.1,st)
 |false=>q
def C8(js:List (Nat×kW))(n:Nat):List (Nat×kW):=js.filter fun q=>!Nat.beq q.1 n
def si(js:List (Nat×kW))(n:Nat):Bool:=js.all fun q=>Nat.blt q.1 n
def bw.gL{T:dk}(s:bw T.den)(n:Nat)(hp:ah T.den)(wh:List Nat)(js:List (Nat×kW)):bw T.den:=
 { s with hp:=hp.set n (some .gV),wh:=wh,js:=C8 js n }
def KX{T:dk}{ρ:Type}(s:bw T.den)(n:Nat)(dst:Option Tmp)(b:Bool)(st:kW)(s2:bw T.den)(K:bw T.den→Tr ρ):Tr ρ:=
 match cr s2.js n with
 |some .busy=>(match si s2.js s.hp.length with
  |true=>mT (fX s.hp.length (.lit (.bool b)) s2.hp) fun hp=>bw.fe ⟨s.fn,s.n,s.fr,hp,s.wf,s2.wh,Bv s2.js n st⟩ dst (.lit (.bool b)) [] K
  | false => .no "a round's end")
 | _ => .no "a round's end"
def qC(pr:List Nat)(fs:List fk):Bool:=
 match fs.all fun f=>f.wr.isEmpty with
 |true=>true
 |false=>eO pr fs
def GR{T:dk}(Q:gw)(ev:Operand→SV T.den)(op:Op)(H:ah T.den)(n:Nat)(o':aD T.den):Bool:=
 match op with
 |.store t a _=>(match Q.ty t,ev a,H[n]? with
  |some r,.ref n' _ i j,some (some (.arr _ false _ cur es))=>(match es[i]? with
   |some (.agg l)=>Nat.beq n' n&&Nat.ble (j+r.size) l.length&&((l.drop j).take r.size).all isHole&&Nat.beq cur o'.cur&&Nat.beq es.length o'.len
   |_=>false)
  |_,_,_=>false)
 |_=>false
def uU[ab]{T:dk}(Q:gw)(nm:Nat){ρ:Type}:List Oper→bw T.den→Option Nat→List Nat→(bw T.den→Option Nat→List Nat→Tr ρ)→Tr ρ
 |[],s,ov,rd,K=>K s ov rd
 |o::r,s,ov,rd,K=>(match o.guard with
  | some _ => .no "a look"
  |none=>(match o.op with
   | .call _ => .no "a look"
   |.assign (.const (.slice none 0 0))=>s.fe o.dst (.lit cK) [] fun s=>uU Q nm r s ov rd K
   |op=>NI Q s.hp.length s.hp (cV s.fr) o fun v wr rd'=>(match wr.all fun q=>Nat.ble nm q.1 with
     |true=>s.fe o.dst v wr fun s=>uU Q nm r s ov (rd++rd') K
     |false=>(match ov,wr with
      |none,[(n,o')]=>(match Nat.blt n nm&&GR Q (cV s.fr) op s.hp n o' with
       |true=>s.fe o.dst v [(n,o')] fun s=>uU Q nm r s (some n) (rd++(rd'++[n])) K
       | false => .no "a look")
      | _, _ => .no "a look"))))
def lT[ab]{T:dk}(Q:gw)(nm:Nat){ρ:Type}:Code→bw T.den→Option Nat→List Nat→(Bool→bw T.den→Option Nat→List Nat→Tr ρ)→Tr ρ
 |.skip,s,ov,rd,K=>K false s ov rd
 |.ret,s,ov,rd,K=>K true s ov rd
 |.seq a b,s,ov,rd,K=>lT Q nm a s ov rd fun q s ov rd=>(match q with
  |true=>K true s ov rd
  |false=>lT Q nm b s ov rd K)
 |.region _ ops false,s,ov,rd,K=>uU Q nm ops.toList s ov rd (K false)
 |.cond o a b,s,ov,rd,K=>(match cV s.fr o with
  |.lit (.bool t)=>.cond t (lT Q nm a s ov rd K) (lT Q nm b s ov rd K)
  | _ => .no "a look")
 | _, _, _, _, _ => .no "a look"
def GS{den:Nat→Type}(fr:sG den)(rs:List ResultVar):List Nat:=rs.flatMap fun
 |.tmp _=>[]
 |.cell a _=>mO (cH fr a)
def wR{den:Nat→Type}(fr:sG den)(rs:List ResultVar):Bool:=rs.all fun
 |.tmp _=>true
 |.cell a _=>!bP (cH fr a)
def KY[ab](S:od){ρ:Type}(g:FuncId)(args:List (SV S.T.den))(H:ah S.T.den)(K:EK S.T ρ):Tr ρ:=
 match S.C.kind g,S.C.qY g,S.C.P.funcs[g]? with
 |.imp,none,some fn=>(match fn.body with
  |some c=>(match BU c with
   | true => .no "a look"
   |false=>lT (S.Qf g) H.length c ⟨g,max fn.ntmps args.length,mv 0 args,H,[],[],[]⟩ none [] fun _ s ov rd=>sd S.T S.Q s fn.results.toList fun l=>
   (match bt H.length (qS l)&&wR s.fr fn.results.toList&&(match ov with
     |some n=>(match s.hp[n]? with
      |some o=>jT H.length o
      |none=>false)
     |none=>true) with
   |true=>K (qS l) [] ((rd++GS s.fr fn.results.toList).filter fun n=>Nat.blt n H.length)
   | false => .no "a look's answer"))
  | none => .no "a look")
 | _, _, _ => .no "a call without an answer"
def GU{den:Nat→Type}(P:Program)(v:SV den)(name:String):Option (FuncId×SV den):=
 match v with
 |.fL t x=>(AH P t name).map fun f=>(f,x)
 |_=>none
def Un[ab](S:od){ρ:Type}(nm:Nat)(o:Oper)(s:bw S.T.den)(K:EK S.T ρ):Tr ρ:=
 match o.op with
 |.call c=>
  (match c.callee with
  |.builtin _=>NI (S.Qf s.fn) nm s.hp (cV s.fr) o K
  |.value f=>
   (match lP (cV s.fr f) (c.args.toList.map (cV s.fr)) with
   |none=>.fail
   |some (g,args)=>(match au o.op with
    |true=>(match args.any bP,S.own g with
     |false,some σ=>NK S.T σ nm s.hp args K
     | _, _ => .no "a call of one's own without an answer")
    |false=>(match args.any bP,S.sum g with
     |false,some σ=>H2 S.T σ s.hp args K
     |false,none=>KY S g args s.hp K
     | _, _ => .no "a call without an answer")))
  |.invoke rv name=>
   (match GU S.C.P (cV s.fr rv) name with
   | none => .no "invoke"
   |some (g,x)=>(match (x::c.args.toList.map (cV s.fr)).any bP,S.sum g with
    |false,some σ=>H2 S.T σ s.hp (x::c.args.toList.map (cV s.fr)) K
    | _, _ => .no "a call without an answer")))
 |_=>NI (S.Qf s.fn) nm s.hp (cV s.fr) o K
def KZ[ab]{T:dk}{ρ:Type}(ec:Code→bw T.den→(oV T.den→Tr ρ)→Tr ρ)(eo:Oper→bw T.den→(bw T.den→Tr ρ)→Tr ρ):Code→bw T.den→(oV T.den→Option (SV T.den)→Tr ρ)→Tr ρ
 |.seq x y,s,K=>
  (match sO x with
  |some (ops,v)=>oh ops ops.toList.dropLast fun l=>vW eo l s fun s1=>(match lP (cV s1.fr v) [] with
   |some _=>ec y s1 fun o=>K o (some (cV s1.fr v))
   | none => .no "what is deferred")
  |none=>ec x s fun
   |.norm s'=>KZ ec eo y s' K
   |r=>K r none)
 |c,s,K=>ec c s fun o=>K o none
def C9[ab]{T:dk}{ρ:Type}(ec:Code→bw T.den→(oV T.den→Tr ρ)→Tr ρ)(Q:gw)(P:Program)(rs:List ResultVar)(s:bw T.den)(d:Option (SV T.den))(K:List (SV T.den)→ah T.den→List Nat→List (Nat×kW)→Tr ρ):Tr ρ:=
 match d with
 |none=>sd T Q s rs fun l=>K l s.hp s.wh s.js
 |some v=>(match lP v [] with
  | none => .no "what is deferred"
  |some (g,as)=>(match P.funcs[g]? with
   |none=>.fail
   |some fg=>(match fg.body with
    |none=>.fail
    |some cg=>(match cx cg&&!as.any bP with
     | false => .no "what is deferred"
     |true=>bw.force ⟨g,max fg.ntmps as.length,mv 0 as,s.hp,[],s.wh,s.js⟩ fun t0=>ec (nR cg) t0 fun
      |.norm t|.ret t=>sd T Q t fg.results.toList fun _=>sd T Q ⟨s.fn,s.n,s.fr,t.hp,s.wf,t.wh,t.js⟩ rs fun l=>K l t.hp t.wh t.js
      |.exit _ _=>.fail))))
mutual
def OT[ab](S:od):Nat→(ρ:Type)→FuncId→List (SV S.T.den)→ah S.T.den→List Nat→List (Nat×kW)→(SV S.T.den→ah S.T.den→List Nat→List (Nat×kW)→Tr ρ)→Tr ρ
 | 0, _, _, _, _, _, _, _ => .no "fuel"
 |k+1,ρ,f,args,hp,wh,js,K=>
  match S.C.P.funcs[f]? with
  |none=>.fail
  |some fn=>
   match fn.body with
   |none=>.fail
   |some c=>sb [max fn.ntmps args.length] fun _=>bw.force ⟨f,max fn.ntmps args.length,mv 0 args,hp,[],wh,js⟩ fun s=>
    (match BU c with
    |true=>(match cx c with
     |true=>KZ (fun c s K=>wE S k ρ c s K) (fun o s K=>NM S k ρ o s K) c s fun o d=>(match o with
      |.norm s'|.ret s'=>C9 (fun c s K=>wE S k ρ c s K) S.Q S.C.P fn.results.toList s' d fun l hp wh js=>K (qS l) hp wh js
      |.exit _ _=>.fail)
     | false => .no "a range beside a deferred call")
    |false=>wE S k ρ c s fun
    |.norm s|.ret s=>sd S.T S.Q s fn.results.toList fun l=>K (qS l) s.hp s.wh s.js
    |.exit _ _=>.fail)
def wE[ab](S:od):Nat→(ρ:Type)→Code→bw S.T.den→(oV S.T.den→Tr ρ)→Tr ρ
 | 0, _, _, _, _ => .no "fuel"
 |k+1,ρ,c,s,K=>
  match c with
  |.skip|.label _=>K (.norm s)
  |.ret=>K (.ret s)
  |.exit id=>K (.exit id s)
  |.seq a b=>wE S k ρ a s fun
   |.norm s'=>wE S k ρ b s' K
   |r=>K r
  |.cond o a b=>
   (match cV s.fr o with
   |.lit (.bool t)=>.cond t (wE S k ρ a s K) (wE S k ρ b s K)
   | _ => .no "cond")
  |.block id b=>wE S k ρ b s fun
   |.exit I5 s'=>if I5=id then K (.norm s') else K (.exit I5 s')
   |r=>K r
  |.scope b=>
   (match pf b with
   |some c=>wE S k ρ c s K
   | none => .no "code")
  |.loop b=>
   (match S.hint s.fn (se b s) with
   |none=>(match S.uN s.fn (keyOf b) with
    |true=>wE S k ρ b s fun
     |.norm s'=>(match si s'.js s.hp.length with
      |true=>(jF s.hp.length s').force fun s'=>wE S k ρ (.loop b) s' K
      | false => .no "a round's end")
     |r=>K r
    |false=>.me s b)
   |some h=>
    (match h.ok&&Bt s.n h.aA h.dead&&sf s.hp.length h.aA h.objs,(uT h.aA h.objs s).bind (uK h.jD) with
    |true,some x0=>.loop (τ:=HL S.T.den h.jD) (ω:=y8 S.T.den h.objs h.outs)
      (fun x=>bw.force { c7 h.aA h.dead h.objs [] s (fU h.jD x) with wf:=[],wh:=[] } fun s1=>wE S k _ b s1 fun
        |.norm s'=>
         (match jF s.hp.length s' with
         |tT=>(match decide (tT.js=s.js)&&sg h.aA h.dead h.objs [] s tT,(uT h.aA h.objs tT).bind (uK h.jD) with
          |true,some y=>gW s.hp tT.hp h.objs (.ret (.inl y))
          |_,_=>.bad (se b s) none s tT))
        |.exit id s'=>tE (se b s) h s s' (some id) h.outs fun w=>.ret (.inr w)
        |.ret s'=>tE (se b s) h s s' none h.outs fun w=>.ret (.inr w))
      x0 fun w=>tU h s h.outs w K
    |_,_=>.bad (se b s) none s s))
  |.region id ops draw=>
   (match draw with
   |false=>ya (S.C.iq s.fn id) s fun s=>SB (S.tw s.fn (1000000+id)) s fun s=>oh ops ops.toList fun l=>vW (fun o s K=>NM S k ρ o s K) l s fun s'=>K (.norm s')
   |true=>
    if sN ops=true then
     ya (S.C.iq s.fn id) s fun s1=>SB (S.tw s.fn (1000000+id)) s1 fun s1=>oh ops ops.toList fun l=>x9 (lQ (bD 0 s1.hp.length (ops.toList.take (S.C.head s.fn id ops))) l) fun li=>sh (fun nm o s K=>Un S nm o s K) li
       { s1 with hp:=s1.hp++List.replicate ((ops.toList.take (S.C.head s.fn id ops)).filter fun o=>au o.op).length none } [] fun s' fs=>
      if (qC (ca ops.toList) fs && mE (ca ops.toList) ops.size (S.C.head s.fn id ops)) = true then vW (fun o s K => NM S k ρ o s K) (l.drop (S.C.head s.fn id ops)) s' fun s' => K (.norm s') else .no "an order"
    else .no "a region")
  |.rangeFunc f ps as bd=>
   (match lP (cV s.fr f) [.mp true s.hp.length] with
   |some (g,args)=>(match !args.any bP&&(cX as++cX bd).all (fun d=>!bP (cH s.fr d)||!Nat.blt d s.n) with
    |true=>OT S k ρ g args (s.hp++[some (.oU s.fn ps as bd (wD (cX as++cX bd) s.fr (List.range s.n)))]) s.wh ((s.hp.length,.ready)::s.js) fun _ hp wh js=>
     (match cr js s.hp.length with
     |some .ready=>K (.norm (s.gL s.hp.length hp wh js))
     |some (.jump none)=>K (.ret (s.gL s.hp.length hp wh js))
     |some (.jump (some id))=>K (.exit id (s.gL s.hp.length hp wh js))
     | _ => .no "a range's end")
    | false => .no "a range over what is dead")
   | none => .no "a range")
  | _ => .no "code"
def NM[ab](S:od):Nat→(ρ:Type)→Oper→bw S.T.den→(bw S.T.den→Tr ρ)→Tr ρ
 | 0, _, _, _, _ => .no "fuel"
 |k+1,ρ,o,s,K=>
  match o.op with
  |.call c=>
   (match c.callee with
   |.builtin _=>NI (S.Qf s.fn) s.hp.length s.hp (cV s.fr) o fun v wr _=>s.fe o.dst v wr K
   |.value f=>
    (match lP (cV s.fr f) (c.args.toList.map (cV s.fr)) with
    |none=>(match cV s.fr f with
     |.mp true n=>(match s.hp[n]?,cr s.js n,(c.args.toList.map (cV s.fr)).any bP with
      |some (some (.oU fn ps as bd fr)),some .ready,false=>
       (match Nat.beq c.args.size ps.size with
       |true=>bw.force ⟨fn,fr.length,lR fr.length (mv 0 fr) ps.toList (c.args.toList.map (cV s.fr)),s.hp,[],s.wh,s.js⟩ fun s0=>
        wE S k ρ as s0 fun
        |.norm s1=>(match cr s1.js n with
         |some .ready=>wE S k ρ bd { s1 with js:=Bv s1.js n .busy } fun
          |.norm s2=>KX s n o.dst true .ready s2 K
          |.exit id s2=>KX s n o.dst false (.jump (some id)) s2 K
          |.ret s2=>KX s n o.dst false (.jump none) s2 K
         | _ => .no "a round")
        | _ => .no "a round"
       | false => .no "a round")
      | _, _, _ => .no "a round")
     | _ => .no "what is called")
    |some (g,args)=>(match au o.op with
     |true=>(match args.any bP,S.own g with
      |false,some σ=>NK S.T σ s.hp.length s.hp args fun v wr _=>s.fe o.dst v wr K
      | _, _ => .no "a call of one's own without an answer")
     |false=>(match args.any bP,S.sum g with
     |false,some σ=>H2 S.T σ s.hp args fun v wr _=>s.fe o.dst v wr K
     |false,none=>(match S.C.kind g with
      | .pure => .no "a call without an answer"
      |.imp=>OT S k ρ g args s.hp s.wh s.js fun v hp wh js=>(match si js s.hp.length with
       |true=>mT (fX s.hp.length v hp) fun hp=>bw.fe ⟨s.fn,s.n,s.fr,hp,s.wf,wh,js⟩ o.dst v [] K
       | false => .no "a call's end"))
     | true, _ => .no "a dead argument")))
   |.invoke rv name=>
    (match GU S.C.P (cV s.fr rv) name with
    | none => .no "invoke"
    |some (g,x)=>(match (x::c.args.toList.map (cV s.fr)).any bP,S.sum g with
     |false,some σ=>H2 S.T σ s.hp (x::c.args.toList.map (cV s.fr)) fun v wr _=>s.fe o.dst v wr K
     |false,none=>(match S.C.kind g with
      | .pure => .no "a call without an answer"
      |.imp=>OT S k ρ g (x::c.args.toList.map (cV s.fr)) s.hp s.wh s.js fun v hp wh js=>(match si js s.hp.length with
       |true=>mT (fX s.hp.length v hp) fun hp=>bw.fe ⟨s.fn,s.n,s.fr,hp,s.wf,wh,js⟩ o.dst v [] K
       | false => .no "a call's end"))
     | true, _ => .no "a dead argument")))
  |.assign (.const (.slice none 0 0))=>
   (match o.dst with
   |some d=>
    if S.C.acc s.fn d then
     match S.Q.elem o.type with
     |some r=>if 0<r.size then s.fe (some d) (.bp r.size s.hp.length 0 none none) [(s.hp.length,.arr true true false 0 [])] K else .fail
     |none=>.fail
    else s.fe (some d) (.lit cK) [] K
   |none=>K s)
  |_=>NI (S.Qf s.fn) s.hp.length s.hp (cV s.fr) o fun v wr _=>s.fe o.dst v wr fun s=>C6 (S.C.qP s.fn) o.dst s fun s=>SC (S.tw s.fn) o.dst s K
end
end Go.PI
namespace Go.PI
def K0{den:Nat→Type}(res:List Nat)(v:SV den):List (SV den):=
 match res with
 |[_]=>[v]
 |_=>match v with
  |.jn l=>l
  |_=>[.dead]
def Qh[ab](S:od)(k:Nat)(f:FuncId)(args res:List Nat)(xs:HL S.T.den (args.map .v)):Tr (HL S.T.den (res.map .v)):=
 OT S k _ f (Qa S.T (fU _ xs)) [] [] [] fun v hp _ _=>
  fW S.T hp 1000 v fun v' _=>match (HX S.T res (K0 res v')).bind (uK (res.map .v)) with
  |some r=>.ret r
  | none => .no "a result"
end Go.PI
end
section
/- PS: words for the printed tables of a seat's types. -/
namespace Go.PI
section
variable {den:Nat→Type}{α:Type}
def dI(k:IntKind):SV den→Option Int
 |.lit (.int k' n)=>if k=k' then some n else none
 |_=>none
def dB:SV den→Option Bool
 |.lit (.bool b)=>some b
 |_=>none
def dS:SV den→Option ByteArray
 |.lit (.string s)=>some s
 |_=>none
def SD(d:SV den→Option α):List (SV den)→Option (List α)
 |[]=>some []
 |v::vs=>(d v).bind fun x=>(SD d vs).map fun l=>x::l
def OU(e:Nat)(d:SV den→Option (den e)):SV den→Option (List (den e))
 |.jd t l=>if h:t=e then some (Aa h l) else none
 |.sl vs=>SD d vs
 |.lit (.slice none 0 0)=>some []
 |_=>none
def VO(d:SV den→Option α):SV den→Option α
 |.bc v 0=>d v
 |_=>none
end
abbrev NN{α:Type}(q:α→AV→Prop)(x:List α)(a:AV):Prop:=(∃ l,a=.sl l∧aw q x l)∨(x=[]∧a=.lit cK)
abbrev Uo{α:Type}(q:α→AV→Prop)(x:α)(a:AV):Prop:=∃ b,a=.bc b 0∧q x b
abbrev lc{α:Type}(n m:Nat)(l:List α):Bool:=decide (n+m≤l.length)
def zI:AV:=.lit (.int .i64 0)
def zB:AV:=.lit (.bool false)
def zF:AV:=.lit .nilFunc
def zL:AV:=.lit (.slice none 0 0)
def zS:AV:=.lit (.string ByteArray.empty)
def kI:CK:=.int .i64
def mI:jU:=⟨false,1,8,some zI,.other,none,none⟩
def mF:jU:=⟨false,1,8,some zF,.other,none,none⟩
def mP:jU:=⟨false,1,8,some (.lit (.pointer none)),.other,none,none⟩
def mS:jU:=⟨false,1,16,some zS,.other,none,none⟩
def mL(e:Nat):jU:=⟨false,1,24,some zL,.slice e,none,none⟩
end Go.PI
end
section
/- PS, part C: what a symbolic value stands for. -/
namespace Go.PI
section
variable {α β:Type}{P:α→β→Prop}
theorem aw.length:∀ {l:List α} {m:List β},aw P l m→l.length=m.length
 |[],[],_=>rfl
 |_::_,_::_,h=>by simp[aw.length h.2]
theorem aw.get:∀ {l:List α} {m:List β},aw P l m→∀ {i:Nat} {x:α},l[i]?=some x→∃ y,m[i]?=some y∧P x y
 |x::xs,y::ys,h,0,z,e=>by simp at e; subst e; exact⟨y,rfl,h.1⟩
 |x::xs,y::ys,h,i+1,z,e=>by simp at e ⊢; exact aw.get h.2 e
 |[],[],_,i,z,e=>by simp at e
theorem aw.get':∀ {l:List α} {m:List β},aw P l m→∀ {i:Nat} {y:β},m[i]?=some y→∃ x,l[i]?=some x∧P x y
 |x::xs,y::ys,h,0,z,e=>by simp at e; subst e; exact⟨x,rfl,h.1⟩
 |x::xs,y::ys,h,i+1,z,e=>by simp at e ⊢; exact aw.get' h.2 e
 |[],[],_,i,z,e=>by simp at e
theorem aw.mono{Q:α→β→Prop}(Mv:∀ x y,P x y→Q x y):∀ {l:List α} {m:List β},aw P l m→aw Q l m
 |[],[],_=>trivial
 |_::_,_::_,h=>⟨Mv _ _ h.1,aw.mono Mv h.2⟩
theorem aw.append:∀ {l l':List α} {m m':List β},aw P l m→aw P l' m'→aw P (l++l') (m++m')
 |[],_,[],_,_,h=>h
 |_::_,_,_::_,_,h,h'=>⟨h.1,aw.append h.2 h'⟩
theorem aw.set:∀ {l:List α} {m:List β},aw P l m→∀ (i:Nat) {x:α} {y:β},P x y→aw P (l.set i x) (m.set i y)
 |[],[],_,_,_,_,_=>trivial
 |_::_,_::_,h,0,_,_,hp=>⟨hp,h.2⟩
 |_::_,_::_,h,i+1,_,_,hp=>⟨h.1,aw.set h.2 i hp⟩
theorem aw.drop:∀ {l:List α} {m:List β},aw P l m→∀ i,aw P (l.drop i) (m.drop i)
 |[],[],_,i=>by simp[aw]
 |_::_,_::_,h,0=>h
 |_::_,_::_,h,i+1=>aw.drop h.2 i
theorem aw.take:∀ {l:List α} {m:List β},aw P l m→∀ i,aw P (l.take i) (m.take i)
 |[],[],_,i=>by simp[aw]
 |_::_,_::_,h,0=>trivial
 |_::_,_::_,h,i+1=>⟨h.1,aw.take h.2 i⟩
theorem aw.replicate{x:α}{y:β}(h:P x y):∀ n,aw P (List.replicate n x) (List.replicate n y)
 |0=>trivial
 |n+1=>⟨h,aw.replicate h n⟩
theorem aw.Da{m:List β}(h:aw P [] m):m=[]:=by cases m with
 |nil=>rfl
 |cons y ys=>exact h.elim
theorem aw.dX:∀ {l:List α} {m:List β},l.length=m.length→(∀ (i:Nat) (x:α) (y:β),l[i]?=some x→m[i]?=some y→P x y)→aw P l m
 |[],[],_,_=>trivial
 |x::xs,y::ys,h,hg=>⟨hg 0 x y rfl rfl,aw.dX (by simpa using h) fun i a b ha hb=>hg (i+1) a b (by simpa using ha) (by simpa using hb)⟩
end
variable {T:dk}
def fJ{den:Nat→Type}(H:ah den)(n c aq:Nat):Prop:=
 ∃ o:aD den,H[n]?=some (some o)∧c≤o.cur∧(c=o.cur→aq=o.len)
def VP(a0:AV)(d:Nat)(a:AV):Prop:=
 (∃ n aq k j,a0=.ref n aq k j∧a=.ref n aq k (j+d))∨∃ e j,a0=.bc e j∧a=.bc e (j+d)
mutual
def R(T:dk)(H:ah T.den):SV T.den→AV→Prop
 |.dead,_=>False
 |.hole,a=>a=.any
 |.lit v,a=>a=.lit v
 |.agg l,a=>∃ l',a=.agg l'∧RL T H l l'
 |.jn l,a=>∃ l',a=.jn l'∧RL T H l l'
 |.sl l,a=>∃ l',a=.sl l'∧RL T H l l'∧av l=true
 |.jd t l,a=>(∃ l',a=.sl l'∧aw (T.rp t) l l')∨(l=[]∧a=.lit cK)
 |.bc e j,a=>∃ e',a=.bc e' j∧R T H e e'∧aF e=true
 |.ref n c i j,a=>∃ aq,a=.ref n aq i j∧fJ H n c aq
 |.im n c i j ln cp,a=>∃ aq,a=.im n aq i j ln cp∧fJ H n c aq
 |.bp esz n c rg cap,a=>∃ aq,fJ H n c aq∧(match rg with
  |none=>a=.bp esz n aq 0 aq cap
  |some (off,len)=>a=.bp esz n aq off len cap)
 |.iQ fn f c,a=>∃ f' c',a=.iQ fn f' c'∧RL T H f f'∧RL T H c c'
 |.fL t v,a=>∃ v',a=.fL t v'∧R T H v v'
 |.wC t l c b,a=>(b=true∧∃ l',a=.o7 l' c∧aw (T.rp t) l l')∨(b=false∧l=[]∧(a=.sl []∨a=.lit cK))
 |.nz,a=>a=.nz
 |.mp y n,a=>a=.mp y n∧∃ o:aD T.den,H[n]?=some (some o)
 |.rW v s len i,a=>∃ a0,R T H v a0∧i<len∧VP a0 (i*s) a
def RL(T:dk)(H:ah T.den):List (SV T.den)→List AV→Prop
 |[],[]=>True
 |x::xs,y::ys=>R T H x y∧RL T H xs ys
 |_,_=>False
end
theorem aQ{H:ah T.den}:∀ {l:List (SV T.den)} {m:List AV},RL T H l m↔aw (R T H) l m
 |[],[]=>by simp[RL,aw]
 |x::xs,y::ys=>by simp only[RL,aw]; rw[aQ]
 |[],_::_=>by simp[RL,aw]
 |_::_,[]=>by simp[RL,aw]
def RV(T:dk)(H:ah T.den)(v:SV T.den)(a:AV):Prop:=v=.dead∨R T H v a
theorem RV.live{H:ah T.den}{v:SV T.den}{a:AV}(h:RV T H v a)(hd:bP v=false):R T H v a:=by
 rcases h with h|h
 ·subst h; simp[bP]at hd
 ·exact h
def RD(T:dk)(H:ah T.den)(v:SV T.den)(a:AV):Prop:=(v=.dead∧a=.any)∨R T H v a
def RO(T:dk)(H:ah T.den):aD T.den→aI→Prop
 |.arr g cl f _ es,a=>∃ es',a=.arr g cl f es'∧RL T H es es'∧(cl=true→av es=true)
 |.bX g f _ t l,a=>∃ es',a=.arr g true f es'∧aw (T.rp t) l es'
 |.gV,a=>(∃ g f es',a=.arr g true f es')∨∃ k vs,a=.gd k vs∧∀ n,cO n vs=true
 |.kb kk t m,a=>∃ vs,a=.gd (.map kk (m.map fun q=>kk.v q.1)) vs∧aw (T.rp t) (m.map (·.2)) vs
 |.oU fn ps as bd fr,a=>∃ st vs,a=.gd (.loop fn ps as bd st) vs∧aw (RD T H) fr vs
def Bw(T:dk)(H:ah T.den):Option (aD T.den)→Option aI→Prop
 |none,none=>True
 |some o,some a=>RO T H o a
 |_,_=>False
def RH(T:dk)(H:ah T.den)(hp:ag):Prop:=aw (Bw T H) H hp
def aD.isRec{den:Nat→Type}:aD den→Bool
 |.oU ..=>true
 |_=>false
def recAt{den:Nat→Type}(H:ah den)(n:Nat):Bool:=
 match H[n]? with
 |some (some o)=>o.isRec
 |_=>false
def dm{den:Nat→Type}(H H':ah den):Prop:=
 ∀ (n:Nat) (o:aD den),H[n]?=some (some o)→∃ o':aD den,H'[n]?=some (some o')∧o.cur≤o'.cur∧(o'.cur=o.cur→o'.len=o.len)
theorem dm.refl{den:Nat→Type}(H:ah den):dm H H:=fun _ o h=>⟨o,h,Nat.le_refl _,fun _=>rfl⟩
theorem dm.trans{den:Nat→Type}{H H' X4:ah den}(h:dm H H')(h':dm H' X4):dm H X4:=by
 intro n o ho
 obtain⟨o',h1,h2,h3⟩:=h n o ho
 obtain⟨VQ,h4,h5,h6⟩:=h' n o' h1
 exact⟨VQ,h4,Nat.le_trans h2 h5,fun e=>by rw[h6 (by omega),h3 (by omega)]⟩
theorem fJ.mono{den:Nat→Type}{H H':ah den}(h:dm H H'){n c aq:Nat}(hv:fJ H n c aq):fJ H' n c aq:=by
 obtain⟨o,h1,h2,h3⟩:=hv
 obtain⟨o',h4,h5,h6⟩:=h n o h1
 exact⟨o',h4,Nat.le_trans h2 h5,fun e=>by rw[h3 (by omega),h6 (by omega)]⟩
mutual
theorem R.mono{H H':ah T.den}(hg:dm H H'):∀ {v:SV T.den} {a:AV},R T H v a→R T H' v a
 |.dead,_,h=>by simp[R]at h
 |.hole,a,h=>by simpa[R] using h
 |.lit v,a,h=>by simpa[R] using h
 |.agg l,a,h=>by
  simp only[R]at h ⊢
  obtain⟨l',h1,h2⟩:=h
  exact⟨l',h1,RL.mono hg h2⟩
 |.jn l,a,h=>by
  simp only[R]at h ⊢
  obtain⟨l',h1,h2⟩:=h
  exact⟨l',h1,RL.mono hg h2⟩
 |.sl l,a,h=>by
  simp only[R]at h ⊢
  obtain⟨l',h1,h2,h3⟩:=h
  exact⟨l',h1,RL.mono hg h2,h3⟩
 |.jd t l,a,h=>by simpa[R] using h
 |.wC t l c b,a,h=>by simp only[R]at h ⊢; exact h
 |.nz,a,h=>by simp only[R]at h ⊢; exact h
 |.bc e j,a,h=>by
  simp only[R]at h ⊢
  obtain⟨e',h1,h2,h3⟩:=h
  exact⟨e',h1,R.mono hg h2,h3⟩
 |.ref n c i j,a,h=>by
  simp only[R]at h ⊢
  obtain⟨aq,h1,h2⟩:=h
  exact⟨aq,h1,h2.mono hg⟩
 |.im n c i j ln cp,a,h=>by
  simp only[R]at h ⊢
  obtain⟨aq,h1,h2⟩:=h
  exact⟨aq,h1,h2.mono hg⟩
 |.bp esz n c rg cap,a,h=>by
  simp only[R]at h ⊢
  obtain⟨aq,h1,h2⟩:=h
  exact⟨aq,h1.mono hg,h2⟩
 |.iQ fn f c,a,h=>by
  simp only[R]at h ⊢
  obtain⟨f',c',h1,h2,h3⟩:=h
  exact⟨f',c',h1,RL.mono hg h2,RL.mono hg h3⟩
 |.fL t v,a,h=>by
  simp only[R]at h ⊢
  obtain⟨v',h1,h2⟩:=h
  exact⟨v',h1,R.mono hg h2⟩
 |.mp y n,a,h=>by
  simp only[R]at h ⊢
  obtain⟨h1,o,h2⟩:=h
  obtain⟨o',h3,_⟩:=hg n o h2
  exact⟨h1,o',h3⟩
 |.rW v s len i,a,h=>by
  simp only[R]at h ⊢
  obtain⟨a0,h1,h2,h3⟩:=h
  exact⟨a0,R.mono hg h1,h2,h3⟩
theorem RL.mono{H H':ah T.den}(hg:dm H H'):∀ {l:List (SV T.den)} {m:List AV},RL T H l m→RL T H' l m
 |[],[],_=>by simp[RL]
 |x::xs,y::ys,h=>by
  simp only[RL]at h ⊢
  exact⟨R.mono hg h.1,RL.mono hg h.2⟩
 |[],_::_,h=>by simp[RL]at h
 |_::_,[],h=>by simp[RL]at h
end
theorem RV.mono[ab]{H H':ah T.den}(hg:dm H H'){v:SV T.den}{a:AV}(h:RV T H v a):RV T H' v a:=h.imp id (R.mono hg)
theorem RO.mono[ab]{H H':ah T.den}(hg:dm H H'){o:aD T.den}{a:aI}(h:RO T H o a):RO T H' o a:=by
 cases o with
 |arr g cl f cur es=>
  obtain⟨es',h1,h2,h3⟩:=h
  exact⟨es',h1,RL.mono hg h2,h3⟩
 |bX g f cur t l=>exact h
 |gV=>exact h
 |kb kk t m=>exact h
 |oU fn ps as bd fr=>
  obtain⟨st,vs,h1,h2⟩:=h
  exact⟨st,vs,h1,aw.mono (fun _ _ h=>h.imp id (R.mono hg)) h2⟩
theorem Bw.mono[ab]{H H':ah T.den}(hg:dm H H'){o:Option (aD T.den)}{a:Option aI}(h:Bw T H o a):Bw T H' o a:=by
 cases o<;>cases a<;>first|exact h|exact RO.mono hg h
theorem RH.length[ab]{H:ah T.den}{hp:ag}(h:RH T H hp):H.length=hp.length:=aw.length h
theorem RH.obj[ab]{H:ah T.den}{hp:ag}(h:RH T H hp){n:Nat}{o:aD T.den}(ho:H[n]?=some (some o)):∃ a,hp[n]?=some (some a)∧RO T H o a:=by
 obtain⟨a,h1,h2⟩:=aw.get h ho
 cases a with
 |none=>exact h2.elim
 |some a=>exact⟨a,h1,h2⟩
theorem RH.Ra[ab]{H:ah T.den}{hp:ag}(h:RH T H hp){n:Nat}{o o':aD T.den}{a':aI}(ho:H[n]?=some (some o))(hc:o.cur≤o'.cur)(hl:o'.cur=o.cur→o'.len=o.len)
  (hr:RO T H o' a'):dm H (H.set n (some o'))∧RH T (H.set n (some o')) (hp.set n (some a')):=by
 have hg:dm H (H.set n (some o')):=by
  intro m q hq
  by_cases e:m=n
  ·grind
  ·grind
 exact⟨hg,aw.set (aw.mono (fun _ _=>Bw.mono hg) h) n (show Bw T _ (some o') (some a') from RO.mono hg hr)⟩
theorem RH.new[ab]{H:ah T.den}{hp:ag}(h:RH T H hp){nm:Nat}{o':aD T.den}{a':aI}(hn:nm=H.length∨H[nm]?=some .none)(hr:RO T H o' a'):
  dm H (bL H nm o')∧RH T (bL H nm o') (setObj hp nm a'):=by
 have hlen:=h.length
 unfold bL setObj
 by_cases e:nm=H.length
 ·rw[if_pos e,if_pos (by omega)]
  have hg:dm H (H++[some o']):=by
   intro m q hq
   have cd:=(List.getElem?_eq_some_iff.1 hq).1
   exact⟨q,by rw[List.getElem?_append_left cd]; exact hq,Nat.le_refl _,fun _=>rfl⟩
  exact⟨hg,aw.append (aw.mono (fun _ _=>Bw.mono hg) h) ⟨RO.mono hg hr,trivial⟩⟩
 ·rw[if_neg e,if_neg (by omega)]
  have hn:H[nm]?=some .none:=hn.resolve_left e
  have hg:dm H (H.set nm (some o')):=by
   intro m q hq
   by_cases e:m=nm
   ·subst e; rw[hn]at hq; simp at hq
   ·grind
  exact⟨hg,aw.set (aw.mono (fun _ _=>Bw.mono hg) h) nm (show Bw T _ (some o') (some a') from RO.mono hg hr)⟩
structure dk.Ok(T:dk):Prop where
 up:∀ t x a H,T.rp t x a→R T H (T.up t x) a
 dn:∀ t v x a H,T.dn t v=some x→R T H v a→T.rp t x a
 ok:∀ t x a,T.rp t x a→aG (T.agg t) (T.size t) a=true
 closed:∀ t x a,T.rp t x a→closed a=true
 alt:∀ t f,T.alt t=some f→∀ x,(bif f.1 x then f.2.1 x else f.2.2 x)=T.up t x
theorem GV{T:dk}(hT:T.Ok){ρ:Type}(t:Nat)(x:T.den t)(K:SV T.den→Tr ρ):(Um t x K).run=(K (T.up t x)).run:=by
 unfold Um
 split
 ·rfl
 ·rename_i f hf
  have h:=hT.alt t f hf x
  simp only[Tr.run]
  cases hb:f.1 x<;>rw[hb]at h<;>rw[←h]<;>rfl
theorem ji{den:Nat→Type}:∀ (l:List (SV den)),av l=l.all aF
 |[]=>rfl
 |x::xs=>by simp only[av,List.all_cons]; rw[ji xs]
theorem jH[ab]{den:Nat→Type}{l:List (SV den)}(h:av l=true){x:SV den}(hx:x∈l):aF x=true:=by
 rw[ji]at h
 exact List.all_eq_true.1 h x hx
theorem k8[ab]{den:Nat→Type}{l:List (SV den)}(h:∀ x,x∈l→aF x=true):av l=true:=by
 rw[ji]
 exact List.all_eq_true.2 h
theorem mA[ab]{den:Nat→Type}{l:List (SV den)}(h:av l=true)(a b:Nat):av ((l.drop a).take b)=true:=
 k8 fun _ hx=>jH h (List.mem_of_mem_drop (List.mem_of_mem_take hx))
theorem Fz[ab]{den:Nat→Type}{l m:List (SV den)}(h:av l=true)(h':av m=true):av (l++m)=true:=
 k8 fun _ hx=>(List.mem_append.1 hx).elim (jH h) (jH h')
theorem sj[ab]{den:Nat→Type}{l:List (SV den)}(h:av l=true){x:SV den}(hx:aF x=true)(i:Nat):av (l.set i x)=true:=
 k8 fun _ hy=>(List.mem_or_eq_of_mem_set hy).elim (jH h) fun e=>e▸hx
theorem oO[ab]{den:Nat→Type}:∀ {cs l:List (SV den)} (j:Nat),av l=true→av cs=true→av (iG l j cs)=true
 |[],_,_,h,_=>h
 |x::xs,l,j,h,hc=>by
  simp only[av,Bool.and_eq_true]at hc
  simp only[iG]
  exact oO (j+1) (sj h hc.1 j) hc.2
theorem yd[ab]{den:Nat→Type}{e e':SV den}{j:Nat}{cs:List (SV den)}(h:fT e j cs=some e')(he:aF e=true)(hc:av cs=true):aF e'=true:=by
 unfold fT at h
 split at h
 ·split at h
  case isFalse=>simp at h
  simp only[Option.some.injEq]at h
  subst h
  simp only[aF]at he ⊢
  exact oO j he hc
 ·grind[av]
theorem zb[ab]{den:Nat→Type}(v:SV den):av (bK v)=aF v:=by
 cases v with
 |lit v=>
  simp only[bK,aF]
  exact k8 fun x hx=>by obtain⟨y,_,rfl⟩:=List.mem_map.1 hx; rfl
 |agg l=>rfl
 |_=>simp[bK,av]
theorem oP[ab]{den:Nat→Type}:∀ {ps:List (Nat×SV den)} {es:List (SV den)},av es=true→av (ps.map (·.2))=true→av (fh es ps)=true
 |[],_,h,_=>h
 |(i,v)::ps,es,h,hc=>by
  simp only[List.map_cons,av,Bool.and_eq_true]at hc
  simp only[fh]
  exact oP (sj h hc.1 i) hc.2
theorem tF[ab]{den:Nat→Type}{a:AV}{v:SV den}(h:(gv a:Option (SV den))=some v):aF v=true:=by
 cases a with
 |lit x=>simp[gv]at h; subst h; rfl
 |agg l=>
  simp only[gv,Option.map_eq_some_iff]at h
  obtain⟨c,_,rfl⟩:=h
  simp only[aF]
  exact k8 fun x hx=>by obtain⟨y,_,rfl⟩:=List.mem_map.1 hx; rfl
 |_=>simp[gv]at h
end Go.PI
end
section
/- PS, part D: parts of values, by value, flat, below: on both sides alike. -/
namespace Go.PI
def aE{α:Type}(hp:ag)(r:RM α)(a:α)(rd:List Nat):Prop:=r.run hp=some a∧∀ n,n∈r.log hp→n∈rd
section
variable {α β:Type}{hp:ag}
theorem aE.pure(a:α):aE hp (pure a:RM α) a []:=⟨rfl,fun n h=>by simp[Pure.pure,RM.log]at h⟩
theorem aE.ret(a:α):aE hp (RM.ret a:RM α) a []:=⟨rfl,fun n h=>by simp[RM.log]at h⟩
theorem aE.mono{r:RM α}{a:α}{rd rd':List Nat}(h:aE hp r a rd)(hs:∀ n,n∈rd→n∈rd'):aE hp r a rd':=⟨h.1,fun n hn=>hs n (h.2 n hn)⟩
theorem aE.bind[ab]{r:RM α}{f:α→RM β}{a:α}{b:β}{rd rd':List Nat}(h:aE hp r a rd)(h':aE hp (f a) b rd'):aE hp (r >>= f) b (rd++rd'):=by
 refine⟨by rw[RM.run_bind,h.1]; exact h'.1,fun n hn=>?_⟩
 rw[RM.eh,h.1]at hn
 simp only[List.mem_append]at hn ⊢
 exact hn.imp (h.2 n) (h'.2 n)
theorem aE.get{n:Nat}{k:aI→RM α}{o:aI}{a:α}{rd:List Nat}(ho:hp[n]?=some (some o))(h:aE hp (k o) a rd):aE hp (.get n k) a (n::rd):=by
 refine⟨by simp[RM.run,ho,h.1],fun m hm=>?_⟩
 simp only[RM.log,ho,List.mem_cons]at hm ⊢
 exact hm.imp id (h.2 m)
theorem aE.arr[ab]{n aq:Nat}{g c f:Bool}{es:List AV}(ho:hp[n]?=some (some (.arr g c f es)))(hl:es.length=aq):aE hp (RM.arr n aq) (g,c,f,es) [n]:=by
 refine aE.get ho ?_
 simp only[hl,if_true]
 exact aE.ret _
theorem aE.eD[ab]{x:Option α}{a:α}(h:x=some a):aE hp (RM.eD x) a []:=by subst h; exact aE.ret a
end
variable {T:dk}
mutual
theorem R.closed{H:ah T.den}:∀ {v:SV T.den} {a:AV},R T H v a→aF v=closed a
 |.dead,a,h=>by simp[R]at h
 |.hole,a,h=>by simp only[R]at h; subst h; rfl
 |.lit v,a,h=>by simp only[R]at h; subst h; rfl
 |.agg l,a,h=>by
  simp only[R]at h
  obtain⟨l',rfl,h2⟩:=h
  simp only[aF,Go.PI.closed]; exact RL.closed h2
 |.jn l,a,h=>by
  simp only[R]at h
  obtain⟨l',rfl,h2⟩:=h
  simp only[aF,Go.PI.closed]; exact RL.closed h2
 |.sl l,a,h=>by
  simp only[R]at h
  obtain⟨l',rfl,h2⟩:=h
  rfl
 |.jd t l,a,h=>by
  simp only[R]at h
  rcases h with ⟨l',rfl,_⟩|⟨_,rfl⟩<;>rfl
 |.wC t l c b,a,h=>by
  simp only[R]at h
  rcases h with ⟨_,l',rfl,_⟩|⟨_,_,rfl|rfl⟩<;>rfl
 |.nz,a,h=>by
  simp only[R]at h
  subst h; rfl
 |.bc e j,a,h=>by
  simp only[R]at h
  obtain⟨e',rfl,h2⟩:=h
  rfl
 |.ref n c i j,a,h=>by
  simp only[R]at h
  obtain⟨aq,rfl,h2⟩:=h
  rfl
 |.im n c i j ln cp,a,h=>by
  simp only[R]at h
  obtain⟨aq,rfl,h2⟩:=h
  rfl
 |.bp esz n c rg cap,a,h=>by
  simp only[R]at h
  obtain⟨aq,h1,h2⟩:=h
  rcases rg with _|⟨off,len⟩<;>simp only at h2<;>subst h2<;>rfl
 |.iQ fn f c,a,h=>by
  simp only[R]at h
  obtain⟨f',c',rfl,h2,h3⟩:=h
  simp only[aF,Go.PI.closed]; rw[RL.closed h2,RL.closed h3]
 |.fL t v,a,h=>by
  simp only[R]at h
  obtain⟨v',rfl,h2⟩:=h
  simp only[aF,Go.PI.closed]; exact R.closed h2
 |.mp y n,a,h=>by
  simp only[R]at h
  obtain⟨rfl,_⟩:=h
  rfl
 |.rW v s len i,a,h=>by
  simp only[R]at h
  obtain⟨a0,h1,_,h2⟩:=h
  have:=R.closed h1
  simp only[aF]
  rcases h2 with ⟨n,aq,k,j,rfl,rfl⟩|⟨e,j,rfl,rfl⟩<;>exact this
theorem RL.closed{H:ah T.den}:∀ {l:List (SV T.den)} {m:List AV},RL T H l m→av l=aY m
 |[],[],_=>rfl
 |x::xs,y::ys,h=>by
  simp only[RL]at h
  simp only[av,aY]; rw[R.closed h.1,RL.closed h.2]
 |[],_::_,h=>by simp[RL]at h
 |_::_,[],h=>by simp[RL]at h
end
mutual
theorem R.below{H:ah T.den}{k:Nat}:∀ {v:SV T.den} {a:AV},R T H v a→bt k v=below k a
 |.dead,a,h=>by simp[R]at h
 |.hole,a,h=>by simp only[R]at h; subst h; rfl
 |.lit v,a,h=>by simp only[R]at h; subst h; rfl
 |.agg l,a,h=>by
  simp only[R]at h
  obtain⟨l',rfl,h2⟩:=h
  simp only[bt,Go.PI.below]; exact RL.below h2
 |.jn l,a,h=>by
  simp only[R]at h
  obtain⟨l',rfl,h2⟩:=h
  simp only[bt,Go.PI.below]; exact RL.below h2
 |.sl l,a,h=>by
  simp only[R]at h
  obtain⟨l',rfl,h2⟩:=h
  rfl
 |.jd t l,a,h=>by
  simp only[R]at h
  rcases h with ⟨l',rfl,_⟩|⟨_,rfl⟩<;>rfl
 |.wC t l c b,a,h=>by
  simp only[R]at h
  rcases h with ⟨_,l',rfl,_⟩|⟨_,_,rfl|rfl⟩<;>rfl
 |.nz,a,h=>by
  simp only[R]at h
  subst h; rfl
 |.bc e j,a,h=>by
  simp only[R]at h
  obtain⟨e',rfl,h2⟩:=h
  rfl
 |.ref n c i j,a,h=>by
  simp only[R]at h
  obtain⟨aq,rfl,h2⟩:=h
  rfl
 |.im n c i j ln cp,a,h=>by
  simp only[R]at h
  obtain⟨aq,rfl,h2⟩:=h
  rfl
 |.bp esz n c rg cap,a,h=>by
  simp only[R]at h
  obtain⟨aq,h1,h2⟩:=h
  rcases rg with _|⟨off,len⟩<;>simp only at h2<;>subst h2<;>rfl
 |.iQ fn f c,a,h=>by
  simp only[R]at h
  obtain⟨f',c',rfl,h2,h3⟩:=h
  simp only[bt,Go.PI.below]; rw[RL.below h2,RL.below h3]
 |.fL t v,a,h=>by
  simp only[R]at h
  obtain⟨v',rfl,h2⟩:=h
  simp only[bt,Go.PI.below]; exact R.below h2
 |.mp y n,a,h=>by
  simp only[R]at h
  obtain⟨rfl,_⟩:=h
  rfl
 |.rW v s len i,a,h=>by
  simp only[R]at h
  obtain⟨a0,h1,_,h2⟩:=h
  have:=R.below (k:=k) h1
  simp only[bt]
  rcases h2 with ⟨n,aq,k,j,rfl,rfl⟩|⟨e,j,rfl,rfl⟩<;>exact this
theorem RL.below{H:ah T.den}{k:Nat}:∀ {l:List (SV T.den)} {m:List AV},RL T H l m→gu k l=cO k m
 |[],[],_=>rfl
 |x::xs,y::ys,h=>by
  simp only[RL]at h
  simp only[gu,cO]; rw[R.below h.1,RL.below h.2]
 |[],_::_,h=>by simp[RL]at h
 |_::_,[],h=>by simp[RL]at h
end
mutual
theorem R.names{H:ah T.den}:∀ {v:SV T.den} {a:AV},R T H v a→mO v=names a
 |.dead,a,h=>by simp[R]at h
 |.hole,a,h=>by simp only[R]at h; subst h; rfl
 |.lit v,a,h=>by simp only[R]at h; subst h; rfl
 |.agg l,a,h=>by
  simp only[R]at h
  obtain⟨l',rfl,h2⟩:=h
  simp only[mO,Go.PI.names]; exact RL.names h2
 |.jn l,a,h=>by
  simp only[R]at h
  obtain⟨l',rfl,h2⟩:=h
  simp only[mO,Go.PI.names]; exact RL.names h2
 |.sl l,a,h=>by
  simp only[R]at h
  obtain⟨l',rfl,h2⟩:=h
  rfl
 |.jd t l,a,h=>by
  simp only[R]at h
  rcases h with ⟨l',rfl,_⟩|⟨_,rfl⟩<;>rfl
 |.wC t l c b,a,h=>by
  simp only[R]at h
  rcases h with ⟨_,l',rfl,_⟩|⟨_,_,rfl|rfl⟩<;>rfl
 |.nz,a,h=>by
  simp only[R]at h
  subst h; rfl
 |.bc e j,a,h=>by
  simp only[R]at h
  obtain⟨e',rfl,h2⟩:=h
  rfl
 |.ref n c i j,a,h=>by
  simp only[R]at h
  obtain⟨aq,rfl,h2⟩:=h
  rfl
 |.im n c i j ln cp,a,h=>by
  simp only[R]at h
  obtain⟨aq,rfl,h2⟩:=h
  rfl
 |.bp esz n c rg cap,a,h=>by
  simp only[R]at h
  obtain⟨aq,h1,h2⟩:=h
  rcases rg with _|⟨off,len⟩<;>simp only at h2<;>subst h2<;>rfl
 |.iQ fn f c,a,h=>by
  simp only[R]at h
  obtain⟨f',c',rfl,h2,h3⟩:=h
  simp only[mO,Go.PI.names]; rw[RL.names h2,RL.names h3]
 |.fL t v,a,h=>by
  simp only[R]at h
  obtain⟨v',rfl,h2⟩:=h
  simp only[mO,Go.PI.names]; exact R.names h2
 |.mp y n,a,h=>by
  simp only[R]at h
  obtain⟨rfl,_⟩:=h
  rfl
 |.rW v s len i,a,h=>by
  simp only[R]at h
  obtain⟨a0,h1,_,h2⟩:=h
  have:=R.names h1
  simp only[mO]
  rcases h2 with ⟨n,aq,k,j,rfl,rfl⟩|⟨e,j,rfl,rfl⟩<;>exact this
theorem RL.names{H:ah T.den}:∀ {l:List (SV T.den)} {m:List AV},RL T H l m→kR l=bR m
 |[],[],_=>rfl
 |x::xs,y::ys,h=>by
  simp only[RL]at h
  simp only[kR,bR]; rw[R.names h.1,RL.names h.2]
 |[],_::_,h=>by simp[RL]at h
 |_::_,[],h=>by simp[RL]at h
end
theorem R.leaf{H:ah T.den}{v:SV T.den}{a:AV}(h:R T H v a):gr v=ba a:=by
 cases v with
 |dead=>simp[R]at h
 |hole=>simp only[R]at h; subst h; rfl
 |lit v=>simp only[R]at h; subst h; rfl
 |agg l=>simp only[R]at h; obtain⟨l',rfl,h2⟩:=h; rfl
 |jn l=>simp only[R]at h; obtain⟨l',rfl,h2⟩:=h; rfl
 |sl l=>simp only[R]at h; obtain⟨l',rfl,h2⟩:=h; rfl
 |jd t l=>simp only[R]at h; rcases h with ⟨l',rfl,_⟩|⟨_,rfl⟩<;>rfl
 |wC t l c b=>simp only[R]at h; rcases h with ⟨_,l',rfl,_⟩|⟨_,_,rfl|rfl⟩<;>rfl
 |nz=>simp only[R]at h; subst h; rfl
 |bc e j=>simp only[R]at h; obtain⟨e',rfl,h2⟩:=h; rfl
 |ref n c i j=>simp only[R]at h; obtain⟨aq,rfl,h2⟩:=h; rfl
 |im n c i j ln cp=>simp only[R]at h; obtain⟨aq,rfl,h2⟩:=h; rfl
 |bp esz n c rg cap=>
  simp only[R]at h
  obtain⟨aq,h1,h2⟩:=h
  rcases rg with _|⟨off,len⟩<;>simp only at h2<;>subst h2<;>rfl
 |iQ fn f c=>simp only[R]at h; obtain⟨f',c',rfl,h2,h3⟩:=h; rfl
 |fL t v=>simp only[R]at h; obtain⟨v',rfl,h2⟩:=h; rfl
 |mp y n=>simp only[R]at h; obtain⟨rfl,h2⟩:=h; rfl
 |rW v s len i=>simp only[R]at h; obtain⟨a0,_,_,h2⟩:=h; rcases h2 with ⟨n,aq,k,j,rfl,rfl⟩|⟨e,j,rfl,rfl⟩<;>rfl
theorem R.FA{H:ah T.den}{v:SV T.den}{a:AV}(h:R T H v a)(hv:∀ l,v≠.agg l):∀ l,a≠.agg l:=by
 intro l e
 subst e
 cases v with
 |dead=>simp[R]at h
 |hole=>simp[R]at h
 |lit v=>simp[R]at h
 |agg l=>exact hv l rfl
 |jn l=>simp[R]at h
 |sl l=>simp[R]at h
 |jd t l=>simp[R]at h
 |bc e j=>simp[R]at h
 |ref n c i j=>simp[R]at h
 |im n c i j ln cp=>simp[R]at h
 |bp esz n c rg cap=>
  grind[R]
 |iQ fn f c=>simp[R]at h
 |fL t v=>simp[R]at h
 |mp y n=>simp[R]at h
 |rW v s len i=>simp[R,VP]at h
 |wC t l c b=>simp[R]at h
 |nz=>simp[R]at h
theorem RL.length[ab]{H:ah T.den}{l:List (SV T.den)}{m:List AV}(h:RL T H l m):l.length=m.length:=aw.length (aQ.1 h)
theorem RL.lits{H:ah T.den}:∀ (c:List Value),RL T H (c.map .lit) (c.map .lit)
 |[]=>by simp[RL]
 |v::vs=>by simp only[List.map_cons,RL]; exact⟨by simp[R],RL.lits vs⟩
theorem R.cells[ab]{H:ah T.den}{v:SV T.den}{a:AV}(h:R T H v a):RL T H (bK v) (cellsOf a):=by
 cases v with
 |dead=>simp[R]at h
 |hole=>simp_all[R,bK,cellsOf,RL]
 |lit v=>simp only[R]at h; subst h; exact RL.lits _
 |agg l=>simp only[R]at h; obtain⟨l',rfl,h2⟩:=h; exact h2
 |jd t l=>
  have h':=h
  simp only[R]at h
  rcases h with ⟨l',rfl,_⟩|⟨_,rfl⟩
  ·simp_all[bK,cellsOf,RL]
  ·show RL T H [_] [AV.lit cK]
   simp only[RL]; exact⟨h',trivial⟩
 |jn l=>grind[R,bK,cellsOf,RL]
 |sl l=>grind[R,bK,cellsOf,RL]
 |bc e j=>grind[R,bK,cellsOf,RL]
 |ref n c i j=>grind[R,bK,cellsOf,RL]
 |im n c i j ln cp=>grind[R,bK,cellsOf,RL]
 |bp esz n c rg cap=>
  grind[R,bK,cellsOf,RL]
 |iQ fn f c=>grind[R,bK,cellsOf,RL]
 |fL t v=>grind[R,bK,cellsOf,RL]
 |nz=>
  simp_all[R,bK,cellsOf,RL]
 |wC t l c b=>
  have h':=h
  simp only[R]at h
  rcases h with ⟨_,l',rfl,_⟩|⟨_,_,rfl|rfl⟩
  ·simp_all[bK,cellsOf,RL]
  ·simp_all[bK,cellsOf,RL]
  ·show RL T H [_] [AV.lit cK]
   simp only[RL]; exact⟨h',trivial⟩
 |mp y n=>simp_all[R,bK,cellsOf,RL]
 |rW v s len i=>
  have h':=h
  simp only[R]at h
  obtain⟨a0,_,_,h2⟩:=h
  rcases h2 with ⟨n,aq,k,j,rfl,rfl⟩|⟨e,j,rfl,rfl⟩<;>simp only[bK,cellsOf,RL]<;>exact⟨h',trivial⟩
theorem RL.all{H:ah T.den}{p:SV T.den→Bool}{q:AV→Bool}(Mv:∀ v a,R T H v a→p v=q a):∀ {l:List (SV T.den)} {m:List AV},RL T H l m→l.all p=m.all q
 |[],[],_=>rfl
 |x::xs,y::ys,h=>by
  simp only[RL]at h
  simp only[List.all_cons]; rw[Mv _ _ h.1,RL.all Mv h.2]
 |[],_::_,h=>by simp[RL]at h
 |_::_,[],h=>by simp[RL]at h
theorem RL.Db[ab]{H:ah T.den}{l:List (SV T.den)}{m:List AV}(h:RL T H l m):l.all gr=m.all ba:=RL.all (fun _ _=>R.leaf) h
theorem Dc{agg:Bool}{size:Nat}{a:AV}{j:Nat}(ha:∀ l,a≠.agg l):eE agg size a j=if !agg&&ba a&&decide (j=0) then some a else none:=by
 cases a<;>first|rfl|exact absurd rfl (ha _)
theorem Dd{agg:Bool}{size:Nat}{v:SV T.den}{j:Nat}(ha:∀ l,v≠.agg l):nI agg size v j=if !agg&&gr v&&decide (j=0) then some v else none:=by
 cases v<;>first|rfl|exact absurd rfl (ha _)
theorem R.part[ab]{H:ah T.den}{agg:Bool}{size:Nat}{v x:SV T.den}{a:AV}{j:Nat}(h:R T H v a)(hp:nI agg size v j=some x):∃ b,eE agg size a j=some b∧R T H x b:=by
 by_cases hv:∃ l,v=.agg l
 ·obtain⟨l,rfl⟩:=hv
  simp only[R]at h
  obtain⟨l',rfl,h2⟩:=h
  have hl:=h2.length
  cases agg with
  |true=>
   simp only[nI,if_true]at hp
   split at hp
   case isFalse=>simp at hp
   simp only[Option.some.injEq]at hp
   subst hp
   refine⟨_,by simp only[eE,if_true]; rw[if_pos (by omega)],?_⟩
   simp only[R]
   exact⟨_,rfl,aQ.2 (((aQ.1 h2).drop j).take size)⟩
  |false=>
   simp only[nI,Bool.false_eq_true,if_false]at hp
   obtain⟨b,h3,h4⟩:=aw.get (aQ.1 h2) hp
   exact⟨b,by simpa[eE] using h3,h4⟩
 ·have jP:∀ l,v≠.agg l:=fun l e=>hv ⟨l,e⟩
  rw[Dd jP]at hp
  rw[Dc (h.FA jP),←h.leaf]
  split at hp
  case isFalse=>simp at hp
  rename_i hc
  simp only[Option.some.injEq]at hp
  subst hp
  exact⟨a,by rw[if_pos hc],h⟩
theorem RL.setCells[ab]{H:ah T.den}:∀ {cs:List (SV T.den)} {mb:List AV} {l:List (SV T.den)} {l':List AV} (j:Nat),RL T H l l'→RL T H cs mb→RL T H (iG l j cs) (setCells l' j mb)
 |[],[],l,l',j,h,_=>h
 |x::xs,y::ys,l,l',j,h,hc=>by
  simp only[RL]at hc
  simp only[iG,Go.PI.setCells]
  exact RL.setCells (j+1) (aQ.2 ((aQ.1 h).set j hc.1)) hc.2
 |[],_::_,_,_,_,_,h=>by simp[RL]at h
 |_::_,[],_,_,_,_,h=>by simp[RL]at h
theorem zc{a y:AV}{j:Nat}(ha:∀ l,a≠.agg l)(hl:ba a=true)(hj:j=0):iR a j [y]=some y:=by
 simp_all[iR,hl]
theorem ye{v e':SV T.den}{cs:List (SV T.den)}{j:Nat}(ha:∀ l,v≠.agg l)(h:fT v j cs=some e'):∃ y,cs=[y]∧e'=y∧gr v=true∧j=0:=by
 match cs with
 |[]=>simp_all[fT]
 |[y]=>simp_all[fT]
 |_::_::_=>simp_all[fT]
theorem R.iR[ab]{H:ah T.den}{v e':SV T.den}{a:AV}{j:Nat}{cs:List (SV T.den)}{mb:List AV}(h:R T H v a)(hc:RL T H cs mb)(hp:fT v j cs=some e'):
  ∃ b,Go.PI.iR a j mb=some b∧R T H e' b:=by
 by_cases hv:∃ l,v=.agg l
 ·obtain⟨l,rfl⟩:=hv
  simp only[R]at h
  obtain⟨l',rfl,h2⟩:=h
  simp only[fT]at hp
  split at hp
  case isFalse=>simp at hp
  simp only[Option.some.injEq]at hp
  subst hp
  have h3:=h2.length
  have h4:=hc.length
  exact⟨_,by simp only[Go.PI.iR]; rw[if_pos (by omega)],by simp only[R]; exact⟨_,rfl,RL.setCells j h2 hc⟩⟩
 ·have jP:∀ l,v≠.agg l:=fun l e=>hv ⟨l,e⟩
  obtain⟨y,rfl,rfl,h3,h4⟩:=ye jP hp
  match mb,hc with
  |[b],hc=>
   simp only[RL]at hc
   exact⟨b,zc (h.FA jP) (by rw[←h.leaf]; exact h3) h4,hc.1⟩
  |[],hc=>simp[RL]at hc
  |_::_::_,hc=>simp[RL]at hc
def RP(T:dk)(H:ah T.den):List (Nat×SV T.den)→List (Nat×AV)→Prop:=aw fun p q=>p.1=q.1∧R T H p.2 q.2
theorem RP.fill[ab]{H:ah T.den}{place:Nat→Option (Nat×Nat)}:∀ {ps:List (Nat×SV T.den)} {qs:List (Nat×AV)} {l r:List (SV T.den)} {l':List AV},RP T H ps qs→RL T H l l'→Ab place l ps=some r →
  ∃ r',qW place l' qs=some r'∧RL T H r r'
 |[],[],l,r,l',_,hl,h=>by
  simp only[Ab,Option.some.injEq]at h
  subst h
  exact⟨l',rfl,hl⟩
 |(i,v)::ps,(i',a)::qs,l,r,l',hp,hl,h=>by
  obtain⟨⟨h1,h2⟩,h3⟩:=hp
  simp only at h1 h2
  subst h1
  simp only[Ab]at h
  simp only[qW]
  cases F7:place i with
  |none=>rw[F7]at h; simp at h
  |some q=>
   obtain⟨off,size⟩:=q
   rw[F7]at h
   simp only at h ⊢
   split at h
   case isFalse=>simp at h
   rename_i hc
   have kG:=h2.cells
   rw[if_pos ⟨by rw[←kG.length]; exact hc.1,by rw[←hl.length]; exact hc.2.1,by rw[←kG.Db]; exact hc.2.2⟩]
   exact RP.fill h3 (RL.setCells off hl kG) h
 |[],_::_,_,_,_,h,_,_=>h.elim
 |_::_,[],_,_,_,h,_,_=>h.elim
theorem R.aG[ab]{H:ah T.den}{agg:Bool}{size:Nat}{v:SV T.den}{a:AV}(h:R T H v a):kS agg size v=aG agg size a:=by
 by_cases hv:∃ l,v=.agg l
 ·obtain⟨l,rfl⟩:=hv
  simp only[R]at h
  obtain⟨l',rfl,h2⟩:=h
  simp only[kS,Go.PI.aG]
  rw[h2.length,h2.Db]
 ·have jP:∀ l,v≠.agg l:=fun l e=>hv ⟨l,e⟩
  have e1:kS agg size v=(!agg&&decide (size=1)&&gr v):=by cases v<;>first|rfl|exact absurd rfl (jP _)
  have e2:Go.PI.aG agg size a=(!agg&&decide (size=1)&&ba a):=by
   have:=h.FA jP
   cases a<;>first|rfl|exact absurd rfl (this _)
  rw[e1,e2,h.leaf]
theorem RL.cT{H:ah T.den}:∀ {l:List (SV T.den)} {m:List AV} {c:List Value},RL T H l m→mw l=some c→Go.PI.cT m=some c∧m=c.map .lit
 |[],[],c,_,h=>by simp[mw]at h; subst h; exact⟨rfl,rfl⟩
 |x::xs,y::ys,c,h,hc=>by
  simp only[RL]at h
  cases x with
  |lit v=>
   simp only[mw,Option.map_eq_some_iff]at hc
   obtain⟨c',h1,rfl⟩:=hc
   have h2:=h.1
   simp only[R]at h2
   subst h2
   obtain⟨h3,h4⟩:=RL.cT h.2 h1
   exact⟨by simp[Go.PI.cT,h3],by simp[h4]⟩
  |_=>simp[mw]at hc
 |[],_::_,_,h,_=>by simp[RL]at h
 |_::_,[],_,h,_=>by simp[RL]at h
theorem R.plain[ab]{H:ah T.den}{v:SV T.den}{a b:AV}(h:R T H v a)(hp:mQ v=some b):a=b:=by
 cases v with
 |lit v=>simp_all[R,mQ]
 |agg l=>
  simp only[R]at h
  obtain⟨l',rfl,h2⟩:=h
  simp only[mQ,Option.map_eq_some_iff]at hp
  obtain⟨c,h3,rfl⟩:=hp
  rw[(RL.cT h2 h3).2]
 |_=>simp[mQ]at hp
theorem uV[ab]{H:ah T.den}{a:AV}{v:SV T.den}(h:(gv a:Option (SV T.den))=some v):R T H v a:=by
 cases a with
 |lit x=>simp[gv]at h; subst h; simp[R]
 |agg l=>
  simp only[gv,Option.map_eq_some_iff]at h
  obtain⟨c,h1,rfl⟩:=h
  simp only[R]
  refine⟨l,rfl,?_⟩
  have:l=c.map .lit:=by
   revert c
   induction l with
   |nil=>simp_all[Go.PI.cT]
   |cons x xs ih=>
    intro c h1
    cases x with
    |lit v=>
     simp only[Go.PI.cT,Option.map_eq_some_iff]at h1
     obtain⟨c',h2,rfl⟩:=h1
     rw[ih c' h2]; rfl
    |_=>simp[Go.PI.cT]at h1
  rw[this]
  exact RL.lits c
 |_=>simp[gv]at h
end Go.PI
end
section
/- PS, part E: the tables looked up before. -/
namespace Go.PI
def ot:TypeDesc→MK
 |.slice e=>.slice e
 |.array n e=>.array n e
 |.struct fs=>.struct (fs.toList.map fun f=>(f.offset,f.type))
 |.interface _=>.iface
 |_=>.other
def ke(rec:TypeId→Option (List CK))(P:Program):Nat→List Field→Option (List CK)
 |_,[]=>some []
 | off, f :: fs => if f.name = "_" then none else
   if f.offset=off then
    match rec f.type with
    |some ks=>if ks.length=P.cellsOf f.type then (ke rec P (off+ks.length) fs).map fun l=>ks++l else none
    |none=>none
   else none
def mC(P:Program):Nat→TypeId→Option (List CK)
 |0,_=>none
 |d+1,t=>
  match P.underlying t with
  |some .bool=>some [.bool]
  |some (.int k)=>some [.int k]
  |some .string=>some [.str]
  |some (.array n e)=>if (P.info? e).isSome&&(P.underlying e).isSome then
    match mC P d e with
    |some ks=>if ks.length=P.cellsOf e then some (List.replicate n ks).flatten else none
    |none=>none
   else none
  |some (.struct fs)=>if P.stoodInHeld t then none else ke (mC P d) P 0 fs.toList
  |_=>none
theorem kf:∀ {ks:List CK} {vs:List Value},bm ks vs=true→ks.length=vs.length
 |[],[],_=>rfl
 |_::_,_::_,h=>by simp only[bm,Bool.and_eq_true]at h; simp[kf h.2]
 |[],_::_,h=>by simp[bm]at h
 |_::_,[],h=>by simp[bm]at h
theorem pV:∀ {ks ls:List CK} {vs:List Value},bm (ks++ls) vs=true→bm ks (vs.take ks.length)=true∧bm ls (vs.drop ks.length)=true
 |[],ls,vs,h=>by simpa[bm] using h
 |k::ks,ls,[],h=>by simp[bm]at h
 |k::ks,ls,v::vs,h=>by
  simp only[List.cons_append,bm,Bool.and_eq_true]at h
  obtain⟨h1,h2⟩:=pV h.2
  simp only[List.length_cons,List.take_succ_cons,List.drop_succ_cons,bm,Bool.and_eq_true]
  exact⟨⟨h.1,h1⟩,h2⟩
theorem pW:∀ {a a' b b':List Value},a.length=a'.length→cI (a++b) (a'++b')=(cI a a'&&cI b b')
 |[],[],b,b',_=>by simp[cI]
 |x::xs,y::ys,b,b',h=>by
  simp only[List.cons_append,cI]
  rw[pW (by simpa using h),Bool.and_assoc]
theorem pX[ab]{P:Program}{rec:TypeId→List Value→List Value→Option Bool}{kr:TypeId→Option (List CK)}
  (hr:∀ t ks c c',kr t=some ks→bm ks c=true→bm ks c'=true→rec t c c'=some (cI c c')) :
  ∀ (fs:List Field) (off:Nat) (ks:List CK) (cs mb:List Value),ke kr P off fs=some ks→bm ks (cs.drop off)=true→bm ks (mb.drop off)=true →
    jv rec P cs mb fs=some (cI (cs.drop off) (mb.drop off))
 |[],off,ks,cs,mb,h,h1,h2=>by
  simp only[ke,Option.some.injEq]at h
  subst h
  have e1:cs.drop off=[]:=by cases hq:cs.drop off with
   |nil=>rfl
   |cons x xs=>rw[hq]at h1; simp[bm]at h1
  have e2:mb.drop off=[]:=by cases hq:mb.drop off with
   |nil=>rfl
   |cons x xs=>rw[hq]at h2; simp[bm]at h2
  rw[e1,e2]; rfl
 |f::fs,off,ks,cs,mb,h,h1,h2=>by
  simp only[ke]at h
  split at h
  ·simp at h
  rename_i hn
  split at h
  case isFalse=>simp at h
  rename_i ho
  cases hk:kr f.type with
  |none=>rw[hk]at h; simp at h
  |some k1=>
   rw[hk]at h
   simp only at h
   split at h
   case isFalse=>simp at h
   rename_i hs
   rw[Option.map_eq_some_iff]at h
   obtain⟨k2,h3,rfl⟩:=h
   obtain⟨a1,a2⟩:=pV h1
   obtain⟨b1,b2⟩:=pV h2
   rw[List.drop_drop]at a2 b2
   have ih:=pX hr fs (off+k1.length) k2 cs mb h3 a2 b2
   have hc:chunk P cs f.offset f.type=(cs.drop off).take k1.length:=by simp[chunk,ho,hs]
   have HU:chunk P mb f.offset f.type=(mb.drop off).take k1.length:=by simp[chunk,ho,hs]
   simp only[jv,hn,if_false]
   rw[hc,HU,hr _ _ _ _ hk a1 b1]
   simp only
   rw[ih,Option.map_some]
   congr 1
   have l1:=kf a1
   have l2:=kf b1
   conv=>rhs; rw[←List.take_append_drop k1.length (cs.drop off),←List.take_append_drop k1.length (mb.drop off)]
   rw[pW (by omega),List.drop_drop,List.drop_drop]
theorem rm[ab]{P:Program}{rec:TypeId→List Value→List Value→Option Bool}{e:TypeId}{ks:List CK}(hs:ks.length=P.cellsOf e)
  (hr:∀ c c',bm ks c=true→bm ks c'=true→rec e c c'=some (cI c c')) :
  ∀ (n m:Nat) (cs mb:List Value),bm (List.replicate n ks).flatten (cs.drop (m*ks.length))=true→bm (List.replicate n ks).flatten (mb.drop (m*ks.length))=true →
    ll rec P e cs mb (List.range' m n)=some (cI (cs.drop (m*ks.length)) (mb.drop (m*ks.length)))
 |0,m,cs,mb,h1,h2=>by
  simp only[List.replicate_zero,List.flatten_nil]at h1 h2
  have e1:cs.drop (m*ks.length)=[]:=by cases hq:cs.drop (m*ks.length) with
   |nil=>rfl
   |cons x xs=>rw[hq]at h1; simp[bm]at h1
  have e2:mb.drop (m*ks.length)=[]:=by cases hq:mb.drop (m*ks.length) with
   |nil=>rfl
   |cons x xs=>rw[hq]at h2; simp[bm]at h2
  rw[e1,e2]; rfl
 |n+1,m,cs,mb,h1,h2=>by
  simp only[List.replicate_succ,List.flatten_cons]at h1 h2
  obtain⟨a1,a2⟩:=pV h1
  obtain⟨b1,b2⟩:=pV h2
  rw[List.drop_drop]at a2 b2
  have em:m*ks.length+ks.length=(m+1)*ks.length:=by rw[Nat.succ_mul]
  rw[em]at a2 b2
  have ih:=rm hs hr n (m+1) cs mb a2 b2
  have hc:chunk P cs (m*P.cellsOf e) e=(cs.drop (m*ks.length)).take ks.length:=by simp[chunk,hs]
  have HU:chunk P mb (m*P.cellsOf e) e=(mb.drop (m*ks.length)).take ks.length:=by simp[chunk,hs]
  rw[List.range'_succ]
  simp only[ll]
  rw[hc,HU,hr _ _ a1 b1]
  simp only
  rw[ih,Option.map_some]
  congr 1
  have l1:=kf a1
  have l2:=kf b1
  conv=>rhs; rw[←List.take_append_drop ks.length (cs.drop (m*ks.length)),←List.take_append_drop ks.length (mb.drop (m*ks.length))]
  rw[pW (by omega),List.drop_drop,List.drop_drop,em]
theorem sn[ab]{P:Program}:∀ (d:Nat) (t:TypeId) (ks:List CK) (c c':List Value),mC P d t=some ks→bm ks c=true→bm ks c'=true→km P d t c c'=some (cI c c')
 |0,_,_,_,_,h,_,_=>by simp[mC]at h
 |d+1,t,ks,c,c',h,h1,h2=>by
  simp only[mC]at h
  simp only[km]
  cases hu:P.underlying t with
  |none=>rw[hu]at h; simp at h
  |some ds=>
   rw[hu]at h
   cases ds with
   |bool=>
    simp only[Option.some.injEq]at h
    subst h
    match c,c',h1,h2 with
    |[.bool a],[.bool b],_,_=>simp[cI,r8]
    |[],_,h1,_=>simp[bm]at h1
    |_::_::_,_,h1,_=>simp[bm]at h1
    |_,[],_,h2=>simp[bm]at h2
    |_,_::_::_,_,h2=>simp[bm]at h2
    |[v],[w],h1,h2=>
     cases v<;>simp[bm,CK.fits]at h1
     cases w<;>simp[bm,CK.fits]at h2
     simp[cI,r8]
   |int k=>
    simp only[Option.some.injEq]at h
    subst h
    match c,c',h1,h2 with
    |[],_,h1,_=>simp[bm]at h1
    |_::_::_,_,h1,_=>simp[bm]at h1
    |_,[],_,h2=>simp[bm]at h2
    |_,_::_::_,_,h2=>simp[bm]at h2
    |[v],[w],h1,h2=>
     cases v<;>simp[bm,CK.fits]at h1
     cases w<;>simp[bm,CK.fits]at h2
     subst h1; subst h2
     simp[cI,r8]
   |string=>
    simp only[Option.some.injEq]at h
    subst h
    match c,c',h1,h2 with
    |[],_,h1,_=>simp[bm]at h1
    |_::_::_,_,h1,_=>simp[bm]at h1
    |_,[],_,h2=>simp[bm]at h2
    |_,_::_::_,_,h2=>simp[bm]at h2
    |[v],[w],h1,h2=>
     cases v<;>simp[bm,CK.fits]at h1
     cases w<;>simp[bm,CK.fits]at h2
     simp[cI,r8]
   |array n e=>
    simp only at h ⊢
    split at h
    case isFalse=>simp at h
    rename_i hc
    rw[if_pos hc]
    cases hk:mC P d e with
    |none=>rw[hk]at h; simp at h
    |some k1=>
     rw[hk]at h
     simp only at h
     split at h
     case isFalse=>simp at h
     rename_i hs
     simp only[Option.some.injEq]at h
     subst h
     have:=rm (rec:=km P d) hs (fun c c'=>sn d e k1 c c' hk) n 0 c c' (by simpa using h1) (by simpa using h2)
     rw[List.range_eq_range']
     simpa using this
   |struct fs=>
    simp only at h ⊢
    split at h
    ·simp at h
    rename_i hc
    rw[if_neg hc]
    have:=pX (rec:=km P d) (fun t ks c c' hk=>sn d t ks c c' hk) fs.toList 0 ks c c' h (by simpa using h1) (by simpa using h2)
    simpa using this
   |_=>simp at h
structure gw.Ok(Q:gw):Prop where
 row:∀ t m,Q.ty t=some m→∃ r,eZ Q.P t=some r∧r.isAgg=m.agg∧r.size=m.size∧r.bytes=m.bytes∧(∀ z,m.zero=some z→cq r=some z)
 kind:∀ t m,Q.ty t=some m→∃ d,Q.P.underlying t=some d∧ot d=m.kind
 OS:∀ t m ks,Q.ty t=some m→m.OS=some ks→Q.P.eqGuardType Q.P.depth t=false∧mC Q.P 20 t=some ks
 map:∀ t q,Q.mapOf t=some q→wV Q.P t=some q
theorem gA{α:Type}:∀ {l:List (Nat×α)} {n:Nat} {a:α},cr l n=some a→(n,a)∈l
 |[],_,_,h=>by simp[cr]at h
 |(m,b)::r,n,a,h=>by
  simp only[cr]at h
  split at h
  ·simp_all
  ·exact List.mem_cons_of_mem _ (gA h)
def rowOf(P:Program)(t:Nat):Option (Bool×Nat×Nat):=(eZ P t).map fun r=>(r.isAgg,r.size,r.bytes)
def zeroOf(P:Program)(m:jU)(t:Nat):Option AV:=match m.zero with
 |none=>none
 |some _=>(eZ P t).bind cq
def OZ(P:Program)(m:jU)(t:Nat):Option (List CK):=match m.OS with
 |none=>none
 |some _=>if P.eqGuardType P.depth t=false then mC P 20 t else none
def K4(P:Program)(m:jU)(t:Nat):Option (KK×Nat):=match m.map with
 |none=>none
 |some _=>wV P t
theorem uX{α β:Type}{f g:α→β}:∀ {l:List α},l.map f=l.map g→∀ x,x∈l→f x=g x
 |[],_,x,h=>by simp at h
 |y::ys,h,x,hx=>by
  simp only[List.map_cons,List.cons.injEq]at h
  rcases List.mem_cons.1 hx with rfl|hx
  ·exact h.1
  ·exact uX h.2 x hx
theorem gw.Ok.of[ab]{Q:gw}(h1:(Q.M.map fun q=>rowOf Q.P q.1)=Q.M.map fun q=>some (q.2.agg,q.2.size,q.2.bytes))
  (h2:(Q.M.map fun q=>zeroOf Q.P q.2 q.1)=Q.M.map fun q=>q.2.zero)
  (h3:(Q.M.map fun q=>(Q.P.underlying q.1).map ot)=Q.M.map fun q=>some q.2.kind)
  (h4:(Q.M.map fun q=>OZ Q.P q.2 q.1)=Q.M.map fun q=>q.2.OS) (h5:(Q.M.map fun q=>K4 Q.P q.2 q.1)=Q.M.map fun q=>q.2.map):Q.Ok where
 row:=by
  intro t m h
  have hm:=gA h
  have e1:=uX h1 _ hm
  have e2:=uX h2 _ hm
  simp only[rowOf,Option.map_eq_some_iff,Prod.mk.injEq]at e1
  obtain⟨r,hr,a1,a2,a3⟩:=e1
  refine⟨r,hr,a1,a2,a3,fun z hz=>?_⟩
  simp only[zeroOf]at e2
  rw[hz]at e2
  simpa[hr] using e2
 kind:=by
  intro t m h
  have e:=uX h3 _ (gA h)
  simp only[Option.map_eq_some_iff]at e
  exact e
 OS:=by
  intro t m ks h hk
  have e:=uX h4 _ (gA h)
  simp only[OZ]at e
  rw[hk]at e
  simp only at e
  split at e
  ·exact⟨by assumption,e⟩
  ·simp at e
 map:=by
  intro t q h
  unfold gw.mapOf at h
  obtain⟨m,h1,h2⟩:=Option.bind_eq_some_iff.1 h
  have e:=uX h5 _ (gA h1)
  simp only[K4]at e
  rw[h2]at e
  exact e
end Go.PI
end
section
/- PS, part F: operations that only compute, and those on one object. -/
namespace Go.PI
variable {T:dk}{ρ:Type}
structure RE(T:dk)(H:ah T.den)(hp:ag)(v:SV T.den)(wr:List (Nat×aD T.den))(e:dg):Prop where
 val:RV T (aN H wr) v e.val
 hp:RH T (aN H wr) (ai hp e.wr)
 grow:dm H (aN H wr)
 names:∀ q,q∈e.wr→q.1∈wr.map (·.1)
 zd:∀ n:Nat,n∉wr.map (·.1)→n<H.length→(aN H wr)[n]?=H[n]?
 len:H.length≤(aN H wr).length
 Dh:∀ n,recAt H n=true→n∉wr.map (·.1)
def iI(T:dk)(H:ah T.den)(hp:ag)(m:RM dg)(K:EK T ρ)(r:ρ):Prop:=
 ∃ v wr rd e,aE hp m e rd∧RE T H hp v wr e∧(K v wr rd).run=some r
section
variable {H:ah T.den}{hp:ag}{K:EK T ρ}{r:ρ}
theorem ar[ab](hh:RH T H hp){m:RM dg}{v:SV T.den}{a:AV}{rd:List Nat}(hv:RV T H v a)(hm:aE hp m ⟨a,[]⟩ rd)(hk:(K v [] rd).run=some r):iI T H hp m K r:=
 ⟨v,[],rd,_,hm,⟨hv,hh,dm.refl _,fun q h=>by simp at h,fun _ _ _=>rfl,Nat.le_refl _,fun _ _ h=>by simp at h⟩,hk⟩
theorem v5{n:Nat}{o:aD T.den}(hn:n=H.length∨n<H.length):H.length≤(bL H n o).length:=by
 unfold bL
 split<;>simp
theorem yg{n m:Nat}{o:aD T.den}(hm:m<H.length)(dM:m≠n):(bL H n o)[m]?=H[m]?:=by
 grind[bL]
theorem eu[ab](hh:RH T H hp){m:RM dg}{nm:Nat}(hn:nm=H.length∨H[nm]?=some none){o:aD T.den}{a':aI}(ho:RO T H o a'){v:SV T.den}{a:AV}{rd:List Nat}
  (hv:RV T (bL H nm o) v a) (hm:aE hp m ⟨a,[(nm,a')]⟩ rd) (hk:(K v [(nm,o)] rd).run=some r):iI T H hp m K r:=by
 obtain⟨hg,hr⟩:=hh.new hn ho
 refine⟨v,[(nm,o)],rd,_,hm,⟨hv,hr,hg,fun q h=>?_,fun n h hl=>?_,?_,fun n h1 h2=>?_⟩,hk⟩
 ·simp at h; subst h; simp
 ·simp at h; exact yg hl h
 ·exact v5 (hn.imp id fun h=>(List.getElem?_eq_some_iff.1 h).1)
 ·simp at h2
  subst h2
  unfold recAt at h1
  rcases hn with hn|hn
  ·rw[List.getElem?_eq_none (by omega)]at h1; simp at h1
  ·rw[hn]at h1; simp at h1
theorem jI[ab](hh:RH T H hp){m:RM dg}{n:Nat}{o o':aD T.den}{a':aI}(ho:H[n]?=some (some o))(hc:o.cur≤o'.cur)(hl:o'.cur=o.cur→o'.len=o.len)(dD:RO T H o' a')
  {v:SV T.den} {a:AV} {rd:List Nat} (hv:RV T (H.set n (some o')) v a) (hm:aE hp m ⟨a,[(n,a')]⟩ rd) (hk:(K v [(n,o')] rd).run=some r) (Sr:o.isRec=false:=by rfl):iI T H hp m K r:=by
 obtain⟨hg,hr⟩:=hh.Ra ho hc hl dD
 have cd:=(List.getElem?_eq_some_iff.1 ho).1
 have e1:aN H [(n,o')]=H.set n (some o'):=by simp[aN,bL]; omega
 have e2:ai hp [(n,a')]=hp.set n (some a'):=by simp[ai,setObj]; have:=hh.length; omega
 refine⟨v,[(n,o')],rd,_,hm,⟨by rw[e1]; exact hv,by rw[e1,e2]; exact hr,by rw[e1]; exact hg,fun q h=>?_,fun k h hl=>?_,?_,fun m h1 h2=>?_⟩,hk⟩
 ·simp at h; subst h; simp
 ·rw[e1]; simp at h; rw[List.getElem?_set_ne (Ne.symm h)]
 ·rw[e1]; simp
 ·simp at h2
  subst h2
  unfold recAt at h1
  rw[ho]at h1
  simp only at h1
  rw[Sr]at h1
  simp at h1
theorem gX{x:Option AV}(h:(oN (T:=T) x K).run=some r):∃ v,x=some (.lit v)∧(K (.lit v) [] []).run=some r:=by
 unfold oN at h
 split at h
 ·exact⟨_,rfl,h⟩
 ·simp[Tr.run]at h
theorem lX{x:Option (SV T.den)}{rd:List Nat}(h:(xX x rd K).run=some r):∃ v,x=some v∧(K v [] rd).run=some r:=by
 unfold xX at h
 split at h
 ·exact⟨_,rfl,h⟩
 ·simp[Tr.run]at h
theorem fi{b:Bool}{x y:Tr ρ}(h:(Tr.cond b x y).run=some r):(b=true∧x.run=some r)∨(b=false∧y.run=some r):=by
 cases b with
 |true=>exact .inl ⟨rfl,h⟩
 |false=>exact .inr ⟨rfl,h⟩
theorem aZ[ab]{b:Bool}{x:Tr ρ}(h:(Tr.cond b x .fail).run=some r):b=true∧x.run=some r:=by
 grind[Tr.run]
theorem bind_some{α:Type}{e:Option α}{k:α→Tr ρ}(h:(Tr.bind e k).run=some r):∃ a,e=some a∧(k a).run=some r:=by
 simp only[Tr.run,Option.bind_eq_some_iff]at h
 exact h
theorem iJ[ab]{v:SV T.den}{K:Nat→Tr ρ}(h:(fV v K).run=some r):∃ k n,v=.lit (.int k n)∧0≤n∧(K n.toNat).run=some r:=by
 unfold fV at h
 split at h
 ·obtain⟨h1,h2⟩:=aZ h
  exact⟨_,_,rfl,by simpa using h1,h2⟩
 ·simp[Tr.run]at h
theorem qF[ab]{v:SV T.den}{a:AV}{k:IntKind}{n:Int}(hv:RV T H v a)(e:v=.lit (.int k n))(hn:0≤n):asNat a=some n.toNat:=by
 subst e
 have:=hv.live rfl
 simp only[R]at this
 subst this
 simp[asNat,hn]
theorem cU[ab]{i:Nat}{K:Nat→Tr ρ}:∀ {len m:Nat},(ft i len m K).run=some r→m≤i∧i<m+len∧(K i).run=some r
 |0,m,h=>by simp[ft,Tr.run]at h
 |len+1,m,h=>by
  simp only[ft]at h
  rcases fi h with ⟨h1,h2⟩|⟨h1,h2⟩
  ·simp_all
  ·obtain⟨h3,h4,h5⟩:=cU h2
   exact⟨by omega,by omega,h5⟩
theorem RV.lit[ab]{v:SV T.den}{a:AV}{x:Value}(hv:RV T H v a)(e:v=.lit x):a=.lit x:=by
 subst e
 have:=hv.live rfl
 simpa only[R] using this
theorem bh(x:Value):RV T H (.lit x) (.lit x):=.inr (by simp[R])
theorem fJ.arr(hh:RH T H hp){n c aq:Nat}(hv:fJ H n c aq){o:aD T.den}(ho:H[n]?=some (some o))(hc:Nat.beq c o.cur=true):aq=o.len:=by
 obtain⟨o',h1,h2,h3⟩:=hv
 rw[ho]at h1
 simp only[Option.some.injEq]at h1
 subst h1
 exact h3 (Nat.eq_of_beq_eq_true hc)
theorem qG:∀ {v:SV T.den} {a0 a:AV} {d:Nat},R T H v a0→VP a0 d a→R T H (ik d v) a
 |.ref n c i j,a0,a,d,h,hx=>by
  simp only[R]at h
  obtain⟨aq,rfl,hv⟩:=h
  rcases hx with ⟨n,aq,k,j,h1,rfl⟩|⟨e,j,h1,rfl⟩<;>cases h1
  simp only[ik,R]
  exact⟨_,rfl,hv⟩
 |.bc e j,a0,a,d,h,hx=>by
  simp only[R]at h
  obtain⟨e',rfl,hv⟩:=h
  rcases hx with ⟨n,aq,k,j,h1,rfl⟩|⟨e,j,h1,rfl⟩<;>cases h1
  simp only[ik,R]
  exact⟨_,rfl,hv⟩
 |.rW v s l i,a0,a,d,h,hx=>by
  simp only[R]at h
  obtain⟨a1,h1,h2,h3⟩:=h
  simp only[ik,R]
  rcases h3 with ⟨n,aq,k,j,rfl,rfl⟩|⟨e,j,rfl,rfl⟩<;>rcases hx with ⟨n',BZ,k',j',e1,rfl⟩|⟨e',j',e1,rfl⟩<;>cases e1
  ·exact⟨.ref n aq k (j+d),qG h1 (.inl ⟨_,_,_,_,rfl,rfl⟩),h2,.inl ⟨_,_,_,_,rfl,by rw[Nat.add_right_comm]⟩⟩
  ·exact⟨.bc e (j+d),qG h1 (.inr ⟨_,_,rfl,rfl⟩),h2,.inr ⟨_,_,rfl,by rw[Nat.add_right_comm]⟩⟩
 |.dead,_,_,_,h,_=>by simp[R]at h
 |.lit v,_,_,_,h,hx=>by
  simp only[R]at h; subst h
  rcases hx with ⟨n,aq,k,j,h1,_⟩|⟨e,j,h1,_⟩<;>cases h1
 |.agg l,_,_,_,h,hx=>by
  simp only[R]at h; obtain⟨_,rfl,_⟩:=h
  rcases hx with ⟨n,aq,k,j,h1,_⟩|⟨e,j,h1,_⟩<;>cases h1
 |.jn l,_,_,_,h,hx=>by
  simp only[R]at h; obtain⟨_,rfl,_⟩:=h
  rcases hx with ⟨n,aq,k,j,h1,_⟩|⟨e,j,h1,_⟩<;>cases h1
 |.sl l,_,_,_,h,hx=>by
  simp only[R]at h; obtain⟨_,rfl,_⟩:=h
  rcases hx with ⟨n,aq,k,j,h1,_⟩|⟨e,j,h1,_⟩<;>cases h1
 |.jd t l,_,_,_,h,hx=>by
  simp only[R]at h
  rcases h with ⟨_,rfl,_⟩|⟨_,rfl⟩<;>rcases hx with ⟨n,aq,k,j,h1,_⟩|⟨e,j,h1,_⟩<;>cases h1
 |.im n c i j ln cp,_,_,_,h,hx=>by
  simp only[R]at h; obtain⟨_,rfl,_⟩:=h
  rcases hx with ⟨n,aq,k,j,h1,_⟩|⟨e,j,h1,_⟩<;>cases h1
 |.bp esz n c rg cap,_,_,_,h,hx=>by
  simp only[R]at h
  obtain⟨aq,_,h2⟩:=h
  rcases rg with _|⟨off,len⟩<;>simp only at h2<;>subst h2<;>rcases hx with ⟨n,aq,k,j,h1,_⟩|⟨e,j,h1,_⟩<;>cases h1
 |.iQ fn f c,_,_,_,h,hx=>by
  simp only[R]at h; obtain⟨_,_,rfl,_⟩:=h
  rcases hx with ⟨n,aq,k,j,h1,_⟩|⟨e,j,h1,_⟩<;>cases h1
 |.fL t v,_,_,_,h,hx=>by
  simp only[R]at h; obtain⟨_,rfl,_⟩:=h
  rcases hx with ⟨n,aq,k,j,h1,_⟩|⟨e,j,h1,_⟩<;>cases h1
 |.wC t l c b,_,_,_,h,hx=>by
  simp only[R]at h
  rcases h with ⟨_,_,rfl,_⟩|⟨_,_,rfl|rfl⟩<;>rcases hx with ⟨n,aq,k,j,h1,_⟩|⟨e,j,h1,_⟩<;>cases h1
 |.nz,_,_,_,h,hx=>by
  simp only[R]at h
  subst h
  rcases hx with ⟨n,aq,k,j,h1,_⟩|⟨e,j,h1,_⟩<;>cases h1
 |.mp y n,_,_,_,h,hx=>by
  simp only[R]at h; obtain⟨rfl,_⟩:=h
  rcases hx with ⟨n,aq,k,j,h1,_⟩|⟨e,j,h1,_⟩<;>cases h1
theorem jY{e:SV T.den}{s:Nat}:∀ {n j:Nat} {xs:List (SV T.den)},gz e j s n=some xs→xs.length=n∧∀ m x,xs[m]?=some x→nI false 1 e (j+m*s)=some x
 |0,j,xs,h=>by simp only[gz,Option.some.injEq]at h; subst h; simp
 |n+1,j,xs,h=>by
  simp only[gz,Option.bind_eq_some_iff,Option.map_eq_some_iff]at h
  obtain⟨x,hx,l,hl,rfl⟩:=h
  obtain⟨h1,h2⟩:=jY hl
  refine⟨by simp[h1],fun m y hy=>?_⟩
  cases m with
  |zero=>simp at hy; subst hy; simpa using hx
  |succ m=>
   grind
theorem sq{k:IntKind}:∀ {xs:List (SV T.den)} {l:List Int},uO k xs=some l→xs=l.map fun n=>.lit (.int k n)
 |[],l,h=>by simp only[uO,Option.some.injEq]at h; subst h; rfl
 |x::r,l,h=>by
  unfold uO at h
  split at h
  ·simp at *
  ·rename_i k' n r' he
   cases he
   split at h
   case isFalse=>simp at h
   rename_i hk
   subst hk
   rw[Option.map_eq_some_iff]at h
   obtain⟨l',hl,rfl⟩:=h
   rw[sq hl]; rfl
  ·simp at h
theorem v7:∀ {xs:List (SV T.den)} {l:List Bool},tC xs=some l→xs=l.map fun n=>.lit (.bool n)
 |[],l,h=>by simp only[tC,Option.some.injEq]at h; subst h; rfl
 |x::r,l,h=>by
  unfold tC at h
  split at h
  ·simp at *
  ·rename_i n r' he
   cases he
   rw[Option.map_eq_some_iff]at h
   obtain⟨l',hl,rfl⟩:=h
   rw[v7 hl]; rfl
  ·simp at h
theorem Aj{α:Type}{l:List α}{i:Nat}{d x:α}(h:l[i]?=some x):GO l i d=x:=by
 simp_all[GO,h]
theorem Di{xs:List (SV T.den)}{i:Nat}{x y:SV T.den}(h:KP i xs=some y)(hx:xs[i]?=some x):y=x:=by
 unfold KP at h
 split at h
 ·rename_i k n r
  rw[Option.map_eq_some_iff]at h
  obtain⟨l,hl,rfl⟩:=h
  rw[sq hl]at hx
  have:(List.map (fun n=>(SV.lit (Value.int k n):SV T.den)) (n::l))[i]?=some x:=hx
  rw[List.getElem?_map,Option.map_eq_some_iff]at this
  obtain⟨z,hz,rfl⟩:=this
  rw[Aj hz]
 ·rename_i n r
  rw[Option.map_eq_some_iff]at h
  obtain⟨l,hl,rfl⟩:=h
  rw[v7 hl]at hx
  have:(List.map (fun n=>(SV.lit (Value.bool n):SV T.den)) (n::l))[i]?=some x:=hx
  rw[List.getElem?_map,Option.map_eq_some_iff]at this
  obtain⟨z,hz,rfl⟩:=this
  rw[Aj hz]
 ·simp at h
theorem Dj{m:jU}{v x:SV T.den}{aW len i:Nat}{xs:List (SV T.den)}{rd:List Nat}(h:Fp H v aW len=some (xs,rd))(hx:KP i xs=some x)(hi:i<len)(h1:m.agg=false)(h2:m.size=1):
  oe m H (ik (i*aW) v) K=K x [] rd:=by
 have fin:∀ (e:SV T.den) (j:Nat),gz e j aW len=some xs→nI m.agg m.size e (j+i*aW)=some x:=by
  intro e j hs
  obtain⟨g1,g2⟩:=jY hs
  have cd:i<xs.length:=by omega
  have hg:=List.getElem?_eq_getElem cd
  rw[Di hx hg,h1,h2]
  exact g2 _ _ hg
 unfold Fp at h
 split at h
 ·rename_i n c k j
  split at h
  case h_2=>simp at h
  rename_i g cl f cur es ho
  split at h
  case h_2=>simp at h
  rename_i hc
  simp only[Option.bind_eq_some_iff,Option.map_eq_some_iff,Prod.mk.injEq]at h
  obtain⟨e,he,l,hl,rfl,rfl⟩:=h
  simp only[ik,oe,ho,hc,he,fin e j hl,xX]
 ·rename_i e j
  simp only[Option.map_eq_some_iff,Prod.mk.injEq]at h
  obtain⟨l,hl,rfl,rfl⟩:=h
  simp only[ik,oe,fin e j hl,xX]
 ·simp at h
theorem K5{α:Type}{l:List α}{n:Nat}{x:α}(h:l[n]?=some x):l.set n x=l:=Go.PI.gT h
theorem Dk{k:IntKind}{y:Int}{aW i:Nat}:∀ {ns:List Int} {l:List (SV T.den)} {j m:Nat},i<m→(∀ p n,ns[p]?=some n→l[j+p*aW]?=some (.lit (.int k n)))→Fq l j aW i m k y ns=l
 |[],l,j,m,_,_=>rfl
 |n::ns,l,j,m,hm,h=>by
  have h0:l[j]?=some (.lit (.int k n)):=by simpa using h 0 n rfl
  have hb:Nat.beq i m=false:=by
   cases hb:Nat.beq i m
   ·rfl
   ·have:=Nat.eq_of_beq_eq_true hb; omega
  simp only[Fq,hb,cond_false]
  rw[K5 h0]
  refine Dk (by omega) fun p x hp=>?_
  have:=h (p+1) x (by simpa using hp)
  rwa [Nat.succ_mul,Nat.add_comm _ aW,←Nat.add_assoc]at this
theorem Dl{k:IntKind}{y:Int}{aW i:Nat}(hs:0<aW):∀ {ns:List Int} {l:List (SV T.den)} {j m:Nat},m≤i→i<m+ns.length→(∀ p n,ns[p]?=some n→l[j+p*aW]?=some (.lit (.int k n))) →
  Fq l j aW i m k y ns=l.set (j+(i-m)*aW) (.lit (.int k y))
 |[],l,j,m,h1,h2,_=>by simp at h2; omega
 |n::ns,l,j,m,h1,h2,h=>by
  have h0:l[j]?=some (.lit (.int k n)):=by simpa using h 0 n rfl
  have hn:∀ (l':List (SV T.den)),(∀ q,j<q→l'[q]?=l[q]?)→∀ p x,ns[p]?=some x→l'[j+aW+p*aW]?=some (.lit (.int k x)):=by
   intro l' hl p x hp
   have:=h (p+1) x (by simpa using hp)
   rw[Nat.succ_mul,Nat.add_comm _ aW,←Nat.add_assoc]at this
   rw[hl _ (by omega)]; exact this
  by_cases hm:i=m
  ·subst hm
   have hb:Nat.beq i i=true:=by simp
   simp only[Fq,hb,cond_true,Nat.sub_self,Nat.zero_mul,Nat.add_zero]
   exact Dk (by omega) (hn _ fun q hq=>by rw[List.getElem?_set_ne (by omega)])
  ·have hb:Nat.beq i m=false:=by
    cases hb:Nat.beq i m
    ·rfl
    ·simp_all
   simp only[Fq,hb,cond_false]
   rw[K5 h0,Dl hs (by omega) (by simp at h2; omega) (hn _ fun _ _=>rfl)]
   have:i-m=(i-(m+1))+1:=by omega
   rw[this,Nat.succ_mul,Nat.add_assoc,Nat.add_comm aW]
theorem BA{m:jU}{b v:SV T.den}{aW len i n:Nat}{o:aD T.den}(h:Fs H b v aW len i=some (n,o))(hi:i<len)(h2:m.size=1):
  qy m H (ik (i*aW) b) v K=K (.lit undef) [(n,o)] [n]:=by
 unfold Fs at h
 split at h
 case h_2=>simp at h
 rename_i n' c i0 j k y
 split at h
 case h_2=>simp at h
 rename_i g cl f cur es ho
 split at h
 case h_2=>simp at h
 rename_i l hc he
 simp only[Bool.and_eq_true]at hc
 obtain⟨⟨MH,Oy⟩,V8⟩:=hc
 have hs:0<aW:=Nat.le_of_ble_eq_true V8
 simp only[Option.map_eq_some_iff,Option.bind_eq_some_iff,Prod.mk.injEq]at h
 obtain⟨ns,⟨xs,zE,V9⟩,rfl,rfl⟩:=h
 obtain⟨g1,g2⟩:=jY zE
 have hxe:=sq V9
 have vp:∀ p x,ns[p]?=some x→l[j+p*aW]?=some (.lit (.int k x)):=by
  simp_all[nI]
 have hlen:ns.length=len:=by rw[←g1,hxe,List.length_map]
 have FC:=Dl (y:=y) hs (Nat.zero_le i) (by omega) vp
 rw[Nat.sub_zero]at FC
 rw[FC]
 have cd:j+i*aW<l.length:=by
  have:=vp i _ (List.getElem?_eq_getElem (by omega:i<ns.length))
  exact(List.getElem?_eq_some_iff.1 this).1
 have uc:(bK (SV.lit (Value.int k y):SV T.den))=[.lit (.int k y)]:=rfl
 simp only[ik,qy,bP,uc,ho,MH,Oy,he,h2]
 simp[fT,iG,gr,av,aF]
 rw[if_pos (show j+i*aW+1≤l.length from cd)]
theorem uY[ab](hT:T.Ok){P:Program}{t:TypeId}{m:jU}{q:bH}(hq:eZ P t=some q)(h1:q.isAgg=m.agg)(h2:q.size=m.size)(hh:RH T H hp){a:SV T.den}{b:AV}(ha:RV T H a b)
  (h:(oe m H a K).run=some r):∃ v c rd,aE hp (kA P t b) c rd∧R T H v c∧(K v [] rd).run=some r:=by
 unfold kA
 rw[hq]
 simp only
 unfold oe at h
 split at h
 ·-- a reference
  rename_i n c i j
  have ha:=ha.live rfl
  simp only[R]at ha
  obtain⟨aq,rfl,cb⟩:=ha
  simp only
  split at h
  ·rename_i g cl f cur es ho
   obtain⟨o,c6,dD⟩:=hh.obj ho
   obtain⟨es',rfl,cC,qU⟩:=dD
   split at h
   case h_2=>simp[Tr.run]at h
   rename_i hc
   have cb:=cb.arr hh ho hc
   simp only[aD.len]at cb
   split at h
   case h_2=>simp[Tr.run]at h
   rename_i e he
   obtain⟨v,hv,hk⟩:=lX h
   obtain⟨e',Gl,Eh⟩:=aw.get (aQ.1 cC) he
   rw[←h1,←h2]at hv
   obtain⟨c',HU,SM⟩:=R.part Eh hv
   refine⟨v,c',[n],?_,SM,hk⟩
   refine aE.mono (aE.bind (aE.arr c6 (by rw[cb]; exact(RL.length cC).symm)) ?_) (rd:=[n]++[]) (fun _ h=>by simpa using h)
   simp only[Gl]
   exact aE.eD HU
  ·rename_i g f cur t' l ho
   obtain⟨o,c6,dD⟩:=hh.obj ho
   obtain⟨es',rfl,cC⟩:=dD
   split at h
   case h_2=>simp[Tr.run]at h
   rename_i hc
   have cb:=cb.arr hh ho hc
   simp only[aD.len]at cb
   obtain⟨x,hx,h⟩:=bind_some h
   rw[GV hT]at h
   obtain⟨v,hv,hk⟩:=lX h
   obtain⟨e',Gl,Eh⟩:=aw.get cC hx
   rw[←h1,←h2]at hv
   obtain⟨c',HU,SM⟩:=R.part (hT.up _ _ _ H Eh) hv
   refine⟨v,c',[n],?_,SM,hk⟩
   refine aE.mono (aE.bind (aE.arr c6 (by rw[cb]; exact(aw.length cC).symm)) ?_) (rd:=[n]++[]) (fun _ h=>by simpa using h)
   simp only[Gl]
   exact aE.eD HU
  ·simp[Tr.run]at h
 ·rename_i e j
  have ha:=ha.live rfl
  simp only[R]at ha
  obtain⟨e',rfl,Eh,_⟩:=ha
  obtain⟨v,hv,hk⟩:=lX h
  rw[←h1,←h2]at hv
  obtain⟨c',HU,SM⟩:=R.part Eh hv
  exact⟨v,c',[],aE.eD HU,SM,hk⟩
 ·simp[Tr.run]at h
theorem Dm[ab](hT:T.Ok){P:Program}{t:TypeId}{m:jU}{q:bH}(hq:eZ P t=some q)(h1:q.isAgg=m.agg)(h2:q.size=m.size)(hh:RH T H hp){a:SV T.den}{b:AV}(ha:RV T H a b)
  (h:(GP m H a K).run=some r):∃ v c rd,aE hp (kA P t b) c rd∧R T H v c∧(K v [] rd).run=some r:=by
 unfold GP at h
 split at h
 ·rename_i v aW len i
  have ha:=ha.live rfl
  simp only[R]at ha
  obtain⟨a0,g1,g2,g3⟩:=ha
  have hR:=qG g1 g3
  have chain:(ft i len 0 fun k=>oe m H (ik (k*aW) v) K).run=some r→∃ v c rd,aE hp (kA P t b) c rd∧R T H v c∧(K v [] rd).run=some r:=by
   intro h
   obtain⟨_,_,h⟩:=cU h
   exact uY hT hq h1 h2 hh (.inr hR) h
  split at h
  ·rename_i xs rd hs hx
   simp only[Bool.and_eq_true,Bool.not_eq_true']at hs
   split at h
   ·rename_i x K6
    rw[←Dj (K:=K) (m:=m) hx K6 g2 hs.1 (Nat.eq_of_beq_eq_true hs.2)]at h
    exact uY hT hq h1 h2 hh (.inr hR) h
   ·exact chain h
  ·exact chain h
 ·exact uY hT hq h1 h2 hh ha h
def aD.yh{den:Nat→Type}:aD den→Bool
 |.arr ..|.bX ..=>true
 |_=>false
theorem RO.Dn[ab]{o:aD T.den}{a:aI}(dD:RO T H o a)(hj:o.yh=true):∃ es,a=.arr o.flags.1 o.flags.2.1 o.flags.2.2 es∧es.length=o.len:=by
 cases o with
 |arr g cl f cur es=>obtain⟨es',rfl,cC,_⟩:=dD; exact⟨es',rfl,(RL.length cC).symm⟩
 |bX g f cur t l=>obtain⟨es',rfl,cC⟩:=dD; exact⟨es',rfl,(aw.length cC).symm⟩
 |_=>simp[aD.yh]at hj
theorem sr[ab](hT:T.Ok){P:Program}{t:TypeId}{m:jU}{q:bH}(hq:eZ P t=some q)(h2:q.size=m.size)(hh:RH T H hp){a v:SV T.den}{b c:AV}(ha:RV T H a b)(hv:RV T H v c)
  (h:(qy m H a v K).run=some r):iI T H hp (o8 P t b c) K r:=by
 unfold o8
 rw[hq]
 simp only
 unfold qy at h
 split at h
 case h_2=>simp[Tr.run]at h
 rename_i hd kF
 simp only[Bool.and_eq_true,decide_eq_true_eq]at kF
 have hv:=hv.live hd
 have kG:=hv.cells
 split at h
 case h_2=>simp[Tr.run]at h
 rename_i n cc i j
 have ha:=ha.live rfl
 simp only[R]at ha
 obtain⟨aq,rfl,cb⟩:=ha
 simp only
 split at h
 ·rename_i g cl f cur es ho
  obtain⟨o,c6,dD⟩:=hh.obj ho
  obtain⟨es',rfl,cC,qU⟩:=dD
  split at h
  case h_2=>simp[Tr.run]at h
  rename_i hc
  simp only[Bool.and_eq_true,Bool.not_eq_true']at hc
  have cb:=cb.arr hh ho hc.1
  simp only[aD.len]at cb
  split at h
  case h_2=>simp[Tr.run]at h
  rename_i e he
  split at h
  case h_2=>simp[Tr.run]at h
  rename_i e' yX
  obtain⟨b',o5,Rf⟩:=aw.get (aQ.1 cC) he
  obtain⟨e2,xK,Qs⟩:=R.iR Rf kG yX
  have eb:RL T H (es.set i e') (es'.set i e2):=aQ.2 ((aQ.1 cC).set i Qs)
  refine jI (o':=.arr g (cl&&av (bK v)) f cur (es.set i e')) hh ho (Nat.le_refl _) (fun _=>by simp[aD.len]) (a':=.arr g (cl&&aY (cellsOf c)) f (es'.set i e2)) ⟨_,by rw[RL.closed kG],eb,fun mY=>by simp only[Bool.and_eq_true]at mY; exact sj (qU mY.1) (yd yX (jH (qU mY.1) (List.mem_of_getElem? he)) mY.2) i⟩ (bh undef) ?_ h
  refine aE.mono (aE.bind (aE.arr c6 (by rw[cb]; exact(RL.length cC).symm)) ?_) (rd:=[n]++[]) (fun _ h=>by simpa using h)
  simp only[o5,xK]
  rw[if_pos ⟨hc.2,by rw[←kG.length,h2]; exact kF.1,by rw[←kG.Db]; exact kF.2⟩]
  exact aE.ret _
 ·rename_i g f cur t' l ho
  obtain⟨o,c6,dD⟩:=hh.obj ho
  obtain⟨es',rfl,cC⟩:=dD
  split at h
  case h_2=>simp[Tr.run]at h
  rename_i hc
  simp only[Bool.and_eq_true,Bool.not_eq_true']at hc
  have cb:=cb.arr hh ho hc.1.1
  simp only[aD.len]at cb
  obtain⟨x,hx,h⟩:=bind_some h
  split at h
  case h_2=>simp[Tr.run]at h
  rename_i e' yX
  split at h
  case h_2=>simp[Tr.run]at h
  rename_i y hy
  obtain⟨b',o5,Rf⟩:=aw.get cC hx
  obtain⟨e2,xK,Qs⟩:=R.iR (hT.up _ _ _ H Rf) kG yX
  have eb:aw (T.rp t') (l.set i y) (es'.set i e2):=cC.set i (hT.dn _ _ _ _ H hy Qs)
  refine jI (o':=.bX g f cur t' (l.set i y)) hh ho (Nat.le_refl _) (fun _=>by simp[aD.len]) (a':=.arr g (true&&aY (cellsOf c)) f (es'.set i e2)) ⟨_,by rw[←RL.closed kG,hc.2]; rfl,eb⟩ (bh undef) ?_ h
  refine aE.mono (aE.bind (aE.arr c6 (by rw[cb]; exact(aw.length cC).symm)) ?_) (rd:=[n]++[]) (fun _ h=>by simpa using h)
  simp only[o5,xK]
  rw[if_pos ⟨hc.1.2,by rw[←kG.length,h2]; exact kF.1,by rw[←kG.Db]; exact kF.2⟩]
  exact aE.ret _
 ·simp[Tr.run]at h
theorem H9[ab](hT:T.Ok){P:Program}{t:TypeId}{m:jU}{q:bH}(hq:eZ P t=some q)(h2:q.size=m.size)(hh:RH T H hp){a v:SV T.den}{b c:AV}(ha:RV T H a b)(hv:RV T H v c)
  (h:(Ft m H a v K).run=some r):iI T H hp (o8 P t b c) K r:=by
 unfold Ft at h
 split at h
 ·rename_i w aW len i
  have ha:=ha.live rfl
  simp only[R]at ha
  obtain⟨a0,g1,g2,g3⟩:=ha
  have hR:=qG g1 g3
  split at h
  ·rename_i n o hs hx
   rw[←BA (K:=K) (m:=m) hx g2 (Nat.eq_of_beq_eq_true hs)]at h
   exact sr hT hq h2 hh (.inr hR) hv h
  ·obtain⟨_,_,h⟩:=cU h
   exact sr hT hq h2 hh (.inr hR) hv h
 ·exact sr hT hq h2 hh ha hv h
end
end Go.PI
end
section
/- PS, part G: the other operations. -/
namespace Go.PI
variable {T:dk}{ρ:Type}
section
variable {H:ah T.den}{hp:ag}{K:EK T ρ}{r:ρ}{Q:gw}
theorem gw.Ok.slice(hQ:Q.Ok){t e:Nat}{m:jU}(h:Q.elemOf t=some (e,m)):Q.P.underlying t=some (.slice e)∧Q.ty e=some m:=by
 unfold gw.elemOf at h
 cases ht:Q.ty t with
 |none=>rw[ht]at h; simp at h
 |some m1=>
  rw[ht]at h
  simp only at h
  obtain⟨d,hd,hk⟩:=hQ.kind t m1 ht
  cases hm:m1.kind with
  |slice e'=>
   rw[hm]at h hk
   simp only[Option.map_eq_some_iff,Prod.mk.injEq]at h
   obtain⟨m2,h1,rfl,rfl⟩:=h
   cases d<;>simp[ot]at hk
   subst hk
   exact⟨hd,h1⟩
  |_=>rw[hm]at h; simp at h
theorem gw.Ok.elem[ab](hQ:Q.Ok){t:Nat}{m:jU}(h:Q.elem t=some m):∃ r,aP Q.P t=some r∧r.isAgg=m.agg∧r.size=m.size∧r.bytes=m.bytes∧(∀ z,m.zero=some z→cq r=some z):=by
 unfold gw.elem at h
 rw[Option.map_eq_some_iff]at h
 obtain⟨⟨e,m'⟩,h1,rfl⟩:=h
 obtain⟨h2,h3⟩:=hQ.slice h1
 obtain⟨r,h4,h5⟩:=hQ.row e _ h3
 exact⟨r,by simp[aP,h2,h4],h5⟩
theorem gw.Ok.Dp(hQ:Q.Ok){t n:Nat}{m:jU}(h:Q.arr t=some (n,m)):∃ r,arrayElem Q.P t=some (n,r)∧r.isAgg=m.agg∧r.size=m.size:=by
 unfold gw.arr at h
 cases ht:Q.ty t with
 |none=>rw[ht]at h; simp at h
 |some m1=>
  rw[ht]at h
  simp only at h
  obtain⟨d,hd,hk⟩:=hQ.kind t m1 ht
  cases hm:m1.kind with
  |array n' e=>
   rw[hm]at h hk
   simp only[Option.map_eq_some_iff,Prod.mk.injEq]at h
   obtain⟨m2,h1,rfl,rfl⟩:=h
   cases d<;>simp[ot]at hk
   obtain⟨rfl,rfl⟩:=hk
   obtain⟨r,h4,h5,h6,_⟩:=hQ.row _ _ h1
   exact⟨r,by simp[arrayElem,hd,h4],h5,h6⟩
  |_=>rw[hm]at h; simp at h
theorem gw.Ok.NR(hQ:Q.Ok){t f off:Nat}{m:jU}(h:Q.Uk t f=some (off,m)):∃ r,mg Q.P t f=some (off,r)∧r.isAgg=m.agg∧r.size=m.size:=by
 unfold gw.Uk at h
 cases ht:Q.ty t with
 |none=>rw[ht]at h; simp at h
 |some m1=>
  rw[ht]at h
  simp only at h
  obtain⟨d,hd,hk⟩:=hQ.kind t m1 ht
  cases hm:m1.kind with
  |struct fs=>
   rw[hm]at h hk
   simp only at h
   cases d<;>simp[ot]at hk
   rename_i D5
   subst hk
   cases hf:(List.map (fun f=>(f.offset,f.type)) D5.toList)[f]? with
   |none=>rw[hf]at h; simp at h
   |some q=>
    obtain⟨Wa,e⟩:=q
    rw[hf]at h
    simp only at h
    rw[List.getElem?_map,Option.map_eq_some_iff]at hf
    obtain⟨fd,UN,hq⟩:=hf
    simp only[Prod.mk.injEq]at hq
    obtain⟨rfl,rfl⟩:=hq
    cases he:Q.ty fd.type with
    |none=>rw[he]at h; simp at h
    |some m2=>
     rw[he]at h
     simp only at h
     split at h
     ·simp at h
     rename_i hz
     simp only[Option.some.injEq,Prod.mk.injEq]at h
     obtain⟨rfl,rfl⟩:=h
     obtain⟨r,h4,h5,h6,_⟩:=hQ.row _ _ he
     refine⟨r,?_,h5,h6⟩
     have Wb:D5[f]?=some fd:=by simpa using UN
     simp[mg,structFields,hd,Wb,h4]
     omega
  |_=>rw[hm]at h; simp at h
theorem gw.Ok.NS(hQ:Q.Ok){t:Nat}{b:Bool}(h:Q.isSlice t=some b):bZ Q.P t=b:=by
 unfold gw.isSlice at h
 cases ht:Q.ty t with
 |none=>rw[ht]at h; simp at h
 |some m1=>
  rw[ht]at h
  simp only at h
  obtain⟨d,hd,hk⟩:=hQ.kind t m1 ht
  unfold bZ
  rw[hd]
  cases hm:m1.kind<;>rw[hm]at h hk<;>cases d<;>simp[ot]at hk<;>simp_all
theorem NT[ab]{P:Program}{op:BinOp}{t:TypeId}{xo yo:Operand}{k:IntKind}{a b:Int}{v:Value}(h:Qd op k a b=some v):
  fj P op t xo yo (.lit (.int k a)) (.lit (.int k b))=some (.lit v):=by
 cases op<;>simp only[Qd,Option.some.injEq,reduceCtorEq]at h<;>subst h
 ·exact A3
 ·exact Gp
 ·exact M3
 ·rw[M0]; congr
 ·rw[M1]; congr
 ·exact qj
 ·exact MY
 ·exact Gn
 ·exact MZ
theorem NU[ab]{P:Program}{op:BinOp}{t:TypeId}{xo yo:Operand}{k:IntKind}{a b:Int}{v:Value}(h:Qe op k a b=some v)(hb:b≠0):
  fj P op t xo yo (.lit (.int k a)) (.lit (.int k b))=some (.lit v):=by
 cases op<;>simp only[Qe,Option.some.injEq,reduceCtorEq]at h<;>subst h
 ·simp only[fj,ee,c8]; rw[ej _ (by simp) (by simp)]; simp[binOp,Op.intDiv,hb]; rfl
 ·simp only[fj,ee,c8]; rw[ej _ (by simp) (by simp)]; simp[binOp,Op.intDiv,hb]; rfl
theorem Qt[ab]{P:Program}{op:BinOp}{t:TypeId}{xo yo:Operand}{k k':IntKind}{a b:Int}{v:Value}(h:VL op k a b=some v)(hb:¬b<0):
  fj P op t xo yo (.lit (.int k a)) (.lit (.int k' b))=some (.lit v):=by
 cases op<;>simp only[VL,Option.some.injEq,reduceCtorEq]at h<;>subst h
 ·simp only[fj,ee,c8]; rw[ej _ (by simp) (by simp)]; simp[binOp,Op.shift,hb]; rfl
 ·simp only[fj,ee,c8]; rw[ej _ (by simp) (by simp)]; simp[binOp,Op.shift,hb]; rfl
theorem v8{x y:Value}{K:Bool→Tr ρ}:wO x y K=K (r8 x y):=by
 unfold wO r8
 split<;>simp_all
theorem v9[ab]:∀ {c c':List Value} {K:Bool→Tr ρ},kT c c' K=K (cI c c')
 |[],[],K=>rfl
 |[x],[y],K=>by simp[kT,v8,cI]
 |x::x'::xs,y::y'::ys,K=>by
  simp only[kT,v8]
  rw[v9]
  rfl
 |[],_::_,K=>by simp[kT,cI]
 |_::_,[],K=>by simp[kT,cI]
 |[x],y::y'::ys,K=>by simp[kT,cI]
 |x::x'::xs,[y],K=>by simp[kT,cI]
theorem yi:∀ (c:List Value),cT (c.map .lit)=some c
 |[]=>rfl
 |v::vs=>by simp[cT,yi vs]
theorem Ia[ab](hQ:Q.Ok){op:BinOp}{t:TypeId}{xo yo:Operand}{l l':List (SV T.den)}{a b:List AV}(h1:RL T H l a)(h2:RL T H l' b)(h:(Fw Q op t l l' K).run=some r):
  ∃ v,fj Q.P op t xo yo (.agg a) (.agg b)=some (.lit v)∧(K (.lit v) [] []).run=some r:=by
 unfold Fw at h
 split at h
 case h_2=>simp[Tr.run]at h
 rename_i c c' m hc HU hm
 split at h
 case h_2=>simp[Tr.run]at h
 rename_i ks hks
 split at h
 case h_2=>simp[Tr.run]at h
 rename_i hf
 simp only[Bool.and_eq_true]at hf
 obtain⟨_,rfl⟩:=RL.cT h1 hc
 obtain⟨_,rfl⟩:=RL.cT h2 HU
 obtain⟨hg,Hi⟩:=hQ.OS _ _ _ hm hks
 have he:=sn 20 t ks c c' Hi hf.1.2 hf.2
 obtain⟨rr,wv,E6,_⟩:=hQ.row _ _ hm
 have hd:∃ d,Q.P.underlying t=some d∧ed d=true:=by
  unfold eZ at wv
  cases hi:Q.P.info? t with
  |none=>rw[hi]at wv; simp at wv
  |some i=>
   cases hu:Q.P.underlying t with
   |none=>rw[hi,hu]at wv; simp at wv
   |some d=>
    rw[hi,hu]at wv
    simp only[Option.some.injEq]at wv
    refine⟨d,rfl,?_⟩
    rw[←hf.1.1,←E6,←wv]
    rfl
 obtain⟨d,OG,T6⟩:=hd
 have hA:∀ op,ee Q.P op t (.agg (c.map .lit)) (.agg (c'.map .lit))=lf op (cI c c'):=by
  intro op
  unfold ee
  simp only[yi,OG]
  cases d<;>simp[ed]at T6<;>simp[hg,he]
 have hB:∀ op x,lf op (cI c c')=some x→fj Q.P op t xo yo (.agg (c.map .lit)) (.agg (c'.map .lit))=some x:=by
  intro op x hx
  unfold fj
  rw[hA,hx]
 rw[v9]at h
 cases op<;>simp only[Tr.run,reduceCtorEq]at h
 ·exact⟨_,hB _ _ rfl,h⟩
 ·exact⟨_,hB _ _ rfl,h⟩
theorem tI[ab]{v:SV T.den}{a b:AV}(hv:RV T H v a)(h:mQ v=some b):a=b:=by
 rcases hv with hv|hv
 ·subst hv; simp[mQ]at h
 ·exact hv.plain h
theorem tJ{P:Program}{op:BinOp}{t:TypeId}{a b:AV}(ha:(∀ l,a≠.agg l)∨∀ l,b≠.agg l):ee P op t a b=none:=by
 unfold ee
 split
 ·simp_all
 ·rfl
theorem Ak[ab]{P:Program}{op:BinOp}{t:TypeId}{x:SV T.den}{a:AV}{n:Value}{y:AV}(hx:RV T H x a)(h:Bn P op t x n=some y):
  nO P op t a n=some y∧c8 a=none∧∀ l,a≠.agg l:=by
 unfold Bn at h
 split at h
 ·split at h
  ·have:=hx.live rfl
   simp only[R]at this
   obtain⟨v',rfl,l',rfl,_⟩:=this
   exact⟨by simpa[nO] using h,rfl,by simp⟩
  ·have:=hx.live rfl
   simp only[R]at this
   obtain⟨v',rfl,l',rfl,_⟩:=this
   exact⟨by simpa[nO] using h,rfl,by simp⟩
  ·simp at h
 ·split at h
  ·have:=hx.live rfl
   simp only[R]at this
   obtain⟨f',c',rfl,_⟩:=this
   exact⟨by simpa[nO] using h,rfl,by simp⟩
  ·simp at h
 ·split at h
  case isFalse=>simp at h
  rename_i hc
  simp only[Bool.and_eq_true]at hc
  cases x<;>simp[GM]at hc
  rename_i xs
  have:=hx.live rfl
  simp only[R]at this
  obtain⟨l',rfl,hl,_⟩:=this
  have:notNil (.sl l')=true:=by
   simp only[notNil]
   have:=hl.length
   cases l' with
   |nil=>simp at this; exact absurd this hc.2
   |cons=>rfl
  refine⟨?_,rfl,by simp⟩
  simp only[nO,hc.1,this,Bool.and_self,if_true]
  exact h
 ·simp at h
theorem NV[ab](hQ:Q.Ok){op:BinOp}{t:TypeId}{xo yo:Operand}{x y:SV T.den}{a b:AV}(hx:RV T H x a)(hy:RV T H y b)(h:(Qg Q op t xo yo x y K).run=some r):
  ∃ v,fj Q.P op t xo yo a b=some (.lit v)∧(K (.lit v) [] []).run=some r:=by
 unfold Qg at h
 split at h
 ·rename_i k m k' m'
  have ha:=hx.lit rfl
  have hb:=hy.lit rfl
  subst ha; subst hb
  split at h
  ·rename_i v hk hv
   simp only[decide_eq_true_eq]at hk
   subst hk
   exact⟨v,NT hv,h⟩
  ·split at h
   ·rename_i v hk hv
    simp only[decide_eq_true_eq]at hk
    subst hk
    rcases fi h with ⟨_,h⟩|⟨h0,h⟩
    ·simp[Tr.run]at h
    ·exact⟨v,NU hv (by simpa using h0),h⟩
   ·split at h
    ·rename_i v hk hv
     rcases fi h with ⟨_,h⟩|⟨h0,h⟩
     ·simp[Tr.run]at h
     ·exact⟨v,Qt hv (by simpa using h0),h⟩
    ·exact gX h
 ·rename_i l l'
  have ha:=hx.live rfl
  have hb:=hy.live rfl
  simp only[R]at ha hb
  obtain⟨a',rfl,ha⟩:=ha
  obtain⟨b',rfl,hb⟩:=hb
  exact Ia hQ ha hb h
 ·split at h
  ·rename_i a' b' h1 h2
   rw[tI hx h1,tI hy h2]
   exact gX h
  ·split at h
   ·rename_i n
    obtain⟨v,hv,hk⟩:=gX h
    obtain⟨h1,h2,h3⟩:=Ak hx hv
    have hb:=hy.lit rfl
    subst hb
    refine⟨v,?_,hk⟩
    unfold fj
    rw[tJ (.inl h3),h2]
    exact h1
   ·rename_i hyn
    split at h
    ·rename_i n
     obtain⟨v,hv,hk⟩:=gX h
     obtain⟨h1,h2,h3⟩:=Ak hy hv
     have ha:=hx.lit rfl
     subst ha
     refine⟨v,?_,hk⟩
     unfold fj
     rw[tJ (.inr h3),h2]
     cases b with
     |lit b=>
      exfalso
      simp[c8]at h2
     |_=>exact h1
    ·simp[Tr.run]at h
theorem NW[ab]{t:Bool}{x y:SV T.den}{a b:AV}(hx:RV T H x a)(hy:RV T H y b)(h:(KU t x y K).run=some r):
  ∃ v,RV T H v (cond t a b)∧(K v [] []).run=some r:=by
 unfold KU at h
 split at h
 ·have ha:=hx.lit rfl
  have hb:=hy.lit rfl
  subst ha; subst hb
  refine⟨_,?_,h⟩
  cases t<;>exact bh _
 ·rename_i k m k' m'
  have ha:=hx.lit rfl
  have hb:=hy.lit rfl
  subst ha; subst hb
  split at h
  ·rename_i hk
   subst hk
   refine⟨_,?_,h⟩
   cases t<;>exact bh _
  ·rcases fi h with ⟨rfl,h⟩|⟨rfl,h⟩
   ·exact⟨_,bh _,h⟩
   ·exact⟨_,bh _,h⟩
 ·rcases fi h with ⟨rfl,h⟩|⟨rfl,h⟩
  ·exact⟨_,hx,h⟩
  ·exact⟨_,hy,h⟩
end
end Go.PI
end
section
/- PS, part H: structs and slices built, cut, indexed. -/
namespace Go.PI
variable {T:dk}{ρ:Type}
section
variable {H:ah T.den}{hp:ag}{K:EK T ρ}{r:ρ}{Q:gw}
theorem yj(hQ:Q.Ok):∀ {fs:List Field} {pl:List (Nat×Nat)},Q.uJ (fs.map fun f=>(f.offset,f.type))=some pl→mh Q.P fs=some pl
 |[],pl,h=>by simpa[gw.uJ,mh] using h
 |f::fs,pl,h=>by
  simp only[List.map_cons,gw.uJ]at h
  cases hm:Q.ty f.type with
  |none=>rw[hm]at h; simp at h
  |some m=>
   cases hp:Q.uJ (fs.map fun f=>(f.offset,f.type)) with
   |none=>rw[hm,hp]at h; simp at h
   |some l=>
    rw[hm,hp]at h
    simp only[Option.some.injEq]at h
    subst h
    obtain⟨r,h1,_,h2,_⟩:=hQ.row _ _ hm
    simp[mh,h1,yj hQ hp,h2]
theorem yk[ab]{q:bH}{z:AV}{zs:SV T.den}(h:cq q=some z)(hz:(gv z:Option (SV T.den))=some zs):
  ∃ v,q.zero=some v∧v.cells.toList.all (fun v=>ba (.lit v))=true∧RL T H (bK zs) (v.cells.toList.map .lit):=by
 unfold cq at h
 cases hv:q.zero with
 |none=>rw[hv]at h; simp at h
 |some v=>
  rw[hv]at h
  simp only at h
  split at h
  case isFalse=>simp at h
  rename_i hc
  simp only[Option.some.injEq]at h
  refine⟨v,rfl,hc.2.2.1,?_⟩
  have h1:=(uV (H:=H) hz).cells
  rw[←h]at h1
  cases v<;>first|exact h1|(simp[wT]at hc)
theorem Ib[ab](hQ:Q.Ok){t:TypeId}{ps:List (Nat×SV T.den)}{qs:List (Nat×AV)}(hp:RP T H ps qs){v:SV T.den}(h:Fu Q t ps=some v):∃ a,tV Q.P t qs=some a∧R T H v a:=by
 unfold Fu at h
 split at h
 case h_2=>simp at h
 rename_i m hm
 obtain⟨q,gK,dR,gE,_,GD⟩:=hQ.row _ _ hm
 obtain⟨d,hd,hk⟩:=hQ.kind _ _ hm
 split at h
 ·rename_i fs z Sa hz
  rw[Option.bind_eq_some_iff]at hz
  obtain⟨z0,No,hz⟩:=hz
  obtain⟨zv,PX,Qu,SN⟩:=yk (H:=H) (GD _ No) hz
  rw[Sa]at hk
  cases d<;>simp[ot]at hk
  rename_i D5
  subst hk
  split at h
  case h_2=>simp at h
  rename_i pl F7
  rw[Option.map_eq_some_iff]at h
  obtain⟨l,h1,rfl⟩:=h
  obtain⟨l',h2,h3⟩:=RP.fill hp SN h1
  refine⟨.agg l',?_,by simp only[R]; exact⟨l',rfl,h3⟩⟩
  unfold tV
  simp only[hd,gK,PX,yj hQ F7,Qu,if_true]
  rw[h2]; rfl
 ·rename_i n e z Sa hz
  rw[Option.bind_eq_some_iff]at hz
  obtain⟨z0,No,hz⟩:=hz
  obtain⟨zv,PX,Qu,SN⟩:=yk (H:=H) (GD _ No) hz
  rw[Sa]at hk
  cases d<;>simp[ot]at hk
  obtain⟨rfl,rfl⟩:=hk
  split at h
  case h_2=>simp at h
  rename_i m2 yL
  obtain⟨q2,wv,_,hr3,_⟩:=hQ.row _ _ yL
  rw[Option.map_eq_some_iff]at h
  obtain⟨l,h1,rfl⟩:=h
  obtain⟨l',h2,h3⟩:=RP.fill hp SN h1
  refine⟨.agg l',?_,by simp only[R]; exact⟨l',rfl,h3⟩⟩
  unfold tV
  simp only[hd,gK,PX,wv,Qu,if_true,hr3]
  rw[h2]; rfl
 ·simp at h
theorem wa[ab]:∀ {ps:List (Nat×SV T.den)} {qs:List (Nat×AV)} {es:List (SV T.den)} {es':List AV},RP T H ps qs→RL T H es es'→RL T H (fh es ps) (gN es' qs)
 |[],[],es,es',_,h=>h
 |(i,v)::ps,(i',a)::qs,es,es',hp,h=>by
  obtain⟨⟨h1,h2⟩,h3⟩:=hp
  simp only at h1 h2
  subst h1
  simp only[fh,gN]
  exact wa h3 (aQ.2 ((aQ.1 h).set i h2))
 |[],_::_,_,_,h,_=>h.elim
 |_::_,[],_,_,h,_=>h.elim
theorem RP.snd:∀ {ps:List (Nat×SV T.den)} {qs:List (Nat×AV)},RP T H ps qs→RL T H (ps.map (·.2)) (qs.map (·.2))
 |[],[],_=>by simp[RL]
 |(i,v)::ps,(i',a)::qs,h=>by
  obtain⟨⟨_,h2⟩,h3⟩:=h
  simp only[List.map_cons,RL]
  exact⟨h2,RP.snd h3⟩
 |[],_::_,h=>h.elim
 |_::_,[],h=>h.elim
theorem RP.all{p:Nat×SV T.den→Bool}{q:Nat×AV→Bool}(Mv:∀ i v a,R T H v a→p (i,v)=q (i,a)):∀ {ps:List (Nat×SV T.den)} {qs:List (Nat×AV)},RP T H ps qs→ps.all p=qs.all q
 |[],[],_=>rfl
 |(i,v)::ps,(i',a)::qs,h=>by
  obtain⟨⟨h1,h2⟩,h3⟩:=h
  simp only at h1 h2
  subst h1
  simp only[List.all_cons]
  rw[Mv i v a h2,RP.all Mv h3]
 |[],_::_,h=>h.elim
 |_::_,[],h=>h.elim
theorem eA(hh:RH T H hp){nm:Nat}(hn:nm=H.length∨H[nm]?=some none){o:aD T.den}:fJ (bL H nm o) nm o.cur o.len:=by
 refine⟨o,?_,Nat.le_refl _,fun _=>rfl⟩
 unfold bL
 split
 ·rename_i h; subst h; simp
 ·grind
theorem rn:∀ (ps:List (Nat×SV T.den)) (es:List (SV T.den)),(fh es ps).length=es.length
 |[],es=>rfl
 |(i,v)::ps,es=>by simp only[fh]; rw[rn ps]; simp
theorem pY[ab](hQ:Q.Ok)(hh:RH T H hp){nm:Nat}(hn:nm=H.length∨H[nm]?=some none){t:TypeId}{len:Nat}{ps:List (Nat×SV T.den)}{qs:List (Nat×AV)}(NX:RP T H ps qs)
  (h:(my Q nm t len ps K).run=some r):iI T H hp (.eD (dy Q.P nm t len qs)) K r:=by
 unfold my at h
 split at h
 case h_2=>simp[Tr.run]at h
 rename_i m hm
 obtain⟨q,gK,dR,gE,GD,IX⟩:=hQ.elem hm
 split at h
 case h_2=>simp[Tr.run]at h
 rename_i z hz
 rw[Option.bind_eq_some_iff]at hz
 obtain⟨z0,No,hz⟩:=hz
 split at h
 case isFalse=>simp[Tr.run]at h
 rename_i hc
 have nT:=IX _ No
 have cC:=wa NX (aQ.2 (aw.replicate (uV (H:=H) hz) len))
 refine eu hh hn (o:=.arr false (av (ps.map (·.2))) false 0 (fh (List.replicate len z) ps)) (a':=.arr false (aY (qs.map (·.2))) false (gN (List.replicate len z0) qs))
  ⟨_,by rw[RL.closed (RP.snd NX)],cC,fun mY=>oP (k8 fun x hx=>by rw[List.eq_of_mem_replicate hx]; exact tF hz) mY⟩ (a:=.bp q.size nm len 0 len (some len)) (rd:=[]) ?_ ?_ h
 ·right
  simp only[R]
  have hv:=eA hh hn (o:=.arr false (av (ps.map (·.2))) false 0 (fh (List.replicate len z) ps))
  simp only[aD.cur,aD.len,rn,List.length_replicate]at hv
  exact⟨len,hv,by rw[gE]⟩
 ·have bf:qs.all (fun p=>decide (p.1<len)&&aG q.isAgg q.size p.2)=true:=by
   rw[←RP.all (p:=fun p=>decide (p.1<len)&&kS m.agg m.size p.2) (fun i v a Mx=>by simp only[dR,gE,R.aG Mx]) NX]; exact hc.2.2
  refine aE.eD ?_
  unfold dy
  simp only[gK,nT]
  rw[if_pos ⟨by rw[gE]; exact hc.1,by rw[gE]; exact hc.2.1,bf⟩]
def dk.tK(T:dk)(Q:gw):Prop:=∀ t m z za,Q.ty t=some m→m.zero=some za→T.zero t=some z→T.rp t z za
theorem ze[ab](hQ:Q.Ok)(hZ:T.tK Q)(hh:RH T H hp){nm:Nat}(hn:nm=H.length∨H[nm]?=some none){t:TypeId}{l c:SV T.den}{a b:AV}(hl:RV T H l a)(hc:RV T H c b)
  (h:(rX Q nm t l c K).run=some r):iI T H hp (.eD (eL Q.P nm t a b)) K r:=by
 unfold rX at h
 split at h
 case h_2=>simp[Tr.run]at h
 rename_i e m hm
 obtain⟨hu,ml⟩:=hQ.slice hm
 obtain⟨q,gK,dR,gE,GD,IX⟩:=hQ.row _ _ ml
 have yX:aP Q.P t=some q:=by simp[aP,hu,gK]
 split at h
 case h_2=>simp[Tr.run]at h
 rename_i za z Qv hz Ed
 simp only[decide_eq_true_eq]at Ed
 have nT:=IX _ Qv
 have Wc:=hZ _ _ _ _ ml Qv hz
 obtain⟨k,n,e1,Ev,h⟩:=iJ h
 obtain⟨k',n',e2,Wd,h⟩:=iJ h
 have ha:=qF hl e1 Ev
 have hb:=qF hc e2 Wd
 obtain⟨hg,h⟩:=aZ h
 simp only[Bool.and_eq_true,decide_eq_true_eq]at hg
 have xq:aw (T.rp e) (List.replicate n'.toNat z) (List.replicate n'.toNat za):=aw.replicate Wc _
 have hA:eL Q.P nm t a b=some ⟨.bp q.size nm n'.toNat 0 n.toNat (some n'.toNat),[(nm,.arr false true false (List.replicate n'.toNat za))]⟩:=by
  simp_all[yX,ha,hb,nT,eL]
 have hv:=eA hh hn (o:=.bX false false 0 e (List.replicate n'.toNat z))
 simp only[aD.cur,aD.len,List.length_replicate]at hv
 refine eu hh hn (o:=.bX false false 0 e (List.replicate n'.toNat z)) ⟨_,rfl,xq⟩ ?_ (aE.eD hA) h
 right
 simp only[R]
 exact⟨n'.toNat,hv,by rw[gE]⟩
theorem zf[ab](hQ:Q.Ok)(hZ:T.tK Q)(hh:RH T H hp){nm:Nat}(hn:nm=H.length∨H[nm]?=some none){t:TypeId}{l:SV T.den}{a:AV}(hl:RV T H l a)
  (h:(rY Q nm t l K).run=some r):iI T H hp (.eD (eL Q.P nm t a a)) K r:=by
 unfold rY at h
 split at h
 case h_2=>simp[Tr.run]at h
 rename_i e m hm
 obtain⟨hu,ml⟩:=hQ.slice hm
 obtain⟨q,gK,dR,gE,GD,IX⟩:=hQ.row _ _ ml
 have yX:aP Q.P t=some q:=by simp[aP,hu,gK]
 split at h
 case h_2=>simp[Tr.run]at h
 rename_i za z Qv hz Ed
 simp only[decide_eq_true_eq]at Ed
 have nT:=IX _ Qv
 have Wc:=hZ _ _ _ _ ml Qv hz
 obtain⟨k,n,e1,Ev,h⟩:=iJ h
 have ha:=qF hl e1 Ev
 obtain⟨hg,h⟩:=aZ h
 simp only[Bool.and_eq_true,decide_eq_true_eq]at hg
 have xq:aw (T.rp e) (List.replicate n.toNat z) (List.replicate n.toNat za):=aw.replicate Wc _
 have hA:eL Q.P nm t a a=some ⟨.bp q.size nm n.toNat 0 n.toNat (some n.toNat),[(nm,.arr false true false (List.replicate n.toNat za))]⟩:=by
  simp_all[yX,ha,nT,eL]
 have hv:=eA hh hn (o:=.bX false false 0 e (List.replicate n.toNat z))
 simp only[aD.cur,aD.len,List.length_replicate]at hv
 refine eu hh hn (o:=.bX false false 0 e (List.replicate n.toNat z)) ⟨_,rfl,xq⟩ ?_ (aE.eD hA) h
 right
 simp only[R]
 exact⟨n.toNat,hv,by rw[gE]⟩
theorem Ic[ab](hQ:Q.Ok)(hh:RH T H hp){nm:Nat}(hn:nm=H.length∨H[nm]?=some none){t:TypeId}{m:jU}(hm:Q.ty t=some m){z:SV T.den}(hz:m.zero.bind gv=some z)(hs:0<m.size)
  (h:(K (.ref nm 0 0 0) [(nm,.arr false true false 0 [z])] []).run=some r) {ev:Operand→AV} {dst:Option Tmp} {type:TypeId} {pos:String} {after:Array Edge} {guard:Option (Nat×Bool)} :
  iI T H hp (aM Q.P nm ev ⟨dst,.alloc t,type,pos,after,guard⟩) K r:=by
 obtain⟨q,gK,dR,gE,GD,IX⟩:=hQ.row _ _ hm
 rw[Option.bind_eq_some_iff]at hz
 obtain⟨z0,No,hz⟩:=hz
 have nT:=IX _ No
 refine eu hh hn (o:=.arr false true false 0 [z]) (a':=.arr false true false [z0]) ⟨_,rfl,by simp only[RL]; exact⟨uV hz,trivial⟩,fun _=>by simp only[av,tF hz,Bool.and_self]⟩ (a:=.ref nm 1 0 0) (rd:=[]) ?_ ?_ h
 ·right
  simp only[R]
  exact⟨1,rfl,eA hh hn (o:=.arr false true false 0 [z])⟩
 ·simp only[aM,gK,nT]
  rw[if_pos (by omega)]
  exact aE.ret _
def K7(T:dk)(H:ah T.den)(x:Option (SV T.den))(y:Option AV):Prop:=
 match x,y with
 |none,none=>True
 |some v,some a=>RV T H v a
 |_,_=>False
theorem gY[ab]{d:Nat}{x:Option (SV T.den)}{y:Option AV}(K8:K7 T H x y){K:Nat→Tr ρ}(h:(jf d x K).run=some r):∃ n,br d y=some n∧(K n).run=some r:=by
 unfold jf at h
 split at h
 ·cases y with
  |none=>exact⟨d,rfl,h⟩
  |some a=>exact K8.elim
 ·cases y with
  |none=>exact K8.elim
  |some a=>
   obtain⟨k,n,e1,Ev,h⟩:=iJ h
   exact⟨n.toNat,qF K8 e1 Ev,h⟩
theorem kg[ab]{d:Nat}{v:SV T.den}{y:Option AV}(K8:K7 T H (some v) y){K:Nat→Tr ρ}(h:(fV v K).run=some r):∃ n,br d y=some n∧(K n).run=some r:=
 gY (d:=d) K8 h
theorem ss[ab]{x:Option (SV T.den)}{y z:Option AV}(K8:K7 T H x y)(h:uQ x=some z):y=z:=by
 cases x with
 |none=>
  cases y with
  |none=>simpa[uQ] using h
  |some a=>exact K8.elim
 |some v=>
  cases y with
  |none=>exact K8.elim
  |some a=>
   simp only[uQ,Option.map_eq_some_iff]at h
   obtain⟨b,hb,rfl⟩:=h
   rw[tI K8 hb]
theorem K7.isSome{x:Option (SV T.den)}{y:Option AV}(K8:K7 T H x y):x.isSome=y.isSome:=by
 cases x<;>cases y<;>first|rfl|exact K8.elim
theorem qH[ab](hh:RH T H hp){esz n c:Nat}{rg:Option (Nat×Nat)}{cap:Option Nat}{a:AV}(ha:R T H (.bp esz n c rg cap) a){off len:Nat}(hr:mR H n c rg=some (off,len)){o:aD T.den}
  (ho:H[n]?=some (some o)):∃ aq,a=.bp esz n aq off len cap∧fJ H n c aq∧(Nat.beq c o.cur=true→aq=o.len):=by
 simp only[R]at ha
 obtain⟨aq,hv,ha⟩:=ha
 have cb:Nat.beq c o.cur=true→aq=o.len:=hv.arr hh ho
 cases rg with
 |some q=>
  obtain⟨Wa,NL⟩:=q
  simp only[mR,Option.some.injEq,Prod.mk.injEq]at hr
  obtain⟨rfl,rfl⟩:=hr
  exact⟨aq,ha,hv,cb⟩
 |none=>
  simp only[mR,ho]at hr
  split at hr
  case isFalse=>simp at hr
  rename_i hc
  simp only[Option.some.injEq,Prod.mk.injEq]at hr
  obtain⟨rfl,rfl⟩:=hr
  have:=cb hc
  subst this
  exact⟨_,ha,hv,fun _=>rfl⟩
theorem su(hT:T.Ok){t:Nat}{agg:Bool}{size:Nat}(h1:agg=T.agg t)(h2:size=T.size t):∀ {l:List (T.den t)} {l':List AV},aw (T.rp t) l l'→l'.all (aG agg size)=true
 |[],[],_=>rfl
 |_::_,_::_,h=>by
  subst h1; subst h2
  simp only[List.all_cons,Bool.and_eq_true]
  exact⟨hT.ok _ _ _ h.1,su hT rfl rfl h.2⟩
theorem NY[ab](hT:T.Ok)(hQ:Q.Ok)(hh:RH T H hp){t:TypeId}{x:SV T.den}{a:AV}(hx:RV T H x a){lo hi mx:Option (SV T.den)}{Rg ua O0:Option AV}(h1:K7 T H lo Rg)(h2:K7 T H hi ua)(h3:K7 T H mx O0)
  (h:(Qb Q H t x lo hi mx K).run=some r):∃ v b,m6 Q.P t a Rg ua O0=some b∧RV T H v b∧(K v [] []).run=some r:=by
 unfold Qb at h
 split at h
 ·rename_i v
  have ha:=hx.lit rfl
  subst ha
  split at h
  ·rename_i l hh' m e1 e2 e3
   rw[ss h1 e1,ss h2 e2,ss h3 e3]
   split at h
   ·rename_i w hw
    exact⟨_,_,hw,bh w,h⟩
   ·rename_i hw
    exact⟨_,_,hw,.inr (by simp only[R]),h⟩
   ·simp[Tr.run]at h
  ·simp[Tr.run]at h
 ·rename_i xs
  have ha:=hx.live rfl
  simp only[R]at ha
  obtain⟨l',rfl,hl,D8⟩:=ha
  split at h
  ·rename_i m hm
   obtain⟨q,gK,dR,gE,_⟩:=hQ.elem hm
   obtain⟨n1,e1,h⟩:=gY h1 h
   obtain⟨n2,e2,h⟩:=gY h2 h
   obtain⟨_,_,h⟩:=cU h
   obtain⟨_,_,h⟩:=cU h
   split at h
   case h_2=>simp[Tr.run]at h
   rename_i hc
   simp only[Bool.and_eq_true,decide_eq_true_eq]at hc
   cases O0 with
   |some _=>exact h3.elim
   |none=>
    refine⟨_,.sl ((l'.drop n1).take (n2-n1)),?_,?_,h⟩
    ·have bf:l'.all (aG q.isAgg q.size)=true:=by
      rw[dR,gE,←RL.all (fun _ _=>R.aG) hl]; exact hc.2
     simp only[m6,gK,e1]
     rw[show br l'.length ua=some n2 by rw[←hl.length]; exact e2]
     simp only
     rw[if_pos ⟨hc.1.1,by rw[←hl.length]; exact hc.1.2,bf⟩]
    ·right
     simp only[R]
     exact⟨_,rfl,aQ.2 (((aQ.1 hl).drop n1).take (n2-n1)),mA D8 _ _⟩
  ·simp[Tr.run]at h
 ·rename_i t' l
  split at h
  ·rename_i m hm
   obtain⟨q,gK,dR,gE,_⟩:=hQ.elem hm
   split at h
   case h_2=>simp[Tr.run]at h
   rename_i hc
   simp only[Bool.and_eq_true,decide_eq_true_eq]at hc
   have ha:=hx.live rfl
   cases O0 with
   |some _=>exact h3.elim
   |none=>
    have key:∀ n1 n2,br 0 Rg=some n1→br l.length ua=some n2→n1≤n2→n2≤l.length →
      ∃ b,m6 Q.P t a Rg ua none=some b∧RV T H (.jd t' ((l.drop n1).take (n2-n1))) b:=by
     intro n1 n2 e1 e2 hle yU
     simp only[R]at ha
     rcases ha with ⟨l',rfl,hl⟩|⟨rfl,rfl⟩
     ·refine⟨.sl ((l'.drop n1).take (n2-n1)),?_,?_⟩
      ·simp only[m6,gK,e1]
       rw[show br l'.length ua=some n2 by rw[←hl.length]; exact e2]
       simp only
       rw[if_pos ⟨hle,by rw[←hl.length]; exact yU,su hT (by rw[dR]; exact hc.1) (by rw[gE]; exact hc.2) hl⟩]
      ·right
       simp only[R]
       exact .inl ⟨_,rfl,(hl.drop n1).take (n2-n1)⟩
     ·simp only[List.length_nil,Nat.le_zero]at yU
      subst yU
      have:n1=0:=by omega
      subst this
      refine⟨.lit cK,?_,?_⟩
      ·simp only[List.length_nil]at e2
       simp only[m6,gK,e1,e2]
       rfl
      ·right
       show R T H (.jd t' _) (.lit cK)
       unfold R
       exact .inr ⟨by simp,rfl⟩
    cases lo with
    |none=>
     cases Rg with
     |some _=>exact h1.elim
     |none=>
      cases hi with
      |none=>
       cases ua with
       |some _=>exact h2.elim
       |none=>
        obtain⟨b,hb,hr⟩:=key 0 l.length rfl rfl (Nat.zero_le _) (Nat.le_refl _)
        simp only[List.drop_zero,Nat.sub_zero,List.take_length]at hr
        exact⟨_,b,hb,hr,h⟩
      |some hi=>
       obtain⟨n2,e2,h⟩:=kg (d:=l.length) h2 h
       obtain⟨hg,h⟩:=aZ h
       simp only[decide_eq_true_eq]at hg
       obtain⟨b,hb,hr⟩:=key 0 n2 rfl e2 (Nat.zero_le _) hg
       simp only[List.drop_zero,Nat.sub_zero]at hr
       exact⟨_,b,hb,hr,h⟩
    |some lo=>
     cases hi with
     |none=>
      cases ua with
      |some _=>exact h2.elim
      |none=>
       obtain⟨n1,e1,h⟩:=kg (d:=0) h1 h
       obtain⟨hg,h⟩:=aZ h
       simp only[decide_eq_true_eq]at hg
       obtain⟨b,hb,hr⟩:=key n1 l.length e1 rfl hg (Nat.le_refl _)
       rw[List.take_of_length_le (by simp)]at hr
       exact⟨_,b,hb,hr,h⟩
     |some hi=>
      obtain⟨n1,e1,h⟩:=kg (d:=0) h1 h
      obtain⟨n2,e2,h⟩:=kg (d:=l.length) h2 h
      obtain⟨hg,h⟩:=aZ h
      simp only[Bool.and_eq_true,decide_eq_true_eq]at hg
      obtain⟨b,hb,hr⟩:=key n1 n2 e1 e2 hg.1 hg.2
      exact⟨_,b,hb,hr,h⟩
  ·rename_i m mx hm
   obtain⟨q,gK,dR,gE,_⟩:=hQ.elem hm
   split at h
   case h_2=>simp[Tr.run]at h
   rename_i hi hc
   simp only[Bool.and_eq_true,decide_eq_true_eq]at hc
   cases ua with
   |none=>exact h2.elim
   |some SO=>
   cases O0 with
   |none=>exact h3.elim
   |some Uy=>
   have ha:=hx.live rfl
   simp only[R]at ha
   split at h
   ·rename_i hz
    simp only[Bool.and_eq_true]at hz
    obtain⟨PX,Qu,SN⟩:=hz
    cases lo with
    |some _=>simp at PX
    |none=>
    cases Rg with
    |some _=>exact h1.elim
    |none=>
    have z0:∀ {v:SV T.den} {a:AV},Ul v=true→RV T H v a→asNat a=some 0:=by
     intro v a hv hr
     unfold Ul at hv
     split at hv
     ·simp only[decide_eq_true_eq]at hv
      subst hv
      have:=hr.live rfl
      simp only[R]at this
      subst this
      rfl
     ·simp at hv
    have e2:=z0 Qu h2
    have e3:=z0 SN h3
    rcases ha with ⟨l',rfl,hl⟩|⟨rfl,rfl⟩
    ·have bf:=su hT (agg:=q.isAgg) (size:=q.size) (by rw[dR]; exact hc.1) (by rw[gE]; exact hc.2) hl
     refine⟨_,.nz,?_,.inr (by simp only[R]),h⟩
     simp only[m6,gK,br,e2,e3]
     rw[if_pos ⟨Nat.zero_le _,Nat.zero_le _,Nat.zero_le _,bf⟩]
     rfl
    ·refine⟨_,.nz,?_,.inr (by simp only[R]),h⟩
     simp only[m6,gK,br,e2,e3,Option.isSome_some,Option.isNone_some,Bool.and_false,Bool.false_eq_true,if_false]
   obtain⟨n1,e1,h⟩:=gY h1 h
   obtain⟨n2,e2,h⟩:=kg (d:=l.length) h2 h
   obtain⟨n3,e3,h⟩:=kg (d:=l.length) h3 h
   obtain⟨hg,h⟩:=aZ h
   simp only[Bool.and_eq_true,decide_eq_true_eq]at hg
   have We:asNat SO=some n2:=e2
   have Uz:asNat Uy=some n3:=e3
   have f2:∀ d,br d (some SO)=some n2:=fun _=>We
   rcases ha with ⟨l',rfl,hl⟩|⟨rfl,rfl⟩
   ·have hlen:=hl.length
    have bf:=su hT (agg:=q.isAgg) (size:=q.size) (by rw[dR]; exact hc.1) (by rw[gE]; exact hc.2) hl
    have dM:l'.isEmpty=false:=by
     grind
    have Ni:n3≠0:=by omega
    refine⟨_,.o7 ((l'.drop n1).take (n2-n1)) (n3-n1),?_,.inr (by simp only[R]; exact .inl ⟨by cases l with
      |nil=>exfalso; cases l' with
       |nil=>simp at dM
       |cons=>simp at hlen
      |cons=>rfl,_,rfl,(hl.drop n1).take (n2-n1)⟩),h⟩
    simp only[m6,gK,e1,f2,Uz]
    rw[if_pos ⟨hg.1.1.1,hg.1.1.2,by rw[←hlen]; exact hg.1.2,bf⟩,if_neg Ni,dM]
    rfl
   ·exfalso
    simp only[List.length_nil]at hg
    omega
  ·simp[Tr.run]at h
 ·rename_i esz n c rg cap
  have ha:=hx.live rfl
  split at h
  ·rename_i m off len o hm hr ho
   obtain⟨q,gK,dR,gE,_⟩:=hQ.elem hm
   split at h
   case h_2=>simp[Tr.run]at h
   rename_i hc
   simp only[Bool.and_eq_true,decide_eq_true_eq]at hc
   obtain⟨aq,rfl,hv,cb⟩:=qH hh ha hr ho
   have cb:=cb hc.1
   obtain⟨n1,e1,h⟩:=gY h1 h
   obtain⟨n2,e2,h⟩:=gY h2 h
   obtain⟨hg,h⟩:=aZ h
   simp only[Bool.and_eq_true,decide_eq_true_eq]at hg
   cases O0 with
   |some _=>exact h3.elim
   |none=>
    refine⟨_,.bp esz n aq (off+n1) (n2-n1) (cap.map (·-n1)),?_,?_,h⟩
    ·simp only[m6,gK,e1,e2]
     rw[if_pos ⟨hg.1.1,by rw[cb]; exact hg.1.2,by rw[cb]; exact hg.2,by rw[gE]; exact hc.2⟩]
    ·right
     simp only[R]
     exact⟨aq,hv,rfl⟩
  ·rename_i m mx off len o hm hr ho
   obtain⟨q,gK,dR,gE,_⟩:=hQ.elem hm
   split at h
   case h_2=>simp[Tr.run]at h
   rename_i hi hc
   simp only[Bool.and_eq_true,decide_eq_true_eq]at hc
   cases ua with
   |none=>exact h2.elim
   |some SO=>
   cases O0 with
   |none=>exact h3.elim
   |some Uy=>
   obtain⟨aq,rfl,hv,cb⟩:=qH hh ha hr ho
   have cb:=cb hc.1
   obtain⟨n1,e1,h⟩:=gY h1 h
   obtain⟨n2,e2,h⟩:=kg (d:=len) h2 h
   obtain⟨n3,e3,h⟩:=kg (d:=len) h3 h
   obtain⟨hg,h⟩:=aZ h
   simp only[Bool.and_eq_true,decide_eq_true_eq]at hg
   have We:asNat SO=some n2:=e2
   have Uz:asNat Uy=some n3:=e3
   have f2:∀ d,br d (some SO)=some n2:=fun _=>We
   have f3:∀ d,br d (some Uy)=some n3:=fun _=>Uz
   refine⟨_,.bp esz n aq (off+n1) (n2-n1) (some (n3-n1)),?_,?_,h⟩
   ·simp only[m6,gK,e1,f2,Uz]
    rw[if_pos ⟨hg.1.1.1,hg.1.1.2,by rw[cb]; exact hg.1.2,by rw[cb]; exact hg.2,by rw[gE]; exact hc.2⟩]
   ·right
    simp only[R]
    exact⟨aq,hv,rfl⟩
  ·simp[Tr.run]at h
 ·rename_i n' c k' j
  have ha:=hx.live rfl
  simp only[R]at ha
  obtain⟨aq,rfl,hv⟩:=ha
  split at h
  case h_2=>simp[Tr.run]at h
  rename_i len m hm
  obtain⟨q,gK,dR,gE⟩:=hQ.Dp hm
  cases O0 with
  |some _=>exact h3.elim
  |none=>
   obtain⟨n1,e1,h⟩:=gY h1 h
   obtain⟨n2,e2,h⟩:=gY h2 h
   obtain⟨_,hl,h⟩:=cU h
   obtain⟨_,ra,h⟩:=cU h
   split at h
   case h_2=>simp[Tr.run]at h
   rename_i hle
   simp only[decide_eq_true_eq]at hle
   refine⟨_,.im n' aq k' (j+n1*q.size) (n2-n1) (len-n1),?_,.inr (by simp only[R]; exact⟨aq,by rw[gE],hv⟩),h⟩
   simp only[m6,gK,e1,e2]
   rw[if_pos ⟨hle,by omega,by omega⟩]
 ·simp[Tr.run]at h
theorem uZ[ab](hT:T.Ok){t:Nat}{x:T.den t}{a:AV}(h:T.rp t x a):aF (T.up t x)=true:=by
 rw[R.closed (hT.up t x a [] h)]
 exact hT.closed _ _ _ h
theorem zg[ab](hT:T.Ok)(hQ:Q.Ok)(hh:RH T H hp){t:TypeId}{x ix:SV T.den}{a b:AV}(hx:RV T H x a)(hi:RV T H ix b){tB:Bool}(h:(rZ Q tB H t x ix K).run=some r):
  ∃ v c,eM Q.P t a b=some c∧RV T H v c∧(K v [] []).run=some r:=by
 unfold rZ at h
 obtain⟨k,n,e1,Ev,h⟩:=iJ h
 have hb:=qF hi e1 Ev
 unfold eM
 rw[hb]
 simp only
 split at h
 ·rename_i xs
  have ha:=hx.live rfl
  simp only[R]at ha
  obtain⟨l',rfl,hl,D8⟩:=ha
  split at h
  case h_2=>simp[Tr.run]at h
  rename_i m hm
  obtain⟨q,gK,dR,gE,_⟩:=hQ.elem hm
  obtain⟨_,_,h⟩:=cU h
  split at h
  case h_2=>simp[Tr.run]at h
  rename_i e he
  split at h
  case h_2=>simp[Tr.run]at h
  rename_i bN
  obtain⟨e',Gl,hr⟩:=aw.get (aQ.1 hl) he
  refine⟨_,.bc e' 0,?_,.inr (by simp only[R]; exact⟨e',rfl,hr,jH D8 (List.mem_of_getElem? he)⟩),h⟩
  simp only[gK,Gl]
  rw[if_pos (by rw[dR,gE,←R.aG hr]; exact bN)]
 ·rename_i t' l
  have ha:=hx.live rfl
  split at h
  case h_2=>simp[Tr.run]at h
  rename_i m hm
  obtain⟨q,gK,dR,gE,_⟩:=hQ.elem hm
  split at h
  case h_2=>simp[Tr.run]at h
  rename_i hc
  simp only[Bool.and_eq_true,decide_eq_true_eq]at hc
  obtain⟨y,hy,h⟩:=bind_some h
  rw[GV hT]at h
  simp only[R]at ha
  rcases ha with ⟨l',rfl,hl⟩|⟨rfl,_⟩
  ·obtain⟨e',Gl,hr⟩:=aw.get hl hy
   refine⟨_,.bc e' 0,?_,.inr (by simp only[R]; exact⟨e',rfl,hT.up _ _ _ H hr,uZ hT hr⟩),h⟩
   simp only[gK,Gl]
   rw[if_pos (by rw[dR,gE,hc.1,hc.2]; exact hT.ok _ _ _ hr)]
  ·simp at hy
 ·rename_i esz n' c rg cap _
  have ha:=hx.live rfl
  split at h
  case h_2=>simp[Tr.run]at h
  rename_i m hm
  obtain⟨q,gK,dR,gE,_⟩:=hQ.elem hm
  split at h
  ·rename_i off len g cl f cu es hc hr ho
   simp only[Bool.and_eq_true,decide_eq_true_eq]at hc
   obtain⟨aq,rfl,hv,_⟩:=qH hh ha hr ho
   obtain⟨_,cd,h⟩:=cU h
   refine⟨_,.ref n' aq (off+n.toNat) 0,?_,.inr (by simp only[R]; exact⟨aq,rfl,hv⟩),h⟩
   simp only[gK]
   rw[if_pos ⟨by omega,by rw[gE]; exact hc.1,by rw[gE]; exact hc.2⟩]
  ·rename_i off len g f cu t' l hc hr ho
   simp only[Bool.and_eq_true,decide_eq_true_eq]at hc
   obtain⟨aq,rfl,hv,_⟩:=qH hh ha hr ho
   obtain⟨cd,h⟩:=aZ h
   simp only[decide_eq_true_eq]at cd
   refine⟨_,.ref n' aq (off+n.toNat) 0,?_,.inr (by simp only[R]; exact⟨aq,rfl,hv⟩),h⟩
   simp only[gK]
   rw[if_pos ⟨cd,by rw[gE]; exact hc.1,by rw[gE]; exact hc.2⟩]
  ·simp[Tr.run]at h
 ·rename_i n' c k' j len cap _
  have ha:=hx.live rfl
  simp only[R]at ha
  obtain⟨aq,rfl,hv⟩:=ha
  split at h
  case h_2=>simp[Tr.run]at h
  rename_i m hm
  obtain⟨q,gK,dR,gE,_⟩:=hQ.elem hm
  obtain⟨_,cd,h⟩:=cU h
  refine⟨_,.ref n' aq k' (j+n.toNat*q.size),?_,.inr (by simp only[R]; exact⟨aq,by rw[gE],hv⟩),h⟩
  simp only[gK]
  rw[if_pos (by omega)]
 ·rename_i n' c k' j _
  have ha:=hx.live rfl
  simp only[R]at ha
  obtain⟨aq,rfl,hv⟩:=ha
  split at h
  case h_2=>simp[Tr.run]at h
  rename_i len m hm
  obtain⟨q,gK,dR,gE⟩:=hQ.Dp hm
  split at h
  ·obtain⟨cd,h⟩:=aZ h
   simp only[decide_eq_true_eq]at cd
   refine⟨_,.ref n' aq k' (j+n.toNat*q.size),?_,.inr (by simp only[R]; exact⟨.ref n' aq k' j,⟨aq,rfl,hv⟩,cd,.inl ⟨_,_,_,_,rfl,by rw[gE]⟩⟩),h⟩
   simp only[gK]
   rw[if_pos (by omega)]
  obtain⟨_,cd,h⟩:=cU h
  refine⟨_,.ref n' aq k' (j+n.toNat*q.size),?_,.inr (by simp only[R]; exact⟨aq,by rw[gE],hv⟩),h⟩
  simp only[gK]
  rw[if_pos (by omega)]
 ·rename_i e j _
  have ha:=hx.live rfl
  simp only[R]at ha
  obtain⟨e',rfl,hr,Yi⟩:=ha
  split at h
  case h_2=>simp[Tr.run]at h
  rename_i len m hm
  obtain⟨q,gK,dR,gE⟩:=hQ.Dp hm
  split at h
  ·obtain⟨cd,h⟩:=aZ h
   simp only[decide_eq_true_eq]at cd
   refine⟨_,.bc e' (j+n.toNat*q.size),?_,.inr (by simp only[R]; exact⟨.bc e' j,⟨e',rfl,hr,Yi⟩,cd,.inr ⟨_,_,rfl,by rw[gE]⟩⟩),h⟩
   simp only[gK]
   rw[if_pos (by omega)]
  obtain⟨_,cd,h⟩:=cU h
  refine⟨_,.bc e' (j+n.toNat*q.size),?_,.inr (by simp only[R]; exact⟨e',by rw[gE],hr,Yi⟩),h⟩
  simp only[gK]
  rw[if_pos (by omega)]
 ·simp[Tr.run]at h
theorem K9{P:Program}{t:TypeId}{s:ByteArray}{k:IntKind}{n b:Int}(hu:P.underlying t=some .string)(h:KS s n=some b):
  o9 P t (.lit (.string s)) (.lit (.int k n))=some (.lit (.int .u8 b)):=by
 unfold KS at h
 split at h
 case isFalse=>simp at h
 rename_i hn
 obtain⟨c,hc,rfl⟩:=Option.map_eq_some_iff.1 h
 simp only[o9]
 have:Instr.index t (.string s) (.int k n)=(do
   let d ←underlying t
   match d,(Value.string s) with
   |.array len elem,.agg cs=>if 0≤n∧n<len then part elem cs (n.toNat*(←sizeOf elem)) else boundsPanic k n len .index
   |.string,.string s=>(match (if 0≤n then s[n.toNat]? else none) with
    |some b=>pure (.int .u8 b.toNat)
    |none=>boundsPanic k n s.size .index)
   | _, _ => stuck "Index: array or string expected") := rfl
 rw[this]
 show (bk P (Sem.bind (underlying t) _)).bind eK=_
 have II : underlying t = Sem.program fun P => (match P.underlying t with | some d => pure d | none => stuck "no such type") := rfl
 rw[II]
 show (bk P (Sem.bind (match P.underlying t with | some d => pure d | none => stuck "no such type") _)).bind eK = _
 rw[hu]
 show (bk P (match (if 0≤n then s[n.toNat]? else none) with|some b=>pure (Value.int .u8 b.toNat)|none=>boundsPanic k n s.size .index)).bind eK=_
 rw[if_pos hn,hc]
 rfl
theorem Ie[ab](hQ:Q.Ok){t:TypeId}{x ix:SV T.den}{a b:AV}(hx:RV T H x a)(hi:RV T H ix b){tB:Bool}(h:(Fv Q tB t x ix K).run=some r):
  ∃ v c,o9 Q.P t a b=some c∧RV T H v c∧(K v [] []).run=some r:=by
 unfold Fv at h
 split at h
 ·have ha:=hx.lit rfl
  subst ha
  split at h
  ·rename_i s k n
   have hb:=hi.lit rfl
   subst hb
   split at h
   case h_2=>simp[Tr.run]at h
   rename_i hu
   obtain⟨c,hc,h⟩:=bind_some h
   exact⟨_,_,K9 hu hc,bh _,h⟩
  ·split at h
   ·rename_i i ua
    rw[tI hi ua]
    obtain⟨w,hw,hk⟩:=gX h
    exact⟨_,_,hw,bh w,hk⟩
   ·simp[Tr.run]at h
 ·rename_i l
  have ha:=hx.live rfl
  have Ov:=ha
  simp only[R]at ha
  obtain⟨l',rfl,hl⟩:=ha
  split at h
  case h_2=>simp[Tr.run]at h
  rename_i n m hm
  obtain⟨q,gK,dR,gE⟩:=hQ.Dp hm
  obtain⟨k,n',e1,Ev,h⟩:=iJ h
  have hb:=qF hi e1 Ev
  split at h
  ·rename_i y hs K6
   simp only[Bool.and_eq_true,Bool.not_eq_true']at hs
   obtain⟨cd,h⟩:=aZ h
   simp only[decide_eq_true_eq]at cd
   obtain⟨xs,zE,K6⟩:=Option.bind_eq_some_iff.1 K6
   obtain⟨g1,g2⟩:=jY zE
   have hg:=List.getElem?_eq_getElem (by omega:n'.toNat<xs.length)
   have hy:=g2 _ _ hg
   rw[←Di K6 hg,Nat.zero_add,Nat.mul_one]at hy
   obtain⟨c,hc,hr⟩:=R.part Ov hy
   refine⟨y,c,?_,.inr hr,h⟩
   simp only[o9,gK,hb]
   rw[if_pos (by omega),dR,gE,hs.1.2,Nat.eq_of_beq_eq_true hs.2,Nat.mul_one]
   exact hc
  obtain⟨_,cd,h⟩:=cU h
  obtain⟨v,hv,hk⟩:=lX h
  rw[←dR,←gE]at hv
  obtain⟨c,hc,hr⟩:=R.part Ov hv
  refine⟨v,c,?_,.inr hr,hk⟩
  simp only[o9,gK,hb]
  rw[if_pos (by omega)]
  exact hc
 ·simp[Tr.run]at h
end
end Go.PI
end
section
/- PS, part Hb: by value, and frozen. -/
namespace Go.PI
variable {T:dk}{ρ:Type}{Q:gw}
mutual
def kh:AV→Bool
 |.lit v=>match v with
  |.slice none 0 0=>false
  |_=>true
 |.agg l|.jn l=>ou l
 |.fL _ v=>kh v
 |.iQ _ f c=>ou f&&ou c
 |_=>true
def ou:List AV→Bool
 |[]=>true
 |x::xs=>kh x&&ou xs
end
section
variable {H:ah T.den}{hp:ag}{r:ρ}
mutual
theorem R.flat:∀ {v:SV T.den} {a:AV},R T H v a→kh a=true→vU v=flat a
 |.dead,a,h,_=>by simp[R]at h
 |.hole,a,h,_=>by simp only[R]at h; subst h; rfl
 |.lit v,a,h,_=>by simp only[R]at h; subst h; rfl
 |.agg l,a,h,hn=>by
  simp only[R]at h
  obtain⟨l',rfl,h2⟩:=h
  simp only[kh]at hn
  simp only[vU,Go.PI.flat]; exact RL.flat h2 hn
 |.jn l,a,h,hn=>by
  simp only[R]at h
  obtain⟨l',rfl,h2⟩:=h
  simp only[kh]at hn
  simp only[vU,Go.PI.flat]; exact RL.flat h2 hn
 |.sl l,a,h,_=>by
  simp only[R]at h
  obtain⟨l',rfl,h2⟩:=h
  rfl
 |.jd t l,a,h,hn=>by
  simp only[R]at h
  rcases h with ⟨l',rfl,_⟩|⟨_,rfl⟩
  ·rfl
  ·simp[kh]at hn
 |.bc e j,a,h,_=>by
  simp only[R]at h
  obtain⟨e',rfl,h2⟩:=h
  rfl
 |.ref n c i j,a,h,_=>by
  simp only[R]at h
  obtain⟨aq,rfl,h2⟩:=h
  rfl
 |.im n c i j ln cp,a,h,_=>by
  simp only[R]at h
  obtain⟨aq,rfl,h2⟩:=h
  rfl
 |.bp esz n c rg cap,a,h,_=>by
  simp only[R]at h
  obtain⟨aq,h1,h2⟩:=h
  rcases rg with _|⟨off,len⟩<;>simp only at h2<;>subst h2<;>rfl
 |.iQ fn f c,a,h,hn=>by
  simp only[R]at h
  obtain⟨f',c',rfl,h2,h3⟩:=h
  rfl
 |.fL t v,a,h,hn=>by
  simp only[R]at h
  obtain⟨v',rfl,h2⟩:=h
  simp only[kh]at hn
  simp only[vU,Go.PI.flat]; exact R.flat h2 hn
 |.wC t l c b,a,h,hn=>by
  simp only[R]at h
  rcases h with ⟨_,l',rfl,_⟩|⟨_,_,rfl|rfl⟩
  ·rfl
  ·rfl
  ·simp[kh]at hn
 |.nz,a,h,hn=>by
  simp only[R]at h
  subst h
  rfl
 |.mp y n,a,h,_=>by
  simp only[R]at h
  obtain⟨rfl,_⟩:=h
  rfl
 |.rW v s len i,a,h,_=>by
  simp only[R]at h
  obtain⟨a0,_,_,h2⟩:=h
  rcases h2 with ⟨n,aq,k,j,rfl,rfl⟩|⟨e,j,rfl,rfl⟩<;>rfl
theorem RL.flat:∀ {l:List (SV T.den)} {m:List AV},RL T H l m→ou m=true→Bm l=vk m
 |[],[],_,_=>rfl
 |x::xs,y::ys,h,hn=>by
  simp only[RL]at h
  simp only[ou,Bool.and_eq_true]at hn
  simp only[Bm,vk]; rw[R.flat h.1 hn.1,RL.flat h.2 hn.2]
 |[],_::_,h,_=>by simp[RL]at h
 |_::_,[],h,_=>by simp[RL]at h
end
theorem ow{den:Nat→Type}:∀ {l:List (SV den)} {i:Nat} {e:SV den},av l=true→l[i]?=some e→aF e=true
 |[],_,_,_,h=>by simp at h
 |x::xs,0,e,hc,h=>by
  simp_all[av]
 |x::xs,i+1,e,hc,h=>by
  simp only[av,Bool.and_eq_true]at hc
  simp only[List.getElem?_cons_succ]at h
  exact ow hc.2 h
theorem ox[ab](hh:RH T H hp):∀ k:Nat,
  (∀ (v:SV T.den) (a:AV) (K:SV T.den→List Nat→Tr ρ),R T H v a→(fW T H k v K).run=some r →
    ∃ v' rd a',aE hp (aX k a) a' rd∧R T H v' a'∧(kh a'=true∧aF v'=true)∧(K v' rd).run=some r) ∧
  (∀ (l:List (SV T.den)) (m:List AV) (K:List (SV T.den)→List Nat→Tr ρ),RL T H l m→(fu T H k l K).run=some r →
    ∃ l' rd m',aE hp (aK k m) m' rd∧RL T H l' m'∧(ou m'=true∧av l'=true)∧l'.length=l.length∧(K l' rd).run=some r)
 |0=>⟨fun v a K _ h=>by simp[fW,Tr.run]at h,fun l m K _ h=>by simp[fu,Tr.run]at h⟩
 |k+1=>by
  obtain⟨Wf,Qw⟩:=ox hh k
  refine⟨fun v a K hr h=>?_,fun l m K hr h=>?_⟩
  ·cases v with
   |dead=>simp[R]at hr
   |hole=>simp[fW,Tr.run]at h
   |lit v=>
    simp only[R]at hr
    subst hr
    simp only[fW]at h
    split at h
    ·exact⟨_,_,.sl [],aE.pure _,by simp[R,RL,av],⟨rfl,rfl⟩,h⟩
    ·rename_i hv
     refine⟨_,_,.lit v,?_,by simp[R],⟨?_,rfl⟩,h⟩
     ·simp only[aX]
      exact aE.pure _
     ·simp only[kh]
   |agg l=>
    simp only[R]at hr
    obtain⟨l',rfl,hl⟩:=hr
    simp only[fW]at h
    obtain⟨l2,rd,m2,h1,h2,h3,_,h4⟩:=Qw _ _ _ hl h
    refine⟨_,_,.agg m2,?_,by simp only[R]; exact⟨_,rfl,h2⟩,⟨by simpa only[kh] using h3.1,by simpa only[aF] using h3.2⟩,h4⟩
    simp only[aX]
    exact aE.mono (aE.bind h1 (aE.pure _)) (fun _ h=>by simpa using h)
   |jn l=>
    simp only[R]at hr
    obtain⟨l',rfl,hl⟩:=hr
    simp only[fW]at h
    obtain⟨l2,rd,m2,h1,h2,h3,_,h4⟩:=Qw _ _ _ hl h
    refine⟨_,_,.jn m2,?_,by simp only[R]; exact⟨_,rfl,h2⟩,⟨by simpa only[kh] using h3.1,by simpa only[aF] using h3.2⟩,h4⟩
    simp only[aX]
    exact aE.mono (aE.bind h1 (aE.pure _)) (fun _ h=>by simpa using h)
   |sl l=>
    have lr:=hr
    simp only[R]at hr
    obtain⟨l',rfl,hl⟩:=hr
    simp only[fW]at h
    exact⟨_,_,.sl l',aE.pure _,lr,⟨rfl,rfl⟩,h⟩
   |jd t l=>
    have lr:=hr
    simp only[R]at hr
    simp only[fW]at h
    rcases hr with ⟨l',rfl,hl⟩|⟨rfl,rfl⟩
    ·exact⟨_,_,.sl l',aE.pure _,lr,⟨rfl,rfl⟩,h⟩
    ·exact⟨_,_,.sl [],aE.pure _,by simp only[R]; exact .inl ⟨[],rfl,trivial⟩,⟨rfl,rfl⟩,h⟩
   |bc e j=>
    have lr:=hr
    simp only[R]at hr
    obtain⟨e',rfl,he⟩:=hr
    simp only[fW]at h
    exact⟨_,_,.bc e' j,aE.pure _,lr,⟨rfl,rfl⟩,h⟩
   |ref n c i j=>
    simp only[R]at hr
    obtain⟨aq,rfl,hv⟩:=hr
    simp only[fW]at h
    split at h
    case h_2=>simp[Tr.run]at h
    rename_i g cl f cur es ho
    obtain⟨o,c6,dD⟩:=hh.obj ho
    obtain⟨es',rfl,cC,qU⟩:=dD
    split at h
    case h_2=>simp[Tr.run]at h
    rename_i e hc he
    have cb:=hv.arr hh ho hc
    simp only[aD.len]at cb
    have hl:=cC.length
    obtain⟨e2,xK,Eh⟩:=aw.get (aQ.1 cC) he
    cases cl with
    |true=>
     simp only at h
     refine⟨_,_,.bc e2 j,?_,by simp only[R]; exact⟨_,rfl,Eh,ow (qU rfl) he⟩,⟨rfl,rfl⟩,h⟩
     simp only[aX]
     refine aE.mono (aE.bind (aE.arr c6 (by omega)) ?_) (rd:=[n]++[]) (fun _ h=>by simpa using h)
     simp only[xK]
     simp only[if_true]
     exact aE.pure _
    |false=>
     simp only at h
     obtain⟨v2,rd,a2,h1,h2,h3,h⟩:=Wf _ _ _ Eh h
     refine⟨_,_,.bc a2 j,?_,by simp only[R]; exact⟨_,rfl,h2,h3.2⟩,⟨rfl,rfl⟩,h⟩
     simp only[aX]
     refine aE.mono (aE.bind (aE.arr c6 (by omega)) (rd':=rd) ?_) (fun _ h=>by simpa using h)
     simp only[xK,Bool.false_eq_true,if_false]
     exact aE.mono (aE.bind h1 (aE.pure _)) (fun _ h=>by simpa using h)
   |im n c i j ln cp=>
    simp only[R]at hr
    obtain⟨aq,rfl,hv⟩:=hr
    simp only[fW]at h
    split at h
    case h_2=>simp[Tr.run]at h
    rename_i g cl f cur es ho
    obtain⟨o,c6,dD⟩:=hh.obj ho
    obtain⟨es',rfl,cC,qU⟩:=dD
    split at h
    case h_2=>simp[Tr.run]at h
    rename_i cs hc he
    have cb:=hv.arr hh ho hc
    simp only[aD.len]at cb
    have hl:=cC.length
    obtain⟨e2,xK,Eh⟩:=aw.get (aQ.1 cC) he
    simp only[R]at Eh
    obtain⟨mb,rfl,uc⟩:=Eh
    have kG:=uc.length
    split at h
    case h_2=>simp[Tr.run]at h
    rename_i hle
    simp only[Bool.and_eq_true,decide_eq_true_eq]at hle
    have GY:RL T H ((cs.drop j).take ln) ((mb.drop j).take ln):=aQ.2 (((aQ.1 uc).drop j).take ln)
    cases cl with
    |true=>
     simp only at h
     have mY:av cs=true:=by
      have:=ow (qU rfl) he
      simpa only[aF] using this
     refine⟨_,_,.sl ((mb.drop j).take ln),?_,by simp only[R]; exact⟨_,rfl,GY,mA mY _ _⟩,⟨rfl,rfl⟩,h⟩
     simp only[aX]
     refine aE.mono (aE.bind (aE.arr c6 (by omega)) ?_) (rd:=[n]++[]) (fun _ h=>by simpa using h)
     simp only[xK]
     rw[if_pos ⟨hle.1,by omega⟩]
     simp only[if_true]
     exact aE.pure _
    |false=>
     simp only at h
     obtain⟨l2,rd,m2,h1,h2,h3,_,h⟩:=Qw _ _ _ GY h
     refine⟨_,_,.sl m2,?_,by simp only[R]; exact⟨_,rfl,h2,h3.2⟩,⟨rfl,rfl⟩,h⟩
     simp only[aX]
     refine aE.mono (aE.bind (aE.arr c6 (by omega)) (rd':=rd) ?_) (fun _ h=>by simpa using h)
     simp only[xK]
     rw[if_pos ⟨hle.1,by omega⟩]
     simp only[Bool.false_eq_true,if_false]
     exact aE.mono (aE.bind h1 (aE.pure _)) (fun _ h=>by simpa using h)
   |iQ fn f c=>
    simp only[R]at hr
    obtain⟨f',c',rfl,hf,hc⟩:=hr
    simp only[fW]at h
    obtain⟨l2,rd,m2,h1,h2,h3,_,h⟩:=Qw _ _ _ hf h
    obtain⟨l3,SA,m3,g1,g2,g3,_,h⟩:=Qw _ _ _ hc h
    refine⟨_,_,.iQ fn m2 m3,?_,by simp only[R]; exact⟨_,_,rfl,h2,g2⟩,⟨by simp[kh,h3.1,g3.1],by simp[aF,h3.2,g3.2]⟩,h⟩
    simp only[aX]
    exact aE.mono (aE.bind h1 (aE.bind g1 (aE.pure _))) (fun _ h=>by simpa using h)
   |fL t v=>
    simp only[R]at hr
    obtain⟨v',rfl,hv⟩:=hr
    simp only[fW]at h
    obtain⟨v2,rd,a2,h1,h2,h3,h⟩:=Wf _ _ _ hv h
    refine⟨_,_,.fL t a2,?_,by simp only[R]; exact⟨_,rfl,h2⟩,⟨by simpa only[kh] using h3.1,by simpa only[aF] using h3.2⟩,h⟩
    simp only[aX]
    exact aE.mono (aE.bind h1 (aE.pure _)) (fun _ h=>by simpa using h)
   |bp esz n c rg cap=>
    simp only[R]at hr
    obtain⟨aq,hv,ha⟩:=hr
    simp only[fW]at h
    split at h
    ·rename_i g cl f cur es ho
     obtain⟨o,c6,dD⟩:=hh.obj ho
     obtain⟨es',rfl,cC,qU⟩:=dD
     split at h
     case h_2=>simp[Tr.run]at h
     rename_i hc
     have cb:=hv.arr hh ho hc
     simp only[aD.len]at cb
     have hl:=cC.length
     have key:∀ (off len:Nat) (part:List (SV T.den)) (h:(match cl with
        |true=>K (.sl part) [n]
        |false=>fu T H k part fun l rd=>K (.sl l) (n::rd)).run=some r),part=(es.drop off).take len→off+len≤es.length →
       ∃ v' rd a',aE hp (aX (k+1) (.bp esz n aq off len cap)) a' rd∧R T H v' a'∧(kh a'=true∧aF v'=true)∧(K v' rd).run=some r:=by
      intro off len part h O1 hle
      have GY:RL T H part ((es'.drop off).take len):=by subst O1; exact aQ.2 (((aQ.1 cC).drop off).take len)
      cases cl with
      |true=>
       simp only at h
       refine⟨_,_,.sl ((es'.drop off).take len),?_,by simp only[R]; exact⟨_,rfl,GY,by subst O1; exact mA (qU rfl) _ _⟩,⟨rfl,rfl⟩,h⟩
       simp only[aX]
       refine aE.mono (aE.bind (aE.arr c6 (by omega)) ?_) (rd:=[n]++[]) (fun _ h=>by simpa using h)
       simp only
       rw[if_pos (by omega)]
       simp only[if_true]
       exact aE.pure _
      |false=>
       simp only at h
       obtain⟨l2,rd,m2,h1,h2,h3,_,h⟩:=Qw _ _ _ GY h
       refine⟨_,_,.sl m2,?_,by simp only[R]; exact⟨_,rfl,h2,h3.2⟩,⟨rfl,rfl⟩,h⟩
       simp only[aX]
       refine aE.mono (aE.bind (aE.arr c6 (by omega)) (rd':=rd) ?_) (fun _ h=>by simpa using h)
       simp only
       rw[if_pos (by omega)]
       simp only[Bool.false_eq_true,if_false]
       exact aE.mono (aE.bind h1 (aE.pure _)) (fun _ h=>by simpa using h)
     split at h
     ·simp only at ha
      subst ha
      exact key 0 aq es h (by simp only[List.drop_zero]; rw[List.take_of_length_le (by omega)]) (by omega)
     ·grind[Tr.run]
    ·rename_i g f cur t l ho
     obtain⟨o,c6,dD⟩:=hh.obj ho
     obtain⟨es',rfl,cC⟩:=dD
     split at h
     case h_2=>simp[Tr.run]at h
     rename_i hc
     have cb:=hv.arr hh ho hc
     simp only[aD.len]at cb
     have hl:=cC.length
     have key:∀ off len,off+len≤l.length→aE hp (aX (k+1) (.bp esz n aq off len cap)) (.sl ((es'.drop off).take len)) [n]:=by
      intro off len hle
      simp only[aX]
      refine aE.mono (aE.bind (aE.arr c6 (by omega)) (rd':=[]) ?_) (fun _ h=>by simpa using h)
      simp only
      rw[if_pos (by omega)]
      simp only[if_true]
      exact aE.pure _
     split at h
     ·simp only at ha
      subst ha
      refine⟨_,_,_,key 0 aq (by omega),?_,⟨rfl,rfl⟩,h⟩
      simp only[R,List.drop_zero]
      rw[List.take_of_length_le (by omega)]
      exact .inl ⟨_,rfl,cC⟩
     ·rename_i off len
      simp only at ha
      subst ha
      obtain⟨hle,h⟩:=aZ h
      simp only[decide_eq_true_eq]at hle
      refine⟨_,_,_,key off len hle,?_,⟨rfl,rfl⟩,h⟩
      simp only[R]
      exact .inl ⟨_,rfl,(cC.drop off).take len⟩
    ·simp[Tr.run]at h
   |mp y n=>simp[fW,Tr.run]at h
   |wC t l c b=>
    simp only[R]at hr
    simp only[fW]at h
    rcases hr with ⟨_,l',rfl,hl⟩|⟨_,rfl,rfl|rfl⟩
    ·exact⟨_,_,.sl l',by simp only[aX]; exact aE.pure _,by simp only[R]; exact .inl ⟨_,rfl,hl⟩,⟨rfl,rfl⟩,h⟩
    ·exact⟨_,_,.sl [],by simp only[aX]; exact aE.pure _,by simp only[R]; exact .inl ⟨_,rfl,trivial⟩,⟨rfl,rfl⟩,h⟩
    ·exact⟨_,_,.sl [],by simp only[aX]; exact aE.pure _,by simp only[R]; exact .inl ⟨_,rfl,trivial⟩,⟨rfl,rfl⟩,h⟩
   |nz=>
    simp only[R]at hr
    simp only[fW]at h
    subst hr
    exact⟨_,_,.sl [],by simp only[aX]; exact aE.pure _,by simp only[R]; exact⟨[],rfl,trivial,rfl⟩,⟨rfl,rfl⟩,h⟩
   |rW v s len i=>simp[fW,Tr.run]at h
  ·cases l with
   |nil=>
    cases m with
    |nil=>
     simp only[fu]at h
     exact⟨[],[],[],aE.pure _,by simp[RL],⟨rfl,rfl⟩,rfl,h⟩
    |cons=>simp[RL]at hr
   |cons x xs=>
    cases m with
    |nil=>simp[RL]at hr
    |cons y ys=>
     simp only[RL]at hr
     simp only[fu]at h
     obtain⟨v2,rd,a2,h1,h2,h3,h⟩:=Wf _ _ _ hr.1 h
     obtain⟨l2,rd2,m2,g1,g2,g3,g4,h⟩:=Qw _ _ _ hr.2 h
     refine⟨_,_,a2::m2,?_,by simp only[RL]; exact⟨h2,g2⟩,⟨by simp[ou,h3.1,g3.1],by simp[av,h3.2,g3.2]⟩,by simp[g4],h⟩
     simp only[aK]
     exact aE.mono (aE.bind h1 (aE.bind g1 (aE.pure _))) (fun _ h=>by simpa using h)
theorem La[ab](hh:RH T H hp){k:Nat}{v:SV T.den}{a:AV}{K:SV T.den→List Nat→Tr ρ}(hr:R T H v a)(h:(fW T H k v K).run=some r):
  ∃ v' rd a',aE hp (aX k a) a' rd∧R T H v' a'∧(kh a'=true∧aF v'=true)∧(K v' rd).run=some r:=(ox hh k).1 v a K hr h
theorem qI[ab](hh:RH T H hp){k:Nat}{l:List (SV T.den)}{m:List AV}{K:List (SV T.den)→List Nat→Tr ρ}(hr:RL T H l m)(h:(fu T H k l K).run=some r):
  ∃ l' rd m',aE hp (aK k m) m' rd∧RL T H l' m'∧(ou m'=true∧av l'=true)∧l'.length=l.length∧(K l' rd).run=some r:=(ox hh k).2 l m K hr h
def FW(T:dk)(H:ah T.den):List (Nat×aD T.den)→List (Nat×aI)→Prop:=
 aw fun p q=>p.1=q.1∧RO T H p.2 q.2∧∃ o,H[p.1]?=some (some o)∧p.2.cur=o.cur∧p.2.len=o.len∧o.isRec=false∧p.2.isRec=false
theorem lY[ab](hh:RH T H hp):∀ {k:Nat} {ns:List Nat} {K:List (Nat×aD T.den)→List Nat→Tr ρ},(kU T H k ns K).run=some r →
  ∃ wr rd w,aE hp (cW k ns) w rd∧FW T H wr w∧(K wr rd).run=some r
 |0,ns,K,h=>by simp[kU,Tr.run]at h
 |k+1,[],K,h=>by
  simp only[kU]at h
  exact⟨[],[],[],aE.pure _,trivial,h⟩
 |k+1,n::ns,K,h=>by
  simp only[kU]at h
  split at h
  ·rename_i g cl f cur es ho
   obtain⟨o,c6,dD⟩:=hh.obj ho
   obtain⟨es',rfl,cC,qU⟩:=dD
   split at h
   ·obtain⟨wr,rd,w,h1,h2,h⟩:=lY hh h
    refine⟨(n,.arr g true true cur es)::wr,n::rd,(n,.arr g true true es')::w,?_,⟨⟨rfl,⟨_,rfl,cC,qU⟩,_,ho,rfl,rfl,rfl,rfl⟩,h2⟩,h⟩
    simp only[cW]
    refine aE.get c6 ?_
    simp only[if_true]
    exact aE.mono (aE.bind h1 (aE.pure _)) (fun _ h=>by simpa using h)
   ·obtain⟨Q4,rd,m2,g1,g2,g3,g4,h⟩:=qI hh cC h
    obtain⟨wr,rd2,w,h1,h2,h⟩:=lY hh h
    rw[RL.names cC]at h1
    refine⟨(n,.arr g true true cur Q4)::wr,n::rd++rd2,(n,.arr g true true m2)::w,?_,⟨⟨rfl,⟨_,rfl,g2,fun _=>g3.2⟩,_,ho,rfl,by simp[aD.len,g4],rfl,rfl⟩,h2⟩,h⟩
    simp only[cW]
    refine aE.get c6 ?_
    simp only[Bool.false_eq_true,if_false]
    exact aE.mono (aE.bind g1 (aE.bind h1 (aE.pure _))) (fun _ h=>by simpa using h)
  ·rename_i g f cur t l ho
   obtain⟨o,c6,dD⟩:=hh.obj ho
   obtain⟨es',rfl,cC⟩:=dD
   obtain⟨wr,rd,w,h1,h2,h⟩:=lY hh h
   refine⟨(n,.bX g true cur t l)::wr,n::rd,(n,.arr g true true es')::w,?_,⟨⟨rfl,⟨_,rfl,cC⟩,_,ho,rfl,rfl,rfl,rfl⟩,h2⟩,h⟩
   simp only[cW]
   refine aE.get c6 ?_
   simp only[if_true]
   exact aE.mono (aE.bind h1 (aE.pure _)) (fun _ h=>by simpa using h)
  ·simp[Tr.run]at h
theorem FW.names:∀ {wr:List (Nat×aD T.den)} {w:List (Nat×aI)},FW T H wr w→wr.map (·.1)=w.map (·.1)
 |[],[],_=>rfl
 |_::_,_::_,h=>by simp only[List.map_cons]; rw[h.1.1,FW.names h.2]
 |[],_::_,h=>h.elim
 |_::_,[],h=>h.elim
theorem FW.apply[ab]:∀ {wr:List (Nat×aD T.den)} {w:List (Nat×aI)} {H:ah T.den} {hp:ag},RH T H hp→FW T H wr w →
  dm H (aN H wr)∧RH T (aN H wr) (ai hp w)∧(∀ n:Nat,n∉wr.map (·.1)→(aN H wr)[n]?=H[n]?)∧(aN H wr).length=H.length
 |[],[],H,hp,hh,_=>⟨dm.refl _,hh,fun _ _=>rfl,rfl⟩
 |(n,o')::wr,(n',a')::w,H,hp,hh,h=>by
  obtain⟨⟨e1,h2,o,h3,h4,h5,wv,E6⟩,h6⟩:=h
  simp only at e1 h2 h3 h4 h5 wv E6
  subst e1
  obtain⟨hg,NZ⟩:=hh.Ra h3 (o':=o') (by omega) (fun _=>h5) h2
  have cd:=(List.getElem?_eq_some_iff.1 h3).1
  have e1:bL H n o'=H.set n (some o'):=by simp[bL]; omega
  have e2:setObj hp n a'=hp.set n (some a'):=by simp[setObj]; have:=hh.length; omega
  have h7:FW T (H.set n (some o')) wr w:=by
   refine aw.mono (fun p q Mv=>?_) h6
   obtain⟨q1,q2,o2,q3,q4,q5,q6,q7⟩:=Mv
   refine⟨q1,RO.mono hg q2,?_⟩
   by_cases e:p.1=n
   ·simp_all
   ·grind
  obtain⟨i1,i2,i3,i4⟩:=FW.apply NZ h7
  simp only[aN,ai]
  rw[e1,e2]
  refine⟨hg.trans i1,i2,fun m hm=>?_,by rw[i4]; simp⟩
  simp only[List.map_cons,List.mem_cons,not_or]at hm
  rw[i3 m hm.2,List.getElem?_set_ne (Ne.symm hm.1)]
 |[],_::_,_,_,_,h=>h.elim
 |_::_,[],_,_,_,h=>h.elim
theorem FW.Dh:∀ {wr:List (Nat×aD T.den)} {w:List (Nat×aI)},FW T H wr w→∀ n,recAt H n=true→n∉wr.map (·.1)
 |[],[],_,n,_=>by simp
 |(m,o')::wr,_::w,h,n,hn=>by
  obtain⟨⟨_,_,o,h3,_,_,wv,_⟩,h6⟩:=h
  simp only at h3
  simp only[List.map_cons,List.mem_cons,not_or]
  refine⟨?_,FW.Dh h6 n hn⟩
  rintro rfl
  simp only[recAt,h3,wv,Bool.false_eq_true]at hn
 |[],_::_,h,_,_=>h.elim
 |_::_,[],h,_,_=>h.elim
theorem FW.re[ab]{wr:List (Nat×aD T.den)}{w:List (Nat×aI)}(hh:RH T H hp)(h:FW T H wr w){v:SV T.den}{a:AV}(hv:∀ H,R T H v a):RE T H hp v wr ⟨a,w⟩:=by
 obtain⟨h1,h2,h3,h4⟩:=FW.apply hh h
 exact⟨.inr (hv _),h2,h1,fun q hq=>by rw[h.names]; exact List.mem_map_of_mem hq,fun n hn _=>h3 n hn,by rw[h4]; exact Nat.le_refl _,h.Dh⟩
mutual
theorem R.iT:∀ {v:SV T.den} {a:AV},R T H v a→uS v=iT a
 |.agg l,a,h=>by
  simp only[R]at h
  obtain⟨l',rfl,h2⟩:=h
  simp only[uS,Go.PI.iT]; exact RL.iT h2
 |.bp esz n c rg cap,a,h=>by
  simp only[R]at h
  obtain⟨aq,h1,h2⟩:=h
  rcases rg with _|⟨off,len⟩<;>simp only at h2<;>subst h2<;>rfl
 |.dead,a,h=>by simp[R]at h
 |.hole,a,h|.lit v,a,h|.nz,a,h=>by simp only[R]at h; subst h; rfl
 |.jn l,a,h=>by
  have h0:=R.closed h
  simp only[R]at h
  obtain⟨l',rfl,h2⟩:=h
  exact h0
 |.sl l,a,h=>by
  simp only[R]at h
  obtain⟨l',rfl,h2⟩:=h
  rfl
 |.jd t l,a,h=>by
  simp only[R]at h
  rcases h with ⟨l',rfl,_⟩|⟨_,rfl⟩<;>rfl
 |.bc e j,a,h=>by
  simp only[R]at h
  obtain⟨e',rfl,h2⟩:=h
  rfl
 |.ref n c i j,a,h|.im n c i j ln cp,a,h=>by
  simp only[R]at h
  obtain⟨aq,rfl,h2⟩:=h
  rfl
 |.iQ fn f c,a,h=>by
  have h0:=R.closed h
  simp only[R]at h
  obtain⟨f',c',rfl,h2,h3⟩:=h
  exact h0
 |.fL t v,a,h=>by
  have h0:=R.closed h
  simp only[R]at h
  obtain⟨v',rfl,h2⟩:=h
  exact h0
 |.wC t l c b,a,h=>by
  simp only[R]at h
  rcases h with ⟨_,l',rfl,_⟩|⟨_,_,rfl|rfl⟩<;>rfl
 |.mp y n,a,h=>by
  simp only[R]at h
  obtain⟨rfl,_⟩:=h
  rfl
 |.rW v s len i,a,h=>by
  have h0:=R.closed h
  simp only[R]at h
  obtain⟨a0,_,h1,h2⟩:=h
  rcases h2 with ⟨n,aq,k,j,rfl,rfl⟩|⟨e,j,rfl,rfl⟩<;>exact h0
theorem RL.iT:∀ {l:List (SV T.den)} {m:List AV},RL T H l m→jE l=m8 m
 |[],[],_=>rfl
 |x::xs,y::ys,h=>by
  simp only[RL]at h
  simp only[jE,m8]; rw[R.iT h.1,RL.iT h.2]
 |[],_::_,h=>by simp[RL]at h
 |_::_,[],h=>by simp[RL]at h
end
theorem RP.zip{H':ah T.den}:∀ {ps:List (Nat×SV T.den)} {qs:List (Nat×AV)} {l:List (SV T.den)} {m:List AV},RP T H ps qs→RL T H' l m→RP T H' ((ps.map (·.1)).zip l) ((qs.map (·.1)).zip m)
 |[],[],_,_,_,_=>trivial
 |_::_,_::_,[],[],_,_=>trivial
 |p::ps,q::qs,x::l,y::m,h,h2=>by
  simp only[RL]at h2
  exact⟨⟨h.1.1,h2.1⟩,RP.zip h.2 h2.2⟩
 |_,_,[],_::_,_,h=>by simp[RL]at h
 |_,_,_::_,[],_,h=>by simp[RL]at h
 |[],_::_,_,_,h,_=>h.elim
 |_::_,[],_,_,h,_=>h.elim
theorem dT{den:Nat→Type}:∀ {a b:List (Nat×aD den)} {H:ah den},aN H (a++b)=aN (aN H a) b
 |[],_,_=>rfl
 |_::a,_,_=>dT (a:=a)
theorem FW.none[ab]:∀ {wr:List (Nat×aD T.den)} {w:List (Nat×aI)},FW T H wr w→∀ n:Nat,H[n]?=some none→n∉wr.map (·.1)
 |[],[],_,n,_=>by simp
 |(m,o')::wr,_::w,h,n,hn=>by
  obtain⟨⟨_,_,o,h3,_,_,_,_⟩,h6⟩:=h
  simp only at h3
  simp only[List.map_cons,List.mem_cons,not_or]
  refine⟨?_,FW.none h6 n hn⟩
  rintro rfl
  rw[hn]at h3; simp at h3
 |[],_::_,h,_,_=>h.elim
 |_::_,[],h,_,_=>h.elim
theorem FW.Wg[ab]{wr:List (Nat×aD T.den)}{w:List (Nat×aI)}(h:FW T H wr w)(hk:∀ n:Nat,n∉wr.map (·.1)→(aN H wr)[n]?=H[n]?){n:Nat}(hn:recAt H n=true):recAt (aN H wr) n=true:=by
 unfold recAt at hn ⊢
 rw[hk n (h.Dh n (by unfold recAt; exact hn))]; exact hn
theorem zh[ab](hQ:Q.Ok)(hh:RH T H hp){nm:Nat}(hn:nm=H.length∨H[nm]?=some none){t:TypeId}{len:Nat}{ps:List (Nat×SV T.den)}{qs:List (Nat×AV)}(NX:RP T H ps qs){K:EK T ρ}
  (h:(sa T Q nm H t len ps K).run=some r):iI T H hp (match byValue (qs.map (·.2)) with|true=>lj Q.P nm t len qs|false=>.eD (dy Q.P nm t len qs)) K r:=by
 unfold sa at h
 have hs:=RP.snd NX
 unfold byValue
 rw[←RL.iT hs,←RL.closed hs]
 generalize (jE (ps.map (·.2))&&!av (ps.map (·.2)))=b at h ⊢
 cases b with
 |true=>
  simp only at h ⊢
  obtain⟨l',rd,m',g1,g2,_,_,h⟩:=qI hh hs h
  obtain⟨wr,rd2,w,f1,f2,h⟩:=lY hh h
  rw[RL.names hs]at f1
  obtain⟨a1,a2,a3,a4⟩:=FW.apply hh f2
  have zq:nm=(aN H wr).length∨(aN H wr)[nm]?=some .none:=by
   rcases hn with hn|hn
   ·exact .inl (by rw[a4]; exact hn)
   ·exact .inr (by rw[a3 _ (f2.none _ hn)]; exact hn)
  obtain⟨v,wr2,SA,e,y1,y2,h⟩:=pY hQ a2 zq (RP.zip NX (RL.mono a1 g2)) h
  refine⟨v,wr++wr2,rd++(rd2++SA),⟨e.val,w++e.wr⟩,?_,?_,h⟩
  ·simp only[lj]
   have y1':aE hp (RM.eD (dy Q.P nm t len ((qs.map (·.1)).zip m'))) e SA:=by
    cases hx:dy Q.P nm t len ((qs.map (·.1)).zip m') with
    |none=>rw[hx]at y1; simp[aE,RM.eD,RM.run]at y1
    |some e2=>
     rw[hx]at y1
     simp only[aE,RM.eD,RM.run,RM.log]at y1 ⊢
     exact⟨y1.1,by simp⟩
   exact aE.mono (aE.bind g1 (aE.bind f1 (aE.bind y1' (aE.pure _)))) (fun _ h=>by simpa using h)
  ·refine⟨by rw[dT]; exact y2.val,by rw[dT,pA]; exact y2.hp,by rw[dT]; exact a1.trans y2.grow,fun q hq=>?_,fun n hn hl=>?_,?_,fun n hn=>?_⟩
   ·simp only[List.mem_append,List.map_append]at hq ⊢
    rcases hq with hq|hq
    ·exact .inl (by rw[f2.names]; exact List.mem_map_of_mem hq)
    ·exact .inr (y2.names q hq)
   ·simp only[List.map_append,List.mem_append,not_or]at hn
    rw[dT,y2.zd n hn.2 (by rw[a4]; exact hl),a3 n hn.1]
   ·rw[dT]; exact Nat.le_trans (Nat.le_of_eq a4.symm) y2.len
   ·simp only[List.map_append,List.mem_append,not_or]
    exact⟨f2.Dh n hn,y2.Dh n (f2.Wg a3 hn)⟩
 |false=>
  simp only at h ⊢
  exact pY hQ hh hn NX h
end
end Go.PI
end
section
/- PS, part I: append, and the builtins. -/
namespace Go.PI
variable {T:dk}{ρ:Type}
section
variable {H:ah T.den}{hp:ag}{K:EK T ρ}{r:ρ}{Q:gw}
def zi(T:dk)(H:ah T.den)(y:Src T.den)(ys:List AV)(yc:Bool):Prop:=
 match y with
 |.lN l cl=>RL T H l ys∧yc=cl∧(cl=true→av l=true)
 |.y9 t l=>aw (T.rp t) l ys∧yc=true
theorem zi.len[ab]{y:Src T.den}{ys:List AV}{yc:Bool}(h:zi T H y ys yc):y.len=ys.length:=by
 cases y with
 |lN l cl=>exact h.1.length
 |y9 t l=>exact h.1.length
theorem GZ[ab](hQ:Q.Ok)(hh:RH T H hp){q:bH}{xt:TypeId}{x:SV T.den}{a:AV}(hx:RV T H x a){K:Src T.den→List Nat→Tr ρ}(h:(NH Q H xt x K).run=some r):
  ∃ y rd ys yc,aE hp (wo Q.P q xt a) (ys,yc) rd∧zi T H y ys yc∧(K y rd).run=some r:=by
 unfold NH at h
 split at h
 case h_2=>simp[Tr.run]at h
 rename_i hs
 have hs:=hQ.NS hs
 unfold wo
 rw[hs]
 simp only
 split at h
 ·have ha:=hx.lit rfl
  subst ha
  exact⟨.lN [] true,_,[],true,aE.pure _,⟨by simp[RL],rfl,fun _=>rfl⟩,h⟩
 ·have ha:=hx.live rfl
  simp only[R]at ha
  obtain⟨l',rfl,hl,D8⟩:=ha
  exact⟨.lN _ true,_,l',true,aE.pure _,⟨hl,rfl,fun _=>D8⟩,h⟩
 ·have ha:=hx.live rfl
  simp only[R]at ha
  rcases ha with ⟨l',rfl,hl⟩|⟨rfl,rfl⟩
  ·exact⟨.y9 _ _,_,l',true,aE.pure _,⟨hl,rfl⟩,h⟩
  ·exact⟨.y9 _ _,_,[],true,aE.pure _,⟨(show aw (T.rp _) [] [] from trivial),rfl⟩,h⟩
 ·rename_i esz n c rg cap
  have ha:=hx.live rfl
  simp only[R]at ha
  obtain⟨aq,hv,ha⟩:=ha
  split at h
  ·rename_i g cl f cur es ho
   obtain⟨o,c6,dD⟩:=hh.obj ho
   obtain⟨es',rfl,cC,qU⟩:=dD
   split at h
   case h_2=>simp[Tr.run]at h
   rename_i hc
   have cb:=hv.arr hh ho hc
   simp only[aD.len]at cb
   have hl:=cC.length
   split at h
   ·simp only at ha
    subst ha
    refine⟨.lN es cl,_,es',cl,?_,⟨cC,rfl,qU⟩,h⟩
    simp only[fM]
    refine aE.mono (aE.bind (aE.arr c6 (by omega)) ?_) (rd:=[n]++[]) (fun _ h=>by simpa using h)
    simp only
    rw[if_pos (by omega)]
    simp only[List.drop_zero]
    rw[List.take_of_length_le (by omega)]
    exact aE.pure _
   ·rename_i off len
    simp only at ha
    subst ha
    split at h
    case isFalse=>simp[Tr.run]at h
    rename_i hle
    refine⟨.lN _ cl,_,(es'.drop off).take len,cl,?_,⟨aQ.2 (((aQ.1 cC).drop off).take len),rfl,fun mY=>mA (qU mY) _ _⟩,h⟩
    simp only[fM]
    refine aE.mono (aE.bind (aE.arr c6 (by omega)) ?_) (rd:=[n]++[]) (fun _ h=>by simpa using h)
    simp only
    rw[if_pos (by omega)]
    exact aE.pure _
  ·rename_i g f cur t l ho
   obtain⟨o,c6,dD⟩:=hh.obj ho
   obtain⟨es',rfl,cC⟩:=dD
   split at h
   case h_2=>simp[Tr.run]at h
   rename_i hc
   have cb:=hv.arr hh ho hc
   simp only[aD.len]at cb
   have hl:=cC.length
   split at h
   ·simp only at ha
    subst ha
    refine⟨.y9 t l,_,es',true,?_,⟨cC,rfl⟩,h⟩
    simp only[fM]
    refine aE.mono (aE.bind (aE.arr c6 (by omega)) ?_) (rd:=[n]++[]) (fun _ h=>by simpa using h)
    simp only
    rw[if_pos (by omega)]
    simp only[List.drop_zero]
    rw[List.take_of_length_le (by omega)]
    exact aE.pure _
   ·rename_i off len
    simp only at ha
    subst ha
    obtain⟨hle,h⟩:=aZ h
    simp only[decide_eq_true_eq]at hle
    refine⟨.y9 t _,_,(es'.drop off).take len,true,?_,⟨(cC.drop off).take len,rfl⟩,h⟩
    simp only[fM]
    refine aE.mono (aE.bind (aE.arr c6 (by omega)) ?_) (rd:=[n]++[]) (fun _ h=>by simpa using h)
    simp only
    rw[if_pos (by omega)]
    exact aE.pure _
  ·simp[Tr.run]at h
 ·simp[Tr.run]at h
theorem zi.xY[ab](hT:T.Ok){y:Src T.den}{ys:List AV}{yc:Bool}(h:zi T H y ys yc){m:jU}{q:bH}(h1:q.isAgg=m.agg)(h2:q.size=m.size)(bN:y.ok T m=true):ys.all (aG q.isAgg q.size)=true:=by
 cases y with
 |lN l cl=>
  rw[h1,h2,←RL.all (fun _ _=>R.aG) h.1]
  exact bN
 |y9 t l=>
  simp only[Src.ok,Bool.and_eq_true,decide_eq_true_eq]at bN
  exact su hT (by rw[h1,bN.1]) (by rw[h2,bN.2]) h.1
theorem gB[ab]{y:Src T.den}{ys:List AV}{yc:Bool}(hy:zi T H y ys yc){a b:Tr ρ}(h:(og T y a b).run=some r):(ys.isEmpty=true∧a.run=some r)∨(ys.isEmpty=false∧b.run=some r):=by
 have hl:=hy.len
 unfold og at h
 split at h
 ·grind[Src.len]
 ·rename_i t l
  rcases fi h with ⟨he,h⟩|⟨he,h⟩
  ·grind[Src.len]
  ·grind[Src.len]
theorem pZ(hT:T.Ok){t:Nat}:∀ {l:List (SV T.den)} {m:List AV} {xs:List (T.den t)},RL T H l m→oM T t l=some xs→aw (T.rp t) xs m
 |[],[],xs,_,h=>by simp[oM]at h; subst h; trivial
 |v::vs,a::as,xs,hr,h=>by
  simp only[RL]at hr
  simp only[oM,Option.bind_eq_some_iff,Option.map_eq_some_iff]at h
  obtain⟨x,h1,ys,h2,rfl⟩:=h
  exact⟨hT.dn _ _ _ _ H h1 hr.1,pZ hT hr.2 h2⟩
 |[],_::_,_,h,_=>by simp[RL]at h
 |_::_,[],_,h,_=>by simp[RL]at h
theorem yl{t t':Nat}(h:t=t'){l:List (T.den t)}{m:List AV}(hl:aw (T.rp t) l m):aw (T.rp t') (Aa h l) m:=by subst h; exact hl
theorem Al{den:Nat→Type}{t t':Nat}(h:t=t')(l:List (den t)):(Aa h l).length=l.length:=by subst h; rfl
theorem u0[ab](hT:T.Ok){cur:Nat}{o o':aD T.den}{y:Src T.den}{g c f:Bool}{es ys:List AV}{yc:Bool}(ho:RO T H o (.arr g c f es))(hy:zi T H y ys yc)(h:pQ T cur o y=some o'):
  o'.cur=cur∧o'.len=o.len+y.len∧RO T H o' (.arr true (c&&yc) f (es++ys)):=by
 unfold pQ at h
 split at h
 ·rename_i cl f' cu Wh UA X3
  simp only[Option.some.injEq]at h
  subst h
  obtain⟨es',e,cC,qU⟩:=ho
  simp only[aI.arr.injEq]at e
  obtain⟨rfl,rfl,rfl,rfl⟩:=e
  obtain⟨ym,rfl,SP⟩:=hy
  exact⟨rfl,by simp[aD.len,Src.len],_,rfl,aQ.2 ((aQ.1 cC).append (aQ.1 ym)),fun mY=>by simp only[Bool.and_eq_true]at mY; exact Fz (qU mY.1) (SP mY.2)⟩
 ·rename_i f' cu Wh t l
  rw[Option.map_eq_some_iff]at h
  obtain⟨l0,h1,rfl⟩:=h
  obtain⟨es',e,cC,_⟩:=ho
  simp only[aI.arr.injEq]at e
  obtain⟨rfl,rfl,rfl,rfl⟩:=e
  obtain⟨ym,rfl⟩:=hy
  have h2:=pZ hT cC h1
  refine⟨rfl,?_,_,rfl,h2.append ym⟩
  simp[aD.len,Src.len,h2.length,cC.length]
 ·rename_i f' cu t l UA
  rw[Option.map_eq_some_iff]at h
  obtain⟨l0,h1,rfl⟩:=h
  obtain⟨es',e,cC⟩:=ho
  simp only[aI.arr.injEq]at e
  obtain⟨rfl,rfl,rfl,rfl⟩:=e
  obtain⟨ym,rfl,_⟩:=hy
  have h2:=pZ hT ym h1
  refine⟨rfl,?_,_,rfl,cC.append h2⟩
  simp[aD.len,Src.len,h2.length,ym.length]
 ·rename_i f' cu t l t' l2
  split at h
  case isFalse=>simp at h
  rename_i ht
  simp only[Option.some.injEq]at h
  subst h
  obtain⟨es',e,cC⟩:=ho
  simp only[aI.arr.injEq]at e
  obtain⟨rfl,rfl,rfl,rfl⟩:=e
  obtain⟨ym,rfl⟩:=hy
  refine⟨rfl,?_,_,rfl,cC.append (yl ht ym)⟩
  simp[aD.len,Src.len,Al]
 ·simp at h
theorem Dq{y:Src T.den}{ys:List AV}{yc:Bool}(hy:zi T H y ys yc):(xZ y).cur=0∧(xZ y).len=y.len∧RO T H (xZ y) (.arr true yc false ys):=by
 cases y with
 |lN l cl=>obtain⟨h1,rfl,h2⟩:=hy; exact⟨rfl,rfl,_,rfl,h1,h2⟩
 |y9 t l=>obtain⟨h1,rfl⟩:=hy; exact⟨rfl,rfl,_,rfl,h1⟩
theorem Lb[ab](hT:T.Ok){o:aD T.den}{g c f:Bool}{es:List AV}(ho:RO T H o (.arr g c f es)){m:jU}{q:bH}(h1:q.isAgg=m.agg)(h2:q.size=m.size)(bN:o.xY T m=true):es.all (aG q.isAgg q.size)=true:=by
 cases o with
 |arr g' cl f' cu Wh=>
  obtain⟨es',e,cC,_⟩:=ho
  simp only[aI.arr.injEq]at e
  obtain⟨rfl,rfl,rfl,rfl⟩:=e
  rw[h1,h2,←RL.all (fun _ _=>R.aG) cC]
  exact bN
 |bX g' f' cu t l=>
  obtain⟨es',e,cC⟩:=ho
  simp only[aI.arr.injEq]at e
  obtain⟨rfl,rfl,rfl,rfl⟩:=e
  simp only[aD.xY,Bool.and_eq_true,decide_eq_true_eq]at bN
  exact su hT (by rw[h1,bN.1]) (by rw[h2,bN.2]) cC
 |_=>simp[aD.xY]at bN
theorem yn{cur:Nat}{o o':aD T.den}{y:Src T.den}(h:pQ T cur o y=some o'):o.yh=true:=by
 cases o<;>first|rfl|(cases y<;>simp[pQ]at h)
theorem nJ{o:aD T.den}(h:o.yh=true):o.isRec=false:=by cases o<;>first|rfl|simp[aD.yh]at h
theorem p5:∀ (ys es:List AV) (i:Nat),i+ys.length≤es.length→bu es i ys=es.take i++(ys++es.drop (i+ys.length))
 |[],es,i,_=>by simp[bu]
 |y::ys,es,i,h=>by
  simp only[List.length_cons]at h
  simp only[bu]
  rw[p5 ys (es.set i y) (i+1) (by simp; omega)]
  have e1:(es.set i y).take (i+1)=es.take i++[y]:=by
   rw[List.take_succ_eq_append_getElem (by simp; omega),List.take_set_of_le (Nat.le_refl i)]
   simp
  have e2:(es.set i y).drop (i+1+ys.length)=es.drop (i+(ys.length+1)):=by
   rw[List.drop_set_of_lt (by omega)]
   congr 1; omega
  rw[e1,e2]
  simp
theorem Am{α β:Type}{P:α→β→Prop}{l l2:List α}{m m2:List β}(h:aw P l m)(h2:aw P l2 m2)(i:Nat):aw P (HZ l i l2) (m.take i++(m2++m.drop (i+m2.length))):=by
 unfold HZ
 rw[h2.length]
 exact(h.take i).append (h2.append (h.drop _))
theorem u3[ab](hT:T.Ok){i:Nat}{o o':aD T.den}{y:Src T.den}{ao:aI}{ys:List AV}{yc:Bool}(ho:RO T H o ao)(hy:zi T H y ys yc)(hi:i+y.len≤o.len)(h:uR T o i y=some o'):
  o.yh=true∧o'.cur=o.cur∧o'.len=o.len∧∃ es,ao=.arr o.flags.1 o.flags.2.1 o.flags.2.2 es∧RO T H o' (.arr o.flags.1 (o.flags.2.1&&yc) o.flags.2.2 (bu es i ys)):=by
 have hlen:=hy.len
 unfold uR at h
 split at h
 ·rename_i g f cu t l t' l2
  split at h
  case isFalse=>simp at h
  rename_i ht
  simp only[Option.some.injEq]at h
  subst h
  obtain⟨es',rfl,cC⟩:=ho
  obtain⟨ym,rfl⟩:=hy
  have hl:=cC.length
  simp only[aD.len,Src.len]at hi hlen
  refine⟨rfl,rfl,?_,es',rfl,_,rfl,?_⟩
  ·simp[aD.len,HZ,Al]; omega
  ·rw[p5 _ _ _ (by omega)]
   exact Am cC (yl ht ym) i
 ·rename_i g f cu t l UA
  rw[Option.map_eq_some_iff]at h
  obtain⟨l0,h1,rfl⟩:=h
  obtain⟨es',rfl,cC⟩:=ho
  obtain⟨ym,rfl,_⟩:=hy
  have h2:=pZ hT ym h1
  have hl:=cC.length
  have ra:=h2.length
  simp only[aD.len,Src.len]at hi hlen
  refine⟨rfl,rfl,?_,es',rfl,_,rfl,?_⟩
  ·simp[aD.len,HZ]; omega
  ·rw[p5 _ _ _ (by omega)]
   exact Am cC h2 i
 ·simp at h
def sv(q:bH)(nm:Nat)(a:AV)(ys:List AV)(yc:Bool):RM dg:=
   (match (cq q).isSome&&decide (0<q.size)&&ys.all (aG q.isAgg q.size) with
     |false=>RM.fail
     |true=>match ys.isEmpty with
      |true=>(match a with
       |.o7 xs _=>pure ⟨.sl xs,[]⟩
       |.lit (.slice none 0 0)|.sl _|.bp _ _ _ _ _ _|.nz=>pure ⟨a,[]⟩
       |_=>.fail)
      |false=>match a with
       |.lit (.slice none 0 0)|.nz=>
        if ys.length*q.bytes≤2^44∧ys.length≤2^44 then
         pure ⟨.bp q.size nm ys.length 0 ys.length none,[(nm,.arr true yc false ys)]⟩ else .fail
       |.o7 xs c=>
        if c<xs.length+ys.length∧(xs.length+ys.length)*q.bytes≤2^44∧xs.length+ys.length≤2^44∧xs.all (aG q.isAgg q.size)=true then
         pure ⟨.bp q.size nm (xs.length+ys.length) 0 (xs.length+ys.length) none,[(nm,.arr true yc false (xs++ys))]⟩ else .fail
       |.bp esz n aq off len cap=>do
        let (g,c,f,es) ←RM.arr n aq
        if f=true∨es.length<off+len∨esz≠q.size then RM.fail else
        if len+ys.length≤cap.getD (aq-off) then
         if off+len+ys.length≤es.length then
          pure ⟨.bp esz n aq off (len+ys.length) cap,[(n,.arr g (c&&yc) f (bu es (off+len) ys))]⟩
         else RM.fail
        else if (len+ys.length)*q.bytes≤2^44∧len+ys.length≤2^44 then
         (match cap with
         |none=>if g=true∧off=0∧len=aq then
           pure ⟨.bp esz n (len+ys.length) 0 (len+ys.length) none,[(n,.arr true (c&&yc) f (es++ys))]⟩
          else RM.fail
         |some _=>if es.all (aG q.isAgg q.size)=true then
           pure ⟨.bp esz nm (len+ys.length) 0 (len+ys.length) none,[(nm,.arr true (c&&yc) false ((es.drop off).take len++ys))]⟩
          else RM.fail)
        else RM.fail
       |_=>.fail)
theorem FD{P:Program}{t xt:TypeId}{q:bH}(h:aP P t=some q)(nm:Nat)(a b:AV):
  fC P nm t xt a b=(wo P q xt b >>= fun p=>sv q nm a p.1 p.2):=by
 unfold fC
 rw[h]
 rfl
theorem An{i:Nat}{o o':aD T.den}{y:Src T.den}{ys:List AV}{yc:Bool}(hy:zi T H y ys yc)(h:uR T o i y=some o'):yc=true:=by
 cases y with
 |lN l cl=>cases cl with
  |true=>exact hy.2.1
  |false=>unfold uR at h; cases o<;>simp at h
 |y9 t l=>exact hy.2
theorem yp[ab](hh:RH T H hp){n:Nat}{o o':aD T.den}{ao:aI}(ho:H[n]?=some (some o))(hc:o.cur≤o'.cur)(hl:o'.cur=o.cur→o'.len=o.len)(c6:hp[n]?=some (some ao))(dD:RO T H o' ao)
  {v:SV T.den} {a:AV} (hv:RV T (H.set n (some o')) v a) {m:RM dg} {rd:List Nat} (hy:aE hp m ⟨a,[]⟩ rd) (h:(K v [(n,o')] rd).run=some r) (hj:o.yh=true):iI T H hp m K r:=by
 obtain⟨O2,NZ⟩:=hh.Ra ho (o':=o') hc hl dD
 rw[gT c6]at NZ
 have cd:=(List.getElem?_eq_some_iff.1 ho).1
 have e1:aN H [(n,o')]=H.set n (some o'):=by simp[aN,bL]; omega
 refine⟨_,_,_,⟨a,[]⟩,hy,⟨by rw[e1]; exact hv,by rw[e1]; exact NZ,by rw[e1]; exact O2,fun q h=>by simp at h,fun k hk hl=>?_,by rw[e1]; simp,fun k hk F9=>by
  simp at F9
  subst F9
  simp only[recAt,ho,nJ hj,Bool.false_eq_true]at hk⟩,h⟩
 rw[e1]; simp at hk; rw[List.getElem?_set_ne (Ne.symm hk)]
theorem FE[ab](hT:T.Ok)(hQ:Q.Ok)(hh:RH T H hp){nm:Nat}(hn:nm=H.length∨H[nm]?=some none){t xt:TypeId}{s x:SV T.den}{a b:AV}(hs:RV T H s a)(hx:RV T H x b)
  (h:(Bp Q nm H t xt s x K).run=some r):iI T H hp (fC Q.P nm t xt a b) K r:=by
 unfold Bp at h
 split at h
 ·simp[Tr.run]at h
 rename_i m hm
 obtain⟨q,gK,dR,gE,GD,IX⟩:=hQ.elem hm
 obtain⟨y,rd,ys,yc,ym,wb,h⟩:=GZ hQ hh (q:=q) hx h
 split at h
 ·simp[Tr.run]at h
 rename_i bN
 simp only[Bool.and_eq_true,decide_eq_true_eq]at bN
 have hz:(cq q).isSome=true:=by
  cases Yj:m.zero with
  |none=>rw[Yj]at bN; simp at bN
  |some z=>rw[IX z Yj]; rfl
 have bf:=wb.xY hT dR gE bN.2
 have lA:((cq q).isSome&&decide (0<q.size)&&ys.all (aG q.isAgg q.size))=true:=by
  rw[hz,bf,gE]; simpa using bN.1.2
 have fK:=wb.len
 have abs:∀ {rest:RM dg} {e:dg} {rd2:List Nat},(∀ n,n∈rd→n∈rd2)→aE hp rest e rd2 →
   sv q nm a ys yc=rest→aE hp (fC Q.P nm t xt a b) e rd2:=by
  intro rest e rd2 h1 h2 h3
  rw[FD gK]
  refine⟨?_,fun n hn=>?_⟩
  ·rw[RM.run_bind,ym.1]
   simp only[Option.bind_some]
   rw[h3]
   exact h2.1
  ·rw[RM.eh,ym.1]at hn
   simp only[List.mem_append]at hn
   rw[h3]at hn
   exact hn.elim (fun h=>h1 n (ym.2 n h)) (h2.2 n)
 unfold sv at abs
 rw[lA]at abs
 split at h
 ·-- nil
  have ha:=hs.lit rfl
  subst ha
  rcases gB wb h with ⟨he,h⟩|⟨he,h⟩
  ·rw[he]at abs
   exact ar hh (bh cK) (abs (fun _ h=>h) (aE.mono (aE.pure _) (fun _ h=>by simp at h)) rfl) h
  ·rw[he]at abs
   obtain⟨hg,h⟩:=aZ h
   simp only[rj,Bool.and_eq_true,decide_eq_true_eq]at hg
   obtain⟨o1,o2,o3⟩:=Dq wb
   refine eu hh hn o3 (v:=.bp m.size nm 0 none none) (a:=.bp q.size nm ys.length 0 ys.length none) ?_ (abs (fun _ h=>h) (aE.mono (aE.pure _) (fun _ h=>by simp at h)) ?_) h
   ·right
    simp only[R]
    have hv:=eA hh hn (o:=xZ y)
    rw[o1,o2,fK]at hv
    exact⟨_,hv,by rw[gE]⟩
   ·simp only
    rw[if_pos ⟨by rw[←fK,GD]; exact hg.1,by rw[←fK]; exact hg.2⟩]
 ·-- empty,without room
  have ha:=hs.live rfl
  simp only[R]at ha
  rcases gB wb h with ⟨he,h⟩|⟨he,h⟩
  ·rw[he]at abs
   subst ha
   exact ar hh hs (abs (fun _ h=>h) (aE.mono (aE.pure _) (fun _ h=>by simp at h)) rfl) h
  ·rw[he]at abs
   obtain⟨hg,h⟩:=aZ h
   simp only[rj,Bool.and_eq_true,decide_eq_true_eq]at hg
   obtain⟨o1,o2,o3⟩:=Dq wb
   have key:∀ rest:RM dg,rest=(if ys.length*q.bytes≤2^44∧ys.length≤2^44 then
        pure ⟨.bp q.size nm ys.length 0 ys.length none,[(nm,.arr true yc false ys)]⟩ else .fail)→rest=pure ⟨.bp q.size nm ys.length 0 ys.length none,[(nm,.arr true yc false ys)]⟩:=by
    intro rest hr
    rw[hr,if_pos ⟨by rw[←fK,GD]; exact hg.1,by rw[←fK]; exact hg.2⟩]
   refine eu hh hn o3 (v:=.bp m.size nm 0 none none) (a:=.bp q.size nm ys.length 0 ys.length none) ?_ (abs (fun _ h=>h) (aE.mono (aE.pure _) (fun _ h=>by simp at h)) ?_) h
   ·right
    simp only[R]
    have hv:=eA hh hn (o:=xZ y)
    rw[o1,o2,fK]at hv
    exact⟨_,hv,by rw[gE]⟩
   ·subst ha
    exact key _ rfl
 ·-- a slice by value
  have ha:=hs.live rfl
  rcases gB wb h with ⟨he,h⟩|⟨_,h⟩
  ·rw[he]at abs
   simp only[R]at ha
   obtain⟨l',rfl,hl⟩:=ha
   exact ar hh hs (abs (fun _ h=>h) (aE.mono (aE.pure _) (fun _ h=>by simp at h)) rfl) h
  ·simp[Tr.run]at h
 ·have ha:=hs.live rfl
  rcases gB wb h with ⟨he,h⟩|⟨_,h⟩
  ·rw[he]at abs
   have Ov:=ha
   simp only[R]at ha
   rcases ha with ⟨l',rfl,hl⟩|⟨_,rfl⟩
   ·exact ar hh hs (abs (fun _ h=>h) (aE.mono (aE.pure _) (fun _ h=>by simp at h)) rfl) h
   ·exact ar hh hs (abs (fun _ h=>h) (aE.mono (aE.pure _) (fun _ h=>by simp at h)) rfl) h
  ·simp[Tr.run]at h
 ·-- a slice by value,of known room
  rename_i t' l c b _
  have ha:=hs.live rfl
  have Ov:=ha
  simp only[R]at ha
  rcases gB wb h with ⟨he,h⟩|⟨he,h⟩
  ·rw[he]at abs
   rcases ha with ⟨_,l',rfl,hl⟩|⟨_,wG,rfl|rfl⟩
   ·exact ar hh (v:=.jd t' l) (a:=.sl l') (.inr (by simp only[R]; exact .inl ⟨l',rfl,hl⟩)) (abs (fun _ h=>h) (aE.mono (aE.pure _) (fun _ h=>by simp at h)) rfl) h
   ·exact ar hh (v:=.jd t' l) (a:=.sl []) (.inr (by simp only[R]; exact .inl ⟨[],rfl,by rw[wG]; trivial⟩)) (abs (fun _ h=>h) (aE.mono (aE.pure _) (fun _ h=>by simp at h)) rfl) h
   ·exact ar hh (v:=.jd t' l) (a:=.lit cK) (.inr (by simp only[R]; exact .inr ⟨wG,trivial⟩)) (abs (fun _ h=>h) (aE.mono (aE.pure _) (fun _ h=>by simp at h)) rfl) h
  ·rw[he]at abs
   obtain⟨hg,h⟩:=aZ h
   simp only[rj,Bool.and_eq_true,decide_eq_true_eq]at hg
   obtain⟨⟨hb,hc⟩,rN,hG⟩:=hg
   split at h
   case h_2=>simp[Tr.run]at h
   rename_i o' SQ xa
   simp only[Bool.and_eq_true,decide_eq_true_eq]at SQ
   rcases ha with ⟨_,l',rfl,hl⟩|⟨o5,_⟩
   ·have hlen:=hl.length
    have dD:RO T H (.bX true false 0 t' l) (.arr true true false l'):=⟨l',rfl,hl⟩
    obtain⟨a1,a2,a3⟩:=u0 hT dD wb xa
    have SP:yc=true:=by
     cases y with
     |lN UA cl=>
      obtain⟨_,kG,_⟩:=wb
      cases yc with
      |true=>rfl
      |false=>rw[show cl=false from by simpa using kG.symm]at xa; simp[pQ]at xa
     |y9 _ _=>exact wb.2
    subst SP
    have bf:=su hT (agg:=q.isAgg) (size:=q.size) (by rw[dR]; exact SQ.1) (by rw[gE]; exact SQ.2) hl
    refine eu hh hn a3 (v:=.bp m.size nm 0 none none) (a:=.bp q.size nm (l'.length+ys.length) 0 (l'.length+ys.length) none) ?_ (abs (fun _ h=>h) (aE.mono (aE.pure _) (fun _ h=>by simp at h)) ?_) h
    ·right
     simp only[R]
     have hv:=eA hh hn (o:=o')
     rw[a1,a2,fK]at hv
     simp only[aD.len,hlen]at hv
     exact⟨_,hv,by rw[gE]⟩
    ·simp only
     rw[if_pos ⟨by rw[←hlen,←fK]; exact hc,by rw[←hlen,←fK,GD]; exact rN,by rw[←hlen,←fK]; exact hG,bf⟩]
     rfl
   ·rw[hb]at o5; simp at o5
 ·rename_i esz n c rg cap _
  have ha:=hs.live rfl
  split at h
  case h_2=>simp[Tr.run]at h
  rename_i o ho
  obtain⟨ao,c6,dD⟩:=hh.obj ho
  split at h
  case h_2=>simp[Tr.run]at h
  rename_i hc
  simp only[Bool.and_eq_true,Bool.not_eq_true',decide_eq_true_eq]at hc
  simp only[R]at ha
  obtain⟨aq,hv,ha⟩:=ha
  have cb:=hv.arr hh ho hc.1.1
  split at h
  ·-- the whole of a growing array
   simp only at ha
   subst ha
   split at h
   ·rename_i cl0
    have:ys=[]:=by
     have:=fK
     cases ys with
     |nil=>rfl
     |cons=>simp[Src.len]at this
    subst this
    simp only[List.isEmpty_nil]at abs
    exact ar hh hs (abs (fun _ h=>h) (aE.mono (aE.pure _) (fun _ h=>by simp at h)) rfl) h
   ·rename_i dM
    split at h
    case h_2=>simp[Tr.run]at h
    rename_i o' O3 xa
    obtain⟨hg,h⟩:=aZ h
    simp only[rj,Bool.and_eq_true,decide_eq_true_eq]at hg
    have hj:=yn xa
    obtain⟨es,rfl,wA⟩:=dD.Dn hj
    obtain⟨a1,a2,a3⟩:=u0 hT dD wb xa
    rw[O3]at c6
    cases he:ys.isEmpty with
    |true=>
     rw[he]at abs
     have P9:ys=[]:=by simpa using he
     subst P9
     have SP:yc=true:=by
      cases y with
      |lN l cl=>
       exfalso
       have:=fK
       simp only[Src.len,List.length_nil]at this
       have wG:l=[]:=by simpa using this
       subst wG
       exact dM _ rfl
      |y9 t l=>exact wb.2
     subst SP
     simp only[Bool.and_true,List.append_nil]at a3
     obtain⟨O2,NZ⟩:=hh.Ra ho (o':=o') (by omega) (fun e=>by omega) a3
     rw[gT c6]at NZ
     have cd:=(List.getElem?_eq_some_iff.1 ho).1
     have e1:aN H [(n,o')]=H.set n (some o'):=by simp[aN,bL]; omega
     refine⟨_,_,_,⟨.bp esz n aq 0 aq none,[]⟩,abs (fun _ h=>List.mem_cons_of_mem _ h) (aE.mono (aE.pure _) (fun _ h=>by simp at h)) rfl,⟨?_,by rw[e1]; exact NZ,by rw[e1]; exact O2,fun q h=>by simp at h,fun k hk hl=>?_,by rw[e1]; simp,fun k hk F9=>by
      simp at F9
      subst F9
      simp only[recAt,ho,nJ hj,Bool.false_eq_true]at hk⟩,h⟩
     ·rw[e1]
      right
      simp only[R]
      refine⟨aq,⟨o',by rw[List.getElem?_set_self cd],by omega,fun _=>?_⟩,rfl⟩
      rw[a2,cb,fK]; rfl
     ·rw[e1]; simp at hk; rw[List.getElem?_set_ne (Ne.symm hk)]
    |false=>
     rw[he]at abs
     have Pz:0<ys.length:=by cases ys with
      |nil=>simp at he
      |cons=>simp
     refine jI hh ho (o':=o') (by omega) (fun e=>by omega) a3 (v:=.bp esz n (o.cur+1) none none) (a:=.bp esz n (aq+ys.length) 0 (aq+ys.length) none) ?_
      (abs (fun _ h=>List.mem_cons_of_mem _ h) (rd2:=n::rd) (aE.mono (aE.bind (aE.arr c6 (by omega)) (rd':=[]) (b:=(⟨.bp esz n (aq+ys.length) 0 (aq+ys.length) none,[(n,.arr true (o.flags.2.1&&yc) o.flags.2.2 (es++ys))]⟩:dg)) ?_) (fun k hk=>by simp at hk; simp[hk])) rfl) h (nJ hj)
     ·right
      simp only[R]
      have cd:=(List.getElem?_eq_some_iff.1 ho).1
      refine⟨_,⟨o',by rw[List.getElem?_set_self cd],by omega,fun _=>?_⟩,rfl⟩
      rw[a2,cb,fK]
     ·simp only
      rw[if_neg (by rw[hc.1.2]; simp only[Bool.false_eq_true,false_or,not_or]; exact⟨by omega,by rw[gE]; simp[hc.2]⟩),if_neg (by simp only[Option.getD_none]; omega),
       if_pos ⟨by rw[cb,←fK,GD]; exact hg.1,by rw[cb,←fK]; exact hg.2⟩]
      simp only[and_self,if_true]
      exact aE.pure _
  ·-- of an array of fixed room
   rename_i k
   simp only at ha
   subst ha
   rcases gB wb h with ⟨he,h⟩|⟨he,h⟩
   ·rw[he]at abs
    exact ar hh hs (abs (fun _ h=>h) (aE.mono (aE.pure _) (fun _ h=>by simp at h)) rfl) h
   ·rw[he]at abs
    rcases fi h with ⟨_,h⟩|⟨hk,h⟩
    ·simp[Tr.run]at h
    simp only[decide_eq_false_iff_not]at hk
    split at h
    case h_2=>simp[Tr.run]at h
    rename_i o' hoa xa
    obtain⟨hg,h⟩:=aZ h
    simp only[rj,Bool.and_eq_true,decide_eq_true_eq]at hg
    have hj:=yn xa
    obtain⟨es,rfl,wA⟩:=dD.Dn hj
    obtain⟨a1,a2,a3⟩:=u0 hT dD wb xa
    rw[hc.1.2]at a3
    refine eu hh hn a3 (v:=.bp esz nm 0 none none) (a:=.bp esz nm (aq+ys.length) 0 (aq+ys.length) none) ?_
     (abs (fun _ h=>List.mem_cons_of_mem _ h) (rd2:=n::rd) (aE.mono (aE.bind (aE.arr c6 (by omega)) (rd':=[]) (b:=(⟨.bp esz nm (aq+ys.length) 0 (aq+ys.length) none,[(nm,.arr true (o.flags.2.1&&yc) false (es++ys))]⟩:dg)) ?_) (fun k hk=>by simp at hk; simp[hk])) rfl) h
    ·right
     simp only[R]
     have hv:=eA hh hn (o:=o')
     rw[a1,a2,fK,←cb]at hv
     exact⟨_,hv,rfl⟩
    ·simp only
     rw[if_neg (by rw[hc.1.2]; simp only[Bool.false_eq_true,false_or,not_or]; exact⟨by omega,by rw[gE]; simp[hc.2]⟩),if_neg (by simp only[Option.getD_some]; omega),
      if_pos ⟨by rw[cb,←fK,GD]; exact hg.1,by rw[cb,←fK]; exact hg.2⟩]
     rw[if_pos (Lb hT dD dR gE hoa)]
     simp only[List.drop_zero]
     rw[List.take_of_length_le (by omega)]
     exact aE.pure _
  ·-- into the room that there is
   rename_i k off len _
   simp only at ha
   subst ha
   split at h
   case h_2=>simp[Tr.run]at h
   rename_i o' Dr
   obtain⟨hg,h⟩:=aZ h
   simp only[Bool.and_eq_true,decide_eq_true_eq]at hg
   obtain⟨hj,a1,a2,es,e0,a3⟩:=u3 hT dD wb (by omega) Dr
   obtain⟨es',e1,wA⟩:=dD.Dn hj
   rw[e1]at e0
   simp only[aI.arr.injEq,true_and]at e0
   subst e0
   subst e1
   cases he:ys.isEmpty with
   |true=>
    rw[he]at abs
    have P9:ys=[]:=by simpa using he
    subst P9
    obtain rfl:=An wb Dr
    simp only[Bool.and_true,bu]at a3
    refine yp hh ho (by omega) (fun _=>a2) c6 a3 (v:=.bp esz n c (some (off,len+y.len)) (some k)) (a:=.bp esz n aq off len (some k)) ?_
     (abs (fun _ h=>List.mem_cons_of_mem _ h) (aE.mono (aE.pure _) (fun _ h=>by simp at h)) rfl) h hj
    right
    simp only[R]
    have cd:=(List.getElem?_eq_some_iff.1 ho).1
    refine⟨aq,⟨o',by rw[List.getElem?_set_self cd],by rw[a1]; exact Nat.le_of_eq (Nat.eq_of_beq_eq_true hc.1.1),fun _=>by rw[a2,cb]⟩,by rw[fK]; rfl⟩
   |false=>
    rw[he]at abs
    refine jI hh ho (o':=o') (by omega) (fun _=>a2) a3 (v:=.bp esz n c (some (off,len+y.len)) (some k)) (a:=.bp esz n aq off (len+ys.length) (some k)) ?_
     (abs (fun _ h=>List.mem_cons_of_mem _ h) (rd2:=n::rd) (aE.mono (aE.bind (aE.arr c6 (by omega)) (rd':=[]) (b:=(⟨.bp esz n aq off (len+ys.length) (some k),[(n,.arr o.flags.1 (o.flags.2.1&&yc) o.flags.2.2 (bu es' (off+len) ys))]⟩:dg)) ?_) (fun k hk=>by simp at hk; simp[hk])) rfl) h (nJ hj)
    ·right
     simp only[R]
     have cd:=(List.getElem?_eq_some_iff.1 ho).1
     refine⟨aq,⟨o',by rw[List.getElem?_set_self cd],by rw[a1]; exact Nat.le_of_eq (Nat.eq_of_beq_eq_true hc.1.1),fun _=>by rw[a2,cb]⟩,by rw[fK]⟩
    ·simp only
     rw[if_neg (by rw[hc.1.2]; simp only[Bool.false_eq_true,false_or,not_or]; exact⟨by omega,by rw[gE]; simp[hc.2]⟩),if_pos (by simp only[Option.getD_some]; omega),if_pos (by omega)]
     exact aE.pure _
  ·simp[Tr.run]at h
 ·simp[Tr.run]at h
def yq(q:bH)(d:AV)(ys:List AV)(yc:Bool):RM dg:=
 match decide (0<q.size)&&ys.all (aG q.isAgg q.size) with
  |false=>RM.fail
  |true=>
   match d with
   |.bp esz n aq off len _=>(match (ys.take len).isEmpty with
    |true=>pure ⟨.lit (.int .i64 0),[]⟩
    |false=>do
     let (g,c,f,es) ←RM.arr n aq
     if esz=q.size∧f=false∧off+len≤es.length∧0<aq then
      pure ⟨.lit (.int .i64 (ys.take len).length),[(n,.arr g (c&&yc) f (bu es off (ys.take len)))]⟩
     else RM.fail)
   |.lit (.slice none 0 0)=>pure ⟨.lit (.int .i64 0),[]⟩
   |_=>RM.fail
theorem Lc{P:Program}{t:TypeId}{q:bH}(h:aP P t=some q)(a b:AV):wU P t a b=(fM b >>= fun p=>yq q a p.1 p.2):=by
 unfold wU
 rw[h]
 rfl
theorem Ld[ab](hT:T.Ok)(hQ:Q.Ok)(hh:RH T H hp){t:TypeId}{d x:SV T.den}{a b:AV}(hd:RV T H d a)(hx:RV T H x b)
  (h:(KT Q H t d x K).run=some r):iI T H hp (wU Q.P t a b) K r:=by
 unfold KT at h
 split at h
 case h_2=>simp[Tr.run]at h
 rename_i m hm hs
 have hs:=hQ.NS hs
 obtain⟨q,gK,dR,gE,GD,IX⟩:=hQ.elem hm
 obtain⟨y,rd,ys,yc,ym,wb,h⟩:=GZ hQ hh (q:=q) hx h
 have ym:aE hp (fM b) (ys,yc) rd:=by
  simp_all[wo]
 split at h
 case h_2=>simp[Tr.run]at h
 rename_i esz n c rg cap bN _
 simp only[Bool.and_eq_true,decide_eq_true_eq]at bN
 split at h
 case h_2=>simp[Tr.run]at h
 rename_i off len o hr ho
 split at h
 case h_2=>simp[Tr.run]at h
 rename_i o' hc Dr
 simp only[Bool.and_eq_true,Bool.not_eq_true',decide_eq_true_eq]at hc
 have ha:=hd.live rfl
 obtain⟨aq,rfl,hv,cb⟩:=qH hh ha hr ho
 have cb:=cb hc.1.1
 obtain⟨ao,c6,dD⟩:=hh.obj ho
 have fK:=wb.len
 have bf:=wb.xY hT dR gE bN.1
 have lA:(decide (0<q.size)&&ys.all (aG q.isAgg q.size))=true:=by
  rw[bf,gE]; simpa using bN.2
 have abs:∀ {rest:RM dg} {e:dg} {rd2:List Nat},(∀ n,n∈rd→n∈rd2)→aE hp rest e rd2 →
   yq q (.bp esz n aq off len cap) ys yc=rest→aE hp (wU Q.P t (.bp esz n aq off len cap) b) e rd2:=by
  intro rest e rd2 h1 h2 h3
  rw[Lc gK]
  refine⟨?_,fun k hk=>?_⟩
  ·rw[RM.run_bind,ym.1]
   simp only[Option.bind_some]
   rw[h3]
   exact h2.1
  ·rw[RM.eh,ym.1]at hk
   simp only[List.mem_append]at hk
   rw[h3]at hk
   exact hk.elim (fun h=>h1 k (ym.2 k h)) (h2.2 k)
 unfold yq at abs
 rw[lA]at abs
 obtain⟨hg,h⟩:=aZ h
 simp only[Bool.and_eq_true,decide_eq_true_eq]at hg
 cases he:ys.isEmpty with
 |true=>
  have P9:ys=[]:=by simpa using he
  subst P9
  obtain⟨hj,a1,a2,es,e0,a3⟩:=u3 hT dD wb (by omega) Dr
  obtain⟨es',e1,wA⟩:=dD.Dn hj
  rw[e1]at e0
  simp only[aI.arr.injEq,true_and]at e0
  subst e0
  subst e1
  obtain rfl:=An wb Dr
  simp only[Bool.and_true,bu]at a3
  have Yk:y.len=0:=by rw[fK]; rfl
  rw[Yk]at h
  exact yp hh ho (by omega) (fun _=>a2) c6 a3 (bh (.int .i64 0)) (abs (fun _ h=>List.mem_cons_of_mem _ h) (aE.mono (aE.pure _) (fun _ h=>by simp at h)) (by simp only[List.take_nil,List.isEmpty_nil])) h hj
 |false=>
  have Pz:0<ys.length:=by cases ys with
   |nil=>simp at he
   |cons=>simp
  have Yl:ys.take len=ys:=List.take_of_length_le (by omega)
  obtain⟨hj,a1,a2,es,e0,a3⟩:=u3 hT dD wb (by omega) Dr
  obtain⟨es',e1,wA⟩:=dD.Dn hj
  rw[e1]at e0
  simp only[aI.arr.injEq,true_and]at e0
  subst e0
  subst e1
  have heq:∀ (f t:RM dg),(match (ys.take len).isEmpty with|true=>t|false=>f)=f:=by
   intro f t
   rw[Yl,he]
  refine jI hh ho (o':=o') (by omega) (fun _=>a2) a3 (v:=.lit (.int .i64 y.len)) (a:=.lit (.int .i64 y.len)) (bh _)
   (abs (fun _ h=>List.mem_cons_of_mem _ h) (rd2:=n::rd) (aE.mono (aE.bind (aE.arr c6 (by omega)) (rd':=[]) (b:=(⟨.lit (.int .i64 y.len),[(n,.arr o.flags.1 (o.flags.2.1&&yc) o.flags.2.2 (bu es' off ys))]⟩:dg)) ?_) (fun k hk=>by simp at hk; simp[hk])) (heq _ _)) h (nJ hj)
  simp only
  rw[if_pos ⟨by rw[gE]; exact hc.2,hc.1.2,by omega,by omega⟩,fK,Yl]
  exact aE.pure _
theorem N0[ab](hQ:Q.Ok)(hh:RH T H hp){ts:Array TypeId}{type:TypeId}{x:SV T.den}{a:AV}(hx:RV T H x a)(h:(Qc Q H ts type x K).run=some r){nm:Nat}:
  iI T H hp (dh Q.P nm .len ts type [a]) K r:=by
 unfold Qc at h
 unfold dh
 simp only
 split at h
 case h_2=>simp[Tr.run]at h
 rename_i t ht
 rw[ht]
 simp only
 split at h
 ·rename_i hs
  have hs:=hQ.NS hs
  split at h
  ·have ha:=hx.lit rfl
   subst ha
   refine ar hh (bh (.int .i64 0)) (rd:=[]) ?_ h
   simp only[hs,nP]
   exact aE.pure _
  ·have ha:=hx.live rfl
   simp only[R]at ha
   subst ha
   refine ar hh (bh (.int .i64 0)) (rd:=[]) ?_ h
   simp only[hs,nP]
   exact aE.pure _
  ·have ha:=hx.live rfl
   simp only[R]at ha
   obtain⟨l',rfl,hl,_⟩:=ha
   refine ar hh (a:=.lit (.int .i64 l'.length)) (by rw[hl.length]; exact bh _) (rd:=[]) ?_ h
   simp only[hs,nP]
   exact aE.pure _
  ·rename_i t' l
   have ha:=hx.live rfl
   simp only[R]at ha
   rcases ha with ⟨l',rfl,hl⟩|⟨rfl,rfl⟩
   ·refine ar hh (a:=.lit (.int .i64 l'.length)) (by rw[hl.length]; exact bh _) (rd:=[]) ?_ h
    simp only[hs,nP]
    exact aE.pure _
   ·refine ar hh (bh (.int .i64 0)) (rd:=[]) ?_ h
    simp only[hs,nP]
    exact aE.pure _
  ·rename_i t' l c b
   have ha:=hx.live rfl
   simp only[R]at ha
   rcases ha with ⟨_,l',rfl,hl⟩|⟨_,rfl,rfl|rfl⟩
   ·refine ar hh (a:=.lit (.int .i64 l'.length)) (by rw[hl.length]; exact bh _) (rd:=[]) ?_ h
    simp only[hs,nP]
    exact aE.pure _
   ·refine ar hh (bh (.int .i64 0)) (rd:=[]) ?_ h
    simp only[hs,nP]
    exact aE.pure _
   ·refine ar hh (bh (.int .i64 0)) (rd:=[]) ?_ h
    simp only[hs,nP]
    exact aE.pure _
  ·rename_i esz n c rg cap
   have ha:=hx.live rfl
   split at h
   case h_2=>simp[Tr.run]at h
   rename_i off len hr
   have:∃ o,H[n]?=some (some o):=by
    simp only[R]at ha
    obtain⟨_,⟨o,ho,_⟩,_⟩:=ha
    exact⟨o,ho⟩
   obtain⟨o,ho⟩:=this
   obtain⟨aq,rfl,_,_⟩:=qH hh ha hr ho
   refine ar hh (bh (.int .i64 len)) (rd:=[]) ?_ h
   simp only[hs,nP]
   exact aE.pure _
  ·rename_i n c k j len cap
   have ha:=hx.live rfl
   simp only[R]at ha
   obtain⟨aq,rfl,_⟩:=ha
   refine ar hh (bh (.int .i64 len)) (rd:=[]) ?_ h
   simp only[hs,nP]
   exact aE.pure _
  ·simp[Tr.run]at h
 ·simp[Tr.run]at h
 ·rename_i hs
  have hs:=hQ.NS hs
  split at h
  ·simp[Tr.run]at h
  ·rename_i v hv
   have ha:=hx.lit rfl
   subst ha
   obtain⟨w,hw,hk⟩:=gX h
   refine ar hh (bh w) (rd:=[]) ?_ hk
   split
   ·rename_i heq; injection heq with e; exact(hv e).elim
   ·rename_i heq; cases heq
   ·rename_i heq; cases heq
   ·rename_i heq; cases heq
   ·rename_i heq; cases heq
   ·rename_i heq; cases heq
   ·rename_i heq; injection heq with e; subst e; rw[hw]; exact aE.pure _
   ·rename_i h; exact(h v rfl).elim
  ·rename_i l
   have ha:=hx.live rfl
   simp only[R]at ha
   obtain⟨l',rfl,hl⟩:=ha
   split at h
   case h_2=>simp[Tr.run]at h
   rename_i n m hm
   obtain⟨q,gK,_⟩:=hQ.Dp hm
   refine ar hh (bh (.int .i64 n)) (rd:=[]) ?_ h
   simp only[gK]
   exact aE.pure _
  ·have ha:=hx.live rfl
   simp only[R]at ha
   obtain⟨aq,rfl,hl⟩:=ha
   split at h
   case h_2=>simp[Tr.run]at h
   rename_i n m hm
   obtain⟨q,gK,_⟩:=hQ.Dp hm
   refine ar hh (bh (.int .i64 n)) (rd:=[]) ?_ h
   simp only[gK]
   exact aE.pure _
  ·have ha:=hx.live rfl
   simp only[R]at ha
   obtain⟨aq,rfl,hl⟩:=ha
   split at h
   case h_2=>simp[Tr.run]at h
   rename_i n m hm
   obtain⟨q,gK,_⟩:=hQ.Dp hm
   refine ar hh (bh (.int .i64 n)) (rd:=[]) ?_ h
   simp only[gK]
   exact aE.pure _
  ·simp[Tr.run]at h
theorem G0[ab]{l:List (SV T.den)}{m:List AV}(hv:aw (RV T H) l m){c:List Value}(hc:mw l=some c):cT m=some c:=by
 revert c
 induction l generalizing m with
 |nil=>
  intro c hc
  cases m with
  |nil=>simp[mw]at hc; subst hc; rfl
  |cons=>exact hv.elim
 |cons x xs ih=>
  intro c hc
  cases m with
  |nil=>exact hv.elim
  |cons a as=>
   cases x with
   |lit v=>
    simp only[mw,Option.map_eq_some_iff]at hc
    obtain⟨c',h1,rfl⟩:=hc
    have:=RV.lit hv.1 rfl
    subst this
    simp[cT,ih hv.2 h1]
   |_=>simp[mw]at hc
theorem Ds[ab](hT:T.Ok)(hQ:Q.Ok)(hh:RH T H hp){nm:Nat}(hn:nm=H.length∨H[nm]?=some none){b:Builtin}{ts:Array TypeId}{type:TypeId}{args:List (SV T.den)}{as:List AV}
  (ha:aw (RV T H) args as) (h:(x5 Q nm H b ts type args K).run=some r):iI T H hp (dh Q.P nm b ts type as) K r:=by
 unfold x5 at h
 split at h
 ·split at h
  ·rename_i t xt s x ht
   match as,ha with
   |[a,b],ha=>
    simp only[dh,ht]
    exact FE hT hQ hh hn ha.1 ha.2.1 h
  ·simp[Tr.run]at h
 ·split at h
  ·rename_i t _ d x ht
   match as,ha with
   |[a,b],ha=>
    simp only[dh,ht]
    exact Ld hT hQ hh ha.1 ha.2.1 h
  ·simp[Tr.run]at h
 ·split at h
  ·rename_i x
   match as,ha with
   |[a],ha=>exact N0 hQ hh ha.1 h
  ·simp[Tr.run]at h
 ·split at h
  ·rename_i vs mc
   obtain⟨w,hw,hk⟩:=gX h
   refine ar hh (bh w) (rd:=[]) ?_ hk
   simp only[dh,G0 ha mc,hw]
   exact aE.pure _
  ·simp[Tr.run]at h
 ·split at h
  ·rename_i vs mc
   obtain⟨w,hw,hk⟩:=gX h
   refine ar hh (bh w) (rd:=[]) ?_ hk
   simp only[dh,G0 ha mc,hw]
   exact aE.pure _
  ·simp[Tr.run]at h
 ·simp[Tr.run]at h
end
end Go.PI
end
section
/- PS, part Ia: maps. -/
namespace Go.PI
variable {T:dk}{ρ:Type}
theorem BB(kk:KK)(a b:kk.D):qX (kk.v a) (kk.v b)=kk.beq a b:=by cases kk<;>rfl
theorem Lf{kk:KK}{v:Value}{k:kk.D}(h:kk.get v=some k):v=kk.v k∧kk.ok v=true:=by
 cases kk with
 |int q=>
  cases v<;>simp[KK.get]at h
  obtain⟨rfl,h⟩:=h
  cases h
  exact⟨rfl,by simp[KK.ok]⟩
 |str=>
  cases v<;>simp[KK.get]at h
  cases h
  exact⟨rfl,rfl⟩
 |bool=>
  cases v<;>simp[KK.get]at h
  cases h
  exact⟨rfl,rfl⟩
theorem u4{kk:KK}{α:Type}{k:kk.D}:∀ {m:List (kk.D×α)} {i:Nat},kx kk m k=none→jr (kk.v k) (m.map fun q=>kk.v q.1) i=none
 |[],i,_=>rfl
 |(k',v)::m,i,h=>by
  simp only[kx]at h
  cases hb:kk.beq k k' with
  |true=>rw[hb]at h; simp at h
  |false=>
   rw[hb]at h
   simp only[List.map_cons,jr,BB,hb,cond_false]
   exact u4 h
theorem u6{kk:KK}{α:Type}{k:kk.D}{x:α}:∀ {m:List (kk.D×α)} {i:Nat},kx kk m k=some x→∃ j,jr (kk.v k) (m.map fun q=>kk.v q.1) i=some (i+j)∧(m.map (·.2))[j]?=some x ∧
  ∀ y,(mN kk m k y).map (fun q=>kk.v q.1)=m.map (fun q=>kk.v q.1)∧(mN kk m k y).map (·.2)=(m.map (·.2)).set j y
 |[],i,h=>by simp[kx]at h
 |(k',v)::m,i,h=>by
  simp only[kx]at h
  cases hb:kk.beq k k' with
  |true=>
   simp_all[cond_true,jr,BB,hb,mN]
  |false=>
   rw[hb]at h
   obtain⟨j,h1,h2,h3⟩:=u6 (i:=i+1) h
   refine⟨j+1,?_,by simpa using h2,fun y=>?_⟩
   ·simp only[List.map_cons,jr,BB,hb,cond_false,h1]
    congr 1; omega
   ·obtain⟨h4,h5⟩:=h3 y
    simp[mN,hb,h4,h5]
theorem Dt{kk:KK}{α:Type}{k:kk.D}{y:α}:∀ {m:List (kk.D×α)},kx kk m k=none→mN kk m k y=m++[(k,y)]
 |[],_=>rfl
 |(k',v)::m,h=>by
  simp only[kx]at h
  cases hb:kk.beq k k' with
  |true=>rw[hb]at h; simp at h
  |false=>
   rw[hb]at h
   simp only[mN,hb,cond_false,List.cons_append]
   rw[Dt h]
section
variable {H:ah T.den}{hp:ag}{K:EK T ρ}{r:ρ}{Q:gw}
theorem BC{c:Bool}{v:SV T.den}{a:AV}{b:Bool}(h:R T H v a):R T H (Bq c v b) (wW c a b):=by
 cases c with
 |false=>exact h
 |true=>
  simp only[Bq,wW,R]
  exact⟨_,rfl,h,rfl,trivial⟩
theorem FF[ab](hT:T.Ok)(hQ:Q.Ok)(hZ:T.tK Q)(hh:RH T H hp){t:TypeId}{x ix:SV T.den}{a b:AV}(hx:RV T H x a)(hi:RV T H ix b){c:Bool}(h:(Br Q H t x ix c K).run=some r):
  iI T H hp (sK Q.P t a b c) K r:=by
 unfold Br at h
 split at h
 case h_2=>simp[Tr.run]at h
 rename_i kk et wJ
 have JI:=hQ.map _ _ wJ
 split at h
 case h_2=>simp[Tr.run]at h
 rename_i za z k Qv hz
 obtain⟨m,hm,Ym⟩:=Option.bind_eq_some_iff.1 Qv
 obtain⟨q,gK,_,_,_,IX⟩:=hQ.row _ _ hm
 have nT:=IX _ Ym
 have Ei:=hZ et m z za hm Ym hz
 have hi:=hi.lit rfl
 subst hi
 have Qu:(eZ Q.P et).bind cq=some za:=by rw[gK]; exact nT
 unfold sK
 simp only[JI,Qu]
 split at h
 ·rename_i k' hk
  obtain⟨rfl,bN⟩:=Lf hk
  have hx:=hx.lit rfl
  subst hx
  simp only[bN]
  exact ar hh (.inr (BC (hT.up _ _ _ H Ei))) (aE.pure _) h
 ·rename_i k' n hk
  obtain⟨rfl,bN⟩:=Lf hk
  have hx:=hx.live rfl
  simp only[R]at hx
  obtain⟨rfl,_⟩:=hx
  split at h
  case h_2=>simp[Tr.run]at h
  rename_i qO t' mp ho
  split at h
  case isFalse=>simp[Tr.run]at h
  rename_i hc
  obtain⟨rfl,rfl⟩:=hc
  simp only[tD]at h
  obtain⟨ao,c6,dD⟩:=hh.obj ho
  obtain⟨vs,rfl,mc⟩:=dD
  simp only[bN]
  cases hg:kx qO mp k' with
  |none=>
   rw[hg]at h
   simp only[Option.getD_none,Option.isSome_none]at h
   refine ar hh (.inr (BC (hT.up _ _ _ H Ei))) (rd:=[n]) (aE.get c6 ?_) h
   simp only[if_true,u4 hg]
   exact aE.pure _
  |some y=>
   rw[hg]at h
   simp only[Option.getD_some,Option.isSome_some]at h
   obtain⟨j,h1,h2,_⟩:=u6 (i:=0) hg
   obtain⟨v,hv,hr⟩:=aw.get mc h2
   refine ar hh (.inr (BC (hT.up _ _ _ H hr))) (rd:=[n]) (aE.get c6 ?_) h
   simp only[if_true,h1,Nat.zero_add,hv]
   exact aE.pure _
 ·simp[Tr.run]at h
theorem zj[ab](hT:T.Ok)(hQ:Q.Ok)(hh:RH T H hp){t:TypeId}{x ix v:SV T.den}{a b d:AV}(hx:RV T H x a)(hi:RV T H ix b)(hv:RV T H v d)(h:(r9 Q H t x ix v K).run=some r):
  iI T H hp (lh Q.P t a b d) K r:=by
 unfold r9 at h
 split at h
 case h_2=>simp[Tr.run]at h
 rename_i kk et wJ
 have JI:=hQ.map _ _ wJ
 split at h
 case h_2=>simp[Tr.run]at h
 rename_i k n
 split at h
 case h_2=>simp[Tr.run]at h
 rename_i k' qO t' mp hk ho
 split at h
 case h_2=>simp[Tr.run]at h
 rename_i y hd hy
 split at h
 case isFalse=>simp[Tr.run]at h
 rename_i hc
 obtain⟨rfl,Oy⟩:=hc
 obtain⟨rfl,bN⟩:=Lf hk
 have hi:=hi.lit rfl
 subst hi
 have hx:=hx.live rfl
 simp only[R]at hx
 obtain⟨rfl,_⟩:=hx
 have Ei:=hT.dn _ _ _ _ H hy (hv.live hd)
 obtain⟨ao,c6,dD⟩:=hh.obj ho
 obtain⟨vs,rfl,mc⟩:=dD
 unfold lh
 simp only[JI,bN]
 simp only[tD]at h
 cases hg:kx qO mp k' with
 |none=>
  have e:=Dt (y:=y) hg
  refine jI hh ho (o':=.kb qO t' (mN qO mp k' y)) (Nat.le_refl _) (fun _=>rfl) (a':=.gd (.map qO ((mp.map fun q=>qO.v q.1)++[qO.v k'])) (vs++[d])) ?_ (bh undef) (rd:=[n]) (aE.get c6 ?_) h
  ·rw[e]
   refine⟨vs++[d],by simp,?_⟩
   rw[List.map_append]
   exact mc.append (show aw (T.rp t') [y] [d] from ⟨Ei,trivial⟩)
  ·simp only[if_true,u4 hg]
   exact aE.pure _
 |some x0=>
  obtain⟨j,h1,h2,h3⟩:=u6 (i:=0) hg
  obtain⟨h4,h5⟩:=h3 y
  refine jI hh ho (o':=.kb qO t' (mN qO mp k' y)) (Nat.le_refl _) (fun _=>rfl) (a':=.gd (.map qO (mp.map fun q=>qO.v q.1)) (vs.set j d)) ?_ (bh undef) (rd:=[n]) (aE.get c6 ?_) h
  ·exact⟨_,by rw[h4],by rw[h5]; exact mc.set j Ei⟩
  ·simp only[if_true,h1,Nat.zero_add]
   exact aE.pure _
theorem Du[ab](hQ:Q.Ok)(hh:RH T H hp){nm:Nat}(hn:nm=H.length∨H[nm]?=some none){t:TypeId}{x:Option (SV T.den)}{a:Option AV}(hx:K7 T H x a)(h:(x6 Q nm t x K).run=some r):
  iI T H hp (.eD (pa Q.P nm t a)) K r:=by
 unfold x6 at h
 split at h
 case h_2=>simp[Tr.run]at h
 rename_i kk et wJ
 have JI:=hQ.map _ _ wJ
 obtain⟨n,Uh,h⟩:=gY hx h
 refine eu hh hn (o:=.kb kk et []) (a':=.gd (.map kk []) []) ⟨[],rfl,trivial⟩ (a:=.mp false nm) (rd:=[]) (.inr ?_) ?_ h
 ·simp only[R]
  refine⟨trivial,.kb kk et [],?_⟩
  unfold bL
  rcases hn with rfl|hn
  ·simp
  ·have cd:=(List.getElem?_eq_some_iff.1 hn).1
   rw[if_neg (by omega),List.getElem?_set_self cd]
 ·simp only[pa,JI,Uh]
  exact aE.eD rfl
end
end Go.PI
end
section
/- PS, part J: every operation. -/
namespace Go.PI
variable {T:dk}{ρ:Type}
section
variable {H:ah T.den}{hp:ag}{K:EK T ρ}{r:ρ}{Q:gw}
theorem jk{ev:Operand→SV T.den}{Ej:Operand→AV}(bA:∀ x,RV T H (ev x) (Ej x)):∀ (l:List Operand),aw (RV T H) (l.map ev) (l.map Ej)
 |[]=>trivial
 |x::xs=>⟨bA x,jk bA xs⟩
theorem iK[ab]:∀ {l:List (SV T.den)} {m:List AV},aw (RV T H) l m→l.any bP=false→RL T H l m
 |[],[],_,_=>by simp[RL]
 |x::xs,y::ys,h,hd=>by
  simp only[List.any_cons,Bool.or_eq_false_iff]at hd
  simp only[RL]
  exact⟨h.1.live hd.1,iK h.2 hd.2⟩
theorem yr[ab]{ev:Operand→SV T.den}{Ej:Operand→AV}(bA:∀ x,RV T H (ev x) (Ej x)):∀ (l:List (Nat×Operand)),((l.map fun p=>(p.1,ev p.2)).any fun p=>bP p.2)=false →
  RP T H (l.map fun p=>(p.1,ev p.2)) (l.map fun p=>(p.1,Ej p.2))
 |[],_=>trivial
 |x::xs,hd=>by
  simp only[List.map_cons,List.any_cons,Bool.or_eq_false_iff]at hd
  exact⟨⟨rfl,(bA _).live hd.1⟩,yr bA xs hd.2⟩
theorem FG[ab](hT:T.Ok)(hQ:Q.Ok)(hZ:T.tK Q)(hh:RH T H hp){nm:Nat}(hn:nm=H.length∨H[nm]?=some none){ev:Operand→SV T.den}{Ej:Operand→AV}(bA:∀ x,RV T H (ev x) (Ej x)){o:Oper}
  (h:(NI Q nm H ev o K).run=some r):iI T H hp (aM Q.P nm Ej o) K r:=by
 obtain⟨dst,op,type,pos,after,guard⟩:=o
 unfold NI at h
 cases op with
 |move x=>exact ar hh (bA x) (aE.ret _) h
 |assign x=>exact ar hh (bA x) (aE.ret _) h
 |pick c a b=>
  simp only at h
  split at h
  ·rename_i t ht
   have hc:=(bA c).lit ht
   obtain⟨v,hv,hk⟩:=NW (bA a) (bA b) h
   refine ar hh hv (rd:=[]) ?_ hk
   simp only[aM,hc]
   exact aE.pure _
  ·simp[Tr.run]at h
 |alloc t=>
  simp only at h
  split at h
  case h_2=>simp[Tr.run]at h
  rename_i m hm
  split at h
  case h_2=>simp[Tr.run]at h
  rename_i z hz
  split at h
  case isFalse=>simp[Tr.run]at h
  rename_i hs
  exact Ic hQ hh hn hm hz hs h
 |box t x=>
  simp only at h
  split at h
  case isFalse=>simp[Tr.run]at h
  rename_i hc
  have hv:=(bA x).live hc.2.2
  have kG:=hv.cells
  refine eu hh hn (o:=.arr false (av (bK (ev x))) false 0 [ev x]) (a':=.arr false (aY (cellsOf (Ej x))) false [Ej x]) ⟨_,by rw[RL.closed kG],by simp only[RL]; exact⟨hv,trivial⟩,fun mY=>by rw[zb]at mY; simp only[av,mY,Bool.and_self]⟩
   (a:=.ref nm 1 0 0) (rd:=[]) ?_ ?_ h
  ·right
   simp only[R]
   exact⟨1,rfl,eA hh hn (o:=.arr false (av (bK (ev x))) false 0 [ev x])⟩
  ·simp only[aM]
   rw[if_pos ⟨by rw[←kG.Db]; exact hc.1,by rw[←kG.length]; exact hc.2.1⟩]
   exact aE.pure _
 |build t parts=>
  simp only at h
  split at h
  ·simp[Tr.run]at h
  rename_i hd
  simp only[Bool.not_eq_true]at hd
  obtain⟨v,hv,hk⟩:=lX h
  obtain⟨a,ha,hr⟩:=Ib hQ (yr bA _ hd) hv
  refine ar hh (.inr hr) (rd:=[]) ?_ hk
  simp only[aM,ha]
  exact aE.pure _
 |buildSlice t len parts=>
  simp only at h
  split at h
  ·simp[Tr.run]at h
  rename_i hd
  simp only[Bool.not_eq_true]at hd
  exact zh hQ hh hn (yr bA _ hd) h
 |load t a=>
  simp only at h
  split at h
  case h_2=>simp[Tr.run]at h
  rename_i m hm
  obtain⟨q,h1,h2,h3,_⟩:=hQ.row _ _ hm
  have:∃ v c rd,aE hp (kA Q.P t (Ej a)) c rd∧R T H v c∧(K v [] rd).run=some r:=Dm hT h1 h2 h3 hh (bA a) h
  obtain⟨v,c,rd,hy,hr,hk⟩:=this
  refine ar hh (.inr hr) (rd:=rd) ?_ hk
  simp only[aM]
  exact aE.mono (aE.bind hy (aE.pure _)) (fun _ h=>by simpa using h)
 |store t a x=>
  simp only at h
  split at h
  case h_2=>simp[Tr.run]at h
  rename_i m hm
  obtain⟨q,h1,h2,h3,_⟩:=hQ.row _ _ hm
  exact H9 hT h1 h3 hh (bA a) (bA x) h
 |nilCheck x=>
  simp only at h
  have hx:=bA x
  split at h
  ·rename_i n c i j he
   rw[he]at hx
   have gf:=hx.live rfl
   simp only[R]at gf
   obtain⟨aq,e,hv⟩:=gf
   refine ar hh (a:=.ref n aq i j) (.inr (by simp only[R]; exact⟨aq,rfl,hv⟩)) (rd:=[]) ?_ h
   simp only[aM,e]; exact aE.pure _
  ·rename_i e0 j he
   rw[he]at hx
   have gf:=hx.live rfl
   have j0:=gf
   simp only[R]at gf
   obtain⟨e',e,hv⟩:=gf
   refine ar hh (a:=.bc e' j) (.inr (by rw[←e]; exact j0)) (rd:=[]) ?_ h
   simp only[aM,e]; exact aE.pure _
  ·rename_i t y he
   rw[he]at hx
   have gf:=hx.live rfl
   have j0:=gf
   simp only[R]at gf
   obtain⟨e',e,hv⟩:=gf
   refine ar hh (a:=.fL t e') (.inr (by rw[←e]; exact j0)) (rd:=[]) ?_ h
   simp only[aM,e]; exact aE.pure _
  ·rename_i f a c he
   rw[he]at hx
   have gf:=hx.live rfl
   have j0:=gf
   simp only[R]at gf
   obtain⟨f',c',e,hv⟩:=gf
   refine ar hh (a:=.iQ (.func f) f' c') (.inr (by rw[←e]; exact j0)) (rd:=[]) ?_ h
   simp only[aM,e]; exact aE.pure _
  ·rename_i f a c he
   have e:=hx.lit he
   refine ar hh (bh (.func (.func f) a c)) (rd:=[]) ?_ h
   simp only[aM,e]; exact aE.pure _
  ·simp[Tr.run]at h
 |binOp op t x y u=>
  simp only at h
  obtain⟨v,hv,hk⟩:=NV hQ (bA x) (bA y) h
  refine ar hh (bh v) (rd:=[]) ?_ hk
  simp only[aM,hv]
  exact aE.pure _
 |unOp op t x=>
  simp only at h
  split at h
  ·rename_i a ha
   have hx:=(bA x).lit ha
   obtain⟨v,hv,hk⟩:=gX h
   refine ar hh (bh v) (rd:=[]) ?_ hk
   simp only[aM,hx,hv]
   exact aE.pure _
  ·simp[Tr.run]at h
 |convert s d x=>
  simp only at h
  split at h
  ·rename_i a ha
   have hx:=(bA x).lit ha
   obtain⟨v,hv,hk⟩:=gX h
   refine ar hh (bh v) (rd:=[]) ?_ hk
   simp only[aM,hx,hv]
   exact aE.pure _
  ·simp[Tr.run]at h
 |makeInterface t x=>
  simp only at h
  split at h
  ·simp[Tr.run]at h
  rename_i hc
  simp only[Bool.or_eq_true,not_or,Bool.not_eq_true]at hc
  have hx:=(bA x).live hc.2
  refine ar hh (a:=.fL t (Ej x)) (.inr (by simp only[R]; exact⟨_,rfl,hx⟩)) (rd:=[]) ?_ h
  simp only[aM]
  rw[if_neg (by simp[hc.1.1,hc.1.2])]
  exact aE.pure _
 |makeFunc fn first captured=>
  simp only at h
  split at h
  ·rename_i hc
   refine ar hh (bh (.func fn #[] #[])) (rd:=[]) ?_ h
   simp only[aM,hc,if_true]
   exact aE.pure _
  ·rename_i hc
   split at h
   ·simp[Tr.run]at h
   rename_i hd
   simp only[Bool.or_eq_true,not_or,Bool.not_eq_true]at hd
   have h1:=iK (jk bA first.toList) hd.1
   have h2:=iK (jk bA captured.toList) hd.2
   refine ar hh (a:=.iQ fn (first.toList.map Ej) (captured.toList.map Ej)) (.inr (by simp only[R]; exact⟨_,_,rfl,h1,h2⟩)) (rd:=[]) ?_ h
   simp only[aM]
   rw[if_neg hc]
   exact aE.pure _
 |makeSlice t l c=>
  simp only at h
  split at h
  ·rename_i hs
   have e:l=c:=by
    unfold KQ at hs
    split at hs
    ·rw[Nat.eq_of_beq_eq_true hs]
    ·simp at hs
   subst e
   exact zf hQ hZ hh hn (bA l) h
  ·exact ze hQ hZ hh hn (bA l) (bA c) h
 |slice t x lo hi mx=>
  simp only at h
  have ho:∀ o:Option Operand,K7 T H (o.map ev) (o.map Ej):=by
   intro o
   cases o with
   |none=>trivial
   |some o=>exact bA o
  obtain⟨v,b,hb,hv,hk⟩:=NY hT hQ hh (bA x) (ho lo) (ho hi) (ho mx) h
  refine ar hh hv (rd:=[]) ?_ hk
  simp only[aM,hb]
  exact aE.pure _
 |sliceToArrayPointer t x=>
  simp only at h
  have hx:=bA x
  unfold KR at h
  split at h
  case h_2=>simp[Tr.run]at h
  rename_i len m n c i j l cp hf he
  obtain⟨q,gK,dR,gE⟩:=hQ.Dp hf
  split at h
  case h_2=>simp[Tr.run]at h
  rename_i hle
  simp only[decide_eq_true_eq]at hle
  rw[he]at hx
  have gf:=hx.live rfl
  simp only[R]at gf
  obtain⟨aq,e,hv⟩:=gf
  refine ar hh (a:=.ref n aq i j) (.inr (by simp only[R]; exact⟨aq,rfl,hv⟩)) (rd:=[]) ?_ h
  simp only[aM,e,gK]
  rw[if_pos hle]
  exact aE.pure _
 |fieldAddr s x f=>
  simp only at h
  have hx:=bA x
  split at h
  ·rename_i off m n c i j hf he
   obtain⟨q,hq,_⟩:=hQ.NR hf
   rw[he]at hx
   have gf:=hx.live rfl
   simp only[R]at gf
   obtain⟨aq,e,hv⟩:=gf
   refine ar hh (a:=.ref n aq i (j+off)) (.inr (by simp only[R]; exact⟨aq,rfl,hv⟩)) (rd:=[]) ?_ h
   simp only[aM,e,hq]; exact aE.pure _
  ·rename_i off m e0 j hf he
   obtain⟨q,hq,_⟩:=hQ.NR hf
   rw[he]at hx
   have gf:=hx.live rfl
   simp only[R]at gf
   obtain⟨e',e,hv⟩:=gf
   refine ar hh (a:=.bc e' (j+off)) (.inr (by simp only[R]; exact⟨e',rfl,hv.1,hv.2⟩)) (rd:=[]) ?_ h
   simp only[aM,e,hq]; exact aE.pure _
  ·rename_i off m v aW len i hf he
   obtain⟨q,hq,_⟩:=hQ.NR hf
   rw[he]at hx
   have gf:=hx.live rfl
   simp only[R]at gf
   obtain⟨a0,h1,h2,h3⟩:=gf
   rcases h3 with ⟨n,aq,k,j,rfl,e⟩|⟨e',j,rfl,e⟩
   ·refine ar hh (a:=.ref n aq k (j+i*aW+off)) (.inr (by simp only[R]; exact⟨.ref n aq k (j+off),qG h1 (.inl ⟨_,_,_,_,rfl,rfl⟩),h2,.inl ⟨_,_,_,_,rfl,by rw[Nat.add_right_comm]⟩⟩)) (rd:=[]) ?_ h
    simp only[aM,e,hq]; exact aE.pure _
   ·refine ar hh (a:=.bc e' (j+i*aW+off)) (.inr (by simp only[R]; exact⟨.bc e' (j+off),qG h1 (.inr ⟨_,_,rfl,rfl⟩),h2,.inr ⟨_,_,rfl,by rw[Nat.add_right_comm]⟩⟩)) (rd:=[]) ?_ h
    simp only[aM,e,hq]; exact aE.pure _
  ·simp[Tr.run]at h
 |field s x f=>
  simp only at h
  have hx:=bA x
  split at h
  ·rename_i off m l hf he
   obtain⟨q,hq,dR,gE⟩:=hQ.NR hf
   rw[he]at hx
   have gf:=hx.live rfl
   obtain⟨v,hv,hk⟩:=lX h
   rw[←dR,←gE]at hv
   obtain⟨c,hc,hr⟩:=R.part gf hv
   simp only[R]at gf
   obtain⟨l',e,_⟩:=gf
   refine ar hh (.inr hr) (rd:=[]) ?_ hk
   rw[e]at hc
   simp only[aM,e,hq,hc]; exact aE.pure _
  ·simp[Tr.run]at h
 |indexAddr t x ix=>
  simp only at h
  obtain⟨v,b,hb,hv,hk⟩:=zg hT hQ hh (bA x) (bA ix) h
  refine ar hh hv (rd:=[]) ?_ hk
  simp only[aM,hb]
  exact aE.pure _
 |index t x ix=>
  simp only at h
  obtain⟨v,b,hb,hv,hk⟩:=Ie hQ (bA x) (bA ix) h
  refine ar hh hv (rd:=[]) ?_ hk
  simp only[aM,hb]
  exact aE.pure _
 |makeMap t x=>
  simp only at h
  have ho:K7 T H (x.map ev) (x.map Ej):=by
   cases x with
   |none=>trivial
   |some o=>exact bA o
  have:=Du (T:=T) hQ hh hn ho h
  exact this
 |lookup t x ix c=>
  simp only at h
  exact FF hT hQ hZ hh (bA x) (bA ix) h
 |mapUpdate t x k v=>
  simp only at h
  exact zj hT hQ hh (bA x) (bA k) (bA v) h
 |extract t ix=>
  simp only at h
  have hx:=bA t
  split at h
  ·rename_i l he
   rw[he]at hx
   have gf:=hx.live rfl
   simp only[R]at gf
   obtain⟨l',e,hl⟩:=gf
   obtain⟨v,hv,hk⟩:=lX h
   obtain⟨b,hb,hr⟩:=aw.get (aQ.1 hl) hv
   refine ar hh (.inr hr) (rd:=[]) ?_ hk
   simp only[aM,e,hb]; exact aE.pure _
  ·simp[Tr.run]at h
 |call c=>
  obtain⟨callee,args,mj⟩:=c
  cases callee with
  |builtin b=>exact Ds hT hQ hh hn (jk bA args.toList) h
  |_=>simp[Tr.run]at h
 |_=>simp[Tr.run]at h
end
end Go.PI
end
section
/- PS, part K: by value, frozen, and calls of which an answer is known. -/
namespace Go.PI
variable {T:dk}{ρ:Type}
def O4(T:dk)(v:TV T.den)(a:AV):Prop:=
 match v with
 |⟨.v t,x⟩=>T.rp t x a
 |⟨.l t,l⟩=>∃ l',a=.sl l'∧aw (T.rp t) l l'
 |⟨.m _ _,_⟩=>False
theorem SR(hT:T.Ok){v:TV T.den}{a:AV}(h:O4 T v a)(H:ah T.den):R T H (Sy T v) a:=by
 obtain⟨t,x⟩:=v
 cases t with
 |v t=>exact hT.up _ _ _ H h
 |l t=>
  obtain⟨l',rfl,hl⟩:=h
  simp only[Sy,R]
  exact .inl ⟨l',rfl,hl⟩
 |m kk t=>exact h.elim
theorem Lg[ab](hT:T.Ok)(H:ah T.den):∀ {l:List (TV T.den)} {m:List AV},aw (O4 T) l m→RL T H (Qa T l) m
 |[],[],_=>by simp[Qa,RL]
 |v::vs,a::as,h=>by
  simp only[Qa,List.map_cons,RL]
  exact⟨SR hT h.1 H,Lg hT H h.2⟩
 |[],_::_,h=>h.elim
 |_::_,[],h=>h.elim
theorem G1{H:ah T.den}{l:List (SV T.den)}{m:List AV}(h:RL T H l m):R T H (qS l) (cB m):=by
 match l,m,h with
 |[],[],h=>simp_all[qS,cB,R]
 |[x],[y],h=>simp only[RL]at h; exact h.1
 |x::x'::xs,y::y'::ys,h=>simp_all[qS,cB,R]
 |[],_::_,h=>simp[RL]at h
 |_::_,[],h=>simp[RL]at h
 |[x],_::_::_,h=>simp[RL]at h
 |_::_::_,[y],h=>simp[RL]at h
theorem FH(hT:T.Ok){H:ah T.den}{ts:List Nat}:∀ {l:List (SV T.den)} {m:List AV} {xs:List (TV T.den)},RL T H l m→HX T ts l=some xs→aw (O4 T) xs m:=by
 induction ts with
 |nil=>
  intro l m xs hr h
  cases l with
  |cons=>simp[HX]at h
  |nil=>
   cases m with
   |cons=>simp[RL]at hr
   |nil=>
    simp[HX]at h
    subst h
    trivial
 |cons t ts ih=>
  intro l m xs hr h
  cases l with
  |nil=>simp[HX]at h
  |cons v vs=>
   cases m with
   |nil=>simp[RL]at hr
   |cons a as=>
    simp only[RL]at hr
    simp only[HX,Option.bind_eq_some_iff,Option.map_eq_some_iff]at h
    obtain⟨x,h1,ys,h2,rfl⟩:=h
    exact⟨hT.dn _ _ _ _ H h1 hr.1,ih hr.2 h2⟩
theorem G2{den:Nat→Type}{v:TV den}{t:VT}{x:t.den den}(h:v.as t=some x):v=⟨t,x⟩:=by
 obtain⟨t',y⟩:=v
 unfold TV.as at h
 split at h
 ·grind
 ·simp at h
theorem oy[ab]{den:Nat→Type}:∀ (ts:List VT) (l:List (TV den)) (x:HL den ts),uK ts l=some x→fU ts x=l
 |[],l,x,h=>by
  cases l with
  |nil=>rfl
  |cons=>cases h
 |[t],l,x,h=>by
  match l,h with
  |[v],h=>
   have h':v.as t=some x:=h
   rw[G2 h']; rfl
  |[],h=>cases h
  |_::_::_,h=>cases h
 |t::u::us,l,x,h=>by
  match l,h with
  |[],h=>cases h
  |v::l',h=>
   change VT.den den t×HL den (u::us) at x
   have h':((v.as t).bind fun x=>(uK (u::us) l').map fun y=>(x,y))=some x:=h
   obtain⟨a,h1,h2⟩:=Option.bind_eq_some_iff.1 h'
   obtain⟨b,h3,h4⟩:=Option.map_eq_some_iff.1 h2
   subst h4
   have:=oy _ _ _ h3
   rw[G2 h1,←this]
   rfl
noncomputable def Lh[ab](C:Ctx)(g:FuncId)(as:List AV):Option (AV×ag):=
 match C.kn g with
 |some h=>(h as).map fun r=>(r,[])
 |none=>match kp C g as [] with
  |some (.val v,gZ)=>some (v,gZ)
  |_=>none
noncomputable def SS[ab](C:Ctx)(g:FuncId)(as:List AV):Option (AV×ag):=
 match C.iU g with
 |some h=>h as
 |none=>match kp C g as [] with
  |some (.val v,gZ)=>some (v,gZ)
  |_=>none
structure G3[ab](C:Ctx)(T:dk)(g:FuncId)(σ:vV T):Prop where
 Rh:∀ (x:HL T.den (σ.args.map .v)) (as:List AV) (l:List (T.den σ.el)),aw (O4 T) (fU _ x) as→σ.fn x=some l →
  ∃ n cl es gZ,SS C g as=some (.bp σ.esz n es.length 0 es.length none,gZ)∧gZ[n]?=some (some (.arr true cl false es))∧es.all flat=true∧aw (T.rp σ.el) l es
structure p6[ab](C:Ctx)(T:dk)(g:FuncId)(σ:uM T):Prop where
 kind:C.kind g=.pure
 Rh:∀ (x:HL T.den (σ.args.map .v)) (as:List AV) (y:HL T.den (σ.res.map .v)),aw (O4 T) (fU _ x) as→σ.fn x=some y →
  ∃ v gZ l,Lh C g as=some (v,gZ)∧(aX 1000 v).run gZ=some (cB l)∧kh (cB l)=true∧aw (O4 T) (fU _ y) l
section
variable {H:ah T.den}{hp:ag}{r:ρ}
theorem G4[ab](hT:T.Ok){C:Ctx}{g:FuncId}{σ:vV T}(hσ:G3 C T g σ)(hh:RH T H hp){nm:Nat}(hn:nm=H.length∨H[nm]?=some none){args:List (SV T.den)}{as:List AV}(ha:RL T H args as){K:EK T ρ}
  (h:(NK T σ nm H args K).run=some r) :
  ∃ v wr rd e lg,EB C nm g as hp=some (e,lg)∧(∀ n,n∈lg→n∈rd)∧RE T H hp v wr e∧(K v wr rd).run=some r:=by
 unfold NK at h
 obtain⟨nW,rd,Ua,h1,h2,_,_,h⟩:=qI hh ha h
 split at h
 case h_2=>simp[Tr.run]at h
 rename_i x hx
 rw[Option.bind_eq_some_iff]at hx
 obtain⟨l,hl,hx⟩:=hx
 obtain⟨y,hy,h⟩:=bind_some h
 have Ei:=FH hT h2 hl
 rw[←oy _ _ _ hx]at Ei
 obtain⟨n,cl,es,gZ,oY,yR,HV,cy⟩:=hσ.Rh x Ua y Ei hy
 have hlen:y.length=es.length:=aw.length cy
 have EF:(fN nm (.bp σ.esz n es.length 0 es.length none) gZ).run hp=some ⟨.bp σ.esz nm es.length 0 es.length none,[(nm,.arr true true false es)]⟩:=by
  simp only[fN,yR,HV,decide_true,Bool.and_self]
  rfl
 have hA:EB C nm g as hp=some (⟨.bp σ.esz nm es.length 0 es.length none,[(nm,.arr true true false es)]⟩,(aK 1000 as).log hp):=by
  unfold EB
  rw[h1.1]
  simp only[Option.bind_some]
  unfold SS at oY
  cases hi:C.iU g with
  |some f=>
   simp_all
  |none=>
   rw[hi]at oY
   simp only at oY
   split at oY
   case h_2=>simp at oY
   rename_i v0 SU aV
   simp only[Option.some.injEq,Prod.mk.injEq]at oY
   obtain⟨rfl,rfl⟩:=oY
   simp only[aV,Option.bind_some,pn,EF,Option.map_some]
 have hg:iI T H hp (RM.ret (⟨.bp σ.esz nm es.length 0 es.length none,[(nm,.arr true true false es)]⟩:dg)) (fun v wr _=>K v wr rd) r:=by
  have hv:=eA hh hn (o:=.bX true false 0 σ.el y)
  simp only[aD.cur,aD.len,hlen]at hv
  refine eu hh hn (o:=.bX true false 0 σ.el y) ⟨es,rfl,cy⟩ ?_ (aE.ret _) h
  right
  simp only[R]
  exact⟨es.length,hv,rfl⟩
 obtain⟨v,wr,rd',e,g1,g2,g3⟩:=hg
 have he:e=⟨.bp σ.esz nm es.length 0 es.length none,[(nm,.arr true true false es)]⟩:=by
  have:=g1.1
  simp only[RM.run,Option.some.injEq]at this
  exact this.symm
 subst he
 exact⟨v,wr,rd,_,_,hA,h1.2,g2,g3⟩
theorem wS[ab](hT:T.Ok){C:Ctx}{g:FuncId}{σ:uM T}(hσ:p6 C T g σ)(hh:RH T H hp){args:List (SV T.den)}{as:List AV}(ha:RL T H args as){K:EK T ρ}(h:(H2 T σ H args K).run=some r):
  ∃ v wr rd a w lg,Jt C g as hp=some (.val a,w)∧(∀ nm,pt C nm false hp (g,as)=some (⟨a,w⟩,lg))∧(∀ n,n∈lg→n∈rd)∧RE T H hp v wr ⟨a,w⟩∧(K v wr rd).run=some r:=by
 unfold H2 at h
 obtain⟨nW,rd,Ua,h1,h2,_,_,h⟩:=qI hh ha h
 split at h
 case h_2=>simp[Tr.run]at h
 rename_i x hx
 rw[Option.bind_eq_some_iff]at hx
 obtain⟨l,hl,hx⟩:=hx
 obtain⟨y,hy,h⟩:=bind_some h
 have Ei:=FH hT h2 hl
 rw[←oy _ _ _ hx]at Ei
 obtain⟨v,gZ,m,oY,lE,P0,cy⟩:=hσ.Rh x Ua y Ei hy
 have hR:∀ H,R T H (qS (Qa T (fU _ y))) (cB m):=fun H=>G1 (Lg hT H cy)
 have HV:vU (qS (Qa T (fU _ y)))=flat (cB m):=R.flat (hR H) P0
 have O5:∀ w,nq hp as (.val v,gZ)=some (.val (cB m),w)→Jt C g as hp=some (.val (cB m),w)∧(∀ nm,pt C nm false hp (g,as)=some (⟨cB m,w⟩,JA hp as (.val v,gZ))):=by
  intro w hw
  unfold Lh at oY
  cases hi:C.kn g with
  |some f=>
   rw[hi]at oY
   simp only[Option.map_eq_some_iff,Prod.mk.injEq]at oY
   obtain⟨r0,D9,rfl,rfl⟩:=oY
   constructor
   ·rw[Hp g hi,h1.1]
    simp only[Option.bind_some,D9,hw]
   ·intro nm; simp only[pt,hσ.kind,hi,h1.1,Option.bind_some,D9,nu,hw]
  |none=>
   rw[hi]at oY
   simp only at oY
   split at oY
   case h_2=>simp at oY
   rename_i v0 SU aV
   simp only[Option.some.injEq,Prod.mk.injEq]at oY
   obtain⟨rfl,rfl⟩:=oY
   constructor
   ·rw[MT g hi,h1.1]
    simp only[Option.bind_some,aV,hw]
   ·intro nm; simp only[pt,hσ.kind,hi,h1.1,Option.bind_some,aV,nu,hw]
 simp only at h
 split at h
 ·rename_i hf
  rw[HV]at hf
  have wu:nq hp as (.val v,gZ)=some (.val (cB m),[]):=by
   rw[zT,lE]
   simp only[Option.bind_some,M5,hf,cond_true]
  obtain⟨q1,q2⟩:=O5 _ wu
  refine⟨_,[],_,_,_,_,q1,q2,fun n hn=>?_,⟨.inr (hR _),hh,dm.refl _,fun q hq=>by simp at hq,fun _ _ _=>rfl,Nat.le_refl _,fun _ _ h=>by simp at h⟩,h⟩
  simp only[JA,List.mem_append,gg,lE,hf,if_true]at hn
  rcases hn with hn|hn
  ·exact h1.2 n hn
  ·simp[Pure.pure,RM.log]at hn
 ·rename_i hf
  rw[HV]at hf
  obtain⟨wr,rd2,w,f1,f2,h⟩:=lY hh h
  rw[RL.names ha]at f1
  have wu:nq hp as (.val v,gZ)=some (.val (cB m),w):=by
   rw[zT,lE]
   simp only[Option.bind_some,M5,hf,cond_false,f1.1,Option.map_some]
  obtain⟨q1,q2⟩:=O5 _ wu
  refine⟨_,_,_,_,_,_,q1,q2,fun n hn=>?_,FW.re hh f2 hR,h⟩
  simp only[JA,List.mem_append,gg,lE,hf,Bool.false_eq_true,if_false]at hn
  simp only[List.mem_append]
  rcases hn with hn|hn
  ·exact .inl (h1.2 n hn)
  ·rw[RM.eh,f1.1]at hn
   simp only[List.mem_append]at hn
   rcases hn with hn|hn
   ·exact .inr (f1.2 n hn)
   ·simp[Pure.pure,RM.log]at hn
end
end Go.PI
end
section
/- PS, part L: states, regions. -/
namespace Go.PI
variable {T:dk}{ρ:Type}
theorem Dw{v:Value}{K:Value→Tr ρ}:x7 v K=K v:=by
 unfold x7
 split<;>rfl
mutual
theorem k9:∀ {v:SV T.den} {K:SV T.den→Tr ρ},dw v K=K v
 |.lit v,K=>by simp only[dw]; exact Dw
 |.agg l,K=>by simp only[dw]; exact iL
 |.jn l,K=>by simp only[dw]; exact iL
 |.sl l,K=>by simp only[dw]; exact iL
 |.bc e j,K=>by simp only[dw]; exact k9
 |.iQ fn f c,K=>by simp only[dw]; rw[iL,iL]
 |.fL t v,K=>by simp only[dw]; exact k9
 |.dead,K=>by simp only[dw]
 |.hole,K=>by simp only[dw]
 |.jd t l,K=>by simp only[dw]
 |.ref n c i j,K=>by simp only[dw]
 |.im n c i j ln cp,K=>by simp only[dw]
 |.bp esz n c rg cap,K=>by simp only[dw]
 |.mp y n,K=>by simp only[dw]
 |.wC t l c b,K=>by simp only[dw]
 |.nz,K=>by simp only[dw]
 |.rW v s l i,K=>by simp only[dw]; exact k9
theorem iL:∀ {l:List (SV T.den)} {K:List (SV T.den)→Tr ρ},lO l K=K l
 |[],K=>by simp only[lO]
 |x::xs,K=>by simp only[lO]; rw[k9,iL]
end
theorem Ig[ab]{o:aD T.den}{K:aD T.den→Tr ρ}:KV o K=K o:=by
 cases o with
 |arr g cl f c es=>exact iL
 |oU fn ps as bd fr=>exact iL
 |_=>rfl
theorem jJ[ab]:∀ {H:ah T.den} {K:ah T.den→Tr ρ},mT H K=K H
 |[],K=>rfl
 |none::r,K=>by simp only[mT]; exact jJ
 |some o::r,K=>by simp only[mT]; rw[Ig,jJ]
theorem nK:∀ {l:List Nat} {K:List Nat→Tr ρ},sb l K=K l
 |[],K=>rfl
 |x::r,K=>by simp only[sb]; exact nK
theorem Ao[ab]:∀ {l:sG T.den} {K:sG T.den→Tr ρ},Bs l K=K l
 |[],K=>rfl
 |(d,v)::r,K=>by simp only[Bs]; rw[k9,Ao]
theorem force_eq[ab]{s:bw T.den}{K:bw T.den→Tr ρ}:s.force K=K s:=by
 obtain⟨fn,n,fr,hp,wf,wh,js⟩:=s
 simp only[bw.force]
 rw[Ao,jJ,nK,nK]
theorem cD[ab]{s:bw T.den}{dst:Option Tmp}{v:SV T.den}{wr:List (Nat×aD T.den)}{K:bw T.den→Tr ρ}:s.fe dst v wr K=K (s.step dst v wr):=by
 obtain⟨fn,n,fr,hp,wf,wh,js⟩:=s
 have h1:∀ {K':ah T.den→List Nat→Tr ρ},Fx hp wh wr K'=K' (aN hp wr) (wr.map (·.1)++wh):=by
  intro K'
  cases wr with
  |nil=>rfl
  |cons w r=>simp only[Fx]; rw[jJ,nK]
 simp only[bw.fe,h1]
 cases dst with
 |none=>rfl
 |some d=>
  simp only
  split
  ·rename_i hd
   simp only[bw.step,KO,tA,hd,NJ]
  ·rename_i hd
   rw[k9]
   simp only[bw.step,KO,tA,hd,NJ]
theorem qJ{ops:Array Oper}:∀ {l:List Oper} {K:List (G×Oper)→Tr ρ},oh ops l K=K (l.map fun o=>(eQ ops o,o))
 |[],K=>rfl
 |o::r,K=>by
  simp only[oh,List.map_cons]
  split<;>rename_i h<;>rw[qJ,h]
theorem Ap:∀ {l:List (G×Item)} {K:List (G×Item)→Tr ρ},x9 l K=K l
 |[],K=>rfl
 |(g,⟨i,nm,o⟩)::r,K=>by simp only[x9]; exact Ap
theorem ru[ab]{ops:Array Oper}:∀ (l:List Oper) (m i n:Nat),lQ (bD i n (l.take m)) (l.map fun o=>(eQ ops o,o))=(bD i n (l.take m)).map fun x=>(eQ ops x.o,x)
 |[],m,i,n=>by simp[bD,lQ]
 |o::r,0,i,n=>by simp[bD,lQ]
 |o::r,m+1,i,n=>by
  simp only[List.take_succ_cons,bD,List.map_cons,lQ]
  rw[ru]
def kz{den:Nat→Type}(js:List (Nat×kW))(H:ah den)(hp:ag):Prop:=∀ n st,cr js n=some st→recAt H n=true∧ia hp n=some st
theorem jl{den:Nat→Type}{H:ah den}{n:Nat}(h:recAt H n=true):n<H.length:=by
 grind[recAt]
theorem p7{den:Nat→Type}{H H':ah den}{n:Nat}(h:H'[n]?=H[n]?):recAt H' n=recAt H n:=by unfold recAt; rw[h]
theorem nL{hp cm:ag}{n:Nat}(h:cm[n]?=hp[n]?):ia cm n=ia hp n:=by unfold ia; rw[h]
theorem kz.zd{den:Nat→Type}{js:List (Nat×kW)}{H H':ah den}{hp cm:ag}(h:kz js H hp)(hk:∀ n,recAt H n=true→H'[n]?=H[n]?∧cm[n]?=hp[n]?):kz js H' cm:=by
 intro n st hn
 obtain⟨h1,h2⟩:=h n st hn
 obtain⟨h3,h4⟩:=hk n h1
 exact⟨by rw[p7 h3]; exact h1,by rw[nL h4]; exact h2⟩
theorem tL{n:Nat}:∀ {wr:List (Nat×aI)} {hp:ag},n<hp.length→n∉wr.map (·.1)→(ai hp wr)[n]?=hp[n]?
 |[],hp,_,_=>rfl
 |(m,o)::wr,hp,hn,hm=>by
  simp only[List.map_cons,List.mem_cons,not_or]at hm
  simp only[ai]
  have:n<(setObj hp m o).length∧(setObj hp m o)[n]?=hp[n]?:=by
   grind[setObj]
  rw[tL this.1 hm.2,this.2]
theorem kz.re[ab]{js:List (Nat×kW)}{H:ah T.den}{hp:ag}(h:kz js H hp)(hh:RH T H hp){v:SV T.den}{wr:List (Nat×aD T.den)}{e:dg}(he:RE T H hp v wr e):kz js (aN H wr) (ai hp e.wr):=by
 refine h.zd fun n hn=>⟨he.zd n (he.Dh n hn) (jl hn),tL (by rw[←hh.length]; exact jl hn) fun hc=>?_⟩
 obtain⟨q,hq,rfl⟩:=List.mem_map.1 hc
 exact he.Dh _ hn (he.names q hq)
structure RS(T:dk)(s:bw T.den)(st:St):Prop where
 fn:s.fn=st.fn
 n:st.fr.length=s.n
 fr:∀ t,RV T s.hp (cH s.fr t) (st.fr.getD t .undef)
 hp:RH T s.hp st.hp
 js:kz s.js s.hp st.hp
structure bj(s s':bw T.den):Prop where
 fn:s'.fn=s.fn
 n:s'.n=s.n
 fr:∀ t,t∉s'.wf→cH s'.fr t=cH s.fr t
 wf:∀ t,t∈s.wf→t∈s'.wf
 hp:∀ n:Nat,n<s.hp.length→n∉s'.wh→s'.hp[n]?=s.hp[n]?
 wh:∀ n,n∈s.wh→n∈s'.wh
 len:s.hp.length≤s'.hp.length
 grow:dm s.hp s'.hp
theorem bj.refl[ab](s:bw T.den):bj s s:=⟨rfl,rfl,fun _ _=>rfl,fun _ h=>h,fun _ _ _=>rfl,fun _ h=>h,Nat.le_refl _,dm.refl _⟩
theorem bj.trans[ab]{s s' tT:bw T.den}(h:bj s s')(h':bj s' tT):bj s tT where
 fn:=h'.fn.trans h.fn
 n:=h'.n.trans h.n
 fr:=fun t ht=>by rw[h'.fr t ht,h.fr t (fun hc=>ht (h'.wf t hc))]
 wf:=fun t ht=>h'.wf t (h.wf t ht)
 hp:=fun n hn ht=>by rw[h'.hp n (Nat.lt_of_lt_of_le hn h.len) ht,h.hp n hn (fun hc=>ht (h'.wh n hc))]
 wh:=fun t ht=>h'.wh t (h.wh t ht)
 len:=Nat.le_trans h.len h'.len
 grow:=h.grow.trans h'.grow
theorem ki{n d t:Nat}{fr:sG T.den}{v:SV T.den}:cH (tA n fr d v) t=if t=d∧d<n then v else cH fr t:=by
 unfold tA
 split
 ·rename_i h
  have:=Nat.le_of_ble_eq_true h
  rw[if_neg (by omega)]
 ·rename_i h
  have:¬n≤d:=fun hc=>by rw[Nat.ble_eq_true_of_le hc]at h; simp at h
  simp only[cH]
  split
  ·rename_i he
   have:=Nat.eq_of_beq_eq_true he
   rw[if_pos (by omega)]
  ·rename_i he
   have:¬d=t:=fun hc=>by subst hc; simp at he
   rw[if_neg (by omega)]
theorem Dx{l:List AV}{d t:Nat}{a u:AV}:(l.set d a).getD t u=if t=d∧d<l.length then a else l.getD t u:=by
 grind
theorem RS.step[ab]{s:bw T.den}{st:St}(h:RS T s st){v:SV T.den}{wr:List (Nat×aD T.den)}{e:dg}(he:RE T s.hp st.hp v wr e)(dst:Option Tmp):
  RS T (s.step dst v wr) { st with fr:=bC st.fr dst e.val,hp:=ai st.hp e.wr }∧bj s (s.step dst v wr):=by
 refine⟨⟨h.fn,?_,fun t=>?_,he.hp,h.js.re h.hp he⟩,⟨rfl,rfl,fun t ht=>?_,fun t ht=>?_,fun n hn ht=>?_,fun n hn=>?_,he.len,he.grow⟩⟩
 ·simp only[bw.step,bC]; cases dst<;>simp[h.n]
 ·simp only[bw.step]
  cases dst with
  |none=>exact(h.fr t).mono he.grow
  |some d=>
   simp only[KO,bC]
   rw[ki,Dx,h.n]
   split
   ·exact he.val
   ·exact(h.fr t).mono he.grow
 ·simp only[bw.step]at ht ⊢
  cases dst with
  |none=>rfl
  |some d=>
   simp only[NJ,List.mem_cons,not_or]at ht
   simp only[KO,ki]
   rw[if_neg (by omega)]
 ·simp only[bw.step]
  cases dst with
  |none=>exact ht
  |some d=>exact List.mem_cons_of_mem _ ht
 ·simp only[bw.step,List.mem_append,not_or]at ht ⊢
  exact he.zd n ht.1 hn
 ·simp only[bw.step,List.mem_append]
  exact .inr hn
theorem Dy[ab]{H:ah T.den}{hp:ag}(hh:RH T H hp):RE T H hp (.lit undef) [] ⟨.undef,[]⟩:=
 ⟨bh undef,hh,dm.refl _,fun q h=>by simp at h,fun _ _ _=>rfl,Nat.le_refl _,fun _ _ h=>by simp at h⟩
theorem rz:∀ (c:List Value),av (den:=T.den) (c.map .lit)=true
 |[]=>by simp[av]
 |x::r=>by simp only[List.map_cons,av,aF,rz r,Bool.and_self]
theorem RS.ev[ab]{s:bw T.den}{st:St}(h:RS T s st)(o:Operand):RV T s.hp (cV s.fr o) (az st.fr o):=by
 cases o with
 |tmp t=>exact h.fr t
 |const v=>
  simp only[cV,az,KN,nQ]
  cases v with
  |agg c=>
   simp only
   by_cases hc:c.toList.all (fun v=>ba (.lit v))=true
   ·rw[if_pos hc,if_pos hc]
    right
    simp only[R]
    exact⟨_,rfl,RL.lits _⟩
   ·rw[if_neg hc]
    exact .inl rfl
  |tuple c=>
   right
   simp only[gM,R]
   exact⟨_,rfl,RL.lits _⟩
  |_=>exact bh _
 |global g=>
  simp only[cV,az,BS]
  cases ab.g g with
  |none=>exact bh _
  |some c=>
   right
   simp only[R]
   exact⟨_,rfl,⟨_,rfl,RL.lits _⟩,by simp only[aF]; exact rz _⟩
 |func f=>exact bh _
theorem yu[ab]{g:G}{s:bw T.den}{st:St}(h:RS T s st){K:bw T.den→Bool→Tr ρ}{r:ρ}(hk:(wP g s K).run=some r):
  ∃ s' b,RS T s' st∧bj s s'∧sQ st.fr g=some b∧s'.hp=s.hp∧(K s' b).run=some r:=by
 unfold wP at hk
 split at hk
 ·exact⟨s,true,h,bj.refl _,rfl,rfl,hk⟩
 ·exact⟨s,false,h,bj.refl _,rfl,rfl,hk⟩
 ·rename_i d want
  split at hk
  ·rename_i b hb
   have ha:=(h.fr d).lit hb
   have key:∀ b',b=b'→RS T (s.step (some d) (.lit (.bool b')) []) st∧bj s (s.step (some d) (.lit (.bool b')) []):=by
    rintro b' rfl
    have h1:=h.step (v:=.lit (.bool b)) (wr:=[]) (e:=⟨.lit (.bool b),[]⟩) ⟨bh _,h.hp,dm.refl _,fun q hq=>by simp at hq,fun _ _ _=>rfl,Nat.le_refl _,fun _ _ h=>by simp at h⟩ (some d)
    refine⟨?_,h1.2⟩
    have e:({ st with fr:=bC st.fr (some d) (AV.lit (.bool b)),hp:=ai st.hp [] }:St)=st:=by
     have:st.fr.set d (.lit (.bool b))=st.fr:=by
      by_cases hd:d<st.fr.length
      ·refine gT ?_
       rw[List.getD_eq_getElem?_getD]at ha
       rw[List.getElem?_eq_getElem hd]at ha ⊢
       exact congrArg some ha
      ·exact List.set_eq_of_length_le (Nat.le_of_not_lt hd)
     simp only[bC,ai,this]
    rw[e]at h1
    exact h1.1
   have hw:sQ st.fr (.on d want)=some (b==want):=by simp only[sQ]; rw[ha]; rfl
   rcases fi hk with ⟨Po,EA⟩|⟨Po,EA⟩
   ·subst Po
    rw[cD]at EA
    obtain⟨k1,k2⟩:=key true rfl
    exact⟨_,_,k1,k2,hw,rfl,EA⟩
   ·subst Po
    rw[cD]at EA
    obtain⟨k1,k2⟩:=key false rfl
    exact⟨_,_,k1,k2,hw,rfl,EA⟩
  ·rename_i x hx
   have ha:=(h.fr d).lit hx
   refine⟨s,false,h,bj.refl _,?_,rfl,hk⟩
   simp only[sQ]; rw[ha]; rfl
  ·simp[Tr.run]at hk
theorem p8[ab]{C:Ctx}{step:Oper→bw T.den→(bw T.den→Tr ρ)→Tr ρ}{r:ρ}
  (dH:∀ o s st K,RS T s st→(step o s K).run=some r→∃ s' st',ic C o st=some (.norm st')∧RS T s' st'∧bj s s'∧(K s').run=some r) :
  ∀ (l:List (G×Oper)) (s:bw T.den) (st:St) (K:bw T.den→Tr ρ),RS T s st→(vW step l s K).run=some r→∃ s' st',tb C l st=some (.norm st')∧RS T s' st'∧bj s s'∧(K s').run=some r
 |[],s,st,K,h,hk=>⟨s,st,rfl,h,bj.refl _,hk⟩
 |(g,o)::l,s,st,K,h,hk=>by
  simp only[vW]at hk
  obtain⟨s1,b,h1,h2,h3,_,hk⟩:=yu h hk
  cases b with
  |false=>
   simp only at hk
   rw[cD]at hk
   obtain⟨g1,g2⟩:=h1.step (Dy h1.hp) o.dst
   obtain⟨s',st',i1,i2,i3,hk⟩:=p8 dH l _ _ K g1 hk
   refine⟨s',st',?_,i2,(h2.trans g2).trans i3,hk⟩
   simp only[tb,h3]
   exact i1
  |true=>
   simp only at hk
   obtain⟨s2,N1,g1,g2,g3,hk⟩:=dH o s1 st _ h1 hk
   obtain⟨s',st',i1,i2,i3,hk⟩:=p8 dH l _ _ K g2 hk
   refine⟨s',st',?_,i2,(h2.trans g3).trans i3,hk⟩
   simp only[tb,h3,g1,Option.bind_some]
   exact i1
def BD(a b:fk):Prop:=a.idx=b.idx∧(∀ n,n∈a.rd→n∈b.rd)∧∀ n,n∈a.wr→n∈b.wr
theorem G5{a a' b b':List Nat}(ha:∀ n,n∈a→n∈a')(hb:∀ n,n∈b→n∈b')(h:Ek a' b'=true):Ek a b=true:=by
 grind[decide_eq_false_iff_not,Ek]
theorem Ih[ab]{pr:List Nat}{x x' y y':fk}(hx:BD x x')(hy:BD y y')(h:rD pr x' y'=true):rD pr x y=true:=by
 unfold rD at h ⊢
 rw[hx.1,hy.1]
 simp only[Bool.or_eq_true,Bool.and_eq_true]at h ⊢
 refine h.imp id fun h=>⟨G5 hx.2.2 (fun n hn=>?_) h.1,G5 hy.2.2 hx.2.1 h.2⟩
 simp only[List.mem_append]at hn ⊢
 exact hn.imp (hy.2.1 n) (hy.2.2 n)
theorem yv[ab]{pr:List Nat}:∀ {l l':List fk},aw BD l l'→eO pr l'=true→eO pr l=true
 |[],[],_,_=>rfl
 |x::xs,y::ys,h,hk=>by
  simp only[eO,Bool.and_eq_true]at hk ⊢
  refine⟨?_,yv h.2 hk.2⟩
  rw[List.all_eq_true]at hk ⊢
  intro z hz
  obtain⟨i,hi⟩:=List.getElem?_of_mem hz
  obtain⟨z',RB,hle⟩:=aw.get h.2 hi
  exact Ih h.1 hle (hk.1 z' (List.mem_of_getElem? RB))
theorem BE{pr:List Nat}{fs:List fk}(h:qC pr fs=true):eO pr fs=true:=by
 unfold qC at h
 split at h
 ·rename_i hw
  clear h
  induction fs with
  |nil=>rfl
  |cons x xs ih=>
   simp only[List.all_cons,Bool.and_eq_true]at hw
   simp only[eO,Bool.and_eq_true]
   refine⟨?_,ih hw.2⟩
   rw[List.all_eq_true]
   intro y hy
   have h2:=List.all_eq_true.1 hw.2 y hy
   have e1:x.wr=[]:=by simpa using hw.1
   have e2:y.wr=[]:=by simpa using h2
   simp[rD,e1,e2,Ek]
 ·exact h
def Li[ab]:Nat→List Item→Prop
 |_,[]=>True
 |n,x::r=>x.nm=n∧Li (if au x.o.op then n+1 else n) r
def sw[ab](l:List Item):Nat:=(l.filter fun x=>au x.o.op).length
theorem p9[ab](x:Item)(l:List Item):sw (x::l)=(if au x.o.op then 1 else 0)+sw l:=by
 grind[sw]
theorem yw[ab]:∀ (l:List Oper) (i n:Nat),sw (bD i n l)=(l.filter fun o=>au o.op).length
 |[],_,_=>rfl
 |o::r,i,n=>by
  rw[bD,p9,yw r,List.filter_cons]
  split<;>simp[*]<;>omega
theorem Aq[ab]:∀ (l:List Oper) (i n:Nat),Li n (bD i n l)
 |[],_,_=>trivial
 |_::r,i,n=>⟨rfl,Aq r (i+1) _⟩
theorem tM:∀ {wr:List (Nat×aD T.den)} {H:ah T.den},(∀ q,q∈wr→q.1<H.length)→(aN H wr).length=H.length
 |[],H,_=>rfl
 |(n,o)::wr,H,h=>by
  have h0:=h (n,o) (by simp)
  have e:(bL H n o).length=H.length:=by
   grind[bL]
  simp only[aN]
  rw[tM (fun q hq=>by rw[e]; exact h q (List.mem_cons_of_mem _ hq)),e]
theorem u7[ab]{C:Ctx}{ops:Array Oper}{step:Nat→Oper→bw T.den→EK T ρ→Tr ρ}{r:ρ}
  (dH:∀ nm o s st K,RS T s st→(nm=s.hp.length∨s.hp[nm]?=some none)→(au o.op=false→nm=s.hp.length)→(step nm o s K).run=some r →
    ∃ v wr rd e lg,Cd C nm o st.fr st.hp=some (e,lg)∧(∀ n,n∈lg→n∈rd)∧RE T s.hp st.hp v wr e∧(K v wr rd).run=some r) :
  ∀ (l:List Item) (n:Nat) (s:bw T.den) (st:St) (fs:List fk) (K:bw T.den→List fk→Tr ρ),Li n l→n+sw l=s.hp.length→(∀ m:Nat,n≤m→m<s.hp.length→s.hp[m]?=some none)→RS T s st →
    (sh step (l.map fun x=>(eQ ops x.o,x)) s fs K).run=some r →
    ∃ s' st' Qx M9,sW C ops l st=some (st',M9)∧aw BD M9 Qx∧RS T s' st'∧bj s s'∧(K s' (fs++Qx)).run=some r
 |[],n,s,st,fs,K,_,_,_,h,hk=>⟨s,st,[],[],rfl,trivial,h,bj.refl _,by simpa[sh] using hk⟩
 |x::l,n,s,st,fs,K,hn,hle,nj,h,hk=>by
  obtain⟨Uh,Ml⟩:=hn
  simp only[List.map_cons,sh]at hk
  obtain⟨s1,b,h1,h2,h3,h4,hk⟩:=yu h hk
  have hw:cF ops st.fr x.o=some b:=by rw[BV]; exact h3
  cases b with
  |false=>
   simp only at hk
   rw[cD]at hk
   obtain⟨g1,g2⟩:=h1.step (Dy h1.hp) x.o.dst
   have ehp:(s1.step x.o.dst (.lit undef) []).hp=s.hp:=by simp only[bw.step,aN]; exact h4
   have hinv:∀ m:Nat,(if au x.o.op then n+1 else n)≤m→m<(s1.step x.o.dst (.lit undef) []).hp.length→(s1.step x.o.dst (.lit undef) []).hp[m]?=some none:=by
    grind
   have hb:(if au x.o.op then n+1 else n)+sw l=s.hp.length:=by
    rw[p9]at hle; split<;>simp_all<;>omega
   ·obtain⟨s',st',Qx,M9,i1,i2,i3,i4,hk⟩:=u7 dH l _ _ _ _ K Ml (by rw[ehp]; exact hb) hinv g1 hk
    refine⟨s',st',⟨x.idx,[],[]⟩::Qx,⟨x.idx,[],[]⟩::M9,?_,⟨⟨rfl,fun _ h=>h,fun _ h=>h⟩,i2⟩,i3,(h2.trans g2).trans i4,by simpa using hk⟩
    simp only[sW,Ce,hw,Option.bind_some]
    have Wi:sW C ops l { st with fr:=bC st.fr x.o.dst .undef }=some (st',M9):=i1
    rw[Wi]; rfl
  |true=>
   simp only at hk
   have mZ:x.at s1.hp.length=s1.hp.length∨s1.hp[x.at s1.hp.length]?=some none:=by
    grind[Item.at]
   obtain⟨v,wr,rd,e,lg,e1,e2,e3,hk⟩:=dH (x.at s1.hp.length) x.o s1 st _ h1 mZ (fun h=>by simp only[Item.at,h]) hk
   rw[show s1.hp.length=st.hp.length from h1.hp.length]at e1
   split at hk
   case h_2=>simp[Tr.run]at hk
   rename_i HH
   rw[List.all_eq_true]at HH
   rw[cD]at hk
   obtain⟨g1,g2⟩:=h1.step e3 x.o.dst
   have bf:∀ q,q∈wr→q.1<s1.hp.length∧((au x.o.op=true∧q.1=x.nm)∨∃ o,s1.hp[q.1]?=some (some o)):=by
    grind
   have SW:(s1.step x.o.dst v wr).hp.length=s.hp.length:=by
    simp only[bw.step]
    rw[tM (fun q hq=>(bf q hq).1),h4]
   have hinv:∀ m:Nat,(if au x.o.op then n+1 else n)≤m→m<(s1.step x.o.dst v wr).hp.length→(s1.step x.o.dst v wr).hp[m]?=some none:=by
    intro m hm IL
    rw[SW]at IL
    have hold:s1.hp[m]?=some none:=by rw[h4]; exact nj m (by split at hm<;>omega) IL
    simp only[bw.step]
    rw[e3.zd m ?_ (by rw[h4]; exact IL)]
    ·exact hold
    ·grind
   have hb:(if au x.o.op then n+1 else n)+sw l=s.hp.length:=by
    rw[p9]at hle; split<;>simp_all<;>omega
   ·obtain⟨s',st',Qx,M9,i1,i2,i3,i4,hk⟩:=u7 dH l _ _ _ _ K Ml (by rw[SW]; exact hb) hinv g1 hk
    refine⟨s',st',⟨x.idx,rd,wr.map (·.1)⟩::Qx,⟨x.idx,lg,e.wr.map (·.1)⟩::M9,?_,⟨⟨rfl,e2,fun n hn=>?_⟩,i2⟩,i3,(h2.trans g2).trans i4,by simpa using hk⟩
    ·simp only[sW,Ce,hw,e1,Option.bind_some,Pv]
     rw[if_pos ?_]
     ·simp_all
     ·rw[List.all_eq_true]
      intro q hq
      obtain⟨q',hq',eq'⟩:=List.mem_map.1 (e3.names q hq)
      obtain⟨c1,c2⟩:=bf q' hq'
      rw[eq']at c1 c2
      simp only[Bool.and_eq_true,decide_eq_true_eq,Bool.or_eq_true]
      refine⟨by rw[←h1.hp.length]; exact c1,c2.imp id fun⟨o,ho⟩=>?_⟩
      obtain⟨a,ha,_⟩:=h1.hp.obj ho
      rw[ha]
    ·obtain⟨q,hq,rfl⟩:=List.mem_map.1 hn
     exact e3.names q hq
end Go.PI
end
section
/- PS, part M: what is dropped; results; calls of what is looked into. -/
namespace Go.PI
variable {T:dk}{ρ:Type}
section
variable {den:Nat→Type}{n:Nat}
mutual
theorem kV:∀ {v:SV den},aF v=true→bt n v=true
 |.dead,h=>by simp[aF]at h
 |.hole,h=>by simp[aF]at h
 |.lit v,h=>rfl
 |.agg l,h=>by simp only[aF]at h; simp only[bt]; exact dZ h
 |.jn l,h=>by simp only[aF]at h; simp only[bt]; exact dZ h
 |.sl l,h=>rfl
 |.jd t l,h=>rfl
 |.wC t l c b,h=>rfl
 |.nz,h=>rfl
 |.bc e j,h=>rfl
 |.ref ..,h=>by simp[aF]at h
 |.im ..,h=>by simp[aF]at h
 |.bp ..,h=>by simp[aF]at h
 |.iQ fn f c,h=>by
  simp only[aF,Bool.and_eq_true]at h
  simp only[bt,Bool.and_eq_true]
  exact⟨dZ h.1,dZ h.2⟩
 |.fL t v,h=>by simp only[aF]at h; simp only[bt]; exact kV h
 |.rW v s l i,h=>by simp only[aF]at h; simp only[bt]; exact kV h
 |.mp ..,h=>by simp[aF]at h
theorem dZ:∀ {l:List (SV den)},av l=true→gu n l=true
 |[],_=>rfl
 |x::xs,h=>by
  simp only[av,Bool.and_eq_true]at h
  simp only[gu,Bool.and_eq_true]
  exact⟨kV h.1,dZ h.2⟩
end
end
section
variable {H:ah T.den}{hp:ag}{n:Nat}
theorem fJ.take{den:Nat→Type}{H:ah den}{m c aq:Nat}(h:fJ H m c aq)(hm:m<n):fJ (H.take n) m c aq:=by
 obtain⟨o,h1,h2,h3⟩:=h
 exact⟨o,by rw[List.getElem?_take_of_lt hm]; exact h1,h2,h3⟩
mutual
theorem R.take:∀ {v:SV T.den} {a:AV},R T H v a→bt n v=true→R T (H.take n) v a
 |.dead,_,h,_=>by simp[R]at h
 |.hole,_,h,_=>by simpa[R] using h
 |.lit v,a,h,_=>by simpa[R] using h
 |.agg l,a,h,hb=>by
  simp only[R]at h ⊢
  simp only[bt]at hb
  obtain⟨l',h1,h2⟩:=h
  exact⟨l',h1,RL.take h2 hb⟩
 |.jn l,a,h,hb=>by
  simp only[R]at h ⊢
  simp only[bt]at hb
  obtain⟨l',h1,h2⟩:=h
  exact⟨l',h1,RL.take h2 hb⟩
 |.sl l,a,h,_=>by
  simp only[R]at h ⊢
  obtain⟨l',h1,h2,h3⟩:=h
  exact⟨l',h1,RL.take h2 (dZ h3),h3⟩
 |.jd t l,a,h,_=>by simpa[R] using h
 |.wC t l c b,a,h,_=>by simp only[R]at h ⊢; exact h
 |.nz,a,h,_=>by simp only[R]at h ⊢; exact h
 |.bc e j,a,h,_=>by
  simp only[R]at h ⊢
  obtain⟨e',h1,h2,h3⟩:=h
  exact⟨e',h1,R.take h2 (kV h3),h3⟩
 |.ref m c i j,a,h,hb=>by
  simp only[R]at h ⊢
  simp only[bt,decide_eq_true_eq]at hb
  obtain⟨aq,h1,h2⟩:=h
  exact⟨aq,h1,h2.take hb⟩
 |.im m c i j ln cp,a,h,hb=>by
  simp only[R]at h ⊢
  simp only[bt,decide_eq_true_eq]at hb
  obtain⟨aq,h1,h2⟩:=h
  exact⟨aq,h1,h2.take hb⟩
 |.bp esz m c rg cap,a,h,hb=>by
  simp only[R]at h ⊢
  simp only[bt,decide_eq_true_eq]at hb
  obtain⟨aq,h1,h2⟩:=h
  exact⟨aq,h1.take hb,h2⟩
 |.iQ fn f c,a,h,hb=>by
  simp only[R]at h ⊢
  simp only[bt,Bool.and_eq_true]at hb
  obtain⟨f',c',h1,h2,h3⟩:=h
  exact⟨f',c',h1,RL.take h2 hb.1,RL.take h3 hb.2⟩
 |.fL t v,a,h,hb=>by
  simp only[R]at h ⊢
  simp only[bt]at hb
  obtain⟨v',h1,h2⟩:=h
  exact⟨v',h1,R.take h2 hb⟩
 |.mp y m,a,h,hb=>by
  simp_all[R,bt]
 |.rW v s l i,a,h,hb=>by
  simp only[R]at h ⊢
  simp only[bt]at hb
  obtain⟨a0,h1,h2⟩:=h
  exact⟨a0,R.take h1 hb,h2⟩
theorem RL.take:∀ {l:List (SV T.den)} {m:List AV},RL T H l m→gu n l=true→RL T (H.take n) l m
 |[],[],_,_=>by simp[RL]
 |x::xs,y::ys,h,hb=>by
  simp only[RL]at h ⊢
  simp only[gu,Bool.and_eq_true]at hb
  exact⟨R.take h.1 hb.1,RL.take h.2 hb.2⟩
 |[],_::_,h,_=>by simp[RL]at h
 |_::_,[],h,_=>by simp[RL]at h
end
theorem fJ.lt{den:Nat→Type}{H:ah den}{m c aq:Nat}(h:fJ H m c aq):m<H.length:=by
 obtain⟨o,h1,_⟩:=h
 exact(List.getElem?_eq_some_iff.1 h1).1
mutual
theorem R.lt:∀ {v:SV T.den} {a:AV},R T H v a→bt H.length v=true
 |.dead,_,h=>by simp[R]at h
 |.hole,_,h=>rfl
 |.lit v,a,h=>rfl
 |.agg l,a,h=>by
  simp only[R]at h
  simp only[bt]
  obtain⟨l',h1,h2⟩:=h
  exact RL.lt h2
 |.jn l,a,h=>by
  simp only[R]at h
  simp only[bt]
  obtain⟨l',h1,h2⟩:=h
  exact RL.lt h2
 |.sl l,a,h=>rfl
 |.jd t l,a,h=>rfl
 |.wC t l c b,a,h=>rfl
 |.nz,a,h=>rfl
 |.bc e j,a,h=>rfl
 |.ref m c i j,a,h=>by
  simp only[R]at h
  simp only[bt,decide_eq_true_eq]
  obtain⟨aq,h1,h2⟩:=h
  exact h2.lt
 |.im m c i j ln cp,a,h=>by
  simp only[R]at h
  simp only[bt,decide_eq_true_eq]
  obtain⟨aq,h1,h2⟩:=h
  exact h2.lt
 |.bp esz m c rg cap,a,h=>by
  simp only[R]at h
  simp only[bt,decide_eq_true_eq]
  obtain⟨aq,h1,h2⟩:=h
  exact h1.lt
 |.iQ fn f c,a,h=>by
  simp only[R]at h
  simp only[bt,Bool.and_eq_true]
  obtain⟨f',c',h1,h2,h3⟩:=h
  exact⟨RL.lt h2,RL.lt h3⟩
 |.fL t v,a,h=>by
  simp only[R]at h
  simp only[bt]
  obtain⟨v',h1,h2⟩:=h
  exact R.lt h2
 |.mp y m,a,h=>by
  grind[R,bt]
 |.rW v s l i,a,h=>by
  simp only[R]at h
  simp only[bt]
  obtain⟨a0,h1,h2⟩:=h
  exact R.lt h1
theorem RL.lt:∀ {l:List (SV T.den)} {m:List AV},RL T H l m→gu H.length l=true
 |[],[],_=>rfl
 |x::xs,y::ys,h=>by
  simp only[RL]at h
  simp only[gu,Bool.and_eq_true]
  exact⟨R.lt h.1,RL.lt h.2⟩
 |[],_::_,h=>by simp[RL]at h
 |_::_,[],h=>by simp[RL]at h
end
theorem yx{n:Nat}:∀ {l:List AV},cO n l=l.all (below n)
 |[]=>rfl
 |x::xs=>by simp only[cO,List.all_cons,yx]
theorem mV:∀ {a:AV},closed a=true→below n a=true
 |.lit _,_=>rfl
 |.agg l,h=>by simp only[Go.PI.closed]at h; simp only[Go.PI.below]; exact fZ h
 |.jn l,h=>by simp only[Go.PI.closed]at h; simp only[Go.PI.below]; exact fZ h
 |.sl _,_|.o7 _ _,_|.bc _ _,_|.any,_|.nz,_=>rfl
 |.ref ..,h|.bp ..,h|.im ..,h|.mp ..,h=>by simp[Go.PI.closed]at h
 |.iQ fn f c,h=>by
  simp only[Go.PI.closed,Bool.and_eq_true]at h
  simp only[Go.PI.below,Bool.and_eq_true]
  exact⟨fZ h.1,fZ h.2⟩
 |.fL t v,h=>by simp only[Go.PI.closed]at h; simp only[Go.PI.below]; exact mV h
where fZ:∀ {l:List AV},aY l=true→cO n l=true
 |[],_=>rfl
 |x::xs,h=>by
  simp only[aY,Bool.and_eq_true]at h
  simp only[cO,Bool.and_eq_true]
  exact⟨mV h.1,fZ h.2⟩
theorem yy(hT:T.Ok){t:Nat}:∀ {l:List (T.den t)} {m:List AV},aw (T.rp t) l m→cO n m=true
 |[],[],_=>rfl
 |_::_,_::_,h=>by
  simp only[cO,Bool.and_eq_true]
  exact⟨mV (hT.closed _ _ _ h.1),yy hT h.2⟩
theorem Dz:∀ {fr:List (SV T.den)} {vs:List AV},aw (RD T H) fr vs→(fr.all fun v=>bP v||bt n v)=cO n vs
 |[],[],_=>rfl
 |v::fr,a::vs,h=>by
  simp only[List.all_cons,cO]
  rw[Dz h.2]
  congr 1
  rcases h.1 with ⟨rfl,rfl⟩|h1
  ·rfl
  ·have:bP v=false:=by cases v<;>first|rfl|simp[R]at h1
   rw[this,R.below h1]; rfl
theorem Ar[ab](hT:T.Ok){o:Option (aD T.den)}{a:Option aI}(h:Bw T H o a):jT n o=kl n a:=by
 cases o with
 |none=>cases a with
  |none=>rfl
  |some a=>exact h.elim
 |some o=>cases a with
  |none=>exact h.elim
  |some a=>
   cases o with
   |arr g cl f cur es=>
    obtain⟨es',rfl,cC,_⟩:=h
    simp only[jT,kl,aI.below]
    rw[RL.below cC]
   |bX g f cur t l=>obtain⟨es',rfl,_⟩:=h; rfl
   |gV=>
    rcases h with ⟨g,f,es',rfl⟩|⟨k,vs,rfl,h⟩
    ·rfl
    ·exact(h n).symm
   |kb kk t m=>
    obtain⟨vs,rfl,h⟩:=h
    exact(yy hT h).symm
   |oU fn ps as bd fr=>
    obtain⟨st,vs,rfl,h⟩:=h
    exact Dz h
theorem ld[ab](hT:T.Ok):∀ {l:List (Option (aD T.den))} {m:List (Option aI)},aw (Bw T H) l m→l.all (jT n)=m.all (kl n)
 |[],[],_=>rfl
 |_::_,_::_,h=>by simp only[List.all_cons]; rw[Ar hT h.1,ld hT h.2]
theorem RO.take[ab]{o:aD T.den}{a:aI}(h:RO T H o a)(hb:jT n (some o)=true):RO T (H.take n) o a:=by
 cases o with
 |arr g cl f cur es=>
  obtain⟨es',h1,h2,h3⟩:=h
  refine⟨es',h1,RL.take h2 ?_,h3⟩
  simp only[jT,Bool.or_eq_true]at hb
  rcases hb with hb|hb
  ·exact dZ (h3 hb)
  ·exact hb
 |bX g f cur t l=>exact h
 |gV=>exact h
 |kb kk t m=>exact h
 |oU fn ps as bd fr=>
  obtain⟨st,vs,h1,h2⟩:=h
  refine⟨st,vs,h1,aw.dX h2.length fun i x y hx hy=>?_⟩
  obtain⟨y',AZ,hr⟩:=aw.get h2 hx
  rw[hy]at AZ
  simp only[Option.some.injEq]at AZ
  subst AZ
  simp only[jT,List.all_eq_true]at hb
  have:=hb x (List.mem_of_getElem? hx)
  rcases hr with hr|hr
  ·exact .inl hr
  ·have hd:bP x=false:=by cases x<;>first|rfl|simp[R]at hr
   rw[hd,Bool.false_or]at this
   exact .inr (hr.take this)
theorem RH.take[ab](hh:RH T H hp)(hb:(H.take n).all (jT n)=true):RH T (H.take n) (hp.take n):=by
 have h:=aw.take hh n
 rw[List.all_eq_true]at hb
 refine aw.dX h.length fun i x y hx hy=>?_
 obtain⟨y',AZ,hr⟩:=aw.get h hx
 rw[hy]at AZ
 simp only[Option.some.injEq]at AZ
 subst AZ
 have:=hb x (List.mem_of_getElem? hx)
 cases x with
 |none=>cases y with
  |none=>trivial
  |some _=>exact hr.elim
 |some o=>cases y with
  |none=>exact hr.elim
  |some a=>exact RO.take hr this
theorem Ii[ab](hT:T.Ok)(hh:RH T H hp){v:SV T.den}{a:AV}(hv:R T H v a):RH T (fX n v H) (gH n a hp)∧R T (fX n v H) v a:=by
 unfold fX gH
 rw[R.below hv,ld hT (aw.take hh n)]
 by_cases hc:(Go.PI.below n a&&(hp.take n).all (kl n))=true
 ·rw[if_pos hc,if_pos hc]
  simp only[Bool.and_eq_true]at hc
  exact⟨hh.take (by rw[ld hT (aw.take hh n)]; exact hc.2),hv.take (by rw[R.below hv]; exact hc.1)⟩
 ·grind
theorem DA{fr:sG T.den}{t:Nat}:cH (fr.map fun q=>(q.1,qz n q.2)) t=qz n (cH fr t):=by
 induction fr with
 |nil=>rfl
 |cons q r ih=>
  grind[cH]
theorem RV.forget[ab]{v:SV T.den}{a:AV}(h:RV T H v a):RV T (H.take n) (qz n v) (Go.PI.forget n a):=by
 unfold qz Go.PI.forget
 rcases h with rfl|h
 ·left; simp[bt]
 ·rw[R.below h]
  split
  ·rename_i hb; right; exact h.take (by rw[R.below h]; exact hb)
  ·exact .inl rfl
theorem DB{l:List AV}{t:Nat}:(l.map (Go.PI.forget n)).getD t .undef=Go.PI.forget n (l.getD t .undef):=by
 simp only[List.getD_eq_getElem?_getD,List.getElem?_map]
 cases l[t]?<;>rfl
theorem kz.take{js:List (Nat×kW)}(h:kz js H hp)(hj:∀ m x,cr js m=some x→m<n):kz js (H.take n) (hp.take n):=by
 intro m x hm
 obtain⟨h1,h2⟩:=h m x hm
 have cd:=hj m x hm
 exact⟨by rw[p7 (List.getElem?_take_of_lt cd)]; exact h1,by rw[nL (List.getElem?_take_of_lt cd)]; exact h2⟩
theorem Au{js:List (Nat×kW)}(h:si js n=true):∀ m x,cr js m=some x→m<n:=by
 intro m x hm
 have:=List.all_eq_true.1 h _ (gA hm)
 exact Nat.le_of_ble_eq_true this
theorem DC[ab](hT:T.Ok){s:bw T.den}{st:St}(h:RS T s st)(hj:∀ m x,cr s.js m=some x→m<n):RS T (jF n s) (gG n st):=by
 unfold jF gG
 rw[ld hT (aw.take h.hp n)]
 by_cases hc:(st.hp.take n).all (kl n)=true
 ·rw[if_pos hc,if_pos hc]
  refine⟨h.fn,by simp[h.n],fun t=>?_,h.hp.take (by rw[ld hT (aw.take h.hp n)]; exact hc),h.js.take hj⟩
  rw[DA,DB]
  exact(h.fr t).forget
 ·rw[if_neg hc,if_neg hc]
  exact h
theorem mW{den:Nat→Type}{H:ah den}{m:Nat}(hm:m<n):(H.take n)[m]?=H[m]?:=List.getElem?_take_of_lt hm
theorem wc[ab]{s s':bw T.den}{st:St}(h:RS T s st)(ha:bj s s'):bj s (jF s.hp.length s'):=by
 unfold jF
 split
 ·refine⟨ha.fn,ha.n,fun t ht=>?_,ha.wf,fun n hn hw=>?_,ha.wh,?_,?_⟩
  ·simp only at ht ⊢
   rw[DA,ha.fr t ht]
   unfold qz
   rcases h.fr t with hv|hv
   ·rw[hv]; simp[bt]
   ·rw[if_pos hv.lt]
  ·simp only at hw ⊢
   rw[mW hn]
   exact ha.hp n hn hw
  ·simp only[List.length_take]
   have:=ha.len
   omega
  ·intro n o ho
   obtain⟨o',h1,h2⟩:=ha.grow n o ho
   have cd:=(List.getElem?_eq_some_iff.1 ho).1
   exact⟨o',by simp only; rw[mW cd]; exact h1,h2⟩
 ·exact ha
theorem oz[ab](hT:T.Ok){Q:gw}(hQ:Q.Ok){s:bw T.den}{st:St}(h:RS T s st){r:ρ}:∀ {rs:List ResultVar} {K:List (SV T.den)→Tr ρ},(sd T Q s rs K).run=some r →
  ∃ l m,(aU Q.P st.fr rs).run st.hp=some m∧RL T s.hp l m∧(K l).run=some r
 |[],K,hk=>⟨[],[],rfl,by simp[RL],hk⟩
 |.tmp t::rs,K,hk=>by
  simp only[sd]at hk
  split at hk
  ·simp[Tr.run]at hk
  ·rename_i dM
   obtain⟨l,m,h1,h2,hk⟩:=oz hT hQ h hk
   refine⟨_,st.fr.getD t .undef::m,?_,?_,hk⟩
   ·simp_all[aU,jM,RM.run_bind,RM.run_pure,h1]
   ·simp only[RL]
    refine⟨?_,h2⟩
    rcases h.fr t with hd|hd
    ·simp_all
    ·exact hd
 |.cell a t::rs,K,hk=>by
  simp only[sd]at hk
  split at hk
  case h_2=>simp[Tr.run]at hk
  rename_i m hm
  obtain⟨q,h1,h2,h3,_⟩:=hQ.row _ _ hm
  have:∃ v c rd,aE st.hp (kA Q.P t (st.fr.getD a .undef)) c rd∧R T s.hp v c∧(sd T Q s rs fun l=>K (v::l)).run=some r:=
   Dm (K:=fun v _ _=>sd T Q s rs fun l=>K (v::l)) hT h1 h2 h3 h.hp (h.fr a) hk
  obtain⟨v,c,rd,g1,g2,hk⟩:=this
  obtain⟨l,m',i1,i2,hk⟩:=oz hT hQ h hk
  refine⟨_,c::m',?_,?_,hk⟩
  ·simp only[aU,jM,RM.run_bind,g1.1,RM.run_pure,Option.bind_some,i1]
  ·simp only[RL]
   exact⟨g2,i2⟩
theorem ga[ab]{fv:SV T.den}{fa:AV}(hf:RV T H fv fa){args:List (SV T.den)}{as:List AV}(ha:aw (RV T H) args as){g:FuncId}{l:List (SV T.den)}(h:lP fv args=some (g,l)):
  ∃ m,bz fa as=some (g,m)∧(l.any bP=false→RL T H l m):=by
 unfold lP at h
 split at h
 ·rename_i f first captured
  simp only[Option.some.injEq,Prod.mk.injEq]at h
  obtain⟨rfl,rfl⟩:=h
  have:=hf.lit rfl
  subst this
  refine⟨_,rfl,fun hd=>?_⟩
  refine iK ?_ hd
  exact((aQ.1 (RL.lits first.toList)).mono fun _ _ h=>.inr h).append ha |>.append ((aQ.1 (RL.lits captured.toList)).mono fun _ _ h=>.inr h)
 ·rename_i f first captured
  simp only[Option.some.injEq,Prod.mk.injEq]at h
  obtain⟨rfl,rfl⟩:=h
  have:=hf.live rfl
  simp only[R]at this
  obtain⟨f',c',rfl,h1,h2⟩:=this
  refine⟨_,rfl,fun hd=>?_⟩
  refine iK ?_ hd
  exact((aQ.1 h1).mono fun _ _ h=>.inr h).append ha |>.append ((aQ.1 h2).mono fun _ _ h=>.inr h)
 ·simp at h
theorem DD[ab]{P:Program}{fv:SV T.den}{fa:AV}(hf:RV T H fv fa){name:String}{g:FuncId}{x:SV T.den}(h:GU P fv name=some (g,x)):∃ ax,pc P fa name=some (g,ax)∧R T H x ax:=by
 unfold GU at h
 split at h
 ·rename_i t y
  simp only[Option.map_eq_some_iff,Prod.mk.injEq]at h
  obtain⟨f,hm,rfl,rfl⟩:=h
  have:=hf.live rfl
  simp only[R]at this
  obtain⟨a,rfl,ha⟩:=this
  exact⟨a,by simp only[pc,hm,Option.map_some],ha⟩
 ·simp at h
theorem u9:∀ {l:List (SV T.den)} {d t:Nat},cH (mv d l) t=if d≤t then (match l[t-d]? with|some v=>v|none=>.lit undef) else .lit undef
 |[],d,t=>by simp[mv,cH]
 |v::r,d,t=>by
  simp only[mv,cH]
  split
  ·simp_all
  ·rename_i he
   have dM:d≠t:=fun hc=>by subst hc; simp at he
   rw[u9]
   by_cases hd:d≤t
   ·grind
   ·rw[if_neg hd,if_neg (by omega)]
theorem yz[ab]{f:FuncId}{args:List (SV T.den)}{as:List AV}(ha:RL T H args as)(hh:RH T H hp)(n:Nat)(wh:List Nat){js:List (Nat×kW)}(hj:kz js H hp):
  RS T ⟨f,max n args.length,mv 0 args,H,[],wh,js⟩ ⟨f,as++List.replicate (n-as.length) .undef,hp⟩:=by
 have hl:=ha.length
 refine⟨rfl,by simp; omega,fun t=>?_,hh,hj⟩
 simp only
 rw[u9]
 simp only[Nat.zero_le,if_true,Nat.sub_zero,List.getD_eq_getElem?_getD]
 by_cases ht:t<as.length
 ·rw[List.getElem?_append_left ht]
  obtain⟨v,hv,hr⟩:=aw.get' (aQ.1 ha) (List.getElem?_eq_getElem ht)
  rw[hv,List.getElem?_eq_getElem ht]
  exact .inr hr
 ·rw[List.getElem?_append_right (by omega)]
  have e1:args[t]?=none:=List.getElem?_eq_none (by omega)
  rw[e1]
  simp only
  rw[List.getElem?_replicate]
  split<;>exact bh undef
end
end Go.PI
end
