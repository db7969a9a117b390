/- Part 3 of the proof: texts of this session laid one behind the other. -/
import Derived.Test.YtpodhambaehlkaaGreatDoorX2
set_option linter.unusedVariables false
set_option linter.unusedSimpArgs false
section
/- PS, part B: the operations on symbolic values, and the evaluator of code to a tree. -/
namespace Go.PI
structure yB(T:ej)where
 args:List Nat
 el:Nat
 esz:Nat
 fn:HL T.den (args.map .v)→Option (List (T.den el))
inductive Tw where
 |num (d j b:Nat)
 |lst (d j n:Nat)
 |arr (d n:Nat)
 |name (d:Nat)
 |int (d j:Nat)
structure rl where
 C:Ctx
 T:ej
 sum:FuncId→Option (zc T)
 hint:FuncId→Nat→Option Hint
 xB:FuncId→Nat→Bool
 M:List (Nat×jS)
 own:FuncId→Option (yB T):=fun _=>none
 zb:FuncId→Nat→Bool:=fun _ _=>false
 tw:FuncId→Tmp→List Tw:=fun _ _=>[]
def rl.Q(S:rl):iM:=⟨S.C.P,S.M,fun _=>false⟩
def rl.Qf(S:rl)(f:FuncId):iM:=⟨S.C.P,S.M,S.zb f⟩
section
variable {T:ej}{ρ:Type}
abbrev EK(T:ej)(ρ:Type):=SV T.den→List (Nat×aK T.den)→List Nat→Tr ρ
def qY(r:Option AV)(K:EK T ρ):Tr ρ:=
 match r with
 |some (.lit v)=>K (.lit v) [] []
 | _ => .no "via"
def A4(r:Option (SV T.den))(rd:List Nat)(K:EK T ρ):Tr ρ:=
 match r with
 |some v=>K v [] rd
 | none => .no "part"
def hY(v:SV T.den)(K:Nat→Tr ρ):Tr ρ:=
 match v with
 |.lit (.int _ n)=>.cond (decide (0≤n)) (K n.toNat) .fail
 |_=>.fail
def isZ{den:Nat→Type}:SV den→Bool
 |.lit (.int _ n)=>decide (n=0)
 |_=>false
def kp(d:Nat)(v:Option (SV T.den))(K:Nat→Tr ρ):Tr ρ:=
 match v with
 |none=>K d
 |some v=>hY v K
def gE(i:Nat):Nat→Nat→(Nat→Tr ρ)→Tr ρ
 |0,_,_=>.fail
 |len+1,m,K=>.cond (decide (i=m)) (K m) (gE i len (m+1) K)
def jA(d:Nat):SV T.den→SV T.den
 |.ref n c i j=>.ref n c i (j+d)
 |.bq e j=>.bq e (j+d)
 |.vg v s l i=>.vg (jA d v) s l i
 |v=>v
def iG(e:SV T.den)(j bm:Nat):Nat→Option (List (SV T.den))
 |0=>some []
 |n+1=>(qc false 1 e j).bind fun x=>(iG e (j+bm) bm n).map fun l=>x::l
def xC(k:IntKind):List (SV T.den)→Option (List Int)
 |[]=>some []
 |.lit (.int k' n)::r=>if k'=k then (xC k r).map fun l=>n::l else none
 |_=>none
def wk:List (SV T.den)→Option (List Bool)
 |[]=>some []
 |.lit (.bool b)::r=>(wk r).map fun l=>b::l
 |_=>none
def sn{α:Type}(l:List α)(i:Nat)(d:α):α:=l.getD i d
def N9(i:Nat)(xs:List (SV T.den)):Option (SV T.den):=
 match xs with
 |.lit (.int k n)::r=>(xC k r).map fun l=>.lit (.int k (sn (n::l) i n))
 |.lit (.bool b)::r=>(wk r).map fun l=>.lit (.bool (sn (b::l) i b))
 |_=>none
def qC(r:jS)(H:aq T.den)(a:SV T.den)(K:EK T ρ):Tr ρ:=
 match a with
 |.ref n c i j=>
  match H[n]? with
  |some (some (.arr _ _ _ cur es))=>(match Nat.beq c cur with
   |true=>(match es[i]? with
    |some e=>A4 (qc r.agg r.size e j) [n] K
    | none => .no "memory")
   | false => .no "memory")
  |some (some (.cE _ _ cur t l))=>(match Nat.beq c cur with
   |true=>.bind l[i]? fun x=>A4 (qc r.agg r.size (T.up t x) j) [n] K
   | false => .no "memory")
  | _ => .no "memory"
 |.bq e j=>A4 (qc r.agg r.size e j) [] K
 | _ => .no "memory"
def IB(H:aq T.den)(a:SV T.den)(bm len:Nat):Option (List (SV T.den)×List Nat):=
 match a with
 |.ref n c i j=>(match H[n]? with
  |some (some (.arr _ _ _ cur es))=>(match Nat.beq c cur with
   |true=>(es[i]?).bind fun e=>(iG e j bm len).map fun l=>(l,[n])
   |false=>none)
  |_=>none)
 |.bq e j=>(iG e j bm len).map fun l=>(l,[])
 |_=>none
def Kd(r:jS)(H:aq T.den)(a:SV T.den)(K:EK T ρ):Tr ρ:=
 match a with
 |.vg v bm len i=>
  (match !r.agg&&Nat.beq r.size 1,IB H v bm len with
  |true,some (xs,rd)=>(match N9 i xs with
   |some x=>K x [] rd
   |none=>gE i len 0 fun m=>qC r H (jA (m*bm) v) K)
  |_,_=>gE i len 0 fun m=>qC r H (jA (m*bm) v) K)
 |a=>qC r H a K
def th(r:jS)(H:aq T.den)(a v:SV T.den)(K:EK T ρ):Tr ρ:=
 match cL v,decide ((cb v).length=r.size)&&(cb v).all iC with
 |false,true=>(match a with
  |.ref n c i j=>
   match H[n]? with
   |some (some (.arr g cl f cur es))=>(match Nat.beq c cur&&!f with
    |true=>(match es[i]? with
     |some e=>(match hJ e j (cb v) with
      |some e'=>K (.lit undef) [(n,.arr g (cl&&aD (cb v)) f cur (es.set i e'))] [n]
      | none => .no "memory")
     | none => .no "memory")
    | false => .no "memory")
   |some (some (.cE g f cur t l))=>(match Nat.beq c cur&&!f&&aD (cb v) with
    |true=>.bind l[i]? fun x=>(match hJ (T.up t x) j (cb v) with
     |some e'=>(match T.dn t e' with
      |some y=>K (.lit undef) [(n,.cE g f cur t (l.set i y))] [n]
      | none => .no "memory")
     | none => .no "memory")
    | false => .no "memory")
   | _ => .no "memory"
  | _ => .no "memory")
 | _, _ => .no "memory"
def IC(l:List (SV T.den))(j bm i m:Nat)(k:IntKind)(y:Int):List Int→List (SV T.den)
 |[]=>l
 |x::r=>IC (l.set j (.lit (.int k (cond (Nat.beq i m) y x)))) (j+bm) bm i (m+1) k y r
def ID(H:aq T.den)(a v:SV T.den)(bm len i:Nat):Option (Nat×aK T.den):=
 match a,v with
 |.ref n c i0 j,.lit (.int k y)=>(match H[n]? with
  |some (some (.arr g cl f cur es))=>(match Nat.beq c cur&&!f&&Nat.blt 0 bm,es[i0]? with
   |true,some (.agg l)=>((iG (.agg l) j bm len).bind (xC k)).map fun ns=>
    (n,.arr g cl f cur (es.set i0 (.agg (IC l j bm i 0 k y ns))))
   |_,_=>none)
  |_=>none)
 |_,_=>none
def IE(r:jS)(H:aq T.den)(a v:SV T.den)(K:EK T ρ):Tr ρ:=
 match a with
 |.vg b bm len i=>(match Nat.beq r.size 1,ID H b v bm len i with
  |true,some (n,o)=>K (.lit undef) [(n,o)] [n]
  |_,_=>gE i len 0 fun m=>th r H (jA (m*bm) b) v K)
 |a=>th r H a v K
def IG(Q:iM)(t:TypeId)(parts:List (Nat×SV T.den)):Option (SV T.den):=
 match Q.ty t with
 |some r=>
  match r.kind,r.zero.bind iE with
  |.struct fs,some z=>(match Q.places fs with
   |some pl=>(C7 (fun i=>pl[i]?) (cb z) parts).map .agg
   |none=>none)
  |.array _ e,some z=>(match Q.ty e with
   |some q=>(C7 (fun i=>some (i*q.size,q.size)) (cb z) parts).map .agg
   |none=>none)
  |_,_=>none
 |none=>none
def su(Q:iM)(nm:Nat)(t:TypeId)(len:Nat)(parts:List (Nat×SV T.den))(K:EK T ρ):Tr ρ:=
 match Q.elem t with
 |some r=>
  match (r.zero).bind iE with
  |some z=>
   if 0<r.size∧len*r.size≤2^24∧parts.all (fun p=>decide (p.1<len)&&mU r.agg r.size p.2)=true then
    K (.bw r.size nm 0 none (some len)) [(nm,.arr false (aD (parts.map (·.2))) false 0 (gy (List.replicate len z) parts))] []
   else .no "buildSlice"
  | none => .no "buildSlice"
 | none => .no "buildSlice"
def uB(Q:iM)(nm:Nat)(t:TypeId)(l c:SV T.den)(K:EK T ρ):Tr ρ:=
 match Q.elemOf t with
 |some (e,r)=>
  match r.zero,T.zero e,decide (0<r.size) with
  |some _,some z,true=>
   hY l fun l=>hY c fun c=>
    .cond (decide (l≤c)&&decide (c*r.bytes≤2^47)&&decide (c<2^62))
     (K (.bw r.size nm 0 (some (0,l)) (some c)) [(nm,.cE false false 0 e (List.replicate c z))] []) .fail
  |_,_,_=>.fail
 |none=>.fail
def uC(Q:iM)(nm:Nat)(t:TypeId)(l:SV T.den)(K:EK T ρ):Tr ρ:=
 match Q.elemOf t with
 |some (e,r)=>
  match r.zero,T.zero e,decide (0<r.size) with
  |some _,some z,true=>
   hY l fun c=>.cond (decide (c*r.bytes≤2^47)&&decide (c<2^62)) (K (.bw r.size nm 0 none (some c)) [(nm,.cE false false 0 e (List.replicate c z))] []) .fail
  |_,_,_=>.fail
 |none=>.fail
def Oa:Operand→Operand→Bool
 |.tmp a,.tmp b=>Nat.beq a b
 |_,_=>false
def pf(H:aq T.den)(n c:Nat)(rg:Option (Nat×Nat)):Option (Nat×Nat):=
 match rg with
 |some q=>some q
 |none=>match H[n]? with
  |some (some o)=>if Nat.beq c o.cur then some (0,o.len) else none
  |_=>none
def plainO:Option (SV T.den)→Option (Option AV)
 |none=>some none
 |some v=>(pe v).map some
def UO(Q:iM)(H:aq T.den)(t:TypeId)(x:SV T.den)(lo hi mx:Option (SV T.den))(K:EK T ρ):Tr ρ:=
 match x with
 |.lit v=>(match plainO lo,plainO hi,plainO mx with
  |some l,some h,some m=>(match pt Q.P t (.lit v) l h m with
   |some (.lit v)=>K (.lit v) [] []
   |some .nz=>K .nz [] []
   | _ => .no "via")
  | _, _, _ => .no "index")
 |.sl xs=>
  (match Q.elem t,mx with
  |some r,none=>kp 0 lo fun l=>kp xs.length hi fun h=>
   gE l (xs.length+1) 0 fun l=>gE h (xs.length+1) 0 fun h=>
    (match decide (l≤h)&&decide (h≤xs.length)&&xs.all (mU r.agg r.size) with
    |true=>K (.sl ((xs.drop l).take (h-l))) [] []
    | false => .no "index")
  | _, _ => .no "index")
 |.jR t' l=>
  (match Q.elem t,mx with
  |some r,none=>(match decide (r.agg=T.agg t')&&decide (r.size=T.size t') with
   |true=>(match lo,hi with
    |none,none=>K (.jR t' l) [] []
    |some lo,none=>hY lo fun a=>.cond (decide (a≤l.length)) (K (.jR t' (l.drop a)) [] []) .fail
    |none,some hi=>hY hi fun b=>.cond (decide (b≤l.length)) (K (.jR t' (l.take b)) [] []) .fail
    |some lo,some hi=>hY lo fun a=>hY hi fun b=>
     .cond (decide (a≤b)&&decide (b≤l.length)) (K (.jR t' ((l.drop a).take (b-a))) [] []) .fail)
   | false => .no "index")
  |some r,some mx=>(match decide (r.agg=T.agg t')&&decide (r.size=T.size t'),hi with
   |true,some hi=>(match lo.isNone&&(isZ hi&&isZ mx) with
    |true=>K .nz [] []
    |false=>kp 0 lo fun a=>hY hi fun b=>hY mx fun m=>
    .cond (decide (a≤b)&&decide (b≤m)&&decide (m≤l.length)&&decide (a<m)) (K (.zD t' ((l.drop a).take (b-a)) (m-a) (!l.isEmpty)) [] []) .fail)
   | _, _ => .no "index")
  | _, _ => .no "index")
 |.bw esz n c rg cap=>
  (match Q.elem t,mx,pf H n c rg,H[n]? with
  |some r,none,some (off,len),some (some o)=>(match Nat.beq c o.cur&&decide (esz=r.size) with
   |true=>kp 0 lo fun a=>kp len hi fun b=>
    .cond (decide (a≤b)&&decide (b≤cap.getD (o.len-off))&&decide (0<o.len))
     (K (.bw esz n c (some (off+a,b-a)) (cap.map (·-a))) [] []) .fail
   | false => .no "index")
  |some r,some mx,some (off,len),some (some o)=>(match Nat.beq c o.cur&&decide (esz=r.size),hi with
   |true,some hi=>kp 0 lo fun a=>hY hi fun b=>hY mx fun m=>
    .cond (decide (a≤b)&&decide (b≤m)&&decide (m≤cap.getD (o.len-off))&&decide (0<o.len))
     (K (.bw esz n c (some (off+a,b-a)) (some (m-a))) [] []) .fail
   | _, _ => .no "index")
  | _, _, _, _ => .no "index")
 |.ref n c i j=>(match Q.arr t,mx with
  |some (len,r),none=>kp 0 lo fun l=>kp len hi fun h=>
   gE l len 0 fun l=>gE h (len+1) 0 fun h=>(match decide (l≤h) with
    |true=>K (.jC n c i (j+l*r.size) (h-l) (len-l)) [] []
    |false=>.fail)
  | _, _ => .no "index")
 | _ => .no "index"
def Ob(Q:iM)(t:TypeId)(x:SV T.den)(K:EK T ρ):Tr ρ:=
 match Q.arr t,x with
 |some (len,_),.jC n c i j l _=>(match decide (len≤l) with
  |true=>K (.ref n c i j) [] []
  |false=>.fail)
 | _, _ => .no "an array"
def uD(Q:iM)(zb:Bool)(H:aq T.den)(t:TypeId)(x ix:SV T.den)(K:EK T ρ):Tr ρ:=
 hY ix fun i=>
  match x with
  |.sl xs=>(match Q.elem t with
   |some r=>gE i xs.length 0 fun m=>(match xs[m]? with
    |some e=>(match mU r.agg r.size e with
     |true=>K (.bq e 0) [] []
     | false => .no "index")
    | none => .no "index")
   | none => .no "index")
  |.jR t' l=>(match Q.elem t with
   |some r=>(match decide (r.agg=T.agg t')&&decide (r.size=T.size t') with
    |true=>.bind l[i]? fun x=>K (.bq (T.up t' x) 0) [] []
    | false => .no "index")
   | none => .no "index")
  |.bw esz n c rg _=>(match Q.elem t with
   |some r=>(match decide (0<r.size)&&decide (esz=r.size),pf H n c rg,H[n]? with
    |true,some (off,len),some (some (.arr ..))=>gE i len 0 fun m=>K (.ref n c (off+m) 0) [] []
    |true,some (off,len),some (some (.cE ..))=>.cond (decide (i<len)) (K (.ref n c (off+i) 0) [] []) .fail
    | _, _, _ => .no "index")
   | none => .no "index")
  |.jC n c k j len _=>(match Q.elem t with
   |some r=>gE i len 0 fun m=>K (.ref n c k (j+m*r.size)) [] []
   | none => .no "index")
  |.ref n c k j=>(match Q.arr t with
   |some (len,r)=>(match zb with
    |true=>.cond (decide (i<len)) (K (.vg (.ref n c k j) r.size len i) [] []) .fail
    |false=>gE i len 0 fun m=>K (.ref n c k (j+m*r.size)) [] [])
   | none => .no "index")
  |.bq e j=>(match Q.arr t with
   |some (len,r)=>(match zb with
    |true=>.cond (decide (i<len)) (K (.vg (.bq e j) r.size len i) [] []) .fail
    |false=>gE i len 0 fun m=>K (.bq e (j+m*r.size)) [] [])
   | none => .no "index")
  | _ => .no "index"
def II(Q:iM)(zb:Bool)(t:TypeId)(x ix:SV T.den)(K:EK T ρ):Tr ρ:=
 match x with
 |.lit v=>(match pe ix with
  |some i=>qY (wR Q.P t (.lit v) i) K
  | none => .no "index")
 |.agg l=>
  (match Q.arr t with
  |some (n,r)=>hY ix fun i=>(match zb&&!r.agg&&Nat.beq r.size 1,(iG (.agg l) 0 1 n).bind (N9 i) with
   |true,some x=>.cond (decide (i<n)) (K x [] []) .fail
   |_,_=>gE i n 0 fun m=>A4 (qc r.agg r.size (.agg l) (m*r.size)) [] K)
  | none => .no "index")
 | _ => .no "index"
inductive Src(den:Nat→Type)where
 |nL (l:List (SV den)) (cl:Bool)
 |B9 (t:Nat) (l:List (den t))
def Ru(Q:iM)(H:aq T.den)(xt:TypeId)(x:SV T.den)(K:Src T.den→List Nat→Tr ρ):Tr ρ:=
 match Q.isSlice xt with
 |some true=>(match x with
  |.lit (.slice none 0 0)=>K (.nL [] true) []
  |.sl xs=>K (.nL xs true) []
  |.jR t l=>K (.B9 t l) []
  |.bw _ n c rg _=>(match H[n]? with
   |some (some (.arr _ cl _ cur es))=>(match Nat.beq c cur with
    |true=>(match rg with
     |none=>K (.nL es cl) [n]
     |some (off,len)=>if off+len≤es.length then K (.nL ((es.drop off).take len) cl) [n] else .fail)
    | _ => .no "append source")
   |some (some (.cE _ _ cur t l))=>(match Nat.beq c cur with
    |true=>(match rg with
     |none=>K (.B9 t l) [n]
     |some (off,len)=>.cond (decide (off+len≤l.length)) (K (.B9 t ((l.drop off).take len)) [n]) .fail)
    | _ => .no "append source")
   | _ => .no "append source")
  | _ => .no "append source")
 | _ => .no "append source"
def Src.ok(T:ej)(r:jS):Src T.den→Bool
 |.nL l _=>l.all (mU r.agg r.size)
 |.B9 t _=>decide (r.agg=T.agg t)&&decide (r.size=T.size t)
def Src.len{den:Nat→Type}:Src den→Nat
 |.nL l _=>l.length
 |.B9 _ l=>l.length
def tS(r:jS)(n:Nat):Bool:=decide (n*r.bytes≤2^44)&&decide (n≤2^44)
def sv(T:ej)(cur:Nat):aK T.den→Src T.den→Option (aK T.den)
 |.arr _ cl f _ es,.nL ys ycl=>some (.arr true (cl&&ycl) f cur (es++ys))
 |.arr _ true f _ es,.B9 t l=>(qX T t es).map fun l0=>.cE true f cur t (l0++l)
 |.cE _ f _ t l,.nL ys true=>(qX T t ys).map fun l2=>.cE true f cur t (l++l2)
 |.cE _ f _ t l,.B9 t' l2=>if h:t'=t then some (.cE true f cur t (l++C6 h l2)) else none
 |_,_=>none
def aK.flags{den:Nat→Type}:aK den→Bool×Bool×Bool
 |.arr g cl f _ _=>(g,cl,f)
 |.cE g f _ _ _=>(g,true,f)
 |.ji|.lZ _ _ _=>(false,true,true)
 |.rh _ _ _ _ _=>(false,false,true)
def aK.A5(T:ej)(r:jS):aK T.den→Bool
 |.arr _ _ _ _ es=>es.all (mU r.agg r.size)
 |.cE _ _ _ t _=>decide (r.agg=T.agg t)&&decide (r.size=T.size t)
 |_=>false
def A6{den:Nat→Type}:Src den→aK den
 |.nL l cl=>.arr true cl false 0 l
 |.B9 t l=>.cE true false 0 t l
def qD(T:ej)(y:Src T.den)(a b:Tr ρ):Tr ρ:=
 match y with
 |.nL l _=>(match l with
  |[]=>a
  |_::_=>b)
 |.B9 _ l=>.cond l.isEmpty a b
def Ll{α:Type}(l:List α)(i:Nat)(ys:List α):List α:=l.take i++(ys++l.drop (i+ys.length))
def xD(T:ej):aK T.den→Nat→Src T.den→Option (aK T.den)
 |.cE g f cur t l,i,.B9 t' l2=>if h:t'=t then some (.cE g f cur t (Ll l i (C6 h l2))) else none
 |.cE g f cur t l,i,.nL ys true=>(qX T t ys).map fun l2=>.cE g f cur t (Ll l i l2)
 |_,_,_=>none
def Et(Q:iM)(nm:Nat)(H:aq T.den)(t xt:TypeId)(s x:SV T.den)(K:EK T ρ):Tr ρ:=
 match Q.elem t with
 | none => .no "append"
 |some r=>Ru Q H xt x fun y rd=>
  match (r.zero).isSome&&decide (0<r.size)&&y.ok T r with
  | false => .no "append"
  |true=>(match s with
   |.lit (.slice none 0 0)=>qD T y (K s [] rd)
     (.cond (tS r y.len) (K (.bw r.size nm 0 none none) [(nm,A6 y)] rd) .fail)
   |.nz=>qD T y (K s [] rd)
     (.cond (tS r y.len) (K (.bw r.size nm 0 none none) [(nm,A6 y)] rd) .fail)
   |.sl _|.jR _ _=>qD T y (K s [] rd) .fail
   |.zD t' l c b=>qD T y (K (.jR t' l) [] rd)
     (.cond (b&&decide (c<l.length+y.len)&&tS r (l.length+y.len))
       (match decide (r.agg=T.agg t')&&decide (r.size=T.size t'),sv T 0 (.cE true false 0 t' l) y with
       |true,some o'=>K (.bw r.size nm 0 none none) [(nm,o')] rd
       | _, _ => .no "append") .fail)
   |.bw esz n c rg cap=>(match H[n]? with
    |some (some o)=>(match Nat.beq c o.cur&&!o.flags.2.2&&decide (esz=r.size) with
     |true=>(match cap,rg with
      |none,none=>(match y with
       |.nL [] _=>K s [] rd
       |_=>(match o.flags.1,sv T (o.cur+1) o y with
        |true,some o'=>.cond (tS r (o.len+y.len)) (K (.bw esz n (o.cur+1) none none) [(n,o')] (n::rd)) .fail
        | _, _ => .no "append"))
      |some k,none=>qD T y (K s [] rd)
       (.cond (decide (o.len+y.len≤k)) .fail
         (match o.A5 T r,sv T 0 o y with
         |true,some o'=>.cond (tS r (o.len+y.len)) (K (.bw esz nm 0 none none) [(nm,o')] (n::rd)) .fail
         | _, _ => .no "append"))
      |some k,some (off,len)=>(match xD T o (off+len) y with
        |some o'=>.cond (decide (len+y.len≤k)&&decide (off+len+y.len≤o.len)) (K (.bw esz n c (some (off,len+y.len)) (some k)) [(n,o')] (n::rd)) .fail
        | none => .no "append")
      | _, _ => .no "append")
     | false => .no "append")
    | _ => .no "append")
   | _ => .no "append")
def Oc(Q:iM)(H:aq T.den)(t:TypeId)(d x:SV T.den)(K:EK T ρ):Tr ρ:=
 match Q.elem t,Q.isSlice t with
 |some r,some true=>Ru Q H t x fun y rd=>(match y.ok T r&&decide (0<r.size),d with
  |true,.bw esz n c rg _=>(match pf H n c rg,H[n]? with
   |some (off,len),some (some o)=>(match Nat.beq c o.cur&&!o.flags.2.2&&decide (esz=r.size),xD T o off y with
    |true,some o'=>.cond (decide (off+len≤o.len)&&decide (y.len≤len)) (K (.lit (.int .i64 y.len)) [(n,o')] (n::rd)) .fail
    | _, _ => .no "copy")
   | _, _ => .no "copy")
  | _, _ => .no "copy")
 | _, _ => .no "copy"
def UP(Q:iM)(H:aq T.den)(argTypes:Array TypeId)(type:TypeId)(x:SV T.den)(K:EK T ρ):Tr ρ:=
 match argTypes.toList with
 |[t]=>(match Q.isSlice t with
  |some true=>(match x with
   |.lit (.slice none 0 0)=>K (.lit (.int .i64 0)) [] []
   |.nz=>K (.lit (.int .i64 0)) [] []
   |.sl xs=>K (.lit (.int .i64 xs.length)) [] []
   |.jR _ l|.zD _ l _ _=>K (.lit (.int .i64 l.length)) [] []
   |.bw _ n c rg _=>(match pf H n c rg with
    |some (_,len)=>K (.lit (.int .i64 len)) [] []
    | none => .no "builtin")
   |.jC _ _ _ _ len _=>K (.lit (.int .i64 len)) [] []
   | _ => .no "builtin")
  | none => .no "builtin"
  |some false=>(match x with
   | .lit (.slice none 0 0) => .no "builtin"
   |.lit v=>qY ((bN Q.P (Builtin.len_ argTypes type #[v])).bind iP) K
   |.agg _|.ref ..|.bq ..=>(match Q.arr t with
    |some (n,_)=>K (.lit (.int .i64 n)) [] []
    | none => .no "builtin")
   | _ => .no "builtin"))
 | _ => .no "builtin"
def A7(Q:iM)(nm:Nat)(H:aq T.den)(b:Builtin)(argTypes:Array TypeId)(type:TypeId)(args:List (SV T.den))(K:EK T ρ):Tr ρ:=
 match b with
 |.append=>(match argTypes.toList,args with
  |[t,xt],[s,x]=>Et Q nm H t xt s x K
  | _, _ => .no "builtin")
 |.copy=>(match argTypes.toList,args with
  |[t,_],[d,x]=>Oc Q H t d x K
  | _, _ => .no "builtin")
 |.len=>(match args with
  |[x]=>UP Q H argTypes type x K
  | _ => .no "builtin")
 |.max=>(match oK args with
  |some vs=>qY ((bN Q.P (Builtin.max_ argTypes type vs.toArray)).bind iP) K
  | none => .no "builtin")
 |.min=>(match oK args with
  |some vs=>qY ((bN Q.P (Builtin.min_ argTypes type vs.toArray)).bind iP) K
  | none => .no "builtin")
 | _ => .no "builtin"
def UQ(op:BinOp)(k:IntKind)(a b:Int):Option Value:=
 match op with
 |.lss=>some (.bool (decide (a<b)))
 |.leq=>some (.bool (decide (a≤b)))
 |.gtr=>some (.bool (decide (b<a)))
 |.geq=>some (.bool (decide (b≤a)))
 |.eql=>some (.bool (a==b))
 |.neq=>some (.bool (!(a==b)))
 |.add=>some (.int k (k.wrap (a+b)))
 |.sub=>some (.int k (k.wrap (a-b)))
 |.mul=>some (.int k (k.wrap (a*b)))
 |_=>none
def UR(op:BinOp)(k:IntKind)(a b:Int):Option Value:=
 match op with
 |.quo=>some (.int k (k.wrap (a.tdiv b)))
 |.rem=>some (.int k (a.tmod b))
 |_=>none
def shS(op:BinOp)(k:IntKind)(a b:Int):Option Value:=
 match op with
 |.shl=>some (.int k (k.wrap (a*2^min b.toNat k.bits)))
 |.shr=>some (.int k (a.fdiv (2^min b.toNat k.bits)))
 |_=>none
def XY:Operand→Bool
 |.tmp _=>true
 |_=>false
def CK.fits:CK→Value→Bool
 |.bool,.bool _=>true
 |.int k,.int k' _=>decide (k=k')
 |.str,.string _=>true
 |_,_=>false
def bA:List CK→List Value→Bool
 |[],[]=>true
 |k::ks,v::vs=>k.fits v&&bA ks vs
 |_,_=>false
def uE:Value→Value→Bool
 |.bool a,.bool b=>a==b
 |.int _ a,.int _ b=>a==b
 |.string a,.string b=>a==b
 |_,_=>false
def dk:List Value→List Value→Bool
 |[],[]=>true
 |x::xs,y::ys=>uE x y&&dk xs ys
 |_,_=>false
def zE(x y:Value)(K:Bool→Tr ρ):Tr ρ:=
 match x,y with
 |.bool a,.bool b=>K (a==b)
 |.int _ a,.int _ b=>K (a==b)
 |.string a,.string b=>K (a==b)
 |_,_=>K false
def mV:List Value→List Value→(Bool→Tr ρ)→Tr ρ
 |[],[],K=>K true
 |[x],[y],K=>zE x y K
 |x::x'::xs,y::y'::ys,K=>zE x y fun e=>mV (x'::xs) (y'::ys) fun r=>K (e&&r)
 |_,_,K=>K false
def IJ(Q:iM)(op:BinOp)(t:TypeId)(l l':List (SV T.den))(K:EK T ρ):Tr ρ:=
 match oK l,oK l',Q.ty t with
 |some c,some c',some m=>
  (match m.SQ with
  |some ks=>(match m.agg&&bA ks c&&bA ks c' with
   |true=>mV c c' fun e=>(match op with
    |.eql=>K (.lit (.bool e)) [] []
    |.neq=>K (.lit (.bool (!e))) [] []
    | _ => .no "==")
   | false => .no "==")
  | none => .no "==")
 | _, _, _ => .no "=="
def US(Q:iM)(op:BinOp)(t:TypeId)(xo yo:Operand)(x y:SV T.den)(K:EK T ρ):Tr ρ:=
 match x,y with
 |.lit (.int k a),.lit (.int k' b)=>(match decide (k=k'),UQ op k a b with
  |true,some v=>K (.lit v) [] []
  |_,_=>(match decide (k=k'),UR op k a b with
   |true,some v=>.cond (decide (b=0)) .fail (K (.lit v) [] [])
   |_,_=>(match XY yo,shS op k a b with
    |true,some v=>.cond (decide (b<0)) .fail (K (.lit v) [] [])
    |_,_=>qY (gf Q.P op t xo yo (.lit (.int k a)) (.lit (.int k' b))) K)))
 |.agg l,.agg l'=>IJ Q op t l l' K
 |_,_=>(match pe x,pe y with
  |some a,some b=>qY (gf Q.P op t xo yo a b) K
  |_,_=>(match y with
   |.lit b=>qY (Ep Q.P op t x b) K
   |_=>(match x with
    |.lit a=>qY (Ep Q.P op t y a) K
    |_=>.fail)))
def Od(t:Bool)(a b:SV T.den)(K:EK T ρ):Tr ρ:=
 match a,b with
 |.lit (.bool x),.lit (.bool y)=>K (.lit (.bool (cond t x y))) [] []
 |.lit (.int k x),.lit (.int k' y)=>if k=k' then K (.lit (.int k (cond t x y))) [] [] else .cond t (K a [] []) (K b [] [])
 |_,_=>.cond t (K a [] []) (K b [] [])
def Eu(c:Bool)(v:SV T.den)(b:Bool):SV T.den:=
 match c with
 |true=>.kJ [v,.lit (.bool b)]
 |false=>v
def wm{kk tA:KK}{t t':Nat}(h:kk=tA∧t=t')(m:List (kk.D×T.den t)):List (tA.D×T.den t'):=by
 obtain⟨rfl,rfl⟩:=h; exact m
def Ev(Q:iM)(H:aq T.den)(t:TypeId)(x ix:SV T.den)(c:Bool)(K:EK T ρ):Tr ρ:=
 match Q.mapOf t with
 |some (kk,et)=>(match (Q.ty et).bind (·.zero),T.zero et,ix with
  |some _,some z,.lit k=>(match kk.get k,x with
   |some _,.lit (.map none)=>K (Eu c (T.up et z) false) [] []
   |some k',.mp false n=>(match H[n]? with
    |some (some (.lZ tA t' m))=>
     if h:tA=kk∧t'=et then
      K (Eu c (T.up et ((mw kk (wm h m) k').getD z)) (mw kk (wm h m) k').isSome) [] [n]
     else .no "map"
    | _ => .no "map")
   | _, _ => .no "map")
  | _, _, _ => .no "map")
 | none => .no "map"
def uF(Q:iM)(H:aq T.den)(t:TypeId)(x ix v:SV T.den)(K:EK T ρ):Tr ρ:=
 match Q.mapOf t with
 |some (kk,_)=>(match ix,x with
  |.lit k,.mp false n=>(match kk.get k,H[n]? with
   |some k',some (some (.lZ tA t' m))=>
    (match cL v,T.dn t' v with
    | false, some y => if h : tA = kk ∧ t' = t' then K (.lit undef) [(n, .lZ kk t' (o9 kk (wm h m) k' y))] [n] else .no "map"
    | _, _ => .no "map")
   | _, _ => .no "map")
  | _, _ => .no "map")
 | none => .no "map"
def A9(Q:iM)(nm:Nat)(t:TypeId)(r:Option (SV T.den))(K:EK T ρ):Tr ρ:=
 match Q.mapOf t with
 |some (kk,et)=>kp 0 r fun _=>K (.mp false nm) [(nm,.lZ kk et [])] []
 | none => .no "map"
def Rv(Q:iM)(nm:Nat)(H:aq T.den)(ev:Operand→SV T.den)(o:Oper)(K:EK T ρ):Tr ρ:=
 match o.op with
 |.move x|.assign x=>K (ev x) [] []
 |.pick c a b=>(match ev c with
  |.lit (.bool t)=>Od t (ev a) (ev b) K
  | _ => .no "pick")
 |.alloc t=>(match Q.ty t with
  |some r=>(match (r.zero).bind iE with
   |some z=>if 0<r.size then K (.ref nm 0 0 0) [(nm,.arr false true false 0 [z])] [] else .fail
   |none=>.fail)
  |none=>.fail)
 |.box _ x=>
  if (cb (ev x)).all iC=true∧0<(cb (ev x)).length∧cL (ev x)=false then
   K (.ref nm 0 0 0) [(nm, .arr false (aD (cb (ev x))) false 0 [ev x])] [] else .no "box"
 | .build t parts => if ((parts.toList.map fun p => (p.1, ev p.2)).any fun p => cL p.2) = true then .no "build" else A4 (IG Q t (parts.toList.map fun p => (p.1, ev p.2))) [] K
 | .buildSlice t len parts => if ((parts.toList.map fun p => (p.1, ev p.2)).any fun p => cL p.2) = true then .no "build" else su Q nm t len (parts.toList.map fun p => (p.1, ev p.2)) K
 |.load t a=>(match Q.ty t with
  |some r=>Kd r H (ev a) K
  |none=>.fail)
 |.store t a x=>(match Q.ty t with
  |some r=>IE r H (ev a) (ev x) K
  |none=>.fail)
 |.nilCheck x=>(match ev x with
  |.ref n c i j=>K (.ref n c i j) [] []
  |.bq e j=>K (.bq e j) [] []
  |.jU t y=>K (.jU t y) [] []
  |.jT (.func f) a c=>K (.jT (.func f) a c) [] []
  |.lit (.func (.func f) a c)=>K (.lit (.func (.func f) a c)) [] []
  | _ => .no "nilCheck")
 |.binOp op t x y _=>US Q op t x y (ev x) (ev y) K
 |.unOp op _ x=>(match ev x with
  |.lit a=>qY ((bN Q.P (Op.unary op a)).bind iP) K
  | _ => .no "unOp")
 |.convert s d x=>(match ev x with
  |.lit a=>qY ((bN Q.P (convert s d a)).bind iP) K
  | _ => .no "convert")
 |.makeInterface t x=>if (kX Q.P t||(Q.P.underlying t).isNone||cL (ev x))=true then .fail else K (.jU t (ev x)) [] []
 |.makeFunc fn first captured=>
  if first.isEmpty&&captured.isEmpty then K (.lit (.func fn #[] #[])) [] []
  else if (first.toList.map ev).any cL||(captured.toList.map ev).any cL then .fail
  else K (.jT fn (first.toList.map ev) (captured.toList.map ev)) [] []
 |.makeSlice t l c=>(match Oa l c with
  |true=>uC Q nm t (ev l) K
  |false=>uB Q nm t (ev l) (ev c) K)
 |.slice t x lo hi mx=>UO Q H t (ev x) (lo.map ev) (hi.map ev) (mx.map ev) K
 |.sliceToArrayPointer t x=>Ob Q t (ev x) K
 |.fieldAddr s x f=>(match Q.fld s f,ev x with
  |some (off,_),.ref n c i j=>K (.ref n c i (j+off)) [] []
  |some (off,_),.bq e j=>K (.bq e (j+off)) [] []
  |some (off,_),.vg v bm len i=>K (.vg (jA off v) bm len i) [] []
  | _, _ => .no "fieldAddr")
 |.field s x f=>(match Q.fld s f,ev x with
  |some (off,r),.agg l=>A4 (qc r.agg r.size (.agg l) off) [] K
  | _, _ => .no "field")
 |.indexAddr t x ix=>uD Q (match o.dst with|some d=>Q.zb d|none=>false) H t (ev x) (ev ix) K
 |.index t x ix=>II Q (match o.dst with|some d=>Q.zb d|none=>false) t (ev x) (ev ix) K
 |.makeMap t r=>A9 Q nm t (r.map ev) K
 |.lookup t x ix c=>Ev Q H t (ev x) (ev ix) c K
 |.mapUpdate t m k x=>uF Q H t (ev m) (ev k) (ev x) K
 |.extract t ix=>(match ev t with
  |.kJ l=>A4 l[ix]? [] K
  | _ => .no "extract")
 |.call c=>(match c.callee with
  |.builtin b=>A7 Q nm H b c.argTypes o.type (c.args.toList.map ev) K
  | _ => .no "call")
 | _ => .no "op"
end
section
variable {T:ej}{ρ:Type}
def Rw(dst:Option Tmp)(wf:List Nat):List Nat:=
 match dst with
 |some d=>d::wf
 |none=>wf
def bQ.step(s:bQ T.den)(dst:Option Tmp)(v:SV T.den)(wr:List (Nat×aK T.den)):bQ T.den:=
 { s with fr:=N8 s.n s.fr dst v,hp:=bu s.hp wr,wf:=Rw dst s.wf,wh:=wr.map (·.1)++s.wh }
def Ba(v:Value)(K:Value→Tr ρ):Tr ρ:=
 match v with
 |.int k n=>K (.int k n)
 |.bool b=>K (.bool b)
 |.string s=>K (.string s)
 |v=>K v
mutual
def ek:SV T.den→(SV T.den→Tr ρ)→Tr ρ
 |.lit v,K=>Ba v fun v=>K (.lit v)
 |.agg l,K=>nM l fun l=>K (.agg l)
 |.kJ l,K=>nM l fun l=>K (.kJ l)
 |.sl l,K=>nM l fun l=>K (.sl l)
 |.bq e j,K=>ek e fun e=>K (.bq e j)
 |.jT fn f c,K=>nM f fun f=>nM c fun c=>K (.jT fn f c)
 |.jU t v,K=>ek v fun v=>K (.jU t v)
 |.dead,K=>K .dead
 |.hole,K=>K .hole
 |.jR t l,K=>K (.jR t l)
 |.ref n c i j,K=>K (.ref n c i j)
 |.jC n c i j ln cp,K=>K (.jC n c i j ln cp)
 |.bw esz n c rg cap,K=>K (.bw esz n c rg cap)
 |.mp y n,K=>K (.mp y n)
 |.zD t l c b,K=>K (.zD t l c b)
 |.nz,K=>K .nz
 |.vg v s len i,K=>ek v fun v=>K (.vg v s len i)
def nM:List (SV T.den)→(List (SV T.den)→Tr ρ)→Tr ρ
 |[],K=>K []
 |x::xs,K=>ek x fun x=>nM xs fun xs=>K (x::xs)
end
def Oe(o:aK T.den)(K:aK T.den→Tr ρ):Tr ρ:=
 match o with
 |.arr g cl f c es=>nM es fun es=>K (.arr g cl f c es)
 |.cE g f c t l=>K (.cE g f c t l)
 |.ji=>K .ji
 |.lZ kk t m=>K (.lZ kk t m)
 |.rh fn ps as bd fr=>nM fr fun fr=>K (.rh fn ps as bd fr)
def qE:aq T.den→(aq T.den→Tr ρ)→Tr ρ
 |[],K=>K []
 |none::r,K=>qE r fun r=>K (none::r)
 |some o::r,K=>Oe o fun o=>qE r fun r=>K (some o::r)
def uH:List Nat→(List Nat→Tr ρ)→Tr ρ
 |[],K=>K []
 |x::r,K=>uH r fun r=>K (x::r)
def Ew:vh T.den→(vh T.den→Tr ρ)→Tr ρ
 |[],K=>K []
 |(d,v)::r,K=>ek v fun v=>Ew r fun r=>K ((d,v)::r)
def bQ.force(s:bQ T.den)(K:bQ T.den→Tr ρ):Tr ρ:=
 match s with
 |⟨fn,n,fr,hp,wf,wh,js⟩=>Ew fr fun fr=>qE hp fun hp=>uH wf fun wf=>uH wh fun wh=>K ⟨fn,n,fr,hp,wf,wh,js⟩
def IK(hp:aq T.den)(wh:List Nat)(wr:List (Nat×aK T.den))(K:aq T.den→List Nat→Tr ρ):Tr ρ:=
 match wr with
 |[]=>K hp wh
 |w::r=>qE (bu hp (w::r)) fun hp=>uH ((w::r).map (·.1)++wh) fun wh=>K hp wh
def bQ.ia(s:bQ T.den)(dst:Option Tmp)(v:SV T.den)(wr:List (Nat×aK T.den))(K:bQ T.den→Tr ρ):Tr ρ:=
 match s with
 |⟨fn,n,fr,hp,wf,wh,js⟩=>IK hp wh wr fun hp wh=>
  match dst with
  |none=>K ⟨fn,n,fr,hp,wf,wh,js⟩
  |some d=>(match Nat.ble n d with
   |true=>K ⟨fn,n,fr,hp,d::wf,wh,js⟩
   |false=>ek v fun v=>K ⟨fn,n,(d,v)::fr,hp,d::wf,wh,js⟩)
def qF(ops:Array Oper):List Oper→(List (G×Oper)→Tr ρ)→Tr ρ
 |[],K=>K []
 |o::r,K=>(match fL ops o with
  |.always=>qF ops r fun l=>K ((.always,o)::l)
  |.never=>qF ops r fun l=>K ((.never,o)::l)
  |.on d w=>qF ops r fun l=>K ((.on d w,o)::l))
def zG(g:G)(s:bQ T.den)(K:bQ T.den→Bool→Tr ρ):Tr ρ:=
 match g with
 |.always=>K s true
 |.never=>K s false
 |.on d want=>(match dj s.fr d with
  |.lit (.bool b)=>.cond b (s.ia (some d) (.lit (.bool true)) [] fun s=>K s (true==want)) (s.ia (some d) (.lit (.bool false)) [] fun s=>K s (false==want))
  |.lit (.tuple _)=>K s false
  | _ => .no "guard")
def nN(fv:SV T.den)(args:List (SV T.den)):Option (FuncId×List (SV T.den)):=
 match fv with
 |.lit (.func (.func f) first captured)=>some (f,first.toList.map .lit++args++captured.toList.map .lit)
 |.jT (.func f) first captured=>some (f,first++args++captured)
 |_=>none
mutual
def ib(T:ej)(H:aq T.den):Nat→SV T.den→(SV T.den→List Nat→Tr ρ)→Tr ρ
 | 0, _, _ => .no "seal"
 |k+1,v,K=>match v with
  |.bw _ n c rg _=>(match H[n]? with
   |some (some (.arr _ cl _ cur es))=>(match Nat.beq c cur with
    |true=>(match rg with
     |none=>(match cl with
      |true=>K (.sl es) [n]
      |false=>ic T H k es fun l rd=>K (.sl l) (n::rd))
     |some (off,len)=>if off+len≤es.length then (match cl with
      |true=>K (.sl ((es.drop off).take len)) [n]
      | false => ic T H k ((es.drop off).take len) fun l rd => K (.sl l) (n :: rd)) else .no "seal")
    | false => .no "seal")
   |some (some (.cE _ _ cur t l))=>(match Nat.beq c cur with
    |true=>(match rg with
     |none=>K (.jR t l) [n]
     |some (off,len)=>.cond (decide (off+len≤l.length)) (K (.jR t ((l.drop off).take len)) [n]) .fail)
    | false => .no "seal")
   | _ => .no "seal")
  |.ref n c i j=>(match H[n]? with
   |some (some (.arr _ cl _ cur es))=>(match Nat.beq c cur,es[i]? with
    |true,some e=>(match cl with
     |true=>K (.bq e j) [n]
     |false=>ib T H k e fun e' rd=>K (.bq e' j) (n::rd))
    | _, _ => .no "seal")
   | _ => .no "seal")
  |.jC n c i j ln cp=>(match H[n]? with
   |some (some (.arr _ cl _ cur es))=>(match Nat.beq c cur,es[i]? with
    |true,some (.agg cs)=>(match decide (ln≤cp)&&decide (j+ln≤cs.length) with
     |true=>(match cl with
      |true=>K (.sl ((cs.drop j).take ln)) [n]
      |false=>ic T H k ((cs.drop j).take ln) fun l rd=>K (.sl l) (n::rd))
     | false => .no "seal")
    | _, _ => .no "seal")
   | _ => .no "seal")
  |.agg l=>ic T H k l fun l rd=>K (.agg l) rd
  |.kJ l=>ic T H k l fun l rd=>K (.kJ l) rd
  |.jU t v=>ib T H k v fun v rd=>K (.jU t v) rd
  |.jT fn f c=>ic T H k f fun f rd=>ic T H k c fun c rd2=>K (.jT fn f c) (rd++rd2)
  |.sl xs=>K (.sl xs) []
  |.jR t l=>K (.jR t l) []
  |.zD t l _ _=>K (.jR t l) []
  |.nz=>K (.sl []) []
  |.bq e j=>K (.bq e j) []
  |.lit v=>(match v with
   |.slice none 0 0=>K (.sl []) []
   |v=>K (.lit v) [])
  | _ => .no "seal"
def ic(T:ej)(H:aq T.den):Nat→List (SV T.den)→(List (SV T.den)→List Nat→Tr ρ)→Tr ρ
 | 0, _, _ => .no "seal"
 |k+1,xs,K=>match xs with
  |[]=>K [] []
  |x::xs=>ib T H k x fun y rd=>ic T H k xs fun ys rd2=>K (y::ys) (rd++rd2)
end
def oM(T:ej)(H:aq T.den):Nat→List Nat→(List (Nat×aK T.den)→List Nat→Tr ρ)→Tr ρ
 | 0, _, _ => .no "seal"
 |k+1,ns,K=>match ns with
  |[]=>K [] []
  |n::r=>(match H[n]? with
   |some (some (.arr g cl _ cur es))=>(match cl with
    |true=>oM T H k r fun l rd=>K ((n,.arr g true true cur es)::l) (n::rd)
    |false=>ic T H 1000 es fun es' rd=>oM T H k (oJ es++r) fun l rd2=>K ((n,.arr g true true cur es')::l) (n::rd++rd2))
   |some (some (.cE g _ cur t l))=>oM T H k r fun w rd=>K ((n,.cE g true cur t l)::w) (n::rd)
   | _ => .no "seal")
def Rx(T:ej)(σ:zc T)(H:aq T.den)(args:List (SV T.den))(K:EK T ρ):Tr ρ:=
 ic T H 1000 args fun as rd=>
  match (Lk T σ.args as).bind (xA (σ.args.map .v)) with
  |some xs=>.bind (σ.fn xs) fun r=>
   match tF (UN T (hU (σ.res.map .v) r)) with
   |v=>(match yA v with
    |true=>K v [] rd
    |false=>oM T H 1000 (oJ args) fun wr rd2=>K v wr (rd++rd2))
  | none => .no "seal"
def Ry(T:ej)(σ:yB T)(nm:Nat)(H:aq T.den)(args:List (SV T.den))(K:EK T ρ):Tr ρ:=
 ic T H 1000 args fun as rd=>
  match (Lk T σ.args as).bind (xA (σ.args.map .v)) with
  |some xs=>.bind (σ.fn xs) fun l=>K (.bw σ.esz nm 0 none none) [(nm,.cE true false 0 σ.el l)] rd
  | none => .no "seal"
def iY(n:Nat)(r:SV T.den)(hp:aq T.den):aq T.den:=
 if bM n r&&(hp.take n).all (lM n) then hp.take n else hp
def ti(n:Nat)(v:SV T.den):SV T.den:=if bM n v then v else .dead
def lD(n:Nat)(s:bQ T.den):bQ T.den:=
 if (s.hp.take n).all (lM n) then { s with fr:=s.fr.map fun q=>(q.1,ti n q.2),hp:=s.hp.take n } else s
def uI(T:ej)(Q:iM)(s:bQ T.den):List ResultVar→(List (SV T.den)→Tr ρ)→Tr ρ
 |[],K=>K []
 |.tmp t::rs,K=>(match dj s.fr t with
  |.dead=>.fail
  |v=>uI T Q s rs fun l=>K (v::l))
 |.cell a t::rs,K=>(match Q.ty t with
  |some r=>Kd r s.hp (dj s.fr a) fun v _ _=>uI T Q s rs fun l=>K (v::l)
  |none=>.fail)
def keyOf:Code→Nat
 |.region id _ _=>id
 |.seq a _=>keyOf a
 |.cond _ a _=>keyOf a
 |.block _ b|.loop b|.scope b=>keyOf b
 |_=>0
def uJ(b:Code)(s:bQ T.den):Nat:=keyOf b+1000*s.hp.length
def Lm(T:ej)(x:TV T.den):Nat:=
 match XX T x with
 |.lit (.int _ m)=>m.toNat
 |_=>0
def isHole{den:Nat→Type}:SV den→Bool
 |.hole=>true
 |_=>false
def gK(H:aq T.den):rj→List (TV T.den)→SV T.den×List (TV T.den)
 |.hole,l=>(.hole,l)
 |.F6 esz n rg cap,l=>((match H[n]? with
  |some (some o)=>.bw esz n o.cur rg cap
  |_=>.dead),l)
 |.jC n i j len cap,l=>((match H[n]? with
  |some (some o)=>.jC n o.cur i j len cap
  |_=>.dead),l)
 |.val _,l=>(match l with
  |x::r=>(XX T x,r)
  |[]=>(.dead,[]))
 |.own esz n,l=>((match H[n]? with
  |some (some o)=>.bw esz n o.cur none none
  |_=>.dead),l)
 |.tP esz n _ k,l=>(match k with
  |false=>(match l with
   |x::y::r=>((match H[n]? with
    |some (some o)=>.bw esz n o.cur (some (Lm T x,Lm T y)) none
    |_=>.dead),r)
   |_=>(.dead,[]))
  |true=>(match l with
   |x::y::z::r=>((match H[n]? with
    |some (some o)=>.bw esz n o.cur (some (Lm T x,Lm T y)) (some (Lm T z))
    |_=>.dead),r)
   |_=>(.dead,[])))
def kq(H:aq T.den):List rj→List (TV T.den)→List (SV T.den)×List (TV T.den)
 |[],l=>([],l)
 |p::ps,l=>match gK H p l with
  |(v,l')=>match kq H ps l' with
   |(vs,l'')=>(v::vs,l'')
def oN:aK T.den→dv→aK T.den
 |.arr g _ f c _,.list t=>.cE g f (c+1) t []
 |.cE g f c _ _,.list t=>.cE g f (c+1) t []
 |.arr g _ f c _,.fix t=>.cE g f c t []
 |.cE g f c _ _,.fix t=>.cE g f c t []
 |.lZ kk t _,.map _ _=>.lZ kk t []
 |o,_=>o
def tT(H:aq T.den):List (Nat×dv)→aq T.den
 |[]=>H
 |(n,p)::r=>match H[n]? with
  |some (some o)=>tT (H.set n (some (oN o p))) r
  |_=>tT H r
def ku(H:aq T.den)(o:aK T.den):dv→List (TV T.den)→aK T.den×List (TV T.den)
 |.list _,l|.fix _,l=>(match o,l with
  |.cE g f c _ _,⟨.l t,x⟩::r=>(.cE g f c t x,r)
  |_,_=>(o,l))
 |.one p,l=>(match o,gK H p l with
  |.arr g cl f c _,(v,r)=>(.arr g cl f c [v],r)
  |_,_=>(o,l))
 |.agg ps,l=>(match o,kq H ps l with
  |.arr g cl f c _,(vs,r)=>(.arr g cl f c [.agg vs],r)
  |_,_=>(o,l))
 |.map _ _,l=>(match o,l with
  |.lZ _ _ _,⟨.m kk t,x⟩::r=>(.lZ kk t x,r)
  |_,_=>(o,l))
def ie:aq T.den→List (Nat×dv)→List (TV T.den)→aq T.den
 |H,[],_=>H
 |H,(n,p)::r,l=>match H[n]? with
  |some (some o)=>(match ku H o p l with
   |(o',l')=>ie (H.set n (some o')) r l')
  |_=>ie H r l
def tj(n:Nat)(H:aq T.den):vh T.den→List (Nat×rj)→List (TV T.den)→vh T.den×List (TV T.den)
 |fr,[],l=>(fr,l)
 |fr,(d,p)::r,l=>match gK H p l with
  |(v,l')=>tj n H (wj n fr d v) r l'
def C9(n:Nat)(fr:vh T.den):List Nat→vh T.den
 |[]=>fr
 |d::r=>C9 n (wj n fr d .dead) r
def Ln:rk→Option (aK T.den)
 |.ji=>some .ji
 |.list g f t=>some (.cE g f 0 t [])
def br:Nat→List rk→List (Nat×dv)
 |_,[]=>[]
 |n,.ji::r=>br (n+1) r
 |n,.list _ _ t::r=>(n,.list t)::br (n+1) r
def dU(aH:List (Nat×rj))(dead:List Nat)(objs:List (Nat×dv))(ext:List rk)(s:bQ T.den)(l:List (TV T.den)):bQ T.den:=
 match tj s.n (tT s.hp objs++ext.map Ln) (C9 s.n s.fr dead) aH l with
 |(fr,l')=>{ s with fr:=fr,hp:=ie (tT s.hp objs++ext.map Ln) (objs++br s.hp.length ext) l' }
def gF(H:aq T.den)(p:rj)(v:SV T.den):Option (List (TV T.den)):=
 match p with
 |.hole=>(match isHole v with
  |true=>some []
  |false=>none)
 |.F6 esz n rg cap=>(match v with
  |.bw Bb n' c rg' IL=>(match H[n]? with
   |some (some o)=>if Bb=esz∧n'=n∧c=o.cur∧rg'=rg∧IL=cap then some [] else none
   |_=>none)
  |_=>none)
 |.jC n i j len cap=>(match v with
  |.jC n' c i' j' Rz IL=>(match H[n]? with
   |some (some o)=>if n'=n∧c=o.cur∧i'=i∧j'=j∧Rz=len∧IL=cap then some [] else none
   |_=>none)
  |_=>none)
 |.val t=>(match cL v with
  |true=>none
  |false=>match T.dn t v with
   |some x=>some [⟨.v t,x⟩]
   |none=>none)
 |.own esz n=>match v with
  |.bw Bb n' c none none=>(match H[n]? with
   |some (some o)=>if Bb=esz∧n'=n∧c=o.cur then some [] else none
   |_=>none)
  |_=>none
 |.tP esz n t k=>match v with
  |.bw Bb n' c rg cap=>(match H[n]?,pf H n' c rg with
   |some (some o),some (off,len)=>if Bb=esz∧n'=n∧c=o.cur then
     (T.dn t (.lit (.int .i64 off))).bind fun x=>(T.dn t (.lit (.int .i64 len))).bind fun y=>(match k,cap with
       |false,none=>some [⟨.v t,x⟩,⟨.v t,y⟩]
       |true,some m=>(T.dn t (.lit (.int .i64 m))).map fun z=>[⟨.v t,x⟩,⟨.v t,y⟩,⟨.v t,z⟩]
       |_,_=>none) else none
   |_,_=>none)
  |_=>none
def jo(H:aq T.den):List rj→List (SV T.den)→Option (List (TV T.den))
 |[],[]=>some []
 |p::ps,v::vs=>(gF H p v).bind fun l=>(jo H ps vs).map fun r=>l++r
 |_,_=>none
def fp(H:aq T.den)(o:aK T.den):dv→Option (List (TV T.den))
 |.list t|.fix t=>(match o with
  |.cE _ _ _ t' l=>if h:t'=t then some [⟨.l t,C6 h l⟩] else none
  |.arr _ true _ _ es=>(qX T t es).map fun l=>[⟨.l t,l⟩]
  |_=>none)
 |.one p=>(match o with
  |.arr _ _ _ _ [v]=>gF H p v
  |_=>none)
 |.agg ps=>(match o with
  |.arr _ _ _ _ [.agg vs]=>jo H ps vs
  |_=>none)
 |.map kk t=>(match o with
  |.lZ tA t' m=>if tA=kk∧t'=t then some [⟨.m tA t',m⟩] else none
  |_=>none)
def lN(H:aq T.den):List (Nat×dv)→Option (List (TV T.den))
 |[]=>some []
 |(n,p)::r=>match H[n]? with
  |some (some o)=>(fp H o p).bind fun l=>(lN H r).map fun m=>l++m
  |_=>none
def sw(H:aq T.den)(fr:vh T.den):List (Nat×rj)→Option (List (TV T.den))
 |[]=>some []
 |(d,p)::r=>(gF H p (dj fr d)).bind fun l=>(sw H fr r).map fun m=>l++m
def xE(aH:List (Nat×rj))(objs:List (Nat×dv))(s:bQ T.den):Option (List (TV T.den)):=
 (sw s.hp s.fr aH).bind fun l=>(lN s.hp objs).map fun m=>l++m
def tm(H H':aq T.den)(objs:List (Nat×dv)):Bool:=
 objs.all fun q=>match H[q.1]?,H'[q.1]? with
  |some (some o),some (some o')=>decide (o.flags=o'.flags)
  |_,_=>false
def jj(H0 H:aq T.den):List (Nat×dv)→Tr ρ→Tr ρ
 |[],K=>K
 |(n,.fix _)::r,K=>(match H0[n]?,H[n]? with
  |some (some o),some (some o')=>.cond (decide (o'.len=o.len)) (jj H0 H r K) .fail
  | _, _ => .no "fix")
 |_::r,K=>jj H0 H r K
def zH(H0 H:aq T.den)(objs:List (Nat×dv)):Bool:=
 objs.all fun q=>match q.2 with
  |.list _=>true
  |_=>match H0[q.1]?,H[q.1]? with
   |some (some o),some (some o')=>Nat.beq o.cur o'.cur
   |_,_=>false
def subset(a b:List Nat):Bool:=a.all fun x=>b.contains x
def nodupB:List Nat→Bool
 |[]=>true
 |x::r=>!r.contains x&&nodupB r
def F7(H:aq T.den):Nat→List rk→Bool
 |_,[]=>true
 |n,e::r=>(match H[n]?,e with
  |some (some o),.ji=>o.flags.2.1
  |some (some o),.list g f _=>decide (o.flags=(g,true,f))
  |_,_=>false)&&F7 H (n+1) r
def rj.n5:rj→List Nat
 |.val _|.hole=>[]
 |.own _ n|.tP _ n _ _|.F6 _ n _ _|.jC n _ _ _ _=>[n]
def dv.n5:dv→List Nat
 |.list _|.fix _|.map _ _=>[]
 |.one p=>p.n5
 |.agg ps=>ps.flatMap rj.n5
def xF(uj:Nat)(aH:List (Nat×rj))(objs:List (Nat×dv)):Bool:=
 (aH.flatMap (fun q=>q.2.n5)++objs.flatMap (fun q=>q.2.n5)).all fun n=>Nat.blt n uj||(objs.map (·.1)).contains n
def Ex(n:Nat)(aH:List (Nat×rj))(dead:List Nat):Bool:=(aH.map (·.1)++dead).all fun d=>Nat.blt d n
def uK(aH:List (Nat×rj))(dead:List Nat)(objs:List (Nat×dv))(ext:List rk)(s0 s:bQ T.den):Bool:=
 Ex s0.n aH dead&&xF s0.hp.length aH (objs++br s0.hp.length ext)&&subset s.wf (aH.map (·.1)++dead)&&subset (s.wh.filter fun n=>decide (n<s0.hp.length)) (objs.map (·.1)) &&
  decide (s.hp.length=s0.hp.length+ext.length)&&tm s0.hp s.hp objs&&zH s0.hp s.hp objs&&F7 s.hp s0.hp.length ext
def Ke(H:aq T.den)(l:List (Nat×dv)):Bool:=l.all fun q=>match H[q.1]?,q.2 with
 |some (some (.arr _ _ _ _ [_])),.one _=>true
 |some (some (.arr _ _ _ _ [_])),.agg _=>true
 |_,_=>false
def Lo(h:Hint)(s0 s:bQ T.den)(kind:Option Nat)(o:Er):Option (HL T.den (o.lC h.objs)):=
 match decide (o.kind=kind)&&decide (s.js=o.js)&&(uK o.aH (h.aH.map (·.1)++h.dead) (ko h.objs o.more) o.ext s0 s&&(nodupB ((ko h.objs o.more).map (·.1))&&Ke s0.hp o.more)) with
 |true=>(xE o.aH ((ko h.objs o.more)++br s0.hp.length o.ext) s).bind (xA (o.lC h.objs))
 |false=>none
def wo(key:Nat)(h:Hint)(s0 s:bQ T.den)(kind:Option Nat):(l:List Er)→(B8 T.den h.objs l→Tr ρ)→Tr ρ
 |[],_=>.bad key (some kind) s0 s
 |[o],K=>(match Lo h s0 s kind o with
  |some x=>jj s0.hp s.hp h.objs (K x)
  |none=>.bad key (some kind) s0 s)
 |o::p::r,K=>(match Lo h s0 s kind o with
  |some x=>jj s0.hp s.hp h.objs (K (.inl x))
  |none=>wo key h s0 s kind (p::r) fun x=>K (.inr x))
def lE(h:Hint)(s:bQ T.den)(o:Er)(x:HL T.den (o.lC h.objs)):bQ T.den:=
 let s':=dU o.aH (h.aH.map (·.1)++h.dead) (ko h.objs o.more) o.ext s (hU (o.lC h.objs) x)
 { s' with wf:=o.aH.map (·.1)++(h.aH.map (·.1)++(h.dead++s.wf)),wh:=(ko h.objs o.more).map (·.1)++s.wh,js:=o.js }
def Ey(s:bQ T.den)(kind:Option Nat):ri T.den:=
 match kind with
 |some id=>.exit id s
 |none=>.ret s
def Ql(h:Hint)(s:bQ T.den):(l:List Er)→B8 T.den h.objs l→(ri T.den→Tr ρ)→Tr ρ
 |[],_,_=>.fail
 |[o],w,K=>(lE h s o w).force fun s=>K (Ey s o.kind)
 |o::p::r,w,K=>.sum w (fun x=>(lE h s o x).force fun s=>K (Ey s o.kind)) fun w=>Ql h s (p::r) w K
def Hint.ok(h:Hint):Bool:=
 nodupB (h.aH.map (·.1)++h.dead)&&nodupB (h.objs.map (·.1))&&h.outs.all fun o=>nodupB (o.aH.map (·.1))
def yC(step:Oper→bQ T.den→(bQ T.den→Tr ρ)→Tr ρ):List (G×Oper)→bQ T.den→(bQ T.den→Tr ρ)→Tr ρ
 |[],s,K=>K s
 |(g,o)::rest,s,K=>zG g s fun s want=>
  match want with
  |false=>s.ia o.dst (.lit undef) [] fun s=>yC step rest s K
  |true=>step o s fun s'=>yC step rest s' K
def nO:List Item→List (G×Oper)→List (G×Item)
 |x::r,(g,_)::l=>(g,x)::nO r l
 |_,_=>[]
def Bc:List (G×Item)→(List (G×Item)→Tr ρ)→Tr ρ
 |[],K=>K []
 |(g,⟨i,nm,o⟩)::r,K=>Bc r fun l=>K ((g,⟨i,nm,o⟩)::l)
def uM[ah](step:Nat→Oper→bQ T.den→EK T ρ→Tr ρ):List (G×Item)→bQ T.den→List gB→(bQ T.den→List gB→Tr ρ)→Tr ρ
 |[],s,fs,K=>K s fs
 |(g,x)::rest,s,fs,K=>zG g s fun s want=>
  match want with
  |false=>s.ia x.o.dst (.lit undef) [] fun s=>uM step rest s (fs++[⟨x.idx,[],[]⟩]) K
  |true=>step (x.at s.hp.length) x.o s fun v wr rd=>
   match wr.all (fun q=>decide (q.1<s.hp.length)&&((aC x.o.op&&decide (q.1=x.nm))||(match s.hp[q.1]? with|some (some _)=>true|_=>false))) with
   |true=>s.ia x.o.dst v wr fun s=>uM step rest s (fs++[⟨x.idx,rd,wr.map (·.1)⟩]) K
   |false=>.fail
end
def sy{T:ej}(esz j nm:Nat)(e:SV T.den):Option (SV T.den):=
 match e with
 |.agg l=>(match l[j]? with
  |some (.lit (.slice none 0 0))=>some (.agg (l.set j (.bw esz nm 0 none none)))
  |_=>none)
 |.lit (.slice none 0 0)=>if j=0 then some (.bw esz nm 0 none none) else none
 |_=>none
def Lp{T:ej}{ρ:Type}(d:Tmp):List (Nat×Nat)→bQ T.den→(bQ T.den→Tr ρ)→Tr ρ
 |[],s,K=>K s
 |(j,esz)::r,s,K=>(match dj s.fr d with
  |.ref n _ i k=>(match s.hp[n]? with
   |some (some (.arr g _ f cur es))=>(match (es[i]?).bind (sy esz (k+j) s.hp.length) with
    |some e'=>s.ia none (.lit undef) [(n,.arr g false f cur (es.set i e')),(s.hp.length,.arr true true false 0 [])] fun s=>Lp d r s K
    | none => .no "nil")
   | _ => .no "nil")
  |v=>(match sy esz j s.hp.length v with
   |some v'=>s.ia (some d) v' [(s.hp.length,.arr true true false 0 [])] fun s=>Lp d r s K
   | none => .no "nil"))
def F8{T:ej}{ρ:Type}(l:Tmp→List (Nat×Nat))(dst:Option Tmp)(s:bQ T.den)(K:bQ T.den→Tr ρ):Tr ρ:=
 match dst with
 |some d=>Lp d (l d) s K
 |none=>K s
def Da{den:Nat→Type}(j:Nat):SV den→Option (SV den)
 |.agg l=>(match Nat.blt j l.length with
  |true=>some (.agg (l.set j .hole))
  |false=>none)
 |_=>none
def Bd{T:ej}{ρ:Type}:List (Nat×Nat)→bQ T.den→(bQ T.den→Tr ρ)→Tr ρ
 |[],s,K=>K s
 |(d,j)::r,s,K=>(match dj s.fr d with
  |.ref n _ i k=>(match s.hp[n]? with
   |some (some (.arr g _ f cur es))=>(match (es[i]?).bind (Da (k+j)) with
    |some e'=>s.ia none (.lit undef) [(n,.arr g false f cur (es.set i e'))] fun s=>Bd r s K
    | none => .no "a hole")
   | _ => .no "a hole")
  | _ => .no "a hole")
def cellOf{T:ej}(s:bQ T.den)(d j:Nat):Option (SV T.den):=
 match dj s.fr d with
 |.ref n _ i k=>(match s.hp[n]? with
  |some (some (.arr _ _ _ _ es))=>(match es[i]? with
   |some (.agg l)=>l[k+j]?
   |_=>none)
  |_=>none)
 |.agg l=>l[j]?
 |v=>(match Nat.beq j 0 with
  |true=>some v
  |false=>none)
def setCell{T:ej}(s:bQ T.den)(d j:Nat)(v:SV T.den):bQ T.den:=
 match dj s.fr d with
 |.ref n _ i k=>(match s.hp[n]? with
  |some (some (.arr g cl f cur es))=>(match es[i]? with
   |some (.agg l)=>{ s with hp:=s.hp.set n (some (.arr g cl f cur (es.set i (.agg (l.set (k+j) v))))),wh:=n::s.wh }
   |_=>s)
  |_=>s)
 |.agg l=>{ s with fr:=wj s.n s.fr d (.agg (l.set j v)),wf:=d::s.wf }
 |_=>{ s with fr:=wj s.n s.fr d v,wf:=d::s.wf }
def Of{ρ:Type}:Nat→Nat→Int→(Int→Tr ρ)→Tr ρ
 |0,_,_,_=>.fail
 |b+1,m,n,K=>.cond (n==Int.ofNat m) (K (Int.ofNat m)) (Of b (m+1) n K)
def F9{T:ej}{ρ:Type}(t:Nat)(l:List (T.den t)):Nat→Nat→(List (SV T.den)→Tr ρ)→Tr ρ
 |0,_,K=>K []
 |b+1,i,K=>.bind l[i]? fun x=>F9 t l b (i+1) fun xs=>K (T.up t x::xs)
def Be{T:ej}{ρ:Type}(s:bQ T.den)(w:Tw)(K:bQ T.den→Tr ρ):Tr ρ:=
 match w with
 |.num d j b=>(match cellOf s d j with
  |some (.lit (.int k n))=>Of b 0 n fun m=>(setCell s d j (.lit (.int k m))).force K
  | _ => .no "a number")
 |.lst d j n=>(match cellOf s d j with
  |some (.jR t l)=>.cond (Nat.blt 0 n&&decide (l.length=n)) (F9 t l n 0 fun xs=>(setCell s d j (.sl xs)).force K) .fail
  | _ => .no "a list")
 |.arr d n=>(match dj s.fr d with
  |.bw _ nm _ _ _=>(match s.hp[nm]? with
   |some (some (.cE g f cur t l))=>.cond (decide (l.length=n)) (F9 t l n 0 fun xs=>bQ.force { s with hp:=s.hp.set nm (some (.arr g true f cur xs)),wh:=nm::s.wh } K) .fail
   | _ => .no "an array")
  | _ => .no "an array")
 |.int d j=>(match cellOf s d j with
  |some (.lit (.int k n))=>.bind (some n) fun n=>(setCell s d j (.lit (.int k n))).force K
  | _ => .no "a number")
 |.name d=>(match dj s.fr d with
  |.bw esz nm c rg cap=>(match s.hp[nm]? with
   |some (some (.cE g f cur t l))=>.bind (some l) fun l=>(match rg with
    |none=>bQ.force { s with hp:=s.hp.set nm (some (.cE g f cur t l)),wh:=nm::s.wh } K
    |some (off,len)=>.bind (some off) fun off=>.bind (some len) fun len=>
     bQ.force { s with fr:=wj s.n s.fr d (.bw esz nm c (some (off,len)) cap),hp:=s.hp.set nm (some (.cE g f cur t l)),wf:=d::s.wf,wh:=nm::s.wh } K)
   | _ => .no "a name")
  | _ => .no "a name")
def XZ{T:ej}{ρ:Type}:List Tw→bQ T.den→(bQ T.den→Tr ρ)→Tr ρ
 |[],s,K=>K s
 |w::r,s,K=>Be s w fun s=>XZ r s K
def X0{T:ej}{ρ:Type}(l:Tmp→List Tw)(dst:Option Tmp)(s:bQ T.den)(K:bQ T.den→Tr ρ):Tr ρ:=
 match dst with
 |some d=>XZ (l d) s K
 |none=>K s
def zd{den:Nat→Type}(u:List Nat)(fr:vh den):List Nat→List (SV den)
 |[]=>[]
 |d::r=>(match u.contains d with
  |true=>dj fr d
  |false=>.dead)::zd u fr r
def nP{den:Nat→Type}(n:Nat)(fr:vh den):List Tmp→List (SV den)→vh den
 |p::ps,x::xs=>nP n (wj n fr p x) ps xs
 |_,_=>fr
def Ez(js:List (Nat×nf))(n:Nat)(st:nf):List (Nat×nf):=js.map fun q=>match Nat.beq q.1 n with
 |true=>(q.1,st)
 |false=>q
def Ga(js:List (Nat×nf))(n:Nat):List (Nat×nf):=js.filter fun q=>!Nat.beq q.1 n
def xG(js:List (Nat×nf))(n:Nat):Bool:=js.all fun q=>Nat.blt q.1 n
def bQ.over{T:ej}(s:bQ T.den)(n:Nat)(hp:aq T.den)(wh:List Nat)(js:List (Nat×nf)):bQ T.den:=
 { s with hp:=hp.set n (some .ji),wh:=wh,js:=Ga js n }
def Og{T:ej}{ρ:Type}(s:bQ T.den)(n:Nat)(dst:Option Tmp)(b:Bool)(st:nf)(s2:bQ T.den)(K:bQ T.den→Tr ρ):Tr ρ:=
 match cQ s2.js n with
 |some .busy=>(match xG s2.js s.hp.length with
  |true=>qE (iY s.hp.length (.lit (.bool b)) s2.hp) fun hp=>bQ.ia ⟨s.fn,s.n,s.fr,hp,s.wf,s2.wh,Ez s2.js n st⟩ dst (.lit (.bool b)) [] K
  | false => .no "a round's end")
 | _ => .no "a round's end"
def tn(pr:List Nat)(fs:List gB):Bool:=
 match fs.all fun f=>f.wr.isEmpty with
 |true=>true
 |false=>gi pr fs
def Kf{T:ej}(Q:iM)(ev:Operand→SV T.den)(op:Op)(H:aq T.den)(n:Nat)(o':aK T.den):Bool:=
 match op with
 |.store t a _=>(match Q.ty t,ev a,H[n]? with
  |some r,.ref n' _ i j,some (some (.arr _ false _ cur es))=>(match es[i]? with
   |some (.agg l)=>Nat.beq n' n&&Nat.ble (j+r.size) l.length&&((l.drop j).take r.size).all isHole&&Nat.beq cur o'.cur&&Nat.beq es.length o'.len
   |_=>false)
  |_,_,_=>false)
 |_=>false
def xH[ah]{T:ej}(Q:iM)(nm:Nat){ρ:Type}:List Oper→bQ T.den→Option Nat→List Nat→(bQ T.den→Option Nat→List Nat→Tr ρ)→Tr ρ
 |[],s,ov,rd,K=>K s ov rd
 |o::r,s,ov,rd,K=>(match o.guard with
  | some _ => .no "a look"
  |none=>(match o.op with
   | .call _ => .no "a look"
   |.assign (.const (.slice none 0 0))=>s.ia o.dst (.lit cz) [] fun s=>xH Q nm r s ov rd K
   |op=>Rv Q s.hp.length s.hp (ga s.fr) o fun v wr rd'=>(match wr.all fun q=>Nat.ble nm q.1 with
     |true=>s.ia o.dst v wr fun s=>xH Q nm r s ov (rd++rd') K
     |false=>(match ov,wr with
      |none,[(n,o')]=>(match Nat.blt n nm&&Kf Q (ga s.fr) op s.hp n o' with
       |true=>s.ia o.dst v [(n,o')] fun s=>xH Q nm r s (some n) (rd++(rd'++[n])) K
       | false => .no "a look")
      | _, _ => .no "a look"))))
def nQ[ah]{T:ej}(Q:iM)(nm:Nat){ρ:Type}:Code→bQ T.den→Option Nat→List Nat→(Bool→bQ T.den→Option Nat→List Nat→Tr ρ)→Tr ρ
 |.skip,s,ov,rd,K=>K false s ov rd
 |.ret,s,ov,rd,K=>K true s ov rd
 |.seq a b,s,ov,rd,K=>nQ Q nm a s ov rd fun q s ov rd=>(match q with
  |true=>K true s ov rd
  |false=>nQ Q nm b s ov rd K)
 |.region _ ops false,s,ov,rd,K=>xH Q nm ops.toList s ov rd (K false)
 |.cond o a b,s,ov,rd,K=>(match ga s.fr o with
  |.lit (.bool t)=>.cond t (nQ Q nm a s ov rd K) (nQ Q nm b s ov rd K)
  | _ => .no "a look")
 | _, _, _, _, _ => .no "a look"
def Kg{den:Nat→Type}(fr:vh den)(rs:List ResultVar):List Nat:=rs.flatMap fun
 |.tmp _=>[]
 |.cell a _=>pd (dj fr a)
def zJ{den:Nat→Type}(fr:vh den)(rs:List ResultVar):Bool:=rs.all fun
 |.tmp _=>true
 |.cell a _=>!cL (dj fr a)
def Oh[ah](S:rl){ρ:Type}(g:FuncId)(args:List (SV S.T.den))(H:aq S.T.den)(K:EK S.T ρ):Tr ρ:=
 match S.C.kind g,S.C.rB g,S.C.P.funcs[g]? with
 |.imp,none,some fn=>(match fn.body with
  |some c=>(match E7 c with
   | true => .no "a look"
   |false=>nQ (S.Qf g) H.length c ⟨g,max fn.ntmps args.length,oI 0 args,H,[],[],[]⟩ none [] fun _ s ov rd=>uI S.T S.Q s fn.results.toList fun l=>
   (match bM H.length (tF l)&&zJ s.fr fn.results.toList&&(match ov with
     |some n=>(match s.hp[n]? with
      |some o=>lM H.length o
      |none=>false)
     |none=>true) with
   |true=>K (tF l) [] ((rd++Kg s.fr fn.results.toList).filter fun n=>Nat.blt n H.length)
   | false => .no "a look's answer"))
  | none => .no "a look")
 | _, _, _ => .no "a call without an answer"
def exE[ah](S:rl){ρ:Type}(nm:Nat)(o:Oper)(s:bQ S.T.den)(K:EK S.T ρ):Tr ρ:=
 match o.op with
 |.call c=>
  (match c.callee with
  |.builtin _=>Rv (S.Qf s.fn) nm s.hp (ga s.fr) o K
  |.value f=>
   (match nN (ga s.fr f) (c.args.toList.map (ga s.fr)) with
   |none=>.fail
   |some (g,args)=>(match aC o.op with
    |true=>(match args.any cL,S.own g with
     |false,some σ=>Ry S.T σ nm s.hp args K
     | _, _ => .no "a call of one's own without an answer")
    |false=>(match args.any cL,S.sum g with
     |false,some σ=>Rx S.T σ s.hp args K
     |false,none=>Oh S g args s.hp K
     | _, _ => .no "a call without an answer")))
  | .invoke _ _ => .no "invoke")
 |_=>Rv (S.Qf s.fn) nm s.hp (ga s.fr) o K
def Oi[ah]{T:ej}{ρ:Type}(ec:Code→bQ T.den→(ri T.den→Tr ρ)→Tr ρ)(eo:Oper→bQ T.den→(bQ T.den→Tr ρ)→Tr ρ):Code→bQ T.den→(ri T.den→Option (SV T.den)→Tr ρ)→Tr ρ
 |.seq x y,s,K=>
  (match vt x with
  |some (ops,v)=>qF ops ops.toList.dropLast fun l=>yC eo l s fun s1=>(match nN (ga s1.fr v) [] with
   |some _=>ec y s1 fun o=>K o (some (ga s1.fr v))
   | none => .no "what is deferred")
  |none=>ec x s fun
   |.norm s'=>Oi ec eo y s' K
   |r=>K r none)
 |c,s,K=>ec c s fun o=>K o none
def Gb[ah]{T:ej}{ρ:Type}(ec:Code→bQ T.den→(ri T.den→Tr ρ)→Tr ρ)(Q:iM)(P:Program)(rs:List ResultVar)(s:bQ T.den)(d:Option (SV T.den))(K:List (SV T.den)→aq T.den→List Nat→List (Nat×nf)→Tr ρ):Tr ρ:=
 match d with
 |none=>uI T Q s rs fun l=>K l s.hp s.wh s.js
 |some v=>(match nN v [] with
  | none => .no "what is deferred"
  |some (g,as)=>(match P.funcs[g]? with
   |none=>.fail
   |some fg=>(match fg.body with
    |none=>.fail
    |some cg=>(match cw cg&&!as.any cL with
     | false => .no "what is deferred"
     |true=>bQ.force ⟨g,max fg.ntmps as.length,oI 0 as,s.hp,[],s.wh,s.js⟩ fun t0=>ec (qj cg) t0 fun
      |.norm t|.ret t=>uI T Q t fg.results.toList fun _=>uI T Q ⟨s.fn,s.n,s.fr,t.hp,s.wf,t.wh,t.js⟩ rs fun l=>K l t.hp t.wh t.js
      |.exit _ _=>.fail))))
mutual
def UT[ah](S:rl):Nat→(ρ:Type)→FuncId→List (SV S.T.den)→aq S.T.den→List Nat→List (Nat×nf)→(SV S.T.den→aq S.T.den→List Nat→List (Nat×nf)→Tr ρ)→Tr ρ
 | 0, _, _, _, _, _, _, _ => .no "fuel"
 |k+1,ρ,f,args,hp,wh,js,K=>
  match S.C.P.funcs[f]? with
  |none=>.fail
  |some fn=>
   match fn.body with
   |none=>.fail
   |some c=>uH [max fn.ntmps args.length] fun _=>bQ.force ⟨f,max fn.ntmps args.length,oI 0 args,hp,[],wh,js⟩ fun s=>
    (match E7 c with
    |true=>(match cw c with
     |true=>Oi (fun c s K=>ze S k ρ c s K) (fun o s K=>RA S k ρ o s K) c s fun o d=>(match o with
      |.norm s'|.ret s'=>Gb (fun c s K=>ze S k ρ c s K) S.Q S.C.P fn.results.toList s' d fun l hp wh js=>K (tF l) hp wh js
      |.exit _ _=>.fail)
     | false => .no "a range beside a deferred call")
    |false=>ze S k ρ c s fun
    |.norm s|.ret s=>uI S.T S.Q s fn.results.toList fun l=>K (tF l) s.hp s.wh s.js
    |.exit _ _=>.fail)
def ze[ah](S:rl):Nat→(ρ:Type)→Code→bQ S.T.den→(ri S.T.den→Tr ρ)→Tr ρ
 | 0, _, _, _, _ => .no "fuel"
 |k+1,ρ,c,s,K=>
  match c with
  |.skip|.label _=>K (.norm s)
  |.ret=>K (.ret s)
  |.exit id=>K (.exit id s)
  |.seq a b=>ze S k ρ a s fun
   |.norm s'=>ze S k ρ b s' K
   |r=>K r
  |.cond o a b=>
   (match ga s.fr o with
   |.lit (.bool t)=>.cond t (ze S k ρ a s K) (ze S k ρ b s K)
   | _ => .no "cond")
  |.block id b=>ze S k ρ b s fun
   |.exit Mf s'=>if Mf=id then K (.norm s') else K (.exit Mf s')
   |r=>K r
  |.scope b=>
   (match rJ b with
   |some c=>ze S k ρ c s K
   | none => .no "code")
  |.loop b=>
   (match S.hint s.fn (uJ b s) with
   |none=>(match S.xB s.fn (keyOf b) with
    |true=>ze S k ρ b s fun
     |.norm s'=>(match xG s'.js s.hp.length with
      |true=>(lD s.hp.length s').force fun s'=>ze S k ρ (.loop b) s' K
      | false => .no "a round's end")
     |r=>K r
    |false=>.nY s b)
   |some h=>
    (match h.ok&&Ex s.n h.aH h.dead&&xF s.hp.length h.aH h.objs,(xE h.aH h.objs s).bind (xA h.lC) with
    |true,some x0=>.loop (τ:=HL S.T.den h.lC) (ω:=B8 S.T.den h.objs h.outs)
      (fun x=>bQ.force { dU h.aH h.dead h.objs [] s (hU h.lC x) with wf:=[],wh:=[] } fun s1=>ze S k _ b s1 fun
        |.norm s'=>
         (match lD s.hp.length s' with
         |u9=>(match decide (u9.js=s.js)&&uK h.aH h.dead h.objs [] s u9,(xE h.aH h.objs u9).bind (xA h.lC) with
          |true,some y=>jj s.hp u9.hp h.objs (.ret (.inl y))
          |_,_=>.bad (uJ b s) none s u9))
        |.exit id s'=>wo (uJ b s) h s s' (some id) h.outs fun w=>.ret (.inr w)
        |.ret s'=>wo (uJ b s) h s s' none h.outs fun w=>.ret (.inr w))
      x0 fun w=>Ql h s h.outs w K
    |_,_=>.bad (uJ b s) none s s))
  |.region id ops draw=>
   (match draw with
   |false=>Bd (S.C.ja s.fn id) s fun s=>XZ (S.tw s.fn (1000000+id)) s fun s=>qF ops ops.toList fun l=>yC (fun o s K=>RA S k ρ o s K) l s fun s'=>K (.norm s')
   |true=>
    if vq ops=true then
     Bd (S.C.ja s.fn id) s fun s1=>XZ (S.tw s.fn (1000000+id)) s1 fun s1=>qF ops ops.toList fun l=>Bc (nO (bW 0 s1.hp.length (ops.toList.take (S.C.head s.fn id ops))) l) fun li=>uM (fun nm o s K=>exE S nm o s K) li
       { s1 with hp:=s1.hp++List.replicate ((ops.toList.take (S.C.head s.fn id ops)).filter fun o=>aC o.op).length none } [] fun s' fs=>
      if (tn (cH ops.toList) fs && oW (cH ops.toList) ops.size (S.C.head s.fn id ops)) = true then yC (fun o s K => RA S k ρ o s K) (l.drop (S.C.head s.fn id ops)) s' fun s' => K (.norm s') else .no "an order"
    else .no "a region")
  |.rangeFunc f ps as bd=>
   (match nN (ga s.fr f) [.mp true s.hp.length] with
   |some (g,args)=>(match !args.any cL&&(eK as++eK bd).all (fun d=>!cL (dj s.fr d)||!Nat.blt d s.n) with
    |true=>UT S k ρ g args (s.hp++[some (.rh s.fn ps as bd (zd (eK as++eK bd) s.fr (List.range s.n)))]) s.wh ((s.hp.length,.ready)::s.js) fun _ hp wh js=>
     (match cQ js s.hp.length with
     |some .ready=>K (.norm (s.over s.hp.length hp wh js))
     |some (.jump none)=>K (.ret (s.over s.hp.length hp wh js))
     |some (.jump (some id))=>K (.exit id (s.over s.hp.length hp wh js))
     | _ => .no "a range's end")
    | false => .no "a range over what is dead")
   | none => .no "a range")
  | _ => .no "code"
def RA[ah](S:rl):Nat→(ρ:Type)→Oper→bQ S.T.den→(bQ S.T.den→Tr ρ)→Tr ρ
 | 0, _, _, _, _ => .no "fuel"
 |k+1,ρ,o,s,K=>
  match o.op with
  |.call c=>
   (match c.callee with
   |.builtin _=>Rv (S.Qf s.fn) s.hp.length s.hp (ga s.fr) o fun v wr _=>s.ia o.dst v wr K
   |.value f=>
    (match nN (ga s.fr f) (c.args.toList.map (ga s.fr)) with
    |none=>(match ga s.fr f with
     |.mp true n=>(match s.hp[n]?,cQ s.js n,(c.args.toList.map (ga s.fr)).any cL with
      |some (some (.rh fn ps as bd fr)),some .ready,false=>
       (match Nat.beq c.args.size ps.size&&cw as&&cw bd with
       |true=>bQ.force ⟨fn,fr.length,nP fr.length (oI 0 fr) ps.toList (c.args.toList.map (ga s.fr)),s.hp,[],s.wh,s.js⟩ fun s0=>
        ze S k ρ as s0 fun
        |.norm s1=>(match cQ s1.js n with
         |some .ready=>ze S k ρ bd { s1 with js:=Ez s1.js n .busy } fun
          |.norm s2=>Og s n o.dst true .ready s2 K
          |.exit id s2=>Og s n o.dst false (.jump (some id)) s2 K
          |.ret s2=>Og s n o.dst false (.jump none) s2 K
         | _ => .no "a round")
        | _ => .no "a round"
       | false => .no "a round")
      | _, _, _ => .no "a round")
     | _ => .no "what is called")
    |some (g,args)=>(match aC o.op with
     |true=>(match args.any cL,S.own g with
      |false,some σ=>Ry S.T σ s.hp.length s.hp args fun v wr _=>s.ia o.dst v wr K
      | _, _ => .no "a call of one's own without an answer")
     |false=>(match args.any cL,S.sum g with
     |false,some σ=>Rx S.T σ s.hp args fun v wr _=>s.ia o.dst v wr K
     |false,none=>(match S.C.kind g with
      | .pure => .no "a call without an answer"
      |.imp=>UT S k ρ g args s.hp s.wh s.js fun v hp wh js=>(match xG js s.hp.length with
       |true=>qE (iY s.hp.length v hp) fun hp=>bQ.ia ⟨s.fn,s.n,s.fr,hp,s.wf,wh,js⟩ o.dst v [] K
       | false => .no "a call's end"))
     | true, _ => .no "a dead argument")))
   | .invoke _ _ => .no "invoke")
  |.assign (.const (.slice none 0 0))=>
   (match o.dst with
   |some d=>
    if S.C.acc s.fn d then
     match S.Q.elem o.type with
     |some r=>if 0<r.size then s.ia (some d) (.bw r.size s.hp.length 0 none none) [(s.hp.length,.arr true true false 0 [])] K else .fail
     |none=>.fail
    else s.ia (some d) (.lit cz) [] K
   |none=>K s)
  |_=>Rv (S.Qf s.fn) s.hp.length s.hp (ga s.fr) o fun v wr _=>s.ia o.dst v wr fun s=>F8 (S.C.tB s.fn) o.dst s fun s=>X0 (S.tw s.fn) o.dst s K
end
end Go.PI
namespace Go.PI
def Oj{den:Nat→Type}(res:List Nat)(v:SV den):List (SV den):=
 match res with
 |[_]=>[v]
 |_=>match v with
  |.kJ l=>l
  |_=>[.dead]
def UU[ah](S:rl)(k:Nat)(f:FuncId)(args res:List Nat)(xs:HL S.T.den (args.map .v)):Tr (HL S.T.den (res.map .v)):=
 UT S k _ f (UN S.T (hU _ xs)) [] [] [] fun v hp _ _=>
  ib S.T hp 1000 v fun v' _=>match (Lk S.T res (Oj res v')).bind (xA (res.map .v)) with
  |some r=>.ret r
  | none => .no "a result"
end Go.PI
end
section
/- PS: words for the printed tables of a seat's types. -/
namespace Go.PI
section
variable {den:Nat→Type}{α:Type}
def dI(k:IntKind):SV den→Option Int
 |.lit (.int k' n)=>if k=k' then some n else none
 |_=>none
def dB:SV den→Option Bool
 |.lit (.bool b)=>some b
 |_=>none
def dS:SV den→Option ByteArray
 |.lit (.string s)=>some s
 |_=>none
def X1(d:SV den→Option α):List (SV den)→Option (List α)
 |[]=>some []
 |v::vs=>(d v).bind fun x=>(X1 d vs).map fun l=>x::l
def WJ(e:Nat)(d:SV den→Option (den e)):SV den→Option (List (den e))
 |.jR t l=>if h:t=e then some (C6 h l) else none
 |.sl vs=>X1 d vs
 |.lit (.slice none 0 0)=>some []
 |_=>none
def RB(d:SV den→Option α):SV den→Option α
 |.bq v 0=>d v
 |_=>none
end
abbrev UW{α:Type}(q:α→AV→Prop)(x:List α)(a:AV):Prop:=(∃ l,a=.sl l∧aE q x l)∨(x=[]∧a=.lit cz)
abbrev Qm{α:Type}(q:α→AV→Prop)(x:α)(a:AV):Prop:=∃ b,a=.bq b 0∧q x b
abbrev gd{α:Type}(c:Bool)(x:Option α):Option α:=bif c then x else none
abbrev lc{α:Type}(n m:Nat)(l:List α):Bool:=decide (n+m≤l.length)
abbrev tk{α:Type}(n m:Nat)(l:List α):List α:=List.take m (List.drop n l)
def zI:AV:=.lit (.int .i64 0)
def zB:AV:=.lit (.bool false)
def zF:AV:=.lit .nilFunc
def zL:AV:=.lit (.slice none 0 0)
def zS:AV:=.lit (.string ByteArray.empty)
def kI:CK:=.int .i64
def kB:CK:=.bool
def mI:jS:=⟨false,1,8,some zI,.other,none,none⟩
def mF:jS:=⟨false,1,8,some zF,.other,none,none⟩
def mP:jS:=⟨false,1,8,some (.lit (.pointer none)),.other,none,none⟩
def mS:jS:=⟨false,1,16,some zS,.other,none,none⟩
def mL(e:Nat):jS:=⟨false,1,24,some zL,.slice e,none,none⟩
end Go.PI
end
section
/- PS, part C: what a symbolic value stands for. -/
namespace Go.PI
section
variable {α β:Type}{P:α→β→Prop}
theorem aE.length:∀ {l:List α} {m:List β},aE P l m→l.length=m.length
 |[],[],_=>rfl
 |_::_,_::_,h=>by simp[aE.length h.2]
theorem aE.get:∀ {l:List α} {m:List β},aE P l m→∀ {i:Nat} {x:α},l[i]?=some x→∃ y,m[i]?=some y∧P x y
 |x::xs,y::ys,h,0,z,e=>by simp at e; subst e; exact⟨y,rfl,h.1⟩
 |x::xs,y::ys,h,i+1,z,e=>by simp at e ⊢; exact aE.get h.2 e
 |[],[],_,i,z,e=>by simp at e
theorem aE.get':∀ {l:List α} {m:List β},aE P l m→∀ {i:Nat} {y:β},m[i]?=some y→∃ x,l[i]?=some x∧P x y
 |x::xs,y::ys,h,0,z,e=>by simp at e; subst e; exact⟨x,rfl,h.1⟩
 |x::xs,y::ys,h,i+1,z,e=>by simp at e ⊢; exact aE.get' h.2 e
 |[],[],_,i,z,e=>by simp at e
theorem aE.mono{Q:α→β→Prop}(Qn:∀ x y,P x y→Q x y):∀ {l:List α} {m:List β},aE P l m→aE Q l m
 |[],[],_=>trivial
 |_::_,_::_,h=>⟨Qn _ _ h.1,aE.mono Qn h.2⟩
theorem aE.append:∀ {l l':List α} {m m':List β},aE P l m→aE P l' m'→aE P (l++l') (m++m')
 |[],_,[],_,_,h=>h
 |_::_,_,_::_,_,h,h'=>⟨h.1,aE.append h.2 h'⟩
theorem aE.set:∀ {l:List α} {m:List β},aE P l m→∀ (i:Nat) {x:α} {y:β},P x y→aE P (l.set i x) (m.set i y)
 |[],[],_,_,_,_,_=>trivial
 |_::_,_::_,h,0,_,_,hp=>⟨hp,h.2⟩
 |_::_,_::_,h,i+1,_,_,hp=>⟨h.1,aE.set h.2 i hp⟩
theorem aE.drop:∀ {l:List α} {m:List β},aE P l m→∀ i,aE P (l.drop i) (m.drop i)
 |[],[],_,i=>by simp[aE]
 |_::_,_::_,h,0=>h
 |_::_,_::_,h,i+1=>aE.drop h.2 i
theorem aE.take:∀ {l:List α} {m:List β},aE P l m→∀ i,aE P (l.take i) (m.take i)
 |[],[],_,i=>by simp[aE]
 |_::_,_::_,h,0=>trivial
 |_::_,_::_,h,i+1=>⟨h.1,aE.take h.2 i⟩
theorem aE.replicate{x:α}{y:β}(h:P x y):∀ n,aE P (List.replicate n x) (List.replicate n y)
 |0=>trivial
 |n+1=>⟨h,aE.replicate h n⟩
theorem aE.Gc{m:List β}(h:aE P [] m):m=[]:=by cases m with
 |nil=>rfl
 |cons y ys=>exact h.elim
theorem aE.fk:∀ {l:List α} {m:List β},l.length=m.length→(∀ (i:Nat) (x:α) (y:β),l[i]?=some x→m[i]?=some y→P x y)→aE P l m
 |[],[],_,_=>trivial
 |x::xs,y::ys,h,hg=>⟨hg 0 x y rfl rfl,aE.fk (by simpa using h) fun i a b ha hb=>hg (i+1) a b (by simpa using ha) (by simpa using hb)⟩
end
variable {T:ej}
def gL{den:Nat→Type}(H:aq den)(n c ax:Nat):Prop:=
 ∃ o:aK den,H[n]?=some (some o)∧c≤o.cur∧(c=o.cur→ax=o.len)
def AtX(a0:AV)(d:Nat)(a:AV):Prop:=
 (∃ n ax k j,a0=.ref n ax k j∧a=.ref n ax k (j+d))∨∃ e j,a0=.bq e j∧a=.bq e (j+d)
mutual
def R(T:ej)(H:aq T.den):SV T.den→AV→Prop
 |.dead,_=>False
 |.hole,a=>a=.any
 |.lit v,a=>a=.lit v
 |.agg l,a=>∃ l',a=.agg l'∧RL T H l l'
 |.kJ l,a=>∃ l',a=.kJ l'∧RL T H l l'
 |.sl l,a=>∃ l',a=.sl l'∧RL T H l l'∧aD l=true
 |.jR t l,a=>(∃ l',a=.sl l'∧aE (T.rp t) l l')∨(l=[]∧a=.lit cz)
 |.bq e j,a=>∃ e',a=.bq e' j∧R T H e e'∧aM e=true
 |.ref n c i j,a=>∃ ax,a=.ref n ax i j∧gL H n c ax
 |.jC n c i j ln cp,a=>∃ ax,a=.jC n ax i j ln cp∧gL H n c ax
 |.bw esz n c rg cap,a=>∃ ax,gL H n c ax∧(match rg with
  |none=>a=.bw esz n ax 0 ax cap
  |some (off,len)=>a=.bw esz n ax off len cap)
 |.jT fn f c,a=>∃ f' c',a=.jT fn f' c'∧RL T H f f'∧RL T H c c'
 |.jU t v,a=>∃ v',a=.jU t v'∧R T H v v'
 |.zD t l c b,a=>(b=true∧∃ l',a=.mB l' c∧aE (T.rp t) l l')∨(b=false∧l=[]∧(a=.sl []∨a=.lit cz))
 |.nz,a=>a=.nz
 |.mp y n,a=>a=.mp y n∧∃ o:aK T.den,H[n]?=some (some o)
 |.vg v s len i,a=>∃ a0,R T H v a0∧i<len∧AtX a0 (i*s) a
def RL(T:ej)(H:aq T.den):List (SV T.den)→List AV→Prop
 |[],[]=>True
 |x::xs,y::ys=>R T H x y∧RL T H xs ys
 |_,_=>False
end
theorem bh{H:aq T.den}:∀ {l:List (SV T.den)} {m:List AV},RL T H l m↔aE (R T H) l m
 |[],[]=>by simp[RL,aE]
 |x::xs,y::ys=>by simp only[RL,aE]; rw[bh]
 |[],_::_=>by simp[RL,aE]
 |_::_,[]=>by simp[RL,aE]
def RV(T:ej)(H:aq T.den)(v:SV T.den)(a:AV):Prop:=v=.dead∨R T H v a
theorem RV.live{H:aq T.den}{v:SV T.den}{a:AV}(h:RV T H v a)(hd:cL v=false):R T H v a:=by
 rcases h with h|h
 ·subst h; simp[cL]at hd
 ·exact h
def RD(T:ej)(H:aq T.den)(v:SV T.den)(a:AV):Prop:=(v=.dead∧a=.any)∨R T H v a
def RO(T:ej)(H:aq T.den):aK T.den→ba→Prop
 |.arr g cl f _ es,a=>∃ es',a=.arr g cl f es'∧RL T H es es'∧(cl=true→aD es=true)
 |.cE g f _ t l,a=>∃ es',a=.arr g true f es'∧aE (T.rp t) l es'
 |.ji,a=>(∃ g f es',a=.arr g true f es')∨∃ k vs,a=.iI k vs∧∀ n,dt n vs=true
 |.lZ kk t m,a=>∃ vs,a=.iI (.map kk (m.map fun q=>kk.v q.1)) vs∧aE (T.rp t) (m.map (·.2)) vs
 |.rh fn ps as bd fr,a=>∃ st vs,a=.iI (.loop fn ps as bd st) vs∧aE (RD T H) fr vs
def EA(T:ej)(H:aq T.den):Option (aK T.den)→Option ba→Prop
 |none,none=>True
 |some o,some a=>RO T H o a
 |_,_=>False
def RH(T:ej)(H:aq T.den)(hp:ak):Prop:=aE (EA T H) H hp
def aK.isRec{den:Nat→Type}:aK den→Bool
 |.rh ..=>true
 |_=>false
def recAt{den:Nat→Type}(H:aq den)(n:Nat):Bool:=
 match H[n]? with
 |some (some o)=>o.isRec
 |_=>false
def ep{den:Nat→Type}(H H':aq den):Prop:=
 ∀ (n:Nat) (o:aK den),H[n]?=some (some o)→∃ o':aK den,H'[n]?=some (some o')∧o.cur≤o'.cur∧(o'.cur=o.cur→o'.len=o.len)
theorem ep.refl{den:Nat→Type}(H:aq den):ep H H:=fun _ o h=>⟨o,h,Nat.le_refl _,fun _=>rfl⟩
theorem ep.trans{den:Nat→Type}{H H' H'':aq den}(h:ep H H')(h':ep H' H''):ep H H'':=by
 intro n o ho
 obtain⟨o',h1,h2,h3⟩:=h n o ho
 obtain⟨o'',h4,h5,h6⟩:=h' n o' h1
 exact⟨o'',h4,Nat.le_trans h2 h5,fun e=>by rw[h6 (by omega),h3 (by omega)]⟩
theorem gL.mono{den:Nat→Type}{H H':aq den}(h:ep H H'){n c ax:Nat}(hv:gL H n c ax):gL H' n c ax:=by
 obtain⟨o,h1,h2,h3⟩:=hv
 obtain⟨o',h4,h5,h6⟩:=h n o h1
 exact⟨o',h4,Nat.le_trans h2 h5,fun e=>by rw[h3 (by omega),h6 (by omega)]⟩
mutual
theorem R.mono{H H':aq T.den}(hg:ep H H'):∀ {v:SV T.den} {a:AV},R T H v a→R T H' v a
 |.dead,_,h=>by simp[R]at h
 |.hole,a,h=>by simpa[R] using h
 |.lit v,a,h=>by simpa[R] using h
 |.agg l,a,h=>by
  simp only[R]at h ⊢
  obtain⟨l',h1,h2⟩:=h
  exact⟨l',h1,RL.mono hg h2⟩
 |.kJ l,a,h=>by
  simp only[R]at h ⊢
  obtain⟨l',h1,h2⟩:=h
  exact⟨l',h1,RL.mono hg h2⟩
 |.sl l,a,h=>by
  simp only[R]at h ⊢
  obtain⟨l',h1,h2,h3⟩:=h
  exact⟨l',h1,RL.mono hg h2,h3⟩
 |.jR t l,a,h=>by simpa[R] using h
 |.zD t l c b,a,h=>by simp only[R]at h ⊢; exact h
 |.nz,a,h=>by simp only[R]at h ⊢; exact h
 |.bq e j,a,h=>by
  simp only[R]at h ⊢
  obtain⟨e',h1,h2,h3⟩:=h
  exact⟨e',h1,R.mono hg h2,h3⟩
 |.ref n c i j,a,h=>by
  simp only[R]at h ⊢
  obtain⟨ax,h1,h2⟩:=h
  exact⟨ax,h1,h2.mono hg⟩
 |.jC n c i j ln cp,a,h=>by
  simp only[R]at h ⊢
  obtain⟨ax,h1,h2⟩:=h
  exact⟨ax,h1,h2.mono hg⟩
 |.bw esz n c rg cap,a,h=>by
  simp only[R]at h ⊢
  obtain⟨ax,h1,h2⟩:=h
  exact⟨ax,h1.mono hg,h2⟩
 |.jT fn f c,a,h=>by
  simp only[R]at h ⊢
  obtain⟨f',c',h1,h2,h3⟩:=h
  exact⟨f',c',h1,RL.mono hg h2,RL.mono hg h3⟩
 |.jU t v,a,h=>by
  simp only[R]at h ⊢
  obtain⟨v',h1,h2⟩:=h
  exact⟨v',h1,R.mono hg h2⟩
 |.mp y n,a,h=>by
  simp only[R]at h ⊢
  obtain⟨h1,o,h2⟩:=h
  obtain⟨o',h3,_⟩:=hg n o h2
  exact⟨h1,o',h3⟩
 |.vg v s len i,a,h=>by
  simp only[R]at h ⊢
  obtain⟨a0,h1,h2,h3⟩:=h
  exact⟨a0,R.mono hg h1,h2,h3⟩
theorem RL.mono{H H':aq T.den}(hg:ep H H'):∀ {l:List (SV T.den)} {m:List AV},RL T H l m→RL T H' l m
 |[],[],_=>by simp[RL]
 |x::xs,y::ys,h=>by
  simp only[RL]at h ⊢
  exact⟨R.mono hg h.1,RL.mono hg h.2⟩
 |[],_::_,h=>by simp[RL]at h
 |_::_,[],h=>by simp[RL]at h
end
theorem RV.mono[ah]{H H':aq T.den}(hg:ep H H'){v:SV T.den}{a:AV}(h:RV T H v a):RV T H' v a:=h.imp id (R.mono hg)
theorem RO.mono[ah]{H H':aq T.den}(hg:ep H H'){o:aK T.den}{a:ba}(h:RO T H o a):RO T H' o a:=by
 cases o with
 |arr g cl f cur es=>
  obtain⟨es',h1,h2,h3⟩:=h
  exact⟨es',h1,RL.mono hg h2,h3⟩
 |cE g f cur t l=>exact h
 |ji=>exact h
 |lZ kk t m=>exact h
 |rh fn ps as bd fr=>
  obtain⟨st,vs,h1,h2⟩:=h
  exact⟨st,vs,h1,aE.mono (fun _ _ h=>h.imp id (R.mono hg)) h2⟩
theorem EA.mono[ah]{H H':aq T.den}(hg:ep H H'){o:Option (aK T.den)}{a:Option ba}(h:EA T H o a):EA T H' o a:=by
 cases o<;>cases a<;>first|exact h|exact RO.mono hg h
theorem RH.length[ah]{H:aq T.den}{hp:ak}(h:RH T H hp):H.length=hp.length:=aE.length h
theorem RH.obj[ah]{H:aq T.den}{hp:ak}(h:RH T H hp){n:Nat}{o:aK T.den}(ho:H[n]?=some (some o)):∃ a,hp[n]?=some (some a)∧RO T H o a:=by
 obtain⟨a,h1,h2⟩:=aE.get h ho
 cases a with
 |none=>exact h2.elim
 |some a=>exact⟨a,h1,h2⟩
theorem RH.none[ah]{H:aq T.den}{hp:ak}(h:RH T H hp){n:Nat}(ho:H[n]?=some none):hp[n]?=some none:=by
 obtain⟨a,h1,h2⟩:=aE.get h ho
 cases a with
 |none=>exact h1
 |some a=>exact h2.elim
theorem RH.WK[ah]{H:aq T.den}{hp:ak}(h:RH T H hp){n:Nat}{o o':aK T.den}{a':ba}(ho:H[n]?=some (some o))(hc:o.cur≤o'.cur)(hl:o'.cur=o.cur→o'.len=o.len)
  (hr:RO T H o' a'):ep H (H.set n (some o'))∧RH T (H.set n (some o')) (hp.set n (some a')):=by
 have hg:ep H (H.set n (some o')):=by
  intro m q hq
  by_cases e:m=n
  ·grind
  ·grind
 exact⟨hg,aE.set (aE.mono (fun _ _=>EA.mono hg) h) n (show EA T _ (some o') (some a') from RO.mono hg hr)⟩
theorem RH.new[ah]{H:aq T.den}{hp:ak}(h:RH T H hp){nm:Nat}{o':aK T.den}{a':ba}(hn:nm=H.length∨H[nm]?=some .none)(hr:RO T H o' a'):
  ep H (cd H nm o')∧RH T (cd H nm o') (setObj hp nm a'):=by
 have hlen:=h.length
 unfold cd setObj
 by_cases e:nm=H.length
 ·rw[if_pos e,if_pos (by omega)]
  have hg:ep H (H++[some o']):=by
   intro m q hq
   have cr:=(List.getElem?_eq_some_iff.1 hq).1
   exact⟨q,by rw[List.getElem?_append_left cr]; exact hq,Nat.le_refl _,fun _=>rfl⟩
  exact⟨hg,aE.append (aE.mono (fun _ _=>EA.mono hg) h) ⟨RO.mono hg hr,trivial⟩⟩
 ·rw[if_neg e,if_neg (by omega)]
  have hn:H[nm]?=some .none:=hn.resolve_left e
  have hg:ep H (H.set nm (some o')):=by
   intro m q hq
   by_cases e:m=nm
   ·subst e; rw[hn]at hq; simp at hq
   ·grind
  exact⟨hg,aE.set (aE.mono (fun _ _=>EA.mono hg) h) nm (show EA T _ (some o') (some a') from RO.mono hg hr)⟩
structure ej.Ok(T:ej):Prop where
 up:∀ t x a H,T.rp t x a→R T H (T.up t x) a
 dn:∀ t v x a H,T.dn t v=some x→R T H v a→T.rp t x a
 ok:∀ t x a,T.rp t x a→aF (T.agg t) (T.size t) a=true
 closed:∀ t x a,T.rp t x a→closed a=true
theorem kv{den:Nat→Type}:∀ (l:List (SV den)),aD l=l.all aM
 |[]=>rfl
 |x::xs=>by simp only[aD,List.all_cons]; rw[kv xs]
theorem lF[ah]{den:Nat→Type}{l:List (SV den)}(h:aD l=true){x:SV den}(hx:x∈l):aM x=true:=by
 rw[kv]at h
 exact List.all_eq_true.1 h x hx
theorem m9[ah]{den:Nat→Type}{l:List (SV den)}(h:∀ x,x∈l→aM x=true):aD l=true:=by
 rw[kv]
 exact List.all_eq_true.2 h
theorem oO[ah]{den:Nat→Type}{l:List (SV den)}(h:aD l=true)(a b:Nat):aD ((l.drop a).take b)=true:=
 m9 fun _ hx=>lF h (List.mem_of_mem_drop (List.mem_of_mem_take hx))
theorem IM[ah]{den:Nat→Type}{l m:List (SV den)}(h:aD l=true)(h':aD m=true):aD (l++m)=true:=
 m9 fun _ hx=>(List.mem_append.1 hx).elim (lF h) (lF h')
theorem uN[ah]{den:Nat→Type}{l:List (SV den)}(h:aD l=true){x:SV den}(hx:aM x=true)(i:Nat):aD (l.set i x)=true:=
 m9 fun _ hy=>(List.mem_or_eq_of_mem_set hy).elim (lF h) fun e=>e▸hx
theorem qZ[ah]{den:Nat→Type}:∀ {cs l:List (SV den)} (j:Nat),aD l=true→aD cs=true→aD (jN l j cs)=true
 |[],_,_,h,_=>h
 |x::xs,l,j,h,hc=>by
  simp only[aD,Bool.and_eq_true]at hc
  simp only[jN]
  exact qZ (j+1) (uN h hc.1 j) hc.2
theorem Bf[ah]{den:Nat→Type}{e e':SV den}{j:Nat}{cs:List (SV den)}(h:hJ e j cs=some e')(he:aM e=true)(hc:aD cs=true):aM e'=true:=by
 unfold hJ at h
 split at h
 ·split at h
  case isFalse=>simp at h
  simp only[Option.some.injEq]at h
  subst h
  simp only[aM]at he ⊢
  exact qZ j he hc
 ·grind[aD]
theorem Ca[ah]{den:Nat→Type}(v:SV den):aD (cb v)=aM v:=by
 cases v with
 |lit v=>
  simp only[cb,aM]
  exact m9 fun x hx=>by obtain⟨y,_,rfl⟩:=List.mem_map.1 hx; rfl
 |agg l=>rfl
 |_=>simp[cb,aD]
theorem ra[ah]{den:Nat→Type}:∀ {ps:List (Nat×SV den)} {es:List (SV den)},aD es=true→aD (ps.map (·.2))=true→aD (gy es ps)=true
 |[],_,h,_=>h
 |(i,v)::ps,es,h,hc=>by
  simp only[List.map_cons,aD,Bool.and_eq_true]at hc
  simp only[gy]
  exact ra (uN h hc.1 i) hc.2
theorem wq[ah]{den:Nat→Type}{a:AV}{v:SV den}(h:(iE a:Option (SV den))=some v):aM v=true:=by
 cases a with
 |lit x=>simp[iE]at h; subst h; rfl
 |agg l=>
  simp only[iE,Option.map_eq_some_iff]at h
  obtain⟨c,_,rfl⟩:=h
  simp only[aM]
  exact m9 fun x hx=>by obtain⟨y,_,rfl⟩:=List.mem_map.1 hx; rfl
 |_=>simp[iE]at h
end Go.PI
end
section
/- PS, part D: parts of values, by value, flat, below: on both sides alike. -/
namespace Go.PI
def aN{α:Type}(hp:ak)(r:RM α)(a:α)(rd:List Nat):Prop:=r.run hp=some a∧∀ n,n∈r.log hp→n∈rd
section
variable {α β:Type}{hp:ak}
theorem aN.pure(a:α):aN hp (pure a:RM α) a []:=⟨rfl,fun n h=>by simp[Pure.pure,RM.log]at h⟩
theorem aN.ret(a:α):aN hp (RM.ret a:RM α) a []:=⟨rfl,fun n h=>by simp[RM.log]at h⟩
theorem aN.mono{r:RM α}{a:α}{rd rd':List Nat}(h:aN hp r a rd)(hs:∀ n,n∈rd→n∈rd'):aN hp r a rd':=⟨h.1,fun n hn=>hs n (h.2 n hn)⟩
theorem aN.bind[ah]{r:RM α}{f:α→RM β}{a:α}{b:β}{rd rd':List Nat}(h:aN hp r a rd)(h':aN hp (f a) b rd'):aN hp (r >>= f) b (rd++rd'):=by
 refine⟨by rw[RM.run_bind,h.1]; exact h'.1,fun n hn=>?_⟩
 rw[RM.fN,h.1]at hn
 simp only[List.mem_append]at hn ⊢
 exact hn.imp (h.2 n) (h'.2 n)
theorem aN.get{n:Nat}{k:ba→RM α}{o:ba}{a:α}{rd:List Nat}(ho:hp[n]?=some (some o))(h:aN hp (k o) a rd):aN hp (.get n k) a (n::rd):=by
 refine⟨by simp[RM.run,ho,h.1],fun m hm=>?_⟩
 simp only[RM.log,ho,List.mem_cons]at hm ⊢
 exact hm.imp id (h.2 m)
theorem aN.arr[ah]{n ax:Nat}{g c f:Bool}{es:List AV}(ho:hp[n]?=some (some (.arr g c f es)))(hl:es.length=ax):aN hp (RM.arr n ax) (g,c,f,es) [n]:=by
 refine aN.get ho ?_
 simp only[hl,if_true]
 exact aN.ret _
theorem aN.iZ[ah]{x:Option α}{a:α}(h:x=some a):aN hp (RM.iZ x) a []:=by subst h; exact aN.ret a
end
variable {T:ej}
mutual
theorem R.closed{H:aq T.den}:∀ {v:SV T.den} {a:AV},R T H v a→aM v=closed a
 |.dead,a,h=>by simp[R]at h
 |.hole,a,h=>by simp only[R]at h; subst h; rfl
 |.lit v,a,h=>by simp only[R]at h; subst h; rfl
 |.agg l,a,h=>by
  simp only[R]at h
  obtain⟨l',rfl,h2⟩:=h
  simp only[aM,Go.PI.closed]; exact RL.closed h2
 |.kJ l,a,h=>by
  simp only[R]at h
  obtain⟨l',rfl,h2⟩:=h
  simp only[aM,Go.PI.closed]; exact RL.closed h2
 |.sl l,a,h=>by
  simp only[R]at h
  obtain⟨l',rfl,h2⟩:=h
  rfl
 |.jR t l,a,h=>by
  simp only[R]at h
  rcases h with ⟨l',rfl,_⟩|⟨_,rfl⟩<;>rfl
 |.zD t l c b,a,h=>by
  simp only[R]at h
  rcases h with ⟨_,l',rfl,_⟩|⟨_,_,rfl|rfl⟩<;>rfl
 |.nz,a,h=>by
  simp only[R]at h
  subst h; rfl
 |.bq e j,a,h=>by
  simp only[R]at h
  obtain⟨e',rfl,h2⟩:=h
  rfl
 |.ref n c i j,a,h=>by
  simp only[R]at h
  obtain⟨ax,rfl,h2⟩:=h
  rfl
 |.jC n c i j ln cp,a,h=>by
  simp only[R]at h
  obtain⟨ax,rfl,h2⟩:=h
  rfl
 |.bw esz n c rg cap,a,h=>by
  simp only[R]at h
  obtain⟨ax,h1,h2⟩:=h
  rcases rg with _|⟨off,len⟩<;>simp only at h2<;>subst h2<;>rfl
 |.jT fn f c,a,h=>by
  simp only[R]at h
  obtain⟨f',c',rfl,h2,h3⟩:=h
  simp only[aM,Go.PI.closed]; rw[RL.closed h2,RL.closed h3]
 |.jU t v,a,h=>by
  simp only[R]at h
  obtain⟨v',rfl,h2⟩:=h
  simp only[aM,Go.PI.closed]; exact R.closed h2
 |.mp y n,a,h=>by
  simp only[R]at h
  obtain⟨rfl,_⟩:=h
  rfl
 |.vg v s len i,a,h=>by
  simp only[R]at h
  obtain⟨a0,h1,_,h2⟩:=h
  have:=R.closed h1
  simp only[aM]
  rcases h2 with ⟨n,ax,k,j,rfl,rfl⟩|⟨e,j,rfl,rfl⟩<;>exact this
theorem RL.closed{H:aq T.den}:∀ {l:List (SV T.den)} {m:List AV},RL T H l m→aD l=bf m
 |[],[],_=>rfl
 |x::xs,y::ys,h=>by
  simp only[RL]at h
  simp only[aD,bf]; rw[R.closed h.1,RL.closed h.2]
 |[],_::_,h=>by simp[RL]at h
 |_::_,[],h=>by simp[RL]at h
end
mutual
theorem R.below{H:aq T.den}{k:Nat}:∀ {v:SV T.den} {a:AV},R T H v a→bM k v=below k a
 |.dead,a,h=>by simp[R]at h
 |.hole,a,h=>by simp only[R]at h; subst h; rfl
 |.lit v,a,h=>by simp only[R]at h; subst h; rfl
 |.agg l,a,h=>by
  simp only[R]at h
  obtain⟨l',rfl,h2⟩:=h
  simp only[bM,Go.PI.below]; exact RL.below h2
 |.kJ l,a,h=>by
  simp only[R]at h
  obtain⟨l',rfl,h2⟩:=h
  simp only[bM,Go.PI.below]; exact RL.below h2
 |.sl l,a,h=>by
  simp only[R]at h
  obtain⟨l',rfl,h2⟩:=h
  rfl
 |.jR t l,a,h=>by
  simp only[R]at h
  rcases h with ⟨l',rfl,_⟩|⟨_,rfl⟩<;>rfl
 |.zD t l c b,a,h=>by
  simp only[R]at h
  rcases h with ⟨_,l',rfl,_⟩|⟨_,_,rfl|rfl⟩<;>rfl
 |.nz,a,h=>by
  simp only[R]at h
  subst h; rfl
 |.bq e j,a,h=>by
  simp only[R]at h
  obtain⟨e',rfl,h2⟩:=h
  rfl
 |.ref n c i j,a,h=>by
  simp only[R]at h
  obtain⟨ax,rfl,h2⟩:=h
  rfl
 |.jC n c i j ln cp,a,h=>by
  simp only[R]at h
  obtain⟨ax,rfl,h2⟩:=h
  rfl
 |.bw esz n c rg cap,a,h=>by
  simp only[R]at h
  obtain⟨ax,h1,h2⟩:=h
  rcases rg with _|⟨off,len⟩<;>simp only at h2<;>subst h2<;>rfl
 |.jT fn f c,a,h=>by
  simp only[R]at h
  obtain⟨f',c',rfl,h2,h3⟩:=h
  simp only[bM,Go.PI.below]; rw[RL.below h2,RL.below h3]
 |.jU t v,a,h=>by
  simp only[R]at h
  obtain⟨v',rfl,h2⟩:=h
  simp only[bM,Go.PI.below]; exact R.below h2
 |.mp y n,a,h=>by
  simp only[R]at h
  obtain⟨rfl,_⟩:=h
  rfl
 |.vg v s len i,a,h=>by
  simp only[R]at h
  obtain⟨a0,h1,_,h2⟩:=h
  have:=R.below (k:=k) h1
  simp only[bM]
  rcases h2 with ⟨n,ax,k,j,rfl,rfl⟩|⟨e,j,rfl,rfl⟩<;>exact this
theorem RL.below{H:aq T.den}{k:Nat}:∀ {l:List (SV T.den)} {m:List AV},RL T H l m→iD k l=dt k m
 |[],[],_=>rfl
 |x::xs,y::ys,h=>by
  simp only[RL]at h
  simp only[iD,dt]; rw[R.below h.1,RL.below h.2]
 |[],_::_,h=>by simp[RL]at h
 |_::_,[],h=>by simp[RL]at h
end
mutual
theorem R.names{H:aq T.den}:∀ {v:SV T.den} {a:AV},R T H v a→pd v=names a
 |.dead,a,h=>by simp[R]at h
 |.hole,a,h=>by simp only[R]at h; subst h; rfl
 |.lit v,a,h=>by simp only[R]at h; subst h; rfl
 |.agg l,a,h=>by
  simp only[R]at h
  obtain⟨l',rfl,h2⟩:=h
  simp only[pd,Go.PI.names]; exact RL.names h2
 |.kJ l,a,h=>by
  simp only[R]at h
  obtain⟨l',rfl,h2⟩:=h
  simp only[pd,Go.PI.names]; exact RL.names h2
 |.sl l,a,h=>by
  simp only[R]at h
  obtain⟨l',rfl,h2⟩:=h
  rfl
 |.jR t l,a,h=>by
  simp only[R]at h
  rcases h with ⟨l',rfl,_⟩|⟨_,rfl⟩<;>rfl
 |.zD t l c b,a,h=>by
  simp only[R]at h
  rcases h with ⟨_,l',rfl,_⟩|⟨_,_,rfl|rfl⟩<;>rfl
 |.nz,a,h=>by
  simp only[R]at h
  subst h; rfl
 |.bq e j,a,h=>by
  simp only[R]at h
  obtain⟨e',rfl,h2⟩:=h
  rfl
 |.ref n c i j,a,h=>by
  simp only[R]at h
  obtain⟨ax,rfl,h2⟩:=h
  rfl
 |.jC n c i j ln cp,a,h=>by
  simp only[R]at h
  obtain⟨ax,rfl,h2⟩:=h
  rfl
 |.bw esz n c rg cap,a,h=>by
  simp only[R]at h
  obtain⟨ax,h1,h2⟩:=h
  rcases rg with _|⟨off,len⟩<;>simp only at h2<;>subst h2<;>rfl
 |.jT fn f c,a,h=>by
  simp only[R]at h
  obtain⟨f',c',rfl,h2,h3⟩:=h
  simp only[pd,Go.PI.names]; rw[RL.names h2,RL.names h3]
 |.jU t v,a,h=>by
  simp only[R]at h
  obtain⟨v',rfl,h2⟩:=h
  simp only[pd,Go.PI.names]; exact R.names h2
 |.mp y n,a,h=>by
  simp only[R]at h
  obtain⟨rfl,_⟩:=h
  rfl
 |.vg v s len i,a,h=>by
  simp only[R]at h
  obtain⟨a0,h1,_,h2⟩:=h
  have:=R.names h1
  simp only[pd]
  rcases h2 with ⟨n,ax,k,j,rfl,rfl⟩|⟨e,j,rfl,rfl⟩<;>exact this
theorem RL.names{H:aq T.den}:∀ {l:List (SV T.den)} {m:List AV},RL T H l m→oJ l=cS m
 |[],[],_=>rfl
 |x::xs,y::ys,h=>by
  simp only[RL]at h
  simp only[oJ,cS]; rw[R.names h.1,RL.names h.2]
 |[],_::_,h=>by simp[RL]at h
 |_::_,[],h=>by simp[RL]at h
end
theorem R.leaf{H:aq T.den}{v:SV T.den}{a:AV}(h:R T H v a):iC v=bt a:=by
 cases v with
 |dead=>simp[R]at h
 |hole=>simp only[R]at h; subst h; rfl
 |lit v=>simp only[R]at h; subst h; rfl
 |agg l=>simp only[R]at h; obtain⟨l',rfl,h2⟩:=h; rfl
 |kJ l=>simp only[R]at h; obtain⟨l',rfl,h2⟩:=h; rfl
 |sl l=>simp only[R]at h; obtain⟨l',rfl,h2⟩:=h; rfl
 |jR t l=>simp only[R]at h; rcases h with ⟨l',rfl,_⟩|⟨_,rfl⟩<;>rfl
 |zD t l c b=>simp only[R]at h; rcases h with ⟨_,l',rfl,_⟩|⟨_,_,rfl|rfl⟩<;>rfl
 |nz=>simp only[R]at h; subst h; rfl
 |bq e j=>simp only[R]at h; obtain⟨e',rfl,h2⟩:=h; rfl
 |ref n c i j=>simp only[R]at h; obtain⟨ax,rfl,h2⟩:=h; rfl
 |jC n c i j ln cp=>simp only[R]at h; obtain⟨ax,rfl,h2⟩:=h; rfl
 |bw esz n c rg cap=>
  simp only[R]at h
  obtain⟨ax,h1,h2⟩:=h
  rcases rg with _|⟨off,len⟩<;>simp only at h2<;>subst h2<;>rfl
 |jT fn f c=>simp only[R]at h; obtain⟨f',c',rfl,h2,h3⟩:=h; rfl
 |jU t v=>simp only[R]at h; obtain⟨v',rfl,h2⟩:=h; rfl
 |mp y n=>simp only[R]at h; obtain⟨rfl,h2⟩:=h; rfl
 |vg v s len i=>simp only[R]at h; obtain⟨a0,_,_,h2⟩:=h; rcases h2 with ⟨n,ax,k,j,rfl,rfl⟩|⟨e,j,rfl,rfl⟩<;>rfl
theorem R.IP{H:aq T.den}{v:SV T.den}{a:AV}(h:R T H v a)(hv:∀ l,v≠.agg l):∀ l,a≠.agg l:=by
 intro l e
 subst e
 cases v with
 |dead=>simp[R]at h
 |hole=>simp[R]at h
 |lit v=>simp[R]at h
 |agg l=>exact hv l rfl
 |kJ l=>simp[R]at h
 |sl l=>simp[R]at h
 |jR t l=>simp[R]at h
 |bq e j=>simp[R]at h
 |ref n c i j=>simp[R]at h
 |jC n c i j ln cp=>simp[R]at h
 |bw esz n c rg cap=>
  grind[R]
 |jT fn f c=>simp[R]at h
 |jU t v=>simp[R]at h
 |mp y n=>simp[R]at h
 |vg v s len i=>simp[R,AtX]at h
 |zD t l c b=>simp[R]at h
 |nz=>simp[R]at h
theorem RL.length[ah]{H:aq T.den}{l:List (SV T.den)}{m:List AV}(h:RL T H l m):l.length=m.length:=aE.length (bh.1 h)
theorem RL.lits{H:aq T.den}:∀ (c:List Value),RL T H (c.map .lit) (c.map .lit)
 |[]=>by simp[RL]
 |v::vs=>by simp only[List.map_cons,RL]; exact⟨by simp[R],RL.lits vs⟩
theorem R.cells[ah]{H:aq T.den}{v:SV T.den}{a:AV}(h:R T H v a):RL T H (cb v) (cellsOf a):=by
 cases v with
 |dead=>simp[R]at h
 |hole=>simp_all[R,cb,cellsOf,RL]
 |lit v=>simp only[R]at h; subst h; exact RL.lits _
 |agg l=>simp only[R]at h; obtain⟨l',rfl,h2⟩:=h; exact h2
 |jR t l=>
  have h':=h
  simp only[R]at h
  rcases h with ⟨l',rfl,_⟩|⟨_,rfl⟩
  ·simp_all[cb,cellsOf,RL]
  ·show RL T H [_] [AV.lit cz]
   simp only[RL]; exact⟨h',trivial⟩
 |kJ l=>grind[R,cb,cellsOf,RL]
 |sl l=>grind[R,cb,cellsOf,RL]
 |bq e j=>grind[R,cb,cellsOf,RL]
 |ref n c i j=>grind[R,cb,cellsOf,RL]
 |jC n c i j ln cp=>grind[R,cb,cellsOf,RL]
 |bw esz n c rg cap=>
  grind[R,cb,cellsOf,RL]
 |jT fn f c=>grind[R,cb,cellsOf,RL]
 |jU t v=>grind[R,cb,cellsOf,RL]
 |nz=>
  simp_all[R,cb,cellsOf,RL]
 |zD t l c b=>
  have h':=h
  simp only[R]at h
  rcases h with ⟨_,l',rfl,_⟩|⟨_,_,rfl|rfl⟩
  ·simp_all[cb,cellsOf,RL]
  ·simp_all[cb,cellsOf,RL]
  ·show RL T H [_] [AV.lit cz]
   simp only[RL]; exact⟨h',trivial⟩
 |mp y n=>simp_all[R,cb,cellsOf,RL]
 |vg v s len i=>
  have h':=h
  simp only[R]at h
  obtain⟨a0,_,_,h2⟩:=h
  rcases h2 with ⟨n,ax,k,j,rfl,rfl⟩|⟨e,j,rfl,rfl⟩<;>simp only[cb,cellsOf,RL]<;>exact⟨h',trivial⟩
theorem RL.all{H:aq T.den}{p:SV T.den→Bool}{q:AV→Bool}(Qn:∀ v a,R T H v a→p v=q a):∀ {l:List (SV T.den)} {m:List AV},RL T H l m→l.all p=m.all q
 |[],[],_=>rfl
 |x::xs,y::ys,h=>by
  simp only[RL]at h
  simp only[List.all_cons]; rw[Qn _ _ h.1,RL.all Qn h.2]
 |[],_::_,h=>by simp[RL]at h
 |_::_,[],h=>by simp[RL]at h
theorem RL.Gd[ah]{H:aq T.den}{l:List (SV T.den)}{m:List AV}(h:RL T H l m):l.all iC=m.all bt:=RL.all (fun _ _=>R.leaf) h
theorem Ge{agg:Bool}{size:Nat}{a:AV}{j:Nat}(ha:∀ l,a≠.agg l):fX agg size a j=if !agg&&bt a&&decide (j=0) then some a else none:=by
 cases a<;>first|rfl|exact absurd rfl (ha _)
theorem Gf{agg:Bool}{size:Nat}{v:SV T.den}{j:Nat}(ha:∀ l,v≠.agg l):qc agg size v j=if !agg&&iC v&&decide (j=0) then some v else none:=by
 cases v<;>first|rfl|exact absurd rfl (ha _)
theorem R.part[ah]{H:aq T.den}{agg:Bool}{size:Nat}{v x:SV T.den}{a:AV}{j:Nat}(h:R T H v a)(hp:qc agg size v j=some x):∃ b,fX agg size a j=some b∧R T H x b:=by
 by_cases hv:∃ l,v=.agg l
 ·obtain⟨l,rfl⟩:=hv
  simp only[R]at h
  obtain⟨l',rfl,h2⟩:=h
  have hl:=h2.length
  cases agg with
  |true=>
   simp only[qc,if_true]at hp
   split at hp
   case isFalse=>simp at hp
   simp only[Option.some.injEq]at hp
   subst hp
   refine⟨_,by simp only[fX,if_true]; rw[if_pos (by omega)],?_⟩
   simp only[R]
   exact⟨_,rfl,bh.2 (((bh.1 h2).drop j).take size)⟩
  |false=>
   simp only[qc,Bool.false_eq_true,if_false]at hp
   obtain⟨b,h3,h4⟩:=aE.get (bh.1 h2) hp
   exact⟨b,by simpa[fX] using h3,h4⟩
 ·have lK:∀ l,v≠.agg l:=fun l e=>hv ⟨l,e⟩
  rw[Gf lK]at hp
  rw[Ge (h.IP lK),←h.leaf]
  split at hp
  case isFalse=>simp at hp
  rename_i hc
  simp only[Option.some.injEq]at hp
  subst hp
  exact⟨a,by rw[if_pos hc],h⟩
theorem RL.setCells[ah]{H:aq T.den}:∀ {cs:List (SV T.den)} {nX:List AV} {l:List (SV T.den)} {l':List AV} (j:Nat),RL T H l l'→RL T H cs nX→RL T H (jN l j cs) (setCells l' j nX)
 |[],[],l,l',j,h,_=>h
 |x::xs,y::ys,l,l',j,h,hc=>by
  simp only[RL]at hc
  simp only[jN,Go.PI.setCells]
  exact RL.setCells (j+1) (bh.2 ((bh.1 h).set j hc.1)) hc.2
 |[],_::_,_,_,_,_,h=>by simp[RL]at h
 |_::_,[],_,_,_,_,h=>by simp[RL]at h
theorem Cb{a y:AV}{j:Nat}(ha:∀ l,a≠.agg l)(hl:bt a=true)(hj:j=0):jV a j [y]=some y:=by
 simp_all[jV,hl]
theorem Bg{v e':SV T.den}{cs:List (SV T.den)}{j:Nat}(ha:∀ l,v≠.agg l)(h:hJ v j cs=some e'):∃ y,cs=[y]∧e'=y∧iC v=true∧j=0:=by
 match cs with
 |[]=>simp_all[hJ]
 |[y]=>simp_all[hJ]
 |_::_::_=>simp_all[hJ]
theorem R.jV[ah]{H:aq T.den}{v e':SV T.den}{a:AV}{j:Nat}{cs:List (SV T.den)}{nX:List AV}(h:R T H v a)(hc:RL T H cs nX)(hp:hJ v j cs=some e'):
  ∃ b,Go.PI.jV a j nX=some b∧R T H e' b:=by
 by_cases hv:∃ l,v=.agg l
 ·obtain⟨l,rfl⟩:=hv
  simp only[R]at h
  obtain⟨l',rfl,h2⟩:=h
  simp only[hJ]at hp
  split at hp
  case isFalse=>simp at hp
  simp only[Option.some.injEq]at hp
  subst hp
  have h3:=h2.length
  have h4:=hc.length
  exact⟨_,by simp only[Go.PI.jV]; rw[if_pos (by omega)],by simp only[R]; exact⟨_,rfl,RL.setCells j h2 hc⟩⟩
 ·have lK:∀ l,v≠.agg l:=fun l e=>hv ⟨l,e⟩
  obtain⟨y,rfl,rfl,h3,h4⟩:=Bg lK hp
  match nX,hc with
  |[b],hc=>
   simp only[RL]at hc
   exact⟨b,Cb (h.IP lK) (by rw[←h.leaf]; exact h3) h4,hc.1⟩
  |[],hc=>simp[RL]at hc
  |_::_::_,hc=>simp[RL]at hc
def RP(T:ej)(H:aq T.den):List (Nat×SV T.den)→List (Nat×AV)→Prop:=aE fun p q=>p.1=q.1∧R T H p.2 q.2
theorem RP.fill[ah]{H:aq T.den}{place:Nat→Option (Nat×Nat)}:∀ {ps:List (Nat×SV T.den)} {qs:List (Nat×AV)} {l r:List (SV T.den)} {l':List AV},RP T H ps qs→RL T H l l'→C7 place l ps=some r →
  ∃ r',tK place l' qs=some r'∧RL T H r r'
 |[],[],l,r,l',_,hl,h=>by
  simp only[C7,Option.some.injEq]at h
  subst h
  exact⟨l',rfl,hl⟩
 |(i,v)::ps,(i',a)::qs,l,r,l',hp,hl,h=>by
  obtain⟨⟨h1,h2⟩,h3⟩:=hp
  simp only at h1 h2
  subst h1
  simp only[C7]at h
  simp only[tK]
  cases Jw:place i with
  |none=>rw[Jw]at h; simp at h
  |some q=>
   obtain⟨off,size⟩:=q
   rw[Jw]at h
   simp only at h ⊢
   split at h
   case isFalse=>simp at h
   rename_i hc
   have og:=h2.cells
   rw[if_pos ⟨by rw[←og.length]; exact hc.1,by rw[←hl.length]; exact hc.2.1,by rw[←og.Gd]; exact hc.2.2⟩]
   exact RP.fill h3 (RL.setCells off hl og) h
 |[],_::_,_,_,_,h,_,_=>h.elim
 |_::_,[],_,_,_,h,_,_=>h.elim
theorem R.aF[ah]{H:aq T.den}{agg:Bool}{size:Nat}{v:SV T.den}{a:AV}(h:R T H v a):mU agg size v=aF agg size a:=by
 by_cases hv:∃ l,v=.agg l
 ·obtain⟨l,rfl⟩:=hv
  simp only[R]at h
  obtain⟨l',rfl,h2⟩:=h
  simp only[mU,Go.PI.aF]
  rw[h2.length,h2.Gd]
 ·have lK:∀ l,v≠.agg l:=fun l e=>hv ⟨l,e⟩
  have e1:mU agg size v=(!agg&&decide (size=1)&&iC v):=by cases v<;>first|rfl|exact absurd rfl (lK _)
  have e2:Go.PI.aF agg size a=(!agg&&decide (size=1)&&bt a):=by
   have:=h.IP lK
   cases a<;>first|rfl|exact absurd rfl (this _)
  rw[e1,e2,h.leaf]
theorem RL.dy{H:aq T.den}:∀ {l:List (SV T.den)} {m:List AV} {c:List Value},RL T H l m→oK l=some c→Go.PI.dy m=some c∧m=c.map .lit
 |[],[],c,_,h=>by simp[oK]at h; subst h; exact⟨rfl,rfl⟩
 |x::xs,y::ys,c,h,hc=>by
  simp only[RL]at h
  cases x with
  |lit v=>
   simp only[oK,Option.map_eq_some_iff]at hc
   obtain⟨c',h1,rfl⟩:=hc
   have h2:=h.1
   simp only[R]at h2
   subst h2
   obtain⟨h3,h4⟩:=RL.dy h.2 h1
   exact⟨by simp[Go.PI.dy,h3],by simp[h4]⟩
  |_=>simp[oK]at hc
 |[],_::_,_,h,_=>by simp[RL]at h
 |_::_,[],_,h,_=>by simp[RL]at h
theorem R.plain[ah]{H:aq T.den}{v:SV T.den}{a b:AV}(h:R T H v a)(hp:pe v=some b):a=b:=by
 cases v with
 |lit v=>simp_all[R,pe]
 |agg l=>
  simp only[R]at h
  obtain⟨l',rfl,h2⟩:=h
  simp only[pe,Option.map_eq_some_iff]at hp
  obtain⟨c,h3,rfl⟩:=hp
  rw[(RL.dy h2 h3).2]
 |_=>simp[pe]at hp
theorem xI[ah]{H:aq T.den}{a:AV}{v:SV T.den}(h:(iE a:Option (SV T.den))=some v):R T H v a:=by
 cases a with
 |lit x=>simp[iE]at h; subst h; simp[R]
 |agg l=>
  simp only[iE,Option.map_eq_some_iff]at h
  obtain⟨c,h1,rfl⟩:=h
  simp only[R]
  refine⟨l,rfl,?_⟩
  have:l=c.map .lit:=by
   revert c
   induction l with
   |nil=>simp_all[Go.PI.dy]
   |cons x xs ih=>
    intro c h1
    cases x with
    |lit v=>
     simp only[Go.PI.dy,Option.map_eq_some_iff]at h1
     obtain⟨c',h2,rfl⟩:=h1
     rw[ih c' h2]; rfl
    |_=>simp[Go.PI.dy]at h1
  rw[this]
  exact RL.lits c
 |_=>simp[iE]at h
end Go.PI
end
section
/- PS, part E: the tables looked up before. -/
namespace Go.PI
def kindOf:TypeDesc→MK
 |.slice e=>.slice e
 |.array n e=>.array n e
 |.struct fs=>.struct (fs.toList.map fun f=>(f.offset,f.type))
 |.interface _=>.iface
 |_=>.other
def ma(rec:TypeId→Option (List CK))(P:Program):Nat→List Field→Option (List CK)
 |_,[]=>some []
 | off, f :: fs => if f.name = "_" then none else
   if f.offset=off then
    match rec f.type with
    |some ks=>if ks.length=P.cellsOf f.type then (ma rec P (off+ks.length) fs).map fun l=>ks++l else none
    |none=>none
   else none
def oP(P:Program):Nat→TypeId→Option (List CK)
 |0,_=>none
 |d+1,t=>
  match P.underlying t with
  |some .bool=>some [.bool]
  |some (.int k)=>some [.int k]
  |some .string=>some [.str]
  |some (.array n e)=>if (P.info? e).isSome&&(P.underlying e).isSome then
    match oP P d e with
    |some ks=>if ks.length=P.cellsOf e then some (List.replicate n ks).flatten else none
    |none=>none
   else none
  |some (.struct fs)=>if P.stoodInHeld t then none else ma (oP P d) P 0 fs.toList
  |_=>none
theorem mb:∀ {ks:List CK} {vs:List Value},bA ks vs=true→ks.length=vs.length
 |[],[],_=>rfl
 |_::_,_::_,h=>by simp only[bA,Bool.and_eq_true]at h; simp[mb h.2]
 |[],_::_,h=>by simp[bA]at h
 |_::_,[],h=>by simp[bA]at h
theorem sz:∀ {ks ls:List CK} {vs:List Value},bA (ks++ls) vs=true→bA ks (vs.take ks.length)=true∧bA ls (vs.drop ks.length)=true
 |[],ls,vs,h=>by simpa[bA] using h
 |k::ks,ls,[],h=>by simp[bA]at h
 |k::ks,ls,v::vs,h=>by
  simp only[List.cons_append,bA,Bool.and_eq_true]at h
  obtain⟨h1,h2⟩:=sz h.2
  simp only[List.length_cons,List.take_succ_cons,List.drop_succ_cons,bA,Bool.and_eq_true]
  exact⟨⟨h.1,h1⟩,h2⟩
theorem sB:∀ {a a' b b':List Value},a.length=a'.length→dk (a++b) (a'++b')=(dk a a'&&dk b b')
 |[],[],b,b',_=>by simp[dk]
 |x::xs,y::ys,b,b',h=>by
  simp only[List.cons_append,dk]
  rw[sB (by simpa using h),Bool.and_assoc]
theorem sC[ah]{P:Program}{rec:TypeId→List Value→List Value→Option Bool}{kr:TypeId→Option (List CK)}
  (hr:∀ t ks c c',kr t=some ks→bA ks c=true→bA ks c'=true→rec t c c'=some (dk c c')) :
  ∀ (fs:List Field) (off:Nat) (ks:List CK) (cs nX:List Value),ma kr P off fs=some ks→bA ks (cs.drop off)=true→bA ks (nX.drop off)=true →
    kY rec P cs nX fs=some (dk (cs.drop off) (nX.drop off))
 |[],off,ks,cs,nX,h,h1,h2=>by
  simp only[ma,Option.some.injEq]at h
  subst h
  have e1:cs.drop off=[]:=by cases hq:cs.drop off with
   |nil=>rfl
   |cons x xs=>rw[hq]at h1; simp[bA]at h1
  have e2:nX.drop off=[]:=by cases hq:nX.drop off with
   |nil=>rfl
   |cons x xs=>rw[hq]at h2; simp[bA]at h2
  rw[e1,e2]; rfl
 |f::fs,off,ks,cs,nX,h,h1,h2=>by
  simp only[ma]at h
  split at h
  ·simp at h
  rename_i hn
  split at h
  case isFalse=>simp at h
  rename_i ho
  cases hk:kr f.type with
  |none=>rw[hk]at h; simp at h
  |some k1=>
   rw[hk]at h
   simp only at h
   split at h
   case isFalse=>simp at h
   rename_i hs
   rw[Option.map_eq_some_iff]at h
   obtain⟨k2,h3,rfl⟩:=h
   obtain⟨a1,a2⟩:=sz h1
   obtain⟨b1,b2⟩:=sz h2
   rw[List.drop_drop]at a2 b2
   have ih:=sC hr fs (off+k1.length) k2 cs nX h3 a2 b2
   have hc:chunk P cs f.offset f.type=(cs.drop off).take k1.length:=by simp[chunk,ho,hs]
   have HB:chunk P nX f.offset f.type=(nX.drop off).take k1.length:=by simp[chunk,ho,hs]
   simp only[kY,hn,if_false]
   rw[hc,HB,hr _ _ _ _ hk a1 b1]
   simp only
   rw[ih,Option.map_some]
   congr 1
   have l1:=mb a1
   have l2:=mb b1
   conv=>rhs; rw[←List.take_append_drop k1.length (cs.drop off),←List.take_append_drop k1.length (nX.drop off)]
   rw[sB (by omega),List.drop_drop,List.drop_drop]
theorem tV[ah]{P:Program}{rec:TypeId→List Value→List Value→Option Bool}{e:TypeId}{ks:List CK}(hs:ks.length=P.cellsOf e)
  (hr:∀ c c',bA ks c=true→bA ks c'=true→rec e c c'=some (dk c c')) :
  ∀ (n m:Nat) (cs nX:List Value),bA (List.replicate n ks).flatten (cs.drop (m*ks.length))=true→bA (List.replicate n ks).flatten (nX.drop (m*ks.length))=true →
    ni rec P e cs nX (List.range' m n)=some (dk (cs.drop (m*ks.length)) (nX.drop (m*ks.length)))
 |0,m,cs,nX,h1,h2=>by
  simp only[List.replicate_zero,List.flatten_nil]at h1 h2
  have e1:cs.drop (m*ks.length)=[]:=by cases hq:cs.drop (m*ks.length) with
   |nil=>rfl
   |cons x xs=>rw[hq]at h1; simp[bA]at h1
  have e2:nX.drop (m*ks.length)=[]:=by cases hq:nX.drop (m*ks.length) with
   |nil=>rfl
   |cons x xs=>rw[hq]at h2; simp[bA]at h2
  rw[e1,e2]; rfl
 |n+1,m,cs,nX,h1,h2=>by
  simp only[List.replicate_succ,List.flatten_cons]at h1 h2
  obtain⟨a1,a2⟩:=sz h1
  obtain⟨b1,b2⟩:=sz h2
  rw[List.drop_drop]at a2 b2
  have em:m*ks.length+ks.length=(m+1)*ks.length:=by rw[Nat.succ_mul]
  rw[em]at a2 b2
  have ih:=tV hs hr n (m+1) cs nX a2 b2
  have hc:chunk P cs (m*P.cellsOf e) e=(cs.drop (m*ks.length)).take ks.length:=by simp[chunk,hs]
  have HB:chunk P nX (m*P.cellsOf e) e=(nX.drop (m*ks.length)).take ks.length:=by simp[chunk,hs]
  rw[List.range'_succ]
  simp only[ni]
  rw[hc,HB,hr _ _ a1 b1]
  simp only
  rw[ih,Option.map_some]
  congr 1
  have l1:=mb a1
  have l2:=mb b1
  conv=>rhs; rw[←List.take_append_drop ks.length (cs.drop (m*ks.length)),←List.take_append_drop ks.length (nX.drop (m*ks.length))]
  rw[sB (by omega),List.drop_drop,List.drop_drop,em]
theorem uQ[ah]{P:Program}:∀ (d:Nat) (t:TypeId) (ks:List CK) (c c':List Value),oP P d t=some ks→bA ks c=true→bA ks c'=true→ml P d t c c'=some (dk c c')
 |0,_,_,_,_,h,_,_=>by simp[oP]at h
 |d+1,t,ks,c,c',h,h1,h2=>by
  simp only[oP]at h
  simp only[ml]
  cases hu:P.underlying t with
  |none=>rw[hu]at h; simp at h
  |some ds=>
   rw[hu]at h
   cases ds with
   |bool=>
    simp only[Option.some.injEq]at h
    subst h
    match c,c',h1,h2 with
    |[.bool a],[.bool b],_,_=>simp[dk,uE]
    |[],_,h1,_=>simp[bA]at h1
    |_::_::_,_,h1,_=>simp[bA]at h1
    |_,[],_,h2=>simp[bA]at h2
    |_,_::_::_,_,h2=>simp[bA]at h2
    |[v],[w],h1,h2=>
     cases v<;>simp[bA,CK.fits]at h1
     cases w<;>simp[bA,CK.fits]at h2
     simp[dk,uE]
   |int k=>
    simp only[Option.some.injEq]at h
    subst h
    match c,c',h1,h2 with
    |[],_,h1,_=>simp[bA]at h1
    |_::_::_,_,h1,_=>simp[bA]at h1
    |_,[],_,h2=>simp[bA]at h2
    |_,_::_::_,_,h2=>simp[bA]at h2
    |[v],[w],h1,h2=>
     cases v<;>simp[bA,CK.fits]at h1
     cases w<;>simp[bA,CK.fits]at h2
     subst h1; subst h2
     simp[dk,uE]
   |string=>
    simp only[Option.some.injEq]at h
    subst h
    match c,c',h1,h2 with
    |[],_,h1,_=>simp[bA]at h1
    |_::_::_,_,h1,_=>simp[bA]at h1
    |_,[],_,h2=>simp[bA]at h2
    |_,_::_::_,_,h2=>simp[bA]at h2
    |[v],[w],h1,h2=>
     cases v<;>simp[bA,CK.fits]at h1
     cases w<;>simp[bA,CK.fits]at h2
     simp[dk,uE]
   |array n e=>
    simp only at h ⊢
    split at h
    case isFalse=>simp at h
    rename_i hc
    rw[if_pos hc]
    cases hk:oP P d e with
    |none=>rw[hk]at h; simp at h
    |some k1=>
     rw[hk]at h
     simp only at h
     split at h
     case isFalse=>simp at h
     rename_i hs
     simp only[Option.some.injEq]at h
     subst h
     have:=tV (rec:=ml P d) hs (fun c c'=>uQ d e k1 c c' hk) n 0 c c' (by simpa using h1) (by simpa using h2)
     rw[List.range_eq_range']
     simpa using this
   |struct fs=>
    simp only at h ⊢
    split at h
    ·simp at h
    rename_i hc
    rw[if_neg hc]
    have:=sC (rec:=ml P d) (fun t ks c c' hk=>uQ d t ks c c' hk) fs.toList 0 ks c c' h (by simpa using h1) (by simpa using h2)
    simpa using this
   |_=>simp at h
structure iM.Ok(Q:iM):Prop where
 row:∀ t m,Q.ty t=some m→∃ r,gb Q.P t=some r∧r.isAgg=m.agg∧r.size=m.size∧r.bytes=m.bytes∧(∀ z,m.zero=some z→cq r=some z)
 kind:∀ t m,Q.ty t=some m→∃ d,Q.P.underlying t=some d∧kindOf d=m.kind
 SQ:∀ t m ks,Q.ty t=some m→m.SQ=some ks→Q.P.eqGuardType Q.P.depth t=false∧oP Q.P 20 t=some ks
 map:∀ t q,Q.mapOf t=some q→zN Q.P t=some q
theorem fS{α:Type}:∀ {l:List (Nat×α)} {n:Nat} {a:α},cQ l n=some a→(n,a)∈l
 |[],_,_,h=>by simp[cQ]at h
 |(m,b)::r,n,a,h=>by
  simp only[cQ]at h
  split at h
  ·simp_all
  ·exact List.mem_cons_of_mem _ (fS h)
def rowOf(P:Program)(t:Nat):Option (Bool×Nat×Nat):=(gb P t).map fun r=>(r.isAgg,r.size,r.bytes)
def zeroOf(P:Program)(m:jS)(t:Nat):Option AV:=match m.zero with
 |none=>none
 |some _=>(gb P t).bind cq
def SY(P:Program)(m:jS)(t:Nat):Option (List CK):=match m.SQ with
 |none=>none
 |some _=>if P.eqGuardType P.depth t=false then oP P 20 t else none
def Ot(P:Program)(m:jS)(t:Nat):Option (KK×Nat):=match m.map with
 |none=>none
 |some _=>zN P t
theorem xJ{α β:Type}{f g:α→β}:∀ {l:List α},l.map f=l.map g→∀ x,x∈l→f x=g x
 |[],_,x,h=>by simp at h
 |y::ys,h,x,hx=>by
  simp only[List.map_cons,List.cons.injEq]at h
  rcases List.mem_cons.1 hx with rfl|hx
  ·exact h.1
  ·exact xJ h.2 x hx
theorem iM.Ok.of[ah]{Q:iM}(h1:(Q.M.map fun q=>rowOf Q.P q.1)=Q.M.map fun q=>some (q.2.agg,q.2.size,q.2.bytes))
  (h2:(Q.M.map fun q=>zeroOf Q.P q.2 q.1)=Q.M.map fun q=>q.2.zero)
  (h3:(Q.M.map fun q=>(Q.P.underlying q.1).map kindOf)=Q.M.map fun q=>some q.2.kind)
  (h4:(Q.M.map fun q=>SY Q.P q.2 q.1)=Q.M.map fun q=>q.2.SQ) (h5:(Q.M.map fun q=>Ot Q.P q.2 q.1)=Q.M.map fun q=>q.2.map):Q.Ok where
 row:=by
  intro t m h
  have hm:=fS h
  have e1:=xJ h1 _ hm
  have e2:=xJ h2 _ hm
  simp only[rowOf,Option.map_eq_some_iff,Prod.mk.injEq]at e1
  obtain⟨r,hr,a1,a2,a3⟩:=e1
  refine⟨r,hr,a1,a2,a3,fun z hz=>?_⟩
  simp only[zeroOf]at e2
  rw[hz]at e2
  simpa[hr] using e2
 kind:=by
  intro t m h
  have e:=xJ h3 _ (fS h)
  simp only[Option.map_eq_some_iff]at e
  exact e
 SQ:=by
  intro t m ks h hk
  have e:=xJ h4 _ (fS h)
  simp only[SY]at e
  rw[hk]at e
  simp only at e
  split at e
  ·exact⟨by assumption,e⟩
  ·simp at e
 map:=by
  intro t q h
  unfold iM.mapOf at h
  obtain⟨m,h1,h2⟩:=Option.bind_eq_some_iff.1 h
  have e:=xJ h5 _ (fS h1)
  simp only[Ot]at e
  rw[h2]at e
  exact e
end Go.PI
end
section
/- PS, part F: operations that only compute, and those on one object. -/
namespace Go.PI
variable {T:ej}{ρ:Type}
structure RE(T:ej)(H:aq T.den)(hp:ak)(v:SV T.den)(wr:List (Nat×aK T.den))(e:eg):Prop where
 val:RV T (bu H wr) v e.val
 hp:RH T (bu H wr) (av hp e.wr)
 grow:ep H (bu H wr)
 names:∀ q,q∈e.wr→q.1∈wr.map (·.1)
 EE:∀ n:Nat,n∉wr.map (·.1)→n<H.length→(bu H wr)[n]?=H[n]?
 len:H.length≤(bu H wr).length
 Ou:∀ n,recAt H n=true→n∉wr.map (·.1)
def ky(T:ej)(H:aq T.den)(hp:ak)(m:RM eg)(K:EK T ρ)(r:ρ):Prop:=
 ∃ v wr rd e,aN hp m e rd∧RE T H hp v wr e∧(K v wr rd).run=some r
section
variable {H:aq T.den}{hp:ak}{K:EK T ρ}{r:ρ}
theorem az[ah](hh:RH T H hp){m:RM eg}{v:SV T.den}{a:AV}{rd:List Nat}(hv:RV T H v a)(hm:aN hp m ⟨a,[]⟩ rd)(hk:(K v [] rd).run=some r):ky T H hp m K r:=
 ⟨v,[],rd,_,hm,⟨hv,hh,ep.refl _,fun q h=>by simp at h,fun _ _ _=>rfl,Nat.le_refl _,fun _ _ h=>by simp at h⟩,hk⟩
theorem yM{n:Nat}{o:aK T.den}(hn:n=H.length∨n<H.length):H.length≤(cd H n o).length:=by
 unfold cd
 split<;>simp
theorem Bk{n m:Nat}{o:aK T.den}(hm:m<H.length)(dP:m≠n):(cd H n o)[m]?=H[m]?:=by
 grind[cd]
theorem fT[ah](hh:RH T H hp){m:RM eg}{nm:Nat}(hn:nm=H.length∨H[nm]?=some none){o:aK T.den}{a':ba}(ho:RO T H o a'){v:SV T.den}{a:AV}{rd:List Nat}
  (hv:RV T (cd H nm o) v a) (hm:aN hp m ⟨a,[(nm,a')]⟩ rd) (hk:(K v [(nm,o)] rd).run=some r):ky T H hp m K r:=by
 obtain⟨hg,hr⟩:=hh.new hn ho
 refine⟨v,[(nm,o)],rd,_,hm,⟨hv,hr,hg,fun q h=>?_,fun n h hl=>?_,?_,fun n h1 h2=>?_⟩,hk⟩
 ·simp at h; subst h; simp
 ·simp at h; exact Bk hl h
 ·exact yM (hn.imp id fun h=>(List.getElem?_eq_some_iff.1 h).1)
 ·simp at h2
  subst h2
  unfold recAt at h1
  rcases hn with hn|hn
  ·rw[List.getElem?_eq_none (by omega)]at h1; simp at h1
  ·rw[hn]at h1; simp at h1
theorem lG[ah](hh:RH T H hp){m:RM eg}{n:Nat}{o o':aK T.den}{a':ba}(ho:H[n]?=some (some o))(hc:o.cur≤o'.cur)(hl:o'.cur=o.cur→o'.len=o.len)(eF:RO T H o' a')
  {v:SV T.den} {a:AV} {rd:List Nat} (hv:RV T (H.set n (some o')) v a) (hm:aN hp m ⟨a,[(n,a')]⟩ rd) (hk:(K v [(n,o')] rd).run=some r) (hnr:o.isRec=false:=by rfl):ky T H hp m K r:=by
 obtain⟨hg,hr⟩:=hh.WK ho hc hl eF
 have cr:=(List.getElem?_eq_some_iff.1 ho).1
 have e1:bu H [(n,o')]=H.set n (some o'):=by simp[bu,cd]; omega
 have e2:av hp [(n,a')]=hp.set n (some a'):=by simp[av,setObj]; have:=hh.length; omega
 refine⟨v,[(n,o')],rd,_,hm,⟨by rw[e1]; exact hv,by rw[e1,e2]; exact hr,by rw[e1]; exact hg,fun q h=>?_,fun k h hl=>?_,?_,fun m h1 h2=>?_⟩,hk⟩
 ·simp at h; subst h; simp
 ·rw[e1]; simp at h; rw[List.getElem?_set_ne (Ne.symm h)]
 ·rw[e1]; simp
 ·simp at h2
  subst h2
  unfold recAt at h1
  rw[ho]at h1
  simp only at h1
  rw[hnr]at h1
  simp at h1
theorem jk{x:Option AV}(h:(qY (T:=T) x K).run=some r):∃ v,x=some (.lit v)∧(K (.lit v) [] []).run=some r:=by
 unfold qY at h
 split at h
 ·exact⟨_,rfl,h⟩
 ·simp[Tr.run]at h
theorem nU{x:Option (SV T.den)}{rd:List Nat}(h:(A4 x rd K).run=some r):∃ v,x=some v∧(K v [] rd).run=some r:=by
 unfold A4 at h
 split at h
 ·exact⟨_,rfl,h⟩
 ·simp[Tr.run]at h
theorem gz{b:Bool}{x y:Tr ρ}(h:(Tr.cond b x y).run=some r):(b=true∧x.run=some r)∨(b=false∧y.run=some r):=by
 cases b with
 |true=>exact .inl ⟨rfl,h⟩
 |false=>exact .inr ⟨rfl,h⟩
theorem bp[ah]{b:Bool}{x:Tr ρ}(h:(Tr.cond b x .fail).run=some r):b=true∧x.run=some r:=by
 grind[Tr.run]
theorem bind_some{α:Type}{e:Option α}{k:α→Tr ρ}(h:(Tr.bind e k).run=some r):∃ a,e=some a∧(k a).run=some r:=by
 simp only[Tr.run,Option.bind_eq_some_iff]at h
 exact h
theorem jO[ah]{v:SV T.den}{K:Nat→Tr ρ}(h:(hY v K).run=some r):∃ k n,v=.lit (.int k n)∧0≤n∧(K n.toNat).run=some r:=by
 unfold hY at h
 split at h
 ·obtain⟨h1,h2⟩:=bp h
  exact⟨_,_,rfl,by simpa using h1,h2⟩
 ·simp[Tr.run]at h
theorem tp[ah]{v:SV T.den}{a:AV}{k:IntKind}{n:Int}(hv:RV T H v a)(e:v=.lit (.int k n))(hn:0≤n):asNat a=some n.toNat:=by
 subst e
 have:=hv.live rfl
 simp only[R]at this
 subst this
 simp[asNat,hn]
theorem dD[ah]{i:Nat}{K:Nat→Tr ρ}:∀ {len m:Nat},(gE i len m K).run=some r→m≤i∧i<m+len∧(K i).run=some r
 |0,m,h=>by simp[gE,Tr.run]at h
 |len+1,m,h=>by
  simp only[gE]at h
  rcases gz h with ⟨h1,h2⟩|⟨h1,h2⟩
  ·simp_all
  ·obtain⟨h3,h4,h5⟩:=dD h2
   exact⟨by omega,by omega,h5⟩
theorem RV.lit[ah]{v:SV T.den}{a:AV}{x:Value}(hv:RV T H v a)(e:v=.lit x):a=.lit x:=by
 subst e
 have:=hv.live rfl
 simpa only[R] using this
theorem bC(x:Value):RV T H (.lit x) (.lit x):=.inr (by simp[R])
theorem gL.arr(hh:RH T H hp){n c ax:Nat}(hv:gL H n c ax){o:aK T.den}(ho:H[n]?=some (some o))(hc:Nat.beq c o.cur=true):ax=o.len:=by
 obtain⟨o',h1,h2,h3⟩:=hv
 rw[ho]at h1
 simp only[Option.some.injEq]at h1
 subst h1
 exact h3 (Nat.eq_of_beq_eq_true hc)
theorem tq:∀ {v:SV T.den} {a0 a:AV} {d:Nat},R T H v a0→AtX a0 d a→R T H (jA d v) a
 |.ref n c i j,a0,a,d,h,hx=>by
  simp only[R]at h
  obtain⟨ax,rfl,hv⟩:=h
  rcases hx with ⟨n,ax,k,j,h1,rfl⟩|⟨e,j,h1,rfl⟩<;>cases h1
  simp only[jA,R]
  exact⟨_,rfl,hv⟩
 |.bq e j,a0,a,d,h,hx=>by
  simp only[R]at h
  obtain⟨e',rfl,hv⟩:=h
  rcases hx with ⟨n,ax,k,j,h1,rfl⟩|⟨e,j,h1,rfl⟩<;>cases h1
  simp only[jA,R]
  exact⟨_,rfl,hv⟩
 |.vg v s l i,a0,a,d,h,hx=>by
  simp only[R]at h
  obtain⟨a1,h1,h2,h3⟩:=h
  simp only[jA,R]
  rcases h3 with ⟨n,ax,k,j,rfl,rfl⟩|⟨e,j,rfl,rfl⟩<;>rcases hx with ⟨n',Fa,k',j',e1,rfl⟩|⟨e',j',e1,rfl⟩<;>cases e1
  ·exact⟨.ref n ax k (j+d),tq h1 (.inl ⟨_,_,_,_,rfl,rfl⟩),h2,.inl ⟨_,_,_,_,rfl,by rw[Nat.add_right_comm]⟩⟩
  ·exact⟨.bq e (j+d),tq h1 (.inr ⟨_,_,rfl,rfl⟩),h2,.inr ⟨_,_,rfl,by rw[Nat.add_right_comm]⟩⟩
 |.dead,_,_,_,h,_=>by simp[R]at h
 |.lit v,_,_,_,h,hx=>by
  simp only[R]at h; subst h
  rcases hx with ⟨n,ax,k,j,h1,_⟩|⟨e,j,h1,_⟩<;>cases h1
 |.agg l,_,_,_,h,hx=>by
  simp only[R]at h; obtain⟨_,rfl,_⟩:=h
  rcases hx with ⟨n,ax,k,j,h1,_⟩|⟨e,j,h1,_⟩<;>cases h1
 |.kJ l,_,_,_,h,hx=>by
  simp only[R]at h; obtain⟨_,rfl,_⟩:=h
  rcases hx with ⟨n,ax,k,j,h1,_⟩|⟨e,j,h1,_⟩<;>cases h1
 |.sl l,_,_,_,h,hx=>by
  simp only[R]at h; obtain⟨_,rfl,_⟩:=h
  rcases hx with ⟨n,ax,k,j,h1,_⟩|⟨e,j,h1,_⟩<;>cases h1
 |.jR t l,_,_,_,h,hx=>by
  simp only[R]at h
  rcases h with ⟨_,rfl,_⟩|⟨_,rfl⟩<;>rcases hx with ⟨n,ax,k,j,h1,_⟩|⟨e,j,h1,_⟩<;>cases h1
 |.jC n c i j ln cp,_,_,_,h,hx=>by
  simp only[R]at h; obtain⟨_,rfl,_⟩:=h
  rcases hx with ⟨n,ax,k,j,h1,_⟩|⟨e,j,h1,_⟩<;>cases h1
 |.bw esz n c rg cap,_,_,_,h,hx=>by
  simp only[R]at h
  obtain⟨ax,_,h2⟩:=h
  rcases rg with _|⟨off,len⟩<;>simp only at h2<;>subst h2<;>rcases hx with ⟨n,ax,k,j,h1,_⟩|⟨e,j,h1,_⟩<;>cases h1
 |.jT fn f c,_,_,_,h,hx=>by
  simp only[R]at h; obtain⟨_,_,rfl,_⟩:=h
  rcases hx with ⟨n,ax,k,j,h1,_⟩|⟨e,j,h1,_⟩<;>cases h1
 |.jU t v,_,_,_,h,hx=>by
  simp only[R]at h; obtain⟨_,rfl,_⟩:=h
  rcases hx with ⟨n,ax,k,j,h1,_⟩|⟨e,j,h1,_⟩<;>cases h1
 |.zD t l c b,_,_,_,h,hx=>by
  simp only[R]at h
  rcases h with ⟨_,_,rfl,_⟩|⟨_,_,rfl|rfl⟩<;>rcases hx with ⟨n,ax,k,j,h1,_⟩|⟨e,j,h1,_⟩<;>cases h1
 |.nz,_,_,_,h,hx=>by
  simp only[R]at h
  subst h
  rcases hx with ⟨n,ax,k,j,h1,_⟩|⟨e,j,h1,_⟩<;>cases h1
 |.mp y n,_,_,_,h,hx=>by
  simp only[R]at h; obtain⟨rfl,_⟩:=h
  rcases hx with ⟨n,ax,k,j,h1,_⟩|⟨e,j,h1,_⟩<;>cases h1
theorem lO{e:SV T.den}{s:Nat}:∀ {n j:Nat} {xs:List (SV T.den)},iG e j s n=some xs→xs.length=n∧∀ m x,xs[m]?=some x→qc false 1 e (j+m*s)=some x
 |0,j,xs,h=>by simp only[iG,Option.some.injEq]at h; subst h; simp
 |n+1,j,xs,h=>by
  simp only[iG,Option.bind_eq_some_iff,Option.map_eq_some_iff]at h
  obtain⟨x,hx,l,hl,rfl⟩:=h
  obtain⟨h1,h2⟩:=lO hl
  refine⟨by simp[h1],fun m y hy=>?_⟩
  cases m with
  |zero=>simp at hy; subst hy; simpa using hx
  |succ m=>
   grind
theorem uR{k:IntKind}:∀ {xs:List (SV T.den)} {l:List Int},xC k xs=some l→xs=l.map fun n=>.lit (.int k n)
 |[],l,h=>by simp only[xC,Option.some.injEq]at h; subst h; rfl
 |x::r,l,h=>by
  unfold xC at h
  split at h
  ·simp at *
  ·rename_i k' n r' he
   cases he
   split at h
   case isFalse=>simp at h
   rename_i hk
   subst hk
   rw[Option.map_eq_some_iff]at h
   obtain⟨l',hl,rfl⟩:=h
   rw[uR hl]; rfl
  ·simp at h
theorem yN:∀ {xs:List (SV T.den)} {l:List Bool},wk xs=some l→xs=l.map fun n=>.lit (.bool n)
 |[],l,h=>by simp only[wk,Option.some.injEq]at h; subst h; rfl
 |x::r,l,h=>by
  unfold wk at h
  split at h
  ·simp at *
  ·rename_i n r' he
   cases he
   rw[Option.map_eq_some_iff]at h
   obtain⟨l',hl,rfl⟩:=h
   rw[yN hl]; rfl
  ·simp at h
theorem De{α:Type}{l:List α}{i:Nat}{d x:α}(h:l[i]?=some x):sn l i d=x:=by
 simp_all[sn,h]
theorem GB{xs:List (SV T.den)}{i:Nat}{x y:SV T.den}(h:N9 i xs=some y)(hx:xs[i]?=some x):y=x:=by
 unfold N9 at h
 split at h
 ·rename_i k n r
  rw[Option.map_eq_some_iff]at h
  obtain⟨l,hl,rfl⟩:=h
  rw[uR hl]at hx
  have:(List.map (fun n=>(SV.lit (Value.int k n):SV T.den)) (n::l))[i]?=some x:=hx
  rw[List.getElem?_map,Option.map_eq_some_iff]at this
  obtain⟨z,hz,rfl⟩:=this
  rw[De hz]
 ·rename_i n r
  rw[Option.map_eq_some_iff]at h
  obtain⟨l,hl,rfl⟩:=h
  rw[yN hl]at hx
  have:(List.map (fun n=>(SV.lit (Value.bool n):SV T.den)) (n::l))[i]?=some x:=hx
  rw[List.getElem?_map,Option.map_eq_some_iff]at this
  obtain⟨z,hz,rfl⟩:=this
  rw[De hz]
 ·simp at h
theorem GC{m:jS}{v x:SV T.den}{bm len i:Nat}{xs:List (SV T.den)}{rd:List Nat}(h:IB H v bm len=some (xs,rd))(hx:N9 i xs=some x)(hi:i<len)(h1:m.agg=false)(h2:m.size=1):
  qC m H (jA (i*bm) v) K=K x [] rd:=by
 have fin:∀ (e:SV T.den) (j:Nat),iG e j bm len=some xs→qc m.agg m.size e (j+i*bm)=some x:=by
  intro e j hs
  obtain⟨g1,g2⟩:=lO hs
  have cr:i<xs.length:=by omega
  have hg:=List.getElem?_eq_getElem cr
  rw[GB hx hg,h1,h2]
  exact g2 _ _ hg
 unfold IB at h
 split at h
 ·rename_i n c k j
  split at h
  case h_2=>simp at h
  rename_i g cl f cur es ho
  split at h
  case h_2=>simp at h
  rename_i hc
  simp only[Option.bind_eq_some_iff,Option.map_eq_some_iff,Prod.mk.injEq]at h
  obtain⟨e,he,l,hl,rfl,rfl⟩:=h
  simp only[jA,qC,ho,hc,he,fin e j hl,A4]
 ·rename_i e j
  simp only[Option.map_eq_some_iff,Prod.mk.injEq]at h
  obtain⟨l,hl,rfl,rfl⟩:=h
  simp only[jA,qC,fin e j hl,A4]
 ·simp at h
theorem Ov{α:Type}{l:List α}{n:Nat}{x:α}(h:l[n]?=some x):l.set n x=l:=Go.PI.jd h
theorem GD{k:IntKind}{y:Int}{bm i:Nat}:∀ {ns:List Int} {l:List (SV T.den)} {j m:Nat},i<m→(∀ p n,ns[p]?=some n→l[j+p*bm]?=some (.lit (.int k n)))→IC l j bm i m k y ns=l
 |[],l,j,m,_,_=>rfl
 |n::ns,l,j,m,hm,h=>by
  have h0:l[j]?=some (.lit (.int k n)):=by simpa using h 0 n rfl
  have hb:Nat.beq i m=false:=by
   cases hb:Nat.beq i m
   ·rfl
   ·have:=Nat.eq_of_beq_eq_true hb; omega
  simp only[IC,hb,cond_false]
  rw[Ov h0]
  refine GD (by omega) fun p x hp=>?_
  have:=h (p+1) x (by simpa using hp)
  rwa [Nat.succ_mul,Nat.add_comm _ bm,←Nat.add_assoc]at this
theorem GF{k:IntKind}{y:Int}{bm i:Nat}(hs:0<bm):∀ {ns:List Int} {l:List (SV T.den)} {j m:Nat},m≤i→i<m+ns.length→(∀ p n,ns[p]?=some n→l[j+p*bm]?=some (.lit (.int k n))) →
  IC l j bm i m k y ns=l.set (j+(i-m)*bm) (.lit (.int k y))
 |[],l,j,m,h1,h2,_=>by simp at h2; omega
 |n::ns,l,j,m,h1,h2,h=>by
  have h0:l[j]?=some (.lit (.int k n)):=by simpa using h 0 n rfl
  have hn:∀ (l':List (SV T.den)),(∀ q,j<q→l'[q]?=l[q]?)→∀ p x,ns[p]?=some x→l'[j+bm+p*bm]?=some (.lit (.int k x)):=by
   intro l' hl p x hp
   have:=h (p+1) x (by simpa using hp)
   rw[Nat.succ_mul,Nat.add_comm _ bm,←Nat.add_assoc]at this
   rw[hl _ (by omega)]; exact this
  by_cases hm:i=m
  ·subst hm
   have hb:Nat.beq i i=true:=by simp
   simp only[IC,hb,cond_true,Nat.sub_self,Nat.zero_mul,Nat.add_zero]
   exact GD (by omega) (hn _ fun q hq=>by rw[List.getElem?_set_ne (by omega)])
  ·have hb:Nat.beq i m=false:=by
    cases hb:Nat.beq i m
    ·rfl
    ·simp_all
   simp only[IC,hb,cond_false]
   rw[Ov h0,GF hs (by omega) (by simp at h2; omega) (hn _ fun _ _=>rfl)]
   have:i-m=(i-(m+1))+1:=by omega
   rw[this,Nat.succ_mul,Nat.add_assoc,Nat.add_comm bm]
theorem EG{m:jS}{b v:SV T.den}{bm len i n:Nat}{o:aK T.den}(h:ID H b v bm len i=some (n,o))(hi:i<len)(h2:m.size=1):
  th m H (jA (i*bm) b) v K=K (.lit undef) [(n,o)] [n]:=by
 unfold ID at h
 split at h
 case h_2=>simp at h
 rename_i n' c i0 j k y
 split at h
 case h_2=>simp at h
 rename_i g cl f cur es ho
 split at h
 case h_2=>simp at h
 rename_i l hc he
 simp only[Bool.and_eq_true]at hc
 obtain⟨⟨Wx,Qe⟩,Yf⟩:=hc
 have hs:0<bm:=Nat.le_of_ble_eq_true Yf
 simp only[Option.map_eq_some_iff,Option.bind_eq_some_iff,Prod.mk.injEq]at h
 obtain⟨ns,⟨xs,Cw,hns⟩,rfl,rfl⟩:=h
 obtain⟨g1,g2⟩:=lO Cw
 have hxe:=uR hns
 have x9:∀ p x,ns[p]?=some x→l[j+p*bm]?=some (.lit (.int k x)):=by
  simp_all[qc]
 have hlen:ns.length=len:=by rw[←g1,hxe,List.length_map]
 have IQ:=GF (y:=y) hs (Nat.zero_le i) (by omega) x9
 rw[Nat.sub_zero]at IQ
 rw[IQ]
 have cr:j+i*bm<l.length:=by
  have:=x9 i _ (List.getElem?_eq_getElem (by omega:i<ns.length))
  exact(List.getElem?_eq_some_iff.1 this).1
 have wX:(cb (SV.lit (Value.int k y):SV T.den))=[.lit (.int k y)]:=rfl
 simp only[jA,th,cL,wX,ho,Wx,Qe,he,h2]
 simp[hJ,jN,iC,aD,aM]
 rw[if_pos (show j+i*bm+1≤l.length from cr)]
theorem xK[ah](hT:T.Ok){P:Program}{t:TypeId}{m:jS}{q:bO}(hq:gb P t=some q)(h1:q.isAgg=m.agg)(h2:q.size=m.size)(hh:RH T H hp){a:SV T.den}{b:AV}(ha:RV T H a b)
  (h:(qC m H a K).run=some r):∃ v c rd,aN hp (mA P t b) c rd∧R T H v c∧(K v [] rd).run=some r:=by
 unfold mA
 rw[hq]
 simp only
 unfold qC at h
 split at h
 ·-- a reference
  rename_i n c i j
  have ha:=ha.live rfl
  simp only[R]at ha
  obtain⟨ax,rfl,cI⟩:=ha
  simp only
  split at h
  ·rename_i g cl f cur es ho
   obtain⟨o,dM,eF⟩:=hh.obj ho
   obtain⟨es',rfl,cZ,tH⟩:=eF
   split at h
   case h_2=>simp[Tr.run]at h
   rename_i hc
   have cI:=cI.arr hh ho hc
   simp only[aK.len]at cI
   split at h
   case h_2=>simp[Tr.run]at h
   rename_i e he
   obtain⟨v,hv,hk⟩:=nU h
   obtain⟨e',JK,HE⟩:=aE.get (bh.1 cZ) he
   rw[←h1,←h2]at hv
   obtain⟨c',HB,Yg⟩:=R.part HE hv
   refine⟨v,c',[n],?_,Yg,hk⟩
   refine aN.mono (aN.bind (aN.arr dM (by rw[cI]; exact(RL.length cZ).symm)) ?_) (rd:=[n]++[]) (fun _ h=>by simpa using h)
   simp only[JK]
   exact aN.iZ HB
  ·rename_i g f cur t' l ho
   obtain⟨o,dM,eF⟩:=hh.obj ho
   obtain⟨es',rfl,cZ⟩:=eF
   split at h
   case h_2=>simp[Tr.run]at h
   rename_i hc
   have cI:=cI.arr hh ho hc
   simp only[aK.len]at cI
   obtain⟨x,hx,h⟩:=bind_some h
   obtain⟨v,hv,hk⟩:=nU h
   obtain⟨e',JK,HE⟩:=aE.get cZ hx
   rw[←h1,←h2]at hv
   obtain⟨c',HB,Yg⟩:=R.part (hT.up _ _ _ H HE) hv
   refine⟨v,c',[n],?_,Yg,hk⟩
   refine aN.mono (aN.bind (aN.arr dM (by rw[cI]; exact(aE.length cZ).symm)) ?_) (rd:=[n]++[]) (fun _ h=>by simpa using h)
   simp only[JK]
   exact aN.iZ HB
  ·simp[Tr.run]at h
 ·rename_i e j
  have ha:=ha.live rfl
  simp only[R]at ha
  obtain⟨e',rfl,HE,_⟩:=ha
  obtain⟨v,hv,hk⟩:=nU h
  rw[←h1,←h2]at hv
  obtain⟨c',HB,Yg⟩:=R.part HE hv
  exact⟨v,c',[],aN.iZ HB,Yg,hk⟩
 ·simp[Tr.run]at h
theorem GG[ah](hT:T.Ok){P:Program}{t:TypeId}{m:jS}{q:bO}(hq:gb P t=some q)(h1:q.isAgg=m.agg)(h2:q.size=m.size)(hh:RH T H hp){a:SV T.den}{b:AV}(ha:RV T H a b)
  (h:(Kd m H a K).run=some r):∃ v c rd,aN hp (mA P t b) c rd∧R T H v c∧(K v [] rd).run=some r:=by
 unfold Kd at h
 split at h
 ·rename_i v bm len i
  have ha:=ha.live rfl
  simp only[R]at ha
  obtain⟨a0,g1,g2,g3⟩:=ha
  have hR:=tq g1 g3
  have chain:(gE i len 0 fun k=>qC m H (jA (k*bm) v) K).run=some r→∃ v c rd,aN hp (mA P t b) c rd∧R T H v c∧(K v [] rd).run=some r:=by
   intro h
   obtain⟨_,_,h⟩:=dD h
   exact xK hT hq h1 h2 hh (.inr hR) h
  split at h
  ·rename_i xs rd hs hx
   simp only[Bool.and_eq_true,Bool.not_eq_true']at hs
   split at h
   ·rename_i x Ow
    rw[←GC (K:=K) (m:=m) hx Ow g2 hs.1 (Nat.eq_of_beq_eq_true hs.2)]at h
    exact xK hT hq h1 h2 hh (.inr hR) h
   ·exact chain h
  ·exact chain h
 ·exact xK hT hq h1 h2 hh ha h
def aK.Bl{den:Nat→Type}:aK den→Bool
 |.arr ..|.cE ..=>true
 |_=>false
theorem RO.GH[ah]{o:aK T.den}{a:ba}(eF:RO T H o a)(hj:o.Bl=true):∃ es,a=.arr o.flags.1 o.flags.2.1 o.flags.2.2 es∧es.length=o.len:=by
 cases o with
 |arr g cl f cur es=>obtain⟨es',rfl,cZ,_⟩:=eF; exact⟨es',rfl,(RL.length cZ).symm⟩
 |cE g f cur t l=>obtain⟨es',rfl,cZ⟩:=eF; exact⟨es',rfl,(aE.length cZ).symm⟩
 |_=>simp[aK.Bl]at hj
theorem uS[ah](hT:T.Ok){P:Program}{t:TypeId}{m:jS}{q:bO}(hq:gb P t=some q)(h2:q.size=m.size)(hh:RH T H hp){a v:SV T.den}{b c:AV}(ha:RV T H a b)(hv:RV T H v c)
  (h:(th m H a v K).run=some r):ky T H hp (rz P t b c) K r:=by
 unfold rz
 rw[hq]
 simp only
 unfold th at h
 split at h
 case h_2=>simp[Tr.run]at h
 rename_i hd mE
 simp only[Bool.and_eq_true,decide_eq_true_eq]at mE
 have hv:=hv.live hd
 have og:=hv.cells
 split at h
 case h_2=>simp[Tr.run]at h
 rename_i n cc i j
 have ha:=ha.live rfl
 simp only[R]at ha
 obtain⟨ax,rfl,cI⟩:=ha
 simp only
 split at h
 ·rename_i g cl f cur es ho
  obtain⟨o,dM,eF⟩:=hh.obj ho
  obtain⟨es',rfl,cZ,tH⟩:=eF
  split at h
  case h_2=>simp[Tr.run]at h
  rename_i hc
  simp only[Bool.and_eq_true,Bool.not_eq_true']at hc
  have cI:=cI.arr hh ho hc.1
  simp only[aK.len]at cI
  split at h
  case h_2=>simp[Tr.run]at h
  rename_i e he
  split at h
  case h_2=>simp[Tr.run]at h
  rename_i e' y5
  obtain⟨b',qR,L6⟩:=aE.get (bh.1 cZ) he
  obtain⟨e2,AI,U3⟩:=R.jV L6 og y5
  have fW:RL T H (es.set i e') (es'.set i e2):=bh.2 ((bh.1 cZ).set i U3)
  refine lG (o':=.arr g (cl&&aD (cb v)) f cur (es.set i e')) hh ho (Nat.le_refl _) (fun _=>by simp[aK.len]) (a':=.arr g (cl&&bf (cellsOf c)) f (es'.set i e2)) ⟨_,by rw[RL.closed og],fW,fun pq=>by simp only[Bool.and_eq_true]at pq; exact uN (tH pq.1) (Bf y5 (lF (tH pq.1) (List.mem_of_getElem? he)) pq.2) i⟩ (bC undef) ?_ h
  refine aN.mono (aN.bind (aN.arr dM (by rw[cI]; exact(RL.length cZ).symm)) ?_) (rd:=[n]++[]) (fun _ h=>by simpa using h)
  simp only[qR,AI]
  rw[if_pos ⟨hc.2,by rw[←og.length,h2]; exact mE.1,by rw[←og.Gd]; exact mE.2⟩]
  exact aN.ret _
 ·rename_i g f cur t' l ho
  obtain⟨o,dM,eF⟩:=hh.obj ho
  obtain⟨es',rfl,cZ⟩:=eF
  split at h
  case h_2=>simp[Tr.run]at h
  rename_i hc
  simp only[Bool.and_eq_true,Bool.not_eq_true']at hc
  have cI:=cI.arr hh ho hc.1.1
  simp only[aK.len]at cI
  obtain⟨x,hx,h⟩:=bind_some h
  split at h
  case h_2=>simp[Tr.run]at h
  rename_i e' y5
  split at h
  case h_2=>simp[Tr.run]at h
  rename_i y hy
  obtain⟨b',qR,L6⟩:=aE.get cZ hx
  obtain⟨e2,AI,U3⟩:=R.jV (hT.up _ _ _ H L6) og y5
  have fW:aE (T.rp t') (l.set i y) (es'.set i e2):=cZ.set i (hT.dn _ _ _ _ H hy U3)
  refine lG (o':=.cE g f cur t' (l.set i y)) hh ho (Nat.le_refl _) (fun _=>by simp[aK.len]) (a':=.arr g (true&&bf (cellsOf c)) f (es'.set i e2)) ⟨_,by rw[←RL.closed og,hc.2]; rfl,fW⟩ (bC undef) ?_ h
  refine aN.mono (aN.bind (aN.arr dM (by rw[cI]; exact(aE.length cZ).symm)) ?_) (rd:=[n]++[]) (fun _ h=>by simpa using h)
  simp only[qR,AI]
  rw[if_pos ⟨hc.1.2,by rw[←og.length,h2]; exact mE.1,by rw[←og.Gd]; exact mE.2⟩]
  exact aN.ret _
 ·simp[Tr.run]at h
theorem Lr[ah](hT:T.Ok){P:Program}{t:TypeId}{m:jS}{q:bO}(hq:gb P t=some q)(h2:q.size=m.size)(hh:RH T H hp){a v:SV T.den}{b c:AV}(ha:RV T H a b)(hv:RV T H v c)
  (h:(IE m H a v K).run=some r):ky T H hp (rz P t b c) K r:=by
 unfold IE at h
 split at h
 ·rename_i w bm len i
  have ha:=ha.live rfl
  simp only[R]at ha
  obtain⟨a0,g1,g2,g3⟩:=ha
  have hR:=tq g1 g3
  split at h
  ·rename_i n o hs hx
   rw[←EG (K:=K) (m:=m) hx g2 (Nat.eq_of_beq_eq_true hs)]at h
   exact uS hT hq h2 hh (.inr hR) hv h
  ·obtain⟨_,_,h⟩:=dD h
   exact uS hT hq h2 hh (.inr hR) hv h
 ·exact uS hT hq h2 hh ha hv h
end
end Go.PI
end
section
/- PS, part G: the other operations. -/
namespace Go.PI
variable {T:ej}{ρ:Type}
section
variable {H:aq T.den}{hp:ak}{K:EK T ρ}{r:ρ}{Q:iM}
theorem iM.Ok.slice(hQ:Q.Ok){t e:Nat}{m:jS}(h:Q.elemOf t=some (e,m)):Q.P.underlying t=some (.slice e)∧Q.ty e=some m:=by
 unfold iM.elemOf at h
 cases ht:Q.ty t with
 |none=>rw[ht]at h; simp at h
 |some m1=>
  rw[ht]at h
  simp only at h
  obtain⟨d,hd,hk⟩:=hQ.kind t m1 ht
  cases hm:m1.kind with
  |slice e'=>
   rw[hm]at h hk
   simp only[Option.map_eq_some_iff,Prod.mk.injEq]at h
   obtain⟨m2,h1,rfl,rfl⟩:=h
   cases d<;>simp[kindOf]at hk
   subst hk
   exact⟨hd,h1⟩
  |_=>rw[hm]at h; simp at h
theorem iM.Ok.elem[ah](hQ:Q.Ok){t:Nat}{m:jS}(h:Q.elem t=some m):∃ r,aU Q.P t=some r∧r.isAgg=m.agg∧r.size=m.size∧r.bytes=m.bytes∧(∀ z,m.zero=some z→cq r=some z):=by
 unfold iM.elem at h
 rw[Option.map_eq_some_iff]at h
 obtain⟨⟨e,m'⟩,h1,rfl⟩:=h
 obtain⟨h2,h3⟩:=hQ.slice h1
 obtain⟨r,h4,h5⟩:=hQ.row e _ h3
 exact⟨r,by simp[aU,h2,h4],h5⟩
theorem iM.Ok.GI(hQ:Q.Ok){t n:Nat}{m:jS}(h:Q.arr t=some (n,m)):∃ r,arrayElem Q.P t=some (n,r)∧r.isAgg=m.agg∧r.size=m.size:=by
 unfold iM.arr at h
 cases ht:Q.ty t with
 |none=>rw[ht]at h; simp at h
 |some m1=>
  rw[ht]at h
  simp only at h
  obtain⟨d,hd,hk⟩:=hQ.kind t m1 ht
  cases hm:m1.kind with
  |array n' e=>
   rw[hm]at h hk
   simp only[Option.map_eq_some_iff,Prod.mk.injEq]at h
   obtain⟨m2,h1,rfl,rfl⟩:=h
   cases d<;>simp[kindOf]at hk
   obtain⟨rfl,rfl⟩:=hk
   obtain⟨r,h4,h5,h6,_⟩:=hQ.row _ _ h1
   exact⟨r,by simp[arrayElem,hd,h4],h5,h6⟩
  |_=>rw[hm]at h; simp at h
theorem iM.Ok.RG(hQ:Q.Ok){t f off:Nat}{m:jS}(h:Q.fld t f=some (off,m)):∃ r,n7 Q.P t f=some (off,r)∧r.isAgg=m.agg∧r.size=m.size:=by
 unfold iM.fld at h
 cases ht:Q.ty t with
 |none=>rw[ht]at h; simp at h
 |some m1=>
  rw[ht]at h
  simp only at h
  obtain⟨d,hd,hk⟩:=hQ.kind t m1 ht
  cases hm:m1.kind with
  |struct fs=>
   rw[hm]at h hk
   simp only at h
   cases d<;>simp[kindOf]at hk
   rename_i Hu
   subst hk
   cases hf:(List.map (fun f=>(f.offset,f.type)) Hu.toList)[f]? with
   |none=>rw[hf]at h; simp at h
   |some q=>
    obtain⟨acD,e⟩:=q
    rw[hf]at h
    simp only at h
    rw[List.getElem?_map,Option.map_eq_some_iff]at hf
    obtain⟨fd,hfd,hq⟩:=hf
    simp only[Prod.mk.injEq]at hq
    obtain⟨rfl,rfl⟩:=hq
    cases he:Q.ty fd.type with
    |none=>rw[he]at h; simp at h
    |some m2=>
     rw[he]at h
     simp only at h
     split at h
     ·simp at h
     rename_i hz
     simp only[Option.some.injEq,Prod.mk.injEq]at h
     obtain⟨rfl,rfl⟩:=h
     obtain⟨r,h4,h5,h6,_⟩:=hQ.row _ _ he
     refine⟨r,?_,h5,h6⟩
     have acE:Hu[f]?=some fd:=by simpa using hfd
     simp[n7,structFields,hd,acE,h4]
     omega
  |_=>rw[hm]at h; simp at h
theorem iM.Ok.RI(hQ:Q.Ok){t:Nat}{b:Bool}(h:Q.isSlice t=some b):cf Q.P t=b:=by
 unfold iM.isSlice at h
 cases ht:Q.ty t with
 |none=>rw[ht]at h; simp at h
 |some m1=>
  rw[ht]at h
  simp only at h
  obtain⟨d,hd,hk⟩:=hQ.kind t m1 ht
  unfold cf
  rw[hd]
  cases hm:m1.kind<;>rw[hm]at h hk<;>cases d<;>simp[kindOf]at hk<;>simp_all
theorem RJ[ah]{P:Program}{op:BinOp}{t:TypeId}{xo yo:Operand}{k:IntKind}{a b:Int}{v:Value}(h:UQ op k a b=some v):
  gf P op t xo yo (.lit (.int k a)) (.lit (.int k b))=some (.lit v):=by
 cases op<;>simp only[UQ,Option.some.injEq,reduceCtorEq]at h<;>subst h
 ·exact DX
 ·exact JM
 ·exact QP
 ·rw[QN]; congr
 ·rw[QO]; congr
 ·exact sV
 ·exact QL
 ·exact JL
 ·exact QM
theorem RK[ah]{P:Program}{op:BinOp}{t:TypeId}{xo yo:Operand}{k:IntKind}{a b:Int}{v:Value}(h:UR op k a b=some v)(hb:b≠0):
  gf P op t xo yo (.lit (.int k a)) (.lit (.int k b))=some (.lit v):=by
 cases op<;>simp only[UR,Option.some.injEq,reduceCtorEq]at h<;>subst h
 ·simp only[gf,fj,dW]; rw[fO _ (by simp) (by simp)]; simp[binOp,Op.intDiv,hb]; rfl
 ·simp only[gf,fj,dW]; rw[fO _ (by simp) (by simp)]; simp[binOp,Op.intDiv,hb]; rfl
theorem U4[ah]{P:Program}{op:BinOp}{t:TypeId}{xo yo:Operand}{k k':IntKind}{a b:Int}{v:Value}(h:shS op k a b=some v)(hb:¬b<0):
  gf P op t xo yo (.lit (.int k a)) (.lit (.int k' b))=some (.lit v):=by
 cases op<;>simp only[shS,Option.some.injEq,reduceCtorEq]at h<;>subst h
 ·simp only[gf,fj,dW]; rw[fO _ (by simp) (by simp)]; simp[binOp,Op.shift,hb]; rfl
 ·simp only[gf,fj,dW]; rw[fO _ (by simp) (by simp)]; simp[binOp,Op.shift,hb]; rfl
theorem yO{x y:Value}{K:Bool→Tr ρ}:zE x y K=K (uE x y):=by
 unfold zE uE
 split<;>simp_all
theorem yP[ah]:∀ {c c':List Value} {K:Bool→Tr ρ},mV c c' K=K (dk c c')
 |[],[],K=>rfl
 |[x],[y],K=>by simp[mV,yO,dk]
 |x::x'::xs,y::y'::ys,K=>by
  simp only[mV,yO]
  rw[yP]
  rfl
 |[],_::_,K=>by simp[mV,dk]
 |_::_,[],K=>by simp[mV,dk]
 |[x],y::y'::ys,K=>by simp[mV,dk]
 |x::x'::xs,[y],K=>by simp[mV,dk]
theorem Bm:∀ (c:List Value),dy (c.map .lit)=some c
 |[]=>rfl
 |v::vs=>by simp[dy,Bm vs]
theorem Ls[ah](hQ:Q.Ok){op:BinOp}{t:TypeId}{xo yo:Operand}{l l':List (SV T.den)}{a b:List AV}(h1:RL T H l a)(h2:RL T H l' b)(h:(IJ Q op t l l' K).run=some r):
  ∃ v,gf Q.P op t xo yo (.agg a) (.agg b)=some (.lit v)∧(K (.lit v) [] []).run=some r:=by
 unfold IJ at h
 split at h
 case h_2=>simp[Tr.run]at h
 rename_i c c' m hc HB hm
 split at h
 case h_2=>simp[Tr.run]at h
 rename_i ks hks
 split at h
 case h_2=>simp[Tr.run]at h
 rename_i hf
 simp only[Bool.and_eq_true]at hf
 obtain⟨_,rfl⟩:=RL.dy h1 hc
 obtain⟨_,rfl⟩:=RL.dy h2 HB
 obtain⟨hg,WA⟩:=hQ.SQ _ _ _ hm hks
 have he:=uQ 20 t ks c c' WA hf.1.2 hf.2
 obtain⟨rr,yb,Ns,_⟩:=hQ.row _ _ hm
 have hd:∃ d,Q.P.underlying t=some d∧fK d=true:=by
  unfold gb at yb
  cases hi:Q.P.info? t with
  |none=>rw[hi]at yb; simp at yb
  |some i=>
   cases hu:Q.P.underlying t with
   |none=>rw[hi,hu]at yb; simp at yb
   |some d=>
    rw[hi,hu]at yb
    simp only[Option.some.injEq]at yb
    refine⟨d,rfl,?_⟩
    rw[←hf.1.1,←Ns,←yb]
    rfl
 obtain⟨d,CN,ZW⟩:=hd
 have hA:∀ op,fj Q.P op t (.agg (c.map .lit)) (.agg (c'.map .lit))=ng op (dk c c'):=by
  intro op
  unfold fj
  simp only[Bm,CN]
  cases d<;>simp[fK]at ZW<;>simp[hg,he]
 have hB:∀ op x,ng op (dk c c')=some x→gf Q.P op t xo yo (.agg (c.map .lit)) (.agg (c'.map .lit))=some x:=by
  intro op x hx
  unfold gf
  rw[hA,hx]
 rw[yP]at h
 cases op<;>simp only[Tr.run,reduceCtorEq]at h
 ·exact⟨_,hB _ _ rfl,h⟩
 ·exact⟨_,hB _ _ rfl,h⟩
theorem wu[ah]{v:SV T.den}{a b:AV}(hv:RV T H v a)(h:pe v=some b):a=b:=by
 rcases hv with hv|hv
 ·subst hv; simp[pe]at h
 ·exact hv.plain h
theorem wv{P:Program}{op:BinOp}{t:TypeId}{a b:AV}(ha:(∀ l,a≠.agg l)∨∀ l,b≠.agg l):fj P op t a b=none:=by
 unfold fj
 split
 ·simp_all
 ·rfl
theorem Df[ah]{P:Program}{op:BinOp}{t:TypeId}{x:SV T.den}{a:AV}{n:Value}{y:AV}(hx:RV T H x a)(h:Ep P op t x n=some y):
  oU P op t a n=some y∧dW a=none∧∀ l,a≠.agg l:=by
 unfold Ep at h
 split at h
 ·split at h
  ·have:=hx.live rfl
   simp only[R]at this
   obtain⟨v',rfl,l',rfl,_⟩:=this
   exact⟨by simpa[oU] using h,rfl,by simp⟩
  ·have:=hx.live rfl
   simp only[R]at this
   obtain⟨v',rfl,l',rfl,_⟩:=this
   exact⟨by simpa[oU] using h,rfl,by simp⟩
  ·simp at h
 ·split at h
  ·have:=hx.live rfl
   simp only[R]at this
   obtain⟨f',c',rfl,_⟩:=this
   exact⟨by simpa[oU] using h,rfl,by simp⟩
  ·simp at h
 ·split at h
  case isFalse=>simp at h
  rename_i hc
  simp only[Bool.and_eq_true]at hc
  cases x<;>simp[Kc]at hc
  rename_i xs
  have:=hx.live rfl
  simp only[R]at this
  obtain⟨l',rfl,hl,_⟩:=this
  have:notNil (.sl l')=true:=by
   simp only[notNil]
   have:=hl.length
   cases l' with
   |nil=>simp at this; exact absurd this hc.2
   |cons=>rfl
  refine⟨?_,rfl,by simp⟩
  simp only[oU,hc.1,this,Bool.and_self,if_true]
  exact h
 ·simp at h
theorem RN[ah](hQ:Q.Ok){op:BinOp}{t:TypeId}{xo yo:Operand}{x y:SV T.den}{a b:AV}(hx:RV T H x a)(hy:RV T H y b)(h:(US Q op t xo yo x y K).run=some r):
  ∃ v,gf Q.P op t xo yo a b=some (.lit v)∧(K (.lit v) [] []).run=some r:=by
 unfold US at h
 split at h
 ·rename_i k m k' m'
  have ha:=hx.lit rfl
  have hb:=hy.lit rfl
  subst ha; subst hb
  split at h
  ·rename_i v hk hv
   simp only[decide_eq_true_eq]at hk
   subst hk
   exact⟨v,RJ hv,h⟩
  ·split at h
   ·rename_i v hk hv
    simp only[decide_eq_true_eq]at hk
    subst hk
    rcases gz h with ⟨_,h⟩|⟨h0,h⟩
    ·simp[Tr.run]at h
    ·exact⟨v,RK hv (by simpa using h0),h⟩
   ·split at h
    ·rename_i v hk hv
     rcases gz h with ⟨_,h⟩|⟨h0,h⟩
     ·simp[Tr.run]at h
     ·exact⟨v,U4 hv (by simpa using h0),h⟩
    ·exact jk h
 ·rename_i l l'
  have ha:=hx.live rfl
  have hb:=hy.live rfl
  simp only[R]at ha hb
  obtain⟨a',rfl,ha⟩:=ha
  obtain⟨b',rfl,hb⟩:=hb
  exact Ls hQ ha hb h
 ·split at h
  ·rename_i a' b' h1 h2
   rw[wu hx h1,wu hy h2]
   exact jk h
  ·split at h
   ·rename_i n
    obtain⟨v,hv,hk⟩:=jk h
    obtain⟨h1,h2,h3⟩:=Df hx hv
    have hb:=hy.lit rfl
    subst hb
    refine⟨v,?_,hk⟩
    unfold gf
    rw[wv (.inl h3),h2]
    exact h1
   ·rename_i hyn
    split at h
    ·rename_i n
     obtain⟨v,hv,hk⟩:=jk h
     obtain⟨h1,h2,h3⟩:=Df hy hv
     have ha:=hx.lit rfl
     subst ha
     refine⟨v,?_,hk⟩
     unfold gf
     rw[wv (.inr h3),h2]
     cases b with
     |lit b=>
      exfalso
      simp[dW]at h2
     |_=>exact h1
    ·simp[Tr.run]at h
theorem RQ[ah]{t:Bool}{x y:SV T.den}{a b:AV}(hx:RV T H x a)(hy:RV T H y b)(h:(Od t x y K).run=some r):
  ∃ v,RV T H v (cond t a b)∧(K v [] []).run=some r:=by
 unfold Od at h
 split at h
 ·have ha:=hx.lit rfl
  have hb:=hy.lit rfl
  subst ha; subst hb
  refine⟨_,?_,h⟩
  cases t<;>exact bC _
 ·rename_i k m k' m'
  have ha:=hx.lit rfl
  have hb:=hy.lit rfl
  subst ha; subst hb
  split at h
  ·rename_i hk
   subst hk
   refine⟨_,?_,h⟩
   cases t<;>exact bC _
  ·rcases gz h with ⟨rfl,h⟩|⟨rfl,h⟩
   ·exact⟨_,bC _,h⟩
   ·exact⟨_,bC _,h⟩
 ·rcases gz h with ⟨rfl,h⟩|⟨rfl,h⟩
  ·exact⟨_,hx,h⟩
  ·exact⟨_,hy,h⟩
end
end Go.PI
end
section
/- PS, part H: structs and slices built, cut, indexed. -/
namespace Go.PI
variable {T:ej}{ρ:Type}
section
variable {H:aq T.den}{hp:ak}{K:EK T ρ}{r:ρ}{Q:iM}
theorem Bn(hQ:Q.Ok):∀ {fs:List Field} {pl:List (Nat×Nat)},Q.places (fs.map fun f=>(f.offset,f.type))=some pl→n9 Q.P fs=some pl
 |[],pl,h=>by simpa[iM.places,n9] using h
 |f::fs,pl,h=>by
  simp only[List.map_cons,iM.places]at h
  cases hm:Q.ty f.type with
  |none=>rw[hm]at h; simp at h
  |some m=>
   cases hp:Q.places (fs.map fun f=>(f.offset,f.type)) with
   |none=>rw[hm,hp]at h; simp at h
   |some l=>
    rw[hm,hp]at h
    simp only[Option.some.injEq]at h
    subst h
    obtain⟨r,h1,_,h2,_⟩:=hQ.row _ _ hm
    simp[n9,h1,Bn hQ hp,h2]
theorem Bo[ah]{q:bO}{z:AV}{zs:SV T.den}(h:cq q=some z)(hz:(iE z:Option (SV T.den))=some zs):
  ∃ v,q.zero=some v∧v.cells.toList.all (fun v=>bt (.lit v))=true∧RL T H (cb zs) (v.cells.toList.map .lit):=by
 unfold cq at h
 cases hv:q.zero with
 |none=>rw[hv]at h; simp at h
 |some v=>
  rw[hv]at h
  simp only at h
  split at h
  case isFalse=>simp at h
  rename_i hc
  simp only[Option.some.injEq]at h
  refine⟨v,rfl,hc.2.2.1,?_⟩
  have h1:=(xI (H:=H) hz).cells
  rw[←h]at h1
  cases v<;>first|exact h1|(simp[zK]at hc)
theorem Lt[ah](hQ:Q.Ok){t:TypeId}{ps:List (Nat×SV T.den)}{qs:List (Nat×AV)}(hp:RP T H ps qs){v:SV T.den}(h:IG Q t ps=some v):∃ a,wQ Q.P t qs=some a∧R T H v a:=by
 unfold IG at h
 split at h
 case h_2=>simp at h
 rename_i m hm
 obtain⟨q,jq,fc,iL,_,JW⟩:=hQ.row _ _ hm
 obtain⟨d,hd,hk⟩:=hQ.kind _ _ hm
 split at h
 ·rename_i fs z Xs hz
  rw[Option.bind_eq_some_iff]at hz
  obtain⟨z0,U7,hz⟩:=hz
  obtain⟨zv,Yh,U8,Yi⟩:=Bo (H:=H) (JW _ U7) hz
  rw[Xs]at hk
  cases d<;>simp[kindOf]at hk
  rename_i Hu
  subst hk
  split at h
  case h_2=>simp at h
  rename_i pl Jw
  rw[Option.map_eq_some_iff]at h
  obtain⟨l,h1,rfl⟩:=h
  obtain⟨l',h2,h3⟩:=RP.fill hp Yi h1
  refine⟨.agg l',?_,by simp only[R]; exact⟨l',rfl,h3⟩⟩
  unfold wQ
  simp only[hd,jq,Yh,Bn hQ Jw,U8,if_true]
  rw[h2]; rfl
 ·rename_i n e z Xs hz
  rw[Option.bind_eq_some_iff]at hz
  obtain⟨z0,U7,hz⟩:=hz
  obtain⟨zv,Yh,U8,Yi⟩:=Bo (H:=H) (JW _ U7) hz
  rw[Xs]at hk
  cases d<;>simp[kindOf]at hk
  obtain⟨rfl,rfl⟩:=hk
  split at h
  case h_2=>simp at h
  rename_i m2 CJ
  obtain⟨q2,yb,_,hr3,_⟩:=hQ.row _ _ CJ
  rw[Option.map_eq_some_iff]at h
  obtain⟨l,h1,rfl⟩:=h
  obtain⟨l',h2,h3⟩:=RP.fill hp Yi h1
  refine⟨.agg l',?_,by simp only[R]; exact⟨l',rfl,h3⟩⟩
  unfold wQ
  simp only[hd,jq,Yh,yb,U8,if_true,hr3]
  rw[h2]; rfl
 ·simp at h
theorem yQ[ah]:∀ {ps:List (Nat×SV T.den)} {qs:List (Nat×AV)} {es:List (SV T.den)} {es':List AV},RP T H ps qs→RL T H es es'→RL T H (gy es ps) (gO es' qs)
 |[],[],es,es',_,h=>h
 |(i,v)::ps,(i',a)::qs,es,es',hp,h=>by
  obtain⟨⟨h1,h2⟩,h3⟩:=hp
  simp only at h1 h2
  subst h1
  simp only[gy,gO]
  exact yQ h3 (bh.2 ((bh.1 h).set i h2))
 |[],_::_,_,_,h,_=>h.elim
 |_::_,[],_,_,h,_=>h.elim
theorem RP.snd:∀ {ps:List (Nat×SV T.den)} {qs:List (Nat×AV)},RP T H ps qs→RL T H (ps.map (·.2)) (qs.map (·.2))
 |[],[],_=>by simp[RL]
 |(i,v)::ps,(i',a)::qs,h=>by
  obtain⟨⟨_,h2⟩,h3⟩:=h
  simp only[List.map_cons,RL]
  exact⟨h2,RP.snd h3⟩
 |[],_::_,h=>h.elim
 |_::_,[],h=>h.elim
theorem RP.all{p:Nat×SV T.den→Bool}{q:Nat×AV→Bool}(Qn:∀ i v a,R T H v a→p (i,v)=q (i,a)):∀ {ps:List (Nat×SV T.den)} {qs:List (Nat×AV)},RP T H ps qs→ps.all p=qs.all q
 |[],[],_=>rfl
 |(i,v)::ps,(i',a)::qs,h=>by
  obtain⟨⟨h1,h2⟩,h3⟩:=h
  simp only at h1 h2
  subst h1
  simp only[List.all_cons]
  rw[Qn i v a h2,RP.all Qn h3]
 |[],_::_,h=>h.elim
 |_::_,[],h=>h.elim
theorem fU(hh:RH T H hp){nm:Nat}(hn:nm=H.length∨H[nm]?=some none){o:aK T.den}:gL (cd H nm o) nm o.cur o.len:=by
 refine⟨o,?_,Nat.le_refl _,fun _=>rfl⟩
 unfold cd
 split
 ·rename_i h; subst h; simp
 ·grind
theorem tW:∀ (ps:List (Nat×SV T.den)) (es:List (SV T.den)),(gy es ps).length=es.length
 |[],es=>rfl
 |(i,v)::ps,es=>by simp only[gy]; rw[tW ps]; simp
theorem Bp[ah](hQ:Q.Ok)(hh:RH T H hp){nm:Nat}(hn:nm=H.length∨H[nm]?=some none){t:TypeId}{len:Nat}{ps:List (Nat×SV T.den)}{qs:List (Nat×AV)}(Yj:RP T H ps qs)
  (h:(su Q nm t len ps K).run=some r):ky T H hp (.iZ (jD Q.P nm t len qs)) K r:=by
 unfold su at h
 split at h
 case h_2=>simp[Tr.run]at h
 rename_i m hm
 obtain⟨q,jq,fc,iL,JW,Ma⟩:=hQ.elem hm
 split at h
 case h_2=>simp[Tr.run]at h
 rename_i z hz
 rw[Option.bind_eq_some_iff]at hz
 obtain⟨z0,U7,hz⟩:=hz
 split at h
 case isFalse=>simp[Tr.run]at h
 rename_i hc
 have pD:=Ma _ U7
 have cZ:=yQ Yj (bh.2 (aE.replicate (xI (H:=H) hz) len))
 refine fT hh hn (o:=.arr false (aD (ps.map (·.2))) false 0 (gy (List.replicate len z) ps)) (a':=.arr false (bf (qs.map (·.2))) false (gO (List.replicate len z0) qs))
  ⟨_,by rw[RL.closed (RP.snd Yj)],cZ,fun pq=>ra (m9 fun x hx=>by rw[List.eq_of_mem_replicate hx]; exact wq hz) pq⟩ (a:=.bw q.size nm len 0 len (some len)) (rd:=[]) ?_ ?_ h
 ·right
  simp only[R]
  have hv:=fU hh hn (o:=.arr false (aD (ps.map (·.2))) false 0 (gy (List.replicate len z) ps))
  simp only[aK.cur,aK.len,tW,List.length_replicate]at hv
  exact⟨len,hv,by rw[iL]⟩
 ·have bK:qs.all (fun p=>decide (p.1<len)&&aF q.isAgg q.size p.2)=true:=by
   rw[←RP.all (p:=fun p=>decide (p.1<len)&&mU m.agg m.size p.2) (fun i v a Qs=>by simp only[fc,iL,R.aF Qs]) Yj]; exact hc.2.2
  refine aN.iZ ?_
  unfold jD
  simp only[jq,pD]
  rw[if_pos ⟨by rw[iL]; exact hc.1,by rw[iL]; exact hc.2.1,bK⟩]
def ej.wz(T:ej)(Q:iM):Prop:=∀ t m z za,Q.ty t=some m→m.zero=some za→T.zero t=some z→T.rp t z za
theorem Cc[ah](hQ:Q.Ok)(hZ:T.wz Q)(hh:RH T H hp){nm:Nat}(hn:nm=H.length∨H[nm]?=some none){t:TypeId}{l c:SV T.den}{a b:AV}(hl:RV T H l a)(hc:RV T H c b)
  (h:(uB Q nm t l c K).run=some r):ky T H hp (.iZ (gg Q.P nm t a b)) K r:=by
 unfold uB at h
 split at h
 case h_2=>simp[Tr.run]at h
 rename_i e m hm
 obtain⟨hu,oh⟩:=hQ.slice hm
 obtain⟨q,jq,fc,iL,JW,Ma⟩:=hQ.row _ _ oh
 have y5:aU Q.P t=some q:=by simp[aU,hu,jq]
 split at h
 case h_2=>simp[Tr.run]at h
 rename_i za z U9 hz Q2
 simp only[decide_eq_true_eq]at Q2
 have pD:=Ma _ U9
 have hrz:=hZ _ _ _ _ oh U9 hz
 obtain⟨k,n,e1,HR,h⟩:=jO h
 obtain⟨k',n',e2,acK,h⟩:=jO h
 have ha:=tp hl e1 HR
 have hb:=tp hc e2 acK
 obtain⟨hg,h⟩:=bp h
 simp only[Bool.and_eq_true,decide_eq_true_eq]at hg
 have vK:aE (T.rp e) (List.replicate n'.toNat z) (List.replicate n'.toNat za):=aE.replicate hrz _
 have hA:gg Q.P nm t a b=some ⟨.bw q.size nm n'.toNat 0 n.toNat (some n'.toNat),[(nm,.arr false true false (List.replicate n'.toNat za))]⟩:=by
  simp_all[y5,ha,hb,pD,gg]
 have hv:=fU hh hn (o:=.cE false false 0 e (List.replicate n'.toNat z))
 simp only[aK.cur,aK.len,List.length_replicate]at hv
 refine fT hh hn (o:=.cE false false 0 e (List.replicate n'.toNat z)) ⟨_,rfl,vK⟩ ?_ (aN.iZ hA) h
 right
 simp only[R]
 exact⟨n'.toNat,hv,by rw[iL]⟩
theorem Cd[ah](hQ:Q.Ok)(hZ:T.wz Q)(hh:RH T H hp){nm:Nat}(hn:nm=H.length∨H[nm]?=some none){t:TypeId}{l:SV T.den}{a:AV}(hl:RV T H l a)
  (h:(uC Q nm t l K).run=some r):ky T H hp (.iZ (gg Q.P nm t a a)) K r:=by
 unfold uC at h
 split at h
 case h_2=>simp[Tr.run]at h
 rename_i e m hm
 obtain⟨hu,oh⟩:=hQ.slice hm
 obtain⟨q,jq,fc,iL,JW,Ma⟩:=hQ.row _ _ oh
 have y5:aU Q.P t=some q:=by simp[aU,hu,jq]
 split at h
 case h_2=>simp[Tr.run]at h
 rename_i za z U9 hz Q2
 simp only[decide_eq_true_eq]at Q2
 have pD:=Ma _ U9
 have hrz:=hZ _ _ _ _ oh U9 hz
 obtain⟨k,n,e1,HR,h⟩:=jO h
 have ha:=tp hl e1 HR
 obtain⟨hg,h⟩:=bp h
 simp only[Bool.and_eq_true,decide_eq_true_eq]at hg
 have vK:aE (T.rp e) (List.replicate n.toNat z) (List.replicate n.toNat za):=aE.replicate hrz _
 have hA:gg Q.P nm t a a=some ⟨.bw q.size nm n.toNat 0 n.toNat (some n.toNat),[(nm,.arr false true false (List.replicate n.toNat za))]⟩:=by
  simp_all[y5,ha,pD,gg]
 have hv:=fU hh hn (o:=.cE false false 0 e (List.replicate n.toNat z))
 simp only[aK.cur,aK.len,List.length_replicate]at hv
 refine fT hh hn (o:=.cE false false 0 e (List.replicate n.toNat z)) ⟨_,rfl,vK⟩ ?_ (aN.iZ hA) h
 right
 simp only[R]
 exact⟨n.toNat,hv,by rw[iL]⟩
theorem Lu[ah](hQ:Q.Ok)(hh:RH T H hp){nm:Nat}(hn:nm=H.length∨H[nm]?=some none){t:TypeId}{m:jS}(hm:Q.ty t=some m){z:SV T.den}(hz:m.zero.bind iE=some z)(hs:0<m.size)
  (h:(K (.ref nm 0 0 0) [(nm,.arr false true false 0 [z])] []).run=some r) {ev:Operand→AV} {dst:Option Tmp} {type:TypeId} {pos:String} {after:Array Edge} {guard:Option (Nat×Bool)} :
  ky T H hp (aV Q.P nm ev ⟨dst,.alloc t,type,pos,after,guard⟩) K r:=by
 obtain⟨q,jq,fc,iL,JW,Ma⟩:=hQ.row _ _ hm
 rw[Option.bind_eq_some_iff]at hz
 obtain⟨z0,U7,hz⟩:=hz
 have pD:=Ma _ U7
 refine fT hh hn (o:=.arr false true false 0 [z]) (a':=.arr false true false [z0]) ⟨_,rfl,by simp only[RL]; exact⟨xI hz,trivial⟩,fun _=>by simp only[aD,wq hz,Bool.and_self]⟩ (a:=.ref nm 1 0 0) (rd:=[]) ?_ ?_ h
 ·right
  simp only[R]
  exact⟨1,rfl,fU hh hn (o:=.arr false true false 0 [z])⟩
 ·simp only[aV,jq,pD]
  rw[if_pos (by omega)]
  exact aN.ret _
def Ox(T:ej)(H:aq T.den)(x:Option (SV T.den))(y:Option AV):Prop:=
 match x,y with
 |none,none=>True
 |some v,some a=>RV T H v a
 |_,_=>False
theorem jl[ah]{d:Nat}{x:Option (SV T.den)}{y:Option AV}(Oy:Ox T H x y){K:Nat→Tr ρ}(h:(kp d x K).run=some r):∃ n,bJ d y=some n∧(K n).run=some r:=by
 unfold kp at h
 split at h
 ·cases y with
  |none=>exact⟨d,rfl,h⟩
  |some a=>exact Oy.elim
 ·cases y with
  |none=>exact Oy.elim
  |some a=>
   obtain⟨k,n,e1,HR,h⟩:=jO h
   exact⟨n.toNat,tp Oy e1 HR,h⟩
theorem mc[ah]{d:Nat}{v:SV T.den}{y:Option AV}(Oy:Ox T H (some v) y){K:Nat→Tr ρ}(h:(hY v K).run=some r):∃ n,bJ d y=some n∧(K n).run=some r:=
 jl (d:=d) Oy h
theorem uT[ah]{x:Option (SV T.den)}{y z:Option AV}(Oy:Ox T H x y)(h:plainO x=some z):y=z:=by
 cases x with
 |none=>
  cases y with
  |none=>simpa[plainO] using h
  |some a=>exact Oy.elim
 |some v=>
  cases y with
  |none=>exact Oy.elim
  |some a=>
   simp only[plainO,Option.map_eq_some_iff]at h
   obtain⟨b,hb,rfl⟩:=h
   rw[wu Oy hb]
theorem Ox.isSome{x:Option (SV T.den)}{y:Option AV}(Oy:Ox T H x y):x.isSome=y.isSome:=by
 cases x<;>cases y<;>first|rfl|exact Oy.elim
theorem tu[ah](hh:RH T H hp){esz n c:Nat}{rg:Option (Nat×Nat)}{cap:Option Nat}{a:AV}(ha:R T H (.bw esz n c rg cap) a){off len:Nat}(hr:pf H n c rg=some (off,len)){o:aK T.den}
  (ho:H[n]?=some (some o)):∃ ax,a=.bw esz n ax off len cap∧gL H n c ax∧(Nat.beq c o.cur=true→ax=o.len):=by
 simp only[R]at ha
 obtain⟨ax,hv,ha⟩:=ha
 have cI:Nat.beq c o.cur=true→ax=o.len:=hv.arr hh ho
 cases rg with
 |some q=>
  obtain⟨acD,Rz⟩:=q
  simp only[pf,Option.some.injEq,Prod.mk.injEq]at hr
  obtain⟨rfl,rfl⟩:=hr
  exact⟨ax,ha,hv,cI⟩
 |none=>
  simp only[pf,ho]at hr
  split at hr
  case isFalse=>simp at hr
  rename_i hc
  simp only[Option.some.injEq,Prod.mk.injEq]at hr
  obtain⟨rfl,rfl⟩:=hr
  have:=cI hc
  subst this
  exact⟨_,ha,hv,fun _=>rfl⟩
theorem uU(hT:T.Ok){t:Nat}{agg:Bool}{size:Nat}(h1:agg=T.agg t)(h2:size=T.size t):∀ {l:List (T.den t)} {l':List AV},aE (T.rp t) l l'→l'.all (aF agg size)=true
 |[],[],_=>rfl
 |_::_,_::_,h=>by
  subst h1; subst h2
  simp only[List.all_cons,Bool.and_eq_true]
  exact⟨hT.ok _ _ _ h.1,uU hT rfl rfl h.2⟩
theorem RR[ah](hT:T.Ok)(hQ:Q.Ok)(hh:RH T H hp){t:TypeId}{x:SV T.den}{a:AV}(hx:RV T H x a){lo hi mx:Option (SV T.den)}{WM tM SZ:Option AV}(h1:Ox T H lo WM)(h2:Ox T H hi tM)(h3:Ox T H mx SZ)
  (h:(UO Q H t x lo hi mx K).run=some r):∃ v b,pt Q.P t a WM tM SZ=some b∧RV T H v b∧(K v [] []).run=some r:=by
 unfold UO at h
 split at h
 ·rename_i v
  have ha:=hx.lit rfl
  subst ha
  split at h
  ·rename_i l hh' m e1 e2 e3
   rw[uT h1 e1,uT h2 e2,uT h3 e3]
   split at h
   ·rename_i w hw
    exact⟨_,_,hw,bC w,h⟩
   ·rename_i hw
    exact⟨_,_,hw,.inr (by simp only[R]),h⟩
   ·simp[Tr.run]at h
  ·simp[Tr.run]at h
 ·rename_i xs
  have ha:=hx.live rfl
  simp only[R]at ha
  obtain⟨l',rfl,hl,Hx⟩:=ha
  split at h
  ·rename_i m hm
   obtain⟨q,jq,fc,iL,_⟩:=hQ.elem hm
   obtain⟨n1,e1,h⟩:=jl h1 h
   obtain⟨n2,e2,h⟩:=jl h2 h
   obtain⟨_,_,h⟩:=dD h
   obtain⟨_,_,h⟩:=dD h
   split at h
   case h_2=>simp[Tr.run]at h
   rename_i hc
   simp only[Bool.and_eq_true,decide_eq_true_eq]at hc
   cases SZ with
   |some _=>exact h3.elim
   |none=>
    refine⟨_,.sl ((l'.drop n1).take (n2-n1)),?_,?_,h⟩
    ·have bK:l'.all (aF q.isAgg q.size)=true:=by
      rw[fc,iL,←RL.all (fun _ _=>R.aF) hl]; exact hc.2
     simp only[pt,jq,e1]
     rw[show bJ l'.length tM=some n2 by rw[←hl.length]; exact e2]
     simp only
     rw[if_pos ⟨hc.1.1,by rw[←hl.length]; exact hc.1.2,bK⟩]
    ·right
     simp only[R]
     exact⟨_,rfl,bh.2 (((bh.1 hl).drop n1).take (n2-n1)),oO Hx _ _⟩
  ·simp[Tr.run]at h
 ·rename_i t' l
  split at h
  ·rename_i m hm
   obtain⟨q,jq,fc,iL,_⟩:=hQ.elem hm
   split at h
   case h_2=>simp[Tr.run]at h
   rename_i hc
   simp only[Bool.and_eq_true,decide_eq_true_eq]at hc
   have ha:=hx.live rfl
   cases SZ with
   |some _=>exact h3.elim
   |none=>
    have key:∀ n1 n2,bJ 0 WM=some n1→bJ l.length tM=some n2→n1≤n2→n2≤l.length →
      ∃ b,pt Q.P t a WM tM none=some b∧RV T H (.jR t' ((l.drop n1).take (n2-n1))) b:=by
     intro n1 n2 e1 e2 hle B1
     simp only[R]at ha
     rcases ha with ⟨l',rfl,hl⟩|⟨rfl,rfl⟩
     ·refine⟨.sl ((l'.drop n1).take (n2-n1)),?_,?_⟩
      ·simp only[pt,jq,e1]
       rw[show bJ l'.length tM=some n2 by rw[←hl.length]; exact e2]
       simp only
       rw[if_pos ⟨hle,by rw[←hl.length]; exact B1,uU hT (by rw[fc]; exact hc.1) (by rw[iL]; exact hc.2) hl⟩]
      ·right
       simp only[R]
       exact .inl ⟨_,rfl,(hl.drop n1).take (n2-n1)⟩
     ·simp only[List.length_nil,Nat.le_zero]at B1
      subst B1
      have:n1=0:=by omega
      subst this
      refine⟨.lit cz,?_,?_⟩
      ·simp only[List.length_nil]at e2
       simp only[pt,jq,e1,e2]
       rfl
      ·right
       show R T H (.jR t' _) (.lit cz)
       unfold R
       exact .inr ⟨by simp,rfl⟩
    cases lo with
    |none=>
     cases WM with
     |some _=>exact h1.elim
     |none=>
      cases hi with
      |none=>
       cases tM with
       |some _=>exact h2.elim
       |none=>
        obtain⟨b,hb,hr⟩:=key 0 l.length rfl rfl (Nat.zero_le _) (Nat.le_refl _)
        simp only[List.drop_zero,Nat.sub_zero,List.take_length]at hr
        exact⟨_,b,hb,hr,h⟩
      |some hi=>
       obtain⟨n2,e2,h⟩:=mc (d:=l.length) h2 h
       obtain⟨hg,h⟩:=bp h
       simp only[decide_eq_true_eq]at hg
       obtain⟨b,hb,hr⟩:=key 0 n2 rfl e2 (Nat.zero_le _) hg
       simp only[List.drop_zero,Nat.sub_zero]at hr
       exact⟨_,b,hb,hr,h⟩
    |some lo=>
     cases hi with
     |none=>
      cases tM with
      |some _=>exact h2.elim
      |none=>
       obtain⟨n1,e1,h⟩:=mc (d:=0) h1 h
       obtain⟨hg,h⟩:=bp h
       simp only[decide_eq_true_eq]at hg
       obtain⟨b,hb,hr⟩:=key n1 l.length e1 rfl hg (Nat.le_refl _)
       rw[List.take_of_length_le (by simp)]at hr
       exact⟨_,b,hb,hr,h⟩
     |some hi=>
      obtain⟨n1,e1,h⟩:=mc (d:=0) h1 h
      obtain⟨n2,e2,h⟩:=mc (d:=l.length) h2 h
      obtain⟨hg,h⟩:=bp h
      simp only[Bool.and_eq_true,decide_eq_true_eq]at hg
      obtain⟨b,hb,hr⟩:=key n1 n2 e1 e2 hg.1 hg.2
      exact⟨_,b,hb,hr,h⟩
  ·rename_i m mx hm
   obtain⟨q,jq,fc,iL,_⟩:=hQ.elem hm
   split at h
   case h_2=>simp[Tr.run]at h
   rename_i hi hc
   simp only[Bool.and_eq_true,decide_eq_true_eq]at hc
   cases tM with
   |none=>exact h2.elim
   |some Yk=>
   cases SZ with
   |none=>exact h3.elim
   |some mx0=>
   have ha:=hx.live rfl
   simp only[R]at ha
   split at h
   ·rename_i hz
    simp only[Bool.and_eq_true]at hz
    obtain⟨Yh,U8,Yi⟩:=hz
    cases lo with
    |some _=>simp at Yh
    |none=>
    cases WM with
    |some _=>exact h1.elim
    |none=>
    have z0:∀ {v:SV T.den} {a:AV},isZ v=true→RV T H v a→asNat a=some 0:=by
     intro v a hv hr
     unfold isZ at hv
     split at hv
     ·simp only[decide_eq_true_eq]at hv
      subst hv
      have:=hr.live rfl
      simp only[R]at this
      subst this
      rfl
     ·simp at hv
    have e2:=z0 U8 h2
    have e3:=z0 Yi h3
    rcases ha with ⟨l',rfl,hl⟩|⟨rfl,rfl⟩
    ·have bK:=uU hT (agg:=q.isAgg) (size:=q.size) (by rw[fc]; exact hc.1) (by rw[iL]; exact hc.2) hl
     refine⟨_,.nz,?_,.inr (by simp only[R]),h⟩
     simp only[pt,jq,bJ,e2,e3]
     rw[if_pos ⟨Nat.zero_le _,Nat.zero_le _,Nat.zero_le _,bK⟩]
     rfl
    ·refine⟨_,.nz,?_,.inr (by simp only[R]),h⟩
     simp only[pt,jq,bJ,e2,e3,Option.isSome_some,Option.isNone_some,Bool.and_false,Bool.false_eq_true,if_false]
   obtain⟨n1,e1,h⟩:=jl h1 h
   obtain⟨n2,e2,h⟩:=mc (d:=l.length) h2 h
   obtain⟨n3,e3,h⟩:=mc (d:=l.length) h3 h
   obtain⟨hg,h⟩:=bp h
   simp only[Bool.and_eq_true,decide_eq_true_eq]at hg
   have e2':asNat Yk=some n2:=e2
   have e3':asNat mx0=some n3:=e3
   have f2:∀ d,bJ d (some Yk)=some n2:=fun _=>e2'
   rcases ha with ⟨l',rfl,hl⟩|⟨rfl,rfl⟩
   ·have hlen:=hl.length
    have bK:=uU hT (agg:=q.isAgg) (size:=q.size) (by rw[fc]; exact hc.1) (by rw[iL]; exact hc.2) hl
    have dP:l'.isEmpty=false:=by
     grind
    have Q6:n3≠0:=by omega
    refine⟨_,.mB ((l'.drop n1).take (n2-n1)) (n3-n1),?_,.inr (by simp only[R]; exact .inl ⟨by cases l with
      |nil=>exfalso; cases l' with
       |nil=>simp at dP
       |cons=>simp at hlen
      |cons=>rfl,_,rfl,(hl.drop n1).take (n2-n1)⟩),h⟩
    simp only[pt,jq,e1,f2,e3']
    rw[if_pos ⟨hg.1.1.1,hg.1.1.2,by rw[←hlen]; exact hg.1.2,bK⟩,if_neg Q6,dP]
    rfl
   ·exfalso
    simp only[List.length_nil]at hg
    omega
  ·simp[Tr.run]at h
 ·rename_i esz n c rg cap
  have ha:=hx.live rfl
  split at h
  ·rename_i m off len o hm hr ho
   obtain⟨q,jq,fc,iL,_⟩:=hQ.elem hm
   split at h
   case h_2=>simp[Tr.run]at h
   rename_i hc
   simp only[Bool.and_eq_true,decide_eq_true_eq]at hc
   obtain⟨ax,rfl,hv,cI⟩:=tu hh ha hr ho
   have cI:=cI hc.1
   obtain⟨n1,e1,h⟩:=jl h1 h
   obtain⟨n2,e2,h⟩:=jl h2 h
   obtain⟨hg,h⟩:=bp h
   simp only[Bool.and_eq_true,decide_eq_true_eq]at hg
   cases SZ with
   |some _=>exact h3.elim
   |none=>
    refine⟨_,.bw esz n ax (off+n1) (n2-n1) (cap.map (·-n1)),?_,?_,h⟩
    ·simp only[pt,jq,e1,e2]
     rw[if_pos ⟨hg.1.1,by rw[cI]; exact hg.1.2,by rw[cI]; exact hg.2,by rw[iL]; exact hc.2⟩]
    ·right
     simp only[R]
     exact⟨ax,hv,rfl⟩
  ·rename_i m mx off len o hm hr ho
   obtain⟨q,jq,fc,iL,_⟩:=hQ.elem hm
   split at h
   case h_2=>simp[Tr.run]at h
   rename_i hi hc
   simp only[Bool.and_eq_true,decide_eq_true_eq]at hc
   cases tM with
   |none=>exact h2.elim
   |some Yk=>
   cases SZ with
   |none=>exact h3.elim
   |some mx0=>
   obtain⟨ax,rfl,hv,cI⟩:=tu hh ha hr ho
   have cI:=cI hc.1
   obtain⟨n1,e1,h⟩:=jl h1 h
   obtain⟨n2,e2,h⟩:=mc (d:=len) h2 h
   obtain⟨n3,e3,h⟩:=mc (d:=len) h3 h
   obtain⟨hg,h⟩:=bp h
   simp only[Bool.and_eq_true,decide_eq_true_eq]at hg
   have e2':asNat Yk=some n2:=e2
   have e3':asNat mx0=some n3:=e3
   have f2:∀ d,bJ d (some Yk)=some n2:=fun _=>e2'
   have f3:∀ d,bJ d (some mx0)=some n3:=fun _=>e3'
   refine⟨_,.bw esz n ax (off+n1) (n2-n1) (some (n3-n1)),?_,?_,h⟩
   ·simp only[pt,jq,e1,f2,e3']
    rw[if_pos ⟨hg.1.1.1,hg.1.1.2,by rw[cI]; exact hg.1.2,by rw[cI]; exact hg.2,by rw[iL]; exact hc.2⟩]
   ·right
    simp only[R]
    exact⟨ax,hv,rfl⟩
  ·simp[Tr.run]at h
 ·rename_i n' c k' j
  have ha:=hx.live rfl
  simp only[R]at ha
  obtain⟨ax,rfl,hv⟩:=ha
  split at h
  case h_2=>simp[Tr.run]at h
  rename_i len m hm
  obtain⟨q,jq,fc,iL⟩:=hQ.GI hm
  cases SZ with
  |some _=>exact h3.elim
  |none=>
   obtain⟨n1,e1,h⟩:=jl h1 h
   obtain⟨n2,e2,h⟩:=jl h2 h
   obtain⟨_,hl,h⟩:=dD h
   obtain⟨_,rK,h⟩:=dD h
   split at h
   case h_2=>simp[Tr.run]at h
   rename_i hle
   simp only[decide_eq_true_eq]at hle
   refine⟨_,.jC n' ax k' (j+n1*q.size) (n2-n1) (len-n1),?_,.inr (by simp only[R]; exact⟨ax,by rw[iL],hv⟩),h⟩
   simp only[pt,jq,e1,e2]
   rw[if_pos ⟨hle,by omega,by omega⟩]
 ·simp[Tr.run]at h
theorem xL[ah](hT:T.Ok){t:Nat}{x:T.den t}{a:AV}(h:T.rp t x a):aM (T.up t x)=true:=by
 rw[R.closed (hT.up t x a [] h)]
 exact hT.closed _ _ _ h
theorem Ce[ah](hT:T.Ok)(hQ:Q.Ok)(hh:RH T H hp){t:TypeId}{x ix:SV T.den}{a b:AV}(hx:RV T H x a)(hi:RV T H ix b){zb:Bool}(h:(uD Q zb H t x ix K).run=some r):
  ∃ v c,gh Q.P t a b=some c∧RV T H v c∧(K v [] []).run=some r:=by
 unfold uD at h
 obtain⟨k,n,e1,HR,h⟩:=jO h
 have hb:=tp hi e1 HR
 unfold gh
 rw[hb]
 simp only
 split at h
 ·rename_i xs
  have ha:=hx.live rfl
  simp only[R]at ha
  obtain⟨l',rfl,hl,Hx⟩:=ha
  split at h
  case h_2=>simp[Tr.run]at h
  rename_i m hm
  obtain⟨q,jq,fc,iL,_⟩:=hQ.elem hm
  obtain⟨_,_,h⟩:=dD h
  split at h
  case h_2=>simp[Tr.run]at h
  rename_i e he
  split at h
  case h_2=>simp[Tr.run]at h
  rename_i cj
  obtain⟨e',JK,hr⟩:=aE.get (bh.1 hl) he
  refine⟨_,.bq e' 0,?_,.inr (by simp only[R]; exact⟨e',rfl,hr,lF Hx (List.mem_of_getElem? he)⟩),h⟩
  simp only[jq,JK]
  rw[if_pos (by rw[fc,iL,←R.aF hr]; exact cj)]
 ·rename_i t' l
  have ha:=hx.live rfl
  split at h
  case h_2=>simp[Tr.run]at h
  rename_i m hm
  obtain⟨q,jq,fc,iL,_⟩:=hQ.elem hm
  split at h
  case h_2=>simp[Tr.run]at h
  rename_i hc
  simp only[Bool.and_eq_true,decide_eq_true_eq]at hc
  obtain⟨y,hy,h⟩:=bind_some h
  simp only[R]at ha
  rcases ha with ⟨l',rfl,hl⟩|⟨rfl,_⟩
  ·obtain⟨e',JK,hr⟩:=aE.get hl hy
   refine⟨_,.bq e' 0,?_,.inr (by simp only[R]; exact⟨e',rfl,hT.up _ _ _ H hr,xL hT hr⟩),h⟩
   simp only[jq,JK]
   rw[if_pos (by rw[fc,iL,hc.1,hc.2]; exact hT.ok _ _ _ hr)]
  ·simp at hy
 ·rename_i esz n' c rg cap _
  have ha:=hx.live rfl
  split at h
  case h_2=>simp[Tr.run]at h
  rename_i m hm
  obtain⟨q,jq,fc,iL,_⟩:=hQ.elem hm
  split at h
  ·rename_i off len g cl f cu es hc hr ho
   simp only[Bool.and_eq_true,decide_eq_true_eq]at hc
   obtain⟨ax,rfl,hv,_⟩:=tu hh ha hr ho
   obtain⟨_,cr,h⟩:=dD h
   refine⟨_,.ref n' ax (off+n.toNat) 0,?_,.inr (by simp only[R]; exact⟨ax,rfl,hv⟩),h⟩
   simp only[jq]
   rw[if_pos ⟨by omega,by rw[iL]; exact hc.1,by rw[iL]; exact hc.2⟩]
  ·rename_i off len g f cu t' l hc hr ho
   simp only[Bool.and_eq_true,decide_eq_true_eq]at hc
   obtain⟨ax,rfl,hv,_⟩:=tu hh ha hr ho
   obtain⟨cr,h⟩:=bp h
   simp only[decide_eq_true_eq]at cr
   refine⟨_,.ref n' ax (off+n.toNat) 0,?_,.inr (by simp only[R]; exact⟨ax,rfl,hv⟩),h⟩
   simp only[jq]
   rw[if_pos ⟨cr,by rw[iL]; exact hc.1,by rw[iL]; exact hc.2⟩]
  ·simp[Tr.run]at h
 ·rename_i n' c k' j len cap _
  have ha:=hx.live rfl
  simp only[R]at ha
  obtain⟨ax,rfl,hv⟩:=ha
  split at h
  case h_2=>simp[Tr.run]at h
  rename_i m hm
  obtain⟨q,jq,fc,iL,_⟩:=hQ.elem hm
  obtain⟨_,cr,h⟩:=dD h
  refine⟨_,.ref n' ax k' (j+n.toNat*q.size),?_,.inr (by simp only[R]; exact⟨ax,by rw[iL],hv⟩),h⟩
  simp only[jq]
  rw[if_pos (by omega)]
 ·rename_i n' c k' j _
  have ha:=hx.live rfl
  simp only[R]at ha
  obtain⟨ax,rfl,hv⟩:=ha
  split at h
  case h_2=>simp[Tr.run]at h
  rename_i len m hm
  obtain⟨q,jq,fc,iL⟩:=hQ.GI hm
  split at h
  ·obtain⟨cr,h⟩:=bp h
   simp only[decide_eq_true_eq]at cr
   refine⟨_,.ref n' ax k' (j+n.toNat*q.size),?_,.inr (by simp only[R]; exact⟨.ref n' ax k' j,⟨ax,rfl,hv⟩,cr,.inl ⟨_,_,_,_,rfl,by rw[iL]⟩⟩),h⟩
   simp only[jq]
   rw[if_pos (by omega)]
  obtain⟨_,cr,h⟩:=dD h
  refine⟨_,.ref n' ax k' (j+n.toNat*q.size),?_,.inr (by simp only[R]; exact⟨ax,by rw[iL],hv⟩),h⟩
  simp only[jq]
  rw[if_pos (by omega)]
 ·rename_i e j _
  have ha:=hx.live rfl
  simp only[R]at ha
  obtain⟨e',rfl,hr,hec⟩:=ha
  split at h
  case h_2=>simp[Tr.run]at h
  rename_i len m hm
  obtain⟨q,jq,fc,iL⟩:=hQ.GI hm
  split at h
  ·obtain⟨cr,h⟩:=bp h
   simp only[decide_eq_true_eq]at cr
   refine⟨_,.bq e' (j+n.toNat*q.size),?_,.inr (by simp only[R]; exact⟨.bq e' j,⟨e',rfl,hr,hec⟩,cr,.inr ⟨_,_,rfl,by rw[iL]⟩⟩),h⟩
   simp only[jq]
   rw[if_pos (by omega)]
  obtain⟨_,cr,h⟩:=dD h
  refine⟨_,.bq e' (j+n.toNat*q.size),?_,.inr (by simp only[R]; exact⟨e',by rw[iL],hr,hec⟩),h⟩
  simp only[jq]
  rw[if_pos (by omega)]
 ·simp[Tr.run]at h
theorem Lv[ah](hQ:Q.Ok){t:TypeId}{x ix:SV T.den}{a b:AV}(hx:RV T H x a)(hi:RV T H ix b){zb:Bool}(h:(II Q zb t x ix K).run=some r):
  ∃ v c,wR Q.P t a b=some c∧RV T H v c∧(K v [] []).run=some r:=by
 unfold II at h
 split at h
 ·have ha:=hx.lit rfl
  subst ha
  split at h
  ·rename_i i tM
   rw[wu hi tM]
   obtain⟨w,hw,hk⟩:=jk h
   exact⟨_,_,hw,bC w,hk⟩
  ·simp[Tr.run]at h
 ·rename_i l
  have ha:=hx.live rfl
  have P7:=ha
  simp only[R]at ha
  obtain⟨l',rfl,hl⟩:=ha
  split at h
  case h_2=>simp[Tr.run]at h
  rename_i n m hm
  obtain⟨q,jq,fc,iL⟩:=hQ.GI hm
  obtain⟨k,n',e1,HR,h⟩:=jO h
  have hb:=tp hi e1 HR
  split at h
  ·rename_i y hs Ow
   simp only[Bool.and_eq_true,Bool.not_eq_true']at hs
   obtain⟨cr,h⟩:=bp h
   simp only[decide_eq_true_eq]at cr
   obtain⟨xs,Cw,Ow⟩:=Option.bind_eq_some_iff.1 Ow
   obtain⟨g1,g2⟩:=lO Cw
   have hg:=List.getElem?_eq_getElem (by omega:n'.toNat<xs.length)
   have hy:=g2 _ _ hg
   rw[←GB Ow hg,Nat.zero_add,Nat.mul_one]at hy
   obtain⟨c,hc,hr⟩:=R.part P7 hy
   refine⟨y,c,?_,.inr hr,h⟩
   simp only[wR,jq,hb]
   rw[if_pos (by omega),fc,iL,hs.1.2,Nat.eq_of_beq_eq_true hs.2,Nat.mul_one]
   exact hc
  obtain⟨_,cr,h⟩:=dD h
  obtain⟨v,hv,hk⟩:=nU h
  rw[←fc,←iL]at hv
  obtain⟨c,hc,hr⟩:=R.part P7 hv
  refine⟨v,c,?_,.inr hr,hk⟩
  simp only[wR,jq,hb]
  rw[if_pos (by omega)]
  exact hc
 ·simp[Tr.run]at h
end
end Go.PI
end
section
/- PS, part I: append, and the builtins. -/
namespace Go.PI
variable {T:ej}{ρ:Type}
section
variable {H:aq T.den}{hp:ak}{K:EK T ρ}{r:ρ}{Q:iM}
def Cf(T:ej)(H:aq T.den)(y:Src T.den)(ys:List AV)(yc:Bool):Prop:=
 match y with
 |.nL l cl=>RL T H l ys∧yc=cl∧(cl=true→aD l=true)
 |.B9 t l=>aE (T.rp t) l ys∧yc=true
theorem Cf.len[ah]{y:Src T.den}{ys:List AV}{yc:Bool}(h:Cf T H y ys yc):y.len=ys.length:=by
 cases y with
 |nL l cl=>exact h.1.length
 |B9 t l=>exact h.1.length
theorem Ki[ah](hQ:Q.Ok)(hh:RH T H hp){q:bO}{xt:TypeId}{x:SV T.den}{a:AV}(hx:RV T H x a){K:Src T.den→List Nat→Tr ρ}(h:(Ru Q H xt x K).run=some r):
  ∃ y rd ys yc,aN hp (wS Q.P q xt a) (ys,yc) rd∧Cf T H y ys yc∧(K y rd).run=some r:=by
 unfold Ru at h
 split at h
 case h_2=>simp[Tr.run]at h
 rename_i hs
 have hs:=hQ.RI hs
 unfold wS
 rw[hs]
 simp only
 split at h
 ·have ha:=hx.lit rfl
  subst ha
  exact⟨.nL [] true,_,[],true,aN.pure _,⟨by simp[RL],rfl,fun _=>rfl⟩,h⟩
 ·have ha:=hx.live rfl
  simp only[R]at ha
  obtain⟨l',rfl,hl,Hx⟩:=ha
  exact⟨.nL _ true,_,l',true,aN.pure _,⟨hl,rfl,fun _=>Hx⟩,h⟩
 ·have ha:=hx.live rfl
  simp only[R]at ha
  rcases ha with ⟨l',rfl,hl⟩|⟨rfl,rfl⟩
  ·exact⟨.B9 _ _,_,l',true,aN.pure _,⟨hl,rfl⟩,h⟩
  ·exact⟨.B9 _ _,_,[],true,aN.pure _,⟨(show aE (T.rp _) [] [] from trivial),rfl⟩,h⟩
 ·rename_i esz n c rg cap
  have ha:=hx.live rfl
  simp only[R]at ha
  obtain⟨ax,hv,ha⟩:=ha
  split at h
  ·rename_i g cl f cur es ho
   obtain⟨o,dM,eF⟩:=hh.obj ho
   obtain⟨es',rfl,cZ,tH⟩:=eF
   split at h
   case h_2=>simp[Tr.run]at h
   rename_i hc
   have cI:=hv.arr hh ho hc
   simp only[aK.len]at cI
   have hl:=cZ.length
   split at h
   ·simp only at ha
    subst ha
    refine⟨.nL es cl,_,es',cl,?_,⟨cZ,rfl,tH⟩,h⟩
    simp only[gA]
    refine aN.mono (aN.bind (aN.arr dM (by omega)) ?_) (rd:=[n]++[]) (fun _ h=>by simpa using h)
    simp only
    rw[if_pos (by omega)]
    simp only[List.drop_zero]
    rw[List.take_of_length_le (by omega)]
    exact aN.pure _
   ·rename_i off len
    simp only at ha
    subst ha
    split at h
    case isFalse=>simp[Tr.run]at h
    rename_i hle
    refine⟨.nL _ cl,_,(es'.drop off).take len,cl,?_,⟨bh.2 (((bh.1 cZ).drop off).take len),rfl,fun pq=>oO (tH pq) _ _⟩,h⟩
    simp only[gA]
    refine aN.mono (aN.bind (aN.arr dM (by omega)) ?_) (rd:=[n]++[]) (fun _ h=>by simpa using h)
    simp only
    rw[if_pos (by omega)]
    exact aN.pure _
  ·rename_i g f cur t l ho
   obtain⟨o,dM,eF⟩:=hh.obj ho
   obtain⟨es',rfl,cZ⟩:=eF
   split at h
   case h_2=>simp[Tr.run]at h
   rename_i hc
   have cI:=hv.arr hh ho hc
   simp only[aK.len]at cI
   have hl:=cZ.length
   split at h
   ·simp only at ha
    subst ha
    refine⟨.B9 t l,_,es',true,?_,⟨cZ,rfl⟩,h⟩
    simp only[gA]
    refine aN.mono (aN.bind (aN.arr dM (by omega)) ?_) (rd:=[n]++[]) (fun _ h=>by simpa using h)
    simp only
    rw[if_pos (by omega)]
    simp only[List.drop_zero]
    rw[List.take_of_length_le (by omega)]
    exact aN.pure _
   ·rename_i off len
    simp only at ha
    subst ha
    obtain⟨hle,h⟩:=bp h
    simp only[decide_eq_true_eq]at hle
    refine⟨.B9 t _,_,(es'.drop off).take len,true,?_,⟨(cZ.drop off).take len,rfl⟩,h⟩
    simp only[gA]
    refine aN.mono (aN.bind (aN.arr dM (by omega)) ?_) (rd:=[n]++[]) (fun _ h=>by simpa using h)
    simp only
    rw[if_pos (by omega)]
    exact aN.pure _
  ·simp[Tr.run]at h
 ·simp[Tr.run]at h
theorem Cf.A5[ah](hT:T.Ok){y:Src T.den}{ys:List AV}{yc:Bool}(h:Cf T H y ys yc){m:jS}{q:bO}(h1:q.isAgg=m.agg)(h2:q.size=m.size)(cj:y.ok T m=true):ys.all (aF q.isAgg q.size)=true:=by
 cases y with
 |nL l cl=>
  rw[h1,h2,←RL.all (fun _ _=>R.aF) h.1]
  exact cj
 |B9 t l=>
  simp only[Src.ok,Bool.and_eq_true,decide_eq_true_eq]at cj
  exact uU hT (by rw[h1,cj.1]) (by rw[h2,cj.2]) h.1
theorem iH[ah]{y:Src T.den}{ys:List AV}{yc:Bool}(hy:Cf T H y ys yc){a b:Tr ρ}(h:(qD T y a b).run=some r):(ys.isEmpty=true∧a.run=some r)∨(ys.isEmpty=false∧b.run=some r):=by
 have hl:=hy.len
 unfold qD at h
 split at h
 ·grind[Src.len]
 ·rename_i t l
  rcases gz h with ⟨he,h⟩|⟨he,h⟩
  ·grind[Src.len]
  ·grind[Src.len]
theorem sD(hT:T.Ok){t:Nat}:∀ {l:List (SV T.den)} {m:List AV} {xs:List (T.den t)},RL T H l m→qX T t l=some xs→aE (T.rp t) xs m
 |[],[],xs,_,h=>by simp[qX]at h; subst h; trivial
 |v::vs,a::as,xs,hr,h=>by
  simp only[RL]at hr
  simp only[qX,Option.bind_eq_some_iff,Option.map_eq_some_iff]at h
  obtain⟨x,h1,ys,h2,rfl⟩:=h
  exact⟨hT.dn _ _ _ _ H h1 hr.1,sD hT hr.2 h2⟩
 |[],_::_,_,h,_=>by simp[RL]at h
 |_::_,[],_,h,_=>by simp[RL]at h
theorem Br{t t':Nat}(h:t=t'){l:List (T.den t)}{m:List AV}(hl:aE (T.rp t) l m):aE (T.rp t') (C6 h l) m:=by subst h; exact hl
theorem Dg{den:Nat→Type}{t t':Nat}(h:t=t')(l:List (den t)):(C6 h l).length=l.length:=by subst h; rfl
theorem xM[ah](hT:T.Ok){cur:Nat}{o o':aK T.den}{y:Src T.den}{g c f:Bool}{es ys:List AV}{yc:Bool}(ho:RO T H o (.arr g c f es))(hy:Cf T H y ys yc)(h:sv T cur o y=some o'):
  o'.cur=cur∧o'.len=o.len+y.len∧RO T H o' (.arr true (c&&yc) f (es++ys)):=by
 unfold sv at h
 split at h
 ·rename_i cl f' cu es0 ys0 ycl
  simp only[Option.some.injEq]at h
  subst h
  obtain⟨es',e,cZ,tH⟩:=ho
  simp only[ba.arr.injEq]at e
  obtain⟨rfl,rfl,rfl,rfl⟩:=e
  obtain⟨Bs,rfl,Yl⟩:=hy
  exact⟨rfl,by simp[aK.len,Src.len],_,rfl,bh.2 ((bh.1 cZ).append (bh.1 Bs)),fun pq=>by simp only[Bool.and_eq_true]at pq; exact IM (tH pq.1) (Yl pq.2)⟩
 ·rename_i f' cu es0 t l
  rw[Option.map_eq_some_iff]at h
  obtain⟨l0,h1,rfl⟩:=h
  obtain⟨es',e,cZ,_⟩:=ho
  simp only[ba.arr.injEq]at e
  obtain⟨rfl,rfl,rfl,rfl⟩:=e
  obtain⟨Bs,rfl⟩:=hy
  have h2:=sD hT cZ h1
  refine⟨rfl,?_,_,rfl,h2.append Bs⟩
  simp[aK.len,Src.len,h2.length,cZ.length]
 ·rename_i f' cu t l ys0
  rw[Option.map_eq_some_iff]at h
  obtain⟨l0,h1,rfl⟩:=h
  obtain⟨es',e,cZ⟩:=ho
  simp only[ba.arr.injEq]at e
  obtain⟨rfl,rfl,rfl,rfl⟩:=e
  obtain⟨Bs,rfl,_⟩:=hy
  have h2:=sD hT Bs h1
  refine⟨rfl,?_,_,rfl,cZ.append h2⟩
  simp[aK.len,Src.len,h2.length,Bs.length]
 ·rename_i f' cu t l t' l2
  split at h
  case isFalse=>simp at h
  rename_i ht
  simp only[Option.some.injEq]at h
  subst h
  obtain⟨es',e,cZ⟩:=ho
  simp only[ba.arr.injEq]at e
  obtain⟨rfl,rfl,rfl,rfl⟩:=e
  obtain⟨Bs,rfl⟩:=hy
  refine⟨rfl,?_,_,rfl,cZ.append (Br ht Bs)⟩
  simp[aK.len,Src.len,Dg]
 ·simp at h
theorem GJ{y:Src T.den}{ys:List AV}{yc:Bool}(hy:Cf T H y ys yc):(A6 y).cur=0∧(A6 y).len=y.len∧RO T H (A6 y) (.arr true yc false ys):=by
 cases y with
 |nL l cl=>obtain⟨h1,rfl,h2⟩:=hy; exact⟨rfl,rfl,_,rfl,h1,h2⟩
 |B9 t l=>obtain⟨h1,rfl⟩:=hy; exact⟨rfl,rfl,_,rfl,h1⟩
theorem Oz[ah](hT:T.Ok){o:aK T.den}{g c f:Bool}{es:List AV}(ho:RO T H o (.arr g c f es)){m:jS}{q:bO}(h1:q.isAgg=m.agg)(h2:q.size=m.size)(cj:o.A5 T m=true):es.all (aF q.isAgg q.size)=true:=by
 cases o with
 |arr g' cl f' cu es0=>
  obtain⟨es',e,cZ,_⟩:=ho
  simp only[ba.arr.injEq]at e
  obtain⟨rfl,rfl,rfl,rfl⟩:=e
  rw[h1,h2,←RL.all (fun _ _=>R.aF) cZ]
  exact cj
 |cE g' f' cu t l=>
  obtain⟨es',e,cZ⟩:=ho
  simp only[ba.arr.injEq]at e
  obtain⟨rfl,rfl,rfl,rfl⟩:=e
  simp only[aK.A5,Bool.and_eq_true,decide_eq_true_eq]at cj
  exact uU hT (by rw[h1,cj.1]) (by rw[h2,cj.2]) cZ
 |_=>simp[aK.A5]at cj
theorem Bt{cur:Nat}{o o':aK T.den}{y:Src T.den}(h:sv T cur o y=some o'):o.Bl=true:=by
 cases o<;>first|rfl|(cases y<;>simp[sv]at h)
theorem qd{o:aK T.den}(h:o.Bl=true):o.isRec=false:=by cases o<;>first|rfl|simp[aK.Bl]at h
theorem sE:∀ (ys es:List AV) (i:Nat),i+ys.length≤es.length→bP es i ys=es.take i++(ys++es.drop (i+ys.length))
 |[],es,i,_=>by simp[bP]
 |y::ys,es,i,h=>by
  simp only[List.length_cons]at h
  simp only[bP]
  rw[sE ys (es.set i y) (i+1) (by simp; omega)]
  have e1:(es.set i y).take (i+1)=es.take i++[y]:=by
   rw[List.take_succ_eq_append_getElem (by simp; omega),List.take_set_of_le (Nat.le_refl i)]
   simp
  have e2:(es.set i y).drop (i+1+ys.length)=es.drop (i+(ys.length+1)):=by
   rw[List.drop_set_of_lt (by omega)]
   congr 1; omega
  rw[e1,e2]
  simp
theorem Dh{α β:Type}{P:α→β→Prop}{l l2:List α}{m m2:List β}(h:aE P l m)(h2:aE P l2 m2)(i:Nat):aE P (Ll l i l2) (m.take i++(m2++m.drop (i+m2.length))):=by
 unfold Ll
 rw[h2.length]
 exact(h.take i).append (h2.append (h.drop _))
theorem xN[ah](hT:T.Ok){i:Nat}{o o':aK T.den}{y:Src T.den}{ao:ba}{ys:List AV}{yc:Bool}(ho:RO T H o ao)(hy:Cf T H y ys yc)(hi:i+y.len≤o.len)(h:xD T o i y=some o'):
  o.Bl=true∧o'.cur=o.cur∧o'.len=o.len∧∃ es,ao=.arr o.flags.1 o.flags.2.1 o.flags.2.2 es∧RO T H o' (.arr o.flags.1 (o.flags.2.1&&yc) o.flags.2.2 (bP es i ys)):=by
 have hlen:=hy.len
 unfold xD at h
 split at h
 ·rename_i g f cu t l t' l2
  split at h
  case isFalse=>simp at h
  rename_i ht
  simp only[Option.some.injEq]at h
  subst h
  obtain⟨es',rfl,cZ⟩:=ho
  obtain⟨Bs,rfl⟩:=hy
  have hl:=cZ.length
  simp only[aK.len,Src.len]at hi hlen
  refine⟨rfl,rfl,?_,es',rfl,_,rfl,?_⟩
  ·simp[aK.len,Ll,Dg]; omega
  ·rw[sE _ _ _ (by omega)]
   exact Dh cZ (Br ht Bs) i
 ·rename_i g f cu t l ys0
  rw[Option.map_eq_some_iff]at h
  obtain⟨l0,h1,rfl⟩:=h
  obtain⟨es',rfl,cZ⟩:=ho
  obtain⟨Bs,rfl,_⟩:=hy
  have h2:=sD hT Bs h1
  have hl:=cZ.length
  have rK:=h2.length
  simp only[aK.len,Src.len]at hi hlen
  refine⟨rfl,rfl,?_,es',rfl,_,rfl,?_⟩
  ·simp[aK.len,Ll]; omega
  ·rw[sE _ _ _ (by omega)]
   exact Dh cZ h2 i
 ·simp at h
def uV(q:bO)(nm:Nat)(a:AV)(ys:List AV)(yc:Bool):RM eg:=
   (match (cq q).isSome&&decide (0<q.size)&&ys.all (aF q.isAgg q.size) with
     |false=>RM.fail
     |true=>match ys.isEmpty with
      |true=>(match a with
       |.mB xs _=>pure ⟨.sl xs,[]⟩
       |.lit (.slice none 0 0)|.sl _|.bw _ _ _ _ _ _|.nz=>pure ⟨a,[]⟩
       |_=>.fail)
      |false=>match a with
       |.lit (.slice none 0 0)|.nz=>
        if ys.length*q.bytes≤2^44∧ys.length≤2^44 then
         pure ⟨.bw q.size nm ys.length 0 ys.length none,[(nm,.arr true yc false ys)]⟩ else .fail
       |.mB xs c=>
        if c<xs.length+ys.length∧(xs.length+ys.length)*q.bytes≤2^44∧xs.length+ys.length≤2^44∧xs.all (aF q.isAgg q.size)=true then
         pure ⟨.bw q.size nm (xs.length+ys.length) 0 (xs.length+ys.length) none,[(nm,.arr true yc false (xs++ys))]⟩ else .fail
       |.bw esz n ax off len cap=>do
        let (g,c,f,es) ←RM.arr n ax
        if f=true∨es.length<off+len∨esz≠q.size then RM.fail else
        if len+ys.length≤cap.getD (ax-off) then
         if off+len+ys.length≤es.length then
          pure ⟨.bw esz n ax off (len+ys.length) cap,[(n,.arr g (c&&yc) f (bP es (off+len) ys))]⟩
         else RM.fail
        else if (len+ys.length)*q.bytes≤2^44∧len+ys.length≤2^44 then
         (match cap with
         |none=>if g=true∧off=0∧len=ax then
           pure ⟨.bw esz n (len+ys.length) 0 (len+ys.length) none,[(n,.arr true (c&&yc) f (es++ys))]⟩
          else RM.fail
         |some _=>if es.all (aF q.isAgg q.size)=true then
           pure ⟨.bw esz nm (len+ys.length) 0 (len+ys.length) none,[(nm,.arr true (c&&yc) false ((es.drop off).take len++ys))]⟩
          else RM.fail)
        else RM.fail
       |_=>.fail)
theorem IT{P:Program}{t xt:TypeId}{q:bO}(h:aU P t=some q)(nm:Nat)(a b:AV):
  fJ P nm t xt a b=(wS P q xt b >>= fun p=>uV q nm a p.1 p.2):=by
 unfold fJ
 rw[h]
 rfl
theorem Di{i:Nat}{o o':aK T.den}{y:Src T.den}{ys:List AV}{yc:Bool}(hy:Cf T H y ys yc)(h:xD T o i y=some o'):yc=true:=by
 cases y with
 |nL l cl=>cases cl with
  |true=>exact hy.2.1
  |false=>unfold xD at h; cases o<;>simp at h
 |B9 t l=>exact hy.2
theorem Bu[ah](hh:RH T H hp){n:Nat}{o o':aK T.den}{ao:ba}(ho:H[n]?=some (some o))(hc:o.cur≤o'.cur)(hl:o'.cur=o.cur→o'.len=o.len)(dM:hp[n]?=some (some ao))(eF:RO T H o' ao)
  {v:SV T.den} {a:AV} (hv:RV T (H.set n (some o')) v a) {m:RM eg} {rd:List Nat} (hy:aN hp m ⟨a,[]⟩ rd) (h:(K v [(n,o')] rd).run=some r) (hj:o.Bl=true):ky T H hp m K r:=by
 obtain⟨S0,RT⟩:=hh.WK ho (o':=o') hc hl eF
 rw[jd dM]at RT
 have cr:=(List.getElem?_eq_some_iff.1 ho).1
 have e1:bu H [(n,o')]=H.set n (some o'):=by simp[bu,cd]; omega
 refine⟨_,_,_,⟨a,[]⟩,hy,⟨by rw[e1]; exact hv,by rw[e1]; exact RT,by rw[e1]; exact S0,fun q h=>by simp at h,fun k hk hl=>?_,by rw[e1]; simp,fun k hk Jz=>by
  simp at Jz
  subst Jz
  simp only[recAt,ho,qd hj,Bool.false_eq_true]at hk⟩,h⟩
 rw[e1]; simp at hk; rw[List.getElem?_set_ne (Ne.symm hk)]
theorem IU[ah](hT:T.Ok)(hQ:Q.Ok)(hh:RH T H hp){nm:Nat}(hn:nm=H.length∨H[nm]?=some none){t xt:TypeId}{s x:SV T.den}{a b:AV}(hs:RV T H s a)(hx:RV T H x b)
  (h:(Et Q nm H t xt s x K).run=some r):ky T H hp (fJ Q.P nm t xt a b) K r:=by
 unfold Et at h
 split at h
 ·simp[Tr.run]at h
 rename_i m hm
 obtain⟨q,jq,fc,iL,JW,Ma⟩:=hQ.elem hm
 obtain⟨y,rd,ys,yc,Bs,yR,h⟩:=Ki hQ hh (q:=q) hx h
 split at h
 ·simp[Tr.run]at h
 rename_i cj
 simp only[Bool.and_eq_true,decide_eq_true_eq]at cj
 have hz:(cq q).isSome=true:=by
  cases hzz:m.zero with
  |none=>rw[hzz]at cj; simp at cj
  |some z=>rw[Ma z hzz]; rfl
 have bK:=yR.A5 hT fc iL cj.2
 have np:((cq q).isSome&&decide (0<q.size)&&ys.all (aF q.isAgg q.size))=true:=by
  rw[hz,bK,iL]; simpa using cj.1.2
 have gM:=yR.len
 have abs:∀ {rest:RM eg} {e:eg} {rd2:List Nat},(∀ n,n∈rd→n∈rd2)→aN hp rest e rd2 →
   uV q nm a ys yc=rest→aN hp (fJ Q.P nm t xt a b) e rd2:=by
  intro rest e rd2 h1 h2 h3
  rw[IT jq]
  refine⟨?_,fun n hn=>?_⟩
  ·rw[RM.run_bind,Bs.1]
   simp only[Option.bind_some]
   rw[h3]
   exact h2.1
  ·rw[RM.fN,Bs.1]at hn
   simp only[List.mem_append]at hn
   rw[h3]at hn
   exact hn.elim (fun h=>h1 n (Bs.2 n h)) (h2.2 n)
 unfold uV at abs
 rw[np]at abs
 split at h
 ·-- nil
  have ha:=hs.lit rfl
  subst ha
  rcases iH yR h with ⟨he,h⟩|⟨he,h⟩
  ·rw[he]at abs
   exact az hh (bC cz) (abs (fun _ h=>h) (aN.mono (aN.pure _) (fun _ h=>by simp at h)) rfl) h
  ·rw[he]at abs
   obtain⟨hg,h⟩:=bp h
   simp only[tS,Bool.and_eq_true,decide_eq_true_eq]at hg
   obtain⟨o1,o2,o3⟩:=GJ yR
   refine fT hh hn o3 (v:=.bw m.size nm 0 none none) (a:=.bw q.size nm ys.length 0 ys.length none) ?_ (abs (fun _ h=>h) (aN.mono (aN.pure _) (fun _ h=>by simp at h)) ?_) h
   ·right
    simp only[R]
    have hv:=fU hh hn (o:=A6 y)
    rw[o1,o2,gM]at hv
    exact⟨_,hv,by rw[iL]⟩
   ·simp only
    rw[if_pos ⟨by rw[←gM,JW]; exact hg.1,by rw[←gM]; exact hg.2⟩]
 ·-- empty,without room
  have ha:=hs.live rfl
  simp only[R]at ha
  rcases iH yR h with ⟨he,h⟩|⟨he,h⟩
  ·rw[he]at abs
   subst ha
   exact az hh hs (abs (fun _ h=>h) (aN.mono (aN.pure _) (fun _ h=>by simp at h)) rfl) h
  ·rw[he]at abs
   obtain⟨hg,h⟩:=bp h
   simp only[tS,Bool.and_eq_true,decide_eq_true_eq]at hg
   obtain⟨o1,o2,o3⟩:=GJ yR
   have key:∀ rest:RM eg,rest=(if ys.length*q.bytes≤2^44∧ys.length≤2^44 then
        pure ⟨.bw q.size nm ys.length 0 ys.length none,[(nm,.arr true yc false ys)]⟩ else .fail)→rest=pure ⟨.bw q.size nm ys.length 0 ys.length none,[(nm,.arr true yc false ys)]⟩:=by
    intro rest hr
    rw[hr,if_pos ⟨by rw[←gM,JW]; exact hg.1,by rw[←gM]; exact hg.2⟩]
   refine fT hh hn o3 (v:=.bw m.size nm 0 none none) (a:=.bw q.size nm ys.length 0 ys.length none) ?_ (abs (fun _ h=>h) (aN.mono (aN.pure _) (fun _ h=>by simp at h)) ?_) h
   ·right
    simp only[R]
    have hv:=fU hh hn (o:=A6 y)
    rw[o1,o2,gM]at hv
    exact⟨_,hv,by rw[iL]⟩
   ·subst ha
    exact key _ rfl
 ·-- a slice by value
  have ha:=hs.live rfl
  rcases iH yR h with ⟨he,h⟩|⟨_,h⟩
  ·rw[he]at abs
   simp only[R]at ha
   obtain⟨l',rfl,hl⟩:=ha
   exact az hh hs (abs (fun _ h=>h) (aN.mono (aN.pure _) (fun _ h=>by simp at h)) rfl) h
  ·simp[Tr.run]at h
 ·have ha:=hs.live rfl
  rcases iH yR h with ⟨he,h⟩|⟨_,h⟩
  ·rw[he]at abs
   have P7:=ha
   simp only[R]at ha
   rcases ha with ⟨l',rfl,hl⟩|⟨_,rfl⟩
   ·exact az hh hs (abs (fun _ h=>h) (aN.mono (aN.pure _) (fun _ h=>by simp at h)) rfl) h
   ·exact az hh hs (abs (fun _ h=>h) (aN.mono (aN.pure _) (fun _ h=>by simp at h)) rfl) h
  ·simp[Tr.run]at h
 ·-- a slice by value,of known room
  rename_i t' l c b _
  have ha:=hs.live rfl
  have P7:=ha
  simp only[R]at ha
  rcases iH yR h with ⟨he,h⟩|⟨he,h⟩
  ·rw[he]at abs
   rcases ha with ⟨_,l',rfl,hl⟩|⟨_,Cp,rfl|rfl⟩
   ·exact az hh (v:=.jR t' l) (a:=.sl l') (.inr (by simp only[R]; exact .inl ⟨l',rfl,hl⟩)) (abs (fun _ h=>h) (aN.mono (aN.pure _) (fun _ h=>by simp at h)) rfl) h
   ·exact az hh (v:=.jR t' l) (a:=.sl []) (.inr (by simp only[R]; exact .inl ⟨[],rfl,by rw[Cp]; trivial⟩)) (abs (fun _ h=>h) (aN.mono (aN.pure _) (fun _ h=>by simp at h)) rfl) h
   ·exact az hh (v:=.jR t' l) (a:=.lit cz) (.inr (by simp only[R]; exact .inr ⟨Cp,trivial⟩)) (abs (fun _ h=>h) (aN.mono (aN.pure _) (fun _ h=>by simp at h)) rfl) h
  ·rw[he]at abs
   obtain⟨hg,h⟩:=bp h
   simp only[tS,Bool.and_eq_true,decide_eq_true_eq]at hg
   obtain⟨⟨hb,hc⟩,xp,nB⟩:=hg
   split at h
   case h_2=>simp[Tr.run]at h
   rename_i o' Ym z9
   simp only[Bool.and_eq_true,decide_eq_true_eq]at Ym
   rcases ha with ⟨_,l',rfl,hl⟩|⟨qR,_⟩
   ·have hlen:=hl.length
    have eF:RO T H (.cE true false 0 t' l) (.arr true true false l'):=⟨l',rfl,hl⟩
    obtain⟨a1,a2,a3⟩:=xM hT eF yR z9
    have Yl:yc=true:=by
     cases y with
     |nL ys0 cl=>
      obtain⟨_,og,_⟩:=yR
      cases yc with
      |true=>rfl
      |false=>rw[show cl=false from by simpa using og.symm]at z9; simp[sv]at z9
     |B9 _ _=>exact yR.2
    subst Yl
    have bK:=uU hT (agg:=q.isAgg) (size:=q.size) (by rw[fc]; exact Ym.1) (by rw[iL]; exact Ym.2) hl
    refine fT hh hn a3 (v:=.bw m.size nm 0 none none) (a:=.bw q.size nm (l'.length+ys.length) 0 (l'.length+ys.length) none) ?_ (abs (fun _ h=>h) (aN.mono (aN.pure _) (fun _ h=>by simp at h)) ?_) h
    ·right
     simp only[R]
     have hv:=fU hh hn (o:=o')
     rw[a1,a2,gM]at hv
     simp only[aK.len,hlen]at hv
     exact⟨_,hv,by rw[iL]⟩
    ·simp only
     rw[if_pos ⟨by rw[←hlen,←gM]; exact hc,by rw[←hlen,←gM,JW]; exact xp,by rw[←hlen,←gM]; exact nB,bK⟩]
     rfl
   ·rw[hb]at qR; simp at qR
 ·rename_i esz n c rg cap _
  have ha:=hs.live rfl
  split at h
  case h_2=>simp[Tr.run]at h
  rename_i o ho
  obtain⟨ao,dM,eF⟩:=hh.obj ho
  split at h
  case h_2=>simp[Tr.run]at h
  rename_i hc
  simp only[Bool.and_eq_true,Bool.not_eq_true',decide_eq_true_eq]at hc
  simp only[R]at ha
  obtain⟨ax,hv,ha⟩:=ha
  have cI:=hv.arr hh ho hc.1.1
  split at h
  ·-- the whole of a growing array
   simp only at ha
   subst ha
   split at h
   ·rename_i cl0
    have:ys=[]:=by
     have:=gM
     cases ys with
     |nil=>rfl
     |cons=>simp[Src.len]at this
    subst this
    simp only[List.isEmpty_nil]at abs
    exact az hh hs (abs (fun _ h=>h) (aN.mono (aN.pure _) (fun _ h=>by simp at h)) rfl) h
   ·rename_i dP
    split at h
    case h_2=>simp[Tr.run]at h
    rename_i o' S1 z9
    obtain⟨hg,h⟩:=bp h
    simp only[tS,Bool.and_eq_true,decide_eq_true_eq]at hg
    have hj:=Bt z9
    obtain⟨es,rfl,vD⟩:=eF.GH hj
    obtain⟨a1,a2,a3⟩:=xM hT eF yR z9
    rw[S1]at dM
    cases he:ys.isEmpty with
    |true=>
     rw[he]at abs
     have Yn:ys=[]:=by simpa using he
     subst Yn
     have Yl:yc=true:=by
      cases y with
      |nL l cl=>
       exfalso
       have:=gM
       simp only[Src.len,List.length_nil]at this
       have Cp:l=[]:=by simpa using this
       subst Cp
       exact dP _ rfl
      |B9 t l=>exact yR.2
     subst Yl
     simp only[Bool.and_true,List.append_nil]at a3
     obtain⟨S0,RT⟩:=hh.WK ho (o':=o') (by omega) (fun e=>by omega) a3
     rw[jd dM]at RT
     have cr:=(List.getElem?_eq_some_iff.1 ho).1
     have e1:bu H [(n,o')]=H.set n (some o'):=by simp[bu,cd]; omega
     refine⟨_,_,_,⟨.bw esz n ax 0 ax none,[]⟩,abs (fun _ h=>List.mem_cons_of_mem _ h) (aN.mono (aN.pure _) (fun _ h=>by simp at h)) rfl,⟨?_,by rw[e1]; exact RT,by rw[e1]; exact S0,fun q h=>by simp at h,fun k hk hl=>?_,by rw[e1]; simp,fun k hk Jz=>by
      simp at Jz
      subst Jz
      simp only[recAt,ho,qd hj,Bool.false_eq_true]at hk⟩,h⟩
     ·rw[e1]
      right
      simp only[R]
      refine⟨ax,⟨o',by rw[List.getElem?_set_self cr],by omega,fun _=>?_⟩,rfl⟩
      rw[a2,cI,gM]; rfl
     ·rw[e1]; simp at hk; rw[List.getElem?_set_ne (Ne.symm hk)]
    |false=>
     rw[he]at abs
     have TH:0<ys.length:=by cases ys with
      |nil=>simp at he
      |cons=>simp
     refine lG hh ho (o':=o') (by omega) (fun e=>by omega) a3 (v:=.bw esz n (o.cur+1) none none) (a:=.bw esz n (ax+ys.length) 0 (ax+ys.length) none) ?_
      (abs (fun _ h=>List.mem_cons_of_mem _ h) (rd2:=n::rd) (aN.mono (aN.bind (aN.arr dM (by omega)) (rd':=[]) (b:=(⟨.bw esz n (ax+ys.length) 0 (ax+ys.length) none,[(n,.arr true (o.flags.2.1&&yc) o.flags.2.2 (es++ys))]⟩:eg)) ?_) (fun k hk=>by simp at hk; simp[hk])) rfl) h (qd hj)
     ·right
      simp only[R]
      have cr:=(List.getElem?_eq_some_iff.1 ho).1
      refine⟨_,⟨o',by rw[List.getElem?_set_self cr],by omega,fun _=>?_⟩,rfl⟩
      rw[a2,cI,gM]
     ·simp only
      rw[if_neg (by rw[hc.1.2]; simp only[Bool.false_eq_true,false_or,not_or]; exact⟨by omega,by rw[iL]; simp[hc.2]⟩),if_neg (by simp only[Option.getD_none]; omega),
       if_pos ⟨by rw[cI,←gM,JW]; exact hg.1,by rw[cI,←gM]; exact hg.2⟩]
      simp only[and_self,if_true]
      exact aN.pure _
  ·-- of an array of fixed room
   rename_i k
   simp only at ha
   subst ha
   rcases iH yR h with ⟨he,h⟩|⟨he,h⟩
   ·rw[he]at abs
    exact az hh hs (abs (fun _ h=>h) (aN.mono (aN.pure _) (fun _ h=>by simp at h)) rfl) h
   ·rw[he]at abs
    rcases gz h with ⟨_,h⟩|⟨hk,h⟩
    ·simp[Tr.run]at h
    simp only[decide_eq_false_iff_not]at hk
    split at h
    case h_2=>simp[Tr.run]at h
    rename_i o' hoa z9
    obtain⟨hg,h⟩:=bp h
    simp only[tS,Bool.and_eq_true,decide_eq_true_eq]at hg
    have hj:=Bt z9
    obtain⟨es,rfl,vD⟩:=eF.GH hj
    obtain⟨a1,a2,a3⟩:=xM hT eF yR z9
    rw[hc.1.2]at a3
    refine fT hh hn a3 (v:=.bw esz nm 0 none none) (a:=.bw esz nm (ax+ys.length) 0 (ax+ys.length) none) ?_
     (abs (fun _ h=>List.mem_cons_of_mem _ h) (rd2:=n::rd) (aN.mono (aN.bind (aN.arr dM (by omega)) (rd':=[]) (b:=(⟨.bw esz nm (ax+ys.length) 0 (ax+ys.length) none,[(nm,.arr true (o.flags.2.1&&yc) false (es++ys))]⟩:eg)) ?_) (fun k hk=>by simp at hk; simp[hk])) rfl) h
    ·right
     simp only[R]
     have hv:=fU hh hn (o:=o')
     rw[a1,a2,gM,←cI]at hv
     exact⟨_,hv,rfl⟩
    ·simp only
     rw[if_neg (by rw[hc.1.2]; simp only[Bool.false_eq_true,false_or,not_or]; exact⟨by omega,by rw[iL]; simp[hc.2]⟩),if_neg (by simp only[Option.getD_some]; omega),
      if_pos ⟨by rw[cI,←gM,JW]; exact hg.1,by rw[cI,←gM]; exact hg.2⟩]
     rw[if_pos (Oz hT eF fc iL hoa)]
     simp only[List.drop_zero]
     rw[List.take_of_length_le (by omega)]
     exact aN.pure _
  ·-- into the room that there is
   rename_i k off len _
   simp only at ha
   subst ha
   split at h
   case h_2=>simp[Tr.run]at h
   rename_i o' GK
   obtain⟨hg,h⟩:=bp h
   simp only[Bool.and_eq_true,decide_eq_true_eq]at hg
   obtain⟨hj,a1,a2,es,e0,a3⟩:=xN hT eF yR (by omega) GK
   obtain⟨es',e1,vD⟩:=eF.GH hj
   rw[e1]at e0
   simp only[ba.arr.injEq,true_and]at e0
   subst e0
   subst e1
   cases he:ys.isEmpty with
   |true=>
    rw[he]at abs
    have Yn:ys=[]:=by simpa using he
    subst Yn
    obtain rfl:=Di yR GK
    simp only[Bool.and_true,bP]at a3
    refine Bu hh ho (by omega) (fun _=>a2) dM a3 (v:=.bw esz n c (some (off,len+y.len)) (some k)) (a:=.bw esz n ax off len (some k)) ?_
     (abs (fun _ h=>List.mem_cons_of_mem _ h) (aN.mono (aN.pure _) (fun _ h=>by simp at h)) rfl) h hj
    right
    simp only[R]
    have cr:=(List.getElem?_eq_some_iff.1 ho).1
    refine⟨ax,⟨o',by rw[List.getElem?_set_self cr],by rw[a1]; exact Nat.le_of_eq (Nat.eq_of_beq_eq_true hc.1.1),fun _=>by rw[a2,cI]⟩,by rw[gM]; rfl⟩
   |false=>
    rw[he]at abs
    refine lG hh ho (o':=o') (by omega) (fun _=>a2) a3 (v:=.bw esz n c (some (off,len+y.len)) (some k)) (a:=.bw esz n ax off (len+ys.length) (some k)) ?_
     (abs (fun _ h=>List.mem_cons_of_mem _ h) (rd2:=n::rd) (aN.mono (aN.bind (aN.arr dM (by omega)) (rd':=[]) (b:=(⟨.bw esz n ax off (len+ys.length) (some k),[(n,.arr o.flags.1 (o.flags.2.1&&yc) o.flags.2.2 (bP es' (off+len) ys))]⟩:eg)) ?_) (fun k hk=>by simp at hk; simp[hk])) rfl) h (qd hj)
    ·right
     simp only[R]
     have cr:=(List.getElem?_eq_some_iff.1 ho).1
     refine⟨ax,⟨o',by rw[List.getElem?_set_self cr],by rw[a1]; exact Nat.le_of_eq (Nat.eq_of_beq_eq_true hc.1.1),fun _=>by rw[a2,cI]⟩,by rw[gM]⟩
    ·simp only
     rw[if_neg (by rw[hc.1.2]; simp only[Bool.false_eq_true,false_or,not_or]; exact⟨by omega,by rw[iL]; simp[hc.2]⟩),if_pos (by simp only[Option.getD_some]; omega),if_pos (by omega)]
     exact aN.pure _
  ·simp[Tr.run]at h
 ·simp[Tr.run]at h
def Bv(q:bO)(d:AV)(ys:List AV)(yc:Bool):RM eg:=
 match decide (0<q.size)&&ys.all (aF q.isAgg q.size) with
  |false=>RM.fail
  |true=>
   match d with
   |.bw esz n ax off len _=>(match (ys.take len).isEmpty with
    |true=>pure ⟨.lit (.int .i64 0),[]⟩
    |false=>do
     let (g,c,f,es) ←RM.arr n ax
     if esz=q.size∧f=false∧off+len≤es.length∧0<ax then
      pure ⟨.lit (.int .i64 (ys.take len).length),[(n,.arr g (c&&yc) f (bP es off (ys.take len)))]⟩
     else RM.fail)
   |.lit (.slice none 0 0)=>pure ⟨.lit (.int .i64 0),[]⟩
   |_=>RM.fail
theorem OA{P:Program}{t:TypeId}{q:bO}(h:aU P t=some q)(a b:AV):zM P t a b=(gA b >>= fun p=>Bv q a p.1 p.2):=by
 unfold zM
 rw[h]
 rfl
theorem OB[ah](hT:T.Ok)(hQ:Q.Ok)(hh:RH T H hp){t:TypeId}{d x:SV T.den}{a b:AV}(hd:RV T H d a)(hx:RV T H x b)
  (h:(Oc Q H t d x K).run=some r):ky T H hp (zM Q.P t a b) K r:=by
 unfold Oc at h
 split at h
 case h_2=>simp[Tr.run]at h
 rename_i m hm hs
 have hs:=hQ.RI hs
 obtain⟨q,jq,fc,iL,JW,Ma⟩:=hQ.elem hm
 obtain⟨y,rd,ys,yc,Bs,yR,h⟩:=Ki hQ hh (q:=q) hx h
 have Bs:aN hp (gA b) (ys,yc) rd:=by
  simp_all[wS]
 split at h
 case h_2=>simp[Tr.run]at h
 rename_i esz n c rg cap cj _
 simp only[Bool.and_eq_true,decide_eq_true_eq]at cj
 split at h
 case h_2=>simp[Tr.run]at h
 rename_i off len o hr ho
 split at h
 case h_2=>simp[Tr.run]at h
 rename_i o' hc GK
 simp only[Bool.and_eq_true,Bool.not_eq_true',decide_eq_true_eq]at hc
 have ha:=hd.live rfl
 obtain⟨ax,rfl,hv,cI⟩:=tu hh ha hr ho
 have cI:=cI hc.1.1
 obtain⟨ao,dM,eF⟩:=hh.obj ho
 have gM:=yR.len
 have bK:=yR.A5 hT fc iL cj.1
 have np:(decide (0<q.size)&&ys.all (aF q.isAgg q.size))=true:=by
  rw[bK,iL]; simpa using cj.2
 have abs:∀ {rest:RM eg} {e:eg} {rd2:List Nat},(∀ n,n∈rd→n∈rd2)→aN hp rest e rd2 →
   Bv q (.bw esz n ax off len cap) ys yc=rest→aN hp (zM Q.P t (.bw esz n ax off len cap) b) e rd2:=by
  intro rest e rd2 h1 h2 h3
  rw[OA jq]
  refine⟨?_,fun k hk=>?_⟩
  ·rw[RM.run_bind,Bs.1]
   simp only[Option.bind_some]
   rw[h3]
   exact h2.1
  ·rw[RM.fN,Bs.1]at hk
   simp only[List.mem_append]at hk
   rw[h3]at hk
   exact hk.elim (fun h=>h1 k (Bs.2 k h)) (h2.2 k)
 unfold Bv at abs
 rw[np]at abs
 obtain⟨hg,h⟩:=bp h
 simp only[Bool.and_eq_true,decide_eq_true_eq]at hg
 cases he:ys.isEmpty with
 |true=>
  have Yn:ys=[]:=by simpa using he
  subst Yn
  obtain⟨hj,a1,a2,es,e0,a3⟩:=xN hT eF yR (by omega) GK
  obtain⟨es',e1,vD⟩:=eF.GH hj
  rw[e1]at e0
  simp only[ba.arr.injEq,true_and]at e0
  subst e0
  subst e1
  obtain rfl:=Di yR GK
  simp only[Bool.and_true,bP]at a3
  have hy0:y.len=0:=by rw[gM]; rfl
  rw[hy0]at h
  exact Bu hh ho (by omega) (fun _=>a2) dM a3 (bC (.int .i64 0)) (abs (fun _ h=>List.mem_cons_of_mem _ h) (aN.mono (aN.pure _) (fun _ h=>by simp at h)) (by simp only[List.take_nil,List.isEmpty_nil])) h hj
 |false=>
  have TH:0<ys.length:=by cases ys with
   |nil=>simp at he
   |cons=>simp
  have htk:ys.take len=ys:=List.take_of_length_le (by omega)
  obtain⟨hj,a1,a2,es,e0,a3⟩:=xN hT eF yR (by omega) GK
  obtain⟨es',e1,vD⟩:=eF.GH hj
  rw[e1]at e0
  simp only[ba.arr.injEq,true_and]at e0
  subst e0
  subst e1
  have heq:∀ (f t:RM eg),(match (ys.take len).isEmpty with|true=>t|false=>f)=f:=by
   intro f t
   rw[htk,he]
  refine lG hh ho (o':=o') (by omega) (fun _=>a2) a3 (v:=.lit (.int .i64 y.len)) (a:=.lit (.int .i64 y.len)) (bC _)
   (abs (fun _ h=>List.mem_cons_of_mem _ h) (rd2:=n::rd) (aN.mono (aN.bind (aN.arr dM (by omega)) (rd':=[]) (b:=(⟨.lit (.int .i64 y.len),[(n,.arr o.flags.1 (o.flags.2.1&&yc) o.flags.2.2 (bP es' off ys))]⟩:eg)) ?_) (fun k hk=>by simp at hk; simp[hk])) (heq _ _)) h (qd hj)
  simp only
  rw[if_pos ⟨by rw[iL]; exact hc.2,hc.1.2,by omega,by omega⟩,gM,htk]
  exact aN.pure _
theorem RU[ah](hQ:Q.Ok)(hh:RH T H hp){ts:Array TypeId}{type:TypeId}{x:SV T.den}{a:AV}(hx:RV T H x a)(h:(UP Q H ts type x K).run=some r){nm:Nat}:
  ky T H hp (eb Q.P nm .len ts type [a]) K r:=by
 unfold UP at h
 unfold eb
 simp only
 split at h
 case h_2=>simp[Tr.run]at h
 rename_i t ht
 rw[ht]
 simp only
 split at h
 ·rename_i hs
  have hs:=hQ.RI hs
  split at h
  ·have ha:=hx.lit rfl
   subst ha
   refine az hh (bC (.int .i64 0)) (rd:=[]) ?_ h
   simp only[hs,qi]
   exact aN.pure _
  ·have ha:=hx.live rfl
   simp only[R]at ha
   subst ha
   refine az hh (bC (.int .i64 0)) (rd:=[]) ?_ h
   simp only[hs,qi]
   exact aN.pure _
  ·have ha:=hx.live rfl
   simp only[R]at ha
   obtain⟨l',rfl,hl,_⟩:=ha
   refine az hh (a:=.lit (.int .i64 l'.length)) (by rw[hl.length]; exact bC _) (rd:=[]) ?_ h
   simp only[hs,qi]
   exact aN.pure _
  ·rename_i t' l
   have ha:=hx.live rfl
   simp only[R]at ha
   rcases ha with ⟨l',rfl,hl⟩|⟨rfl,rfl⟩
   ·refine az hh (a:=.lit (.int .i64 l'.length)) (by rw[hl.length]; exact bC _) (rd:=[]) ?_ h
    simp only[hs,qi]
    exact aN.pure _
   ·refine az hh (bC (.int .i64 0)) (rd:=[]) ?_ h
    simp only[hs,qi]
    exact aN.pure _
  ·rename_i t' l c b
   have ha:=hx.live rfl
   simp only[R]at ha
   rcases ha with ⟨_,l',rfl,hl⟩|⟨_,rfl,rfl|rfl⟩
   ·refine az hh (a:=.lit (.int .i64 l'.length)) (by rw[hl.length]; exact bC _) (rd:=[]) ?_ h
    simp only[hs,qi]
    exact aN.pure _
   ·refine az hh (bC (.int .i64 0)) (rd:=[]) ?_ h
    simp only[hs,qi]
    exact aN.pure _
   ·refine az hh (bC (.int .i64 0)) (rd:=[]) ?_ h
    simp only[hs,qi]
    exact aN.pure _
  ·rename_i esz n c rg cap
   have ha:=hx.live rfl
   split at h
   case h_2=>simp[Tr.run]at h
   rename_i off len hr
   have:∃ o,H[n]?=some (some o):=by
    simp only[R]at ha
    obtain⟨_,⟨o,ho,_⟩,_⟩:=ha
    exact⟨o,ho⟩
   obtain⟨o,ho⟩:=this
   obtain⟨ax,rfl,_,_⟩:=tu hh ha hr ho
   refine az hh (bC (.int .i64 len)) (rd:=[]) ?_ h
   simp only[hs,qi]
   exact aN.pure _
  ·rename_i n c k j len cap
   have ha:=hx.live rfl
   simp only[R]at ha
   obtain⟨ax,rfl,_⟩:=ha
   refine az hh (bC (.int .i64 len)) (rd:=[]) ?_ h
   simp only[hs,qi]
   exact aN.pure _
  ·simp[Tr.run]at h
 ·simp[Tr.run]at h
 ·rename_i hs
  have hs:=hQ.RI hs
  split at h
  ·simp[Tr.run]at h
  ·rename_i v hv
   have ha:=hx.lit rfl
   subst ha
   obtain⟨w,hw,hk⟩:=jk h
   refine az hh (bC w) (rd:=[]) ?_ hk
   split
   ·rename_i heq; injection heq with e; exact(hv e).elim
   ·rename_i heq; cases heq
   ·rename_i heq; cases heq
   ·rename_i heq; cases heq
   ·rename_i heq; cases heq
   ·rename_i heq; cases heq
   ·rename_i heq; injection heq with e; subst e; rw[hw]; exact aN.pure _
   ·rename_i h; exact(h v rfl).elim
  ·rename_i l
   have ha:=hx.live rfl
   simp only[R]at ha
   obtain⟨l',rfl,hl⟩:=ha
   split at h
   case h_2=>simp[Tr.run]at h
   rename_i n m hm
   obtain⟨q,jq,_⟩:=hQ.GI hm
   refine az hh (bC (.int .i64 n)) (rd:=[]) ?_ h
   simp only[jq]
   exact aN.pure _
  ·have ha:=hx.live rfl
   simp only[R]at ha
   obtain⟨ax,rfl,hl⟩:=ha
   split at h
   case h_2=>simp[Tr.run]at h
   rename_i n m hm
   obtain⟨q,jq,_⟩:=hQ.GI hm
   refine az hh (bC (.int .i64 n)) (rd:=[]) ?_ h
   simp only[jq]
   exact aN.pure _
  ·have ha:=hx.live rfl
   simp only[R]at ha
   obtain⟨ax,rfl,hl⟩:=ha
   split at h
   case h_2=>simp[Tr.run]at h
   rename_i n m hm
   obtain⟨q,jq,_⟩:=hQ.GI hm
   refine az hh (bC (.int .i64 n)) (rd:=[]) ?_ h
   simp only[jq]
   exact aN.pure _
  ·simp[Tr.run]at h
theorem Kj[ah]{l:List (SV T.den)}{m:List AV}(hv:aE (RV T H) l m){c:List Value}(hc:oK l=some c):dy m=some c:=by
 revert c
 induction l generalizing m with
 |nil=>
  intro c hc
  cases m with
  |nil=>simp[oK]at hc; subst hc; rfl
  |cons=>exact hv.elim
 |cons x xs ih=>
  intro c hc
  cases m with
  |nil=>exact hv.elim
  |cons a as=>
   cases x with
   |lit v=>
    simp only[oK,Option.map_eq_some_iff]at hc
    obtain⟨c',h1,rfl⟩:=hc
    have:=RV.lit hv.1 rfl
    subst this
    simp[dy,ih hv.2 h1]
   |_=>simp[oK]at hc
theorem GL[ah](hT:T.Ok)(hQ:Q.Ok)(hh:RH T H hp){nm:Nat}(hn:nm=H.length∨H[nm]?=some none){b:Builtin}{ts:Array TypeId}{type:TypeId}{args:List (SV T.den)}{as:List AV}
  (ha:aE (RV T H) args as) (h:(A7 Q nm H b ts type args K).run=some r):ky T H hp (eb Q.P nm b ts type as) K r:=by
 unfold A7 at h
 split at h
 ·split at h
  ·rename_i t xt s x ht
   match as,ha with
   |[a,b],ha=>
    simp only[eb,ht]
    exact IU hT hQ hh hn ha.1 ha.2.1 h
  ·simp[Tr.run]at h
 ·split at h
  ·rename_i t _ d x ht
   match as,ha with
   |[a,b],ha=>
    simp only[eb,ht]
    exact OB hT hQ hh ha.1 ha.2.1 h
  ·simp[Tr.run]at h
 ·split at h
  ·rename_i x
   match as,ha with
   |[a],ha=>exact RU hQ hh ha.1 h
  ·simp[Tr.run]at h
 ·split at h
  ·rename_i vs rb
   obtain⟨w,hw,hk⟩:=jk h
   refine az hh (bC w) (rd:=[]) ?_ hk
   simp only[eb,Kj ha rb,hw]
   exact aN.pure _
  ·simp[Tr.run]at h
 ·split at h
  ·rename_i vs rb
   obtain⟨w,hw,hk⟩:=jk h
   refine az hh (bC w) (rd:=[]) ?_ hk
   simp only[eb,Kj ha rb,hw]
   exact aN.pure _
  ·simp[Tr.run]at h
 ·simp[Tr.run]at h
end
end Go.PI
end
section
/- PS, part Ia: maps. -/
namespace Go.PI
variable {T:ej}{ρ:Type}
theorem EH(kk:KK)(a b:kk.D):tL (kk.v a) (kk.v b)=kk.beq a b:=by cases kk<;>rfl
theorem OC{kk:KK}{v:Value}{k:kk.D}(h:kk.get v=some k):v=kk.v k∧kk.ok v=true:=by
 cases kk with
 |int q=>
  cases v<;>simp[KK.get]at h
  obtain⟨rfl,h⟩:=h
  cases h
  exact⟨rfl,by simp[KK.ok]⟩
 |str=>
  cases v<;>simp[KK.get]at h
  cases h
  exact⟨rfl,rfl⟩
 |bool=>
  cases v<;>simp[KK.get]at h
  cases h
  exact⟨rfl,rfl⟩
theorem xO{kk:KK}{α:Type}{k:kk.D}:∀ {m:List (kk.D×α)} {i:Nat},mw kk m k=none→kU (kk.v k) (m.map fun q=>kk.v q.1) i=none
 |[],i,_=>rfl
 |(k',v)::m,i,h=>by
  simp only[mw]at h
  cases hb:kk.beq k k' with
  |true=>rw[hb]at h; simp at h
  |false=>
   rw[hb]at h
   simp only[List.map_cons,kU,EH,hb,cond_false]
   exact xO h
theorem xP{kk:KK}{α:Type}{k:kk.D}{x:α}:∀ {m:List (kk.D×α)} {i:Nat},mw kk m k=some x→∃ j,kU (kk.v k) (m.map fun q=>kk.v q.1) i=some (i+j)∧(m.map (·.2))[j]?=some x ∧
  ∀ y,(o9 kk m k y).map (fun q=>kk.v q.1)=m.map (fun q=>kk.v q.1)∧(o9 kk m k y).map (·.2)=(m.map (·.2)).set j y
 |[],i,h=>by simp[mw]at h
 |(k',v)::m,i,h=>by
  simp only[mw]at h
  cases hb:kk.beq k k' with
  |true=>
   simp_all[cond_true,kU,EH,hb,o9]
  |false=>
   rw[hb]at h
   obtain⟨j,h1,h2,h3⟩:=xP (i:=i+1) h
   refine⟨j+1,?_,by simpa using h2,fun y=>?_⟩
   ·simp only[List.map_cons,kU,EH,hb,cond_false,h1]
    congr 1; omega
   ·obtain⟨h4,h5⟩:=h3 y
    simp[o9,hb,h4,h5]
theorem GM{kk:KK}{α:Type}{k:kk.D}{y:α}:∀ {m:List (kk.D×α)},mw kk m k=none→o9 kk m k y=m++[(k,y)]
 |[],_=>rfl
 |(k',v)::m,h=>by
  simp only[mw]at h
  cases hb:kk.beq k k' with
  |true=>rw[hb]at h; simp at h
  |false=>
   rw[hb]at h
   simp only[o9,hb,cond_false,List.cons_append]
   rw[GM h]
section
variable {H:aq T.den}{hp:ak}{K:EK T ρ}{r:ρ}{Q:iM}
theorem EI{c:Bool}{v:SV T.den}{a:AV}{b:Bool}(h:R T H v a):R T H (Eu c v b) (zO c a b):=by
 cases c with
 |false=>exact h
 |true=>
  simp only[Eu,zO,R]
  exact⟨_,rfl,h,rfl,trivial⟩
theorem IV[ah](hT:T.Ok)(hQ:Q.Ok)(hZ:T.wz Q)(hh:RH T H hp){t:TypeId}{x ix:SV T.den}{a b:AV}(hx:RV T H x a)(hi:RV T H ix b){c:Bool}(h:(Ev Q H t x ix c K).run=some r):
  ky T H hp (vn Q.P t a b c) K r:=by
 unfold Ev at h
 split at h
 case h_2=>simp[Tr.run]at h
 rename_i kk et zp
 have MU:=hQ.map _ _ zp
 split at h
 case h_2=>simp[Tr.run]at h
 rename_i za z k U9 hz
 obtain⟨m,hm,hmz⟩:=Option.bind_eq_some_iff.1 U9
 obtain⟨q,jq,_,_,_,Ma⟩:=hQ.row _ _ hm
 have pD:=Ma _ hmz
 have HF:=hZ et m z za hm hmz hz
 have hi:=hi.lit rfl
 subst hi
 have U8:(gb Q.P et).bind cq=some za:=by rw[jq]; exact pD
 unfold vn
 simp only[MU,U8]
 split at h
 ·rename_i k' hk
  obtain⟨rfl,cj⟩:=OC hk
  have hx:=hx.lit rfl
  subst hx
  simp only[cj]
  exact az hh (.inr (EI (hT.up _ _ _ H HF))) (aN.pure _) h
 ·rename_i k' n hk
  obtain⟨rfl,cj⟩:=OC hk
  have hx:=hx.live rfl
  simp only[R]at hx
  obtain⟨rfl,_⟩:=hx
  split at h
  case h_2=>simp[Tr.run]at h
  rename_i tA t' mp ho
  split at h
  case isFalse=>simp[Tr.run]at h
  rename_i hc
  obtain⟨rfl,rfl⟩:=hc
  simp only[wm]at h
  obtain⟨ao,dM,eF⟩:=hh.obj ho
  obtain⟨vs,rfl,rb⟩:=eF
  simp only[cj]
  cases hg:mw tA mp k' with
  |none=>
   rw[hg]at h
   simp only[Option.getD_none,Option.isSome_none]at h
   refine az hh (.inr (EI (hT.up _ _ _ H HF))) (rd:=[n]) (aN.get dM ?_) h
   simp only[if_true,xO hg]
   exact aN.pure _
  |some y=>
   rw[hg]at h
   simp only[Option.getD_some,Option.isSome_some]at h
   obtain⟨j,h1,h2,_⟩:=xP (i:=0) hg
   obtain⟨v,hv,hr⟩:=aE.get rb h2
   refine az hh (.inr (EI (hT.up _ _ _ H hr))) (rd:=[n]) (aN.get dM ?_) h
   simp only[if_true,h1,Nat.zero_add,hv]
   exact aN.pure _
 ·simp[Tr.run]at h
theorem Cg[ah](hT:T.Ok)(hQ:Q.Ok)(hh:RH T H hp){t:TypeId}{x ix v:SV T.den}{a b d:AV}(hx:RV T H x a)(hi:RV T H ix b)(hv:RV T H v d)(h:(uF Q H t x ix v K).run=some r):
  ky T H hp (nh Q.P t a b d) K r:=by
 unfold uF at h
 split at h
 case h_2=>simp[Tr.run]at h
 rename_i kk et zp
 have MU:=hQ.map _ _ zp
 split at h
 case h_2=>simp[Tr.run]at h
 rename_i k n
 split at h
 case h_2=>simp[Tr.run]at h
 rename_i k' tA t' mp hk ho
 split at h
 case h_2=>simp[Tr.run]at h
 rename_i y hd hy
 split at h
 case isFalse=>simp[Tr.run]at h
 rename_i hc
 obtain⟨rfl,Qe⟩:=hc
 obtain⟨rfl,cj⟩:=OC hk
 have hi:=hi.lit rfl
 subst hi
 have hx:=hx.live rfl
 simp only[R]at hx
 obtain⟨rfl,_⟩:=hx
 have HF:=hT.dn _ _ _ _ H hy (hv.live hd)
 obtain⟨ao,dM,eF⟩:=hh.obj ho
 obtain⟨vs,rfl,rb⟩:=eF
 unfold nh
 simp only[MU,cj]
 simp only[wm]at h
 cases hg:mw tA mp k' with
 |none=>
  have e:=GM (y:=y) hg
  refine lG hh ho (o':=.lZ tA t' (o9 tA mp k' y)) (Nat.le_refl _) (fun _=>rfl) (a':=.iI (.map tA ((mp.map fun q=>tA.v q.1)++[tA.v k'])) (vs++[d])) ?_ (bC undef) (rd:=[n]) (aN.get dM ?_) h
  ·rw[e]
   refine⟨vs++[d],by simp,?_⟩
   rw[List.map_append]
   exact rb.append (show aE (T.rp t') [y] [d] from ⟨HF,trivial⟩)
  ·simp only[if_true,xO hg]
   exact aN.pure _
 |some x0=>
  obtain⟨j,h1,h2,h3⟩:=xP (i:=0) hg
  obtain⟨h4,h5⟩:=h3 y
  refine lG hh ho (o':=.lZ tA t' (o9 tA mp k' y)) (Nat.le_refl _) (fun _=>rfl) (a':=.iI (.map tA (mp.map fun q=>tA.v q.1)) (vs.set j d)) ?_ (bC undef) (rd:=[n]) (aN.get dM ?_) h
  ·exact⟨_,by rw[h4],by rw[h5]; exact rb.set j HF⟩
  ·simp only[if_true,h1,Nat.zero_add]
   exact aN.pure _
theorem GN[ah](hQ:Q.Ok)(hh:RH T H hp){nm:Nat}(hn:nm=H.length∨H[nm]?=some none){t:TypeId}{x:Option (SV T.den)}{a:Option AV}(hx:Ox T H x a)(h:(A9 Q nm t x K).run=some r):
  ky T H hp (.iZ (rA Q.P nm t a)) K r:=by
 unfold A9 at h
 split at h
 case h_2=>simp[Tr.run]at h
 rename_i kk et zp
 have MU:=hQ.map _ _ zp
 obtain⟨n,hn1,h⟩:=jl hx h
 refine fT hh hn (o:=.lZ kk et []) (a':=.iI (.map kk []) []) ⟨[],rfl,trivial⟩ (a:=.mp false nm) (rd:=[]) (.inr ?_) ?_ h
 ·simp only[R]
  refine⟨trivial,.lZ kk et [],?_⟩
  unfold cd
  rcases hn with rfl|hn
  ·simp
  ·have cr:=(List.getElem?_eq_some_iff.1 hn).1
   rw[if_neg (by omega),List.getElem?_set_self cr]
 ·simp only[rA,MU,hn1]
  exact aN.iZ rfl
end
end Go.PI
end
section
/- PS, part J: every operation. -/
namespace Go.PI
variable {T:ej}{ρ:Type}
section
variable {H:aq T.den}{hp:ak}{K:EK T ρ}{r:ρ}{Q:iM}
theorem mX{ev:Operand→SV T.den}{HG:Operand→AV}(ck:∀ x,RV T H (ev x) (HG x)):∀ (l:List Operand),aE (RV T H) (l.map ev) (l.map HG)
 |[]=>trivial
 |x::xs=>⟨ck x,mX ck xs⟩
theorem na[ah]:∀ {l:List (SV T.den)} {m:List AV},aE (RV T H) l m→l.any cL=false→RL T H l m
 |[],[],_,_=>by simp[RL]
 |x::xs,y::ys,h,hd=>by
  simp only[List.any_cons,Bool.or_eq_false_iff]at hd
  simp only[RL]
  exact⟨h.1.live hd.1,na h.2 hd.2⟩
theorem Bw[ah]{ev:Operand→SV T.den}{HG:Operand→AV}(ck:∀ x,RV T H (ev x) (HG x)):∀ (l:List (Nat×Operand)),((l.map fun p=>(p.1,ev p.2)).any fun p=>cL p.2)=false →
  RP T H (l.map fun p=>(p.1,ev p.2)) (l.map fun p=>(p.1,HG p.2))
 |[],_=>trivial
 |x::xs,hd=>by
  simp only[List.map_cons,List.any_cons,Bool.or_eq_false_iff]at hd
  exact⟨⟨rfl,(ck _).live hd.1⟩,Bw ck xs hd.2⟩
theorem IW[ah](hT:T.Ok)(hQ:Q.Ok)(hZ:T.wz Q)(hh:RH T H hp){nm:Nat}(hn:nm=H.length∨H[nm]?=some none){ev:Operand→SV T.den}{HG:Operand→AV}(ck:∀ x,RV T H (ev x) (HG x)){o:Oper}
  (h:(Rv Q nm H ev o K).run=some r):ky T H hp (aV Q.P nm HG o) K r:=by
 obtain⟨dst,op,type,pos,after,guard⟩:=o
 unfold Rv at h
 cases op with
 |move x=>exact az hh (ck x) (aN.ret _) h
 |assign x=>exact az hh (ck x) (aN.ret _) h
 |pick c a b=>
  simp only at h
  split at h
  ·rename_i t ht
   have hc:=(ck c).lit ht
   obtain⟨v,hv,hk⟩:=RQ (ck a) (ck b) h
   refine az hh hv (rd:=[]) ?_ hk
   simp only[aV,hc]
   exact aN.pure _
  ·simp[Tr.run]at h
 |alloc t=>
  simp only at h
  split at h
  case h_2=>simp[Tr.run]at h
  rename_i m hm
  split at h
  case h_2=>simp[Tr.run]at h
  rename_i z hz
  split at h
  case isFalse=>simp[Tr.run]at h
  rename_i hs
  exact Lu hQ hh hn hm hz hs h
 |box t x=>
  simp only at h
  split at h
  case isFalse=>simp[Tr.run]at h
  rename_i hc
  have hv:=(ck x).live hc.2.2
  have og:=hv.cells
  refine fT hh hn (o:=.arr false (aD (cb (ev x))) false 0 [ev x]) (a':=.arr false (bf (cellsOf (HG x))) false [HG x]) ⟨_,by rw[RL.closed og],by simp only[RL]; exact⟨hv,trivial⟩,fun pq=>by rw[Ca]at pq; simp only[aD,pq,Bool.and_self]⟩
   (a:=.ref nm 1 0 0) (rd:=[]) ?_ ?_ h
  ·right
   simp only[R]
   exact⟨1,rfl,fU hh hn (o:=.arr false (aD (cb (ev x))) false 0 [ev x])⟩
  ·simp only[aV]
   rw[if_pos ⟨by rw[←og.Gd]; exact hc.1,by rw[←og.length]; exact hc.2.1⟩]
   exact aN.pure _
 |build t parts=>
  simp only at h
  split at h
  ·simp[Tr.run]at h
  rename_i hd
  simp only[Bool.not_eq_true]at hd
  obtain⟨v,hv,hk⟩:=nU h
  obtain⟨a,ha,hr⟩:=Lt hQ (Bw ck _ hd) hv
  refine az hh (.inr hr) (rd:=[]) ?_ hk
  simp only[aV,ha]
  exact aN.pure _
 |buildSlice t len parts=>
  simp only at h
  split at h
  ·simp[Tr.run]at h
  rename_i hd
  simp only[Bool.not_eq_true]at hd
  exact Bp hQ hh hn (Bw ck _ hd) h
 |load t a=>
  simp only at h
  split at h
  case h_2=>simp[Tr.run]at h
  rename_i m hm
  obtain⟨q,h1,h2,h3,_⟩:=hQ.row _ _ hm
  have:∃ v c rd,aN hp (mA Q.P t (HG a)) c rd∧R T H v c∧(K v [] rd).run=some r:=GG hT h1 h2 h3 hh (ck a) h
  obtain⟨v,c,rd,hy,hr,hk⟩:=this
  refine az hh (.inr hr) (rd:=rd) ?_ hk
  simp only[aV]
  exact aN.mono (aN.bind hy (aN.pure _)) (fun _ h=>by simpa using h)
 |store t a x=>
  simp only at h
  split at h
  case h_2=>simp[Tr.run]at h
  rename_i m hm
  obtain⟨q,h1,h2,h3,_⟩:=hQ.row _ _ hm
  exact Lr hT h1 h3 hh (ck a) (ck x) h
 |nilCheck x=>
  simp only at h
  have hx:=ck x
  split at h
  ·rename_i n c i j he
   rw[he]at hx
   have im:=hx.live rfl
   simp only[R]at im
   obtain⟨ax,e,hv⟩:=im
   refine az hh (a:=.ref n ax i j) (.inr (by simp only[R]; exact⟨ax,rfl,hv⟩)) (rd:=[]) ?_ h
   simp only[aV,e]; exact aN.pure _
  ·rename_i e0 j he
   rw[he]at hx
   have im:=hx.live rfl
   have oY:=im
   simp only[R]at im
   obtain⟨e',e,hv⟩:=im
   refine az hh (a:=.bq e' j) (.inr (by rw[←e]; exact oY)) (rd:=[]) ?_ h
   simp only[aV,e]; exact aN.pure _
  ·rename_i t y he
   rw[he]at hx
   have im:=hx.live rfl
   have oY:=im
   simp only[R]at im
   obtain⟨e',e,hv⟩:=im
   refine az hh (a:=.jU t e') (.inr (by rw[←e]; exact oY)) (rd:=[]) ?_ h
   simp only[aV,e]; exact aN.pure _
  ·rename_i f a c he
   rw[he]at hx
   have im:=hx.live rfl
   have oY:=im
   simp only[R]at im
   obtain⟨f',c',e,hv⟩:=im
   refine az hh (a:=.jT (.func f) f' c') (.inr (by rw[←e]; exact oY)) (rd:=[]) ?_ h
   simp only[aV,e]; exact aN.pure _
  ·rename_i f a c he
   have e:=hx.lit he
   refine az hh (bC (.func (.func f) a c)) (rd:=[]) ?_ h
   simp only[aV,e]; exact aN.pure _
  ·simp[Tr.run]at h
 |binOp op t x y u=>
  simp only at h
  obtain⟨v,hv,hk⟩:=RN hQ (ck x) (ck y) h
  refine az hh (bC v) (rd:=[]) ?_ hk
  simp only[aV,hv]
  exact aN.pure _
 |unOp op t x=>
  simp only at h
  split at h
  ·rename_i a ha
   have hx:=(ck x).lit ha
   obtain⟨v,hv,hk⟩:=jk h
   refine az hh (bC v) (rd:=[]) ?_ hk
   simp only[aV,hx,hv]
   exact aN.pure _
  ·simp[Tr.run]at h
 |convert s d x=>
  simp only at h
  split at h
  ·rename_i a ha
   have hx:=(ck x).lit ha
   obtain⟨v,hv,hk⟩:=jk h
   refine az hh (bC v) (rd:=[]) ?_ hk
   simp only[aV,hx,hv]
   exact aN.pure _
  ·simp[Tr.run]at h
 |makeInterface t x=>
  simp only at h
  split at h
  ·simp[Tr.run]at h
  rename_i hc
  simp only[Bool.or_eq_true,not_or,Bool.not_eq_true]at hc
  have hx:=(ck x).live hc.2
  refine az hh (a:=.jU t (HG x)) (.inr (by simp only[R]; exact⟨_,rfl,hx⟩)) (rd:=[]) ?_ h
  simp only[aV]
  rw[if_neg (by simp[hc.1.1,hc.1.2])]
  exact aN.pure _
 |makeFunc fn first captured=>
  simp only at h
  split at h
  ·rename_i hc
   refine az hh (bC (.func fn #[] #[])) (rd:=[]) ?_ h
   simp only[aV,hc,if_true]
   exact aN.pure _
  ·rename_i hc
   split at h
   ·simp[Tr.run]at h
   rename_i hd
   simp only[Bool.or_eq_true,not_or,Bool.not_eq_true]at hd
   have h1:=na (mX ck first.toList) hd.1
   have h2:=na (mX ck captured.toList) hd.2
   refine az hh (a:=.jT fn (first.toList.map HG) (captured.toList.map HG)) (.inr (by simp only[R]; exact⟨_,_,rfl,h1,h2⟩)) (rd:=[]) ?_ h
   simp only[aV]
   rw[if_neg hc]
   exact aN.pure _
 |makeSlice t l c=>
  simp only at h
  split at h
  ·rename_i hs
   have e:l=c:=by
    unfold Oa at hs
    split at hs
    ·rw[Nat.eq_of_beq_eq_true hs]
    ·simp at hs
   subst e
   exact Cd hQ hZ hh hn (ck l) h
  ·exact Cc hQ hZ hh hn (ck l) (ck c) h
 |slice t x lo hi mx=>
  simp only at h
  have ho:∀ o:Option Operand,Ox T H (o.map ev) (o.map HG):=by
   intro o
   cases o with
   |none=>trivial
   |some o=>exact ck o
  obtain⟨v,b,hb,hv,hk⟩:=RR hT hQ hh (ck x) (ho lo) (ho hi) (ho mx) h
  refine az hh hv (rd:=[]) ?_ hk
  simp only[aV,hb]
  exact aN.pure _
 |sliceToArrayPointer t x=>
  simp only at h
  have hx:=ck x
  unfold Ob at h
  split at h
  case h_2=>simp[Tr.run]at h
  rename_i len m n c i j l cp hf he
  obtain⟨q,jq,fc,iL⟩:=hQ.GI hf
  split at h
  case h_2=>simp[Tr.run]at h
  rename_i hle
  simp only[decide_eq_true_eq]at hle
  rw[he]at hx
  have im:=hx.live rfl
  simp only[R]at im
  obtain⟨ax,e,hv⟩:=im
  refine az hh (a:=.ref n ax i j) (.inr (by simp only[R]; exact⟨ax,rfl,hv⟩)) (rd:=[]) ?_ h
  simp only[aV,e,jq]
  rw[if_pos hle]
  exact aN.pure _
 |fieldAddr s x f=>
  simp only at h
  have hx:=ck x
  split at h
  ·rename_i off m n c i j hf he
   obtain⟨q,hq,_⟩:=hQ.RG hf
   rw[he]at hx
   have im:=hx.live rfl
   simp only[R]at im
   obtain⟨ax,e,hv⟩:=im
   refine az hh (a:=.ref n ax i (j+off)) (.inr (by simp only[R]; exact⟨ax,rfl,hv⟩)) (rd:=[]) ?_ h
   simp only[aV,e,hq]; exact aN.pure _
  ·rename_i off m e0 j hf he
   obtain⟨q,hq,_⟩:=hQ.RG hf
   rw[he]at hx
   have im:=hx.live rfl
   simp only[R]at im
   obtain⟨e',e,hv⟩:=im
   refine az hh (a:=.bq e' (j+off)) (.inr (by simp only[R]; exact⟨e',rfl,hv.1,hv.2⟩)) (rd:=[]) ?_ h
   simp only[aV,e,hq]; exact aN.pure _
  ·rename_i off m v bm len i hf he
   obtain⟨q,hq,_⟩:=hQ.RG hf
   rw[he]at hx
   have im:=hx.live rfl
   simp only[R]at im
   obtain⟨a0,h1,h2,h3⟩:=im
   rcases h3 with ⟨n,ax,k,j,rfl,e⟩|⟨e',j,rfl,e⟩
   ·refine az hh (a:=.ref n ax k (j+i*bm+off)) (.inr (by simp only[R]; exact⟨.ref n ax k (j+off),tq h1 (.inl ⟨_,_,_,_,rfl,rfl⟩),h2,.inl ⟨_,_,_,_,rfl,by rw[Nat.add_right_comm]⟩⟩)) (rd:=[]) ?_ h
    simp only[aV,e,hq]; exact aN.pure _
   ·refine az hh (a:=.bq e' (j+i*bm+off)) (.inr (by simp only[R]; exact⟨.bq e' (j+off),tq h1 (.inr ⟨_,_,rfl,rfl⟩),h2,.inr ⟨_,_,rfl,by rw[Nat.add_right_comm]⟩⟩)) (rd:=[]) ?_ h
    simp only[aV,e,hq]; exact aN.pure _
  ·simp[Tr.run]at h
 |field s x f=>
  simp only at h
  have hx:=ck x
  split at h
  ·rename_i off m l hf he
   obtain⟨q,hq,fc,iL⟩:=hQ.RG hf
   rw[he]at hx
   have im:=hx.live rfl
   obtain⟨v,hv,hk⟩:=nU h
   rw[←fc,←iL]at hv
   obtain⟨c,hc,hr⟩:=R.part im hv
   simp only[R]at im
   obtain⟨l',e,_⟩:=im
   refine az hh (.inr hr) (rd:=[]) ?_ hk
   rw[e]at hc
   simp only[aV,e,hq,hc]; exact aN.pure _
  ·simp[Tr.run]at h
 |indexAddr t x ix=>
  simp only at h
  obtain⟨v,b,hb,hv,hk⟩:=Ce hT hQ hh (ck x) (ck ix) h
  refine az hh hv (rd:=[]) ?_ hk
  simp only[aV,hb]
  exact aN.pure _
 |index t x ix=>
  simp only at h
  obtain⟨v,b,hb,hv,hk⟩:=Lv hQ (ck x) (ck ix) h
  refine az hh hv (rd:=[]) ?_ hk
  simp only[aV,hb]
  exact aN.pure _
 |makeMap t x=>
  simp only at h
  have ho:Ox T H (x.map ev) (x.map HG):=by
   cases x with
   |none=>trivial
   |some o=>exact ck o
  have:=GN (T:=T) hQ hh hn ho h
  exact this
 |lookup t x ix c=>
  simp only at h
  exact IV hT hQ hZ hh (ck x) (ck ix) h
 |mapUpdate t x k v=>
  simp only at h
  exact Cg hT hQ hh (ck x) (ck k) (ck v) h
 |extract t ix=>
  simp only at h
  have hx:=ck t
  split at h
  ·rename_i l he
   rw[he]at hx
   have im:=hx.live rfl
   simp only[R]at im
   obtain⟨l',e,hl⟩:=im
   obtain⟨v,hv,hk⟩:=nU h
   obtain⟨b,hb,hr⟩:=aE.get (bh.1 hl) hv
   refine az hh (.inr hr) (rd:=[]) ?_ hk
   simp only[aV,e,hb]; exact aN.pure _
  ·simp[Tr.run]at h
 |call c=>
  obtain⟨callee,args,ru⟩:=c
  cases callee with
  |builtin b=>exact GL hT hQ hh hn (mX ck args.toList) h
  |_=>simp[Tr.run]at h
 |_=>simp[Tr.run]at h
end
end Go.PI
end
section
/- PS, part K: by value, frozen, and calls of which an answer is known. -/
namespace Go.PI
variable {T:ej}{ρ:Type}
mutual
def me:AV→Bool
 |.lit v=>match v with
  |.slice none 0 0=>false
  |_=>true
 |.agg l|.kJ l=>qG l
 |.jU _ v=>me v
 |.jT _ f c=>qG f&&qG c
 |_=>true
def qG:List AV→Bool
 |[]=>true
 |x::xs=>me x&&qG xs
end
section
variable {H:aq T.den}{hp:ak}{r:ρ}
mutual
theorem R.flat:∀ {v:SV T.den} {a:AV},R T H v a→me a=true→yA v=flat a
 |.dead,a,h,_=>by simp[R]at h
 |.hole,a,h,_=>by simp only[R]at h; subst h; rfl
 |.lit v,a,h,_=>by simp only[R]at h; subst h; rfl
 |.agg l,a,h,hn=>by
  simp only[R]at h
  obtain⟨l',rfl,h2⟩:=h
  simp only[me]at hn
  simp only[yA,Go.PI.flat]; exact RL.flat h2 hn
 |.kJ l,a,h,hn=>by
  simp only[R]at h
  obtain⟨l',rfl,h2⟩:=h
  simp only[me]at hn
  simp only[yA,Go.PI.flat]; exact RL.flat h2 hn
 |.sl l,a,h,_=>by
  simp only[R]at h
  obtain⟨l',rfl,h2⟩:=h
  rfl
 |.jR t l,a,h,hn=>by
  simp only[R]at h
  rcases h with ⟨l',rfl,_⟩|⟨_,rfl⟩
  ·rfl
  ·simp[me]at hn
 |.bq e j,a,h,_=>by
  simp only[R]at h
  obtain⟨e',rfl,h2⟩:=h
  rfl
 |.ref n c i j,a,h,_=>by
  simp only[R]at h
  obtain⟨ax,rfl,h2⟩:=h
  rfl
 |.jC n c i j ln cp,a,h,_=>by
  simp only[R]at h
  obtain⟨ax,rfl,h2⟩:=h
  rfl
 |.bw esz n c rg cap,a,h,_=>by
  simp only[R]at h
  obtain⟨ax,h1,h2⟩:=h
  rcases rg with _|⟨off,len⟩<;>simp only at h2<;>subst h2<;>rfl
 |.jT fn f c,a,h,hn=>by
  simp only[R]at h
  obtain⟨f',c',rfl,h2,h3⟩:=h
  rfl
 |.jU t v,a,h,hn=>by
  simp only[R]at h
  obtain⟨v',rfl,h2⟩:=h
  simp only[me]at hn
  simp only[yA,Go.PI.flat]; exact R.flat h2 hn
 |.zD t l c b,a,h,hn=>by
  simp only[R]at h
  rcases h with ⟨_,l',rfl,_⟩|⟨_,_,rfl|rfl⟩
  ·rfl
  ·rfl
  ·simp[me]at hn
 |.nz,a,h,hn=>by
  simp only[R]at h
  subst h
  rfl
 |.mp y n,a,h,_=>by
  simp only[R]at h
  obtain⟨rfl,_⟩:=h
  rfl
 |.vg v s len i,a,h,_=>by
  simp only[R]at h
  obtain⟨a0,_,_,h2⟩:=h
  rcases h2 with ⟨n,ax,k,j,rfl,rfl⟩|⟨e,j,rfl,rfl⟩<;>rfl
theorem RL.flat:∀ {l:List (SV T.den)} {m:List AV},RL T H l m→qG m=true→Eo l=xY m
 |[],[],_,_=>rfl
 |x::xs,y::ys,h,hn=>by
  simp only[RL]at h
  simp only[qG,Bool.and_eq_true]at hn
  simp only[Eo,xY]; rw[R.flat h.1 hn.1,RL.flat h.2 hn.2]
 |[],_::_,h,_=>by simp[RL]at h
 |_::_,[],h,_=>by simp[RL]at h
end
theorem qH{den:Nat→Type}:∀ {l:List (SV den)} {i:Nat} {e:SV den},aD l=true→l[i]?=some e→aM e=true
 |[],_,_,_,h=>by simp at h
 |x::xs,0,e,hc,h=>by
  simp_all[aD]
 |x::xs,i+1,e,hc,h=>by
  simp only[aD,Bool.and_eq_true]at hc
  simp only[List.getElem?_cons_succ]at h
  exact qH hc.2 h
theorem qI[ah](hh:RH T H hp):∀ k:Nat,
  (∀ (v:SV T.den) (a:AV) (K:SV T.den→List Nat→Tr ρ),R T H v a→(ib T H k v K).run=some r →
    ∃ v' rd a',aN hp (bn k a) a' rd∧R T H v' a'∧(me a'=true∧aM v'=true)∧(K v' rd).run=some r) ∧
  (∀ (l:List (SV T.den)) (m:List AV) (K:List (SV T.den)→List Nat→Tr ρ),RL T H l m→(ic T H k l K).run=some r →
    ∃ l' rd m',aN hp (bg k m) m' rd∧RL T H l' m'∧(qG m'=true∧aD l'=true)∧l'.length=l.length∧(K l' rd).run=some r)
 |0=>⟨fun v a K _ h=>by simp[ib,Tr.run]at h,fun l m K _ h=>by simp[ic,Tr.run]at h⟩
 |k+1=>by
  obtain⟨ihv,Va⟩:=qI hh k
  refine⟨fun v a K hr h=>?_,fun l m K hr h=>?_⟩
  ·cases v with
   |dead=>simp[R]at hr
   |hole=>simp[ib,Tr.run]at h
   |lit v=>
    simp only[R]at hr
    subst hr
    simp only[ib]at h
    split at h
    ·exact⟨_,_,.sl [],aN.pure _,by simp[R,RL,aD],⟨rfl,rfl⟩,h⟩
    ·rename_i hv
     refine⟨_,_,.lit v,?_,by simp[R],⟨?_,rfl⟩,h⟩
     ·simp only[bn]
      exact aN.pure _
     ·simp only[me]
   |agg l=>
    simp only[R]at hr
    obtain⟨l',rfl,hl⟩:=hr
    simp only[ib]at h
    obtain⟨l2,rd,m2,h1,h2,h3,_,h4⟩:=Va _ _ _ hl h
    refine⟨_,_,.agg m2,?_,by simp only[R]; exact⟨_,rfl,h2⟩,⟨by simpa only[me] using h3.1,by simpa only[aM] using h3.2⟩,h4⟩
    simp only[bn]
    exact aN.mono (aN.bind h1 (aN.pure _)) (fun _ h=>by simpa using h)
   |kJ l=>
    simp only[R]at hr
    obtain⟨l',rfl,hl⟩:=hr
    simp only[ib]at h
    obtain⟨l2,rd,m2,h1,h2,h3,_,h4⟩:=Va _ _ _ hl h
    refine⟨_,_,.kJ m2,?_,by simp only[R]; exact⟨_,rfl,h2⟩,⟨by simpa only[me] using h3.1,by simpa only[aM] using h3.2⟩,h4⟩
    simp only[bn]
    exact aN.mono (aN.bind h1 (aN.pure _)) (fun _ h=>by simpa using h)
   |sl l=>
    have pw:=hr
    simp only[R]at hr
    obtain⟨l',rfl,hl⟩:=hr
    simp only[ib]at h
    exact⟨_,_,.sl l',aN.pure _,pw,⟨rfl,rfl⟩,h⟩
   |jR t l=>
    have pw:=hr
    simp only[R]at hr
    simp only[ib]at h
    rcases hr with ⟨l',rfl,hl⟩|⟨rfl,rfl⟩
    ·exact⟨_,_,.sl l',aN.pure _,pw,⟨rfl,rfl⟩,h⟩
    ·exact⟨_,_,.sl [],aN.pure _,by simp only[R]; exact .inl ⟨[],rfl,trivial⟩,⟨rfl,rfl⟩,h⟩
   |bq e j=>
    have pw:=hr
    simp only[R]at hr
    obtain⟨e',rfl,he⟩:=hr
    simp only[ib]at h
    exact⟨_,_,.bq e' j,aN.pure _,pw,⟨rfl,rfl⟩,h⟩
   |ref n c i j=>
    simp only[R]at hr
    obtain⟨ax,rfl,hv⟩:=hr
    simp only[ib]at h
    split at h
    case h_2=>simp[Tr.run]at h
    rename_i g cl f cur es ho
    obtain⟨o,dM,eF⟩:=hh.obj ho
    obtain⟨es',rfl,cZ,tH⟩:=eF
    split at h
    case h_2=>simp[Tr.run]at h
    rename_i e hc he
    have cI:=hv.arr hh ho hc
    simp only[aK.len]at cI
    have hl:=cZ.length
    obtain⟨e2,AI,HE⟩:=aE.get (bh.1 cZ) he
    cases cl with
    |true=>
     simp only at h
     refine⟨_,_,.bq e2 j,?_,by simp only[R]; exact⟨_,rfl,HE,qH (tH rfl) he⟩,⟨rfl,rfl⟩,h⟩
     simp only[bn]
     refine aN.mono (aN.bind (aN.arr dM (by omega)) ?_) (rd:=[n]++[]) (fun _ h=>by simpa using h)
     simp only[AI]
     simp only[if_true]
     exact aN.pure _
    |false=>
     simp only at h
     obtain⟨v2,rd,a2,h1,h2,h3,h⟩:=ihv _ _ _ HE h
     refine⟨_,_,.bq a2 j,?_,by simp only[R]; exact⟨_,rfl,h2,h3.2⟩,⟨rfl,rfl⟩,h⟩
     simp only[bn]
     refine aN.mono (aN.bind (aN.arr dM (by omega)) (rd':=rd) ?_) (fun _ h=>by simpa using h)
     simp only[AI,Bool.false_eq_true,if_false]
     exact aN.mono (aN.bind h1 (aN.pure _)) (fun _ h=>by simpa using h)
   |jC n c i j ln cp=>
    simp only[R]at hr
    obtain⟨ax,rfl,hv⟩:=hr
    simp only[ib]at h
    split at h
    case h_2=>simp[Tr.run]at h
    rename_i g cl f cur es ho
    obtain⟨o,dM,eF⟩:=hh.obj ho
    obtain⟨es',rfl,cZ,tH⟩:=eF
    split at h
    case h_2=>simp[Tr.run]at h
    rename_i cs hc he
    have cI:=hv.arr hh ho hc
    simp only[aK.len]at cI
    have hl:=cZ.length
    obtain⟨e2,AI,HE⟩:=aE.get (bh.1 cZ) he
    simp only[R]at HE
    obtain⟨nX,rfl,wX⟩:=HE
    have og:=wX.length
    split at h
    case h_2=>simp[Tr.run]at h
    rename_i hle
    simp only[Bool.and_eq_true,decide_eq_true_eq]at hle
    have Kk:RL T H ((cs.drop j).take ln) ((nX.drop j).take ln):=bh.2 (((bh.1 wX).drop j).take ln)
    cases cl with
    |true=>
     simp only at h
     have pq:aD cs=true:=by
      have:=qH (tH rfl) he
      simpa only[aM] using this
     refine⟨_,_,.sl ((nX.drop j).take ln),?_,by simp only[R]; exact⟨_,rfl,Kk,oO pq _ _⟩,⟨rfl,rfl⟩,h⟩
     simp only[bn]
     refine aN.mono (aN.bind (aN.arr dM (by omega)) ?_) (rd:=[n]++[]) (fun _ h=>by simpa using h)
     simp only[AI]
     rw[if_pos ⟨hle.1,by omega⟩]
     simp only[if_true]
     exact aN.pure _
    |false=>
     simp only at h
     obtain⟨l2,rd,m2,h1,h2,h3,_,h⟩:=Va _ _ _ Kk h
     refine⟨_,_,.sl m2,?_,by simp only[R]; exact⟨_,rfl,h2,h3.2⟩,⟨rfl,rfl⟩,h⟩
     simp only[bn]
     refine aN.mono (aN.bind (aN.arr dM (by omega)) (rd':=rd) ?_) (fun _ h=>by simpa using h)
     simp only[AI]
     rw[if_pos ⟨hle.1,by omega⟩]
     simp only[Bool.false_eq_true,if_false]
     exact aN.mono (aN.bind h1 (aN.pure _)) (fun _ h=>by simpa using h)
   |jT fn f c=>
    simp only[R]at hr
    obtain⟨f',c',rfl,hf,hc⟩:=hr
    simp only[ib]at h
    obtain⟨l2,rd,m2,h1,h2,h3,_,h⟩:=Va _ _ _ hf h
    obtain⟨l3,rd3,m3,g1,g2,g3,_,h⟩:=Va _ _ _ hc h
    refine⟨_,_,.jT fn m2 m3,?_,by simp only[R]; exact⟨_,_,rfl,h2,g2⟩,⟨by simp[me,h3.1,g3.1],by simp[aM,h3.2,g3.2]⟩,h⟩
    simp only[bn]
    exact aN.mono (aN.bind h1 (aN.bind g1 (aN.pure _))) (fun _ h=>by simpa using h)
   |jU t v=>
    simp only[R]at hr
    obtain⟨v',rfl,hv⟩:=hr
    simp only[ib]at h
    obtain⟨v2,rd,a2,h1,h2,h3,h⟩:=ihv _ _ _ hv h
    refine⟨_,_,.jU t a2,?_,by simp only[R]; exact⟨_,rfl,h2⟩,⟨by simpa only[me] using h3.1,by simpa only[aM] using h3.2⟩,h⟩
    simp only[bn]
    exact aN.mono (aN.bind h1 (aN.pure _)) (fun _ h=>by simpa using h)
   |bw esz n c rg cap=>
    simp only[R]at hr
    obtain⟨ax,hv,ha⟩:=hr
    simp only[ib]at h
    split at h
    ·rename_i g cl f cur es ho
     obtain⟨o,dM,eF⟩:=hh.obj ho
     obtain⟨es',rfl,cZ,tH⟩:=eF
     split at h
     case h_2=>simp[Tr.run]at h
     rename_i hc
     have cI:=hv.arr hh ho hc
     simp only[aK.len]at cI
     have hl:=cZ.length
     have key:∀ (off len:Nat) (part:List (SV T.den)) (h:(match cl with
        |true=>K (.sl part) [n]
        |false=>ic T H k part fun l rd=>K (.sl l) (n::rd)).run=some r),part=(es.drop off).take len→off+len≤es.length →
       ∃ v' rd a',aN hp (bn (k+1) (.bw esz n ax off len cap)) a' rd∧R T H v' a'∧(me a'=true∧aM v'=true)∧(K v' rd).run=some r:=by
      intro off len part h S2 hle
      have Kk:RL T H part ((es'.drop off).take len):=by subst S2; exact bh.2 (((bh.1 cZ).drop off).take len)
      cases cl with
      |true=>
       simp only at h
       refine⟨_,_,.sl ((es'.drop off).take len),?_,by simp only[R]; exact⟨_,rfl,Kk,by subst S2; exact oO (tH rfl) _ _⟩,⟨rfl,rfl⟩,h⟩
       simp only[bn]
       refine aN.mono (aN.bind (aN.arr dM (by omega)) ?_) (rd:=[n]++[]) (fun _ h=>by simpa using h)
       simp only
       rw[if_pos (by omega)]
       simp only[if_true]
       exact aN.pure _
      |false=>
       simp only at h
       obtain⟨l2,rd,m2,h1,h2,h3,_,h⟩:=Va _ _ _ Kk h
       refine⟨_,_,.sl m2,?_,by simp only[R]; exact⟨_,rfl,h2,h3.2⟩,⟨rfl,rfl⟩,h⟩
       simp only[bn]
       refine aN.mono (aN.bind (aN.arr dM (by omega)) (rd':=rd) ?_) (fun _ h=>by simpa using h)
       simp only
       rw[if_pos (by omega)]
       simp only[Bool.false_eq_true,if_false]
       exact aN.mono (aN.bind h1 (aN.pure _)) (fun _ h=>by simpa using h)
     split at h
     ·simp only at ha
      subst ha
      exact key 0 ax es h (by simp only[List.drop_zero]; rw[List.take_of_length_le (by omega)]) (by omega)
     ·grind[Tr.run]
    ·rename_i g f cur t l ho
     obtain⟨o,dM,eF⟩:=hh.obj ho
     obtain⟨es',rfl,cZ⟩:=eF
     split at h
     case h_2=>simp[Tr.run]at h
     rename_i hc
     have cI:=hv.arr hh ho hc
     simp only[aK.len]at cI
     have hl:=cZ.length
     have key:∀ off len,off+len≤l.length→aN hp (bn (k+1) (.bw esz n ax off len cap)) (.sl ((es'.drop off).take len)) [n]:=by
      intro off len hle
      simp only[bn]
      refine aN.mono (aN.bind (aN.arr dM (by omega)) (rd':=[]) ?_) (fun _ h=>by simpa using h)
      simp only
      rw[if_pos (by omega)]
      simp only[if_true]
      exact aN.pure _
     split at h
     ·simp only at ha
      subst ha
      refine⟨_,_,_,key 0 ax (by omega),?_,⟨rfl,rfl⟩,h⟩
      simp only[R,List.drop_zero]
      rw[List.take_of_length_le (by omega)]
      exact .inl ⟨_,rfl,cZ⟩
     ·rename_i off len
      simp only at ha
      subst ha
      obtain⟨hle,h⟩:=bp h
      simp only[decide_eq_true_eq]at hle
      refine⟨_,_,_,key off len hle,?_,⟨rfl,rfl⟩,h⟩
      simp only[R]
      exact .inl ⟨_,rfl,(cZ.drop off).take len⟩
    ·simp[Tr.run]at h
   |mp y n=>simp[ib,Tr.run]at h
   |zD t l c b=>
    simp only[R]at hr
    simp only[ib]at h
    rcases hr with ⟨_,l',rfl,hl⟩|⟨_,rfl,rfl|rfl⟩
    ·exact⟨_,_,.sl l',by simp only[bn]; exact aN.pure _,by simp only[R]; exact .inl ⟨_,rfl,hl⟩,⟨rfl,rfl⟩,h⟩
    ·exact⟨_,_,.sl [],by simp only[bn]; exact aN.pure _,by simp only[R]; exact .inl ⟨_,rfl,trivial⟩,⟨rfl,rfl⟩,h⟩
    ·exact⟨_,_,.sl [],by simp only[bn]; exact aN.pure _,by simp only[R]; exact .inl ⟨_,rfl,trivial⟩,⟨rfl,rfl⟩,h⟩
   |nz=>
    simp only[R]at hr
    simp only[ib]at h
    subst hr
    exact⟨_,_,.sl [],by simp only[bn]; exact aN.pure _,by simp only[R]; exact⟨[],rfl,trivial,rfl⟩,⟨rfl,rfl⟩,h⟩
   |vg v s len i=>simp[ib,Tr.run]at h
  ·cases l with
   |nil=>
    cases m with
    |nil=>
     simp only[ic]at h
     exact⟨[],[],[],aN.pure _,by simp[RL],⟨rfl,rfl⟩,rfl,h⟩
    |cons=>simp[RL]at hr
   |cons x xs=>
    cases m with
    |nil=>simp[RL]at hr
    |cons y ys=>
     simp only[RL]at hr
     simp only[ic]at h
     obtain⟨v2,rd,a2,h1,h2,h3,h⟩:=ihv _ _ _ hr.1 h
     obtain⟨l2,rd2,m2,g1,g2,g3,g4,h⟩:=Va _ _ _ hr.2 h
     refine⟨_,_,a2::m2,?_,by simp only[RL]; exact⟨h2,g2⟩,⟨by simp[qG,h3.1,g3.1],by simp[aD,h3.2,g3.2]⟩,by simp[g4],h⟩
     simp only[bg]
     exact aN.mono (aN.bind h1 (aN.bind g1 (aN.pure _))) (fun _ h=>by simpa using h)
theorem OD[ah](hh:RH T H hp){k:Nat}{v:SV T.den}{a:AV}{K:SV T.den→List Nat→Tr ρ}(hr:R T H v a)(h:(ib T H k v K).run=some r):
  ∃ v' rd a',aN hp (bn k a) a' rd∧R T H v' a'∧(me a'=true∧aM v'=true)∧(K v' rd).run=some r:=(qI hh k).1 v a K hr h
theorem xQ[ah](hh:RH T H hp){k:Nat}{l:List (SV T.den)}{m:List AV}{K:List (SV T.den)→List Nat→Tr ρ}(hr:RL T H l m)(h:(ic T H k l K).run=some r):
  ∃ l' rd m',aN hp (bg k m) m' rd∧RL T H l' m'∧(qG m'=true∧aD l'=true)∧l'.length=l.length∧(K l' rd).run=some r:=(qI hh k).2 l m K hr h
def FW(T:ej)(H:aq T.den):List (Nat×aK T.den)→List (Nat×ba)→Prop:=
 aE fun p q=>p.1=q.1∧RO T H p.2 q.2∧∃ o,H[p.1]?=some (some o)∧p.2.cur=o.cur∧p.2.len=o.len∧o.isRec=false∧p.2.isRec=false
theorem qJ[ah](hh:RH T H hp):∀ {k:Nat} {ns:List Nat} {K:List (Nat×aK T.den)→List Nat→Tr ρ},(oM T H k ns K).run=some r →
  ∃ wr rd w,aN hp (eW k ns) w rd∧FW T H wr w∧(K wr rd).run=some r
 |0,ns,K,h=>by simp[oM,Tr.run]at h
 |k+1,[],K,h=>by
  simp only[oM]at h
  exact⟨[],[],[],aN.pure _,trivial,h⟩
 |k+1,n::ns,K,h=>by
  simp only[oM]at h
  split at h
  ·rename_i g cl f cur es ho
   obtain⟨o,dM,eF⟩:=hh.obj ho
   obtain⟨es',rfl,cZ,tH⟩:=eF
   split at h
   ·obtain⟨wr,rd,w,h1,h2,h⟩:=qJ hh h
    refine⟨(n,.arr g true true cur es)::wr,n::rd,(n,.arr g true true es')::w,?_,⟨⟨rfl,⟨_,rfl,cZ,tH⟩,_,ho,rfl,rfl,rfl,rfl⟩,h2⟩,h⟩
    simp only[eW]
    refine aN.get dM ?_
    simp only[if_true]
    exact aN.mono (aN.bind h1 (aN.pure _)) (fun _ h=>by simpa using h)
   ·obtain⟨WC,rd,m2,g1,g2,g3,g4,h⟩:=xQ hh cZ h
    obtain⟨wr,rd2,w,h1,h2,h⟩:=qJ hh h
    rw[RL.names cZ]at h1
    refine⟨(n,.arr g true true cur WC)::wr,n::rd++rd2,(n,.arr g true true m2)::w,?_,⟨⟨rfl,⟨_,rfl,g2,fun _=>g3.2⟩,_,ho,rfl,by simp[aK.len,g4],rfl,rfl⟩,h2⟩,h⟩
    simp only[eW]
    refine aN.get dM ?_
    simp only[Bool.false_eq_true,if_false]
    exact aN.mono (aN.bind g1 (aN.bind h1 (aN.pure _))) (fun _ h=>by simpa using h)
  ·rename_i g f cur t l ho
   obtain⟨o,dM,eF⟩:=hh.obj ho
   obtain⟨es',rfl,cZ⟩:=eF
   obtain⟨wr,rd,w,h1,h2,h⟩:=qJ hh h
   refine⟨(n,.cE g true cur t l)::wr,n::rd,(n,.arr g true true es')::w,?_,⟨⟨rfl,⟨_,rfl,cZ⟩,_,ho,rfl,rfl,rfl,rfl⟩,h2⟩,h⟩
   simp only[eW]
   refine aN.get dM ?_
   simp only[if_true]
   exact aN.mono (aN.bind h1 (aN.pure _)) (fun _ h=>by simpa using h)
  ·simp[Tr.run]at h
theorem FW.names:∀ {wr:List (Nat×aK T.den)} {w:List (Nat×ba)},FW T H wr w→wr.map (·.1)=w.map (·.1)
 |[],[],_=>rfl
 |_::_,_::_,h=>by simp only[List.map_cons]; rw[h.1.1,FW.names h.2]
 |[],_::_,h=>h.elim
 |_::_,[],h=>h.elim
theorem FW.apply[ah]:∀ {wr:List (Nat×aK T.den)} {w:List (Nat×ba)} {H:aq T.den} {hp:ak},RH T H hp→FW T H wr w →
  ep H (bu H wr)∧RH T (bu H wr) (av hp w)∧(∀ n:Nat,n∉wr.map (·.1)→(bu H wr)[n]?=H[n]?)∧(bu H wr).length=H.length
 |[],[],H,hp,hh,_=>⟨ep.refl _,hh,fun _ _=>rfl,rfl⟩
 |(n,o')::wr,(n',a')::w,H,hp,hh,h=>by
  obtain⟨⟨e1,h2,o,h3,h4,h5,yb,Ns⟩,h6⟩:=h
  simp only at e1 h2 h3 h4 h5 yb Ns
  subst e1
  obtain⟨hg,RT⟩:=hh.WK h3 (o':=o') (by omega) (fun _=>h5) h2
  have cr:=(List.getElem?_eq_some_iff.1 h3).1
  have e1:cd H n o'=H.set n (some o'):=by simp[cd]; omega
  have e2:setObj hp n a'=hp.set n (some a'):=by simp[setObj]; have:=hh.length; omega
  have h7:FW T (H.set n (some o')) wr w:=by
   refine aE.mono (fun p q Qn=>?_) h6
   obtain⟨q1,q2,o2,q3,q4,q5,q6,q7⟩:=Qn
   refine⟨q1,RO.mono hg q2,?_⟩
   by_cases e:p.1=n
   ·simp_all
   ·grind
  obtain⟨i1,i2,i3,i4⟩:=FW.apply RT h7
  simp only[bu,av]
  rw[e1,e2]
  refine⟨hg.trans i1,i2,fun m hm=>?_,by rw[i4]; simp⟩
  simp only[List.map_cons,List.mem_cons,not_or]at hm
  rw[i3 m hm.2,List.getElem?_set_ne (Ne.symm hm.1)]
 |[],_::_,_,_,_,h=>h.elim
 |_::_,[],_,_,_,h=>h.elim
theorem FW.Ou:∀ {wr:List (Nat×aK T.den)} {w:List (Nat×ba)},FW T H wr w→∀ n,recAt H n=true→n∉wr.map (·.1)
 |[],[],_,n,_=>by simp
 |(m,o')::wr,_::w,h,n,hn=>by
  obtain⟨⟨_,_,o,h3,_,_,yb,_⟩,h6⟩:=h
  simp only at h3
  simp only[List.map_cons,List.mem_cons,not_or]
  refine⟨?_,FW.Ou h6 n hn⟩
  rintro rfl
  simp only[recAt,h3,yb,Bool.false_eq_true]at hn
 |[],_::_,h,_,_=>h.elim
 |_::_,[],h,_,_=>h.elim
theorem FW.re[ah]{wr:List (Nat×aK T.den)}{w:List (Nat×ba)}(hh:RH T H hp)(h:FW T H wr w){v:SV T.den}{a:AV}(hv:∀ H,R T H v a):RE T H hp v wr ⟨a,w⟩:=by
 obtain⟨h1,h2,h3,h4⟩:=FW.apply hh h
 exact⟨.inr (hv _),h2,h1,fun q hq=>by rw[h.names]; exact List.mem_map_of_mem hq,fun n hn _=>h3 n hn,by rw[h4]; exact Nat.le_refl _,h.Ou⟩
end
def S3(T:ej)(v:TV T.den)(a:AV):Prop:=
 match v with
 |⟨.v t,x⟩=>T.rp t x a
 |⟨.l t,l⟩=>∃ l',a=.sl l'∧aE (T.rp t) l l'
 |⟨.m _ _,_⟩=>False
theorem Yo(hT:T.Ok){v:TV T.den}{a:AV}(h:S3 T v a)(H:aq T.den):R T H (XX T v) a:=by
 obtain⟨t,x⟩:=v
 cases t with
 |v t=>exact hT.up _ _ _ H h
 |l t=>
  obtain⟨l',rfl,hl⟩:=h
  simp only[XX,R]
  exact .inl ⟨l',rfl,hl⟩
 |m kk t=>exact h.elim
theorem OE[ah](hT:T.Ok)(H:aq T.den):∀ {l:List (TV T.den)} {m:List AV},aE (S3 T) l m→RL T H (UN T l) m
 |[],[],_=>by simp[UN,RL]
 |v::vs,a::as,h=>by
  simp only[UN,List.map_cons,RL]
  exact⟨Yo hT h.1 H,OE hT H h.2⟩
 |[],_::_,h=>h.elim
 |_::_,[],h=>h.elim
theorem Kl{H:aq T.den}{l:List (SV T.den)}{m:List AV}(h:RL T H l m):R T H (tF l) (cY m):=by
 match l,m,h with
 |[],[],h=>simp_all[tF,cY,R]
 |[x],[y],h=>simp only[RL]at h; exact h.1
 |x::x'::xs,y::y'::ys,h=>simp_all[tF,cY,R]
 |[],_::_,h=>simp[RL]at h
 |_::_,[],h=>simp[RL]at h
 |[x],_::_::_,h=>simp[RL]at h
 |_::_::_,[y],h=>simp[RL]at h
theorem IX(hT:T.Ok){H:aq T.den}{ts:List Nat}:∀ {l:List (SV T.den)} {m:List AV} {xs:List (TV T.den)},RL T H l m→Lk T ts l=some xs→aE (S3 T) xs m:=by
 induction ts with
 |nil=>
  intro l m xs hr h
  cases l with
  |cons=>simp[Lk]at h
  |nil=>
   cases m with
   |cons=>simp[RL]at hr
   |nil=>
    simp[Lk]at h
    subst h
    trivial
 |cons t ts ih=>
  intro l m xs hr h
  cases l with
  |nil=>simp[Lk]at h
  |cons v vs=>
   cases m with
   |nil=>simp[RL]at hr
   |cons a as=>
    simp only[RL]at hr
    simp only[Lk,Option.bind_eq_some_iff,Option.map_eq_some_iff]at h
    obtain⟨x,h1,ys,h2,rfl⟩:=h
    exact⟨hT.dn _ _ _ _ H h1 hr.1,ih hr.2 h2⟩
theorem Km{den:Nat→Type}{v:TV den}{t:VT}{x:t.den den}(h:v.as t=some x):v=⟨t,x⟩:=by
 obtain⟨t',y⟩:=v
 unfold TV.as at h
 split at h
 ·grind
 ·simp at h
theorem qK[ah]{den:Nat→Type}:∀ (ts:List VT) (l:List (TV den)) (x:HL den ts),xA ts l=some x→hU ts x=l
 |[],l,x,h=>by
  cases l with
  |nil=>rfl
  |cons=>cases h
 |[t],l,x,h=>by
  match l,h with
  |[v],h=>
   have h':v.as t=some x:=h
   rw[Km h']; rfl
  |[],h=>cases h
  |_::_::_,h=>cases h
 |t::u::us,l,x,h=>by
  match l,h with
  |[],h=>cases h
  |v::l',h=>
   change VT.den den t×HL den (u::us) at x
   have h':((v.as t).bind fun x=>(xA (u::us) l').map fun y=>(x,y))=some x:=h
   obtain⟨a,h1,h2⟩:=Option.bind_eq_some_iff.1 h'
   obtain⟨b,h3,h4⟩:=Option.map_eq_some_iff.1 h2
   subst h4
   have:=qK _ _ _ h3
   rw[Km h1,←this]
   rfl
noncomputable def OF[ah](C:Ctx)(g:FuncId)(as:List AV):Option (AV×ak):=
 match C.kZ g with
 |some h=>(h as).map fun r=>(r,[])
 |none=>match jt C g as [] with
  |some (.val v,eX)=>some (v,eX)
  |_=>none
noncomputable def Vb[ah](C:Ctx)(g:FuncId)(as:List AV):Option (AV×ak):=
 match C.gP g with
 |some h=>h as
 |none=>match jt C g as [] with
  |some (.val v,eX)=>some (v,eX)
  |_=>none
structure Dj[ah](C:Ctx)(T:ej)(g:FuncId)(σ:yB T):Prop where
 Vc:∀ (x:HL T.den (σ.args.map .v)) (as:List AV) (l:List (T.den σ.el)),aE (S3 T) (hU _ x) as→σ.fn x=some l →
  ∃ n cl es eX,Vb C g as=some (.bw σ.esz n es.length 0 es.length none,eX)∧eX[n]?=some (some (.arr true cl false es))∧es.all flat=true∧aE (T.rp σ.el) l es
structure wC[ah](C:Ctx)(T:ej)(g:FuncId)(σ:zc T):Prop where
 kind:C.kind g=.pure
 Vc:∀ (x:HL T.den (σ.args.map .v)) (as:List AV) (y:HL T.den (σ.res.map .v)),aE (S3 T) (hU _ x) as→σ.fn x=some y →
  ∃ v eX l,OF C g as=some (v,eX)∧(bn 1000 v).run eX=some (cY l)∧me (cY l)=true∧aE (S3 T) (hU _ y) l
section
variable {H:aq T.den}{hp:ak}{r:ρ}
theorem Kn[ah](hT:T.Ok){C:Ctx}{g:FuncId}{σ:yB T}(hσ:Dj C T g σ)(hh:RH T H hp){nm:Nat}(hn:nm=H.length∨H[nm]?=some none){args:List (SV T.den)}{as:List AV}(ha:RL T H args as){K:EK T ρ}
  (h:(Ry T σ nm H args K).run=some r) :
  ∃ v wr rd e lg,HW C nm g as hp=some (e,lg)∧(∀ n,n∈lg→n∈rd)∧RE T H hp v wr e∧(K v wr rd).run=some r:=by
 unfold Ry at h
 obtain⟨qp,rd,Z2,h1,h2,_,_,h⟩:=xQ hh ha h
 split at h
 case h_2=>simp[Tr.run]at h
 rename_i x hx
 rw[Option.bind_eq_some_iff]at hx
 obtain⟨l,hl,hx⟩:=hx
 obtain⟨y,hy,h⟩:=bind_some h
 have HF:=IX hT h2 hl
 rw[←qK _ _ _ hx]at HF
 obtain⟨n,cl,es,eX,rm,ya,S4,dR⟩:=hσ.Vc x Z2 y HF hy
 have hlen:y.length=es.length:=aE.length dR
 have MQ:(eh nm (.bw σ.esz n es.length 0 es.length none) eX).run hp=some ⟨.bw σ.esz nm es.length 0 es.length none,[(nm,.arr true true false es)]⟩:=by
  simp only[eh,ya,S4,decide_true,Bool.and_self]
  rfl
 have hA:HW C nm g as hp=some (⟨.bw σ.esz nm es.length 0 es.length none,[(nm,.arr true true false es)]⟩,(bg 1000 as).log hp):=by
  unfold HW
  rw[h1.1]
  simp only[Option.bind_some]
  unfold Vb at rm
  cases hi:C.gP g with
  |some f=>
   simp_all
  |none=>
   rw[hi]at rm
   simp only at rm
   split at rm
   case h_2=>simp at rm
   rename_i v0 Yp bz
   simp only[Option.some.injEq,Prod.mk.injEq]at rm
   obtain⟨rfl,rfl⟩:=rm
   simp only[bz,Option.bind_some,rP,MQ,Option.map_some]
 have hg:ky T H hp (RM.ret (⟨.bw σ.esz nm es.length 0 es.length none,[(nm,.arr true true false es)]⟩:eg)) (fun v wr _=>K v wr rd) r:=by
  have hv:=fU hh hn (o:=.cE true false 0 σ.el y)
  simp only[aK.cur,aK.len,hlen]at hv
  refine fT hh hn (o:=.cE true false 0 σ.el y) ⟨es,rfl,dR⟩ ?_ (aN.ret _) h
  right
  simp only[R]
  exact⟨es.length,hv,rfl⟩
 obtain⟨v,wr,rd',e,g1,g2,g3⟩:=hg
 have he:e=⟨.bw σ.esz nm es.length 0 es.length none,[(nm,.arr true true false es)]⟩:=by
  have:=g1.1
  simp only[RM.run,Option.some.injEq]at this
  exact this.symm
 subst he
 exact⟨v,wr,rd,_,_,hA,h1.2,g2,g3⟩
theorem Ko[ah](hT:T.Ok){C:Ctx}{g:FuncId}{σ:zc T}(hσ:wC C T g σ)(hh:RH T H hp){args:List (SV T.den)}{as:List AV}(ha:RL T H args as){K:EK T ρ}(h:(Rx T σ H args K).run=some r):
  ∃ v wr rd a w lg,ME C g as hp=some (.val a,w)∧(∀ nm,Ak C nm false hp (g,as)=some (⟨a,w⟩,lg))∧(∀ n,n∈lg→n∈rd)∧RE T H hp v wr ⟨a,w⟩∧(K v wr rd).run=some r:=by
 unfold Rx at h
 obtain⟨qp,rd,Z2,h1,h2,_,_,h⟩:=xQ hh ha h
 split at h
 case h_2=>simp[Tr.run]at h
 rename_i x hx
 rw[Option.bind_eq_some_iff]at hx
 obtain⟨l,hl,hx⟩:=hx
 obtain⟨y,hy,h⟩:=bind_some h
 have HF:=IX hT h2 hl
 rw[←qK _ _ _ hx]at HF
 obtain⟨v,eX,m,rm,pV,hnn,dR⟩:=hσ.Vc x Z2 y HF hy
 have hR:∀ H,R T H (tF (UN T (hU _ y))) (cY m):=fun H=>Kl (OE hT H dR)
 have S4:yA (tF (UN T (hU _ y)))=flat (cY m):=R.flat (hR H) hnn
 have S5:∀ w,pM hp as (.val v,eX)=some (.val (cY m),w)→ME C g as hp=some (.val (cY m),w)∧(∀ nm,Ak C nm false hp (g,as)=some (⟨cY m,w⟩,MN hp as (.val v,eX))):=by
  intro w hw
  unfold OF at rm
  cases hi:C.kZ g with
  |some f=>
   rw[hi]at rm
   simp only[Option.map_eq_some_iff,Prod.mk.injEq]at rm
   obtain⟨r0,Fh,rfl,rfl⟩:=rm
   constructor
   ·rw[KO g hi,h1.1]
    simp only[Option.bind_some,Fh,hw]
   ·intro nm; simp only[Ak,hσ.kind,hi,h1.1,Option.bind_some,Fh,pO,hw]
  |none=>
   rw[hi]at rm
   simp only at rm
   split at rm
   case h_2=>simp at rm
   rename_i v0 Yp bz
   simp only[Option.some.injEq,Prod.mk.injEq]at rm
   obtain⟨rfl,rfl⟩:=rm
   constructor
   ·rw[QG g hi,h1.1]
    simp only[Option.bind_some,bz,hw]
   ·intro nm; simp only[Ak,hσ.kind,hi,h1.1,Option.bind_some,bz,pO,hw]
 simp only at h
 split at h
 ·rename_i hf
  rw[S4]at hf
  have BT:pM hp as (.val v,eX)=some (.val (cY m),[]):=by
   rw[CG,pV]
   simp only[Option.bind_some,QR,hf,cond_true]
  obtain⟨q1,q2⟩:=S5 _ BT
  refine⟨_,[],_,_,_,_,q1,q2,fun n hn=>?_,⟨.inr (hR _),hh,ep.refl _,fun q hq=>by simp at hq,fun _ _ _=>rfl,Nat.le_refl _,fun _ _ h=>by simp at h⟩,h⟩
  simp only[MN,List.mem_append,iq,pV,hf,if_true]at hn
  rcases hn with hn|hn
  ·exact h1.2 n hn
  ·simp[Pure.pure,RM.log]at hn
 ·rename_i hf
  rw[S4]at hf
  obtain⟨wr,rd2,w,f1,f2,h⟩:=qJ hh h
  rw[RL.names ha]at f1
  have BT:pM hp as (.val v,eX)=some (.val (cY m),w):=by
   rw[CG,pV]
   simp only[Option.bind_some,QR,hf,cond_false,f1.1,Option.map_some]
  obtain⟨q1,q2⟩:=S5 _ BT
  refine⟨_,_,_,_,_,_,q1,q2,fun n hn=>?_,FW.re hh f2 hR,h⟩
  simp only[MN,List.mem_append,iq,pV,hf,Bool.false_eq_true,if_false]at hn
  simp only[List.mem_append]
  rcases hn with hn|hn
  ·exact .inl (h1.2 n hn)
  ·rw[RM.fN,f1.1]at hn
   simp only[List.mem_append]at hn
   rcases hn with hn|hn
   ·exact .inr (f1.2 n hn)
   ·simp[Pure.pure,RM.log]at hn
end
end Go.PI
end
section
/- PS, part L: states, regions. -/
namespace Go.PI
variable {T:ej}{ρ:Type}
theorem GO{v:Value}{K:Value→Tr ρ}:Ba v K=K v:=by
 unfold Ba
 split<;>rfl
mutual
theorem nb:∀ {v:SV T.den} {K:SV T.den→Tr ρ},ek v K=K v
 |.lit v,K=>by simp only[ek]; exact GO
 |.agg l,K=>by simp only[ek]; exact jP
 |.kJ l,K=>by simp only[ek]; exact jP
 |.sl l,K=>by simp only[ek]; exact jP
 |.bq e j,K=>by simp only[ek]; exact nb
 |.jT fn f c,K=>by simp only[ek]; rw[jP,jP]
 |.jU t v,K=>by simp only[ek]; exact nb
 |.dead,K=>by simp only[ek]
 |.hole,K=>by simp only[ek]
 |.jR t l,K=>by simp only[ek]
 |.ref n c i j,K=>by simp only[ek]
 |.jC n c i j ln cp,K=>by simp only[ek]
 |.bw esz n c rg cap,K=>by simp only[ek]
 |.mp y n,K=>by simp only[ek]
 |.zD t l c b,K=>by simp only[ek]
 |.nz,K=>by simp only[ek]
 |.vg v s l i,K=>by simp only[ek]; exact nb
theorem jP:∀ {l:List (SV T.den)} {K:List (SV T.den)→Tr ρ},nM l K=K l
 |[],K=>by simp only[nM]
 |x::xs,K=>by simp only[nM]; rw[nb,jP]
end
theorem Lw[ah]{o:aK T.den}{K:aK T.den→Tr ρ}:Oe o K=K o:=by
 cases o with
 |arr g cl f c es=>exact jP
 |rh fn ps as bd fr=>exact jP
 |_=>rfl
theorem nc[ah]:∀ {H:aq T.den} {K:aq T.den→Tr ρ},qE H K=K H
 |[],K=>rfl
 |none::r,K=>by simp only[qE]; exact nc
 |some o::r,K=>by simp only[qE]; rw[Lw,nc]
theorem qe:∀ {l:List Nat} {K:List Nat→Tr ρ},uH l K=K l
 |[],K=>rfl
 |x::r,K=>by simp only[uH]; exact qe
theorem Dk[ah]:∀ {l:vh T.den} {K:vh T.den→Tr ρ},Ew l K=K l
 |[],K=>rfl
 |(d,v)::r,K=>by simp only[Ew]; rw[nb,Dk]
theorem force_eq[ah]{s:bQ T.den}{K:bQ T.den→Tr ρ}:s.force K=K s:=by
 obtain⟨fn,n,fr,hp,wf,wh,js⟩:=s
 simp only[bQ.force]
 rw[Dk,nc,qe,qe]
theorem dx[ah]{s:bQ T.den}{dst:Option Tmp}{v:SV T.den}{wr:List (Nat×aK T.den)}{K:bQ T.den→Tr ρ}:s.ia dst v wr K=K (s.step dst v wr):=by
 obtain⟨fn,n,fr,hp,wf,wh,js⟩:=s
 have h1:∀ {K':aq T.den→List Nat→Tr ρ},IK hp wh wr K'=K' (bu hp wr) (wr.map (·.1)++wh):=by
  intro K'
  cases wr with
  |nil=>rfl
  |cons w r=>simp only[IK]; rw[nc,qe]
 simp only[bQ.ia,h1]
 cases dst with
 |none=>rfl
 |some d=>
  simp only
  split
  ·rename_i hd
   simp only[bQ.step,N8,wj,hd,Rw]
  ·rename_i hd
   rw[nb]
   simp only[bQ.step,N8,wj,hd,Rw]
theorem tv{ops:Array Oper}:∀ {l:List Oper} {K:List (G×Oper)→Tr ρ},qF ops l K=K (l.map fun o=>(fL ops o,o))
 |[],K=>rfl
 |o::r,K=>by
  simp only[qF,List.map_cons]
  split<;>rename_i h<;>rw[tv,h]
theorem Dl:∀ {l:List (G×Item)} {K:List (G×Item)→Tr ρ},Bc l K=K l
 |[],K=>rfl
 |(g,⟨i,nm,o⟩)::r,K=>by simp only[Bc]; exact Dl
theorem tX[ah]{ops:Array Oper}:∀ (l:List Oper) (m i n:Nat),nO (bW i n (l.take m)) (l.map fun o=>(fL ops o,o))=(bW i n (l.take m)).map fun x=>(fL ops x.o,x)
 |[],m,i,n=>by simp[bW,nO]
 |o::r,0,i,n=>by simp[bW,nO]
 |o::r,m+1,i,n=>by
  simp only[List.take_succ_cons,bW,List.map_cons,nO]
  rw[tX]
def mz{den:Nat→Type}(js:List (Nat×nf))(H:aq den)(hp:ak):Prop:=∀ n st,cQ js n=some st→recAt H n=true∧jZ hp n=some st
theorem kz{den:Nat→Type}{H:aq den}{n:Nat}(h:recAt H n=true):n<H.length:=by
 grind[recAt]
theorem sG{den:Nat→Type}{H H':aq den}{n:Nat}(h:H'[n]?=H[n]?):recAt H' n=recAt H n:=by unfold recAt; rw[h]
theorem qf{hp cU:ak}{n:Nat}(h:cU[n]?=hp[n]?):jZ cU n=jZ hp n:=by unfold jZ; rw[h]
theorem mz.EE{den:Nat→Type}{js:List (Nat×nf)}{H H':aq den}{hp cU:ak}(h:mz js H hp)(hk:∀ n,recAt H n=true→H'[n]?=H[n]?∧cU[n]?=hp[n]?):mz js H' cU:=by
 intro n st hn
 obtain⟨h1,h2⟩:=h n st hn
 obtain⟨h3,h4⟩:=hk n h1
 exact⟨by rw[sG h3]; exact h1,by rw[qf h4]; exact h2⟩
theorem wF{n:Nat}:∀ {wr:List (Nat×ba)} {hp:ak},n<hp.length→n∉wr.map (·.1)→(av hp wr)[n]?=hp[n]?
 |[],hp,_,_=>rfl
 |(m,o)::wr,hp,hn,hm=>by
  simp only[List.map_cons,List.mem_cons,not_or]at hm
  simp only[av]
  have:n<(setObj hp m o).length∧(setObj hp m o)[n]?=hp[n]?:=by
   grind[setObj]
  rw[wF this.1 hm.2,this.2]
theorem mz.re[ah]{js:List (Nat×nf)}{H:aq T.den}{hp:ak}(h:mz js H hp)(hh:RH T H hp){v:SV T.den}{wr:List (Nat×aK T.den)}{e:eg}(he:RE T H hp v wr e):mz js (bu H wr) (av hp e.wr):=by
 refine h.EE fun n hn=>⟨he.EE n (he.Ou n hn) (kz hn),wF (by rw[←hh.length]; exact kz hn) fun hc=>?_⟩
 obtain⟨q,hq,rfl⟩:=List.mem_map.1 hc
 exact he.Ou _ hn (he.names q hq)
structure RS(T:ej)(s:bQ T.den)(st:St):Prop where
 fn:s.fn=st.fn
 n:st.fr.length=s.n
 fr:∀ t,RV T s.hp (dj s.fr t) (st.fr.getD t .undef)
 hp:RH T s.hp st.hp
 js:mz s.js s.hp st.hp
structure bx(s s':bQ T.den):Prop where
 fn:s'.fn=s.fn
 n:s'.n=s.n
 fr:∀ t,t∉s'.wf→dj s'.fr t=dj s.fr t
 wf:∀ t,t∈s.wf→t∈s'.wf
 hp:∀ n:Nat,n<s.hp.length→n∉s'.wh→s'.hp[n]?=s.hp[n]?
 wh:∀ n,n∈s.wh→n∈s'.wh
 len:s.hp.length≤s'.hp.length
 grow:ep s.hp s'.hp
theorem bx.refl[ah](s:bQ T.den):bx s s:=⟨rfl,rfl,fun _ _=>rfl,fun _ h=>h,fun _ _ _=>rfl,fun _ h=>h,Nat.le_refl _,ep.refl _⟩
theorem bx.trans[ah]{s s' u9:bQ T.den}(h:bx s s')(h':bx s' u9):bx s u9 where
 fn:=h'.fn.trans h.fn
 n:=h'.n.trans h.n
 fr:=fun t ht=>by rw[h'.fr t ht,h.fr t (fun hc=>ht (h'.wf t hc))]
 wf:=fun t ht=>h'.wf t (h.wf t ht)
 hp:=fun n hn ht=>by rw[h'.hp n (Nat.lt_of_lt_of_le hn h.len) ht,h.hp n hn (fun hc=>ht (h'.wh n hc))]
 wh:=fun t ht=>h'.wh t (h.wh t ht)
 len:=Nat.le_trans h.len h'.len
 grow:=h.grow.trans h'.grow
theorem mf{n d t:Nat}{fr:vh T.den}{v:SV T.den}:dj (wj n fr d v) t=if t=d∧d<n then v else dj fr t:=by
 unfold wj
 split
 ·rename_i h
  have:=Nat.le_of_ble_eq_true h
  rw[if_neg (by omega)]
 ·rename_i h
  have:¬n≤d:=fun hc=>by rw[Nat.ble_eq_true_of_le hc]at h; simp at h
  simp only[dj]
  split
  ·rename_i he
   have:=Nat.eq_of_beq_eq_true he
   rw[if_pos (by omega)]
  ·rename_i he
   have:¬d=t:=fun hc=>by subst hc; simp at he
   rw[if_neg (by omega)]
theorem GP{l:List AV}{d t:Nat}{a u:AV}:(l.set d a).getD t u=if t=d∧d<l.length then a else l.getD t u:=by
 grind
theorem RS.step[ah]{s:bQ T.den}{st:St}(h:RS T s st){v:SV T.den}{wr:List (Nat×aK T.den)}{e:eg}(he:RE T s.hp st.hp v wr e)(dst:Option Tmp):
  RS T (s.step dst v wr) { st with fr:=bZ st.fr dst e.val,hp:=av st.hp e.wr }∧bx s (s.step dst v wr):=by
 refine⟨⟨h.fn,?_,fun t=>?_,he.hp,h.js.re h.hp he⟩,⟨rfl,rfl,fun t ht=>?_,fun t ht=>?_,fun n hn ht=>?_,fun n hn=>?_,he.len,he.grow⟩⟩
 ·simp only[bQ.step,bZ]; cases dst<;>simp[h.n]
 ·simp only[bQ.step]
  cases dst with
  |none=>exact(h.fr t).mono he.grow
  |some d=>
   simp only[N8,bZ]
   rw[mf,GP,h.n]
   split
   ·exact he.val
   ·exact(h.fr t).mono he.grow
 ·simp only[bQ.step]at ht ⊢
  cases dst with
  |none=>rfl
  |some d=>
   simp only[Rw,List.mem_cons,not_or]at ht
   simp only[N8,mf]
   rw[if_neg (by omega)]
 ·simp only[bQ.step]
  cases dst with
  |none=>exact ht
  |some d=>exact List.mem_cons_of_mem _ ht
 ·simp only[bQ.step,List.mem_append,not_or]at ht ⊢
  exact he.EE n ht.1 hn
 ·simp only[bQ.step,List.mem_append]
  exact .inr hn
theorem GQ[ah]{H:aq T.den}{hp:ak}(hh:RH T H hp):RE T H hp (.lit undef) [] ⟨.undef,[]⟩:=
 ⟨bC undef,hh,ep.refl _,fun q h=>by simp at h,fun _ _ _=>rfl,Nat.le_refl _,fun _ _ h=>by simp at h⟩
theorem tY:∀ (c:List Value),aD (den:=T.den) (c.map .lit)=true
 |[]=>by simp[aD]
 |x::r=>by simp only[List.map_cons,aD,aM,tY r,Bool.and_self]
theorem RS.ev[ah]{s:bQ T.den}{st:St}(h:RS T s st)(o:Operand):RV T s.hp (ga s.fr o) (aP st.fr o):=by
 cases o with
 |tmp t=>exact h.fr t
 |const v=>
  simp only[ga,aP,N7,oV]
  cases v with
  |agg c=>
   simp only
   by_cases hc:c.toList.all (fun v=>bt (.lit v))=true
   ·rw[if_pos hc,if_pos hc]
    right
    simp only[R]
    exact⟨_,rfl,RL.lits _⟩
   ·rw[if_neg hc]
    exact .inl rfl
  |tuple c=>
   right
   simp only[iJ,R]
   exact⟨_,rfl,RL.lits _⟩
  |_=>exact bC _
 |global g=>
  simp only[ga,aP,E5]
  cases ah.g g with
  |none=>exact bC _
  |some c=>
   right
   simp only[R]
   exact⟨_,rfl,⟨_,rfl,RL.lits _⟩,by simp only[aM]; exact tY _⟩
 |func f=>exact bC _
theorem Bx[ah]{g:G}{s:bQ T.den}{st:St}(h:RS T s st){K:bQ T.den→Bool→Tr ρ}{r:ρ}(hk:(zG g s K).run=some r):
  ∃ s' b,RS T s' st∧bx s s'∧vw st.fr g=some b∧s'.hp=s.hp∧(K s' b).run=some r:=by
 unfold zG at hk
 split at hk
 ·exact⟨s,true,h,bx.refl _,rfl,rfl,hk⟩
 ·exact⟨s,false,h,bx.refl _,rfl,rfl,hk⟩
 ·rename_i d want
  split at hk
  ·rename_i b hb
   have ha:=(h.fr d).lit hb
   have key:∀ b',b=b'→RS T (s.step (some d) (.lit (.bool b')) []) st∧bx s (s.step (some d) (.lit (.bool b')) []):=by
    rintro b' rfl
    have h1:=h.step (v:=.lit (.bool b)) (wr:=[]) (e:=⟨.lit (.bool b),[]⟩) ⟨bC _,h.hp,ep.refl _,fun q hq=>by simp at hq,fun _ _ _=>rfl,Nat.le_refl _,fun _ _ h=>by simp at h⟩ (some d)
    refine⟨?_,h1.2⟩
    have e:({ st with fr:=bZ st.fr (some d) (AV.lit (.bool b)),hp:=av st.hp [] }:St)=st:=by
     have:st.fr.set d (.lit (.bool b))=st.fr:=by
      by_cases hd:d<st.fr.length
      ·refine jd ?_
       rw[List.getD_eq_getElem?_getD]at ha
       rw[List.getElem?_eq_getElem hd]at ha ⊢
       exact congrArg some ha
      ·exact List.set_eq_of_length_le (Nat.le_of_not_lt hd)
     simp only[bZ,av,this]
    rw[e]at h1
    exact h1.1
   have hw:vw st.fr (.on d want)=some (b==want):=by simp only[vw]; rw[ha]; rfl
   rcases gz hk with ⟨Tt,DP⟩|⟨Tt,DP⟩
   ·subst Tt
    rw[dx]at DP
    obtain⟨k1,k2⟩:=key true rfl
    exact⟨_,_,k1,k2,hw,rfl,DP⟩
   ·subst Tt
    rw[dx]at DP
    obtain⟨k1,k2⟩:=key false rfl
    exact⟨_,_,k1,k2,hw,rfl,DP⟩
  ·rename_i x hx
   have ha:=(h.fr d).lit hx
   refine⟨s,false,h,bx.refl _,?_,rfl,hk⟩
   simp only[vw]; rw[ha]; rfl
  ·simp[Tr.run]at hk
theorem sH[ah]{C:Ctx}{step:Oper→bQ T.den→(bQ T.den→Tr ρ)→Tr ρ}{r:ρ}
  (ft:∀ o s st K,RS T s st→(step o s K).run=some r→∃ s' st',jv C o st=some (.norm st')∧RS T s' st'∧bx s s'∧(K s').run=some r) :
  ∀ (l:List (G×Oper)) (s:bQ T.den) (st:St) (K:bQ T.den→Tr ρ),RS T s st→(yC step l s K).run=some r→∃ s' st',vO C l st=some (.norm st')∧RS T s' st'∧bx s s'∧(K s').run=some r
 |[],s,st,K,h,hk=>⟨s,st,rfl,h,bx.refl _,hk⟩
 |(g,o)::l,s,st,K,h,hk=>by
  simp only[yC]at hk
  obtain⟨s1,b,h1,h2,h3,_,hk⟩:=Bx h hk
  cases b with
  |false=>
   simp only at hk
   rw[dx]at hk
   obtain⟨g1,g2⟩:=h1.step (GQ h1.hp) o.dst
   obtain⟨s',st',i1,i2,i3,hk⟩:=sH ft l _ _ K g1 hk
   refine⟨s',st',?_,i2,(h2.trans g2).trans i3,hk⟩
   simp only[vO,h3]
   exact i1
  |true=>
   simp only at hk
   obtain⟨s2,RW,g1,g2,g3,hk⟩:=ft o s1 st _ h1 hk
   obtain⟨s',st',i1,i2,i3,hk⟩:=sH ft l _ _ K g2 hk
   refine⟨s',st',?_,i2,(h2.trans g3).trans i3,hk⟩
   simp only[vO,h3,g1,Option.bind_some]
   exact i1
def EJ(a b:gB):Prop:=a.idx=b.idx∧(∀ n,n∈a.rd→n∈b.rd)∧∀ n,n∈a.wr→n∈b.wr
theorem Kp{a a' b b':List Nat}(ha:∀ n,n∈a→n∈a')(hb:∀ n,n∈b→n∈b')(h:HH a' b'=true):HH a b=true:=by
 grind[decide_eq_false_iff_not,HH]
theorem Lx[ah]{pr:List Nat}{x x' y y':gB}(hx:EJ x x')(hy:EJ y y')(h:uc pr x' y'=true):uc pr x y=true:=by
 unfold uc at h ⊢
 rw[hx.1,hy.1]
 simp only[Bool.or_eq_true,Bool.and_eq_true]at h ⊢
 refine h.imp id fun h=>⟨Kp hx.2.2 (fun n hn=>?_) h.1,Kp hy.2.2 hx.2.1 h.2⟩
 simp only[List.mem_append]at hn ⊢
 exact hn.imp (hy.2.1 n) (hy.2.2 n)
theorem Bz[ah]{pr:List Nat}:∀ {l l':List gB},aE EJ l l'→gi pr l'=true→gi pr l=true
 |[],[],_,_=>rfl
 |x::xs,y::ys,h,hk=>by
  simp only[gi,Bool.and_eq_true]at hk ⊢
  refine⟨?_,Bz h.2 hk.2⟩
  rw[List.all_eq_true]at hk ⊢
  intro z hz
  obtain⟨i,hi⟩:=List.getElem?_of_mem hz
  obtain⟨z',W8,hle⟩:=aE.get h.2 hi
  exact Lx h.1 hle (hk.1 z' (List.mem_of_getElem? W8))
theorem EL{pr:List Nat}{fs:List gB}(h:tn pr fs=true):gi pr fs=true:=by
 unfold tn at h
 split at h
 ·rename_i hw
  clear h
  induction fs with
  |nil=>rfl
  |cons x xs ih=>
   simp only[List.all_cons,Bool.and_eq_true]at hw
   simp only[gi,Bool.and_eq_true]
   refine⟨?_,ih hw.2⟩
   rw[List.all_eq_true]
   intro y hy
   have h2:=List.all_eq_true.1 hw.2 y hy
   have e1:x.wr=[]:=by simpa using hw.1
   have e2:y.wr=[]:=by simpa using h2
   simp[uc,e1,e2,HH]
 ·exact h
def OG[ah]:Nat→List Item→Prop
 |_,[]=>True
 |n,x::r=>x.nm=n∧OG (if aC x.o.op then n+1 else n) r
def uW[ah](l:List Item):Nat:=(l.filter fun x=>aC x.o.op).length
theorem sI[ah](x:Item)(l:List Item):uW (x::l)=(if aC x.o.op then 1 else 0)+uW l:=by
 grind[uW]
theorem BA[ah]:∀ (l:List Oper) (i n:Nat),uW (bW i n l)=(l.filter fun o=>aC o.op).length
 |[],_,_=>rfl
 |o::r,i,n=>by
  rw[bW,sI,BA r,List.filter_cons]
  split<;>simp[*]<;>omega
theorem Dm[ah]:∀ (l:List Oper) (i n:Nat),OG n (bW i n l)
 |[],_,_=>trivial
 |_::r,i,n=>⟨rfl,Dm r (i+1) _⟩
theorem wG:∀ {wr:List (Nat×aK T.den)} {H:aq T.den},(∀ q,q∈wr→q.1<H.length)→(bu H wr).length=H.length
 |[],H,_=>rfl
 |(n,o)::wr,H,h=>by
  have h0:=h (n,o) (by simp)
  have e:(cd H n o).length=H.length:=by
   grind[cd]
  simp only[bu]
  rw[wG (fun q hq=>by rw[e]; exact h q (List.mem_cons_of_mem _ hq)),e]
theorem xR[ah]{C:Ctx}{ops:Array Oper}{step:Nat→Oper→bQ T.den→EK T ρ→Tr ρ}{r:ρ}
  (ft:∀ nm o s st K,RS T s st→(nm=s.hp.length∨s.hp[nm]?=some none)→(aC o.op=false→nm=s.hp.length)→(step nm o s K).run=some r →
    ∃ v wr rd e lg,KP C nm o st.fr st.hp=some (e,lg)∧(∀ n,n∈lg→n∈rd)∧RE T s.hp st.hp v wr e∧(K v wr rd).run=some r) :
  ∀ (l:List Item) (n:Nat) (s:bQ T.den) (st:St) (fs:List gB) (K:bQ T.den→List gB→Tr ρ),OG n l→n+uW l=s.hp.length→(∀ m:Nat,n≤m→m<s.hp.length→s.hp[m]?=some none)→RS T s st →
    (uM step (l.map fun x=>(fL ops x.o,x)) s fs K).run=some r →
    ∃ s' st' Vd QY,vJ C ops l st=some (st',QY)∧aE EJ QY Vd∧RS T s' st'∧bx s s'∧(K s' (fs++Vd)).run=some r
 |[],n,s,st,fs,K,_,_,_,h,hk=>⟨s,st,[],[],rfl,trivial,h,bx.refl _,by simpa[uM] using hk⟩
 |x::l,n,s,st,fs,K,hn,hle,rO,h,hk=>by
  obtain⟨hn1,QW⟩:=hn
  simp only[List.map_cons,uM]at hk
  obtain⟨s1,b,h1,h2,h3,h4,hk⟩:=Bx h hk
  have hw:dg ops st.fr x.o=some b:=by rw[E8]; exact h3
  cases b with
  |false=>
   simp only at hk
   rw[dx]at hk
   obtain⟨g1,g2⟩:=h1.step (GQ h1.hp) x.o.dst
   have ehp:(s1.step x.o.dst (.lit undef) []).hp=s.hp:=by simp only[bQ.step,bu]; exact h4
   have hinv:∀ m:Nat,(if aC x.o.op then n+1 else n)≤m→m<(s1.step x.o.dst (.lit undef) []).hp.length→(s1.step x.o.dst (.lit undef) []).hp[m]?=some none:=by
    grind
   have hb:(if aC x.o.op then n+1 else n)+uW l=s.hp.length:=by
    rw[sI]at hle; split<;>simp_all<;>omega
   ·obtain⟨s',st',Vd,QY,i1,i2,i3,i4,hk⟩:=xR ft l _ _ _ _ K QW (by rw[ehp]; exact hb) hinv g1 hk
    refine⟨s',st',⟨x.idx,[],[]⟩::Vd,⟨x.idx,[],[]⟩::QY,?_,⟨⟨rfl,fun _ h=>h,fun _ h=>h⟩,i2⟩,i3,(h2.trans g2).trans i4,by simpa using hk⟩
    simp only[vJ,Fs,hw,Option.bind_some]
    have i1':vJ C ops l { st with fr:=bZ st.fr x.o.dst .undef }=some (st',QY):=i1
    rw[i1']; rfl
  |true=>
   simp only at hk
   have qm:x.at s1.hp.length=s1.hp.length∨s1.hp[x.at s1.hp.length]?=some none:=by
    grind[Item.at]
   obtain⟨v,wr,rd,e,lg,e1,e2,e3,hk⟩:=ft (x.at s1.hp.length) x.o s1 st _ h1 qm (fun h=>by simp only[Item.at,h]) hk
   rw[show s1.hp.length=st.hp.length from h1.hp.length]at e1
   split at hk
   case h_2=>simp[Tr.run]at hk
   rename_i Ij
   rw[List.all_eq_true]at Ij
   rw[dx]at hk
   obtain⟨g1,g2⟩:=h1.step e3 x.o.dst
   have bK:∀ q,q∈wr→q.1<s1.hp.length∧((aC x.o.op=true∧q.1=x.nm)∨∃ o,s1.hp[q.1]?=some (some o)):=by
    grind
   have Yq:(s1.step x.o.dst v wr).hp.length=s.hp.length:=by
    simp only[bQ.step]
    rw[wG (fun q hq=>(bK q hq).1),h4]
   have hinv:∀ m:Nat,(if aC x.o.op then n+1 else n)≤m→m<(s1.step x.o.dst v wr).hp.length→(s1.step x.o.dst v wr).hp[m]?=some none:=by
    intro m hm L3
    rw[Yq]at L3
    have hold:s1.hp[m]?=some none:=by rw[h4]; exact rO m (by split at hm<;>omega) L3
    simp only[bQ.step]
    rw[e3.EE m ?_ (by rw[h4]; exact L3)]
    ·exact hold
    ·grind
   have hb:(if aC x.o.op then n+1 else n)+uW l=s.hp.length:=by
    rw[sI]at hle; split<;>simp_all<;>omega
   ·obtain⟨s',st',Vd,QY,i1,i2,i3,i4,hk⟩:=xR ft l _ _ _ _ K QW (by rw[Yq]; exact hb) hinv g1 hk
    refine⟨s',st',⟨x.idx,rd,wr.map (·.1)⟩::Vd,⟨x.idx,lg,e.wr.map (·.1)⟩::QY,?_,⟨⟨rfl,e2,fun n hn=>?_⟩,i2⟩,i3,(h2.trans g2).trans i4,by simpa using hk⟩
    ·simp only[vJ,Fs,hw,e1,Option.bind_some,TA]
     rw[if_pos ?_]
     ·simp_all
     ·rw[List.all_eq_true]
      intro q hq
      obtain⟨q',hq',eq'⟩:=List.mem_map.1 (e3.names q hq)
      obtain⟨c1,c2⟩:=bK q' hq'
      rw[eq']at c1 c2
      simp only[Bool.and_eq_true,decide_eq_true_eq,Bool.or_eq_true]
      refine⟨by rw[←h1.hp.length]; exact c1,c2.imp id fun⟨o,ho⟩=>?_⟩
      obtain⟨a,ha,_⟩:=h1.hp.obj ho
      rw[ha]
    ·obtain⟨q,hq,rfl⟩:=List.mem_map.1 hn
     exact e3.names q hq
end Go.PI
end
section
/- PS, part M: what is dropped; results; calls of what is looked into. -/
namespace Go.PI
variable {T:ej}{ρ:Type}
section
variable {den:Nat→Type}{n:Nat}
mutual
theorem mY:∀ {v:SV den},aM v=true→bM n v=true
 |.dead,h=>by simp[aM]at h
 |.hole,h=>by simp[aM]at h
 |.lit v,h=>rfl
 |.agg l,h=>by simp only[aM]at h; simp only[bM]; exact fq h
 |.kJ l,h=>by simp only[aM]at h; simp only[bM]; exact fq h
 |.sl l,h=>rfl
 |.jR t l,h=>rfl
 |.zD t l c b,h=>rfl
 |.nz,h=>rfl
 |.bq e j,h=>rfl
 |.ref ..,h=>by simp[aM]at h
 |.jC ..,h=>by simp[aM]at h
 |.bw ..,h=>by simp[aM]at h
 |.jT fn f c,h=>by
  simp only[aM,Bool.and_eq_true]at h
  simp only[bM,Bool.and_eq_true]
  exact⟨fq h.1,fq h.2⟩
 |.jU t v,h=>by simp only[aM]at h; simp only[bM]; exact mY h
 |.vg v s l i,h=>by simp only[aM]at h; simp only[bM]; exact mY h
 |.mp ..,h=>by simp[aM]at h
theorem fq:∀ {l:List (SV den)},aD l=true→iD n l=true
 |[],_=>rfl
 |x::xs,h=>by
  simp only[aD,Bool.and_eq_true]at h
  simp only[iD,Bool.and_eq_true]
  exact⟨mY h.1,fq h.2⟩
end
end
section
variable {H:aq T.den}{hp:ak}{n:Nat}
theorem gL.take{den:Nat→Type}{H:aq den}{m c ax:Nat}(h:gL H m c ax)(hm:m<n):gL (H.take n) m c ax:=by
 obtain⟨o,h1,h2,h3⟩:=h
 exact⟨o,by rw[List.getElem?_take_of_lt hm]; exact h1,h2,h3⟩
mutual
theorem R.take:∀ {v:SV T.den} {a:AV},R T H v a→bM n v=true→R T (H.take n) v a
 |.dead,_,h,_=>by simp[R]at h
 |.hole,_,h,_=>by simpa[R] using h
 |.lit v,a,h,_=>by simpa[R] using h
 |.agg l,a,h,hb=>by
  simp only[R]at h ⊢
  simp only[bM]at hb
  obtain⟨l',h1,h2⟩:=h
  exact⟨l',h1,RL.take h2 hb⟩
 |.kJ l,a,h,hb=>by
  simp only[R]at h ⊢
  simp only[bM]at hb
  obtain⟨l',h1,h2⟩:=h
  exact⟨l',h1,RL.take h2 hb⟩
 |.sl l,a,h,_=>by
  simp only[R]at h ⊢
  obtain⟨l',h1,h2,h3⟩:=h
  exact⟨l',h1,RL.take h2 (fq h3),h3⟩
 |.jR t l,a,h,_=>by simpa[R] using h
 |.zD t l c b,a,h,_=>by simp only[R]at h ⊢; exact h
 |.nz,a,h,_=>by simp only[R]at h ⊢; exact h
 |.bq e j,a,h,_=>by
  simp only[R]at h ⊢
  obtain⟨e',h1,h2,h3⟩:=h
  exact⟨e',h1,R.take h2 (mY h3),h3⟩
 |.ref m c i j,a,h,hb=>by
  simp only[R]at h ⊢
  simp only[bM,decide_eq_true_eq]at hb
  obtain⟨ax,h1,h2⟩:=h
  exact⟨ax,h1,h2.take hb⟩
 |.jC m c i j ln cp,a,h,hb=>by
  simp only[R]at h ⊢
  simp only[bM,decide_eq_true_eq]at hb
  obtain⟨ax,h1,h2⟩:=h
  exact⟨ax,h1,h2.take hb⟩
 |.bw esz m c rg cap,a,h,hb=>by
  simp only[R]at h ⊢
  simp only[bM,decide_eq_true_eq]at hb
  obtain⟨ax,h1,h2⟩:=h
  exact⟨ax,h1.take hb,h2⟩
 |.jT fn f c,a,h,hb=>by
  simp only[R]at h ⊢
  simp only[bM,Bool.and_eq_true]at hb
  obtain⟨f',c',h1,h2,h3⟩:=h
  exact⟨f',c',h1,RL.take h2 hb.1,RL.take h3 hb.2⟩
 |.jU t v,a,h,hb=>by
  simp only[R]at h ⊢
  simp only[bM]at hb
  obtain⟨v',h1,h2⟩:=h
  exact⟨v',h1,R.take h2 hb⟩
 |.mp y m,a,h,hb=>by
  simp_all[R,bM]
 |.vg v s l i,a,h,hb=>by
  simp only[R]at h ⊢
  simp only[bM]at hb
  obtain⟨a0,h1,h2⟩:=h
  exact⟨a0,R.take h1 hb,h2⟩
theorem RL.take:∀ {l:List (SV T.den)} {m:List AV},RL T H l m→iD n l=true→RL T (H.take n) l m
 |[],[],_,_=>by simp[RL]
 |x::xs,y::ys,h,hb=>by
  simp only[RL]at h ⊢
  simp only[iD,Bool.and_eq_true]at hb
  exact⟨R.take h.1 hb.1,RL.take h.2 hb.2⟩
 |[],_::_,h,_=>by simp[RL]at h
 |_::_,[],h,_=>by simp[RL]at h
end
theorem gL.lt{den:Nat→Type}{H:aq den}{m c ax:Nat}(h:gL H m c ax):m<H.length:=by
 obtain⟨o,h1,_⟩:=h
 exact(List.getElem?_eq_some_iff.1 h1).1
mutual
theorem R.lt:∀ {v:SV T.den} {a:AV},R T H v a→bM H.length v=true
 |.dead,_,h=>by simp[R]at h
 |.hole,_,h=>rfl
 |.lit v,a,h=>rfl
 |.agg l,a,h=>by
  simp only[R]at h
  simp only[bM]
  obtain⟨l',h1,h2⟩:=h
  exact RL.lt h2
 |.kJ l,a,h=>by
  simp only[R]at h
  simp only[bM]
  obtain⟨l',h1,h2⟩:=h
  exact RL.lt h2
 |.sl l,a,h=>rfl
 |.jR t l,a,h=>rfl
 |.zD t l c b,a,h=>rfl
 |.nz,a,h=>rfl
 |.bq e j,a,h=>rfl
 |.ref m c i j,a,h=>by
  simp only[R]at h
  simp only[bM,decide_eq_true_eq]
  obtain⟨ax,h1,h2⟩:=h
  exact h2.lt
 |.jC m c i j ln cp,a,h=>by
  simp only[R]at h
  simp only[bM,decide_eq_true_eq]
  obtain⟨ax,h1,h2⟩:=h
  exact h2.lt
 |.bw esz m c rg cap,a,h=>by
  simp only[R]at h
  simp only[bM,decide_eq_true_eq]
  obtain⟨ax,h1,h2⟩:=h
  exact h1.lt
 |.jT fn f c,a,h=>by
  simp only[R]at h
  simp only[bM,Bool.and_eq_true]
  obtain⟨f',c',h1,h2,h3⟩:=h
  exact⟨RL.lt h2,RL.lt h3⟩
 |.jU t v,a,h=>by
  simp only[R]at h
  simp only[bM]
  obtain⟨v',h1,h2⟩:=h
  exact R.lt h2
 |.mp y m,a,h=>by
  grind[R,bM]
 |.vg v s l i,a,h=>by
  simp only[R]at h
  simp only[bM]
  obtain⟨a0,h1,h2⟩:=h
  exact R.lt h1
theorem RL.lt:∀ {l:List (SV T.den)} {m:List AV},RL T H l m→iD H.length l=true
 |[],[],_=>rfl
 |x::xs,y::ys,h=>by
  simp only[RL]at h
  simp only[iD,Bool.and_eq_true]
  exact⟨R.lt h.1,RL.lt h.2⟩
 |[],_::_,h=>by simp[RL]at h
 |_::_,[],h=>by simp[RL]at h
end
theorem BB{n:Nat}:∀ {l:List AV},dt n l=l.all (below n)
 |[]=>rfl
 |x::xs=>by simp only[dt,List.all_cons,BB]
theorem pg:∀ {a:AV},closed a=true→below n a=true
 |.lit _,_=>rfl
 |.agg l,h=>by simp only[Go.PI.closed]at h; simp only[Go.PI.below]; exact ig h
 |.kJ l,h=>by simp only[Go.PI.closed]at h; simp only[Go.PI.below]; exact ig h
 |.sl _,_|.mB _ _,_|.bq _ _,_|.any,_|.nz,_=>rfl
 |.ref ..,h|.bw ..,h|.jC ..,h|.mp ..,h=>by simp[Go.PI.closed]at h
 |.jT fn f c,h=>by
  simp only[Go.PI.closed,Bool.and_eq_true]at h
  simp only[Go.PI.below,Bool.and_eq_true]
  exact⟨ig h.1,ig h.2⟩
 |.jU t v,h=>by simp only[Go.PI.closed]at h; simp only[Go.PI.below]; exact pg h
where ig:∀ {l:List AV},bf l=true→dt n l=true
 |[],_=>rfl
 |x::xs,h=>by
  simp only[bf,Bool.and_eq_true]at h
  simp only[dt,Bool.and_eq_true]
  exact⟨pg h.1,ig h.2⟩
theorem BC(hT:T.Ok){t:Nat}:∀ {l:List (T.den t)} {m:List AV},aE (T.rp t) l m→dt n m=true
 |[],[],_=>rfl
 |_::_,_::_,h=>by
  simp only[dt,Bool.and_eq_true]
  exact⟨pg (hT.closed _ _ _ h.1),BC hT h.2⟩
theorem GR:∀ {fr:List (SV T.den)} {vs:List AV},aE (RD T H) fr vs→(fr.all fun v=>cL v||bM n v)=dt n vs
 |[],[],_=>rfl
 |v::fr,a::vs,h=>by
  simp only[List.all_cons,dt]
  rw[GR h.2]
  congr 1
  rcases h.1 with ⟨rfl,rfl⟩|h1
  ·rfl
  ·have:cL v=false:=by cases v<;>first|rfl|simp[R]at h1
   rw[this,R.below h1]; rfl
theorem Dn[ah](hT:T.Ok){o:Option (aK T.den)}{a:Option ba}(h:EA T H o a):lM n o=mj n a:=by
 cases o with
 |none=>cases a with
  |none=>rfl
  |some a=>exact h.elim
 |some o=>cases a with
  |none=>exact h.elim
  |some a=>
   cases o with
   |arr g cl f cur es=>
    obtain⟨es',rfl,cZ,_⟩:=h
    simp only[lM,mj,ba.below]
    rw[RL.below cZ]
   |cE g f cur t l=>obtain⟨es',rfl,_⟩:=h; rfl
   |ji=>
    rcases h with ⟨g,f,es',rfl⟩|⟨k,vs,rfl,h⟩
    ·rfl
    ·exact(h n).symm
   |lZ kk t m=>
    obtain⟨vs,rfl,h⟩:=h
    exact(BC hT h).symm
   |rh fn ps as bd fr=>
    obtain⟨st,vs,rfl,h⟩:=h
    exact GR h
theorem nd[ah](hT:T.Ok):∀ {l:List (Option (aK T.den))} {m:List (Option ba)},aE (EA T H) l m→l.all (lM n)=m.all (mj n)
 |[],[],_=>rfl
 |_::_,_::_,h=>by simp only[List.all_cons]; rw[Dn hT h.1,nd hT h.2]
theorem RO.take[ah]{o:aK T.den}{a:ba}(h:RO T H o a)(hb:lM n (some o)=true):RO T (H.take n) o a:=by
 cases o with
 |arr g cl f cur es=>
  obtain⟨es',h1,h2,h3⟩:=h
  refine⟨es',h1,RL.take h2 ?_,h3⟩
  simp only[lM,Bool.or_eq_true]at hb
  rcases hb with hb|hb
  ·exact fq (h3 hb)
  ·exact hb
 |cE g f cur t l=>exact h
 |ji=>exact h
 |lZ kk t m=>exact h
 |rh fn ps as bd fr=>
  obtain⟨st,vs,h1,h2⟩:=h
  refine⟨st,vs,h1,aE.fk h2.length fun i x y hx hy=>?_⟩
  obtain⟨y',DT,hr⟩:=aE.get h2 hx
  rw[hy]at DT
  simp only[Option.some.injEq]at DT
  subst DT
  simp only[lM,List.all_eq_true]at hb
  have:=hb x (List.mem_of_getElem? hx)
  rcases hr with hr|hr
  ·exact .inl hr
  ·have hd:cL x=false:=by cases x<;>first|rfl|simp[R]at hr
   rw[hd,Bool.false_or]at this
   exact .inr (hr.take this)
theorem RH.take[ah](hh:RH T H hp)(hb:(H.take n).all (lM n)=true):RH T (H.take n) (hp.take n):=by
 have h:=aE.take hh n
 rw[List.all_eq_true]at hb
 refine aE.fk h.length fun i x y hx hy=>?_
 obtain⟨y',DT,hr⟩:=aE.get h hx
 rw[hy]at DT
 simp only[Option.some.injEq]at DT
 subst DT
 have:=hb x (List.mem_of_getElem? hx)
 cases x with
 |none=>cases y with
  |none=>trivial
  |some _=>exact hr.elim
 |some o=>cases y with
  |none=>exact hr.elim
  |some a=>exact RO.take hr this
theorem Ly[ah](hT:T.Ok)(hh:RH T H hp){v:SV T.den}{a:AV}(hv:R T H v a):RH T (iY n v H) (jW n a hp)∧R T (iY n v H) v a:=by
 unfold iY jW
 rw[R.below hv,nd hT (aE.take hh n)]
 by_cases hc:(Go.PI.below n a&&(hp.take n).all (mj n))=true
 ·rw[if_pos hc,if_pos hc]
  simp only[Bool.and_eq_true]at hc
  exact⟨hh.take (by rw[nd hT (aE.take hh n)]; exact hc.2),hv.take (by rw[R.below hv]; exact hc.1)⟩
 ·grind
theorem GS{fr:vh T.den}{t:Nat}:dj (fr.map fun q=>(q.1,ti n q.2)) t=ti n (dj fr t):=by
 induction fr with
 |nil=>rfl
 |cons q r ih=>
  grind[dj]
theorem RV.forget[ah]{v:SV T.den}{a:AV}(h:RV T H v a):RV T (H.take n) (ti n v) (Go.PI.forget n a):=by
 unfold ti Go.PI.forget
 rcases h with rfl|h
 ·left; simp[bM]
 ·rw[R.below h]
  split
  ·rename_i hb; right; exact h.take (by rw[R.below h]; exact hb)
  ·exact .inl rfl
theorem GU{l:List AV}{t:Nat}:(l.map (Go.PI.forget n)).getD t .undef=Go.PI.forget n (l.getD t .undef):=by
 simp only[List.getD_eq_getElem?_getD,List.getElem?_map]
 cases l[t]?<;>rfl
theorem mz.take{js:List (Nat×nf)}(h:mz js H hp)(hj:∀ m x,cQ js m=some x→m<n):mz js (H.take n) (hp.take n):=by
 intro m x hm
 obtain⟨h1,h2⟩:=h m x hm
 have cr:=hj m x hm
 exact⟨by rw[sG (List.getElem?_take_of_lt cr)]; exact h1,by rw[qf (List.getElem?_take_of_lt cr)]; exact h2⟩
theorem Dp{js:List (Nat×nf)}(h:xG js n=true):∀ m x,cQ js m=some x→m<n:=by
 intro m x hm
 have:=List.all_eq_true.1 h _ (fS hm)
 exact Nat.le_of_ble_eq_true this
theorem GV[ah](hT:T.Ok){s:bQ T.den}{st:St}(h:RS T s st)(hj:∀ m x,cQ s.js m=some x→m<n):RS T (lD n s) (iT n st):=by
 unfold lD iT
 rw[nd hT (aE.take h.hp n)]
 by_cases hc:(st.hp.take n).all (mj n)=true
 ·rw[if_pos hc,if_pos hc]
  refine⟨h.fn,by simp[h.n],fun t=>?_,h.hp.take (by rw[nd hT (aE.take h.hp n)]; exact hc),h.js.take hj⟩
  rw[GS,GU]
  exact(h.fr t).forget
 ·rw[if_neg hc,if_neg hc]
  exact h
theorem ph{den:Nat→Type}{H:aq den}{m:Nat}(hm:m<n):(H.take n)[m]?=H[m]?:=List.getElem?_take_of_lt hm
theorem yS[ah]{s s':bQ T.den}{st:St}(h:RS T s st)(ha:bx s s'):bx s (lD s.hp.length s'):=by
 unfold lD
 split
 ·refine⟨ha.fn,ha.n,fun t ht=>?_,ha.wf,fun n hn hw=>?_,ha.wh,?_,?_⟩
  ·simp only at ht ⊢
   rw[GS,ha.fr t ht]
   unfold ti
   rcases h.fr t with hv|hv
   ·rw[hv]; simp[bM]
   ·rw[if_pos hv.lt]
  ·simp only at hw ⊢
   rw[ph hn]
   exact ha.hp n hn hw
  ·simp only[List.length_take]
   have:=ha.len
   omega
  ·intro n o ho
   obtain⟨o',h1,h2⟩:=ha.grow n o ho
   have cr:=(List.getElem?_eq_some_iff.1 ho).1
   exact⟨o',by simp only; rw[ph cr]; exact h1,h2⟩
 ·exact ha
theorem qL[ah](hT:T.Ok){Q:iM}(hQ:Q.Ok){s:bQ T.den}{st:St}(h:RS T s st){r:ρ}:∀ {rs:List ResultVar} {K:List (SV T.den)→Tr ρ},(uI T Q s rs K).run=some r →
  ∃ l m,(bk Q.P st.fr rs).run st.hp=some m∧RL T s.hp l m∧(K l).run=some r
 |[],K,hk=>⟨[],[],rfl,by simp[RL],hk⟩
 |.tmp t::rs,K,hk=>by
  simp only[uI]at hk
  split at hk
  ·simp[Tr.run]at hk
  ·rename_i dP
   obtain⟨l,m,h1,h2,hk⟩:=qL hT hQ h hk
   refine⟨_,st.fr.getD t .undef::m,?_,?_,hk⟩
   ·simp_all[bk,lI,RM.run_bind,RM.run_pure,h1]
   ·simp only[RL]
    refine⟨?_,h2⟩
    rcases h.fr t with hd|hd
    ·simp_all
    ·exact hd
 |.cell a t::rs,K,hk=>by
  simp only[uI]at hk
  split at hk
  case h_2=>simp[Tr.run]at hk
  rename_i m hm
  obtain⟨q,h1,h2,h3,_⟩:=hQ.row _ _ hm
  have:∃ v c rd,aN st.hp (mA Q.P t (st.fr.getD a .undef)) c rd∧R T s.hp v c∧(uI T Q s rs fun l=>K (v::l)).run=some r:=
   GG (K:=fun v _ _=>uI T Q s rs fun l=>K (v::l)) hT h1 h2 h3 h.hp (h.fr a) hk
  obtain⟨v,c,rd,g1,g2,hk⟩:=this
  obtain⟨l,m',i1,i2,hk⟩:=qL hT hQ h hk
  refine⟨_,c::m',?_,?_,hk⟩
  ·simp only[bk,lI,RM.run_bind,g1.1,RM.run_pure,Option.bind_some,i1]
  ·simp only[RL]
   exact⟨g2,i2⟩
theorem ij[ah]{fv:SV T.den}{fa:AV}(hf:RV T H fv fa){args:List (SV T.den)}{as:List AV}(ha:aE (RV T H) args as){g:FuncId}{l:List (SV T.den)}(h:nN fv args=some (g,l)):
  ∃ m,bV fa as=some (g,m)∧(l.any cL=false→RL T H l m):=by
 unfold nN at h
 split at h
 ·rename_i f first captured
  simp only[Option.some.injEq,Prod.mk.injEq]at h
  obtain⟨rfl,rfl⟩:=h
  have:=hf.lit rfl
  subst this
  refine⟨_,rfl,fun hd=>?_⟩
  refine na ?_ hd
  exact((bh.1 (RL.lits first.toList)).mono fun _ _ h=>.inr h).append ha |>.append ((bh.1 (RL.lits captured.toList)).mono fun _ _ h=>.inr h)
 ·rename_i f first captured
  simp only[Option.some.injEq,Prod.mk.injEq]at h
  obtain⟨rfl,rfl⟩:=h
  have:=hf.live rfl
  simp only[R]at this
  obtain⟨f',c',rfl,h1,h2⟩:=this
  refine⟨_,rfl,fun hd=>?_⟩
  refine na ?_ hd
  exact((bh.1 h1).mono fun _ _ h=>.inr h).append ha |>.append ((bh.1 h2).mono fun _ _ h=>.inr h)
 ·simp at h
theorem xS:∀ {l:List (SV T.den)} {d t:Nat},dj (oI d l) t=if d≤t then (match l[t-d]? with|some v=>v|none=>.lit undef) else .lit undef
 |[],d,t=>by simp[oI,dj]
 |v::r,d,t=>by
  simp only[oI,dj]
  split
  ·simp_all
  ·rename_i he
   have dP:d≠t:=fun hc=>by subst hc; simp at he
   rw[xS]
   by_cases hd:d≤t
   ·grind
   ·rw[if_neg hd,if_neg (by omega)]
theorem BD[ah]{f:FuncId}{args:List (SV T.den)}{as:List AV}(ha:RL T H args as)(hh:RH T H hp)(n:Nat)(wh:List Nat){js:List (Nat×nf)}(hj:mz js H hp):
  RS T ⟨f,max n args.length,oI 0 args,H,[],wh,js⟩ ⟨f,as++List.replicate (n-as.length) .undef,hp⟩:=by
 have hl:=ha.length
 refine⟨rfl,by simp; omega,fun t=>?_,hh,hj⟩
 simp only
 rw[xS]
 simp only[Nat.zero_le,if_true,Nat.sub_zero,List.getD_eq_getElem?_getD]
 by_cases ht:t<as.length
 ·rw[List.getElem?_append_left ht]
  obtain⟨v,hv,hr⟩:=aE.get' (bh.1 ha) (List.getElem?_eq_getElem ht)
  rw[hv,List.getElem?_eq_getElem ht]
  exact .inr hr
 ·rw[List.getElem?_append_right (by omega)]
  have e1:args[t]?=none:=List.getElem?_eq_none (by omega)
  rw[e1]
  simp only
  rw[List.getElem?_replicate]
  split<;>exact bC undef
end
end Go.PI
end
section
/- PS, part N: states with variables. -/
namespace Go.PI
variable {T:ej}{ρ:Type}
def kA{den:Nat→Type}(H:aq den)(n:Nat):Option Nat:=
 match H[n]? with
 |some (some o)=>some o.cur
 |_=>none
theorem qM{den:Nat→Type}{H:aq den}{n:Nat}{o:aK den}(h:H[n]?=some (some o)):kA H n=some o.cur:=by simp[kA,h]
theorem tx{den:Nat→Type}{H:aq den}{n c:Nat}(h:kA H n=some c):∃ o,H[n]?=some (some o)∧o.cur=c:=by
 grind[kA]
def GW{den:Nat→Type}(ok:Nat→Prop)(Hs Hf:aq den):Prop:=∀ (n:Nat) (o:aK den),ok n→Hs[n]?=some (some o)→∃ of:aK den,Hf[n]?=some (some of)∧of.len=o.len
section
variable {Hs Hf Hc:aq T.den}{ok:Nat→Prop}
theorem Yr{H:aq T.den}{v:SV T.den}{k:IntKind}{m:Int}(h:R T H v (.lit (.int k m))):v=.lit (.int k m):=by
 cases v with
 |lit w=>simp_all[R,AV.lit.injEq]
 |bw esz n c rg cap=>
  grind[R]
 |vg v st ln i=>
  simp only[R]at h
  obtain⟨_,_,_,h⟩:=h
  rcases h with ⟨_,_,_,_,_,h⟩|⟨_,_,_,h⟩<;>cases h
 |_=>simp[R]at h
theorem IY[ah](hT:T.Ok){H:aq T.den}{t m:Nat}{x:T.den t}(h:T.dn t (.lit (.int .i64 m))=some x):Lm T ⟨.v t,x⟩=m:=by
 have h1:=hT.dn _ _ _ (.lit (.int .i64 m)) H h (by simp[R])
 have h2:=Yr (hT.up _ _ _ H h1)
 show (match T.up t x with|.lit (.int _ m)=>m.toNat|_=>0)=m
 rw[h2]
 simp
theorem uX[ah](hT:T.Ok)(tI:∀ n,kA Hc n=kA Hf n)(hlen:GW ok Hs Hf){p:rj}(cj:∀ n,n∈p.n5→ok n){v:SV T.den}{a:AV}(hv:RV T Hs v a){ln:List (TV T.den)}(h:gF Hs p v=some ln)(rest:List (TV T.den)):
  ∃ v',gK Hc p (ln++rest)=(v',rest)∧R T Hf v' a∧(aM v=true→aM v'=true):=by
 cases p with
 |hole=>
  simp only[gF]at h
  split at h
  case h_2=>simp at h
  rename_i hh
  simp only[Option.some.injEq]at h
  subst h
  unfold isHole at hh
  split at hh
  case h_2=>simp at hh
  have hv:=hv.live rfl
  simp only[R]at hv
  subst hv
  exact⟨.hole,rfl,by simp[R],fun h=>h⟩
 |val t=>
  simp only[gF]at h
  split at h
  ·simp at h
  rename_i hd
  split at h
  case h_2=>simp at h
  rename_i x hx
  simp only[Option.some.injEq]at h
  subst h
  have HF:=hT.dn _ _ _ _ Hs hx (hv.live hd)
  exact⟨T.up t x,rfl,hT.up _ _ _ Hf HF,fun _=>xL hT HF⟩
 |F6 esz n rg cap=>
  simp only[gF]at h
  split at h
  case h_2=>simp at h
  rename_i Bb n' c rg' IL
  have hv:=hv.live rfl
  split at h
  case h_2=>simp at h
  rename_i o ho
  split at h
  case isFalse=>simp at h
  rename_i hc
  obtain⟨rfl,rfl,rfl,rfl,rfl⟩:=hc
  simp only[Option.some.injEq]at h
  subst h
  obtain⟨of,OH,IZ⟩:=hlen _ _ (cj _ (by simp[rj.n5])) ho
  have pq:=tI n'
  rw[qM OH]at pq
  obtain⟨oc,EX,Ve⟩:=tx pq
  refine⟨.bw Bb n' oc.cur rg' IL,?_,?_,fun h=>by simp[aM]at h⟩
  ·simp only[gK,EX,List.nil_append]
  ·simp only[R]at hv ⊢
   obtain⟨ax,⟨o',h1,_,h3⟩,ha⟩:=hv
   rw[ho]at h1
   simp only[Option.some.injEq]at h1
   subst h1
   exact⟨ax,⟨of,OH,by omega,fun _=>by rw[h3 rfl,IZ]⟩,ha⟩
 |jC n i j len cap=>
  simp only[gF]at h
  split at h
  case h_2=>simp at h
  rename_i n' c i' j' Rz IL
  have hv:=hv.live rfl
  split at h
  case h_2=>simp at h
  rename_i o ho
  split at h
  case isFalse=>simp at h
  rename_i hc
  obtain⟨rfl,rfl,rfl,rfl,rfl,rfl⟩:=hc
  simp only[Option.some.injEq]at h
  subst h
  obtain⟨of,OH,IZ⟩:=hlen _ _ (cj _ (by simp[rj.n5])) ho
  have pq:=tI n'
  rw[qM OH]at pq
  obtain⟨oc,EX,Ve⟩:=tx pq
  refine⟨.jC n' oc.cur i' j' Rz IL,?_,?_,fun h=>by simp[aM]at h⟩
  ·simp only[gK,EX,List.nil_append]
  ·simp only[R]at hv ⊢
   obtain⟨ax,ha,⟨o',h1,_,h3⟩⟩:=hv
   rw[ho]at h1
   simp only[Option.some.injEq]at h1
   subst h1
   exact⟨ax,ha,⟨of,OH,by omega,fun _=>by rw[h3 rfl,IZ]⟩⟩
 |own esz n=>
  simp only[gF]at h
  split at h
  case h_2=>simp at h
  rename_i Bb n' c
  have hv:=hv.live rfl
  split at h
  case h_2=>simp at h
  rename_i o ho
  split at h
  case isFalse=>simp at h
  rename_i hc
  obtain⟨rfl,rfl,rfl⟩:=hc
  simp only[Option.some.injEq]at h
  subst h
  obtain⟨of,OH,IZ⟩:=hlen _ _ (cj _ (by simp[rj.n5])) ho
  have pq:=tI n'
  rw[qM OH]at pq
  obtain⟨oc,EX,Ve⟩:=tx pq
  refine⟨.bw Bb n' oc.cur none none,?_,?_,fun h=>by simp[aM]at h⟩
  ·simp only[gK,EX,List.nil_append]
  ·simp only[R]at hv ⊢
   obtain⟨ax,⟨o',h1,_,h3⟩,rfl⟩:=hv
   rw[ho]at h1
   simp only[Option.some.injEq]at h1
   subst h1
   exact⟨ax,⟨of,OH,by omega,fun _=>by rw[h3 rfl,IZ]⟩,rfl⟩
 |tP esz n t k=>
  simp only[gF]at h
  split at h
  case h_2=>simp at h
  rename_i Bb n' c rg cap
  have hv:=hv.live rfl
  split at h
  case h_2=>simp at h
  rename_i o off len ho hr
  split at h
  case isFalse=>simp at h
  rename_i hc
  obtain⟨rfl,rfl,rfl⟩:=hc
  obtain⟨of,OH,IZ⟩:=hlen _ _ (cj _ (by simp[rj.n5])) ho
  have pq:=tI n'
  rw[qM OH]at pq
  obtain⟨oc,EX,Ve⟩:=tx pq
  have hR:R T Hf (.bw Bb n' oc.cur (some (off,len)) cap) a:=by
   simp only[R]at hv ⊢
   obtain⟨ax,⟨o',h1,_,h3⟩,ha⟩:=hv
   rw[ho]at h1
   simp only[Option.some.injEq]at h1
   subst h1
   refine⟨ax,⟨of,OH,by omega,fun _=>by rw[h3 rfl,IZ]⟩,?_⟩
   cases rg with
   |some q=>
    simp_all[pf]
   |none=>
    have hb:Nat.beq o.cur o.cur=true:=by simp
    simp only[pf,ho,hb,if_true,Option.some.injEq,Prod.mk.injEq]at hr
    obtain⟨rfl,rfl⟩:=hr
    rw[←h3 rfl]
    exact ha
  rw[Option.bind_eq_some_iff]at h
  obtain⟨x,hx,h⟩:=h
  rw[Option.bind_eq_some_iff]at h
  obtain⟨y,hy,h⟩:=h
  have ex:=IY hT (H:=Hs) hx
  have ey:=IY hT (H:=Hs) hy
  split at h
  ·simp only[Option.some.injEq]at h
   subst h
   exact⟨_,by simp only[gK,List.cons_append,List.nil_append,EX,ex,ey],hR,fun h=>by simp[aM]at h⟩
  ·obtain⟨z,hz,hl⟩:∃ z,T.dn t (.lit (.int .i64 _))=some z∧_=ln:=Option.map_eq_some_iff.1 h
   subst hl
   have ez:=IY hT (H:=Hs) hz
   exact⟨_,by simp only[gK,List.cons_append,List.nil_append,EX,ex,ey,ez],hR,fun h=>by simp[aM]at h⟩
  ·simp at h
theorem yT[ah](hT:T.Ok)(tI:∀ n,kA Hc n=kA Hf n)(hlen:GW ok Hs Hf):∀ {ps:List rj} {vs:List (SV T.den)} {as:List AV} {ln:List (TV T.den)},(∀ n,n∈ps.flatMap rj.n5→ok n)→RL T Hs vs as→jo Hs ps vs=some ln→∀ rest:List (TV T.den),
  ∃ vs',kq Hc ps (ln++rest)=(vs',rest)∧RL T Hf vs' as∧(aD vs=true→aD vs'=true)
 |[],[],[],ln,_,_,h,rest=>by
  simp only[jo,Option.some.injEq]at h
  subst h
  exact⟨[],rfl,by simp[RL],fun _=>rfl⟩
 |p::ps,v::vs,a::as,ln,cj,hr,h,rest=>by
  simp only[RL]at hr
  simp only[jo,Option.bind_eq_some_iff,Option.map_eq_some_iff]at h
  obtain⟨l1,h1,l2,h2,rfl⟩:=h
  obtain⟨v',e1,e2,e3⟩:=uX hT tI hlen (fun n hn=>cj n (by simp[hn])) (.inr hr.1) h1 (l2++rest)
  obtain⟨vs',g1,g2,g3⟩:=yT hT tI hlen (fun n hn=>cj n (by simp only[List.flatMap_cons,List.mem_append]; exact .inr hn)) hr.2 h2 rest
  refine⟨v'::vs',?_,by simp only[RL]; exact⟨e2,g2⟩,fun hc=>?_⟩
  ·simp_all[kq]
  ·simp_all[aD]
 |[],_::_,_,_,_,_,h,_=>by simp[jo]at h
 |_::_,[],_,_,_,_,h,_=>by simp[jo]at h
 |_,[],_::_,_,_,h,_,_=>by simp[RL]at h
 |_,_::_,[],_,_,h,_,_=>by simp[RL]at h
end
def Compat{T:ej}(o:aK T.den):dv→Prop
 |.list t=>∃ g f c l,o=.cE g f c t l
 |.fix t=>∃ g f c l,o=.cE g f c t l
 |.one _=>∃ g cl f c es,o=.arr g cl f c es
 |.agg _=>∃ g cl f c es,o=.arr g cl f c es
 |.map kk t=>∃ m,o=.lZ kk t m
section
variable {Hs Hf Hc:aq T.den}{ok:Nat→Prop}
theorem wH[ah](hT:T.Ok){os:aK T.den}{t:Nat}{ln:List (TV T.den)}(h:fp Hs os (.list t)=some ln∨fp Hs os (.fix t)=some ln):
  ∃ l:List (T.den t),ln=[⟨.l t,l⟩]∧l.length=os.len∧os.flags.2.1=true∧∀ a,RO T Hs os a→∃ es,a=.arr os.flags.1 true os.flags.2.2 es∧aE (T.rp t) l es:=by
 have h2:fp Hs os (.list t)=some ln:=h.elim id id
 clear h
 have h:=h2
 clear h2
 unfold fp at h
 simp only at h
 split at h
 ·rename_i g f c t' l
  split at h
  case isFalse=>simp at h
  rename_i ht
  subst ht
  refine⟨l,(Option.some.inj h).symm,rfl,rfl,fun a ha=>?_⟩
  obtain⟨es,rfl,cZ⟩:=ha
  exact⟨es,rfl,cZ⟩
 ·rename_i g f c es
  cases hd:qX T t es with
  |none=>rw[hd]at h; cases h
  |some l=>
   rw[hd]at h
   refine⟨l,(Option.some.inj h).symm,?_,rfl,fun a ha=>?_⟩
   ·have:∀ {l:List (T.den t)} {es:List (SV T.den)},qX T t es=some l→l.length=es.length:=by
     intro l es
     induction es generalizing l with
     |nil=>simp_all[qX]
     |cons x xs ih=>
      intro h
      simp only[qX,Option.bind_eq_some_iff,Option.map_eq_some_iff]at h
      obtain⟨_,_,y,hy,rfl⟩:=h
      simp[ih hy]
    exact this hd
   ·obtain⟨es',rfl,cZ,_⟩:=ha
    exact⟨es',rfl,sD hT cZ hd⟩
 ·simp at h
theorem wI{os:aK T.den}{kk:KK}{t:Nat}{ln:List (TV T.den)}(h:fp Hs os (.map kk t)=some ln):∃ m,os=.lZ kk t m∧ln=[⟨.m kk t,m⟩]:=by
 unfold fp at h
 simp only at h
 split at h
 case h_2=>simp at h
 rename_i tA t' m
 split at h
 case isFalse=>simp at h
 rename_i hc
 obtain⟨rfl,rfl⟩:=hc
 exact⟨m,rfl,(Option.some.inj h).symm⟩
theorem Ch[ah](hT:T.Ok){o os:aK T.den}{p:dv}(hc:Compat o p){ln:List (TV T.den)}(h:fp Hs os p=some ln)(rest:List (TV T.den))
  (hp:∀ q (v:SV T.den) l,gF Hs q v=some l→∀ rest,(gK Hc q (l++rest)).2=rest) :
  ∃ o',ku Hc o p (ln++rest)=(o',rest)∧o'.cur=o.cur∧o'.len=os.len:=by
 have Yj:∀ (ps:List rj) (vs:List (SV T.den)) l,jo Hs ps vs=some l→∀ rest,(kq Hc ps (l++rest)).2=rest:=by
  intro ps
  induction ps with
  |nil=>
   intro vs l hl rest
   cases vs with
   |nil=>simp[jo]at hl; subst hl; rfl
   |cons=>simp[jo]at hl
  |cons q ps ih=>
   intro vs l hl rest
   cases vs with
   |nil=>simp[jo]at hl
   |cons v vs=>
    simp only[jo,Option.bind_eq_some_iff,Option.map_eq_some_iff]at hl
    obtain⟨l1,h1,l2,h2,rfl⟩:=hl
    have e1:=hp q v l1 h1 (l2++rest)
    have e2:=ih vs l2 h2 rest
    simp only[kq,List.append_assoc]
    rw[e1]
    exact e2
 cases p with
 |list t=>
  obtain⟨g,f,c,l0,rfl⟩:=hc
  obtain⟨l,rfl,hl,_⟩:=wH hT (.inl h)
  exact⟨.cE g f c t l,rfl,rfl,hl⟩
 |fix t=>
  obtain⟨g,f,c,l0,rfl⟩:=hc
  obtain⟨l,rfl,hl,_⟩:=wH hT (.inr h)
  exact⟨.cE g f c t l,rfl,rfl,hl⟩
 |one q=>
  obtain⟨g,cl,f,c,es,rfl⟩:=hc
  simp only[fp]at h
  split at h
  case h_2=>simp at h
  rename_i v
  have e:=hp q v ln h rest
  refine⟨.arr g cl f c [(gK Hc q (ln++rest)).1],?_,rfl,rfl⟩
  have e2:gK Hc q (ln++rest)=((gK Hc q (ln++rest)).1,rest):=Prod.ext rfl e
  simp only[ku]
  rw[e2]
 |agg ps=>
  obtain⟨g,cl,f,c,es,rfl⟩:=hc
  simp only[fp]at h
  split at h
  case h_2=>simp at h
  rename_i vs
  have e:=Yj ps vs ln h rest
  refine⟨.arr g cl f c [.agg (kq Hc ps (ln++rest)).1],?_,rfl,rfl⟩
  have e2:kq Hc ps (ln++rest)=((kq Hc ps (ln++rest)).1,rest):=Prod.ext rfl e
  simp only[ku]
  rw[e2]
 |map kk t=>
  obtain⟨m0,rfl⟩:=hc
  obtain⟨m,rfl,rfl⟩:=wI h
  exact⟨.lZ kk t m,rfl,rfl,rfl⟩
theorem BE[ah](hT:T.Ok)(tI:∀ n,kA Hc n=kA Hf n)(hlen:GW ok Hs Hf){o os o':aK T.den}{p:dv}(cj:∀ n,n∈p.n5→ok n)(hc:Compat o p){ln:List (TV T.den)}(h:fp Hs os p=some ln){rest:List (TV T.den)}
  (ho:ku Hc o p (ln++rest)=(o',rest)) (xp:o.flags.1=os.flags.1) (nB:o.flags.2.1=os.flags.2.1) (SE:o.flags.2.2=os.flags.2.2) {a:ba} (ha:RO T Hs os a):RO T Hf o' a:=by
 cases p with
 |list t=>
  obtain⟨g,f,c,l0,rfl⟩:=hc
  obtain⟨l,rfl,hl,_,hr⟩:=wH hT (.inl h)
  obtain⟨es,rfl,cZ⟩:=hr a ha
  simp only[ku,List.cons_append,List.nil_append,Prod.mk.injEq]at ho
  obtain⟨rfl,_⟩:=ho
  have hg:g=os.flags.1:=xp
  have hf:f=os.flags.2.2:=SE
  exact⟨es,by rw[hg,hf],cZ⟩
 |fix t=>
  obtain⟨g,f,c,l0,rfl⟩:=hc
  obtain⟨l,rfl,hl,_,hr⟩:=wH hT (.inr h)
  obtain⟨es,rfl,cZ⟩:=hr a ha
  simp only[ku,List.cons_append,List.nil_append,Prod.mk.injEq]at ho
  obtain⟨rfl,_⟩:=ho
  have hg:g=os.flags.1:=xp
  have hf:f=os.flags.2.2:=SE
  exact⟨es,by rw[hg,hf],cZ⟩
 |one q=>
  obtain⟨g,cl,f,c,es,rfl⟩:=hc
  simp only[fp]at h
  split at h
  case h_2=>simp at h
  rename_i g' cl' f' c' v
  simp only[aK.flags]at xp nB SE
  subst xp; subst nB; subst SE
  obtain⟨es',rfl,cZ,og⟩:=ha
  match es',cZ with
  |[b],cZ=>
   simp only[RL]at cZ
   obtain⟨v',e1,e2,e3⟩:=uX hT tI hlen cj (.inr cZ.1) h rest
   simp only[ku,e1,Prod.mk.injEq,and_true]at ho
   subst ho
   refine⟨[b],rfl,by simp only[RL]; exact⟨e2,trivial⟩,fun pq=>?_⟩
   have:=og pq
   simp only[aD,Bool.and_true]at this ⊢
   exact e3 this
  |[],cZ=>simp[RL]at cZ
  |_::_::_,cZ=>simp[RL]at cZ
 |agg ps=>
  obtain⟨g,cl,f,c,es,rfl⟩:=hc
  simp only[fp]at h
  split at h
  case h_2=>simp at h
  rename_i g' cl' f' c' vs
  simp only[aK.flags]at xp nB SE
  subst xp; subst nB; subst SE
  obtain⟨es',rfl,cZ,og⟩:=ha
  match es',cZ with
  |[b],cZ=>
   simp only[RL,R]at cZ
   obtain⟨⟨as,rfl,cZ⟩,_⟩:=cZ
   obtain⟨vs',e1,e2,e3⟩:=yT hT tI hlen cj cZ h rest
   simp only[ku,e1,Prod.mk.injEq,and_true]at ho
   subst ho
   refine⟨[.agg as],rfl,by simp only[RL,R]; exact⟨⟨as,rfl,e2⟩,trivial⟩,fun pq=>?_⟩
   have:=og pq
   simp only[aD,aM,Bool.and_true]at this ⊢
   exact e3 this
  |[],cZ=>simp[RL]at cZ
  |_::_::_,cZ=>simp[RL]at cZ
 |map kk t=>
  obtain⟨m0,rfl⟩:=hc
  obtain⟨m,rfl,rfl⟩:=wI h
  simp only[ku,List.cons_append,List.nil_append,Prod.mk.injEq]at ho
  obtain⟨rfl,_⟩:=ho
  exact ha
theorem GX{q:rj}{v:SV T.den}{l:List (TV T.den)}(h:gF Hs q v=some l)(rest:List (TV T.den)):(gK Hc q (l++rest)).2=rest:=by
 cases q with
 |F6 esz n rg cap=>
  simp only[gF]at h
  split at h
  case h_2=>simp at h
  split at h
  case h_2=>simp at h
  split at h
  case isFalse=>simp at h
  simp only[Option.some.injEq]at h
  subst h
  rfl
 |jC n i j len cap=>
  simp only[gF]at h
  split at h
  case h_2=>simp at h
  split at h
  case h_2=>simp at h
  split at h
  case isFalse=>simp at h
  simp only[Option.some.injEq]at h
  subst h
  rfl
 |hole=>
  simp only[gF]at h
  split at h
  case h_2=>simp at h
  simp only[Option.some.injEq]at h
  subst h
  rfl
 |val t=>
  simp only[gF]at h
  split at h
  ·simp at h
  split at h
  case h_2=>simp at h
  simp only[Option.some.injEq]at h
  subst h
  rfl
 |own esz n=>
  simp only[gF]at h
  split at h
  case h_2=>simp at h
  split at h
  case h_2=>simp at h
  split at h
  case isFalse=>simp at h
  simp only[Option.some.injEq]at h
  subst h
  rfl
 |tP esz n t k=>
  simp only[gF]at h
  split at h
  case h_2=>simp at h
  split at h
  case h_2=>simp at h
  split at h
  case isFalse=>simp at h
  rw[Option.bind_eq_some_iff]at h
  obtain⟨x,hx,h⟩:=h
  rw[Option.bind_eq_some_iff]at h
  obtain⟨y,hy,h⟩:=h
  split at h
  ·simp only[Option.some.injEq]at h
   subst h
   rfl
  ·obtain⟨z,_,hl⟩:∃ z,T.dn t (.lit (.int .i64 _))=some z∧_=l:=Option.map_eq_some_iff.1 h
   subst hl
   rfl
  ·simp at h
theorem nodup_cons{x:Nat}{l:List Nat}(h:nodupB (x::l)=true):x∉l∧nodupB l=true:=by
 simp_all[nodupB,decide_eq_false_iff_not]
theorem Lz{H:aq T.den}{n:Nat}{o o':aK T.den}(ho:H[n]?=some (some o))(hc:o'.cur=o.cur)(m:Nat):kA (H.set n (some o')) m=kA H m:=by
 unfold kA
 by_cases e:m=n
 ·grind
 ·rw[List.getElem?_set_ne (Ne.symm e)]
theorem tZ[ah](hT:T.Ok):∀ {objs:List (Nat×dv)} {H:aq T.den} {l:List (TV T.den)} (rest:List (TV T.den)),nodupB (objs.map (·.1))=true→lN Hs objs=some l →
  (∀ q,q∈objs→∃ o,H[q.1]?=some (some o)∧Compat o q.2) →
  (ie H objs (l++rest)).length=H.length∧(∀ n:Nat,n∉objs.map (·.1)→(ie H objs (l++rest))[n]?=H[n]?)∧(∀ n,kA (ie H objs (l++rest)) n=kA H n) ∧
  (∀ q,q∈objs→∃ o os o' ln Hc GY,H[q.1]?=some (some o)∧Hs[q.1]?=some (some os)∧fp Hs os q.2=some ln∧(∀ n,kA Hc n=kA H n)∧ku Hc o q.2 (ln++GY)=(o',GY) ∧
    (ie H objs (l++rest))[q.1]?=some (some o')∧o'.cur=o.cur∧o'.len=os.len)
 |[],H,l,rest,_,_,_=>⟨rfl,fun _ _=>rfl,fun _=>rfl,fun q hq=>by simp at hq⟩
 |(n,p)::objs,H,l,rest,CR,rn,ZQ=>by
  simp only[List.map_cons]at CR
  obtain⟨OI,CR⟩:=nodup_cons CR
  simp only[lN]at rn
  split at rn
  case h_2=>simp at rn
  rename_i os hos
  rw[Option.bind_eq_some_iff]at rn
  obtain⟨ln,h1,rn⟩:=rn
  rw[Option.map_eq_some_iff]at rn
  obtain⟨l2,h2,rfl⟩:=rn
  obtain⟨o,ho,hco⟩:=ZQ (n,p) (by simp)
  simp only at ho hco
  obtain⟨o',e1,e2,e3⟩:=Ch (Hc:=H) hT hco h1 (l2++rest) fun q v l hl rest=>GX hl rest
  have Ys:ie H ((n,p)::objs) (ln++l2++rest)=ie (H.set n (some o')) objs (l2++rest):=by
   simp_all[ie,ho]
  rw[Ys]
  have cr:=(List.getElem?_eq_some_iff.1 ho).1
  have acQ:∀ q,q∈objs→∃ o,(H.set n (some o'))[q.1]?=some (some o)∧Compat o q.2:=by
   grind
  obtain⟨i1,i2,i3,i4⟩:=tZ hT rest CR h2 acQ
  have wX:=Lz ho e2
  refine⟨by rw[i1]; simp,fun m hm=>?_,fun m=>by rw[i3,wX],fun q hq=>?_⟩
  ·grind
  ·grind
theorem uY[ah]:∀ {objs:List (Nat×dv)} {H:aq T.den},nodupB (objs.map (·.1))=true →
  (tT H objs).length=H.length∧(∀ n:Nat,n∉objs.map (·.1)→(tT H objs)[n]?=H[n]?)∧(∀ q,q∈objs→∀ o,H[q.1]?=some (some o)→(tT H objs)[q.1]?=some (some (oN o q.2)))
 |[],H,_=>⟨rfl,fun _ _=>rfl,fun q hq=>by simp at hq⟩
 |(n,p)::objs,H,CR=>by
  simp only[List.map_cons]at CR
  obtain⟨OI,CR⟩:=nodup_cons CR
  simp only[tT]
  split
  ·rename_i o ho
   have cr:=(List.getElem?_eq_some_iff.1 ho).1
   obtain⟨i1,i2,i3⟩:=uY (objs:=objs) (H:=H.set n (some (oN o p))) CR
   refine⟨by rw[i1]; simp,fun m hm=>?_,fun q hq o2 xm=>?_⟩
   ·grind
   ·grind
  ·rename_i Cu
   obtain⟨i1,i2,i3⟩:=uY (objs:=objs) (H:=H) CR
   refine⟨i1,fun m hm=>?_,fun q hq o2 xm=>?_⟩
   ·simp_all
   ·grind
theorem sJ[ah](hT:T.Ok)(tI:∀ n,kA Hc n=kA Hf n)(hlen:GW ok Hs Hf){N:Nat}{frs:vh T.den}{ast:Nat→AV}(gk:∀ t,RV T Hs (dj frs t) (ast t)):
  ∀ {aH:List (Nat×rj)} {fr:vh T.den} {l:List (TV T.den)} (rest:List (TV T.den)),nodupB (aH.map (·.1))=true→(∀ q,q∈aH→q.1<N∧∀ n,n∈q.2.n5→ok n)→sw Hs frs aH=some l →
    ∃ D4,tj N Hc fr aH (l++rest)=(D4,rest)∧(∀ t,t∉aH.map (·.1)→dj D4 t=dj fr t)∧(∀ q,q∈aH→R T Hf (dj D4 q.1) (ast q.1))
 |[],fr,l,rest,_,_,h=>by
  simp only[sw,Option.some.injEq]at h
  subst h
  exact⟨fr,rfl,fun _ _=>rfl,fun q hq=>by simp at hq⟩
 |(d,p)::aH,fr,l,rest,CR,hN,h=>by
  simp only[List.map_cons]at CR
  obtain⟨OI,CR⟩:=nodup_cons CR
  simp only[sw,Option.bind_eq_some_iff,Option.map_eq_some_iff]at h
  obtain⟨l1,h1,l2,h2,rfl⟩:=h
  obtain⟨v',e1,e2,_⟩:=uX hT tI hlen (hN (d,p) (by simp)).2 (gk d) h1 (l2++rest)
  obtain⟨D4,i1,i2,i3⟩:=sJ hT tI hlen gk (fr:=wj N fr d v') rest CR (fun q hq=>hN q (List.mem_cons_of_mem _ hq)) h2
  refine⟨D4,?_,fun t ht=>?_,fun q hq=>?_⟩
  ·simp_all[tj]
  ·simp only[List.map_cons,List.mem_cons,not_or]at ht
   rw[i2 t ht.2,mf,if_neg (by omega)]
  ·rcases List.mem_cons.1 hq with rfl|hq
   ·rw[i2 d OI,mf,if_pos ⟨rfl,(hN (d,p) (by simp)).1⟩]
    exact e2
   ·exact i3 q hq
theorem xT[ah]{N:Nat}:∀ {dead:List Nat} {fr:vh T.den} {t:Nat},dj (C9 N fr dead) t=(if t∈dead∧t<N then .dead else dj fr t)
 |[],fr,t=>by simp[C9]
 |d::r,fr,t=>by
  simp only[C9]
  rw[xT,mf]
  by_cases h1:t∈r∧t<N
  ·simp_all
  ·grind
end
end Go.PI
end
