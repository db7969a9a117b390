/- Part 3 of the proof: texts of this session laid one behind the other. -/
import Derived.Test.YtedjbjphpnkpoaaX2
set_option linter.unusedVariables false
set_option linter.unusedSimpArgs false
section
/- PS, part B: the operations on symbolic values, and the evaluator of code to a tree. -/
namespace Go.PI
structure wQ(T:dP)where
 args:List Nat
 el:Nat
 esz:Nat
 fn:HL T.den (args.map .v)→Option (List (T.den el))
inductive Tw where
 |num (d j b:Nat)
 |Zd (d j n:Nat)
 |arr (d n:Nat)
 |name (d:Nat)
 |int (d j:Nat)
structure oS where
 C:Ctx
 T:dP
 sum:FuncId→Option (vF T)
 hint:FuncId→Nat→Option Hint
 vG:FuncId→Nat→Bool
 M:List (Nat×kD)
 own:FuncId→Option (wQ T):=fun _=>none
 ur:FuncId→Nat→Bool:=fun _ _=>false
 tw:FuncId→Tmp→List Tw:=fun _ _=>[]
def oS.Q(S:oS):ik:=⟨S.C.P,S.M,fun _=>false⟩
def oS.Qf(S:oS)(f:FuncId):ik:=⟨S.C.P,S.M,S.ur f⟩
section
variable {T:dP}{ρ:Type}
abbrev EK(T:dP)(ρ:Type):=SV T.den→List (Nat×aE T.den)→List Nat→Tr ρ
def pn(r:Option AV)(K:EK T ρ):Tr ρ:=
 match r with
 |some (.lit v)=>K (.lit v) [] []
 | _ => .no "via"
def yG(r:Option (SV T.den))(rd:List Nat)(K:EK T ρ):Tr ρ:=
 match r with
 |some v=>K v [] rd
 | none => .no "part"
def gy(v:SV T.den)(K:Nat→Tr ρ):Tr ρ:=
 match v with
 |.lit (.int _ n)=>.cond (decide (0≤n)) (K n.toNat) .fail
 |_=>.fail
def Vq{den:Nat→Type}:SV den→Bool
 |.lit (.int _ n)=>decide (n=0)
 |_=>false
def jJ(d:Nat)(v:Option (SV T.den))(K:Nat→Tr ρ):Tr ρ:=
 match v with
 |none=>K d
 |some v=>gy v K
def fU(i:Nat):Nat→Nat→(Nat→Tr ρ)→Tr ρ
 |0,_,_=>.fail
 |len+1,m,K=>.cond (decide (i=m)) (K m) (fU i len (m+1) K)
def iT(d:Nat):SV T.den→SV T.den
 |.ref n c i j=>.ref n c i (j+d)
 |.bk e j=>.bk e (j+d)
 |.tz v s l i=>.tz (iT d v) s l i
 |v=>v
def gX(e:SV T.den)(j aZ:Nat):Nat→Option (List (SV T.den))
 |0=>some []
 |n+1=>(og false 1 e j).bind fun x=>(gX e (j+aZ) aZ n).map fun l=>x::l
def vH(k:IntKind):List (SV T.den)→Option (List Int)
 |[]=>some []
 |.lit (.int k' n)::r=>if k'=k then (vH k r).map fun l=>n::l else none
 |_=>none
def uu:List (SV T.den)→Option (List Bool)
 |[]=>some []
 |.lit (.bool b)::r=>(uu r).map fun l=>b::l
 |_=>none
def Ho{α:Type}(l:List α)(i:Nat)(d:α):α:=l.getD i d
def Ly(i:Nat)(xs:List (SV T.den)):Option (SV T.den):=
 match xs with
 |.lit (.int k n)::r=>(vH k r).map fun l=>.lit (.int k (Ho (n::l) i n))
 |.lit (.bool b)::r=>(uu r).map fun l=>.lit (.bool (Ho (b::l) i b))
 |_=>none
def Vr(t:Nat)(x:T.den t)(K:SV T.den→Tr ρ):Tr ρ:=
 match T.alt t with
 |none=>K (T.up t x)
 |some f=>.cond (f.1 x) (K (f.2.1 x)) (K (f.2.2 x))
def oT(r:kD)(H:ai T.den)(a:SV T.den)(K:EK T ρ):Tr ρ:=
 match a with
 |.ref n c i j=>
  match H[n]? with
  |some (some (.arr _ _ _ cur es))=>(match Nat.beq c cur with
   |true=>(match es[i]? with
    |some e=>yG (og r.agg r.size e j) [n] K
    | none => .no "memory")
   | false => .no "memory")
  |some (some (.cj _ _ cur t l))=>(match Nat.beq c cur with
   |true=>.bind l[i]? fun x=>Vr t x fun v=>yG (og r.agg r.size v j) [n] K
   | false => .no "memory")
  | _ => .no "memory"
 |.bk e j=>yG (og r.agg r.size e j) [] K
 | _ => .no "memory"
def FV(H:ai T.den)(a:SV T.den)(aZ len:Nat):Option (List (SV T.den)×List Nat):=
 match a with
 |.ref n c i j=>(match H[n]? with
  |some (some (.arr _ _ _ cur es))=>(match Nat.beq c cur with
   |true=>(es[i]?).bind fun e=>(gX e j aZ len).map fun l=>(l,[n])
   |false=>none)
  |_=>none)
 |.bk e j=>(gX e j aZ len).map fun l=>(l,[])
 |_=>none
def Hp(r:kD)(H:ai T.den)(a:SV T.den)(K:EK T ρ):Tr ρ:=
 match a with
 |.tz v aZ len i=>
  (match !r.agg&&Nat.beq r.size 1,FV H v aZ len with
  |true,some (xs,rd)=>(match Ly i xs with
   |some x=>K x [] rd
   |none=>fU i len 0 fun m=>oT r H (iT (m*aZ) v) K)
  |_,_=>fU i len 0 fun m=>oT r H (iT (m*aZ) v) K)
 |a=>oT r H a K
def rm(r:kD)(H:ai T.den)(a v:SV T.den)(K:EK T ρ):Tr ρ:=
 match bV v,decide ((bP v).length=r.size)&&(bP v).all gU with
 |false,true=>(match a with
  |.ref n c i j=>
   match H[n]? with
   |some (some (.arr g cl f cur es))=>(match Nat.beq c cur&&!f with
    |true=>(match es[i]? with
     |some e=>(match gv e j (bP v) with
      |some e'=>K (.lit undef) [(n,.arr g (cl&&aw (bP v)) f cur (es.set i e'))] [n]
      | none => .no "memory")
     | none => .no "memory")
    | false => .no "memory")
   |some (some (.cj g f cur t l))=>(match Nat.beq c cur&&!f&&aw (bP v) with
    |true=>.bind l[i]? fun x=>(match gv (T.up t x) j (bP v) with
     |some e'=>(match T.dn t e' with
      |some y=>K (.lit undef) [(n,.cj g f cur t (l.set i y))] [n]
      | none => .no "memory")
     | none => .no "memory")
    | false => .no "memory")
   | _ => .no "memory"
  | _ => .no "memory")
 | _, _ => .no "memory"
def FX(l:List (SV T.den))(j aZ i m:Nat)(k:IntKind)(y:Int):List Int→List (SV T.den)
 |[]=>l
 |x::r=>FX (l.set j (.lit (.int k (cond (Nat.beq i m) y x)))) (j+aZ) aZ i (m+1) k y r
def FY(H:ai T.den)(a v:SV T.den)(aZ len i:Nat):Option (Nat×aE T.den):=
 match a,v with
 |.ref n c i0 j,.lit (.int k y)=>(match H[n]? with
  |some (some (.arr g cl f cur es))=>(match Nat.beq c cur&&!f&&Nat.blt 0 aZ,es[i0]? with
   |true,some (.agg l)=>((gX (.agg l) j aZ len).bind (vH k)).map fun ns=>
    (n,.arr g cl f cur (es.set i0 (.agg (FX l j aZ i 0 k y ns))))
   |_,_=>none)
  |_=>none)
 |_,_=>none
def FZ(r:kD)(H:ai T.den)(a v:SV T.den)(K:EK T ρ):Tr ρ:=
 match a with
 |.tz b aZ len i=>(match Nat.beq r.size 1,FY H b v aZ len i with
  |true,some (n,o)=>K (.lit undef) [(n,o)] [n]
  |_,_=>fU i len 0 fun m=>rm r H (iT (m*aZ) b) v K)
 |a=>rm r H a v K
def F0(Q:ik)(t:TypeId)(parts:List (Nat×SV T.den)):Option (SV T.den):=
 match Q.ty t with
 |some r=>
  match r.kind,r.zero.bind gW with
  |.struct fs,some z=>(match Q.vD fs with
   |some pl=>(AR (fun i=>pl[i]?) (bP z) parts).map .agg
   |none=>none)
  |.array _ e,some z=>(match Q.ty e with
   |some q=>(AR (fun i=>some (i*q.size,q.size)) (bP z) parts).map .agg
   |none=>none)
  |_,_=>none
 |none=>none
def qv(Q:ik)(nm:Nat)(t:TypeId)(len:Nat)(parts:List (Nat×SV T.den))(K:EK T ρ):Tr ρ:=
 match Q.elem t with
 |some r=>
  match (r.zero).bind gW with
  |some z=>
   if 0<r.size∧len*r.size≤2^24∧parts.all (fun p=>decide (p.1<len)&&lK r.agg r.size p.2)=true then
    K (.bu r.size nm 0 none (some len)) [(nm,.arr false (aw (parts.map (·.2))) false 0 (fP (List.replicate len z) parts))] []
   else .no "buildSlice"
  | none => .no "buildSlice"
 | none => .no "buildSlice"
def sQ(Q:ik)(nm:Nat)(t:TypeId)(l c:SV T.den)(K:EK T ρ):Tr ρ:=
 match Q.elemOf t with
 |some (e,r)=>
  match r.zero,T.zero e,decide (0<r.size) with
  |some _,some z,true=>
   gy l fun l=>gy c fun c=>
    .cond (decide (l≤c)&&decide (c*r.bytes≤2^47)&&decide (c<2^62))
     (K (.bu r.size nm 0 (some (0,l)) (some c)) [(nm,.cj false false 0 e (List.replicate c z))] []) .fail
  |_,_,_=>.fail
 |none=>.fail
def sR(Q:ik)(nm:Nat)(t:TypeId)(l:SV T.den)(K:EK T ρ):Tr ρ:=
 match Q.elemOf t with
 |some (e,r)=>
  match r.zero,T.zero e,decide (0<r.size) with
  |some _,some z,true=>
   gy l fun c=>.cond (decide (c*r.bytes≤2^47)&&decide (c<2^62)) (K (.bu r.size nm 0 none (some c)) [(nm,.cj false false 0 e (List.replicate c z))] []) .fail
  |_,_,_=>.fail
 |none=>.fail
def Lz:Operand→Operand→Bool
 |.tmp a,.tmp b=>Nat.beq a b
 |_,_=>false
def nD(H:ai T.den)(n c:Nat)(rg:Option (Nat×Nat)):Option (Nat×Nat):=
 match rg with
 |some q=>some q
 |none=>match H[n]? with
  |some (some o)=>if Nat.beq c o.cur then some (0,o.len) else none
  |_=>none
def vI:Option (SV T.den)→Option (Option AV)
 |none=>some none
 |some v=>(nC v).map some
def Rj(Q:ik)(H:ai T.den)(t:TypeId)(x:SV T.den)(lo hi mx:Option (SV T.den))(K:EK T ρ):Tr ρ:=
 match x with
 |.lit v=>(match vI lo,vI hi,vI mx with
  |some l,some h,some m=>(match nK Q.P t (.lit v) l h m with
   |some (.lit v)=>K (.lit v) [] []
   |some .nz=>K .nz [] []
   | _ => .no "via")
  | _, _, _ => .no "index")
 |.sl xs=>
  (match Q.elem t,mx with
  |some r,none=>jJ 0 lo fun l=>jJ xs.length hi fun h=>
   fU l (xs.length+1) 0 fun l=>fU h (xs.length+1) 0 fun h=>
    (match decide (l≤h)&&decide (h≤xs.length)&&xs.all (lK r.agg r.size) with
    |true=>K (.sl ((xs.drop l).take (h-l))) [] []
    | false => .no "index")
  | _, _ => .no "index")
 |.jT t' l=>
  (match Q.elem t,mx with
  |some r,none=>(match decide (r.agg=T.agg t')&&decide (r.size=T.size t') with
   |true=>(match lo,hi with
    |none,none=>K (.jT t' l) [] []
    |some lo,none=>gy lo fun a=>.cond (decide (a≤l.length)) (K (.jT t' (l.drop a)) [] []) .fail
    |none,some hi=>gy hi fun b=>.cond (decide (b≤l.length)) (K (.jT t' (l.take b)) [] []) .fail
    |some lo,some hi=>gy lo fun a=>gy hi fun b=>
     .cond (decide (a≤b)&&decide (b≤l.length)) (K (.jT t' ((l.drop a).take (b-a))) [] []) .fail)
   | false => .no "index")
  |some r,some mx=>(match decide (r.agg=T.agg t')&&decide (r.size=T.size t'),hi with
   |true,some hi=>(match lo.isNone&&(Vq hi&&Vq mx) with
    |true=>K .nz [] []
    |false=>jJ 0 lo fun a=>gy hi fun b=>gy mx fun m=>
    .cond (decide (a≤b)&&decide (b≤m)&&decide (m≤l.length)&&decide (a<m)) (K (.xB t' ((l.drop a).take (b-a)) (m-a) (!l.isEmpty)) [] []) .fail)
   | _, _ => .no "index")
  | _, _ => .no "index")
 |.bu esz n c rg cap=>
  (match Q.elem t,mx,nD H n c rg,H[n]? with
  |some r,none,some (off,len),some (some o)=>(match Nat.beq c o.cur&&decide (esz=r.size) with
   |true=>jJ 0 lo fun a=>jJ len hi fun b=>
    .cond (decide (a≤b)&&decide (b≤cap.getD (o.len-off))&&decide (0<o.len))
     (K (.bu esz n c (some (off+a,b-a)) (cap.map (·-a))) [] []) .fail
   | false => .no "index")
  |some r,some mx,some (off,len),some (some o)=>(match Nat.beq c o.cur&&decide (esz=r.size),hi with
   |true,some hi=>jJ 0 lo fun a=>gy hi fun b=>gy mx fun m=>
    .cond (decide (a≤b)&&decide (b≤m)&&decide (m≤cap.getD (o.len-off))&&decide (0<o.len))
     (K (.bu esz n c (some (off+a,b-a)) (some (m-a))) [] []) .fail
   | _, _ => .no "index")
  | _, _, _, _ => .no "index")
 |.ref n c i j=>(match Q.arr t,mx with
  |some (len,r),none=>jJ 0 lo fun l=>jJ len hi fun h=>
   fU l len 0 fun l=>fU h (len+1) 0 fun h=>(match decide (l≤h) with
    |true=>K (.jt n c i (j+l*r.size) (h-l) (len-l)) [] []
    |false=>.fail)
  | _, _ => .no "index")
 | _ => .no "index"
def LA(Q:ik)(t:TypeId)(x:SV T.den)(K:EK T ρ):Tr ρ:=
 match Q.arr t,x with
 |some (len,_),.jt n c i j l _=>(match decide (len≤l) with
  |true=>K (.ref n c i j) [] []
  |false=>.fail)
 | _, _ => .no "an array"
def sS(Q:ik)(ur:Bool)(H:ai T.den)(t:TypeId)(x ix:SV T.den)(K:EK T ρ):Tr ρ:=
 gy ix fun i=>
  match x with
  |.sl xs=>(match Q.elem t with
   |some r=>fU i xs.length 0 fun m=>(match xs[m]? with
    |some e=>(match lK r.agg r.size e with
     |true=>K (.bk e 0) [] []
     | false => .no "index")
    | none => .no "index")
   | none => .no "index")
  |.jT t' l=>(match Q.elem t with
   |some r=>(match decide (r.agg=T.agg t')&&decide (r.size=T.size t') with
    |true=>.bind l[i]? fun x=>Vr t' x fun v=>K (.bk v 0) [] []
    | false => .no "index")
   | none => .no "index")
  |.bu esz n c rg _=>(match Q.elem t with
   |some r=>(match decide (0<r.size)&&decide (esz=r.size),nD H n c rg,H[n]? with
    |true,some (off,len),some (some (.arr ..))=>fU i len 0 fun m=>K (.ref n c (off+m) 0) [] []
    |true,some (off,len),some (some (.cj ..))=>.cond (decide (i<len)) (K (.ref n c (off+i) 0) [] []) .fail
    | _, _, _ => .no "index")
   | none => .no "index")
  |.jt n c k j len _=>(match Q.elem t with
   |some r=>fU i len 0 fun m=>K (.ref n c k (j+m*r.size)) [] []
   | none => .no "index")
  |.ref n c k j=>(match Q.arr t with
   |some (len,r)=>(match ur with
    |true=>.cond (decide (i<len)) (K (.tz (.ref n c k j) r.size len i) [] []) .fail
    |false=>fU i len 0 fun m=>K (.ref n c k (j+m*r.size)) [] [])
   | none => .no "index")
  |.bk e j=>(match Q.arr t with
   |some (len,r)=>(match ur with
    |true=>.cond (decide (i<len)) (K (.tz (.bk e j) r.size len i) [] []) .fail
    |false=>fU i len 0 fun m=>K (.bk e (j+m*r.size)) [] [])
   | none => .no "index")
  | _ => .no "index"
def F1(Q:ik)(ur:Bool)(t:TypeId)(x ix:SV T.den)(K:EK T ρ):Tr ρ:=
 match x with
 |.lit v=>(match nC ix with
  |some i=>pn (uU Q.P t (.lit v) i) K
  | none => .no "index")
 |.agg l=>
  (match Q.arr t with
  |some (n,r)=>gy ix fun i=>(match ur&&!r.agg&&Nat.beq r.size 1,(gX (.agg l) 0 1 n).bind (Ly i) with
   |true,some x=>.cond (decide (i<n)) (K x [] []) .fail
   |_,_=>fU i n 0 fun m=>yG (og r.agg r.size (.agg l) (m*r.size)) [] K)
  | none => .no "index")
 | _ => .no "index"
inductive Src(den:Nat→Type)where
 |mv (l:List (SV den)) (cl:Bool)
 |zU (t:Nat) (l:List (den t))
def OD(Q:ik)(H:ai T.den)(xt:TypeId)(x:SV T.den)(K:Src T.den→List Nat→Tr ρ):Tr ρ:=
 match Q.isSlice xt with
 |some true=>(match x with
  |.lit (.slice none 0 0)=>K (.mv [] true) []
  |.sl xs=>K (.mv xs true) []
  |.jT t l=>K (.zU t l) []
  |.bu _ n c rg _=>(match H[n]? with
   |some (some (.arr _ cl _ cur es))=>(match Nat.beq c cur with
    |true=>(match rg with
     |none=>K (.mv es cl) [n]
     |some (off,len)=>if off+len≤es.length then K (.mv ((es.drop off).take len) cl) [n] else .fail)
    | _ => .no "append source")
   |some (some (.cj _ _ cur t l))=>(match Nat.beq c cur with
    |true=>(match rg with
     |none=>K (.zU t l) [n]
     |some (off,len)=>.cond (decide (off+len≤l.length)) (K (.zU t ((l.drop off).take len)) [n]) .fail)
    | _ => .no "append source")
   | _ => .no "append source")
  | _ => .no "append source")
 | _ => .no "append source"
def Src.ok(T:dP)(r:kD):Src T.den→Bool
 |.mv l _=>l.all (lK r.agg r.size)
 |.zU t _=>decide (r.agg=T.agg t)&&decide (r.size=T.size t)
def Src.len{den:Nat→Type}:Src den→Nat
 |.mv l _=>l.length
 |.zU _ l=>l.length
def se(r:kD)(n:Nat):Bool:=decide (n*r.bytes≤2^44)&&decide (n≤2^44)
def qw(T:dP)(cur:Nat):aE T.den→Src T.den→Option (aE T.den)
 |.arr _ cl f _ es,.mv ys Ze=>some (.arr true (cl&&Ze) f cur (es++ys))
 |.arr _ true f _ es,.zU t l=>(pk T t es).map fun l0=>.cj true f cur t (l0++l)
 |.cj _ f _ t l,.mv ys true=>(pk T t ys).map fun l2=>.cj true f cur t (l++l2)
 |.cj _ f _ t l,.zU t' l2=>if h:t'=t then some (.cj true f cur t (l++AQ h l2)) else none
 |_,_=>none
def aE.flags{den:Nat→Type}:aE den→Bool×Bool×Bool
 |.arr g cl f _ _=>(g,cl,f)
 |.cj g f _ _ _=>(g,true,f)
 |.iB|.kO _ _ _=>(false,true,true)
 |.pA _ _ _ _ _=>(false,false,true)
def aE.yH(T:dP)(r:kD):aE T.den→Bool
 |.arr _ _ _ _ es=>es.all (lK r.agg r.size)
 |.cj _ _ _ t _=>decide (r.agg=T.agg t)&&decide (r.size=T.size t)
 |_=>false
def yI{den:Nat→Type}:Src den→aE den
 |.mv l cl=>.arr true cl false 0 l
 |.zU t l=>.cj true false 0 t l
def oU(T:dP)(y:Src T.den)(a b:Tr ρ):Tr ρ:=
 match y with
 |.mv l _=>(match l with
  |[]=>a
  |_::_=>b)
 |.zU _ l=>.cond l.isEmpty a b
def IE{α:Type}(l:List α)(i:Nat)(ys:List α):List α:=l.take i++(ys++l.drop (i+ys.length))
def vJ(T:dP):aE T.den→Nat→Src T.den→Option (aE T.den)
 |.cj g f cur t l,i,.zU t' l2=>if h:t'=t then some (.cj g f cur t (IE l i (AQ h l2))) else none
 |.cj g f cur t l,i,.mv ys true=>(pk T t ys).map fun l2=>.cj g f cur t (IE l i l2)
 |_,_,_=>none
def BX(Q:ik)(nm:Nat)(H:ai T.den)(t xt:TypeId)(s x:SV T.den)(K:EK T ρ):Tr ρ:=
 match Q.elem t with
 | none => .no "append"
 |some r=>OD Q H xt x fun y rd=>
  match (r.zero).isSome&&decide (0<r.size)&&y.ok T r with
  | false => .no "append"
  |true=>(match s with
   |.lit (.slice none 0 0)=>oU T y (K s [] rd)
     (.cond (se r y.len) (K (.bu r.size nm 0 none none) [(nm,yI y)] rd) .fail)
   |.nz=>oU T y (K s [] rd)
     (.cond (se r y.len) (K (.bu r.size nm 0 none none) [(nm,yI y)] rd) .fail)
   |.sl _|.jT _ _=>oU T y (K s [] rd) .fail
   |.xB t' l c b=>oU T y (K (.jT t' l) [] rd)
     (.cond (b&&decide (c<l.length+y.len)&&se r (l.length+y.len))
       (match decide (r.agg=T.agg t')&&decide (r.size=T.size t'),qw T 0 (.cj true false 0 t' l) y with
       |true,some o'=>K (.bu r.size nm 0 none none) [(nm,o')] rd
       | _, _ => .no "append") .fail)
   |.bu esz n c rg cap=>(match H[n]? with
    |some (some o)=>(match Nat.beq c o.cur&&!o.flags.2.2&&decide (esz=r.size) with
     |true=>(match cap,rg with
      |none,none=>(match y with
       |.mv [] _=>K s [] rd
       |_=>(match o.flags.1,qw T (o.cur+1) o y with
        |true,some o'=>.cond (se r (o.len+y.len)) (K (.bu esz n (o.cur+1) none none) [(n,o')] (n::rd)) .fail
        | _, _ => .no "append"))
      |some k,none=>oU T y (K s [] rd)
       (.cond (decide (o.len+y.len≤k)) .fail
         (match o.yH T r,qw T 0 o y with
         |true,some o'=>.cond (se r (o.len+y.len)) (K (.bu esz nm 0 none none) [(nm,o')] (n::rd)) .fail
         | _, _ => .no "append"))
      |some k,some (off,len)=>(match vJ T o (off+len) y with
        |some o'=>.cond (decide (len+y.len≤k)&&decide (off+len+y.len≤o.len)) (K (.bu esz n c (some (off,len+y.len)) (some k)) [(n,o')] (n::rd)) .fail
        | none => .no "append")
      | _, _ => .no "append")
     | false => .no "append")
    | _ => .no "append")
   | _ => .no "append")
def LB(Q:ik)(H:ai T.den)(t:TypeId)(d x:SV T.den)(K:EK T ρ):Tr ρ:=
 match Q.elem t,Q.isSlice t with
 |some r,some true=>OD Q H t x fun y rd=>(match y.ok T r&&decide (0<r.size),d with
  |true,.bu esz n c rg _=>(match nD H n c rg,H[n]? with
   |some (off,len),some (some o)=>(match Nat.beq c o.cur&&!o.flags.2.2&&decide (esz=r.size),vJ T o off y with
    |true,some o'=>.cond (decide (off+len≤o.len)&&decide (y.len≤len)) (K (.lit (.int .i64 y.len)) [(n,o')] (n::rd)) .fail
    | _, _ => .no "copy")
   | _, _ => .no "copy")
  | _, _ => .no "copy")
 | _, _ => .no "copy"
def Rk(Q:ik)(H:ai T.den)(argTypes:Array TypeId)(type:TypeId)(x:SV T.den)(K:EK T ρ):Tr ρ:=
 match argTypes.toList with
 |[t]=>(match Q.isSlice t with
  |some true=>(match x with
   |.lit (.slice none 0 0)=>K (.lit (.int .i64 0)) [] []
   |.nz=>K (.lit (.int .i64 0)) [] []
   |.sl xs=>K (.lit (.int .i64 xs.length)) [] []
   |.jT _ l|.xB _ l _ _=>K (.lit (.int .i64 l.length)) [] []
   |.bu _ n c rg _=>(match nD H n c rg with
    |some (_,len)=>K (.lit (.int .i64 len)) [] []
    | none => .no "builtin")
   |.jt _ _ _ _ len _=>K (.lit (.int .i64 len)) [] []
   | _ => .no "builtin")
  | none => .no "builtin"
  |some false=>(match x with
   | .lit (.slice none 0 0) => .no "builtin"
   |.lit v=>pn ((bz Q.P (Builtin.len_ argTypes type #[v])).bind hY) K
   |.agg _|.ref ..|.bk ..=>(match Q.arr t with
    |some (n,_)=>K (.lit (.int .i64 n)) [] []
    | none => .no "builtin")
   | _ => .no "builtin"))
 | _ => .no "builtin"
def yJ(Q:ik)(nm:Nat)(H:ai T.den)(b:Builtin)(argTypes:Array TypeId)(type:TypeId)(args:List (SV T.den))(K:EK T ρ):Tr ρ:=
 match b with
 |.append=>(match argTypes.toList,args with
  |[t,xt],[s,x]=>BX Q nm H t xt s x K
  | _, _ => .no "builtin")
 |.copy=>(match argTypes.toList,args with
  |[t,_],[d,x]=>LB Q H t d x K
  | _, _ => .no "builtin")
 |.len=>(match args with
  |[x]=>Rk Q H argTypes type x K
  | _ => .no "builtin")
 |.max=>(match nd args with
  |some vs=>pn ((bz Q.P (Builtin.max_ argTypes type vs.toArray)).bind hY) K
  | none => .no "builtin")
 |.min=>(match nd args with
  |some vs=>pn ((bz Q.P (Builtin.min_ argTypes type vs.toArray)).bind hY) K
  | none => .no "builtin")
 | _ => .no "builtin"
def Rl(op:BinOp)(k:IntKind)(a b:Int):Option Value:=
 match op with
 |.lss=>some (.bool (decide (a<b)))
 |.leq=>some (.bool (decide (a≤b)))
 |.gtr=>some (.bool (decide (b<a)))
 |.geq=>some (.bool (decide (b≤a)))
 |.eql=>some (.bool (a==b))
 |.neq=>some (.bool (!(a==b)))
 |.add=>some (.int k (k.wrap (a+b)))
 |.sub=>some (.int k (k.wrap (a-b)))
 |.mul=>some (.int k (k.wrap (a*b)))
 |_=>none
def Rm(op:BinOp)(k:IntKind)(a b:Int):Option Value:=
 match op with
 |.quo=>some (.int k (k.wrap (a.tdiv b)))
 |.rem=>some (.int k (a.tmod b))
 |_=>none
def WU(op:BinOp)(k:IntKind)(a b:Int):Option Value:=
 match op with
 |.shl=>some (.int k (k.wrap (a*2^min b.toNat k.bits)))
 |.shr=>some (.int k (a.fdiv (2^min b.toNat k.bits)))
 |_=>none
def TL:Operand→Bool
 |.tmp _=>true
 |_=>false
def CK.fits:CK→Value→Bool
 |.bool,.bool _=>true
 |.int k,.int k' _=>decide (k=k')
 |.str,.string _=>true
 |_,_=>false
def bo:List CK→List Value→Bool
 |[],[]=>true
 |k::ks,v::vs=>k.fits v&&bo ks vs
 |_,_=>false
def sT:Value→Value→Bool
 |.bool a,.bool b=>a==b
 |.int _ a,.int _ b=>a==b
 |.string a,.string b=>a==b
 |_,_=>false
def cV:List Value→List Value→Bool
 |[],[]=>true
 |x::xs,y::ys=>sT x y&&cV xs ys
 |_,_=>false
def xC(x y:Value)(K:Bool→Tr ρ):Tr ρ:=
 match x,y with
 |.bool a,.bool b=>K (a==b)
 |.int _ a,.int _ b=>K (a==b)
 |.string a,.string b=>K (a==b)
 |_,_=>K false
def lL:List Value→List Value→(Bool→Tr ρ)→Tr ρ
 |[],[],K=>K true
 |[x],[y],K=>xC x y K
 |x::x'::xs,y::y'::ys,K=>xC x y fun e=>lL (x'::xs) (y'::ys) fun r=>K (e&&r)
 |_,_,K=>K false
def F2(Q:ik)(op:BinOp)(t:TypeId)(l l':List (SV T.den))(K:EK T ρ):Tr ρ:=
 match nd l,nd l',Q.ty t with
 |some c,some c',some m=>
  (match m.PS with
  |some ks=>(match m.agg&&bo ks c&&bo ks c' with
   |true=>lL c c' fun e=>(match op with
    |.eql=>K (.lit (.bool e)) [] []
    |.neq=>K (.lit (.bool (!e))) [] []
    | _ => .no "==")
   | false => .no "==")
  | none => .no "==")
 | _, _, _ => .no "=="
def Rn(Q:ik)(op:BinOp)(t:TypeId)(xo yo:Operand)(x y:SV T.den)(K:EK T ρ):Tr ρ:=
 match x,y with
 |.lit (.int k a),.lit (.int k' b)=>(match decide (k=k'),Rl op k a b with
  |true,some v=>K (.lit v) [] []
  |_,_=>(match decide (k=k'),Rm op k a b with
   |true,some v=>.cond (decide (b=0)) .fail (K (.lit v) [] [])
   |_,_=>(match TL yo,WU op k a b with
    |true,some v=>.cond (decide (b<0)) .fail (K (.lit v) [] [])
    |_,_=>pn (fR Q.P op t xo yo (.lit (.int k a)) (.lit (.int k' b))) K)))
 |.agg l,.agg l'=>F2 Q op t l l' K
 |_,_=>(match nC x,nC y with
  |some a,some b=>pn (fR Q.P op t xo yo a b) K
  |_,_=>(match y with
   |.lit b=>pn (BV Q.P op t x b) K
   |_=>(match x with
    |.lit a=>pn (BV Q.P op t y a) K
    |_=>.fail)))
def LC(t:Bool)(a b:SV T.den)(K:EK T ρ):Tr ρ:=
 match a,b with
 |.lit (.bool x),.lit (.bool y)=>K (.lit (.bool (cond t x y))) [] []
 |.lit (.int k x),.lit (.int k' y)=>if k=k' then K (.lit (.int k (cond t x y))) [] [] else .cond t (K a [] []) (K b [] [])
 |_,_=>.cond t (K a [] []) (K b [] [])
def BZ(c:Bool)(v:SV T.den)(b:Bool):SV T.den:=
 match c with
 |true=>.jU [v,.lit (.bool b)]
 |false=>v
def uv{kk rK:KK}{t t':Nat}(h:kk=rK∧t=t')(m:List (kk.D×T.den t)):List (rK.D×T.den t'):=by
 obtain⟨rfl,rfl⟩:=h; exact m
def B0(Q:ik)(H:ai T.den)(t:TypeId)(x ix:SV T.den)(c:Bool)(K:EK T ρ):Tr ρ:=
 match Q.mapOf t with
 |some (kk,et)=>(match (Q.ty et).bind (·.zero),T.zero et,ix with
  |some _,some z,.lit k=>(match kk.get k,x with
   |some _,.lit (.map none)=>K (BZ c (T.up et z) false) [] []
   |some k',.mp false n=>(match H[n]? with
    |some (some (.kO rK t' m))=>
     if h:rK=kk∧t'=et then
      K (BZ c (T.up et ((lh kk (uv h m) k').getD z)) (lh kk (uv h m) k').isSome) [] [n]
     else .no "map"
    | _ => .no "map")
   | _, _ => .no "map")
  | _, _, _ => .no "map")
 | none => .no "map"
def sU(Q:ik)(H:ai T.den)(t:TypeId)(x ix v:SV T.den)(K:EK T ρ):Tr ρ:=
 match Q.mapOf t with
 |some (kk,_)=>(match ix,x with
  |.lit k,.mp false n=>(match kk.get k,H[n]? with
   |some k',some (some (.kO rK t' m))=>
    (match bV v,T.dn t' v with
    | false, some y => if h : rK = kk ∧ t' = t' then K (.lit undef) [(n, .kO kk t' (nA kk (uv h m) k' y))] [n] else .no "map"
    | _, _ => .no "map")
   | _, _ => .no "map")
  | _, _ => .no "map")
 | none => .no "map"
def yK(Q:ik)(nm:Nat)(t:TypeId)(r:Option (SV T.den))(K:EK T ρ):Tr ρ:=
 match Q.mapOf t with
 |some (kk,et)=>jJ 0 r fun _=>K (.mp false nm) [(nm,.kO kk et [])] []
 | none => .no "map"
def OE(Q:ik)(nm:Nat)(H:ai T.den)(ev:Operand→SV T.den)(o:Oper)(K:EK T ρ):Tr ρ:=
 match o.op with
 |.move x|.assign x=>K (ev x) [] []
 |.pick c a b=>(match ev c with
  |.lit (.bool t)=>LC t (ev a) (ev b) K
  | _ => .no "pick")
 |.alloc t=>(match Q.ty t with
  |some r=>(match (r.zero).bind gW with
   |some z=>if 0<r.size then K (.ref nm 0 0 0) [(nm,.arr false true false 0 [z])] [] else .fail
   |none=>.fail)
  |none=>.fail)
 |.box _ x=>
  if (bP (ev x)).all gU=true∧0<(bP (ev x)).length∧bV (ev x)=false then
   K (.ref nm 0 0 0) [(nm, .arr false (aw (bP (ev x))) false 0 [ev x])] [] else .no "box"
 | .build t parts => if ((parts.toList.map fun p => (p.1, ev p.2)).any fun p => bV p.2) = true then .no "build" else yG (F0 Q t (parts.toList.map fun p => (p.1, ev p.2))) [] K
 | .buildSlice t len parts => if ((parts.toList.map fun p => (p.1, ev p.2)).any fun p => bV p.2) = true then .no "build" else qv Q nm t len (parts.toList.map fun p => (p.1, ev p.2)) K
 |.load t a=>(match Q.ty t with
  |some r=>Hp r H (ev a) K
  |none=>.fail)
 |.store t a x=>(match Q.ty t with
  |some r=>FZ r H (ev a) (ev x) K
  |none=>.fail)
 |.nilCheck x=>(match ev x with
  |.ref n c i j=>K (.ref n c i j) [] []
  |.bk e j=>K (.bk e j) [] []
  |.gH t y=>K (.gH t y) [] []
  |.ju (.func f) a c=>K (.ju (.func f) a c) [] []
  |.lit (.func (.func f) a c)=>K (.lit (.func (.func f) a c)) [] []
  | _ => .no "nilCheck")
 |.binOp op t x y _=>Rn Q op t x y (ev x) (ev y) K
 |.unOp op _ x=>(match ev x with
  |.lit a=>pn ((bz Q.P (Op.unary op a)).bind hY) K
  | _ => .no "unOp")
 |.convert s d x=>(match ev x with
  |.lit a=>pn ((bz Q.P (convert s d a)).bind hY) K
  | _ => .no "convert")
 |.makeInterface t x=>if (jY Q.P t||(Q.P.underlying t).isNone||bV (ev x))=true then .fail else K (.gH t (ev x)) [] []
 |.makeFunc fn first captured=>
  if first.isEmpty&&captured.isEmpty then K (.lit (.func fn #[] #[])) [] []
  else if (first.toList.map ev).any bV||(captured.toList.map ev).any bV then .fail
  else K (.ju fn (first.toList.map ev) (captured.toList.map ev)) [] []
 |.makeSlice t l c=>(match Lz l c with
  |true=>sR Q nm t (ev l) K
  |false=>sQ Q nm t (ev l) (ev c) K)
 |.slice t x lo hi mx=>Rj Q H t (ev x) (lo.map ev) (hi.map ev) (mx.map ev) K
 |.sliceToArrayPointer t x=>LA Q t (ev x) K
 |.fieldAddr s x f=>(match Q.Vp s f,ev x with
  |some (off,_),.ref n c i j=>K (.ref n c i (j+off)) [] []
  |some (off,_),.bk e j=>K (.bk e (j+off)) [] []
  |some (off,_),.tz v aZ len i=>K (.tz (iT off v) aZ len i) [] []
  | _, _ => .no "fieldAddr")
 |.field s x f=>(match Q.Vp s f,ev x with
  |some (off,r),.agg l=>yG (og r.agg r.size (.agg l) off) [] K
  | _, _ => .no "field")
 |.indexAddr t x ix=>sS Q (match o.dst with|some d=>Q.ur d|none=>false) H t (ev x) (ev ix) K
 |.index t x ix=>F1 Q (match o.dst with|some d=>Q.ur d|none=>false) t (ev x) (ev ix) K
 |.makeMap t r=>yK Q nm t (r.map ev) K
 |.lookup t x ix c=>B0 Q H t (ev x) (ev ix) c K
 |.mapUpdate t m k x=>sU Q H t (ev m) (ev k) (ev x) K
 |.extract t ix=>(match ev t with
  |.jU l=>yG l[ix]? [] K
  | _ => .no "extract")
 |.call c=>(match c.callee with
  |.builtin b=>yJ Q nm H b c.argTypes o.type (c.args.toList.map ev) K
  | _ => .no "call")
 | _ => .no "op"
end
section
variable {T:dP}{ρ:Type}
def OF(dst:Option Tmp)(wf:List Nat):List Nat:=
 match dst with
 |some d=>d::wf
 |none=>wf
def bC.step(s:bC T.den)(dst:Option Tmp)(v:SV T.den)(wr:List (Nat×aE T.den)):bC T.den:=
 { s with fr:=Lx s.n s.fr dst v,hp:=bh s.hp wr,wf:=OF dst s.wf,wh:=wr.map (·.1)++s.wh }
def yL(v:Value)(K:Value→Tr ρ):Tr ρ:=
 match v with
 |.int k n=>K (.int k n)
 |.bool b=>K (.bool b)
 |.string s=>K (.string s)
 |v=>K v
mutual
def dQ:SV T.den→(SV T.den→Tr ρ)→Tr ρ
 |.lit v,K=>yL v fun v=>K (.lit v)
 |.agg l,K=>mw l fun l=>K (.agg l)
 |.jU l,K=>mw l fun l=>K (.jU l)
 |.sl l,K=>mw l fun l=>K (.sl l)
 |.bk e j,K=>dQ e fun e=>K (.bk e j)
 |.ju fn f c,K=>mw f fun f=>mw c fun c=>K (.ju fn f c)
 |.gH t v,K=>dQ v fun v=>K (.gH t v)
 |.dead,K=>K .dead
 |.hole,K=>K .hole
 |.jT t l,K=>K (.jT t l)
 |.ref n c i j,K=>K (.ref n c i j)
 |.jt n c i j ln cp,K=>K (.jt n c i j ln cp)
 |.bu esz n c rg cap,K=>K (.bu esz n c rg cap)
 |.mp y n,K=>K (.mp y n)
 |.xB t l c b,K=>K (.xB t l c b)
 |.nz,K=>K .nz
 |.tz v s len i,K=>dQ v fun v=>K (.tz v s len i)
def mw:List (SV T.den)→(List (SV T.den)→Tr ρ)→Tr ρ
 |[],K=>K []
 |x::xs,K=>dQ x fun x=>mw xs fun xs=>K (x::xs)
end
def LD(o:aE T.den)(K:aE T.den→Tr ρ):Tr ρ:=
 match o with
 |.arr g cl f c es=>mw es fun es=>K (.arr g cl f c es)
 |.cj g f c t l=>K (.cj g f c t l)
 |.iB=>K .iB
 |.kO kk t m=>K (.kO kk t m)
 |.pA fn ps as bd fr=>mw fr fun fr=>K (.pA fn ps as bd fr)
def nE:ai T.den→(ai T.den→Tr ρ)→Tr ρ
 |[],K=>K []
 |none::r,K=>nE r fun r=>K (none::r)
 |some o::r,K=>LD o fun o=>nE r fun r=>K (some o::r)
def sV:List Nat→(List Nat→Tr ρ)→Tr ρ
 |[],K=>K []
 |x::r,K=>sV r fun r=>K (x::r)
def B1:tA T.den→(tA T.den→Tr ρ)→Tr ρ
 |[],K=>K []
 |(d,v)::r,K=>dQ v fun v=>B1 r fun r=>K ((d,v)::r)
def bC.force(s:bC T.den)(K:bC T.den→Tr ρ):Tr ρ:=
 match s with
 |⟨fn,n,fr,hp,wf,wh,js⟩=>B1 fr fun fr=>nE hp fun hp=>sV wf fun wf=>sV wh fun wh=>K ⟨fn,n,fr,hp,wf,wh,js⟩
def F3(hp:ai T.den)(wh:List Nat)(wr:List (Nat×aE T.den))(K:ai T.den→List Nat→Tr ρ):Tr ρ:=
 match wr with
 |[]=>K hp wh
 |w::r=>nE (bh hp (w::r)) fun hp=>sV ((w::r).map (·.1)++wh) fun wh=>K hp wh
def bC.fL(s:bC T.den)(dst:Option Tmp)(v:SV T.den)(wr:List (Nat×aE T.den))(K:bC T.den→Tr ρ):Tr ρ:=
 match s with
 |⟨fn,n,fr,hp,wf,wh,js⟩=>F3 hp wh wr fun hp wh=>
  match dst with
  |none=>K ⟨fn,n,fr,hp,wf,wh,js⟩
  |some d=>(match Nat.ble n d with
   |true=>K ⟨fn,n,fr,hp,d::wf,wh,js⟩
   |false=>dQ v fun v=>K ⟨fn,n,(d,v)::fr,hp,d::wf,wh,js⟩)
def oV(ops:Array Oper):List Oper→(List (G×Oper)→Tr ρ)→Tr ρ
 |[],K=>K []
 |o::r,K=>(match fp ops o with
  |.always=>oV ops r fun l=>K ((.always,o)::l)
  |.never=>oV ops r fun l=>K ((.never,o)::l)
  |.on d w=>oV ops r fun l=>K ((.on d w,o)::l))
def xD(g:G)(s:bC T.den)(K:bC T.den→Bool→Tr ρ):Tr ρ:=
 match g with
 |.always=>K s true
 |.never=>K s false
 |.on d want=>(match cU s.fr d with
  |.lit (.bool b)=>.cond b (s.fL (some d) (.lit (.bool true)) [] fun s=>K s (true==want)) (s.fL (some d) (.lit (.bool false)) [] fun s=>K s (false==want))
  |.lit (.tuple _)=>K s false
  | _ => .no "guard")
def my(fv:SV T.den)(args:List (SV T.den)):Option (FuncId×List (SV T.den)):=
 match fv with
 |.lit (.func (.func f) first captured)=>some (f,first.toList.map .lit++args++captured.toList.map .lit)
 |.ju (.func f) first captured=>some (f,first++args++captured)
 |_=>none
mutual
def gz(T:dP)(H:ai T.den):Nat→SV T.den→(SV T.den→List Nat→Tr ρ)→Tr ρ
 | 0, _, _ => .no "seal"
 |k+1,v,K=>match v with
  |.bu _ n c rg _=>(match H[n]? with
   |some (some (.arr _ cl _ cur es))=>(match Nat.beq c cur with
    |true=>(match rg with
     |none=>(match cl with
      |true=>K (.sl es) [n]
      |false=>gA T H k es fun l rd=>K (.sl l) (n::rd))
     |some (off,len)=>if off+len≤es.length then (match cl with
      |true=>K (.sl ((es.drop off).take len)) [n]
      | false => gA T H k ((es.drop off).take len) fun l rd => K (.sl l) (n :: rd)) else .no "seal")
    | false => .no "seal")
   |some (some (.cj _ _ cur t l))=>(match Nat.beq c cur with
    |true=>(match rg with
     |none=>K (.jT t l) [n]
     |some (off,len)=>.cond (decide (off+len≤l.length)) (K (.jT t ((l.drop off).take len)) [n]) .fail)
    | false => .no "seal")
   | _ => .no "seal")
  |.ref n c i j=>(match H[n]? with
   |some (some (.arr _ cl _ cur es))=>(match Nat.beq c cur,es[i]? with
    |true,some e=>(match cl with
     |true=>K (.bk e j) [n]
     |false=>gz T H k e fun e' rd=>K (.bk e' j) (n::rd))
    | _, _ => .no "seal")
   | _ => .no "seal")
  |.jt n c i j ln cp=>(match H[n]? with
   |some (some (.arr _ cl _ cur es))=>(match Nat.beq c cur,es[i]? with
    |true,some (.agg cs)=>(match decide (ln≤cp)&&decide (j+ln≤cs.length) with
     |true=>(match cl with
      |true=>K (.sl ((cs.drop j).take ln)) [n]
      |false=>gA T H k ((cs.drop j).take ln) fun l rd=>K (.sl l) (n::rd))
     | false => .no "seal")
    | _, _ => .no "seal")
   | _ => .no "seal")
  |.agg l=>gA T H k l fun l rd=>K (.agg l) rd
  |.jU l=>gA T H k l fun l rd=>K (.jU l) rd
  |.gH t v=>gz T H k v fun v rd=>K (.gH t v) rd
  |.ju fn f c=>gA T H k f fun f rd=>gA T H k c fun c rd2=>K (.ju fn f c) (rd++rd2)
  |.sl xs=>K (.sl xs) []
  |.jT t l=>K (.jT t l) []
  |.xB t l _ _=>K (.jT t l) []
  |.nz=>K (.sl []) []
  |.bk e j=>K (.bk e j) []
  |.lit v=>(match v with
   |.slice none 0 0=>K (.sl []) []
   |v=>K (.lit v) [])
  | _ => .no "seal"
def gA(T:dP)(H:ai T.den):Nat→List (SV T.den)→(List (SV T.den)→List Nat→Tr ρ)→Tr ρ
 | 0, _, _ => .no "seal"
 |k+1,xs,K=>match xs with
  |[]=>K [] []
  |x::xs=>gz T H k x fun y rd=>gA T H k xs fun ys rd2=>K (y::ys) (rd++rd2)
end
def ng(T:dP)(H:ai T.den):Nat→List Nat→(List (Nat×aE T.den)→List Nat→Tr ρ)→Tr ρ
 | 0, _, _ => .no "seal"
 |k+1,ns,K=>match ns with
  |[]=>K [] []
  |n::r=>(match H[n]? with
   |some (some (.arr g cl _ cur es))=>(match cl with
    |true=>ng T H k r fun l rd=>K ((n,.arr g true true cur es)::l) (n::rd)
    |false=>gA T H 1000 es fun es' rd=>ng T H k (nb es++r) fun l rd2=>K ((n,.arr g true true cur es')::l) (n::rd++rd2))
   |some (some (.cj g _ cur t l))=>ng T H k r fun w rd=>K ((n,.cj g true cur t l)::w) (n::rd)
   | _ => .no "seal")
def IG(T:dP)(σ:vF T)(H:ai T.den)(args:List (SV T.den))(K:EK T ρ):Tr ρ:=
 gA T H 1000 args fun as rd=>
  match (IC T σ.args as).bind (vE (σ.args.map .v)) with
  |some xs=>.bind (σ.fn xs) fun r=>
   match rR (Ri T (gw (σ.res.map .v) r)) with
   |v=>(match wP v with
    |true=>K v [] rd
    |false=>ng T H 1000 (nb args) fun wr rd2=>K v wr (rd++rd2))
  | none => .no "seal"
def OG(T:dP)(σ:wQ T)(nm:Nat)(H:ai T.den)(args:List (SV T.den))(K:EK T ρ):Tr ρ:=
 gA T H 1000 args fun as rd=>
  match (IC T σ.args as).bind (vE (σ.args.map .v)) with
  |some xs=>.bind (σ.fn xs) fun l=>K (.bu σ.esz nm 0 none none) [(nm,.cj true false 0 σ.el l)] rd
  | none => .no "seal"
def gB(n:Nat)(r:SV T.den)(hp:ai T.den):ai T.den:=
 if bx n r&&(hp.take n).all (kC n) then hp.take n else hp
def rn(n:Nat)(v:SV T.den):SV T.den:=if bx n v then v else .dead
def km(n:Nat)(s:bC T.den):bC T.den:=
 if (s.hp.take n).all (kC n) then { s with fr:=s.fr.map fun q=>(q.1,rn n q.2),hp:=s.hp.take n } else s
def sW(T:dP)(Q:ik)(s:bC T.den):List ResultVar→(List (SV T.den)→Tr ρ)→Tr ρ
 |[],K=>K []
 |.tmp t::rs,K=>(match cU s.fr t with
  |.dead=>.fail
  |v=>sW T Q s rs fun l=>K (v::l))
 |.cell a t::rs,K=>(match Q.ty t with
  |some r=>Hp r s.hp (cU s.fr a) fun v _ _=>sW T Q s rs fun l=>K (v::l)
  |none=>.fail)
def keyOf:Code→Nat
 |.region id _ _=>id
 |.seq a _=>keyOf a
 |.cond _ a _=>keyOf a
 |.block _ b|.loop b|.scope b=>keyOf b
 |_=>0
def sX(b:Code)(s:bC T.den):Nat:=keyOf b+1000*s.hp.length
def II(T:dP)(x:TV T.den):Nat:=
 match TK T x with
 |.lit (.int _ m)=>m.toNat
 |_=>0
def isHole{den:Nat→Type}:SV den→Bool
 |.hole=>true
 |_=>false
def gg(H:ai T.den):pC→List (TV T.den)→SV T.den×List (TV T.den)
 |.hole,l=>(.hole,l)
 |.ID esz n rg cap,l=>((match H[n]? with
  |some (some o)=>.bu esz n o.cur rg cap
  |_=>.dead),l)
 |.jt n i j len cap,l=>((match H[n]? with
  |some (some o)=>.jt n o.cur i j len cap
  |_=>.dead),l)
 |.val _,l=>(match l with
  |x::r=>(TK T x,r)
  |[]=>(.dead,[]))
 |.own esz n,l=>((match H[n]? with
  |some (some o)=>.bu esz n o.cur none none
  |_=>.dead),l)
 |.Sy esz n _ k,l=>(match k with
  |false=>(match l with
   |x::y::r=>((match H[n]? with
    |some (some o)=>.bu esz n o.cur (some (II T x,II T y)) none
    |_=>.dead),r)
   |_=>(.dead,[]))
  |true=>(match l with
   |x::y::z::r=>((match H[n]? with
    |some (some o)=>.bu esz n o.cur (some (II T x,II T y)) (some (II T z))
    |_=>.dead),r)
   |_=>(.dead,[])))
def jK(H:ai T.den):List pC→List (TV T.den)→List (SV T.den)×List (TV T.den)
 |[],l=>([],l)
 |p::ps,l=>match gg H p l with
  |(v,l')=>match jK H ps l' with
   |(vs,l'')=>(v::vs,l'')
def nh:aE T.den→c8→aE T.den
 |.arr g _ f c _,.list t=>.cj g f (c+1) t []
 |.cj g f c _ _,.list t=>.cj g f (c+1) t []
 |.arr g _ f c _,.fix t=>.cj g f c t []
 |.cj g f c _ _,.fix t=>.cj g f c t []
 |.kO kk t _,.map _ _=>.kO kk t []
 |o,_=>o
def sf(H:ai T.den):List (Nat×c8)→ai T.den
 |[]=>H
 |(n,p)::r=>match H[n]? with
  |some (some o)=>sf (H.set n (some (nh o p))) r
  |_=>sf H r
def jL(H:ai T.den)(o:aE T.den):c8→List (TV T.den)→aE T.den×List (TV T.den)
 |.list _,l|.fix _,l=>(match o,l with
  |.cj g f c _ _,⟨.l t,x⟩::r=>(.cj g f c t x,r)
  |_,_=>(o,l))
 |.one p,l=>(match o,gg H p l with
  |.arr g cl f c _,(v,r)=>(.arr g cl f c [v],r)
  |_,_=>(o,l))
 |.agg ps,l=>(match o,jK H ps l with
  |.arr g cl f c _,(vs,r)=>(.arr g cl f c [.agg vs],r)
  |_,_=>(o,l))
 |.map _ _,l=>(match o,l with
  |.kO _ _ _,⟨.m kk t,x⟩::r=>(.kO kk t x,r)
  |_,_=>(o,l))
def gC:ai T.den→List (Nat×c8)→List (TV T.den)→ai T.den
 |H,[],_=>H
 |H,(n,p)::r,l=>match H[n]? with
  |some (some o)=>(match jL H o p l with
   |(o',l')=>gC (H.set n (some o')) r l')
  |_=>gC H r l
def ru(n:Nat)(H:ai T.den):tA T.den→List (Nat×pC)→List (TV T.den)→tA T.den×List (TV T.den)
 |fr,[],l=>(fr,l)
 |fr,(d,p)::r,l=>match gg H p l with
  |(v,l')=>ru n H (uq n fr d v) r l'
def AU(n:Nat)(fr:tA T.den):List Nat→tA T.den
 |[]=>fr
 |d::r=>AU n (uq n fr d .dead) r
def IJ:pD→Option (aE T.den)
 |.iB=>some .iB
 |.list g f t=>some (.cj g f 0 t [])
def bf:Nat→List pD→List (Nat×c8)
 |_,[]=>[]
 |n,.iB::r=>bf (n+1) r
 |n,.list _ _ t::r=>(n,.list t)::bf (n+1) r
def dy(aC:List (Nat×pC))(dead:List Nat)(objs:List (Nat×c8))(ext:List pD)(s:bC T.den)(l:List (TV T.den)):bC T.den:=
 match ru s.n (sf s.hp objs++ext.map IJ) (AU s.n s.fr dead) aC l with
 |(fr,l')=>{ s with fr:=fr,hp:=gC (sf s.hp objs++ext.map IJ) (objs++bf s.hp.length ext) l' }
def fV(H:ai T.den)(p:pC)(v:SV T.den):Option (List (TV T.den)):=
 match p with
 |.hole=>(match isHole v with
  |true=>some []
  |false=>none)
 |.ID esz n rg cap=>(match v with
  |.bu yM n' c WV F4=>(match H[n]? with
   |some (some o)=>if yM=esz∧n'=n∧c=o.cur∧WV=rg∧F4=cap then some [] else none
   |_=>none)
  |_=>none)
 |.jt n i j len cap=>(match v with
  |.jt n' c i' j' OH F4=>(match H[n]? with
   |some (some o)=>if n'=n∧c=o.cur∧i'=i∧j'=j∧OH=len∧F4=cap then some [] else none
   |_=>none)
  |_=>none)
 |.val t=>(match bV v with
  |true=>none
  |false=>match T.dn t v with
   |some x=>some [⟨.v t,x⟩]
   |none=>none)
 |.own esz n=>match v with
  |.bu yM n' c none none=>(match H[n]? with
   |some (some o)=>if yM=esz∧n'=n∧c=o.cur then some [] else none
   |_=>none)
  |_=>none
 |.Sy esz n t k=>match v with
  |.bu yM n' c rg cap=>(match H[n]?,nD H n' c rg with
   |some (some o),some (off,len)=>if yM=esz∧n'=n∧c=o.cur then
     (T.dn t (.lit (.int .i64 off))).bind fun x=>(T.dn t (.lit (.int .i64 len))).bind fun y=>(match k,cap with
       |false,none=>some [⟨.v t,x⟩,⟨.v t,y⟩]
       |true,some m=>(T.dn t (.lit (.int .i64 m))).map fun z=>[⟨.v t,x⟩,⟨.v t,y⟩,⟨.v t,z⟩]
       |_,_=>none) else none
   |_,_=>none)
  |_=>none
def iH(H:ai T.den):List pC→List (SV T.den)→Option (List (TV T.den))
 |[],[]=>some []
 |p::ps,v::vs=>(fV H p v).bind fun l=>(iH H ps vs).map fun r=>l++r
 |_,_=>none
def eO(H:ai T.den)(o:aE T.den):c8→Option (List (TV T.den))
 |.list t|.fix t=>(match o with
  |.cj _ _ _ t' l=>if h:t'=t then some [⟨.l t,AQ h l⟩] else none
  |.arr _ true _ _ es=>(pk T t es).map fun l=>[⟨.l t,l⟩]
  |_=>none)
 |.one p=>(match o with
  |.arr _ _ _ _ [v]=>fV H p v
  |_=>none)
 |.agg ps=>(match o with
  |.arr _ _ _ _ [.agg vs]=>iH H ps vs
  |_=>none)
 |.map kk t=>(match o with
  |.kO rK t' m=>if rK=kk∧t'=t then some [⟨.m rK t',m⟩] else none
  |_=>none)
def kE(H:ai T.den):List (Nat×c8)→Option (List (TV T.den))
 |[]=>some []
 |(n,p)::r=>match H[n]? with
  |some (some o)=>(eO H o p).bind fun l=>(kE H r).map fun m=>l++m
  |_=>none
def qx(H:ai T.den)(fr:tA T.den):List (Nat×pC)→Option (List (TV T.den))
 |[]=>some []
 |(d,p)::r=>(fV H p (cU fr d)).bind fun l=>(qx H fr r).map fun m=>l++m
def vK(aC:List (Nat×pC))(objs:List (Nat×c8))(s:bC T.den):Option (List (TV T.den)):=
 (qx s.hp s.fr aC).bind fun l=>(kE s.hp objs).map fun m=>l++m
def rA(H H':ai T.den)(objs:List (Nat×c8)):Bool:=
 objs.all fun q=>match H[q.1]?,H'[q.1]? with
  |some (some o),some (some o')=>decide (o.flags=o'.flags)
  |_,_=>false
def iC(H0 H:ai T.den):List (Nat×c8)→Tr ρ→Tr ρ
 |[],K=>K
 |(n,.fix _)::r,K=>(match H0[n]?,H[n]? with
  |some (some o),some (some o')=>.cond (decide (o'.len=o.len)) (iC H0 H r K) .fail
  | _, _ => .no "fix")
 |_::r,K=>iC H0 H r K
def xE(H0 H:ai T.den)(objs:List (Nat×c8)):Bool:=
 objs.all fun q=>match q.2 with
  |.list _=>true
  |_=>match H0[q.1]?,H[q.1]? with
   |some (some o),some (some o')=>Nat.beq o.cur o'.cur
   |_,_=>false
def subset(a b:List Nat):Bool:=a.all fun x=>b.contains x
def dx:List Nat→Bool
 |[]=>true
 |x::r=>!r.contains x&&dx r
def DH(H:ai T.den):Nat→List pD→Bool
 |_,[]=>true
 |n,e::r=>(match H[n]?,e with
  |some (some o),.iB=>o.flags.2.1
  |some (some o),.list g f _=>decide (o.flags=(g,true,f))
  |_,_=>false)&&DH H (n+1) r
def pC.kP:pC→List Nat
 |.val _|.hole=>[]
 |.own _ n|.Sy _ n _ _|.ID _ n _ _|.jt n _ _ _ _=>[n]
def c8.kP:c8→List Nat
 |.list _|.fix _|.map _ _=>[]
 |.one p=>p.kP
 |.agg ps=>ps.flatMap pC.kP
def sY(kf:Nat)(aC:List (Nat×pC))(objs:List (Nat×c8)):Bool:=
 (aC.flatMap (fun q=>q.2.kP)++objs.flatMap (fun q=>q.2.kP)).all fun n=>Nat.blt n kf||(objs.map (·.1)).contains n
def B2(n:Nat)(aC:List (Nat×pC))(dead:List Nat):Bool:=(aC.map (·.1)++dead).all fun d=>Nat.blt d n
def sZ(aC:List (Nat×pC))(dead:List Nat)(objs:List (Nat×c8))(ext:List pD)(s0 s:bC T.den):Bool:=
 B2 s0.n aC dead&&sY s0.hp.length aC (objs++bf s0.hp.length ext)&&subset s.wf (aC.map (·.1)++dead)&&subset (s.wh.filter fun n=>decide (n<s0.hp.length)) (objs.map (·.1)) &&
  decide (s.hp.length=s0.hp.length+ext.length)&&rA s0.hp s.hp objs&&xE s0.hp s.hp objs&&DH s.hp s0.hp.length ext
def Hq(H:ai T.den)(l:List (Nat×c8)):Bool:=l.all fun q=>match H[q.1]?,q.2 with
 |some (some (.arr _ _ _ _ [_])),.one _=>true
 |some (some (.arr _ _ _ _ [_])),.agg _=>true
 |_,_=>false
def IK(h:Hint)(s0 s:bC T.den)(kind:Option Nat)(o:BW):Option (HL T.den (o.kl h.objs)):=
 match decide (o.kind=kind)&&decide (s.js=o.js)&&(sZ o.aC (h.aC.map (·.1)++h.dead) (jI h.objs o.more) o.ext s0 s&&(dx ((jI h.objs o.more).map (·.1))&&Hq s0.hp o.more)) with
 |true=>(vK o.aC ((jI h.objs o.more)++bf s0.hp.length o.ext) s).bind (vE (o.kl h.objs))
 |false=>none
def uw(key:Nat)(h:Hint)(s0 s:bC T.den)(kind:Option Nat):(l:List BW)→(zT T.den h.objs l→Tr ρ)→Tr ρ
 |[],_=>.bad key (some kind) s0 s
 |[o],K=>(match IK h s0 s kind o with
  |some x=>iC s0.hp s.hp h.objs (K x)
  |none=>.bad key (some kind) s0 s)
 |o::p::r,K=>(match IK h s0 s kind o with
  |some x=>iC s0.hp s.hp h.objs (K (.inl x))
  |none=>uw key h s0 s kind (p::r) fun x=>K (.inr x))
def kn(h:Hint)(s:bC T.den)(o:BW)(x:HL T.den (o.kl h.objs)):bC T.den:=
 let s':=dy o.aC (h.aC.map (·.1)++h.dead) (jI h.objs o.more) o.ext s (gw (o.kl h.objs) x)
 { s' with wf:=o.aC.map (·.1)++(h.aC.map (·.1)++(h.dead++s.wf)),wh:=(jI h.objs o.more).map (·.1)++s.wh,js:=o.js }
def B3(s:bC T.den)(kind:Option Nat):pB T.den:=
 match kind with
 |some id=>.exit id s
 |none=>.ret s
def uS(h:Hint)(s:bC T.den):(l:List BW)→zT T.den h.objs l→(pB T.den→Tr ρ)→Tr ρ
 |[],_,_=>.fail
 |[o],w,K=>(kn h s o w).force fun s=>K (B3 s o.kind)
 |o::p::r,w,K=>.sum w (fun x=>(kn h s o x).force fun s=>K (B3 s o.kind)) fun w=>uS h s (p::r) w K
def Hint.ok(h:Hint):Bool:=
 dx (h.aC.map (·.1)++h.dead)&&dx (h.objs.map (·.1))&&h.outs.all fun o=>dx (o.aC.map (·.1))
def wR(step:Oper→bC T.den→(bC T.den→Tr ρ)→Tr ρ):List (G×Oper)→bC T.den→(bC T.den→Tr ρ)→Tr ρ
 |[],s,K=>K s
 |(g,o)::rest,s,K=>xD g s fun s want=>
  match want with
  |false=>s.fL o.dst (.lit undef) [] fun s=>wR step rest s K
  |true=>step o s fun s'=>wR step rest s' K
def mz:List Item→List (G×Oper)→List (G×Item)
 |x::r,(g,_)::l=>(g,x)::mz r l
 |_,_=>[]
def yN:List (G×Item)→(List (G×Item)→Tr ρ)→Tr ρ
 |[],K=>K []
 |(g,⟨i,nm,o⟩)::r,K=>yN r fun l=>K ((g,⟨i,nm,o⟩)::l)
def ta[ae](step:Nat→Oper→bC T.den→EK T ρ→Tr ρ):List (G×Item)→bC T.den→List fS→(bC T.den→List fS→Tr ρ)→Tr ρ
 |[],s,fs,K=>K s fs
 |(g,x)::rest,s,fs,K=>xD g s fun s want=>
  match want with
  |false=>s.fL x.o.dst (.lit undef) [] fun s=>ta step rest s (fs++[⟨x.idx,[],[]⟩]) K
  |true=>step (x.at s.hp.length) x.o s fun v wr rd=>
   match wr.all (fun q=>decide (q.1<s.hp.length)&&((au x.o.op&&decide (q.1=x.nm))||(match s.hp[q.1]? with|some (some _)=>true|_=>false))) with
   |true=>s.fL x.o.dst v wr fun s=>ta step rest s (fs++[⟨x.idx,rd,wr.map (·.1)⟩]) K
   |false=>.fail
end
def qy{T:dP}(esz j nm:Nat)(e:SV T.den):Option (SV T.den):=
 match e with
 |.agg l=>(match l[j]? with
  |some (.lit (.slice none 0 0))=>some (.agg (l.set j (.bu esz nm 0 none none)))
  |_=>none)
 |.lit (.slice none 0 0)=>if j=0 then some (.bu esz nm 0 none none) else none
 |_=>none
def IL{T:dP}{ρ:Type}(d:Tmp):List (Nat×Nat)→bC T.den→(bC T.den→Tr ρ)→Tr ρ
 |[],s,K=>K s
 |(j,esz)::r,s,K=>(match cU s.fr d with
  |.ref n _ i k=>(match s.hp[n]? with
   |some (some (.arr g _ f cur es))=>(match (es[i]?).bind (qy esz (k+j) s.hp.length) with
    |some e'=>s.fL none (.lit undef) [(n,.arr g false f cur (es.set i e')),(s.hp.length,.arr true true false 0 [])] fun s=>IL d r s K
    | none => .no "nil")
   | _ => .no "nil")
  |v=>(match qy esz j s.hp.length v with
   |some v'=>s.fL (some d) v' [(s.hp.length,.arr true true false 0 [])] fun s=>IL d r s K
   | none => .no "nil"))
def DI{T:dP}{ρ:Type}(l:Tmp→List (Nat×Nat))(dst:Option Tmp)(s:bC T.den)(K:bC T.den→Tr ρ):Tr ρ:=
 match dst with
 |some d=>IL d (l d) s K
 |none=>K s
def AW{den:Nat→Type}(j:Nat):SV den→Option (SV den)
 |.agg l=>(match Nat.blt j l.length with
  |true=>some (.agg (l.set j .hole))
  |false=>none)
 |_=>none
def yO{T:dP}{ρ:Type}:List (Nat×Nat)→bC T.den→(bC T.den→Tr ρ)→Tr ρ
 |[],s,K=>K s
 |(d,j)::r,s,K=>(match cU s.fr d with
  |.ref n _ i k=>(match s.hp[n]? with
   |some (some (.arr g _ f cur es))=>(match (es[i]?).bind (AW (k+j)) with
    |some e'=>s.fL none (.lit undef) [(n,.arr g false f cur (es.set i e'))] fun s=>yO r s K
    | none => .no "a hole")
   | _ => .no "a hole")
  | _ => .no "a hole")
def cellOf{T:dP}(s:bC T.den)(d j:Nat):Option (SV T.den):=
 match cU s.fr d with
 |.ref n _ i k=>(match s.hp[n]? with
  |some (some (.arr _ _ _ _ es))=>(match es[i]? with
   |some (.agg l)=>l[k+j]?
   |_=>none)
  |_=>none)
 |.agg l=>l[j]?
 |v=>(match Nat.beq j 0 with
  |true=>some v
  |false=>none)
def setCell{T:dP}(s:bC T.den)(d j:Nat)(v:SV T.den):bC T.den:=
 match cU s.fr d with
 |.ref n _ i k=>(match s.hp[n]? with
  |some (some (.arr g cl f cur es))=>(match es[i]? with
   |some (.agg l)=>{ s with hp:=s.hp.set n (some (.arr g cl f cur (es.set i (.agg (l.set (k+j) v))))),wh:=n::s.wh }
   |_=>s)
  |_=>s)
 |.agg l=>{ s with fr:=uq s.n s.fr d (.agg (l.set j v)),wf:=d::s.wf }
 |_=>{ s with fr:=uq s.n s.fr d v,wf:=d::s.wf }
def LF{ρ:Type}:Nat→Nat→Int→(Int→Tr ρ)→Tr ρ
 |0,_,_,_=>.fail
 |b+1,m,n,K=>.cond (n==Int.ofNat m) (K (Int.ofNat m)) (LF b (m+1) n K)
def DJ{T:dP}{ρ:Type}(t:Nat)(l:List (T.den t)):Nat→Nat→(List (SV T.den)→Tr ρ)→Tr ρ
 |0,_,K=>K []
 |b+1,i,K=>.bind l[i]? fun x=>DJ t l b (i+1) fun xs=>K (T.up t x::xs)
def yP{T:dP}{ρ:Type}(s:bC T.den)(w:Tw)(K:bC T.den→Tr ρ):Tr ρ:=
 match w with
 |.num d j b=>(match cellOf s d j with
  |some (.lit (.int k n))=>LF b 0 n fun m=>(setCell s d j (.lit (.int k m))).force K
  | _ => .no "a number")
 |.Zd d j n=>(match cellOf s d j with
  |some (.jT t l)=>.cond (Nat.blt 0 n&&decide (l.length=n)) (DJ t l n 0 fun xs=>(setCell s d j (.sl xs)).force K) .fail
  | _ => .no "a list")
 |.arr d n=>(match cU s.fr d with
  |.bu _ nm _ _ _=>(match s.hp[nm]? with
   |some (some (.cj g f cur t l))=>.cond (decide (l.length=n)) (DJ t l n 0 fun xs=>bC.force { s with hp:=s.hp.set nm (some (.arr g true f cur xs)),wh:=nm::s.wh } K) .fail
   | _ => .no "an array")
  | _ => .no "an array")
 |.int d j=>(match cellOf s d j with
  |some (.lit (.int k n))=>.bind (some n) fun n=>(setCell s d j (.lit (.int k n))).force K
  | _ => .no "a number")
 |.name d=>(match cU s.fr d with
  |.bu esz nm c rg cap=>(match s.hp[nm]? with
   |some (some (.cj g f cur t l))=>.bind (some l) fun l=>(match rg with
    |none=>bC.force { s with hp:=s.hp.set nm (some (.cj g f cur t l)),wh:=nm::s.wh } K
    |some (off,len)=>.bind (some off) fun off=>.bind (some len) fun len=>
     bC.force { s with fr:=uq s.n s.fr d (.bu esz nm c (some (off,len)) cap),hp:=s.hp.set nm (some (.cj g f cur t l)),wf:=d::s.wf,wh:=nm::s.wh } K)
   | _ => .no "a name")
  | _ => .no "a name")
def TM{T:dP}{ρ:Type}:List Tw→bC T.den→(bC T.den→Tr ρ)→Tr ρ
 |[],s,K=>K s
 |w::r,s,K=>yP s w fun s=>TM r s K
def TN{T:dP}{ρ:Type}(l:Tmp→List Tw)(dst:Option Tmp)(s:bC T.den)(K:bC T.den→Tr ρ):Tr ρ:=
 match dst with
 |some d=>TM (l d) s K
 |none=>K s
def xj{den:Nat→Type}(u:List Nat)(fr:tA den):List Nat→List (SV den)
 |[]=>[]
 |d::r=>(match u.contains d with
  |true=>cU fr d
  |false=>.dead)::xj u fr r
def mA{den:Nat→Type}(n:Nat)(fr:tA den):List Tmp→List (SV den)→tA den
 |p::ps,x::xs=>mA n (uq n fr p x) ps xs
 |_,_=>fr
def B4(js:List (Nat×lN))(n:Nat)(st:lN):List (Nat×lN):=js.map fun q=>match Nat.beq q.1 n with
 |true=>(q.1,st)
 |false=>q
def DK(js:List (Nat×lN))(n:Nat):List (Nat×lN):=js.filter fun q=>!Nat.beq q.1 n
def tb(js:List (Nat×lN))(n:Nat):Bool:=js.all fun q=>Nat.blt q.1 n
def bC.il{T:dP}(s:bC T.den)(n:Nat)(hp:ai T.den)(wh:List Nat)(js:List (Nat×lN)):bC T.den:=
 { s with hp:=hp.set n (some .iB),wh:=wh,js:=DK js n }
def LG{T:dP}{ρ:Type}(s:bC T.den)(n:Nat)(dst:Option Tmp)(b:Bool)(st:lN)(s2:bC T.den)(K:bC T.den→Tr ρ):Tr ρ:=
 match cE s2.js n with
 |some .busy=>(match tb s2.js s.hp.length with
  |true=>nE (gB s.hp.length (.lit (.bool b)) s2.hp) fun hp=>bC.fL ⟨s.fn,s.n,s.fr,hp,s.wf,s2.wh,B4 s2.js n st⟩ dst (.lit (.bool b)) [] K
  | false => .no "a round's end")
 | _ => .no "a round's end"
def rB(pr:List Nat)(fs:List fS):Bool:=
 match fs.all fun f=>f.wr.isEmpty with
 |true=>true
 |false=>fo pr fs
def Hr{T:dP}(Q:ik)(ev:Operand→SV T.den)(op:Op)(H:ai T.den)(n:Nat)(o':aE T.den):Bool:=
 match op with
 |.store t a _=>(match Q.ty t,ev a,H[n]? with
  |some r,.ref n' _ i j,some (some (.arr _ false _ cur es))=>(match es[i]? with
   |some (.agg l)=>Nat.beq n' n&&Nat.ble (j+r.size) l.length&&((l.drop j).take r.size).all isHole&&Nat.beq cur o'.cur&&Nat.beq es.length o'.len
   |_=>false)
  |_,_,_=>false)
 |_=>false
def vL[ae]{T:dP}(Q:ik)(nm:Nat){ρ:Type}:List Oper→bC T.den→Option Nat→List Nat→(bC T.den→Option Nat→List Nat→Tr ρ)→Tr ρ
 |[],s,ov,rd,K=>K s ov rd
 |o::r,s,ov,rd,K=>(match o.guard with
  | some _ => .no "a look"
  |none=>(match o.op with
   | .call _ => .no "a look"
   |.assign (.const (.slice none 0 0))=>s.fL o.dst (.lit cX) [] fun s=>vL Q nm r s ov rd K
   |op=>OE Q s.hp.length s.hp (dj s.fr) o fun v wr rd'=>(match wr.all fun q=>Nat.ble nm q.1 with
     |true=>s.fL o.dst v wr fun s=>vL Q nm r s ov (rd++rd') K
     |false=>(match ov,wr with
      |none,[(n,o')]=>(match Nat.blt n nm&&Hr Q (dj s.fr) op s.hp n o' with
       |true=>s.fL o.dst v [(n,o')] fun s=>vL Q nm r s (some n) (rd++(rd'++[n])) K
       | false => .no "a look")
      | _, _ => .no "a look"))))
def mB[ae]{T:dP}(Q:ik)(nm:Nat){ρ:Type}:Code→bC T.den→Option Nat→List Nat→(Bool→bC T.den→Option Nat→List Nat→Tr ρ)→Tr ρ
 |.skip,s,ov,rd,K=>K false s ov rd
 |.ret,s,ov,rd,K=>K true s ov rd
 |.seq a b,s,ov,rd,K=>mB Q nm a s ov rd fun q s ov rd=>(match q with
  |true=>K true s ov rd
  |false=>mB Q nm b s ov rd K)
 |.region _ ops false,s,ov,rd,K=>vL Q nm ops.toList s ov rd (K false)
 |.cond o a b,s,ov,rd,K=>(match dj s.fr o with
  |.lit (.bool t)=>.cond t (mB Q nm a s ov rd K) (mB Q nm b s ov rd K)
  | _ => .no "a look")
 | _, _, _, _, _ => .no "a look"
def Ht{den:Nat→Type}(fr:tA den)(rs:List ResultVar):List Nat:=rs.flatMap fun
 |.tmp _=>[]
 |.cell a _=>nB (cU fr a)
def xF{den:Nat→Type}(fr:tA den)(rs:List ResultVar):Bool:=rs.all fun
 |.tmp _=>true
 |.cell a _=>!bV (cU fr a)
def LH[ae](S:oS){ρ:Type}(g:FuncId)(args:List (SV S.T.den))(H:ai S.T.den)(K:EK S.T ρ):Tr ρ:=
 match S.C.kind g,S.C.rW g,S.C.P.funcs[g]? with
 |.imp,none,some fn=>(match fn.body with
  |some c=>(match Cu c with
   | true => .no "a look"
   |false=>mB (S.Qf g) H.length c ⟨g,max fn.ntmps args.length,na 0 args,H,[],[],[]⟩ none [] fun _ s ov rd=>sW S.T S.Q s fn.results.toList fun l=>
   (match bx H.length (rR l)&&xF s.fr fn.results.toList&&(match ov with
     |some n=>(match s.hp[n]? with
      |some o=>kC H.length o
      |none=>false)
     |none=>true) with
   |true=>K (rR l) [] ((rd++Ht s.fr fn.results.toList).filter fun n=>Nat.blt n H.length)
   | false => .no "a look's answer"))
  | none => .no "a look")
 | _, _, _ => .no "a call without an answer"
def Hu{den:Nat→Type}(P:Program)(v:SV den)(name:String):Option (FuncId×SV den):=
 match v with
 |.gH t x=>(Bi P t name).map fun f=>(f,x)
 |_=>none
def Vs[ae](S:oS){ρ:Type}(nm:Nat)(o:Oper)(s:bC S.T.den)(K:EK S.T ρ):Tr ρ:=
 match o.op with
 |.call c=>
  (match c.callee with
  |.builtin _=>OE (S.Qf s.fn) nm s.hp (dj s.fr) o K
  |.value f=>
   (match my (dj s.fr f) (c.args.toList.map (dj s.fr)) with
   |none=>.fail
   |some (g,args)=>(match au o.op with
    |true=>(match args.any bV,S.own g with
     |false,some σ=>OG S.T σ nm s.hp args K
     | _, _ => .no "a call of one's own without an answer")
    |false=>(match args.any bV,S.sum g with
     |false,some σ=>IG S.T σ s.hp args K
     |false,none=>LH S g args s.hp K
     | _, _ => .no "a call without an answer")))
  |.invoke rv name=>
   (match Hu S.C.P (dj s.fr rv) name with
   | none => .no "invoke"
   |some (g,x)=>(match (x::c.args.toList.map (dj s.fr)).any bV,S.sum g with
    |false,some σ=>IG S.T σ s.hp (x::c.args.toList.map (dj s.fr)) K
    | _, _ => .no "a call without an answer")))
 |_=>OE (S.Qf s.fn) nm s.hp (dj s.fr) o K
def LI[ae]{T:dP}{ρ:Type}(ec:Code→bC T.den→(pB T.den→Tr ρ)→Tr ρ)(eo:Oper→bC T.den→(bC T.den→Tr ρ)→Tr ρ):Code→bC T.den→(pB T.den→Option (SV T.den)→Tr ρ)→Tr ρ
 |.seq x y,s,K=>
  (match tH x with
  |some (ops,v)=>oV ops ops.toList.dropLast fun l=>wR eo l s fun s1=>(match my (dj s1.fr v) [] with
   |some _=>ec y s1 fun o=>K o (some (dj s1.fr v))
   | none => .no "what is deferred")
  |none=>ec x s fun
   |.norm s'=>LI ec eo y s' K
   |r=>K r none)
 |c,s,K=>ec c s fun o=>K o none
def DL[ae]{T:dP}{ρ:Type}(ec:Code→bC T.den→(pB T.den→Tr ρ)→Tr ρ)(Q:ik)(P:Program)(rs:List ResultVar)(s:bC T.den)(d:Option (SV T.den))(K:List (SV T.den)→ai T.den→List Nat→List (Nat×lN)→Tr ρ):Tr ρ:=
 match d with
 |none=>sW T Q s rs fun l=>K l s.hp s.wh s.js
 |some v=>(match my v [] with
  | none => .no "what is deferred"
  |some (g,as)=>(match P.funcs[g]? with
   |none=>.fail
   |some fg=>(match fg.body with
    |none=>.fail
    |some cg=>(match cJ cg&&!as.any bV with
     | false => .no "what is deferred"
     |true=>bC.force ⟨g,max fg.ntmps as.length,na 0 as,s.hp,[],s.wh,s.js⟩ fun t0=>ec (oy cg) t0 fun
      |.norm t|.ret t=>sW T Q t fg.results.toList fun _=>sW T Q ⟨s.fn,s.n,s.fr,t.hp,s.wf,t.wh,t.js⟩ rs fun l=>K l t.hp t.wh t.js
      |.exit _ _=>.fail))))
mutual
def PT[ae](S:oS):Nat→(ρ:Type)→FuncId→List (SV S.T.den)→ai S.T.den→List Nat→List (Nat×lN)→(SV S.T.den→ai S.T.den→List Nat→List (Nat×lN)→Tr ρ)→Tr ρ
 | 0, _, _, _, _, _, _, _ => .no "fuel"
 |k+1,ρ,f,args,hp,wh,js,K=>
  match S.C.P.funcs[f]? with
  |none=>.fail
  |some fn=>
   match fn.body with
   |none=>.fail
   |some c=>sV [max fn.ntmps args.length] fun _=>bC.force ⟨f,max fn.ntmps args.length,na 0 args,hp,[],wh,js⟩ fun s=>
    (match Cu c with
    |true=>(match cJ c with
     |true=>LI (fun c s K=>xk S k ρ c s K) (fun o s K=>OI S k ρ o s K) c s fun o d=>(match o with
      |.norm s'|.ret s'=>DL (fun c s K=>xk S k ρ c s K) S.Q S.C.P fn.results.toList s' d fun l hp wh js=>K (rR l) hp wh js
      |.exit _ _=>.fail)
     | false => .no "a range beside a deferred call")
    |false=>xk S k ρ c s fun
    |.norm s|.ret s=>sW S.T S.Q s fn.results.toList fun l=>K (rR l) s.hp s.wh s.js
    |.exit _ _=>.fail)
def xk[ae](S:oS):Nat→(ρ:Type)→Code→bC S.T.den→(pB S.T.den→Tr ρ)→Tr ρ
 | 0, _, _, _, _ => .no "fuel"
 |k+1,ρ,c,s,K=>
  match c with
  |.skip|.label _=>K (.norm s)
  |.ret=>K (.ret s)
  |.exit id=>K (.exit id s)
  |.seq a b=>xk S k ρ a s fun
   |.norm s'=>xk S k ρ b s' K
   |r=>K r
  |.cond o a b=>
   (match dj s.fr o with
   |.lit (.bool t)=>.cond t (xk S k ρ a s K) (xk S k ρ b s K)
   | _ => .no "cond")
  |.block id b=>xk S k ρ b s fun
   |.exit JE s'=>if JE=id then K (.norm s') else K (.exit JE s')
   |r=>K r
  |.scope b=>
   (match pQ b with
   |some c=>xk S k ρ c s K
   | none => .no "code")
  |.loop b=>
   (match S.hint s.fn (sX b s) with
   |none=>(match S.vG s.fn (keyOf b) with
    |true=>xk S k ρ b s fun
     |.norm s'=>(match tb s'.js s.hp.length with
      |true=>(km s.hp.length s').force fun s'=>xk S k ρ (.loop b) s' K
      | false => .no "a round's end")
     |r=>K r
    |false=>.mM s b)
   |some h=>
    (match h.ok&&B2 s.n h.aC h.dead&&sY s.hp.length h.aC h.objs,(vK h.aC h.objs s).bind (vE h.kl) with
    |true,some x0=>.loop (τ:=HL S.T.den h.kl) (ω:=zT S.T.den h.objs h.outs)
      (fun x=>bC.force { dy h.aC h.dead h.objs [] s (gw h.kl x) with wf:=[],wh:=[] } fun s1=>xk S k _ b s1 fun
        |.norm s'=>
         (match km s.hp.length s' with
         |uR=>(match decide (uR.js=s.js)&&sZ h.aC h.dead h.objs [] s uR,(vK h.aC h.objs uR).bind (vE h.kl) with
          |true,some y=>iC s.hp uR.hp h.objs (.ret (.inl y))
          |_,_=>.bad (sX b s) none s uR))
        |.exit id s'=>uw (sX b s) h s s' (some id) h.outs fun w=>.ret (.inr w)
        |.ret s'=>uw (sX b s) h s s' none h.outs fun w=>.ret (.inr w))
      x0 fun w=>uS h s h.outs w K
    |_,_=>.bad (sX b s) none s s))
  |.region id ops draw=>
   (match draw with
   |false=>yO (S.C.iV s.fn id) s fun s=>TM (S.tw s.fn (1000000+id)) s fun s=>oV ops ops.toList fun l=>wR (fun o s K=>OI S k ρ o s K) l s fun s'=>K (.norm s')
   |true=>
    if tG ops=true then
     yO (S.C.iV s.fn id) s fun s1=>TM (S.tw s.fn (1000000+id)) s1 fun s1=>oV ops ops.toList fun l=>yN (mz (bK 0 s1.hp.length (ops.toList.take (S.C.head s.fn id ops))) l) fun li=>ta (fun nm o s K=>Vs S nm o s K) li
       { s1 with hp:=s1.hp++List.replicate ((ops.toList.take (S.C.head s.fn id ops)).filter fun o=>au o.op).length none } [] fun s' fs=>
      if (rB (cm ops.toList) fs && np (cm ops.toList) ops.size (S.C.head s.fn id ops)) = true then wR (fun o s K => OI S k ρ o s K) (l.drop (S.C.head s.fn id ops)) s' fun s' => K (.norm s') else .no "an order"
    else .no "a region")
  |.rangeFunc f ps as bd=>
   (match my (dj s.fr f) [.mp true s.hp.length] with
   |some (g,args)=>(match !args.any bV&&(dt as++dt bd).all (fun d=>!bV (cU s.fr d)||!Nat.blt d s.n) with
    |true=>PT S k ρ g args (s.hp++[some (.pA s.fn ps as bd (xj (dt as++dt bd) s.fr (List.range s.n)))]) s.wh ((s.hp.length,.ready)::s.js) fun _ hp wh js=>
     (match cE js s.hp.length with
     |some .ready=>K (.norm (s.il s.hp.length hp wh js))
     |some (.jump none)=>K (.ret (s.il s.hp.length hp wh js))
     |some (.jump (some id))=>K (.exit id (s.il s.hp.length hp wh js))
     | _ => .no "a range's end")
    | false => .no "a range over what is dead")
   | none => .no "a range")
  | _ => .no "code"
def OI[ae](S:oS):Nat→(ρ:Type)→Oper→bC S.T.den→(bC S.T.den→Tr ρ)→Tr ρ
 | 0, _, _, _, _ => .no "fuel"
 |k+1,ρ,o,s,K=>
  match o.op with
  |.call c=>
   (match c.callee with
   |.builtin _=>OE (S.Qf s.fn) s.hp.length s.hp (dj s.fr) o fun v wr _=>s.fL o.dst v wr K
   |.value f=>
    (match my (dj s.fr f) (c.args.toList.map (dj s.fr)) with
    |none=>(match dj s.fr f with
     |.mp true n=>(match s.hp[n]?,cE s.js n,(c.args.toList.map (dj s.fr)).any bV with
      |some (some (.pA fn ps as bd fr)),some .ready,false=>
       (match Nat.beq c.args.size ps.size with
       |true=>bC.force ⟨fn,fr.length,mA fr.length (na 0 fr) ps.toList (c.args.toList.map (dj s.fr)),s.hp,[],s.wh,s.js⟩ fun s0=>
        xk S k ρ as s0 fun
        |.norm s1=>(match cE s1.js n with
         |some .ready=>xk S k ρ bd { s1 with js:=B4 s1.js n .busy } fun
          |.norm s2=>LG s n o.dst true .ready s2 K
          |.exit id s2=>LG s n o.dst false (.jump (some id)) s2 K
          |.ret s2=>LG s n o.dst false (.jump none) s2 K
         | _ => .no "a round")
        | _ => .no "a round"
       | false => .no "a round")
      | _, _, _ => .no "a round")
     | _ => .no "what is called")
    |some (g,args)=>(match au o.op with
     |true=>(match args.any bV,S.own g with
      |false,some σ=>OG S.T σ s.hp.length s.hp args fun v wr _=>s.fL o.dst v wr K
      | _, _ => .no "a call of one's own without an answer")
     |false=>(match args.any bV,S.sum g with
     |false,some σ=>IG S.T σ s.hp args fun v wr _=>s.fL o.dst v wr K
     |false,none=>(match S.C.kind g with
      | .pure => .no "a call without an answer"
      |.imp=>PT S k ρ g args s.hp s.wh s.js fun v hp wh js=>(match tb js s.hp.length with
       |true=>nE (gB s.hp.length v hp) fun hp=>bC.fL ⟨s.fn,s.n,s.fr,hp,s.wf,wh,js⟩ o.dst v [] K
       | false => .no "a call's end"))
     | true, _ => .no "a dead argument")))
   |.invoke rv name=>
    (match Hu S.C.P (dj s.fr rv) name with
    | none => .no "invoke"
    |some (g,x)=>(match (x::c.args.toList.map (dj s.fr)).any bV,S.sum g with
     |false,some σ=>IG S.T σ s.hp (x::c.args.toList.map (dj s.fr)) fun v wr _=>s.fL o.dst v wr K
     |false,none=>(match S.C.kind g with
      | .pure => .no "a call without an answer"
      |.imp=>PT S k ρ g (x::c.args.toList.map (dj s.fr)) s.hp s.wh s.js fun v hp wh js=>(match tb js s.hp.length with
       |true=>nE (gB s.hp.length v hp) fun hp=>bC.fL ⟨s.fn,s.n,s.fr,hp,s.wf,wh,js⟩ o.dst v [] K
       | false => .no "a call's end"))
     | true, _ => .no "a dead argument")))
  |.assign (.const (.slice none 0 0))=>
   (match o.dst with
   |some d=>
    if S.C.acc s.fn d then
     match S.Q.elem o.type with
     |some r=>if 0<r.size then s.fL (some d) (.bu r.size s.hp.length 0 none none) [(s.hp.length,.arr true true false 0 [])] K else .fail
     |none=>.fail
    else s.fL (some d) (.lit cX) [] K
   |none=>K s)
  |_=>OE (S.Qf s.fn) s.hp.length s.hp (dj s.fr) o fun v wr _=>s.fL o.dst v wr fun s=>DI (S.C.rL s.fn) o.dst s fun s=>TN (S.tw s.fn) o.dst s K
end
end Go.PI
namespace Go.PI
def LJ{den:Nat→Type}(res:List Nat)(v:SV den):List (SV den):=
 match res with
 |[_]=>[v]
 |_=>match v with
  |.jU l=>l
  |_=>[.dead]
def Ro[ae](S:oS)(k:Nat)(f:FuncId)(args res:List Nat)(xs:HL S.T.den (args.map .v)):Tr (HL S.T.den (res.map .v)):=
 PT S k _ f (Ri S.T (gw _ xs)) [] [] [] fun v hp _ _=>
  gz S.T hp 1000 v fun v' _=>match (IC S.T res (LJ res v')).bind (vE (res.map .v)) with
  |some r=>.ret r
  | none => .no "a result"
end Go.PI
end
section
/- PS: words for the printed tables of a seat's types. -/
namespace Go.PI
section
variable {den:Nat→Type}{α:Type}
def dI(k:IntKind):SV den→Option Int
 |.lit (.int k' n)=>if k=k' then some n else none
 |_=>none
def dB:SV den→Option Bool
 |.lit (.bool b)=>some b
 |_=>none
def dS:SV den→Option ByteArray
 |.lit (.string s)=>some s
 |_=>none
def TO(d:SV den→Option α):List (SV den)→Option (List α)
 |[]=>some []
 |v::vs=>(d v).bind fun x=>(TO d vs).map fun l=>x::l
def PU(e:Nat)(d:SV den→Option (den e)):SV den→Option (List (den e))
 |.jT t l=>if h:t=e then some (AQ h l) else none
 |.sl vs=>TO d vs
 |.lit (.slice none 0 0)=>some []
 |_=>none
def WW(d:SV den→Option α):SV den→Option α
 |.bk v 0=>d v
 |_=>none
end
abbrev OJ{α:Type}(q:α→AV→Prop)(x:List α)(a:AV):Prop:=(∃ l,a=.sl l∧ay q x l)∨(x=[]∧a=.lit cX)
abbrev Vt{α:Type}(q:α→AV→Prop)(x:α)(a:AV):Prop:=∃ b,a=.bk b 0∧q x b
abbrev lc{α:Type}(n m:Nat)(l:List α):Bool:=decide (n+m≤l.length)
def zI:AV:=.lit (.int .i64 0)
def zB:AV:=.lit (.bool false)
def zF:AV:=.lit .nilFunc
def zL:AV:=.lit (.slice none 0 0)
def zS:AV:=.lit (.string ByteArray.empty)
def kI:CK:=.int .i64
def mI:kD:=⟨false,1,8,some zI,.other,none,none⟩
def mF:kD:=⟨false,1,8,some zF,.other,none,none⟩
def mP:kD:=⟨false,1,8,some (.lit (.pointer none)),.other,none,none⟩
def mS:kD:=⟨false,1,16,some zS,.other,none,none⟩
def mL(e:Nat):kD:=⟨false,1,24,some zL,.slice e,none,none⟩
end Go.PI
end
section
/- PS, part C: what a symbolic value stands for. -/
namespace Go.PI
section
variable {α β:Type}{P:α→β→Prop}
theorem ay.length:∀ {l:List α} {m:List β},ay P l m→l.length=m.length
 |[],[],_=>rfl
 |_::_,_::_,h=>by simp[ay.length h.2]
theorem ay.get:∀ {l:List α} {m:List β},ay P l m→∀ {i:Nat} {x:α},l[i]?=some x→∃ y,m[i]?=some y∧P x y
 |x::xs,y::ys,h,0,z,e=>by simp at e; subst e; exact⟨y,rfl,h.1⟩
 |x::xs,y::ys,h,i+1,z,e=>by simp at e ⊢; exact ay.get h.2 e
 |[],[],_,i,z,e=>by simp at e
theorem ay.get':∀ {l:List α} {m:List β},ay P l m→∀ {i:Nat} {y:β},m[i]?=some y→∃ x,l[i]?=some x∧P x y
 |x::xs,y::ys,h,0,z,e=>by simp at e; subst e; exact⟨x,rfl,h.1⟩
 |x::xs,y::ys,h,i+1,z,e=>by simp at e ⊢; exact ay.get' h.2 e
 |[],[],_,i,z,e=>by simp at e
theorem ay.mono{Q:α→β→Prop}(Nk:∀ x y,P x y→Q x y):∀ {l:List α} {m:List β},ay P l m→ay Q l m
 |[],[],_=>trivial
 |_::_,_::_,h=>⟨Nk _ _ h.1,ay.mono Nk h.2⟩
theorem ay.append:∀ {l l':List α} {m m':List β},ay P l m→ay P l' m'→ay P (l++l') (m++m')
 |[],_,[],_,_,h=>h
 |_::_,_,_::_,_,h,h'=>⟨h.1,ay.append h.2 h'⟩
theorem ay.set:∀ {l:List α} {m:List β},ay P l m→∀ (i:Nat) {x:α} {y:β},P x y→ay P (l.set i x) (m.set i y)
 |[],[],_,_,_,_,_=>trivial
 |_::_,_::_,h,0,_,_,hp=>⟨hp,h.2⟩
 |_::_,_::_,h,i+1,_,_,hp=>⟨h.1,ay.set h.2 i hp⟩
theorem ay.drop:∀ {l:List α} {m:List β},ay P l m→∀ i,ay P (l.drop i) (m.drop i)
 |[],[],_,i=>by simp[ay]
 |_::_,_::_,h,0=>h
 |_::_,_::_,h,i+1=>ay.drop h.2 i
theorem ay.take:∀ {l:List α} {m:List β},ay P l m→∀ i,ay P (l.take i) (m.take i)
 |[],[],_,i=>by simp[ay]
 |_::_,_::_,h,0=>trivial
 |_::_,_::_,h,i+1=>⟨h.1,ay.take h.2 i⟩
theorem ay.replicate{x:α}{y:β}(h:P x y):∀ n,ay P (List.replicate n x) (List.replicate n y)
 |0=>trivial
 |n+1=>⟨h,ay.replicate h n⟩
theorem ay.DM{m:List β}(h:ay P [] m):m=[]:=by cases m with
 |nil=>rfl
 |cons y ys=>exact h.elim
theorem ay.eL:∀ {l:List α} {m:List β},l.length=m.length→(∀ (i:Nat) (x:α) (y:β),l[i]?=some x→m[i]?=some y→P x y)→ay P l m
 |[],[],_,_=>trivial
 |x::xs,y::ys,h,hg=>⟨hg 0 x y rfl rfl,ay.eL (by simpa using h) fun i a b ha hb=>hg (i+1) a b (by simpa using ha) (by simpa using hb)⟩
end
variable {T:dP}
def gh{den:Nat→Type}(H:ai den)(n c aq:Nat):Prop:=
 ∃ o:aE den,H[n]?=some (some o)∧c≤o.cur∧(c=o.cur→aq=o.len)
def WX(a0:AV)(d:Nat)(a:AV):Prop:=
 (∃ n aq k j,a0=.ref n aq k j∧a=.ref n aq k (j+d))∨∃ e j,a0=.bk e j∧a=.bk e (j+d)
mutual
def R(T:dP)(H:ai T.den):SV T.den→AV→Prop
 |.dead,_=>False
 |.hole,a=>a=.any
 |.lit v,a=>a=.lit v
 |.agg l,a=>∃ l',a=.agg l'∧RL T H l l'
 |.jU l,a=>∃ l',a=.jU l'∧RL T H l l'
 |.sl l,a=>∃ l',a=.sl l'∧RL T H l l'∧aw l=true
 |.jT t l,a=>(∃ l',a=.sl l'∧ay (T.rp t) l l')∨(l=[]∧a=.lit cX)
 |.bk e j,a=>∃ e',a=.bk e' j∧R T H e e'∧aG e=true
 |.ref n c i j,a=>∃ aq,a=.ref n aq i j∧gh H n c aq
 |.jt n c i j ln cp,a=>∃ aq,a=.jt n aq i j ln cp∧gh H n c aq
 |.bu esz n c rg cap,a=>∃ aq,gh H n c aq∧(match rg with
  |none=>a=.bu esz n aq 0 aq cap
  |some (off,len)=>a=.bu esz n aq off len cap)
 |.ju fn f c,a=>∃ f' c',a=.ju fn f' c'∧RL T H f f'∧RL T H c c'
 |.gH t v,a=>∃ v',a=.gH t v'∧R T H v v'
 |.xB t l c b,a=>(b=true∧∃ l',a=.pJ l' c∧ay (T.rp t) l l')∨(b=false∧l=[]∧(a=.sl []∨a=.lit cX))
 |.nz,a=>a=.nz
 |.mp y n,a=>a=.mp y n∧∃ o:aE T.den,H[n]?=some (some o)
 |.tz v s len i,a=>∃ a0,R T H v a0∧i<len∧WX a0 (i*s) a
def RL(T:dP)(H:ai T.den):List (SV T.den)→List AV→Prop
 |[],[]=>True
 |x::xs,y::ys=>R T H x y∧RL T H xs ys
 |_,_=>False
end
theorem aU{H:ai T.den}:∀ {l:List (SV T.den)} {m:List AV},RL T H l m↔ay (R T H) l m
 |[],[]=>by simp[RL,ay]
 |x::xs,y::ys=>by simp only[RL,ay]; rw[aU]
 |[],_::_=>by simp[RL,ay]
 |_::_,[]=>by simp[RL,ay]
def RV(T:dP)(H:ai T.den)(v:SV T.den)(a:AV):Prop:=v=.dead∨R T H v a
theorem RV.live{H:ai T.den}{v:SV T.den}{a:AV}(h:RV T H v a)(hd:bV v=false):R T H v a:=by
 rcases h with h|h
 ·subst h; simp[bV]at hd
 ·exact h
def RD(T:dP)(H:ai T.den)(v:SV T.den)(a:AV):Prop:=(v=.dead∧a=.any)∨R T H v a
def RO(T:dP)(H:ai T.den):aE T.den→aP→Prop
 |.arr g cl f _ es,a=>∃ es',a=.arr g cl f es'∧RL T H es es'∧(cl=true→aw es=true)
 |.cj g f _ t l,a=>∃ es',a=.arr g true f es'∧ay (T.rp t) l es'
 |.iB,a=>(∃ g f es',a=.arr g true f es')∨∃ k vs,a=.gI k vs∧∀ n,c7 n vs=true
 |.kO kk t m,a=>∃ vs,a=.gI (.map kk (m.map fun q=>kk.v q.1)) vs∧ay (T.rp t) (m.map (·.2)) vs
 |.pA fn ps as bd fr,a=>∃ st vs,a=.gI (.loop fn ps as bd st) vs∧ay (RD T H) fr vs
def B5(T:dP)(H:ai T.den):Option (aE T.den)→Option aP→Prop
 |none,none=>True
 |some o,some a=>RO T H o a
 |_,_=>False
def RH(T:dP)(H:ai T.den)(hp:ag):Prop:=ay (B5 T H) H hp
def aE.isRec{den:Nat→Type}:aE den→Bool
 |.pA ..=>true
 |_=>false
def recAt{den:Nat→Type}(H:ai den)(n:Nat):Bool:=
 match H[n]? with
 |some (some o)=>o.isRec
 |_=>false
def dJ{den:Nat→Type}(H H':ai den):Prop:=
 ∀ (n:Nat) (o:aE den),H[n]?=some (some o)→∃ o':aE den,H'[n]?=some (some o')∧o.cur≤o'.cur∧(o'.cur=o.cur→o'.len=o.len)
theorem dJ.refl{den:Nat→Type}(H:ai den):dJ H H:=fun _ o h=>⟨o,h,Nat.le_refl _,fun _=>rfl⟩
theorem dJ.trans{den:Nat→Type}{H H' Zf:ai den}(h:dJ H H')(h':dJ H' Zf):dJ H Zf:=by
 intro n o ho
 obtain⟨o',h1,h2,h3⟩:=h n o ho
 obtain⟨WY,h4,h5,h6⟩:=h' n o' h1
 exact⟨WY,h4,Nat.le_trans h2 h5,fun e=>by rw[h6 (by omega),h3 (by omega)]⟩
theorem gh.mono{den:Nat→Type}{H H':ai den}(h:dJ H H'){n c aq:Nat}(hv:gh H n c aq):gh H' n c aq:=by
 obtain⟨o,h1,h2,h3⟩:=hv
 obtain⟨o',h4,h5,h6⟩:=h n o h1
 exact⟨o',h4,Nat.le_trans h2 h5,fun e=>by rw[h3 (by omega),h6 (by omega)]⟩
mutual
theorem R.mono{H H':ai T.den}(hg:dJ H H'):∀ {v:SV T.den} {a:AV},R T H v a→R T H' v a
 |.dead,_,h=>by simp[R]at h
 |.hole,a,h=>by simpa[R] using h
 |.lit v,a,h=>by simpa[R] using h
 |.agg l,a,h=>by
  simp only[R]at h ⊢
  obtain⟨l',h1,h2⟩:=h
  exact⟨l',h1,RL.mono hg h2⟩
 |.jU l,a,h=>by
  simp only[R]at h ⊢
  obtain⟨l',h1,h2⟩:=h
  exact⟨l',h1,RL.mono hg h2⟩
 |.sl l,a,h=>by
  simp only[R]at h ⊢
  obtain⟨l',h1,h2,h3⟩:=h
  exact⟨l',h1,RL.mono hg h2,h3⟩
 |.jT t l,a,h=>by simpa[R] using h
 |.xB t l c b,a,h=>by simp only[R]at h ⊢; exact h
 |.nz,a,h=>by simp only[R]at h ⊢; exact h
 |.bk e j,a,h=>by
  simp only[R]at h ⊢
  obtain⟨e',h1,h2,h3⟩:=h
  exact⟨e',h1,R.mono hg h2,h3⟩
 |.ref n c i j,a,h=>by
  simp only[R]at h ⊢
  obtain⟨aq,h1,h2⟩:=h
  exact⟨aq,h1,h2.mono hg⟩
 |.jt n c i j ln cp,a,h=>by
  simp only[R]at h ⊢
  obtain⟨aq,h1,h2⟩:=h
  exact⟨aq,h1,h2.mono hg⟩
 |.bu esz n c rg cap,a,h=>by
  simp only[R]at h ⊢
  obtain⟨aq,h1,h2⟩:=h
  exact⟨aq,h1.mono hg,h2⟩
 |.ju fn f c,a,h=>by
  simp only[R]at h ⊢
  obtain⟨f',c',h1,h2,h3⟩:=h
  exact⟨f',c',h1,RL.mono hg h2,RL.mono hg h3⟩
 |.gH t v,a,h=>by
  simp only[R]at h ⊢
  obtain⟨v',h1,h2⟩:=h
  exact⟨v',h1,R.mono hg h2⟩
 |.mp y n,a,h=>by
  simp only[R]at h ⊢
  obtain⟨h1,o,h2⟩:=h
  obtain⟨o',h3,_⟩:=hg n o h2
  exact⟨h1,o',h3⟩
 |.tz v s len i,a,h=>by
  simp only[R]at h ⊢
  obtain⟨a0,h1,h2,h3⟩:=h
  exact⟨a0,R.mono hg h1,h2,h3⟩
theorem RL.mono{H H':ai T.den}(hg:dJ H H'):∀ {l:List (SV T.den)} {m:List AV},RL T H l m→RL T H' l m
 |[],[],_=>by simp[RL]
 |x::xs,y::ys,h=>by
  simp only[RL]at h ⊢
  exact⟨R.mono hg h.1,RL.mono hg h.2⟩
 |[],_::_,h=>by simp[RL]at h
 |_::_,[],h=>by simp[RL]at h
end
theorem RV.mono[ae]{H H':ai T.den}(hg:dJ H H'){v:SV T.den}{a:AV}(h:RV T H v a):RV T H' v a:=h.imp id (R.mono hg)
theorem RO.mono[ae]{H H':ai T.den}(hg:dJ H H'){o:aE T.den}{a:aP}(h:RO T H o a):RO T H' o a:=by
 cases o with
 |arr g cl f cur es=>
  obtain⟨es',h1,h2,h3⟩:=h
  exact⟨es',h1,RL.mono hg h2,h3⟩
 |cj g f cur t l=>exact h
 |iB=>exact h
 |kO kk t m=>exact h
 |pA fn ps as bd fr=>
  obtain⟨st,vs,h1,h2⟩:=h
  exact⟨st,vs,h1,ay.mono (fun _ _ h=>h.imp id (R.mono hg)) h2⟩
theorem B5.mono[ae]{H H':ai T.den}(hg:dJ H H'){o:Option (aE T.den)}{a:Option aP}(h:B5 T H o a):B5 T H' o a:=by
 cases o<;>cases a<;>first|exact h|exact RO.mono hg h
theorem RH.length[ae]{H:ai T.den}{hp:ag}(h:RH T H hp):H.length=hp.length:=ay.length h
theorem RH.obj[ae]{H:ai T.den}{hp:ag}(h:RH T H hp){n:Nat}{o:aE T.den}(ho:H[n]?=some (some o)):∃ a,hp[n]?=some (some a)∧RO T H o a:=by
 obtain⟨a,h1,h2⟩:=ay.get h ho
 cases a with
 |none=>exact h2.elim
 |some a=>exact⟨a,h1,h2⟩
theorem RH.none[ae]{H:ai T.den}{hp:ag}(h:RH T H hp){n:Nat}(ho:H[n]?=some none):hp[n]?=some none:=by
 obtain⟨a,h1,h2⟩:=ay.get h ho
 cases a with
 |none=>exact h1
 |some a=>exact h2.elim
theorem RH.Sz[ae]{H:ai T.den}{hp:ag}(h:RH T H hp){n:Nat}{o o':aE T.den}{a':aP}(ho:H[n]?=some (some o))(hc:o.cur≤o'.cur)(hl:o'.cur=o.cur→o'.len=o.len)
  (hr:RO T H o' a'):dJ H (H.set n (some o'))∧RH T (H.set n (some o')) (hp.set n (some a')):=by
 have hg:dJ H (H.set n (some o')):=by
  intro m q hq
  by_cases e:m=n
  ·grind
  ·grind
 exact⟨hg,ay.set (ay.mono (fun _ _=>B5.mono hg) h) n (show B5 T _ (some o') (some a') from RO.mono hg hr)⟩
theorem RH.new[ae]{H:ai T.den}{hp:ag}(h:RH T H hp){nm:Nat}{o':aE T.den}{a':aP}(hn:nm=H.length∨H[nm]?=some .none)(hr:RO T H o' a'):
  dJ H (bQ H nm o')∧RH T (bQ H nm o') (setObj hp nm a'):=by
 have hlen:=h.length
 unfold bQ setObj
 by_cases e:nm=H.length
 ·rw[if_pos e,if_pos (by omega)]
  have hg:dJ H (H++[some o']):=by
   intro m q hq
   have bE:=(List.getElem?_eq_some_iff.1 hq).1
   exact⟨q,by rw[List.getElem?_append_left bE]; exact hq,Nat.le_refl _,fun _=>rfl⟩
  exact⟨hg,ay.append (ay.mono (fun _ _=>B5.mono hg) h) ⟨RO.mono hg hr,trivial⟩⟩
 ·rw[if_neg e,if_neg (by omega)]
  have hn:H[nm]?=some .none:=hn.resolve_left e
  have hg:dJ H (H.set nm (some o')):=by
   intro m q hq
   by_cases e:m=nm
   ·subst e; rw[hn]at hq; simp at hq
   ·grind
  exact⟨hg,ay.set (ay.mono (fun _ _=>B5.mono hg) h) nm (show B5 T _ (some o') (some a') from RO.mono hg hr)⟩
structure dP.Ok(T:dP):Prop where
 up:∀ t x a H,T.rp t x a→R T H (T.up t x) a
 dn:∀ t v x a H,T.dn t v=some x→R T H v a→T.rp t x a
 ok:∀ t x a,T.rp t x a→aJ (T.agg t) (T.size t) a=true
 closed:∀ t x a,T.rp t x a→closed a=true
 alt:∀ t f,T.alt t=some f→∀ x,(bif f.1 x then f.2.1 x else f.2.2 x)=T.up t x
theorem Hv{T:dP}(hT:T.Ok){ρ:Type}(t:Nat)(x:T.den t)(K:SV T.den→Tr ρ):(Vr t x K).run=(K (T.up t x)).run:=by
 unfold Vr
 split
 ·rfl
 ·rename_i f hf
  have h:=hT.alt t f hf x
  simp only[Tr.run]
  cases hb:f.1 x<;>rw[hb]at h<;>rw[←h]<;>rfl
theorem jM{den:Nat→Type}:∀ (l:List (SV den)),aw l=l.all aG
 |[]=>rfl
 |x::xs=>by simp only[aw,List.all_cons]; rw[jM xs]
theorem ko[ae]{den:Nat→Type}{l:List (SV den)}(h:aw l=true){x:SV den}(hx:x∈l):aG x=true:=by
 rw[jM]at h
 exact List.all_eq_true.1 h x hx
theorem lT[ae]{den:Nat→Type}{l:List (SV den)}(h:∀ x,x∈l→aG x=true):aw l=true:=by
 rw[jM]
 exact List.all_eq_true.2 h
theorem ni[ae]{den:Nat→Type}{l:List (SV den)}(h:aw l=true)(a b:Nat):aw ((l.drop a).take b)=true:=
 lT fun _ hx=>ko h (List.mem_of_mem_drop (List.mem_of_mem_take hx))
theorem F5[ae]{den:Nat→Type}{l m:List (SV den)}(h:aw l=true)(h':aw m=true):aw (l++m)=true:=
 lT fun _ hx=>(List.mem_append.1 hx).elim (ko h) (ko h')
theorem tc[ae]{den:Nat→Type}{l:List (SV den)}(h:aw l=true){x:SV den}(hx:aG x=true)(i:Nat):aw (l.set i x)=true:=
 lT fun _ hy=>(List.mem_or_eq_of_mem_set hy).elim (ko h) fun e=>e▸hx
theorem po[ae]{den:Nat→Type}:∀ {cs l:List (SV den)} (j:Nat),aw l=true→aw cs=true→aw (jm l j cs)=true
 |[],_,_,h,_=>h
 |x::xs,l,j,h,hc=>by
  simp only[aw,Bool.and_eq_true]at hc
  simp only[jm]
  exact po (j+1) (tc h hc.1 j) hc.2
theorem yQ[ae]{den:Nat→Type}{e e':SV den}{j:Nat}{cs:List (SV den)}(h:gv e j cs=some e')(he:aG e=true)(hc:aw cs=true):aG e'=true:=by
 unfold gv at h
 split at h
 ·split at h
  case isFalse=>simp at h
  simp only[Option.some.injEq]at h
  subst h
  simp only[aG]at he ⊢
  exact po j he hc
 ·grind[aw]
theorem zV[ae]{den:Nat→Type}(v:SV den):aw (bP v)=aG v:=by
 cases v with
 |lit v=>
  simp only[bP,aG]
  exact lT fun x hx=>by obtain⟨y,_,rfl⟩:=List.mem_map.1 hx; rfl
 |agg l=>rfl
 |_=>simp[bP,aw]
theorem pq[ae]{den:Nat→Type}:∀ {ps:List (Nat×SV den)} {es:List (SV den)},aw es=true→aw (ps.map (·.2))=true→aw (fP es ps)=true
 |[],_,h,_=>h
 |(i,v)::ps,es,h,hc=>by
  simp only[List.map_cons,aw,Bool.and_eq_true]at hc
  simp only[fP]
  exact pq (tc h hc.1 i) hc.2
theorem ux[ae]{den:Nat→Type}{a:AV}{v:SV den}(h:(gW a:Option (SV den))=some v):aG v=true:=by
 cases a with
 |lit x=>simp[gW]at h; subst h; rfl
 |agg l=>
  simp only[gW,Option.map_eq_some_iff]at h
  obtain⟨c,_,rfl⟩:=h
  simp only[aG]
  exact lT fun x hx=>by obtain⟨y,_,rfl⟩:=List.mem_map.1 hx; rfl
 |_=>simp[gW]at h
end Go.PI
end
section
/- PS, part D: parts of values, by value, flat, below: on both sides alike. -/
namespace Go.PI
def aH{α:Type}(hp:ag)(r:RM α)(a:α)(rd:List Nat):Prop:=r.run hp=some a∧∀ n,n∈r.log hp→n∈rd
section
variable {α β:Type}{hp:ag}
theorem aH.pure(a:α):aH hp (pure a:RM α) a []:=⟨rfl,fun n h=>by simp[Pure.pure,RM.log]at h⟩
theorem aH.ret(a:α):aH hp (RM.ret a:RM α) a []:=⟨rfl,fun n h=>by simp[RM.log]at h⟩
theorem aH.mono{r:RM α}{a:α}{rd rd':List Nat}(h:aH hp r a rd)(hs:∀ n,n∈rd→n∈rd'):aH hp r a rd':=⟨h.1,fun n hn=>hs n (h.2 n hn)⟩
theorem aH.bind[ae]{r:RM α}{f:α→RM β}{a:α}{b:β}{rd rd':List Nat}(h:aH hp r a rd)(h':aH hp (f a) b rd'):aH hp (r >>= f) b (rd++rd'):=by
 refine⟨by rw[RM.run_bind,h.1]; exact h'.1,fun n hn=>?_⟩
 rw[RM.eV,h.1]at hn
 simp only[List.mem_append]at hn ⊢
 exact hn.imp (h.2 n) (h'.2 n)
theorem aH.get{n:Nat}{k:aP→RM α}{o:aP}{a:α}{rd:List Nat}(ho:hp[n]?=some (some o))(h:aH hp (k o) a rd):aH hp (.get n k) a (n::rd):=by
 refine⟨by simp[RM.run,ho,h.1],fun m hm=>?_⟩
 simp only[RM.log,ho,List.mem_cons]at hm ⊢
 exact hm.imp id (h.2 m)
theorem aH.arr[ae]{n aq:Nat}{g c f:Bool}{es:List AV}(ho:hp[n]?=some (some (.arr g c f es)))(hl:es.length=aq):aH hp (RM.arr n aq) (g,c,f,es) [n]:=by
 refine aH.get ho ?_
 simp only[hl,if_true]
 exact aH.ret _
theorem aH.iq[ae]{x:Option α}{a:α}(h:x=some a):aH hp (RM.iq x) a []:=by subst h; exact aH.ret a
end
variable {T:dP}
mutual
theorem R.closed{H:ai T.den}:∀ {v:SV T.den} {a:AV},R T H v a→aG v=closed a
 |.dead,a,h=>by simp[R]at h
 |.hole,a,h=>by simp only[R]at h; subst h; rfl
 |.lit v,a,h=>by simp only[R]at h; subst h; rfl
 |.agg l,a,h=>by
  simp only[R]at h
  obtain⟨l',rfl,h2⟩:=h
  simp only[aG,Go.PI.closed]; exact RL.closed h2
 |.jU l,a,h=>by
  simp only[R]at h
  obtain⟨l',rfl,h2⟩:=h
  simp only[aG,Go.PI.closed]; exact RL.closed h2
 |.sl l,a,h=>by
  simp only[R]at h
  obtain⟨l',rfl,h2⟩:=h
  rfl
 |.jT t l,a,h=>by
  simp only[R]at h
  rcases h with ⟨l',rfl,_⟩|⟨_,rfl⟩<;>rfl
 |.xB t l c b,a,h=>by
  simp only[R]at h
  rcases h with ⟨_,l',rfl,_⟩|⟨_,_,rfl|rfl⟩<;>rfl
 |.nz,a,h=>by
  simp only[R]at h
  subst h; rfl
 |.bk e j,a,h=>by
  simp only[R]at h
  obtain⟨e',rfl,h2⟩:=h
  rfl
 |.ref n c i j,a,h=>by
  simp only[R]at h
  obtain⟨aq,rfl,h2⟩:=h
  rfl
 |.jt n c i j ln cp,a,h=>by
  simp only[R]at h
  obtain⟨aq,rfl,h2⟩:=h
  rfl
 |.bu esz n c rg cap,a,h=>by
  simp only[R]at h
  obtain⟨aq,h1,h2⟩:=h
  rcases rg with _|⟨off,len⟩<;>simp only at h2<;>subst h2<;>rfl
 |.ju fn f c,a,h=>by
  simp only[R]at h
  obtain⟨f',c',rfl,h2,h3⟩:=h
  simp only[aG,Go.PI.closed]; rw[RL.closed h2,RL.closed h3]
 |.gH t v,a,h=>by
  simp only[R]at h
  obtain⟨v',rfl,h2⟩:=h
  simp only[aG,Go.PI.closed]; exact R.closed h2
 |.mp y n,a,h=>by
  simp only[R]at h
  obtain⟨rfl,_⟩:=h
  rfl
 |.tz v s len i,a,h=>by
  simp only[R]at h
  obtain⟨a0,h1,_,h2⟩:=h
  have:=R.closed h1
  simp only[aG]
  rcases h2 with ⟨n,aq,k,j,rfl,rfl⟩|⟨e,j,rfl,rfl⟩<;>exact this
theorem RL.closed{H:ai T.den}:∀ {l:List (SV T.den)} {m:List AV},RL T H l m→aw l=bc m
 |[],[],_=>rfl
 |x::xs,y::ys,h=>by
  simp only[RL]at h
  simp only[aw,bc]; rw[R.closed h.1,RL.closed h.2]
 |[],_::_,h=>by simp[RL]at h
 |_::_,[],h=>by simp[RL]at h
end
mutual
theorem R.below{H:ai T.den}{k:Nat}:∀ {v:SV T.den} {a:AV},R T H v a→bx k v=below k a
 |.dead,a,h=>by simp[R]at h
 |.hole,a,h=>by simp only[R]at h; subst h; rfl
 |.lit v,a,h=>by simp only[R]at h; subst h; rfl
 |.agg l,a,h=>by
  simp only[R]at h
  obtain⟨l',rfl,h2⟩:=h
  simp only[bx,Go.PI.below]; exact RL.below h2
 |.jU l,a,h=>by
  simp only[R]at h
  obtain⟨l',rfl,h2⟩:=h
  simp only[bx,Go.PI.below]; exact RL.below h2
 |.sl l,a,h=>by
  simp only[R]at h
  obtain⟨l',rfl,h2⟩:=h
  rfl
 |.jT t l,a,h=>by
  simp only[R]at h
  rcases h with ⟨l',rfl,_⟩|⟨_,rfl⟩<;>rfl
 |.xB t l c b,a,h=>by
  simp only[R]at h
  rcases h with ⟨_,l',rfl,_⟩|⟨_,_,rfl|rfl⟩<;>rfl
 |.nz,a,h=>by
  simp only[R]at h
  subst h; rfl
 |.bk e j,a,h=>by
  simp only[R]at h
  obtain⟨e',rfl,h2⟩:=h
  rfl
 |.ref n c i j,a,h=>by
  simp only[R]at h
  obtain⟨aq,rfl,h2⟩:=h
  rfl
 |.jt n c i j ln cp,a,h=>by
  simp only[R]at h
  obtain⟨aq,rfl,h2⟩:=h
  rfl
 |.bu esz n c rg cap,a,h=>by
  simp only[R]at h
  obtain⟨aq,h1,h2⟩:=h
  rcases rg with _|⟨off,len⟩<;>simp only at h2<;>subst h2<;>rfl
 |.ju fn f c,a,h=>by
  simp only[R]at h
  obtain⟨f',c',rfl,h2,h3⟩:=h
  simp only[bx,Go.PI.below]; rw[RL.below h2,RL.below h3]
 |.gH t v,a,h=>by
  simp only[R]at h
  obtain⟨v',rfl,h2⟩:=h
  simp only[bx,Go.PI.below]; exact R.below h2
 |.mp y n,a,h=>by
  simp only[R]at h
  obtain⟨rfl,_⟩:=h
  rfl
 |.tz v s len i,a,h=>by
  simp only[R]at h
  obtain⟨a0,h1,_,h2⟩:=h
  have:=R.below (k:=k) h1
  simp only[bx]
  rcases h2 with ⟨n,aq,k,j,rfl,rfl⟩|⟨e,j,rfl,rfl⟩<;>exact this
theorem RL.below{H:ai T.den}{k:Nat}:∀ {l:List (SV T.den)} {m:List AV},RL T H l m→gV k l=c7 k m
 |[],[],_=>rfl
 |x::xs,y::ys,h=>by
  simp only[RL]at h
  simp only[gV,c7]; rw[R.below h.1,RL.below h.2]
 |[],_::_,h=>by simp[RL]at h
 |_::_,[],h=>by simp[RL]at h
end
mutual
theorem R.names{H:ai T.den}:∀ {v:SV T.den} {a:AV},R T H v a→nB v=names a
 |.dead,a,h=>by simp[R]at h
 |.hole,a,h=>by simp only[R]at h; subst h; rfl
 |.lit v,a,h=>by simp only[R]at h; subst h; rfl
 |.agg l,a,h=>by
  simp only[R]at h
  obtain⟨l',rfl,h2⟩:=h
  simp only[nB,Go.PI.names]; exact RL.names h2
 |.jU l,a,h=>by
  simp only[R]at h
  obtain⟨l',rfl,h2⟩:=h
  simp only[nB,Go.PI.names]; exact RL.names h2
 |.sl l,a,h=>by
  simp only[R]at h
  obtain⟨l',rfl,h2⟩:=h
  rfl
 |.jT t l,a,h=>by
  simp only[R]at h
  rcases h with ⟨l',rfl,_⟩|⟨_,rfl⟩<;>rfl
 |.xB t l c b,a,h=>by
  simp only[R]at h
  rcases h with ⟨_,l',rfl,_⟩|⟨_,_,rfl|rfl⟩<;>rfl
 |.nz,a,h=>by
  simp only[R]at h
  subst h; rfl
 |.bk e j,a,h=>by
  simp only[R]at h
  obtain⟨e',rfl,h2⟩:=h
  rfl
 |.ref n c i j,a,h=>by
  simp only[R]at h
  obtain⟨aq,rfl,h2⟩:=h
  rfl
 |.jt n c i j ln cp,a,h=>by
  simp only[R]at h
  obtain⟨aq,rfl,h2⟩:=h
  rfl
 |.bu esz n c rg cap,a,h=>by
  simp only[R]at h
  obtain⟨aq,h1,h2⟩:=h
  rcases rg with _|⟨off,len⟩<;>simp only at h2<;>subst h2<;>rfl
 |.ju fn f c,a,h=>by
  simp only[R]at h
  obtain⟨f',c',rfl,h2,h3⟩:=h
  simp only[nB,Go.PI.names]; rw[RL.names h2,RL.names h3]
 |.gH t v,a,h=>by
  simp only[R]at h
  obtain⟨v',rfl,h2⟩:=h
  simp only[nB,Go.PI.names]; exact R.names h2
 |.mp y n,a,h=>by
  simp only[R]at h
  obtain⟨rfl,_⟩:=h
  rfl
 |.tz v s len i,a,h=>by
  simp only[R]at h
  obtain⟨a0,h1,_,h2⟩:=h
  have:=R.names h1
  simp only[nB]
  rcases h2 with ⟨n,aq,k,j,rfl,rfl⟩|⟨e,j,rfl,rfl⟩<;>exact this
theorem RL.names{H:ai T.den}:∀ {l:List (SV T.den)} {m:List AV},RL T H l m→nb l=cD m
 |[],[],_=>rfl
 |x::xs,y::ys,h=>by
  simp only[RL]at h
  simp only[nb,cD]; rw[R.names h.1,RL.names h.2]
 |[],_::_,h=>by simp[RL]at h
 |_::_,[],h=>by simp[RL]at h
end
theorem R.leaf{H:ai T.den}{v:SV T.den}{a:AV}(h:R T H v a):gU v=bg a:=by
 cases v with
 |dead=>simp[R]at h
 |hole=>simp only[R]at h; subst h; rfl
 |lit v=>simp only[R]at h; subst h; rfl
 |agg l=>simp only[R]at h; obtain⟨l',rfl,h2⟩:=h; rfl
 |jU l=>simp only[R]at h; obtain⟨l',rfl,h2⟩:=h; rfl
 |sl l=>simp only[R]at h; obtain⟨l',rfl,h2⟩:=h; rfl
 |jT t l=>simp only[R]at h; rcases h with ⟨l',rfl,_⟩|⟨_,rfl⟩<;>rfl
 |xB t l c b=>simp only[R]at h; rcases h with ⟨_,l',rfl,_⟩|⟨_,_,rfl|rfl⟩<;>rfl
 |nz=>simp only[R]at h; subst h; rfl
 |bk e j=>simp only[R]at h; obtain⟨e',rfl,h2⟩:=h; rfl
 |ref n c i j=>simp only[R]at h; obtain⟨aq,rfl,h2⟩:=h; rfl
 |jt n c i j ln cp=>simp only[R]at h; obtain⟨aq,rfl,h2⟩:=h; rfl
 |bu esz n c rg cap=>
  simp only[R]at h
  obtain⟨aq,h1,h2⟩:=h
  rcases rg with _|⟨off,len⟩<;>simp only at h2<;>subst h2<;>rfl
 |ju fn f c=>simp only[R]at h; obtain⟨f',c',rfl,h2,h3⟩:=h; rfl
 |gH t v=>simp only[R]at h; obtain⟨v',rfl,h2⟩:=h; rfl
 |mp y n=>simp only[R]at h; obtain⟨rfl,h2⟩:=h; rfl
 |tz v s len i=>simp only[R]at h; obtain⟨a0,_,_,h2⟩:=h; rcases h2 with ⟨n,aq,k,j,rfl,rfl⟩|⟨e,j,rfl,rfl⟩<;>rfl
theorem R.F6{H:ai T.den}{v:SV T.den}{a:AV}(h:R T H v a)(hv:∀ l,v≠.agg l):∀ l,a≠.agg l:=by
 intro l e
 subst e
 cases v with
 |dead=>simp[R]at h
 |hole=>simp[R]at h
 |lit v=>simp[R]at h
 |agg l=>exact hv l rfl
 |jU l=>simp[R]at h
 |sl l=>simp[R]at h
 |jT t l=>simp[R]at h
 |bk e j=>simp[R]at h
 |ref n c i j=>simp[R]at h
 |jt n c i j ln cp=>simp[R]at h
 |bu esz n c rg cap=>
  grind[R]
 |ju fn f c=>simp[R]at h
 |gH t v=>simp[R]at h
 |mp y n=>simp[R]at h
 |tz v s len i=>simp[R,WX]at h
 |xB t l c b=>simp[R]at h
 |nz=>simp[R]at h
theorem RL.length[ae]{H:ai T.den}{l:List (SV T.den)}{m:List AV}(h:RL T H l m):l.length=m.length:=ay.length (aU.1 h)
theorem RL.lits{H:ai T.den}:∀ (c:List Value),RL T H (c.map .lit) (c.map .lit)
 |[]=>by simp[RL]
 |v::vs=>by simp only[List.map_cons,RL]; exact⟨by simp[R],RL.lits vs⟩
theorem R.cells[ae]{H:ai T.den}{v:SV T.den}{a:AV}(h:R T H v a):RL T H (bP v) (cellsOf a):=by
 cases v with
 |dead=>simp[R]at h
 |hole=>simp_all[R,bP,cellsOf,RL]
 |lit v=>simp only[R]at h; subst h; exact RL.lits _
 |agg l=>simp only[R]at h; obtain⟨l',rfl,h2⟩:=h; exact h2
 |jT t l=>
  have h':=h
  simp only[R]at h
  rcases h with ⟨l',rfl,_⟩|⟨_,rfl⟩
  ·simp_all[bP,cellsOf,RL]
  ·show RL T H [_] [AV.lit cX]
   simp only[RL]; exact⟨h',trivial⟩
 |jU l=>grind[R,bP,cellsOf,RL]
 |sl l=>grind[R,bP,cellsOf,RL]
 |bk e j=>grind[R,bP,cellsOf,RL]
 |ref n c i j=>grind[R,bP,cellsOf,RL]
 |jt n c i j ln cp=>grind[R,bP,cellsOf,RL]
 |bu esz n c rg cap=>
  grind[R,bP,cellsOf,RL]
 |ju fn f c=>grind[R,bP,cellsOf,RL]
 |gH t v=>grind[R,bP,cellsOf,RL]
 |nz=>
  simp_all[R,bP,cellsOf,RL]
 |xB t l c b=>
  have h':=h
  simp only[R]at h
  rcases h with ⟨_,l',rfl,_⟩|⟨_,_,rfl|rfl⟩
  ·simp_all[bP,cellsOf,RL]
  ·simp_all[bP,cellsOf,RL]
  ·show RL T H [_] [AV.lit cX]
   simp only[RL]; exact⟨h',trivial⟩
 |mp y n=>simp_all[R,bP,cellsOf,RL]
 |tz v s len i=>
  have h':=h
  simp only[R]at h
  obtain⟨a0,_,_,h2⟩:=h
  rcases h2 with ⟨n,aq,k,j,rfl,rfl⟩|⟨e,j,rfl,rfl⟩<;>simp only[bP,cellsOf,RL]<;>exact⟨h',trivial⟩
theorem RL.all{H:ai T.den}{p:SV T.den→Bool}{q:AV→Bool}(Nk:∀ v a,R T H v a→p v=q a):∀ {l:List (SV T.den)} {m:List AV},RL T H l m→l.all p=m.all q
 |[],[],_=>rfl
 |x::xs,y::ys,h=>by
  simp only[RL]at h
  simp only[List.all_cons]; rw[Nk _ _ h.1,RL.all Nk h.2]
 |[],_::_,h=>by simp[RL]at h
 |_::_,[],h=>by simp[RL]at h
theorem RL.DN[ae]{H:ai T.den}{l:List (SV T.den)}{m:List AV}(h:RL T H l m):l.all gU=m.all bg:=RL.all (fun _ _=>R.leaf) h
theorem DP{agg:Bool}{size:Nat}{a:AV}{j:Nat}(ha:∀ l,a≠.agg l):fe agg size a j=if !agg&&bg a&&decide (j=0) then some a else none:=by
 cases a<;>first|rfl|exact absurd rfl (ha _)
theorem DQ{agg:Bool}{size:Nat}{v:SV T.den}{j:Nat}(ha:∀ l,v≠.agg l):og agg size v j=if !agg&&gU v&&decide (j=0) then some v else none:=by
 cases v<;>first|rfl|exact absurd rfl (ha _)
theorem R.part[ae]{H:ai T.den}{agg:Bool}{size:Nat}{v x:SV T.den}{a:AV}{j:Nat}(h:R T H v a)(hp:og agg size v j=some x):∃ b,fe agg size a j=some b∧R T H x b:=by
 by_cases hv:∃ l,v=.agg l
 ·obtain⟨l,rfl⟩:=hv
  simp only[R]at h
  obtain⟨l',rfl,h2⟩:=h
  have hl:=h2.length
  cases agg with
  |true=>
   simp only[og,if_true]at hp
   split at hp
   case isFalse=>simp at hp
   simp only[Option.some.injEq]at hp
   subst hp
   refine⟨_,by simp only[fe,if_true]; rw[if_pos (by omega)],?_⟩
   simp only[R]
   exact⟨_,rfl,aU.2 (((aU.1 h2).drop j).take size)⟩
  |false=>
   simp only[og,Bool.false_eq_true,if_false]at hp
   obtain⟨b,h3,h4⟩:=ay.get (aU.1 h2) hp
   exact⟨b,by simpa[fe] using h3,h4⟩
 ·have jS:∀ l,v≠.agg l:=fun l e=>hv ⟨l,e⟩
  rw[DQ jS]at hp
  rw[DP (h.F6 jS),←h.leaf]
  split at hp
  case isFalse=>simp at hp
  rename_i hc
  simp only[Option.some.injEq]at hp
  subst hp
  exact⟨a,by rw[if_pos hc],h⟩
theorem RL.setCells[ae]{H:ai T.den}:∀ {cs:List (SV T.den)} {mH:List AV} {l:List (SV T.den)} {l':List AV} (j:Nat),RL T H l l'→RL T H cs mH→RL T H (jm l j cs) (setCells l' j mH)
 |[],[],l,l',j,h,_=>h
 |x::xs,y::ys,l,l',j,h,hc=>by
  simp only[RL]at hc
  simp only[jm,Go.PI.setCells]
  exact RL.setCells (j+1) (aU.2 ((aU.1 h).set j hc.1)) hc.2
 |[],_::_,_,_,_,_,h=>by simp[RL]at h
 |_::_,[],_,_,_,_,h=>by simp[RL]at h
theorem zW{a y:AV}{j:Nat}(ha:∀ l,a≠.agg l)(hl:bg a=true)(hj:j=0):jv a j [y]=some y:=by
 simp_all[jv,hl]
theorem yR{v e':SV T.den}{cs:List (SV T.den)}{j:Nat}(ha:∀ l,v≠.agg l)(h:gv v j cs=some e'):∃ y,cs=[y]∧e'=y∧gU v=true∧j=0:=by
 match cs with
 |[]=>simp_all[gv]
 |[y]=>simp_all[gv]
 |_::_::_=>simp_all[gv]
theorem R.jv[ae]{H:ai T.den}{v e':SV T.den}{a:AV}{j:Nat}{cs:List (SV T.den)}{mH:List AV}(h:R T H v a)(hc:RL T H cs mH)(hp:gv v j cs=some e'):
  ∃ b,Go.PI.jv a j mH=some b∧R T H e' b:=by
 by_cases hv:∃ l,v=.agg l
 ·obtain⟨l,rfl⟩:=hv
  simp only[R]at h
  obtain⟨l',rfl,h2⟩:=h
  simp only[gv]at hp
  split at hp
  case isFalse=>simp at hp
  simp only[Option.some.injEq]at hp
  subst hp
  have h3:=h2.length
  have h4:=hc.length
  exact⟨_,by simp only[Go.PI.jv]; rw[if_pos (by omega)],by simp only[R]; exact⟨_,rfl,RL.setCells j h2 hc⟩⟩
 ·have jS:∀ l,v≠.agg l:=fun l e=>hv ⟨l,e⟩
  obtain⟨y,rfl,rfl,h3,h4⟩:=yR jS hp
  match mH,hc with
  |[b],hc=>
   simp only[RL]at hc
   exact⟨b,zW (h.F6 jS) (by rw[←h.leaf]; exact h3) h4,hc.1⟩
  |[],hc=>simp[RL]at hc
  |_::_::_,hc=>simp[RL]at hc
def RP(T:dP)(H:ai T.den):List (Nat×SV T.den)→List (Nat×AV)→Prop:=ay fun p q=>p.1=q.1∧R T H p.2 q.2
theorem RP.fill[ae]{H:ai T.den}{place:Nat→Option (Nat×Nat)}:∀ {ps:List (Nat×SV T.den)} {qs:List (Nat×AV)} {l r:List (SV T.den)} {l':List AV},RP T H ps qs→RL T H l l'→AR place l ps=some r →
  ∃ r',rU place l' qs=some r'∧RL T H r r'
 |[],[],l,r,l',_,hl,h=>by
  simp only[AR,Option.some.injEq]at h
  subst h
  exact⟨l',rfl,hl⟩
 |(i,v)::ps,(i',a)::qs,l,r,l',hp,hl,h=>by
  obtain⟨⟨h1,h2⟩,h3⟩:=hp
  simp only at h1 h2
  subst h1
  simp only[AR]at h
  simp only[rU]
  cases GD:place i with
  |none=>rw[GD]at h; simp at h
  |some q=>
   obtain⟨off,size⟩:=q
   rw[GD]at h
   simp only at h ⊢
   split at h
   case isFalse=>simp at h
   rename_i hc
   have mT:=h2.cells
   rw[if_pos ⟨by rw[←mT.length]; exact hc.1,by rw[←hl.length]; exact hc.2.1,by rw[←mT.DN]; exact hc.2.2⟩]
   exact RP.fill h3 (RL.setCells off hl mT) h
 |[],_::_,_,_,_,h,_,_=>h.elim
 |_::_,[],_,_,_,h,_,_=>h.elim
theorem R.aJ[ae]{H:ai T.den}{agg:Bool}{size:Nat}{v:SV T.den}{a:AV}(h:R T H v a):lK agg size v=aJ agg size a:=by
 by_cases hv:∃ l,v=.agg l
 ·obtain⟨l,rfl⟩:=hv
  simp only[R]at h
  obtain⟨l',rfl,h2⟩:=h
  simp only[lK,Go.PI.aJ]
  rw[h2.length,h2.DN]
 ·have jS:∀ l,v≠.agg l:=fun l e=>hv ⟨l,e⟩
  have e1:lK agg size v=(!agg&&decide (size=1)&&gU v):=by cases v<;>first|rfl|exact absurd rfl (jS _)
  have e2:Go.PI.aJ agg size a=(!agg&&decide (size=1)&&bg a):=by
   have:=h.F6 jS
   cases a<;>first|rfl|exact absurd rfl (this _)
  rw[e1,e2,h.leaf]
theorem RL.dh{H:ai T.den}:∀ {l:List (SV T.den)} {m:List AV} {c:List Value},RL T H l m→nd l=some c→Go.PI.dh m=some c∧m=c.map .lit
 |[],[],c,_,h=>by simp[nd]at h; subst h; exact⟨rfl,rfl⟩
 |x::xs,y::ys,c,h,hc=>by
  simp only[RL]at h
  cases x with
  |lit v=>
   simp only[nd,Option.map_eq_some_iff]at hc
   obtain⟨c',h1,rfl⟩:=hc
   have h2:=h.1
   simp only[R]at h2
   subst h2
   obtain⟨h3,h4⟩:=RL.dh h.2 h1
   exact⟨by simp[Go.PI.dh,h3],by simp[h4]⟩
  |_=>simp[nd]at hc
 |[],_::_,_,h,_=>by simp[RL]at h
 |_::_,[],_,h,_=>by simp[RL]at h
theorem R.plain[ae]{H:ai T.den}{v:SV T.den}{a b:AV}(h:R T H v a)(hp:nC v=some b):a=b:=by
 cases v with
 |lit v=>simp_all[R,nC]
 |agg l=>
  simp only[R]at h
  obtain⟨l',rfl,h2⟩:=h
  simp only[nC,Option.map_eq_some_iff]at hp
  obtain⟨c,h3,rfl⟩:=hp
  rw[(RL.dh h2 h3).2]
 |_=>simp[nC]at hp
theorem vM[ae]{H:ai T.den}{a:AV}{v:SV T.den}(h:(gW a:Option (SV T.den))=some v):R T H v a:=by
 cases a with
 |lit x=>simp[gW]at h; subst h; simp[R]
 |agg l=>
  simp only[gW,Option.map_eq_some_iff]at h
  obtain⟨c,h1,rfl⟩:=h
  simp only[R]
  refine⟨l,rfl,?_⟩
  have:l=c.map .lit:=by
   revert c
   induction l with
   |nil=>simp_all[Go.PI.dh]
   |cons x xs ih=>
    intro c h1
    cases x with
    |lit v=>
     simp only[Go.PI.dh,Option.map_eq_some_iff]at h1
     obtain⟨c',h2,rfl⟩:=h1
     rw[ih c' h2]; rfl
    |_=>simp[Go.PI.dh]at h1
  rw[this]
  exact RL.lits c
 |_=>simp[gW]at h
end Go.PI
end
section
/- PS, part E: the tables looked up before. -/
namespace Go.PI
def oW:TypeDesc→MK
 |.slice e=>.slice e
 |.array n e=>.array n e
 |.struct fs=>.struct (fs.toList.map fun f=>(f.offset,f.type))
 |.interface _=>.iface
 |_=>.other
def kQ(rec:TypeId→Option (List CK))(P:Program):Nat→List Field→Option (List CK)
 |_,[]=>some []
 | off, f :: fs => if f.name = "_" then none else
   if f.offset=off then
    match rec f.type with
    |some ks=>if ks.length=P.cellsOf f.type then (kQ rec P (off+ks.length) fs).map fun l=>ks++l else none
    |none=>none
   else none
def nj(P:Program):Nat→TypeId→Option (List CK)
 |0,_=>none
 |d+1,t=>
  match P.underlying t with
  |some .bool=>some [.bool]
  |some (.int k)=>some [.int k]
  |some .string=>some [.str]
  |some (.array n e)=>if (P.info? e).isSome&&(P.underlying e).isSome then
    match nj P d e with
    |some ks=>if ks.length=P.cellsOf e then some (List.replicate n ks).flatten else none
    |none=>none
   else none
  |some (.struct fs)=>if P.stoodInHeld t then none else kQ (nj P d) P 0 fs.toList
  |_=>none
theorem kR:∀ {ks:List CK} {vs:List Value},bo ks vs=true→ks.length=vs.length
 |[],[],_=>rfl
 |_::_,_::_,h=>by simp only[bo,Bool.and_eq_true]at h; simp[kR h.2]
 |[],_::_,h=>by simp[bo]at h
 |_::_,[],h=>by simp[bo]at h
theorem qA:∀ {ks ls:List CK} {vs:List Value},bo (ks++ls) vs=true→bo ks (vs.take ks.length)=true∧bo ls (vs.drop ks.length)=true
 |[],ls,vs,h=>by simpa[bo] using h
 |k::ks,ls,[],h=>by simp[bo]at h
 |k::ks,ls,v::vs,h=>by
  simp only[List.cons_append,bo,Bool.and_eq_true]at h
  obtain⟨h1,h2⟩:=qA h.2
  simp only[List.length_cons,List.take_succ_cons,List.drop_succ_cons,bo,Bool.and_eq_true]
  exact⟨⟨h.1,h1⟩,h2⟩
theorem qB:∀ {a a' b b':List Value},a.length=a'.length→cV (a++b) (a'++b')=(cV a a'&&cV b b')
 |[],[],b,b',_=>by simp[cV]
 |x::xs,y::ys,b,b',h=>by
  simp only[List.cons_append,cV]
  rw[qB (by simpa using h),Bool.and_assoc]
theorem qC[ae]{P:Program}{rec:TypeId→List Value→List Value→Option Bool}{kr:TypeId→Option (List CK)}
  (hr:∀ t ks c c',kr t=some ks→bo ks c=true→bo ks c'=true→rec t c c'=some (cV c c')) :
  ∀ (fs:List Field) (off:Nat) (ks:List CK) (cs mH:List Value),kQ kr P off fs=some ks→bo ks (cs.drop off)=true→bo ks (mH.drop off)=true →
    jZ rec P cs mH fs=some (cV (cs.drop off) (mH.drop off))
 |[],off,ks,cs,mH,h,h1,h2=>by
  simp only[kQ,Option.some.injEq]at h
  subst h
  have e1:cs.drop off=[]:=by cases hq:cs.drop off with
   |nil=>rfl
   |cons x xs=>rw[hq]at h1; simp[bo]at h1
  have e2:mH.drop off=[]:=by cases hq:mH.drop off with
   |nil=>rfl
   |cons x xs=>rw[hq]at h2; simp[bo]at h2
  rw[e1,e2]; rfl
 |f::fs,off,ks,cs,mH,h,h1,h2=>by
  simp only[kQ]at h
  split at h
  ·simp at h
  rename_i hn
  split at h
  case isFalse=>simp at h
  rename_i ho
  cases hk:kr f.type with
  |none=>rw[hk]at h; simp at h
  |some k1=>
   rw[hk]at h
   simp only at h
   split at h
   case isFalse=>simp at h
   rename_i hs
   rw[Option.map_eq_some_iff]at h
   obtain⟨k2,h3,rfl⟩:=h
   obtain⟨a1,a2⟩:=qA h1
   obtain⟨b1,b2⟩:=qA h2
   rw[List.drop_drop]at a2 b2
   have ih:=qC hr fs (off+k1.length) k2 cs mH h3 a2 b2
   have hc:chunk P cs f.offset f.type=(cs.drop off).take k1.length:=by simp[chunk,ho,hs]
   have FT:chunk P mH f.offset f.type=(mH.drop off).take k1.length:=by simp[chunk,ho,hs]
   simp only[jZ,hn,if_false]
   rw[hc,FT,hr _ _ _ _ hk a1 b1]
   simp only
   rw[ih,Option.map_some]
   congr 1
   have l1:=kR a1
   have l2:=kR b1
   conv=>rhs; rw[←List.take_append_drop k1.length (cs.drop off),←List.take_append_drop k1.length (mH.drop off)]
   rw[qB (by omega),List.drop_drop,List.drop_drop]
theorem sh[ae]{P:Program}{rec:TypeId→List Value→List Value→Option Bool}{e:TypeId}{ks:List CK}(hs:ks.length=P.cellsOf e)
  (hr:∀ c c',bo ks c=true→bo ks c'=true→rec e c c'=some (cV c c')) :
  ∀ (n m:Nat) (cs mH:List Value),bo (List.replicate n ks).flatten (cs.drop (m*ks.length))=true→bo (List.replicate n ks).flatten (mH.drop (m*ks.length))=true →
    lY rec P e cs mH (List.range' m n)=some (cV (cs.drop (m*ks.length)) (mH.drop (m*ks.length)))
 |0,m,cs,mH,h1,h2=>by
  simp only[List.replicate_zero,List.flatten_nil]at h1 h2
  have e1:cs.drop (m*ks.length)=[]:=by cases hq:cs.drop (m*ks.length) with
   |nil=>rfl
   |cons x xs=>rw[hq]at h1; simp[bo]at h1
  have e2:mH.drop (m*ks.length)=[]:=by cases hq:mH.drop (m*ks.length) with
   |nil=>rfl
   |cons x xs=>rw[hq]at h2; simp[bo]at h2
  rw[e1,e2]; rfl
 |n+1,m,cs,mH,h1,h2=>by
  simp only[List.replicate_succ,List.flatten_cons]at h1 h2
  obtain⟨a1,a2⟩:=qA h1
  obtain⟨b1,b2⟩:=qA h2
  rw[List.drop_drop]at a2 b2
  have em:m*ks.length+ks.length=(m+1)*ks.length:=by rw[Nat.succ_mul]
  rw[em]at a2 b2
  have ih:=sh hs hr n (m+1) cs mH a2 b2
  have hc:chunk P cs (m*P.cellsOf e) e=(cs.drop (m*ks.length)).take ks.length:=by simp[chunk,hs]
  have FT:chunk P mH (m*P.cellsOf e) e=(mH.drop (m*ks.length)).take ks.length:=by simp[chunk,hs]
  rw[List.range'_succ]
  simp only[lY]
  rw[hc,FT,hr _ _ a1 b1]
  simp only
  rw[ih,Option.map_some]
  congr 1
  have l1:=kR a1
  have l2:=kR b1
  conv=>rhs; rw[←List.take_append_drop ks.length (cs.drop (m*ks.length)),←List.take_append_drop ks.length (mH.drop (m*ks.length))]
  rw[qB (by omega),List.drop_drop,List.drop_drop,em]
theorem te[ae]{P:Program}:∀ (d:Nat) (t:TypeId) (ks:List CK) (c c':List Value),nj P d t=some ks→bo ks c=true→bo ks c'=true→kX P d t c c'=some (cV c c')
 |0,_,_,_,_,h,_,_=>by simp[nj]at h
 |d+1,t,ks,c,c',h,h1,h2=>by
  simp only[nj]at h
  simp only[kX]
  cases hu:P.underlying t with
  |none=>rw[hu]at h; simp at h
  |some ds=>
   rw[hu]at h
   cases ds with
   |bool=>
    simp only[Option.some.injEq]at h
    subst h
    match c,c',h1,h2 with
    |[.bool a],[.bool b],_,_=>simp[cV,sT]
    |[],_,h1,_=>simp[bo]at h1
    |_::_::_,_,h1,_=>simp[bo]at h1
    |_,[],_,h2=>simp[bo]at h2
    |_,_::_::_,_,h2=>simp[bo]at h2
    |[v],[w],h1,h2=>
     cases v<;>simp[bo,CK.fits]at h1
     cases w<;>simp[bo,CK.fits]at h2
     simp[cV,sT]
   |int k=>
    simp only[Option.some.injEq]at h
    subst h
    match c,c',h1,h2 with
    |[],_,h1,_=>simp[bo]at h1
    |_::_::_,_,h1,_=>simp[bo]at h1
    |_,[],_,h2=>simp[bo]at h2
    |_,_::_::_,_,h2=>simp[bo]at h2
    |[v],[w],h1,h2=>
     cases v<;>simp[bo,CK.fits]at h1
     cases w<;>simp[bo,CK.fits]at h2
     subst h1; subst h2
     simp[cV,sT]
   |string=>
    simp only[Option.some.injEq]at h
    subst h
    match c,c',h1,h2 with
    |[],_,h1,_=>simp[bo]at h1
    |_::_::_,_,h1,_=>simp[bo]at h1
    |_,[],_,h2=>simp[bo]at h2
    |_,_::_::_,_,h2=>simp[bo]at h2
    |[v],[w],h1,h2=>
     cases v<;>simp[bo,CK.fits]at h1
     cases w<;>simp[bo,CK.fits]at h2
     simp[cV,sT]
   |array n e=>
    simp only at h ⊢
    split at h
    case isFalse=>simp at h
    rename_i hc
    rw[if_pos hc]
    cases hk:nj P d e with
    |none=>rw[hk]at h; simp at h
    |some k1=>
     rw[hk]at h
     simp only at h
     split at h
     case isFalse=>simp at h
     rename_i hs
     simp only[Option.some.injEq]at h
     subst h
     have:=sh (rec:=kX P d) hs (fun c c'=>te d e k1 c c' hk) n 0 c c' (by simpa using h1) (by simpa using h2)
     rw[List.range_eq_range']
     simpa using this
   |struct fs=>
    simp only at h ⊢
    split at h
    ·simp at h
    rename_i hc
    rw[if_neg hc]
    have:=qC (rec:=kX P d) (fun t ks c c' hk=>te d t ks c c' hk) fs.toList 0 ks c c' h (by simpa using h1) (by simpa using h2)
    simpa using this
   |_=>simp at h
structure ik.Ok(Q:ik):Prop where
 row:∀ t m,Q.ty t=some m→∃ r,fH Q.P t=some r∧r.isAgg=m.agg∧r.size=m.size∧r.bytes=m.bytes∧(∀ z,m.zero=some z→cC r=some z)
 kind:∀ t m,Q.ty t=some m→∃ d,Q.P.underlying t=some d∧oW d=m.kind
 PS:∀ t m ks,Q.ty t=some m→m.PS=some ks→Q.P.eqGuardType Q.P.depth t=false∧nj Q.P 20 t=some ks
 map:∀ t q,Q.mapOf t=some q→xJ Q.P t=some q
theorem gY{α:Type}:∀ {l:List (Nat×α)} {n:Nat} {a:α},cE l n=some a→(n,a)∈l
 |[],_,_,h=>by simp[cE]at h
 |(m,b)::r,n,a,h=>by
  simp only[cE]at h
  split at h
  ·simp_all
  ·exact List.mem_cons_of_mem _ (gY h)
def rowOf(P:Program)(t:Nat):Option (Bool×Nat×Nat):=(fH P t).map fun r=>(r.isAgg,r.size,r.bytes)
def zeroOf(P:Program)(m:kD)(t:Nat):Option AV:=match m.zero with
 |none=>none
 |some _=>(fH P t).bind cC
def PX(P:Program)(m:kD)(t:Nat):Option (List CK):=match m.PS with
 |none=>none
 |some _=>if P.eqGuardType P.depth t=false then nj P 20 t else none
def LP(P:Program)(m:kD)(t:Nat):Option (KK×Nat):=match m.map with
 |none=>none
 |some _=>xJ P t
theorem vP{α β:Type}{f g:α→β}:∀ {l:List α},l.map f=l.map g→∀ x,x∈l→f x=g x
 |[],_,x,h=>by simp at h
 |y::ys,h,x,hx=>by
  simp only[List.map_cons,List.cons.injEq]at h
  rcases List.mem_cons.1 hx with rfl|hx
  ·exact h.1
  ·exact vP h.2 x hx
theorem ik.Ok.of[ae]{Q:ik}(h1:(Q.M.map fun q=>rowOf Q.P q.1)=Q.M.map fun q=>some (q.2.agg,q.2.size,q.2.bytes))
  (h2:(Q.M.map fun q=>zeroOf Q.P q.2 q.1)=Q.M.map fun q=>q.2.zero)
  (h3:(Q.M.map fun q=>(Q.P.underlying q.1).map oW)=Q.M.map fun q=>some q.2.kind)
  (h4:(Q.M.map fun q=>PX Q.P q.2 q.1)=Q.M.map fun q=>q.2.PS) (h5:(Q.M.map fun q=>LP Q.P q.2 q.1)=Q.M.map fun q=>q.2.map):Q.Ok where
 row:=by
  intro t m h
  have hm:=gY h
  have e1:=vP h1 _ hm
  have e2:=vP h2 _ hm
  simp only[rowOf,Option.map_eq_some_iff,Prod.mk.injEq]at e1
  obtain⟨r,hr,a1,a2,a3⟩:=e1
  refine⟨r,hr,a1,a2,a3,fun z hz=>?_⟩
  simp only[zeroOf]at e2
  rw[hz]at e2
  simpa[hr] using e2
 kind:=by
  intro t m h
  have e:=vP h3 _ (gY h)
  simp only[Option.map_eq_some_iff]at e
  exact e
 PS:=by
  intro t m ks h hk
  have e:=vP h4 _ (gY h)
  simp only[PX]at e
  rw[hk]at e
  simp only at e
  split at e
  ·exact⟨by assumption,e⟩
  ·simp at e
 map:=by
  intro t q h
  unfold ik.mapOf at h
  obtain⟨m,h1,h2⟩:=Option.bind_eq_some_iff.1 h
  have e:=vP h5 _ (gY h1)
  simp only[LP]at e
  rw[h2]at e
  exact e
end Go.PI
end
section
/- PS, part F: operations that only compute, and those on one object. -/
namespace Go.PI
variable {T:dP}{ρ:Type}
structure RE(T:dP)(H:ai T.den)(hp:ag)(v:SV T.den)(wr:List (Nat×aE T.den))(e:dK):Prop where
 val:RV T (bh H wr) v e.val
 hp:RH T (bh H wr) (ak hp e.wr)
 grow:dJ H (bh H wr)
 names:∀ q,q∈e.wr→q.1∈wr.map (·.1)
 pz:∀ n:Nat,n∉wr.map (·.1)→n<H.length→(bh H wr)[n]?=H[n]?
 len:H.length≤(bh H wr).length
 LQ:∀ n,recAt H n=true→n∉wr.map (·.1)
def jN(T:dP)(H:ai T.den)(hp:ag)(m:RM dK)(K:EK T ρ)(r:ρ):Prop:=
 ∃ v wr rd e,aH hp m e rd∧RE T H hp v wr e∧(K v wr rd).run=some r
section
variable {H:ai T.den}{hp:ag}{K:EK T ρ}{r:ρ}
theorem ar[ae](hh:RH T H hp){m:RM dK}{v:SV T.den}{a:AV}{rd:List Nat}(hv:RV T H v a)(hm:aH hp m ⟨a,[]⟩ rd)(hk:(K v [] rd).run=some r):jN T H hp m K r:=
 ⟨v,[],rd,_,hm,⟨hv,hh,dJ.refl _,fun q h=>by simp at h,fun _ _ _=>rfl,Nat.le_refl _,fun _ _ h=>by simp at h⟩,hk⟩
theorem wS{n:Nat}{o:aE T.den}(hn:n=H.length∨n<H.length):H.length≤(bQ H n o).length:=by
 unfold bQ
 split<;>simp
theorem yS{n m:Nat}{o:aE T.den}(hm:m<H.length)(dE:m≠n):(bQ H n o)[m]?=H[m]?:=by
 grind[bQ]
theorem e9[ae](hh:RH T H hp){m:RM dK}{nm:Nat}(hn:nm=H.length∨H[nm]?=some none){o:aE T.den}{a':aP}(ho:RO T H o a'){v:SV T.den}{a:AV}{rd:List Nat}
  (hv:RV T (bQ H nm o) v a) (hm:aH hp m ⟨a,[(nm,a')]⟩ rd) (hk:(K v [(nm,o)] rd).run=some r):jN T H hp m K r:=by
 obtain⟨hg,hr⟩:=hh.new hn ho
 refine⟨v,[(nm,o)],rd,_,hm,⟨hv,hr,hg,fun q h=>?_,fun n h hl=>?_,?_,fun n h1 h2=>?_⟩,hk⟩
 ·simp at h; subst h; simp
 ·simp at h; exact yS hl h
 ·exact wS (hn.imp id fun h=>(List.getElem?_eq_some_iff.1 h).1)
 ·simp at h2
  subst h2
  unfold recAt at h1
  rcases hn with hn|hn
  ·rw[List.getElem?_eq_none (by omega)]at h1; simp at h1
  ·rw[hn]at h1; simp at h1
theorem kq[ae](hh:RH T H hp){m:RM dK}{n:Nat}{o o':aE T.den}{a':aP}(ho:H[n]?=some (some o))(hc:o.cur≤o'.cur)(hl:o'.cur=o.cur→o'.len=o.len)(dV:RO T H o' a')
  {v:SV T.den} {a:AV} {rd:List Nat} (hv:RV T (H.set n (some o')) v a) (hm:aH hp m ⟨a,[(n,a')]⟩ rd) (hk:(K v [(n,o')] rd).run=some r) (Ni:o.isRec=false:=by rfl):jN T H hp m K r:=by
 obtain⟨hg,hr⟩:=hh.Sz ho hc hl dV
 have bE:=(List.getElem?_eq_some_iff.1 ho).1
 have e1:bh H [(n,o')]=H.set n (some o'):=by simp[bh,bQ]; omega
 have e2:ak hp [(n,a')]=hp.set n (some a'):=by simp[ak,setObj]; have:=hh.length; omega
 refine⟨v,[(n,o')],rd,_,hm,⟨by rw[e1]; exact hv,by rw[e1,e2]; exact hr,by rw[e1]; exact hg,fun q h=>?_,fun k h hl=>?_,?_,fun m h1 h2=>?_⟩,hk⟩
 ·simp at h; subst h; simp
 ·rw[e1]; simp at h; rw[List.getElem?_set_ne (Ne.symm h)]
 ·rw[e1]; simp
 ·simp at h2
  subst h2
  unfold recAt at h1
  rw[ho]at h1
  simp only at h1
  rw[Ni]at h1
  simp at h1
theorem iD{x:Option AV}(h:(pn (T:=T) x K).run=some r):∃ v,x=some (.lit v)∧(K (.lit v) [] []).run=some r:=by
 unfold pn at h
 split at h
 ·exact⟨_,rfl,h⟩
 ·simp[Tr.run]at h
theorem mE{x:Option (SV T.den)}{rd:List Nat}(h:(yG x rd K).run=some r):∃ v,x=some v∧(K v [] rd).run=some r:=by
 unfold yG at h
 split at h
 ·exact⟨_,rfl,h⟩
 ·simp[Tr.run]at h
theorem fQ{b:Bool}{x y:Tr ρ}(h:(Tr.cond b x y).run=some r):(b=true∧x.run=some r)∨(b=false∧y.run=some r):=by
 cases b with
 |true=>exact .inl ⟨rfl,h⟩
 |false=>exact .inr ⟨rfl,h⟩
theorem ba[ae]{b:Bool}{x:Tr ρ}(h:(Tr.cond b x .fail).run=some r):b=true∧x.run=some r:=by
 grind[Tr.run]
theorem bind_some{α:Type}{e:Option α}{k:α→Tr ρ}(h:(Tr.bind e k).run=some r):∃ a,e=some a∧(k a).run=some r:=by
 simp only[Tr.run,Option.bind_eq_some_iff]at h
 exact h
theorem jn[ae]{v:SV T.den}{K:Nat→Tr ρ}(h:(gy v K).run=some r):∃ k n,v=.lit (.int k n)∧0≤n∧(K n.toNat).run=some r:=by
 unfold gy at h
 split at h
 ·obtain⟨h1,h2⟩:=ba h
  exact⟨_,_,rfl,by simpa using h1,h2⟩
 ·simp[Tr.run]at h
theorem rC[ae]{v:SV T.den}{a:AV}{k:IntKind}{n:Int}(hv:RV T H v a)(e:v=.lit (.int k n))(hn:0≤n):asNat a=some n.toNat:=by
 subst e
 have:=hv.live rfl
 simp only[R]at this
 subst this
 simp[asNat,hn]
theorem di[ae]{i:Nat}{K:Nat→Tr ρ}:∀ {len m:Nat},(fU i len m K).run=some r→m≤i∧i<m+len∧(K i).run=some r
 |0,m,h=>by simp[fU,Tr.run]at h
 |len+1,m,h=>by
  simp only[fU]at h
  rcases fQ h with ⟨h1,h2⟩|⟨h1,h2⟩
  ·simp_all
  ·obtain⟨h3,h4,h5⟩:=di h2
   exact⟨by omega,by omega,h5⟩
theorem RV.lit[ae]{v:SV T.den}{a:AV}{x:Value}(hv:RV T H v a)(e:v=.lit x):a=.lit x:=by
 subst e
 have:=hv.live rfl
 simpa only[R] using this
theorem bp(x:Value):RV T H (.lit x) (.lit x):=.inr (by simp[R])
theorem gh.arr(hh:RH T H hp){n c aq:Nat}(hv:gh H n c aq){o:aE T.den}(ho:H[n]?=some (some o))(hc:Nat.beq c o.cur=true):aq=o.len:=by
 obtain⟨o',h1,h2,h3⟩:=hv
 rw[ho]at h1
 simp only[Option.some.injEq]at h1
 subst h1
 exact h3 (Nat.eq_of_beq_eq_true hc)
theorem rD:∀ {v:SV T.den} {a0 a:AV} {d:Nat},R T H v a0→WX a0 d a→R T H (iT d v) a
 |.ref n c i j,a0,a,d,h,hx=>by
  simp only[R]at h
  obtain⟨aq,rfl,hv⟩:=h
  rcases hx with ⟨n,aq,k,j,h1,rfl⟩|⟨e,j,h1,rfl⟩<;>cases h1
  simp only[iT,R]
  exact⟨_,rfl,hv⟩
 |.bk e j,a0,a,d,h,hx=>by
  simp only[R]at h
  obtain⟨e',rfl,hv⟩:=h
  rcases hx with ⟨n,aq,k,j,h1,rfl⟩|⟨e,j,h1,rfl⟩<;>cases h1
  simp only[iT,R]
  exact⟨_,rfl,hv⟩
 |.tz v s l i,a0,a,d,h,hx=>by
  simp only[R]at h
  obtain⟨a1,h1,h2,h3⟩:=h
  simp only[iT,R]
  rcases h3 with ⟨n,aq,k,j,rfl,rfl⟩|⟨e,j,rfl,rfl⟩<;>rcases hx with ⟨n',Cx,k',j',e1,rfl⟩|⟨e',j',e1,rfl⟩<;>cases e1
  ·exact⟨.ref n aq k (j+d),rD h1 (.inl ⟨_,_,_,_,rfl,rfl⟩),h2,.inl ⟨_,_,_,_,rfl,by rw[Nat.add_right_comm]⟩⟩
  ·exact⟨.bk e (j+d),rD h1 (.inr ⟨_,_,rfl,rfl⟩),h2,.inr ⟨_,_,rfl,by rw[Nat.add_right_comm]⟩⟩
 |.dead,_,_,_,h,_=>by simp[R]at h
 |.lit v,_,_,_,h,hx=>by
  simp only[R]at h; subst h
  rcases hx with ⟨n,aq,k,j,h1,_⟩|⟨e,j,h1,_⟩<;>cases h1
 |.agg l,_,_,_,h,hx=>by
  simp only[R]at h; obtain⟨_,rfl,_⟩:=h
  rcases hx with ⟨n,aq,k,j,h1,_⟩|⟨e,j,h1,_⟩<;>cases h1
 |.jU l,_,_,_,h,hx=>by
  simp only[R]at h; obtain⟨_,rfl,_⟩:=h
  rcases hx with ⟨n,aq,k,j,h1,_⟩|⟨e,j,h1,_⟩<;>cases h1
 |.sl l,_,_,_,h,hx=>by
  simp only[R]at h; obtain⟨_,rfl,_⟩:=h
  rcases hx with ⟨n,aq,k,j,h1,_⟩|⟨e,j,h1,_⟩<;>cases h1
 |.jT t l,_,_,_,h,hx=>by
  simp only[R]at h
  rcases h with ⟨_,rfl,_⟩|⟨_,rfl⟩<;>rcases hx with ⟨n,aq,k,j,h1,_⟩|⟨e,j,h1,_⟩<;>cases h1
 |.jt n c i j ln cp,_,_,_,h,hx=>by
  simp only[R]at h; obtain⟨_,rfl,_⟩:=h
  rcases hx with ⟨n,aq,k,j,h1,_⟩|⟨e,j,h1,_⟩<;>cases h1
 |.bu esz n c rg cap,_,_,_,h,hx=>by
  simp only[R]at h
  obtain⟨aq,_,h2⟩:=h
  rcases rg with _|⟨off,len⟩<;>simp only at h2<;>subst h2<;>rcases hx with ⟨n,aq,k,j,h1,_⟩|⟨e,j,h1,_⟩<;>cases h1
 |.ju fn f c,_,_,_,h,hx=>by
  simp only[R]at h; obtain⟨_,_,rfl,_⟩:=h
  rcases hx with ⟨n,aq,k,j,h1,_⟩|⟨e,j,h1,_⟩<;>cases h1
 |.gH t v,_,_,_,h,hx=>by
  simp only[R]at h; obtain⟨_,rfl,_⟩:=h
  rcases hx with ⟨n,aq,k,j,h1,_⟩|⟨e,j,h1,_⟩<;>cases h1
 |.xB t l c b,_,_,_,h,hx=>by
  simp only[R]at h
  rcases h with ⟨_,_,rfl,_⟩|⟨_,_,rfl|rfl⟩<;>rcases hx with ⟨n,aq,k,j,h1,_⟩|⟨e,j,h1,_⟩<;>cases h1
 |.nz,_,_,_,h,hx=>by
  simp only[R]at h
  subst h
  rcases hx with ⟨n,aq,k,j,h1,_⟩|⟨e,j,h1,_⟩<;>cases h1
 |.mp y n,_,_,_,h,hx=>by
  simp only[R]at h; obtain⟨rfl,_⟩:=h
  rcases hx with ⟨n,aq,k,j,h1,_⟩|⟨e,j,h1,_⟩<;>cases h1
theorem kF{e:SV T.den}{s:Nat}:∀ {n j:Nat} {xs:List (SV T.den)},gX e j s n=some xs→xs.length=n∧∀ m x,xs[m]?=some x→og false 1 e (j+m*s)=some x
 |0,j,xs,h=>by simp only[gX,Option.some.injEq]at h; subst h; simp
 |n+1,j,xs,h=>by
  simp only[gX,Option.bind_eq_some_iff,Option.map_eq_some_iff]at h
  obtain⟨x,hx,l,hl,rfl⟩:=h
  obtain⟨h1,h2⟩:=kF hl
  refine⟨by simp[h1],fun m y hy=>?_⟩
  cases m with
  |zero=>simp at hy; subst hy; simpa using hx
  |succ m=>
   grind
theorem tf{k:IntKind}:∀ {xs:List (SV T.den)} {l:List Int},vH k xs=some l→xs=l.map fun n=>.lit (.int k n)
 |[],l,h=>by simp only[vH,Option.some.injEq]at h; subst h; rfl
 |x::r,l,h=>by
  unfold vH at h
  split at h
  ·simp at *
  ·rename_i k' n r' he
   cases he
   split at h
   case isFalse=>simp at h
   rename_i hk
   subst hk
   rw[Option.map_eq_some_iff]at h
   obtain⟨l',hl,rfl⟩:=h
   rw[tf hl]; rfl
  ·simp at h
theorem wT:∀ {xs:List (SV T.den)} {l:List Bool},uu xs=some l→xs=l.map fun n=>.lit (.bool n)
 |[],l,h=>by simp only[uu,Option.some.injEq]at h; subst h; rfl
 |x::r,l,h=>by
  unfold uu at h
  split at h
  ·simp at *
  ·rename_i n r' he
   cases he
   rw[Option.map_eq_some_iff]at h
   obtain⟨l',hl,rfl⟩:=h
   rw[wT hl]; rfl
  ·simp at h
theorem AX{α:Type}{l:List α}{i:Nat}{d x:α}(h:l[i]?=some x):Ho l i d=x:=by
 simp_all[Ho,h]
theorem DV{xs:List (SV T.den)}{i:Nat}{x y:SV T.den}(h:Ly i xs=some y)(hx:xs[i]?=some x):y=x:=by
 unfold Ly at h
 split at h
 ·rename_i k n r
  rw[Option.map_eq_some_iff]at h
  obtain⟨l,hl,rfl⟩:=h
  rw[tf hl]at hx
  have:(List.map (fun n=>(SV.lit (Value.int k n):SV T.den)) (n::l))[i]?=some x:=hx
  rw[List.getElem?_map,Option.map_eq_some_iff]at this
  obtain⟨z,hz,rfl⟩:=this
  rw[AX hz]
 ·rename_i n r
  rw[Option.map_eq_some_iff]at h
  obtain⟨l,hl,rfl⟩:=h
  rw[wT hl]at hx
  have:(List.map (fun n=>(SV.lit (Value.bool n):SV T.den)) (n::l))[i]?=some x:=hx
  rw[List.getElem?_map,Option.map_eq_some_iff]at this
  obtain⟨z,hz,rfl⟩:=this
  rw[AX hz]
 ·simp at h
theorem DW{m:kD}{v x:SV T.den}{aZ len i:Nat}{xs:List (SV T.den)}{rd:List Nat}(h:FV H v aZ len=some (xs,rd))(hx:Ly i xs=some x)(hi:i<len)(h1:m.agg=false)(h2:m.size=1):
  oT m H (iT (i*aZ) v) K=K x [] rd:=by
 have fin:∀ (e:SV T.den) (j:Nat),gX e j aZ len=some xs→og m.agg m.size e (j+i*aZ)=some x:=by
  intro e j hs
  obtain⟨g1,g2⟩:=kF hs
  have bE:i<xs.length:=by omega
  have hg:=List.getElem?_eq_getElem bE
  rw[DV hx hg,h1,h2]
  exact g2 _ _ hg
 unfold FV at h
 split at h
 ·rename_i n c k j
  split at h
  case h_2=>simp at h
  rename_i g cl f cur es ho
  split at h
  case h_2=>simp at h
  rename_i hc
  simp only[Option.bind_eq_some_iff,Option.map_eq_some_iff,Prod.mk.injEq]at h
  obtain⟨e,he,l,hl,rfl,rfl⟩:=h
  simp only[iT,oT,ho,hc,he,fin e j hl,yG]
 ·rename_i e j
  simp only[Option.map_eq_some_iff,Prod.mk.injEq]at h
  obtain⟨l,hl,rfl,rfl⟩:=h
  simp only[iT,oT,fin e j hl,yG]
 ·simp at h
theorem LR{α:Type}{l:List α}{n:Nat}{x:α}(h:l[n]?=some x):l.set n x=l:=Go.PI.iy h
theorem DX{k:IntKind}{y:Int}{aZ i:Nat}:∀ {ns:List Int} {l:List (SV T.den)} {j m:Nat},i<m→(∀ p n,ns[p]?=some n→l[j+p*aZ]?=some (.lit (.int k n)))→FX l j aZ i m k y ns=l
 |[],l,j,m,_,_=>rfl
 |n::ns,l,j,m,hm,h=>by
  have h0:l[j]?=some (.lit (.int k n)):=by simpa using h 0 n rfl
  have hb:Nat.beq i m=false:=by
   cases hb:Nat.beq i m
   ·rfl
   ·have:=Nat.eq_of_beq_eq_true hb; omega
  simp only[FX,hb,cond_false]
  rw[LR h0]
  refine DX (by omega) fun p x hp=>?_
  have:=h (p+1) x (by simpa using hp)
  rwa [Nat.succ_mul,Nat.add_comm _ aZ,←Nat.add_assoc]at this
theorem DY{k:IntKind}{y:Int}{aZ i:Nat}(hs:0<aZ):∀ {ns:List Int} {l:List (SV T.den)} {j m:Nat},m≤i→i<m+ns.length→(∀ p n,ns[p]?=some n→l[j+p*aZ]?=some (.lit (.int k n))) →
  FX l j aZ i m k y ns=l.set (j+(i-m)*aZ) (.lit (.int k y))
 |[],l,j,m,h1,h2,_=>by simp at h2; omega
 |n::ns,l,j,m,h1,h2,h=>by
  have h0:l[j]?=some (.lit (.int k n)):=by simpa using h 0 n rfl
  have hn:∀ (l':List (SV T.den)),(∀ q,j<q→l'[q]?=l[q]?)→∀ p x,ns[p]?=some x→l'[j+aZ+p*aZ]?=some (.lit (.int k x)):=by
   intro l' hl p x hp
   have:=h (p+1) x (by simpa using hp)
   rw[Nat.succ_mul,Nat.add_comm _ aZ,←Nat.add_assoc]at this
   rw[hl _ (by omega)]; exact this
  by_cases hm:i=m
  ·subst hm
   have hb:Nat.beq i i=true:=by simp
   simp only[FX,hb,cond_true,Nat.sub_self,Nat.zero_mul,Nat.add_zero]
   exact DX (by omega) (hn _ fun q hq=>by rw[List.getElem?_set_ne (by omega)])
  ·have hb:Nat.beq i m=false:=by
    cases hb:Nat.beq i m
    ·rfl
    ·simp_all
   simp only[FX,hb,cond_false]
   rw[LR h0,DY hs (by omega) (by simp at h2; omega) (hn _ fun _ _=>rfl)]
   have:i-m=(i-(m+1))+1:=by omega
   rw[this,Nat.succ_mul,Nat.add_assoc,Nat.add_comm aZ]
theorem B7{m:kD}{b v:SV T.den}{aZ len i n:Nat}{o:aE T.den}(h:FY H b v aZ len i=some (n,o))(hi:i<len)(h2:m.size=1):
  rm m H (iT (i*aZ) b) v K=K (.lit undef) [(n,o)] [n]:=by
 unfold FY at h
 split at h
 case h_2=>simp at h
 rename_i n' c i0 j k y
 split at h
 case h_2=>simp at h
 rename_i g cl f cur es ho
 split at h
 case h_2=>simp at h
 rename_i l hc he
 simp only[Bool.and_eq_true]at hc
 obtain⟨⟨GB,Pr⟩,Xb⟩:=hc
 have hs:0<aZ:=Nat.le_of_ble_eq_true Xb
 simp only[Option.map_eq_some_iff,Option.bind_eq_some_iff,Prod.mk.injEq]at h
 obtain⟨ns,⟨xs,Ah,Xc⟩,rfl,rfl⟩:=h
 obtain⟨g1,g2⟩:=kF Ah
 have WR:=tf Xc
 have wi:∀ p x,ns[p]?=some x→l[j+p*aZ]?=some (.lit (.int k x)):=by
  simp_all[og]
 have hlen:ns.length=len:=by rw[←g1,WR,List.length_map]
 have F8:=DY (y:=y) hs (Nat.zero_le i) (by omega) wi
 rw[Nat.sub_zero]at F8
 rw[F8]
 have bE:j+i*aZ<l.length:=by
  have:=wi i _ (List.getElem?_eq_getElem (by omega:i<ns.length))
  exact(List.getElem?_eq_some_iff.1 this).1
 have u3:(bP (SV.lit (Value.int k y):SV T.den))=[.lit (.int k y)]:=rfl
 simp only[iT,rm,bV,u3,ho,GB,Pr,he,h2]
 simp[gv,jm,gU,aw,aG]
 rw[if_pos (show j+i*aZ+1≤l.length from bE)]
theorem vQ[ae](hT:T.Ok){P:Program}{t:TypeId}{m:kD}{q:bN}(hq:fH P t=some q)(h1:q.isAgg=m.agg)(h2:q.size=m.size)(hh:RH T H hp){a:SV T.den}{b:AV}(ha:RV T H a b)
  (h:(oT m H a K).run=some r):∃ v c rd,aH hp (ll P t b) c rd∧R T H v c∧(K v [] rd).run=some r:=by
 unfold ll
 rw[hq]
 simp only
 unfold oT at h
 split at h
 ·-- a reference
  rename_i n c i j
  have ha:=ha.live rfl
  simp only[R]at ha
  obtain⟨aq,rfl,cq⟩:=ha
  simp only
  split at h
  ·rename_i g cl f cur es ho
   obtain⟨o,dr,dV⟩:=hh.obj ho
   obtain⟨es',rfl,cP,rT⟩:=dV
   split at h
   case h_2=>simp[Tr.run]at h
   rename_i hc
   have cq:=cq.arr hh ho hc
   simp only[aE.len]at cq
   split at h
   case h_2=>simp[Tr.run]at h
   rename_i e he
   obtain⟨v,hv,hk⟩:=mE h
   obtain⟨e',GR,ET⟩:=ay.get (aU.1 cP) he
   rw[←h1,←h2]at hv
   obtain⟨c',FT,TW⟩:=R.part ET hv
   refine⟨v,c',[n],?_,TW,hk⟩
   refine aH.mono (aH.bind (aH.arr dr (by rw[cq]; exact(RL.length cP).symm)) ?_) (rd:=[n]++[]) (fun _ h=>by simpa using h)
   simp only[GR]
   exact aH.iq FT
  ·rename_i g f cur t' l ho
   obtain⟨o,dr,dV⟩:=hh.obj ho
   obtain⟨es',rfl,cP⟩:=dV
   split at h
   case h_2=>simp[Tr.run]at h
   rename_i hc
   have cq:=cq.arr hh ho hc
   simp only[aE.len]at cq
   obtain⟨x,hx,h⟩:=bind_some h
   rw[Hv hT]at h
   obtain⟨v,hv,hk⟩:=mE h
   obtain⟨e',GR,ET⟩:=ay.get cP hx
   rw[←h1,←h2]at hv
   obtain⟨c',FT,TW⟩:=R.part (hT.up _ _ _ H ET) hv
   refine⟨v,c',[n],?_,TW,hk⟩
   refine aH.mono (aH.bind (aH.arr dr (by rw[cq]; exact(ay.length cP).symm)) ?_) (rd:=[n]++[]) (fun _ h=>by simpa using h)
   simp only[GR]
   exact aH.iq FT
  ·simp[Tr.run]at h
 ·rename_i e j
  have ha:=ha.live rfl
  simp only[R]at ha
  obtain⟨e',rfl,ET,_⟩:=ha
  obtain⟨v,hv,hk⟩:=mE h
  rw[←h1,←h2]at hv
  obtain⟨c',FT,TW⟩:=R.part ET hv
  exact⟨v,c',[],aH.iq FT,TW,hk⟩
 ·simp[Tr.run]at h
theorem DZ[ae](hT:T.Ok){P:Program}{t:TypeId}{m:kD}{q:bN}(hq:fH P t=some q)(h1:q.isAgg=m.agg)(h2:q.size=m.size)(hh:RH T H hp){a:SV T.den}{b:AV}(ha:RV T H a b)
  (h:(Hp m H a K).run=some r):∃ v c rd,aH hp (ll P t b) c rd∧R T H v c∧(K v [] rd).run=some r:=by
 unfold Hp at h
 split at h
 ·rename_i v aZ len i
  have ha:=ha.live rfl
  simp only[R]at ha
  obtain⟨a0,g1,g2,g3⟩:=ha
  have hR:=rD g1 g3
  have chain:(fU i len 0 fun k=>oT m H (iT (k*aZ) v) K).run=some r→∃ v c rd,aH hp (ll P t b) c rd∧R T H v c∧(K v [] rd).run=some r:=by
   intro h
   obtain⟨_,_,h⟩:=di h
   exact vQ hT hq h1 h2 hh (.inr hR) h
  split at h
  ·rename_i xs rd hs hx
   simp only[Bool.and_eq_true,Bool.not_eq_true']at hs
   split at h
   ·rename_i x LS
    rw[←DW (K:=K) (m:=m) hx LS g2 hs.1 (Nat.eq_of_beq_eq_true hs.2)]at h
    exact vQ hT hq h1 h2 hh (.inr hR) h
   ·exact chain h
  ·exact chain h
 ·exact vQ hT hq h1 h2 hh ha h
def aE.yT{den:Nat→Type}:aE den→Bool
 |.arr ..|.cj ..=>true
 |_=>false
theorem RO.D0[ae]{o:aE T.den}{a:aP}(dV:RO T H o a)(hj:o.yT=true):∃ es,a=.arr o.flags.1 o.flags.2.1 o.flags.2.2 es∧es.length=o.len:=by
 cases o with
 |arr g cl f cur es=>obtain⟨es',rfl,cP,_⟩:=dV; exact⟨es',rfl,(RL.length cP).symm⟩
 |cj g f cur t l=>obtain⟨es',rfl,cP⟩:=dV; exact⟨es',rfl,(ay.length cP).symm⟩
 |_=>simp[aE.yT]at hj
theorem tg[ae](hT:T.Ok){P:Program}{t:TypeId}{m:kD}{q:bN}(hq:fH P t=some q)(h2:q.size=m.size)(hh:RH T H hp){a v:SV T.den}{b c:AV}(ha:RV T H a b)(hv:RV T H v c)
  (h:(rm m H a v K).run=some r):jN T H hp (pK P t b c) K r:=by
 unfold pK
 rw[hq]
 simp only
 unfold rm at h
 split at h
 case h_2=>simp[Tr.run]at h
 rename_i hd lA
 simp only[Bool.and_eq_true,decide_eq_true_eq]at lA
 have hv:=hv.live hd
 have mT:=hv.cells
 split at h
 case h_2=>simp[Tr.run]at h
 rename_i n cc i j
 have ha:=ha.live rfl
 simp only[R]at ha
 obtain⟨aq,rfl,cq⟩:=ha
 simp only
 split at h
 ·rename_i g cl f cur es ho
  obtain⟨o,dr,dV⟩:=hh.obj ho
  obtain⟨es',rfl,cP,rT⟩:=dV
  split at h
  case h_2=>simp[Tr.run]at h
  rename_i hc
  simp only[Bool.and_eq_true,Bool.not_eq_true']at hc
  have cq:=cq.arr hh ho hc.1
  simp only[aE.len]at cq
  split at h
  case h_2=>simp[Tr.run]at h
  rename_i e he
  split at h
  case h_2=>simp[Tr.run]at h
  rename_i e' zJ
  obtain⟨b',pH,SC⟩:=ay.get (aU.1 cP) he
  obtain⟨e2,yq,Rv⟩:=R.jv SC mT zJ
  have eR:RL T H (es.set i e') (es'.set i e2):=aU.2 ((aU.1 cP).set i Rv)
  refine kq (o':=.arr g (cl&&aw (bP v)) f cur (es.set i e')) hh ho (Nat.le_refl _) (fun _=>by simp[aE.len]) (a':=.arr g (cl&&bc (cellsOf c)) f (es'.set i e2)) ⟨_,by rw[RL.closed mT],eR,fun nJ=>by simp only[Bool.and_eq_true]at nJ; exact tc (rT nJ.1) (yQ zJ (ko (rT nJ.1) (List.mem_of_getElem? he)) nJ.2) i⟩ (bp undef) ?_ h
  refine aH.mono (aH.bind (aH.arr dr (by rw[cq]; exact(RL.length cP).symm)) ?_) (rd:=[n]++[]) (fun _ h=>by simpa using h)
  simp only[pH,yq]
  rw[if_pos ⟨hc.2,by rw[←mT.length,h2]; exact lA.1,by rw[←mT.DN]; exact lA.2⟩]
  exact aH.ret _
 ·rename_i g f cur t' l ho
  obtain⟨o,dr,dV⟩:=hh.obj ho
  obtain⟨es',rfl,cP⟩:=dV
  split at h
  case h_2=>simp[Tr.run]at h
  rename_i hc
  simp only[Bool.and_eq_true,Bool.not_eq_true']at hc
  have cq:=cq.arr hh ho hc.1.1
  simp only[aE.len]at cq
  obtain⟨x,hx,h⟩:=bind_some h
  split at h
  case h_2=>simp[Tr.run]at h
  rename_i e' zJ
  split at h
  case h_2=>simp[Tr.run]at h
  rename_i y hy
  obtain⟨b',pH,SC⟩:=ay.get cP hx
  obtain⟨e2,yq,Rv⟩:=R.jv (hT.up _ _ _ H SC) mT zJ
  have eR:ay (T.rp t') (l.set i y) (es'.set i e2):=cP.set i (hT.dn _ _ _ _ H hy Rv)
  refine kq (o':=.cj g f cur t' (l.set i y)) hh ho (Nat.le_refl _) (fun _=>by simp[aE.len]) (a':=.arr g (true&&bc (cellsOf c)) f (es'.set i e2)) ⟨_,by rw[←RL.closed mT,hc.2]; rfl,eR⟩ (bp undef) ?_ h
  refine aH.mono (aH.bind (aH.arr dr (by rw[cq]; exact(ay.length cP).symm)) ?_) (rd:=[n]++[]) (fun _ h=>by simpa using h)
  simp only[pH,yq]
  rw[if_pos ⟨hc.1.2,by rw[←mT.length,h2]; exact lA.1,by rw[←mT.DN]; exact lA.2⟩]
  exact aH.ret _
 ·simp[Tr.run]at h
theorem IP[ae](hT:T.Ok){P:Program}{t:TypeId}{m:kD}{q:bN}(hq:fH P t=some q)(h2:q.size=m.size)(hh:RH T H hp){a v:SV T.den}{b c:AV}(ha:RV T H a b)(hv:RV T H v c)
  (h:(FZ m H a v K).run=some r):jN T H hp (pK P t b c) K r:=by
 unfold FZ at h
 split at h
 ·rename_i w aZ len i
  have ha:=ha.live rfl
  simp only[R]at ha
  obtain⟨a0,g1,g2,g3⟩:=ha
  have hR:=rD g1 g3
  split at h
  ·rename_i n o hs hx
   rw[←B7 (K:=K) (m:=m) hx g2 (Nat.eq_of_beq_eq_true hs)]at h
   exact tg hT hq h2 hh (.inr hR) hv h
  ·obtain⟨_,_,h⟩:=di h
   exact tg hT hq h2 hh (.inr hR) hv h
 ·exact tg hT hq h2 hh ha hv h
end
end Go.PI
end
section
/- PS, part G: the other operations. -/
namespace Go.PI
variable {T:dP}{ρ:Type}
section
variable {H:ai T.den}{hp:ag}{K:EK T ρ}{r:ρ}{Q:ik}
theorem ik.Ok.slice(hQ:Q.Ok){t e:Nat}{m:kD}(h:Q.elemOf t=some (e,m)):Q.P.underlying t=some (.slice e)∧Q.ty e=some m:=by
 unfold ik.elemOf at h
 cases ht:Q.ty t with
 |none=>rw[ht]at h; simp at h
 |some m1=>
  rw[ht]at h
  simp only at h
  obtain⟨d,hd,hk⟩:=hQ.kind t m1 ht
  cases hm:m1.kind with
  |slice e'=>
   rw[hm]at h hk
   simp only[Option.map_eq_some_iff,Prod.mk.injEq]at h
   obtain⟨m2,h1,rfl,rfl⟩:=h
   cases d<;>simp[oW]at hk
   subst hk
   exact⟨hd,h1⟩
  |_=>rw[hm]at h; simp at h
theorem ik.Ok.elem[ae](hQ:Q.Ok){t:Nat}{m:kD}(h:Q.elem t=some m):∃ r,aR Q.P t=some r∧r.isAgg=m.agg∧r.size=m.size∧r.bytes=m.bytes∧(∀ z,m.zero=some z→cC r=some z):=by
 unfold ik.elem at h
 rw[Option.map_eq_some_iff]at h
 obtain⟨⟨e,m'⟩,h1,rfl⟩:=h
 obtain⟨h2,h3⟩:=hQ.slice h1
 obtain⟨r,h4,h5⟩:=hQ.row e _ h3
 exact⟨r,by simp[aR,h2,h4],h5⟩
theorem ik.Ok.D1(hQ:Q.Ok){t n:Nat}{m:kD}(h:Q.arr t=some (n,m)):∃ r,arrayElem Q.P t=some (n,r)∧r.isAgg=m.agg∧r.size=m.size:=by
 unfold ik.arr at h
 cases ht:Q.ty t with
 |none=>rw[ht]at h; simp at h
 |some m1=>
  rw[ht]at h
  simp only at h
  obtain⟨d,hd,hk⟩:=hQ.kind t m1 ht
  cases hm:m1.kind with
  |array n' e=>
   rw[hm]at h hk
   simp only[Option.map_eq_some_iff,Prod.mk.injEq]at h
   obtain⟨m2,h1,rfl,rfl⟩:=h
   cases d<;>simp[oW]at hk
   obtain⟨rfl,rfl⟩:=hk
   obtain⟨r,h4,h5,h6,_⟩:=hQ.row _ _ h1
   exact⟨r,by simp[arrayElem,hd,h4],h5,h6⟩
  |_=>rw[hm]at h; simp at h
theorem ik.Ok.OM(hQ:Q.Ok){t f off:Nat}{m:kD}(h:Q.Vp t f=some (off,m)):∃ r,mN Q.P t f=some (off,r)∧r.isAgg=m.agg∧r.size=m.size:=by
 unfold ik.Vp at h
 cases ht:Q.ty t with
 |none=>rw[ht]at h; simp at h
 |some m1=>
  rw[ht]at h
  simp only at h
  obtain⟨d,hd,hk⟩:=hQ.kind t m1 ht
  cases hm:m1.kind with
  |struct fs=>
   rw[hm]at h hk
   simp only at h
   cases d<;>simp[oW]at hk
   rename_i EG
   subst hk
   cases hf:(List.map (fun f=>(f.offset,f.type)) EG.toList)[f]? with
   |none=>rw[hf]at h; simp at h
   |some q=>
    obtain⟨Xd,e⟩:=q
    rw[hf]at h
    simp only at h
    rw[List.getElem?_map,Option.map_eq_some_iff]at hf
    obtain⟨fd,VR,hq⟩:=hf
    simp only[Prod.mk.injEq]at hq
    obtain⟨rfl,rfl⟩:=hq
    cases he:Q.ty fd.type with
    |none=>rw[he]at h; simp at h
    |some m2=>
     rw[he]at h
     simp only at h
     split at h
     ·simp at h
     rename_i hz
     simp only[Option.some.injEq,Prod.mk.injEq]at h
     obtain⟨rfl,rfl⟩:=h
     obtain⟨r,h4,h5,h6,_⟩:=hQ.row _ _ he
     refine⟨r,?_,h5,h6⟩
     have Xe:EG[f]?=some fd:=by simpa using VR
     simp[mN,structFields,hd,Xe,h4]
     omega
  |_=>rw[hm]at h; simp at h
theorem ik.Ok.ON(hQ:Q.Ok){t:Nat}{b:Bool}(h:Q.isSlice t=some b):ck Q.P t=b:=by
 unfold ik.isSlice at h
 cases ht:Q.ty t with
 |none=>rw[ht]at h; simp at h
 |some m1=>
  rw[ht]at h
  simp only at h
  obtain⟨d,hd,hk⟩:=hQ.kind t m1 ht
  unfold ck
  rw[hd]
  cases hm:m1.kind<;>rw[hm]at h hk<;>cases d<;>simp[oW]at hk<;>simp_all
theorem OO[ae]{P:Program}{op:BinOp}{t:TypeId}{xo yo:Operand}{k:IntKind}{a b:Int}{v:Value}(h:Rl op k a b=some v):
  fR P op t xo yo (.lit (.int k a)) (.lit (.int k b))=some (.lit v):=by
 cases op<;>simp only[Rl,Option.some.injEq,reduceCtorEq]at h<;>subst h
 ·exact BA
 ·exact GU
 ·exact NO
 ·rw[NM]; congr
 ·rw[NN]; congr
 ·exact qT
 ·exact NK
 ·exact GS
 ·exact NL
theorem OP[ae]{P:Program}{op:BinOp}{t:TypeId}{xo yo:Operand}{k:IntKind}{a b:Int}{v:Value}(h:Rm op k a b=some v)(hb:b≠0):
  fR P op t xo yo (.lit (.int k a)) (.lit (.int k b))=some (.lit v):=by
 cases op<;>simp only[Rm,Option.some.injEq,reduceCtorEq]at h<;>subst h
 ·simp only[fR,eT,dz]; rw[eX _ (by simp) (by simp)]; simp[binOp,Op.intDiv,hb]; rfl
 ·simp only[fR,eT,dz]; rw[eX _ (by simp) (by simp)]; simp[binOp,Op.intDiv,hb]; rfl
theorem Rw[ae]{P:Program}{op:BinOp}{t:TypeId}{xo yo:Operand}{k k':IntKind}{a b:Int}{v:Value}(h:WU op k a b=some v)(hb:¬b<0):
  fR P op t xo yo (.lit (.int k a)) (.lit (.int k' b))=some (.lit v):=by
 cases op<;>simp only[WU,Option.some.injEq,reduceCtorEq]at h<;>subst h
 ·simp only[fR,eT,dz]; rw[eX _ (by simp) (by simp)]; simp[binOp,Op.shift,hb]; rfl
 ·simp only[fR,eT,dz]; rw[eX _ (by simp) (by simp)]; simp[binOp,Op.shift,hb]; rfl
theorem wU{x y:Value}{K:Bool→Tr ρ}:xC x y K=K (sT x y):=by
 unfold xC sT
 split<;>simp_all
theorem wV[ae]:∀ {c c':List Value} {K:Bool→Tr ρ},lL c c' K=K (cV c c')
 |[],[],K=>rfl
 |[x],[y],K=>by simp[lL,wU,cV]
 |x::x'::xs,y::y'::ys,K=>by
  simp only[lL,wU]
  rw[wV]
  rfl
 |[],_::_,K=>by simp[lL,cV]
 |_::_,[],K=>by simp[lL,cV]
 |[x],y::y'::ys,K=>by simp[lL,cV]
 |x::x'::xs,[y],K=>by simp[lL,cV]
theorem yU:∀ (c:List Value),dh (c.map .lit)=some c
 |[]=>rfl
 |v::vs=>by simp[dh,yU vs]
theorem IQ[ae](hQ:Q.Ok){op:BinOp}{t:TypeId}{xo yo:Operand}{l l':List (SV T.den)}{a b:List AV}(h1:RL T H l a)(h2:RL T H l' b)(h:(F2 Q op t l l' K).run=some r):
  ∃ v,fR Q.P op t xo yo (.agg a) (.agg b)=some (.lit v)∧(K (.lit v) [] []).run=some r:=by
 unfold F2 at h
 split at h
 case h_2=>simp[Tr.run]at h
 rename_i c c' m hc FT hm
 split at h
 case h_2=>simp[Tr.run]at h
 rename_i ks hks
 split at h
 case h_2=>simp[Tr.run]at h
 rename_i hf
 simp only[Bool.and_eq_true]at hf
 obtain⟨_,rfl⟩:=RL.dh h1 hc
 obtain⟨_,rfl⟩:=RL.dh h2 FT
 obtain⟨hg,EZ⟩:=hQ.PS _ _ _ hm hks
 have he:=te 20 t ks c c' EZ hf.1.2 hf.2
 obtain⟨rr,xf,zO,_⟩:=hQ.row _ _ hm
 have hd:∃ d,Q.P.underlying t=some d∧ei d=true:=by
  unfold fH at xf
  cases hi:Q.P.info? t with
  |none=>rw[hi]at xf; simp at xf
  |some i=>
   cases hu:Q.P.underlying t with
   |none=>rw[hi,hu]at xf; simp at xf
   |some d=>
    rw[hi,hu]at xf
    simp only[Option.some.injEq]at xf
    refine⟨d,rfl,?_⟩
    rw[←hf.1.1,←zO,←xf]
    rfl
 obtain⟨d,KE,Vb⟩:=hd
 have hA:∀ op,eT Q.P op t (.agg (c.map .lit)) (.agg (c'.map .lit))=lW op (cV c c'):=by
  intro op
  unfold eT
  simp only[yU,KE]
  cases d<;>simp[ei]at Vb<;>simp[hg,he]
 have hB:∀ op x,lW op (cV c c')=some x→fR Q.P op t xo yo (.agg (c.map .lit)) (.agg (c'.map .lit))=some x:=by
  intro op x hx
  unfold fR
  rw[hA,hx]
 rw[wV]at h
 cases op<;>simp only[Tr.run,reduceCtorEq]at h
 ·exact⟨_,hB _ _ rfl,h⟩
 ·exact⟨_,hB _ _ rfl,h⟩
theorem uA[ae]{v:SV T.den}{a b:AV}(hv:RV T H v a)(h:nC v=some b):a=b:=by
 rcases hv with hv|hv
 ·subst hv; simp[nC]at h
 ·exact hv.plain h
theorem uB{P:Program}{op:BinOp}{t:TypeId}{a b:AV}(ha:(∀ l,a≠.agg l)∨∀ l,b≠.agg l):eT P op t a b=none:=by
 unfold eT
 split
 ·simp_all
 ·rfl
theorem AY[ae]{P:Program}{op:BinOp}{t:TypeId}{x:SV T.den}{a:AV}{n:Value}{y:AV}(hx:RV T H x a)(h:BV P op t x n=some y):
  ot P op t a n=some y∧dz a=none∧∀ l,a≠.agg l:=by
 unfold BV at h
 split at h
 ·split at h
  ·have:=hx.live rfl
   simp only[R]at this
   obtain⟨v',rfl,l',rfl,_⟩:=this
   exact⟨by simpa[ot] using h,rfl,by simp⟩
  ·have:=hx.live rfl
   simp only[R]at this
   obtain⟨v',rfl,l',rfl,_⟩:=this
   exact⟨by simpa[ot] using h,rfl,by simp⟩
  ·simp at h
 ·split at h
  ·have:=hx.live rfl
   simp only[R]at this
   obtain⟨f',c',rfl,_⟩:=this
   exact⟨by simpa[ot] using h,rfl,by simp⟩
  ·simp at h
 ·split at h
  case isFalse=>simp at h
  rename_i hc
  simp only[Bool.and_eq_true]at hc
  cases x<;>simp[Hm]at hc
  rename_i xs
  have:=hx.live rfl
  simp only[R]at this
  obtain⟨l',rfl,hl,_⟩:=this
  have:notNil (.sl l')=true:=by
   simp only[notNil]
   have:=hl.length
   cases l' with
   |nil=>simp at this; exact absurd this hc.2
   |cons=>rfl
  refine⟨?_,rfl,by simp⟩
  simp only[ot,hc.1,this,Bool.and_self,if_true]
  exact h
 ·simp at h
theorem OQ[ae](hQ:Q.Ok){op:BinOp}{t:TypeId}{xo yo:Operand}{x y:SV T.den}{a b:AV}(hx:RV T H x a)(hy:RV T H y b)(h:(Rn Q op t xo yo x y K).run=some r):
  ∃ v,fR Q.P op t xo yo a b=some (.lit v)∧(K (.lit v) [] []).run=some r:=by
 unfold Rn at h
 split at h
 ·rename_i k m k' m'
  have ha:=hx.lit rfl
  have hb:=hy.lit rfl
  subst ha; subst hb
  split at h
  ·rename_i v hk hv
   simp only[decide_eq_true_eq]at hk
   subst hk
   exact⟨v,OO hv,h⟩
  ·split at h
   ·rename_i v hk hv
    simp only[decide_eq_true_eq]at hk
    subst hk
    rcases fQ h with ⟨_,h⟩|⟨h0,h⟩
    ·simp[Tr.run]at h
    ·exact⟨v,OP hv (by simpa using h0),h⟩
   ·split at h
    ·rename_i v hk hv
     rcases fQ h with ⟨_,h⟩|⟨h0,h⟩
     ·simp[Tr.run]at h
     ·exact⟨v,Rw hv (by simpa using h0),h⟩
    ·exact iD h
 ·rename_i l l'
  have ha:=hx.live rfl
  have hb:=hy.live rfl
  simp only[R]at ha hb
  obtain⟨a',rfl,ha⟩:=ha
  obtain⟨b',rfl,hb⟩:=hb
  exact IQ hQ ha hb h
 ·split at h
  ·rename_i a' b' h1 h2
   rw[uA hx h1,uA hy h2]
   exact iD h
  ·split at h
   ·rename_i n
    obtain⟨v,hv,hk⟩:=iD h
    obtain⟨h1,h2,h3⟩:=AY hx hv
    have hb:=hy.lit rfl
    subst hb
    refine⟨v,?_,hk⟩
    unfold fR
    rw[uB (.inl h3),h2]
    exact h1
   ·rename_i hyn
    split at h
    ·rename_i n
     obtain⟨v,hv,hk⟩:=iD h
     obtain⟨h1,h2,h3⟩:=AY hy hv
     have ha:=hx.lit rfl
     subst ha
     refine⟨v,?_,hk⟩
     unfold fR
     rw[uB (.inr h3),h2]
     cases b with
     |lit b=>
      exfalso
      simp[dz]at h2
     |_=>exact h1
    ·simp[Tr.run]at h
theorem OS[ae]{t:Bool}{x y:SV T.den}{a b:AV}(hx:RV T H x a)(hy:RV T H y b)(h:(LC t x y K).run=some r):
  ∃ v,RV T H v (cond t a b)∧(K v [] []).run=some r:=by
 unfold LC at h
 split at h
 ·have ha:=hx.lit rfl
  have hb:=hy.lit rfl
  subst ha; subst hb
  refine⟨_,?_,h⟩
  cases t<;>exact bp _
 ·rename_i k m k' m'
  have ha:=hx.lit rfl
  have hb:=hy.lit rfl
  subst ha; subst hb
  split at h
  ·rename_i hk
   subst hk
   refine⟨_,?_,h⟩
   cases t<;>exact bp _
  ·rcases fQ h with ⟨rfl,h⟩|⟨rfl,h⟩
   ·exact⟨_,bp _,h⟩
   ·exact⟨_,bp _,h⟩
 ·rcases fQ h with ⟨rfl,h⟩|⟨rfl,h⟩
  ·exact⟨_,hx,h⟩
  ·exact⟨_,hy,h⟩
end
end Go.PI
end
section
/- PS, part H: structs and slices built, cut, indexed. -/
namespace Go.PI
variable {T:dP}{ρ:Type}
section
variable {H:ai T.den}{hp:ag}{K:EK T ρ}{r:ρ}{Q:ik}
theorem yV(hQ:Q.Ok):∀ {fs:List Field} {pl:List (Nat×Nat)},Q.vD (fs.map fun f=>(f.offset,f.type))=some pl→mO Q.P fs=some pl
 |[],pl,h=>by simpa[ik.vD,mO] using h
 |f::fs,pl,h=>by
  simp only[List.map_cons,ik.vD]at h
  cases hm:Q.ty f.type with
  |none=>rw[hm]at h; simp at h
  |some m=>
   cases hp:Q.vD (fs.map fun f=>(f.offset,f.type)) with
   |none=>rw[hm,hp]at h; simp at h
   |some l=>
    rw[hm,hp]at h
    simp only[Option.some.injEq]at h
    subst h
    obtain⟨r,h1,_,h2,_⟩:=hQ.row _ _ hm
    simp[mO,h1,yV hQ hp,h2]
theorem yW[ae]{q:bN}{z:AV}{zs:SV T.den}(h:cC q=some z)(hz:(gW z:Option (SV T.den))=some zs):
  ∃ v,q.zero=some v∧v.cells.toList.all (fun v=>bg (.lit v))=true∧RL T H (bP zs) (v.cells.toList.map .lit):=by
 unfold cC at h
 cases hv:q.zero with
 |none=>rw[hv]at h; simp at h
 |some v=>
  rw[hv]at h
  simp only at h
  split at h
  case isFalse=>simp at h
  rename_i hc
  simp only[Option.some.injEq]at h
  refine⟨v,rfl,hc.2.2.1,?_⟩
  have h1:=(vM (H:=H) hz).cells
  rw[←h]at h1
  cases v<;>first|exact h1|(simp[xH]at hc)
theorem IT[ae](hQ:Q.Ok){t:TypeId}{ps:List (Nat×SV T.den)}{qs:List (Nat×AV)}(hp:RP T H ps qs){v:SV T.den}(h:F0 Q t ps=some v):∃ a,uT Q.P t qs=some a∧R T H v a:=by
 unfold F0 at h
 split at h
 case h_2=>simp at h
 rename_i m hm
 obtain⟨q,gR,eC,hX,_,G9⟩:=hQ.row _ _ hm
 obtain⟨d,hd,hk⟩:=hQ.kind _ _ hm
 split at h
 ·rename_i fs z Tm hz
  rw[Option.bind_eq_some_iff]at hz
  obtain⟨z0,N9,hz⟩:=hz
  obtain⟨zv,QX,Rx,TX⟩:=yW (H:=H) (G9 _ N9) hz
  rw[Tm]at hk
  cases d<;>simp[oW]at hk
  rename_i EG
  subst hk
  split at h
  case h_2=>simp at h
  rename_i pl GD
  rw[Option.map_eq_some_iff]at h
  obtain⟨l,h1,rfl⟩:=h
  obtain⟨l',h2,h3⟩:=RP.fill hp TX h1
  refine⟨.agg l',?_,by simp only[R]; exact⟨l',rfl,h3⟩⟩
  unfold uT
  simp only[hd,gR,QX,yV hQ GD,Rx,if_true]
  rw[h2]; rfl
 ·rename_i n e z Tm hz
  rw[Option.bind_eq_some_iff]at hz
  obtain⟨z0,N9,hz⟩:=hz
  obtain⟨zv,QX,Rx,TX⟩:=yW (H:=H) (G9 _ N9) hz
  rw[Tm]at hk
  cases d<;>simp[oW]at hk
  obtain⟨rfl,rfl⟩:=hk
  split at h
  case h_2=>simp at h
  rename_i m2 zr
  obtain⟨q2,xf,_,WT,_⟩:=hQ.row _ _ zr
  rw[Option.map_eq_some_iff]at h
  obtain⟨l,h1,rfl⟩:=h
  obtain⟨l',h2,h3⟩:=RP.fill hp TX h1
  refine⟨.agg l',?_,by simp only[R]; exact⟨l',rfl,h3⟩⟩
  unfold uT
  simp only[hd,gR,QX,xf,Rx,if_true,WT]
  rw[h2]; rfl
 ·simp at h
theorem wW[ae]:∀ {ps:List (Nat×SV T.den)} {qs:List (Nat×AV)} {es:List (SV T.den)} {es':List AV},RP T H ps qs→RL T H es es'→RL T H (fP es ps) (ir es' qs)
 |[],[],es,es',_,h=>h
 |(i,v)::ps,(i',a)::qs,es,es',hp,h=>by
  obtain⟨⟨h1,h2⟩,h3⟩:=hp
  simp only at h1 h2
  subst h1
  simp only[fP,ir]
  exact wW h3 (aU.2 ((aU.1 h).set i h2))
 |[],_::_,_,_,h,_=>h.elim
 |_::_,[],_,_,h,_=>h.elim
theorem RP.snd:∀ {ps:List (Nat×SV T.den)} {qs:List (Nat×AV)},RP T H ps qs→RL T H (ps.map (·.2)) (qs.map (·.2))
 |[],[],_=>by simp[RL]
 |(i,v)::ps,(i',a)::qs,h=>by
  obtain⟨⟨_,h2⟩,h3⟩:=h
  simp only[List.map_cons,RL]
  exact⟨h2,RP.snd h3⟩
 |[],_::_,h=>h.elim
 |_::_,[],h=>h.elim
theorem RP.all{p:Nat×SV T.den→Bool}{q:Nat×AV→Bool}(Nk:∀ i v a,R T H v a→p (i,v)=q (i,a)):∀ {ps:List (Nat×SV T.den)} {qs:List (Nat×AV)},RP T H ps qs→ps.all p=qs.all q
 |[],[],_=>rfl
 |(i,v)::ps,(i',a)::qs,h=>by
  obtain⟨⟨h1,h2⟩,h3⟩:=h
  simp only at h1 h2
  subst h1
  simp only[List.all_cons]
  rw[Nk i v a h2,RP.all Nk h3]
 |[],_::_,h=>h.elim
 |_::_,[],h=>h.elim
theorem fb(hh:RH T H hp){nm:Nat}(hn:nm=H.length∨H[nm]?=some none){o:aE T.den}:gh (bQ H nm o) nm o.cur o.len:=by
 refine⟨o,?_,Nat.le_refl _,fun _=>rfl⟩
 unfold bQ
 split
 ·rename_i h; subst h; simp
 ·grind
theorem si:∀ (ps:List (Nat×SV T.den)) (es:List (SV T.den)),(fP es ps).length=es.length
 |[],es=>rfl
 |(i,v)::ps,es=>by simp only[fP]; rw[si ps]; simp
theorem yX[ae](hQ:Q.Ok)(hh:RH T H hp){nm:Nat}(hn:nm=H.length∨H[nm]?=some none){t:TypeId}{len:Nat}{ps:List (Nat×SV T.den)}{qs:List (Nat×AV)}(TY:RP T H ps qs)
  (h:(qv Q nm t len ps K).run=some r):jN T H hp (.iq (kG Q.P nm t len qs)) K r:=by
 unfold qv at h
 split at h
 case h_2=>simp[Tr.run]at h
 rename_i m hm
 obtain⟨q,gR,eC,hX,G9,Jx⟩:=hQ.elem hm
 split at h
 case h_2=>simp[Tr.run]at h
 rename_i z hz
 rw[Option.bind_eq_some_iff]at hz
 obtain⟨z0,N9,hz⟩:=hz
 split at h
 case isFalse=>simp[Tr.run]at h
 rename_i hc
 have oB:=Jx _ N9
 have cP:=wW TY (aU.2 (ay.replicate (vM (H:=H) hz) len))
 refine e9 hh hn (o:=.arr false (aw (ps.map (·.2))) false 0 (fP (List.replicate len z) ps)) (a':=.arr false (bc (qs.map (·.2))) false (ir (List.replicate len z0) qs))
  ⟨_,by rw[RL.closed (RP.snd TY)],cP,fun nJ=>pq (lT fun x hx=>by rw[List.eq_of_mem_replicate hx]; exact ux hz) nJ⟩ (a:=.bu q.size nm len 0 len (some len)) (rd:=[]) ?_ ?_ h
 ·right
  simp only[R]
  have hv:=fb hh hn (o:=.arr false (aw (ps.map (·.2))) false 0 (fP (List.replicate len z) ps))
  simp only[aE.cur,aE.len,si,List.length_replicate]at hv
  exact⟨len,hv,by rw[hX]⟩
 ·have aX:qs.all (fun p=>decide (p.1<len)&&aJ q.isAgg q.size p.2)=true:=by
   rw[←RP.all (p:=fun p=>decide (p.1<len)&&lK m.agg m.size p.2) (fun i v a Nm=>by simp only[eC,hX,R.aJ Nm]) TY]; exact hc.2.2
  refine aH.iq ?_
  unfold kG
  simp only[gR,oB]
  rw[if_pos ⟨by rw[hX]; exact hc.1,by rw[hX]; exact hc.2.1,aX⟩]
def dP.uC(T:dP)(Q:ik):Prop:=∀ t m z za,Q.ty t=some m→m.zero=some za→T.zero t=some z→T.rp t z za
theorem zX[ae](hQ:Q.Ok)(hZ:T.uC Q)(hh:RH T H hp){nm:Nat}(hn:nm=H.length∨H[nm]?=some none){t:TypeId}{l c:SV T.den}{a b:AV}(hl:RV T H l a)(hc:RV T H c b)
  (h:(sQ Q nm t l c K).run=some r):jN T H hp (.iq (fj Q.P nm t a b)) K r:=by
 unfold sQ at h
 split at h
 case h_2=>simp[Tr.run]at h
 rename_i e m hm
 obtain⟨hu,mU⟩:=hQ.slice hm
 obtain⟨q,gR,eC,hX,G9,Jx⟩:=hQ.row _ _ mU
 have zJ:aR Q.P t=some q:=by simp[aR,hu,gR]
 split at h
 case h_2=>simp[Tr.run]at h
 rename_i za z Ry hz EO
 simp only[decide_eq_true_eq]at EO
 have oB:=Jx _ Ry
 have Xf:=hZ _ _ _ _ mU Ry hz
 obtain⟨k,n,e1,Fa,h⟩:=jn h
 obtain⟨k',n',e2,Xg,h⟩:=jn h
 have ha:=rC hl e1 Fa
 have hb:=rC hc e2 Xg
 obtain⟨hg,h⟩:=ba h
 simp only[Bool.and_eq_true,decide_eq_true_eq]at hg
 have sA:ay (T.rp e) (List.replicate n'.toNat z) (List.replicate n'.toNat za):=ay.replicate Xf _
 have hA:fj Q.P nm t a b=some ⟨.bu q.size nm n'.toNat 0 n.toNat (some n'.toNat),[(nm,.arr false true false (List.replicate n'.toNat za))]⟩:=by
  simp_all[zJ,ha,hb,oB,fj]
 have hv:=fb hh hn (o:=.cj false false 0 e (List.replicate n'.toNat z))
 simp only[aE.cur,aE.len,List.length_replicate]at hv
 refine e9 hh hn (o:=.cj false false 0 e (List.replicate n'.toNat z)) ⟨_,rfl,sA⟩ ?_ (aH.iq hA) h
 right
 simp only[R]
 exact⟨n'.toNat,hv,by rw[hX]⟩
theorem zY[ae](hQ:Q.Ok)(hZ:T.uC Q)(hh:RH T H hp){nm:Nat}(hn:nm=H.length∨H[nm]?=some none){t:TypeId}{l:SV T.den}{a:AV}(hl:RV T H l a)
  (h:(sR Q nm t l K).run=some r):jN T H hp (.iq (fj Q.P nm t a a)) K r:=by
 unfold sR at h
 split at h
 case h_2=>simp[Tr.run]at h
 rename_i e m hm
 obtain⟨hu,mU⟩:=hQ.slice hm
 obtain⟨q,gR,eC,hX,G9,Jx⟩:=hQ.row _ _ mU
 have zJ:aR Q.P t=some q:=by simp[aR,hu,gR]
 split at h
 case h_2=>simp[Tr.run]at h
 rename_i za z Ry hz EO
 simp only[decide_eq_true_eq]at EO
 have oB:=Jx _ Ry
 have Xf:=hZ _ _ _ _ mU Ry hz
 obtain⟨k,n,e1,Fa,h⟩:=jn h
 have ha:=rC hl e1 Fa
 obtain⟨hg,h⟩:=ba h
 simp only[Bool.and_eq_true,decide_eq_true_eq]at hg
 have sA:ay (T.rp e) (List.replicate n.toNat z) (List.replicate n.toNat za):=ay.replicate Xf _
 have hA:fj Q.P nm t a a=some ⟨.bu q.size nm n.toNat 0 n.toNat (some n.toNat),[(nm,.arr false true false (List.replicate n.toNat za))]⟩:=by
  simp_all[zJ,ha,oB,fj]
 have hv:=fb hh hn (o:=.cj false false 0 e (List.replicate n.toNat z))
 simp only[aE.cur,aE.len,List.length_replicate]at hv
 refine e9 hh hn (o:=.cj false false 0 e (List.replicate n.toNat z)) ⟨_,rfl,sA⟩ ?_ (aH.iq hA) h
 right
 simp only[R]
 exact⟨n.toNat,hv,by rw[hX]⟩
theorem IU[ae](hQ:Q.Ok)(hh:RH T H hp){nm:Nat}(hn:nm=H.length∨H[nm]?=some none){t:TypeId}{m:kD}(hm:Q.ty t=some m){z:SV T.den}(hz:m.zero.bind gW=some z)(hs:0<m.size)
  (h:(K (.ref nm 0 0 0) [(nm,.arr false true false 0 [z])] []).run=some r) {ev:Operand→AV} {dst:Option Tmp} {type:TypeId} {pos:String} {after:Array Edge} {guard:Option (Nat×Bool)} :
  jN T H hp (aO Q.P nm ev ⟨dst,.alloc t,type,pos,after,guard⟩) K r:=by
 obtain⟨q,gR,eC,hX,G9,Jx⟩:=hQ.row _ _ hm
 rw[Option.bind_eq_some_iff]at hz
 obtain⟨z0,N9,hz⟩:=hz
 have oB:=Jx _ N9
 refine e9 hh hn (o:=.arr false true false 0 [z]) (a':=.arr false true false [z0]) ⟨_,rfl,by simp only[RL]; exact⟨vM hz,trivial⟩,fun _=>by simp only[aw,ux hz,Bool.and_self]⟩ (a:=.ref nm 1 0 0) (rd:=[]) ?_ ?_ h
 ·right
  simp only[R]
  exact⟨1,rfl,fb hh hn (o:=.arr false true false 0 [z])⟩
 ·simp only[aO,gR,oB]
  rw[if_pos (by omega)]
  exact aH.ret _
def LU(T:dP)(H:ai T.den)(x:Option (SV T.den))(y:Option AV):Prop:=
 match x,y with
 |none,none=>True
 |some v,some a=>RV T H v a
 |_,_=>False
theorem iE[ae]{d:Nat}{x:Option (SV T.den)}{y:Option AV}(LV:LU T H x y){K:Nat→Tr ρ}(h:(jJ d x K).run=some r):∃ n,bw d y=some n∧(K n).run=some r:=by
 unfold jJ at h
 split at h
 ·cases y with
  |none=>exact⟨d,rfl,h⟩
  |some a=>exact LV.elim
 ·cases y with
  |none=>exact LV.elim
  |some a=>
   obtain⟨k,n,e1,Fa,h⟩:=jn h
   exact⟨n.toNat,rC LV e1 Fa,h⟩
theorem kS[ae]{d:Nat}{v:SV T.den}{y:Option AV}(LV:LU T H (some v) y){K:Nat→Tr ρ}(h:(gy v K).run=some r):∃ n,bw d y=some n∧(K n).run=some r:=
 iE (d:=d) LV h
theorem th[ae]{x:Option (SV T.den)}{y z:Option AV}(LV:LU T H x y)(h:vI x=some z):y=z:=by
 cases x with
 |none=>
  cases y with
  |none=>simpa[vI] using h
  |some a=>exact LV.elim
 |some v=>
  cases y with
  |none=>exact LV.elim
  |some a=>
   simp only[vI,Option.map_eq_some_iff]at h
   obtain⟨b,hb,rfl⟩:=h
   rw[uA LV hb]
theorem LU.isSome{x:Option (SV T.den)}{y:Option AV}(LV:LU T H x y):x.isSome=y.isSome:=by
 cases x<;>cases y<;>first|rfl|exact LV.elim
theorem rE[ae](hh:RH T H hp){esz n c:Nat}{rg:Option (Nat×Nat)}{cap:Option Nat}{a:AV}(ha:R T H (.bu esz n c rg cap) a){off len:Nat}(hr:nD H n c rg=some (off,len)){o:aE T.den}
  (ho:H[n]?=some (some o)):∃ aq,a=.bu esz n aq off len cap∧gh H n c aq∧(Nat.beq c o.cur=true→aq=o.len):=by
 simp only[R]at ha
 obtain⟨aq,hv,ha⟩:=ha
 have cq:Nat.beq c o.cur=true→aq=o.len:=hv.arr hh ho
 cases rg with
 |some q=>
  obtain⟨Xd,OH⟩:=q
  simp only[nD,Option.some.injEq,Prod.mk.injEq]at hr
  obtain⟨rfl,rfl⟩:=hr
  exact⟨aq,ha,hv,cq⟩
 |none=>
  simp only[nD,ho]at hr
  split at hr
  case isFalse=>simp at hr
  rename_i hc
  simp only[Option.some.injEq,Prod.mk.injEq]at hr
  obtain⟨rfl,rfl⟩:=hr
  have:=cq hc
  subst this
  exact⟨_,ha,hv,fun _=>rfl⟩
theorem ti(hT:T.Ok){t:Nat}{agg:Bool}{size:Nat}(h1:agg=T.agg t)(h2:size=T.size t):∀ {l:List (T.den t)} {l':List AV},ay (T.rp t) l l'→l'.all (aJ agg size)=true
 |[],[],_=>rfl
 |_::_,_::_,h=>by
  subst h1; subst h2
  simp only[List.all_cons,Bool.and_eq_true]
  exact⟨hT.ok _ _ _ h.1,ti hT rfl rfl h.2⟩
theorem OT[ae](hT:T.Ok)(hQ:Q.Ok)(hh:RH T H hp){t:TypeId}{x:SV T.den}{a:AV}(hx:RV T H x a){lo hi mx:Option (SV T.den)}{SD uO PY:Option AV}(h1:LU T H lo SD)(h2:LU T H hi uO)(h3:LU T H mx PY)
  (h:(Rj Q H t x lo hi mx K).run=some r):∃ v b,nK Q.P t a SD uO PY=some b∧RV T H v b∧(K v [] []).run=some r:=by
 unfold Rj at h
 split at h
 ·rename_i v
  have ha:=hx.lit rfl
  subst ha
  split at h
  ·rename_i l hh' m e1 e2 e3
   rw[th h1 e1,th h2 e2,th h3 e3]
   split at h
   ·rename_i w hw
    exact⟨_,_,hw,bp w,h⟩
   ·rename_i hw
    exact⟨_,_,hw,.inr (by simp only[R]),h⟩
   ·simp[Tr.run]at h
  ·simp[Tr.run]at h
 ·rename_i xs
  have ha:=hx.live rfl
  simp only[R]at ha
  obtain⟨l',rfl,hl,EJ⟩:=ha
  split at h
  ·rename_i m hm
   obtain⟨q,gR,eC,hX,_⟩:=hQ.elem hm
   obtain⟨n1,e1,h⟩:=iE h1 h
   obtain⟨n2,e2,h⟩:=iE h2 h
   obtain⟨_,_,h⟩:=di h
   obtain⟨_,_,h⟩:=di h
   split at h
   case h_2=>simp[Tr.run]at h
   rename_i hc
   simp only[Bool.and_eq_true,decide_eq_true_eq]at hc
   cases PY with
   |some _=>exact h3.elim
   |none=>
    refine⟨_,.sl ((l'.drop n1).take (n2-n1)),?_,?_,h⟩
    ·have aX:l'.all (aJ q.isAgg q.size)=true:=by
      rw[eC,hX,←RL.all (fun _ _=>R.aJ) hl]; exact hc.2
     simp only[nK,gR,e1]
     rw[show bw l'.length uO=some n2 by rw[←hl.length]; exact e2]
     simp only
     rw[if_pos ⟨hc.1.1,by rw[←hl.length]; exact hc.1.2,aX⟩]
    ·right
     simp only[R]
     exact⟨_,rfl,aU.2 (((aU.1 hl).drop n1).take (n2-n1)),ni EJ _ _⟩
  ·simp[Tr.run]at h
 ·rename_i t' l
  split at h
  ·rename_i m hm
   obtain⟨q,gR,eC,hX,_⟩:=hQ.elem hm
   split at h
   case h_2=>simp[Tr.run]at h
   rename_i hc
   simp only[Bool.and_eq_true,decide_eq_true_eq]at hc
   have ha:=hx.live rfl
   cases PY with
   |some _=>exact h3.elim
   |none=>
    have key:∀ n1 n2,bw 0 SD=some n1→bw l.length uO=some n2→n1≤n2→n2≤l.length →
      ∃ b,nK Q.P t a SD uO none=some b∧RV T H (.jT t' ((l.drop n1).take (n2-n1))) b:=by
     intro n1 n2 e1 e2 hle zE
     simp only[R]at ha
     rcases ha with ⟨l',rfl,hl⟩|⟨rfl,rfl⟩
     ·refine⟨.sl ((l'.drop n1).take (n2-n1)),?_,?_⟩
      ·simp only[nK,gR,e1]
       rw[show bw l'.length uO=some n2 by rw[←hl.length]; exact e2]
       simp only
       rw[if_pos ⟨hle,by rw[←hl.length]; exact zE,ti hT (by rw[eC]; exact hc.1) (by rw[hX]; exact hc.2) hl⟩]
      ·right
       simp only[R]
       exact .inl ⟨_,rfl,(hl.drop n1).take (n2-n1)⟩
     ·simp only[List.length_nil,Nat.le_zero]at zE
      subst zE
      have:n1=0:=by omega
      subst this
      refine⟨.lit cX,?_,?_⟩
      ·simp only[List.length_nil]at e2
       simp only[nK,gR,e1,e2]
       rfl
      ·right
       show R T H (.jT t' _) (.lit cX)
       unfold R
       exact .inr ⟨by simp,rfl⟩
    cases lo with
    |none=>
     cases SD with
     |some _=>exact h1.elim
     |none=>
      cases hi with
      |none=>
       cases uO with
       |some _=>exact h2.elim
       |none=>
        obtain⟨b,hb,hr⟩:=key 0 l.length rfl rfl (Nat.zero_le _) (Nat.le_refl _)
        simp only[List.drop_zero,Nat.sub_zero,List.take_length]at hr
        exact⟨_,b,hb,hr,h⟩
      |some hi=>
       obtain⟨n2,e2,h⟩:=kS (d:=l.length) h2 h
       obtain⟨hg,h⟩:=ba h
       simp only[decide_eq_true_eq]at hg
       obtain⟨b,hb,hr⟩:=key 0 n2 rfl e2 (Nat.zero_le _) hg
       simp only[List.drop_zero,Nat.sub_zero]at hr
       exact⟨_,b,hb,hr,h⟩
    |some lo=>
     cases hi with
     |none=>
      cases uO with
      |some _=>exact h2.elim
      |none=>
       obtain⟨n1,e1,h⟩:=kS (d:=0) h1 h
       obtain⟨hg,h⟩:=ba h
       simp only[decide_eq_true_eq]at hg
       obtain⟨b,hb,hr⟩:=key n1 l.length e1 rfl hg (Nat.le_refl _)
       rw[List.take_of_length_le (by simp)]at hr
       exact⟨_,b,hb,hr,h⟩
     |some hi=>
      obtain⟨n1,e1,h⟩:=kS (d:=0) h1 h
      obtain⟨n2,e2,h⟩:=kS (d:=l.length) h2 h
      obtain⟨hg,h⟩:=ba h
      simp only[Bool.and_eq_true,decide_eq_true_eq]at hg
      obtain⟨b,hb,hr⟩:=key n1 n2 e1 e2 hg.1 hg.2
      exact⟨_,b,hb,hr,h⟩
  ·rename_i m mx hm
   obtain⟨q,gR,eC,hX,_⟩:=hQ.elem hm
   split at h
   case h_2=>simp[Tr.run]at h
   rename_i hi hc
   simp only[Bool.and_eq_true,decide_eq_true_eq]at hc
   cases uO with
   |none=>exact h2.elim
   |some Rg=>
   cases PY with
   |none=>exact h3.elim
   |some VB=>
   have ha:=hx.live rfl
   simp only[R]at ha
   split at h
   ·rename_i hz
    simp only[Bool.and_eq_true]at hz
    obtain⟨QX,Rx,TX⟩:=hz
    cases lo with
    |some _=>simp at QX
    |none=>
    cases SD with
    |some _=>exact h1.elim
    |none=>
    have z0:∀ {v:SV T.den} {a:AV},Vq v=true→RV T H v a→asNat a=some 0:=by
     intro v a hv hr
     unfold Vq at hv
     split at hv
     ·simp only[decide_eq_true_eq]at hv
      subst hv
      have:=hr.live rfl
      simp only[R]at this
      subst this
      rfl
     ·simp at hv
    have e2:=z0 Rx h2
    have e3:=z0 TX h3
    rcases ha with ⟨l',rfl,hl⟩|⟨rfl,rfl⟩
    ·have aX:=ti hT (agg:=q.isAgg) (size:=q.size) (by rw[eC]; exact hc.1) (by rw[hX]; exact hc.2) hl
     refine⟨_,.nz,?_,.inr (by simp only[R]),h⟩
     simp only[nK,gR,bw,e2,e3]
     rw[if_pos ⟨Nat.zero_le _,Nat.zero_le _,Nat.zero_le _,aX⟩]
     rfl
    ·refine⟨_,.nz,?_,.inr (by simp only[R]),h⟩
     simp only[nK,gR,bw,e2,e3,Option.isSome_some,Option.isNone_some,Bool.and_false,Bool.false_eq_true,if_false]
   obtain⟨n1,e1,h⟩:=iE h1 h
   obtain⟨n2,e2,h⟩:=kS (d:=l.length) h2 h
   obtain⟨n3,e3,h⟩:=kS (d:=l.length) h3 h
   obtain⟨hg,h⟩:=ba h
   simp only[Bool.and_eq_true,decide_eq_true_eq]at hg
   have Xh:asNat Rg=some n2:=e2
   have VC:asNat VB=some n3:=e3
   have f2:∀ d,bw d (some Rg)=some n2:=fun _=>Xh
   rcases ha with ⟨l',rfl,hl⟩|⟨rfl,rfl⟩
   ·have hlen:=hl.length
    have aX:=ti hT (agg:=q.isAgg) (size:=q.size) (by rw[eC]; exact hc.1) (by rw[hX]; exact hc.2) hl
    have dE:l'.isEmpty=false:=by
     grind
    have N3:n3≠0:=by omega
    refine⟨_,.pJ ((l'.drop n1).take (n2-n1)) (n3-n1),?_,.inr (by simp only[R]; exact .inl ⟨by cases l with
      |nil=>exfalso; cases l' with
       |nil=>simp at dE
       |cons=>simp at hlen
      |cons=>rfl,_,rfl,(hl.drop n1).take (n2-n1)⟩),h⟩
    simp only[nK,gR,e1,f2,VC]
    rw[if_pos ⟨hg.1.1.1,hg.1.1.2,by rw[←hlen]; exact hg.1.2,aX⟩,if_neg N3,dE]
    rfl
   ·exfalso
    simp only[List.length_nil]at hg
    omega
  ·simp[Tr.run]at h
 ·rename_i esz n c rg cap
  have ha:=hx.live rfl
  split at h
  ·rename_i m off len o hm hr ho
   obtain⟨q,gR,eC,hX,_⟩:=hQ.elem hm
   split at h
   case h_2=>simp[Tr.run]at h
   rename_i hc
   simp only[Bool.and_eq_true,decide_eq_true_eq]at hc
   obtain⟨aq,rfl,hv,cq⟩:=rE hh ha hr ho
   have cq:=cq hc.1
   obtain⟨n1,e1,h⟩:=iE h1 h
   obtain⟨n2,e2,h⟩:=iE h2 h
   obtain⟨hg,h⟩:=ba h
   simp only[Bool.and_eq_true,decide_eq_true_eq]at hg
   cases PY with
   |some _=>exact h3.elim
   |none=>
    refine⟨_,.bu esz n aq (off+n1) (n2-n1) (cap.map (·-n1)),?_,?_,h⟩
    ·simp only[nK,gR,e1,e2]
     rw[if_pos ⟨hg.1.1,by rw[cq]; exact hg.1.2,by rw[cq]; exact hg.2,by rw[hX]; exact hc.2⟩]
    ·right
     simp only[R]
     exact⟨aq,hv,rfl⟩
  ·rename_i m mx off len o hm hr ho
   obtain⟨q,gR,eC,hX,_⟩:=hQ.elem hm
   split at h
   case h_2=>simp[Tr.run]at h
   rename_i hi hc
   simp only[Bool.and_eq_true,decide_eq_true_eq]at hc
   cases uO with
   |none=>exact h2.elim
   |some Rg=>
   cases PY with
   |none=>exact h3.elim
   |some VB=>
   obtain⟨aq,rfl,hv,cq⟩:=rE hh ha hr ho
   have cq:=cq hc.1
   obtain⟨n1,e1,h⟩:=iE h1 h
   obtain⟨n2,e2,h⟩:=kS (d:=len) h2 h
   obtain⟨n3,e3,h⟩:=kS (d:=len) h3 h
   obtain⟨hg,h⟩:=ba h
   simp only[Bool.and_eq_true,decide_eq_true_eq]at hg
   have Xh:asNat Rg=some n2:=e2
   have VC:asNat VB=some n3:=e3
   have f2:∀ d,bw d (some Rg)=some n2:=fun _=>Xh
   have f3:∀ d,bw d (some VB)=some n3:=fun _=>VC
   refine⟨_,.bu esz n aq (off+n1) (n2-n1) (some (n3-n1)),?_,?_,h⟩
   ·simp only[nK,gR,e1,f2,VC]
    rw[if_pos ⟨hg.1.1.1,hg.1.1.2,by rw[cq]; exact hg.1.2,by rw[cq]; exact hg.2,by rw[hX]; exact hc.2⟩]
   ·right
    simp only[R]
    exact⟨aq,hv,rfl⟩
  ·simp[Tr.run]at h
 ·rename_i n' c k' j
  have ha:=hx.live rfl
  simp only[R]at ha
  obtain⟨aq,rfl,hv⟩:=ha
  split at h
  case h_2=>simp[Tr.run]at h
  rename_i len m hm
  obtain⟨q,gR,eC,hX⟩:=hQ.D1 hm
  cases PY with
  |some _=>exact h3.elim
  |none=>
   obtain⟨n1,e1,h⟩:=iE h1 h
   obtain⟨n2,e2,h⟩:=iE h2 h
   obtain⟨_,hl,h⟩:=di h
   obtain⟨_,rY,h⟩:=di h
   split at h
   case h_2=>simp[Tr.run]at h
   rename_i hle
   simp only[decide_eq_true_eq]at hle
   refine⟨_,.jt n' aq k' (j+n1*q.size) (n2-n1) (len-n1),?_,.inr (by simp only[R]; exact⟨aq,by rw[hX],hv⟩),h⟩
   simp only[nK,gR,e1,e2]
   rw[if_pos ⟨hle,by omega,by omega⟩]
 ·simp[Tr.run]at h
theorem vS[ae](hT:T.Ok){t:Nat}{x:T.den t}{a:AV}(h:T.rp t x a):aG (T.up t x)=true:=by
 rw[R.closed (hT.up t x a [] h)]
 exact hT.closed _ _ _ h
theorem zZ[ae](hT:T.Ok)(hQ:Q.Ok)(hh:RH T H hp){t:TypeId}{x ix:SV T.den}{a b:AV}(hx:RV T H x a)(hi:RV T H ix b){ur:Bool}(h:(sS Q ur H t x ix K).run=some r):
  ∃ v c,fk Q.P t a b=some c∧RV T H v c∧(K v [] []).run=some r:=by
 unfold sS at h
 obtain⟨k,n,e1,Fa,h⟩:=jn h
 have hb:=rC hi e1 Fa
 unfold fk
 rw[hb]
 simp only
 split at h
 ·rename_i xs
  have ha:=hx.live rfl
  simp only[R]at ha
  obtain⟨l',rfl,hl,EJ⟩:=ha
  split at h
  case h_2=>simp[Tr.run]at h
  rename_i m hm
  obtain⟨q,gR,eC,hX,_⟩:=hQ.elem hm
  obtain⟨_,_,h⟩:=di h
  split at h
  case h_2=>simp[Tr.run]at h
  rename_i e he
  split at h
  case h_2=>simp[Tr.run]at h
  rename_i bM
  obtain⟨e',GR,hr⟩:=ay.get (aU.1 hl) he
  refine⟨_,.bk e' 0,?_,.inr (by simp only[R]; exact⟨e',rfl,hr,ko EJ (List.mem_of_getElem? he)⟩),h⟩
  simp only[gR,GR]
  rw[if_pos (by rw[eC,hX,←R.aJ hr]; exact bM)]
 ·rename_i t' l
  have ha:=hx.live rfl
  split at h
  case h_2=>simp[Tr.run]at h
  rename_i m hm
  obtain⟨q,gR,eC,hX,_⟩:=hQ.elem hm
  split at h
  case h_2=>simp[Tr.run]at h
  rename_i hc
  simp only[Bool.and_eq_true,decide_eq_true_eq]at hc
  obtain⟨y,hy,h⟩:=bind_some h
  rw[Hv hT]at h
  simp only[R]at ha
  rcases ha with ⟨l',rfl,hl⟩|⟨rfl,_⟩
  ·obtain⟨e',GR,hr⟩:=ay.get hl hy
   refine⟨_,.bk e' 0,?_,.inr (by simp only[R]; exact⟨e',rfl,hT.up _ _ _ H hr,vS hT hr⟩),h⟩
   simp only[gR,GR]
   rw[if_pos (by rw[eC,hX,hc.1,hc.2]; exact hT.ok _ _ _ hr)]
  ·simp at hy
 ·rename_i esz n' c rg cap _
  have ha:=hx.live rfl
  split at h
  case h_2=>simp[Tr.run]at h
  rename_i m hm
  obtain⟨q,gR,eC,hX,_⟩:=hQ.elem hm
  split at h
  ·rename_i off len g cl f cu es hc hr ho
   simp only[Bool.and_eq_true,decide_eq_true_eq]at hc
   obtain⟨aq,rfl,hv,_⟩:=rE hh ha hr ho
   obtain⟨_,bE,h⟩:=di h
   refine⟨_,.ref n' aq (off+n.toNat) 0,?_,.inr (by simp only[R]; exact⟨aq,rfl,hv⟩),h⟩
   simp only[gR]
   rw[if_pos ⟨by omega,by rw[hX]; exact hc.1,by rw[hX]; exact hc.2⟩]
  ·rename_i off len g f cu t' l hc hr ho
   simp only[Bool.and_eq_true,decide_eq_true_eq]at hc
   obtain⟨aq,rfl,hv,_⟩:=rE hh ha hr ho
   obtain⟨bE,h⟩:=ba h
   simp only[decide_eq_true_eq]at bE
   refine⟨_,.ref n' aq (off+n.toNat) 0,?_,.inr (by simp only[R]; exact⟨aq,rfl,hv⟩),h⟩
   simp only[gR]
   rw[if_pos ⟨bE,by rw[hX]; exact hc.1,by rw[hX]; exact hc.2⟩]
  ·simp[Tr.run]at h
 ·rename_i n' c k' j len cap _
  have ha:=hx.live rfl
  simp only[R]at ha
  obtain⟨aq,rfl,hv⟩:=ha
  split at h
  case h_2=>simp[Tr.run]at h
  rename_i m hm
  obtain⟨q,gR,eC,hX,_⟩:=hQ.elem hm
  obtain⟨_,bE,h⟩:=di h
  refine⟨_,.ref n' aq k' (j+n.toNat*q.size),?_,.inr (by simp only[R]; exact⟨aq,by rw[hX],hv⟩),h⟩
  simp only[gR]
  rw[if_pos (by omega)]
 ·rename_i n' c k' j _
  have ha:=hx.live rfl
  simp only[R]at ha
  obtain⟨aq,rfl,hv⟩:=ha
  split at h
  case h_2=>simp[Tr.run]at h
  rename_i len m hm
  obtain⟨q,gR,eC,hX⟩:=hQ.D1 hm
  split at h
  ·obtain⟨bE,h⟩:=ba h
   simp only[decide_eq_true_eq]at bE
   refine⟨_,.ref n' aq k' (j+n.toNat*q.size),?_,.inr (by simp only[R]; exact⟨.ref n' aq k' j,⟨aq,rfl,hv⟩,bE,.inl ⟨_,_,_,_,rfl,by rw[hX]⟩⟩),h⟩
   simp only[gR]
   rw[if_pos (by omega)]
  obtain⟨_,bE,h⟩:=di h
  refine⟨_,.ref n' aq k' (j+n.toNat*q.size),?_,.inr (by simp only[R]; exact⟨aq,by rw[hX],hv⟩),h⟩
  simp only[gR]
  rw[if_pos (by omega)]
 ·rename_i e j _
  have ha:=hx.live rfl
  simp only[R]at ha
  obtain⟨e',rfl,hr,Zw⟩:=ha
  split at h
  case h_2=>simp[Tr.run]at h
  rename_i len m hm
  obtain⟨q,gR,eC,hX⟩:=hQ.D1 hm
  split at h
  ·obtain⟨bE,h⟩:=ba h
   simp only[decide_eq_true_eq]at bE
   refine⟨_,.bk e' (j+n.toNat*q.size),?_,.inr (by simp only[R]; exact⟨.bk e' j,⟨e',rfl,hr,Zw⟩,bE,.inr ⟨_,_,rfl,by rw[hX]⟩⟩),h⟩
   simp only[gR]
   rw[if_pos (by omega)]
  obtain⟨_,bE,h⟩:=di h
  refine⟨_,.bk e' (j+n.toNat*q.size),?_,.inr (by simp only[R]; exact⟨e',by rw[hX],hr,Zw⟩),h⟩
  simp only[gR]
  rw[if_pos (by omega)]
 ·simp[Tr.run]at h
theorem IV[ae](hQ:Q.Ok){t:TypeId}{x ix:SV T.den}{a b:AV}(hx:RV T H x a)(hi:RV T H ix b){ur:Bool}(h:(F1 Q ur t x ix K).run=some r):
  ∃ v c,uU Q.P t a b=some c∧RV T H v c∧(K v [] []).run=some r:=by
 unfold F1 at h
 split at h
 ·have ha:=hx.lit rfl
  subst ha
  split at h
  ·rename_i i uO
   rw[uA hi uO]
   obtain⟨w,hw,hk⟩:=iD h
   exact⟨_,_,hw,bp w,hk⟩
  ·simp[Tr.run]at h
 ·rename_i l
  have ha:=hx.live rfl
  have Po:=ha
  simp only[R]at ha
  obtain⟨l',rfl,hl⟩:=ha
  split at h
  case h_2=>simp[Tr.run]at h
  rename_i n m hm
  obtain⟨q,gR,eC,hX⟩:=hQ.D1 hm
  obtain⟨k,n',e1,Fa,h⟩:=jn h
  have hb:=rC hi e1 Fa
  split at h
  ·rename_i y hs LS
   simp only[Bool.and_eq_true,Bool.not_eq_true']at hs
   obtain⟨bE,h⟩:=ba h
   simp only[decide_eq_true_eq]at bE
   obtain⟨xs,Ah,LS⟩:=Option.bind_eq_some_iff.1 LS
   obtain⟨g1,g2⟩:=kF Ah
   have hg:=List.getElem?_eq_getElem (by omega:n'.toNat<xs.length)
   have hy:=g2 _ _ hg
   rw[←DV LS hg,Nat.zero_add,Nat.mul_one]at hy
   obtain⟨c,hc,hr⟩:=R.part Po hy
   refine⟨y,c,?_,.inr hr,h⟩
   simp only[uU,gR,hb]
   rw[if_pos (by omega),eC,hX,hs.1.2,Nat.eq_of_beq_eq_true hs.2,Nat.mul_one]
   exact hc
  obtain⟨_,bE,h⟩:=di h
  obtain⟨v,hv,hk⟩:=mE h
  rw[←eC,←hX]at hv
  obtain⟨c,hc,hr⟩:=R.part Po hv
  refine⟨v,c,?_,.inr hr,hk⟩
  simp only[uU,gR,hb]
  rw[if_pos (by omega)]
  exact hc
 ·simp[Tr.run]at h
end
end Go.PI
end
section
/- PS, part I: append, and the builtins. -/
namespace Go.PI
variable {T:dP}{ρ:Type}
section
variable {H:ai T.den}{hp:ag}{K:EK T ρ}{r:ρ}{Q:ik}
def z1(T:dP)(H:ai T.den)(y:Src T.den)(ys:List AV)(yc:Bool):Prop:=
 match y with
 |.mv l cl=>RL T H l ys∧yc=cl∧(cl=true→aw l=true)
 |.zU t l=>ay (T.rp t) l ys∧yc=true
theorem z1.len[ae]{y:Src T.den}{ys:List AV}{yc:Bool}(h:z1 T H y ys yc):y.len=ys.length:=by
 cases y with
 |mv l cl=>exact h.1.length
 |zU t l=>exact h.1.length
theorem Hz[ae](hQ:Q.Ok)(hh:RH T H hp){q:bN}{xt:TypeId}{x:SV T.den}{a:AV}(hx:RV T H x a){K:Src T.den→List Nat→Tr ρ}(h:(OD Q H xt x K).run=some r):
  ∃ y rd ys yc,aH hp (xb Q.P q xt a) (ys,yc) rd∧z1 T H y ys yc∧(K y rd).run=some r:=by
 unfold OD at h
 split at h
 case h_2=>simp[Tr.run]at h
 rename_i hs
 have hs:=hQ.ON hs
 unfold xb
 rw[hs]
 simp only
 split at h
 ·have ha:=hx.lit rfl
  subst ha
  exact⟨.mv [] true,_,[],true,aH.pure _,⟨by simp[RL],rfl,fun _=>rfl⟩,h⟩
 ·have ha:=hx.live rfl
  simp only[R]at ha
  obtain⟨l',rfl,hl,EJ⟩:=ha
  exact⟨.mv _ true,_,l',true,aH.pure _,⟨hl,rfl,fun _=>EJ⟩,h⟩
 ·have ha:=hx.live rfl
  simp only[R]at ha
  rcases ha with ⟨l',rfl,hl⟩|⟨rfl,rfl⟩
  ·exact⟨.zU _ _,_,l',true,aH.pure _,⟨hl,rfl⟩,h⟩
  ·exact⟨.zU _ _,_,[],true,aH.pure _,⟨(show ay (T.rp _) [] [] from trivial),rfl⟩,h⟩
 ·rename_i esz n c rg cap
  have ha:=hx.live rfl
  simp only[R]at ha
  obtain⟨aq,hv,ha⟩:=ha
  split at h
  ·rename_i g cl f cur es ho
   obtain⟨o,dr,dV⟩:=hh.obj ho
   obtain⟨es',rfl,cP,rT⟩:=dV
   split at h
   case h_2=>simp[Tr.run]at h
   rename_i hc
   have cq:=hv.arr hh ho hc
   simp only[aE.len]at cq
   have hl:=cP.length
   split at h
   ·simp only at ha
    subst ha
    refine⟨.mv es cl,_,es',cl,?_,⟨cP,rfl,rT⟩,h⟩
    simp only[gl]
    refine aH.mono (aH.bind (aH.arr dr (by omega)) ?_) (rd:=[n]++[]) (fun _ h=>by simpa using h)
    simp only
    rw[if_pos (by omega)]
    simp only[List.drop_zero]
    rw[List.take_of_length_le (by omega)]
    exact aH.pure _
   ·rename_i off len
    simp only at ha
    subst ha
    split at h
    case isFalse=>simp[Tr.run]at h
    rename_i hle
    refine⟨.mv _ cl,_,(es'.drop off).take len,cl,?_,⟨aU.2 (((aU.1 cP).drop off).take len),rfl,fun nJ=>ni (rT nJ) _ _⟩,h⟩
    simp only[gl]
    refine aH.mono (aH.bind (aH.arr dr (by omega)) ?_) (rd:=[n]++[]) (fun _ h=>by simpa using h)
    simp only
    rw[if_pos (by omega)]
    exact aH.pure _
  ·rename_i g f cur t l ho
   obtain⟨o,dr,dV⟩:=hh.obj ho
   obtain⟨es',rfl,cP⟩:=dV
   split at h
   case h_2=>simp[Tr.run]at h
   rename_i hc
   have cq:=hv.arr hh ho hc
   simp only[aE.len]at cq
   have hl:=cP.length
   split at h
   ·simp only at ha
    subst ha
    refine⟨.zU t l,_,es',true,?_,⟨cP,rfl⟩,h⟩
    simp only[gl]
    refine aH.mono (aH.bind (aH.arr dr (by omega)) ?_) (rd:=[n]++[]) (fun _ h=>by simpa using h)
    simp only
    rw[if_pos (by omega)]
    simp only[List.drop_zero]
    rw[List.take_of_length_le (by omega)]
    exact aH.pure _
   ·rename_i off len
    simp only at ha
    subst ha
    obtain⟨hle,h⟩:=ba h
    simp only[decide_eq_true_eq]at hle
    refine⟨.zU t _,_,(es'.drop off).take len,true,?_,⟨(cP.drop off).take len,rfl⟩,h⟩
    simp only[gl]
    refine aH.mono (aH.bind (aH.arr dr (by omega)) ?_) (rd:=[n]++[]) (fun _ h=>by simpa using h)
    simp only
    rw[if_pos (by omega)]
    exact aH.pure _
  ·simp[Tr.run]at h
 ·simp[Tr.run]at h
theorem z1.yH[ae](hT:T.Ok){y:Src T.den}{ys:List AV}{yc:Bool}(h:z1 T H y ys yc){m:kD}{q:bN}(h1:q.isAgg=m.agg)(h2:q.size=m.size)(bM:y.ok T m=true):ys.all (aJ q.isAgg q.size)=true:=by
 cases y with
 |mv l cl=>
  rw[h1,h2,←RL.all (fun _ _=>R.aJ) h.1]
  exact bM
 |zU t l=>
  simp only[Src.ok,Bool.and_eq_true,decide_eq_true_eq]at bM
  exact ti hT (by rw[h1,bM.1]) (by rw[h2,bM.2]) h.1
theorem gZ[ae]{y:Src T.den}{ys:List AV}{yc:Bool}(hy:z1 T H y ys yc){a b:Tr ρ}(h:(oU T y a b).run=some r):(ys.isEmpty=true∧a.run=some r)∨(ys.isEmpty=false∧b.run=some r):=by
 have hl:=hy.len
 unfold oU at h
 split at h
 ·grind[Src.len]
 ·rename_i t l
  rcases fQ h with ⟨he,h⟩|⟨he,h⟩
  ·grind[Src.len]
  ·grind[Src.len]
theorem qD(hT:T.Ok){t:Nat}:∀ {l:List (SV T.den)} {m:List AV} {xs:List (T.den t)},RL T H l m→pk T t l=some xs→ay (T.rp t) xs m
 |[],[],xs,_,h=>by simp[pk]at h; subst h; trivial
 |v::vs,a::as,xs,hr,h=>by
  simp only[RL]at hr
  simp only[pk,Option.bind_eq_some_iff,Option.map_eq_some_iff]at h
  obtain⟨x,h1,ys,h2,rfl⟩:=h
  exact⟨hT.dn _ _ _ _ H h1 hr.1,qD hT hr.2 h2⟩
 |[],_::_,_,h,_=>by simp[RL]at h
 |_::_,[],_,h,_=>by simp[RL]at h
theorem yY{t t':Nat}(h:t=t'){l:List (T.den t)}{m:List AV}(hl:ay (T.rp t) l m):ay (T.rp t') (AQ h l) m:=by subst h; exact hl
theorem AZ{den:Nat→Type}{t t':Nat}(h:t=t')(l:List (den t)):(AQ h l).length=l.length:=by subst h; rfl
theorem vT[ae](hT:T.Ok){cur:Nat}{o o':aE T.den}{y:Src T.den}{g c f:Bool}{es ys:List AV}{yc:Bool}(ho:RO T H o (.arr g c f es))(hy:z1 T H y ys yc)(h:qw T cur o y=some o'):
  o'.cur=cur∧o'.len=o.len+y.len∧RO T H o' (.arr true (c&&yc) f (es++ys)):=by
 unfold qw at h
 split at h
 ·rename_i cl f' cu Xi VD Ze
  simp only[Option.some.injEq]at h
  subst h
  obtain⟨es',e,cP,rT⟩:=ho
  simp only[aP.arr.injEq]at e
  obtain⟨rfl,rfl,rfl,rfl⟩:=e
  obtain⟨yZ,rfl,TZ⟩:=hy
  exact⟨rfl,by simp[aE.len,Src.len],_,rfl,aU.2 ((aU.1 cP).append (aU.1 yZ)),fun nJ=>by simp only[Bool.and_eq_true]at nJ; exact F5 (rT nJ.1) (TZ nJ.2)⟩
 ·rename_i f' cu Xi t l
  rw[Option.map_eq_some_iff]at h
  obtain⟨l0,h1,rfl⟩:=h
  obtain⟨es',e,cP,_⟩:=ho
  simp only[aP.arr.injEq]at e
  obtain⟨rfl,rfl,rfl,rfl⟩:=e
  obtain⟨yZ,rfl⟩:=hy
  have h2:=qD hT cP h1
  refine⟨rfl,?_,_,rfl,h2.append yZ⟩
  simp[aE.len,Src.len,h2.length,cP.length]
 ·rename_i f' cu t l VD
  rw[Option.map_eq_some_iff]at h
  obtain⟨l0,h1,rfl⟩:=h
  obtain⟨es',e,cP⟩:=ho
  simp only[aP.arr.injEq]at e
  obtain⟨rfl,rfl,rfl,rfl⟩:=e
  obtain⟨yZ,rfl,_⟩:=hy
  have h2:=qD hT yZ h1
  refine⟨rfl,?_,_,rfl,cP.append h2⟩
  simp[aE.len,Src.len,h2.length,yZ.length]
 ·rename_i f' cu t l t' l2
  split at h
  case isFalse=>simp at h
  rename_i ht
  simp only[Option.some.injEq]at h
  subst h
  obtain⟨es',e,cP⟩:=ho
  simp only[aP.arr.injEq]at e
  obtain⟨rfl,rfl,rfl,rfl⟩:=e
  obtain⟨yZ,rfl⟩:=hy
  refine⟨rfl,?_,_,rfl,cP.append (yY ht yZ)⟩
  simp[aE.len,Src.len,AZ]
 ·simp at h
theorem D2{y:Src T.den}{ys:List AV}{yc:Bool}(hy:z1 T H y ys yc):(yI y).cur=0∧(yI y).len=y.len∧RO T H (yI y) (.arr true yc false ys):=by
 cases y with
 |mv l cl=>obtain⟨h1,rfl,h2⟩:=hy; exact⟨rfl,rfl,_,rfl,h1,h2⟩
 |zU t l=>obtain⟨h1,rfl⟩:=hy; exact⟨rfl,rfl,_,rfl,h1⟩
theorem LW[ae](hT:T.Ok){o:aE T.den}{g c f:Bool}{es:List AV}(ho:RO T H o (.arr g c f es)){m:kD}{q:bN}(h1:q.isAgg=m.agg)(h2:q.size=m.size)(bM:o.yH T m=true):es.all (aJ q.isAgg q.size)=true:=by
 cases o with
 |arr g' cl f' cu Xi=>
  obtain⟨es',e,cP,_⟩:=ho
  simp only[aP.arr.injEq]at e
  obtain⟨rfl,rfl,rfl,rfl⟩:=e
  rw[h1,h2,←RL.all (fun _ _=>R.aJ) cP]
  exact bM
 |cj g' f' cu t l=>
  obtain⟨es',e,cP⟩:=ho
  simp only[aP.arr.injEq]at e
  obtain⟨rfl,rfl,rfl,rfl⟩:=e
  simp only[aE.yH,Bool.and_eq_true,decide_eq_true_eq]at bM
  exact ti hT (by rw[h1,bM.1]) (by rw[h2,bM.2]) cP
 |_=>simp[aE.yH]at bM
theorem y4{cur:Nat}{o o':aE T.den}{y:Src T.den}(h:qw T cur o y=some o'):o.yT=true:=by
 cases o<;>first|rfl|(cases y<;>simp[qw]at h)
theorem oh{o:aE T.den}(h:o.yT=true):o.isRec=false:=by cases o<;>first|rfl|simp[aE.yT]at h
theorem qE:∀ (ys es:List AV) (i:Nat),i+ys.length≤es.length→bA es i ys=es.take i++(ys++es.drop (i+ys.length))
 |[],es,i,_=>by simp[bA]
 |y::ys,es,i,h=>by
  simp only[List.length_cons]at h
  simp only[bA]
  rw[qE ys (es.set i y) (i+1) (by simp; omega)]
  have e1:(es.set i y).take (i+1)=es.take i++[y]:=by
   rw[List.take_succ_eq_append_getElem (by simp; omega),List.take_set_of_le (Nat.le_refl i)]
   simp
  have e2:(es.set i y).drop (i+1+ys.length)=es.drop (i+(ys.length+1)):=by
   rw[List.drop_set_of_lt (by omega)]
   congr 1; omega
  rw[e1,e2]
  simp
theorem A0{α β:Type}{P:α→β→Prop}{l l2:List α}{m m2:List β}(h:ay P l m)(h2:ay P l2 m2)(i:Nat):ay P (IE l i l2) (m.take i++(m2++m.drop (i+m2.length))):=by
 unfold IE
 rw[h2.length]
 exact(h.take i).append (h2.append (h.drop _))
theorem vU[ae](hT:T.Ok){i:Nat}{o o':aE T.den}{y:Src T.den}{ao:aP}{ys:List AV}{yc:Bool}(ho:RO T H o ao)(hy:z1 T H y ys yc)(hi:i+y.len≤o.len)(h:vJ T o i y=some o'):
  o.yT=true∧o'.cur=o.cur∧o'.len=o.len∧∃ es,ao=.arr o.flags.1 o.flags.2.1 o.flags.2.2 es∧RO T H o' (.arr o.flags.1 (o.flags.2.1&&yc) o.flags.2.2 (bA es i ys)):=by
 have hlen:=hy.len
 unfold vJ at h
 split at h
 ·rename_i g f cu t l t' l2
  split at h
  case isFalse=>simp at h
  rename_i ht
  simp only[Option.some.injEq]at h
  subst h
  obtain⟨es',rfl,cP⟩:=ho
  obtain⟨yZ,rfl⟩:=hy
  have hl:=cP.length
  simp only[aE.len,Src.len]at hi hlen
  refine⟨rfl,rfl,?_,es',rfl,_,rfl,?_⟩
  ·simp[aE.len,IE,AZ]; omega
  ·rw[qE _ _ _ (by omega)]
   exact A0 cP (yY ht yZ) i
 ·rename_i g f cu t l VD
  rw[Option.map_eq_some_iff]at h
  obtain⟨l0,h1,rfl⟩:=h
  obtain⟨es',rfl,cP⟩:=ho
  obtain⟨yZ,rfl,_⟩:=hy
  have h2:=qD hT yZ h1
  have hl:=cP.length
  have rY:=h2.length
  simp only[aE.len,Src.len]at hi hlen
  refine⟨rfl,rfl,?_,es',rfl,_,rfl,?_⟩
  ·simp[aE.len,IE]; omega
  ·rw[qE _ _ _ (by omega)]
   exact A0 cP h2 i
 ·simp at h
def tj(q:bN)(nm:Nat)(a:AV)(ys:List AV)(yc:Bool):RM dK:=
   (match (cC q).isSome&&decide (0<q.size)&&ys.all (aJ q.isAgg q.size) with
     |false=>RM.fail
     |true=>match ys.isEmpty with
      |true=>(match a with
       |.pJ xs _=>pure ⟨.sl xs,[]⟩
       |.lit (.slice none 0 0)|.sl _|.bu _ _ _ _ _ _|.nz=>pure ⟨a,[]⟩
       |_=>.fail)
      |false=>match a with
       |.lit (.slice none 0 0)|.nz=>
        if ys.length*q.bytes≤2^44∧ys.length≤2^44 then
         pure ⟨.bu q.size nm ys.length 0 ys.length none,[(nm,.arr true yc false ys)]⟩ else .fail
       |.pJ xs c=>
        if c<xs.length+ys.length∧(xs.length+ys.length)*q.bytes≤2^44∧xs.length+ys.length≤2^44∧xs.all (aJ q.isAgg q.size)=true then
         pure ⟨.bu q.size nm (xs.length+ys.length) 0 (xs.length+ys.length) none,[(nm,.arr true yc false (xs++ys))]⟩ else .fail
       |.bu esz n aq off len cap=>do
        let (g,c,f,es) ←RM.arr n aq
        if f=true∨es.length<off+len∨esz≠q.size then RM.fail else
        if len+ys.length≤cap.getD (aq-off) then
         if off+len+ys.length≤es.length then
          pure ⟨.bu esz n aq off (len+ys.length) cap,[(n,.arr g (c&&yc) f (bA es (off+len) ys))]⟩
         else RM.fail
        else if (len+ys.length)*q.bytes≤2^44∧len+ys.length≤2^44 then
         (match cap with
         |none=>if g=true∧off=0∧len=aq then
           pure ⟨.bu esz n (len+ys.length) 0 (len+ys.length) none,[(n,.arr true (c&&yc) f (es++ys))]⟩
          else RM.fail
         |some _=>if es.all (aJ q.isAgg q.size)=true then
           pure ⟨.bu esz nm (len+ys.length) 0 (len+ys.length) none,[(nm,.arr true (c&&yc) false ((es.drop off).take len++ys))]⟩
          else RM.fail)
        else RM.fail
       |_=>.fail)
theorem F9{P:Program}{t xt:TypeId}{q:bN}(h:aR P t=some q)(nm:Nat)(a b:AV):
  fW P nm t xt a b=(xb P q xt b >>= fun p=>tj q nm a p.1 p.2):=by
 unfold fW
 rw[h]
 rfl
theorem A1{i:Nat}{o o':aE T.den}{y:Src T.den}{ys:List AV}{yc:Bool}(hy:z1 T H y ys yc)(h:vJ T o i y=some o'):yc=true:=by
 cases y with
 |mv l cl=>cases cl with
  |true=>exact hy.2.1
  |false=>unfold vJ at h; cases o<;>simp at h
 |zU t l=>exact hy.2
theorem y5[ae](hh:RH T H hp){n:Nat}{o o':aE T.den}{ao:aP}(ho:H[n]?=some (some o))(hc:o.cur≤o'.cur)(hl:o'.cur=o.cur→o'.len=o.len)(dr:hp[n]?=some (some ao))(dV:RO T H o' ao)
  {v:SV T.den} {a:AV} (hv:RV T (H.set n (some o')) v a) {m:RM dK} {rd:List Nat} (hy:aH hp m ⟨a,[]⟩ rd) (h:(K v [(n,o')] rd).run=some r) (hj:o.yT=true):jN T H hp m K r:=by
 obtain⟨PZ,OU⟩:=hh.Sz ho (o':=o') hc hl dV
 rw[iy dr]at OU
 have bE:=(List.getElem?_eq_some_iff.1 ho).1
 have e1:bh H [(n,o')]=H.set n (some o'):=by simp[bh,bQ]; omega
 refine⟨_,_,_,⟨a,[]⟩,hy,⟨by rw[e1]; exact hv,by rw[e1]; exact OU,by rw[e1]; exact PZ,fun q h=>by simp at h,fun k hk hl=>?_,by rw[e1]; simp,fun k hk Jp=>by
  simp at Jp
  subst Jp
  simp only[recAt,ho,oh hj,Bool.false_eq_true]at hk⟩,h⟩
 rw[e1]; simp at hk; rw[List.getElem?_set_ne (Ne.symm hk)]
theorem Ga[ae](hT:T.Ok)(hQ:Q.Ok)(hh:RH T H hp){nm:Nat}(hn:nm=H.length∨H[nm]?=some none){t xt:TypeId}{s x:SV T.den}{a b:AV}(hs:RV T H s a)(hx:RV T H x b)
  (h:(BX Q nm H t xt s x K).run=some r):jN T H hp (fW Q.P nm t xt a b) K r:=by
 unfold BX at h
 split at h
 ·simp[Tr.run]at h
 rename_i m hm
 obtain⟨q,gR,eC,hX,G9,Jx⟩:=hQ.elem hm
 obtain⟨y,rd,ys,yc,yZ,wX,h⟩:=Hz hQ hh (q:=q) hx h
 split at h
 ·simp[Tr.run]at h
 rename_i bM
 simp only[Bool.and_eq_true,decide_eq_true_eq]at bM
 have hz:(cC q).isSome=true:=by
  cases Zx:m.zero with
  |none=>rw[Zx]at bM; simp at bM
  |some z=>rw[Jx z Zx]; rfl
 have aX:=wX.yH hT eC hX bM.2
 have me:((cC q).isSome&&decide (0<q.size)&&ys.all (aJ q.isAgg q.size))=true:=by
  rw[hz,aX,hX]; simpa using bM.1.2
 have gi:=wX.len
 have abs:∀ {rest:RM dK} {e:dK} {rd2:List Nat},(∀ n,n∈rd→n∈rd2)→aH hp rest e rd2 →
   tj q nm a ys yc=rest→aH hp (fW Q.P nm t xt a b) e rd2:=by
  intro rest e rd2 h1 h2 h3
  rw[F9 gR]
  refine⟨?_,fun n hn=>?_⟩
  ·rw[RM.run_bind,yZ.1]
   simp only[Option.bind_some]
   rw[h3]
   exact h2.1
  ·rw[RM.eV,yZ.1]at hn
   simp only[List.mem_append]at hn
   rw[h3]at hn
   exact hn.elim (fun h=>h1 n (yZ.2 n h)) (h2.2 n)
 unfold tj at abs
 rw[me]at abs
 split at h
 ·-- nil
  have ha:=hs.lit rfl
  subst ha
  rcases gZ wX h with ⟨he,h⟩|⟨he,h⟩
  ·rw[he]at abs
   exact ar hh (bp cX) (abs (fun _ h=>h) (aH.mono (aH.pure _) (fun _ h=>by simp at h)) rfl) h
  ·rw[he]at abs
   obtain⟨hg,h⟩:=ba h
   simp only[se,Bool.and_eq_true,decide_eq_true_eq]at hg
   obtain⟨o1,o2,o3⟩:=D2 wX
   refine e9 hh hn o3 (v:=.bu m.size nm 0 none none) (a:=.bu q.size nm ys.length 0 ys.length none) ?_ (abs (fun _ h=>h) (aH.mono (aH.pure _) (fun _ h=>by simp at h)) ?_) h
   ·right
    simp only[R]
    have hv:=fb hh hn (o:=yI y)
    rw[o1,o2,gi]at hv
    exact⟨_,hv,by rw[hX]⟩
   ·simp only
    rw[if_pos ⟨by rw[←gi,G9]; exact hg.1,by rw[←gi]; exact hg.2⟩]
 ·-- empty,without room
  have ha:=hs.live rfl
  simp only[R]at ha
  rcases gZ wX h with ⟨he,h⟩|⟨he,h⟩
  ·rw[he]at abs
   subst ha
   exact ar hh hs (abs (fun _ h=>h) (aH.mono (aH.pure _) (fun _ h=>by simp at h)) rfl) h
  ·rw[he]at abs
   obtain⟨hg,h⟩:=ba h
   simp only[se,Bool.and_eq_true,decide_eq_true_eq]at hg
   obtain⟨o1,o2,o3⟩:=D2 wX
   have key:∀ rest:RM dK,rest=(if ys.length*q.bytes≤2^44∧ys.length≤2^44 then
        pure ⟨.bu q.size nm ys.length 0 ys.length none,[(nm,.arr true yc false ys)]⟩ else .fail)→rest=pure ⟨.bu q.size nm ys.length 0 ys.length none,[(nm,.arr true yc false ys)]⟩:=by
    intro rest hr
    rw[hr,if_pos ⟨by rw[←gi,G9]; exact hg.1,by rw[←gi]; exact hg.2⟩]
   refine e9 hh hn o3 (v:=.bu m.size nm 0 none none) (a:=.bu q.size nm ys.length 0 ys.length none) ?_ (abs (fun _ h=>h) (aH.mono (aH.pure _) (fun _ h=>by simp at h)) ?_) h
   ·right
    simp only[R]
    have hv:=fb hh hn (o:=yI y)
    rw[o1,o2,gi]at hv
    exact⟨_,hv,by rw[hX]⟩
   ·subst ha
    exact key _ rfl
 ·-- a slice by value
  have ha:=hs.live rfl
  rcases gZ wX h with ⟨he,h⟩|⟨_,h⟩
  ·rw[he]at abs
   simp only[R]at ha
   obtain⟨l',rfl,hl⟩:=ha
   exact ar hh hs (abs (fun _ h=>h) (aH.mono (aH.pure _) (fun _ h=>by simp at h)) rfl) h
  ·simp[Tr.run]at h
 ·have ha:=hs.live rfl
  rcases gZ wX h with ⟨he,h⟩|⟨_,h⟩
  ·rw[he]at abs
   have Po:=ha
   simp only[R]at ha
   rcases ha with ⟨l',rfl,hl⟩|⟨_,rfl⟩
   ·exact ar hh hs (abs (fun _ h=>h) (aH.mono (aH.pure _) (fun _ h=>by simp at h)) rfl) h
   ·exact ar hh hs (abs (fun _ h=>h) (aH.mono (aH.pure _) (fun _ h=>by simp at h)) rfl) h
  ·simp[Tr.run]at h
 ·-- a slice by value,of known room
  rename_i t' l c b _
  have ha:=hs.live rfl
  have Po:=ha
  simp only[R]at ha
  rcases gZ wX h with ⟨he,h⟩|⟨he,h⟩
  ·rw[he]at abs
   rcases ha with ⟨_,l',rfl,hl⟩|⟨_,u0,rfl|rfl⟩
   ·exact ar hh (v:=.jT t' l) (a:=.sl l') (.inr (by simp only[R]; exact .inl ⟨l',rfl,hl⟩)) (abs (fun _ h=>h) (aH.mono (aH.pure _) (fun _ h=>by simp at h)) rfl) h
   ·exact ar hh (v:=.jT t' l) (a:=.sl []) (.inr (by simp only[R]; exact .inl ⟨[],rfl,by rw[u0]; trivial⟩)) (abs (fun _ h=>h) (aH.mono (aH.pure _) (fun _ h=>by simp at h)) rfl) h
   ·exact ar hh (v:=.jT t' l) (a:=.lit cX) (.inr (by simp only[R]; exact .inr ⟨u0,trivial⟩)) (abs (fun _ h=>h) (aH.mono (aH.pure _) (fun _ h=>by simp at h)) rfl) h
  ·rw[he]at abs
   obtain⟨hg,h⟩:=ba h
   simp only[se,Bool.and_eq_true,decide_eq_true_eq]at hg
   obtain⟨⟨hb,hc⟩,rP,jg⟩:=hg
   split at h
   case h_2=>simp[Tr.run]at h
   rename_i o' T2 xQ
   simp only[Bool.and_eq_true,decide_eq_true_eq]at T2
   rcases ha with ⟨_,l',rfl,hl⟩|⟨pH,_⟩
   ·have hlen:=hl.length
    have dV:RO T H (.cj true false 0 t' l) (.arr true true false l'):=⟨l',rfl,hl⟩
    obtain⟨a1,a2,a3⟩:=vT hT dV wX xQ
    have TZ:yc=true:=by
     cases y with
     |mv VD cl=>
      obtain⟨_,mT,_⟩:=wX
      cases yc with
      |true=>rfl
      |false=>rw[show cl=false from by simpa using mT.symm]at xQ; simp[qw]at xQ
     |zU _ _=>exact wX.2
    subst TZ
    have aX:=ti hT (agg:=q.isAgg) (size:=q.size) (by rw[eC]; exact T2.1) (by rw[hX]; exact T2.2) hl
    refine e9 hh hn a3 (v:=.bu m.size nm 0 none none) (a:=.bu q.size nm (l'.length+ys.length) 0 (l'.length+ys.length) none) ?_ (abs (fun _ h=>h) (aH.mono (aH.pure _) (fun _ h=>by simp at h)) ?_) h
    ·right
     simp only[R]
     have hv:=fb hh hn (o:=o')
     rw[a1,a2,gi]at hv
     simp only[aE.len,hlen]at hv
     exact⟨_,hv,by rw[hX]⟩
    ·simp only
     rw[if_pos ⟨by rw[←hlen,←gi]; exact hc,by rw[←hlen,←gi,G9]; exact rP,by rw[←hlen,←gi]; exact jg,aX⟩]
     rfl
   ·rw[hb]at pH; simp at pH
 ·rename_i esz n c rg cap _
  have ha:=hs.live rfl
  split at h
  case h_2=>simp[Tr.run]at h
  rename_i o ho
  obtain⟨ao,dr,dV⟩:=hh.obj ho
  split at h
  case h_2=>simp[Tr.run]at h
  rename_i hc
  simp only[Bool.and_eq_true,Bool.not_eq_true',decide_eq_true_eq]at hc
  simp only[R]at ha
  obtain⟨aq,hv,ha⟩:=ha
  have cq:=hv.arr hh ho hc.1.1
  split at h
  ·-- the whole of a growing array
   simp only at ha
   subst ha
   split at h
   ·rename_i cl0
    have:ys=[]:=by
     have:=gi
     cases ys with
     |nil=>rfl
     |cons=>simp[Src.len]at this
    subst this
    simp only[List.isEmpty_nil]at abs
    exact ar hh hs (abs (fun _ h=>h) (aH.mono (aH.pure _) (fun _ h=>by simp at h)) rfl) h
   ·rename_i dE
    split at h
    case h_2=>simp[Tr.run]at h
    rename_i o' P0 xQ
    obtain⟨hg,h⟩:=ba h
    simp only[se,Bool.and_eq_true,decide_eq_true_eq]at hg
    have hj:=y4 xQ
    obtain⟨es,rfl,xg⟩:=dV.D0 hj
    obtain⟨a1,a2,a3⟩:=vT hT dV wX xQ
    rw[P0]at dr
    cases he:ys.isEmpty with
    |true=>
     rw[he]at abs
     have T3:ys=[]:=by simpa using he
     subst T3
     have TZ:yc=true:=by
      cases y with
      |mv l cl=>
       exfalso
       have:=gi
       simp only[Src.len,List.length_nil]at this
       have u0:l=[]:=by simpa using this
       subst u0
       exact dE _ rfl
      |zU t l=>exact wX.2
     subst TZ
     simp only[Bool.and_true,List.append_nil]at a3
     obtain⟨PZ,OU⟩:=hh.Sz ho (o':=o') (by omega) (fun e=>by omega) a3
     rw[iy dr]at OU
     have bE:=(List.getElem?_eq_some_iff.1 ho).1
     have e1:bh H [(n,o')]=H.set n (some o'):=by simp[bh,bQ]; omega
     refine⟨_,_,_,⟨.bu esz n aq 0 aq none,[]⟩,abs (fun _ h=>List.mem_cons_of_mem _ h) (aH.mono (aH.pure _) (fun _ h=>by simp at h)) rfl,⟨?_,by rw[e1]; exact OU,by rw[e1]; exact PZ,fun q h=>by simp at h,fun k hk hl=>?_,by rw[e1]; simp,fun k hk Jp=>by
      simp at Jp
      subst Jp
      simp only[recAt,ho,oh hj,Bool.false_eq_true]at hk⟩,h⟩
     ·rw[e1]
      right
      simp only[R]
      refine⟨aq,⟨o',by rw[List.getElem?_set_self bE],by omega,fun _=>?_⟩,rfl⟩
      rw[a2,cq,gi]; rfl
     ·rw[e1]; simp at hk; rw[List.getElem?_set_ne (Ne.symm hk)]
    |false=>
     rw[he]at abs
     have QB:0<ys.length:=by cases ys with
      |nil=>simp at he
      |cons=>simp
     refine kq hh ho (o':=o') (by omega) (fun e=>by omega) a3 (v:=.bu esz n (o.cur+1) none none) (a:=.bu esz n (aq+ys.length) 0 (aq+ys.length) none) ?_
      (abs (fun _ h=>List.mem_cons_of_mem _ h) (rd2:=n::rd) (aH.mono (aH.bind (aH.arr dr (by omega)) (rd':=[]) (b:=(⟨.bu esz n (aq+ys.length) 0 (aq+ys.length) none,[(n,.arr true (o.flags.2.1&&yc) o.flags.2.2 (es++ys))]⟩:dK)) ?_) (fun k hk=>by simp at hk; simp[hk])) rfl) h (oh hj)
     ·right
      simp only[R]
      have bE:=(List.getElem?_eq_some_iff.1 ho).1
      refine⟨_,⟨o',by rw[List.getElem?_set_self bE],by omega,fun _=>?_⟩,rfl⟩
      rw[a2,cq,gi]
     ·simp only
      rw[if_neg (by rw[hc.1.2]; simp only[Bool.false_eq_true,false_or,not_or]; exact⟨by omega,by rw[hX]; simp[hc.2]⟩),if_neg (by simp only[Option.getD_none]; omega),
       if_pos ⟨by rw[cq,←gi,G9]; exact hg.1,by rw[cq,←gi]; exact hg.2⟩]
      simp only[and_self,if_true]
      exact aH.pure _
  ·-- of an array of fixed room
   rename_i k
   simp only at ha
   subst ha
   rcases gZ wX h with ⟨he,h⟩|⟨he,h⟩
   ·rw[he]at abs
    exact ar hh hs (abs (fun _ h=>h) (aH.mono (aH.pure _) (fun _ h=>by simp at h)) rfl) h
   ·rw[he]at abs
    rcases fQ h with ⟨_,h⟩|⟨hk,h⟩
    ·simp[Tr.run]at h
    simp only[decide_eq_false_iff_not]at hk
    split at h
    case h_2=>simp[Tr.run]at h
    rename_i o' hoa xQ
    obtain⟨hg,h⟩:=ba h
    simp only[se,Bool.and_eq_true,decide_eq_true_eq]at hg
    have hj:=y4 xQ
    obtain⟨es,rfl,xg⟩:=dV.D0 hj
    obtain⟨a1,a2,a3⟩:=vT hT dV wX xQ
    rw[hc.1.2]at a3
    refine e9 hh hn a3 (v:=.bu esz nm 0 none none) (a:=.bu esz nm (aq+ys.length) 0 (aq+ys.length) none) ?_
     (abs (fun _ h=>List.mem_cons_of_mem _ h) (rd2:=n::rd) (aH.mono (aH.bind (aH.arr dr (by omega)) (rd':=[]) (b:=(⟨.bu esz nm (aq+ys.length) 0 (aq+ys.length) none,[(nm,.arr true (o.flags.2.1&&yc) false (es++ys))]⟩:dK)) ?_) (fun k hk=>by simp at hk; simp[hk])) rfl) h
    ·right
     simp only[R]
     have hv:=fb hh hn (o:=o')
     rw[a1,a2,gi,←cq]at hv
     exact⟨_,hv,rfl⟩
    ·simp only
     rw[if_neg (by rw[hc.1.2]; simp only[Bool.false_eq_true,false_or,not_or]; exact⟨by omega,by rw[hX]; simp[hc.2]⟩),if_neg (by simp only[Option.getD_some]; omega),
      if_pos ⟨by rw[cq,←gi,G9]; exact hg.1,by rw[cq,←gi]; exact hg.2⟩]
     rw[if_pos (LW hT dV eC hX hoa)]
     simp only[List.drop_zero]
     rw[List.take_of_length_le (by omega)]
     exact aH.pure _
  ·-- into the room that there is
   rename_i k off len _
   simp only at ha
   subst ha
   split at h
   case h_2=>simp[Tr.run]at h
   rename_i o' D3
   obtain⟨hg,h⟩:=ba h
   simp only[Bool.and_eq_true,decide_eq_true_eq]at hg
   obtain⟨hj,a1,a2,es,e0,a3⟩:=vU hT dV wX (by omega) D3
   obtain⟨es',e1,xg⟩:=dV.D0 hj
   rw[e1]at e0
   simp only[aP.arr.injEq,true_and]at e0
   subst e0
   subst e1
   cases he:ys.isEmpty with
   |true=>
    rw[he]at abs
    have T3:ys=[]:=by simpa using he
    subst T3
    obtain rfl:=A1 wX D3
    simp only[Bool.and_true,bA]at a3
    refine y5 hh ho (by omega) (fun _=>a2) dr a3 (v:=.bu esz n c (some (off,len+y.len)) (some k)) (a:=.bu esz n aq off len (some k)) ?_
     (abs (fun _ h=>List.mem_cons_of_mem _ h) (aH.mono (aH.pure _) (fun _ h=>by simp at h)) rfl) h hj
    right
    simp only[R]
    have bE:=(List.getElem?_eq_some_iff.1 ho).1
    refine⟨aq,⟨o',by rw[List.getElem?_set_self bE],by rw[a1]; exact Nat.le_of_eq (Nat.eq_of_beq_eq_true hc.1.1),fun _=>by rw[a2,cq]⟩,by rw[gi]; rfl⟩
   |false=>
    rw[he]at abs
    refine kq hh ho (o':=o') (by omega) (fun _=>a2) a3 (v:=.bu esz n c (some (off,len+y.len)) (some k)) (a:=.bu esz n aq off (len+ys.length) (some k)) ?_
     (abs (fun _ h=>List.mem_cons_of_mem _ h) (rd2:=n::rd) (aH.mono (aH.bind (aH.arr dr (by omega)) (rd':=[]) (b:=(⟨.bu esz n aq off (len+ys.length) (some k),[(n,.arr o.flags.1 (o.flags.2.1&&yc) o.flags.2.2 (bA es' (off+len) ys))]⟩:dK)) ?_) (fun k hk=>by simp at hk; simp[hk])) rfl) h (oh hj)
    ·right
     simp only[R]
     have bE:=(List.getElem?_eq_some_iff.1 ho).1
     refine⟨aq,⟨o',by rw[List.getElem?_set_self bE],by rw[a1]; exact Nat.le_of_eq (Nat.eq_of_beq_eq_true hc.1.1),fun _=>by rw[a2,cq]⟩,by rw[gi]⟩
    ·simp only
     rw[if_neg (by rw[hc.1.2]; simp only[Bool.false_eq_true,false_or,not_or]; exact⟨by omega,by rw[hX]; simp[hc.2]⟩),if_pos (by simp only[Option.getD_some]; omega),if_pos (by omega)]
     exact aH.pure _
  ·simp[Tr.run]at h
 ·simp[Tr.run]at h
def y6(q:bN)(d:AV)(ys:List AV)(yc:Bool):RM dK:=
 match decide (0<q.size)&&ys.all (aJ q.isAgg q.size) with
  |false=>RM.fail
  |true=>
   match d with
   |.bu esz n aq off len _=>(match (ys.take len).isEmpty with
    |true=>pure ⟨.lit (.int .i64 0),[]⟩
    |false=>do
     let (g,c,f,es) ←RM.arr n aq
     if esz=q.size∧f=false∧off+len≤es.length∧0<aq then
      pure ⟨.lit (.int .i64 (ys.take len).length),[(n,.arr g (c&&yc) f (bA es off (ys.take len)))]⟩
     else RM.fail)
   |.lit (.slice none 0 0)=>pure ⟨.lit (.int .i64 0),[]⟩
   |_=>RM.fail
theorem LX{P:Program}{t:TypeId}{q:bN}(h:aR P t=some q)(a b:AV):xI P t a b=(gl b >>= fun p=>y6 q a p.1 p.2):=by
 unfold xI
 rw[h]
 rfl
theorem LY[ae](hT:T.Ok)(hQ:Q.Ok)(hh:RH T H hp){t:TypeId}{d x:SV T.den}{a b:AV}(hd:RV T H d a)(hx:RV T H x b)
  (h:(LB Q H t d x K).run=some r):jN T H hp (xI Q.P t a b) K r:=by
 unfold LB at h
 split at h
 case h_2=>simp[Tr.run]at h
 rename_i m hm hs
 have hs:=hQ.ON hs
 obtain⟨q,gR,eC,hX,G9,Jx⟩:=hQ.elem hm
 obtain⟨y,rd,ys,yc,yZ,wX,h⟩:=Hz hQ hh (q:=q) hx h
 have yZ:aH hp (gl b) (ys,yc) rd:=by
  simp_all[xb]
 split at h
 case h_2=>simp[Tr.run]at h
 rename_i esz n c rg cap bM _
 simp only[Bool.and_eq_true,decide_eq_true_eq]at bM
 split at h
 case h_2=>simp[Tr.run]at h
 rename_i off len o hr ho
 split at h
 case h_2=>simp[Tr.run]at h
 rename_i o' hc D3
 simp only[Bool.and_eq_true,Bool.not_eq_true',decide_eq_true_eq]at hc
 have ha:=hd.live rfl
 obtain⟨aq,rfl,hv,cq⟩:=rE hh ha hr ho
 have cq:=cq hc.1.1
 obtain⟨ao,dr,dV⟩:=hh.obj ho
 have gi:=wX.len
 have aX:=wX.yH hT eC hX bM.1
 have me:(decide (0<q.size)&&ys.all (aJ q.isAgg q.size))=true:=by
  rw[aX,hX]; simpa using bM.2
 have abs:∀ {rest:RM dK} {e:dK} {rd2:List Nat},(∀ n,n∈rd→n∈rd2)→aH hp rest e rd2 →
   y6 q (.bu esz n aq off len cap) ys yc=rest→aH hp (xI Q.P t (.bu esz n aq off len cap) b) e rd2:=by
  intro rest e rd2 h1 h2 h3
  rw[LX gR]
  refine⟨?_,fun k hk=>?_⟩
  ·rw[RM.run_bind,yZ.1]
   simp only[Option.bind_some]
   rw[h3]
   exact h2.1
  ·rw[RM.eV,yZ.1]at hk
   simp only[List.mem_append]at hk
   rw[h3]at hk
   exact hk.elim (fun h=>h1 k (yZ.2 k h)) (h2.2 k)
 unfold y6 at abs
 rw[me]at abs
 obtain⟨hg,h⟩:=ba h
 simp only[Bool.and_eq_true,decide_eq_true_eq]at hg
 cases he:ys.isEmpty with
 |true=>
  have T3:ys=[]:=by simpa using he
  subst T3
  obtain⟨hj,a1,a2,es,e0,a3⟩:=vU hT dV wX (by omega) D3
  obtain⟨es',e1,xg⟩:=dV.D0 hj
  rw[e1]at e0
  simp only[aP.arr.injEq,true_and]at e0
  subst e0
  subst e1
  obtain rfl:=A1 wX D3
  simp only[Bool.and_true,bA]at a3
  have Zy:y.len=0:=by rw[gi]; rfl
  rw[Zy]at h
  exact y5 hh ho (by omega) (fun _=>a2) dr a3 (bp (.int .i64 0)) (abs (fun _ h=>List.mem_cons_of_mem _ h) (aH.mono (aH.pure _) (fun _ h=>by simp at h)) (by simp only[List.take_nil,List.isEmpty_nil])) h hj
 |false=>
  have QB:0<ys.length:=by cases ys with
   |nil=>simp at he
   |cons=>simp
  have Zz:ys.take len=ys:=List.take_of_length_le (by omega)
  obtain⟨hj,a1,a2,es,e0,a3⟩:=vU hT dV wX (by omega) D3
  obtain⟨es',e1,xg⟩:=dV.D0 hj
  rw[e1]at e0
  simp only[aP.arr.injEq,true_and]at e0
  subst e0
  subst e1
  have heq:∀ (f t:RM dK),(match (ys.take len).isEmpty with|true=>t|false=>f)=f:=by
   intro f t
   rw[Zz,he]
  refine kq hh ho (o':=o') (by omega) (fun _=>a2) a3 (v:=.lit (.int .i64 y.len)) (a:=.lit (.int .i64 y.len)) (bp _)
   (abs (fun _ h=>List.mem_cons_of_mem _ h) (rd2:=n::rd) (aH.mono (aH.bind (aH.arr dr (by omega)) (rd':=[]) (b:=(⟨.lit (.int .i64 y.len),[(n,.arr o.flags.1 (o.flags.2.1&&yc) o.flags.2.2 (bA es' off ys))]⟩:dK)) ?_) (fun k hk=>by simp at hk; simp[hk])) (heq _ _)) h (oh hj)
  simp only
  rw[if_pos ⟨by rw[hX]; exact hc.2,hc.1.2,by omega,by omega⟩,gi,Zz]
  exact aH.pure _
theorem OV[ae](hQ:Q.Ok)(hh:RH T H hp){ts:Array TypeId}{type:TypeId}{x:SV T.den}{a:AV}(hx:RV T H x a)(h:(Rk Q H ts type x K).run=some r){nm:Nat}:
  jN T H hp (dF Q.P nm .len ts type [a]) K r:=by
 unfold Rk at h
 unfold dF
 simp only
 split at h
 case h_2=>simp[Tr.run]at h
 rename_i t ht
 rw[ht]
 simp only
 split at h
 ·rename_i hs
  have hs:=hQ.ON hs
  split at h
  ·have ha:=hx.lit rfl
   subst ha
   refine ar hh (bp (.int .i64 0)) (rd:=[]) ?_ h
   simp only[hs,ou]
   exact aH.pure _
  ·have ha:=hx.live rfl
   simp only[R]at ha
   subst ha
   refine ar hh (bp (.int .i64 0)) (rd:=[]) ?_ h
   simp only[hs,ou]
   exact aH.pure _
  ·have ha:=hx.live rfl
   simp only[R]at ha
   obtain⟨l',rfl,hl,_⟩:=ha
   refine ar hh (a:=.lit (.int .i64 l'.length)) (by rw[hl.length]; exact bp _) (rd:=[]) ?_ h
   simp only[hs,ou]
   exact aH.pure _
  ·rename_i t' l
   have ha:=hx.live rfl
   simp only[R]at ha
   rcases ha with ⟨l',rfl,hl⟩|⟨rfl,rfl⟩
   ·refine ar hh (a:=.lit (.int .i64 l'.length)) (by rw[hl.length]; exact bp _) (rd:=[]) ?_ h
    simp only[hs,ou]
    exact aH.pure _
   ·refine ar hh (bp (.int .i64 0)) (rd:=[]) ?_ h
    simp only[hs,ou]
    exact aH.pure _
  ·rename_i t' l c b
   have ha:=hx.live rfl
   simp only[R]at ha
   rcases ha with ⟨_,l',rfl,hl⟩|⟨_,rfl,rfl|rfl⟩
   ·refine ar hh (a:=.lit (.int .i64 l'.length)) (by rw[hl.length]; exact bp _) (rd:=[]) ?_ h
    simp only[hs,ou]
    exact aH.pure _
   ·refine ar hh (bp (.int .i64 0)) (rd:=[]) ?_ h
    simp only[hs,ou]
    exact aH.pure _
   ·refine ar hh (bp (.int .i64 0)) (rd:=[]) ?_ h
    simp only[hs,ou]
    exact aH.pure _
  ·rename_i esz n c rg cap
   have ha:=hx.live rfl
   split at h
   case h_2=>simp[Tr.run]at h
   rename_i off len hr
   have:∃ o,H[n]?=some (some o):=by
    simp only[R]at ha
    obtain⟨_,⟨o,ho,_⟩,_⟩:=ha
    exact⟨o,ho⟩
   obtain⟨o,ho⟩:=this
   obtain⟨aq,rfl,_,_⟩:=rE hh ha hr ho
   refine ar hh (bp (.int .i64 len)) (rd:=[]) ?_ h
   simp only[hs,ou]
   exact aH.pure _
  ·rename_i n c k j len cap
   have ha:=hx.live rfl
   simp only[R]at ha
   obtain⟨aq,rfl,_⟩:=ha
   refine ar hh (bp (.int .i64 len)) (rd:=[]) ?_ h
   simp only[hs,ou]
   exact aH.pure _
  ·simp[Tr.run]at h
 ·simp[Tr.run]at h
 ·rename_i hs
  have hs:=hQ.ON hs
  split at h
  ·simp[Tr.run]at h
  ·rename_i v hv
   have ha:=hx.lit rfl
   subst ha
   obtain⟨w,hw,hk⟩:=iD h
   refine ar hh (bp w) (rd:=[]) ?_ hk
   split
   ·rename_i heq; injection heq with e; exact(hv e).elim
   ·rename_i heq; cases heq
   ·rename_i heq; cases heq
   ·rename_i heq; cases heq
   ·rename_i heq; cases heq
   ·rename_i heq; cases heq
   ·rename_i heq; injection heq with e; subst e; rw[hw]; exact aH.pure _
   ·rename_i h; exact(h v rfl).elim
  ·rename_i l
   have ha:=hx.live rfl
   simp only[R]at ha
   obtain⟨l',rfl,hl⟩:=ha
   split at h
   case h_2=>simp[Tr.run]at h
   rename_i n m hm
   obtain⟨q,gR,_⟩:=hQ.D1 hm
   refine ar hh (bp (.int .i64 n)) (rd:=[]) ?_ h
   simp only[gR]
   exact aH.pure _
  ·have ha:=hx.live rfl
   simp only[R]at ha
   obtain⟨aq,rfl,hl⟩:=ha
   split at h
   case h_2=>simp[Tr.run]at h
   rename_i n m hm
   obtain⟨q,gR,_⟩:=hQ.D1 hm
   refine ar hh (bp (.int .i64 n)) (rd:=[]) ?_ h
   simp only[gR]
   exact aH.pure _
  ·have ha:=hx.live rfl
   simp only[R]at ha
   obtain⟨aq,rfl,hl⟩:=ha
   split at h
   case h_2=>simp[Tr.run]at h
   rename_i n m hm
   obtain⟨q,gR,_⟩:=hQ.D1 hm
   refine ar hh (bp (.int .i64 n)) (rd:=[]) ?_ h
   simp only[gR]
   exact aH.pure _
  ·simp[Tr.run]at h
theorem HA[ae]{l:List (SV T.den)}{m:List AV}(hv:ay (RV T H) l m){c:List Value}(hc:nd l=some c):dh m=some c:=by
 revert c
 induction l generalizing m with
 |nil=>
  intro c hc
  cases m with
  |nil=>simp[nd]at hc; subst hc; rfl
  |cons=>exact hv.elim
 |cons x xs ih=>
  intro c hc
  cases m with
  |nil=>exact hv.elim
  |cons a as=>
   cases x with
   |lit v=>
    simp only[nd,Option.map_eq_some_iff]at hc
    obtain⟨c',h1,rfl⟩:=hc
    have:=RV.lit hv.1 rfl
    subst this
    simp[dh,ih hv.2 h1]
   |_=>simp[nd]at hc
theorem D4[ae](hT:T.Ok)(hQ:Q.Ok)(hh:RH T H hp){nm:Nat}(hn:nm=H.length∨H[nm]?=some none){b:Builtin}{ts:Array TypeId}{type:TypeId}{args:List (SV T.den)}{as:List AV}
  (ha:ay (RV T H) args as) (h:(yJ Q nm H b ts type args K).run=some r):jN T H hp (dF Q.P nm b ts type as) K r:=by
 unfold yJ at h
 split at h
 ·split at h
  ·rename_i t xt s x ht
   match as,ha with
   |[a,b],ha=>
    simp only[dF,ht]
    exact Ga hT hQ hh hn ha.1 ha.2.1 h
  ·simp[Tr.run]at h
 ·split at h
  ·rename_i t _ d x ht
   match as,ha with
   |[a,b],ha=>
    simp only[dF,ht]
    exact LY hT hQ hh ha.1 ha.2.1 h
  ·simp[Tr.run]at h
 ·split at h
  ·rename_i x
   match as,ha with
   |[a],ha=>exact OV hQ hh ha.1 h
  ·simp[Tr.run]at h
 ·split at h
  ·rename_i vs mK
   obtain⟨w,hw,hk⟩:=iD h
   refine ar hh (bp w) (rd:=[]) ?_ hk
   simp only[dF,HA ha mK,hw]
   exact aH.pure _
  ·simp[Tr.run]at h
 ·split at h
  ·rename_i vs mK
   obtain⟨w,hw,hk⟩:=iD h
   refine ar hh (bp w) (rd:=[]) ?_ hk
   simp only[dF,HA ha mK,hw]
   exact aH.pure _
  ·simp[Tr.run]at h
 ·simp[Tr.run]at h
end
end Go.PI
end
section
/- PS, part Ia: maps. -/
namespace Go.PI
variable {T:dP}{ρ:Type}
theorem B8(kk:KK)(a b:kk.D):rV (kk.v a) (kk.v b)=kk.beq a b:=by cases kk<;>rfl
theorem LZ{kk:KK}{v:Value}{k:kk.D}(h:kk.get v=some k):v=kk.v k∧kk.ok v=true:=by
 cases kk with
 |int q=>
  cases v<;>simp[KK.get]at h
  obtain⟨rfl,h⟩:=h
  cases h
  exact⟨rfl,by simp[KK.ok]⟩
 |str=>
  cases v<;>simp[KK.get]at h
  cases h
  exact⟨rfl,rfl⟩
 |bool=>
  cases v<;>simp[KK.get]at h
  cases h
  exact⟨rfl,rfl⟩
theorem vV{kk:KK}{α:Type}{k:kk.D}:∀ {m:List (kk.D×α)} {i:Nat},lh kk m k=none→jW (kk.v k) (m.map fun q=>kk.v q.1) i=none
 |[],i,_=>rfl
 |(k',v)::m,i,h=>by
  simp only[lh]at h
  cases hb:kk.beq k k' with
  |true=>rw[hb]at h; simp at h
  |false=>
   rw[hb]at h
   simp only[List.map_cons,jW,B8,hb,cond_false]
   exact vV h
theorem vW{kk:KK}{α:Type}{k:kk.D}{x:α}:∀ {m:List (kk.D×α)} {i:Nat},lh kk m k=some x→∃ j,jW (kk.v k) (m.map fun q=>kk.v q.1) i=some (i+j)∧(m.map (·.2))[j]?=some x ∧
  ∀ y,(nA kk m k y).map (fun q=>kk.v q.1)=m.map (fun q=>kk.v q.1)∧(nA kk m k y).map (·.2)=(m.map (·.2)).set j y
 |[],i,h=>by simp[lh]at h
 |(k',v)::m,i,h=>by
  simp only[lh]at h
  cases hb:kk.beq k k' with
  |true=>
   simp_all[cond_true,jW,B8,hb,nA]
  |false=>
   rw[hb]at h
   obtain⟨j,h1,h2,h3⟩:=vW (i:=i+1) h
   refine⟨j+1,?_,by simpa using h2,fun y=>?_⟩
   ·simp only[List.map_cons,jW,B8,hb,cond_false,h1]
    congr 1; omega
   ·obtain⟨h4,h5⟩:=h3 y
    simp[nA,hb,h4,h5]
theorem D5{kk:KK}{α:Type}{k:kk.D}{y:α}:∀ {m:List (kk.D×α)},lh kk m k=none→nA kk m k y=m++[(k,y)]
 |[],_=>rfl
 |(k',v)::m,h=>by
  simp only[lh]at h
  cases hb:kk.beq k k' with
  |true=>rw[hb]at h; simp at h
  |false=>
   rw[hb]at h
   simp only[nA,hb,cond_false,List.cons_append]
   rw[D5 h]
section
variable {H:ai T.den}{hp:ag}{K:EK T ρ}{r:ρ}{Q:ik}
theorem B9{c:Bool}{v:SV T.den}{a:AV}{b:Bool}(h:R T H v a):R T H (BZ c v b) (xK c a b):=by
 cases c with
 |false=>exact h
 |true=>
  simp only[BZ,xK,R]
  exact⟨_,rfl,h,rfl,trivial⟩
theorem Gb[ae](hT:T.Ok)(hQ:Q.Ok)(hZ:T.uC Q)(hh:RH T H hp){t:TypeId}{x ix:SV T.den}{a b:AV}(hx:RV T H x a)(hi:RV T H ix b){c:Bool}(h:(B0 Q H t x ix c K).run=some r):
  jN T H hp (tD Q.P t a b c) K r:=by
 unfold B0 at h
 split at h
 case h_2=>simp[Tr.run]at h
 rename_i kk et xq
 have Ki:=hQ.map _ _ xq
 split at h
 case h_2=>simp[Tr.run]at h
 rename_i za z k Ry hz
 obtain⟨m,hm,ZA⟩:=Option.bind_eq_some_iff.1 Ry
 obtain⟨q,gR,_,_,_,Jx⟩:=hQ.row _ _ hm
 have oB:=Jx _ ZA
 have EU:=hZ et m z za hm ZA hz
 have hi:=hi.lit rfl
 subst hi
 have Rx:(fH Q.P et).bind cC=some za:=by rw[gR]; exact oB
 unfold tD
 simp only[Ki,Rx]
 split at h
 ·rename_i k' hk
  obtain⟨rfl,bM⟩:=LZ hk
  have hx:=hx.lit rfl
  subst hx
  simp only[bM]
  exact ar hh (.inr (B9 (hT.up _ _ _ H EU))) (aH.pure _) h
 ·rename_i k' n hk
  obtain⟨rfl,bM⟩:=LZ hk
  have hx:=hx.live rfl
  simp only[R]at hx
  obtain⟨rfl,_⟩:=hx
  split at h
  case h_2=>simp[Tr.run]at h
  rename_i rK t' mp ho
  split at h
  case isFalse=>simp[Tr.run]at h
  rename_i hc
  obtain⟨rfl,rfl⟩:=hc
  simp only[uv]at h
  obtain⟨ao,dr,dV⟩:=hh.obj ho
  obtain⟨vs,rfl,mK⟩:=dV
  simp only[bM]
  cases hg:lh rK mp k' with
  |none=>
   rw[hg]at h
   simp only[Option.getD_none,Option.isSome_none]at h
   refine ar hh (.inr (B9 (hT.up _ _ _ H EU))) (rd:=[n]) (aH.get dr ?_) h
   simp only[if_true,vV hg]
   exact aH.pure _
  |some y=>
   rw[hg]at h
   simp only[Option.getD_some,Option.isSome_some]at h
   obtain⟨j,h1,h2,_⟩:=vW (i:=0) hg
   obtain⟨v,hv,hr⟩:=ay.get mK h2
   refine ar hh (.inr (B9 (hT.up _ _ _ H hr))) (rd:=[n]) (aH.get dr ?_) h
   simp only[if_true,h1,Nat.zero_add,hv]
   exact aH.pure _
 ·simp[Tr.run]at h
theorem z2[ae](hT:T.Ok)(hQ:Q.Ok)(hh:RH T H hp){t:TypeId}{x ix v:SV T.den}{a b d:AV}(hx:RV T H x a)(hi:RV T H ix b)(hv:RV T H v d)(h:(sU Q H t x ix v K).run=some r):
  jN T H hp (lX Q.P t a b d) K r:=by
 unfold sU at h
 split at h
 case h_2=>simp[Tr.run]at h
 rename_i kk et xq
 have Ki:=hQ.map _ _ xq
 split at h
 case h_2=>simp[Tr.run]at h
 rename_i k n
 split at h
 case h_2=>simp[Tr.run]at h
 rename_i k' rK t' mp hk ho
 split at h
 case h_2=>simp[Tr.run]at h
 rename_i y hd hy
 split at h
 case isFalse=>simp[Tr.run]at h
 rename_i hc
 obtain⟨rfl,Pr⟩:=hc
 obtain⟨rfl,bM⟩:=LZ hk
 have hi:=hi.lit rfl
 subst hi
 have hx:=hx.live rfl
 simp only[R]at hx
 obtain⟨rfl,_⟩:=hx
 have EU:=hT.dn _ _ _ _ H hy (hv.live hd)
 obtain⟨ao,dr,dV⟩:=hh.obj ho
 obtain⟨vs,rfl,mK⟩:=dV
 unfold lX
 simp only[Ki,bM]
 simp only[uv]at h
 cases hg:lh rK mp k' with
 |none=>
  have e:=D5 (y:=y) hg
  refine kq hh ho (o':=.kO rK t' (nA rK mp k' y)) (Nat.le_refl _) (fun _=>rfl) (a':=.gI (.map rK ((mp.map fun q=>rK.v q.1)++[rK.v k'])) (vs++[d])) ?_ (bp undef) (rd:=[n]) (aH.get dr ?_) h
  ·rw[e]
   refine⟨vs++[d],by simp,?_⟩
   rw[List.map_append]
   exact mK.append (show ay (T.rp t') [y] [d] from ⟨EU,trivial⟩)
  ·simp only[if_true,vV hg]
   exact aH.pure _
 |some x0=>
  obtain⟨j,h1,h2,h3⟩:=vW (i:=0) hg
  obtain⟨h4,h5⟩:=h3 y
  refine kq hh ho (o':=.kO rK t' (nA rK mp k' y)) (Nat.le_refl _) (fun _=>rfl) (a':=.gI (.map rK (mp.map fun q=>rK.v q.1)) (vs.set j d)) ?_ (bp undef) (rd:=[n]) (aH.get dr ?_) h
  ·exact⟨_,by rw[h4],by rw[h5]; exact mK.set j EU⟩
  ·simp only[if_true,h1,Nat.zero_add]
   exact aH.pure _
theorem D6[ae](hQ:Q.Ok)(hh:RH T H hp){nm:Nat}(hn:nm=H.length∨H[nm]?=some none){t:TypeId}{x:Option (SV T.den)}{a:Option AV}(hx:LU T H x a)(h:(yK Q nm t x K).run=some r):
  jN T H hp (.iq (pL Q.P nm t a)) K r:=by
 unfold yK at h
 split at h
 case h_2=>simp[Tr.run]at h
 rename_i kk et xq
 have Ki:=hQ.map _ _ xq
 obtain⟨n,Tx,h⟩:=iE hx h
 refine e9 hh hn (o:=.kO kk et []) (a':=.gI (.map kk []) []) ⟨[],rfl,trivial⟩ (a:=.mp false nm) (rd:=[]) (.inr ?_) ?_ h
 ·simp only[R]
  refine⟨trivial,.kO kk et [],?_⟩
  unfold bQ
  rcases hn with rfl|hn
  ·simp
  ·have bE:=(List.getElem?_eq_some_iff.1 hn).1
   rw[if_neg (by omega),List.getElem?_set_self bE]
 ·simp only[pL,Ki,Tx]
  exact aH.iq rfl
end
end Go.PI
end
section
/- PS, part J: every operation. -/
namespace Go.PI
variable {T:dP}{ρ:Type}
section
variable {H:ai T.den}{hp:ag}{K:EK T ρ}{r:ρ}{Q:ik}
theorem jO{ev:Operand→SV T.den}{EV:Operand→AV}(bL:∀ x,RV T H (ev x) (EV x)):∀ (l:List Operand),ay (RV T H) (l.map ev) (l.map EV)
 |[]=>trivial
 |x::xs=>⟨bL x,jO bL xs⟩
theorem jo[ae]:∀ {l:List (SV T.den)} {m:List AV},ay (RV T H) l m→l.any bV=false→RL T H l m
 |[],[],_,_=>by simp[RL]
 |x::xs,y::ys,h,hd=>by
  simp only[List.any_cons,Bool.or_eq_false_iff]at hd
  simp only[RL]
  exact⟨h.1.live hd.1,jo h.2 hd.2⟩
theorem y7[ae]{ev:Operand→SV T.den}{EV:Operand→AV}(bL:∀ x,RV T H (ev x) (EV x)):∀ (l:List (Nat×Operand)),((l.map fun p=>(p.1,ev p.2)).any fun p=>bV p.2)=false →
  RP T H (l.map fun p=>(p.1,ev p.2)) (l.map fun p=>(p.1,EV p.2))
 |[],_=>trivial
 |x::xs,hd=>by
  simp only[List.map_cons,List.any_cons,Bool.or_eq_false_iff]at hd
  exact⟨⟨rfl,(bL _).live hd.1⟩,y7 bL xs hd.2⟩
theorem Gc[ae](hT:T.Ok)(hQ:Q.Ok)(hZ:T.uC Q)(hh:RH T H hp){nm:Nat}(hn:nm=H.length∨H[nm]?=some none){ev:Operand→SV T.den}{EV:Operand→AV}(bL:∀ x,RV T H (ev x) (EV x)){o:Oper}
  (h:(OE Q nm H ev o K).run=some r):jN T H hp (aO Q.P nm EV o) K r:=by
 obtain⟨dst,op,type,pos,after,guard⟩:=o
 unfold OE at h
 cases op with
 |move x=>exact ar hh (bL x) (aH.ret _) h
 |assign x=>exact ar hh (bL x) (aH.ret _) h
 |pick c a b=>
  simp only at h
  split at h
  ·rename_i t ht
   have hc:=(bL c).lit ht
   obtain⟨v,hv,hk⟩:=OS (bL a) (bL b) h
   refine ar hh hv (rd:=[]) ?_ hk
   simp only[aO,hc]
   exact aH.pure _
  ·simp[Tr.run]at h
 |alloc t=>
  simp only at h
  split at h
  case h_2=>simp[Tr.run]at h
  rename_i m hm
  split at h
  case h_2=>simp[Tr.run]at h
  rename_i z hz
  split at h
  case isFalse=>simp[Tr.run]at h
  rename_i hs
  exact IU hQ hh hn hm hz hs h
 |box t x=>
  simp only at h
  split at h
  case isFalse=>simp[Tr.run]at h
  rename_i hc
  have hv:=(bL x).live hc.2.2
  have mT:=hv.cells
  refine e9 hh hn (o:=.arr false (aw (bP (ev x))) false 0 [ev x]) (a':=.arr false (bc (cellsOf (EV x))) false [EV x]) ⟨_,by rw[RL.closed mT],by simp only[RL]; exact⟨hv,trivial⟩,fun nJ=>by rw[zV]at nJ; simp only[aw,nJ,Bool.and_self]⟩
   (a:=.ref nm 1 0 0) (rd:=[]) ?_ ?_ h
  ·right
   simp only[R]
   exact⟨1,rfl,fb hh hn (o:=.arr false (aw (bP (ev x))) false 0 [ev x])⟩
  ·simp only[aO]
   rw[if_pos ⟨by rw[←mT.DN]; exact hc.1,by rw[←mT.length]; exact hc.2.1⟩]
   exact aH.pure _
 |build t parts=>
  simp only at h
  split at h
  ·simp[Tr.run]at h
  rename_i hd
  simp only[Bool.not_eq_true]at hd
  obtain⟨v,hv,hk⟩:=mE h
  obtain⟨a,ha,hr⟩:=IT hQ (y7 bL _ hd) hv
  refine ar hh (.inr hr) (rd:=[]) ?_ hk
  simp only[aO,ha]
  exact aH.pure _
 |buildSlice t len parts=>
  simp only at h
  split at h
  ·simp[Tr.run]at h
  rename_i hd
  simp only[Bool.not_eq_true]at hd
  exact yX hQ hh hn (y7 bL _ hd) h
 |load t a=>
  simp only at h
  split at h
  case h_2=>simp[Tr.run]at h
  rename_i m hm
  obtain⟨q,h1,h2,h3,_⟩:=hQ.row _ _ hm
  have:∃ v c rd,aH hp (ll Q.P t (EV a)) c rd∧R T H v c∧(K v [] rd).run=some r:=DZ hT h1 h2 h3 hh (bL a) h
  obtain⟨v,c,rd,hy,hr,hk⟩:=this
  refine ar hh (.inr hr) (rd:=rd) ?_ hk
  simp only[aO]
  exact aH.mono (aH.bind hy (aH.pure _)) (fun _ h=>by simpa using h)
 |store t a x=>
  simp only at h
  split at h
  case h_2=>simp[Tr.run]at h
  rename_i m hm
  obtain⟨q,h1,h2,h3,_⟩:=hQ.row _ _ hm
  exact IP hT h1 h3 hh (bL a) (bL x) h
 |nilCheck x=>
  simp only at h
  have hx:=bL x
  split at h
  ·rename_i n c i j he
   rw[he]at hx
   have gK:=hx.live rfl
   simp only[R]at gK
   obtain⟨aq,e,hv⟩:=gK
   refine ar hh (a:=.ref n aq i j) (.inr (by simp only[R]; exact⟨aq,rfl,hv⟩)) (rd:=[]) ?_ h
   simp only[aO,e]; exact aH.pure _
  ·rename_i e0 j he
   rw[he]at hx
   have gK:=hx.live rfl
   have ld:=gK
   simp only[R]at gK
   obtain⟨e',e,hv⟩:=gK
   refine ar hh (a:=.bk e' j) (.inr (by rw[←e]; exact ld)) (rd:=[]) ?_ h
   simp only[aO,e]; exact aH.pure _
  ·rename_i t y he
   rw[he]at hx
   have gK:=hx.live rfl
   have ld:=gK
   simp only[R]at gK
   obtain⟨e',e,hv⟩:=gK
   refine ar hh (a:=.gH t e') (.inr (by rw[←e]; exact ld)) (rd:=[]) ?_ h
   simp only[aO,e]; exact aH.pure _
  ·rename_i f a c he
   rw[he]at hx
   have gK:=hx.live rfl
   have ld:=gK
   simp only[R]at gK
   obtain⟨f',c',e,hv⟩:=gK
   refine ar hh (a:=.ju (.func f) f' c') (.inr (by rw[←e]; exact ld)) (rd:=[]) ?_ h
   simp only[aO,e]; exact aH.pure _
  ·rename_i f a c he
   have e:=hx.lit he
   refine ar hh (bp (.func (.func f) a c)) (rd:=[]) ?_ h
   simp only[aO,e]; exact aH.pure _
  ·simp[Tr.run]at h
 |binOp op t x y u=>
  simp only at h
  obtain⟨v,hv,hk⟩:=OQ hQ (bL x) (bL y) h
  refine ar hh (bp v) (rd:=[]) ?_ hk
  simp only[aO,hv]
  exact aH.pure _
 |unOp op t x=>
  simp only at h
  split at h
  ·rename_i a ha
   have hx:=(bL x).lit ha
   obtain⟨v,hv,hk⟩:=iD h
   refine ar hh (bp v) (rd:=[]) ?_ hk
   simp only[aO,hx,hv]
   exact aH.pure _
  ·simp[Tr.run]at h
 |convert s d x=>
  simp only at h
  split at h
  ·rename_i a ha
   have hx:=(bL x).lit ha
   obtain⟨v,hv,hk⟩:=iD h
   refine ar hh (bp v) (rd:=[]) ?_ hk
   simp only[aO,hx,hv]
   exact aH.pure _
  ·simp[Tr.run]at h
 |makeInterface t x=>
  simp only at h
  split at h
  ·simp[Tr.run]at h
  rename_i hc
  simp only[Bool.or_eq_true,not_or,Bool.not_eq_true]at hc
  have hx:=(bL x).live hc.2
  refine ar hh (a:=.gH t (EV x)) (.inr (by simp only[R]; exact⟨_,rfl,hx⟩)) (rd:=[]) ?_ h
  simp only[aO]
  rw[if_neg (by simp[hc.1.1,hc.1.2])]
  exact aH.pure _
 |makeFunc fn first captured=>
  simp only at h
  split at h
  ·rename_i hc
   refine ar hh (bp (.func fn #[] #[])) (rd:=[]) ?_ h
   simp only[aO,hc,if_true]
   exact aH.pure _
  ·rename_i hc
   split at h
   ·simp[Tr.run]at h
   rename_i hd
   simp only[Bool.or_eq_true,not_or,Bool.not_eq_true]at hd
   have h1:=jo (jO bL first.toList) hd.1
   have h2:=jo (jO bL captured.toList) hd.2
   refine ar hh (a:=.ju fn (first.toList.map EV) (captured.toList.map EV)) (.inr (by simp only[R]; exact⟨_,_,rfl,h1,h2⟩)) (rd:=[]) ?_ h
   simp only[aO]
   rw[if_neg hc]
   exact aH.pure _
 |makeSlice t l c=>
  simp only at h
  split at h
  ·rename_i hs
   have e:l=c:=by
    unfold Lz at hs
    split at hs
    ·rw[Nat.eq_of_beq_eq_true hs]
    ·simp at hs
   subst e
   exact zY hQ hZ hh hn (bL l) h
  ·exact zX hQ hZ hh hn (bL l) (bL c) h
 |slice t x lo hi mx=>
  simp only at h
  have ho:∀ o:Option Operand,LU T H (o.map ev) (o.map EV):=by
   intro o
   cases o with
   |none=>trivial
   |some o=>exact bL o
  obtain⟨v,b,hb,hv,hk⟩:=OT hT hQ hh (bL x) (ho lo) (ho hi) (ho mx) h
  refine ar hh hv (rd:=[]) ?_ hk
  simp only[aO,hb]
  exact aH.pure _
 |sliceToArrayPointer t x=>
  simp only at h
  have hx:=bL x
  unfold LA at h
  split at h
  case h_2=>simp[Tr.run]at h
  rename_i len m n c i j l cp hf he
  obtain⟨q,gR,eC,hX⟩:=hQ.D1 hf
  split at h
  case h_2=>simp[Tr.run]at h
  rename_i hle
  simp only[decide_eq_true_eq]at hle
  rw[he]at hx
  have gK:=hx.live rfl
  simp only[R]at gK
  obtain⟨aq,e,hv⟩:=gK
  refine ar hh (a:=.ref n aq i j) (.inr (by simp only[R]; exact⟨aq,rfl,hv⟩)) (rd:=[]) ?_ h
  simp only[aO,e,gR]
  rw[if_pos hle]
  exact aH.pure _
 |fieldAddr s x f=>
  simp only at h
  have hx:=bL x
  split at h
  ·rename_i off m n c i j hf he
   obtain⟨q,hq,_⟩:=hQ.OM hf
   rw[he]at hx
   have gK:=hx.live rfl
   simp only[R]at gK
   obtain⟨aq,e,hv⟩:=gK
   refine ar hh (a:=.ref n aq i (j+off)) (.inr (by simp only[R]; exact⟨aq,rfl,hv⟩)) (rd:=[]) ?_ h
   simp only[aO,e,hq]; exact aH.pure _
  ·rename_i off m e0 j hf he
   obtain⟨q,hq,_⟩:=hQ.OM hf
   rw[he]at hx
   have gK:=hx.live rfl
   simp only[R]at gK
   obtain⟨e',e,hv⟩:=gK
   refine ar hh (a:=.bk e' (j+off)) (.inr (by simp only[R]; exact⟨e',rfl,hv.1,hv.2⟩)) (rd:=[]) ?_ h
   simp only[aO,e,hq]; exact aH.pure _
  ·rename_i off m v aZ len i hf he
   obtain⟨q,hq,_⟩:=hQ.OM hf
   rw[he]at hx
   have gK:=hx.live rfl
   simp only[R]at gK
   obtain⟨a0,h1,h2,h3⟩:=gK
   rcases h3 with ⟨n,aq,k,j,rfl,e⟩|⟨e',j,rfl,e⟩
   ·refine ar hh (a:=.ref n aq k (j+i*aZ+off)) (.inr (by simp only[R]; exact⟨.ref n aq k (j+off),rD h1 (.inl ⟨_,_,_,_,rfl,rfl⟩),h2,.inl ⟨_,_,_,_,rfl,by rw[Nat.add_right_comm]⟩⟩)) (rd:=[]) ?_ h
    simp only[aO,e,hq]; exact aH.pure _
   ·refine ar hh (a:=.bk e' (j+i*aZ+off)) (.inr (by simp only[R]; exact⟨.bk e' (j+off),rD h1 (.inr ⟨_,_,rfl,rfl⟩),h2,.inr ⟨_,_,rfl,by rw[Nat.add_right_comm]⟩⟩)) (rd:=[]) ?_ h
    simp only[aO,e,hq]; exact aH.pure _
  ·simp[Tr.run]at h
 |field s x f=>
  simp only at h
  have hx:=bL x
  split at h
  ·rename_i off m l hf he
   obtain⟨q,hq,eC,hX⟩:=hQ.OM hf
   rw[he]at hx
   have gK:=hx.live rfl
   obtain⟨v,hv,hk⟩:=mE h
   rw[←eC,←hX]at hv
   obtain⟨c,hc,hr⟩:=R.part gK hv
   simp only[R]at gK
   obtain⟨l',e,_⟩:=gK
   refine ar hh (.inr hr) (rd:=[]) ?_ hk
   rw[e]at hc
   simp only[aO,e,hq,hc]; exact aH.pure _
  ·simp[Tr.run]at h
 |indexAddr t x ix=>
  simp only at h
  obtain⟨v,b,hb,hv,hk⟩:=zZ hT hQ hh (bL x) (bL ix) h
  refine ar hh hv (rd:=[]) ?_ hk
  simp only[aO,hb]
  exact aH.pure _
 |index t x ix=>
  simp only at h
  obtain⟨v,b,hb,hv,hk⟩:=IV hQ (bL x) (bL ix) h
  refine ar hh hv (rd:=[]) ?_ hk
  simp only[aO,hb]
  exact aH.pure _
 |makeMap t x=>
  simp only at h
  have ho:LU T H (x.map ev) (x.map EV):=by
   cases x with
   |none=>trivial
   |some o=>exact bL o
  have:=D6 (T:=T) hQ hh hn ho h
  exact this
 |lookup t x ix c=>
  simp only at h
  exact Gb hT hQ hZ hh (bL x) (bL ix) h
 |mapUpdate t x k v=>
  simp only at h
  exact z2 hT hQ hh (bL x) (bL k) (bL v) h
 |extract t ix=>
  simp only at h
  have hx:=bL t
  split at h
  ·rename_i l he
   rw[he]at hx
   have gK:=hx.live rfl
   simp only[R]at gK
   obtain⟨l',e,hl⟩:=gK
   obtain⟨v,hv,hk⟩:=mE h
   obtain⟨b,hb,hr⟩:=ay.get (aU.1 hl) hv
   refine ar hh (.inr hr) (rd:=[]) ?_ hk
   simp only[aO,e,hb]; exact aH.pure _
  ·simp[Tr.run]at h
 |call c=>
  obtain⟨callee,args,mR⟩:=c
  cases callee with
  |builtin b=>exact D4 hT hQ hh hn (jO bL args.toList) h
  |_=>simp[Tr.run]at h
 |_=>simp[Tr.run]at h
end
end Go.PI
end
section
/- PS, part K: by value, frozen, and calls of which an answer is known. -/
namespace Go.PI
variable {T:dP}{ρ:Type}
mutual
def kT:AV→Bool
 |.lit v=>match v with
  |.slice none 0 0=>false
  |_=>true
 |.agg l|.jU l=>oX l
 |.gH _ v=>kT v
 |.ju _ f c=>oX f&&oX c
 |_=>true
def oX:List AV→Bool
 |[]=>true
 |x::xs=>kT x&&oX xs
end
section
variable {H:ai T.den}{hp:ag}{r:ρ}
mutual
theorem R.flat:∀ {v:SV T.den} {a:AV},R T H v a→kT a=true→wP v=flat a
 |.dead,a,h,_=>by simp[R]at h
 |.hole,a,h,_=>by simp only[R]at h; subst h; rfl
 |.lit v,a,h,_=>by simp only[R]at h; subst h; rfl
 |.agg l,a,h,hn=>by
  simp only[R]at h
  obtain⟨l',rfl,h2⟩:=h
  simp only[kT]at hn
  simp only[wP,Go.PI.flat]; exact RL.flat h2 hn
 |.jU l,a,h,hn=>by
  simp only[R]at h
  obtain⟨l',rfl,h2⟩:=h
  simp only[kT]at hn
  simp only[wP,Go.PI.flat]; exact RL.flat h2 hn
 |.sl l,a,h,_=>by
  simp only[R]at h
  obtain⟨l',rfl,h2⟩:=h
  rfl
 |.jT t l,a,h,hn=>by
  simp only[R]at h
  rcases h with ⟨l',rfl,_⟩|⟨_,rfl⟩
  ·rfl
  ·simp[kT]at hn
 |.bk e j,a,h,_=>by
  simp only[R]at h
  obtain⟨e',rfl,h2⟩:=h
  rfl
 |.ref n c i j,a,h,_=>by
  simp only[R]at h
  obtain⟨aq,rfl,h2⟩:=h
  rfl
 |.jt n c i j ln cp,a,h,_=>by
  simp only[R]at h
  obtain⟨aq,rfl,h2⟩:=h
  rfl
 |.bu esz n c rg cap,a,h,_=>by
  simp only[R]at h
  obtain⟨aq,h1,h2⟩:=h
  rcases rg with _|⟨off,len⟩<;>simp only at h2<;>subst h2<;>rfl
 |.ju fn f c,a,h,hn=>by
  simp only[R]at h
  obtain⟨f',c',rfl,h2,h3⟩:=h
  rfl
 |.gH t v,a,h,hn=>by
  simp only[R]at h
  obtain⟨v',rfl,h2⟩:=h
  simp only[kT]at hn
  simp only[wP,Go.PI.flat]; exact R.flat h2 hn
 |.xB t l c b,a,h,hn=>by
  simp only[R]at h
  rcases h with ⟨_,l',rfl,_⟩|⟨_,_,rfl|rfl⟩
  ·rfl
  ·rfl
  ·simp[kT]at hn
 |.nz,a,h,hn=>by
  simp only[R]at h
  subst h
  rfl
 |.mp y n,a,h,_=>by
  simp only[R]at h
  obtain⟨rfl,_⟩:=h
  rfl
 |.tz v s len i,a,h,_=>by
  simp only[R]at h
  obtain⟨a0,_,_,h2⟩:=h
  rcases h2 with ⟨n,aq,k,j,rfl,rfl⟩|⟨e,j,rfl,rfl⟩<;>rfl
theorem RL.flat:∀ {l:List (SV T.den)} {m:List AV},RL T H l m→oX m=true→BU l=wb m
 |[],[],_,_=>rfl
 |x::xs,y::ys,h,hn=>by
  simp only[RL]at h
  simp only[oX,Bool.and_eq_true]at hn
  simp only[BU,wb]; rw[R.flat h.1 hn.1,RL.flat h.2 hn.2]
 |[],_::_,h,_=>by simp[RL]at h
 |_::_,[],h,_=>by simp[RL]at h
end
theorem oY{den:Nat→Type}:∀ {l:List (SV den)} {i:Nat} {e:SV den},aw l=true→l[i]?=some e→aG e=true
 |[],_,_,_,h=>by simp at h
 |x::xs,0,e,hc,h=>by
  simp_all[aw]
 |x::xs,i+1,e,hc,h=>by
  simp only[aw,Bool.and_eq_true]at hc
  simp only[List.getElem?_cons_succ]at h
  exact oY hc.2 h
theorem oZ[ae](hh:RH T H hp):∀ k:Nat,
  (∀ (v:SV T.den) (a:AV) (K:SV T.den→List Nat→Tr ρ),R T H v a→(gz T H k v K).run=some r →
    ∃ v' rd a',aH hp (a9 k a) a' rd∧R T H v' a'∧(kT a'=true∧aG v'=true)∧(K v' rd).run=some r) ∧
  (∀ (l:List (SV T.den)) (m:List AV) (K:List (SV T.den)→List Nat→Tr ρ),RL T H l m→(gA T H k l K).run=some r →
    ∃ l' rd m',aH hp (aQ k m) m' rd∧RL T H l' m'∧(oX m'=true∧aw l'=true)∧l'.length=l.length∧(K l' rd).run=some r)
 |0=>⟨fun v a K _ h=>by simp[gz,Tr.run]at h,fun l m K _ h=>by simp[gA,Tr.run]at h⟩
 |k+1=>by
  obtain⟨Xj,RA⟩:=oZ hh k
  refine⟨fun v a K hr h=>?_,fun l m K hr h=>?_⟩
  ·cases v with
   |dead=>simp[R]at hr
   |hole=>simp[gz,Tr.run]at h
   |lit v=>
    simp only[R]at hr
    subst hr
    simp only[gz]at h
    split at h
    ·exact⟨_,_,.sl [],aH.pure _,by simp[R,RL,aw],⟨rfl,rfl⟩,h⟩
    ·rename_i hv
     refine⟨_,_,.lit v,?_,by simp[R],⟨?_,rfl⟩,h⟩
     ·simp only[a9]
      exact aH.pure _
     ·simp only[kT]
   |agg l=>
    simp only[R]at hr
    obtain⟨l',rfl,hl⟩:=hr
    simp only[gz]at h
    obtain⟨l2,rd,m2,h1,h2,h3,_,h4⟩:=RA _ _ _ hl h
    refine⟨_,_,.agg m2,?_,by simp only[R]; exact⟨_,rfl,h2⟩,⟨by simpa only[kT] using h3.1,by simpa only[aG] using h3.2⟩,h4⟩
    simp only[a9]
    exact aH.mono (aH.bind h1 (aH.pure _)) (fun _ h=>by simpa using h)
   |jU l=>
    simp only[R]at hr
    obtain⟨l',rfl,hl⟩:=hr
    simp only[gz]at h
    obtain⟨l2,rd,m2,h1,h2,h3,_,h4⟩:=RA _ _ _ hl h
    refine⟨_,_,.jU m2,?_,by simp only[R]; exact⟨_,rfl,h2⟩,⟨by simpa only[kT] using h3.1,by simpa only[aG] using h3.2⟩,h4⟩
    simp only[a9]
    exact aH.mono (aH.bind h1 (aH.pure _)) (fun _ h=>by simpa using h)
   |sl l=>
    have ma:=hr
    simp only[R]at hr
    obtain⟨l',rfl,hl⟩:=hr
    simp only[gz]at h
    exact⟨_,_,.sl l',aH.pure _,ma,⟨rfl,rfl⟩,h⟩
   |jT t l=>
    have ma:=hr
    simp only[R]at hr
    simp only[gz]at h
    rcases hr with ⟨l',rfl,hl⟩|⟨rfl,rfl⟩
    ·exact⟨_,_,.sl l',aH.pure _,ma,⟨rfl,rfl⟩,h⟩
    ·exact⟨_,_,.sl [],aH.pure _,by simp only[R]; exact .inl ⟨[],rfl,trivial⟩,⟨rfl,rfl⟩,h⟩
   |bk e j=>
    have ma:=hr
    simp only[R]at hr
    obtain⟨e',rfl,he⟩:=hr
    simp only[gz]at h
    exact⟨_,_,.bk e' j,aH.pure _,ma,⟨rfl,rfl⟩,h⟩
   |ref n c i j=>
    simp only[R]at hr
    obtain⟨aq,rfl,hv⟩:=hr
    simp only[gz]at h
    split at h
    case h_2=>simp[Tr.run]at h
    rename_i g cl f cur es ho
    obtain⟨o,dr,dV⟩:=hh.obj ho
    obtain⟨es',rfl,cP,rT⟩:=dV
    split at h
    case h_2=>simp[Tr.run]at h
    rename_i e hc he
    have cq:=hv.arr hh ho hc
    simp only[aE.len]at cq
    have hl:=cP.length
    obtain⟨e2,yq,ET⟩:=ay.get (aU.1 cP) he
    cases cl with
    |true=>
     simp only at h
     refine⟨_,_,.bk e2 j,?_,by simp only[R]; exact⟨_,rfl,ET,oY (rT rfl) he⟩,⟨rfl,rfl⟩,h⟩
     simp only[a9]
     refine aH.mono (aH.bind (aH.arr dr (by omega)) ?_) (rd:=[n]++[]) (fun _ h=>by simpa using h)
     simp only[yq]
     simp only[if_true]
     exact aH.pure _
    |false=>
     simp only at h
     obtain⟨v2,rd,a2,h1,h2,h3,h⟩:=Xj _ _ _ ET h
     refine⟨_,_,.bk a2 j,?_,by simp only[R]; exact⟨_,rfl,h2,h3.2⟩,⟨rfl,rfl⟩,h⟩
     simp only[a9]
     refine aH.mono (aH.bind (aH.arr dr (by omega)) (rd':=rd) ?_) (fun _ h=>by simpa using h)
     simp only[yq,Bool.false_eq_true,if_false]
     exact aH.mono (aH.bind h1 (aH.pure _)) (fun _ h=>by simpa using h)
   |jt n c i j ln cp=>
    simp only[R]at hr
    obtain⟨aq,rfl,hv⟩:=hr
    simp only[gz]at h
    split at h
    case h_2=>simp[Tr.run]at h
    rename_i g cl f cur es ho
    obtain⟨o,dr,dV⟩:=hh.obj ho
    obtain⟨es',rfl,cP,rT⟩:=dV
    split at h
    case h_2=>simp[Tr.run]at h
    rename_i cs hc he
    have cq:=hv.arr hh ho hc
    simp only[aE.len]at cq
    have hl:=cP.length
    obtain⟨e2,yq,ET⟩:=ay.get (aU.1 cP) he
    simp only[R]at ET
    obtain⟨mH,rfl,u3⟩:=ET
    have mT:=u3.length
    split at h
    case h_2=>simp[Tr.run]at h
    rename_i hle
    simp only[Bool.and_eq_true,decide_eq_true_eq]at hle
    have HB:RL T H ((cs.drop j).take ln) ((mH.drop j).take ln):=aU.2 (((aU.1 u3).drop j).take ln)
    cases cl with
    |true=>
     simp only at h
     have nJ:aw cs=true:=by
      have:=oY (rT rfl) he
      simpa only[aG] using this
     refine⟨_,_,.sl ((mH.drop j).take ln),?_,by simp only[R]; exact⟨_,rfl,HB,ni nJ _ _⟩,⟨rfl,rfl⟩,h⟩
     simp only[a9]
     refine aH.mono (aH.bind (aH.arr dr (by omega)) ?_) (rd:=[n]++[]) (fun _ h=>by simpa using h)
     simp only[yq]
     rw[if_pos ⟨hle.1,by omega⟩]
     simp only[if_true]
     exact aH.pure _
    |false=>
     simp only at h
     obtain⟨l2,rd,m2,h1,h2,h3,_,h⟩:=RA _ _ _ HB h
     refine⟨_,_,.sl m2,?_,by simp only[R]; exact⟨_,rfl,h2,h3.2⟩,⟨rfl,rfl⟩,h⟩
     simp only[a9]
     refine aH.mono (aH.bind (aH.arr dr (by omega)) (rd':=rd) ?_) (fun _ h=>by simpa using h)
     simp only[yq]
     rw[if_pos ⟨hle.1,by omega⟩]
     simp only[Bool.false_eq_true,if_false]
     exact aH.mono (aH.bind h1 (aH.pure _)) (fun _ h=>by simpa using h)
   |ju fn f c=>
    simp only[R]at hr
    obtain⟨f',c',rfl,hf,hc⟩:=hr
    simp only[gz]at h
    obtain⟨l2,rd,m2,h1,h2,h3,_,h⟩:=RA _ _ _ hf h
    obtain⟨l3,rd3,m3,g1,g2,g3,_,h⟩:=RA _ _ _ hc h
    refine⟨_,_,.ju fn m2 m3,?_,by simp only[R]; exact⟨_,_,rfl,h2,g2⟩,⟨by simp[kT,h3.1,g3.1],by simp[aG,h3.2,g3.2]⟩,h⟩
    simp only[a9]
    exact aH.mono (aH.bind h1 (aH.bind g1 (aH.pure _))) (fun _ h=>by simpa using h)
   |gH t v=>
    simp only[R]at hr
    obtain⟨v',rfl,hv⟩:=hr
    simp only[gz]at h
    obtain⟨v2,rd,a2,h1,h2,h3,h⟩:=Xj _ _ _ hv h
    refine⟨_,_,.gH t a2,?_,by simp only[R]; exact⟨_,rfl,h2⟩,⟨by simpa only[kT] using h3.1,by simpa only[aG] using h3.2⟩,h⟩
    simp only[a9]
    exact aH.mono (aH.bind h1 (aH.pure _)) (fun _ h=>by simpa using h)
   |bu esz n c rg cap=>
    simp only[R]at hr
    obtain⟨aq,hv,ha⟩:=hr
    simp only[gz]at h
    split at h
    ·rename_i g cl f cur es ho
     obtain⟨o,dr,dV⟩:=hh.obj ho
     obtain⟨es',rfl,cP,rT⟩:=dV
     split at h
     case h_2=>simp[Tr.run]at h
     rename_i hc
     have cq:=hv.arr hh ho hc
     simp only[aE.len]at cq
     have hl:=cP.length
     have key:∀ (off len:Nat) (part:List (SV T.den)) (h:(match cl with
        |true=>K (.sl part) [n]
        |false=>gA T H k part fun l rd=>K (.sl l) (n::rd)).run=some r),part=(es.drop off).take len→off+len≤es.length →
       ∃ v' rd a',aH hp (a9 (k+1) (.bu esz n aq off len cap)) a' rd∧R T H v' a'∧(kT a'=true∧aG v'=true)∧(K v' rd).run=some r:=by
      intro off len part h P3 hle
      have HB:RL T H part ((es'.drop off).take len):=by subst P3; exact aU.2 (((aU.1 cP).drop off).take len)
      cases cl with
      |true=>
       simp only at h
       refine⟨_,_,.sl ((es'.drop off).take len),?_,by simp only[R]; exact⟨_,rfl,HB,by subst P3; exact ni (rT rfl) _ _⟩,⟨rfl,rfl⟩,h⟩
       simp only[a9]
       refine aH.mono (aH.bind (aH.arr dr (by omega)) ?_) (rd:=[n]++[]) (fun _ h=>by simpa using h)
       simp only
       rw[if_pos (by omega)]
       simp only[if_true]
       exact aH.pure _
      |false=>
       simp only at h
       obtain⟨l2,rd,m2,h1,h2,h3,_,h⟩:=RA _ _ _ HB h
       refine⟨_,_,.sl m2,?_,by simp only[R]; exact⟨_,rfl,h2,h3.2⟩,⟨rfl,rfl⟩,h⟩
       simp only[a9]
       refine aH.mono (aH.bind (aH.arr dr (by omega)) (rd':=rd) ?_) (fun _ h=>by simpa using h)
       simp only
       rw[if_pos (by omega)]
       simp only[Bool.false_eq_true,if_false]
       exact aH.mono (aH.bind h1 (aH.pure _)) (fun _ h=>by simpa using h)
     split at h
     ·simp only at ha
      subst ha
      exact key 0 aq es h (by simp only[List.drop_zero]; rw[List.take_of_length_le (by omega)]) (by omega)
     ·grind[Tr.run]
    ·rename_i g f cur t l ho
     obtain⟨o,dr,dV⟩:=hh.obj ho
     obtain⟨es',rfl,cP⟩:=dV
     split at h
     case h_2=>simp[Tr.run]at h
     rename_i hc
     have cq:=hv.arr hh ho hc
     simp only[aE.len]at cq
     have hl:=cP.length
     have key:∀ off len,off+len≤l.length→aH hp (a9 (k+1) (.bu esz n aq off len cap)) (.sl ((es'.drop off).take len)) [n]:=by
      intro off len hle
      simp only[a9]
      refine aH.mono (aH.bind (aH.arr dr (by omega)) (rd':=[]) ?_) (fun _ h=>by simpa using h)
      simp only
      rw[if_pos (by omega)]
      simp only[if_true]
      exact aH.pure _
     split at h
     ·simp only at ha
      subst ha
      refine⟨_,_,_,key 0 aq (by omega),?_,⟨rfl,rfl⟩,h⟩
      simp only[R,List.drop_zero]
      rw[List.take_of_length_le (by omega)]
      exact .inl ⟨_,rfl,cP⟩
     ·rename_i off len
      simp only at ha
      subst ha
      obtain⟨hle,h⟩:=ba h
      simp only[decide_eq_true_eq]at hle
      refine⟨_,_,_,key off len hle,?_,⟨rfl,rfl⟩,h⟩
      simp only[R]
      exact .inl ⟨_,rfl,(cP.drop off).take len⟩
    ·simp[Tr.run]at h
   |mp y n=>simp[gz,Tr.run]at h
   |xB t l c b=>
    simp only[R]at hr
    simp only[gz]at h
    rcases hr with ⟨_,l',rfl,hl⟩|⟨_,rfl,rfl|rfl⟩
    ·exact⟨_,_,.sl l',by simp only[a9]; exact aH.pure _,by simp only[R]; exact .inl ⟨_,rfl,hl⟩,⟨rfl,rfl⟩,h⟩
    ·exact⟨_,_,.sl [],by simp only[a9]; exact aH.pure _,by simp only[R]; exact .inl ⟨_,rfl,trivial⟩,⟨rfl,rfl⟩,h⟩
    ·exact⟨_,_,.sl [],by simp only[a9]; exact aH.pure _,by simp only[R]; exact .inl ⟨_,rfl,trivial⟩,⟨rfl,rfl⟩,h⟩
   |nz=>
    simp only[R]at hr
    simp only[gz]at h
    subst hr
    exact⟨_,_,.sl [],by simp only[a9]; exact aH.pure _,by simp only[R]; exact⟨[],rfl,trivial,rfl⟩,⟨rfl,rfl⟩,h⟩
   |tz v s len i=>simp[gz,Tr.run]at h
  ·cases l with
   |nil=>
    cases m with
    |nil=>
     simp only[gA]at h
     exact⟨[],[],[],aH.pure _,by simp[RL],⟨rfl,rfl⟩,rfl,h⟩
    |cons=>simp[RL]at hr
   |cons x xs=>
    cases m with
    |nil=>simp[RL]at hr
    |cons y ys=>
     simp only[RL]at hr
     simp only[gA]at h
     obtain⟨v2,rd,a2,h1,h2,h3,h⟩:=Xj _ _ _ hr.1 h
     obtain⟨l2,rd2,m2,g1,g2,g3,g4,h⟩:=RA _ _ _ hr.2 h
     refine⟨_,_,a2::m2,?_,by simp only[RL]; exact⟨h2,g2⟩,⟨by simp[oX,h3.1,g3.1],by simp[aw,h3.2,g3.2]⟩,by simp[g4],h⟩
     simp only[aQ]
     exact aH.mono (aH.bind h1 (aH.bind g1 (aH.pure _))) (fun _ h=>by simpa using h)
theorem L0[ae](hh:RH T H hp){k:Nat}{v:SV T.den}{a:AV}{K:SV T.den→List Nat→Tr ρ}(hr:R T H v a)(h:(gz T H k v K).run=some r):
  ∃ v' rd a',aH hp (a9 k a) a' rd∧R T H v' a'∧(kT a'=true∧aG v'=true)∧(K v' rd).run=some r:=(oZ hh k).1 v a K hr h
theorem vX[ae](hh:RH T H hp){k:Nat}{l:List (SV T.den)}{m:List AV}{K:List (SV T.den)→List Nat→Tr ρ}(hr:RL T H l m)(h:(gA T H k l K).run=some r):
  ∃ l' rd m',aH hp (aQ k m) m' rd∧RL T H l' m'∧(oX m'=true∧aw l'=true)∧l'.length=l.length∧(K l' rd).run=some r:=(oZ hh k).2 l m K hr h
def FW(T:dP)(H:ai T.den):List (Nat×aE T.den)→List (Nat×aP)→Prop:=
 ay fun p q=>p.1=q.1∧RO T H p.2 q.2∧∃ o,H[p.1]?=some (some o)∧p.2.cur=o.cur∧p.2.len=o.len∧o.isRec=false∧p.2.isRec=false
theorem o5[ae](hh:RH T H hp):∀ {k:Nat} {ns:List Nat} {K:List (Nat×aE T.den)→List Nat→Tr ρ},(ng T H k ns K).run=some r →
  ∃ wr rd w,aH hp (ee k ns) w rd∧FW T H wr w∧(K wr rd).run=some r
 |0,ns,K,h=>by simp[ng,Tr.run]at h
 |k+1,[],K,h=>by
  simp only[ng]at h
  exact⟨[],[],[],aH.pure _,trivial,h⟩
 |k+1,n::ns,K,h=>by
  simp only[ng]at h
  split at h
  ·rename_i g cl f cur es ho
   obtain⟨o,dr,dV⟩:=hh.obj ho
   obtain⟨es',rfl,cP,rT⟩:=dV
   split at h
   ·obtain⟨wr,rd,w,h1,h2,h⟩:=o5 hh h
    refine⟨(n,.arr g true true cur es)::wr,n::rd,(n,.arr g true true es')::w,?_,⟨⟨rfl,⟨_,rfl,cP,rT⟩,_,ho,rfl,rfl,rfl,rfl⟩,h2⟩,h⟩
    simp only[ee]
    refine aH.get dr ?_
    simp only[if_true]
    exact aH.mono (aH.bind h1 (aH.pure _)) (fun _ h=>by simpa using h)
   ·obtain⟨Sp,rd,m2,g1,g2,g3,g4,h⟩:=vX hh cP h
    obtain⟨wr,rd2,w,h1,h2,h⟩:=o5 hh h
    rw[RL.names cP]at h1
    refine⟨(n,.arr g true true cur Sp)::wr,n::rd++rd2,(n,.arr g true true m2)::w,?_,⟨⟨rfl,⟨_,rfl,g2,fun _=>g3.2⟩,_,ho,rfl,by simp[aE.len,g4],rfl,rfl⟩,h2⟩,h⟩
    simp only[ee]
    refine aH.get dr ?_
    simp only[Bool.false_eq_true,if_false]
    exact aH.mono (aH.bind g1 (aH.bind h1 (aH.pure _))) (fun _ h=>by simpa using h)
  ·rename_i g f cur t l ho
   obtain⟨o,dr,dV⟩:=hh.obj ho
   obtain⟨es',rfl,cP⟩:=dV
   obtain⟨wr,rd,w,h1,h2,h⟩:=o5 hh h
   refine⟨(n,.cj g true cur t l)::wr,n::rd,(n,.arr g true true es')::w,?_,⟨⟨rfl,⟨_,rfl,cP⟩,_,ho,rfl,rfl,rfl,rfl⟩,h2⟩,h⟩
   simp only[ee]
   refine aH.get dr ?_
   simp only[if_true]
   exact aH.mono (aH.bind h1 (aH.pure _)) (fun _ h=>by simpa using h)
  ·simp[Tr.run]at h
theorem FW.names:∀ {wr:List (Nat×aE T.den)} {w:List (Nat×aP)},FW T H wr w→wr.map (·.1)=w.map (·.1)
 |[],[],_=>rfl
 |_::_,_::_,h=>by simp only[List.map_cons]; rw[h.1.1,FW.names h.2]
 |[],_::_,h=>h.elim
 |_::_,[],h=>h.elim
theorem FW.apply[ae]:∀ {wr:List (Nat×aE T.den)} {w:List (Nat×aP)} {H:ai T.den} {hp:ag},RH T H hp→FW T H wr w →
  dJ H (bh H wr)∧RH T (bh H wr) (ak hp w)∧(∀ n:Nat,n∉wr.map (·.1)→(bh H wr)[n]?=H[n]?)∧(bh H wr).length=H.length
 |[],[],H,hp,hh,_=>⟨dJ.refl _,hh,fun _ _=>rfl,rfl⟩
 |(n,o')::wr,(n',a')::w,H,hp,hh,h=>by
  obtain⟨⟨e1,h2,o,h3,h4,h5,xf,zO⟩,h6⟩:=h
  simp only at e1 h2 h3 h4 h5 xf zO
  subst e1
  obtain⟨hg,OU⟩:=hh.Sz h3 (o':=o') (by omega) (fun _=>h5) h2
  have bE:=(List.getElem?_eq_some_iff.1 h3).1
  have e1:bQ H n o'=H.set n (some o'):=by simp[bQ]; omega
  have e2:setObj hp n a'=hp.set n (some a'):=by simp[setObj]; have:=hh.length; omega
  have h7:FW T (H.set n (some o')) wr w:=by
   refine ay.mono (fun p q Nk=>?_) h6
   obtain⟨q1,q2,o2,q3,q4,q5,q6,q7⟩:=Nk
   refine⟨q1,RO.mono hg q2,?_⟩
   by_cases e:p.1=n
   ·simp_all
   ·grind
  obtain⟨i1,i2,i3,i4⟩:=FW.apply OU h7
  simp only[bh,ak]
  rw[e1,e2]
  refine⟨hg.trans i1,i2,fun m hm=>?_,by rw[i4]; simp⟩
  simp only[List.map_cons,List.mem_cons,not_or]at hm
  rw[i3 m hm.2,List.getElem?_set_ne (Ne.symm hm.1)]
 |[],_::_,_,_,_,h=>h.elim
 |_::_,[],_,_,_,h=>h.elim
theorem FW.LQ:∀ {wr:List (Nat×aE T.den)} {w:List (Nat×aP)},FW T H wr w→∀ n,recAt H n=true→n∉wr.map (·.1)
 |[],[],_,n,_=>by simp
 |(m,o')::wr,_::w,h,n,hn=>by
  obtain⟨⟨_,_,o,h3,_,_,xf,_⟩,h6⟩:=h
  simp only at h3
  simp only[List.map_cons,List.mem_cons,not_or]
  refine⟨?_,FW.LQ h6 n hn⟩
  rintro rfl
  simp only[recAt,h3,xf,Bool.false_eq_true]at hn
 |[],_::_,h,_,_=>h.elim
 |_::_,[],h,_,_=>h.elim
theorem FW.re[ae]{wr:List (Nat×aE T.den)}{w:List (Nat×aP)}(hh:RH T H hp)(h:FW T H wr w){v:SV T.den}{a:AV}(hv:∀ H,R T H v a):RE T H hp v wr ⟨a,w⟩:=by
 obtain⟨h1,h2,h3,h4⟩:=FW.apply hh h
 exact⟨.inr (hv _),h2,h1,fun q hq=>by rw[h.names]; exact List.mem_map_of_mem hq,fun n hn _=>h3 n hn,by rw[h4]; exact Nat.le_refl _,h.LQ⟩
end
def P4(T:dP)(v:TV T.den)(a:AV):Prop:=
 match v with
 |⟨.v t,x⟩=>T.rp t x a
 |⟨.l t,l⟩=>∃ l',a=.sl l'∧ay (T.rp t) l l'
 |⟨.m _ _,_⟩=>False
theorem T4(hT:T.Ok){v:TV T.den}{a:AV}(h:P4 T v a)(H:ai T.den):R T H (TK T v) a:=by
 obtain⟨t,x⟩:=v
 cases t with
 |v t=>exact hT.up _ _ _ H h
 |l t=>
  obtain⟨l',rfl,hl⟩:=h
  simp only[TK,R]
  exact .inl ⟨l',rfl,hl⟩
 |m kk t=>exact h.elim
theorem L1[ae](hT:T.Ok)(H:ai T.den):∀ {l:List (TV T.den)} {m:List AV},ay (P4 T) l m→RL T H (Ri T l) m
 |[],[],_=>by simp[Ri,RL]
 |v::vs,a::as,h=>by
  simp only[Ri,List.map_cons,RL]
  exact⟨T4 hT h.1 H,L1 hT H h.2⟩
 |[],_::_,h=>h.elim
 |_::_,[],h=>h.elim
theorem HC{H:ai T.den}{l:List (SV T.den)}{m:List AV}(h:RL T H l m):R T H (rR l) (cO m):=by
 match l,m,h with
 |[],[],h=>simp_all[rR,cO,R]
 |[x],[y],h=>simp only[RL]at h; exact h.1
 |x::x'::xs,y::y'::ys,h=>simp_all[rR,cO,R]
 |[],_::_,h=>simp[RL]at h
 |_::_,[],h=>simp[RL]at h
 |[x],_::_::_,h=>simp[RL]at h
 |_::_::_,[y],h=>simp[RL]at h
theorem Gd(hT:T.Ok){H:ai T.den}{ts:List Nat}:∀ {l:List (SV T.den)} {m:List AV} {xs:List (TV T.den)},RL T H l m→IC T ts l=some xs→ay (P4 T) xs m:=by
 induction ts with
 |nil=>
  intro l m xs hr h
  cases l with
  |cons=>simp[IC]at h
  |nil=>
   cases m with
   |cons=>simp[RL]at hr
   |nil=>
    simp[IC]at h
    subst h
    trivial
 |cons t ts ih=>
  intro l m xs hr h
  cases l with
  |nil=>simp[IC]at h
  |cons v vs=>
   cases m with
   |nil=>simp[RL]at hr
   |cons a as=>
    simp only[RL]at hr
    simp only[IC,Option.bind_eq_some_iff,Option.map_eq_some_iff]at h
    obtain⟨x,h1,ys,h2,rfl⟩:=h
    exact⟨hT.dn _ _ _ _ H h1 hr.1,ih hr.2 h2⟩
theorem HD{den:Nat→Type}{v:TV den}{t:VT}{x:t.den den}(h:v.as t=some x):v=⟨t,x⟩:=by
 obtain⟨t',y⟩:=v
 unfold TV.as at h
 split at h
 ·grind
 ·simp at h
theorem o6[ae]{den:Nat→Type}:∀ (ts:List VT) (l:List (TV den)) (x:HL den ts),vE ts l=some x→gw ts x=l
 |[],l,x,h=>by
  cases l with
  |nil=>rfl
  |cons=>cases h
 |[t],l,x,h=>by
  match l,h with
  |[v],h=>
   have h':v.as t=some x:=h
   rw[HD h']; rfl
  |[],h=>cases h
  |_::_::_,h=>cases h
 |t::u::us,l,x,h=>by
  match l,h with
  |[],h=>cases h
  |v::l',h=>
   change VT.den den t×HL den (u::us) at x
   have h':((v.as t).bind fun x=>(vE (u::us) l').map fun y=>(x,y))=some x:=h
   obtain⟨a,h1,h2⟩:=Option.bind_eq_some_iff.1 h'
   obtain⟨b,h3,h4⟩:=Option.map_eq_some_iff.1 h2
   subst h4
   have:=o6 _ _ _ h3
   rw[HD h1,←this]
   rfl
noncomputable def L2[ae](C:Ctx)(g:FuncId)(as:List AV):Option (AV×ag):=
 match C.kY g with
 |some h=>(h as).map fun r=>(r,[])
 |none=>match k6 C g as [] with
  |some (.val v,iG)=>some (v,iG)
  |_=>none
noncomputable def T5[ae](C:Ctx)(g:FuncId)(as:List AV):Option (AV×ag):=
 match C.jw g with
 |some h=>h as
 |none=>match k6 C g as [] with
  |some (.val v,iG)=>some (v,iG)
  |_=>none
structure HE[ae](C:Ctx)(T:dP)(g:FuncId)(σ:wQ T):Prop where
 SE:∀ (x:HL T.den (σ.args.map .v)) (as:List AV) (l:List (T.den σ.el)),ay (P4 T) (gw _ x) as→σ.fn x=some l →
  ∃ n cl es iG,T5 C g as=some (.bu σ.esz n es.length 0 es.length none,iG)∧iG[n]?=some (some (.arr true cl false es))∧es.all flat=true∧ay (T.rp σ.el) l es
structure qF[ae](C:Ctx)(T:dP)(g:FuncId)(σ:vF T):Prop where
 kind:C.kind g=.pure
 SE:∀ (x:HL T.den (σ.args.map .v)) (as:List AV) (y:HL T.den (σ.res.map .v)),ay (P4 T) (gw _ x) as→σ.fn x=some y →
  ∃ v iG l,L2 C g as=some (v,iG)∧(a9 1000 v).run iG=some (cO l)∧kT (cO l)=true∧ay (P4 T) (gw _ y) l
section
variable {H:ai T.den}{hp:ag}{r:ρ}
theorem HF[ae](hT:T.Ok){C:Ctx}{g:FuncId}{σ:wQ T}(hσ:HE C T g σ)(hh:RH T H hp){nm:Nat}(hn:nm=H.length∨H[nm]?=some none){args:List (SV T.den)}{as:List AV}(ha:RL T H args as){K:EK T ρ}
  (h:(OG T σ nm H args K).run=some r) :
  ∃ v wr rd e lg,Fh C nm g as hp=some (e,lg)∧(∀ n,n∈lg→n∈rd)∧RE T H hp v wr e∧(K v wr rd).run=some r:=by
 unfold OG at h
 obtain⟨oF,rd,Vf,h1,h2,_,_,h⟩:=vX hh ha h
 split at h
 case h_2=>simp[Tr.run]at h
 rename_i x hx
 rw[Option.bind_eq_some_iff]at hx
 obtain⟨l,hl,hx⟩:=hx
 obtain⟨y,hy,h⟩:=bind_some h
 have EU:=Gd hT h2 hl
 rw[←o6 _ _ _ hx]at EU
 obtain⟨n,cl,es,iG,pE,zA,tx,cL⟩:=hσ.SE x Vf y EU hy
 have hlen:y.length=es.length:=ay.length cL
 have Ke:(gm nm (.bu σ.esz n es.length 0 es.length none) iG).run hp=some ⟨.bu σ.esz nm es.length 0 es.length none,[(nm,.arr true true false es)]⟩:=by
  simp only[gm,zA,tx,decide_true,Bool.and_self]
  rfl
 have hA:Fh C nm g as hp=some (⟨.bu σ.esz nm es.length 0 es.length none,[(nm,.arr true true false es)]⟩,(aQ 1000 as).log hp):=by
  unfold Fh
  rw[h1.1]
  simp only[Option.bind_some]
  unfold T5 at pE
  cases hi:C.jw g with
  |some f=>
   simp_all
  |none=>
   rw[hi]at pE
   simp only at pE
   split at pE
   case h_2=>simp at pE
   rename_i v0 T6 aY
   simp only[Option.some.injEq,Prod.mk.injEq]at pE
   obtain⟨rfl,rfl⟩:=pE
   simp only[aY,Option.bind_some,pW,Ke,Option.map_some]
 have hg:jN T H hp (RM.ret (⟨.bu σ.esz nm es.length 0 es.length none,[(nm,.arr true true false es)]⟩:dK)) (fun v wr _=>K v wr rd) r:=by
  have hv:=fb hh hn (o:=.cj true false 0 σ.el y)
  simp only[aE.cur,aE.len,hlen]at hv
  refine e9 hh hn (o:=.cj true false 0 σ.el y) ⟨es,rfl,cL⟩ ?_ (aH.ret _) h
  right
  simp only[R]
  exact⟨es.length,hv,rfl⟩
 obtain⟨v,wr,rd',e,g1,g2,g3⟩:=hg
 have he:e=⟨.bu σ.esz nm es.length 0 es.length none,[(nm,.arr true true false es)]⟩:=by
  have:=g1.1
  simp only[RM.run,Option.some.injEq]at this
  exact this.symm
 subst he
 exact⟨v,wr,rd,_,_,hA,h1.2,g2,g3⟩
theorem xG[ae](hT:T.Ok){C:Ctx}{g:FuncId}{σ:vF T}(hσ:qF C T g σ)(hh:RH T H hp){args:List (SV T.den)}{as:List AV}(ha:RL T H args as){K:EK T ρ}(h:(IG T σ H args K).run=some r):
  ∃ v wr rd a w lg,J3 C g as hp=some (.val a,w)∧(∀ nm,pZ C nm false hp (g,as)=some (⟨a,w⟩,lg))∧(∀ n,n∈lg→n∈rd)∧RE T H hp v wr ⟨a,w⟩∧(K v wr rd).run=some r:=by
 unfold IG at h
 obtain⟨oF,rd,Vf,h1,h2,_,_,h⟩:=vX hh ha h
 split at h
 case h_2=>simp[Tr.run]at h
 rename_i x hx
 rw[Option.bind_eq_some_iff]at hx
 obtain⟨l,hl,hx⟩:=hx
 obtain⟨y,hy,h⟩:=bind_some h
 have EU:=Gd hT h2 hl
 rw[←o6 _ _ _ hx]at EU
 obtain⟨v,iG,m,pE,n4,Nf,cL⟩:=hσ.SE x Vf y EU hy
 have hR:∀ H,R T H (rR (Ri T (gw _ y))) (cO m):=fun H=>HC (L1 hT H cL)
 have tx:wP (rR (Ri T (gw _ y)))=flat (cO m):=R.flat (hR H) Nf
 have P5:∀ w,nT hp as (.val v,iG)=some (.val (cO m),w)→J3 C g as hp=some (.val (cO m),w)∧(∀ nm,pZ C nm false hp (g,as)=some (⟨cO m,w⟩,Ka hp as (.val v,iG))):=by
  intro w hw
  unfold L2 at pE
  cases hi:C.kY g with
  |some f=>
   rw[hi]at pE
   simp only[Option.map_eq_some_iff,Prod.mk.injEq]at pE
   obtain⟨r0,EL,rfl,rfl⟩:=pE
   constructor
   ·rw[HY g hi,h1.1]
    simp only[Option.bind_some,EL,hw]
   ·intro nm; simp only[pZ,hσ.kind,hi,h1.1,Option.bind_some,EL,nV,hw]
  |none=>
   rw[hi]at pE
   simp only at pE
   split at pE
   case h_2=>simp at pE
   rename_i v0 T6 aY
   simp only[Option.some.injEq,Prod.mk.injEq]at pE
   obtain⟨rfl,rfl⟩:=pE
   constructor
   ·rw[NG g hi,h1.1]
    simp only[Option.bind_some,aY,hw]
   ·intro nm; simp only[pZ,hσ.kind,hi,h1.1,Option.bind_some,aY,nV,hw]
 simp only at h
 split at h
 ·rename_i hf
  rw[tx]at hf
  have xe:nT hp as (.val v,iG)=some (.val (cO m),[]):=by
   rw[Ar,n4]
   simp only[Option.bind_some,NQ,hf,cond_true]
  obtain⟨q1,q2⟩:=P5 _ xe
  refine⟨_,[],_,_,_,_,q1,q2,fun n hn=>?_,⟨.inr (hR _),hh,dJ.refl _,fun q hq=>by simp at hq,fun _ _ _=>rfl,Nat.le_refl _,fun _ _ h=>by simp at h⟩,h⟩
  simp only[Ka,List.mem_append,gL,n4,hf,if_true]at hn
  rcases hn with hn|hn
  ·exact h1.2 n hn
  ·simp[Pure.pure,RM.log]at hn
 ·rename_i hf
  rw[tx]at hf
  obtain⟨wr,rd2,w,f1,f2,h⟩:=o5 hh h
  rw[RL.names ha]at f1
  have xe:nT hp as (.val v,iG)=some (.val (cO m),w):=by
   rw[Ar,n4]
   simp only[Option.bind_some,NQ,hf,cond_false,f1.1,Option.map_some]
  obtain⟨q1,q2⟩:=P5 _ xe
  refine⟨_,_,_,_,_,_,q1,q2,fun n hn=>?_,FW.re hh f2 hR,h⟩
  simp only[Ka,List.mem_append,gL,n4,hf,Bool.false_eq_true,if_false]at hn
  simp only[List.mem_append]
  rcases hn with hn|hn
  ·exact .inl (h1.2 n hn)
  ·rw[RM.eV,f1.1]at hn
   simp only[List.mem_append]at hn
   rcases hn with hn|hn
   ·exact .inr (f1.2 n hn)
   ·simp[Pure.pure,RM.log]at hn
end
end Go.PI
end
section
/- PS, part L: states, regions. -/
namespace Go.PI
variable {T:dP}{ρ:Type}
theorem D7{v:Value}{K:Value→Tr ρ}:yL v K=K v:=by
 unfold yL
 split<;>rfl
mutual
theorem lU:∀ {v:SV T.den} {K:SV T.den→Tr ρ},dQ v K=K v
 |.lit v,K=>by simp only[dQ]; exact D7
 |.agg l,K=>by simp only[dQ]; exact jq
 |.jU l,K=>by simp only[dQ]; exact jq
 |.sl l,K=>by simp only[dQ]; exact jq
 |.bk e j,K=>by simp only[dQ]; exact lU
 |.ju fn f c,K=>by simp only[dQ]; rw[jq,jq]
 |.gH t v,K=>by simp only[dQ]; exact lU
 |.dead,K=>by simp only[dQ]
 |.hole,K=>by simp only[dQ]
 |.jT t l,K=>by simp only[dQ]
 |.ref n c i j,K=>by simp only[dQ]
 |.jt n c i j ln cp,K=>by simp only[dQ]
 |.bu esz n c rg cap,K=>by simp only[dQ]
 |.mp y n,K=>by simp only[dQ]
 |.xB t l c b,K=>by simp only[dQ]
 |.nz,K=>by simp only[dQ]
 |.tz v s l i,K=>by simp only[dQ]; exact lU
theorem jq:∀ {l:List (SV T.den)} {K:List (SV T.den)→Tr ρ},mw l K=K l
 |[],K=>by simp only[mw]
 |x::xs,K=>by simp only[mw]; rw[lU,jq]
end
theorem IW[ae]{o:aE T.den}{K:aE T.den→Tr ρ}:LD o K=K o:=by
 cases o with
 |arr g cl f c es=>exact jq
 |pA fn ps as bd fr=>exact jq
 |_=>rfl
theorem ku[ae]:∀ {H:ai T.den} {K:ai T.den→Tr ρ},nE H K=K H
 |[],K=>rfl
 |none::r,K=>by simp only[nE]; exact ku
 |some o::r,K=>by simp only[nE]; rw[IW,ku]
theorem oi:∀ {l:List Nat} {K:List Nat→Tr ρ},sV l K=K l
 |[],K=>rfl
 |x::r,K=>by simp only[sV]; exact oi
theorem A2[ae]:∀ {l:tA T.den} {K:tA T.den→Tr ρ},B1 l K=K l
 |[],K=>rfl
 |(d,v)::r,K=>by simp only[B1]; rw[lU,A2]
theorem force_eq[ae]{s:bC T.den}{K:bC T.den→Tr ρ}:s.force K=K s:=by
 obtain⟨fn,n,fr,hp,wf,wh,js⟩:=s
 simp only[bC.force]
 rw[A2,ku,oi,oi]
theorem cQ[ae]{s:bC T.den}{dst:Option Tmp}{v:SV T.den}{wr:List (Nat×aE T.den)}{K:bC T.den→Tr ρ}:s.fL dst v wr K=K (s.step dst v wr):=by
 obtain⟨fn,n,fr,hp,wf,wh,js⟩:=s
 have h1:∀ {K':ai T.den→List Nat→Tr ρ},F3 hp wh wr K'=K' (bh hp wr) (wr.map (·.1)++wh):=by
  intro K'
  cases wr with
  |nil=>rfl
  |cons w r=>simp only[F3]; rw[ku,oi]
 simp only[bC.fL,h1]
 cases dst with
 |none=>rfl
 |some d=>
  simp only
  split
  ·rename_i hd
   simp only[bC.step,Lx,uq,hd,OF]
  ·rename_i hd
   rw[lU]
   simp only[bC.step,Lx,uq,hd,OF]
theorem rF{ops:Array Oper}:∀ {l:List Oper} {K:List (G×Oper)→Tr ρ},oV ops l K=K (l.map fun o=>(fp ops o,o))
 |[],K=>rfl
 |o::r,K=>by
  simp only[oV,List.map_cons]
  split<;>rename_i h<;>rw[rF,h]
theorem A3:∀ {l:List (G×Item)} {K:List (G×Item)→Tr ρ},yN l K=K l
 |[],K=>rfl
 |(g,⟨i,nm,o⟩)::r,K=>by simp only[yN]; exact A3
theorem sj[ae]{ops:Array Oper}:∀ (l:List Oper) (m i n:Nat),mz (bK i n (l.take m)) (l.map fun o=>(fp ops o,o))=(bK i n (l.take m)).map fun x=>(fp ops x.o,x)
 |[],m,i,n=>by simp[bK,mz]
 |o::r,0,i,n=>by simp[bK,mz]
 |o::r,m+1,i,n=>by
  simp only[List.take_succ_cons,bK,List.map_cons,mz]
  rw[sj]
def lj{den:Nat→Type}(js:List (Nat×lN))(H:ai den)(hp:ag):Prop:=∀ n st,cE js n=some st→recAt H n=true∧iJ hp n=some st
theorem jP{den:Nat→Type}{H:ai den}{n:Nat}(h:recAt H n=true):n<H.length:=by
 grind[recAt]
theorem qG{den:Nat→Type}{H H':ai den}{n:Nat}(h:H'[n]?=H[n]?):recAt H' n=recAt H n:=by unfold recAt; rw[h]
theorem oj{hp cB:ag}{n:Nat}(h:cB[n]?=hp[n]?):iJ cB n=iJ hp n:=by unfold iJ; rw[h]
theorem lj.pz{den:Nat→Type}{js:List (Nat×lN)}{H H':ai den}{hp cB:ag}(h:lj js H hp)(hk:∀ n,recAt H n=true→H'[n]?=H[n]?∧cB[n]?=hp[n]?):lj js H' cB:=by
 intro n st hn
 obtain⟨h1,h2⟩:=h n st hn
 obtain⟨h3,h4⟩:=hk n h1
 exact⟨by rw[qG h3]; exact h1,by rw[oj h4]; exact h2⟩
theorem uD{n:Nat}:∀ {wr:List (Nat×aP)} {hp:ag},n<hp.length→n∉wr.map (·.1)→(ak hp wr)[n]?=hp[n]?
 |[],hp,_,_=>rfl
 |(m,o)::wr,hp,hn,hm=>by
  simp only[List.map_cons,List.mem_cons,not_or]at hm
  simp only[ak]
  have:n<(setObj hp m o).length∧(setObj hp m o)[n]?=hp[n]?:=by
   grind[setObj]
  rw[uD this.1 hm.2,this.2]
theorem lj.re[ae]{js:List (Nat×lN)}{H:ai T.den}{hp:ag}(h:lj js H hp)(hh:RH T H hp){v:SV T.den}{wr:List (Nat×aE T.den)}{e:dK}(he:RE T H hp v wr e):lj js (bh H wr) (ak hp e.wr):=by
 refine h.pz fun n hn=>⟨he.pz n (he.LQ n hn) (jP hn),uD (by rw[←hh.length]; exact jP hn) fun hc=>?_⟩
 obtain⟨q,hq,rfl⟩:=List.mem_map.1 hc
 exact he.LQ _ hn (he.names q hq)
structure RS(T:dP)(s:bC T.den)(st:St):Prop where
 fn:s.fn=st.fn
 n:st.fr.length=s.n
 fr:∀ t,RV T s.hp (cU s.fr t) (st.fr.getD t .undef)
 hp:RH T s.hp st.hp
 js:lj s.js s.hp st.hp
structure bn(s s':bC T.den):Prop where
 fn:s'.fn=s.fn
 n:s'.n=s.n
 fr:∀ t,t∉s'.wf→cU s'.fr t=cU s.fr t
 wf:∀ t,t∈s.wf→t∈s'.wf
 hp:∀ n:Nat,n<s.hp.length→n∉s'.wh→s'.hp[n]?=s.hp[n]?
 wh:∀ n,n∈s.wh→n∈s'.wh
 len:s.hp.length≤s'.hp.length
 grow:dJ s.hp s'.hp
theorem bn.refl[ae](s:bC T.den):bn s s:=⟨rfl,rfl,fun _ _=>rfl,fun _ h=>h,fun _ _ _=>rfl,fun _ h=>h,Nat.le_refl _,dJ.refl _⟩
theorem bn.trans[ae]{s s' uR:bC T.den}(h:bn s s')(h':bn s' uR):bn s uR where
 fn:=h'.fn.trans h.fn
 n:=h'.n.trans h.n
 fr:=fun t ht=>by rw[h'.fr t ht,h.fr t (fun hc=>ht (h'.wf t hc))]
 wf:=fun t ht=>h'.wf t (h.wf t ht)
 hp:=fun n hn ht=>by rw[h'.hp n (Nat.lt_of_lt_of_le hn h.len) ht,h.hp n hn (fun hc=>ht (h'.wh n hc))]
 wh:=fun t ht=>h'.wh t (h.wh t ht)
 len:=Nat.le_trans h.len h'.len
 grow:=h.grow.trans h'.grow
theorem kU{n d t:Nat}{fr:tA T.den}{v:SV T.den}:cU (uq n fr d v) t=if t=d∧d<n then v else cU fr t:=by
 unfold uq
 split
 ·rename_i h
  have:=Nat.le_of_ble_eq_true h
  rw[if_neg (by omega)]
 ·rename_i h
  have:¬n≤d:=fun hc=>by rw[Nat.ble_eq_true_of_le hc]at h; simp at h
  simp only[cU]
  split
  ·rename_i he
   have:=Nat.eq_of_beq_eq_true he
   rw[if_pos (by omega)]
  ·rename_i he
   have:¬d=t:=fun hc=>by subst hc; simp at he
   rw[if_neg (by omega)]
theorem D8{l:List AV}{d t:Nat}{a u:AV}:(l.set d a).getD t u=if t=d∧d<l.length then a else l.getD t u:=by
 grind
theorem RS.step[ae]{s:bC T.den}{st:St}(h:RS T s st){v:SV T.den}{wr:List (Nat×aE T.den)}{e:dK}(he:RE T s.hp st.hp v wr e)(dst:Option Tmp):
  RS T (s.step dst v wr) { st with fr:=bJ st.fr dst e.val,hp:=ak st.hp e.wr }∧bn s (s.step dst v wr):=by
 refine⟨⟨h.fn,?_,fun t=>?_,he.hp,h.js.re h.hp he⟩,⟨rfl,rfl,fun t ht=>?_,fun t ht=>?_,fun n hn ht=>?_,fun n hn=>?_,he.len,he.grow⟩⟩
 ·simp only[bC.step,bJ]; cases dst<;>simp[h.n]
 ·simp only[bC.step]
  cases dst with
  |none=>exact(h.fr t).mono he.grow
  |some d=>
   simp only[Lx,bJ]
   rw[kU,D8,h.n]
   split
   ·exact he.val
   ·exact(h.fr t).mono he.grow
 ·simp only[bC.step]at ht ⊢
  cases dst with
  |none=>rfl
  |some d=>
   simp only[OF,List.mem_cons,not_or]at ht
   simp only[Lx,kU]
   rw[if_neg (by omega)]
 ·simp only[bC.step]
  cases dst with
  |none=>exact ht
  |some d=>exact List.mem_cons_of_mem _ ht
 ·simp only[bC.step,List.mem_append,not_or]at ht ⊢
  exact he.pz n ht.1 hn
 ·simp only[bC.step,List.mem_append]
  exact .inr hn
theorem D9[ae]{H:ai T.den}{hp:ag}(hh:RH T H hp):RE T H hp (.lit undef) [] ⟨.undef,[]⟩:=
 ⟨bp undef,hh,dJ.refl _,fun q h=>by simp at h,fun _ _ _=>rfl,Nat.le_refl _,fun _ _ h=>by simp at h⟩
theorem sk:∀ (c:List Value),aw (den:=T.den) (c.map .lit)=true
 |[]=>by simp[aw]
 |x::r=>by simp only[List.map_cons,aw,aG,sk r,Bool.and_self]
theorem RS.ev[ae]{s:bC T.den}{st:St}(h:RS T s st)(o:Operand):RV T s.hp (dj s.fr o) (aB st.fr o):=by
 cases o with
 |tmp t=>exact h.fr t
 |const v=>
  simp only[dj,aB,Lw,ox]
  cases v with
  |agg c=>
   simp only
   by_cases hc:c.toList.all (fun v=>bg (.lit v))=true
   ·rw[if_pos hc,if_pos hc]
    right
    simp only[R]
    exact⟨_,rfl,RL.lits _⟩
   ·rw[if_neg hc]
    exact .inl rfl
  |tuple c=>
   right
   simp only[im,R]
   exact⟨_,rfl,RL.lits _⟩
  |_=>exact bp _
 |global g=>
  simp only[dj,aB,Cs]
  cases ae.g g with
  |none=>exact bp _
  |some c=>
   right
   simp only[R]
   exact⟨_,rfl,⟨_,rfl,RL.lits _⟩,by simp only[aG]; exact sk _⟩
 |func f=>exact bp _
theorem y8[ae]{g:G}{s:bC T.den}{st:St}(h:RS T s st){K:bC T.den→Bool→Tr ρ}{r:ρ}(hk:(xD g s K).run=some r):
  ∃ s' b,RS T s' st∧bn s s'∧tJ st.fr g=some b∧s'.hp=s.hp∧(K s' b).run=some r:=by
 unfold xD at hk
 split at hk
 ·exact⟨s,true,h,bn.refl _,rfl,rfl,hk⟩
 ·exact⟨s,false,h,bn.refl _,rfl,rfl,hk⟩
 ·rename_i d want
  split at hk
  ·rename_i b hb
   have ha:=(h.fr d).lit hb
   have key:∀ b',b=b'→RS T (s.step (some d) (.lit (.bool b')) []) st∧bn s (s.step (some d) (.lit (.bool b')) []):=by
    rintro b' rfl
    have h1:=h.step (v:=.lit (.bool b)) (wr:=[]) (e:=⟨.lit (.bool b),[]⟩) ⟨bp _,h.hp,dJ.refl _,fun q hq=>by simp at hq,fun _ _ _=>rfl,Nat.le_refl _,fun _ _ h=>by simp at h⟩ (some d)
    refine⟨?_,h1.2⟩
    have e:({ st with fr:=bJ st.fr (some d) (AV.lit (.bool b)),hp:=ak st.hp [] }:St)=st:=by
     have:st.fr.set d (.lit (.bool b))=st.fr:=by
      by_cases hd:d<st.fr.length
      ·refine iy ?_
       rw[List.getD_eq_getElem?_getD]at ha
       rw[List.getElem?_eq_getElem hd]at ha ⊢
       exact congrArg some ha
      ·exact List.set_eq_of_length_le (Nat.le_of_not_lt hd)
     simp only[bJ,ak,this]
    rw[e]at h1
    exact h1.1
   have hw:tJ st.fr (.on d want)=some (b==want):=by simp only[tJ]; rw[ha]; rfl
   rcases fQ hk with ⟨Qn,Fg⟩|⟨Qn,Fg⟩
   ·subst Qn
    rw[cQ]at Fg
    obtain⟨k1,k2⟩:=key true rfl
    exact⟨_,_,k1,k2,hw,rfl,Fg⟩
   ·subst Qn
    rw[cQ]at Fg
    obtain⟨k1,k2⟩:=key false rfl
    exact⟨_,_,k1,k2,hw,rfl,Fg⟩
  ·rename_i x hx
   have ha:=(h.fr d).lit hx
   refine⟨s,false,h,bn.refl _,?_,rfl,hk⟩
   simp only[tJ]; rw[ha]; rfl
  ·simp[Tr.run]at hk
theorem qH[ae]{C:Ctx}{step:Oper→bC T.den→(bC T.den→Tr ρ)→Tr ρ}{r:ρ}
  (dY:∀ o s st K,RS T s st→(step o s K).run=some r→∃ s' st',iL C o st=some (.norm st')∧RS T s' st'∧bn s s'∧(K s').run=some r) :
  ∀ (l:List (G×Oper)) (s:bC T.den) (st:St) (K:bC T.den→Tr ρ),RS T s st→(wR step l s K).run=some r→∃ s' st',tT C l st=some (.norm st')∧RS T s' st'∧bn s s'∧(K s').run=some r
 |[],s,st,K,h,hk=>⟨s,st,rfl,h,bn.refl _,hk⟩
 |(g,o)::l,s,st,K,h,hk=>by
  simp only[wR]at hk
  obtain⟨s1,b,h1,h2,h3,_,hk⟩:=y8 h hk
  cases b with
  |false=>
   simp only at hk
   rw[cQ]at hk
   obtain⟨g1,g2⟩:=h1.step (D9 h1.hp) o.dst
   obtain⟨s',st',i1,i2,i3,hk⟩:=qH dY l _ _ K g1 hk
   refine⟨s',st',?_,i2,(h2.trans g2).trans i3,hk⟩
   simp only[tT,h3]
   exact i1
  |true=>
   simp only at hk
   obtain⟨s2,OW,g1,g2,g3,hk⟩:=dY o s1 st _ h1 hk
   obtain⟨s',st',i1,i2,i3,hk⟩:=qH dY l _ _ K g2 hk
   refine⟨s',st',?_,i2,(h2.trans g3).trans i3,hk⟩
   simp only[tT,h3,g1,Option.bind_some]
   exact i1
def Ca(a b:fS):Prop:=a.idx=b.idx∧(∀ n,n∈a.rd→n∈b.rd)∧∀ n,n∈a.wr→n∈b.wr
theorem HG{a a' b b':List Nat}(ha:∀ n,n∈a→n∈a')(hb:∀ n,n∈b→n∈b')(h:EW a' b'=true):EW a b=true:=by
 grind[decide_eq_false_iff_not,EW]
theorem IX[ae]{pr:List Nat}{x x' y y':fS}(hx:Ca x x')(hy:Ca y y')(h:ss pr x' y'=true):ss pr x y=true:=by
 unfold ss at h ⊢
 rw[hx.1,hy.1]
 simp only[Bool.or_eq_true,Bool.and_eq_true]at h ⊢
 refine h.imp id fun h=>⟨HG hx.2.2 (fun n hn=>?_) h.1,HG hy.2.2 hx.2.1 h.2⟩
 simp only[List.mem_append]at hn ⊢
 exact hn.imp (hy.2.1 n) (hy.2.2 n)
theorem y9[ae]{pr:List Nat}:∀ {l l':List fS},ay Ca l l'→fo pr l'=true→fo pr l=true
 |[],[],_,_=>rfl
 |x::xs,y::ys,h,hk=>by
  simp only[fo,Bool.and_eq_true]at hk ⊢
  refine⟨?_,y9 h.2 hk.2⟩
  rw[List.all_eq_true]at hk ⊢
  intro z hz
  obtain⟨i,hi⟩:=List.getElem?_of_mem hz
  obtain⟨z',Qz,hle⟩:=ay.get h.2 hi
  exact IX h.1 hle (hk.1 z' (List.mem_of_getElem? Qz))
theorem Cb{pr:List Nat}{fs:List fS}(h:rB pr fs=true):fo pr fs=true:=by
 unfold rB at h
 split at h
 ·rename_i hw
  clear h
  induction fs with
  |nil=>rfl
  |cons x xs ih=>
   simp only[List.all_cons,Bool.and_eq_true]at hw
   simp only[fo,Bool.and_eq_true]
   refine⟨?_,ih hw.2⟩
   rw[List.all_eq_true]
   intro y hy
   have h2:=List.all_eq_true.1 hw.2 y hy
   have e1:x.wr=[]:=by simpa using hw.1
   have e2:y.wr=[]:=by simpa using h2
   simp[ss,e1,e2,EW]
 ·exact h
def L3[ae]:Nat→List Item→Prop
 |_,[]=>True
 |n,x::r=>x.nm=n∧L3 (if au x.o.op then n+1 else n) r
def tk[ae](l:List Item):Nat:=(l.filter fun x=>au x.o.op).length
theorem qI[ae](x:Item)(l:List Item):tk (x::l)=(if au x.o.op then 1 else 0)+tk l:=by
 grind[tk]
theorem zb[ae]:∀ (l:List Oper) (i n:Nat),tk (bK i n l)=(l.filter fun o=>au o.op).length
 |[],_,_=>rfl
 |o::r,i,n=>by
  rw[bK,qI,zb r,List.filter_cons]
  split<;>simp[*]<;>omega
theorem A4[ae]:∀ (l:List Oper) (i n:Nat),L3 n (bK i n l)
 |[],_,_=>trivial
 |_::r,i,n=>⟨rfl,A4 r (i+1) _⟩
theorem uE:∀ {wr:List (Nat×aE T.den)} {H:ai T.den},(∀ q,q∈wr→q.1<H.length)→(bh H wr).length=H.length
 |[],H,_=>rfl
 |(n,o)::wr,H,h=>by
  have h0:=h (n,o) (by simp)
  have e:(bQ H n o).length=H.length:=by
   grind[bQ]
  simp only[bh]
  rw[uE (fun q hq=>by rw[e]; exact h q (List.mem_cons_of_mem _ hq)),e]
theorem vY[ae]{C:Ctx}{ops:Array Oper}{step:Nat→Oper→bC T.den→EK T ρ→Tr ρ}{r:ρ}
  (dY:∀ nm o s st K,RS T s st→(nm=s.hp.length∨s.hp[nm]?=some none)→(au o.op=false→nm=s.hp.length)→(step nm o s K).run=some r →
    ∃ v wr rd e lg,CP C nm o st.fr st.hp=some (e,lg)∧(∀ n,n∈lg→n∈rd)∧RE T s.hp st.hp v wr e∧(K v wr rd).run=some r) :
  ∀ (l:List Item) (n:Nat) (s:bC T.den) (st:St) (fs:List fS) (K:bC T.den→List fS→Tr ρ),L3 n l→n+tk l=s.hp.length→(∀ m:Nat,n≤m→m<s.hp.length→s.hp[m]?=some none)→RS T s st →
    (ta step (l.map fun x=>(fp ops x.o,x)) s fs K).run=some r →
    ∃ s' st' RB NV,tP C ops l st=some (st',NV)∧ay Ca NV RB∧RS T s' st'∧bn s s'∧(K s' (fs++RB)).run=some r
 |[],n,s,st,fs,K,_,_,_,h,hk=>⟨s,st,[],[],rfl,trivial,h,bn.refl _,by simpa[ta] using hk⟩
 |x::l,n,s,st,fs,K,hn,hle,pU,h,hk=>by
  obtain⟨Tx,KD⟩:=hn
  simp only[List.map_cons,ta]at hk
  obtain⟨s1,b,h1,h2,h3,h4,hk⟩:=y8 h hk
  have hw:cS ops st.fr x.o=some b:=by rw[Cv]; exact h3
  cases b with
  |false=>
   simp only at hk
   rw[cQ]at hk
   obtain⟨g1,g2⟩:=h1.step (D9 h1.hp) x.o.dst
   have ehp:(s1.step x.o.dst (.lit undef) []).hp=s.hp:=by simp only[bC.step,bh]; exact h4
   have hinv:∀ m:Nat,(if au x.o.op then n+1 else n)≤m→m<(s1.step x.o.dst (.lit undef) []).hp.length→(s1.step x.o.dst (.lit undef) []).hp[m]?=some none:=by
    grind
   have hb:(if au x.o.op then n+1 else n)+tk l=s.hp.length:=by
    rw[qI]at hle; split<;>simp_all<;>omega
   ·obtain⟨s',st',RB,NV,i1,i2,i3,i4,hk⟩:=vY dY l _ _ _ _ K KD (by rw[ehp]; exact hb) hinv g1 hk
    refine⟨s',st',⟨x.idx,[],[]⟩::RB,⟨x.idx,[],[]⟩::NV,?_,⟨⟨rfl,fun _ h=>h,fun _ h=>h⟩,i2⟩,i3,(h2.trans g2).trans i4,by simpa using hk⟩
    simp only[tP,CQ,hw,Option.bind_some]
    have Xk:tP C ops l { st with fr:=bJ st.fr x.o.dst .undef }=some (st',NV):=i1
    rw[Xk]; rfl
  |true=>
   simp only at hk
   have oC:x.at s1.hp.length=s1.hp.length∨s1.hp[x.at s1.hp.length]?=some none:=by
    grind[Item.at]
   obtain⟨v,wr,rd,e,lg,e1,e2,e3,hk⟩:=dY (x.at s1.hp.length) x.o s1 st _ h1 oC (fun h=>by simp only[Item.at,h]) hk
   rw[show s1.hp.length=st.hp.length from h1.hp.length]at e1
   split at hk
   case h_2=>simp[Tr.run]at hk
   rename_i Ij
   rw[List.all_eq_true]at Ij
   rw[cQ]at hk
   obtain⟨g1,g2⟩:=h1.step e3 x.o.dst
   have aX:∀ q,q∈wr→q.1<s1.hp.length∧((au x.o.op=true∧q.1=x.nm)∨∃ o,s1.hp[q.1]?=some (some o)):=by
    grind
   have T7:(s1.step x.o.dst v wr).hp.length=s.hp.length:=by
    simp only[bC.step]
    rw[uE (fun q hq=>(aX q hq).1),h4]
   have hinv:∀ m:Nat,(if au x.o.op then n+1 else n)≤m→m<(s1.step x.o.dst v wr).hp.length→(s1.step x.o.dst v wr).hp[m]?=some none:=by
    intro m hm CE
    rw[T7]at CE
    have hold:s1.hp[m]?=some none:=by rw[h4]; exact pU m (by split at hm<;>omega) CE
    simp only[bC.step]
    rw[e3.pz m ?_ (by rw[h4]; exact CE)]
    ·exact hold
    ·grind
   have hb:(if au x.o.op then n+1 else n)+tk l=s.hp.length:=by
    rw[qI]at hle; split<;>simp_all<;>omega
   ·obtain⟨s',st',RB,NV,i1,i2,i3,i4,hk⟩:=vY dY l _ _ _ _ K KD (by rw[T7]; exact hb) hinv g1 hk
    refine⟨s',st',⟨x.idx,rd,wr.map (·.1)⟩::RB,⟨x.idx,lg,e.wr.map (·.1)⟩::NV,?_,⟨⟨rfl,e2,fun n hn=>?_⟩,i2⟩,i3,(h2.trans g2).trans i4,by simpa using hk⟩
    ·simp only[tP,CQ,hw,e1,Option.bind_some,Qv]
     rw[if_pos ?_]
     ·simp_all
     ·rw[List.all_eq_true]
      intro q hq
      obtain⟨q',hq',eq'⟩:=List.mem_map.1 (e3.names q hq)
      obtain⟨c1,c2⟩:=aX q' hq'
      rw[eq']at c1 c2
      simp only[Bool.and_eq_true,decide_eq_true_eq,Bool.or_eq_true]
      refine⟨by rw[←h1.hp.length]; exact c1,c2.imp id fun⟨o,ho⟩=>?_⟩
      obtain⟨a,ha,_⟩:=h1.hp.obj ho
      rw[ha]
    ·obtain⟨q,hq,rfl⟩:=List.mem_map.1 hn
     exact e3.names q hq
end Go.PI
end
section
/- PS, part M: what is dropped; results; calls of what is looked into. -/
namespace Go.PI
variable {T:dP}{ρ:Type}
section
variable {den:Nat→Type}{n:Nat}
mutual
theorem lM:∀ {v:SV den},aG v=true→bx n v=true
 |.dead,h=>by simp[aG]at h
 |.hole,h=>by simp[aG]at h
 |.lit v,h=>rfl
 |.agg l,h=>by simp only[aG]at h; simp only[bx]; exact eQ h
 |.jU l,h=>by simp only[aG]at h; simp only[bx]; exact eQ h
 |.sl l,h=>rfl
 |.jT t l,h=>rfl
 |.xB t l c b,h=>rfl
 |.nz,h=>rfl
 |.bk e j,h=>rfl
 |.ref ..,h=>by simp[aG]at h
 |.jt ..,h=>by simp[aG]at h
 |.bu ..,h=>by simp[aG]at h
 |.ju fn f c,h=>by
  simp only[aG,Bool.and_eq_true]at h
  simp only[bx,Bool.and_eq_true]
  exact⟨eQ h.1,eQ h.2⟩
 |.gH t v,h=>by simp only[aG]at h; simp only[bx]; exact lM h
 |.tz v s l i,h=>by simp only[aG]at h; simp only[bx]; exact lM h
 |.mp ..,h=>by simp[aG]at h
theorem eQ:∀ {l:List (SV den)},aw l=true→gV n l=true
 |[],_=>rfl
 |x::xs,h=>by
  simp only[aw,Bool.and_eq_true]at h
  simp only[gV,Bool.and_eq_true]
  exact⟨lM h.1,eQ h.2⟩
end
end
section
variable {H:ai T.den}{hp:ag}{n:Nat}
theorem gh.take{den:Nat→Type}{H:ai den}{m c aq:Nat}(h:gh H m c aq)(hm:m<n):gh (H.take n) m c aq:=by
 obtain⟨o,h1,h2,h3⟩:=h
 exact⟨o,by rw[List.getElem?_take_of_lt hm]; exact h1,h2,h3⟩
mutual
theorem R.take:∀ {v:SV T.den} {a:AV},R T H v a→bx n v=true→R T (H.take n) v a
 |.dead,_,h,_=>by simp[R]at h
 |.hole,_,h,_=>by simpa[R] using h
 |.lit v,a,h,_=>by simpa[R] using h
 |.agg l,a,h,hb=>by
  simp only[R]at h ⊢
  simp only[bx]at hb
  obtain⟨l',h1,h2⟩:=h
  exact⟨l',h1,RL.take h2 hb⟩
 |.jU l,a,h,hb=>by
  simp only[R]at h ⊢
  simp only[bx]at hb
  obtain⟨l',h1,h2⟩:=h
  exact⟨l',h1,RL.take h2 hb⟩
 |.sl l,a,h,_=>by
  simp only[R]at h ⊢
  obtain⟨l',h1,h2,h3⟩:=h
  exact⟨l',h1,RL.take h2 (eQ h3),h3⟩
 |.jT t l,a,h,_=>by simpa[R] using h
 |.xB t l c b,a,h,_=>by simp only[R]at h ⊢; exact h
 |.nz,a,h,_=>by simp only[R]at h ⊢; exact h
 |.bk e j,a,h,_=>by
  simp only[R]at h ⊢
  obtain⟨e',h1,h2,h3⟩:=h
  exact⟨e',h1,R.take h2 (lM h3),h3⟩
 |.ref m c i j,a,h,hb=>by
  simp only[R]at h ⊢
  simp only[bx,decide_eq_true_eq]at hb
  obtain⟨aq,h1,h2⟩:=h
  exact⟨aq,h1,h2.take hb⟩
 |.jt m c i j ln cp,a,h,hb=>by
  simp only[R]at h ⊢
  simp only[bx,decide_eq_true_eq]at hb
  obtain⟨aq,h1,h2⟩:=h
  exact⟨aq,h1,h2.take hb⟩
 |.bu esz m c rg cap,a,h,hb=>by
  simp only[R]at h ⊢
  simp only[bx,decide_eq_true_eq]at hb
  obtain⟨aq,h1,h2⟩:=h
  exact⟨aq,h1.take hb,h2⟩
 |.ju fn f c,a,h,hb=>by
  simp only[R]at h ⊢
  simp only[bx,Bool.and_eq_true]at hb
  obtain⟨f',c',h1,h2,h3⟩:=h
  exact⟨f',c',h1,RL.take h2 hb.1,RL.take h3 hb.2⟩
 |.gH t v,a,h,hb=>by
  simp only[R]at h ⊢
  simp only[bx]at hb
  obtain⟨v',h1,h2⟩:=h
  exact⟨v',h1,R.take h2 hb⟩
 |.mp y m,a,h,hb=>by
  simp_all[R,bx]
 |.tz v s l i,a,h,hb=>by
  simp only[R]at h ⊢
  simp only[bx]at hb
  obtain⟨a0,h1,h2⟩:=h
  exact⟨a0,R.take h1 hb,h2⟩
theorem RL.take:∀ {l:List (SV T.den)} {m:List AV},RL T H l m→gV n l=true→RL T (H.take n) l m
 |[],[],_,_=>by simp[RL]
 |x::xs,y::ys,h,hb=>by
  simp only[RL]at h ⊢
  simp only[gV,Bool.and_eq_true]at hb
  exact⟨R.take h.1 hb.1,RL.take h.2 hb.2⟩
 |[],_::_,h,_=>by simp[RL]at h
 |_::_,[],h,_=>by simp[RL]at h
end
theorem gh.lt{den:Nat→Type}{H:ai den}{m c aq:Nat}(h:gh H m c aq):m<H.length:=by
 obtain⟨o,h1,_⟩:=h
 exact(List.getElem?_eq_some_iff.1 h1).1
mutual
theorem R.lt:∀ {v:SV T.den} {a:AV},R T H v a→bx H.length v=true
 |.dead,_,h=>by simp[R]at h
 |.hole,_,h=>rfl
 |.lit v,a,h=>rfl
 |.agg l,a,h=>by
  simp only[R]at h
  simp only[bx]
  obtain⟨l',h1,h2⟩:=h
  exact RL.lt h2
 |.jU l,a,h=>by
  simp only[R]at h
  simp only[bx]
  obtain⟨l',h1,h2⟩:=h
  exact RL.lt h2
 |.sl l,a,h=>rfl
 |.jT t l,a,h=>rfl
 |.xB t l c b,a,h=>rfl
 |.nz,a,h=>rfl
 |.bk e j,a,h=>rfl
 |.ref m c i j,a,h=>by
  simp only[R]at h
  simp only[bx,decide_eq_true_eq]
  obtain⟨aq,h1,h2⟩:=h
  exact h2.lt
 |.jt m c i j ln cp,a,h=>by
  simp only[R]at h
  simp only[bx,decide_eq_true_eq]
  obtain⟨aq,h1,h2⟩:=h
  exact h2.lt
 |.bu esz m c rg cap,a,h=>by
  simp only[R]at h
  simp only[bx,decide_eq_true_eq]
  obtain⟨aq,h1,h2⟩:=h
  exact h1.lt
 |.ju fn f c,a,h=>by
  simp only[R]at h
  simp only[bx,Bool.and_eq_true]
  obtain⟨f',c',h1,h2,h3⟩:=h
  exact⟨RL.lt h2,RL.lt h3⟩
 |.gH t v,a,h=>by
  simp only[R]at h
  simp only[bx]
  obtain⟨v',h1,h2⟩:=h
  exact R.lt h2
 |.mp y m,a,h=>by
  grind[R,bx]
 |.tz v s l i,a,h=>by
  simp only[R]at h
  simp only[bx]
  obtain⟨a0,h1,h2⟩:=h
  exact R.lt h1
theorem RL.lt:∀ {l:List (SV T.den)} {m:List AV},RL T H l m→gV H.length l=true
 |[],[],_=>rfl
 |x::xs,y::ys,h=>by
  simp only[RL]at h
  simp only[gV,Bool.and_eq_true]
  exact⟨R.lt h.1,RL.lt h.2⟩
 |[],_::_,h=>by simp[RL]at h
 |_::_,[],h=>by simp[RL]at h
end
theorem zc{n:Nat}:∀ {l:List AV},c7 n l=l.all (below n)
 |[]=>rfl
 |x::xs=>by simp only[c7,List.all_cons,zc]
theorem nG:∀ {a:AV},closed a=true→below n a=true
 |.lit _,_=>rfl
 |.agg l,h=>by simp only[Go.PI.closed]at h; simp only[Go.PI.below]; exact gD h
 |.jU l,h=>by simp only[Go.PI.closed]at h; simp only[Go.PI.below]; exact gD h
 |.sl _,_|.pJ _ _,_|.bk _ _,_|.any,_|.nz,_=>rfl
 |.ref ..,h|.bu ..,h|.jt ..,h|.mp ..,h=>by simp[Go.PI.closed]at h
 |.ju fn f c,h=>by
  simp only[Go.PI.closed,Bool.and_eq_true]at h
  simp only[Go.PI.below,Bool.and_eq_true]
  exact⟨gD h.1,gD h.2⟩
 |.gH t v,h=>by simp only[Go.PI.closed]at h; simp only[Go.PI.below]; exact nG h
where gD:∀ {l:List AV},bc l=true→c7 n l=true
 |[],_=>rfl
 |x::xs,h=>by
  simp only[bc,Bool.and_eq_true]at h
  simp only[c7,Bool.and_eq_true]
  exact⟨nG h.1,gD h.2⟩
theorem zd(hT:T.Ok){t:Nat}:∀ {l:List (T.den t)} {m:List AV},ay (T.rp t) l m→c7 n m=true
 |[],[],_=>rfl
 |_::_,_::_,h=>by
  simp only[c7,Bool.and_eq_true]
  exact⟨nG (hT.closed _ _ _ h.1),zd hT h.2⟩
theorem Ea:∀ {fr:List (SV T.den)} {vs:List AV},ay (RD T H) fr vs→(fr.all fun v=>bV v||bx n v)=c7 n vs
 |[],[],_=>rfl
 |v::fr,a::vs,h=>by
  simp only[List.all_cons,c7]
  rw[Ea h.2]
  congr 1
  rcases h.1 with ⟨rfl,rfl⟩|h1
  ·rfl
  ·have:bV v=false:=by cases v<;>first|rfl|simp[R]at h1
   rw[this,R.below h1]; rfl
theorem A5[ae](hT:T.Ok){o:Option (aE T.den)}{a:Option aP}(h:B5 T H o a):kC n o=kW n a:=by
 cases o with
 |none=>cases a with
  |none=>rfl
  |some a=>exact h.elim
 |some o=>cases a with
  |none=>exact h.elim
  |some a=>
   cases o with
   |arr g cl f cur es=>
    obtain⟨es',rfl,cP,_⟩:=h
    simp only[kC,kW,aP.below]
    rw[RL.below cP]
   |cj g f cur t l=>obtain⟨es',rfl,_⟩:=h; rfl
   |iB=>
    rcases h with ⟨g,f,es',rfl⟩|⟨k,vs,rfl,h⟩
    ·rfl
    ·exact(h n).symm
   |kO kk t m=>
    obtain⟨vs,rfl,h⟩:=h
    exact(zd hT h).symm
   |pA fn ps as bd fr=>
    obtain⟨st,vs,rfl,h⟩:=h
    exact Ea h
theorem lV[ae](hT:T.Ok):∀ {l:List (Option (aE T.den))} {m:List (Option aP)},ay (B5 T H) l m→l.all (kC n)=m.all (kW n)
 |[],[],_=>rfl
 |_::_,_::_,h=>by simp only[List.all_cons]; rw[A5 hT h.1,lV hT h.2]
theorem RO.take[ae]{o:aE T.den}{a:aP}(h:RO T H o a)(hb:kC n (some o)=true):RO T (H.take n) o a:=by
 cases o with
 |arr g cl f cur es=>
  obtain⟨es',h1,h2,h3⟩:=h
  refine⟨es',h1,RL.take h2 ?_,h3⟩
  simp only[kC,Bool.or_eq_true]at hb
  rcases hb with hb|hb
  ·exact eQ (h3 hb)
  ·exact hb
 |cj g f cur t l=>exact h
 |iB=>exact h
 |kO kk t m=>exact h
 |pA fn ps as bd fr=>
  obtain⟨st,vs,h1,h2⟩:=h
  refine⟨st,vs,h1,ay.eL h2.length fun i x y hx hy=>?_⟩
  obtain⟨y',Bv,hr⟩:=ay.get h2 hx
  rw[hy]at Bv
  simp only[Option.some.injEq]at Bv
  subst Bv
  simp only[kC,List.all_eq_true]at hb
  have:=hb x (List.mem_of_getElem? hx)
  rcases hr with hr|hr
  ·exact .inl hr
  ·have hd:bV x=false:=by cases x<;>first|rfl|simp[R]at hr
   rw[hd,Bool.false_or]at this
   exact .inr (hr.take this)
theorem RH.take[ae](hh:RH T H hp)(hb:(H.take n).all (kC n)=true):RH T (H.take n) (hp.take n):=by
 have h:=ay.take hh n
 rw[List.all_eq_true]at hb
 refine ay.eL h.length fun i x y hx hy=>?_
 obtain⟨y',Bv,hr⟩:=ay.get h hx
 rw[hy]at Bv
 simp only[Option.some.injEq]at Bv
 subst Bv
 have:=hb x (List.mem_of_getElem? hx)
 cases x with
 |none=>cases y with
  |none=>trivial
  |some _=>exact hr.elim
 |some o=>cases y with
  |none=>exact hr.elim
  |some a=>exact RO.take hr this
theorem IY[ae](hT:T.Ok)(hh:RH T H hp){v:SV T.den}{a:AV}(hv:R T H v a):RH T (gB n v H) (ic n a hp)∧R T (gB n v H) v a:=by
 unfold gB ic
 rw[R.below hv,lV hT (ay.take hh n)]
 by_cases hc:(Go.PI.below n a&&(hp.take n).all (kW n))=true
 ·rw[if_pos hc,if_pos hc]
  simp only[Bool.and_eq_true]at hc
  exact⟨hh.take (by rw[lV hT (ay.take hh n)]; exact hc.2),hv.take (by rw[R.below hv]; exact hc.1)⟩
 ·grind
theorem Eb{fr:tA T.den}{t:Nat}:cU (fr.map fun q=>(q.1,rn n q.2)) t=rn n (cU fr t):=by
 induction fr with
 |nil=>rfl
 |cons q r ih=>
  grind[cU]
theorem RV.forget[ae]{v:SV T.den}{a:AV}(h:RV T H v a):RV T (H.take n) (rn n v) (Go.PI.forget n a):=by
 unfold rn Go.PI.forget
 rcases h with rfl|h
 ·left; simp[bx]
 ·rw[R.below h]
  split
  ·rename_i hb; right; exact h.take (by rw[R.below h]; exact hb)
  ·exact .inl rfl
theorem Ed{l:List AV}{t:Nat}:(l.map (Go.PI.forget n)).getD t .undef=Go.PI.forget n (l.getD t .undef):=by
 simp only[List.getD_eq_getElem?_getD,List.getElem?_map]
 cases l[t]?<;>rfl
theorem lj.take{js:List (Nat×lN)}(h:lj js H hp)(hj:∀ m x,cE js m=some x→m<n):lj js (H.take n) (hp.take n):=by
 intro m x hm
 obtain⟨h1,h2⟩:=h m x hm
 have bE:=hj m x hm
 exact⟨by rw[qG (List.getElem?_take_of_lt bE)]; exact h1,by rw[oj (List.getElem?_take_of_lt bE)]; exact h2⟩
theorem A6{js:List (Nat×lN)}(h:tb js n=true):∀ m x,cE js m=some x→m<n:=by
 intro m x hm
 have:=List.all_eq_true.1 h _ (gY hm)
 exact Nat.le_of_ble_eq_true this
theorem Ee[ae](hT:T.Ok){s:bC T.den}{st:St}(h:RS T s st)(hj:∀ m x,cE s.js m=some x→m<n):RS T (km n s) (ib n st):=by
 unfold km ib
 rw[lV hT (ay.take h.hp n)]
 by_cases hc:(st.hp.take n).all (kW n)=true
 ·rw[if_pos hc,if_pos hc]
  refine⟨h.fn,by simp[h.n],fun t=>?_,h.hp.take (by rw[lV hT (ay.take h.hp n)]; exact hc),h.js.take hj⟩
  rw[Eb,Ed]
  exact(h.fr t).forget
 ·rw[if_neg hc,if_neg hc]
  exact h
theorem nH{den:Nat→Type}{H:ai den}{m:Nat}(hm:m<n):(H.take n)[m]?=H[m]?:=List.getElem?_take_of_lt hm
theorem wY[ae]{s s':bC T.den}{st:St}(h:RS T s st)(ha:bn s s'):bn s (km s.hp.length s'):=by
 unfold km
 split
 ·refine⟨ha.fn,ha.n,fun t ht=>?_,ha.wf,fun n hn hw=>?_,ha.wh,?_,?_⟩
  ·simp only at ht ⊢
   rw[Eb,ha.fr t ht]
   unfold rn
   rcases h.fr t with hv|hv
   ·rw[hv]; simp[bx]
   ·rw[if_pos hv.lt]
  ·simp only at hw ⊢
   rw[nH hn]
   exact ha.hp n hn hw
  ·simp only[List.length_take]
   have:=ha.len
   omega
  ·intro n o ho
   obtain⟨o',h1,h2⟩:=ha.grow n o ho
   have bE:=(List.getElem?_eq_some_iff.1 ho).1
   exact⟨o',by simp only; rw[nH bE]; exact h1,h2⟩
 ·exact ha
theorem o7[ae](hT:T.Ok){Q:ik}(hQ:Q.Ok){s:bC T.den}{st:St}(h:RS T s st){r:ρ}:∀ {rs:List ResultVar} {K:List (SV T.den)→Tr ρ},(sW T Q s rs K).run=some r →
  ∃ l m,(aW Q.P st.fr rs).run st.hp=some m∧RL T s.hp l m∧(K l).run=some r
 |[],K,hk=>⟨[],[],rfl,by simp[RL],hk⟩
 |.tmp t::rs,K,hk=>by
  simp only[sW]at hk
  split at hk
  ·simp[Tr.run]at hk
  ·rename_i dE
   obtain⟨l,m,h1,h2,hk⟩:=o7 hT hQ h hk
   refine⟨_,st.fr.getD t .undef::m,?_,?_,hk⟩
   ·simp_all[aW,kx,RM.run_bind,RM.run_pure,h1]
   ·simp only[RL]
    refine⟨?_,h2⟩
    rcases h.fr t with hd|hd
    ·simp_all
    ·exact hd
 |.cell a t::rs,K,hk=>by
  simp only[sW]at hk
  split at hk
  case h_2=>simp[Tr.run]at hk
  rename_i m hm
  obtain⟨q,h1,h2,h3,_⟩:=hQ.row _ _ hm
  have:∃ v c rd,aH st.hp (ll Q.P t (st.fr.getD a .undef)) c rd∧R T s.hp v c∧(sW T Q s rs fun l=>K (v::l)).run=some r:=
   DZ (K:=fun v _ _=>sW T Q s rs fun l=>K (v::l)) hT h1 h2 h3 h.hp (h.fr a) hk
  obtain⟨v,c,rd,g1,g2,hk⟩:=this
  obtain⟨l,m',i1,i2,hk⟩:=o7 hT hQ h hk
  refine⟨_,c::m',?_,?_,hk⟩
  ·simp only[aW,kx,RM.run_bind,g1.1,RM.run_pure,Option.bind_some,i1]
  ·simp only[RL]
   exact⟨g2,i2⟩
theorem gE[ae]{fv:SV T.den}{fa:AV}(hf:RV T H fv fa){args:List (SV T.den)}{as:List AV}(ha:ay (RV T H) args as){g:FuncId}{l:List (SV T.den)}(h:my fv args=some (g,l)):
  ∃ m,bH fa as=some (g,m)∧(l.any bV=false→RL T H l m):=by
 unfold my at h
 split at h
 ·rename_i f first captured
  simp only[Option.some.injEq,Prod.mk.injEq]at h
  obtain⟨rfl,rfl⟩:=h
  have:=hf.lit rfl
  subst this
  refine⟨_,rfl,fun hd=>?_⟩
  refine jo ?_ hd
  exact((aU.1 (RL.lits first.toList)).mono fun _ _ h=>.inr h).append ha |>.append ((aU.1 (RL.lits captured.toList)).mono fun _ _ h=>.inr h)
 ·rename_i f first captured
  simp only[Option.some.injEq,Prod.mk.injEq]at h
  obtain⟨rfl,rfl⟩:=h
  have:=hf.live rfl
  simp only[R]at this
  obtain⟨f',c',rfl,h1,h2⟩:=this
  refine⟨_,rfl,fun hd=>?_⟩
  refine jo ?_ hd
  exact((aU.1 h1).mono fun _ _ h=>.inr h).append ha |>.append ((aU.1 h2).mono fun _ _ h=>.inr h)
 ·simp at h
theorem Ef[ae]{P:Program}{fv:SV T.den}{fa:AV}(hf:RV T H fv fa){name:String}{g:FuncId}{x:SV T.den}(h:Hu P fv name=some (g,x)):∃ ax,pN P fa name=some (g,ax)∧R T H x ax:=by
 unfold Hu at h
 split at h
 ·rename_i t y
  simp only[Option.map_eq_some_iff,Prod.mk.injEq]at h
  obtain⟨f,hm,rfl,rfl⟩:=h
  have:=hf.live rfl
  simp only[R]at this
  obtain⟨a,rfl,ha⟩:=this
  exact⟨a,by simp only[pN,hm,Option.map_some],ha⟩
 ·simp at h
theorem vZ:∀ {l:List (SV T.den)} {d t:Nat},cU (na d l) t=if d≤t then (match l[t-d]? with|some v=>v|none=>.lit undef) else .lit undef
 |[],d,t=>by simp[na,cU]
 |v::r,d,t=>by
  simp only[na,cU]
  split
  ·simp_all
  ·rename_i he
   have dE:d≠t:=fun hc=>by subst hc; simp at he
   rw[vZ]
   by_cases hd:d≤t
   ·grind
   ·rw[if_neg hd,if_neg (by omega)]
theorem ze[ae]{f:FuncId}{args:List (SV T.den)}{as:List AV}(ha:RL T H args as)(hh:RH T H hp)(n:Nat)(wh:List Nat){js:List (Nat×lN)}(hj:lj js H hp):
  RS T ⟨f,max n args.length,na 0 args,H,[],wh,js⟩ ⟨f,as++List.replicate (n-as.length) .undef,hp⟩:=by
 have hl:=ha.length
 refine⟨rfl,by simp; omega,fun t=>?_,hh,hj⟩
 simp only
 rw[vZ]
 simp only[Nat.zero_le,if_true,Nat.sub_zero,List.getD_eq_getElem?_getD]
 by_cases ht:t<as.length
 ·rw[List.getElem?_append_left ht]
  obtain⟨v,hv,hr⟩:=ay.get' (aU.1 ha) (List.getElem?_eq_getElem ht)
  rw[hv,List.getElem?_eq_getElem ht]
  exact .inr hr
 ·rw[List.getElem?_append_right (by omega)]
  have e1:args[t]?=none:=List.getElem?_eq_none (by omega)
  rw[e1]
  simp only
  rw[List.getElem?_replicate]
  split<;>exact bp undef
end
end Go.PI
end
section
/- PS, part N: states with variables. -/
namespace Go.PI
variable {T:dP}{ρ:Type}
def jQ{den:Nat→Type}(H:ai den)(n:Nat):Option Nat:=
 match H[n]? with
 |some (some o)=>some o.cur
 |_=>none
theorem o8{den:Nat→Type}{H:ai den}{n:Nat}{o:aE den}(h:H[n]?=some (some o)):jQ H n=some o.cur:=by simp[jQ,h]
theorem rG{den:Nat→Type}{H:ai den}{n c:Nat}(h:jQ H n=some c):∃ o,H[n]?=some (some o)∧o.cur=c:=by
 grind[jQ]
def Eg{den:Nat→Type}(ok:Nat→Prop)(Hs Hf:ai den):Prop:=∀ (n:Nat) (o:aE den),ok n→Hs[n]?=some (some o)→∃ of:aE den,Hf[n]?=some (some of)∧of.len=o.len
section
variable {Hs Hf Hc:ai T.den}{ok:Nat→Prop}
theorem T8{H:ai T.den}{v:SV T.den}{k:IntKind}{m:Int}(h:R T H v (.lit (.int k m))):v=.lit (.int k m):=by
 cases v with
 |lit w=>simp_all[R,AV.lit.injEq]
 |bu esz n c rg cap=>
  grind[R]
 |tz v st ln i=>
  simp only[R]at h
  obtain⟨_,_,_,h⟩:=h
  rcases h with ⟨_,_,_,_,_,h⟩|⟨_,_,_,h⟩<;>cases h
 |_=>simp[R]at h
theorem Ge[ae](hT:T.Ok){H:ai T.den}{t m:Nat}{x:T.den t}(h:T.dn t (.lit (.int .i64 m))=some x):II T ⟨.v t,x⟩=m:=by
 have h1:=hT.dn _ _ _ (.lit (.int .i64 m)) H h (by simp[R])
 have h2:=T8 (hT.up _ _ _ H h1)
 show (match T.up t x with|.lit (.int _ m)=>m.toNat|_=>0)=m
 rw[h2]
 simp
theorem tm[ae](hT:T.Ok)(mu:∀ n,jQ Hc n=jQ Hf n)(hlen:Eg ok Hs Hf){p:pC}(bM:∀ n,n∈p.kP→ok n){v:SV T.den}{a:AV}(hv:RV T Hs v a){ln:List (TV T.den)}(h:fV Hs p v=some ln)(rest:List (TV T.den)):
  ∃ v',gg Hc p (ln++rest)=(v',rest)∧R T Hf v' a∧(aG v=true→aG v'=true):=by
 cases p with
 |hole=>
  simp only[fV]at h
  split at h
  case h_2=>simp at h
  rename_i hh
  simp only[Option.some.injEq]at h
  subst h
  unfold isHole at hh
  split at hh
  case h_2=>simp at hh
  have hv:=hv.live rfl
  simp only[R]at hv
  subst hv
  exact⟨.hole,rfl,by simp[R],fun h=>h⟩
 |val t=>
  simp only[fV]at h
  split at h
  ·simp at h
  rename_i hd
  split at h
  case h_2=>simp at h
  rename_i x hx
  simp only[Option.some.injEq]at h
  subst h
  have EU:=hT.dn _ _ _ _ Hs hx (hv.live hd)
  exact⟨T.up t x,rfl,hT.up _ _ _ Hf EU,fun _=>vS hT EU⟩
 |ID esz n rg cap=>
  simp only[fV]at h
  split at h
  case h_2=>simp at h
  rename_i yM n' c WV F4
  have hv:=hv.live rfl
  split at h
  case h_2=>simp at h
  rename_i o ho
  split at h
  case isFalse=>simp at h
  rename_i hc
  obtain⟨rfl,rfl,rfl,rfl,rfl⟩:=hc
  simp only[Option.some.injEq]at h
  subst h
  obtain⟨of,L4,Gf⟩:=hlen _ _ (bM _ (by simp[pC.kP])) ho
  have nJ:=mu n'
  rw[o8 L4]at nJ
  obtain⟨oc,Cm,RC⟩:=rG nJ
  refine⟨.bu yM n' oc.cur WV F4,?_,?_,fun h=>by simp[aG]at h⟩
  ·simp only[gg,Cm,List.nil_append]
  ·simp only[R]at hv ⊢
   obtain⟨aq,⟨o',h1,_,h3⟩,ha⟩:=hv
   rw[ho]at h1
   simp only[Option.some.injEq]at h1
   subst h1
   exact⟨aq,⟨of,L4,by omega,fun _=>by rw[h3 rfl,Gf]⟩,ha⟩
 |jt n i j len cap=>
  simp only[fV]at h
  split at h
  case h_2=>simp at h
  rename_i n' c i' j' OH F4
  have hv:=hv.live rfl
  split at h
  case h_2=>simp at h
  rename_i o ho
  split at h
  case isFalse=>simp at h
  rename_i hc
  obtain⟨rfl,rfl,rfl,rfl,rfl,rfl⟩:=hc
  simp only[Option.some.injEq]at h
  subst h
  obtain⟨of,L4,Gf⟩:=hlen _ _ (bM _ (by simp[pC.kP])) ho
  have nJ:=mu n'
  rw[o8 L4]at nJ
  obtain⟨oc,Cm,RC⟩:=rG nJ
  refine⟨.jt n' oc.cur i' j' OH F4,?_,?_,fun h=>by simp[aG]at h⟩
  ·simp only[gg,Cm,List.nil_append]
  ·simp only[R]at hv ⊢
   obtain⟨aq,ha,⟨o',h1,_,h3⟩⟩:=hv
   rw[ho]at h1
   simp only[Option.some.injEq]at h1
   subst h1
   exact⟨aq,ha,⟨of,L4,by omega,fun _=>by rw[h3 rfl,Gf]⟩⟩
 |own esz n=>
  simp only[fV]at h
  split at h
  case h_2=>simp at h
  rename_i yM n' c
  have hv:=hv.live rfl
  split at h
  case h_2=>simp at h
  rename_i o ho
  split at h
  case isFalse=>simp at h
  rename_i hc
  obtain⟨rfl,rfl,rfl⟩:=hc
  simp only[Option.some.injEq]at h
  subst h
  obtain⟨of,L4,Gf⟩:=hlen _ _ (bM _ (by simp[pC.kP])) ho
  have nJ:=mu n'
  rw[o8 L4]at nJ
  obtain⟨oc,Cm,RC⟩:=rG nJ
  refine⟨.bu yM n' oc.cur none none,?_,?_,fun h=>by simp[aG]at h⟩
  ·simp only[gg,Cm,List.nil_append]
  ·simp only[R]at hv ⊢
   obtain⟨aq,⟨o',h1,_,h3⟩,rfl⟩:=hv
   rw[ho]at h1
   simp only[Option.some.injEq]at h1
   subst h1
   exact⟨aq,⟨of,L4,by omega,fun _=>by rw[h3 rfl,Gf]⟩,rfl⟩
 |Sy esz n t k=>
  simp only[fV]at h
  split at h
  case h_2=>simp at h
  rename_i yM n' c rg cap
  have hv:=hv.live rfl
  split at h
  case h_2=>simp at h
  rename_i o off len ho hr
  split at h
  case isFalse=>simp at h
  rename_i hc
  obtain⟨rfl,rfl,rfl⟩:=hc
  obtain⟨of,L4,Gf⟩:=hlen _ _ (bM _ (by simp[pC.kP])) ho
  have nJ:=mu n'
  rw[o8 L4]at nJ
  obtain⟨oc,Cm,RC⟩:=rG nJ
  have hR:R T Hf (.bu yM n' oc.cur (some (off,len)) cap) a:=by
   simp only[R]at hv ⊢
   obtain⟨aq,⟨o',h1,_,h3⟩,ha⟩:=hv
   rw[ho]at h1
   simp only[Option.some.injEq]at h1
   subst h1
   refine⟨aq,⟨of,L4,by omega,fun _=>by rw[h3 rfl,Gf]⟩,?_⟩
   cases rg with
   |some q=>
    simp_all[nD]
   |none=>
    have hb:Nat.beq o.cur o.cur=true:=by simp
    simp only[nD,ho,hb,if_true,Option.some.injEq,Prod.mk.injEq]at hr
    obtain⟨rfl,rfl⟩:=hr
    rw[←h3 rfl]
    exact ha
  rw[Option.bind_eq_some_iff]at h
  obtain⟨x,hx,h⟩:=h
  rw[Option.bind_eq_some_iff]at h
  obtain⟨y,hy,h⟩:=h
  have ex:=Ge hT (H:=Hs) hx
  have ey:=Ge hT (H:=Hs) hy
  split at h
  ·simp only[Option.some.injEq]at h
   subst h
   exact⟨_,by simp only[gg,List.cons_append,List.nil_append,Cm,ex,ey],hR,fun h=>by simp[aG]at h⟩
  ·obtain⟨z,hz,hl⟩:∃ z,T.dn t (.lit (.int .i64 _))=some z∧_=ln:=Option.map_eq_some_iff.1 h
   subst hl
   have ez:=Ge hT (H:=Hs) hz
   exact⟨_,by simp only[gg,List.cons_append,List.nil_append,Cm,ex,ey,ez],hR,fun h=>by simp[aG]at h⟩
  ·simp at h
theorem wZ[ae](hT:T.Ok)(mu:∀ n,jQ Hc n=jQ Hf n)(hlen:Eg ok Hs Hf):∀ {ps:List pC} {vs:List (SV T.den)} {as:List AV} {ln:List (TV T.den)},(∀ n,n∈ps.flatMap pC.kP→ok n)→RL T Hs vs as→iH Hs ps vs=some ln→∀ rest:List (TV T.den),
  ∃ vs',jK Hc ps (ln++rest)=(vs',rest)∧RL T Hf vs' as∧(aw vs=true→aw vs'=true)
 |[],[],[],ln,_,_,h,rest=>by
  simp only[iH,Option.some.injEq]at h
  subst h
  exact⟨[],rfl,by simp[RL],fun _=>rfl⟩
 |p::ps,v::vs,a::as,ln,bM,hr,h,rest=>by
  simp only[RL]at hr
  simp only[iH,Option.bind_eq_some_iff,Option.map_eq_some_iff]at h
  obtain⟨l1,h1,l2,h2,rfl⟩:=h
  obtain⟨v',e1,e2,e3⟩:=tm hT mu hlen (fun n hn=>bM n (by simp[hn])) (.inr hr.1) h1 (l2++rest)
  obtain⟨vs',g1,g2,g3⟩:=wZ hT mu hlen (fun n hn=>bM n (by simp only[List.flatMap_cons,List.mem_append]; exact .inr hn)) hr.2 h2 rest
  refine⟨v'::vs',?_,by simp only[RL]; exact⟨e2,g2⟩,fun hc=>?_⟩
  ·simp_all[jK]
  ·simp_all[aw]
 |[],_::_,_,_,_,_,h,_=>by simp[iH]at h
 |_::_,[],_,_,_,_,h,_=>by simp[iH]at h
 |_,[],_::_,_,_,h,_,_=>by simp[RL]at h
 |_,_::_,[],_,_,h,_,_=>by simp[RL]at h
end
def Compat{T:dP}(o:aE T.den):c8→Prop
 |.list t=>∃ g f c l,o=.cj g f c t l
 |.fix t=>∃ g f c l,o=.cj g f c t l
 |.one _=>∃ g cl f c es,o=.arr g cl f c es
 |.agg _=>∃ g cl f c es,o=.arr g cl f c es
 |.map kk t=>∃ m,o=.kO kk t m
section
variable {Hs Hf Hc:ai T.den}{ok:Nat→Prop}
theorem uF[ae](hT:T.Ok){os:aE T.den}{t:Nat}{ln:List (TV T.den)}(h:eO Hs os (.list t)=some ln∨eO Hs os (.fix t)=some ln):
  ∃ l:List (T.den t),ln=[⟨.l t,l⟩]∧l.length=os.len∧os.flags.2.1=true∧∀ a,RO T Hs os a→∃ es,a=.arr os.flags.1 true os.flags.2.2 es∧ay (T.rp t) l es:=by
 have h2:eO Hs os (.list t)=some ln:=h.elim id id
 clear h
 have h:=h2
 clear h2
 unfold eO at h
 simp only at h
 split at h
 ·rename_i g f c t' l
  split at h
  case isFalse=>simp at h
  rename_i ht
  subst ht
  refine⟨l,(Option.some.inj h).symm,rfl,rfl,fun a ha=>?_⟩
  obtain⟨es,rfl,cP⟩:=ha
  exact⟨es,rfl,cP⟩
 ·rename_i g f c es
  cases hd:pk T t es with
  |none=>rw[hd]at h; cases h
  |some l=>
   rw[hd]at h
   refine⟨l,(Option.some.inj h).symm,?_,rfl,fun a ha=>?_⟩
   ·have:∀ {l:List (T.den t)} {es:List (SV T.den)},pk T t es=some l→l.length=es.length:=by
     intro l es
     induction es generalizing l with
     |nil=>simp_all[pk]
     |cons x xs ih=>
      intro h
      simp only[pk,Option.bind_eq_some_iff,Option.map_eq_some_iff]at h
      obtain⟨_,_,y,hy,rfl⟩:=h
      simp[ih hy]
    exact this hd
   ·obtain⟨es',rfl,cP,_⟩:=ha
    exact⟨es',rfl,qD hT cP hd⟩
 ·simp at h
theorem uH{os:aE T.den}{kk:KK}{t:Nat}{ln:List (TV T.den)}(h:eO Hs os (.map kk t)=some ln):∃ m,os=.kO kk t m∧ln=[⟨.m kk t,m⟩]:=by
 unfold eO at h
 simp only at h
 split at h
 case h_2=>simp at h
 rename_i rK t' m
 split at h
 case isFalse=>simp at h
 rename_i hc
 obtain⟨rfl,rfl⟩:=hc
 exact⟨m,rfl,(Option.some.inj h).symm⟩
theorem z3[ae](hT:T.Ok){o os:aE T.den}{p:c8}(hc:Compat o p){ln:List (TV T.den)}(h:eO Hs os p=some ln)(rest:List (TV T.den))
  (hp:∀ q (v:SV T.den) l,fV Hs q v=some l→∀ rest,(gg Hc q (l++rest)).2=rest) :
  ∃ o',jL Hc o p (ln++rest)=(o',rest)∧o'.cur=o.cur∧o'.len=os.len:=by
 have TY:∀ (ps:List pC) (vs:List (SV T.den)) l,iH Hs ps vs=some l→∀ rest,(jK Hc ps (l++rest)).2=rest:=by
  intro ps
  induction ps with
  |nil=>
   intro vs l hl rest
   cases vs with
   |nil=>simp[iH]at hl; subst hl; rfl
   |cons=>simp[iH]at hl
  |cons q ps ih=>
   intro vs l hl rest
   cases vs with
   |nil=>simp[iH]at hl
   |cons v vs=>
    simp only[iH,Option.bind_eq_some_iff,Option.map_eq_some_iff]at hl
    obtain⟨l1,h1,l2,h2,rfl⟩:=hl
    have e1:=hp q v l1 h1 (l2++rest)
    have e2:=ih vs l2 h2 rest
    simp only[jK,List.append_assoc]
    rw[e1]
    exact e2
 cases p with
 |list t=>
  obtain⟨g,f,c,l0,rfl⟩:=hc
  obtain⟨l,rfl,hl,_⟩:=uF hT (.inl h)
  exact⟨.cj g f c t l,rfl,rfl,hl⟩
 |fix t=>
  obtain⟨g,f,c,l0,rfl⟩:=hc
  obtain⟨l,rfl,hl,_⟩:=uF hT (.inr h)
  exact⟨.cj g f c t l,rfl,rfl,hl⟩
 |one q=>
  obtain⟨g,cl,f,c,es,rfl⟩:=hc
  simp only[eO]at h
  split at h
  case h_2=>simp at h
  rename_i v
  have e:=hp q v ln h rest
  refine⟨.arr g cl f c [(gg Hc q (ln++rest)).1],?_,rfl,rfl⟩
  have e2:gg Hc q (ln++rest)=((gg Hc q (ln++rest)).1,rest):=Prod.ext rfl e
  simp only[jL]
  rw[e2]
 |agg ps=>
  obtain⟨g,cl,f,c,es,rfl⟩:=hc
  simp only[eO]at h
  split at h
  case h_2=>simp at h
  rename_i vs
  have e:=TY ps vs ln h rest
  refine⟨.arr g cl f c [.agg (jK Hc ps (ln++rest)).1],?_,rfl,rfl⟩
  have e2:jK Hc ps (ln++rest)=((jK Hc ps (ln++rest)).1,rest):=Prod.ext rfl e
  simp only[jL]
  rw[e2]
 |map kk t=>
  obtain⟨m0,rfl⟩:=hc
  obtain⟨m,rfl,rfl⟩:=uH h
  exact⟨.kO kk t m,rfl,rfl,rfl⟩
theorem zf[ae](hT:T.Ok)(mu:∀ n,jQ Hc n=jQ Hf n)(hlen:Eg ok Hs Hf){o os o':aE T.den}{p:c8}(bM:∀ n,n∈p.kP→ok n)(hc:Compat o p){ln:List (TV T.den)}(h:eO Hs os p=some ln){rest:List (TV T.den)}
  (ho:jL Hc o p (ln++rest)=(o',rest)) (rP:o.flags.1=os.flags.1) (jg:o.flags.2.1=os.flags.2.1) (Nd:o.flags.2.2=os.flags.2.2) {a:aP} (ha:RO T Hs os a):RO T Hf o' a:=by
 cases p with
 |list t=>
  obtain⟨g,f,c,l0,rfl⟩:=hc
  obtain⟨l,rfl,hl,_,hr⟩:=uF hT (.inl h)
  obtain⟨es,rfl,cP⟩:=hr a ha
  simp only[jL,List.cons_append,List.nil_append,Prod.mk.injEq]at ho
  obtain⟨rfl,_⟩:=ho
  have hg:g=os.flags.1:=rP
  have hf:f=os.flags.2.2:=Nd
  exact⟨es,by rw[hg,hf],cP⟩
 |fix t=>
  obtain⟨g,f,c,l0,rfl⟩:=hc
  obtain⟨l,rfl,hl,_,hr⟩:=uF hT (.inr h)
  obtain⟨es,rfl,cP⟩:=hr a ha
  simp only[jL,List.cons_append,List.nil_append,Prod.mk.injEq]at ho
  obtain⟨rfl,_⟩:=ho
  have hg:g=os.flags.1:=rP
  have hf:f=os.flags.2.2:=Nd
  exact⟨es,by rw[hg,hf],cP⟩
 |one q=>
  obtain⟨g,cl,f,c,es,rfl⟩:=hc
  simp only[eO]at h
  split at h
  case h_2=>simp at h
  rename_i g' cl' f' c' v
  simp only[aE.flags]at rP jg Nd
  subst rP; subst jg; subst Nd
  obtain⟨es',rfl,cP,mT⟩:=ha
  match es',cP with
  |[b],cP=>
   simp only[RL]at cP
   obtain⟨v',e1,e2,e3⟩:=tm hT mu hlen bM (.inr cP.1) h rest
   simp only[jL,e1,Prod.mk.injEq,and_true]at ho
   subst ho
   refine⟨[b],rfl,by simp only[RL]; exact⟨e2,trivial⟩,fun nJ=>?_⟩
   have:=mT nJ
   simp only[aw,Bool.and_true]at this ⊢
   exact e3 this
  |[],cP=>simp[RL]at cP
  |_::_::_,cP=>simp[RL]at cP
 |agg ps=>
  obtain⟨g,cl,f,c,es,rfl⟩:=hc
  simp only[eO]at h
  split at h
  case h_2=>simp at h
  rename_i g' cl' f' c' vs
  simp only[aE.flags]at rP jg Nd
  subst rP; subst jg; subst Nd
  obtain⟨es',rfl,cP,mT⟩:=ha
  match es',cP with
  |[b],cP=>
   simp only[RL,R]at cP
   obtain⟨⟨as,rfl,cP⟩,_⟩:=cP
   obtain⟨vs',e1,e2,e3⟩:=wZ hT mu hlen bM cP h rest
   simp only[jL,e1,Prod.mk.injEq,and_true]at ho
   subst ho
   refine⟨[.agg as],rfl,by simp only[RL,R]; exact⟨⟨as,rfl,e2⟩,trivial⟩,fun nJ=>?_⟩
   have:=mT nJ
   simp only[aw,aG,Bool.and_true]at this ⊢
   exact e3 this
  |[],cP=>simp[RL]at cP
  |_::_::_,cP=>simp[RL]at cP
 |map kk t=>
  obtain⟨m0,rfl⟩:=hc
  obtain⟨m,rfl,rfl⟩:=uH h
  simp only[jL,List.cons_append,List.nil_append,Prod.mk.injEq]at ho
  obtain⟨rfl,_⟩:=ho
  exact ha
theorem Eh{q:pC}{v:SV T.den}{l:List (TV T.den)}(h:fV Hs q v=some l)(rest:List (TV T.den)):(gg Hc q (l++rest)).2=rest:=by
 cases q with
 |ID esz n rg cap=>
  simp only[fV]at h
  split at h
  case h_2=>simp at h
  split at h
  case h_2=>simp at h
  split at h
  case isFalse=>simp at h
  simp only[Option.some.injEq]at h
  subst h
  rfl
 |jt n i j len cap=>
  simp only[fV]at h
  split at h
  case h_2=>simp at h
  split at h
  case h_2=>simp at h
  split at h
  case isFalse=>simp at h
  simp only[Option.some.injEq]at h
  subst h
  rfl
 |hole=>
  simp only[fV]at h
  split at h
  case h_2=>simp at h
  simp only[Option.some.injEq]at h
  subst h
  rfl
 |val t=>
  simp only[fV]at h
  split at h
  ·simp at h
  split at h
  case h_2=>simp at h
  simp only[Option.some.injEq]at h
  subst h
  rfl
 |own esz n=>
  simp only[fV]at h
  split at h
  case h_2=>simp at h
  split at h
  case h_2=>simp at h
  split at h
  case isFalse=>simp at h
  simp only[Option.some.injEq]at h
  subst h
  rfl
 |Sy esz n t k=>
  simp only[fV]at h
  split at h
  case h_2=>simp at h
  split at h
  case h_2=>simp at h
  split at h
  case isFalse=>simp at h
  rw[Option.bind_eq_some_iff]at h
  obtain⟨x,hx,h⟩:=h
  rw[Option.bind_eq_some_iff]at h
  obtain⟨y,hy,h⟩:=h
  split at h
  ·simp only[Option.some.injEq]at h
   subst h
   rfl
  ·obtain⟨z,_,hl⟩:∃ z,T.dn t (.lit (.int .i64 _))=some z∧_=l:=Option.map_eq_some_iff.1 h
   subst hl
   rfl
  ·simp at h
theorem nodup_cons{x:Nat}{l:List Nat}(h:dx (x::l)=true):x∉l∧dx l=true:=by
 simp_all[dx,decide_eq_false_iff_not]
theorem IZ{H:ai T.den}{n:Nat}{o o':aE T.den}(ho:H[n]?=some (some o))(hc:o'.cur=o.cur)(m:Nat):jQ (H.set n (some o')) m=jQ H m:=by
 unfold jQ
 by_cases e:m=n
 ·grind
 ·rw[List.getElem?_set_ne (Ne.symm e)]
theorem sn[ae](hT:T.Ok):∀ {objs:List (Nat×c8)} {H:ai T.den} {l:List (TV T.den)} (rest:List (TV T.den)),dx (objs.map (·.1))=true→kE Hs objs=some l →
  (∀ q,q∈objs→∃ o,H[q.1]?=some (some o)∧Compat o q.2) →
  (gC H objs (l++rest)).length=H.length∧(∀ n:Nat,n∉objs.map (·.1)→(gC H objs (l++rest))[n]?=H[n]?)∧(∀ n,jQ (gC H objs (l++rest)) n=jQ H n) ∧
  (∀ q,q∈objs→∃ o os o' ln Hc Ei,H[q.1]?=some (some o)∧Hs[q.1]?=some (some os)∧eO Hs os q.2=some ln∧(∀ n,jQ Hc n=jQ H n)∧jL Hc o q.2 (ln++Ei)=(o',Ei) ∧
    (gC H objs (l++rest))[q.1]?=some (some o')∧o'.cur=o.cur∧o'.len=os.len)
 |[],H,l,rest,_,_,_=>⟨rfl,fun _ _=>rfl,fun _=>rfl,fun q hq=>by simp at hq⟩
 |(n,p)::objs,H,l,rest,AB,pG,Sl=>by
  simp only[List.map_cons]at AB
  obtain⟨L5,AB⟩:=nodup_cons AB
  simp only[kE]at pG
  split at pG
  case h_2=>simp at pG
  rename_i os YJ
  rw[Option.bind_eq_some_iff]at pG
  obtain⟨ln,h1,pG⟩:=pG
  rw[Option.map_eq_some_iff]at pG
  obtain⟨l2,h2,rfl⟩:=pG
  obtain⟨o,ho,ZB⟩:=Sl (n,p) (by simp)
  simp only at ho ZB
  obtain⟨o',e1,e2,e3⟩:=z3 (Hc:=H) hT ZB h1 (l2++rest) fun q v l hl rest=>Eh hl rest
  have T9:gC H ((n,p)::objs) (ln++l2++rest)=gC (H.set n (some o')) objs (l2++rest):=by
   simp_all[gC,ho]
  rw[T9]
  have bE:=(List.getElem?_eq_some_iff.1 ho).1
  have Xl:∀ q,q∈objs→∃ o,(H.set n (some o'))[q.1]?=some (some o)∧Compat o q.2:=by
   grind
  obtain⟨i1,i2,i3,i4⟩:=sn hT rest AB h2 Xl
  have u3:=IZ ho e2
  refine⟨by rw[i1]; simp,fun m hm=>?_,fun m=>by rw[i3,u3],fun q hq=>?_⟩
  ·grind
  ·grind
theorem tn[ae]:∀ {objs:List (Nat×c8)} {H:ai T.den},dx (objs.map (·.1))=true →
  (sf H objs).length=H.length∧(∀ n:Nat,n∉objs.map (·.1)→(sf H objs)[n]?=H[n]?)∧(∀ q,q∈objs→∀ o,H[q.1]?=some (some o)→(sf H objs)[q.1]?=some (some (nh o q.2)))
 |[],H,_=>⟨rfl,fun _ _=>rfl,fun q hq=>by simp at hq⟩
 |(n,p)::objs,H,AB=>by
  simp only[List.map_cons]at AB
  obtain⟨L5,AB⟩:=nodup_cons AB
  simp only[sf]
  split
  ·rename_i o ho
   have bE:=(List.getElem?_eq_some_iff.1 ho).1
   obtain⟨i1,i2,i3⟩:=tn (objs:=objs) (H:=H.set n (some (nh o p))) AB
   refine⟨by rw[i1]; simp,fun m hm=>?_,fun q hq o2 vn=>?_⟩
   ·grind
   ·grind
  ·rename_i wj
   obtain⟨i1,i2,i3⟩:=tn (objs:=objs) (H:=H) AB
   refine⟨i1,fun m hm=>?_,fun q hq o2 vn=>?_⟩
   ·simp_all
   ·grind
theorem qJ[ae](hT:T.Ok)(mu:∀ n,jQ Hc n=jQ Hf n)(hlen:Eg ok Hs Hf){N:Nat}{frs:tA T.den}{ast:Nat→AV}(eK:∀ t,RV T Hs (cU frs t) (ast t)):
  ∀ {aC:List (Nat×pC)} {fr:tA T.den} {l:List (TV T.den)} (rest:List (TV T.den)),dx (aC.map (·.1))=true→(∀ q,q∈aC→q.1<N∧∀ n,n∈q.2.kP→ok n)→qx Hs frs aC=some l →
    ∃ zK,ru N Hc fr aC (l++rest)=(zK,rest)∧(∀ t,t∉aC.map (·.1)→cU zK t=cU fr t)∧(∀ q,q∈aC→R T Hf (cU zK q.1) (ast q.1))
 |[],fr,l,rest,_,_,h=>by
  simp only[qx,Option.some.injEq]at h
  subst h
  exact⟨fr,rfl,fun _ _=>rfl,fun q hq=>by simp at hq⟩
 |(d,p)::aC,fr,l,rest,AB,hN,h=>by
  simp only[List.map_cons]at AB
  obtain⟨L5,AB⟩:=nodup_cons AB
  simp only[qx,Option.bind_eq_some_iff,Option.map_eq_some_iff]at h
  obtain⟨l1,h1,l2,h2,rfl⟩:=h
  obtain⟨v',e1,e2,_⟩:=tm hT mu hlen (hN (d,p) (by simp)).2 (eK d) h1 (l2++rest)
  obtain⟨zK,i1,i2,i3⟩:=qJ hT mu hlen eK (fr:=uq N fr d v') rest AB (fun q hq=>hN q (List.mem_cons_of_mem _ hq)) h2
  refine⟨zK,?_,fun t ht=>?_,fun q hq=>?_⟩
  ·simp_all[ru]
  ·simp only[List.map_cons,List.mem_cons,not_or]at ht
   rw[i2 t ht.2,kU,if_neg (by omega)]
  ·rcases List.mem_cons.1 hq with rfl|hq
   ·rw[i2 d L5,kU,if_pos ⟨rfl,(hN (d,p) (by simp)).1⟩]
    exact e2
   ·exact i3 q hq
theorem v5[ae]{N:Nat}:∀ {dead:List Nat} {fr:tA T.den} {t:Nat},cU (AU N fr dead) t=(if t∈dead∧t<N then .dead else cU fr t)
 |[],fr,t=>by simp[AU]
 |d::r,fr,t=>by
  simp only[AU]
  rw[v5,kU]
  by_cases h1:t∈r∧t<N
  ·simp_all
  ·grind
end
end Go.PI
end
