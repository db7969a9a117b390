/- Part 3 of the proof: texts of this session laid one behind the other. -/
import Derived.Test.YtpodhambaehlkaaGreatDoorX2
set_option linter.unusedVariables false
set_option linter.unusedSimpArgs false
section
/- PS, part B: the operations on symbolic values, and the evaluator of code to a tree. -/
namespace Go.PI
structure yh(T:eh)where
 args:List Nat
 el:Nat
 esz:Nat
 fn:HL T.den (args.map .v)→Option (List (T.den el))
inductive Tw where
 |num (d j b:Nat)
 |ZI (d j n:Nat)
 |arr (d n:Nat)
 |name (d:Nat)
 |int (d j:Nat)
structure qX where
 C:Ctx
 T:eh
 sum:FuncId→Option (yT T)
 hint:FuncId→Nat→Option Hint
 xf:FuncId→Nat→Bool
 M:List (Nat×jO)
 own:FuncId→Option (yh T):=fun _=>none
 yS:FuncId→Nat→Bool:=fun _ _=>false
 tw:FuncId→Tmp→List Tw:=fun _ _=>[]
def qX.Q(S:qX):iH:=⟨S.C.P,S.M,fun _=>false⟩
def qX.Qf(S:qX)(f:FuncId):iH:=⟨S.C.P,S.M,S.yS f⟩
section
variable {T:eh}{ρ:Type}
abbrev EK(T:eh)(ρ:Type):=SV T.den→List (Nat×aK T.den)→List Nat→Tr ρ
def qN(r:Option AV)(K:EK T ρ):Tr ρ:=
 match r with
 |some (.lit v)=>K (.lit v) [] []
 | _ => .no "via"
def AG(r:Option (SV T.den))(rd:List Nat)(K:EK T ρ):Tr ρ:=
 match r with
 |some v=>K v [] rd
 | none => .no "part"
def gW(v:SV T.den)(K:Nat→Tr ρ):Tr ρ:=
 match v with
 |.lit (.int _ n)=>.cond (decide (0≤n)) (K n.toNat) .fail
 |_=>.fail
def ZJ{den:Nat→Type}:SV den→Bool
 |.lit (.int _ n)=>decide (n=0)
 |_=>false
def kj(d:Nat)(v:Option (SV T.den))(K:Nat→Tr ρ):Tr ρ:=
 match v with
 |none=>K d
 |some v=>gW v K
def gA(i:Nat):Nat→Nat→(Nat→Tr ρ)→Tr ρ
 |0,_,_=>.fail
 |len+1,m,K=>.cond (decide (i=m)) (K m) (gA i len (m+1) K)
def ju(d:Nat):SV T.den→SV T.den
 |.ref n c i j=>.ref n c i (j+d)
 |.bq e j=>.bq e (j+d)
 |.uQ v s l i=>.uQ (ju d v) s l i
 |v=>v
def iA(e:SV T.den)(j bl:Nat):Nat→Option (List (SV T.den))
 |0=>some []
 |n+1=>(pW false 1 e j).bind fun x=>(iA e (j+bl) bl n).map fun l=>x::l
def xg(k:IntKind):List (SV T.den)→Option (List Int)
 |[]=>some []
 |.lit (.int k' n)::r=>if k'=k then (xg k r).map fun l=>n::l else none
 |_=>none
def vP:List (SV T.den)→Option (List Bool)
 |[]=>some []
 |.lit (.bool b)::r=>(vP r).map fun l=>b::l
 |_=>none
def rV{α:Type}(l:List α)(i:Nat)(d:α):α:=l.getD i d
def NL(i:Nat)(xs:List (SV T.den)):Option (SV T.den):=
 match xs with
 |.lit (.int k n)::r=>(xg k r).map fun l=>.lit (.int k (rV (n::l) i n))
 |.lit (.bool b)::r=>(vP r).map fun l=>.lit (.bool (rV (b::l) i b))
 |_=>none
def qo(r:jO)(H:aq T.den)(a:SV T.den)(K:EK T ρ):Tr ρ:=
 match a with
 |.ref n c i j=>
  match H[n]? with
  |some (some (.arr _ _ _ cur es))=>(match Nat.beq c cur with
   |true=>(match es[i]? with
    |some e=>AG (pW r.agg r.size e j) [n] K
    | none => .no "memory")
   | false => .no "memory")
  |some (some (.cD _ _ cur t l))=>(match Nat.beq c cur with
   |true=>.bind l[i]? fun x=>AG (pW r.agg r.size (T.up t x) j) [n] K
   | false => .no "memory")
  | _ => .no "memory"
 |.bq e j=>AG (pW r.agg r.size e j) [] K
 | _ => .no "memory"
def Ig(H:aq T.den)(a:SV T.den)(bl len:Nat):Option (List (SV T.den)×List Nat):=
 match a with
 |.ref n c i j=>(match H[n]? with
  |some (some (.arr _ _ _ cur es))=>(match Nat.beq c cur with
   |true=>(es[i]?).bind fun e=>(iA e j bl len).map fun l=>(l,[n])
   |false=>none)
  |_=>none)
 |.bq e j=>(iA e j bl len).map fun l=>(l,[])
 |_=>none
def JS(r:jO)(H:aq T.den)(a:SV T.den)(K:EK T ρ):Tr ρ:=
 match a with
 |.uQ v bl len i=>
  (match !r.agg&&Nat.beq r.size 1,Ig H v bl len with
  |true,some (xs,rd)=>(match NL i xs with
   |some x=>K x [] rd
   |none=>gA i len 0 fun m=>qo r H (ju (m*bl) v) K)
  |_,_=>gA i len 0 fun m=>qo r H (ju (m*bl) v) K)
 |a=>qo r H a K
def sN(r:jO)(H:aq T.den)(a v:SV T.den)(K:EK T ρ):Tr ρ:=
 match cL v,decide ((cb v).length=r.size)&&(cb v).all iw with
 |false,true=>(match a with
  |.ref n c i j=>
   match H[n]? with
   |some (some (.arr g cl f cur es))=>(match Nat.beq c cur&&!f with
    |true=>(match es[i]? with
     |some e=>(match gU e j (cb v) with
      |some e'=>K (.lit undef) [(n,.arr g (cl&&aD (cb v)) f cur (es.set i e'))] [n]
      | none => .no "memory")
     | none => .no "memory")
    | false => .no "memory")
   |some (some (.cD g f cur t l))=>(match Nat.beq c cur&&!f&&aD (cb v) with
    |true=>.bind l[i]? fun x=>(match gU (T.up t x) j (cb v) with
     |some e'=>(match T.dn t e' with
      |some y=>K (.lit undef) [(n,.cD g f cur t (l.set i y))] [n]
      | none => .no "memory")
     | none => .no "memory")
    | false => .no "memory")
   | _ => .no "memory"
  | _ => .no "memory")
 | _, _ => .no "memory"
def Ih(l:List (SV T.den))(j bl i m:Nat)(k:IntKind)(y:Int):List Int→List (SV T.den)
 |[]=>l
 |x::r=>Ih (l.set j (.lit (.int k (cond (Nat.beq i m) y x)))) (j+bl) bl i (m+1) k y r
def Ii(H:aq T.den)(a v:SV T.den)(bl len i:Nat):Option (Nat×aK T.den):=
 match a,v with
 |.ref n c i0 j,.lit (.int k y)=>(match H[n]? with
  |some (some (.arr g cl f cur es))=>(match Nat.beq c cur&&!f&&Nat.blt 0 bl,es[i0]? with
   |true,some (.agg l)=>((iA (.agg l) j bl len).bind (xg k)).map fun ns=>
    (n,.arr g cl f cur (es.set i0 (.agg (Ih l j bl i 0 k y ns))))
   |_,_=>none)
  |_=>none)
 |_,_=>none
def Ij(r:jO)(H:aq T.den)(a v:SV T.den)(K:EK T ρ):Tr ρ:=
 match a with
 |.uQ b bl len i=>(match Nat.beq r.size 1,Ii H b v bl len i with
  |true,some (n,o)=>K (.lit undef) [(n,o)] [n]
  |_,_=>gA i len 0 fun m=>sN r H (ju (m*bl) b) v K)
 |a=>sN r H a v K
def Ik(Q:iH)(t:TypeId)(parts:List (Nat×SV T.den)):Option (SV T.den):=
 match Q.ty t with
 |some r=>
  match r.kind,r.zero.bind iz with
  |.struct fs,some z=>(match Q.places fs with
   |some pl=>(CI (fun i=>pl[i]?) (cb z) parts).map .agg
   |none=>none)
  |.array _ e,some z=>(match Q.ty e with
   |some q=>(CI (fun i=>some (i*q.size,q.size)) (cb z) parts).map .agg
   |none=>none)
  |_,_=>none
 |none=>none
def rX(Q:iH)(nm:Nat)(t:TypeId)(len:Nat)(parts:List (Nat×SV T.den))(K:EK T ρ):Tr ρ:=
 match Q.elem t with
 |some r=>
  match (r.zero).bind iz with
  |some z=>
   if 0<r.size∧len*r.size≤2^24∧parts.all (fun p=>decide (p.1<len)&&mK r.agg r.size p.2)=true then
    K (.bw r.size nm 0 none (some len)) [(nm,.arr false (aD (parts.map (·.2))) false 0 (gu (List.replicate len z) parts))] []
   else .no "buildSlice"
  | none => .no "buildSlice"
 | none => .no "buildSlice"
def uf(Q:iH)(nm:Nat)(t:TypeId)(l c:SV T.den)(K:EK T ρ):Tr ρ:=
 match Q.elemOf t with
 |some (e,r)=>
  match r.zero,T.zero e,decide (0<r.size) with
  |some _,some z,true=>
   gW l fun l=>gW c fun c=>
    .cond (decide (l≤c)&&decide (c*r.bytes≤2^47)&&decide (c<2^62))
     (K (.bw r.size nm 0 (some (0,l)) (some c)) [(nm,.cD false false 0 e (List.replicate c z))] []) .fail
  |_,_,_=>.fail
 |none=>.fail
def ug(Q:iH)(nm:Nat)(t:TypeId)(l:SV T.den)(K:EK T ρ):Tr ρ:=
 match Q.elemOf t with
 |some (e,r)=>
  match r.zero,T.zero e,decide (0<r.size) with
  |some _,some z,true=>
   gW l fun c=>.cond (decide (c*r.bytes≤2^47)&&decide (c<2^62)) (K (.bw r.size nm 0 none (some c)) [(nm,.cD false false 0 e (List.replicate c z))] []) .fail
  |_,_,_=>.fail
 |none=>.fail
def NM:Operand→Operand→Bool
 |.tmp a,.tmp b=>Nat.beq a b
 |_,_=>false
def o5(H:aq T.den)(n c:Nat)(rg:Option (Nat×Nat)):Option (Nat×Nat):=
 match rg with
 |some q=>some q
 |none=>match H[n]? with
  |some (some o)=>if Nat.beq c o.cur then some (0,o.len) else none
  |_=>none
def plainO:Option (SV T.den)→Option (Option AV)
 |none=>some none
 |some v=>(oZ v).map some
def Uf(Q:iH)(H:aq T.den)(t:TypeId)(x:SV T.den)(lo hi mx:Option (SV T.den))(K:EK T ρ):Tr ρ:=
 match x with
 |.lit v=>(match plainO lo,plainO hi,plainO mx with
  |some l,some h,some m=>(match pf Q.P t (.lit v) l h m with
   |some (.lit v)=>K (.lit v) [] []
   |some .nz=>K .nz [] []
   | _ => .no "via")
  | _, _, _ => .no "index")
 |.sl xs=>
  (match Q.elem t,mx with
  |some r,none=>kj 0 lo fun l=>kj xs.length hi fun h=>
   gA l (xs.length+1) 0 fun l=>gA h (xs.length+1) 0 fun h=>
    (match decide (l≤h)&&decide (h≤xs.length)&&xs.all (mK r.agg r.size) with
    |true=>K (.sl ((xs.drop l).take (h-l))) [] []
    | false => .no "index")
  | _, _ => .no "index")
 |.jN t' l=>
  (match Q.elem t,mx with
  |some r,none=>(match decide (r.agg=T.agg t')&&decide (r.size=T.size t') with
   |true=>(match lo,hi with
    |none,none=>K (.jN t' l) [] []
    |some lo,none=>gW lo fun a=>.cond (decide (a≤l.length)) (K (.jN t' (l.drop a)) [] []) .fail
    |none,some hi=>gW hi fun b=>.cond (decide (b≤l.length)) (K (.jN t' (l.take b)) [] []) .fail
    |some lo,some hi=>gW lo fun a=>gW hi fun b=>
     .cond (decide (a≤b)&&decide (b≤l.length)) (K (.jN t' ((l.drop a).take (b-a))) [] []) .fail)
   | false => .no "index")
  |some r,some mx=>(match decide (r.agg=T.agg t')&&decide (r.size=T.size t'),hi with
   |true,some hi=>(match lo.isNone&&(ZJ hi&&ZJ mx) with
    |true=>K .nz [] []
    |false=>kj 0 lo fun a=>gW hi fun b=>gW mx fun m=>
    .cond (decide (a≤b)&&decide (b≤m)&&decide (m≤l.length)&&decide (a<m)) (K (.zj t' ((l.drop a).take (b-a)) (m-a) (!l.isEmpty)) [] []) .fail)
   | _, _ => .no "index")
  | _, _ => .no "index")
 |.bw esz n c rg cap=>
  (match Q.elem t,mx,o5 H n c rg,H[n]? with
  |some r,none,some (off,len),some (some o)=>(match Nat.beq c o.cur&&decide (esz=r.size) with
   |true=>kj 0 lo fun a=>kj len hi fun b=>
    .cond (decide (a≤b)&&decide (b≤cap.getD (o.len-off))&&decide (0<o.len))
     (K (.bw esz n c (some (off+a,b-a)) (cap.map (·-a))) [] []) .fail
   | false => .no "index")
  |some r,some mx,some (off,len),some (some o)=>(match Nat.beq c o.cur&&decide (esz=r.size),hi with
   |true,some hi=>kj 0 lo fun a=>gW hi fun b=>gW mx fun m=>
    .cond (decide (a≤b)&&decide (b≤m)&&decide (m≤cap.getD (o.len-off))&&decide (0<o.len))
     (K (.bw esz n c (some (off+a,b-a)) (some (m-a))) [] []) .fail
   | _, _ => .no "index")
  | _, _, _, _ => .no "index")
 |.ref n c i j=>(match Q.arr t,mx with
  |some (len,r),none=>kj 0 lo fun l=>kj len hi fun h=>
   gA l len 0 fun l=>gA h (len+1) 0 fun h=>(match decide (l≤h) with
    |true=>K (.jw n c i (j+l*r.size) (h-l) (len-l)) [] []
    |false=>.fail)
  | _, _ => .no "index")
 | _ => .no "index"
def NN(Q:iH)(t:TypeId)(x:SV T.den)(K:EK T ρ):Tr ρ:=
 match Q.arr t,x with
 |some (len,_),.jw n c i j l _=>(match decide (len≤l) with
  |true=>K (.ref n c i j) [] []
  |false=>.fail)
 | _, _ => .no "an array"
def uh(Q:iH)(yS:Bool)(H:aq T.den)(t:TypeId)(x ix:SV T.den)(K:EK T ρ):Tr ρ:=
 gW ix fun i=>
  match x with
  |.sl xs=>(match Q.elem t with
   |some r=>gA i xs.length 0 fun m=>(match xs[m]? with
    |some e=>(match mK r.agg r.size e with
     |true=>K (.bq e 0) [] []
     | false => .no "index")
    | none => .no "index")
   | none => .no "index")
  |.jN t' l=>(match Q.elem t with
   |some r=>(match decide (r.agg=T.agg t')&&decide (r.size=T.size t') with
    |true=>.bind l[i]? fun x=>K (.bq (T.up t' x) 0) [] []
    | false => .no "index")
   | none => .no "index")
  |.bw esz n c rg _=>(match Q.elem t with
   |some r=>(match decide (0<r.size)&&decide (esz=r.size),o5 H n c rg,H[n]? with
    |true,some (off,len),some (some (.arr ..))=>gA i len 0 fun m=>K (.ref n c (off+m) 0) [] []
    |true,some (off,len),some (some (.cD ..))=>.cond (decide (i<len)) (K (.ref n c (off+i) 0) [] []) .fail
    | _, _, _ => .no "index")
   | none => .no "index")
  |.jw n c k j len _=>(match Q.elem t with
   |some r=>gA i len 0 fun m=>K (.ref n c k (j+m*r.size)) [] []
   | none => .no "index")
  |.ref n c k j=>(match Q.arr t with
   |some (len,r)=>(match yS with
    |true=>.cond (decide (i<len)) (K (.uQ (.ref n c k j) r.size len i) [] []) .fail
    |false=>gA i len 0 fun m=>K (.ref n c k (j+m*r.size)) [] [])
   | none => .no "index")
  |.bq e j=>(match Q.arr t with
   |some (len,r)=>(match yS with
    |true=>.cond (decide (i<len)) (K (.uQ (.bq e j) r.size len i) [] []) .fail
    |false=>gA i len 0 fun m=>K (.bq e (j+m*r.size)) [] [])
   | none => .no "index")
  | _ => .no "index"
def Il(Q:iH)(yS:Bool)(t:TypeId)(x ix:SV T.den)(K:EK T ρ):Tr ρ:=
 match x with
 |.lit v=>(match oZ ix with
  |some i=>qN (wo Q.P t (.lit v) i) K
  | none => .no "index")
 |.agg l=>
  (match Q.arr t with
  |some (n,r)=>gW ix fun i=>(match yS&&!r.agg&&Nat.beq r.size 1,(iA (.agg l) 0 1 n).bind (NL i) with
   |true,some x=>.cond (decide (i<n)) (K x [] []) .fail
   |_,_=>gA i n 0 fun m=>AG (pW r.agg r.size (.agg l) (m*r.size)) [] K)
  | none => .no "index")
 | _ => .no "index"
inductive Src(den:Nat→Type)where
 |nF (l:List (SV den)) (cl:Bool)
 |BP (t:Nat) (l:List (den t))
def QZ(Q:iH)(H:aq T.den)(xt:TypeId)(x:SV T.den)(K:Src T.den→List Nat→Tr ρ):Tr ρ:=
 match Q.isSlice xt with
 |some true=>(match x with
  |.lit (.slice none 0 0)=>K (.nF [] true) []
  |.sl xs=>K (.nF xs true) []
  |.jN t l=>K (.BP t l) []
  |.bw _ n c rg _=>(match H[n]? with
   |some (some (.arr _ cl _ cur es))=>(match Nat.beq c cur with
    |true=>(match rg with
     |none=>K (.nF es cl) [n]
     |some (off,len)=>if off+len≤es.length then K (.nF ((es.drop off).take len) cl) [n] else .fail)
    | _ => .no "append source")
   |some (some (.cD _ _ cur t l))=>(match Nat.beq c cur with
    |true=>(match rg with
     |none=>K (.BP t l) [n]
     |some (off,len)=>.cond (decide (off+len≤l.length)) (K (.BP t ((l.drop off).take len)) [n]) .fail)
    | _ => .no "append source")
   | _ => .no "append source")
  | _ => .no "append source")
 | _ => .no "append source"
def Src.ok(T:eh)(r:jO):Src T.den→Bool
 |.nF l _=>l.all (mK r.agg r.size)
 |.BP t _=>decide (r.agg=T.agg t)&&decide (r.size=T.size t)
def Src.len{den:Nat→Type}:Src den→Nat
 |.nF l _=>l.length
 |.BP _ l=>l.length
def tx(r:jO)(n:Nat):Bool:=decide (n*r.bytes≤2^44)&&decide (n≤2^44)
def rY(T:eh)(cur:Nat):aK T.den→Src T.den→Option (aK T.den)
 |.arr _ cl f _ es,.nF ys ycl=>some (.arr true (cl&&ycl) f cur (es++ys))
 |.arr _ true f _ es,.BP t l=>(qM T t es).map fun l0=>.cD true f cur t (l0++l)
 |.cD _ f _ t l,.nF ys true=>(qM T t ys).map fun l2=>.cD true f cur t (l++l2)
 |.cD _ f _ t l,.BP t' l2=>if h:t'=t then some (.cD true f cur t (l++CH h l2)) else none
 |_,_=>none
def aK.flags{den:Nat→Type}:aK den→Bool×Bool×Bool
 |.arr g cl f _ _=>(g,cl,f)
 |.cD g f _ _ _=>(g,true,f)
 |.jc|.lT _ _ _=>(false,true,true)
 |.qT _ _ _ _ _=>(false,false,true)
def aK.AH(T:eh)(r:jO):aK T.den→Bool
 |.arr _ _ _ _ es=>es.all (mK r.agg r.size)
 |.cD _ _ _ t _=>decide (r.agg=T.agg t)&&decide (r.size=T.size t)
 |_=>false
def AI{den:Nat→Type}:Src den→aK den
 |.nF l cl=>.arr true cl false 0 l
 |.BP t l=>.cD true false 0 t l
def qp(T:eh)(y:Src T.den)(a b:Tr ρ):Tr ρ:=
 match y with
 |.nF l _=>(match l with
  |[]=>a
  |_::_=>b)
 |.BP _ l=>.cond l.isEmpty a b
def KY{α:Type}(l:List α)(i:Nat)(ys:List α):List α:=l.take i++(ys++l.drop (i+ys.length))
def xh(T:eh):aK T.den→Nat→Src T.den→Option (aK T.den)
 |.cD g f cur t l,i,.BP t' l2=>if h:t'=t then some (.cD g f cur t (KY l i (CH h l2))) else none
 |.cD g f cur t l,i,.nF ys true=>(qM T t ys).map fun l2=>.cD g f cur t (KY l i l2)
 |_,_,_=>none
def DZ(Q:iH)(nm:Nat)(H:aq T.den)(t xt:TypeId)(s x:SV T.den)(K:EK T ρ):Tr ρ:=
 match Q.elem t with
 | none => .no "append"
 |some r=>QZ Q H xt x fun y rd=>
  match (r.zero).isSome&&decide (0<r.size)&&y.ok T r with
  | false => .no "append"
  |true=>(match s with
   |.lit (.slice none 0 0)=>qp T y (K s [] rd)
     (.cond (tx r y.len) (K (.bw r.size nm 0 none none) [(nm,AI y)] rd) .fail)
   |.nz=>qp T y (K s [] rd)
     (.cond (tx r y.len) (K (.bw r.size nm 0 none none) [(nm,AI y)] rd) .fail)
   |.sl _|.jN _ _=>qp T y (K s [] rd) .fail
   |.zj t' l c b=>qp T y (K (.jN t' l) [] rd)
     (.cond (b&&decide (c<l.length+y.len)&&tx r (l.length+y.len))
       (match decide (r.agg=T.agg t')&&decide (r.size=T.size t'),rY T 0 (.cD true false 0 t' l) y with
       |true,some o'=>K (.bw r.size nm 0 none none) [(nm,o')] rd
       | _, _ => .no "append") .fail)
   |.bw esz n c rg cap=>(match H[n]? with
    |some (some o)=>(match Nat.beq c o.cur&&!o.flags.2.2&&decide (esz=r.size) with
     |true=>(match cap,rg with
      |none,none=>(match y with
       |.nF [] _=>K s [] rd
       |_=>(match o.flags.1,rY T (o.cur+1) o y with
        |true,some o'=>.cond (tx r (o.len+y.len)) (K (.bw esz n (o.cur+1) none none) [(n,o')] (n::rd)) .fail
        | _, _ => .no "append"))
      |some k,none=>qp T y (K s [] rd)
       (.cond (decide (o.len+y.len≤k)) .fail
         (match o.AH T r,rY T 0 o y with
         |true,some o'=>.cond (tx r (o.len+y.len)) (K (.bw esz nm 0 none none) [(nm,o')] (n::rd)) .fail
         | _, _ => .no "append"))
      |some k,some (off,len)=>(match xh T o (off+len) y with
        |some o'=>.cond (decide (len+y.len≤k)&&decide (off+len+y.len≤o.len)) (K (.bw esz n c (some (off,len+y.len)) (some k)) [(n,o')] (n::rd)) .fail
        | none => .no "append")
      | _, _ => .no "append")
     | false => .no "append")
    | _ => .no "append")
   | _ => .no "append")
def NO(Q:iH)(H:aq T.den)(t:TypeId)(d x:SV T.den)(K:EK T ρ):Tr ρ:=
 match Q.elem t,Q.isSlice t with
 |some r,some true=>QZ Q H t x fun y rd=>(match y.ok T r&&decide (0<r.size),d with
  |true,.bw esz n c rg _=>(match o5 H n c rg,H[n]? with
   |some (off,len),some (some o)=>(match Nat.beq c o.cur&&!o.flags.2.2&&decide (esz=r.size),xh T o off y with
    |true,some o'=>.cond (decide (off+len≤o.len)&&decide (y.len≤len)) (K (.lit (.int .i64 y.len)) [(n,o')] (n::rd)) .fail
    | _, _ => .no "copy")
   | _, _ => .no "copy")
  | _, _ => .no "copy")
 | _, _ => .no "copy"
def Ug(Q:iH)(H:aq T.den)(argTypes:Array TypeId)(type:TypeId)(x:SV T.den)(K:EK T ρ):Tr ρ:=
 match argTypes.toList with
 |[t]=>(match Q.isSlice t with
  |some true=>(match x with
   |.lit (.slice none 0 0)=>K (.lit (.int .i64 0)) [] []
   |.nz=>K (.lit (.int .i64 0)) [] []
   |.sl xs=>K (.lit (.int .i64 xs.length)) [] []
   |.jN _ l|.zj _ l _ _=>K (.lit (.int .i64 l.length)) [] []
   |.bw _ n c rg _=>(match o5 H n c rg with
    |some (_,len)=>K (.lit (.int .i64 len)) [] []
    | none => .no "builtin")
   |.jw _ _ _ _ len _=>K (.lit (.int .i64 len)) [] []
   | _ => .no "builtin")
  | none => .no "builtin"
  |some false=>(match x with
   | .lit (.slice none 0 0) => .no "builtin"
   |.lit v=>qN ((bN Q.P (Builtin.len_ argTypes type #[v])).bind iI) K
   |.agg _|.ref ..|.bq ..=>(match Q.arr t with
    |some (n,_)=>K (.lit (.int .i64 n)) [] []
    | none => .no "builtin")
   | _ => .no "builtin"))
 | _ => .no "builtin"
def AJ(Q:iH)(nm:Nat)(H:aq T.den)(b:Builtin)(argTypes:Array TypeId)(type:TypeId)(args:List (SV T.den))(K:EK T ρ):Tr ρ:=
 match b with
 |.append=>(match argTypes.toList,args with
  |[t,xt],[s,x]=>DZ Q nm H t xt s x K
  | _, _ => .no "builtin")
 |.copy=>(match argTypes.toList,args with
  |[t,_],[d,x]=>NO Q H t d x K
  | _, _ => .no "builtin")
 |.len=>(match args with
  |[x]=>Ug Q H argTypes type x K
  | _ => .no "builtin")
 |.max=>(match oC args with
  |some vs=>qN ((bN Q.P (Builtin.max_ argTypes type vs.toArray)).bind iI) K
  | none => .no "builtin")
 |.min=>(match oC args with
  |some vs=>qN ((bN Q.P (Builtin.min_ argTypes type vs.toArray)).bind iI) K
  | none => .no "builtin")
 | _ => .no "builtin"
def Uh(op:BinOp)(k:IntKind)(a b:Int):Option Value:=
 match op with
 |.lss=>some (.bool (decide (a<b)))
 |.leq=>some (.bool (decide (a≤b)))
 |.gtr=>some (.bool (decide (b<a)))
 |.geq=>some (.bool (decide (b≤a)))
 |.eql=>some (.bool (a==b))
 |.neq=>some (.bool (!(a==b)))
 |.add=>some (.int k (k.wrap (a+b)))
 |.sub=>some (.int k (k.wrap (a-b)))
 |.mul=>some (.int k (k.wrap (a*b)))
 |_=>none
def Ui(op:BinOp)(k:IntKind)(a b:Int):Option Value:=
 match op with
 |.quo=>some (.int k (k.wrap (a.tdiv b)))
 |.rem=>some (.int k (a.tmod b))
 |_=>none
def shS(op:BinOp)(k:IntKind)(a b:Int):Option Value:=
 match op with
 |.shl=>some (.int k (k.wrap (a*2^min b.toNat k.bits)))
 |.shr=>some (.int k (a.fdiv (2^min b.toNat k.bits)))
 |_=>none
def Xu:Operand→Bool
 |.tmp _=>true
 |_=>false
def CK.fits:CK→Value→Bool
 |.bool,.bool _=>true
 |.int k,.int k' _=>decide (k=k')
 |.str,.string _=>true
 |_,_=>false
def bA:List CK→List Value→Bool
 |[],[]=>true
 |k::ks,v::vs=>k.fits v&&bA ks vs
 |_,_=>false
def ui:Value→Value→Bool
 |.bool a,.bool b=>a==b
 |.int _ a,.int _ b=>a==b
 |.string a,.string b=>a==b
 |_,_=>false
def dk:List Value→List Value→Bool
 |[],[]=>true
 |x::xs,y::ys=>ui x y&&dk xs ys
 |_,_=>false
def zk(x y:Value)(K:Bool→Tr ρ):Tr ρ:=
 match x,y with
 |.bool a,.bool b=>K (a==b)
 |.int _ a,.int _ b=>K (a==b)
 |.string a,.string b=>K (a==b)
 |_,_=>K false
def mM:List Value→List Value→(Bool→Tr ρ)→Tr ρ
 |[],[],K=>K true
 |[x],[y],K=>zk x y K
 |x::x'::xs,y::y'::ys,K=>zk x y fun e=>mM (x'::xs) (y'::ys) fun r=>K (e&&r)
 |_,_,K=>K false
def Im(Q:iH)(op:BinOp)(t:TypeId)(l l':List (SV T.den))(K:EK T ρ):Tr ρ:=
 match oC l,oC l',Q.ty t with
 |some c,some c',some m=>
  (match m.Sm with
  |some ks=>(match m.agg&&bA ks c&&bA ks c' with
   |true=>mM c c' fun e=>(match op with
    |.eql=>K (.lit (.bool e)) [] []
    |.neq=>K (.lit (.bool (!e))) [] []
    | _ => .no "==")
   | false => .no "==")
  | none => .no "==")
 | _, _, _ => .no "=="
def Uj(Q:iH)(op:BinOp)(t:TypeId)(xo yo:Operand)(x y:SV T.den)(K:EK T ρ):Tr ρ:=
 match x,y with
 |.lit (.int k a),.lit (.int k' b)=>(match decide (k=k'),Uh op k a b with
  |true,some v=>K (.lit v) [] []
  |_,_=>(match decide (k=k'),Ui op k a b with
   |true,some v=>.cond (decide (b=0)) .fail (K (.lit v) [] [])
   |_,_=>(match Xu yo,shS op k a b with
    |true,some v=>.cond (decide (b<0)) .fail (K (.lit v) [] [])
    |_,_=>qN (gb Q.P op t xo yo (.lit (.int k a)) (.lit (.int k' b))) K)))
 |.agg l,.agg l'=>Im Q op t l l' K
 |_,_=>(match oZ x,oZ y with
  |some a,some b=>qN (gb Q.P op t xo yo a b) K
  |_,_=>(match y with
   |.lit b=>qN (DX Q.P op t x b) K
   |_=>(match x with
    |.lit a=>qN (DX Q.P op t y a) K
    |_=>.fail)))
def NP(t:Bool)(a b:SV T.den)(K:EK T ρ):Tr ρ:=
 match a,b with
 |.lit (.bool x),.lit (.bool y)=>K (.lit (.bool (cond t x y))) [] []
 |.lit (.int k x),.lit (.int k' y)=>if k=k' then K (.lit (.int k (cond t x y))) [] [] else .cond t (K a [] []) (K b [] [])
 |_,_=>.cond t (K a [] []) (K b [] [])
def D0(c:Bool)(v:SV T.den)(b:Bool):SV T.den:=
 match c with
 |true=>.kC [v,.lit (.bool b)]
 |false=>v
def vQ{kk sZ:KK}{t t':Nat}(h:kk=sZ∧t=t')(m:List (kk.D×T.den t)):List (sZ.D×T.den t'):=by
 obtain⟨rfl,rfl⟩:=h; exact m
def D1(Q:iH)(H:aq T.den)(t:TypeId)(x ix:SV T.den)(c:Bool)(K:EK T ρ):Tr ρ:=
 match Q.mapOf t with
 |some (kk,et)=>(match (Q.ty et).bind (·.zero),T.zero et,ix with
  |some _,some z,.lit k=>(match kk.get k,x with
   |some _,.lit (.map none)=>K (D0 c (T.up et z) false) [] []
   |some k',.mp false n=>(match H[n]? with
    |some (some (.lT sZ t' m))=>
     if h:sZ=kk∧t'=et then
      K (D0 c (T.up et ((mj kk (vQ h m) k').getD z)) (mj kk (vQ h m) k').isSome) [] [n]
     else .no "map"
    | _ => .no "map")
   | _, _ => .no "map")
  | _, _, _ => .no "map")
 | none => .no "map"
def uj(Q:iH)(H:aq T.den)(t:TypeId)(x ix v:SV T.den)(K:EK T ρ):Tr ρ:=
 match Q.mapOf t with
 |some (kk,_)=>(match ix,x with
  |.lit k,.mp false n=>(match kk.get k,H[n]? with
   |some k',some (some (.lT sZ t' m))=>
    (match cL v,T.dn t' v with
    | false, some y => if h : sZ = kk ∧ t' = t' then K (.lit undef) [(n, .lT kk t' (oX kk (vQ h m) k' y))] [n] else .no "map"
    | _, _ => .no "map")
   | _, _ => .no "map")
  | _, _ => .no "map")
 | none => .no "map"
def AK(Q:iH)(nm:Nat)(t:TypeId)(r:Option (SV T.den))(K:EK T ρ):Tr ρ:=
 match Q.mapOf t with
 |some (kk,et)=>kj 0 r fun _=>K (.mp false nm) [(nm,.lT kk et [])] []
 | none => .no "map"
def Q0(Q:iH)(nm:Nat)(H:aq T.den)(ev:Operand→SV T.den)(o:Oper)(K:EK T ρ):Tr ρ:=
 match o.op with
 |.move x|.assign x=>K (ev x) [] []
 |.pick c a b=>(match ev c with
  |.lit (.bool t)=>NP t (ev a) (ev b) K
  | _ => .no "pick")
 |.alloc t=>(match Q.ty t with
  |some r=>(match (r.zero).bind iz with
   |some z=>if 0<r.size then K (.ref nm 0 0 0) [(nm,.arr false true false 0 [z])] [] else .fail
   |none=>.fail)
  |none=>.fail)
 |.box _ x=>
  if (cb (ev x)).all iw=true∧0<(cb (ev x)).length∧cL (ev x)=false then
   K (.ref nm 0 0 0) [(nm, .arr false (aD (cb (ev x))) false 0 [ev x])] [] else .no "box"
 | .build t parts => if ((parts.toList.map fun p => (p.1, ev p.2)).any fun p => cL p.2) = true then .no "build" else AG (Ik Q t (parts.toList.map fun p => (p.1, ev p.2))) [] K
 | .buildSlice t len parts => if ((parts.toList.map fun p => (p.1, ev p.2)).any fun p => cL p.2) = true then .no "build" else rX Q nm t len (parts.toList.map fun p => (p.1, ev p.2)) K
 |.load t a=>(match Q.ty t with
  |some r=>JS r H (ev a) K
  |none=>.fail)
 |.store t a x=>(match Q.ty t with
  |some r=>Ij r H (ev a) (ev x) K
  |none=>.fail)
 |.nilCheck x=>(match ev x with
  |.ref n c i j=>K (.ref n c i j) [] []
  |.bq e j=>K (.bq e j) [] []
  |.jQ t y=>K (.jQ t y) [] []
  |.jP (.func f) a c=>K (.jP (.func f) a c) [] []
  |.lit (.func (.func f) a c)=>K (.lit (.func (.func f) a c)) [] []
  | _ => .no "nilCheck")
 |.binOp op t x y _=>Uj Q op t x y (ev x) (ev y) K
 |.unOp op _ x=>(match ev x with
  |.lit a=>qN ((bN Q.P (Op.unary op a)).bind iI) K
  | _ => .no "unOp")
 |.convert s d x=>(match ev x with
  |.lit a=>qN ((bN Q.P (convert s d a)).bind iI) K
  | _ => .no "convert")
 |.makeInterface t x=>if (kR Q.P t||(Q.P.underlying t).isNone||cL (ev x))=true then .fail else K (.jQ t (ev x)) [] []
 |.makeFunc fn first captured=>
  if first.isEmpty&&captured.isEmpty then K (.lit (.func fn #[] #[])) [] []
  else if (first.toList.map ev).any cL||(captured.toList.map ev).any cL then .fail
  else K (.jP fn (first.toList.map ev) (captured.toList.map ev)) [] []
 |.makeSlice t l c=>(match NM l c with
  |true=>ug Q nm t (ev l) K
  |false=>uf Q nm t (ev l) (ev c) K)
 |.slice t x lo hi mx=>Uf Q H t (ev x) (lo.map ev) (hi.map ev) (mx.map ev) K
 |.sliceToArrayPointer t x=>NN Q t (ev x) K
 |.fieldAddr s x f=>(match Q.ZH s f,ev x with
  |some (off,_),.ref n c i j=>K (.ref n c i (j+off)) [] []
  |some (off,_),.bq e j=>K (.bq e (j+off)) [] []
  |some (off,_),.uQ v bl len i=>K (.uQ (ju off v) bl len i) [] []
  | _, _ => .no "fieldAddr")
 |.field s x f=>(match Q.ZH s f,ev x with
  |some (off,r),.agg l=>AG (pW r.agg r.size (.agg l) off) [] K
  | _, _ => .no "field")
 |.indexAddr t x ix=>uh Q (match o.dst with|some d=>Q.yS d|none=>false) H t (ev x) (ev ix) K
 |.index t x ix=>Il Q (match o.dst with|some d=>Q.yS d|none=>false) t (ev x) (ev ix) K
 |.makeMap t r=>AK Q nm t (r.map ev) K
 |.lookup t x ix c=>D1 Q H t (ev x) (ev ix) c K
 |.mapUpdate t m k x=>uj Q H t (ev m) (ev k) (ev x) K
 |.extract t ix=>(match ev t with
  |.kC l=>AG l[ix]? [] K
  | _ => .no "extract")
 |.call c=>(match c.callee with
  |.builtin b=>AJ Q nm H b c.argTypes o.type (c.args.toList.map ev) K
  | _ => .no "call")
 | _ => .no "op"
end
section
variable {T:eh}{ρ:Type}
def Q1(dst:Option Tmp)(wf:List Nat):List Nat:=
 match dst with
 |some d=>d::wf
 |none=>wf
def bQ.step(s:bQ T.den)(dst:Option Tmp)(v:SV T.den)(wr:List (Nat×aK T.den)):bQ T.den:=
 { s with fr:=NK s.n s.fr dst v,hp:=bu s.hp wr,wf:=Q1 dst s.wf,wh:=wr.map (·.1)++s.wh }
def AL(v:Value)(K:Value→Tr ρ):Tr ρ:=
 match v with
 |.int k n=>K (.int k n)
 |.bool b=>K (.bool b)
 |.string s=>K (.string s)
 |v=>K v
mutual
def ei:SV T.den→(SV T.den→Tr ρ)→Tr ρ
 |.lit v,K=>AL v fun v=>K (.lit v)
 |.agg l,K=>nG l fun l=>K (.agg l)
 |.kC l,K=>nG l fun l=>K (.kC l)
 |.sl l,K=>nG l fun l=>K (.sl l)
 |.bq e j,K=>ei e fun e=>K (.bq e j)
 |.jP fn f c,K=>nG f fun f=>nG c fun c=>K (.jP fn f c)
 |.jQ t v,K=>ei v fun v=>K (.jQ t v)
 |.dead,K=>K .dead
 |.hole,K=>K .hole
 |.jN t l,K=>K (.jN t l)
 |.ref n c i j,K=>K (.ref n c i j)
 |.jw n c i j ln cp,K=>K (.jw n c i j ln cp)
 |.bw esz n c rg cap,K=>K (.bw esz n c rg cap)
 |.mp y n,K=>K (.mp y n)
 |.zj t l c b,K=>K (.zj t l c b)
 |.nz,K=>K .nz
 |.uQ v s len i,K=>ei v fun v=>K (.uQ v s len i)
def nG:List (SV T.den)→(List (SV T.den)→Tr ρ)→Tr ρ
 |[],K=>K []
 |x::xs,K=>ei x fun x=>nG xs fun xs=>K (x::xs)
end
def NQ(o:aK T.den)(K:aK T.den→Tr ρ):Tr ρ:=
 match o with
 |.arr g cl f c es=>nG es fun es=>K (.arr g cl f c es)
 |.cD g f c t l=>K (.cD g f c t l)
 |.jc=>K .jc
 |.lT kk t m=>K (.lT kk t m)
 |.qT fn ps as bd fr=>nG fr fun fr=>K (.qT fn ps as bd fr)
def qt:aq T.den→(aq T.den→Tr ρ)→Tr ρ
 |[],K=>K []
 |none::r,K=>qt r fun r=>K (none::r)
 |some o::r,K=>NQ o fun o=>qt r fun r=>K (some o::r)
def uk:List Nat→(List Nat→Tr ρ)→Tr ρ
 |[],K=>K []
 |x::r,K=>uk r fun r=>K (x::r)
def D2:uR T.den→(uR T.den→Tr ρ)→Tr ρ
 |[],K=>K []
 |(d,v)::r,K=>ei v fun v=>D2 r fun r=>K ((d,v)::r)
def bQ.force(s:bQ T.den)(K:bQ T.den→Tr ρ):Tr ρ:=
 match s with
 |⟨fn,n,fr,hp,wf,wh,js⟩=>D2 fr fun fr=>qt hp fun hp=>uk wf fun wf=>uk wh fun wh=>K ⟨fn,n,fr,hp,wf,wh,js⟩
def Ip(hp:aq T.den)(wh:List Nat)(wr:List (Nat×aK T.den))(K:aq T.den→List Nat→Tr ρ):Tr ρ:=
 match wr with
 |[]=>K hp wh
 |w::r=>qt (bu hp (w::r)) fun hp=>uk ((w::r).map (·.1)++wh) fun wh=>K hp wh
def bQ.gX(s:bQ T.den)(dst:Option Tmp)(v:SV T.den)(wr:List (Nat×aK T.den))(K:bQ T.den→Tr ρ):Tr ρ:=
 match s with
 |⟨fn,n,fr,hp,wf,wh,js⟩=>Ip hp wh wr fun hp wh=>
  match dst with
  |none=>K ⟨fn,n,fr,hp,wf,wh,js⟩
  |some d=>(match Nat.ble n d with
   |true=>K ⟨fn,n,fr,hp,d::wf,wh,js⟩
   |false=>ei v fun v=>K ⟨fn,n,(d,v)::fr,hp,d::wf,wh,js⟩)
def qu(ops:Array Oper):List Oper→(List (G×Oper)→Tr ρ)→Tr ρ
 |[],K=>K []
 |o::r,K=>(match fL ops o with
  |.always=>qu ops r fun l=>K ((.always,o)::l)
  |.never=>qu ops r fun l=>K ((.never,o)::l)
  |.on d w=>qu ops r fun l=>K ((.on d w,o)::l))
def zl(g:G)(s:bQ T.den)(K:bQ T.den→Bool→Tr ρ):Tr ρ:=
 match g with
 |.always=>K s true
 |.never=>K s false
 |.on d want=>(match dj s.fr d with
  |.lit (.bool b)=>.cond b (s.gX (some d) (.lit (.bool true)) [] fun s=>K s (true==want)) (s.gX (some d) (.lit (.bool false)) [] fun s=>K s (false==want))
  |.lit (.tuple _)=>K s false
  | _ => .no "guard")
def nH(fv:SV T.den)(args:List (SV T.den)):Option (FuncId×List (SV T.den)):=
 match fv with
 |.lit (.func (.func f) first captured)=>some (f,first.toList.map .lit++args++captured.toList.map .lit)
 |.jP (.func f) first captured=>some (f,first++args++captured)
 |_=>none
mutual
def gY(T:eh)(H:aq T.den):Nat→SV T.den→(SV T.den→List Nat→Tr ρ)→Tr ρ
 | 0, _, _ => .no "seal"
 |k+1,v,K=>match v with
  |.bw _ n c rg _=>(match H[n]? with
   |some (some (.arr _ cl _ cur es))=>(match Nat.beq c cur with
    |true=>(match rg with
     |none=>(match cl with
      |true=>K (.sl es) [n]
      |false=>gZ T H k es fun l rd=>K (.sl l) (n::rd))
     |some (off,len)=>if off+len≤es.length then (match cl with
      |true=>K (.sl ((es.drop off).take len)) [n]
      | false => gZ T H k ((es.drop off).take len) fun l rd => K (.sl l) (n :: rd)) else .no "seal")
    | false => .no "seal")
   |some (some (.cD _ _ cur t l))=>(match Nat.beq c cur with
    |true=>(match rg with
     |none=>K (.jN t l) [n]
     |some (off,len)=>.cond (decide (off+len≤l.length)) (K (.jN t ((l.drop off).take len)) [n]) .fail)
    | false => .no "seal")
   | _ => .no "seal")
  |.ref n c i j=>(match H[n]? with
   |some (some (.arr _ cl _ cur es))=>(match Nat.beq c cur,es[i]? with
    |true,some e=>(match cl with
     |true=>K (.bq e j) [n]
     |false=>gY T H k e fun e' rd=>K (.bq e' j) (n::rd))
    | _, _ => .no "seal")
   | _ => .no "seal")
  |.jw n c i j ln cp=>(match H[n]? with
   |some (some (.arr _ cl _ cur es))=>(match Nat.beq c cur,es[i]? with
    |true,some (.agg cs)=>(match decide (ln≤cp)&&decide (j+ln≤cs.length) with
     |true=>(match cl with
      |true=>K (.sl ((cs.drop j).take ln)) [n]
      |false=>gZ T H k ((cs.drop j).take ln) fun l rd=>K (.sl l) (n::rd))
     | false => .no "seal")
    | _, _ => .no "seal")
   | _ => .no "seal")
  |.agg l=>gZ T H k l fun l rd=>K (.agg l) rd
  |.kC l=>gZ T H k l fun l rd=>K (.kC l) rd
  |.jQ t v=>gY T H k v fun v rd=>K (.jQ t v) rd
  |.jP fn f c=>gZ T H k f fun f rd=>gZ T H k c fun c rd2=>K (.jP fn f c) (rd++rd2)
  |.sl xs=>K (.sl xs) []
  |.jN t l=>K (.jN t l) []
  |.zj t l _ _=>K (.jN t l) []
  |.nz=>K (.sl []) []
  |.bq e j=>K (.bq e j) []
  |.lit v=>(match v with
   |.slice none 0 0=>K (.sl []) []
   |v=>K (.lit v) [])
  | _ => .no "seal"
def gZ(T:eh)(H:aq T.den):Nat→List (SV T.den)→(List (SV T.den)→List Nat→Tr ρ)→Tr ρ
 | 0, _, _ => .no "seal"
 |k+1,xs,K=>match xs with
  |[]=>K [] []
  |x::xs=>gY T H k x fun y rd=>gZ T H k xs fun ys rd2=>K (y::ys) (rd++rd2)
end
def oD(T:eh)(H:aq T.den):Nat→List Nat→(List (Nat×aK T.den)→List Nat→Tr ρ)→Tr ρ
 | 0, _, _ => .no "seal"
 |k+1,ns,K=>match ns with
  |[]=>K [] []
  |n::r=>(match H[n]? with
   |some (some (.arr g cl _ cur es))=>(match cl with
    |true=>oD T H k r fun l rd=>K ((n,.arr g true true cur es)::l) (n::rd)
    |false=>gZ T H 1000 es fun es' rd=>oD T H k (oB es++r) fun l rd2=>K ((n,.arr g true true cur es')::l) (n::rd++rd2))
   |some (some (.cD g _ cur t l))=>oD T H k r fun w rd=>K ((n,.cD g true cur t l)::w) (n::rd)
   | _ => .no "seal")
def Q2(T:eh)(σ:yT T)(H:aq T.den)(args:List (SV T.den))(K:EK T ρ):Tr ρ:=
 gZ T H 1000 args fun as rd=>
  match (KX T σ.args as).bind (xe (σ.args.map .v)) with
  |some xs=>.bind (σ.fn xs) fun r=>
   match tf (Ue T (gV (σ.res.map .v) r)) with
   |v=>(match yg v with
    |true=>K v [] rd
    |false=>oD T H 1000 (oB args) fun wr rd2=>K v wr (rd++rd2))
  | none => .no "seal"
def Q3(T:eh)(σ:yh T)(nm:Nat)(H:aq T.den)(args:List (SV T.den))(K:EK T ρ):Tr ρ:=
 gZ T H 1000 args fun as rd=>
  match (KX T σ.args as).bind (xe (σ.args.map .v)) with
  |some xs=>.bind (σ.fn xs) fun l=>K (.bw σ.esz nm 0 none none) [(nm,.cD true false 0 σ.el l)] rd
  | none => .no "seal"
def iR(n:Nat)(r:SV T.den)(hp:aq T.den):aq T.den:=
 if bM n r&&(hp.take n).all (lH n) then hp.take n else hp
def sO(n:Nat)(v:SV T.den):SV T.den:=if bM n v then v else .dead
def lu(n:Nat)(s:bQ T.den):bQ T.den:=
 if (s.hp.take n).all (lH n) then { s with fr:=s.fr.map fun q=>(q.1,sO n q.2),hp:=s.hp.take n } else s
def um(T:eh)(Q:iH)(s:bQ T.den):List ResultVar→(List (SV T.den)→Tr ρ)→Tr ρ
 |[],K=>K []
 |.tmp t::rs,K=>(match dj s.fr t with
  |.dead=>.fail
  |v=>um T Q s rs fun l=>K (v::l))
 |.cell a t::rs,K=>(match Q.ty t with
  |some r=>JS r s.hp (dj s.fr a) fun v _ _=>um T Q s rs fun l=>K (v::l)
  |none=>.fail)
def keyOf:Code→Nat
 |.region id _ _=>id
 |.seq a _=>keyOf a
 |.cond _ a _=>keyOf a
 |.block _ b|.loop b|.scope b=>keyOf b
 |_=>0
def uo(b:Code)(s:bQ T.den):Nat:=keyOf b+1000*s.hp.length
def KZ(T:eh)(x:TV T.den):Nat:=
 match Xt T x with
 |.lit (.int _ m)=>m.toNat
 |_=>0
def isHole{den:Nat→Type}:SV den→Bool
 |.hole=>true
 |_=>false
def gG(H:aq T.den):qV→List (TV T.den)→SV T.den×List (TV T.den)
 |.hole,l=>(.hole,l)
 |.FI esz n rg cap,l=>((match H[n]? with
  |some (some o)=>.bw esz n o.cur rg cap
  |_=>.dead),l)
 |.jw n i j len cap,l=>((match H[n]? with
  |some (some o)=>.jw n o.cur i j len cap
  |_=>.dead),l)
 |.val _,l=>(match l with
  |x::r=>(Xt T x,r)
  |[]=>(.dead,[]))
 |.own esz n,l=>((match H[n]? with
  |some (some o)=>.bw esz n o.cur none none
  |_=>.dead),l)
 |.tv esz n _ k,l=>(match k with
  |false=>(match l with
   |x::y::r=>((match H[n]? with
    |some (some o)=>.bw esz n o.cur (some (KZ T x,KZ T y)) none
    |_=>.dead),r)
   |_=>(.dead,[]))
  |true=>(match l with
   |x::y::z::r=>((match H[n]? with
    |some (some o)=>.bw esz n o.cur (some (KZ T x,KZ T y)) (some (KZ T z))
    |_=>.dead),r)
   |_=>(.dead,[])))
def kl(H:aq T.den):List qV→List (TV T.den)→List (SV T.den)×List (TV T.den)
 |[],l=>([],l)
 |p::ps,l=>match gG H p l with
  |(v,l')=>match kl H ps l' with
   |(vs,l'')=>(v::vs,l'')
def oE:aK T.den→dt→aK T.den
 |.arr g _ f c _,.list t=>.cD g f (c+1) t []
 |.cD g f c _ _,.list t=>.cD g f (c+1) t []
 |.arr g _ f c _,.fix t=>.cD g f c t []
 |.cD g f c _ _,.fix t=>.cD g f c t []
 |.lT kk t _,.map _ _=>.lT kk t []
 |o,_=>o
def tz(H:aq T.den):List (Nat×dt)→aq T.den
 |[]=>H
 |(n,p)::r=>match H[n]? with
  |some (some o)=>tz (H.set n (some (oE o p))) r
  |_=>tz H r
def km(H:aq T.den)(o:aK T.den):dt→List (TV T.den)→aK T.den×List (TV T.den)
 |.list _,l|.fix _,l=>(match o,l with
  |.cD g f c _ _,⟨.l t,x⟩::r=>(.cD g f c t x,r)
  |_,_=>(o,l))
 |.one p,l=>(match o,gG H p l with
  |.arr g cl f c _,(v,r)=>(.arr g cl f c [v],r)
  |_,_=>(o,l))
 |.agg ps,l=>(match o,kl H ps l with
  |.arr g cl f c _,(vs,r)=>(.arr g cl f c [.agg vs],r)
  |_,_=>(o,l))
 |.map _ _,l=>(match o,l with
  |.lT _ _ _,⟨.m kk t,x⟩::r=>(.lT kk t x,r)
  |_,_=>(o,l))
def hJ:aq T.den→List (Nat×dt)→List (TV T.den)→aq T.den
 |H,[],_=>H
 |H,(n,p)::r,l=>match H[n]? with
  |some (some o)=>(match km H o p l with
   |(o',l')=>hJ (H.set n (some o')) r l')
  |_=>hJ H r l
def sP(n:Nat)(H:aq T.den):uR T.den→List (Nat×qV)→List (TV T.den)→uR T.den×List (TV T.den)
 |fr,[],l=>(fr,l)
 |fr,(d,p)::r,l=>match gG H p l with
  |(v,l')=>sP n H (vO n fr d v) r l'
def CL(n:Nat)(fr:uR T.den):List Nat→uR T.den
 |[]=>fr
 |d::r=>CL n (vO n fr d .dead) r
def K0:qW→Option (aK T.den)
 |.jc=>some .jc
 |.list g f t=>some (.cD g f 0 t [])
def br:Nat→List qW→List (Nat×dt)
 |_,[]=>[]
 |n,.jc::r=>br (n+1) r
 |n,.list _ _ t::r=>(n,.list t)::br (n+1) r
def dM(aG:List (Nat×qV))(dead:List Nat)(objs:List (Nat×dt))(ext:List qW)(s:bQ T.den)(l:List (TV T.den)):bQ T.den:=
 match sP s.n (tz s.hp objs++ext.map K0) (CL s.n s.fr dead) aG l with
 |(fr,l')=>{ s with fr:=fr,hp:=hJ (tz s.hp objs++ext.map K0) (objs++br s.hp.length ext) l' }
def gB(H:aq T.den)(p:qV)(v:SV T.den):Option (List (TV T.den)):=
 match p with
 |.hole=>(match isHole v with
  |true=>some []
  |false=>none)
 |.FI esz n rg cap=>(match v with
  |.bw AM n' c rg' Iq=>(match H[n]? with
   |some (some o)=>if AM=esz∧n'=n∧c=o.cur∧rg'=rg∧Iq=cap then some [] else none
   |_=>none)
  |_=>none)
 |.jw n i j len cap=>(match v with
  |.jw n' c i' j' Q4 Iq=>(match H[n]? with
   |some (some o)=>if n'=n∧c=o.cur∧i'=i∧j'=j∧Q4=len∧Iq=cap then some [] else none
   |_=>none)
  |_=>none)
 |.val t=>(match cL v with
  |true=>none
  |false=>match T.dn t v with
   |some x=>some [⟨.v t,x⟩]
   |none=>none)
 |.own esz n=>match v with
  |.bw AM n' c none none=>(match H[n]? with
   |some (some o)=>if AM=esz∧n'=n∧c=o.cur then some [] else none
   |_=>none)
  |_=>none
 |.tv esz n t k=>match v with
  |.bw AM n' c rg cap=>(match H[n]?,o5 H n' c rg with
   |some (some o),some (off,len)=>if AM=esz∧n'=n∧c=o.cur then
     (T.dn t (.lit (.int .i64 off))).bind fun x=>(T.dn t (.lit (.int .i64 len))).bind fun y=>(match k,cap with
       |false,none=>some [⟨.v t,x⟩,⟨.v t,y⟩]
       |true,some m=>(T.dn t (.lit (.int .i64 m))).map fun z=>[⟨.v t,x⟩,⟨.v t,y⟩,⟨.v t,z⟩]
       |_,_=>none) else none
   |_,_=>none)
  |_=>none
def jh(H:aq T.den):List qV→List (SV T.den)→Option (List (TV T.den))
 |[],[]=>some []
 |p::ps,v::vs=>(gB H p v).bind fun l=>(jh H ps vs).map fun r=>l++r
 |_,_=>none
def fo(H:aq T.den)(o:aK T.den):dt→Option (List (TV T.den))
 |.list t|.fix t=>(match o with
  |.cD _ _ _ t' l=>if h:t'=t then some [⟨.l t,CH h l⟩] else none
  |.arr _ true _ _ es=>(qM T t es).map fun l=>[⟨.l t,l⟩]
  |_=>none)
 |.one p=>(match o with
  |.arr _ _ _ _ [v]=>gB H p v
  |_=>none)
 |.agg ps=>(match o with
  |.arr _ _ _ _ [.agg vs]=>jh H ps vs
  |_=>none)
 |.map kk t=>(match o with
  |.lT sZ t' m=>if sZ=kk∧t'=t then some [⟨.m sZ t',m⟩] else none
  |_=>none)
def lI(H:aq T.den):List (Nat×dt)→Option (List (TV T.den))
 |[]=>some []
 |(n,p)::r=>match H[n]? with
  |some (some o)=>(fo H o p).bind fun l=>(lI H r).map fun m=>l++m
  |_=>none
def rZ(H:aq T.den)(fr:uR T.den):List (Nat×qV)→Option (List (TV T.den))
 |[]=>some []
 |(d,p)::r=>(gB H p (dj fr d)).bind fun l=>(rZ H fr r).map fun m=>l++m
def xi(aG:List (Nat×qV))(objs:List (Nat×dt))(s:bQ T.den):Option (List (TV T.den)):=
 (rZ s.hp s.fr aG).bind fun l=>(lI s.hp objs).map fun m=>l++m
def sR(H H':aq T.den)(objs:List (Nat×dt)):Bool:=
 objs.all fun q=>match H[q.1]?,H'[q.1]? with
  |some (some o),some (some o')=>decide (o.flags=o'.flags)
  |_,_=>false
def jd(H0 H:aq T.den):List (Nat×dt)→Tr ρ→Tr ρ
 |[],K=>K
 |(n,.fix _)::r,K=>(match H0[n]?,H[n]? with
  |some (some o),some (some o')=>.cond (decide (o'.len=o.len)) (jd H0 H r K) .fail
  | _, _ => .no "fix")
 |_::r,K=>jd H0 H r K
def zm(H0 H:aq T.den)(objs:List (Nat×dt)):Bool:=
 objs.all fun q=>match q.2 with
  |.list _=>true
  |_=>match H0[q.1]?,H[q.1]? with
   |some (some o),some (some o')=>Nat.beq o.cur o'.cur
   |_,_=>false
def subset(a b:List Nat):Bool:=a.all fun x=>b.contains x
def nodupB:List Nat→Bool
 |[]=>true
 |x::r=>!r.contains x&&nodupB r
def FJ(H:aq T.den):Nat→List qW→Bool
 |_,[]=>true
 |n,e::r=>(match H[n]?,e with
  |some (some o),.jc=>o.flags.2.1
  |some (some o),.list g f _=>decide (o.flags=(g,true,f))
  |_,_=>false)&&FJ H (n+1) r
def qV.nU:qV→List Nat
 |.val _|.hole=>[]
 |.own _ n|.tv _ n _ _|.FI _ n _ _|.jw n _ _ _ _=>[n]
def dt.nU:dt→List Nat
 |.list _|.fix _|.map _ _=>[]
 |.one p=>p.nU
 |.agg ps=>ps.flatMap qV.nU
def xk(tP:Nat)(aG:List (Nat×qV))(objs:List (Nat×dt)):Bool:=
 (aG.flatMap (fun q=>q.2.nU)++objs.flatMap (fun q=>q.2.nU)).all fun n=>Nat.blt n tP||(objs.map (·.1)).contains n
def D3(n:Nat)(aG:List (Nat×qV))(dead:List Nat):Bool:=(aG.map (·.1)++dead).all fun d=>Nat.blt d n
def uq(aG:List (Nat×qV))(dead:List Nat)(objs:List (Nat×dt))(ext:List qW)(s0 s:bQ T.den):Bool:=
 D3 s0.n aG dead&&xk s0.hp.length aG (objs++br s0.hp.length ext)&&subset s.wf (aG.map (·.1)++dead)&&subset (s.wh.filter fun n=>decide (n<s0.hp.length)) (objs.map (·.1)) &&
  decide (s.hp.length=s0.hp.length+ext.length)&&sR s0.hp s.hp objs&&zm s0.hp s.hp objs&&FJ s.hp s0.hp.length ext
def JT(H:aq T.den)(l:List (Nat×dt)):Bool:=l.all fun q=>match H[q.1]?,q.2 with
 |some (some (.arr _ _ _ _ [_])),.one _=>true
 |some (some (.arr _ _ _ _ [_])),.agg _=>true
 |_,_=>false
def K1(h:Hint)(s0 s:bQ T.den)(kind:Option Nat)(o:DY):Option (HL T.den (o.lr h.objs)):=
 match decide (o.kind=kind)&&decide (s.js=o.js)&&(uq o.aG (h.aG.map (·.1)++h.dead) (ki h.objs o.more) o.ext s0 s&&(nodupB ((ki h.objs o.more).map (·.1))&&JT s0.hp o.more)) with
 |true=>(xi o.aG ((ki h.objs o.more)++br s0.hp.length o.ext) s).bind (xe (o.lr h.objs))
 |false=>none
def vR(key:Nat)(h:Hint)(s0 s:bQ T.den)(kind:Option Nat):(l:List DY)→(BO T.den h.objs l→Tr ρ)→Tr ρ
 |[],_=>.bad key (some kind) s0 s
 |[o],K=>(match K1 h s0 s kind o with
  |some x=>jd s0.hp s.hp h.objs (K x)
  |none=>.bad key (some kind) s0 s)
 |o::p::r,K=>(match K1 h s0 s kind o with
  |some x=>jd s0.hp s.hp h.objs (K (.inl x))
  |none=>vR key h s0 s kind (p::r) fun x=>K (.inr x))
def lv(h:Hint)(s:bQ T.den)(o:DY)(x:HL T.den (o.lr h.objs)):bQ T.den:=
 let s':=dM o.aG (h.aG.map (·.1)++h.dead) (ki h.objs o.more) o.ext s (gV (o.lr h.objs) x)
 { s' with wf:=o.aG.map (·.1)++(h.aG.map (·.1)++(h.dead++s.wf)),wh:=(ki h.objs o.more).map (·.1)++s.wh,js:=o.js }
def D4(s:bQ T.den)(kind:Option Nat):qU T.den:=
 match kind with
 |some id=>.exit id s
 |none=>.ret s
def PL(h:Hint)(s:bQ T.den):(l:List DY)→BO T.den h.objs l→(qU T.den→Tr ρ)→Tr ρ
 |[],_,_=>.fail
 |[o],w,K=>(lv h s o w).force fun s=>K (D4 s o.kind)
 |o::p::r,w,K=>.sum w (fun x=>(lv h s o x).force fun s=>K (D4 s o.kind)) fun w=>PL h s (p::r) w K
def Hint.ok(h:Hint):Bool:=
 nodupB (h.aG.map (·.1)++h.dead)&&nodupB (h.objs.map (·.1))&&h.outs.all fun o=>nodupB (o.aG.map (·.1))
def yi(step:Oper→bQ T.den→(bQ T.den→Tr ρ)→Tr ρ):List (G×Oper)→bQ T.den→(bQ T.den→Tr ρ)→Tr ρ
 |[],s,K=>K s
 |(g,o)::rest,s,K=>zl g s fun s want=>
  match want with
  |false=>s.gX o.dst (.lit undef) [] fun s=>yi step rest s K
  |true=>step o s fun s'=>yi step rest s' K
def nI:List Item→List (G×Oper)→List (G×Item)
 |x::r,(g,_)::l=>(g,x)::nI r l
 |_,_=>[]
def AN:List (G×Item)→(List (G×Item)→Tr ρ)→Tr ρ
 |[],K=>K []
 |(g,⟨i,nm,o⟩)::r,K=>AN r fun l=>K ((g,⟨i,nm,o⟩)::l)
def ur[ag](step:Nat→Oper→bQ T.den→EK T ρ→Tr ρ):List (G×Item)→bQ T.den→List gx→(bQ T.den→List gx→Tr ρ)→Tr ρ
 |[],s,fs,K=>K s fs
 |(g,x)::rest,s,fs,K=>zl g s fun s want=>
  match want with
  |false=>s.gX x.o.dst (.lit undef) [] fun s=>ur step rest s (fs++[⟨x.idx,[],[]⟩]) K
  |true=>step (x.at s.hp.length) x.o s fun v wr rd=>
   match wr.all (fun q=>decide (q.1<s.hp.length)&&((aC x.o.op&&decide (q.1=x.nm))||(match s.hp[q.1]? with|some (some _)=>true|_=>false))) with
   |true=>s.gX x.o.dst v wr fun s=>ur step rest s (fs++[⟨x.idx,rd,wr.map (·.1)⟩]) K
   |false=>.fail
end
def sa{T:eh}(esz j nm:Nat)(e:SV T.den):Option (SV T.den):=
 match e with
 |.agg l=>(match l[j]? with
  |some (.lit (.slice none 0 0))=>some (.agg (l.set j (.bw esz nm 0 none none)))
  |_=>none)
 |.lit (.slice none 0 0)=>if j=0 then some (.bw esz nm 0 none none) else none
 |_=>none
def K2{T:eh}{ρ:Type}(d:Tmp):List (Nat×Nat)→bQ T.den→(bQ T.den→Tr ρ)→Tr ρ
 |[],s,K=>K s
 |(j,esz)::r,s,K=>(match dj s.fr d with
  |.ref n _ i k=>(match s.hp[n]? with
   |some (some (.arr g _ f cur es))=>(match (es[i]?).bind (sa esz (k+j) s.hp.length) with
    |some e'=>s.gX none (.lit undef) [(n,.arr g false f cur (es.set i e')),(s.hp.length,.arr true true false 0 [])] fun s=>K2 d r s K
    | none => .no "nil")
   | _ => .no "nil")
  |v=>(match sa esz j s.hp.length v with
   |some v'=>s.gX (some d) v' [(s.hp.length,.arr true true false 0 [])] fun s=>K2 d r s K
   | none => .no "nil"))
def FK{T:eh}{ρ:Type}(l:Tmp→List (Nat×Nat))(dst:Option Tmp)(s:bQ T.den)(K:bQ T.den→Tr ρ):Tr ρ:=
 match dst with
 |some d=>K2 d (l d) s K
 |none=>K s
def CM{den:Nat→Type}(j:Nat):SV den→Option (SV den)
 |.agg l=>(match Nat.blt j l.length with
  |true=>some (.agg (l.set j .hole))
  |false=>none)
 |_=>none
def AO{T:eh}{ρ:Type}:List (Nat×Nat)→bQ T.den→(bQ T.den→Tr ρ)→Tr ρ
 |[],s,K=>K s
 |(d,j)::r,s,K=>(match dj s.fr d with
  |.ref n _ i k=>(match s.hp[n]? with
   |some (some (.arr g _ f cur es))=>(match (es[i]?).bind (CM (k+j)) with
    |some e'=>s.gX none (.lit undef) [(n,.arr g false f cur (es.set i e'))] fun s=>AO r s K
    | none => .no "a hole")
   | _ => .no "a hole")
  | _ => .no "a hole")
def cellOf{T:eh}(s:bQ T.den)(d j:Nat):Option (SV T.den):=
 match dj s.fr d with
 |.ref n _ i k=>(match s.hp[n]? with
  |some (some (.arr _ _ _ _ es))=>(match es[i]? with
   |some (.agg l)=>l[k+j]?
   |_=>none)
  |_=>none)
 |.agg l=>l[j]?
 |v=>(match Nat.beq j 0 with
  |true=>some v
  |false=>none)
def setCell{T:eh}(s:bQ T.den)(d j:Nat)(v:SV T.den):bQ T.den:=
 match dj s.fr d with
 |.ref n _ i k=>(match s.hp[n]? with
  |some (some (.arr g cl f cur es))=>(match es[i]? with
   |some (.agg l)=>{ s with hp:=s.hp.set n (some (.arr g cl f cur (es.set i (.agg (l.set (k+j) v))))),wh:=n::s.wh }
   |_=>s)
  |_=>s)
 |.agg l=>{ s with fr:=vO s.n s.fr d (.agg (l.set j v)),wf:=d::s.wf }
 |_=>{ s with fr:=vO s.n s.fr d v,wf:=d::s.wf }
def NR{ρ:Type}:Nat→Nat→Int→(Int→Tr ρ)→Tr ρ
 |0,_,_,_=>.fail
 |b+1,m,n,K=>.cond (n==Int.ofNat m) (K (Int.ofNat m)) (NR b (m+1) n K)
def FL{T:eh}{ρ:Type}(t:Nat)(l:List (T.den t)):Nat→Nat→(List (SV T.den)→Tr ρ)→Tr ρ
 |0,_,K=>K []
 |b+1,i,K=>.bind l[i]? fun x=>FL t l b (i+1) fun xs=>K (T.up t x::xs)
def AP{T:eh}{ρ:Type}(s:bQ T.den)(w:Tw)(K:bQ T.den→Tr ρ):Tr ρ:=
 match w with
 |.num d j b=>(match cellOf s d j with
  |some (.lit (.int k n))=>NR b 0 n fun m=>(setCell s d j (.lit (.int k m))).force K
  | _ => .no "a number")
 |.ZI d j n=>(match cellOf s d j with
  |some (.jN t l)=>.cond (Nat.blt 0 n&&decide (l.length=n)) (FL t l n 0 fun xs=>(setCell s d j (.sl xs)).force K) .fail
  | _ => .no "a list")
 |.arr d n=>(match dj s.fr d with
  |.bw _ nm _ _ _=>(match s.hp[nm]? with
   |some (some (.cD g f cur t l))=>.cond (decide (l.length=n)) (FL t l n 0 fun xs=>bQ.force { s with hp:=s.hp.set nm (some (.arr g true f cur xs)),wh:=nm::s.wh } K) .fail
   | _ => .no "an array")
  | _ => .no "an array")
 |.int d j=>(match cellOf s d j with
  |some (.lit (.int k n))=>.bind (some n) fun n=>(setCell s d j (.lit (.int k n))).force K
  | _ => .no "a number")
 |.name d=>(match dj s.fr d with
  |.bw esz nm c rg cap=>(match s.hp[nm]? with
   |some (some (.cD g f cur t l))=>.bind (some l) fun l=>(match rg with
    |none=>bQ.force { s with hp:=s.hp.set nm (some (.cD g f cur t l)),wh:=nm::s.wh } K
    |some (off,len)=>.bind (some off) fun off=>.bind (some len) fun len=>
     bQ.force { s with fr:=vO s.n s.fr d (.bw esz nm c (some (off,len)) cap),hp:=s.hp.set nm (some (.cD g f cur t l)),wf:=d::s.wf,wh:=nm::s.wh } K)
   | _ => .no "a name")
  | _ => .no "a name")
def Xv{T:eh}{ρ:Type}:List Tw→bQ T.den→(bQ T.den→Tr ρ)→Tr ρ
 |[],s,K=>K s
 |w::r,s,K=>AP s w fun s=>Xv r s K
def Xw{T:eh}{ρ:Type}(l:Tmp→List Tw)(dst:Option Tmp)(s:bQ T.den)(K:bQ T.den→Tr ρ):Tr ρ:=
 match dst with
 |some d=>Xv (l d) s K
 |none=>K s
def yU{den:Nat→Type}(u:List Nat)(fr:uR den):List Nat→List (SV den)
 |[]=>[]
 |d::r=>(match u.contains d with
  |true=>dj fr d
  |false=>.dead)::yU u fr r
def nJ{den:Nat→Type}(n:Nat)(fr:uR den):List Tmp→List (SV den)→uR den
 |p::ps,x::xs=>nJ n (vO n fr p x) ps xs
 |_,_=>fr
def D5(js:List (Nat×m9))(n:Nat)(st:m9):List (Nat×m9):=js.map fun q=>match Nat.beq q.1 n with
 |true=>(q.1,st)
 |false=>q
def FM(js:List (Nat×m9))(n:Nat):List (Nat×m9):=js.filter fun q=>!Nat.beq q.1 n
def xl(js:List (Nat×m9))(n:Nat):Bool:=js.all fun q=>Nat.blt q.1 n
def bQ.over{T:eh}(s:bQ T.den)(n:Nat)(hp:aq T.den)(wh:List Nat)(js:List (Nat×m9)):bQ T.den:=
 { s with hp:=hp.set n (some .jc),wh:=wh,js:=FM js n }
def NS{T:eh}{ρ:Type}(s:bQ T.den)(n:Nat)(dst:Option Tmp)(b:Bool)(st:m9)(s2:bQ T.den)(K:bQ T.den→Tr ρ):Tr ρ:=
 match cO s2.js n with
 |some .busy=>(match xl s2.js s.hp.length with
  |true=>qt (iR s.hp.length (.lit (.bool b)) s2.hp) fun hp=>bQ.gX ⟨s.fn,s.n,s.fr,hp,s.wf,s2.wh,D5 s2.js n st⟩ dst (.lit (.bool b)) [] K
  | false => .no "a round's end")
 | _ => .no "a round's end"
def sS(pr:List Nat)(fs:List gx):Bool:=
 match fs.all fun f=>f.wr.isEmpty with
 |true=>true
 |false=>gh pr fs
def JU{T:eh}(Q:iH)(ev:Operand→SV T.den)(op:Op)(H:aq T.den)(n:Nat)(o':aK T.den):Bool:=
 match op with
 |.store t a _=>(match Q.ty t,ev a,H[n]? with
  |some r,.ref n' _ i j,some (some (.arr _ false _ cur es))=>(match es[i]? with
   |some (.agg l)=>Nat.beq n' n&&Nat.ble (j+r.size) l.length&&((l.drop j).take r.size).all isHole&&Nat.beq cur o'.cur&&Nat.beq es.length o'.len
   |_=>false)
  |_,_,_=>false)
 |_=>false
def xm[ag]{T:eh}(Q:iH)(nm:Nat){ρ:Type}:List Oper→bQ T.den→Option Nat→List Nat→(bQ T.den→Option Nat→List Nat→Tr ρ)→Tr ρ
 |[],s,ov,rd,K=>K s ov rd
 |o::r,s,ov,rd,K=>(match o.guard with
  | some _ => .no "a look"
  |none=>(match o.op with
   | .call _ => .no "a look"
   |.assign (.const (.slice none 0 0))=>s.gX o.dst (.lit cx) [] fun s=>xm Q nm r s ov rd K
   |op=>Q0 Q s.hp.length s.hp (fZ s.fr) o fun v wr rd'=>(match wr.all fun q=>Nat.ble nm q.1 with
     |true=>s.gX o.dst v wr fun s=>xm Q nm r s ov (rd++rd') K
     |false=>(match ov,wr with
      |none,[(n,o')]=>(match Nat.blt n nm&&JU Q (fZ s.fr) op s.hp n o' with
       |true=>s.gX o.dst v [(n,o')] fun s=>xm Q nm r s (some n) (rd++(rd'++[n])) K
       | false => .no "a look")
      | _, _ => .no "a look"))))
def nK[ag]{T:eh}(Q:iH)(nm:Nat){ρ:Type}:Code→bQ T.den→Option Nat→List Nat→(Bool→bQ T.den→Option Nat→List Nat→Tr ρ)→Tr ρ
 |.skip,s,ov,rd,K=>K false s ov rd
 |.ret,s,ov,rd,K=>K true s ov rd
 |.seq a b,s,ov,rd,K=>nK Q nm a s ov rd fun q s ov rd=>(match q with
  |true=>K true s ov rd
  |false=>nK Q nm b s ov rd K)
 |.region _ ops false,s,ov,rd,K=>xm Q nm ops.toList s ov rd (K false)
 |.cond o a b,s,ov,rd,K=>(match fZ s.fr o with
  |.lit (.bool t)=>.cond t (nK Q nm a s ov rd K) (nK Q nm b s ov rd K)
  | _ => .no "a look")
 | _, _, _, _, _ => .no "a look"
def JV{den:Nat→Type}(fr:uR den)(rs:List ResultVar):List Nat:=rs.flatMap fun
 |.tmp _=>[]
 |.cell a _=>oY (dj fr a)
def zo{den:Nat→Type}(fr:uR den)(rs:List ResultVar):Bool:=rs.all fun
 |.tmp _=>true
 |.cell a _=>!cL (dj fr a)
def NT[ag](S:qX){ρ:Type}(g:FuncId)(args:List (SV S.T.den))(H:aq S.T.den)(K:EK S.T ρ):Tr ρ:=
 match S.C.kind g,S.C.rj g,S.C.P.funcs[g]? with
 |.imp,none,some fn=>(match fn.body with
  |some c=>(match Ez c with
   | true => .no "a look"
   |false=>nK (S.Qf g) H.length c ⟨g,max fn.ntmps args.length,oA 0 args,H,[],[],[]⟩ none [] fun _ s ov rd=>um S.T S.Q s fn.results.toList fun l=>
   (match bM H.length (tf l)&&zo s.fr fn.results.toList&&(match ov with
     |some n=>(match s.hp[n]? with
      |some o=>lH H.length o
      |none=>false)
     |none=>true) with
   |true=>K (tf l) [] ((rd++JV s.fr fn.results.toList).filter fun n=>Nat.blt n H.length)
   | false => .no "a look's answer"))
  | none => .no "a look")
 | _, _, _ => .no "a call without an answer"
def ZK[ag](S:qX){ρ:Type}(nm:Nat)(o:Oper)(s:bQ S.T.den)(K:EK S.T ρ):Tr ρ:=
 match o.op with
 |.call c=>
  (match c.callee with
  |.builtin _=>Q0 (S.Qf s.fn) nm s.hp (fZ s.fr) o K
  |.value f=>
   (match nH (fZ s.fr f) (c.args.toList.map (fZ s.fr)) with
   |none=>.fail
   |some (g,args)=>(match aC o.op with
    |true=>(match args.any cL,S.own g with
     |false,some σ=>Q3 S.T σ nm s.hp args K
     | _, _ => .no "a call of one's own without an answer")
    |false=>(match args.any cL,S.sum g with
     |false,some σ=>Q2 S.T σ s.hp args K
     |false,none=>NT S g args s.hp K
     | _, _ => .no "a call without an answer")))
  | .invoke _ _ => .no "invoke")
 |_=>Q0 (S.Qf s.fn) nm s.hp (fZ s.fr) o K
def NU[ag]{T:eh}{ρ:Type}(ec:Code→bQ T.den→(qU T.den→Tr ρ)→Tr ρ)(eo:Oper→bQ T.den→(bQ T.den→Tr ρ)→Tr ρ):Code→bQ T.den→(qU T.den→Option (SV T.den)→Tr ρ)→Tr ρ
 |.seq x y,s,K=>
  (match uZ x with
  |some (ops,v)=>qu ops ops.toList.dropLast fun l=>yi eo l s fun s1=>(match nH (fZ s1.fr v) [] with
   |some _=>ec y s1 fun o=>K o (some (fZ s1.fr v))
   | none => .no "what is deferred")
  |none=>ec x s fun
   |.norm s'=>NU ec eo y s' K
   |r=>K r none)
 |c,s,K=>ec c s fun o=>K o none
def FN[ag]{T:eh}{ρ:Type}(ec:Code→bQ T.den→(qU T.den→Tr ρ)→Tr ρ)(Q:iH)(P:Program)(rs:List ResultVar)(s:bQ T.den)(d:Option (SV T.den))(K:List (SV T.den)→aq T.den→List Nat→List (Nat×m9)→Tr ρ):Tr ρ:=
 match d with
 |none=>um T Q s rs fun l=>K l s.hp s.wh s.js
 |some v=>(match nH v [] with
  | none => .no "what is deferred"
  |some (g,as)=>(match P.funcs[g]? with
   |none=>.fail
   |some fg=>(match fg.body with
    |none=>.fail
    |some cg=>(match ct cg&&!as.any cL with
     | false => .no "what is deferred"
     |true=>bQ.force ⟨g,max fg.ntmps as.length,oA 0 as,s.hp,[],s.wh,s.js⟩ fun t0=>ec (p9 cg) t0 fun
      |.norm t|.ret t=>um T Q t fg.results.toList fun _=>um T Q ⟨s.fn,s.n,s.fr,t.hp,s.wf,t.wh,t.js⟩ rs fun l=>K l t.hp t.wh t.js
      |.exit _ _=>.fail))))
mutual
def Uk[ag](S:qX):Nat→(ρ:Type)→FuncId→List (SV S.T.den)→aq S.T.den→List Nat→List (Nat×m9)→(SV S.T.den→aq S.T.den→List Nat→List (Nat×m9)→Tr ρ)→Tr ρ
 | 0, _, _, _, _, _, _, _ => .no "fuel"
 |k+1,ρ,f,args,hp,wh,js,K=>
  match S.C.P.funcs[f]? with
  |none=>.fail
  |some fn=>
   match fn.body with
   |none=>.fail
   |some c=>uk [max fn.ntmps args.length] fun _=>bQ.force ⟨f,max fn.ntmps args.length,oA 0 args,hp,[],wh,js⟩ fun s=>
    (match Ez c with
    |true=>(match ct c with
     |true=>NU (fun c s K=>yV S k ρ c s K) (fun o s K=>Q5 S k ρ o s K) c s fun o d=>(match o with
      |.norm s'|.ret s'=>FN (fun c s K=>yV S k ρ c s K) S.Q S.C.P fn.results.toList s' d fun l hp wh js=>K (tf l) hp wh js
      |.exit _ _=>.fail)
     | false => .no "a range beside a deferred call")
    |false=>yV S k ρ c s fun
    |.norm s|.ret s=>um S.T S.Q s fn.results.toList fun l=>K (tf l) s.hp s.wh s.js
    |.exit _ _=>.fail)
def yV[ag](S:qX):Nat→(ρ:Type)→Code→bQ S.T.den→(qU S.T.den→Tr ρ)→Tr ρ
 | 0, _, _, _, _ => .no "fuel"
 |k+1,ρ,c,s,K=>
  match c with
  |.skip|.label _=>K (.norm s)
  |.ret=>K (.ret s)
  |.exit id=>K (.exit id s)
  |.seq a b=>yV S k ρ a s fun
   |.norm s'=>yV S k ρ b s' K
   |r=>K r
  |.cond o a b=>
   (match fZ s.fr o with
   |.lit (.bool t)=>.cond t (yV S k ρ a s K) (yV S k ρ b s K)
   | _ => .no "cond")
  |.block id b=>yV S k ρ b s fun
   |.exit LU s'=>if LU=id then K (.norm s') else K (.exit LU s')
   |r=>K r
  |.scope b=>
   (match rn b with
   |some c=>yV S k ρ c s K
   | none => .no "code")
  |.loop b=>
   (match S.hint s.fn (uo b s) with
   |none=>(match S.xf s.fn (keyOf b) with
    |true=>yV S k ρ b s fun
     |.norm s'=>(match xl s'.js s.hp.length with
      |true=>(lu s.hp.length s').force fun s'=>yV S k ρ (.loop b) s' K
      | false => .no "a round's end")
     |r=>K r
    |false=>.nR s b)
   |some h=>
    (match h.ok&&D3 s.n h.aG h.dead&&xk s.hp.length h.aG h.objs,(xi h.aG h.objs s).bind (xe h.lr) with
    |true,some x0=>.loop (τ:=HL S.T.den h.lr) (ω:=BO S.T.den h.objs h.outs)
      (fun x=>bQ.force { dM h.aG h.dead h.objs [] s (gV h.lr x) with wf:=[],wh:=[] } fun s1=>yV S k _ b s1 fun
        |.norm s'=>
         (match lu s.hp.length s' with
         |uN=>(match decide (uN.js=s.js)&&uq h.aG h.dead h.objs [] s uN,(xi h.aG h.objs uN).bind (xe h.lr) with
          |true,some y=>jd s.hp uN.hp h.objs (.ret (.inl y))
          |_,_=>.bad (uo b s) none s uN))
        |.exit id s'=>vR (uo b s) h s s' (some id) h.outs fun w=>.ret (.inr w)
        |.ret s'=>vR (uo b s) h s s' none h.outs fun w=>.ret (.inr w))
      x0 fun w=>PL h s h.outs w K
    |_,_=>.bad (uo b s) none s s))
  |.region id ops draw=>
   (match draw with
   |false=>AO (S.C.iU s.fn id) s fun s=>Xv (S.tw s.fn (1000000+id)) s fun s=>qu ops ops.toList fun l=>yi (fun o s K=>Q5 S k ρ o s K) l s fun s'=>K (.norm s')
   |true=>
    if uY ops=true then
     AO (S.C.iU s.fn id) s fun s1=>Xv (S.tw s.fn (1000000+id)) s1 fun s1=>qu ops ops.toList fun l=>AN (nI (bV 0 s1.hp.length (ops.toList.take (S.C.head s.fn id ops))) l) fun li=>ur (fun nm o s K=>ZK S nm o s K) li
       { s1 with hp:=s1.hp++List.replicate ((ops.toList.take (S.C.head s.fn id ops)).filter fun o=>aC o.op).length none } [] fun s' fs=>
      if (sS (cH ops.toList) fs && oN (cH ops.toList) ops.size (S.C.head s.fn id ops)) = true then yi (fun o s K => Q5 S k ρ o s K) (l.drop (S.C.head s.fn id ops)) s' fun s' => K (.norm s') else .no "an order"
    else .no "a region")
  |.rangeFunc f ps as bd=>
   (match nH (fZ s.fr f) [.mp true s.hp.length] with
   |some (g,args)=>(match !args.any cL&&(eH as++eH bd).all (fun d=>!cL (dj s.fr d)||!Nat.blt d s.n) with
    |true=>Uk S k ρ g args (s.hp++[some (.qT s.fn ps as bd (yU (eH as++eH bd) s.fr (List.range s.n)))]) s.wh ((s.hp.length,.ready)::s.js) fun _ hp wh js=>
     (match cO js s.hp.length with
     |some .ready=>K (.norm (s.over s.hp.length hp wh js))
     |some (.jump none)=>K (.ret (s.over s.hp.length hp wh js))
     |some (.jump (some id))=>K (.exit id (s.over s.hp.length hp wh js))
     | _ => .no "a range's end")
    | false => .no "a range over what is dead")
   | none => .no "a range")
  | _ => .no "code"
def Q5[ag](S:qX):Nat→(ρ:Type)→Oper→bQ S.T.den→(bQ S.T.den→Tr ρ)→Tr ρ
 | 0, _, _, _, _ => .no "fuel"
 |k+1,ρ,o,s,K=>
  match o.op with
  |.call c=>
   (match c.callee with
   |.builtin _=>Q0 (S.Qf s.fn) s.hp.length s.hp (fZ s.fr) o fun v wr _=>s.gX o.dst v wr K
   |.value f=>
    (match nH (fZ s.fr f) (c.args.toList.map (fZ s.fr)) with
    |none=>(match fZ s.fr f with
     |.mp true n=>(match s.hp[n]?,cO s.js n,(c.args.toList.map (fZ s.fr)).any cL with
      |some (some (.qT fn ps as bd fr)),some .ready,false=>
       (match Nat.beq c.args.size ps.size&&ct as&&ct bd with
       |true=>bQ.force ⟨fn,fr.length,nJ fr.length (oA 0 fr) ps.toList (c.args.toList.map (fZ s.fr)),s.hp,[],s.wh,s.js⟩ fun s0=>
        yV S k ρ as s0 fun
        |.norm s1=>(match cO s1.js n with
         |some .ready=>yV S k ρ bd { s1 with js:=D5 s1.js n .busy } fun
          |.norm s2=>NS s n o.dst true .ready s2 K
          |.exit id s2=>NS s n o.dst false (.jump (some id)) s2 K
          |.ret s2=>NS s n o.dst false (.jump none) s2 K
         | _ => .no "a round")
        | _ => .no "a round"
       | false => .no "a round")
      | _, _, _ => .no "a round")
     | _ => .no "what is called")
    |some (g,args)=>(match aC o.op with
     |true=>(match args.any cL,S.own g with
      |false,some σ=>Q3 S.T σ s.hp.length s.hp args fun v wr _=>s.gX o.dst v wr K
      | _, _ => .no "a call of one's own without an answer")
     |false=>(match args.any cL,S.sum g with
     |false,some σ=>Q2 S.T σ s.hp args fun v wr _=>s.gX o.dst v wr K
     |false,none=>(match S.C.kind g with
      | .pure => .no "a call without an answer"
      |.imp=>Uk S k ρ g args s.hp s.wh s.js fun v hp wh js=>(match xl js s.hp.length with
       |true=>qt (iR s.hp.length v hp) fun hp=>bQ.gX ⟨s.fn,s.n,s.fr,hp,s.wf,wh,js⟩ o.dst v [] K
       | false => .no "a call's end"))
     | true, _ => .no "a dead argument")))
   | .invoke _ _ => .no "invoke")
  |.assign (.const (.slice none 0 0))=>
   (match o.dst with
   |some d=>
    if S.C.acc s.fn d then
     match S.Q.elem o.type with
     |some r=>if 0<r.size then s.gX (some d) (.bw r.size s.hp.length 0 none none) [(s.hp.length,.arr true true false 0 [])] K else .fail
     |none=>.fail
    else s.gX (some d) (.lit cx) [] K
   |none=>K s)
  |_=>Q0 (S.Qf s.fn) s.hp.length s.hp (fZ s.fr) o fun v wr _=>s.gX o.dst v wr fun s=>FK (S.C.ta s.fn) o.dst s fun s=>Xw (S.tw s.fn) o.dst s K
end
end Go.PI
namespace Go.PI
def NV{den:Nat→Type}(res:List Nat)(v:SV den):List (SV den):=
 match res with
 |[_]=>[v]
 |_=>match v with
  |.kC l=>l
  |_=>[.dead]
def Ul[ag](S:qX)(k:Nat)(f:FuncId)(args res:List Nat)(xs:HL S.T.den (args.map .v)):Tr (HL S.T.den (res.map .v)):=
 Uk S k _ f (Ue S.T (gV _ xs)) [] [] [] fun v hp _ _=>
  gY S.T hp 1000 v fun v' _=>match (KX S.T res (NV res v')).bind (xe (res.map .v)) with
  |some r=>.ret r
  | none => .no "a result"
end Go.PI
end
section
/- PS: words for the printed tables of a seat's types. -/
namespace Go.PI
section
variable {den:Nat→Type}{α:Type}
def dI(k:IntKind):SV den→Option Int
 |.lit (.int k' n)=>if k=k' then some n else none
 |_=>none
def dB:SV den→Option Bool
 |.lit (.bool b)=>some b
 |_=>none
def dS:SV den→Option ByteArray
 |.lit (.string s)=>some s
 |_=>none
def Xx(d:SV den→Option α):List (SV den)→Option (List α)
 |[]=>some []
 |v::vs=>(d v).bind fun x=>(Xx d vs).map fun l=>x::l
def V9(e:Nat)(d:SV den→Option (den e)):SV den→Option (List (den e))
 |.jN t l=>if h:t=e then some (CH h l) else none
 |.sl vs=>Xx d vs
 |.lit (.slice none 0 0)=>some []
 |_=>none
def Q6(d:SV den→Option α):SV den→Option α
 |.bq v 0=>d v
 |_=>none
end
abbrev Um{α:Type}(q:α→AV→Prop)(x:List α)(a:AV):Prop:=(∃ l,a=.sl l∧aE q x l)∨(x=[]∧a=.lit cx)
abbrev PM{α:Type}(q:α→AV→Prop)(x:α)(a:AV):Prop:=∃ b,a=.bq b 0∧q x b
abbrev gd{α:Type}(c:Bool)(x:Option α):Option α:=bif c then x else none
abbrev lc{α:Type}(n m:Nat)(l:List α):Bool:=decide (n+m≤l.length)
abbrev tk{α:Type}(n m:Nat)(l:List α):List α:=List.take m (List.drop n l)
def zI:AV:=.lit (.int .i64 0)
def zB:AV:=.lit (.bool false)
def zF:AV:=.lit .nilFunc
def zL:AV:=.lit (.slice none 0 0)
def zS:AV:=.lit (.string ByteArray.empty)
def kI:CK:=.int .i64
def kB:CK:=.bool
def mI:jO:=⟨false,1,8,some zI,.other,none,none⟩
def mF:jO:=⟨false,1,8,some zF,.other,none,none⟩
def mP:jO:=⟨false,1,8,some (.lit (.pointer none)),.other,none,none⟩
def mS:jO:=⟨false,1,16,some zS,.other,none,none⟩
def mL(e:Nat):jO:=⟨false,1,24,some zL,.slice e,none,none⟩
end Go.PI
end
section
/- PS, part C: what a symbolic value stands for. -/
namespace Go.PI
section
variable {α β:Type}{P:α→β→Prop}
theorem aE.length:∀ {l:List α} {m:List β},aE P l m→l.length=m.length
 |[],[],_=>rfl
 |_::_,_::_,h=>by simp[aE.length h.2]
theorem aE.get:∀ {l:List α} {m:List β},aE P l m→∀ {i:Nat} {x:α},l[i]?=some x→∃ y,m[i]?=some y∧P x y
 |x::xs,y::ys,h,0,z,e=>by simp at e; subst e; exact⟨y,rfl,h.1⟩
 |x::xs,y::ys,h,i+1,z,e=>by simp at e ⊢; exact aE.get h.2 e
 |[],[],_,i,z,e=>by simp at e
theorem aE.get':∀ {l:List α} {m:List β},aE P l m→∀ {i:Nat} {y:β},m[i]?=some y→∃ x,l[i]?=some x∧P x y
 |x::xs,y::ys,h,0,z,e=>by simp at e; subst e; exact⟨x,rfl,h.1⟩
 |x::xs,y::ys,h,i+1,z,e=>by simp at e ⊢; exact aE.get' h.2 e
 |[],[],_,i,z,e=>by simp at e
theorem aE.mono{Q:α→β→Prop}(PN:∀ x y,P x y→Q x y):∀ {l:List α} {m:List β},aE P l m→aE Q l m
 |[],[],_=>trivial
 |_::_,_::_,h=>⟨PN _ _ h.1,aE.mono PN h.2⟩
theorem aE.append:∀ {l l':List α} {m m':List β},aE P l m→aE P l' m'→aE P (l++l') (m++m')
 |[],_,[],_,_,h=>h
 |_::_,_,_::_,_,h,h'=>⟨h.1,aE.append h.2 h'⟩
theorem aE.set:∀ {l:List α} {m:List β},aE P l m→∀ (i:Nat) {x:α} {y:β},P x y→aE P (l.set i x) (m.set i y)
 |[],[],_,_,_,_,_=>trivial
 |_::_,_::_,h,0,_,_,hp=>⟨hp,h.2⟩
 |_::_,_::_,h,i+1,_,_,hp=>⟨h.1,aE.set h.2 i hp⟩
theorem aE.drop:∀ {l:List α} {m:List β},aE P l m→∀ i,aE P (l.drop i) (m.drop i)
 |[],[],_,i=>by simp[aE]
 |_::_,_::_,h,0=>h
 |_::_,_::_,h,i+1=>aE.drop h.2 i
theorem aE.take:∀ {l:List α} {m:List β},aE P l m→∀ i,aE P (l.take i) (m.take i)
 |[],[],_,i=>by simp[aE]
 |_::_,_::_,h,0=>trivial
 |_::_,_::_,h,i+1=>⟨h.1,aE.take h.2 i⟩
theorem aE.replicate{x:α}{y:β}(h:P x y):∀ n,aE P (List.replicate n x) (List.replicate n y)
 |0=>trivial
 |n+1=>⟨h,aE.replicate h n⟩
theorem aE.FO{m:List β}(h:aE P [] m):m=[]:=by cases m with
 |nil=>rfl
 |cons y ys=>exact h.elim
theorem aE.fk:∀ {l:List α} {m:List β},l.length=m.length→(∀ (i:Nat) (x:α) (y:β),l[i]?=some x→m[i]?=some y→P x y)→aE P l m
 |[],[],_,_=>trivial
 |x::xs,y::ys,h,hg=>⟨hg 0 x y rfl rfl,aE.fk (by simpa using h) fun i a b ha hb=>hg (i+1) a b (by simpa using ha) (by simpa using hb)⟩
end
variable {T:eh}
def gH{den:Nat→Type}(H:aq den)(n c ax:Nat):Prop:=
 ∃ o:aK den,H[n]?=some (some o)∧c≤o.cur∧(c=o.cur→ax=o.len)
def AtX(a0:AV)(d:Nat)(a:AV):Prop:=
 (∃ n ax k j,a0=.ref n ax k j∧a=.ref n ax k (j+d))∨∃ e j,a0=.bq e j∧a=.bq e (j+d)
mutual
def R(T:eh)(H:aq T.den):SV T.den→AV→Prop
 |.dead,_=>False
 |.hole,a=>a=.any
 |.lit v,a=>a=.lit v
 |.agg l,a=>∃ l',a=.agg l'∧RL T H l l'
 |.kC l,a=>∃ l',a=.kC l'∧RL T H l l'
 |.sl l,a=>∃ l',a=.sl l'∧RL T H l l'∧aD l=true
 |.jN t l,a=>(∃ l',a=.sl l'∧aE (T.rp t) l l')∨(l=[]∧a=.lit cx)
 |.bq e j,a=>∃ e',a=.bq e' j∧R T H e e'∧aM e=true
 |.ref n c i j,a=>∃ ax,a=.ref n ax i j∧gH H n c ax
 |.jw n c i j ln cp,a=>∃ ax,a=.jw n ax i j ln cp∧gH H n c ax
 |.bw esz n c rg cap,a=>∃ ax,gH H n c ax∧(match rg with
  |none=>a=.bw esz n ax 0 ax cap
  |some (off,len)=>a=.bw esz n ax off len cap)
 |.jP fn f c,a=>∃ f' c',a=.jP fn f' c'∧RL T H f f'∧RL T H c c'
 |.jQ t v,a=>∃ v',a=.jQ t v'∧R T H v v'
 |.zj t l c b,a=>(b=true∧∃ l',a=.mq l' c∧aE (T.rp t) l l')∨(b=false∧l=[]∧(a=.sl []∨a=.lit cx))
 |.nz,a=>a=.nz
 |.mp y n,a=>a=.mp y n∧∃ o:aK T.den,H[n]?=some (some o)
 |.uQ v s len i,a=>∃ a0,R T H v a0∧i<len∧AtX a0 (i*s) a
def RL(T:eh)(H:aq T.den):List (SV T.den)→List AV→Prop
 |[],[]=>True
 |x::xs,y::ys=>R T H x y∧RL T H xs ys
 |_,_=>False
end
theorem bc{H:aq T.den}:∀ {l:List (SV T.den)} {m:List AV},RL T H l m↔aE (R T H) l m
 |[],[]=>by simp[RL,aE]
 |x::xs,y::ys=>by simp only[RL,aE]; rw[bc]
 |[],_::_=>by simp[RL,aE]
 |_::_,[]=>by simp[RL,aE]
def RV(T:eh)(H:aq T.den)(v:SV T.den)(a:AV):Prop:=v=.dead∨R T H v a
theorem RV.live{H:aq T.den}{v:SV T.den}{a:AV}(h:RV T H v a)(hd:cL v=false):R T H v a:=by
 rcases h with h|h
 ·subst h; simp[cL]at hd
 ·exact h
def RD(T:eh)(H:aq T.den)(v:SV T.den)(a:AV):Prop:=(v=.dead∧a=.any)∨R T H v a
def RO(T:eh)(H:aq T.den):aK T.den→aY→Prop
 |.arr g cl f _ es,a=>∃ es',a=.arr g cl f es'∧RL T H es es'∧(cl=true→aD es=true)
 |.cD g f _ t l,a=>∃ es',a=.arr g true f es'∧aE (T.rp t) l es'
 |.jc,a=>(∃ g f es',a=.arr g true f es')∨∃ k vs,a=.iC k vs∧∀ n,dq n vs=true
 |.lT kk t m,a=>∃ vs,a=.iC (.map kk (m.map fun q=>kk.v q.1)) vs∧aE (T.rp t) (m.map (·.2)) vs
 |.qT fn ps as bd fr,a=>∃ st vs,a=.iC (.loop fn ps as bd st) vs∧aE (RD T H) fr vs
def D6(T:eh)(H:aq T.den):Option (aK T.den)→Option aY→Prop
 |none,none=>True
 |some o,some a=>RO T H o a
 |_,_=>False
def RH(T:eh)(H:aq T.den)(hp:ak):Prop:=aE (D6 T H) H hp
def aK.isRec{den:Nat→Type}:aK den→Bool
 |.qT ..=>true
 |_=>false
def recAt{den:Nat→Type}(H:aq den)(n:Nat):Bool:=
 match H[n]? with
 |some (some o)=>o.isRec
 |_=>false
def ej{den:Nat→Type}(H H':aq den):Prop:=
 ∀ (n:Nat) (o:aK den),H[n]?=some (some o)→∃ o':aK den,H'[n]?=some (some o')∧o.cur≤o'.cur∧(o'.cur=o.cur→o'.len=o.len)
theorem ej.refl{den:Nat→Type}(H:aq den):ej H H:=fun _ o h=>⟨o,h,Nat.le_refl _,fun _=>rfl⟩
theorem ej.trans{den:Nat→Type}{H H' H'':aq den}(h:ej H H')(h':ej H' H''):ej H H'':=by
 intro n o ho
 obtain⟨o',h1,h2,h3⟩:=h n o ho
 obtain⟨o'',h4,h5,h6⟩:=h' n o' h1
 exact⟨o'',h4,Nat.le_trans h2 h5,fun e=>by rw[h6 (by omega),h3 (by omega)]⟩
theorem gH.mono{den:Nat→Type}{H H':aq den}(h:ej H H'){n c ax:Nat}(hv:gH H n c ax):gH H' n c ax:=by
 obtain⟨o,h1,h2,h3⟩:=hv
 obtain⟨o',h4,h5,h6⟩:=h n o h1
 exact⟨o',h4,Nat.le_trans h2 h5,fun e=>by rw[h3 (by omega),h6 (by omega)]⟩
mutual
theorem R.mono{H H':aq T.den}(hg:ej H H'):∀ {v:SV T.den} {a:AV},R T H v a→R T H' v a
 |.dead,_,h=>by simp[R]at h
 |.hole,a,h=>by simpa[R] using h
 |.lit v,a,h=>by simpa[R] using h
 |.agg l,a,h=>by
  simp only[R]at h ⊢
  obtain⟨l',h1,h2⟩:=h
  exact⟨l',h1,RL.mono hg h2⟩
 |.kC l,a,h=>by
  simp only[R]at h ⊢
  obtain⟨l',h1,h2⟩:=h
  exact⟨l',h1,RL.mono hg h2⟩
 |.sl l,a,h=>by
  simp only[R]at h ⊢
  obtain⟨l',h1,h2,h3⟩:=h
  exact⟨l',h1,RL.mono hg h2,h3⟩
 |.jN t l,a,h=>by simpa[R] using h
 |.zj t l c b,a,h=>by simp only[R]at h ⊢; exact h
 |.nz,a,h=>by simp only[R]at h ⊢; exact h
 |.bq e j,a,h=>by
  simp only[R]at h ⊢
  obtain⟨e',h1,h2,h3⟩:=h
  exact⟨e',h1,R.mono hg h2,h3⟩
 |.ref n c i j,a,h=>by
  simp only[R]at h ⊢
  obtain⟨ax,h1,h2⟩:=h
  exact⟨ax,h1,h2.mono hg⟩
 |.jw n c i j ln cp,a,h=>by
  simp only[R]at h ⊢
  obtain⟨ax,h1,h2⟩:=h
  exact⟨ax,h1,h2.mono hg⟩
 |.bw esz n c rg cap,a,h=>by
  simp only[R]at h ⊢
  obtain⟨ax,h1,h2⟩:=h
  exact⟨ax,h1.mono hg,h2⟩
 |.jP fn f c,a,h=>by
  simp only[R]at h ⊢
  obtain⟨f',c',h1,h2,h3⟩:=h
  exact⟨f',c',h1,RL.mono hg h2,RL.mono hg h3⟩
 |.jQ t v,a,h=>by
  simp only[R]at h ⊢
  obtain⟨v',h1,h2⟩:=h
  exact⟨v',h1,R.mono hg h2⟩
 |.mp y n,a,h=>by
  simp only[R]at h ⊢
  obtain⟨h1,o,h2⟩:=h
  obtain⟨o',h3,_⟩:=hg n o h2
  exact⟨h1,o',h3⟩
 |.uQ v s len i,a,h=>by
  simp only[R]at h ⊢
  obtain⟨a0,h1,h2,h3⟩:=h
  exact⟨a0,R.mono hg h1,h2,h3⟩
theorem RL.mono{H H':aq T.den}(hg:ej H H'):∀ {l:List (SV T.den)} {m:List AV},RL T H l m→RL T H' l m
 |[],[],_=>by simp[RL]
 |x::xs,y::ys,h=>by
  simp only[RL]at h ⊢
  exact⟨R.mono hg h.1,RL.mono hg h.2⟩
 |[],_::_,h=>by simp[RL]at h
 |_::_,[],h=>by simp[RL]at h
end
theorem RV.mono[ag]{H H':aq T.den}(hg:ej H H'){v:SV T.den}{a:AV}(h:RV T H v a):RV T H' v a:=h.imp id (R.mono hg)
theorem RO.mono[ag]{H H':aq T.den}(hg:ej H H'){o:aK T.den}{a:aY}(h:RO T H o a):RO T H' o a:=by
 cases o with
 |arr g cl f cur es=>
  obtain⟨es',h1,h2,h3⟩:=h
  exact⟨es',h1,RL.mono hg h2,h3⟩
 |cD g f cur t l=>exact h
 |jc=>exact h
 |lT kk t m=>exact h
 |qT fn ps as bd fr=>
  obtain⟨st,vs,h1,h2⟩:=h
  exact⟨st,vs,h1,aE.mono (fun _ _ h=>h.imp id (R.mono hg)) h2⟩
theorem D6.mono[ag]{H H':aq T.den}(hg:ej H H'){o:Option (aK T.den)}{a:Option aY}(h:D6 T H o a):D6 T H' o a:=by
 cases o<;>cases a<;>first|exact h|exact RO.mono hg h
theorem RH.length[ag]{H:aq T.den}{hp:ak}(h:RH T H hp):H.length=hp.length:=aE.length h
theorem RH.obj[ag]{H:aq T.den}{hp:ak}(h:RH T H hp){n:Nat}{o:aK T.den}(ho:H[n]?=some (some o)):∃ a,hp[n]?=some (some a)∧RO T H o a:=by
 obtain⟨a,h1,h2⟩:=aE.get h ho
 cases a with
 |none=>exact h2.elim
 |some a=>exact⟨a,h1,h2⟩
theorem RH.none[ag]{H:aq T.den}{hp:ak}(h:RH T H hp){n:Nat}(ho:H[n]?=some none):hp[n]?=some none:=by
 obtain⟨a,h1,h2⟩:=aE.get h ho
 cases a with
 |none=>exact h1
 |some a=>exact h2.elim
theorem RH.Wa[ag]{H:aq T.den}{hp:ak}(h:RH T H hp){n:Nat}{o o':aK T.den}{a':aY}(ho:H[n]?=some (some o))(hc:o.cur≤o'.cur)(hl:o'.cur=o.cur→o'.len=o.len)
  (hr:RO T H o' a'):ej H (H.set n (some o'))∧RH T (H.set n (some o')) (hp.set n (some a')):=by
 have hg:ej H (H.set n (some o')):=by
  intro m q hq
  by_cases e:m=n
  ·grind
  ·grind
 exact⟨hg,aE.set (aE.mono (fun _ _=>D6.mono hg) h) n (show D6 T _ (some o') (some a') from RO.mono hg hr)⟩
theorem RH.new[ag]{H:aq T.den}{hp:ak}(h:RH T H hp){nm:Nat}{o':aK T.den}{a':aY}(hn:nm=H.length∨H[nm]?=some .none)(hr:RO T H o' a'):
  ej H (cd H nm o')∧RH T (cd H nm o') (setObj hp nm a'):=by
 have hlen:=h.length
 unfold cd setObj
 by_cases e:nm=H.length
 ·rw[if_pos e,if_pos (by omega)]
  have hg:ej H (H++[some o']):=by
   intro m q hq
   have cG:=(List.getElem?_eq_some_iff.1 hq).1
   exact⟨q,by rw[List.getElem?_append_left cG]; exact hq,Nat.le_refl _,fun _=>rfl⟩
  exact⟨hg,aE.append (aE.mono (fun _ _=>D6.mono hg) h) ⟨RO.mono hg hr,trivial⟩⟩
 ·rw[if_neg e,if_neg (by omega)]
  have hn:H[nm]?=some .none:=hn.resolve_left e
  have hg:ej H (H.set nm (some o')):=by
   intro m q hq
   by_cases e:m=nm
   ·subst e; rw[hn]at hq; simp at hq
   ·grind
  exact⟨hg,aE.set (aE.mono (fun _ _=>D6.mono hg) h) nm (show D6 T _ (some o') (some a') from RO.mono hg hr)⟩
structure eh.Ok(T:eh):Prop where
 up:∀ t x a H,T.rp t x a→R T H (T.up t x) a
 dn:∀ t v x a H,T.dn t v=some x→R T H v a→T.rp t x a
 ok:∀ t x a,T.rp t x a→aF (T.agg t) (T.size t) a=true
 closed:∀ t x a,T.rp t x a→closed a=true
theorem kn{den:Nat→Type}:∀ (l:List (SV den)),aD l=l.all aM
 |[]=>rfl
 |x::xs=>by simp only[aD,List.all_cons]; rw[kn xs]
theorem lz[ag]{den:Nat→Type}{l:List (SV den)}(h:aD l=true){x:SV den}(hx:x∈l):aM x=true:=by
 rw[kn]at h
 exact List.all_eq_true.1 h x hx
theorem mW[ag]{den:Nat→Type}{l:List (SV den)}(h:∀ x,x∈l→aM x=true):aD l=true:=by
 rw[kn]
 exact List.all_eq_true.2 h
theorem oF[ag]{den:Nat→Type}{l:List (SV den)}(h:aD l=true)(a b:Nat):aD ((l.drop a).take b)=true:=
 mW fun _ hx=>lz h (List.mem_of_mem_drop (List.mem_of_mem_take hx))
theorem Ir[ag]{den:Nat→Type}{l m:List (SV den)}(h:aD l=true)(h':aD m=true):aD (l++m)=true:=
 mW fun _ hx=>(List.mem_append.1 hx).elim (lz h) (lz h')
theorem uu[ag]{den:Nat→Type}{l:List (SV den)}(h:aD l=true){x:SV den}(hx:aM x=true)(i:Nat):aD (l.set i x)=true:=
 mW fun _ hy=>(List.mem_or_eq_of_mem_set hy).elim (lz h) fun e=>e▸hx
theorem qO[ag]{den:Nat→Type}:∀ {cs l:List (SV den)} (j:Nat),aD l=true→aD cs=true→aD (jJ l j cs)=true
 |[],_,_,h,_=>h
 |x::xs,l,j,h,hc=>by
  simp only[aD,Bool.and_eq_true]at hc
  simp only[jJ]
  exact qO (j+1) (uu h hc.1 j) hc.2
theorem AQ[ag]{den:Nat→Type}{e e':SV den}{j:Nat}{cs:List (SV den)}(h:gU e j cs=some e')(he:aM e=true)(hc:aD cs=true):aM e'=true:=by
 unfold gU at h
 split at h
 ·split at h
  case isFalse=>simp at h
  simp only[Option.some.injEq]at h
  subst h
  simp only[aM]at he ⊢
  exact qO j he hc
 ·grind[aD]
theorem BQ[ag]{den:Nat→Type}(v:SV den):aD (cb v)=aM v:=by
 cases v with
 |lit v=>
  simp only[cb,aM]
  exact mW fun x hx=>by obtain⟨y,_,rfl⟩:=List.mem_map.1 hx; rfl
 |agg l=>rfl
 |_=>simp[cb,aD]
theorem qP[ag]{den:Nat→Type}:∀ {ps:List (Nat×SV den)} {es:List (SV den)},aD es=true→aD (ps.map (·.2))=true→aD (gu es ps)=true
 |[],_,h,_=>h
 |(i,v)::ps,es,h,hc=>by
  simp only[List.map_cons,aD,Bool.and_eq_true]at hc
  simp only[gu]
  exact qP (uu h hc.1 i) hc.2
theorem vU[ag]{den:Nat→Type}{a:AV}{v:SV den}(h:(iz a:Option (SV den))=some v):aM v=true:=by
 cases a with
 |lit x=>simp[iz]at h; subst h; rfl
 |agg l=>
  simp only[iz,Option.map_eq_some_iff]at h
  obtain⟨c,_,rfl⟩:=h
  simp only[aM]
  exact mW fun x hx=>by obtain⟨y,_,rfl⟩:=List.mem_map.1 hx; rfl
 |_=>simp[iz]at h
end Go.PI
end
section
/- PS, part D: parts of values, by value, flat, below: on both sides alike. -/
namespace Go.PI
def aN{α:Type}(hp:ak)(r:RM α)(a:α)(rd:List Nat):Prop:=r.run hp=some a∧∀ n,n∈r.log hp→n∈rd
section
variable {α β:Type}{hp:ak}
theorem aN.pure(a:α):aN hp (pure a:RM α) a []:=⟨rfl,fun n h=>by simp[Pure.pure,RM.log]at h⟩
theorem aN.ret(a:α):aN hp (RM.ret a:RM α) a []:=⟨rfl,fun n h=>by simp[RM.log]at h⟩
theorem aN.mono{r:RM α}{a:α}{rd rd':List Nat}(h:aN hp r a rd)(hs:∀ n,n∈rd→n∈rd'):aN hp r a rd':=⟨h.1,fun n hn=>hs n (h.2 n hn)⟩
theorem aN.bind[ag]{r:RM α}{f:α→RM β}{a:α}{b:β}{rd rd':List Nat}(h:aN hp r a rd)(h':aN hp (f a) b rd'):aN hp (r >>= f) b (rd++rd'):=by
 refine⟨by rw[RM.run_bind,h.1]; exact h'.1,fun n hn=>?_⟩
 rw[RM.fN,h.1]at hn
 simp only[List.mem_append]at hn ⊢
 exact hn.imp (h.2 n) (h'.2 n)
theorem aN.get{n:Nat}{k:aY→RM α}{o:aY}{a:α}{rd:List Nat}(ho:hp[n]?=some (some o))(h:aN hp (k o) a rd):aN hp (.get n k) a (n::rd):=by
 refine⟨by simp[RM.run,ho,h.1],fun m hm=>?_⟩
 simp only[RM.log,ho,List.mem_cons]at hm ⊢
 exact hm.imp id (h.2 m)
theorem aN.arr[ag]{n ax:Nat}{g c f:Bool}{es:List AV}(ho:hp[n]?=some (some (.arr g c f es)))(hl:es.length=ax):aN hp (RM.arr n ax) (g,c,f,es) [n]:=by
 refine aN.get ho ?_
 simp only[hl,if_true]
 exact aN.ret _
theorem aN.iT[ag]{x:Option α}{a:α}(h:x=some a):aN hp (RM.iT x) a []:=by subst h; exact aN.ret a
end
variable {T:eh}
mutual
theorem R.closed{H:aq T.den}:∀ {v:SV T.den} {a:AV},R T H v a→aM v=closed a
 |.dead,a,h=>by simp[R]at h
 |.hole,a,h=>by simp only[R]at h; subst h; rfl
 |.lit v,a,h=>by simp only[R]at h; subst h; rfl
 |.agg l,a,h=>by
  simp only[R]at h
  obtain⟨l',rfl,h2⟩:=h
  simp only[aM,Go.PI.closed]; exact RL.closed h2
 |.kC l,a,h=>by
  simp only[R]at h
  obtain⟨l',rfl,h2⟩:=h
  simp only[aM,Go.PI.closed]; exact RL.closed h2
 |.sl l,a,h=>by
  simp only[R]at h
  obtain⟨l',rfl,h2⟩:=h
  rfl
 |.jN t l,a,h=>by
  simp only[R]at h
  rcases h with ⟨l',rfl,_⟩|⟨_,rfl⟩<;>rfl
 |.zj t l c b,a,h=>by
  simp only[R]at h
  rcases h with ⟨_,l',rfl,_⟩|⟨_,_,rfl|rfl⟩<;>rfl
 |.nz,a,h=>by
  simp only[R]at h
  subst h; rfl
 |.bq e j,a,h=>by
  simp only[R]at h
  obtain⟨e',rfl,h2⟩:=h
  rfl
 |.ref n c i j,a,h=>by
  simp only[R]at h
  obtain⟨ax,rfl,h2⟩:=h
  rfl
 |.jw n c i j ln cp,a,h=>by
  simp only[R]at h
  obtain⟨ax,rfl,h2⟩:=h
  rfl
 |.bw esz n c rg cap,a,h=>by
  simp only[R]at h
  obtain⟨ax,h1,h2⟩:=h
  rcases rg with _|⟨off,len⟩<;>simp only at h2<;>subst h2<;>rfl
 |.jP fn f c,a,h=>by
  simp only[R]at h
  obtain⟨f',c',rfl,h2,h3⟩:=h
  simp only[aM,Go.PI.closed]; rw[RL.closed h2,RL.closed h3]
 |.jQ t v,a,h=>by
  simp only[R]at h
  obtain⟨v',rfl,h2⟩:=h
  simp only[aM,Go.PI.closed]; exact R.closed h2
 |.mp y n,a,h=>by
  simp only[R]at h
  obtain⟨rfl,_⟩:=h
  rfl
 |.uQ v s len i,a,h=>by
  simp only[R]at h
  obtain⟨a0,h1,_,h2⟩:=h
  have:=R.closed h1
  simp only[aM]
  rcases h2 with ⟨n,ax,k,j,rfl,rfl⟩|⟨e,j,rfl,rfl⟩<;>exact this
theorem RL.closed{H:aq T.den}:∀ {l:List (SV T.den)} {m:List AV},RL T H l m→aD l=aZ m
 |[],[],_=>rfl
 |x::xs,y::ys,h=>by
  simp only[RL]at h
  simp only[aD,aZ]; rw[R.closed h.1,RL.closed h.2]
 |[],_::_,h=>by simp[RL]at h
 |_::_,[],h=>by simp[RL]at h
end
mutual
theorem R.below{H:aq T.den}{k:Nat}:∀ {v:SV T.den} {a:AV},R T H v a→bM k v=below k a
 |.dead,a,h=>by simp[R]at h
 |.hole,a,h=>by simp only[R]at h; subst h; rfl
 |.lit v,a,h=>by simp only[R]at h; subst h; rfl
 |.agg l,a,h=>by
  simp only[R]at h
  obtain⟨l',rfl,h2⟩:=h
  simp only[bM,Go.PI.below]; exact RL.below h2
 |.kC l,a,h=>by
  simp only[R]at h
  obtain⟨l',rfl,h2⟩:=h
  simp only[bM,Go.PI.below]; exact RL.below h2
 |.sl l,a,h=>by
  simp only[R]at h
  obtain⟨l',rfl,h2⟩:=h
  rfl
 |.jN t l,a,h=>by
  simp only[R]at h
  rcases h with ⟨l',rfl,_⟩|⟨_,rfl⟩<;>rfl
 |.zj t l c b,a,h=>by
  simp only[R]at h
  rcases h with ⟨_,l',rfl,_⟩|⟨_,_,rfl|rfl⟩<;>rfl
 |.nz,a,h=>by
  simp only[R]at h
  subst h; rfl
 |.bq e j,a,h=>by
  simp only[R]at h
  obtain⟨e',rfl,h2⟩:=h
  rfl
 |.ref n c i j,a,h=>by
  simp only[R]at h
  obtain⟨ax,rfl,h2⟩:=h
  rfl
 |.jw n c i j ln cp,a,h=>by
  simp only[R]at h
  obtain⟨ax,rfl,h2⟩:=h
  rfl
 |.bw esz n c rg cap,a,h=>by
  simp only[R]at h
  obtain⟨ax,h1,h2⟩:=h
  rcases rg with _|⟨off,len⟩<;>simp only at h2<;>subst h2<;>rfl
 |.jP fn f c,a,h=>by
  simp only[R]at h
  obtain⟨f',c',rfl,h2,h3⟩:=h
  simp only[bM,Go.PI.below]; rw[RL.below h2,RL.below h3]
 |.jQ t v,a,h=>by
  simp only[R]at h
  obtain⟨v',rfl,h2⟩:=h
  simp only[bM,Go.PI.below]; exact R.below h2
 |.mp y n,a,h=>by
  simp only[R]at h
  obtain⟨rfl,_⟩:=h
  rfl
 |.uQ v s len i,a,h=>by
  simp only[R]at h
  obtain⟨a0,h1,_,h2⟩:=h
  have:=R.below (k:=k) h1
  simp only[bM]
  rcases h2 with ⟨n,ax,k,j,rfl,rfl⟩|⟨e,j,rfl,rfl⟩<;>exact this
theorem RL.below{H:aq T.den}{k:Nat}:∀ {l:List (SV T.den)} {m:List AV},RL T H l m→iy k l=dq k m
 |[],[],_=>rfl
 |x::xs,y::ys,h=>by
  simp only[RL]at h
  simp only[iy,dq]; rw[R.below h.1,RL.below h.2]
 |[],_::_,h=>by simp[RL]at h
 |_::_,[],h=>by simp[RL]at h
end
mutual
theorem R.names{H:aq T.den}:∀ {v:SV T.den} {a:AV},R T H v a→oY v=names a
 |.dead,a,h=>by simp[R]at h
 |.hole,a,h=>by simp only[R]at h; subst h; rfl
 |.lit v,a,h=>by simp only[R]at h; subst h; rfl
 |.agg l,a,h=>by
  simp only[R]at h
  obtain⟨l',rfl,h2⟩:=h
  simp only[oY,Go.PI.names]; exact RL.names h2
 |.kC l,a,h=>by
  simp only[R]at h
  obtain⟨l',rfl,h2⟩:=h
  simp only[oY,Go.PI.names]; exact RL.names h2
 |.sl l,a,h=>by
  simp only[R]at h
  obtain⟨l',rfl,h2⟩:=h
  rfl
 |.jN t l,a,h=>by
  simp only[R]at h
  rcases h with ⟨l',rfl,_⟩|⟨_,rfl⟩<;>rfl
 |.zj t l c b,a,h=>by
  simp only[R]at h
  rcases h with ⟨_,l',rfl,_⟩|⟨_,_,rfl|rfl⟩<;>rfl
 |.nz,a,h=>by
  simp only[R]at h
  subst h; rfl
 |.bq e j,a,h=>by
  simp only[R]at h
  obtain⟨e',rfl,h2⟩:=h
  rfl
 |.ref n c i j,a,h=>by
  simp only[R]at h
  obtain⟨ax,rfl,h2⟩:=h
  rfl
 |.jw n c i j ln cp,a,h=>by
  simp only[R]at h
  obtain⟨ax,rfl,h2⟩:=h
  rfl
 |.bw esz n c rg cap,a,h=>by
  simp only[R]at h
  obtain⟨ax,h1,h2⟩:=h
  rcases rg with _|⟨off,len⟩<;>simp only at h2<;>subst h2<;>rfl
 |.jP fn f c,a,h=>by
  simp only[R]at h
  obtain⟨f',c',rfl,h2,h3⟩:=h
  simp only[oY,Go.PI.names]; rw[RL.names h2,RL.names h3]
 |.jQ t v,a,h=>by
  simp only[R]at h
  obtain⟨v',rfl,h2⟩:=h
  simp only[oY,Go.PI.names]; exact R.names h2
 |.mp y n,a,h=>by
  simp only[R]at h
  obtain⟨rfl,_⟩:=h
  rfl
 |.uQ v s len i,a,h=>by
  simp only[R]at h
  obtain⟨a0,h1,_,h2⟩:=h
  have:=R.names h1
  simp only[oY]
  rcases h2 with ⟨n,ax,k,j,rfl,rfl⟩|⟨e,j,rfl,rfl⟩<;>exact this
theorem RL.names{H:aq T.den}:∀ {l:List (SV T.den)} {m:List AV},RL T H l m→oB l=cQ m
 |[],[],_=>rfl
 |x::xs,y::ys,h=>by
  simp only[RL]at h
  simp only[oB,cQ]; rw[R.names h.1,RL.names h.2]
 |[],_::_,h=>by simp[RL]at h
 |_::_,[],h=>by simp[RL]at h
end
theorem R.leaf{H:aq T.den}{v:SV T.den}{a:AV}(h:R T H v a):iw v=bt a:=by
 cases v with
 |dead=>simp[R]at h
 |hole=>simp only[R]at h; subst h; rfl
 |lit v=>simp only[R]at h; subst h; rfl
 |agg l=>simp only[R]at h; obtain⟨l',rfl,h2⟩:=h; rfl
 |kC l=>simp only[R]at h; obtain⟨l',rfl,h2⟩:=h; rfl
 |sl l=>simp only[R]at h; obtain⟨l',rfl,h2⟩:=h; rfl
 |jN t l=>simp only[R]at h; rcases h with ⟨l',rfl,_⟩|⟨_,rfl⟩<;>rfl
 |zj t l c b=>simp only[R]at h; rcases h with ⟨_,l',rfl,_⟩|⟨_,_,rfl|rfl⟩<;>rfl
 |nz=>simp only[R]at h; subst h; rfl
 |bq e j=>simp only[R]at h; obtain⟨e',rfl,h2⟩:=h; rfl
 |ref n c i j=>simp only[R]at h; obtain⟨ax,rfl,h2⟩:=h; rfl
 |jw n c i j ln cp=>simp only[R]at h; obtain⟨ax,rfl,h2⟩:=h; rfl
 |bw esz n c rg cap=>
  simp only[R]at h
  obtain⟨ax,h1,h2⟩:=h
  rcases rg with _|⟨off,len⟩<;>simp only at h2<;>subst h2<;>rfl
 |jP fn f c=>simp only[R]at h; obtain⟨f',c',rfl,h2,h3⟩:=h; rfl
 |jQ t v=>simp only[R]at h; obtain⟨v',rfl,h2⟩:=h; rfl
 |mp y n=>simp only[R]at h; obtain⟨rfl,h2⟩:=h; rfl
 |uQ v s len i=>simp only[R]at h; obtain⟨a0,_,_,h2⟩:=h; rcases h2 with ⟨n,ax,k,j,rfl,rfl⟩|⟨e,j,rfl,rfl⟩<;>rfl
theorem R.It{H:aq T.den}{v:SV T.den}{a:AV}(h:R T H v a)(hv:∀ l,v≠.agg l):∀ l,a≠.agg l:=by
 intro l e
 subst e
 cases v with
 |dead=>simp[R]at h
 |hole=>simp[R]at h
 |lit v=>simp[R]at h
 |agg l=>exact hv l rfl
 |kC l=>simp[R]at h
 |sl l=>simp[R]at h
 |jN t l=>simp[R]at h
 |bq e j=>simp[R]at h
 |ref n c i j=>simp[R]at h
 |jw n c i j ln cp=>simp[R]at h
 |bw esz n c rg cap=>
  grind[R]
 |jP fn f c=>simp[R]at h
 |jQ t v=>simp[R]at h
 |mp y n=>simp[R]at h
 |uQ v s len i=>simp[R,AtX]at h
 |zj t l c b=>simp[R]at h
 |nz=>simp[R]at h
theorem RL.length[ag]{H:aq T.den}{l:List (SV T.den)}{m:List AV}(h:RL T H l m):l.length=m.length:=aE.length (bc.1 h)
theorem RL.lits{H:aq T.den}:∀ (c:List Value),RL T H (c.map .lit) (c.map .lit)
 |[]=>by simp[RL]
 |v::vs=>by simp only[List.map_cons,RL]; exact⟨by simp[R],RL.lits vs⟩
theorem R.cells[ag]{H:aq T.den}{v:SV T.den}{a:AV}(h:R T H v a):RL T H (cb v) (cellsOf a):=by
 cases v with
 |dead=>simp[R]at h
 |hole=>simp_all[R,cb,cellsOf,RL]
 |lit v=>simp only[R]at h; subst h; exact RL.lits _
 |agg l=>simp only[R]at h; obtain⟨l',rfl,h2⟩:=h; exact h2
 |jN t l=>
  have h':=h
  simp only[R]at h
  rcases h with ⟨l',rfl,_⟩|⟨_,rfl⟩
  ·simp_all[cb,cellsOf,RL]
  ·show RL T H [_] [AV.lit cx]
   simp only[RL]; exact⟨h',trivial⟩
 |kC l=>grind[R,cb,cellsOf,RL]
 |sl l=>grind[R,cb,cellsOf,RL]
 |bq e j=>grind[R,cb,cellsOf,RL]
 |ref n c i j=>grind[R,cb,cellsOf,RL]
 |jw n c i j ln cp=>grind[R,cb,cellsOf,RL]
 |bw esz n c rg cap=>
  grind[R,cb,cellsOf,RL]
 |jP fn f c=>grind[R,cb,cellsOf,RL]
 |jQ t v=>grind[R,cb,cellsOf,RL]
 |nz=>
  simp_all[R,cb,cellsOf,RL]
 |zj t l c b=>
  have h':=h
  simp only[R]at h
  rcases h with ⟨_,l',rfl,_⟩|⟨_,_,rfl|rfl⟩
  ·simp_all[cb,cellsOf,RL]
  ·simp_all[cb,cellsOf,RL]
  ·show RL T H [_] [AV.lit cx]
   simp only[RL]; exact⟨h',trivial⟩
 |mp y n=>simp_all[R,cb,cellsOf,RL]
 |uQ v s len i=>
  have h':=h
  simp only[R]at h
  obtain⟨a0,_,_,h2⟩:=h
  rcases h2 with ⟨n,ax,k,j,rfl,rfl⟩|⟨e,j,rfl,rfl⟩<;>simp only[cb,cellsOf,RL]<;>exact⟨h',trivial⟩
theorem RL.all{H:aq T.den}{p:SV T.den→Bool}{q:AV→Bool}(PN:∀ v a,R T H v a→p v=q a):∀ {l:List (SV T.den)} {m:List AV},RL T H l m→l.all p=m.all q
 |[],[],_=>rfl
 |x::xs,y::ys,h=>by
  simp only[RL]at h
  simp only[List.all_cons]; rw[PN _ _ h.1,RL.all PN h.2]
 |[],_::_,h=>by simp[RL]at h
 |_::_,[],h=>by simp[RL]at h
theorem RL.FP[ag]{H:aq T.den}{l:List (SV T.den)}{m:List AV}(h:RL T H l m):l.all iw=m.all bt:=RL.all (fun _ _=>R.leaf) h
theorem FQ{agg:Bool}{size:Nat}{a:AV}{j:Nat}(ha:∀ l,a≠.agg l):fX agg size a j=if !agg&&bt a&&decide (j=0) then some a else none:=by
 cases a<;>first|rfl|exact absurd rfl (ha _)
theorem FR{agg:Bool}{size:Nat}{v:SV T.den}{j:Nat}(ha:∀ l,v≠.agg l):pW agg size v j=if !agg&&iw v&&decide (j=0) then some v else none:=by
 cases v<;>first|rfl|exact absurd rfl (ha _)
theorem R.part[ag]{H:aq T.den}{agg:Bool}{size:Nat}{v x:SV T.den}{a:AV}{j:Nat}(h:R T H v a)(hp:pW agg size v j=some x):∃ b,fX agg size a j=some b∧R T H x b:=by
 by_cases hv:∃ l,v=.agg l
 ·obtain⟨l,rfl⟩:=hv
  simp only[R]at h
  obtain⟨l',rfl,h2⟩:=h
  have hl:=h2.length
  cases agg with
  |true=>
   simp only[pW,if_true]at hp
   split at hp
   case isFalse=>simp at hp
   simp only[Option.some.injEq]at hp
   subst hp
   refine⟨_,by simp only[fX,if_true]; rw[if_pos (by omega)],?_⟩
   simp only[R]
   exact⟨_,rfl,bc.2 (((bc.1 h2).drop j).take size)⟩
  |false=>
   simp only[pW,Bool.false_eq_true,if_false]at hp
   obtain⟨b,h3,h4⟩:=aE.get (bc.1 h2) hp
   exact⟨b,by simpa[fX] using h3,h4⟩
 ·have lE:∀ l,v≠.agg l:=fun l e=>hv ⟨l,e⟩
  rw[FR lE]at hp
  rw[FQ (h.It lE),←h.leaf]
  split at hp
  case isFalse=>simp at hp
  rename_i hc
  simp only[Option.some.injEq]at hp
  subst hp
  exact⟨a,by rw[if_pos hc],h⟩
theorem RL.setCells[ag]{H:aq T.den}:∀ {cs:List (SV T.den)} {nQ:List AV} {l:List (SV T.den)} {l':List AV} (j:Nat),RL T H l l'→RL T H cs nQ→RL T H (jJ l j cs) (setCells l' j nQ)
 |[],[],l,l',j,h,_=>h
 |x::xs,y::ys,l,l',j,h,hc=>by
  simp only[RL]at hc
  simp only[jJ,Go.PI.setCells]
  exact RL.setCells (j+1) (bc.2 ((bc.1 h).set j hc.1)) hc.2
 |[],_::_,_,_,_,_,h=>by simp[RL]at h
 |_::_,[],_,_,_,_,h=>by simp[RL]at h
theorem BR{a y:AV}{j:Nat}(ha:∀ l,a≠.agg l)(hl:bt a=true)(hj:j=0):jR a j [y]=some y:=by
 simp_all[jR,hl]
theorem AR{v e':SV T.den}{cs:List (SV T.den)}{j:Nat}(ha:∀ l,v≠.agg l)(h:gU v j cs=some e'):∃ y,cs=[y]∧e'=y∧iw v=true∧j=0:=by
 match cs with
 |[]=>simp_all[gU]
 |[y]=>simp_all[gU]
 |_::_::_=>simp_all[gU]
theorem R.jR[ag]{H:aq T.den}{v e':SV T.den}{a:AV}{j:Nat}{cs:List (SV T.den)}{nQ:List AV}(h:R T H v a)(hc:RL T H cs nQ)(hp:gU v j cs=some e'):
  ∃ b,Go.PI.jR a j nQ=some b∧R T H e' b:=by
 by_cases hv:∃ l,v=.agg l
 ·obtain⟨l,rfl⟩:=hv
  simp only[R]at h
  obtain⟨l',rfl,h2⟩:=h
  simp only[gU]at hp
  split at hp
  case isFalse=>simp at hp
  simp only[Option.some.injEq]at hp
  subst hp
  have h3:=h2.length
  have h4:=hc.length
  exact⟨_,by simp only[Go.PI.jR]; rw[if_pos (by omega)],by simp only[R]; exact⟨_,rfl,RL.setCells j h2 hc⟩⟩
 ·have lE:∀ l,v≠.agg l:=fun l e=>hv ⟨l,e⟩
  obtain⟨y,rfl,rfl,h3,h4⟩:=AR lE hp
  match nQ,hc with
  |[b],hc=>
   simp only[RL]at hc
   exact⟨b,BR (h.It lE) (by rw[←h.leaf]; exact h3) h4,hc.1⟩
  |[],hc=>simp[RL]at hc
  |_::_::_,hc=>simp[RL]at hc
def RP(T:eh)(H:aq T.den):List (Nat×SV T.den)→List (Nat×AV)→Prop:=aE fun p q=>p.1=q.1∧R T H p.2 q.2
theorem RP.fill[ag]{H:aq T.den}{place:Nat→Option (Nat×Nat)}:∀ {ps:List (Nat×SV T.den)} {qs:List (Nat×AV)} {l r:List (SV T.den)} {l':List AV},RP T H ps qs→RL T H l l'→CI place l ps=some r →
  ∃ r',tj place l' qs=some r'∧RL T H r r'
 |[],[],l,r,l',_,hl,h=>by
  simp only[CI,Option.some.injEq]at h
  subst h
  exact⟨l',rfl,hl⟩
 |(i,v)::ps,(i',a)::qs,l,r,l',hp,hl,h=>by
  obtain⟨⟨h1,h2⟩,h3⟩:=hp
  simp only at h1 h2
  subst h1
  simp only[CI]at h
  simp only[tj]
  cases Je:place i with
  |none=>rw[Je]at h; simp at h
  |some q=>
   obtain⟨off,size⟩:=q
   rw[Je]at h
   simp only at h ⊢
   split at h
   case isFalse=>simp at h
   rename_i hc
   have n4:=h2.cells
   rw[if_pos ⟨by rw[←n4.length]; exact hc.1,by rw[←hl.length]; exact hc.2.1,by rw[←n4.FP]; exact hc.2.2⟩]
   exact RP.fill h3 (RL.setCells off hl n4) h
 |[],_::_,_,_,_,h,_,_=>h.elim
 |_::_,[],_,_,_,h,_,_=>h.elim
theorem R.aF[ag]{H:aq T.den}{agg:Bool}{size:Nat}{v:SV T.den}{a:AV}(h:R T H v a):mK agg size v=aF agg size a:=by
 by_cases hv:∃ l,v=.agg l
 ·obtain⟨l,rfl⟩:=hv
  simp only[R]at h
  obtain⟨l',rfl,h2⟩:=h
  simp only[mK,Go.PI.aF]
  rw[h2.length,h2.FP]
 ·have lE:∀ l,v≠.agg l:=fun l e=>hv ⟨l,e⟩
  have e1:mK agg size v=(!agg&&decide (size=1)&&iw v):=by cases v<;>first|rfl|exact absurd rfl (lE _)
  have e2:Go.PI.aF agg size a=(!agg&&decide (size=1)&&bt a):=by
   have:=h.It lE
   cases a<;>first|rfl|exact absurd rfl (this _)
  rw[e1,e2,h.leaf]
theorem RL.dx{H:aq T.den}:∀ {l:List (SV T.den)} {m:List AV} {c:List Value},RL T H l m→oC l=some c→Go.PI.dx m=some c∧m=c.map .lit
 |[],[],c,_,h=>by simp[oC]at h; subst h; exact⟨rfl,rfl⟩
 |x::xs,y::ys,c,h,hc=>by
  simp only[RL]at h
  cases x with
  |lit v=>
   simp only[oC,Option.map_eq_some_iff]at hc
   obtain⟨c',h1,rfl⟩:=hc
   have h2:=h.1
   simp only[R]at h2
   subst h2
   obtain⟨h3,h4⟩:=RL.dx h.2 h1
   exact⟨by simp[Go.PI.dx,h3],by simp[h4]⟩
  |_=>simp[oC]at hc
 |[],_::_,_,h,_=>by simp[RL]at h
 |_::_,[],_,h,_=>by simp[RL]at h
theorem R.plain[ag]{H:aq T.den}{v:SV T.den}{a b:AV}(h:R T H v a)(hp:oZ v=some b):a=b:=by
 cases v with
 |lit v=>simp_all[R,oZ]
 |agg l=>
  simp only[R]at h
  obtain⟨l',rfl,h2⟩:=h
  simp only[oZ,Option.map_eq_some_iff]at hp
  obtain⟨c,h3,rfl⟩:=hp
  rw[(RL.dx h2 h3).2]
 |_=>simp[oZ]at hp
theorem xn[ag]{H:aq T.den}{a:AV}{v:SV T.den}(h:(iz a:Option (SV T.den))=some v):R T H v a:=by
 cases a with
 |lit x=>simp[iz]at h; subst h; simp[R]
 |agg l=>
  simp only[iz,Option.map_eq_some_iff]at h
  obtain⟨c,h1,rfl⟩:=h
  simp only[R]
  refine⟨l,rfl,?_⟩
  have:l=c.map .lit:=by
   revert c
   induction l with
   |nil=>simp_all[Go.PI.dx]
   |cons x xs ih=>
    intro c h1
    cases x with
    |lit v=>
     simp only[Go.PI.dx,Option.map_eq_some_iff]at h1
     obtain⟨c',h2,rfl⟩:=h1
     rw[ih c' h2]; rfl
    |_=>simp[Go.PI.dx]at h1
  rw[this]
  exact RL.lits c
 |_=>simp[iz]at h
end Go.PI
end
section
/- PS, part E: the tables looked up before. -/
namespace Go.PI
def kindOf:TypeDesc→MK
 |.slice e=>.slice e
 |.array n e=>.array n e
 |.struct fs=>.struct (fs.toList.map fun f=>(f.offset,f.type))
 |.interface _=>.iface
 |_=>.other
def lU(rec:TypeId→Option (List CK))(P:Program):Nat→List Field→Option (List CK)
 |_,[]=>some []
 | off, f :: fs => if f.name = "_" then none else
   if f.offset=off then
    match rec f.type with
    |some ks=>if ks.length=P.cellsOf f.type then (lU rec P (off+ks.length) fs).map fun l=>ks++l else none
    |none=>none
   else none
def oG(P:Program):Nat→TypeId→Option (List CK)
 |0,_=>none
 |d+1,t=>
  match P.underlying t with
  |some .bool=>some [.bool]
  |some (.int k)=>some [.int k]
  |some .string=>some [.str]
  |some (.array n e)=>if (P.info? e).isSome&&(P.underlying e).isSome then
    match oG P d e with
    |some ks=>if ks.length=P.cellsOf e then some (List.replicate n ks).flatten else none
    |none=>none
   else none
  |some (.struct fs)=>if P.stoodInHeld t then none else lU (oG P d) P 0 fs.toList
  |_=>none
theorem lV:∀ {ks:List CK} {vs:List Value},bA ks vs=true→ks.length=vs.length
 |[],[],_=>rfl
 |_::_,_::_,h=>by simp only[bA,Bool.and_eq_true]at h; simp[lV h.2]
 |[],_::_,h=>by simp[bA]at h
 |_::_,[],h=>by simp[bA]at h
theorem sb:∀ {ks ls:List CK} {vs:List Value},bA (ks++ls) vs=true→bA ks (vs.take ks.length)=true∧bA ls (vs.drop ks.length)=true
 |[],ls,vs,h=>by simpa[bA] using h
 |k::ks,ls,[],h=>by simp[bA]at h
 |k::ks,ls,v::vs,h=>by
  simp only[List.cons_append,bA,Bool.and_eq_true]at h
  obtain⟨h1,h2⟩:=sb h.2
  simp only[List.length_cons,List.take_succ_cons,List.drop_succ_cons,bA,Bool.and_eq_true]
  exact⟨⟨h.1,h1⟩,h2⟩
theorem se:∀ {a a' b b':List Value},a.length=a'.length→dk (a++b) (a'++b')=(dk a a'&&dk b b')
 |[],[],b,b',_=>by simp[dk]
 |x::xs,y::ys,b,b',h=>by
  simp only[List.cons_append,dk]
  rw[se (by simpa using h),Bool.and_assoc]
theorem sf[ag]{P:Program}{rec:TypeId→List Value→List Value→Option Bool}{kr:TypeId→Option (List CK)}
  (hr:∀ t ks c c',kr t=some ks→bA ks c=true→bA ks c'=true→rec t c c'=some (dk c c')) :
  ∀ (fs:List Field) (off:Nat) (ks:List CK) (cs nQ:List Value),lU kr P off fs=some ks→bA ks (cs.drop off)=true→bA ks (nQ.drop off)=true →
    kS rec P cs nQ fs=some (dk (cs.drop off) (nQ.drop off))
 |[],off,ks,cs,nQ,h,h1,h2=>by
  simp only[lU,Option.some.injEq]at h
  subst h
  have e1:cs.drop off=[]:=by cases hq:cs.drop off with
   |nil=>rfl
   |cons x xs=>rw[hq]at h1; simp[bA]at h1
  have e2:nQ.drop off=[]:=by cases hq:nQ.drop off with
   |nil=>rfl
   |cons x xs=>rw[hq]at h2; simp[bA]at h2
  rw[e1,e2]; rfl
 |f::fs,off,ks,cs,nQ,h,h1,h2=>by
  simp only[lU]at h
  split at h
  ·simp at h
  rename_i hn
  split at h
  case isFalse=>simp at h
  rename_i ho
  cases hk:kr f.type with
  |none=>rw[hk]at h; simp at h
  |some k1=>
   rw[hk]at h
   simp only at h
   split at h
   case isFalse=>simp at h
   rename_i hs
   rw[Option.map_eq_some_iff]at h
   obtain⟨k2,h3,rfl⟩:=h
   obtain⟨a1,a2⟩:=sb h1
   obtain⟨b1,b2⟩:=sb h2
   rw[List.drop_drop]at a2 b2
   have ih:=sf hr fs (off+k1.length) k2 cs nQ h3 a2 b2
   have hc:chunk P cs f.offset f.type=(cs.drop off).take k1.length:=by simp[chunk,ho,hs]
   have JL:chunk P nQ f.offset f.type=(nQ.drop off).take k1.length:=by simp[chunk,ho,hs]
   simp only[kS,hn,if_false]
   rw[hc,JL,hr _ _ _ _ hk a1 b1]
   simp only
   rw[ih,Option.map_some]
   congr 1
   have l1:=lV a1
   have l2:=lV b1
   conv=>rhs; rw[←List.take_append_drop k1.length (cs.drop off),←List.take_append_drop k1.length (nQ.drop off)]
   rw[se (by omega),List.drop_drop,List.drop_drop]
theorem tA[ag]{P:Program}{rec:TypeId→List Value→List Value→Option Bool}{e:TypeId}{ks:List CK}(hs:ks.length=P.cellsOf e)
  (hr:∀ c c',bA ks c=true→bA ks c'=true→rec e c c'=some (dk c c')) :
  ∀ (n m:Nat) (cs nQ:List Value),bA (List.replicate n ks).flatten (cs.drop (m*ks.length))=true→bA (List.replicate n ks).flatten (nQ.drop (m*ks.length))=true →
    nc rec P e cs nQ (List.range' m n)=some (dk (cs.drop (m*ks.length)) (nQ.drop (m*ks.length)))
 |0,m,cs,nQ,h1,h2=>by
  simp only[List.replicate_zero,List.flatten_nil]at h1 h2
  have e1:cs.drop (m*ks.length)=[]:=by cases hq:cs.drop (m*ks.length) with
   |nil=>rfl
   |cons x xs=>rw[hq]at h1; simp[bA]at h1
  have e2:nQ.drop (m*ks.length)=[]:=by cases hq:nQ.drop (m*ks.length) with
   |nil=>rfl
   |cons x xs=>rw[hq]at h2; simp[bA]at h2
  rw[e1,e2]; rfl
 |n+1,m,cs,nQ,h1,h2=>by
  simp only[List.replicate_succ,List.flatten_cons]at h1 h2
  obtain⟨a1,a2⟩:=sb h1
  obtain⟨b1,b2⟩:=sb h2
  rw[List.drop_drop]at a2 b2
  have em:m*ks.length+ks.length=(m+1)*ks.length:=by rw[Nat.succ_mul]
  rw[em]at a2 b2
  have ih:=tA hs hr n (m+1) cs nQ a2 b2
  have hc:chunk P cs (m*P.cellsOf e) e=(cs.drop (m*ks.length)).take ks.length:=by simp[chunk,hs]
  have JL:chunk P nQ (m*P.cellsOf e) e=(nQ.drop (m*ks.length)).take ks.length:=by simp[chunk,hs]
  rw[List.range'_succ]
  simp only[nc]
  rw[hc,JL,hr _ _ a1 b1]
  simp only
  rw[ih,Option.map_some]
  congr 1
  have l1:=lV a1
  have l2:=lV b1
  conv=>rhs; rw[←List.take_append_drop ks.length (cs.drop (m*ks.length)),←List.take_append_drop ks.length (nQ.drop (m*ks.length))]
  rw[se (by omega),List.drop_drop,List.drop_drop,em]
theorem uw[ag]{P:Program}:∀ (d:Nat) (t:TypeId) (ks:List CK) (c c':List Value),oG P d t=some ks→bA ks c=true→bA ks c'=true→mc P d t c c'=some (dk c c')
 |0,_,_,_,_,h,_,_=>by simp[oG]at h
 |d+1,t,ks,c,c',h,h1,h2=>by
  simp only[oG]at h
  simp only[mc]
  cases hu:P.underlying t with
  |none=>rw[hu]at h; simp at h
  |some ds=>
   rw[hu]at h
   cases ds with
   |bool=>
    simp only[Option.some.injEq]at h
    subst h
    match c,c',h1,h2 with
    |[.bool a],[.bool b],_,_=>simp[dk,ui]
    |[],_,h1,_=>simp[bA]at h1
    |_::_::_,_,h1,_=>simp[bA]at h1
    |_,[],_,h2=>simp[bA]at h2
    |_,_::_::_,_,h2=>simp[bA]at h2
    |[v],[w],h1,h2=>
     cases v<;>simp[bA,CK.fits]at h1
     cases w<;>simp[bA,CK.fits]at h2
     simp[dk,ui]
   |int k=>
    simp only[Option.some.injEq]at h
    subst h
    match c,c',h1,h2 with
    |[],_,h1,_=>simp[bA]at h1
    |_::_::_,_,h1,_=>simp[bA]at h1
    |_,[],_,h2=>simp[bA]at h2
    |_,_::_::_,_,h2=>simp[bA]at h2
    |[v],[w],h1,h2=>
     cases v<;>simp[bA,CK.fits]at h1
     cases w<;>simp[bA,CK.fits]at h2
     subst h1; subst h2
     simp[dk,ui]
   |string=>
    simp only[Option.some.injEq]at h
    subst h
    match c,c',h1,h2 with
    |[],_,h1,_=>simp[bA]at h1
    |_::_::_,_,h1,_=>simp[bA]at h1
    |_,[],_,h2=>simp[bA]at h2
    |_,_::_::_,_,h2=>simp[bA]at h2
    |[v],[w],h1,h2=>
     cases v<;>simp[bA,CK.fits]at h1
     cases w<;>simp[bA,CK.fits]at h2
     simp[dk,ui]
   |array n e=>
    simp only at h ⊢
    split at h
    case isFalse=>simp at h
    rename_i hc
    rw[if_pos hc]
    cases hk:oG P d e with
    |none=>rw[hk]at h; simp at h
    |some k1=>
     rw[hk]at h
     simp only at h
     split at h
     case isFalse=>simp at h
     rename_i hs
     simp only[Option.some.injEq]at h
     subst h
     have:=tA (rec:=mc P d) hs (fun c c'=>uw d e k1 c c' hk) n 0 c c' (by simpa using h1) (by simpa using h2)
     rw[List.range_eq_range']
     simpa using this
   |struct fs=>
    simp only at h ⊢
    split at h
    ·simp at h
    rename_i hc
    rw[if_neg hc]
    have:=sf (rec:=mc P d) (fun t ks c c' hk=>uw d t ks c c' hk) fs.toList 0 ks c c' h (by simpa using h1) (by simpa using h2)
    simpa using this
   |_=>simp at h
structure iH.Ok(Q:iH):Prop where
 row:∀ t m,Q.ty t=some m→∃ r,ga Q.P t=some r∧r.isAgg=m.agg∧r.size=m.size∧r.bytes=m.bytes∧(∀ z,m.zero=some z→cr r=some z)
 kind:∀ t m,Q.ty t=some m→∃ d,Q.P.underlying t=some d∧kindOf d=m.kind
 Sm:∀ t m ks,Q.ty t=some m→m.Sm=some ks→Q.P.eqGuardType Q.P.depth t=false∧oG Q.P 20 t=some ks
 map:∀ t q,Q.mapOf t=some q→zr Q.P t=some q
theorem fS{α:Type}:∀ {l:List (Nat×α)} {n:Nat} {a:α},cO l n=some a→(n,a)∈l
 |[],_,_,h=>by simp[cO]at h
 |(m,b)::r,n,a,h=>by
  simp only[cO]at h
  split at h
  ·simp_all
  ·exact List.mem_cons_of_mem _ (fS h)
def rowOf(P:Program)(t:Nat):Option (Bool×Nat×Nat):=(ga P t).map fun r=>(r.isAgg,r.size,r.bytes)
def zeroOf(P:Program)(m:jO)(t:Nat):Option AV:=match m.zero with
 |none=>none
 |some _=>(ga P t).bind cr
def Ss(P:Program)(m:jO)(t:Nat):Option (List CK):=match m.Sm with
 |none=>none
 |some _=>if P.eqGuardType P.depth t=false then oG P 20 t else none
def N1(P:Program)(m:jO)(t:Nat):Option (KK×Nat):=match m.map with
 |none=>none
 |some _=>zr P t
theorem xq{α β:Type}{f g:α→β}:∀ {l:List α},l.map f=l.map g→∀ x,x∈l→f x=g x
 |[],_,x,h=>by simp at h
 |y::ys,h,x,hx=>by
  simp only[List.map_cons,List.cons.injEq]at h
  rcases List.mem_cons.1 hx with rfl|hx
  ·exact h.1
  ·exact xq h.2 x hx
theorem iH.Ok.of[ag]{Q:iH}(h1:(Q.M.map fun q=>rowOf Q.P q.1)=Q.M.map fun q=>some (q.2.agg,q.2.size,q.2.bytes))
  (h2:(Q.M.map fun q=>zeroOf Q.P q.2 q.1)=Q.M.map fun q=>q.2.zero)
  (h3:(Q.M.map fun q=>(Q.P.underlying q.1).map kindOf)=Q.M.map fun q=>some q.2.kind)
  (h4:(Q.M.map fun q=>Ss Q.P q.2 q.1)=Q.M.map fun q=>q.2.Sm) (h5:(Q.M.map fun q=>N1 Q.P q.2 q.1)=Q.M.map fun q=>q.2.map):Q.Ok where
 row:=by
  intro t m h
  have hm:=fS h
  have e1:=xq h1 _ hm
  have e2:=xq h2 _ hm
  simp only[rowOf,Option.map_eq_some_iff,Prod.mk.injEq]at e1
  obtain⟨r,hr,a1,a2,a3⟩:=e1
  refine⟨r,hr,a1,a2,a3,fun z hz=>?_⟩
  simp only[zeroOf]at e2
  rw[hz]at e2
  simpa[hr] using e2
 kind:=by
  intro t m h
  have e:=xq h3 _ (fS h)
  simp only[Option.map_eq_some_iff]at e
  exact e
 Sm:=by
  intro t m ks h hk
  have e:=xq h4 _ (fS h)
  simp only[Ss]at e
  rw[hk]at e
  simp only at e
  split at e
  ·exact⟨by assumption,e⟩
  ·simp at e
 map:=by
  intro t q h
  unfold iH.mapOf at h
  obtain⟨m,h1,h2⟩:=Option.bind_eq_some_iff.1 h
  have e:=xq h5 _ (fS h1)
  simp only[N1]at e
  rw[h2]at e
  exact e
end Go.PI
end
section
/- PS, part F: operations that only compute, and those on one object. -/
namespace Go.PI
variable {T:eh}{ρ:Type}
structure RE(T:eh)(H:aq T.den)(hp:ak)(v:SV T.den)(wr:List (Nat×aK T.den))(e:ed):Prop where
 val:RV T (bu H wr) v e.val
 hp:RH T (bu H wr) (av hp e.wr)
 grow:ej H (bu H wr)
 names:∀ q,q∈e.wr→q.1∈wr.map (·.1)
 Ea:∀ n:Nat,n∉wr.map (·.1)→n<H.length→(bu H wr)[n]?=H[n]?
 len:H.length≤(bu H wr).length
 N2:∀ n,recAt H n=true→n∉wr.map (·.1)
def kp(T:eh)(H:aq T.den)(hp:ak)(m:RM ed)(K:EK T ρ)(r:ρ):Prop:=
 ∃ v wr rd e,aN hp m e rd∧RE T H hp v wr e∧(K v wr rd).run=some r
section
variable {H:aq T.den}{hp:ak}{K:EK T ρ}{r:ρ}
theorem ay[ag](hh:RH T H hp){m:RM ed}{v:SV T.den}{a:AV}{rd:List Nat}(hv:RV T H v a)(hm:aN hp m ⟨a,[]⟩ rd)(hk:(K v [] rd).run=some r):kp T H hp m K r:=
 ⟨v,[],rd,_,hm,⟨hv,hh,ej.refl _,fun q h=>by simp at h,fun _ _ _=>rfl,Nat.le_refl _,fun _ _ h=>by simp at h⟩,hk⟩
theorem yy{n:Nat}{o:aK T.den}(hn:n=H.length∨n<H.length):H.length≤(cd H n o).length:=by
 unfold cd
 split<;>simp
theorem AY{n m:Nat}{o:aK T.den}(hm:m<H.length)(dY:m≠n):(cd H n o)[m]?=H[m]?:=by
 grind[cd]
theorem fT[ag](hh:RH T H hp){m:RM ed}{nm:Nat}(hn:nm=H.length∨H[nm]?=some none){o:aK T.den}{a':aY}(ho:RO T H o a'){v:SV T.den}{a:AV}{rd:List Nat}
  (hv:RV T (cd H nm o) v a) (hm:aN hp m ⟨a,[(nm,a')]⟩ rd) (hk:(K v [(nm,o)] rd).run=some r):kp T H hp m K r:=by
 obtain⟨hg,hr⟩:=hh.new hn ho
 refine⟨v,[(nm,o)],rd,_,hm,⟨hv,hr,hg,fun q h=>?_,fun n h hl=>?_,?_,fun n h1 h2=>?_⟩,hk⟩
 ·simp at h; subst h; simp
 ·simp at h; exact AY hl h
 ·exact yy (hn.imp id fun h=>(List.getElem?_eq_some_iff.1 h).1)
 ·simp at h2
  subst h2
  unfold recAt at h1
  rcases hn with hn|hn
  ·rw[List.getElem?_eq_none (by omega)]at h1; simp at h1
  ·rw[hn]at h1; simp at h1
theorem lA[ag](hh:RH T H hp){m:RM ed}{n:Nat}{o o':aK T.den}{a':aY}(ho:H[n]?=some (some o))(hc:o.cur≤o'.cur)(hl:o'.cur=o.cur→o'.len=o.len)(eD:RO T H o' a')
  {v:SV T.den} {a:AV} {rd:List Nat} (hv:RV T (H.set n (some o')) v a) (hm:aN hp m ⟨a,[(n,a')]⟩ rd) (hk:(K v [(n,o')] rd).run=some r) (hnr:o.isRec=false:=by rfl):kp T H hp m K r:=by
 obtain⟨hg,hr⟩:=hh.Wa ho hc hl eD
 have cG:=(List.getElem?_eq_some_iff.1 ho).1
 have e1:bu H [(n,o')]=H.set n (some o'):=by simp[bu,cd]; omega
 have e2:av hp [(n,a')]=hp.set n (some a'):=by simp[av,setObj]; have:=hh.length; omega
 refine⟨v,[(n,o')],rd,_,hm,⟨by rw[e1]; exact hv,by rw[e1,e2]; exact hr,by rw[e1]; exact hg,fun q h=>?_,fun k h hl=>?_,?_,fun m h1 h2=>?_⟩,hk⟩
 ·simp at h; subst h; simp
 ·rw[e1]; simp at h; rw[List.getElem?_set_ne (Ne.symm h)]
 ·rw[e1]; simp
 ·simp at h2
  subst h2
  unfold recAt at h1
  rw[ho]at h1
  simp only at h1
  rw[hnr]at h1
  simp at h1
theorem je{x:Option AV}(h:(qN (T:=T) x K).run=some r):∃ v,x=some (.lit v)∧(K (.lit v) [] []).run=some r:=by
 unfold qN at h
 split at h
 ·exact⟨_,rfl,h⟩
 ·simp[Tr.run]at h
theorem nN{x:Option (SV T.den)}{rd:List Nat}(h:(AG x rd K).run=some r):∃ v,x=some v∧(K v [] rd).run=some r:=by
 unfold AG at h
 split at h
 ·exact⟨_,rfl,h⟩
 ·simp[Tr.run]at h
theorem gv{b:Bool}{x y:Tr ρ}(h:(Tr.cond b x y).run=some r):(b=true∧x.run=some r)∨(b=false∧y.run=some r):=by
 cases b with
 |true=>exact .inl ⟨rfl,h⟩
 |false=>exact .inr ⟨rfl,h⟩
theorem bp[ag]{b:Bool}{x:Tr ρ}(h:(Tr.cond b x .fail).run=some r):b=true∧x.run=some r:=by
 grind[Tr.run]
theorem bind_some{α:Type}{e:Option α}{k:α→Tr ρ}(h:(Tr.bind e k).run=some r):∃ a,e=some a∧(k a).run=some r:=by
 simp only[Tr.run,Option.bind_eq_some_iff]at h
 exact h
theorem jK[ag]{v:SV T.den}{K:Nat→Tr ρ}(h:(gW v K).run=some r):∃ k n,v=.lit (.int k n)∧0≤n∧(K n.toNat).run=some r:=by
 unfold gW at h
 split at h
 ·obtain⟨h1,h2⟩:=bp h
  exact⟨_,_,rfl,by simpa using h1,h2⟩
 ·simp[Tr.run]at h
theorem sT[ag]{v:SV T.den}{a:AV}{k:IntKind}{n:Int}(hv:RV T H v a)(e:v=.lit (.int k n))(hn:0≤n):asNat a=some n.toNat:=by
 subst e
 have:=hv.live rfl
 simp only[R]at this
 subst this
 simp[asNat,hn]
theorem dz[ag]{i:Nat}{K:Nat→Tr ρ}:∀ {len m:Nat},(gA i len m K).run=some r→m≤i∧i<m+len∧(K i).run=some r
 |0,m,h=>by simp[gA,Tr.run]at h
 |len+1,m,h=>by
  simp only[gA]at h
  rcases gv h with ⟨h1,h2⟩|⟨h1,h2⟩
  ·simp_all
  ·obtain⟨h3,h4,h5⟩:=dz h2
   exact⟨by omega,by omega,h5⟩
theorem RV.lit[ag]{v:SV T.den}{a:AV}{x:Value}(hv:RV T H v a)(e:v=.lit x):a=.lit x:=by
 subst e
 have:=hv.live rfl
 simpa only[R] using this
theorem bC(x:Value):RV T H (.lit x) (.lit x):=.inr (by simp[R])
theorem gH.arr(hh:RH T H hp){n c ax:Nat}(hv:gH H n c ax){o:aK T.den}(ho:H[n]?=some (some o))(hc:Nat.beq c o.cur=true):ax=o.len:=by
 obtain⟨o',h1,h2,h3⟩:=hv
 rw[ho]at h1
 simp only[Option.some.injEq]at h1
 subst h1
 exact h3 (Nat.eq_of_beq_eq_true hc)
theorem sU:∀ {v:SV T.den} {a0 a:AV} {d:Nat},R T H v a0→AtX a0 d a→R T H (ju d v) a
 |.ref n c i j,a0,a,d,h,hx=>by
  simp only[R]at h
  obtain⟨ax,rfl,hv⟩:=h
  rcases hx with ⟨n,ax,k,j,h1,rfl⟩|⟨e,j,h1,rfl⟩<;>cases h1
  simp only[ju,R]
  exact⟨_,rfl,hv⟩
 |.bq e j,a0,a,d,h,hx=>by
  simp only[R]at h
  obtain⟨e',rfl,hv⟩:=h
  rcases hx with ⟨n,ax,k,j,h1,rfl⟩|⟨e,j,h1,rfl⟩<;>cases h1
  simp only[ju,R]
  exact⟨_,rfl,hv⟩
 |.uQ v s l i,a0,a,d,h,hx=>by
  simp only[R]at h
  obtain⟨a1,h1,h2,h3⟩:=h
  simp only[ju,R]
  rcases h3 with ⟨n,ax,k,j,rfl,rfl⟩|⟨e,j,rfl,rfl⟩<;>rcases hx with ⟨n',EC,k',j',e1,rfl⟩|⟨e',j',e1,rfl⟩<;>cases e1
  ·exact⟨.ref n ax k (j+d),sU h1 (.inl ⟨_,_,_,_,rfl,rfl⟩),h2,.inl ⟨_,_,_,_,rfl,by rw[Nat.add_right_comm]⟩⟩
  ·exact⟨.bq e (j+d),sU h1 (.inr ⟨_,_,rfl,rfl⟩),h2,.inr ⟨_,_,rfl,by rw[Nat.add_right_comm]⟩⟩
 |.dead,_,_,_,h,_=>by simp[R]at h
 |.lit v,_,_,_,h,hx=>by
  simp only[R]at h; subst h
  rcases hx with ⟨n,ax,k,j,h1,_⟩|⟨e,j,h1,_⟩<;>cases h1
 |.agg l,_,_,_,h,hx=>by
  simp only[R]at h; obtain⟨_,rfl,_⟩:=h
  rcases hx with ⟨n,ax,k,j,h1,_⟩|⟨e,j,h1,_⟩<;>cases h1
 |.kC l,_,_,_,h,hx=>by
  simp only[R]at h; obtain⟨_,rfl,_⟩:=h
  rcases hx with ⟨n,ax,k,j,h1,_⟩|⟨e,j,h1,_⟩<;>cases h1
 |.sl l,_,_,_,h,hx=>by
  simp only[R]at h; obtain⟨_,rfl,_⟩:=h
  rcases hx with ⟨n,ax,k,j,h1,_⟩|⟨e,j,h1,_⟩<;>cases h1
 |.jN t l,_,_,_,h,hx=>by
  simp only[R]at h
  rcases h with ⟨_,rfl,_⟩|⟨_,rfl⟩<;>rcases hx with ⟨n,ax,k,j,h1,_⟩|⟨e,j,h1,_⟩<;>cases h1
 |.jw n c i j ln cp,_,_,_,h,hx=>by
  simp only[R]at h; obtain⟨_,rfl,_⟩:=h
  rcases hx with ⟨n,ax,k,j,h1,_⟩|⟨e,j,h1,_⟩<;>cases h1
 |.bw esz n c rg cap,_,_,_,h,hx=>by
  simp only[R]at h
  obtain⟨ax,_,h2⟩:=h
  rcases rg with _|⟨off,len⟩<;>simp only at h2<;>subst h2<;>rcases hx with ⟨n,ax,k,j,h1,_⟩|⟨e,j,h1,_⟩<;>cases h1
 |.jP fn f c,_,_,_,h,hx=>by
  simp only[R]at h; obtain⟨_,_,rfl,_⟩:=h
  rcases hx with ⟨n,ax,k,j,h1,_⟩|⟨e,j,h1,_⟩<;>cases h1
 |.jQ t v,_,_,_,h,hx=>by
  simp only[R]at h; obtain⟨_,rfl,_⟩:=h
  rcases hx with ⟨n,ax,k,j,h1,_⟩|⟨e,j,h1,_⟩<;>cases h1
 |.zj t l c b,_,_,_,h,hx=>by
  simp only[R]at h
  rcases h with ⟨_,_,rfl,_⟩|⟨_,_,rfl|rfl⟩<;>rcases hx with ⟨n,ax,k,j,h1,_⟩|⟨e,j,h1,_⟩<;>cases h1
 |.nz,_,_,_,h,hx=>by
  simp only[R]at h
  subst h
  rcases hx with ⟨n,ax,k,j,h1,_⟩|⟨e,j,h1,_⟩<;>cases h1
 |.mp y n,_,_,_,h,hx=>by
  simp only[R]at h; obtain⟨rfl,_⟩:=h
  rcases hx with ⟨n,ax,k,j,h1,_⟩|⟨e,j,h1,_⟩<;>cases h1
theorem lK{e:SV T.den}{s:Nat}:∀ {n j:Nat} {xs:List (SV T.den)},iA e j s n=some xs→xs.length=n∧∀ m x,xs[m]?=some x→pW false 1 e (j+m*s)=some x
 |0,j,xs,h=>by simp only[iA,Option.some.injEq]at h; subst h; simp
 |n+1,j,xs,h=>by
  simp only[iA,Option.bind_eq_some_iff,Option.map_eq_some_iff]at h
  obtain⟨x,hx,l,hl,rfl⟩:=h
  obtain⟨h1,h2⟩:=lK hl
  refine⟨by simp[h1],fun m y hy=>?_⟩
  cases m with
  |zero=>simp at hy; subst hy; simpa using hx
  |succ m=>
   grind
theorem ux{k:IntKind}:∀ {xs:List (SV T.den)} {l:List Int},xg k xs=some l→xs=l.map fun n=>.lit (.int k n)
 |[],l,h=>by simp only[xg,Option.some.injEq]at h; subst h; rfl
 |x::r,l,h=>by
  unfold xg at h
  split at h
  ·simp at *
  ·rename_i k' n r' he
   cases he
   split at h
   case isFalse=>simp at h
   rename_i hk
   subst hk
   rw[Option.map_eq_some_iff]at h
   obtain⟨l',hl,rfl⟩:=h
   rw[ux hl]; rfl
  ·simp at h
theorem yz:∀ {xs:List (SV T.den)} {l:List Bool},vP xs=some l→xs=l.map fun n=>.lit (.bool n)
 |[],l,h=>by simp only[vP,Option.some.injEq]at h; subst h; rfl
 |x::r,l,h=>by
  unfold vP at h
  split at h
  ·simp at *
  ·rename_i n r' he
   cases he
   rw[Option.map_eq_some_iff]at h
   obtain⟨l',hl,rfl⟩:=h
   rw[yz hl]; rfl
  ·simp at h
theorem CQ{α:Type}{l:List α}{i:Nat}{d x:α}(h:l[i]?=some x):rV l i d=x:=by
 simp_all[rV,h]
theorem Gg{xs:List (SV T.den)}{i:Nat}{x y:SV T.den}(h:NL i xs=some y)(hx:xs[i]?=some x):y=x:=by
 unfold NL at h
 split at h
 ·rename_i k n r
  rw[Option.map_eq_some_iff]at h
  obtain⟨l,hl,rfl⟩:=h
  rw[ux hl]at hx
  have:(List.map (fun n=>(SV.lit (Value.int k n):SV T.den)) (n::l))[i]?=some x:=hx
  rw[List.getElem?_map,Option.map_eq_some_iff]at this
  obtain⟨z,hz,rfl⟩:=this
  rw[CQ hz]
 ·rename_i n r
  rw[Option.map_eq_some_iff]at h
  obtain⟨l,hl,rfl⟩:=h
  rw[yz hl]at hx
  have:(List.map (fun n=>(SV.lit (Value.bool n):SV T.den)) (n::l))[i]?=some x:=hx
  rw[List.getElem?_map,Option.map_eq_some_iff]at this
  obtain⟨z,hz,rfl⟩:=this
  rw[CQ hz]
 ·simp at h
theorem Gh{m:jO}{v x:SV T.den}{bl len i:Nat}{xs:List (SV T.den)}{rd:List Nat}(h:Ig H v bl len=some (xs,rd))(hx:NL i xs=some x)(hi:i<len)(h1:m.agg=false)(h2:m.size=1):
  qo m H (ju (i*bl) v) K=K x [] rd:=by
 have fin:∀ (e:SV T.den) (j:Nat),iA e j bl len=some xs→pW m.agg m.size e (j+i*bl)=some x:=by
  intro e j hs
  obtain⟨g1,g2⟩:=lK hs
  have cG:i<xs.length:=by omega
  have hg:=List.getElem?_eq_getElem cG
  rw[Gg hx hg,h1,h2]
  exact g2 _ _ hg
 unfold Ig at h
 split at h
 ·rename_i n c k j
  split at h
  case h_2=>simp at h
  rename_i g cl f cur es ho
  split at h
  case h_2=>simp at h
  rename_i hc
  simp only[Option.bind_eq_some_iff,Option.map_eq_some_iff,Prod.mk.injEq]at h
  obtain⟨e,he,l,hl,rfl,rfl⟩:=h
  simp only[ju,qo,ho,hc,he,fin e j hl,AG]
 ·rename_i e j
  simp only[Option.map_eq_some_iff,Prod.mk.injEq]at h
  obtain⟨l,hl,rfl,rfl⟩:=h
  simp only[ju,qo,fin e j hl,AG]
 ·simp at h
theorem N3{α:Type}{l:List α}{n:Nat}{x:α}(h:l[n]?=some x):l.set n x=l:=Go.PI.iX h
theorem Gi{k:IntKind}{y:Int}{bl i:Nat}:∀ {ns:List Int} {l:List (SV T.den)} {j m:Nat},i<m→(∀ p n,ns[p]?=some n→l[j+p*bl]?=some (.lit (.int k n)))→Ih l j bl i m k y ns=l
 |[],l,j,m,_,_=>rfl
 |n::ns,l,j,m,hm,h=>by
  have h0:l[j]?=some (.lit (.int k n)):=by simpa using h 0 n rfl
  have hb:Nat.beq i m=false:=by
   cases hb:Nat.beq i m
   ·rfl
   ·have:=Nat.eq_of_beq_eq_true hb; omega
  simp only[Ih,hb,cond_false]
  rw[N3 h0]
  refine Gi (by omega) fun p x hp=>?_
  have:=h (p+1) x (by simpa using hp)
  rwa [Nat.succ_mul,Nat.add_comm _ bl,←Nat.add_assoc]at this
theorem Gj{k:IntKind}{y:Int}{bl i:Nat}(hs:0<bl):∀ {ns:List Int} {l:List (SV T.den)} {j m:Nat},m≤i→i<m+ns.length→(∀ p n,ns[p]?=some n→l[j+p*bl]?=some (.lit (.int k n))) →
  Ih l j bl i m k y ns=l.set (j+(i-m)*bl) (.lit (.int k y))
 |[],l,j,m,h1,h2,_=>by simp at h2; omega
 |n::ns,l,j,m,h1,h2,h=>by
  have h0:l[j]?=some (.lit (.int k n)):=by simpa using h 0 n rfl
  have hn:∀ (l':List (SV T.den)),(∀ q,j<q→l'[q]?=l[q]?)→∀ p x,ns[p]?=some x→l'[j+bl+p*bl]?=some (.lit (.int k x)):=by
   intro l' hl p x hp
   have:=h (p+1) x (by simpa using hp)
   rw[Nat.succ_mul,Nat.add_comm _ bl,←Nat.add_assoc]at this
   rw[hl _ (by omega)]; exact this
  by_cases hm:i=m
  ·subst hm
   have hb:Nat.beq i i=true:=by simp
   simp only[Ih,hb,cond_true,Nat.sub_self,Nat.zero_mul,Nat.add_zero]
   exact Gi (by omega) (hn _ fun q hq=>by rw[List.getElem?_set_ne (by omega)])
  ·have hb:Nat.beq i m=false:=by
    cases hb:Nat.beq i m
    ·rfl
    ·simp_all
   simp only[Ih,hb,cond_false]
   rw[N3 h0,Gj hs (by omega) (by simp at h2; omega) (hn _ fun _ _=>rfl)]
   have:i-m=(i-(m+1))+1:=by omega
   rw[this,Nat.succ_mul,Nat.add_assoc,Nat.add_comm bl]
theorem Eb{m:jO}{b v:SV T.den}{bl len i n:Nat}{o:aK T.den}(h:Ii H b v bl len i=some (n,o))(hi:i<len)(h2:m.size=1):
  sN m H (ju (i*bl) b) v K=K (.lit undef) [(n,o)] [n]:=by
 unfold Ii at h
 split at h
 case h_2=>simp at h
 rename_i n' c i0 j k y
 split at h
 case h_2=>simp at h
 rename_i g cl f cur es ho
 split at h
 case h_2=>simp at h
 rename_i l hc he
 simp only[Bool.and_eq_true]at hc
 obtain⟨⟨VY,PE⟩,XL⟩:=hc
 have hs:0<bl:=Nat.le_of_ble_eq_true XL
 simp only[Option.map_eq_some_iff,Option.bind_eq_some_iff,Prod.mk.injEq]at h
 obtain⟨ns,⟨xs,Cc,hns⟩,rfl,rfl⟩:=h
 obtain⟨g1,g2⟩:=lK Cc
 have hxe:=ux hns
 have xK:∀ p x,ns[p]?=some x→l[j+p*bl]?=some (.lit (.int k x)):=by
  simp_all[pW]
 have hlen:ns.length=len:=by rw[←g1,hxe,List.length_map]
 have Iu:=Gj (y:=y) hs (Nat.zero_le i) (by omega) xK
 rw[Nat.sub_zero]at Iu
 rw[Iu]
 have cG:j+i*bl<l.length:=by
  have:=xK i _ (List.getElem?_eq_getElem (by omega:i<ns.length))
  exact(List.getElem?_eq_some_iff.1 this).1
 have wF:(cb (SV.lit (Value.int k y):SV T.den))=[.lit (.int k y)]:=rfl
 simp only[ju,sN,cL,wF,ho,VY,PE,he,h2]
 simp[gU,jJ,iw,aD,aM]
 rw[if_pos (show j+i*bl+1≤l.length from cG)]
theorem xr[ag](hT:T.Ok){P:Program}{t:TypeId}{m:jO}{q:bO}(hq:ga P t=some q)(h1:q.isAgg=m.agg)(h2:q.size=m.size)(hh:RH T H hp){a:SV T.den}{b:AV}(ha:RV T H a b)
  (h:(qo m H a K).run=some r):∃ v c rd,aN hp (mo P t b) c rd∧R T H v c∧(K v [] rd).run=some r:=by
 unfold mo
 rw[hq]
 simp only
 unfold qo at h
 split at h
 ·-- a reference
  rename_i n c i j
  have ha:=ha.live rfl
  simp only[R]at ha
  obtain⟨ax,rfl,cI⟩:=ha
  simp only
  split at h
  ·rename_i g cl f cur es ho
   obtain⟨o,dJ,eD⟩:=hh.obj ho
   obtain⟨es',rfl,cZ,tg⟩:=eD
   split at h
   case h_2=>simp[Tr.run]at h
   rename_i hc
   have cI:=cI.arr hh ho hc
   simp only[aK.len]at cI
   split at h
   case h_2=>simp[Tr.run]at h
   rename_i e he
   obtain⟨v,hv,hk⟩:=nN h
   obtain⟨e',Jr,Hi⟩:=aE.get (bc.1 cZ) he
   rw[←h1,←h2]at hv
   obtain⟨c',JL,XM⟩:=R.part Hi hv
   refine⟨v,c',[n],?_,XM,hk⟩
   refine aN.mono (aN.bind (aN.arr dJ (by rw[cI]; exact(RL.length cZ).symm)) ?_) (rd:=[n]++[]) (fun _ h=>by simpa using h)
   simp only[Jr]
   exact aN.iT JL
  ·rename_i g f cur t' l ho
   obtain⟨o,dJ,eD⟩:=hh.obj ho
   obtain⟨es',rfl,cZ⟩:=eD
   split at h
   case h_2=>simp[Tr.run]at h
   rename_i hc
   have cI:=cI.arr hh ho hc
   simp only[aK.len]at cI
   obtain⟨x,hx,h⟩:=bind_some h
   obtain⟨v,hv,hk⟩:=nN h
   obtain⟨e',Jr,Hi⟩:=aE.get cZ hx
   rw[←h1,←h2]at hv
   obtain⟨c',JL,XM⟩:=R.part (hT.up _ _ _ H Hi) hv
   refine⟨v,c',[n],?_,XM,hk⟩
   refine aN.mono (aN.bind (aN.arr dJ (by rw[cI]; exact(aE.length cZ).symm)) ?_) (rd:=[n]++[]) (fun _ h=>by simpa using h)
   simp only[Jr]
   exact aN.iT JL
  ·simp[Tr.run]at h
 ·rename_i e j
  have ha:=ha.live rfl
  simp only[R]at ha
  obtain⟨e',rfl,Hi,_⟩:=ha
  obtain⟨v,hv,hk⟩:=nN h
  rw[←h1,←h2]at hv
  obtain⟨c',JL,XM⟩:=R.part Hi hv
  exact⟨v,c',[],aN.iT JL,XM,hk⟩
 ·simp[Tr.run]at h
theorem Gk[ag](hT:T.Ok){P:Program}{t:TypeId}{m:jO}{q:bO}(hq:ga P t=some q)(h1:q.isAgg=m.agg)(h2:q.size=m.size)(hh:RH T H hp){a:SV T.den}{b:AV}(ha:RV T H a b)
  (h:(JS m H a K).run=some r):∃ v c rd,aN hp (mo P t b) c rd∧R T H v c∧(K v [] rd).run=some r:=by
 unfold JS at h
 split at h
 ·rename_i v bl len i
  have ha:=ha.live rfl
  simp only[R]at ha
  obtain⟨a0,g1,g2,g3⟩:=ha
  have hR:=sU g1 g3
  have chain:(gA i len 0 fun k=>qo m H (ju (k*bl) v) K).run=some r→∃ v c rd,aN hp (mo P t b) c rd∧R T H v c∧(K v [] rd).run=some r:=by
   intro h
   obtain⟨_,_,h⟩:=dz h
   exact xr hT hq h1 h2 hh (.inr hR) h
  split at h
  ·rename_i xs rd hs hx
   simp only[Bool.and_eq_true,Bool.not_eq_true']at hs
   split at h
   ·rename_i x N4
    rw[←Gh (K:=K) (m:=m) hx N4 g2 hs.1 (Nat.eq_of_beq_eq_true hs.2)]at h
    exact xr hT hq h1 h2 hh (.inr hR) h
   ·exact chain h
  ·exact chain h
 ·exact xr hT hq h1 h2 hh ha h
def aK.AZ{den:Nat→Type}:aK den→Bool
 |.arr ..|.cD ..=>true
 |_=>false
theorem RO.Gl[ag]{o:aK T.den}{a:aY}(eD:RO T H o a)(hj:o.AZ=true):∃ es,a=.arr o.flags.1 o.flags.2.1 o.flags.2.2 es∧es.length=o.len:=by
 cases o with
 |arr g cl f cur es=>obtain⟨es',rfl,cZ,_⟩:=eD; exact⟨es',rfl,(RL.length cZ).symm⟩
 |cD g f cur t l=>obtain⟨es',rfl,cZ⟩:=eD; exact⟨es',rfl,(aE.length cZ).symm⟩
 |_=>simp[aK.AZ]at hj
theorem uy[ag](hT:T.Ok){P:Program}{t:TypeId}{m:jO}{q:bO}(hq:ga P t=some q)(h2:q.size=m.size)(hh:RH T H hp){a v:SV T.den}{b c:AV}(ha:RV T H a b)(hv:RV T H v c)
  (h:(sN m H a v K).run=some r):kp T H hp (rh P t b c) K r:=by
 unfold rh
 rw[hq]
 simp only
 unfold sN at h
 split at h
 case h_2=>simp[Tr.run]at h
 rename_i hd mw
 simp only[Bool.and_eq_true,decide_eq_true_eq]at mw
 have hv:=hv.live hd
 have n4:=hv.cells
 split at h
 case h_2=>simp[Tr.run]at h
 rename_i n cc i j
 have ha:=ha.live rfl
 simp only[R]at ha
 obtain⟨ax,rfl,cI⟩:=ha
 simp only
 split at h
 ·rename_i g cl f cur es ho
  obtain⟨o,dJ,eD⟩:=hh.obj ho
  obtain⟨es',rfl,cZ,tg⟩:=eD
  split at h
  case h_2=>simp[Tr.run]at h
  rename_i hc
  simp only[Bool.and_eq_true,Bool.not_eq_true']at hc
  have cI:=cI.arr hh ho hc.1
  simp only[aK.len]at cI
  split at h
  case h_2=>simp[Tr.run]at h
  rename_i e he
  split at h
  case h_2=>simp[Tr.run]at h
  rename_i e' yN
  obtain⟨b',qG,LK⟩:=aE.get (bc.1 cZ) he
  obtain⟨e2,Aq,Ut⟩:=R.jR LK n4 yN
  have fW:RL T H (es.set i e') (es'.set i e2):=bc.2 ((bc.1 cZ).set i Ut)
  refine lA (o':=.arr g (cl&&aD (cb v)) f cur (es.set i e')) hh ho (Nat.le_refl _) (fun _=>by simp[aK.len]) (a':=.arr g (cl&&aZ (cellsOf c)) f (es'.set i e2)) ⟨_,by rw[RL.closed n4],fW,fun pe=>by simp only[Bool.and_eq_true]at pe; exact uu (tg pe.1) (AQ yN (lz (tg pe.1) (List.mem_of_getElem? he)) pe.2) i⟩ (bC undef) ?_ h
  refine aN.mono (aN.bind (aN.arr dJ (by rw[cI]; exact(RL.length cZ).symm)) ?_) (rd:=[n]++[]) (fun _ h=>by simpa using h)
  simp only[qG,Aq]
  rw[if_pos ⟨hc.2,by rw[←n4.length,h2]; exact mw.1,by rw[←n4.FP]; exact mw.2⟩]
  exact aN.ret _
 ·rename_i g f cur t' l ho
  obtain⟨o,dJ,eD⟩:=hh.obj ho
  obtain⟨es',rfl,cZ⟩:=eD
  split at h
  case h_2=>simp[Tr.run]at h
  rename_i hc
  simp only[Bool.and_eq_true,Bool.not_eq_true']at hc
  have cI:=cI.arr hh ho hc.1.1
  simp only[aK.len]at cI
  obtain⟨x,hx,h⟩:=bind_some h
  split at h
  case h_2=>simp[Tr.run]at h
  rename_i e' yN
  split at h
  case h_2=>simp[Tr.run]at h
  rename_i y hy
  obtain⟨b',qG,LK⟩:=aE.get cZ hx
  obtain⟨e2,Aq,Ut⟩:=R.jR (hT.up _ _ _ H LK) n4 yN
  have fW:aE (T.rp t') (l.set i y) (es'.set i e2):=cZ.set i (hT.dn _ _ _ _ H hy Ut)
  refine lA (o':=.cD g f cur t' (l.set i y)) hh ho (Nat.le_refl _) (fun _=>by simp[aK.len]) (a':=.arr g (true&&aZ (cellsOf c)) f (es'.set i e2)) ⟨_,by rw[←RL.closed n4,hc.2]; rfl,fW⟩ (bC undef) ?_ h
  refine aN.mono (aN.bind (aN.arr dJ (by rw[cI]; exact(aE.length cZ).symm)) ?_) (rd:=[n]++[]) (fun _ h=>by simpa using h)
  simp only[qG,Aq]
  rw[if_pos ⟨hc.1.2,by rw[←n4.length,h2]; exact mw.1,by rw[←n4.FP]; exact mw.2⟩]
  exact aN.ret _
 ·simp[Tr.run]at h
theorem K4[ag](hT:T.Ok){P:Program}{t:TypeId}{m:jO}{q:bO}(hq:ga P t=some q)(h2:q.size=m.size)(hh:RH T H hp){a v:SV T.den}{b c:AV}(ha:RV T H a b)(hv:RV T H v c)
  (h:(Ij m H a v K).run=some r):kp T H hp (rh P t b c) K r:=by
 unfold Ij at h
 split at h
 ·rename_i w bl len i
  have ha:=ha.live rfl
  simp only[R]at ha
  obtain⟨a0,g1,g2,g3⟩:=ha
  have hR:=sU g1 g3
  split at h
  ·rename_i n o hs hx
   rw[←Eb (K:=K) (m:=m) hx g2 (Nat.eq_of_beq_eq_true hs)]at h
   exact uy hT hq h2 hh (.inr hR) hv h
  ·obtain⟨_,_,h⟩:=dz h
   exact uy hT hq h2 hh (.inr hR) hv h
 ·exact uy hT hq h2 hh ha hv h
end
end Go.PI
end
section
/- PS, part G: the other operations. -/
namespace Go.PI
variable {T:eh}{ρ:Type}
section
variable {H:aq T.den}{hp:ak}{K:EK T ρ}{r:ρ}{Q:iH}
theorem iH.Ok.slice(hQ:Q.Ok){t e:Nat}{m:jO}(h:Q.elemOf t=some (e,m)):Q.P.underlying t=some (.slice e)∧Q.ty e=some m:=by
 unfold iH.elemOf at h
 cases ht:Q.ty t with
 |none=>rw[ht]at h; simp at h
 |some m1=>
  rw[ht]at h
  simp only at h
  obtain⟨d,hd,hk⟩:=hQ.kind t m1 ht
  cases hm:m1.kind with
  |slice e'=>
   rw[hm]at h hk
   simp only[Option.map_eq_some_iff,Prod.mk.injEq]at h
   obtain⟨m2,h1,rfl,rfl⟩:=h
   cases d<;>simp[kindOf]at hk
   subst hk
   exact⟨hd,h1⟩
  |_=>rw[hm]at h; simp at h
theorem iH.Ok.elem[ag](hQ:Q.Ok){t:Nat}{m:jO}(h:Q.elem t=some m):∃ r,aU Q.P t=some r∧r.isAgg=m.agg∧r.size=m.size∧r.bytes=m.bytes∧(∀ z,m.zero=some z→cr r=some z):=by
 unfold iH.elem at h
 rw[Option.map_eq_some_iff]at h
 obtain⟨⟨e,m'⟩,h1,rfl⟩:=h
 obtain⟨h2,h3⟩:=hQ.slice h1
 obtain⟨r,h4,h5⟩:=hQ.row e _ h3
 exact⟨r,by simp[aU,h2,h4],h5⟩
theorem iH.Ok.Gm(hQ:Q.Ok){t n:Nat}{m:jO}(h:Q.arr t=some (n,m)):∃ r,arrayElem Q.P t=some (n,r)∧r.isAgg=m.agg∧r.size=m.size:=by
 unfold iH.arr at h
 cases ht:Q.ty t with
 |none=>rw[ht]at h; simp at h
 |some m1=>
  rw[ht]at h
  simp only at h
  obtain⟨d,hd,hk⟩:=hQ.kind t m1 ht
  cases hm:m1.kind with
  |array n' e=>
   rw[hm]at h hk
   simp only[Option.map_eq_some_iff,Prod.mk.injEq]at h
   obtain⟨m2,h1,rfl,rfl⟩:=h
   cases d<;>simp[kindOf]at hk
   obtain⟨rfl,rfl⟩:=hk
   obtain⟨r,h4,h5,h6,_⟩:=hQ.row _ _ h1
   exact⟨r,by simp[arrayElem,hd,h4],h5,h6⟩
  |_=>rw[hm]at h; simp at h
theorem iH.Ok.Q9(hQ:Q.Ok){t f off:Nat}{m:jO}(h:Q.ZH t f=some (off,m)):∃ r,nW Q.P t f=some (off,r)∧r.isAgg=m.agg∧r.size=m.size:=by
 unfold iH.ZH at h
 cases ht:Q.ty t with
 |none=>rw[ht]at h; simp at h
 |some m1=>
  rw[ht]at h
  simp only at h
  obtain⟨d,hd,hk⟩:=hQ.kind t m1 ht
  cases hm:m1.kind with
  |struct fs=>
   rw[hm]at h hk
   simp only at h
   cases d<;>simp[kindOf]at hk
   rename_i G7
   subst hk
   cases hf:(List.map (fun f=>(f.offset,f.type)) G7.toList)[f]? with
   |none=>rw[hf]at h; simp at h
   |some q=>
    obtain⟨ab6,e⟩:=q
    rw[hf]at h
    simp only at h
    rw[List.getElem?_map,Option.map_eq_some_iff]at hf
    obtain⟨fd,Z2,hq⟩:=hf
    simp only[Prod.mk.injEq]at hq
    obtain⟨rfl,rfl⟩:=hq
    cases he:Q.ty fd.type with
    |none=>rw[he]at h; simp at h
    |some m2=>
     rw[he]at h
     simp only at h
     split at h
     ·simp at h
     rename_i hz
     simp only[Option.some.injEq,Prod.mk.injEq]at h
     obtain⟨rfl,rfl⟩:=h
     obtain⟨r,h4,h5,h6,_⟩:=hQ.row _ _ he
     refine⟨r,?_,h5,h6⟩
     have ab7:G7[f]?=some fd:=by simpa using Z2
     simp[nW,structFields,hd,ab7,h4]
     omega
  |_=>rw[hm]at h; simp at h
theorem iH.Ok.Ra(hQ:Q.Ok){t:Nat}{b:Bool}(h:Q.isSlice t=some b):cf Q.P t=b:=by
 unfold iH.isSlice at h
 cases ht:Q.ty t with
 |none=>rw[ht]at h; simp at h
 |some m1=>
  rw[ht]at h
  simp only at h
  obtain⟨d,hd,hk⟩:=hQ.kind t m1 ht
  unfold cf
  rw[hd]
  cases hm:m1.kind<;>rw[hm]at h hk<;>cases d<;>simp[kindOf]at hk<;>simp_all
theorem Rb[ag]{P:Program}{op:BinOp}{t:TypeId}{xo yo:Operand}{k:IntKind}{a b:Int}{v:Value}(h:Uh op k a b=some v):
  gb P op t xo yo (.lit (.int k a)) (.lit (.int k b))=some (.lit v):=by
 cases op<;>simp only[Uh,Option.some.injEq,reduceCtorEq]at h<;>subst h
 ·exact Dw
 ·exact Jt
 ·exact Ql
 ·rw[Qj]; congr
 ·rw[Qk]; congr
 ·exact sD
 ·exact Qh
 ·exact Js
 ·exact Qi
theorem Rc[ag]{P:Program}{op:BinOp}{t:TypeId}{xo yo:Operand}{k:IntKind}{a b:Int}{v:Value}(h:Ui op k a b=some v)(hb:b≠0):
  gb P op t xo yo (.lit (.int k a)) (.lit (.int k b))=some (.lit v):=by
 cases op<;>simp only[Ui,Option.some.injEq,reduceCtorEq]at h<;>subst h
 ·simp only[gb,fj,dP]; rw[fO _ (by simp) (by simp)]; simp[binOp,Op.intDiv,hb]; rfl
 ·simp only[gb,fj,dP]; rw[fO _ (by simp) (by simp)]; simp[binOp,Op.intDiv,hb]; rfl
theorem Uu[ag]{P:Program}{op:BinOp}{t:TypeId}{xo yo:Operand}{k k':IntKind}{a b:Int}{v:Value}(h:shS op k a b=some v)(hb:¬b<0):
  gb P op t xo yo (.lit (.int k a)) (.lit (.int k' b))=some (.lit v):=by
 cases op<;>simp only[shS,Option.some.injEq,reduceCtorEq]at h<;>subst h
 ·simp only[gb,fj,dP]; rw[fO _ (by simp) (by simp)]; simp[binOp,Op.shift,hb]; rfl
 ·simp only[gb,fj,dP]; rw[fO _ (by simp) (by simp)]; simp[binOp,Op.shift,hb]; rfl
theorem yA{x y:Value}{K:Bool→Tr ρ}:zk x y K=K (ui x y):=by
 unfold zk ui
 split<;>simp_all
theorem yB[ag]:∀ {c c':List Value} {K:Bool→Tr ρ},mM c c' K=K (dk c c')
 |[],[],K=>rfl
 |[x],[y],K=>by simp[mM,yA,dk]
 |x::x'::xs,y::y'::ys,K=>by
  simp only[mM,yA]
  rw[yB]
  rfl
 |[],_::_,K=>by simp[mM,dk]
 |_::_,[],K=>by simp[mM,dk]
 |[x],y::y'::ys,K=>by simp[mM,dk]
 |x::x'::xs,[y],K=>by simp[mM,dk]
theorem A0:∀ (c:List Value),dx (c.map .lit)=some c
 |[]=>rfl
 |v::vs=>by simp[dx,A0 vs]
theorem K5[ag](hQ:Q.Ok){op:BinOp}{t:TypeId}{xo yo:Operand}{l l':List (SV T.den)}{a b:List AV}(h1:RL T H l a)(h2:RL T H l' b)(h:(Im Q op t l l' K).run=some r):
  ∃ v,gb Q.P op t xo yo (.agg a) (.agg b)=some (.lit v)∧(K (.lit v) [] []).run=some r:=by
 unfold Im at h
 split at h
 case h_2=>simp[Tr.run]at h
 rename_i c c' m hc JL hm
 split at h
 case h_2=>simp[Tr.run]at h
 rename_i ks hks
 split at h
 case h_2=>simp[Tr.run]at h
 rename_i hf
 simp only[Bool.and_eq_true]at hf
 obtain⟨_,rfl⟩:=RL.dx h1 hc
 obtain⟨_,rfl⟩:=RL.dx h2 JL
 obtain⟨hg,V1⟩:=hQ.Sm _ _ _ hm hks
 have he:=uw 20 t ks c c' V1 hf.1.2 hf.2
 obtain⟨rr,xM,M5,_⟩:=hQ.row _ _ hm
 have hd:∃ d,Q.P.underlying t=some d∧fK d=true:=by
  unfold ga at xM
  cases hi:Q.P.info? t with
  |none=>rw[hi]at xM; simp at xM
  |some i=>
   cases hu:Q.P.underlying t with
   |none=>rw[hi,hu]at xM; simp at xM
   |some d=>
    rw[hi,hu]at xM
    simp only[Option.some.injEq]at xM
    refine⟨d,rfl,?_⟩
    rw[←hf.1.1,←M5,←xM]
    rfl
 obtain⟨d,Cs,Zr⟩:=hd
 have hA:∀ op,fj Q.P op t (.agg (c.map .lit)) (.agg (c'.map .lit))=na op (dk c c'):=by
  intro op
  unfold fj
  simp only[A0,Cs]
  cases d<;>simp[fK]at Zr<;>simp[hg,he]
 have hB:∀ op x,na op (dk c c')=some x→gb Q.P op t xo yo (.agg (c.map .lit)) (.agg (c'.map .lit))=some x:=by
  intro op x hx
  unfold gb
  rw[hA,hx]
 rw[yB]at h
 cases op<;>simp only[Tr.run,reduceCtorEq]at h
 ·exact⟨_,hB _ _ rfl,h⟩
 ·exact⟨_,hB _ _ rfl,h⟩
theorem vW[ag]{v:SV T.den}{a b:AV}(hv:RV T H v a)(h:oZ v=some b):a=b:=by
 rcases hv with hv|hv
 ·subst hv; simp[oZ]at h
 ·exact hv.plain h
theorem vX{P:Program}{op:BinOp}{t:TypeId}{a b:AV}(ha:(∀ l,a≠.agg l)∨∀ l,b≠.agg l):fj P op t a b=none:=by
 unfold fj
 split
 ·simp_all
 ·rfl
theorem CR[ag]{P:Program}{op:BinOp}{t:TypeId}{x:SV T.den}{a:AV}{n:Value}{y:AV}(hx:RV T H x a)(h:DX P op t x n=some y):
  oK P op t a n=some y∧dP a=none∧∀ l,a≠.agg l:=by
 unfold DX at h
 split at h
 ·split at h
  ·have:=hx.live rfl
   simp only[R]at this
   obtain⟨v',rfl,l',rfl,_⟩:=this
   exact⟨by simpa[oK] using h,rfl,by simp⟩
  ·have:=hx.live rfl
   simp only[R]at this
   obtain⟨v',rfl,l',rfl,_⟩:=this
   exact⟨by simpa[oK] using h,rfl,by simp⟩
  ·simp at h
 ·split at h
  ·have:=hx.live rfl
   simp only[R]at this
   obtain⟨f',c',rfl,_⟩:=this
   exact⟨by simpa[oK] using h,rfl,by simp⟩
  ·simp at h
 ·split at h
  case isFalse=>simp at h
  rename_i hc
  simp only[Bool.and_eq_true]at hc
  cases x<;>simp[JR]at hc
  rename_i xs
  have:=hx.live rfl
  simp only[R]at this
  obtain⟨l',rfl,hl,_⟩:=this
  have:notNil (.sl l')=true:=by
   simp only[notNil]
   have:=hl.length
   cases l' with
   |nil=>simp at this; exact absurd this hc.2
   |cons=>rfl
  refine⟨?_,rfl,by simp⟩
  simp only[oK,hc.1,this,Bool.and_self,if_true]
  exact h
 ·simp at h
theorem Rd[ag](hQ:Q.Ok){op:BinOp}{t:TypeId}{xo yo:Operand}{x y:SV T.den}{a b:AV}(hx:RV T H x a)(hy:RV T H y b)(h:(Uj Q op t xo yo x y K).run=some r):
  ∃ v,gb Q.P op t xo yo a b=some (.lit v)∧(K (.lit v) [] []).run=some r:=by
 unfold Uj at h
 split at h
 ·rename_i k m k' m'
  have ha:=hx.lit rfl
  have hb:=hy.lit rfl
  subst ha; subst hb
  split at h
  ·rename_i v hk hv
   simp only[decide_eq_true_eq]at hk
   subst hk
   exact⟨v,Rb hv,h⟩
  ·split at h
   ·rename_i v hk hv
    simp only[decide_eq_true_eq]at hk
    subst hk
    rcases gv h with ⟨_,h⟩|⟨h0,h⟩
    ·simp[Tr.run]at h
    ·exact⟨v,Rc hv (by simpa using h0),h⟩
   ·split at h
    ·rename_i v hk hv
     rcases gv h with ⟨_,h⟩|⟨h0,h⟩
     ·simp[Tr.run]at h
     ·exact⟨v,Uu hv (by simpa using h0),h⟩
    ·exact je h
 ·rename_i l l'
  have ha:=hx.live rfl
  have hb:=hy.live rfl
  simp only[R]at ha hb
  obtain⟨a',rfl,ha⟩:=ha
  obtain⟨b',rfl,hb⟩:=hb
  exact K5 hQ ha hb h
 ·split at h
  ·rename_i a' b' h1 h2
   rw[vW hx h1,vW hy h2]
   exact je h
  ·split at h
   ·rename_i n
    obtain⟨v,hv,hk⟩:=je h
    obtain⟨h1,h2,h3⟩:=CR hx hv
    have hb:=hy.lit rfl
    subst hb
    refine⟨v,?_,hk⟩
    unfold gb
    rw[vX (.inl h3),h2]
    exact h1
   ·rename_i hyn
    split at h
    ·rename_i n
     obtain⟨v,hv,hk⟩:=je h
     obtain⟨h1,h2,h3⟩:=CR hy hv
     have ha:=hx.lit rfl
     subst ha
     refine⟨v,?_,hk⟩
     unfold gb
     rw[vX (.inr h3),h2]
     cases b with
     |lit b=>
      exfalso
      simp[dP]at h2
     |_=>exact h1
    ·simp[Tr.run]at h
theorem Re[ag]{t:Bool}{x y:SV T.den}{a b:AV}(hx:RV T H x a)(hy:RV T H y b)(h:(NP t x y K).run=some r):
  ∃ v,RV T H v (cond t a b)∧(K v [] []).run=some r:=by
 unfold NP at h
 split at h
 ·have ha:=hx.lit rfl
  have hb:=hy.lit rfl
  subst ha; subst hb
  refine⟨_,?_,h⟩
  cases t<;>exact bC _
 ·rename_i k m k' m'
  have ha:=hx.lit rfl
  have hb:=hy.lit rfl
  subst ha; subst hb
  split at h
  ·rename_i hk
   subst hk
   refine⟨_,?_,h⟩
   cases t<;>exact bC _
  ·rcases gv h with ⟨rfl,h⟩|⟨rfl,h⟩
   ·exact⟨_,bC _,h⟩
   ·exact⟨_,bC _,h⟩
 ·rcases gv h with ⟨rfl,h⟩|⟨rfl,h⟩
  ·exact⟨_,hx,h⟩
  ·exact⟨_,hy,h⟩
end
end Go.PI
end
section
/- PS, part H: structs and slices built, cut, indexed. -/
namespace Go.PI
variable {T:eh}{ρ:Type}
section
variable {H:aq T.den}{hp:ak}{K:EK T ρ}{r:ρ}{Q:iH}
theorem A1(hQ:Q.Ok):∀ {fs:List Field} {pl:List (Nat×Nat)},Q.places (fs.map fun f=>(f.offset,f.type))=some pl→nX Q.P fs=some pl
 |[],pl,h=>by simpa[iH.places,nX] using h
 |f::fs,pl,h=>by
  simp only[List.map_cons,iH.places]at h
  cases hm:Q.ty f.type with
  |none=>rw[hm]at h; simp at h
  |some m=>
   cases hp:Q.places (fs.map fun f=>(f.offset,f.type)) with
   |none=>rw[hm,hp]at h; simp at h
   |some l=>
    rw[hm,hp]at h
    simp only[Option.some.injEq]at h
    subst h
    obtain⟨r,h1,_,h2,_⟩:=hQ.row _ _ hm
    simp[nX,h1,A1 hQ hp,h2]
theorem A3[ag]{q:bO}{z:AV}{zs:SV T.den}(h:cr q=some z)(hz:(iz z:Option (SV T.den))=some zs):
  ∃ v,q.zero=some v∧v.cells.toList.all (fun v=>bt (.lit v))=true∧RL T H (cb zs) (v.cells.toList.map .lit):=by
 unfold cr at h
 cases hv:q.zero with
 |none=>rw[hv]at h; simp at h
 |some v=>
  rw[hv]at h
  simp only at h
  split at h
  case isFalse=>simp at h
  rename_i hc
  simp only[Option.some.injEq]at h
  refine⟨v,rfl,hc.2.2.1,?_⟩
  have h1:=(xn (H:=H) hz).cells
  rw[←h]at h1
  cases v<;>first|exact h1|(simp[zp]at hc)
theorem K6[ag](hQ:Q.Ok){t:TypeId}{ps:List (Nat×SV T.den)}{qs:List (Nat×AV)}(hp:RP T H ps qs){v:SV T.den}(h:Ik Q t ps=some v):∃ a,wm Q.P t qs=some a∧R T H v a:=by
 unfold Ik at h
 split at h
 case h_2=>simp at h
 rename_i m hm
 obtain⟨q,ji,e9,iG,_,JD⟩:=hQ.row _ _ hm
 obtain⟨d,hd,hk⟩:=hQ.kind _ _ hm
 split at h
 ·rename_i fs z WS hz
  rw[Option.bind_eq_some_iff]at hz
  obtain⟨z0,Ux,hz⟩:=hz
  obtain⟨zv,XN,Uy,XO⟩:=A3 (H:=H) (JD _ Ux) hz
  rw[WS]at hk
  cases d<;>simp[kindOf]at hk
  rename_i G7
  subst hk
  split at h
  case h_2=>simp at h
  rename_i pl Je
  rw[Option.map_eq_some_iff]at h
  obtain⟨l,h1,rfl⟩:=h
  obtain⟨l',h2,h3⟩:=RP.fill hp XO h1
  refine⟨.agg l',?_,by simp only[R]; exact⟨l',rfl,h3⟩⟩
  unfold wm
  simp only[hd,ji,XN,A1 hQ Je,Uy,if_true]
  rw[h2]; rfl
 ·rename_i n e z WS hz
  rw[Option.bind_eq_some_iff]at hz
  obtain⟨z0,Ux,hz⟩:=hz
  obtain⟨zv,XN,Uy,XO⟩:=A3 (H:=H) (JD _ Ux) hz
  rw[WS]at hk
  cases d<;>simp[kindOf]at hk
  obtain⟨rfl,rfl⟩:=hk
  split at h
  case h_2=>simp at h
  rename_i m2 Cp
  obtain⟨q2,xM,_,hr3,_⟩:=hQ.row _ _ Cp
  rw[Option.map_eq_some_iff]at h
  obtain⟨l,h1,rfl⟩:=h
  obtain⟨l',h2,h3⟩:=RP.fill hp XO h1
  refine⟨.agg l',?_,by simp only[R]; exact⟨l',rfl,h3⟩⟩
  unfold wm
  simp only[hd,ji,XN,xM,Uy,if_true,hr3]
  rw[h2]; rfl
 ·simp at h
theorem yC[ag]:∀ {ps:List (Nat×SV T.den)} {qs:List (Nat×AV)} {es:List (SV T.den)} {es':List AV},RP T H ps qs→RL T H es es'→RL T H (gu es ps) (gL es' qs)
 |[],[],es,es',_,h=>h
 |(i,v)::ps,(i',a)::qs,es,es',hp,h=>by
  obtain⟨⟨h1,h2⟩,h3⟩:=hp
  simp only at h1 h2
  subst h1
  simp only[gu,gL]
  exact yC h3 (bc.2 ((bc.1 h).set i h2))
 |[],_::_,_,_,h,_=>h.elim
 |_::_,[],_,_,h,_=>h.elim
theorem RP.snd:∀ {ps:List (Nat×SV T.den)} {qs:List (Nat×AV)},RP T H ps qs→RL T H (ps.map (·.2)) (qs.map (·.2))
 |[],[],_=>by simp[RL]
 |(i,v)::ps,(i',a)::qs,h=>by
  obtain⟨⟨_,h2⟩,h3⟩:=h
  simp only[List.map_cons,RL]
  exact⟨h2,RP.snd h3⟩
 |[],_::_,h=>h.elim
 |_::_,[],h=>h.elim
theorem RP.all{p:Nat×SV T.den→Bool}{q:Nat×AV→Bool}(PN:∀ i v a,R T H v a→p (i,v)=q (i,a)):∀ {ps:List (Nat×SV T.den)} {qs:List (Nat×AV)},RP T H ps qs→ps.all p=qs.all q
 |[],[],_=>rfl
 |(i,v)::ps,(i',a)::qs,h=>by
  obtain⟨⟨h1,h2⟩,h3⟩:=h
  simp only at h1 h2
  subst h1
  simp only[List.all_cons]
  rw[PN i v a h2,RP.all PN h3]
 |[],_::_,h=>h.elim
 |_::_,[],h=>h.elim
theorem fU(hh:RH T H hp){nm:Nat}(hn:nm=H.length∨H[nm]?=some none){o:aK T.den}:gH (cd H nm o) nm o.cur o.len:=by
 refine⟨o,?_,Nat.le_refl _,fun _=>rfl⟩
 unfold cd
 split
 ·rename_i h; subst h; simp
 ·grind
theorem tB:∀ (ps:List (Nat×SV T.den)) (es:List (SV T.den)),(gu es ps).length=es.length
 |[],es=>rfl
 |(i,v)::ps,es=>by simp only[gu]; rw[tB ps]; simp
theorem A4[ag](hQ:Q.Ok)(hh:RH T H hp){nm:Nat}(hn:nm=H.length∨H[nm]?=some none){t:TypeId}{len:Nat}{ps:List (Nat×SV T.den)}{qs:List (Nat×AV)}(XP:RP T H ps qs)
  (h:(rX Q nm t len ps K).run=some r):kp T H hp (.iT (jx Q.P nm t len qs)) K r:=by
 unfold rX at h
 split at h
 case h_2=>simp[Tr.run]at h
 rename_i m hm
 obtain⟨q,ji,e9,iG,JD,LO⟩:=hQ.elem hm
 split at h
 case h_2=>simp[Tr.run]at h
 rename_i z hz
 rw[Option.bind_eq_some_iff]at hz
 obtain⟨z0,Ux,hz⟩:=hz
 split at h
 case isFalse=>simp[Tr.run]at h
 rename_i hc
 have pj:=LO _ Ux
 have cZ:=yC XP (bc.2 (aE.replicate (xn (H:=H) hz) len))
 refine fT hh hn (o:=.arr false (aD (ps.map (·.2))) false 0 (gu (List.replicate len z) ps)) (a':=.arr false (aZ (qs.map (·.2))) false (gL (List.replicate len z0) qs))
  ⟨_,by rw[RL.closed (RP.snd XP)],cZ,fun pe=>qP (mW fun x hx=>by rw[List.eq_of_mem_replicate hx]; exact vU hz) pe⟩ (a:=.bw q.size nm len 0 len (some len)) (rd:=[]) ?_ ?_ h
 ·right
  simp only[R]
  have hv:=fU hh hn (o:=.arr false (aD (ps.map (·.2))) false 0 (gu (List.replicate len z) ps))
  simp only[aK.cur,aK.len,tB,List.length_replicate]at hv
  exact⟨len,hv,by rw[iG]⟩
 ·have bK:qs.all (fun p=>decide (p.1<len)&&aF q.isAgg q.size p.2)=true:=by
   rw[←RP.all (p:=fun p=>decide (p.1<len)&&mK m.agg m.size p.2) (fun i v a PU=>by simp only[e9,iG,R.aF PU]) XP]; exact hc.2.2
  refine aN.iT ?_
  unfold jx
  simp only[ji,pj]
  rw[if_pos ⟨by rw[iG]; exact hc.1,by rw[iG]; exact hc.2.1,bK⟩]
def eh.vY(T:eh)(Q:iH):Prop:=∀ t m z za,Q.ty t=some m→m.zero=some za→T.zero t=some z→T.rp t z za
theorem BS[ag](hQ:Q.Ok)(hZ:T.vY Q)(hh:RH T H hp){nm:Nat}(hn:nm=H.length∨H[nm]?=some none){t:TypeId}{l c:SV T.den}{a b:AV}(hl:RV T H l a)(hc:RV T H c b)
  (h:(uf Q nm t l c K).run=some r):kp T H hp (.iT (gf Q.P nm t a b)) K r:=by
 unfold uf at h
 split at h
 case h_2=>simp[Tr.run]at h
 rename_i e m hm
 obtain⟨hu,n5⟩:=hQ.slice hm
 obtain⟨q,ji,e9,iG,JD,LO⟩:=hQ.row _ _ n5
 have yN:aU Q.P t=some q:=by simp[aU,hu,ji]
 split at h
 case h_2=>simp[Tr.run]at h
 rename_i za z Uz hz Qx
 simp only[decide_eq_true_eq]at Qx
 have pj:=LO _ Uz
 have hrz:=hZ _ _ _ _ n5 Uz hz
 obtain⟨k,n,e1,Hw,h⟩:=jK h
 obtain⟨k',n',e2,ace,h⟩:=jK h
 have ha:=sT hl e1 Hw
 have hb:=sT hc e2 ace
 obtain⟨hg,h⟩:=bp h
 simp only[Bool.and_eq_true,decide_eq_true_eq]at hg
 have vm:aE (T.rp e) (List.replicate n'.toNat z) (List.replicate n'.toNat za):=aE.replicate hrz _
 have hA:gf Q.P nm t a b=some ⟨.bw q.size nm n'.toNat 0 n.toNat (some n'.toNat),[(nm,.arr false true false (List.replicate n'.toNat za))]⟩:=by
  simp_all[yN,ha,hb,pj,gf]
 have hv:=fU hh hn (o:=.cD false false 0 e (List.replicate n'.toNat z))
 simp only[aK.cur,aK.len,List.length_replicate]at hv
 refine fT hh hn (o:=.cD false false 0 e (List.replicate n'.toNat z)) ⟨_,rfl,vm⟩ ?_ (aN.iT hA) h
 right
 simp only[R]
 exact⟨n'.toNat,hv,by rw[iG]⟩
theorem BT[ag](hQ:Q.Ok)(hZ:T.vY Q)(hh:RH T H hp){nm:Nat}(hn:nm=H.length∨H[nm]?=some none){t:TypeId}{l:SV T.den}{a:AV}(hl:RV T H l a)
  (h:(ug Q nm t l K).run=some r):kp T H hp (.iT (gf Q.P nm t a a)) K r:=by
 unfold ug at h
 split at h
 case h_2=>simp[Tr.run]at h
 rename_i e m hm
 obtain⟨hu,n5⟩:=hQ.slice hm
 obtain⟨q,ji,e9,iG,JD,LO⟩:=hQ.row _ _ n5
 have yN:aU Q.P t=some q:=by simp[aU,hu,ji]
 split at h
 case h_2=>simp[Tr.run]at h
 rename_i za z Uz hz Qx
 simp only[decide_eq_true_eq]at Qx
 have pj:=LO _ Uz
 have hrz:=hZ _ _ _ _ n5 Uz hz
 obtain⟨k,n,e1,Hw,h⟩:=jK h
 have ha:=sT hl e1 Hw
 obtain⟨hg,h⟩:=bp h
 simp only[Bool.and_eq_true,decide_eq_true_eq]at hg
 have vm:aE (T.rp e) (List.replicate n.toNat z) (List.replicate n.toNat za):=aE.replicate hrz _
 have hA:gf Q.P nm t a a=some ⟨.bw q.size nm n.toNat 0 n.toNat (some n.toNat),[(nm,.arr false true false (List.replicate n.toNat za))]⟩:=by
  simp_all[yN,ha,pj,gf]
 have hv:=fU hh hn (o:=.cD false false 0 e (List.replicate n.toNat z))
 simp only[aK.cur,aK.len,List.length_replicate]at hv
 refine fT hh hn (o:=.cD false false 0 e (List.replicate n.toNat z)) ⟨_,rfl,vm⟩ ?_ (aN.iT hA) h
 right
 simp only[R]
 exact⟨n.toNat,hv,by rw[iG]⟩
theorem K7[ag](hQ:Q.Ok)(hh:RH T H hp){nm:Nat}(hn:nm=H.length∨H[nm]?=some none){t:TypeId}{m:jO}(hm:Q.ty t=some m){z:SV T.den}(hz:m.zero.bind iz=some z)(hs:0<m.size)
  (h:(K (.ref nm 0 0 0) [(nm,.arr false true false 0 [z])] []).run=some r) {ev:Operand→AV} {dst:Option Tmp} {type:TypeId} {pos:String} {after:Array Edge} {guard:Option (Nat×Bool)} :
  kp T H hp (aV Q.P nm ev ⟨dst,.alloc t,type,pos,after,guard⟩) K r:=by
 obtain⟨q,ji,e9,iG,JD,LO⟩:=hQ.row _ _ hm
 rw[Option.bind_eq_some_iff]at hz
 obtain⟨z0,Ux,hz⟩:=hz
 have pj:=LO _ Ux
 refine fT hh hn (o:=.arr false true false 0 [z]) (a':=.arr false true false [z0]) ⟨_,rfl,by simp only[RL]; exact⟨xn hz,trivial⟩,fun _=>by simp only[aD,vU hz,Bool.and_self]⟩ (a:=.ref nm 1 0 0) (rd:=[]) ?_ ?_ h
 ·right
  simp only[R]
  exact⟨1,rfl,fU hh hn (o:=.arr false true false 0 [z])⟩
 ·simp only[aV,ji,pj]
  rw[if_pos (by omega)]
  exact aN.ret _
def N5(T:eh)(H:aq T.den)(x:Option (SV T.den))(y:Option AV):Prop:=
 match x,y with
 |none,none=>True
 |some v,some a=>RV T H v a
 |_,_=>False
theorem jf[ag]{d:Nat}{x:Option (SV T.den)}{y:Option AV}(N6:N5 T H x y){K:Nat→Tr ρ}(h:(kj d x K).run=some r):∃ n,bJ d y=some n∧(K n).run=some r:=by
 unfold kj at h
 split at h
 ·cases y with
  |none=>exact⟨d,rfl,h⟩
  |some a=>exact N6.elim
 ·cases y with
  |none=>exact N6.elim
  |some a=>
   obtain⟨k,n,e1,Hw,h⟩:=jK h
   exact⟨n.toNat,sT N6 e1 Hw,h⟩
theorem lW[ag]{d:Nat}{v:SV T.den}{y:Option AV}(N6:N5 T H (some v) y){K:Nat→Tr ρ}(h:(gW v K).run=some r):∃ n,bJ d y=some n∧(K n).run=some r:=
 jf (d:=d) N6 h
theorem uz[ag]{x:Option (SV T.den)}{y z:Option AV}(N6:N5 T H x y)(h:plainO x=some z):y=z:=by
 cases x with
 |none=>
  cases y with
  |none=>simpa[plainO] using h
  |some a=>exact N6.elim
 |some v=>
  cases y with
  |none=>exact N6.elim
  |some a=>
   simp only[plainO,Option.map_eq_some_iff]at h
   obtain⟨b,hb,rfl⟩:=h
   rw[vW N6 hb]
theorem N5.isSome{x:Option (SV T.den)}{y:Option AV}(N6:N5 T H x y):x.isSome=y.isSome:=by
 cases x<;>cases y<;>first|rfl|exact N6.elim
theorem sV[ag](hh:RH T H hp){esz n c:Nat}{rg:Option (Nat×Nat)}{cap:Option Nat}{a:AV}(ha:R T H (.bw esz n c rg cap) a){off len:Nat}(hr:o5 H n c rg=some (off,len)){o:aK T.den}
  (ho:H[n]?=some (some o)):∃ ax,a=.bw esz n ax off len cap∧gH H n c ax∧(Nat.beq c o.cur=true→ax=o.len):=by
 simp only[R]at ha
 obtain⟨ax,hv,ha⟩:=ha
 have cI:Nat.beq c o.cur=true→ax=o.len:=hv.arr hh ho
 cases rg with
 |some q=>
  obtain⟨ab6,Q4⟩:=q
  simp only[o5,Option.some.injEq,Prod.mk.injEq]at hr
  obtain⟨rfl,rfl⟩:=hr
  exact⟨ax,ha,hv,cI⟩
 |none=>
  simp only[o5,ho]at hr
  split at hr
  case isFalse=>simp at hr
  rename_i hc
  simp only[Option.some.injEq,Prod.mk.injEq]at hr
  obtain⟨rfl,rfl⟩:=hr
  have:=cI hc
  subst this
  exact⟨_,ha,hv,fun _=>rfl⟩
theorem uA(hT:T.Ok){t:Nat}{agg:Bool}{size:Nat}(h1:agg=T.agg t)(h2:size=T.size t):∀ {l:List (T.den t)} {l':List AV},aE (T.rp t) l l'→l'.all (aF agg size)=true
 |[],[],_=>rfl
 |_::_,_::_,h=>by
  subst h1; subst h2
  simp only[List.all_cons,Bool.and_eq_true]
  exact⟨hT.ok _ _ _ h.1,uA hT rfl rfl h.2⟩
theorem Rf[ag](hT:T.Ok)(hQ:Q.Ok)(hh:RH T H hp){t:TypeId}{x:SV T.den}{a:AV}(hx:RV T H x a){lo hi mx:Option (SV T.den)}{Wc tn Su:Option AV}(h1:N5 T H lo Wc)(h2:N5 T H hi tn)(h3:N5 T H mx Su)
  (h:(Uf Q H t x lo hi mx K).run=some r):∃ v b,pf Q.P t a Wc tn Su=some b∧RV T H v b∧(K v [] []).run=some r:=by
 unfold Uf at h
 split at h
 ·rename_i v
  have ha:=hx.lit rfl
  subst ha
  split at h
  ·rename_i l hh' m e1 e2 e3
   rw[uz h1 e1,uz h2 e2,uz h3 e3]
   split at h
   ·rename_i w hw
    exact⟨_,_,hw,bC w,h⟩
   ·rename_i hw
    exact⟨_,_,hw,.inr (by simp only[R]),h⟩
   ·simp[Tr.run]at h
  ·simp[Tr.run]at h
 ·rename_i xs
  have ha:=hx.live rfl
  simp only[R]at ha
  obtain⟨l',rfl,hl,Ha⟩:=ha
  split at h
  ·rename_i m hm
   obtain⟨q,ji,e9,iG,_⟩:=hQ.elem hm
   obtain⟨n1,e1,h⟩:=jf h1 h
   obtain⟨n2,e2,h⟩:=jf h2 h
   obtain⟨_,_,h⟩:=dz h
   obtain⟨_,_,h⟩:=dz h
   split at h
   case h_2=>simp[Tr.run]at h
   rename_i hc
   simp only[Bool.and_eq_true,decide_eq_true_eq]at hc
   cases Su with
   |some _=>exact h3.elim
   |none=>
    refine⟨_,.sl ((l'.drop n1).take (n2-n1)),?_,?_,h⟩
    ·have bK:l'.all (aF q.isAgg q.size)=true:=by
      rw[e9,iG,←RL.all (fun _ _=>R.aF) hl]; exact hc.2
     simp only[pf,ji,e1]
     rw[show bJ l'.length tn=some n2 by rw[←hl.length]; exact e2]
     simp only
     rw[if_pos ⟨hc.1.1,by rw[←hl.length]; exact hc.1.2,bK⟩]
    ·right
     simp only[R]
     exact⟨_,rfl,bc.2 (((bc.1 hl).drop n1).take (n2-n1)),oF Ha _ _⟩
  ·simp[Tr.run]at h
 ·rename_i t' l
  split at h
  ·rename_i m hm
   obtain⟨q,ji,e9,iG,_⟩:=hQ.elem hm
   split at h
   case h_2=>simp[Tr.run]at h
   rename_i hc
   simp only[Bool.and_eq_true,decide_eq_true_eq]at hc
   have ha:=hx.live rfl
   cases Su with
   |some _=>exact h3.elim
   |none=>
    have key:∀ n1 n2,bJ 0 Wc=some n1→bJ l.length tn=some n2→n1≤n2→n2≤l.length →
      ∃ b,pf Q.P t a Wc tn none=some b∧RV T H (.jN t' ((l.drop n1).take (n2-n1))) b:=by
     intro n1 n2 e1 e2 hle BG
     simp only[R]at ha
     rcases ha with ⟨l',rfl,hl⟩|⟨rfl,rfl⟩
     ·refine⟨.sl ((l'.drop n1).take (n2-n1)),?_,?_⟩
      ·simp only[pf,ji,e1]
       rw[show bJ l'.length tn=some n2 by rw[←hl.length]; exact e2]
       simp only
       rw[if_pos ⟨hle,by rw[←hl.length]; exact BG,uA hT (by rw[e9]; exact hc.1) (by rw[iG]; exact hc.2) hl⟩]
      ·right
       simp only[R]
       exact .inl ⟨_,rfl,(hl.drop n1).take (n2-n1)⟩
     ·simp only[List.length_nil,Nat.le_zero]at BG
      subst BG
      have:n1=0:=by omega
      subst this
      refine⟨.lit cx,?_,?_⟩
      ·simp only[List.length_nil]at e2
       simp only[pf,ji,e1,e2]
       rfl
      ·right
       show R T H (.jN t' _) (.lit cx)
       unfold R
       exact .inr ⟨by simp,rfl⟩
    cases lo with
    |none=>
     cases Wc with
     |some _=>exact h1.elim
     |none=>
      cases hi with
      |none=>
       cases tn with
       |some _=>exact h2.elim
       |none=>
        obtain⟨b,hb,hr⟩:=key 0 l.length rfl rfl (Nat.zero_le _) (Nat.le_refl _)
        simp only[List.drop_zero,Nat.sub_zero,List.take_length]at hr
        exact⟨_,b,hb,hr,h⟩
      |some hi=>
       obtain⟨n2,e2,h⟩:=lW (d:=l.length) h2 h
       obtain⟨hg,h⟩:=bp h
       simp only[decide_eq_true_eq]at hg
       obtain⟨b,hb,hr⟩:=key 0 n2 rfl e2 (Nat.zero_le _) hg
       simp only[List.drop_zero,Nat.sub_zero]at hr
       exact⟨_,b,hb,hr,h⟩
    |some lo=>
     cases hi with
     |none=>
      cases tn with
      |some _=>exact h2.elim
      |none=>
       obtain⟨n1,e1,h⟩:=lW (d:=0) h1 h
       obtain⟨hg,h⟩:=bp h
       simp only[decide_eq_true_eq]at hg
       obtain⟨b,hb,hr⟩:=key n1 l.length e1 rfl hg (Nat.le_refl _)
       rw[List.take_of_length_le (by simp)]at hr
       exact⟨_,b,hb,hr,h⟩
     |some hi=>
      obtain⟨n1,e1,h⟩:=lW (d:=0) h1 h
      obtain⟨n2,e2,h⟩:=lW (d:=l.length) h2 h
      obtain⟨hg,h⟩:=bp h
      simp only[Bool.and_eq_true,decide_eq_true_eq]at hg
      obtain⟨b,hb,hr⟩:=key n1 n2 e1 e2 hg.1 hg.2
      exact⟨_,b,hb,hr,h⟩
  ·rename_i m mx hm
   obtain⟨q,ji,e9,iG,_⟩:=hQ.elem hm
   split at h
   case h_2=>simp[Tr.run]at h
   rename_i hi hc
   simp only[Bool.and_eq_true,decide_eq_true_eq]at hc
   cases tn with
   |none=>exact h2.elim
   |some XQ=>
   cases Su with
   |none=>exact h3.elim
   |some ZO=>
   have ha:=hx.live rfl
   simp only[R]at ha
   split at h
   ·rename_i hz
    simp only[Bool.and_eq_true]at hz
    obtain⟨XN,Uy,XO⟩:=hz
    cases lo with
    |some _=>simp at XN
    |none=>
    cases Wc with
    |some _=>exact h1.elim
    |none=>
    have z0:∀ {v:SV T.den} {a:AV},ZJ v=true→RV T H v a→asNat a=some 0:=by
     intro v a hv hr
     unfold ZJ at hv
     split at hv
     ·simp only[decide_eq_true_eq]at hv
      subst hv
      have:=hr.live rfl
      simp only[R]at this
      subst this
      rfl
     ·simp at hv
    have e2:=z0 Uy h2
    have e3:=z0 XO h3
    rcases ha with ⟨l',rfl,hl⟩|⟨rfl,rfl⟩
    ·have bK:=uA hT (agg:=q.isAgg) (size:=q.size) (by rw[e9]; exact hc.1) (by rw[iG]; exact hc.2) hl
     refine⟨_,.nz,?_,.inr (by simp only[R]),h⟩
     simp only[pf,ji,bJ,e2,e3]
     rw[if_pos ⟨Nat.zero_le _,Nat.zero_le _,Nat.zero_le _,bK⟩]
     rfl
    ·refine⟨_,.nz,?_,.inr (by simp only[R]),h⟩
     simp only[pf,ji,bJ,e2,e3,Option.isSome_some,Option.isNone_some,Bool.and_false,Bool.false_eq_true,if_false]
   obtain⟨n1,e1,h⟩:=jf h1 h
   obtain⟨n2,e2,h⟩:=lW (d:=l.length) h2 h
   obtain⟨n3,e3,h⟩:=lW (d:=l.length) h3 h
   obtain⟨hg,h⟩:=bp h
   simp only[Bool.and_eq_true,decide_eq_true_eq]at hg
   have e2':asNat XQ=some n2:=e2
   have ZQ:asNat ZO=some n3:=e3
   have f2:∀ d,bJ d (some XQ)=some n2:=fun _=>e2'
   rcases ha with ⟨l',rfl,hl⟩|⟨rfl,rfl⟩
   ·have hlen:=hl.length
    have bK:=uA hT (agg:=q.isAgg) (size:=q.size) (by rw[e9]; exact hc.1) (by rw[iG]; exact hc.2) hl
    have dY:l'.isEmpty=false:=by
     grind
    have QC:n3≠0:=by omega
    refine⟨_,.mq ((l'.drop n1).take (n2-n1)) (n3-n1),?_,.inr (by simp only[R]; exact .inl ⟨by cases l with
      |nil=>exfalso; cases l' with
       |nil=>simp at dY
       |cons=>simp at hlen
      |cons=>rfl,_,rfl,(hl.drop n1).take (n2-n1)⟩),h⟩
    simp only[pf,ji,e1,f2,ZQ]
    rw[if_pos ⟨hg.1.1.1,hg.1.1.2,by rw[←hlen]; exact hg.1.2,bK⟩,if_neg QC,dY]
    rfl
   ·exfalso
    simp only[List.length_nil]at hg
    omega
  ·simp[Tr.run]at h
 ·rename_i esz n c rg cap
  have ha:=hx.live rfl
  split at h
  ·rename_i m off len o hm hr ho
   obtain⟨q,ji,e9,iG,_⟩:=hQ.elem hm
   split at h
   case h_2=>simp[Tr.run]at h
   rename_i hc
   simp only[Bool.and_eq_true,decide_eq_true_eq]at hc
   obtain⟨ax,rfl,hv,cI⟩:=sV hh ha hr ho
   have cI:=cI hc.1
   obtain⟨n1,e1,h⟩:=jf h1 h
   obtain⟨n2,e2,h⟩:=jf h2 h
   obtain⟨hg,h⟩:=bp h
   simp only[Bool.and_eq_true,decide_eq_true_eq]at hg
   cases Su with
   |some _=>exact h3.elim
   |none=>
    refine⟨_,.bw esz n ax (off+n1) (n2-n1) (cap.map (·-n1)),?_,?_,h⟩
    ·simp only[pf,ji,e1,e2]
     rw[if_pos ⟨hg.1.1,by rw[cI]; exact hg.1.2,by rw[cI]; exact hg.2,by rw[iG]; exact hc.2⟩]
    ·right
     simp only[R]
     exact⟨ax,hv,rfl⟩
  ·rename_i m mx off len o hm hr ho
   obtain⟨q,ji,e9,iG,_⟩:=hQ.elem hm
   split at h
   case h_2=>simp[Tr.run]at h
   rename_i hi hc
   simp only[Bool.and_eq_true,decide_eq_true_eq]at hc
   cases tn with
   |none=>exact h2.elim
   |some XQ=>
   cases Su with
   |none=>exact h3.elim
   |some ZO=>
   obtain⟨ax,rfl,hv,cI⟩:=sV hh ha hr ho
   have cI:=cI hc.1
   obtain⟨n1,e1,h⟩:=jf h1 h
   obtain⟨n2,e2,h⟩:=lW (d:=len) h2 h
   obtain⟨n3,e3,h⟩:=lW (d:=len) h3 h
   obtain⟨hg,h⟩:=bp h
   simp only[Bool.and_eq_true,decide_eq_true_eq]at hg
   have e2':asNat XQ=some n2:=e2
   have ZQ:asNat ZO=some n3:=e3
   have f2:∀ d,bJ d (some XQ)=some n2:=fun _=>e2'
   have f3:∀ d,bJ d (some ZO)=some n3:=fun _=>ZQ
   refine⟨_,.bw esz n ax (off+n1) (n2-n1) (some (n3-n1)),?_,?_,h⟩
   ·simp only[pf,ji,e1,f2,ZQ]
    rw[if_pos ⟨hg.1.1.1,hg.1.1.2,by rw[cI]; exact hg.1.2,by rw[cI]; exact hg.2,by rw[iG]; exact hc.2⟩]
   ·right
    simp only[R]
    exact⟨ax,hv,rfl⟩
  ·simp[Tr.run]at h
 ·rename_i n' c k' j
  have ha:=hx.live rfl
  simp only[R]at ha
  obtain⟨ax,rfl,hv⟩:=ha
  split at h
  case h_2=>simp[Tr.run]at h
  rename_i len m hm
  obtain⟨q,ji,e9,iG⟩:=hQ.Gm hm
  cases Su with
  |some _=>exact h3.elim
  |none=>
   obtain⟨n1,e1,h⟩:=jf h1 h
   obtain⟨n2,e2,h⟩:=jf h2 h
   obtain⟨_,hl,h⟩:=dz h
   obtain⟨_,rq,h⟩:=dz h
   split at h
   case h_2=>simp[Tr.run]at h
   rename_i hle
   simp only[decide_eq_true_eq]at hle
   refine⟨_,.jw n' ax k' (j+n1*q.size) (n2-n1) (len-n1),?_,.inr (by simp only[R]; exact⟨ax,by rw[iG],hv⟩),h⟩
   simp only[pf,ji,e1,e2]
   rw[if_pos ⟨hle,by omega,by omega⟩]
 ·simp[Tr.run]at h
theorem xu[ag](hT:T.Ok){t:Nat}{x:T.den t}{a:AV}(h:T.rp t x a):aM (T.up t x)=true:=by
 rw[R.closed (hT.up t x a [] h)]
 exact hT.closed _ _ _ h
theorem BU[ag](hT:T.Ok)(hQ:Q.Ok)(hh:RH T H hp){t:TypeId}{x ix:SV T.den}{a b:AV}(hx:RV T H x a)(hi:RV T H ix b){yS:Bool}(h:(uh Q yS H t x ix K).run=some r):
  ∃ v c,gg Q.P t a b=some c∧RV T H v c∧(K v [] []).run=some r:=by
 unfold uh at h
 obtain⟨k,n,e1,Hw,h⟩:=jK h
 have hb:=sT hi e1 Hw
 unfold gg
 rw[hb]
 simp only
 split at h
 ·rename_i xs
  have ha:=hx.live rfl
  simp only[R]at ha
  obtain⟨l',rfl,hl,Ha⟩:=ha
  split at h
  case h_2=>simp[Tr.run]at h
  rename_i m hm
  obtain⟨q,ji,e9,iG,_⟩:=hQ.elem hm
  obtain⟨_,_,h⟩:=dz h
  split at h
  case h_2=>simp[Tr.run]at h
  rename_i e he
  split at h
  case h_2=>simp[Tr.run]at h
  rename_i ck
  obtain⟨e',Jr,hr⟩:=aE.get (bc.1 hl) he
  refine⟨_,.bq e' 0,?_,.inr (by simp only[R]; exact⟨e',rfl,hr,lz Ha (List.mem_of_getElem? he)⟩),h⟩
  simp only[ji,Jr]
  rw[if_pos (by rw[e9,iG,←R.aF hr]; exact ck)]
 ·rename_i t' l
  have ha:=hx.live rfl
  split at h
  case h_2=>simp[Tr.run]at h
  rename_i m hm
  obtain⟨q,ji,e9,iG,_⟩:=hQ.elem hm
  split at h
  case h_2=>simp[Tr.run]at h
  rename_i hc
  simp only[Bool.and_eq_true,decide_eq_true_eq]at hc
  obtain⟨y,hy,h⟩:=bind_some h
  simp only[R]at ha
  rcases ha with ⟨l',rfl,hl⟩|⟨rfl,_⟩
  ·obtain⟨e',Jr,hr⟩:=aE.get hl hy
   refine⟨_,.bq e' 0,?_,.inr (by simp only[R]; exact⟨e',rfl,hT.up _ _ _ H hr,xu hT hr⟩),h⟩
   simp only[ji,Jr]
   rw[if_pos (by rw[e9,iG,hc.1,hc.2]; exact hT.ok _ _ _ hr)]
  ·simp at hy
 ·rename_i esz n' c rg cap _
  have ha:=hx.live rfl
  split at h
  case h_2=>simp[Tr.run]at h
  rename_i m hm
  obtain⟨q,ji,e9,iG,_⟩:=hQ.elem hm
  split at h
  ·rename_i off len g cl f cu es hc hr ho
   simp only[Bool.and_eq_true,decide_eq_true_eq]at hc
   obtain⟨ax,rfl,hv,_⟩:=sV hh ha hr ho
   obtain⟨_,cG,h⟩:=dz h
   refine⟨_,.ref n' ax (off+n.toNat) 0,?_,.inr (by simp only[R]; exact⟨ax,rfl,hv⟩),h⟩
   simp only[ji]
   rw[if_pos ⟨by omega,by rw[iG]; exact hc.1,by rw[iG]; exact hc.2⟩]
  ·rename_i off len g f cu t' l hc hr ho
   simp only[Bool.and_eq_true,decide_eq_true_eq]at hc
   obtain⟨ax,rfl,hv,_⟩:=sV hh ha hr ho
   obtain⟨cG,h⟩:=bp h
   simp only[decide_eq_true_eq]at cG
   refine⟨_,.ref n' ax (off+n.toNat) 0,?_,.inr (by simp only[R]; exact⟨ax,rfl,hv⟩),h⟩
   simp only[ji]
   rw[if_pos ⟨cG,by rw[iG]; exact hc.1,by rw[iG]; exact hc.2⟩]
  ·simp[Tr.run]at h
 ·rename_i n' c k' j len cap _
  have ha:=hx.live rfl
  simp only[R]at ha
  obtain⟨ax,rfl,hv⟩:=ha
  split at h
  case h_2=>simp[Tr.run]at h
  rename_i m hm
  obtain⟨q,ji,e9,iG,_⟩:=hQ.elem hm
  obtain⟨_,cG,h⟩:=dz h
  refine⟨_,.ref n' ax k' (j+n.toNat*q.size),?_,.inr (by simp only[R]; exact⟨ax,by rw[iG],hv⟩),h⟩
  simp only[ji]
  rw[if_pos (by omega)]
 ·rename_i n' c k' j _
  have ha:=hx.live rfl
  simp only[R]at ha
  obtain⟨ax,rfl,hv⟩:=ha
  split at h
  case h_2=>simp[Tr.run]at h
  rename_i len m hm
  obtain⟨q,ji,e9,iG⟩:=hQ.Gm hm
  split at h
  ·obtain⟨cG,h⟩:=bp h
   simp only[decide_eq_true_eq]at cG
   refine⟨_,.ref n' ax k' (j+n.toNat*q.size),?_,.inr (by simp only[R]; exact⟨.ref n' ax k' j,⟨ax,rfl,hv⟩,cG,.inl ⟨_,_,_,_,rfl,by rw[iG]⟩⟩),h⟩
   simp only[ji]
   rw[if_pos (by omega)]
  obtain⟨_,cG,h⟩:=dz h
  refine⟨_,.ref n' ax k' (j+n.toNat*q.size),?_,.inr (by simp only[R]; exact⟨ax,by rw[iG],hv⟩),h⟩
  simp only[ji]
  rw[if_pos (by omega)]
 ·rename_i e j _
  have ha:=hx.live rfl
  simp only[R]at ha
  obtain⟨e',rfl,hr,hec⟩:=ha
  split at h
  case h_2=>simp[Tr.run]at h
  rename_i len m hm
  obtain⟨q,ji,e9,iG⟩:=hQ.Gm hm
  split at h
  ·obtain⟨cG,h⟩:=bp h
   simp only[decide_eq_true_eq]at cG
   refine⟨_,.bq e' (j+n.toNat*q.size),?_,.inr (by simp only[R]; exact⟨.bq e' j,⟨e',rfl,hr,hec⟩,cG,.inr ⟨_,_,rfl,by rw[iG]⟩⟩),h⟩
   simp only[ji]
   rw[if_pos (by omega)]
  obtain⟨_,cG,h⟩:=dz h
  refine⟨_,.bq e' (j+n.toNat*q.size),?_,.inr (by simp only[R]; exact⟨e',by rw[iG],hr,hec⟩),h⟩
  simp only[ji]
  rw[if_pos (by omega)]
 ·simp[Tr.run]at h
theorem K8[ag](hQ:Q.Ok){t:TypeId}{x ix:SV T.den}{a b:AV}(hx:RV T H x a)(hi:RV T H ix b){yS:Bool}(h:(Il Q yS t x ix K).run=some r):
  ∃ v c,wo Q.P t a b=some c∧RV T H v c∧(K v [] []).run=some r:=by
 unfold Il at h
 split at h
 ·have ha:=hx.lit rfl
  subst ha
  split at h
  ·rename_i i tn
   rw[vW hi tn]
   obtain⟨w,hw,hk⟩:=je h
   exact⟨_,_,hw,bC w,hk⟩
  ·simp[Tr.run]at h
 ·rename_i l
  have ha:=hx.live rfl
  have RQ:=ha
  simp only[R]at ha
  obtain⟨l',rfl,hl⟩:=ha
  split at h
  case h_2=>simp[Tr.run]at h
  rename_i n m hm
  obtain⟨q,ji,e9,iG⟩:=hQ.Gm hm
  obtain⟨k,n',e1,Hw,h⟩:=jK h
  have hb:=sT hi e1 Hw
  split at h
  ·rename_i y hs N4
   simp only[Bool.and_eq_true,Bool.not_eq_true']at hs
   obtain⟨cG,h⟩:=bp h
   simp only[decide_eq_true_eq]at cG
   obtain⟨xs,Cc,N4⟩:=Option.bind_eq_some_iff.1 N4
   obtain⟨g1,g2⟩:=lK Cc
   have hg:=List.getElem?_eq_getElem (by omega:n'.toNat<xs.length)
   have hy:=g2 _ _ hg
   rw[←Gg N4 hg,Nat.zero_add,Nat.mul_one]at hy
   obtain⟨c,hc,hr⟩:=R.part RQ hy
   refine⟨y,c,?_,.inr hr,h⟩
   simp only[wo,ji,hb]
   rw[if_pos (by omega),e9,iG,hs.1.2,Nat.eq_of_beq_eq_true hs.2,Nat.mul_one]
   exact hc
  obtain⟨_,cG,h⟩:=dz h
  obtain⟨v,hv,hk⟩:=nN h
  rw[←e9,←iG]at hv
  obtain⟨c,hc,hr⟩:=R.part RQ hv
  refine⟨v,c,?_,.inr hr,hk⟩
  simp only[wo,ji,hb]
  rw[if_pos (by omega)]
  exact hc
 ·simp[Tr.run]at h
end
end Go.PI
end
section
/- PS, part I: append, and the builtins. -/
namespace Go.PI
variable {T:eh}{ρ:Type}
section
variable {H:aq T.den}{hp:ak}{K:EK T ρ}{r:ρ}{Q:iH}
def BV(T:eh)(H:aq T.den)(y:Src T.den)(ys:List AV)(yc:Bool):Prop:=
 match y with
 |.nF l cl=>RL T H l ys∧yc=cl∧(cl=true→aD l=true)
 |.BP t l=>aE (T.rp t) l ys∧yc=true
theorem BV.len[ag]{y:Src T.den}{ys:List AV}{yc:Bool}(h:BV T H y ys yc):y.len=ys.length:=by
 cases y with
 |nF l cl=>exact h.1.length
 |BP t l=>exact h.1.length
theorem JX[ag](hQ:Q.Ok)(hh:RH T H hp){q:bO}{xt:TypeId}{x:SV T.den}{a:AV}(hx:RV T H x a){K:Src T.den→List Nat→Tr ρ}(h:(QZ Q H xt x K).run=some r):
  ∃ y rd ys yc,aN hp (wq Q.P q xt a) (ys,yc) rd∧BV T H y ys yc∧(K y rd).run=some r:=by
 unfold QZ at h
 split at h
 case h_2=>simp[Tr.run]at h
 rename_i hs
 have hs:=hQ.Ra hs
 unfold wq
 rw[hs]
 simp only
 split at h
 ·have ha:=hx.lit rfl
  subst ha
  exact⟨.nF [] true,_,[],true,aN.pure _,⟨by simp[RL],rfl,fun _=>rfl⟩,h⟩
 ·have ha:=hx.live rfl
  simp only[R]at ha
  obtain⟨l',rfl,hl,Ha⟩:=ha
  exact⟨.nF _ true,_,l',true,aN.pure _,⟨hl,rfl,fun _=>Ha⟩,h⟩
 ·have ha:=hx.live rfl
  simp only[R]at ha
  rcases ha with ⟨l',rfl,hl⟩|⟨rfl,rfl⟩
  ·exact⟨.BP _ _,_,l',true,aN.pure _,⟨hl,rfl⟩,h⟩
  ·exact⟨.BP _ _,_,[],true,aN.pure _,⟨(show aE (T.rp _) [] [] from trivial),rfl⟩,h⟩
 ·rename_i esz n c rg cap
  have ha:=hx.live rfl
  simp only[R]at ha
  obtain⟨ax,hv,ha⟩:=ha
  split at h
  ·rename_i g cl f cur es ho
   obtain⟨o,dJ,eD⟩:=hh.obj ho
   obtain⟨es',rfl,cZ,tg⟩:=eD
   split at h
   case h_2=>simp[Tr.run]at h
   rename_i hc
   have cI:=hv.arr hh ho hc
   simp only[aK.len]at cI
   have hl:=cZ.length
   split at h
   ·simp only at ha
    subst ha
    refine⟨.nF es cl,_,es',cl,?_,⟨cZ,rfl,tg⟩,h⟩
    simp only[gw]
    refine aN.mono (aN.bind (aN.arr dJ (by omega)) ?_) (rd:=[n]++[]) (fun _ h=>by simpa using h)
    simp only
    rw[if_pos (by omega)]
    simp only[List.drop_zero]
    rw[List.take_of_length_le (by omega)]
    exact aN.pure _
   ·rename_i off len
    simp only at ha
    subst ha
    split at h
    case isFalse=>simp[Tr.run]at h
    rename_i hle
    refine⟨.nF _ cl,_,(es'.drop off).take len,cl,?_,⟨bc.2 (((bc.1 cZ).drop off).take len),rfl,fun pe=>oF (tg pe) _ _⟩,h⟩
    simp only[gw]
    refine aN.mono (aN.bind (aN.arr dJ (by omega)) ?_) (rd:=[n]++[]) (fun _ h=>by simpa using h)
    simp only
    rw[if_pos (by omega)]
    exact aN.pure _
  ·rename_i g f cur t l ho
   obtain⟨o,dJ,eD⟩:=hh.obj ho
   obtain⟨es',rfl,cZ⟩:=eD
   split at h
   case h_2=>simp[Tr.run]at h
   rename_i hc
   have cI:=hv.arr hh ho hc
   simp only[aK.len]at cI
   have hl:=cZ.length
   split at h
   ·simp only at ha
    subst ha
    refine⟨.BP t l,_,es',true,?_,⟨cZ,rfl⟩,h⟩
    simp only[gw]
    refine aN.mono (aN.bind (aN.arr dJ (by omega)) ?_) (rd:=[n]++[]) (fun _ h=>by simpa using h)
    simp only
    rw[if_pos (by omega)]
    simp only[List.drop_zero]
    rw[List.take_of_length_le (by omega)]
    exact aN.pure _
   ·rename_i off len
    simp only at ha
    subst ha
    obtain⟨hle,h⟩:=bp h
    simp only[decide_eq_true_eq]at hle
    refine⟨.BP t _,_,(es'.drop off).take len,true,?_,⟨(cZ.drop off).take len,rfl⟩,h⟩
    simp only[gw]
    refine aN.mono (aN.bind (aN.arr dJ (by omega)) ?_) (rd:=[n]++[]) (fun _ h=>by simpa using h)
    simp only
    rw[if_pos (by omega)]
    exact aN.pure _
  ·simp[Tr.run]at h
 ·simp[Tr.run]at h
theorem BV.AH[ag](hT:T.Ok){y:Src T.den}{ys:List AV}{yc:Bool}(h:BV T H y ys yc){m:jO}{q:bO}(h1:q.isAgg=m.agg)(h2:q.size=m.size)(ck:y.ok T m=true):ys.all (aF q.isAgg q.size)=true:=by
 cases y with
 |nF l cl=>
  rw[h1,h2,←RL.all (fun _ _=>R.aF) h.1]
  exact ck
 |BP t l=>
  simp only[Src.ok,Bool.and_eq_true,decide_eq_true_eq]at ck
  exact uA hT (by rw[h1,ck.1]) (by rw[h2,ck.2]) h.1
theorem iB[ag]{y:Src T.den}{ys:List AV}{yc:Bool}(hy:BV T H y ys yc){a b:Tr ρ}(h:(qp T y a b).run=some r):(ys.isEmpty=true∧a.run=some r)∨(ys.isEmpty=false∧b.run=some r):=by
 have hl:=hy.len
 unfold qp at h
 split at h
 ·grind[Src.len]
 ·rename_i t l
  rcases gv h with ⟨he,h⟩|⟨he,h⟩
  ·grind[Src.len]
  ·grind[Src.len]
theorem sg(hT:T.Ok){t:Nat}:∀ {l:List (SV T.den)} {m:List AV} {xs:List (T.den t)},RL T H l m→qM T t l=some xs→aE (T.rp t) xs m
 |[],[],xs,_,h=>by simp[qM]at h; subst h; trivial
 |v::vs,a::as,xs,hr,h=>by
  simp only[RL]at hr
  simp only[qM,Option.bind_eq_some_iff,Option.map_eq_some_iff]at h
  obtain⟨x,h1,ys,h2,rfl⟩:=h
  exact⟨hT.dn _ _ _ _ H h1 hr.1,sg hT hr.2 h2⟩
 |[],_::_,_,h,_=>by simp[RL]at h
 |_::_,[],_,h,_=>by simp[RL]at h
theorem A5{t t':Nat}(h:t=t'){l:List (T.den t)}{m:List AV}(hl:aE (T.rp t) l m):aE (T.rp t') (CH h l) m:=by subst h; exact hl
theorem CS{den:Nat→Type}{t t':Nat}(h:t=t')(l:List (den t)):(CH h l).length=l.length:=by subst h; rfl
theorem xv[ag](hT:T.Ok){cur:Nat}{o o':aK T.den}{y:Src T.den}{g c f:Bool}{es ys:List AV}{yc:Bool}(ho:RO T H o (.arr g c f es))(hy:BV T H y ys yc)(h:rY T cur o y=some o'):
  o'.cur=cur∧o'.len=o.len+y.len∧RO T H o' (.arr true (c&&yc) f (es++ys)):=by
 unfold rY at h
 split at h
 ·rename_i cl f' cu es0 ZR ycl
  simp only[Option.some.injEq]at h
  subst h
  obtain⟨es',e,cZ,tg⟩:=ho
  simp only[aY.arr.injEq]at e
  obtain⟨rfl,rfl,rfl,rfl⟩:=e
  obtain⟨A6,rfl,XR⟩:=hy
  exact⟨rfl,by simp[aK.len,Src.len],_,rfl,bc.2 ((bc.1 cZ).append (bc.1 A6)),fun pe=>by simp only[Bool.and_eq_true]at pe; exact Ir (tg pe.1) (XR pe.2)⟩
 ·rename_i f' cu es0 t l
  rw[Option.map_eq_some_iff]at h
  obtain⟨l0,h1,rfl⟩:=h
  obtain⟨es',e,cZ,_⟩:=ho
  simp only[aY.arr.injEq]at e
  obtain⟨rfl,rfl,rfl,rfl⟩:=e
  obtain⟨A6,rfl⟩:=hy
  have h2:=sg hT cZ h1
  refine⟨rfl,?_,_,rfl,h2.append A6⟩
  simp[aK.len,Src.len,h2.length,cZ.length]
 ·rename_i f' cu t l ZR
  rw[Option.map_eq_some_iff]at h
  obtain⟨l0,h1,rfl⟩:=h
  obtain⟨es',e,cZ⟩:=ho
  simp only[aY.arr.injEq]at e
  obtain⟨rfl,rfl,rfl,rfl⟩:=e
  obtain⟨A6,rfl,_⟩:=hy
  have h2:=sg hT A6 h1
  refine⟨rfl,?_,_,rfl,cZ.append h2⟩
  simp[aK.len,Src.len,h2.length,A6.length]
 ·rename_i f' cu t l t' l2
  split at h
  case isFalse=>simp at h
  rename_i ht
  simp only[Option.some.injEq]at h
  subst h
  obtain⟨es',e,cZ⟩:=ho
  simp only[aY.arr.injEq]at e
  obtain⟨rfl,rfl,rfl,rfl⟩:=e
  obtain⟨A6,rfl⟩:=hy
  refine⟨rfl,?_,_,rfl,cZ.append (A5 ht A6)⟩
  simp[aK.len,Src.len,CS]
 ·simp at h
theorem Gn{y:Src T.den}{ys:List AV}{yc:Bool}(hy:BV T H y ys yc):(AI y).cur=0∧(AI y).len=y.len∧RO T H (AI y) (.arr true yc false ys):=by
 cases y with
 |nF l cl=>obtain⟨h1,rfl,h2⟩:=hy; exact⟨rfl,rfl,_,rfl,h1,h2⟩
 |BP t l=>obtain⟨h1,rfl⟩:=hy; exact⟨rfl,rfl,_,rfl,h1⟩
theorem N7[ag](hT:T.Ok){o:aK T.den}{g c f:Bool}{es:List AV}(ho:RO T H o (.arr g c f es)){m:jO}{q:bO}(h1:q.isAgg=m.agg)(h2:q.size=m.size)(ck:o.AH T m=true):es.all (aF q.isAgg q.size)=true:=by
 cases o with
 |arr g' cl f' cu es0=>
  obtain⟨es',e,cZ,_⟩:=ho
  simp only[aY.arr.injEq]at e
  obtain⟨rfl,rfl,rfl,rfl⟩:=e
  rw[h1,h2,←RL.all (fun _ _=>R.aF) cZ]
  exact ck
 |cD g' f' cu t l=>
  obtain⟨es',e,cZ⟩:=ho
  simp only[aY.arr.injEq]at e
  obtain⟨rfl,rfl,rfl,rfl⟩:=e
  simp only[aK.AH,Bool.and_eq_true,decide_eq_true_eq]at ck
  exact uA hT (by rw[h1,ck.1]) (by rw[h2,ck.2]) cZ
 |_=>simp[aK.AH]at ck
theorem A7{cur:Nat}{o o':aK T.den}{y:Src T.den}(h:rY T cur o y=some o'):o.AZ=true:=by
 cases o<;>first|rfl|(cases y<;>simp[rY]at h)
theorem pX{o:aK T.den}(h:o.AZ=true):o.isRec=false:=by cases o<;>first|rfl|simp[aK.AZ]at h
theorem sh:∀ (ys es:List AV) (i:Nat),i+ys.length≤es.length→bP es i ys=es.take i++(ys++es.drop (i+ys.length))
 |[],es,i,_=>by simp[bP]
 |y::ys,es,i,h=>by
  simp only[List.length_cons]at h
  simp only[bP]
  rw[sh ys (es.set i y) (i+1) (by simp; omega)]
  have e1:(es.set i y).take (i+1)=es.take i++[y]:=by
   rw[List.take_succ_eq_append_getElem (by simp; omega),List.take_set_of_le (Nat.le_refl i)]
   simp
  have e2:(es.set i y).drop (i+1+ys.length)=es.drop (i+(ys.length+1)):=by
   rw[List.drop_set_of_lt (by omega)]
   congr 1; omega
  rw[e1,e2]
  simp
theorem CT{α β:Type}{P:α→β→Prop}{l l2:List α}{m m2:List β}(h:aE P l m)(h2:aE P l2 m2)(i:Nat):aE P (KY l i l2) (m.take i++(m2++m.drop (i+m2.length))):=by
 unfold KY
 rw[h2.length]
 exact(h.take i).append (h2.append (h.drop _))
theorem xw[ag](hT:T.Ok){i:Nat}{o o':aK T.den}{y:Src T.den}{ao:aY}{ys:List AV}{yc:Bool}(ho:RO T H o ao)(hy:BV T H y ys yc)(hi:i+y.len≤o.len)(h:xh T o i y=some o'):
  o.AZ=true∧o'.cur=o.cur∧o'.len=o.len∧∃ es,ao=.arr o.flags.1 o.flags.2.1 o.flags.2.2 es∧RO T H o' (.arr o.flags.1 (o.flags.2.1&&yc) o.flags.2.2 (bP es i ys)):=by
 have hlen:=hy.len
 unfold xh at h
 split at h
 ·rename_i g f cu t l t' l2
  split at h
  case isFalse=>simp at h
  rename_i ht
  simp only[Option.some.injEq]at h
  subst h
  obtain⟨es',rfl,cZ⟩:=ho
  obtain⟨A6,rfl⟩:=hy
  have hl:=cZ.length
  simp only[aK.len,Src.len]at hi hlen
  refine⟨rfl,rfl,?_,es',rfl,_,rfl,?_⟩
  ·simp[aK.len,KY,CS]; omega
  ·rw[sh _ _ _ (by omega)]
   exact CT cZ (A5 ht A6) i
 ·rename_i g f cu t l ZR
  rw[Option.map_eq_some_iff]at h
  obtain⟨l0,h1,rfl⟩:=h
  obtain⟨es',rfl,cZ⟩:=ho
  obtain⟨A6,rfl,_⟩:=hy
  have h2:=sg hT A6 h1
  have hl:=cZ.length
  have rq:=h2.length
  simp only[aK.len,Src.len]at hi hlen
  refine⟨rfl,rfl,?_,es',rfl,_,rfl,?_⟩
  ·simp[aK.len,KY]; omega
  ·rw[sh _ _ _ (by omega)]
   exact CT cZ h2 i
 ·simp at h
def uB(q:bO)(nm:Nat)(a:AV)(ys:List AV)(yc:Bool):RM ed:=
   (match (cr q).isSome&&decide (0<q.size)&&ys.all (aF q.isAgg q.size) with
     |false=>RM.fail
     |true=>match ys.isEmpty with
      |true=>(match a with
       |.mq xs _=>pure ⟨.sl xs,[]⟩
       |.lit (.slice none 0 0)|.sl _|.bw _ _ _ _ _ _|.nz=>pure ⟨a,[]⟩
       |_=>.fail)
      |false=>match a with
       |.lit (.slice none 0 0)|.nz=>
        if ys.length*q.bytes≤2^44∧ys.length≤2^44 then
         pure ⟨.bw q.size nm ys.length 0 ys.length none,[(nm,.arr true yc false ys)]⟩ else .fail
       |.mq xs c=>
        if c<xs.length+ys.length∧(xs.length+ys.length)*q.bytes≤2^44∧xs.length+ys.length≤2^44∧xs.all (aF q.isAgg q.size)=true then
         pure ⟨.bw q.size nm (xs.length+ys.length) 0 (xs.length+ys.length) none,[(nm,.arr true yc false (xs++ys))]⟩ else .fail
       |.bw esz n ax off len cap=>do
        let (g,c,f,es) ←RM.arr n ax
        if f=true∨es.length<off+len∨esz≠q.size then RM.fail else
        if len+ys.length≤cap.getD (ax-off) then
         if off+len+ys.length≤es.length then
          pure ⟨.bw esz n ax off (len+ys.length) cap,[(n,.arr g (c&&yc) f (bP es (off+len) ys))]⟩
         else RM.fail
        else if (len+ys.length)*q.bytes≤2^44∧len+ys.length≤2^44 then
         (match cap with
         |none=>if g=true∧off=0∧len=ax then
           pure ⟨.bw esz n (len+ys.length) 0 (len+ys.length) none,[(n,.arr true (c&&yc) f (es++ys))]⟩
          else RM.fail
         |some _=>if es.all (aF q.isAgg q.size)=true then
           pure ⟨.bw esz nm (len+ys.length) 0 (len+ys.length) none,[(nm,.arr true (c&&yc) false ((es.drop off).take len++ys))]⟩
          else RM.fail)
        else RM.fail
       |_=>.fail)
theorem Iv{P:Program}{t xt:TypeId}{q:bO}(h:aU P t=some q)(nm:Nat)(a b:AV):
  fI P nm t xt a b=(wq P q xt b >>= fun p=>uB q nm a p.1 p.2):=by
 unfold fI
 rw[h]
 rfl
theorem CU{i:Nat}{o o':aK T.den}{y:Src T.den}{ys:List AV}{yc:Bool}(hy:BV T H y ys yc)(h:xh T o i y=some o'):yc=true:=by
 cases y with
 |nF l cl=>cases cl with
  |true=>exact hy.2.1
  |false=>unfold xh at h; cases o<;>simp at h
 |BP t l=>exact hy.2
theorem A9[ag](hh:RH T H hp){n:Nat}{o o':aK T.den}{ao:aY}(ho:H[n]?=some (some o))(hc:o.cur≤o'.cur)(hl:o'.cur=o.cur→o'.len=o.len)(dJ:hp[n]?=some (some ao))(eD:RO T H o' ao)
  {v:SV T.den} {a:AV} (hv:RV T (H.set n (some o')) v a) {m:RM ed} {rd:List Nat} (hy:aN hp m ⟨a,[]⟩ rd) (h:(K v [(n,o')] rd).run=some r) (hj:o.AZ=true):kp T H hp m K r:=by
 obtain⟨Sw,Rg⟩:=hh.Wa ho (o':=o') hc hl eD
 rw[iX dJ]at Rg
 have cG:=(List.getElem?_eq_some_iff.1 ho).1
 have e1:bu H [(n,o')]=H.set n (some o'):=by simp[bu,cd]; omega
 refine⟨_,_,_,⟨a,[]⟩,hy,⟨by rw[e1]; exact hv,by rw[e1]; exact Rg,by rw[e1]; exact Sw,fun q h=>by simp at h,fun k hk hl=>?_,by rw[e1]; simp,fun k hk Jh=>by
  simp at Jh
  subst Jh
  simp only[recAt,ho,pX hj,Bool.false_eq_true]at hk⟩,h⟩
 rw[e1]; simp at hk; rw[List.getElem?_set_ne (Ne.symm hk)]
theorem Iw[ag](hT:T.Ok)(hQ:Q.Ok)(hh:RH T H hp){nm:Nat}(hn:nm=H.length∨H[nm]?=some none){t xt:TypeId}{s x:SV T.den}{a b:AV}(hs:RV T H s a)(hx:RV T H x b)
  (h:(DZ Q nm H t xt s x K).run=some r):kp T H hp (fI Q.P nm t xt a b) K r:=by
 unfold DZ at h
 split at h
 ·simp[Tr.run]at h
 rename_i m hm
 obtain⟨q,ji,e9,iG,JD,LO⟩:=hQ.elem hm
 obtain⟨y,rd,ys,yc,A6,yD,h⟩:=JX hQ hh (q:=q) hx h
 split at h
 ·simp[Tr.run]at h
 rename_i ck
 simp only[Bool.and_eq_true,decide_eq_true_eq]at ck
 have hz:(cr q).isSome=true:=by
  cases hzz:m.zero with
  |none=>rw[hzz]at ck; simp at ck
  |some z=>rw[LO z hzz]; rfl
 have bK:=yD.AH hT e9 iG ck.2
 have nh:((cr q).isSome&&decide (0<q.size)&&ys.all (aF q.isAgg q.size))=true:=by
  rw[hz,bK,iG]; simpa using ck.1.2
 have gJ:=yD.len
 have abs:∀ {rest:RM ed} {e:ed} {rd2:List Nat},(∀ n,n∈rd→n∈rd2)→aN hp rest e rd2 →
   uB q nm a ys yc=rest→aN hp (fI Q.P nm t xt a b) e rd2:=by
  intro rest e rd2 h1 h2 h3
  rw[Iv ji]
  refine⟨?_,fun n hn=>?_⟩
  ·rw[RM.run_bind,A6.1]
   simp only[Option.bind_some]
   rw[h3]
   exact h2.1
  ·rw[RM.fN,A6.1]at hn
   simp only[List.mem_append]at hn
   rw[h3]at hn
   exact hn.elim (fun h=>h1 n (A6.2 n h)) (h2.2 n)
 unfold uB at abs
 rw[nh]at abs
 split at h
 ·-- nil
  have ha:=hs.lit rfl
  subst ha
  rcases iB yD h with ⟨he,h⟩|⟨he,h⟩
  ·rw[he]at abs
   exact ay hh (bC cx) (abs (fun _ h=>h) (aN.mono (aN.pure _) (fun _ h=>by simp at h)) rfl) h
  ·rw[he]at abs
   obtain⟨hg,h⟩:=bp h
   simp only[tx,Bool.and_eq_true,decide_eq_true_eq]at hg
   obtain⟨o1,o2,o3⟩:=Gn yD
   refine fT hh hn o3 (v:=.bw m.size nm 0 none none) (a:=.bw q.size nm ys.length 0 ys.length none) ?_ (abs (fun _ h=>h) (aN.mono (aN.pure _) (fun _ h=>by simp at h)) ?_) h
   ·right
    simp only[R]
    have hv:=fU hh hn (o:=AI y)
    rw[o1,o2,gJ]at hv
    exact⟨_,hv,by rw[iG]⟩
   ·simp only
    rw[if_pos ⟨by rw[←gJ,JD]; exact hg.1,by rw[←gJ]; exact hg.2⟩]
 ·-- empty,without room
  have ha:=hs.live rfl
  simp only[R]at ha
  rcases iB yD h with ⟨he,h⟩|⟨he,h⟩
  ·rw[he]at abs
   subst ha
   exact ay hh hs (abs (fun _ h=>h) (aN.mono (aN.pure _) (fun _ h=>by simp at h)) rfl) h
  ·rw[he]at abs
   obtain⟨hg,h⟩:=bp h
   simp only[tx,Bool.and_eq_true,decide_eq_true_eq]at hg
   obtain⟨o1,o2,o3⟩:=Gn yD
   have key:∀ rest:RM ed,rest=(if ys.length*q.bytes≤2^44∧ys.length≤2^44 then
        pure ⟨.bw q.size nm ys.length 0 ys.length none,[(nm,.arr true yc false ys)]⟩ else .fail)→rest=pure ⟨.bw q.size nm ys.length 0 ys.length none,[(nm,.arr true yc false ys)]⟩:=by
    intro rest hr
    rw[hr,if_pos ⟨by rw[←gJ,JD]; exact hg.1,by rw[←gJ]; exact hg.2⟩]
   refine fT hh hn o3 (v:=.bw m.size nm 0 none none) (a:=.bw q.size nm ys.length 0 ys.length none) ?_ (abs (fun _ h=>h) (aN.mono (aN.pure _) (fun _ h=>by simp at h)) ?_) h
   ·right
    simp only[R]
    have hv:=fU hh hn (o:=AI y)
    rw[o1,o2,gJ]at hv
    exact⟨_,hv,by rw[iG]⟩
   ·subst ha
    exact key _ rfl
 ·-- a slice by value
  have ha:=hs.live rfl
  rcases iB yD h with ⟨he,h⟩|⟨_,h⟩
  ·rw[he]at abs
   simp only[R]at ha
   obtain⟨l',rfl,hl⟩:=ha
   exact ay hh hs (abs (fun _ h=>h) (aN.mono (aN.pure _) (fun _ h=>by simp at h)) rfl) h
  ·simp[Tr.run]at h
 ·have ha:=hs.live rfl
  rcases iB yD h with ⟨he,h⟩|⟨_,h⟩
  ·rw[he]at abs
   have RQ:=ha
   simp only[R]at ha
   rcases ha with ⟨l',rfl,hl⟩|⟨_,rfl⟩
   ·exact ay hh hs (abs (fun _ h=>h) (aN.mono (aN.pure _) (fun _ h=>by simp at h)) rfl) h
   ·exact ay hh hs (abs (fun _ h=>h) (aN.mono (aN.pure _) (fun _ h=>by simp at h)) rfl) h
  ·simp[Tr.run]at h
 ·-- a slice by value,of known room
  rename_i t' l c b _
  have ha:=hs.live rfl
  have RQ:=ha
  simp only[R]at ha
  rcases iB yD h with ⟨he,h⟩|⟨he,h⟩
  ·rw[he]at abs
   rcases ha with ⟨_,l',rfl,hl⟩|⟨_,B6,rfl|rfl⟩
   ·exact ay hh (v:=.jN t' l) (a:=.sl l') (.inr (by simp only[R]; exact .inl ⟨l',rfl,hl⟩)) (abs (fun _ h=>h) (aN.mono (aN.pure _) (fun _ h=>by simp at h)) rfl) h
   ·exact ay hh (v:=.jN t' l) (a:=.sl []) (.inr (by simp only[R]; exact .inl ⟨[],rfl,by rw[B6]; trivial⟩)) (abs (fun _ h=>h) (aN.mono (aN.pure _) (fun _ h=>by simp at h)) rfl) h
   ·exact ay hh (v:=.jN t' l) (a:=.lit cx) (.inr (by simp only[R]; exact .inr ⟨B6,trivial⟩)) (abs (fun _ h=>h) (aN.mono (aN.pure _) (fun _ h=>by simp at h)) rfl) h
  ·rw[he]at abs
   obtain⟨hg,h⟩:=bp h
   simp only[tx,Bool.and_eq_true,decide_eq_true_eq]at hg
   obtain⟨⟨hb,hc⟩,yP,nt⟩:=hg
   split at h
   case h_2=>simp[Tr.run]at h
   rename_i o' XS zH
   simp only[Bool.and_eq_true,decide_eq_true_eq]at XS
   rcases ha with ⟨_,l',rfl,hl⟩|⟨qG,_⟩
   ·have hlen:=hl.length
    have eD:RO T H (.cD true false 0 t' l) (.arr true true false l'):=⟨l',rfl,hl⟩
    obtain⟨a1,a2,a3⟩:=xv hT eD yD zH
    have XR:yc=true:=by
     cases y with
     |nF ZR cl=>
      obtain⟨_,n4,_⟩:=yD
      cases yc with
      |true=>rfl
      |false=>rw[show cl=false from by simpa using n4.symm]at zH; simp[rY]at zH
     |BP _ _=>exact yD.2
    subst XR
    have bK:=uA hT (agg:=q.isAgg) (size:=q.size) (by rw[e9]; exact XS.1) (by rw[iG]; exact XS.2) hl
    refine fT hh hn a3 (v:=.bw m.size nm 0 none none) (a:=.bw q.size nm (l'.length+ys.length) 0 (l'.length+ys.length) none) ?_ (abs (fun _ h=>h) (aN.mono (aN.pure _) (fun _ h=>by simp at h)) ?_) h
    ·right
     simp only[R]
     have hv:=fU hh hn (o:=o')
     rw[a1,a2,gJ]at hv
     simp only[aK.len,hlen]at hv
     exact⟨_,hv,by rw[iG]⟩
    ·simp only
     rw[if_pos ⟨by rw[←hlen,←gJ]; exact hc,by rw[←hlen,←gJ,JD]; exact yP,by rw[←hlen,←gJ]; exact nt,bK⟩]
     rfl
   ·rw[hb]at qG; simp at qG
 ·rename_i esz n c rg cap _
  have ha:=hs.live rfl
  split at h
  case h_2=>simp[Tr.run]at h
  rename_i o ho
  obtain⟨ao,dJ,eD⟩:=hh.obj ho
  split at h
  case h_2=>simp[Tr.run]at h
  rename_i hc
  simp only[Bool.and_eq_true,Bool.not_eq_true',decide_eq_true_eq]at hc
  simp only[R]at ha
  obtain⟨ax,hv,ha⟩:=ha
  have cI:=hv.arr hh ho hc.1.1
  split at h
  ·-- the whole of a growing array
   simp only at ha
   subst ha
   split at h
   ·rename_i cl0
    have:ys=[]:=by
     have:=gJ
     cases ys with
     |nil=>rfl
     |cons=>simp[Src.len]at this
    subst this
    simp only[List.isEmpty_nil]at abs
    exact ay hh hs (abs (fun _ h=>h) (aN.mono (aN.pure _) (fun _ h=>by simp at h)) rfl) h
   ·rename_i dY
    split at h
    case h_2=>simp[Tr.run]at h
    rename_i o' Sx zH
    obtain⟨hg,h⟩:=bp h
    simp only[tx,Bool.and_eq_true,decide_eq_true_eq]at hg
    have hj:=A7 zH
    obtain⟨es,rfl,vg⟩:=eD.Gl hj
    obtain⟨a1,a2,a3⟩:=xv hT eD yD zH
    rw[Sx]at dJ
    cases he:ys.isEmpty with
    |true=>
     rw[he]at abs
     have XT:ys=[]:=by simpa using he
     subst XT
     have XR:yc=true:=by
      cases y with
      |nF l cl=>
       exfalso
       have:=gJ
       simp only[Src.len,List.length_nil]at this
       have B6:l=[]:=by simpa using this
       subst B6
       exact dY _ rfl
      |BP t l=>exact yD.2
     subst XR
     simp only[Bool.and_true,List.append_nil]at a3
     obtain⟨Sw,Rg⟩:=hh.Wa ho (o':=o') (by omega) (fun e=>by omega) a3
     rw[iX dJ]at Rg
     have cG:=(List.getElem?_eq_some_iff.1 ho).1
     have e1:bu H [(n,o')]=H.set n (some o'):=by simp[bu,cd]; omega
     refine⟨_,_,_,⟨.bw esz n ax 0 ax none,[]⟩,abs (fun _ h=>List.mem_cons_of_mem _ h) (aN.mono (aN.pure _) (fun _ h=>by simp at h)) rfl,⟨?_,by rw[e1]; exact Rg,by rw[e1]; exact Sw,fun q h=>by simp at h,fun k hk hl=>?_,by rw[e1]; simp,fun k hk Jh=>by
      simp at Jh
      subst Jh
      simp only[recAt,ho,pX hj,Bool.false_eq_true]at hk⟩,h⟩
     ·rw[e1]
      right
      simp only[R]
      refine⟨ax,⟨o',by rw[List.getElem?_set_self cG],by omega,fun _=>?_⟩,rfl⟩
      rw[a2,cI,gJ]; rfl
     ·rw[e1]; simp at hk; rw[List.getElem?_set_ne (Ne.symm hk)]
    |false=>
     rw[he]at abs
     have Tb:0<ys.length:=by cases ys with
      |nil=>simp at he
      |cons=>simp
     refine lA hh ho (o':=o') (by omega) (fun e=>by omega) a3 (v:=.bw esz n (o.cur+1) none none) (a:=.bw esz n (ax+ys.length) 0 (ax+ys.length) none) ?_
      (abs (fun _ h=>List.mem_cons_of_mem _ h) (rd2:=n::rd) (aN.mono (aN.bind (aN.arr dJ (by omega)) (rd':=[]) (b:=(⟨.bw esz n (ax+ys.length) 0 (ax+ys.length) none,[(n,.arr true (o.flags.2.1&&yc) o.flags.2.2 (es++ys))]⟩:ed)) ?_) (fun k hk=>by simp at hk; simp[hk])) rfl) h (pX hj)
     ·right
      simp only[R]
      have cG:=(List.getElem?_eq_some_iff.1 ho).1
      refine⟨_,⟨o',by rw[List.getElem?_set_self cG],by omega,fun _=>?_⟩,rfl⟩
      rw[a2,cI,gJ]
     ·simp only
      rw[if_neg (by rw[hc.1.2]; simp only[Bool.false_eq_true,false_or,not_or]; exact⟨by omega,by rw[iG]; simp[hc.2]⟩),if_neg (by simp only[Option.getD_none]; omega),
       if_pos ⟨by rw[cI,←gJ,JD]; exact hg.1,by rw[cI,←gJ]; exact hg.2⟩]
      simp only[and_self,if_true]
      exact aN.pure _
  ·-- of an array of fixed room
   rename_i k
   simp only at ha
   subst ha
   rcases iB yD h with ⟨he,h⟩|⟨he,h⟩
   ·rw[he]at abs
    exact ay hh hs (abs (fun _ h=>h) (aN.mono (aN.pure _) (fun _ h=>by simp at h)) rfl) h
   ·rw[he]at abs
    rcases gv h with ⟨_,h⟩|⟨hk,h⟩
    ·simp[Tr.run]at h
    simp only[decide_eq_false_iff_not]at hk
    split at h
    case h_2=>simp[Tr.run]at h
    rename_i o' hoa zH
    obtain⟨hg,h⟩:=bp h
    simp only[tx,Bool.and_eq_true,decide_eq_true_eq]at hg
    have hj:=A7 zH
    obtain⟨es,rfl,vg⟩:=eD.Gl hj
    obtain⟨a1,a2,a3⟩:=xv hT eD yD zH
    rw[hc.1.2]at a3
    refine fT hh hn a3 (v:=.bw esz nm 0 none none) (a:=.bw esz nm (ax+ys.length) 0 (ax+ys.length) none) ?_
     (abs (fun _ h=>List.mem_cons_of_mem _ h) (rd2:=n::rd) (aN.mono (aN.bind (aN.arr dJ (by omega)) (rd':=[]) (b:=(⟨.bw esz nm (ax+ys.length) 0 (ax+ys.length) none,[(nm,.arr true (o.flags.2.1&&yc) false (es++ys))]⟩:ed)) ?_) (fun k hk=>by simp at hk; simp[hk])) rfl) h
    ·right
     simp only[R]
     have hv:=fU hh hn (o:=o')
     rw[a1,a2,gJ,←cI]at hv
     exact⟨_,hv,rfl⟩
    ·simp only
     rw[if_neg (by rw[hc.1.2]; simp only[Bool.false_eq_true,false_or,not_or]; exact⟨by omega,by rw[iG]; simp[hc.2]⟩),if_neg (by simp only[Option.getD_some]; omega),
      if_pos ⟨by rw[cI,←gJ,JD]; exact hg.1,by rw[cI,←gJ]; exact hg.2⟩]
     rw[if_pos (N7 hT eD e9 iG hoa)]
     simp only[List.drop_zero]
     rw[List.take_of_length_le (by omega)]
     exact aN.pure _
  ·-- into the room that there is
   rename_i k off len _
   simp only at ha
   subst ha
   split at h
   case h_2=>simp[Tr.run]at h
   rename_i o' Gp
   obtain⟨hg,h⟩:=bp h
   simp only[Bool.and_eq_true,decide_eq_true_eq]at hg
   obtain⟨hj,a1,a2,es,e0,a3⟩:=xw hT eD yD (by omega) Gp
   obtain⟨es',e1,vg⟩:=eD.Gl hj
   rw[e1]at e0
   simp only[aY.arr.injEq,true_and]at e0
   subst e0
   subst e1
   cases he:ys.isEmpty with
   |true=>
    rw[he]at abs
    have XT:ys=[]:=by simpa using he
    subst XT
    obtain rfl:=CU yD Gp
    simp only[Bool.and_true,bP]at a3
    refine A9 hh ho (by omega) (fun _=>a2) dJ a3 (v:=.bw esz n c (some (off,len+y.len)) (some k)) (a:=.bw esz n ax off len (some k)) ?_
     (abs (fun _ h=>List.mem_cons_of_mem _ h) (aN.mono (aN.pure _) (fun _ h=>by simp at h)) rfl) h hj
    right
    simp only[R]
    have cG:=(List.getElem?_eq_some_iff.1 ho).1
    refine⟨ax,⟨o',by rw[List.getElem?_set_self cG],by rw[a1]; exact Nat.le_of_eq (Nat.eq_of_beq_eq_true hc.1.1),fun _=>by rw[a2,cI]⟩,by rw[gJ]; rfl⟩
   |false=>
    rw[he]at abs
    refine lA hh ho (o':=o') (by omega) (fun _=>a2) a3 (v:=.bw esz n c (some (off,len+y.len)) (some k)) (a:=.bw esz n ax off (len+ys.length) (some k)) ?_
     (abs (fun _ h=>List.mem_cons_of_mem _ h) (rd2:=n::rd) (aN.mono (aN.bind (aN.arr dJ (by omega)) (rd':=[]) (b:=(⟨.bw esz n ax off (len+ys.length) (some k),[(n,.arr o.flags.1 (o.flags.2.1&&yc) o.flags.2.2 (bP es' (off+len) ys))]⟩:ed)) ?_) (fun k hk=>by simp at hk; simp[hk])) rfl) h (pX hj)
    ·right
     simp only[R]
     have cG:=(List.getElem?_eq_some_iff.1 ho).1
     refine⟨ax,⟨o',by rw[List.getElem?_set_self cG],by rw[a1]; exact Nat.le_of_eq (Nat.eq_of_beq_eq_true hc.1.1),fun _=>by rw[a2,cI]⟩,by rw[gJ]⟩
    ·simp only
     rw[if_neg (by rw[hc.1.2]; simp only[Bool.false_eq_true,false_or,not_or]; exact⟨by omega,by rw[iG]; simp[hc.2]⟩),if_pos (by simp only[Option.getD_some]; omega),if_pos (by omega)]
     exact aN.pure _
  ·simp[Tr.run]at h
 ·simp[Tr.run]at h
def Ba(q:bO)(d:AV)(ys:List AV)(yc:Bool):RM ed:=
 match decide (0<q.size)&&ys.all (aF q.isAgg q.size) with
  |false=>RM.fail
  |true=>
   match d with
   |.bw esz n ax off len _=>(match (ys.take len).isEmpty with
    |true=>pure ⟨.lit (.int .i64 0),[]⟩
    |false=>do
     let (g,c,f,es) ←RM.arr n ax
     if esz=q.size∧f=false∧off+len≤es.length∧0<ax then
      pure ⟨.lit (.int .i64 (ys.take len).length),[(n,.arr g (c&&yc) f (bP es off (ys.take len)))]⟩
     else RM.fail)
   |.lit (.slice none 0 0)=>pure ⟨.lit (.int .i64 0),[]⟩
   |_=>RM.fail
theorem N8{P:Program}{t:TypeId}{q:bO}(h:aU P t=some q)(a b:AV):zq P t a b=(gw b >>= fun p=>Ba q a p.1 p.2):=by
 unfold zq
 rw[h]
 rfl
theorem N9[ag](hT:T.Ok)(hQ:Q.Ok)(hh:RH T H hp){t:TypeId}{d x:SV T.den}{a b:AV}(hd:RV T H d a)(hx:RV T H x b)
  (h:(NO Q H t d x K).run=some r):kp T H hp (zq Q.P t a b) K r:=by
 unfold NO at h
 split at h
 case h_2=>simp[Tr.run]at h
 rename_i m hm hs
 have hs:=hQ.Ra hs
 obtain⟨q,ji,e9,iG,JD,LO⟩:=hQ.elem hm
 obtain⟨y,rd,ys,yc,A6,yD,h⟩:=JX hQ hh (q:=q) hx h
 have A6:aN hp (gw b) (ys,yc) rd:=by
  simp_all[wq]
 split at h
 case h_2=>simp[Tr.run]at h
 rename_i esz n c rg cap ck _
 simp only[Bool.and_eq_true,decide_eq_true_eq]at ck
 split at h
 case h_2=>simp[Tr.run]at h
 rename_i off len o hr ho
 split at h
 case h_2=>simp[Tr.run]at h
 rename_i o' hc Gp
 simp only[Bool.and_eq_true,Bool.not_eq_true',decide_eq_true_eq]at hc
 have ha:=hd.live rfl
 obtain⟨ax,rfl,hv,cI⟩:=sV hh ha hr ho
 have cI:=cI hc.1.1
 obtain⟨ao,dJ,eD⟩:=hh.obj ho
 have gJ:=yD.len
 have bK:=yD.AH hT e9 iG ck.1
 have nh:(decide (0<q.size)&&ys.all (aF q.isAgg q.size))=true:=by
  rw[bK,iG]; simpa using ck.2
 have abs:∀ {rest:RM ed} {e:ed} {rd2:List Nat},(∀ n,n∈rd→n∈rd2)→aN hp rest e rd2 →
   Ba q (.bw esz n ax off len cap) ys yc=rest→aN hp (zq Q.P t (.bw esz n ax off len cap) b) e rd2:=by
  intro rest e rd2 h1 h2 h3
  rw[N8 ji]
  refine⟨?_,fun k hk=>?_⟩
  ·rw[RM.run_bind,A6.1]
   simp only[Option.bind_some]
   rw[h3]
   exact h2.1
  ·rw[RM.fN,A6.1]at hk
   simp only[List.mem_append]at hk
   rw[h3]at hk
   exact hk.elim (fun h=>h1 k (A6.2 k h)) (h2.2 k)
 unfold Ba at abs
 rw[nh]at abs
 obtain⟨hg,h⟩:=bp h
 simp only[Bool.and_eq_true,decide_eq_true_eq]at hg
 cases he:ys.isEmpty with
 |true=>
  have XT:ys=[]:=by simpa using he
  subst XT
  obtain⟨hj,a1,a2,es,e0,a3⟩:=xw hT eD yD (by omega) Gp
  obtain⟨es',e1,vg⟩:=eD.Gl hj
  rw[e1]at e0
  simp only[aY.arr.injEq,true_and]at e0
  subst e0
  subst e1
  obtain rfl:=CU yD Gp
  simp only[Bool.and_true,bP]at a3
  have hy0:y.len=0:=by rw[gJ]; rfl
  rw[hy0]at h
  exact A9 hh ho (by omega) (fun _=>a2) dJ a3 (bC (.int .i64 0)) (abs (fun _ h=>List.mem_cons_of_mem _ h) (aN.mono (aN.pure _) (fun _ h=>by simp at h)) (by simp only[List.take_nil,List.isEmpty_nil])) h hj
 |false=>
  have Tb:0<ys.length:=by cases ys with
   |nil=>simp at he
   |cons=>simp
  have htk:ys.take len=ys:=List.take_of_length_le (by omega)
  obtain⟨hj,a1,a2,es,e0,a3⟩:=xw hT eD yD (by omega) Gp
  obtain⟨es',e1,vg⟩:=eD.Gl hj
  rw[e1]at e0
  simp only[aY.arr.injEq,true_and]at e0
  subst e0
  subst e1
  have heq:∀ (f t:RM ed),(match (ys.take len).isEmpty with|true=>t|false=>f)=f:=by
   intro f t
   rw[htk,he]
  refine lA hh ho (o':=o') (by omega) (fun _=>a2) a3 (v:=.lit (.int .i64 y.len)) (a:=.lit (.int .i64 y.len)) (bC _)
   (abs (fun _ h=>List.mem_cons_of_mem _ h) (rd2:=n::rd) (aN.mono (aN.bind (aN.arr dJ (by omega)) (rd':=[]) (b:=(⟨.lit (.int .i64 y.len),[(n,.arr o.flags.1 (o.flags.2.1&&yc) o.flags.2.2 (bP es' off ys))]⟩:ed)) ?_) (fun k hk=>by simp at hk; simp[hk])) (heq _ _)) h (pX hj)
  simp only
  rw[if_pos ⟨by rw[iG]; exact hc.2,hc.1.2,by omega,by omega⟩,gJ,htk]
  exact aN.pure _
theorem Rh[ag](hQ:Q.Ok)(hh:RH T H hp){ts:Array TypeId}{type:TypeId}{x:SV T.den}{a:AV}(hx:RV T H x a)(h:(Ug Q H ts type x K).run=some r){nm:Nat}:
  kp T H hp (dW Q.P nm .len ts type [a]) K r:=by
 unfold Ug at h
 unfold dW
 simp only
 split at h
 case h_2=>simp[Tr.run]at h
 rename_i t ht
 rw[ht]
 simp only
 split at h
 ·rename_i hs
  have hs:=hQ.Ra hs
  split at h
  ·have ha:=hx.lit rfl
   subst ha
   refine ay hh (bC (.int .i64 0)) (rd:=[]) ?_ h
   simp only[hs,p8]
   exact aN.pure _
  ·have ha:=hx.live rfl
   simp only[R]at ha
   subst ha
   refine ay hh (bC (.int .i64 0)) (rd:=[]) ?_ h
   simp only[hs,p8]
   exact aN.pure _
  ·have ha:=hx.live rfl
   simp only[R]at ha
   obtain⟨l',rfl,hl,_⟩:=ha
   refine ay hh (a:=.lit (.int .i64 l'.length)) (by rw[hl.length]; exact bC _) (rd:=[]) ?_ h
   simp only[hs,p8]
   exact aN.pure _
  ·rename_i t' l
   have ha:=hx.live rfl
   simp only[R]at ha
   rcases ha with ⟨l',rfl,hl⟩|⟨rfl,rfl⟩
   ·refine ay hh (a:=.lit (.int .i64 l'.length)) (by rw[hl.length]; exact bC _) (rd:=[]) ?_ h
    simp only[hs,p8]
    exact aN.pure _
   ·refine ay hh (bC (.int .i64 0)) (rd:=[]) ?_ h
    simp only[hs,p8]
    exact aN.pure _
  ·rename_i t' l c b
   have ha:=hx.live rfl
   simp only[R]at ha
   rcases ha with ⟨_,l',rfl,hl⟩|⟨_,rfl,rfl|rfl⟩
   ·refine ay hh (a:=.lit (.int .i64 l'.length)) (by rw[hl.length]; exact bC _) (rd:=[]) ?_ h
    simp only[hs,p8]
    exact aN.pure _
   ·refine ay hh (bC (.int .i64 0)) (rd:=[]) ?_ h
    simp only[hs,p8]
    exact aN.pure _
   ·refine ay hh (bC (.int .i64 0)) (rd:=[]) ?_ h
    simp only[hs,p8]
    exact aN.pure _
  ·rename_i esz n c rg cap
   have ha:=hx.live rfl
   split at h
   case h_2=>simp[Tr.run]at h
   rename_i off len hr
   have:∃ o,H[n]?=some (some o):=by
    simp only[R]at ha
    obtain⟨_,⟨o,ho,_⟩,_⟩:=ha
    exact⟨o,ho⟩
   obtain⟨o,ho⟩:=this
   obtain⟨ax,rfl,_,_⟩:=sV hh ha hr ho
   refine ay hh (bC (.int .i64 len)) (rd:=[]) ?_ h
   simp only[hs,p8]
   exact aN.pure _
  ·rename_i n c k j len cap
   have ha:=hx.live rfl
   simp only[R]at ha
   obtain⟨ax,rfl,_⟩:=ha
   refine ay hh (bC (.int .i64 len)) (rd:=[]) ?_ h
   simp only[hs,p8]
   exact aN.pure _
  ·simp[Tr.run]at h
 ·simp[Tr.run]at h
 ·rename_i hs
  have hs:=hQ.Ra hs
  split at h
  ·simp[Tr.run]at h
  ·rename_i v hv
   have ha:=hx.lit rfl
   subst ha
   obtain⟨w,hw,hk⟩:=je h
   refine ay hh (bC w) (rd:=[]) ?_ hk
   split
   ·rename_i heq; injection heq with e; exact(hv e).elim
   ·rename_i heq; cases heq
   ·rename_i heq; cases heq
   ·rename_i heq; cases heq
   ·rename_i heq; cases heq
   ·rename_i heq; cases heq
   ·rename_i heq; injection heq with e; subst e; rw[hw]; exact aN.pure _
   ·rename_i h; exact(h v rfl).elim
  ·rename_i l
   have ha:=hx.live rfl
   simp only[R]at ha
   obtain⟨l',rfl,hl⟩:=ha
   split at h
   case h_2=>simp[Tr.run]at h
   rename_i n m hm
   obtain⟨q,ji,_⟩:=hQ.Gm hm
   refine ay hh (bC (.int .i64 n)) (rd:=[]) ?_ h
   simp only[ji]
   exact aN.pure _
  ·have ha:=hx.live rfl
   simp only[R]at ha
   obtain⟨ax,rfl,hl⟩:=ha
   split at h
   case h_2=>simp[Tr.run]at h
   rename_i n m hm
   obtain⟨q,ji,_⟩:=hQ.Gm hm
   refine ay hh (bC (.int .i64 n)) (rd:=[]) ?_ h
   simp only[ji]
   exact aN.pure _
  ·have ha:=hx.live rfl
   simp only[R]at ha
   obtain⟨ax,rfl,hl⟩:=ha
   split at h
   case h_2=>simp[Tr.run]at h
   rename_i n m hm
   obtain⟨q,ji,_⟩:=hQ.Gm hm
   refine ay hh (bC (.int .i64 n)) (rd:=[]) ?_ h
   simp only[ji]
   exact aN.pure _
  ·simp[Tr.run]at h
theorem JY[ag]{l:List (SV T.den)}{m:List AV}(hv:aE (RV T H) l m){c:List Value}(hc:oC l=some c):dx m=some c:=by
 revert c
 induction l generalizing m with
 |nil=>
  intro c hc
  cases m with
  |nil=>simp[oC]at hc; subst hc; rfl
  |cons=>exact hv.elim
 |cons x xs ih=>
  intro c hc
  cases m with
  |nil=>exact hv.elim
  |cons a as=>
   cases x with
   |lit v=>
    simp only[oC,Option.map_eq_some_iff]at hc
    obtain⟨c',h1,rfl⟩:=hc
    have:=RV.lit hv.1 rfl
    subst this
    simp[dx,ih hv.2 h1]
   |_=>simp[oC]at hc
theorem Gq[ag](hT:T.Ok)(hQ:Q.Ok)(hh:RH T H hp){nm:Nat}(hn:nm=H.length∨H[nm]?=some none){b:Builtin}{ts:Array TypeId}{type:TypeId}{args:List (SV T.den)}{as:List AV}
  (ha:aE (RV T H) args as) (h:(AJ Q nm H b ts type args K).run=some r):kp T H hp (dW Q.P nm b ts type as) K r:=by
 unfold AJ at h
 split at h
 ·split at h
  ·rename_i t xt s x ht
   match as,ha with
   |[a,b],ha=>
    simp only[dW,ht]
    exact Iw hT hQ hh hn ha.1 ha.2.1 h
  ·simp[Tr.run]at h
 ·split at h
  ·rename_i t _ d x ht
   match as,ha with
   |[a,b],ha=>
    simp only[dW,ht]
    exact N9 hT hQ hh ha.1 ha.2.1 h
  ·simp[Tr.run]at h
 ·split at h
  ·rename_i x
   match as,ha with
   |[a],ha=>exact Rh hQ hh ha.1 h
  ·simp[Tr.run]at h
 ·split at h
  ·rename_i vs qR
   obtain⟨w,hw,hk⟩:=je h
   refine ay hh (bC w) (rd:=[]) ?_ hk
   simp only[dW,JY ha qR,hw]
   exact aN.pure _
  ·simp[Tr.run]at h
 ·split at h
  ·rename_i vs qR
   obtain⟨w,hw,hk⟩:=je h
   refine ay hh (bC w) (rd:=[]) ?_ hk
   simp only[dW,JY ha qR,hw]
   exact aN.pure _
  ·simp[Tr.run]at h
 ·simp[Tr.run]at h
end
end Go.PI
end
section
/- PS, part Ia: maps. -/
namespace Go.PI
variable {T:eh}{ρ:Type}
theorem Ed(kk:KK)(a b:kk.D):tm (kk.v a) (kk.v b)=kk.beq a b:=by cases kk<;>rfl
theorem Oa{kk:KK}{v:Value}{k:kk.D}(h:kk.get v=some k):v=kk.v k∧kk.ok v=true:=by
 cases kk with
 |int q=>
  cases v<;>simp[KK.get]at h
  obtain⟨rfl,h⟩:=h
  cases h
  exact⟨rfl,by simp[KK.ok]⟩
 |str=>
  cases v<;>simp[KK.get]at h
  cases h
  exact⟨rfl,rfl⟩
 |bool=>
  cases v<;>simp[KK.get]at h
  cases h
  exact⟨rfl,rfl⟩
theorem xx{kk:KK}{α:Type}{k:kk.D}:∀ {m:List (kk.D×α)} {i:Nat},mj kk m k=none→kO (kk.v k) (m.map fun q=>kk.v q.1) i=none
 |[],i,_=>rfl
 |(k',v)::m,i,h=>by
  simp only[mj]at h
  cases hb:kk.beq k k' with
  |true=>rw[hb]at h; simp at h
  |false=>
   rw[hb]at h
   simp only[List.map_cons,kO,Ed,hb,cond_false]
   exact xx h
theorem xy{kk:KK}{α:Type}{k:kk.D}{x:α}:∀ {m:List (kk.D×α)} {i:Nat},mj kk m k=some x→∃ j,kO (kk.v k) (m.map fun q=>kk.v q.1) i=some (i+j)∧(m.map (·.2))[j]?=some x ∧
  ∀ y,(oX kk m k y).map (fun q=>kk.v q.1)=m.map (fun q=>kk.v q.1)∧(oX kk m k y).map (·.2)=(m.map (·.2)).set j y
 |[],i,h=>by simp[mj]at h
 |(k',v)::m,i,h=>by
  simp only[mj]at h
  cases hb:kk.beq k k' with
  |true=>
   simp_all[cond_true,kO,Ed,hb,oX]
  |false=>
   rw[hb]at h
   obtain⟨j,h1,h2,h3⟩:=xy (i:=i+1) h
   refine⟨j+1,?_,by simpa using h2,fun y=>?_⟩
   ·simp only[List.map_cons,kO,Ed,hb,cond_false,h1]
    congr 1; omega
   ·obtain⟨h4,h5⟩:=h3 y
    simp[oX,hb,h4,h5]
theorem Gr{kk:KK}{α:Type}{k:kk.D}{y:α}:∀ {m:List (kk.D×α)},mj kk m k=none→oX kk m k y=m++[(k,y)]
 |[],_=>rfl
 |(k',v)::m,h=>by
  simp only[mj]at h
  cases hb:kk.beq k k' with
  |true=>rw[hb]at h; simp at h
  |false=>
   rw[hb]at h
   simp only[oX,hb,cond_false,List.cons_append]
   rw[Gr h]
section
variable {H:aq T.den}{hp:ak}{K:EK T ρ}{r:ρ}{Q:iH}
theorem Ee{c:Bool}{v:SV T.den}{a:AV}{b:Bool}(h:R T H v a):R T H (D0 c v b) (zt c a b):=by
 cases c with
 |false=>exact h
 |true=>
  simp only[D0,zt,R]
  exact⟨_,rfl,h,rfl,trivial⟩
theorem Ix[ag](hT:T.Ok)(hQ:Q.Ok)(hZ:T.vY Q)(hh:RH T H hp){t:TypeId}{x ix:SV T.den}{a b:AV}(hx:RV T H x a)(hi:RV T H ix b){c:Bool}(h:(D1 Q H t x ix c K).run=some r):
  kp T H hp (uV Q.P t a b c) K r:=by
 unfold D1 at h
 split at h
 case h_2=>simp[Tr.run]at h
 rename_i kk et zb
 have Mx:=hQ.map _ _ zb
 split at h
 case h_2=>simp[Tr.run]at h
 rename_i za z k Uz hz
 obtain⟨m,hm,hmz⟩:=Option.bind_eq_some_iff.1 Uz
 obtain⟨q,ji,_,_,_,LO⟩:=hQ.row _ _ hm
 have pj:=LO _ hmz
 have Hj:=hZ et m z za hm hmz hz
 have hi:=hi.lit rfl
 subst hi
 have Uy:(ga Q.P et).bind cr=some za:=by rw[ji]; exact pj
 unfold uV
 simp only[Mx,Uy]
 split at h
 ·rename_i k' hk
  obtain⟨rfl,ck⟩:=Oa hk
  have hx:=hx.lit rfl
  subst hx
  simp only[ck]
  exact ay hh (.inr (Ee (hT.up _ _ _ H Hj))) (aN.pure _) h
 ·rename_i k' n hk
  obtain⟨rfl,ck⟩:=Oa hk
  have hx:=hx.live rfl
  simp only[R]at hx
  obtain⟨rfl,_⟩:=hx
  split at h
  case h_2=>simp[Tr.run]at h
  rename_i sZ t' mp ho
  split at h
  case isFalse=>simp[Tr.run]at h
  rename_i hc
  obtain⟨rfl,rfl⟩:=hc
  simp only[vQ]at h
  obtain⟨ao,dJ,eD⟩:=hh.obj ho
  obtain⟨vs,rfl,qR⟩:=eD
  simp only[ck]
  cases hg:mj sZ mp k' with
  |none=>
   rw[hg]at h
   simp only[Option.getD_none,Option.isSome_none]at h
   refine ay hh (.inr (Ee (hT.up _ _ _ H Hj))) (rd:=[n]) (aN.get dJ ?_) h
   simp only[if_true,xx hg]
   exact aN.pure _
  |some y=>
   rw[hg]at h
   simp only[Option.getD_some,Option.isSome_some]at h
   obtain⟨j,h1,h2,_⟩:=xy (i:=0) hg
   obtain⟨v,hv,hr⟩:=aE.get qR h2
   refine ay hh (.inr (Ee (hT.up _ _ _ H hr))) (rd:=[n]) (aN.get dJ ?_) h
   simp only[if_true,h1,Nat.zero_add,hv]
   exact aN.pure _
 ·simp[Tr.run]at h
theorem BW[ag](hT:T.Ok)(hQ:Q.Ok)(hh:RH T H hp){t:TypeId}{x ix v:SV T.den}{a b d:AV}(hx:RV T H x a)(hi:RV T H ix b)(hv:RV T H v d)(h:(uj Q H t x ix v K).run=some r):
  kp T H hp (nb Q.P t a b d) K r:=by
 unfold uj at h
 split at h
 case h_2=>simp[Tr.run]at h
 rename_i kk et zb
 have Mx:=hQ.map _ _ zb
 split at h
 case h_2=>simp[Tr.run]at h
 rename_i k n
 split at h
 case h_2=>simp[Tr.run]at h
 rename_i k' sZ t' mp hk ho
 split at h
 case h_2=>simp[Tr.run]at h
 rename_i y hd hy
 split at h
 case isFalse=>simp[Tr.run]at h
 rename_i hc
 obtain⟨rfl,PE⟩:=hc
 obtain⟨rfl,ck⟩:=Oa hk
 have hi:=hi.lit rfl
 subst hi
 have hx:=hx.live rfl
 simp only[R]at hx
 obtain⟨rfl,_⟩:=hx
 have Hj:=hT.dn _ _ _ _ H hy (hv.live hd)
 obtain⟨ao,dJ,eD⟩:=hh.obj ho
 obtain⟨vs,rfl,qR⟩:=eD
 unfold nb
 simp only[Mx,ck]
 simp only[vQ]at h
 cases hg:mj sZ mp k' with
 |none=>
  have e:=Gr (y:=y) hg
  refine lA hh ho (o':=.lT sZ t' (oX sZ mp k' y)) (Nat.le_refl _) (fun _=>rfl) (a':=.iC (.map sZ ((mp.map fun q=>sZ.v q.1)++[sZ.v k'])) (vs++[d])) ?_ (bC undef) (rd:=[n]) (aN.get dJ ?_) h
  ·rw[e]
   refine⟨vs++[d],by simp,?_⟩
   rw[List.map_append]
   exact qR.append (show aE (T.rp t') [y] [d] from ⟨Hj,trivial⟩)
  ·simp only[if_true,xx hg]
   exact aN.pure _
 |some x0=>
  obtain⟨j,h1,h2,h3⟩:=xy (i:=0) hg
  obtain⟨h4,h5⟩:=h3 y
  refine lA hh ho (o':=.lT sZ t' (oX sZ mp k' y)) (Nat.le_refl _) (fun _=>rfl) (a':=.iC (.map sZ (mp.map fun q=>sZ.v q.1)) (vs.set j d)) ?_ (bC undef) (rd:=[n]) (aN.get dJ ?_) h
  ·exact⟨_,by rw[h4],by rw[h5]; exact qR.set j Hj⟩
  ·simp only[if_true,h1,Nat.zero_add]
   exact aN.pure _
theorem Gs[ag](hQ:Q.Ok)(hh:RH T H hp){nm:Nat}(hn:nm=H.length∨H[nm]?=some none){t:TypeId}{x:Option (SV T.den)}{a:Option AV}(hx:N5 T H x a)(h:(AK Q nm t x K).run=some r):
  kp T H hp (.iT (ri Q.P nm t a)) K r:=by
 unfold AK at h
 split at h
 case h_2=>simp[Tr.run]at h
 rename_i kk et zb
 have Mx:=hQ.map _ _ zb
 obtain⟨n,hn1,h⟩:=jf hx h
 refine fT hh hn (o:=.lT kk et []) (a':=.iC (.map kk []) []) ⟨[],rfl,trivial⟩ (a:=.mp false nm) (rd:=[]) (.inr ?_) ?_ h
 ·simp only[R]
  refine⟨trivial,.lT kk et [],?_⟩
  unfold cd
  rcases hn with rfl|hn
  ·simp
  ·have cG:=(List.getElem?_eq_some_iff.1 hn).1
   rw[if_neg (by omega),List.getElem?_set_self cG]
 ·simp only[ri,Mx,hn1]
  exact aN.iT rfl
end
end Go.PI
end
section
/- PS, part J: every operation. -/
namespace Go.PI
variable {T:eh}{ρ:Type}
section
variable {H:aq T.den}{hp:ak}{K:EK T ρ}{r:ρ}{Q:iH}
theorem mO{ev:Operand→SV T.den}{Hk:Operand→AV}(cm:∀ x,RV T H (ev x) (Hk x)):∀ (l:List Operand),aE (RV T H) (l.map ev) (l.map Hk)
 |[]=>trivial
 |x::xs=>⟨cm x,mO cm xs⟩
theorem mX[ag]:∀ {l:List (SV T.den)} {m:List AV},aE (RV T H) l m→l.any cL=false→RL T H l m
 |[],[],_,_=>by simp[RL]
 |x::xs,y::ys,h,hd=>by
  simp only[List.any_cons,Bool.or_eq_false_iff]at hd
  simp only[RL]
  exact⟨h.1.live hd.1,mX h.2 hd.2⟩
theorem Bb[ag]{ev:Operand→SV T.den}{Hk:Operand→AV}(cm:∀ x,RV T H (ev x) (Hk x)):∀ (l:List (Nat×Operand)),((l.map fun p=>(p.1,ev p.2)).any fun p=>cL p.2)=false →
  RP T H (l.map fun p=>(p.1,ev p.2)) (l.map fun p=>(p.1,Hk p.2))
 |[],_=>trivial
 |x::xs,hd=>by
  simp only[List.map_cons,List.any_cons,Bool.or_eq_false_iff]at hd
  exact⟨⟨rfl,(cm _).live hd.1⟩,Bb cm xs hd.2⟩
theorem Iy[ag](hT:T.Ok)(hQ:Q.Ok)(hZ:T.vY Q)(hh:RH T H hp){nm:Nat}(hn:nm=H.length∨H[nm]?=some none){ev:Operand→SV T.den}{Hk:Operand→AV}(cm:∀ x,RV T H (ev x) (Hk x)){o:Oper}
  (h:(Q0 Q nm H ev o K).run=some r):kp T H hp (aV Q.P nm Hk o) K r:=by
 obtain⟨dst,op,type,pos,after,guard⟩:=o
 unfold Q0 at h
 cases op with
 |move x=>exact ay hh (cm x) (aN.ret _) h
 |assign x=>exact ay hh (cm x) (aN.ret _) h
 |pick c a b=>
  simp only at h
  split at h
  ·rename_i t ht
   have hc:=(cm c).lit ht
   obtain⟨v,hv,hk⟩:=Re (cm a) (cm b) h
   refine ay hh hv (rd:=[]) ?_ hk
   simp only[aV,hc]
   exact aN.pure _
  ·simp[Tr.run]at h
 |alloc t=>
  simp only at h
  split at h
  case h_2=>simp[Tr.run]at h
  rename_i m hm
  split at h
  case h_2=>simp[Tr.run]at h
  rename_i z hz
  split at h
  case isFalse=>simp[Tr.run]at h
  rename_i hs
  exact K7 hQ hh hn hm hz hs h
 |box t x=>
  simp only at h
  split at h
  case isFalse=>simp[Tr.run]at h
  rename_i hc
  have hv:=(cm x).live hc.2.2
  have n4:=hv.cells
  refine fT hh hn (o:=.arr false (aD (cb (ev x))) false 0 [ev x]) (a':=.arr false (aZ (cellsOf (Hk x))) false [Hk x]) ⟨_,by rw[RL.closed n4],by simp only[RL]; exact⟨hv,trivial⟩,fun pe=>by rw[BQ]at pe; simp only[aD,pe,Bool.and_self]⟩
   (a:=.ref nm 1 0 0) (rd:=[]) ?_ ?_ h
  ·right
   simp only[R]
   exact⟨1,rfl,fU hh hn (o:=.arr false (aD (cb (ev x))) false 0 [ev x])⟩
  ·simp only[aV]
   rw[if_pos ⟨by rw[←n4.FP]; exact hc.1,by rw[←n4.length]; exact hc.2.1⟩]
   exact aN.pure _
 |build t parts=>
  simp only at h
  split at h
  ·simp[Tr.run]at h
  rename_i hd
  simp only[Bool.not_eq_true]at hd
  obtain⟨v,hv,hk⟩:=nN h
  obtain⟨a,ha,hr⟩:=K6 hQ (Bb cm _ hd) hv
  refine ay hh (.inr hr) (rd:=[]) ?_ hk
  simp only[aV,ha]
  exact aN.pure _
 |buildSlice t len parts=>
  simp only at h
  split at h
  ·simp[Tr.run]at h
  rename_i hd
  simp only[Bool.not_eq_true]at hd
  exact A4 hQ hh hn (Bb cm _ hd) h
 |load t a=>
  simp only at h
  split at h
  case h_2=>simp[Tr.run]at h
  rename_i m hm
  obtain⟨q,h1,h2,h3,_⟩:=hQ.row _ _ hm
  have:∃ v c rd,aN hp (mo Q.P t (Hk a)) c rd∧R T H v c∧(K v [] rd).run=some r:=Gk hT h1 h2 h3 hh (cm a) h
  obtain⟨v,c,rd,hy,hr,hk⟩:=this
  refine ay hh (.inr hr) (rd:=rd) ?_ hk
  simp only[aV]
  exact aN.mono (aN.bind hy (aN.pure _)) (fun _ h=>by simpa using h)
 |store t a x=>
  simp only at h
  split at h
  case h_2=>simp[Tr.run]at h
  rename_i m hm
  obtain⟨q,h1,h2,h3,_⟩:=hQ.row _ _ hm
  exact K4 hT h1 h3 hh (cm a) (cm x) h
 |nilCheck x=>
  simp only at h
  have hx:=cm x
  split at h
  ·rename_i n c i j he
   rw[he]at hx
   have ic:=hx.live rfl
   simp only[R]at ic
   obtain⟨ax,e,hv⟩:=ic
   refine ay hh (a:=.ref n ax i j) (.inr (by simp only[R]; exact⟨ax,rfl,hv⟩)) (rd:=[]) ?_ h
   simp only[aV,e]; exact aN.pure _
  ·rename_i e0 j he
   rw[he]at hx
   have ic:=hx.live rfl
   have oQ:=ic
   simp only[R]at ic
   obtain⟨e',e,hv⟩:=ic
   refine ay hh (a:=.bq e' j) (.inr (by rw[←e]; exact oQ)) (rd:=[]) ?_ h
   simp only[aV,e]; exact aN.pure _
  ·rename_i t y he
   rw[he]at hx
   have ic:=hx.live rfl
   have oQ:=ic
   simp only[R]at ic
   obtain⟨e',e,hv⟩:=ic
   refine ay hh (a:=.jQ t e') (.inr (by rw[←e]; exact oQ)) (rd:=[]) ?_ h
   simp only[aV,e]; exact aN.pure _
  ·rename_i f a c he
   rw[he]at hx
   have ic:=hx.live rfl
   have oQ:=ic
   simp only[R]at ic
   obtain⟨f',c',e,hv⟩:=ic
   refine ay hh (a:=.jP (.func f) f' c') (.inr (by rw[←e]; exact oQ)) (rd:=[]) ?_ h
   simp only[aV,e]; exact aN.pure _
  ·rename_i f a c he
   have e:=hx.lit he
   refine ay hh (bC (.func (.func f) a c)) (rd:=[]) ?_ h
   simp only[aV,e]; exact aN.pure _
  ·simp[Tr.run]at h
 |binOp op t x y u=>
  simp only at h
  obtain⟨v,hv,hk⟩:=Rd hQ (cm x) (cm y) h
  refine ay hh (bC v) (rd:=[]) ?_ hk
  simp only[aV,hv]
  exact aN.pure _
 |unOp op t x=>
  simp only at h
  split at h
  ·rename_i a ha
   have hx:=(cm x).lit ha
   obtain⟨v,hv,hk⟩:=je h
   refine ay hh (bC v) (rd:=[]) ?_ hk
   simp only[aV,hx,hv]
   exact aN.pure _
  ·simp[Tr.run]at h
 |convert s d x=>
  simp only at h
  split at h
  ·rename_i a ha
   have hx:=(cm x).lit ha
   obtain⟨v,hv,hk⟩:=je h
   refine ay hh (bC v) (rd:=[]) ?_ hk
   simp only[aV,hx,hv]
   exact aN.pure _
  ·simp[Tr.run]at h
 |makeInterface t x=>
  simp only at h
  split at h
  ·simp[Tr.run]at h
  rename_i hc
  simp only[Bool.or_eq_true,not_or,Bool.not_eq_true]at hc
  have hx:=(cm x).live hc.2
  refine ay hh (a:=.jQ t (Hk x)) (.inr (by simp only[R]; exact⟨_,rfl,hx⟩)) (rd:=[]) ?_ h
  simp only[aV]
  rw[if_neg (by simp[hc.1.1,hc.1.2])]
  exact aN.pure _
 |makeFunc fn first captured=>
  simp only at h
  split at h
  ·rename_i hc
   refine ay hh (bC (.func fn #[] #[])) (rd:=[]) ?_ h
   simp only[aV,hc,if_true]
   exact aN.pure _
  ·rename_i hc
   split at h
   ·simp[Tr.run]at h
   rename_i hd
   simp only[Bool.or_eq_true,not_or,Bool.not_eq_true]at hd
   have h1:=mX (mO cm first.toList) hd.1
   have h2:=mX (mO cm captured.toList) hd.2
   refine ay hh (a:=.jP fn (first.toList.map Hk) (captured.toList.map Hk)) (.inr (by simp only[R]; exact⟨_,_,rfl,h1,h2⟩)) (rd:=[]) ?_ h
   simp only[aV]
   rw[if_neg hc]
   exact aN.pure _
 |makeSlice t l c=>
  simp only at h
  split at h
  ·rename_i hs
   have e:l=c:=by
    unfold NM at hs
    split at hs
    ·rw[Nat.eq_of_beq_eq_true hs]
    ·simp at hs
   subst e
   exact BT hQ hZ hh hn (cm l) h
  ·exact BS hQ hZ hh hn (cm l) (cm c) h
 |slice t x lo hi mx=>
  simp only at h
  have ho:∀ o:Option Operand,N5 T H (o.map ev) (o.map Hk):=by
   intro o
   cases o with
   |none=>trivial
   |some o=>exact cm o
  obtain⟨v,b,hb,hv,hk⟩:=Rf hT hQ hh (cm x) (ho lo) (ho hi) (ho mx) h
  refine ay hh hv (rd:=[]) ?_ hk
  simp only[aV,hb]
  exact aN.pure _
 |sliceToArrayPointer t x=>
  simp only at h
  have hx:=cm x
  unfold NN at h
  split at h
  case h_2=>simp[Tr.run]at h
  rename_i len m n c i j l cp hf he
  obtain⟨q,ji,e9,iG⟩:=hQ.Gm hf
  split at h
  case h_2=>simp[Tr.run]at h
  rename_i hle
  simp only[decide_eq_true_eq]at hle
  rw[he]at hx
  have ic:=hx.live rfl
  simp only[R]at ic
  obtain⟨ax,e,hv⟩:=ic
  refine ay hh (a:=.ref n ax i j) (.inr (by simp only[R]; exact⟨ax,rfl,hv⟩)) (rd:=[]) ?_ h
  simp only[aV,e,ji]
  rw[if_pos hle]
  exact aN.pure _
 |fieldAddr s x f=>
  simp only at h
  have hx:=cm x
  split at h
  ·rename_i off m n c i j hf he
   obtain⟨q,hq,_⟩:=hQ.Q9 hf
   rw[he]at hx
   have ic:=hx.live rfl
   simp only[R]at ic
   obtain⟨ax,e,hv⟩:=ic
   refine ay hh (a:=.ref n ax i (j+off)) (.inr (by simp only[R]; exact⟨ax,rfl,hv⟩)) (rd:=[]) ?_ h
   simp only[aV,e,hq]; exact aN.pure _
  ·rename_i off m e0 j hf he
   obtain⟨q,hq,_⟩:=hQ.Q9 hf
   rw[he]at hx
   have ic:=hx.live rfl
   simp only[R]at ic
   obtain⟨e',e,hv⟩:=ic
   refine ay hh (a:=.bq e' (j+off)) (.inr (by simp only[R]; exact⟨e',rfl,hv.1,hv.2⟩)) (rd:=[]) ?_ h
   simp only[aV,e,hq]; exact aN.pure _
  ·rename_i off m v bl len i hf he
   obtain⟨q,hq,_⟩:=hQ.Q9 hf
   rw[he]at hx
   have ic:=hx.live rfl
   simp only[R]at ic
   obtain⟨a0,h1,h2,h3⟩:=ic
   rcases h3 with ⟨n,ax,k,j,rfl,e⟩|⟨e',j,rfl,e⟩
   ·refine ay hh (a:=.ref n ax k (j+i*bl+off)) (.inr (by simp only[R]; exact⟨.ref n ax k (j+off),sU h1 (.inl ⟨_,_,_,_,rfl,rfl⟩),h2,.inl ⟨_,_,_,_,rfl,by rw[Nat.add_right_comm]⟩⟩)) (rd:=[]) ?_ h
    simp only[aV,e,hq]; exact aN.pure _
   ·refine ay hh (a:=.bq e' (j+i*bl+off)) (.inr (by simp only[R]; exact⟨.bq e' (j+off),sU h1 (.inr ⟨_,_,rfl,rfl⟩),h2,.inr ⟨_,_,rfl,by rw[Nat.add_right_comm]⟩⟩)) (rd:=[]) ?_ h
    simp only[aV,e,hq]; exact aN.pure _
  ·simp[Tr.run]at h
 |field s x f=>
  simp only at h
  have hx:=cm x
  split at h
  ·rename_i off m l hf he
   obtain⟨q,hq,e9,iG⟩:=hQ.Q9 hf
   rw[he]at hx
   have ic:=hx.live rfl
   obtain⟨v,hv,hk⟩:=nN h
   rw[←e9,←iG]at hv
   obtain⟨c,hc,hr⟩:=R.part ic hv
   simp only[R]at ic
   obtain⟨l',e,_⟩:=ic
   refine ay hh (.inr hr) (rd:=[]) ?_ hk
   rw[e]at hc
   simp only[aV,e,hq,hc]; exact aN.pure _
  ·simp[Tr.run]at h
 |indexAddr t x ix=>
  simp only at h
  obtain⟨v,b,hb,hv,hk⟩:=BU hT hQ hh (cm x) (cm ix) h
  refine ay hh hv (rd:=[]) ?_ hk
  simp only[aV,hb]
  exact aN.pure _
 |index t x ix=>
  simp only at h
  obtain⟨v,b,hb,hv,hk⟩:=K8 hQ (cm x) (cm ix) h
  refine ay hh hv (rd:=[]) ?_ hk
  simp only[aV,hb]
  exact aN.pure _
 |makeMap t x=>
  simp only at h
  have ho:N5 T H (x.map ev) (x.map Hk):=by
   cases x with
   |none=>trivial
   |some o=>exact cm o
  have:=Gs (T:=T) hQ hh hn ho h
  exact this
 |lookup t x ix c=>
  simp only at h
  exact Ix hT hQ hZ hh (cm x) (cm ix) h
 |mapUpdate t x k v=>
  simp only at h
  exact BW hT hQ hh (cm x) (cm k) (cm v) h
 |extract t ix=>
  simp only at h
  have hx:=cm t
  split at h
  ·rename_i l he
   rw[he]at hx
   have ic:=hx.live rfl
   simp only[R]at ic
   obtain⟨l',e,hl⟩:=ic
   obtain⟨v,hv,hk⟩:=nN h
   obtain⟨b,hb,hr⟩:=aE.get (bc.1 hl) hv
   refine ay hh (.inr hr) (rd:=[]) ?_ hk
   simp only[aV,e,hb]; exact aN.pure _
  ·simp[Tr.run]at h
 |call c=>
  obtain⟨callee,args,rb⟩:=c
  cases callee with
  |builtin b=>exact Gq hT hQ hh hn (mO cm args.toList) h
  |_=>simp[Tr.run]at h
 |_=>simp[Tr.run]at h
end
end Go.PI
end
section
/- PS, part K: by value, frozen, and calls of which an answer is known. -/
namespace Go.PI
variable {T:eh}{ρ:Type}
mutual
def lX:AV→Bool
 |.lit v=>match v with
  |.slice none 0 0=>false
  |_=>true
 |.agg l|.kC l=>qv l
 |.jQ _ v=>lX v
 |.jP _ f c=>qv f&&qv c
 |_=>true
def qv:List AV→Bool
 |[]=>true
 |x::xs=>lX x&&qv xs
end
section
variable {H:aq T.den}{hp:ak}{r:ρ}
mutual
theorem R.flat:∀ {v:SV T.den} {a:AV},R T H v a→lX a=true→yg v=flat a
 |.dead,a,h,_=>by simp[R]at h
 |.hole,a,h,_=>by simp only[R]at h; subst h; rfl
 |.lit v,a,h,_=>by simp only[R]at h; subst h; rfl
 |.agg l,a,h,hn=>by
  simp only[R]at h
  obtain⟨l',rfl,h2⟩:=h
  simp only[lX]at hn
  simp only[yg,Go.PI.flat]; exact RL.flat h2 hn
 |.kC l,a,h,hn=>by
  simp only[R]at h
  obtain⟨l',rfl,h2⟩:=h
  simp only[lX]at hn
  simp only[yg,Go.PI.flat]; exact RL.flat h2 hn
 |.sl l,a,h,_=>by
  simp only[R]at h
  obtain⟨l',rfl,h2⟩:=h
  rfl
 |.jN t l,a,h,hn=>by
  simp only[R]at h
  rcases h with ⟨l',rfl,_⟩|⟨_,rfl⟩
  ·rfl
  ·simp[lX]at hn
 |.bq e j,a,h,_=>by
  simp only[R]at h
  obtain⟨e',rfl,h2⟩:=h
  rfl
 |.ref n c i j,a,h,_=>by
  simp only[R]at h
  obtain⟨ax,rfl,h2⟩:=h
  rfl
 |.jw n c i j ln cp,a,h,_=>by
  simp only[R]at h
  obtain⟨ax,rfl,h2⟩:=h
  rfl
 |.bw esz n c rg cap,a,h,_=>by
  simp only[R]at h
  obtain⟨ax,h1,h2⟩:=h
  rcases rg with _|⟨off,len⟩<;>simp only at h2<;>subst h2<;>rfl
 |.jP fn f c,a,h,hn=>by
  simp only[R]at h
  obtain⟨f',c',rfl,h2,h3⟩:=h
  rfl
 |.jQ t v,a,h,hn=>by
  simp only[R]at h
  obtain⟨v',rfl,h2⟩:=h
  simp only[lX]at hn
  simp only[yg,Go.PI.flat]; exact R.flat h2 hn
 |.zj t l c b,a,h,hn=>by
  simp only[R]at h
  rcases h with ⟨_,l',rfl,_⟩|⟨_,_,rfl|rfl⟩
  ·rfl
  ·rfl
  ·simp[lX]at hn
 |.nz,a,h,hn=>by
  simp only[R]at h
  subst h
  rfl
 |.mp y n,a,h,_=>by
  simp only[R]at h
  obtain⟨rfl,_⟩:=h
  rfl
 |.uQ v s len i,a,h,_=>by
  simp only[R]at h
  obtain⟨a0,_,_,h2⟩:=h
  rcases h2 with ⟨n,ax,k,j,rfl,rfl⟩|⟨e,j,rfl,rfl⟩<;>rfl
theorem RL.flat:∀ {l:List (SV T.den)} {m:List AV},RL T H l m→qv m=true→DW l=xH m
 |[],[],_,_=>rfl
 |x::xs,y::ys,h,hn=>by
  simp only[RL]at h
  simp only[qv,Bool.and_eq_true]at hn
  simp only[DW,xH]; rw[R.flat h.1 hn.1,RL.flat h.2 hn.2]
 |[],_::_,h,_=>by simp[RL]at h
 |_::_,[],h,_=>by simp[RL]at h
end
theorem qw{den:Nat→Type}:∀ {l:List (SV den)} {i:Nat} {e:SV den},aD l=true→l[i]?=some e→aM e=true
 |[],_,_,_,h=>by simp at h
 |x::xs,0,e,hc,h=>by
  simp_all[aD]
 |x::xs,i+1,e,hc,h=>by
  simp only[aD,Bool.and_eq_true]at hc
  simp only[List.getElem?_cons_succ]at h
  exact qw hc.2 h
theorem qx[ag](hh:RH T H hp):∀ k:Nat,
  (∀ (v:SV T.den) (a:AV) (K:SV T.den→List Nat→Tr ρ),R T H v a→(gY T H k v K).run=some r →
    ∃ v' rd a',aN hp (bn k a) a' rd∧R T H v' a'∧(lX a'=true∧aM v'=true)∧(K v' rd).run=some r) ∧
  (∀ (l:List (SV T.den)) (m:List AV) (K:List (SV T.den)→List Nat→Tr ρ),RL T H l m→(gZ T H k l K).run=some r →
    ∃ l' rd m',aN hp (ba k m) m' rd∧RL T H l' m'∧(qv m'=true∧aD l'=true)∧l'.length=l.length∧(K l' rd).run=some r)
 |0=>⟨fun v a K _ h=>by simp[gY,Tr.run]at h,fun l m K _ h=>by simp[gZ,Tr.run]at h⟩
 |k+1=>by
  obtain⟨ihv,UA⟩:=qx hh k
  refine⟨fun v a K hr h=>?_,fun l m K hr h=>?_⟩
  ·cases v with
   |dead=>simp[R]at hr
   |hole=>simp[gY,Tr.run]at h
   |lit v=>
    simp only[R]at hr
    subst hr
    simp only[gY]at h
    split at h
    ·exact⟨_,_,.sl [],aN.pure _,by simp[R,RL,aD],⟨rfl,rfl⟩,h⟩
    ·rename_i hv
     refine⟨_,_,.lit v,?_,by simp[R],⟨?_,rfl⟩,h⟩
     ·simp only[bn]
      exact aN.pure _
     ·simp only[lX]
   |agg l=>
    simp only[R]at hr
    obtain⟨l',rfl,hl⟩:=hr
    simp only[gY]at h
    obtain⟨l2,rd,m2,h1,h2,h3,_,h4⟩:=UA _ _ _ hl h
    refine⟨_,_,.agg m2,?_,by simp only[R]; exact⟨_,rfl,h2⟩,⟨by simpa only[lX] using h3.1,by simpa only[aM] using h3.2⟩,h4⟩
    simp only[bn]
    exact aN.mono (aN.bind h1 (aN.pure _)) (fun _ h=>by simpa using h)
   |kC l=>
    simp only[R]at hr
    obtain⟨l',rfl,hl⟩:=hr
    simp only[gY]at h
    obtain⟨l2,rd,m2,h1,h2,h3,_,h4⟩:=UA _ _ _ hl h
    refine⟨_,_,.kC m2,?_,by simp only[R]; exact⟨_,rfl,h2⟩,⟨by simpa only[lX] using h3.1,by simpa only[aM] using h3.2⟩,h4⟩
    simp only[bn]
    exact aN.mono (aN.bind h1 (aN.pure _)) (fun _ h=>by simpa using h)
   |sl l=>
    have oO:=hr
    simp only[R]at hr
    obtain⟨l',rfl,hl⟩:=hr
    simp only[gY]at h
    exact⟨_,_,.sl l',aN.pure _,oO,⟨rfl,rfl⟩,h⟩
   |jN t l=>
    have oO:=hr
    simp only[R]at hr
    simp only[gY]at h
    rcases hr with ⟨l',rfl,hl⟩|⟨rfl,rfl⟩
    ·exact⟨_,_,.sl l',aN.pure _,oO,⟨rfl,rfl⟩,h⟩
    ·exact⟨_,_,.sl [],aN.pure _,by simp only[R]; exact .inl ⟨[],rfl,trivial⟩,⟨rfl,rfl⟩,h⟩
   |bq e j=>
    have oO:=hr
    simp only[R]at hr
    obtain⟨e',rfl,he⟩:=hr
    simp only[gY]at h
    exact⟨_,_,.bq e' j,aN.pure _,oO,⟨rfl,rfl⟩,h⟩
   |ref n c i j=>
    simp only[R]at hr
    obtain⟨ax,rfl,hv⟩:=hr
    simp only[gY]at h
    split at h
    case h_2=>simp[Tr.run]at h
    rename_i g cl f cur es ho
    obtain⟨o,dJ,eD⟩:=hh.obj ho
    obtain⟨es',rfl,cZ,tg⟩:=eD
    split at h
    case h_2=>simp[Tr.run]at h
    rename_i e hc he
    have cI:=hv.arr hh ho hc
    simp only[aK.len]at cI
    have hl:=cZ.length
    obtain⟨e2,Aq,Hi⟩:=aE.get (bc.1 cZ) he
    cases cl with
    |true=>
     simp only at h
     refine⟨_,_,.bq e2 j,?_,by simp only[R]; exact⟨_,rfl,Hi,qw (tg rfl) he⟩,⟨rfl,rfl⟩,h⟩
     simp only[bn]
     refine aN.mono (aN.bind (aN.arr dJ (by omega)) ?_) (rd:=[n]++[]) (fun _ h=>by simpa using h)
     simp only[Aq]
     simp only[if_true]
     exact aN.pure _
    |false=>
     simp only at h
     obtain⟨v2,rd,a2,h1,h2,h3,h⟩:=ihv _ _ _ Hi h
     refine⟨_,_,.bq a2 j,?_,by simp only[R]; exact⟨_,rfl,h2,h3.2⟩,⟨rfl,rfl⟩,h⟩
     simp only[bn]
     refine aN.mono (aN.bind (aN.arr dJ (by omega)) (rd':=rd) ?_) (fun _ h=>by simpa using h)
     simp only[Aq,Bool.false_eq_true,if_false]
     exact aN.mono (aN.bind h1 (aN.pure _)) (fun _ h=>by simpa using h)
   |jw n c i j ln cp=>
    simp only[R]at hr
    obtain⟨ax,rfl,hv⟩:=hr
    simp only[gY]at h
    split at h
    case h_2=>simp[Tr.run]at h
    rename_i g cl f cur es ho
    obtain⟨o,dJ,eD⟩:=hh.obj ho
    obtain⟨es',rfl,cZ,tg⟩:=eD
    split at h
    case h_2=>simp[Tr.run]at h
    rename_i cs hc he
    have cI:=hv.arr hh ho hc
    simp only[aK.len]at cI
    have hl:=cZ.length
    obtain⟨e2,Aq,Hi⟩:=aE.get (bc.1 cZ) he
    simp only[R]at Hi
    obtain⟨nQ,rfl,wF⟩:=Hi
    have n4:=wF.length
    split at h
    case h_2=>simp[Tr.run]at h
    rename_i hle
    simp only[Bool.and_eq_true,decide_eq_true_eq]at hle
    have JZ:RL T H ((cs.drop j).take ln) ((nQ.drop j).take ln):=bc.2 (((bc.1 wF).drop j).take ln)
    cases cl with
    |true=>
     simp only at h
     have pe:aD cs=true:=by
      have:=qw (tg rfl) he
      simpa only[aM] using this
     refine⟨_,_,.sl ((nQ.drop j).take ln),?_,by simp only[R]; exact⟨_,rfl,JZ,oF pe _ _⟩,⟨rfl,rfl⟩,h⟩
     simp only[bn]
     refine aN.mono (aN.bind (aN.arr dJ (by omega)) ?_) (rd:=[n]++[]) (fun _ h=>by simpa using h)
     simp only[Aq]
     rw[if_pos ⟨hle.1,by omega⟩]
     simp only[if_true]
     exact aN.pure _
    |false=>
     simp only at h
     obtain⟨l2,rd,m2,h1,h2,h3,_,h⟩:=UA _ _ _ JZ h
     refine⟨_,_,.sl m2,?_,by simp only[R]; exact⟨_,rfl,h2,h3.2⟩,⟨rfl,rfl⟩,h⟩
     simp only[bn]
     refine aN.mono (aN.bind (aN.arr dJ (by omega)) (rd':=rd) ?_) (fun _ h=>by simpa using h)
     simp only[Aq]
     rw[if_pos ⟨hle.1,by omega⟩]
     simp only[Bool.false_eq_true,if_false]
     exact aN.mono (aN.bind h1 (aN.pure _)) (fun _ h=>by simpa using h)
   |jP fn f c=>
    simp only[R]at hr
    obtain⟨f',c',rfl,hf,hc⟩:=hr
    simp only[gY]at h
    obtain⟨l2,rd,m2,h1,h2,h3,_,h⟩:=UA _ _ _ hf h
    obtain⟨l3,rd3,m3,g1,g2,g3,_,h⟩:=UA _ _ _ hc h
    refine⟨_,_,.jP fn m2 m3,?_,by simp only[R]; exact⟨_,_,rfl,h2,g2⟩,⟨by simp[lX,h3.1,g3.1],by simp[aM,h3.2,g3.2]⟩,h⟩
    simp only[bn]
    exact aN.mono (aN.bind h1 (aN.bind g1 (aN.pure _))) (fun _ h=>by simpa using h)
   |jQ t v=>
    simp only[R]at hr
    obtain⟨v',rfl,hv⟩:=hr
    simp only[gY]at h
    obtain⟨v2,rd,a2,h1,h2,h3,h⟩:=ihv _ _ _ hv h
    refine⟨_,_,.jQ t a2,?_,by simp only[R]; exact⟨_,rfl,h2⟩,⟨by simpa only[lX] using h3.1,by simpa only[aM] using h3.2⟩,h⟩
    simp only[bn]
    exact aN.mono (aN.bind h1 (aN.pure _)) (fun _ h=>by simpa using h)
   |bw esz n c rg cap=>
    simp only[R]at hr
    obtain⟨ax,hv,ha⟩:=hr
    simp only[gY]at h
    split at h
    ·rename_i g cl f cur es ho
     obtain⟨o,dJ,eD⟩:=hh.obj ho
     obtain⟨es',rfl,cZ,tg⟩:=eD
     split at h
     case h_2=>simp[Tr.run]at h
     rename_i hc
     have cI:=hv.arr hh ho hc
     simp only[aK.len]at cI
     have hl:=cZ.length
     have key:∀ (off len:Nat) (part:List (SV T.den)) (h:(match cl with
        |true=>K (.sl part) [n]
        |false=>gZ T H k part fun l rd=>K (.sl l) (n::rd)).run=some r),part=(es.drop off).take len→off+len≤es.length →
       ∃ v' rd a',aN hp (bn (k+1) (.bw esz n ax off len cap)) a' rd∧R T H v' a'∧(lX a'=true∧aM v'=true)∧(K v' rd).run=some r:=by
      intro off len part h Sy hle
      have JZ:RL T H part ((es'.drop off).take len):=by subst Sy; exact bc.2 (((bc.1 cZ).drop off).take len)
      cases cl with
      |true=>
       simp only at h
       refine⟨_,_,.sl ((es'.drop off).take len),?_,by simp only[R]; exact⟨_,rfl,JZ,by subst Sy; exact oF (tg rfl) _ _⟩,⟨rfl,rfl⟩,h⟩
       simp only[bn]
       refine aN.mono (aN.bind (aN.arr dJ (by omega)) ?_) (rd:=[n]++[]) (fun _ h=>by simpa using h)
       simp only
       rw[if_pos (by omega)]
       simp only[if_true]
       exact aN.pure _
      |false=>
       simp only at h
       obtain⟨l2,rd,m2,h1,h2,h3,_,h⟩:=UA _ _ _ JZ h
       refine⟨_,_,.sl m2,?_,by simp only[R]; exact⟨_,rfl,h2,h3.2⟩,⟨rfl,rfl⟩,h⟩
       simp only[bn]
       refine aN.mono (aN.bind (aN.arr dJ (by omega)) (rd':=rd) ?_) (fun _ h=>by simpa using h)
       simp only
       rw[if_pos (by omega)]
       simp only[Bool.false_eq_true,if_false]
       exact aN.mono (aN.bind h1 (aN.pure _)) (fun _ h=>by simpa using h)
     split at h
     ·simp only at ha
      subst ha
      exact key 0 ax es h (by simp only[List.drop_zero]; rw[List.take_of_length_le (by omega)]) (by omega)
     ·grind[Tr.run]
    ·rename_i g f cur t l ho
     obtain⟨o,dJ,eD⟩:=hh.obj ho
     obtain⟨es',rfl,cZ⟩:=eD
     split at h
     case h_2=>simp[Tr.run]at h
     rename_i hc
     have cI:=hv.arr hh ho hc
     simp only[aK.len]at cI
     have hl:=cZ.length
     have key:∀ off len,off+len≤l.length→aN hp (bn (k+1) (.bw esz n ax off len cap)) (.sl ((es'.drop off).take len)) [n]:=by
      intro off len hle
      simp only[bn]
      refine aN.mono (aN.bind (aN.arr dJ (by omega)) (rd':=[]) ?_) (fun _ h=>by simpa using h)
      simp only
      rw[if_pos (by omega)]
      simp only[if_true]
      exact aN.pure _
     split at h
     ·simp only at ha
      subst ha
      refine⟨_,_,_,key 0 ax (by omega),?_,⟨rfl,rfl⟩,h⟩
      simp only[R,List.drop_zero]
      rw[List.take_of_length_le (by omega)]
      exact .inl ⟨_,rfl,cZ⟩
     ·rename_i off len
      simp only at ha
      subst ha
      obtain⟨hle,h⟩:=bp h
      simp only[decide_eq_true_eq]at hle
      refine⟨_,_,_,key off len hle,?_,⟨rfl,rfl⟩,h⟩
      simp only[R]
      exact .inl ⟨_,rfl,(cZ.drop off).take len⟩
    ·simp[Tr.run]at h
   |mp y n=>simp[gY,Tr.run]at h
   |zj t l c b=>
    simp only[R]at hr
    simp only[gY]at h
    rcases hr with ⟨_,l',rfl,hl⟩|⟨_,rfl,rfl|rfl⟩
    ·exact⟨_,_,.sl l',by simp only[bn]; exact aN.pure _,by simp only[R]; exact .inl ⟨_,rfl,hl⟩,⟨rfl,rfl⟩,h⟩
    ·exact⟨_,_,.sl [],by simp only[bn]; exact aN.pure _,by simp only[R]; exact .inl ⟨_,rfl,trivial⟩,⟨rfl,rfl⟩,h⟩
    ·exact⟨_,_,.sl [],by simp only[bn]; exact aN.pure _,by simp only[R]; exact .inl ⟨_,rfl,trivial⟩,⟨rfl,rfl⟩,h⟩
   |nz=>
    simp only[R]at hr
    simp only[gY]at h
    subst hr
    exact⟨_,_,.sl [],by simp only[bn]; exact aN.pure _,by simp only[R]; exact⟨[],rfl,trivial,rfl⟩,⟨rfl,rfl⟩,h⟩
   |uQ v s len i=>simp[gY,Tr.run]at h
  ·cases l with
   |nil=>
    cases m with
    |nil=>
     simp only[gZ]at h
     exact⟨[],[],[],aN.pure _,by simp[RL],⟨rfl,rfl⟩,rfl,h⟩
    |cons=>simp[RL]at hr
   |cons x xs=>
    cases m with
    |nil=>simp[RL]at hr
    |cons y ys=>
     simp only[RL]at hr
     simp only[gZ]at h
     obtain⟨v2,rd,a2,h1,h2,h3,h⟩:=ihv _ _ _ hr.1 h
     obtain⟨l2,rd2,m2,g1,g2,g3,g4,h⟩:=UA _ _ _ hr.2 h
     refine⟨_,_,a2::m2,?_,by simp only[RL]; exact⟨h2,g2⟩,⟨by simp[qv,h3.1,g3.1],by simp[aD,h3.2,g3.2]⟩,by simp[g4],h⟩
     simp only[ba]
     exact aN.mono (aN.bind h1 (aN.bind g1 (aN.pure _))) (fun _ h=>by simpa using h)
theorem Ob[ag](hh:RH T H hp){k:Nat}{v:SV T.den}{a:AV}{K:SV T.den→List Nat→Tr ρ}(hr:R T H v a)(h:(gY T H k v K).run=some r):
  ∃ v' rd a',aN hp (bn k a) a' rd∧R T H v' a'∧(lX a'=true∧aM v'=true)∧(K v' rd).run=some r:=(qx hh k).1 v a K hr h
theorem xz[ag](hh:RH T H hp){k:Nat}{l:List (SV T.den)}{m:List AV}{K:List (SV T.den)→List Nat→Tr ρ}(hr:RL T H l m)(h:(gZ T H k l K).run=some r):
  ∃ l' rd m',aN hp (ba k m) m' rd∧RL T H l' m'∧(qv m'=true∧aD l'=true)∧l'.length=l.length∧(K l' rd).run=some r:=(qx hh k).2 l m K hr h
def FW(T:eh)(H:aq T.den):List (Nat×aK T.den)→List (Nat×aY)→Prop:=
 aE fun p q=>p.1=q.1∧RO T H p.2 q.2∧∃ o,H[p.1]?=some (some o)∧p.2.cur=o.cur∧p.2.len=o.len∧o.isRec=false∧p.2.isRec=false
theorem qy[ag](hh:RH T H hp):∀ {k:Nat} {ns:List Nat} {K:List (Nat×aK T.den)→List Nat→Tr ρ},(oD T H k ns K).run=some r →
  ∃ wr rd w,aN hp (eU k ns) w rd∧FW T H wr w∧(K wr rd).run=some r
 |0,ns,K,h=>by simp[oD,Tr.run]at h
 |k+1,[],K,h=>by
  simp only[oD]at h
  exact⟨[],[],[],aN.pure _,trivial,h⟩
 |k+1,n::ns,K,h=>by
  simp only[oD]at h
  split at h
  ·rename_i g cl f cur es ho
   obtain⟨o,dJ,eD⟩:=hh.obj ho
   obtain⟨es',rfl,cZ,tg⟩:=eD
   split at h
   ·obtain⟨wr,rd,w,h1,h2,h⟩:=qy hh h
    refine⟨(n,.arr g true true cur es)::wr,n::rd,(n,.arr g true true es')::w,?_,⟨⟨rfl,⟨_,rfl,cZ,tg⟩,_,ho,rfl,rfl,rfl,rfl⟩,h2⟩,h⟩
    simp only[eU]
    refine aN.get dJ ?_
    simp only[if_true]
    exact aN.mono (aN.bind h1 (aN.pure _)) (fun _ h=>by simpa using h)
   ·obtain⟨V3,rd,m2,g1,g2,g3,g4,h⟩:=xz hh cZ h
    obtain⟨wr,rd2,w,h1,h2,h⟩:=qy hh h
    rw[RL.names cZ]at h1
    refine⟨(n,.arr g true true cur V3)::wr,n::rd++rd2,(n,.arr g true true m2)::w,?_,⟨⟨rfl,⟨_,rfl,g2,fun _=>g3.2⟩,_,ho,rfl,by simp[aK.len,g4],rfl,rfl⟩,h2⟩,h⟩
    simp only[eU]
    refine aN.get dJ ?_
    simp only[Bool.false_eq_true,if_false]
    exact aN.mono (aN.bind g1 (aN.bind h1 (aN.pure _))) (fun _ h=>by simpa using h)
  ·rename_i g f cur t l ho
   obtain⟨o,dJ,eD⟩:=hh.obj ho
   obtain⟨es',rfl,cZ⟩:=eD
   obtain⟨wr,rd,w,h1,h2,h⟩:=qy hh h
   refine⟨(n,.cD g true cur t l)::wr,n::rd,(n,.arr g true true es')::w,?_,⟨⟨rfl,⟨_,rfl,cZ⟩,_,ho,rfl,rfl,rfl,rfl⟩,h2⟩,h⟩
   simp only[eU]
   refine aN.get dJ ?_
   simp only[if_true]
   exact aN.mono (aN.bind h1 (aN.pure _)) (fun _ h=>by simpa using h)
  ·simp[Tr.run]at h
theorem FW.names:∀ {wr:List (Nat×aK T.den)} {w:List (Nat×aY)},FW T H wr w→wr.map (·.1)=w.map (·.1)
 |[],[],_=>rfl
 |_::_,_::_,h=>by simp only[List.map_cons]; rw[h.1.1,FW.names h.2]
 |[],_::_,h=>h.elim
 |_::_,[],h=>h.elim
theorem FW.apply[ag]:∀ {wr:List (Nat×aK T.den)} {w:List (Nat×aY)} {H:aq T.den} {hp:ak},RH T H hp→FW T H wr w →
  ej H (bu H wr)∧RH T (bu H wr) (av hp w)∧(∀ n:Nat,n∉wr.map (·.1)→(bu H wr)[n]?=H[n]?)∧(bu H wr).length=H.length
 |[],[],H,hp,hh,_=>⟨ej.refl _,hh,fun _ _=>rfl,rfl⟩
 |(n,o')::wr,(n',a')::w,H,hp,hh,h=>by
  obtain⟨⟨e1,h2,o,h3,h4,h5,xM,M5⟩,h6⟩:=h
  simp only at e1 h2 h3 h4 h5 xM M5
  subst e1
  obtain⟨hg,Rg⟩:=hh.Wa h3 (o':=o') (by omega) (fun _=>h5) h2
  have cG:=(List.getElem?_eq_some_iff.1 h3).1
  have e1:cd H n o'=H.set n (some o'):=by simp[cd]; omega
  have e2:setObj hp n a'=hp.set n (some a'):=by simp[setObj]; have:=hh.length; omega
  have h7:FW T (H.set n (some o')) wr w:=by
   refine aE.mono (fun p q PN=>?_) h6
   obtain⟨q1,q2,o2,q3,q4,q5,q6,q7⟩:=PN
   refine⟨q1,RO.mono hg q2,?_⟩
   by_cases e:p.1=n
   ·simp_all
   ·grind
  obtain⟨i1,i2,i3,i4⟩:=FW.apply Rg h7
  simp only[bu,av]
  rw[e1,e2]
  refine⟨hg.trans i1,i2,fun m hm=>?_,by rw[i4]; simp⟩
  simp only[List.map_cons,List.mem_cons,not_or]at hm
  rw[i3 m hm.2,List.getElem?_set_ne (Ne.symm hm.1)]
 |[],_::_,_,_,_,h=>h.elim
 |_::_,[],_,_,_,h=>h.elim
theorem FW.N2:∀ {wr:List (Nat×aK T.den)} {w:List (Nat×aY)},FW T H wr w→∀ n,recAt H n=true→n∉wr.map (·.1)
 |[],[],_,n,_=>by simp
 |(m,o')::wr,_::w,h,n,hn=>by
  obtain⟨⟨_,_,o,h3,_,_,xM,_⟩,h6⟩:=h
  simp only at h3
  simp only[List.map_cons,List.mem_cons,not_or]
  refine⟨?_,FW.N2 h6 n hn⟩
  rintro rfl
  simp only[recAt,h3,xM,Bool.false_eq_true]at hn
 |[],_::_,h,_,_=>h.elim
 |_::_,[],h,_,_=>h.elim
theorem FW.re[ag]{wr:List (Nat×aK T.den)}{w:List (Nat×aY)}(hh:RH T H hp)(h:FW T H wr w){v:SV T.den}{a:AV}(hv:∀ H,R T H v a):RE T H hp v wr ⟨a,w⟩:=by
 obtain⟨h1,h2,h3,h4⟩:=FW.apply hh h
 exact⟨.inr (hv _),h2,h1,fun q hq=>by rw[h.names]; exact List.mem_map_of_mem hq,fun n hn _=>h3 n hn,by rw[h4]; exact Nat.le_refl _,h.N2⟩
end
def Sz(T:eh)(v:TV T.den)(a:AV):Prop:=
 match v with
 |⟨.v t,x⟩=>T.rp t x a
 |⟨.l t,l⟩=>∃ l',a=.sl l'∧aE (T.rp t) l l'
 |⟨.m _ _,_⟩=>False
theorem XU(hT:T.Ok){v:TV T.den}{a:AV}(h:Sz T v a)(H:aq T.den):R T H (Xt T v) a:=by
 obtain⟨t,x⟩:=v
 cases t with
 |v t=>exact hT.up _ _ _ H h
 |l t=>
  obtain⟨l',rfl,hl⟩:=h
  simp only[Xt,R]
  exact .inl ⟨l',rfl,hl⟩
 |m kk t=>exact h.elim
theorem Oc[ag](hT:T.Ok)(H:aq T.den):∀ {l:List (TV T.den)} {m:List AV},aE (Sz T) l m→RL T H (Ue T l) m
 |[],[],_=>by simp[Ue,RL]
 |v::vs,a::as,h=>by
  simp only[Ue,List.map_cons,RL]
  exact⟨XU hT h.1 H,Oc hT H h.2⟩
 |[],_::_,h=>h.elim
 |_::_,[],h=>h.elim
theorem J0{H:aq T.den}{l:List (SV T.den)}{m:List AV}(h:RL T H l m):R T H (tf l) (cY m):=by
 match l,m,h with
 |[],[],h=>simp_all[tf,cY,R]
 |[x],[y],h=>simp only[RL]at h; exact h.1
 |x::x'::xs,y::y'::ys,h=>simp_all[tf,cY,R]
 |[],_::_,h=>simp[RL]at h
 |_::_,[],h=>simp[RL]at h
 |[x],_::_::_,h=>simp[RL]at h
 |_::_::_,[y],h=>simp[RL]at h
theorem Iz(hT:T.Ok){H:aq T.den}{ts:List Nat}:∀ {l:List (SV T.den)} {m:List AV} {xs:List (TV T.den)},RL T H l m→KX T ts l=some xs→aE (Sz T) xs m:=by
 induction ts with
 |nil=>
  intro l m xs hr h
  cases l with
  |cons=>simp[KX]at h
  |nil=>
   cases m with
   |cons=>simp[RL]at hr
   |nil=>
    simp[KX]at h
    subst h
    trivial
 |cons t ts ih=>
  intro l m xs hr h
  cases l with
  |nil=>simp[KX]at h
  |cons v vs=>
   cases m with
   |nil=>simp[RL]at hr
   |cons a as=>
    simp only[RL]at hr
    simp only[KX,Option.bind_eq_some_iff,Option.map_eq_some_iff]at h
    obtain⟨x,h1,ys,h2,rfl⟩:=h
    exact⟨hT.dn _ _ _ _ H h1 hr.1,ih hr.2 h2⟩
theorem J1{den:Nat→Type}{v:TV den}{t:VT}{x:t.den den}(h:v.as t=some x):v=⟨t,x⟩:=by
 obtain⟨t',y⟩:=v
 unfold TV.as at h
 split at h
 ·grind
 ·simp at h
theorem qz[ag]{den:Nat→Type}:∀ (ts:List VT) (l:List (TV den)) (x:HL den ts),xe ts l=some x→gV ts x=l
 |[],l,x,h=>by
  cases l with
  |nil=>rfl
  |cons=>cases h
 |[t],l,x,h=>by
  match l,h with
  |[v],h=>
   have h':v.as t=some x:=h
   rw[J1 h']; rfl
  |[],h=>cases h
  |_::_::_,h=>cases h
 |t::u::us,l,x,h=>by
  match l,h with
  |[],h=>cases h
  |v::l',h=>
   change VT.den den t×HL den (u::us) at x
   have h':((v.as t).bind fun x=>(xe (u::us) l').map fun y=>(x,y))=some x:=h
   obtain⟨a,h1,h2⟩:=Option.bind_eq_some_iff.1 h'
   obtain⟨b,h3,h4⟩:=Option.map_eq_some_iff.1 h2
   subst h4
   have:=qz _ _ _ h3
   rw[J1 h1,←this]
   rfl
noncomputable def Od[ag](C:Ctx)(g:FuncId)(as:List AV):Option (AV×ak):=
 match C.kT g with
 |some h=>(h as).map fun r=>(r,[])
 |none=>match jk C g as [] with
  |some (.val v,eV)=>some (v,eV)
  |_=>none
noncomputable def UB[ag](C:Ctx)(g:FuncId)(as:List AV):Option (AV×ak):=
 match C.gM g with
 |some h=>h as
 |none=>match jk C g as [] with
  |some (.val v,eV)=>some (v,eV)
  |_=>none
structure CV[ag](C:Ctx)(T:eh)(g:FuncId)(σ:yh T):Prop where
 UC:∀ (x:HL T.den (σ.args.map .v)) (as:List AV) (l:List (T.den σ.el)),aE (Sz T) (gV _ x) as→σ.fn x=some l →
  ∃ n cl es eV,UB C g as=some (.bw σ.esz n es.length 0 es.length none,eV)∧eV[n]?=some (some (.arr true cl false es))∧es.all flat=true∧aE (T.rp σ.el) l es
structure vZ[ag](C:Ctx)(T:eh)(g:FuncId)(σ:yT T):Prop where
 kind:C.kind g=.pure
 UC:∀ (x:HL T.den (σ.args.map .v)) (as:List AV) (y:HL T.den (σ.res.map .v)),aE (Sz T) (gV _ x) as→σ.fn x=some y →
  ∃ v eV l,Od C g as=some (v,eV)∧(bn 1000 v).run eV=some (cY l)∧lX (cY l)=true∧aE (Sz T) (gV _ y) l
section
variable {H:aq T.den}{hp:ak}{r:ρ}
theorem J2[ag](hT:T.Ok){C:Ctx}{g:FuncId}{σ:yh T}(hσ:CV C T g σ)(hh:RH T H hp){nm:Nat}(hn:nm=H.length∨H[nm]?=some none){args:List (SV T.den)}{as:List AV}(ha:RL T H args as){K:EK T ρ}
  (h:(Q3 T σ nm H args K).run=some r) :
  ∃ v wr rd e lg,HB C nm g as hp=some (e,lg)∧(∀ n,n∈lg→n∈rd)∧RE T H hp v wr e∧(K v wr rd).run=some r:=by
 unfold Q3 at h
 obtain⟨qf,rd,Zx,h1,h2,_,_,h⟩:=xz hh ha h
 split at h
 case h_2=>simp[Tr.run]at h
 rename_i x hx
 rw[Option.bind_eq_some_iff]at hx
 obtain⟨l,hl,hx⟩:=hx
 obtain⟨y,hy,h⟩:=bind_some h
 have Hj:=Iz hT h2 hl
 rw[←qz _ _ _ hx]at Hj
 obtain⟨n,cl,es,eV,qY,xL,SA,dL⟩:=hσ.UC x Zx y Hj hy
 have hlen:y.length=es.length:=aE.length dL
 have Mt:(ee nm (.bw σ.esz n es.length 0 es.length none) eV).run hp=some ⟨.bw σ.esz nm es.length 0 es.length none,[(nm,.arr true true false es)]⟩:=by
  simp only[ee,xL,SA,decide_true,Bool.and_self]
  rfl
 have hA:HB C nm g as hp=some (⟨.bw σ.esz nm es.length 0 es.length none,[(nm,.arr true true false es)]⟩,(ba 1000 as).log hp):=by
  unfold HB
  rw[h1.1]
  simp only[Option.bind_some]
  unfold UB at qY
  cases hi:C.gM g with
  |some f=>
   simp_all
  |none=>
   rw[hi]at qY
   simp only at qY
   split at qY
   case h_2=>simp at qY
   rename_i v0 XV bz
   simp only[Option.some.injEq,Prod.mk.injEq]at qY
   obtain⟨rfl,rfl⟩:=qY
   simp only[bz,Option.bind_some,rB,Mt,Option.map_some]
 have hg:kp T H hp (RM.ret (⟨.bw σ.esz nm es.length 0 es.length none,[(nm,.arr true true false es)]⟩:ed)) (fun v wr _=>K v wr rd) r:=by
  have hv:=fU hh hn (o:=.cD true false 0 σ.el y)
  simp only[aK.cur,aK.len,hlen]at hv
  refine fT hh hn (o:=.cD true false 0 σ.el y) ⟨es,rfl,dL⟩ ?_ (aN.ret _) h
  right
  simp only[R]
  exact⟨es.length,hv,rfl⟩
 obtain⟨v,wr,rd',e,g1,g2,g3⟩:=hg
 have he:e=⟨.bw σ.esz nm es.length 0 es.length none,[(nm,.arr true true false es)]⟩:=by
  have:=g1.1
  simp only[RM.run,Option.some.injEq]at this
  exact this.symm
 subst he
 exact⟨v,wr,rd,_,_,hA,h1.2,g2,g3⟩
theorem J3[ag](hT:T.Ok){C:Ctx}{g:FuncId}{σ:yT T}(hσ:vZ C T g σ)(hh:RH T H hp){args:List (SV T.den)}{as:List AV}(ha:RL T H args as){K:EK T ρ}(h:(Q2 T σ H args K).run=some r):
  ∃ v wr rd a w lg,Mi C g as hp=some (.val a,w)∧(∀ nm,zY C nm false hp (g,as)=some (⟨a,w⟩,lg))∧(∀ n,n∈lg→n∈rd)∧RE T H hp v wr ⟨a,w⟩∧(K v wr rd).run=some r:=by
 unfold Q2 at h
 obtain⟨qf,rd,Zx,h1,h2,_,_,h⟩:=xz hh ha h
 split at h
 case h_2=>simp[Tr.run]at h
 rename_i x hx
 rw[Option.bind_eq_some_iff]at hx
 obtain⟨l,hl,hx⟩:=hx
 obtain⟨y,hy,h⟩:=bind_some h
 have Hj:=Iz hT h2 hl
 rw[←qz _ _ _ hx]at Hj
 obtain⟨v,eV,m,qY,pM,hnn,dL⟩:=hσ.UC x Zx y Hj hy
 have hR:∀ H,R T H (tf (Ue T (gV _ y))) (cY m):=fun H=>J0 (Oc hT H dL)
 have SA:yg (tf (Ue T (gV _ y)))=flat (cY m):=R.flat (hR H) hnn
 have SB:∀ w,pA hp as (.val v,eV)=some (.val (cY m),w)→Mi C g as hp=some (.val (cY m),w)∧(∀ nm,zY C nm false hp (g,as)=some (⟨cY m,w⟩,Mq hp as (.val v,eV))):=by
  intro w hw
  unfold Od at qY
  cases hi:C.kT g with
  |some f=>
   rw[hi]at qY
   simp only[Option.map_eq_some_iff,Prod.mk.injEq]at qY
   obtain⟨r0,Hv,rfl,rfl⟩:=qY
   constructor
   ·rw[Ks g hi,h1.1]
    simp only[Option.bind_some,Hv,hw]
   ·intro nm; simp only[zY,hσ.kind,hi,h1.1,Option.bind_some,Hv,pG,hw]
  |none=>
   rw[hi]at qY
   simp only at qY
   split at qY
   case h_2=>simp at qY
   rename_i v0 XV bz
   simp only[Option.some.injEq,Prod.mk.injEq]at qY
   obtain⟨rfl,rfl⟩:=qY
   constructor
   ·rw[Qb g hi,h1.1]
    simp only[Option.bind_some,bz,hw]
   ·intro nm; simp only[zY,hσ.kind,hi,h1.1,Option.bind_some,bz,pG,hw]
 simp only at h
 split at h
 ·rename_i hf
  rw[SA]at hf
  have Bz:pA hp as (.val v,eV)=some (.val (cY m),[]):=by
   rw[Cm,pM]
   simp only[Option.bind_some,Qn,hf,cond_true]
  obtain⟨q1,q2⟩:=SB _ Bz
  refine⟨_,[],_,_,_,_,q1,q2,fun n hn=>?_,⟨.inr (hR _),hh,ej.refl _,fun q hq=>by simp at hq,fun _ _ _=>rfl,Nat.le_refl _,fun _ _ h=>by simp at h⟩,h⟩
  simp only[Mq,List.mem_append,ie,pM,hf,if_true]at hn
  rcases hn with hn|hn
  ·exact h1.2 n hn
  ·simp[Pure.pure,RM.log]at hn
 ·rename_i hf
  rw[SA]at hf
  obtain⟨wr,rd2,w,f1,f2,h⟩:=qy hh h
  rw[RL.names ha]at f1
  have Bz:pA hp as (.val v,eV)=some (.val (cY m),w):=by
   rw[Cm,pM]
   simp only[Option.bind_some,Qn,hf,cond_false,f1.1,Option.map_some]
  obtain⟨q1,q2⟩:=SB _ Bz
  refine⟨_,_,_,_,_,_,q1,q2,fun n hn=>?_,FW.re hh f2 hR,h⟩
  simp only[Mq,List.mem_append,ie,pM,hf,Bool.false_eq_true,if_false]at hn
  simp only[List.mem_append]
  rcases hn with hn|hn
  ·exact .inl (h1.2 n hn)
  ·rw[RM.fN,f1.1]at hn
   simp only[List.mem_append]at hn
   rcases hn with hn|hn
   ·exact .inr (f1.2 n hn)
   ·simp[Pure.pure,RM.log]at hn
end
end Go.PI
end
section
/- PS, part L: states, regions. -/
namespace Go.PI
variable {T:eh}{ρ:Type}
theorem Gt{v:Value}{K:Value→Tr ρ}:AL v K=K v:=by
 unfold AL
 split<;>rfl
mutual
theorem mY:∀ {v:SV T.den} {K:SV T.den→Tr ρ},ei v K=K v
 |.lit v,K=>by simp only[ei]; exact Gt
 |.agg l,K=>by simp only[ei]; exact jL
 |.kC l,K=>by simp only[ei]; exact jL
 |.sl l,K=>by simp only[ei]; exact jL
 |.bq e j,K=>by simp only[ei]; exact mY
 |.jP fn f c,K=>by simp only[ei]; rw[jL,jL]
 |.jQ t v,K=>by simp only[ei]; exact mY
 |.dead,K=>by simp only[ei]
 |.hole,K=>by simp only[ei]
 |.jN t l,K=>by simp only[ei]
 |.ref n c i j,K=>by simp only[ei]
 |.jw n c i j ln cp,K=>by simp only[ei]
 |.bw esz n c rg cap,K=>by simp only[ei]
 |.mp y n,K=>by simp only[ei]
 |.zj t l c b,K=>by simp only[ei]
 |.nz,K=>by simp only[ei]
 |.uQ v s l i,K=>by simp only[ei]; exact mY
theorem jL:∀ {l:List (SV T.den)} {K:List (SV T.den)→Tr ρ},nG l K=K l
 |[],K=>by simp only[nG]
 |x::xs,K=>by simp only[nG]; rw[mY,jL]
end
theorem K9[ag]{o:aK T.den}{K:aK T.den→Tr ρ}:NQ o K=K o:=by
 cases o with
 |arr g cl f c es=>exact jL
 |qT fn ps as bd fr=>exact jL
 |_=>rfl
theorem mZ[ag]:∀ {H:aq T.den} {K:aq T.den→Tr ρ},qt H K=K H
 |[],K=>rfl
 |none::r,K=>by simp only[qt]; exact mZ
 |some o::r,K=>by simp only[qt]; rw[K9,mZ]
theorem pY:∀ {l:List Nat} {K:List Nat→Tr ρ},uk l K=K l
 |[],K=>rfl
 |x::r,K=>by simp only[uk]; exact pY
theorem CW[ag]:∀ {l:uR T.den} {K:uR T.den→Tr ρ},D2 l K=K l
 |[],K=>rfl
 |(d,v)::r,K=>by simp only[D2]; rw[mY,CW]
theorem force_eq[ag]{s:bQ T.den}{K:bQ T.den→Tr ρ}:s.force K=K s:=by
 obtain⟨fn,n,fr,hp,wf,wh,js⟩:=s
 simp only[bQ.force]
 rw[CW,mZ,pY,pY]
theorem dw[ag]{s:bQ T.den}{dst:Option Tmp}{v:SV T.den}{wr:List (Nat×aK T.den)}{K:bQ T.den→Tr ρ}:s.gX dst v wr K=K (s.step dst v wr):=by
 obtain⟨fn,n,fr,hp,wf,wh,js⟩:=s
 have h1:∀ {K':aq T.den→List Nat→Tr ρ},Ip hp wh wr K'=K' (bu hp wr) (wr.map (·.1)++wh):=by
  intro K'
  cases wr with
  |nil=>rfl
  |cons w r=>simp only[Ip]; rw[mZ,pY]
 simp only[bQ.gX,h1]
 cases dst with
 |none=>rfl
 |some d=>
  simp only
  split
  ·rename_i hd
   simp only[bQ.step,NK,vO,hd,Q1]
  ·rename_i hd
   rw[mY]
   simp only[bQ.step,NK,vO,hd,Q1]
theorem sW{ops:Array Oper}:∀ {l:List Oper} {K:List (G×Oper)→Tr ρ},qu ops l K=K (l.map fun o=>(fL ops o,o))
 |[],K=>rfl
 |o::r,K=>by
  simp only[qu,List.map_cons]
  split<;>rename_i h<;>rw[sW,h]
theorem CX:∀ {l:List (G×Item)} {K:List (G×Item)→Tr ρ},AN l K=K l
 |[],K=>rfl
 |(g,⟨i,nm,o⟩)::r,K=>by simp only[AN]; exact CX
theorem tC[ag]{ops:Array Oper}:∀ (l:List Oper) (m i n:Nat),nI (bV i n (l.take m)) (l.map fun o=>(fL ops o,o))=(bV i n (l.take m)).map fun x=>(fL ops x.o,x)
 |[],m,i,n=>by simp[bV,nI]
 |o::r,0,i,n=>by simp[bV,nI]
 |o::r,m+1,i,n=>by
  simp only[List.take_succ_cons,bV,List.map_cons,nI]
  rw[tC]
def mn{den:Nat→Type}(js:List (Nat×m9))(H:aq den)(hp:ak):Prop:=∀ n st,cO js n=some st→recAt H n=true∧jV hp n=some st
theorem kq{den:Nat→Type}{H:aq den}{n:Nat}(h:recAt H n=true):n<H.length:=by
 grind[recAt]
theorem si{den:Nat→Type}{H H':aq den}{n:Nat}(h:H'[n]?=H[n]?):recAt H' n=recAt H n:=by unfold recAt; rw[h]
theorem pZ{hp cW:ak}{n:Nat}(h:cW[n]?=hp[n]?):jV cW n=jV hp n:=by unfold jV; rw[h]
theorem mn.Ea{den:Nat→Type}{js:List (Nat×m9)}{H H':aq den}{hp cW:ak}(h:mn js H hp)(hk:∀ n,recAt H n=true→H'[n]?=H[n]?∧cW[n]?=hp[n]?):mn js H' cW:=by
 intro n st hn
 obtain⟨h1,h2⟩:=h n st hn
 obtain⟨h3,h4⟩:=hk n h1
 exact⟨by rw[si h3]; exact h1,by rw[pZ h4]; exact h2⟩
theorem v5{n:Nat}:∀ {wr:List (Nat×aY)} {hp:ak},n<hp.length→n∉wr.map (·.1)→(av hp wr)[n]?=hp[n]?
 |[],hp,_,_=>rfl
 |(m,o)::wr,hp,hn,hm=>by
  simp only[List.map_cons,List.mem_cons,not_or]at hm
  simp only[av]
  have:n<(setObj hp m o).length∧(setObj hp m o)[n]?=hp[n]?:=by
   grind[setObj]
  rw[v5 this.1 hm.2,this.2]
theorem mn.re[ag]{js:List (Nat×m9)}{H:aq T.den}{hp:ak}(h:mn js H hp)(hh:RH T H hp){v:SV T.den}{wr:List (Nat×aK T.den)}{e:ed}(he:RE T H hp v wr e):mn js (bu H wr) (av hp e.wr):=by
 refine h.Ea fun n hn=>⟨he.Ea n (he.N2 n hn) (kq hn),v5 (by rw[←hh.length]; exact kq hn) fun hc=>?_⟩
 obtain⟨q,hq,rfl⟩:=List.mem_map.1 hc
 exact he.N2 _ hn (he.names q hq)
structure RS(T:eh)(s:bQ T.den)(st:St):Prop where
 fn:s.fn=st.fn
 n:st.fr.length=s.n
 fr:∀ t,RV T s.hp (dj s.fr t) (st.fr.getD t .undef)
 hp:RH T s.hp st.hp
 js:mn s.js s.hp st.hp
structure bx(s s':bQ T.den):Prop where
 fn:s'.fn=s.fn
 n:s'.n=s.n
 fr:∀ t,t∉s'.wf→dj s'.fr t=dj s.fr t
 wf:∀ t,t∈s.wf→t∈s'.wf
 hp:∀ n:Nat,n<s.hp.length→n∉s'.wh→s'.hp[n]?=s.hp[n]?
 wh:∀ n,n∈s.wh→n∈s'.wh
 len:s.hp.length≤s'.hp.length
 grow:ej s.hp s'.hp
theorem bx.refl[ag](s:bQ T.den):bx s s:=⟨rfl,rfl,fun _ _=>rfl,fun _ h=>h,fun _ _ _=>rfl,fun _ h=>h,Nat.le_refl _,ej.refl _⟩
theorem bx.trans[ag]{s s' uN:bQ T.den}(h:bx s s')(h':bx s' uN):bx s uN where
 fn:=h'.fn.trans h.fn
 n:=h'.n.trans h.n
 fr:=fun t ht=>by rw[h'.fr t ht,h.fr t (fun hc=>ht (h'.wf t hc))]
 wf:=fun t ht=>h'.wf t (h.wf t ht)
 hp:=fun n hn ht=>by rw[h'.hp n (Nat.lt_of_lt_of_le hn h.len) ht,h.hp n hn (fun hc=>ht (h'.wh n hc))]
 wh:=fun t ht=>h'.wh t (h.wh t ht)
 len:=Nat.le_trans h.len h'.len
 grow:=h.grow.trans h'.grow
theorem lY{n d t:Nat}{fr:uR T.den}{v:SV T.den}:dj (vO n fr d v) t=if t=d∧d<n then v else dj fr t:=by
 unfold vO
 split
 ·rename_i h
  have:=Nat.le_of_ble_eq_true h
  rw[if_neg (by omega)]
 ·rename_i h
  have:¬n≤d:=fun hc=>by rw[Nat.ble_eq_true_of_le hc]at h; simp at h
  simp only[dj]
  split
  ·rename_i he
   have:=Nat.eq_of_beq_eq_true he
   rw[if_pos (by omega)]
  ·rename_i he
   have:¬d=t:=fun hc=>by subst hc; simp at he
   rw[if_neg (by omega)]
theorem Gu{l:List AV}{d t:Nat}{a u:AV}:(l.set d a).getD t u=if t=d∧d<l.length then a else l.getD t u:=by
 grind
theorem RS.step[ag]{s:bQ T.den}{st:St}(h:RS T s st){v:SV T.den}{wr:List (Nat×aK T.den)}{e:ed}(he:RE T s.hp st.hp v wr e)(dst:Option Tmp):
  RS T (s.step dst v wr) { st with fr:=bX st.fr dst e.val,hp:=av st.hp e.wr }∧bx s (s.step dst v wr):=by
 refine⟨⟨h.fn,?_,fun t=>?_,he.hp,h.js.re h.hp he⟩,⟨rfl,rfl,fun t ht=>?_,fun t ht=>?_,fun n hn ht=>?_,fun n hn=>?_,he.len,he.grow⟩⟩
 ·simp only[bQ.step,bX]; cases dst<;>simp[h.n]
 ·simp only[bQ.step]
  cases dst with
  |none=>exact(h.fr t).mono he.grow
  |some d=>
   simp only[NK,bX]
   rw[lY,Gu,h.n]
   split
   ·exact he.val
   ·exact(h.fr t).mono he.grow
 ·simp only[bQ.step]at ht ⊢
  cases dst with
  |none=>rfl
  |some d=>
   simp only[Q1,List.mem_cons,not_or]at ht
   simp only[NK,lY]
   rw[if_neg (by omega)]
 ·simp only[bQ.step]
  cases dst with
  |none=>exact ht
  |some d=>exact List.mem_cons_of_mem _ ht
 ·simp only[bQ.step,List.mem_append,not_or]at ht ⊢
  exact he.Ea n ht.1 hn
 ·simp only[bQ.step,List.mem_append]
  exact .inr hn
theorem Gv[ag]{H:aq T.den}{hp:ak}(hh:RH T H hp):RE T H hp (.lit undef) [] ⟨.undef,[]⟩:=
 ⟨bC undef,hh,ej.refl _,fun q h=>by simp at h,fun _ _ _=>rfl,Nat.le_refl _,fun _ _ h=>by simp at h⟩
theorem tD:∀ (c:List Value),aD (den:=T.den) (c.map .lit)=true
 |[]=>by simp[aD]
 |x::r=>by simp only[List.map_cons,aD,aM,tD r,Bool.and_self]
theorem RS.ev[ag]{s:bQ T.den}{st:St}(h:RS T s st)(o:Operand):RV T s.hp (fZ s.fr o) (aP st.fr o):=by
 cases o with
 |tmp t=>exact h.fr t
 |const v=>
  simp only[fZ,aP,NJ,oM]
  cases v with
  |agg c=>
   simp only
   by_cases hc:c.toList.all (fun v=>bt (.lit v))=true
   ·rw[if_pos hc,if_pos hc]
    right
    simp only[R]
    exact⟨_,rfl,RL.lits _⟩
   ·rw[if_neg hc]
    exact .inl rfl
  |tuple c=>
   right
   simp only[iD,R]
   exact⟨_,rfl,RL.lits _⟩
  |_=>exact bC _
 |global g=>
  simp only[fZ,aP,Ex]
  cases ag.g g with
  |none=>exact bC _
  |some c=>
   right
   simp only[R]
   exact⟨_,rfl,⟨_,rfl,RL.lits _⟩,by simp only[aM]; exact tD _⟩
 |func f=>exact bC _
theorem Bc[ag]{g:G}{s:bQ T.den}{st:St}(h:RS T s st){K:bQ T.den→Bool→Tr ρ}{r:ρ}(hk:(zl g s K).run=some r):
  ∃ s' b,RS T s' st∧bx s s'∧u4 st.fr g=some b∧s'.hp=s.hp∧(K s' b).run=some r:=by
 unfold zl at hk
 split at hk
 ·exact⟨s,true,h,bx.refl _,rfl,rfl,hk⟩
 ·exact⟨s,false,h,bx.refl _,rfl,rfl,hk⟩
 ·rename_i d want
  split at hk
  ·rename_i b hb
   have ha:=(h.fr d).lit hb
   have key:∀ b',b=b'→RS T (s.step (some d) (.lit (.bool b')) []) st∧bx s (s.step (some d) (.lit (.bool b')) []):=by
    rintro b' rfl
    have h1:=h.step (v:=.lit (.bool b)) (wr:=[]) (e:=⟨.lit (.bool b),[]⟩) ⟨bC _,h.hp,ej.refl _,fun q hq=>by simp at hq,fun _ _ _=>rfl,Nat.le_refl _,fun _ _ h=>by simp at h⟩ (some d)
    refine⟨?_,h1.2⟩
    have e:({ st with fr:=bX st.fr (some d) (AV.lit (.bool b)),hp:=av st.hp [] }:St)=st:=by
     have:st.fr.set d (.lit (.bool b))=st.fr:=by
      by_cases hd:d<st.fr.length
      ·refine iX ?_
       rw[List.getD_eq_getElem?_getD]at ha
       rw[List.getElem?_eq_getElem hd]at ha ⊢
       exact congrArg some ha
      ·exact List.set_eq_of_length_le (Nat.le_of_not_lt hd)
     simp only[bX,av,this]
    rw[e]at h1
    exact h1.1
   have hw:u4 st.fr (.on d want)=some (b==want):=by simp only[u4]; rw[ha]; rfl
   rcases gv hk with ⟨S0,Dp⟩|⟨S0,Dp⟩
   ·subst S0
    rw[dw]at Dp
    obtain⟨k1,k2⟩:=key true rfl
    exact⟨_,_,k1,k2,hw,rfl,Dp⟩
   ·subst S0
    rw[dw]at Dp
    obtain⟨k1,k2⟩:=key false rfl
    exact⟨_,_,k1,k2,hw,rfl,Dp⟩
  ·rename_i x hx
   have ha:=(h.fr d).lit hx
   refine⟨s,false,h,bx.refl _,?_,rfl,hk⟩
   simp only[u4]; rw[ha]; rfl
  ·simp[Tr.run]at hk
theorem sj[ag]{C:Ctx}{step:Oper→bQ T.den→(bQ T.den→Tr ρ)→Tr ρ}{r:ρ}
  (fq:∀ o s st K,RS T s st→(step o s K).run=some r→∃ s' st',jm C o st=some (.norm st')∧RS T s' st'∧bx s s'∧(K s').run=some r) :
  ∀ (l:List (G×Oper)) (s:bQ T.den) (st:St) (K:bQ T.den→Tr ρ),RS T s st→(yi step l s K).run=some r→∃ s' st',vq C l st=some (.norm st')∧RS T s' st'∧bx s s'∧(K s').run=some r
 |[],s,st,K,h,hk=>⟨s,st,rfl,h,bx.refl _,hk⟩
 |(g,o)::l,s,st,K,h,hk=>by
  simp only[yi]at hk
  obtain⟨s1,b,h1,h2,h3,_,hk⟩:=Bc h hk
  cases b with
  |false=>
   simp only at hk
   rw[dw]at hk
   obtain⟨g1,g2⟩:=h1.step (Gv h1.hp) o.dst
   obtain⟨s',st',i1,i2,i3,hk⟩:=sj fq l _ _ K g1 hk
   refine⟨s',st',?_,i2,(h2.trans g2).trans i3,hk⟩
   simp only[vq,h3]
   exact i1
  |true=>
   simp only at hk
   obtain⟨s2,Ri,g1,g2,g3,hk⟩:=fq o s1 st _ h1 hk
   obtain⟨s',st',i1,i2,i3,hk⟩:=sj fq l _ _ K g2 hk
   refine⟨s',st',?_,i2,(h2.trans g3).trans i3,hk⟩
   simp only[vq,h3,g1,Option.bind_some]
   exact i1
def Ef(a b:gx):Prop:=a.idx=b.idx∧(∀ n,n∈a.rd→n∈b.rd)∧∀ n,n∈a.wr→n∈b.wr
theorem J4{a a' b b':List Nat}(ha:∀ n,n∈a→n∈a')(hb:∀ n,n∈b→n∈b')(h:Hl a' b'=true):Hl a b=true:=by
 grind[decide_eq_false_iff_not,Hl]
theorem La[ag]{pr:List Nat}{x x' y y':gx}(hx:Ef x x')(hy:Ef y y')(h:tI pr x' y'=true):tI pr x y=true:=by
 unfold tI at h ⊢
 rw[hx.1,hy.1]
 simp only[Bool.or_eq_true,Bool.and_eq_true]at h ⊢
 refine h.imp id fun h=>⟨J4 hx.2.2 (fun n hn=>?_) h.1,J4 hy.2.2 hx.2.1 h.2⟩
 simp only[List.mem_append]at hn ⊢
 exact hn.imp (hy.2.1 n) (hy.2.2 n)
theorem Bd[ag]{pr:List Nat}:∀ {l l':List gx},aE Ef l l'→gh pr l'=true→gh pr l=true
 |[],[],_,_=>rfl
 |x::xs,y::ys,h,hk=>by
  simp only[gh,Bool.and_eq_true]at hk ⊢
  refine⟨?_,Bd h.2 hk.2⟩
  rw[List.all_eq_true]at hk ⊢
  intro z hz
  obtain⟨i,hi⟩:=List.getElem?_of_mem hz
  obtain⟨z',Ww,hle⟩:=aE.get h.2 hi
  exact La h.1 hle (hk.1 z' (List.mem_of_getElem? Ww))
theorem Eg{pr:List Nat}{fs:List gx}(h:sS pr fs=true):gh pr fs=true:=by
 unfold sS at h
 split at h
 ·rename_i hw
  clear h
  induction fs with
  |nil=>rfl
  |cons x xs ih=>
   simp only[List.all_cons,Bool.and_eq_true]at hw
   simp only[gh,Bool.and_eq_true]
   refine⟨?_,ih hw.2⟩
   rw[List.all_eq_true]
   intro y hy
   have h2:=List.all_eq_true.1 hw.2 y hy
   have e1:x.wr=[]:=by simpa using hw.1
   have e2:y.wr=[]:=by simpa using h2
   simp[tI,e1,e2,Hl]
 ·exact h
def Oe[ag]:Nat→List Item→Prop
 |_,[]=>True
 |n,x::r=>x.nm=n∧Oe (if aC x.o.op then n+1 else n) r
def uC[ag](l:List Item):Nat:=(l.filter fun x=>aC x.o.op).length
theorem sk[ag](x:Item)(l:List Item):uC (x::l)=(if aC x.o.op then 1 else 0)+uC l:=by
 grind[uC]
theorem Be[ag]:∀ (l:List Oper) (i n:Nat),uC (bV i n l)=(l.filter fun o=>aC o.op).length
 |[],_,_=>rfl
 |o::r,i,n=>by
  rw[bV,sk,Be r,List.filter_cons]
  split<;>simp[*]<;>omega
theorem CY[ag]:∀ (l:List Oper) (i n:Nat),Oe n (bV i n l)
 |[],_,_=>trivial
 |_::r,i,n=>⟨rfl,CY r (i+1) _⟩
theorem v7:∀ {wr:List (Nat×aK T.den)} {H:aq T.den},(∀ q,q∈wr→q.1<H.length)→(bu H wr).length=H.length
 |[],H,_=>rfl
 |(n,o)::wr,H,h=>by
  have h0:=h (n,o) (by simp)
  have e:(cd H n o).length=H.length:=by
   grind[cd]
  simp only[bu]
  rw[v7 (fun q hq=>by rw[e]; exact h q (List.mem_cons_of_mem _ hq)),e]
theorem xA[ag]{C:Ctx}{ops:Array Oper}{step:Nat→Oper→bQ T.den→EK T ρ→Tr ρ}{r:ρ}
  (fq:∀ nm o s st K,RS T s st→(nm=s.hp.length∨s.hp[nm]?=some none)→(aC o.op=false→nm=s.hp.length)→(step nm o s K).run=some r →
    ∃ v wr rd e lg,Kt C nm o st.fr st.hp=some (e,lg)∧(∀ n,n∈lg→n∈rd)∧RE T s.hp st.hp v wr e∧(K v wr rd).run=some r) :
  ∀ (l:List Item) (n:Nat) (s:bQ T.den) (st:St) (fs:List gx) (K:bQ T.den→List gx→Tr ρ),Oe n l→n+uC l=s.hp.length→(∀ m:Nat,n≤m→m<s.hp.length→s.hp[m]?=some none)→RS T s st →
    (ur step (l.map fun x=>(fL ops x.o,x)) s fs K).run=some r →
    ∃ s' st' UD Qt,vk C ops l st=some (st',Qt)∧aE Ef Qt UD∧RS T s' st'∧bx s s'∧(K s' (fs++UD)).run=some r
 |[],n,s,st,fs,K,_,_,_,h,hk=>⟨s,st,[],[],rfl,trivial,h,bx.refl _,by simpa[ur] using hk⟩
 |x::l,n,s,st,fs,K,hn,hle,rA,h,hk=>by
  obtain⟨hn1,Qr⟩:=hn
  simp only[List.map_cons,ur]at hk
  obtain⟨s1,b,h1,h2,h3,h4,hk⟩:=Bc h hk
  have hw:dh ops st.fr x.o=some b:=by rw[EA]; exact h3
  cases b with
  |false=>
   simp only at hk
   rw[dw]at hk
   obtain⟨g1,g2⟩:=h1.step (Gv h1.hp) x.o.dst
   have ehp:(s1.step x.o.dst (.lit undef) []).hp=s.hp:=by simp only[bQ.step,bu]; exact h4
   have hinv:∀ m:Nat,(if aC x.o.op then n+1 else n)≤m→m<(s1.step x.o.dst (.lit undef) []).hp.length→(s1.step x.o.dst (.lit undef) []).hp[m]?=some none:=by
    grind
   have hb:(if aC x.o.op then n+1 else n)+uC l=s.hp.length:=by
    rw[sk]at hle; split<;>simp_all<;>omega
   ·obtain⟨s',st',UD,Qt,i1,i2,i3,i4,hk⟩:=xA fq l _ _ _ _ K Qr (by rw[ehp]; exact hb) hinv g1 hk
    refine⟨s',st',⟨x.idx,[],[]⟩::UD,⟨x.idx,[],[]⟩::Qt,?_,⟨⟨rfl,fun _ h=>h,fun _ h=>h⟩,i2⟩,i3,(h2.trans g2).trans i4,by simpa using hk⟩
    simp only[vk,EU,hw,Option.bind_some]
    have i1':vk C ops l { st with fr:=bX st.fr x.o.dst .undef }=some (st',Qt):=i1
    rw[i1']; rfl
  |true=>
   simp only at hk
   have qc:x.at s1.hp.length=s1.hp.length∨s1.hp[x.at s1.hp.length]?=some none:=by
    grind[Item.at]
   obtain⟨v,wr,rd,e,lg,e1,e2,e3,hk⟩:=fq (x.at s1.hp.length) x.o s1 st _ h1 qc (fun h=>by simp only[Item.at,h]) hk
   rw[show s1.hp.length=st.hp.length from h1.hp.length]at e1
   split at hk
   case h_2=>simp[Tr.run]at hk
   rename_i HV
   rw[List.all_eq_true]at HV
   rw[dw]at hk
   obtain⟨g1,g2⟩:=h1.step e3 x.o.dst
   have bK:∀ q,q∈wr→q.1<s1.hp.length∧((aC x.o.op=true∧q.1=x.nm)∨∃ o,s1.hp[q.1]?=some (some o)):=by
    grind
   have XW:(s1.step x.o.dst v wr).hp.length=s.hp.length:=by
    simp only[bQ.step]
    rw[v7 (fun q hq=>(bK q hq).1),h4]
   have hinv:∀ m:Nat,(if aC x.o.op then n+1 else n)≤m→m<(s1.step x.o.dst v wr).hp.length→(s1.step x.o.dst v wr).hp[m]?=some none:=by
    intro m hm LH
    rw[XW]at LH
    have hold:s1.hp[m]?=some none:=by rw[h4]; exact rA m (by split at hm<;>omega) LH
    simp only[bQ.step]
    rw[e3.Ea m ?_ (by rw[h4]; exact LH)]
    ·exact hold
    ·grind
   have hb:(if aC x.o.op then n+1 else n)+uC l=s.hp.length:=by
    rw[sk]at hle; split<;>simp_all<;>omega
   ·obtain⟨s',st',UD,Qt,i1,i2,i3,i4,hk⟩:=xA fq l _ _ _ _ K Qr (by rw[XW]; exact hb) hinv g1 hk
    refine⟨s',st',⟨x.idx,rd,wr.map (·.1)⟩::UD,⟨x.idx,lg,e.wr.map (·.1)⟩::Qt,?_,⟨⟨rfl,e2,fun n hn=>?_⟩,i2⟩,i3,(h2.trans g2).trans i4,by simpa using hk⟩
    ·simp only[vk,EU,hw,e1,Option.bind_some,S6]
     rw[if_pos ?_]
     ·simp_all
     ·rw[List.all_eq_true]
      intro q hq
      obtain⟨q',hq',eq'⟩:=List.mem_map.1 (e3.names q hq)
      obtain⟨c1,c2⟩:=bK q' hq'
      rw[eq']at c1 c2
      simp only[Bool.and_eq_true,decide_eq_true_eq,Bool.or_eq_true]
      refine⟨by rw[←h1.hp.length]; exact c1,c2.imp id fun⟨o,ho⟩=>?_⟩
      obtain⟨a,ha,_⟩:=h1.hp.obj ho
      rw[ha]
    ·obtain⟨q,hq,rfl⟩:=List.mem_map.1 hn
     exact e3.names q hq
end Go.PI
end
section
/- PS, part M: what is dropped; results; calls of what is looked into. -/
namespace Go.PI
variable {T:eh}{ρ:Type}
section
variable {den:Nat→Type}{n:Nat}
mutual
theorem mQ:∀ {v:SV den},aM v=true→bM n v=true
 |.dead,h=>by simp[aM]at h
 |.hole,h=>by simp[aM]at h
 |.lit v,h=>rfl
 |.agg l,h=>by simp only[aM]at h; simp only[bM]; exact fp h
 |.kC l,h=>by simp only[aM]at h; simp only[bM]; exact fp h
 |.sl l,h=>rfl
 |.jN t l,h=>rfl
 |.zj t l c b,h=>rfl
 |.nz,h=>rfl
 |.bq e j,h=>rfl
 |.ref ..,h=>by simp[aM]at h
 |.jw ..,h=>by simp[aM]at h
 |.bw ..,h=>by simp[aM]at h
 |.jP fn f c,h=>by
  simp only[aM,Bool.and_eq_true]at h
  simp only[bM,Bool.and_eq_true]
  exact⟨fp h.1,fp h.2⟩
 |.jQ t v,h=>by simp only[aM]at h; simp only[bM]; exact mQ h
 |.uQ v s l i,h=>by simp only[aM]at h; simp only[bM]; exact mQ h
 |.mp ..,h=>by simp[aM]at h
theorem fp:∀ {l:List (SV den)},aD l=true→iy n l=true
 |[],_=>rfl
 |x::xs,h=>by
  simp only[aD,Bool.and_eq_true]at h
  simp only[iy,Bool.and_eq_true]
  exact⟨mQ h.1,fp h.2⟩
end
end
section
variable {H:aq T.den}{hp:ak}{n:Nat}
theorem gH.take{den:Nat→Type}{H:aq den}{m c ax:Nat}(h:gH H m c ax)(hm:m<n):gH (H.take n) m c ax:=by
 obtain⟨o,h1,h2,h3⟩:=h
 exact⟨o,by rw[List.getElem?_take_of_lt hm]; exact h1,h2,h3⟩
mutual
theorem R.take:∀ {v:SV T.den} {a:AV},R T H v a→bM n v=true→R T (H.take n) v a
 |.dead,_,h,_=>by simp[R]at h
 |.hole,_,h,_=>by simpa[R] using h
 |.lit v,a,h,_=>by simpa[R] using h
 |.agg l,a,h,hb=>by
  simp only[R]at h ⊢
  simp only[bM]at hb
  obtain⟨l',h1,h2⟩:=h
  exact⟨l',h1,RL.take h2 hb⟩
 |.kC l,a,h,hb=>by
  simp only[R]at h ⊢
  simp only[bM]at hb
  obtain⟨l',h1,h2⟩:=h
  exact⟨l',h1,RL.take h2 hb⟩
 |.sl l,a,h,_=>by
  simp only[R]at h ⊢
  obtain⟨l',h1,h2,h3⟩:=h
  exact⟨l',h1,RL.take h2 (fp h3),h3⟩
 |.jN t l,a,h,_=>by simpa[R] using h
 |.zj t l c b,a,h,_=>by simp only[R]at h ⊢; exact h
 |.nz,a,h,_=>by simp only[R]at h ⊢; exact h
 |.bq e j,a,h,_=>by
  simp only[R]at h ⊢
  obtain⟨e',h1,h2,h3⟩:=h
  exact⟨e',h1,R.take h2 (mQ h3),h3⟩
 |.ref m c i j,a,h,hb=>by
  simp only[R]at h ⊢
  simp only[bM,decide_eq_true_eq]at hb
  obtain⟨ax,h1,h2⟩:=h
  exact⟨ax,h1,h2.take hb⟩
 |.jw m c i j ln cp,a,h,hb=>by
  simp only[R]at h ⊢
  simp only[bM,decide_eq_true_eq]at hb
  obtain⟨ax,h1,h2⟩:=h
  exact⟨ax,h1,h2.take hb⟩
 |.bw esz m c rg cap,a,h,hb=>by
  simp only[R]at h ⊢
  simp only[bM,decide_eq_true_eq]at hb
  obtain⟨ax,h1,h2⟩:=h
  exact⟨ax,h1.take hb,h2⟩
 |.jP fn f c,a,h,hb=>by
  simp only[R]at h ⊢
  simp only[bM,Bool.and_eq_true]at hb
  obtain⟨f',c',h1,h2,h3⟩:=h
  exact⟨f',c',h1,RL.take h2 hb.1,RL.take h3 hb.2⟩
 |.jQ t v,a,h,hb=>by
  simp only[R]at h ⊢
  simp only[bM]at hb
  obtain⟨v',h1,h2⟩:=h
  exact⟨v',h1,R.take h2 hb⟩
 |.mp y m,a,h,hb=>by
  simp_all[R,bM]
 |.uQ v s l i,a,h,hb=>by
  simp only[R]at h ⊢
  simp only[bM]at hb
  obtain⟨a0,h1,h2⟩:=h
  exact⟨a0,R.take h1 hb,h2⟩
theorem RL.take:∀ {l:List (SV T.den)} {m:List AV},RL T H l m→iy n l=true→RL T (H.take n) l m
 |[],[],_,_=>by simp[RL]
 |x::xs,y::ys,h,hb=>by
  simp only[RL]at h ⊢
  simp only[iy,Bool.and_eq_true]at hb
  exact⟨R.take h.1 hb.1,RL.take h.2 hb.2⟩
 |[],_::_,h,_=>by simp[RL]at h
 |_::_,[],h,_=>by simp[RL]at h
end
theorem gH.lt{den:Nat→Type}{H:aq den}{m c ax:Nat}(h:gH H m c ax):m<H.length:=by
 obtain⟨o,h1,_⟩:=h
 exact(List.getElem?_eq_some_iff.1 h1).1
mutual
theorem R.lt:∀ {v:SV T.den} {a:AV},R T H v a→bM H.length v=true
 |.dead,_,h=>by simp[R]at h
 |.hole,_,h=>rfl
 |.lit v,a,h=>rfl
 |.agg l,a,h=>by
  simp only[R]at h
  simp only[bM]
  obtain⟨l',h1,h2⟩:=h
  exact RL.lt h2
 |.kC l,a,h=>by
  simp only[R]at h
  simp only[bM]
  obtain⟨l',h1,h2⟩:=h
  exact RL.lt h2
 |.sl l,a,h=>rfl
 |.jN t l,a,h=>rfl
 |.zj t l c b,a,h=>rfl
 |.nz,a,h=>rfl
 |.bq e j,a,h=>rfl
 |.ref m c i j,a,h=>by
  simp only[R]at h
  simp only[bM,decide_eq_true_eq]
  obtain⟨ax,h1,h2⟩:=h
  exact h2.lt
 |.jw m c i j ln cp,a,h=>by
  simp only[R]at h
  simp only[bM,decide_eq_true_eq]
  obtain⟨ax,h1,h2⟩:=h
  exact h2.lt
 |.bw esz m c rg cap,a,h=>by
  simp only[R]at h
  simp only[bM,decide_eq_true_eq]
  obtain⟨ax,h1,h2⟩:=h
  exact h1.lt
 |.jP fn f c,a,h=>by
  simp only[R]at h
  simp only[bM,Bool.and_eq_true]
  obtain⟨f',c',h1,h2,h3⟩:=h
  exact⟨RL.lt h2,RL.lt h3⟩
 |.jQ t v,a,h=>by
  simp only[R]at h
  simp only[bM]
  obtain⟨v',h1,h2⟩:=h
  exact R.lt h2
 |.mp y m,a,h=>by
  grind[R,bM]
 |.uQ v s l i,a,h=>by
  simp only[R]at h
  simp only[bM]
  obtain⟨a0,h1,h2⟩:=h
  exact R.lt h1
theorem RL.lt:∀ {l:List (SV T.den)} {m:List AV},RL T H l m→iy H.length l=true
 |[],[],_=>rfl
 |x::xs,y::ys,h=>by
  simp only[RL]at h
  simp only[iy,Bool.and_eq_true]
  exact⟨R.lt h.1,RL.lt h.2⟩
 |[],_::_,h=>by simp[RL]at h
 |_::_,[],h=>by simp[RL]at h
end
theorem Bf{n:Nat}:∀ {l:List AV},dq n l=l.all (below n)
 |[]=>rfl
 |x::xs=>by simp only[dq,List.all_cons,Bf]
theorem o6:∀ {a:AV},closed a=true→below n a=true
 |.lit _,_=>rfl
 |.agg l,h=>by simp only[Go.PI.closed]at h; simp only[Go.PI.below]; exact hU h
 |.kC l,h=>by simp only[Go.PI.closed]at h; simp only[Go.PI.below]; exact hU h
 |.sl _,_|.mq _ _,_|.bq _ _,_|.any,_|.nz,_=>rfl
 |.ref ..,h|.bw ..,h|.jw ..,h|.mp ..,h=>by simp[Go.PI.closed]at h
 |.jP fn f c,h=>by
  simp only[Go.PI.closed,Bool.and_eq_true]at h
  simp only[Go.PI.below,Bool.and_eq_true]
  exact⟨hU h.1,hU h.2⟩
 |.jQ t v,h=>by simp only[Go.PI.closed]at h; simp only[Go.PI.below]; exact o6 h
where hU:∀ {l:List AV},aZ l=true→dq n l=true
 |[],_=>rfl
 |x::xs,h=>by
  simp only[aZ,Bool.and_eq_true]at h
  simp only[dq,Bool.and_eq_true]
  exact⟨o6 h.1,hU h.2⟩
theorem Bg(hT:T.Ok){t:Nat}:∀ {l:List (T.den t)} {m:List AV},aE (T.rp t) l m→dq n m=true
 |[],[],_=>rfl
 |_::_,_::_,h=>by
  simp only[dq,Bool.and_eq_true]
  exact⟨o6 (hT.closed _ _ _ h.1),Bg hT h.2⟩
theorem Gw:∀ {fr:List (SV T.den)} {vs:List AV},aE (RD T H) fr vs→(fr.all fun v=>cL v||bM n v)=dq n vs
 |[],[],_=>rfl
 |v::fr,a::vs,h=>by
  simp only[List.all_cons,dq]
  rw[Gw h.2]
  congr 1
  rcases h.1 with ⟨rfl,rfl⟩|h1
  ·rfl
  ·have:cL v=false:=by cases v<;>first|rfl|simp[R]at h1
   rw[this,R.below h1]; rfl
theorem CZ[ag](hT:T.Ok){o:Option (aK T.den)}{a:Option aY}(h:D6 T H o a):lH n o=mb n a:=by
 cases o with
 |none=>cases a with
  |none=>rfl
  |some a=>exact h.elim
 |some o=>cases a with
  |none=>exact h.elim
  |some a=>
   cases o with
   |arr g cl f cur es=>
    obtain⟨es',rfl,cZ,_⟩:=h
    simp only[lH,mb,aY.below]
    rw[RL.below cZ]
   |cD g f cur t l=>obtain⟨es',rfl,_⟩:=h; rfl
   |jc=>
    rcases h with ⟨g,f,es',rfl⟩|⟨k,vs,rfl,h⟩
    ·rfl
    ·exact(h n).symm
   |lT kk t m=>
    obtain⟨vs,rfl,h⟩:=h
    exact(Bg hT h).symm
   |qT fn ps as bd fr=>
    obtain⟨st,vs,rfl,h⟩:=h
    exact Gw h
theorem m8[ag](hT:T.Ok):∀ {l:List (Option (aK T.den))} {m:List (Option aY)},aE (D6 T H) l m→l.all (lH n)=m.all (mb n)
 |[],[],_=>rfl
 |_::_,_::_,h=>by simp only[List.all_cons]; rw[CZ hT h.1,m8 hT h.2]
theorem RO.take[ag]{o:aK T.den}{a:aY}(h:RO T H o a)(hb:lH n (some o)=true):RO T (H.take n) o a:=by
 cases o with
 |arr g cl f cur es=>
  obtain⟨es',h1,h2,h3⟩:=h
  refine⟨es',h1,RL.take h2 ?_,h3⟩
  simp only[lH,Bool.or_eq_true]at hb
  rcases hb with hb|hb
  ·exact fp (h3 hb)
  ·exact hb
 |cD g f cur t l=>exact h
 |jc=>exact h
 |lT kk t m=>exact h
 |qT fn ps as bd fr=>
  obtain⟨st,vs,h1,h2⟩:=h
  refine⟨st,vs,h1,aE.fk h2.length fun i x y hx hy=>?_⟩
  obtain⟨y',Ds,hr⟩:=aE.get h2 hx
  rw[hy]at Ds
  simp only[Option.some.injEq]at Ds
  subst Ds
  simp only[lH,List.all_eq_true]at hb
  have:=hb x (List.mem_of_getElem? hx)
  rcases hr with hr|hr
  ·exact .inl hr
  ·have hd:cL x=false:=by cases x<;>first|rfl|simp[R]at hr
   rw[hd,Bool.false_or]at this
   exact .inr (hr.take this)
theorem RH.take[ag](hh:RH T H hp)(hb:(H.take n).all (lH n)=true):RH T (H.take n) (hp.take n):=by
 have h:=aE.take hh n
 rw[List.all_eq_true]at hb
 refine aE.fk h.length fun i x y hx hy=>?_
 obtain⟨y',Ds,hr⟩:=aE.get h hx
 rw[hy]at Ds
 simp only[Option.some.injEq]at Ds
 subst Ds
 have:=hb x (List.mem_of_getElem? hx)
 cases x with
 |none=>cases y with
  |none=>trivial
  |some _=>exact hr.elim
 |some o=>cases y with
  |none=>exact hr.elim
  |some a=>exact RO.take hr this
theorem Lb[ag](hT:T.Ok)(hh:RH T H hp){v:SV T.den}{a:AV}(hv:R T H v a):RH T (iR n v H) (jS n a hp)∧R T (iR n v H) v a:=by
 unfold iR jS
 rw[R.below hv,m8 hT (aE.take hh n)]
 by_cases hc:(Go.PI.below n a&&(hp.take n).all (mb n))=true
 ·rw[if_pos hc,if_pos hc]
  simp only[Bool.and_eq_true]at hc
  exact⟨hh.take (by rw[m8 hT (aE.take hh n)]; exact hc.2),hv.take (by rw[R.below hv]; exact hc.1)⟩
 ·grind
theorem Gx{fr:uR T.den}{t:Nat}:dj (fr.map fun q=>(q.1,sO n q.2)) t=sO n (dj fr t):=by
 induction fr with
 |nil=>rfl
 |cons q r ih=>
  grind[dj]
theorem RV.forget[ag]{v:SV T.den}{a:AV}(h:RV T H v a):RV T (H.take n) (sO n v) (Go.PI.forget n a):=by
 unfold sO Go.PI.forget
 rcases h with rfl|h
 ·left; simp[bM]
 ·rw[R.below h]
  split
  ·rename_i hb; right; exact h.take (by rw[R.below h]; exact hb)
  ·exact .inl rfl
theorem Gy{l:List AV}{t:Nat}:(l.map (Go.PI.forget n)).getD t .undef=Go.PI.forget n (l.getD t .undef):=by
 simp only[List.getD_eq_getElem?_getD,List.getElem?_map]
 cases l[t]?<;>rfl
theorem mn.take{js:List (Nat×m9)}(h:mn js H hp)(hj:∀ m x,cO js m=some x→m<n):mn js (H.take n) (hp.take n):=by
 intro m x hm
 obtain⟨h1,h2⟩:=h m x hm
 have cG:=hj m x hm
 exact⟨by rw[si (List.getElem?_take_of_lt cG)]; exact h1,by rw[pZ (List.getElem?_take_of_lt cG)]; exact h2⟩
theorem C1{js:List (Nat×m9)}(h:xl js n=true):∀ m x,cO js m=some x→m<n:=by
 intro m x hm
 have:=List.all_eq_true.1 h _ (fS hm)
 exact Nat.le_of_ble_eq_true this
theorem Gz[ag](hT:T.Ok){s:bQ T.den}{st:St}(h:RS T s st)(hj:∀ m x,cO s.js m=some x→m<n):RS T (lu n s) (iK n st):=by
 unfold lu iK
 rw[m8 hT (aE.take h.hp n)]
 by_cases hc:(st.hp.take n).all (mb n)=true
 ·rw[if_pos hc,if_pos hc]
  refine⟨h.fn,by simp[h.n],fun t=>?_,h.hp.take (by rw[m8 hT (aE.take h.hp n)]; exact hc),h.js.take hj⟩
  rw[Gx,Gy]
  exact(h.fr t).forget
 ·rw[if_neg hc,if_neg hc]
  exact h
theorem o7{den:Nat→Type}{H:aq den}{m:Nat}(hm:m<n):(H.take n)[m]?=H[m]?:=List.getElem?_take_of_lt hm
theorem yE[ag]{s s':bQ T.den}{st:St}(h:RS T s st)(ha:bx s s'):bx s (lu s.hp.length s'):=by
 unfold lu
 split
 ·refine⟨ha.fn,ha.n,fun t ht=>?_,ha.wf,fun n hn hw=>?_,ha.wh,?_,?_⟩
  ·simp only at ht ⊢
   rw[Gx,ha.fr t ht]
   unfold sO
   rcases h.fr t with hv|hv
   ·rw[hv]; simp[bM]
   ·rw[if_pos hv.lt]
  ·simp only at hw ⊢
   rw[o7 hn]
   exact ha.hp n hn hw
  ·simp only[List.length_take]
   have:=ha.len
   omega
  ·intro n o ho
   obtain⟨o',h1,h2⟩:=ha.grow n o ho
   have cG:=(List.getElem?_eq_some_iff.1 ho).1
   exact⟨o',by simp only; rw[o7 cG]; exact h1,h2⟩
 ·exact ha
theorem qA[ag](hT:T.Ok){Q:iH}(hQ:Q.Ok){s:bQ T.den}{st:St}(h:RS T s st){r:ρ}:∀ {rs:List ResultVar} {K:List (SV T.den)→Tr ρ},(um T Q s rs K).run=some r →
  ∃ l m,(bh Q.P st.fr rs).run st.hp=some m∧RL T s.hp l m∧(K l).run=some r
 |[],K,hk=>⟨[],[],rfl,by simp[RL],hk⟩
 |.tmp t::rs,K,hk=>by
  simp only[um]at hk
  split at hk
  ·simp[Tr.run]at hk
  ·rename_i dY
   obtain⟨l,m,h1,h2,hk⟩:=qA hT hQ h hk
   refine⟨_,st.fr.getD t .undef::m,?_,?_,hk⟩
   ·simp_all[bh,lC,RM.run_bind,RM.run_pure,h1]
   ·simp only[RL]
    refine⟨?_,h2⟩
    rcases h.fr t with hd|hd
    ·simp_all
    ·exact hd
 |.cell a t::rs,K,hk=>by
  simp only[um]at hk
  split at hk
  case h_2=>simp[Tr.run]at hk
  rename_i m hm
  obtain⟨q,h1,h2,h3,_⟩:=hQ.row _ _ hm
  have:∃ v c rd,aN st.hp (mo Q.P t (st.fr.getD a .undef)) c rd∧R T s.hp v c∧(um T Q s rs fun l=>K (v::l)).run=some r:=
   Gk (K:=fun v _ _=>um T Q s rs fun l=>K (v::l)) hT h1 h2 h3 h.hp (h.fr a) hk
  obtain⟨v,c,rd,g1,g2,hk⟩:=this
  obtain⟨l,m',i1,i2,hk⟩:=qA hT hQ h hk
  refine⟨_,c::m',?_,?_,hk⟩
  ·simp only[bh,lC,RM.run_bind,g1.1,RM.run_pure,Option.bind_some,i1]
  ·simp only[RL]
   exact⟨g2,i2⟩
theorem hY[ag]{fv:SV T.den}{fa:AV}(hf:RV T H fv fa){args:List (SV T.den)}{as:List AV}(ha:aE (RV T H) args as){g:FuncId}{l:List (SV T.den)}(h:nH fv args=some (g,l)):
  ∃ m,bU fa as=some (g,m)∧(l.any cL=false→RL T H l m):=by
 unfold nH at h
 split at h
 ·rename_i f first captured
  simp only[Option.some.injEq,Prod.mk.injEq]at h
  obtain⟨rfl,rfl⟩:=h
  have:=hf.lit rfl
  subst this
  refine⟨_,rfl,fun hd=>?_⟩
  refine mX ?_ hd
  exact((bc.1 (RL.lits first.toList)).mono fun _ _ h=>.inr h).append ha |>.append ((bc.1 (RL.lits captured.toList)).mono fun _ _ h=>.inr h)
 ·rename_i f first captured
  simp only[Option.some.injEq,Prod.mk.injEq]at h
  obtain⟨rfl,rfl⟩:=h
  have:=hf.live rfl
  simp only[R]at this
  obtain⟨f',c',rfl,h1,h2⟩:=this
  refine⟨_,rfl,fun hd=>?_⟩
  refine mX ?_ hd
  exact((bc.1 h1).mono fun _ _ h=>.inr h).append ha |>.append ((bc.1 h2).mono fun _ _ h=>.inr h)
 ·simp at h
theorem xB:∀ {l:List (SV T.den)} {d t:Nat},dj (oA d l) t=if d≤t then (match l[t-d]? with|some v=>v|none=>.lit undef) else .lit undef
 |[],d,t=>by simp[oA,dj]
 |v::r,d,t=>by
  simp only[oA,dj]
  split
  ·simp_all
  ·rename_i he
   have dY:d≠t:=fun hc=>by subst hc; simp at he
   rw[xB]
   by_cases hd:d≤t
   ·grind
   ·rw[if_neg hd,if_neg (by omega)]
theorem Bh[ag]{f:FuncId}{args:List (SV T.den)}{as:List AV}(ha:RL T H args as)(hh:RH T H hp)(n:Nat)(wh:List Nat){js:List (Nat×m9)}(hj:mn js H hp):
  RS T ⟨f,max n args.length,oA 0 args,H,[],wh,js⟩ ⟨f,as++List.replicate (n-as.length) .undef,hp⟩:=by
 have hl:=ha.length
 refine⟨rfl,by simp; omega,fun t=>?_,hh,hj⟩
 simp only
 rw[xB]
 simp only[Nat.zero_le,if_true,Nat.sub_zero,List.getD_eq_getElem?_getD]
 by_cases ht:t<as.length
 ·rw[List.getElem?_append_left ht]
  obtain⟨v,hv,hr⟩:=aE.get' (bc.1 ha) (List.getElem?_eq_getElem ht)
  rw[hv,List.getElem?_eq_getElem ht]
  exact .inr hr
 ·rw[List.getElem?_append_right (by omega)]
  have e1:args[t]?=none:=List.getElem?_eq_none (by omega)
  rw[e1]
  simp only
  rw[List.getElem?_replicate]
  split<;>exact bC undef
end
end Go.PI
end
section
/- PS, part N: states with variables. -/
namespace Go.PI
variable {T:eh}{ρ:Type}
def ku{den:Nat→Type}(H:aq den)(n:Nat):Option Nat:=
 match H[n]? with
 |some (some o)=>some o.cur
 |_=>none
theorem qB{den:Nat→Type}{H:aq den}{n:Nat}{o:aK den}(h:H[n]?=some (some o)):ku H n=some o.cur:=by simp[ku,h]
theorem sX{den:Nat→Type}{H:aq den}{n c:Nat}(h:ku H n=some c):∃ o,H[n]?=some (some o)∧o.cur=c:=by
 grind[ku]
def GA{den:Nat→Type}(ok:Nat→Prop)(Hs Hf:aq den):Prop:=∀ (n:Nat) (o:aK den),ok n→Hs[n]?=some (some o)→∃ of:aK den,Hf[n]?=some (some of)∧of.len=o.len
section
variable {Hs Hf Hc:aq T.den}{ok:Nat→Prop}
theorem XX{H:aq T.den}{v:SV T.den}{k:IntKind}{m:Int}(h:R T H v (.lit (.int k m))):v=.lit (.int k m):=by
 cases v with
 |lit w=>simp_all[R,AV.lit.injEq]
 |bw esz n c rg cap=>
  grind[R]
 |uQ v st ln i=>
  simp only[R]at h
  obtain⟨_,_,_,h⟩:=h
  rcases h with ⟨_,_,_,_,_,h⟩|⟨_,_,_,h⟩<;>cases h
 |_=>simp[R]at h
theorem IA[ag](hT:T.Ok){H:aq T.den}{t m:Nat}{x:T.den t}(h:T.dn t (.lit (.int .i64 m))=some x):KZ T ⟨.v t,x⟩=m:=by
 have h1:=hT.dn _ _ _ (.lit (.int .i64 m)) H h (by simp[R])
 have h2:=XX (hT.up _ _ _ H h1)
 show (match T.up t x with|.lit (.int _ m)=>m.toNat|_=>0)=m
 rw[h2]
 simp
theorem uD[ag](hT:T.Ok)(th:∀ n,ku Hc n=ku Hf n)(hlen:GA ok Hs Hf){p:qV}(ck:∀ n,n∈p.nU→ok n){v:SV T.den}{a:AV}(hv:RV T Hs v a){ln:List (TV T.den)}(h:gB Hs p v=some ln)(rest:List (TV T.den)):
  ∃ v',gG Hc p (ln++rest)=(v',rest)∧R T Hf v' a∧(aM v=true→aM v'=true):=by
 cases p with
 |hole=>
  simp only[gB]at h
  split at h
  case h_2=>simp at h
  rename_i hh
  simp only[Option.some.injEq]at h
  subst h
  unfold isHole at hh
  split at hh
  case h_2=>simp at hh
  have hv:=hv.live rfl
  simp only[R]at hv
  subst hv
  exact⟨.hole,rfl,by simp[R],fun h=>h⟩
 |val t=>
  simp only[gB]at h
  split at h
  ·simp at h
  rename_i hd
  split at h
  case h_2=>simp at h
  rename_i x hx
  simp only[Option.some.injEq]at h
  subst h
  have Hj:=hT.dn _ _ _ _ Hs hx (hv.live hd)
  exact⟨T.up t x,rfl,hT.up _ _ _ Hf Hj,fun _=>xu hT Hj⟩
 |FI esz n rg cap=>
  simp only[gB]at h
  split at h
  case h_2=>simp at h
  rename_i AM n' c rg' Iq
  have hv:=hv.live rfl
  split at h
  case h_2=>simp at h
  rename_i o ho
  split at h
  case isFalse=>simp at h
  rename_i hc
  obtain⟨rfl,rfl,rfl,rfl,rfl⟩:=hc
  simp only[Option.some.injEq]at h
  subst h
  obtain⟨of,Of,IB⟩:=hlen _ _ (ck _ (by simp[qV.nU])) ho
  have pe:=th n'
  rw[qB Of]at pe
  obtain⟨oc,Eu,UE⟩:=sX pe
  refine⟨.bw AM n' oc.cur rg' Iq,?_,?_,fun h=>by simp[aM]at h⟩
  ·simp only[gG,Eu,List.nil_append]
  ·simp only[R]at hv ⊢
   obtain⟨ax,⟨o',h1,_,h3⟩,ha⟩:=hv
   rw[ho]at h1
   simp only[Option.some.injEq]at h1
   subst h1
   exact⟨ax,⟨of,Of,by omega,fun _=>by rw[h3 rfl,IB]⟩,ha⟩
 |jw n i j len cap=>
  simp only[gB]at h
  split at h
  case h_2=>simp at h
  rename_i n' c i' j' Q4 Iq
  have hv:=hv.live rfl
  split at h
  case h_2=>simp at h
  rename_i o ho
  split at h
  case isFalse=>simp at h
  rename_i hc
  obtain⟨rfl,rfl,rfl,rfl,rfl,rfl⟩:=hc
  simp only[Option.some.injEq]at h
  subst h
  obtain⟨of,Of,IB⟩:=hlen _ _ (ck _ (by simp[qV.nU])) ho
  have pe:=th n'
  rw[qB Of]at pe
  obtain⟨oc,Eu,UE⟩:=sX pe
  refine⟨.jw n' oc.cur i' j' Q4 Iq,?_,?_,fun h=>by simp[aM]at h⟩
  ·simp only[gG,Eu,List.nil_append]
  ·simp only[R]at hv ⊢
   obtain⟨ax,ha,⟨o',h1,_,h3⟩⟩:=hv
   rw[ho]at h1
   simp only[Option.some.injEq]at h1
   subst h1
   exact⟨ax,ha,⟨of,Of,by omega,fun _=>by rw[h3 rfl,IB]⟩⟩
 |own esz n=>
  simp only[gB]at h
  split at h
  case h_2=>simp at h
  rename_i AM n' c
  have hv:=hv.live rfl
  split at h
  case h_2=>simp at h
  rename_i o ho
  split at h
  case isFalse=>simp at h
  rename_i hc
  obtain⟨rfl,rfl,rfl⟩:=hc
  simp only[Option.some.injEq]at h
  subst h
  obtain⟨of,Of,IB⟩:=hlen _ _ (ck _ (by simp[qV.nU])) ho
  have pe:=th n'
  rw[qB Of]at pe
  obtain⟨oc,Eu,UE⟩:=sX pe
  refine⟨.bw AM n' oc.cur none none,?_,?_,fun h=>by simp[aM]at h⟩
  ·simp only[gG,Eu,List.nil_append]
  ·simp only[R]at hv ⊢
   obtain⟨ax,⟨o',h1,_,h3⟩,rfl⟩:=hv
   rw[ho]at h1
   simp only[Option.some.injEq]at h1
   subst h1
   exact⟨ax,⟨of,Of,by omega,fun _=>by rw[h3 rfl,IB]⟩,rfl⟩
 |tv esz n t k=>
  simp only[gB]at h
  split at h
  case h_2=>simp at h
  rename_i AM n' c rg cap
  have hv:=hv.live rfl
  split at h
  case h_2=>simp at h
  rename_i o off len ho hr
  split at h
  case isFalse=>simp at h
  rename_i hc
  obtain⟨rfl,rfl,rfl⟩:=hc
  obtain⟨of,Of,IB⟩:=hlen _ _ (ck _ (by simp[qV.nU])) ho
  have pe:=th n'
  rw[qB Of]at pe
  obtain⟨oc,Eu,UE⟩:=sX pe
  have hR:R T Hf (.bw AM n' oc.cur (some (off,len)) cap) a:=by
   simp only[R]at hv ⊢
   obtain⟨ax,⟨o',h1,_,h3⟩,ha⟩:=hv
   rw[ho]at h1
   simp only[Option.some.injEq]at h1
   subst h1
   refine⟨ax,⟨of,Of,by omega,fun _=>by rw[h3 rfl,IB]⟩,?_⟩
   cases rg with
   |some q=>
    simp_all[o5]
   |none=>
    have hb:Nat.beq o.cur o.cur=true:=by simp
    simp only[o5,ho,hb,if_true,Option.some.injEq,Prod.mk.injEq]at hr
    obtain⟨rfl,rfl⟩:=hr
    rw[←h3 rfl]
    exact ha
  rw[Option.bind_eq_some_iff]at h
  obtain⟨x,hx,h⟩:=h
  rw[Option.bind_eq_some_iff]at h
  obtain⟨y,hy,h⟩:=h
  have ex:=IA hT (H:=Hs) hx
  have ey:=IA hT (H:=Hs) hy
  split at h
  ·simp only[Option.some.injEq]at h
   subst h
   exact⟨_,by simp only[gG,List.cons_append,List.nil_append,Eu,ex,ey],hR,fun h=>by simp[aM]at h⟩
  ·obtain⟨z,hz,hl⟩:∃ z,T.dn t (.lit (.int .i64 _))=some z∧_=ln:=Option.map_eq_some_iff.1 h
   subst hl
   have ez:=IA hT (H:=Hs) hz
   exact⟨_,by simp only[gG,List.cons_append,List.nil_append,Eu,ex,ey,ez],hR,fun h=>by simp[aM]at h⟩
  ·simp at h
theorem yF[ag](hT:T.Ok)(th:∀ n,ku Hc n=ku Hf n)(hlen:GA ok Hs Hf):∀ {ps:List qV} {vs:List (SV T.den)} {as:List AV} {ln:List (TV T.den)},(∀ n,n∈ps.flatMap qV.nU→ok n)→RL T Hs vs as→jh Hs ps vs=some ln→∀ rest:List (TV T.den),
  ∃ vs',kl Hc ps (ln++rest)=(vs',rest)∧RL T Hf vs' as∧(aD vs=true→aD vs'=true)
 |[],[],[],ln,_,_,h,rest=>by
  simp only[jh,Option.some.injEq]at h
  subst h
  exact⟨[],rfl,by simp[RL],fun _=>rfl⟩
 |p::ps,v::vs,a::as,ln,ck,hr,h,rest=>by
  simp only[RL]at hr
  simp only[jh,Option.bind_eq_some_iff,Option.map_eq_some_iff]at h
  obtain⟨l1,h1,l2,h2,rfl⟩:=h
  obtain⟨v',e1,e2,e3⟩:=uD hT th hlen (fun n hn=>ck n (by simp[hn])) (.inr hr.1) h1 (l2++rest)
  obtain⟨vs',g1,g2,g3⟩:=yF hT th hlen (fun n hn=>ck n (by simp only[List.flatMap_cons,List.mem_append]; exact .inr hn)) hr.2 h2 rest
  refine⟨v'::vs',?_,by simp only[RL]; exact⟨e2,g2⟩,fun hc=>?_⟩
  ·simp_all[kl]
  ·simp_all[aD]
 |[],_::_,_,_,_,_,h,_=>by simp[jh]at h
 |_::_,[],_,_,_,_,h,_=>by simp[jh]at h
 |_,[],_::_,_,_,h,_,_=>by simp[RL]at h
 |_,_::_,[],_,_,h,_,_=>by simp[RL]at h
end
def Compat{T:eh}(o:aK T.den):dt→Prop
 |.list t=>∃ g f c l,o=.cD g f c t l
 |.fix t=>∃ g f c l,o=.cD g f c t l
 |.one _=>∃ g cl f c es,o=.arr g cl f c es
 |.agg _=>∃ g cl f c es,o=.arr g cl f c es
 |.map kk t=>∃ m,o=.lT kk t m
section
variable {Hs Hf Hc:aq T.den}{ok:Nat→Prop}
theorem v9[ag](hT:T.Ok){os:aK T.den}{t:Nat}{ln:List (TV T.den)}(h:fo Hs os (.list t)=some ln∨fo Hs os (.fix t)=some ln):
  ∃ l:List (T.den t),ln=[⟨.l t,l⟩]∧l.length=os.len∧os.flags.2.1=true∧∀ a,RO T Hs os a→∃ es,a=.arr os.flags.1 true os.flags.2.2 es∧aE (T.rp t) l es:=by
 have h2:fo Hs os (.list t)=some ln:=h.elim id id
 clear h
 have h:=h2
 clear h2
 unfold fo at h
 simp only at h
 split at h
 ·rename_i g f c t' l
  split at h
  case isFalse=>simp at h
  rename_i ht
  subst ht
  refine⟨l,(Option.some.inj h).symm,rfl,rfl,fun a ha=>?_⟩
  obtain⟨es,rfl,cZ⟩:=ha
  exact⟨es,rfl,cZ⟩
 ·rename_i g f c es
  cases hd:qM T t es with
  |none=>rw[hd]at h; cases h
  |some l=>
   rw[hd]at h
   refine⟨l,(Option.some.inj h).symm,?_,rfl,fun a ha=>?_⟩
   ·have:∀ {l:List (T.den t)} {es:List (SV T.den)},qM T t es=some l→l.length=es.length:=by
     intro l es
     induction es generalizing l with
     |nil=>simp_all[qM]
     |cons x xs ih=>
      intro h
      simp only[qM,Option.bind_eq_some_iff,Option.map_eq_some_iff]at h
      obtain⟨_,_,y,hy,rfl⟩:=h
      simp[ih hy]
    exact this hd
   ·obtain⟨es',rfl,cZ,_⟩:=ha
    exact⟨es',rfl,sg hT cZ hd⟩
 ·simp at h
theorem wa{os:aK T.den}{kk:KK}{t:Nat}{ln:List (TV T.den)}(h:fo Hs os (.map kk t)=some ln):∃ m,os=.lT kk t m∧ln=[⟨.m kk t,m⟩]:=by
 unfold fo at h
 simp only at h
 split at h
 case h_2=>simp at h
 rename_i sZ t' m
 split at h
 case isFalse=>simp at h
 rename_i hc
 obtain⟨rfl,rfl⟩:=hc
 exact⟨m,rfl,(Option.some.inj h).symm⟩
theorem BX[ag](hT:T.Ok){o os:aK T.den}{p:dt}(hc:Compat o p){ln:List (TV T.den)}(h:fo Hs os p=some ln)(rest:List (TV T.den))
  (hp:∀ q (v:SV T.den) l,gB Hs q v=some l→∀ rest,(gG Hc q (l++rest)).2=rest) :
  ∃ o',km Hc o p (ln++rest)=(o',rest)∧o'.cur=o.cur∧o'.len=os.len:=by
 have XP:∀ (ps:List qV) (vs:List (SV T.den)) l,jh Hs ps vs=some l→∀ rest,(kl Hc ps (l++rest)).2=rest:=by
  intro ps
  induction ps with
  |nil=>
   intro vs l hl rest
   cases vs with
   |nil=>simp[jh]at hl; subst hl; rfl
   |cons=>simp[jh]at hl
  |cons q ps ih=>
   intro vs l hl rest
   cases vs with
   |nil=>simp[jh]at hl
   |cons v vs=>
    simp only[jh,Option.bind_eq_some_iff,Option.map_eq_some_iff]at hl
    obtain⟨l1,h1,l2,h2,rfl⟩:=hl
    have e1:=hp q v l1 h1 (l2++rest)
    have e2:=ih vs l2 h2 rest
    simp only[kl,List.append_assoc]
    rw[e1]
    exact e2
 cases p with
 |list t=>
  obtain⟨g,f,c,l0,rfl⟩:=hc
  obtain⟨l,rfl,hl,_⟩:=v9 hT (.inl h)
  exact⟨.cD g f c t l,rfl,rfl,hl⟩
 |fix t=>
  obtain⟨g,f,c,l0,rfl⟩:=hc
  obtain⟨l,rfl,hl,_⟩:=v9 hT (.inr h)
  exact⟨.cD g f c t l,rfl,rfl,hl⟩
 |one q=>
  obtain⟨g,cl,f,c,es,rfl⟩:=hc
  simp only[fo]at h
  split at h
  case h_2=>simp at h
  rename_i v
  have e:=hp q v ln h rest
  refine⟨.arr g cl f c [(gG Hc q (ln++rest)).1],?_,rfl,rfl⟩
  have e2:gG Hc q (ln++rest)=((gG Hc q (ln++rest)).1,rest):=Prod.ext rfl e
  simp only[km]
  rw[e2]
 |agg ps=>
  obtain⟨g,cl,f,c,es,rfl⟩:=hc
  simp only[fo]at h
  split at h
  case h_2=>simp at h
  rename_i vs
  have e:=XP ps vs ln h rest
  refine⟨.arr g cl f c [.agg (kl Hc ps (ln++rest)).1],?_,rfl,rfl⟩
  have e2:kl Hc ps (ln++rest)=((kl Hc ps (ln++rest)).1,rest):=Prod.ext rfl e
  simp only[km]
  rw[e2]
 |map kk t=>
  obtain⟨m0,rfl⟩:=hc
  obtain⟨m,rfl,rfl⟩:=wa h
  exact⟨.lT kk t m,rfl,rfl,rfl⟩
theorem Bi[ag](hT:T.Ok)(th:∀ n,ku Hc n=ku Hf n)(hlen:GA ok Hs Hf){o os o':aK T.den}{p:dt}(ck:∀ n,n∈p.nU→ok n)(hc:Compat o p){ln:List (TV T.den)}(h:fo Hs os p=some ln){rest:List (TV T.den)}
  (ho:km Hc o p (ln++rest)=(o',rest)) (yP:o.flags.1=os.flags.1) (nt:o.flags.2.1=os.flags.2.1) (R9:o.flags.2.2=os.flags.2.2) {a:aY} (ha:RO T Hs os a):RO T Hf o' a:=by
 cases p with
 |list t=>
  obtain⟨g,f,c,l0,rfl⟩:=hc
  obtain⟨l,rfl,hl,_,hr⟩:=v9 hT (.inl h)
  obtain⟨es,rfl,cZ⟩:=hr a ha
  simp only[km,List.cons_append,List.nil_append,Prod.mk.injEq]at ho
  obtain⟨rfl,_⟩:=ho
  have hg:g=os.flags.1:=yP
  have hf:f=os.flags.2.2:=R9
  exact⟨es,by rw[hg,hf],cZ⟩
 |fix t=>
  obtain⟨g,f,c,l0,rfl⟩:=hc
  obtain⟨l,rfl,hl,_,hr⟩:=v9 hT (.inr h)
  obtain⟨es,rfl,cZ⟩:=hr a ha
  simp only[km,List.cons_append,List.nil_append,Prod.mk.injEq]at ho
  obtain⟨rfl,_⟩:=ho
  have hg:g=os.flags.1:=yP
  have hf:f=os.flags.2.2:=R9
  exact⟨es,by rw[hg,hf],cZ⟩
 |one q=>
  obtain⟨g,cl,f,c,es,rfl⟩:=hc
  simp only[fo]at h
  split at h
  case h_2=>simp at h
  rename_i g' cl' f' c' v
  simp only[aK.flags]at yP nt R9
  subst yP; subst nt; subst R9
  obtain⟨es',rfl,cZ,n4⟩:=ha
  match es',cZ with
  |[b],cZ=>
   simp only[RL]at cZ
   obtain⟨v',e1,e2,e3⟩:=uD hT th hlen ck (.inr cZ.1) h rest
   simp only[km,e1,Prod.mk.injEq,and_true]at ho
   subst ho
   refine⟨[b],rfl,by simp only[RL]; exact⟨e2,trivial⟩,fun pe=>?_⟩
   have:=n4 pe
   simp only[aD,Bool.and_true]at this ⊢
   exact e3 this
  |[],cZ=>simp[RL]at cZ
  |_::_::_,cZ=>simp[RL]at cZ
 |agg ps=>
  obtain⟨g,cl,f,c,es,rfl⟩:=hc
  simp only[fo]at h
  split at h
  case h_2=>simp at h
  rename_i g' cl' f' c' vs
  simp only[aK.flags]at yP nt R9
  subst yP; subst nt; subst R9
  obtain⟨es',rfl,cZ,n4⟩:=ha
  match es',cZ with
  |[b],cZ=>
   simp only[RL,R]at cZ
   obtain⟨⟨as,rfl,cZ⟩,_⟩:=cZ
   obtain⟨vs',e1,e2,e3⟩:=yF hT th hlen ck cZ h rest
   simp only[km,e1,Prod.mk.injEq,and_true]at ho
   subst ho
   refine⟨[.agg as],rfl,by simp only[RL,R]; exact⟨⟨as,rfl,e2⟩,trivial⟩,fun pe=>?_⟩
   have:=n4 pe
   simp only[aD,aM,Bool.and_true]at this ⊢
   exact e3 this
  |[],cZ=>simp[RL]at cZ
  |_::_::_,cZ=>simp[RL]at cZ
 |map kk t=>
  obtain⟨m0,rfl⟩:=hc
  obtain⟨m,rfl,rfl⟩:=wa h
  simp only[km,List.cons_append,List.nil_append,Prod.mk.injEq]at ho
  obtain⟨rfl,_⟩:=ho
  exact ha
theorem GB{q:qV}{v:SV T.den}{l:List (TV T.den)}(h:gB Hs q v=some l)(rest:List (TV T.den)):(gG Hc q (l++rest)).2=rest:=by
 cases q with
 |FI esz n rg cap=>
  simp only[gB]at h
  split at h
  case h_2=>simp at h
  split at h
  case h_2=>simp at h
  split at h
  case isFalse=>simp at h
  simp only[Option.some.injEq]at h
  subst h
  rfl
 |jw n i j len cap=>
  simp only[gB]at h
  split at h
  case h_2=>simp at h
  split at h
  case h_2=>simp at h
  split at h
  case isFalse=>simp at h
  simp only[Option.some.injEq]at h
  subst h
  rfl
 |hole=>
  simp only[gB]at h
  split at h
  case h_2=>simp at h
  simp only[Option.some.injEq]at h
  subst h
  rfl
 |val t=>
  simp only[gB]at h
  split at h
  ·simp at h
  split at h
  case h_2=>simp at h
  simp only[Option.some.injEq]at h
  subst h
  rfl
 |own esz n=>
  simp only[gB]at h
  split at h
  case h_2=>simp at h
  split at h
  case h_2=>simp at h
  split at h
  case isFalse=>simp at h
  simp only[Option.some.injEq]at h
  subst h
  rfl
 |tv esz n t k=>
  simp only[gB]at h
  split at h
  case h_2=>simp at h
  split at h
  case h_2=>simp at h
  split at h
  case isFalse=>simp at h
  rw[Option.bind_eq_some_iff]at h
  obtain⟨x,hx,h⟩:=h
  rw[Option.bind_eq_some_iff]at h
  obtain⟨y,hy,h⟩:=h
  split at h
  ·simp only[Option.some.injEq]at h
   subst h
   rfl
  ·obtain⟨z,_,hl⟩:∃ z,T.dn t (.lit (.int .i64 _))=some z∧_=l:=Option.map_eq_some_iff.1 h
   subst hl
   rfl
  ·simp at h
theorem nodup_cons{x:Nat}{l:List Nat}(h:nodupB (x::l)=true):x∉l∧nodupB l=true:=by
 simp_all[nodupB,decide_eq_false_iff_not]
theorem Lc{H:aq T.den}{n:Nat}{o o':aK T.den}(ho:H[n]?=some (some o))(hc:o'.cur=o.cur)(m:Nat):ku (H.set n (some o')) m=ku H m:=by
 unfold ku
 by_cases e:m=n
 ·grind
 ·rw[List.getElem?_set_ne (Ne.symm e)]
theorem tE[ag](hT:T.Ok):∀ {objs:List (Nat×dt)} {H:aq T.den} {l:List (TV T.den)} (rest:List (TV T.den)),nodupB (objs.map (·.1))=true→lI Hs objs=some l →
  (∀ q,q∈objs→∃ o,H[q.1]?=some (some o)∧Compat o q.2) →
  (hJ H objs (l++rest)).length=H.length∧(∀ n:Nat,n∉objs.map (·.1)→(hJ H objs (l++rest))[n]?=H[n]?)∧(∀ n,ku (hJ H objs (l++rest)) n=ku H n) ∧
  (∀ q,q∈objs→∃ o os o' ln Hc GC,H[q.1]?=some (some o)∧Hs[q.1]?=some (some os)∧fo Hs os q.2=some ln∧(∀ n,ku Hc n=ku H n)∧km Hc o q.2 (ln++GC)=(o',GC) ∧
    (hJ H objs (l++rest))[q.1]?=some (some o')∧o'.cur=o.cur∧o'.len=os.len)
 |[],H,l,rest,_,_,_=>⟨rfl,fun _ _=>rfl,fun _=>rfl,fun q hq=>by simp at hq⟩
 |(n,p)::objs,H,l,rest,Cw,qZ,Zl=>by
  simp only[List.map_cons]at Cw
  obtain⟨Og,Cw⟩:=nodup_cons Cw
  simp only[lI]at qZ
  split at qZ
  case h_2=>simp at qZ
  rename_i os hos
  rw[Option.bind_eq_some_iff]at qZ
  obtain⟨ln,h1,qZ⟩:=qZ
  rw[Option.map_eq_some_iff]at qZ
  obtain⟨l2,h2,rfl⟩:=qZ
  obtain⟨o,ho,hco⟩:=Zl (n,p) (by simp)
  simp only at ho hco
  obtain⟨o',e1,e2,e3⟩:=BX (Hc:=H) hT hco h1 (l2++rest) fun q v l hl rest=>GB hl rest
  have XY:hJ H ((n,p)::objs) (ln++l2++rest)=hJ (H.set n (some o')) objs (l2++rest):=by
   simp_all[hJ,ho]
  rw[XY]
  have cG:=(List.getElem?_eq_some_iff.1 ho).1
  have ack:∀ q,q∈objs→∃ o,(H.set n (some o'))[q.1]?=some (some o)∧Compat o q.2:=by
   grind
  obtain⟨i1,i2,i3,i4⟩:=tE hT rest Cw h2 ack
  have wF:=Lc ho e2
  refine⟨by rw[i1]; simp,fun m hm=>?_,fun m=>by rw[i3,wF],fun q hq=>?_⟩
  ·grind
  ·grind
theorem uE[ag]:∀ {objs:List (Nat×dt)} {H:aq T.den},nodupB (objs.map (·.1))=true →
  (tz H objs).length=H.length∧(∀ n:Nat,n∉objs.map (·.1)→(tz H objs)[n]?=H[n]?)∧(∀ q,q∈objs→∀ o,H[q.1]?=some (some o)→(tz H objs)[q.1]?=some (some (oE o q.2)))
 |[],H,_=>⟨rfl,fun _ _=>rfl,fun q hq=>by simp at hq⟩
 |(n,p)::objs,H,Cw=>by
  simp only[List.map_cons]at Cw
  obtain⟨Og,Cw⟩:=nodup_cons Cw
  simp only[tz]
  split
  ·rename_i o ho
   have cG:=(List.getElem?_eq_some_iff.1 ho).1
   obtain⟨i1,i2,i3⟩:=uE (objs:=objs) (H:=H.set n (some (oE o p))) Cw
   refine⟨by rw[i1]; simp,fun m hm=>?_,fun q hq o2 wT=>?_⟩
   ·grind
   ·grind
  ·rename_i Ca
   obtain⟨i1,i2,i3⟩:=uE (objs:=objs) (H:=H) Cw
   refine⟨i1,fun m hm=>?_,fun q hq o2 wT=>?_⟩
   ·simp_all
   ·grind
theorem sn[ag](hT:T.Ok)(th:∀ n,ku Hc n=ku Hf n)(hlen:GA ok Hs Hf){N:Nat}{frs:uR T.den}{ast:Nat→AV}(gi:∀ t,RV T Hs (dj frs t) (ast t)):
  ∀ {aG:List (Nat×qV)} {fr:uR T.den} {l:List (TV T.den)} (rest:List (TV T.den)),nodupB (aG.map (·.1))=true→(∀ q,q∈aG→q.1<N∧∀ n,n∈q.2.nU→ok n)→rZ Hs frs aG=some l →
    ∃ DE,sP N Hc fr aG (l++rest)=(DE,rest)∧(∀ t,t∉aG.map (·.1)→dj DE t=dj fr t)∧(∀ q,q∈aG→R T Hf (dj DE q.1) (ast q.1))
 |[],fr,l,rest,_,_,h=>by
  simp only[rZ,Option.some.injEq]at h
  subst h
  exact⟨fr,rfl,fun _ _=>rfl,fun q hq=>by simp at hq⟩
 |(d,p)::aG,fr,l,rest,Cw,hN,h=>by
  simp only[List.map_cons]at Cw
  obtain⟨Og,Cw⟩:=nodup_cons Cw
  simp only[rZ,Option.bind_eq_some_iff,Option.map_eq_some_iff]at h
  obtain⟨l1,h1,l2,h2,rfl⟩:=h
  obtain⟨v',e1,e2,_⟩:=uD hT th hlen (hN (d,p) (by simp)).2 (gi d) h1 (l2++rest)
  obtain⟨DE,i1,i2,i3⟩:=sn hT th hlen gi (fr:=vO N fr d v') rest Cw (fun q hq=>hN q (List.mem_cons_of_mem _ hq)) h2
  refine⟨DE,?_,fun t ht=>?_,fun q hq=>?_⟩
  ·simp_all[sP]
  ·simp only[List.map_cons,List.mem_cons,not_or]at ht
   rw[i2 t ht.2,lY,if_neg (by omega)]
  ·rcases List.mem_cons.1 hq with rfl|hq
   ·rw[i2 d Og,lY,if_pos ⟨rfl,(hN (d,p) (by simp)).1⟩]
    exact e2
   ·exact i3 q hq
theorem xC[ag]{N:Nat}:∀ {dead:List Nat} {fr:uR T.den} {t:Nat},dj (CL N fr dead) t=(if t∈dead∧t<N then .dead else dj fr t)
 |[],fr,t=>by simp[CL]
 |d::r,fr,t=>by
  simp only[CL]
  rw[xC,lY]
  by_cases h1:t∈r∧t<N
  ·simp_all
  ·grind
end
end Go.PI
end
