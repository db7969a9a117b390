/- The law LinkValid returns true for every input, and each argument reads as it read before; the package variable that it reads is laid by the program's text (a tied card); no conditions. This file: the row and the card, last of the parts. -/
import Derived.IntWalk
import Derived.KernelRfl
import Derived.Test.YtpodhambaehlkaaGreatDoorRows
import Derived.WalkKit
import Derived.ProofKit
import Derived.OpenShut
import Derived.ShutString
import Derived.ChangeOld
import Derived.ChangeSame
import Derived.Below
import Derived.SizedLaws
import Derived.LaidMore
import Derived.MakeChecks
import Derived.Lay
import Derived.LaidOnce
import Derived.SevenTiedAt
import Derived.Test.YtpodhambaehlkaaGreatDoorCards
import Derived.Test.YtpodhambaehlkaaGreatDoorTie
import Derived.Test.YtpodhambaehlkaaGreatDoorX10
set_option linter.unusedVariables false
set_option linter.unusedSimpArgs false
section
/- Plain laws of this seat: new queues. -/
set_option maxRecDepth 100000
namespace Go.Proofs.YtpodhambaehlkaaGreatDoor
open Go.PI Go.Pl
theorem cN{a b:Bool}:(bif a then some b else some false)=some (a&&b):=by cases a<;>rfl
abbrev zP:an:=an.mk 0 0 0 0 0 0 false false
abbrev zQ:Queue:=Queue.mk (af.mk 0 0 0 0) 0 [] (A8.mk 0 0 0 0 0 0 0 0) 0
def p5(n:Int):Bool:=decide (0≤n)&&decide (n≤10000000)
theorem T8(n lo hi:Int):aa.dL n lo hi=some (decide (lo≤n)&&decide (n≤hi)):=cN
theorem Ld(n lo hi:Int):aa.eT n lo hi=some (decide (lo≤n)&&decide (n≤hi)):=cN
theorem Ub(n lo hi:Int):aa.bo n lo hi=some (decide (lo≤n)&&decide (n≤hi)):=cN
theorem Eg(n:Int):aa.eU n=some (p5 n):=by
 unfold aa.eU
 rw[Ub]; rfl
theorem Rd(n lo hi:Int):aa.aR n lo hi=some (decide (lo≤n)&&decide (n≤hi)):=cN
theorem AM(n lo hi:Int):aa.bL n lo hi=some (decide (lo≤n)&&decide (n≤hi)):=cN
theorem F1(n lo hi:Int):aa.cK n lo hi=some (decide (lo≤n)&&decide (n≤hi)):=cN
theorem Eh(n:Int):aa.gX n=some (p5 n):=by
 unfold aa.gX
 rw[F1]; rfl
theorem o7(n:Int):aa.dZ n=some (p5 n):=cN
theorem lp{τ ω:Type}{f:τ→Option (τ ⊕ ω)}{x:τ}{w:ω}(n:Nat)(h:lX f n x=some w):aX f x=some w:=nH.2 ⟨n,h⟩
abbrev TR:Type:=Queue×an×Bool×List an×Int
def NY(r:Option TR)(now:Int):Prop:=∃ q' e,r=some (q',zP,false,[],e)∧(e==0)=p5 now
theorem fin{now v:Int}{x1 x2 X:Option TR}(hv:v=0)(h1:x1=some (zQ,zP,false,[],1))(h2:x2=some (zQ,zP,false,[],18))(hX:∃ q',X=some (q',zP,false,[],0)):
  NY (bif !(decide (0≤now)&&decide (now≤10000000)) then x1 else bif decide (now<v) then x2 else X) now:=by
 subst hv
 unfold NY p5
 cases h:(decide (0≤now)&&decide (now≤10000000))
 ·exact⟨_,_,h1,rfl⟩
 ·have h':decide (now<0)=false:=by
   simp only[Bool.and_eq_true,decide_eq_true_eq]at h
   exact decide_eq_false (by omega)
  obtain⟨q',hX⟩:=hX
  rw[h']
  exact⟨q',0,hX,rfl⟩
theorem SK(n:Int):∃ m,aa.ef n=some m:=by
 unfold aa.ef
 cases decide (n.tmod 1000<0)
 ·exact⟨_,rfl⟩
 ·exact⟨_,rfl⟩
theorem SJ(a:Int)(q:Queue)(d o:Int):∃ m,aa.db a q d o=some m:=by
 unfold aa.db
 obtain⟨x,hx⟩:=SK (IntKind.i64.wrap (q.af.B*IntKind.i64.wrap (d-q.af.A)))
 obtain⟨y,hy⟩:=SK (IntKind.i64.wrap (q.af.C*IntKind.i64.wrap (d-o)))
 rw[hx,hy]
 exact⟨_,rfl⟩
end Go.Proofs.YtpodhambaehlkaaGreatDoor
end
section
/- Plain facts of this seat: packets, ordered lists, steps of models. -/
set_option maxRecDepth 100000
namespace Go.Proofs.YtpodhambaehlkaaGreatDoor
open Go.PI Go.Pl
section
variable {α β:Type}
theorem bT{c:Bool}{x y r:Option α}(hc:c=true)(hx:x=r):(bif c then x else y)=r:=by subst hc; exact hx
theorem bF{c:Bool}{x y r:Option α}(hc:c=false)(hy:y=r):(bif c then x else y)=r:=by subst hc; exact hy
theorem bB{e:Option β}{v:β}{k:β→Option α}{r:Option α}(he:e=some v)(hk:k v=r):e.bind k=r:=by subst he; exact hk
end
theorem qx{a b:Bool}:(bif !a then some false else some b)=some (a&&b):=by cases a<;>rfl
theorem qy{a b:Bool}:(bif a then some false else some b)=some (!a&&b):=by cases a<;>rfl
def mi(p:an):Bool:=(decide (0≤p.aG)&&decide (p.aG≤7))&&((decide (0≤p.Sub)&&decide (p.Sub≤3))&&((decide (0≤p.Number)&&decide (p.Number≤1000000000)) &&
 ((decide (0≤p.Data)&&decide (p.Data≤1000000000))&&((decide (1≤p.aA)&&decide (p.aA≤10000))&&(decide (0≤p.aQ)&&decide (p.aQ≤10000000))))))
theorem Rc(p:an):aa.lT p=some (mi p):=by
 unfold aa.lT mi
 simp only[T8,Option.bind_some,cN]
theorem T9(p:an):aa.gV p=some (mi p):=by
 unfold aa.gV mi
 simp only[Ld,Option.bind_some,cN]
theorem Ua(p:an):aa.eH p=some (mi p):=by
 unfold aa.eH mi
 simp only[Ub,Eg,p5,Option.bind_some,cN]
theorem Uc(p:an):aa.gr p=some (mi p):=by
 unfold aa.gr mi
 simp only[Rd,Option.bind_some,cN]
theorem Ud(p:an):aa.fP p=some (mi p):=by
 unfold aa.fP mi
 simp only[AM,Option.bind_some,cN]
theorem Ue(p:an):aa.je p=some (mi p):=by
 unfold aa.je mi
 simp only[F1,Eh,p5,Option.bind_some,cN]
def sj(c:ai→Bool)(hi a:Int)(x:ai):Bool:=c x&&(decide (a≤x.At)&&decide (x.At≤hi))
def bU(c:ai→Bool)(hi:Int):Int→List ai→Bool
 |_,[]=>true
 |a,x::xs=>sj c hi a x&&bU c hi x.At xs
theorem walk{τ ω β:Type}{f:τ→Option (τ ⊕ ω)}{K:ω→Option β}(l:List ai)(c:ai→Bool)(hi:Int)(st:Nat→Int→τ)(Ei bad:Option β)
  (h1:∀ i (h:i<l.length) a,sj c hi a l[i]=true→f (st i a)=some (.inl (st (i+1) l[i].At)))
  (h2:∀ i (h:i<l.length) a,sj c hi a l[i]=false→∃ w,f (st i a)=some (.inr w)∧K w=bad)
  (h3:∀ a,∃ w,f (st l.length a)=some (.inr w)∧K w=Ei) :
  ∀ n i a,l.length-i=n→i≤l.length→(aX f (st i a)).bind K=bif bU c hi a (l.drop i) then Ei else bad:=by
 intro n
 induction n with
 |zero=>
  intro i a hn tM
  have:i=l.length:=by omega
  subst this
  obtain⟨w,hw,hk⟩:=h3 a
  rw[Go.Pl.out hw,List.drop_length]
  exact hk
 |succ n ih=>
  intro i a hn tM
  have cr:i<l.length:=by omega
  rw[List.drop_eq_getElem_cons cr]
  cases ho:sj c hi a l[i] with
  |true=>
   rw[Go.Pl.next (h1 i cr a ho),ih (i+1) _ (by omega) cr]
   simp only[bU,ho,Bool.true_and]
  |false=>
   obtain⟨w,hw,hk⟩:=h2 i cr a ho
   rw[Go.Pl.out hw]
   simp only[bU,ho,Bool.false_and,cond_false]
   exact hk
theorem fo{i n:Nat}(h:i<n):decide ((i:Int)<(n:Int))=true:=decide_eq_true (by omega)
theorem jx(n:Nat):decide ((n:Int)<(n:Int))=false:=decide_eq_false (by omega)
theorem ct(i:Nat):decide (0≤(i:Int))=true:=decide_eq_true (by omega)
theorem get_at{l:List ai}{i:Nat}(h:i<l.length):l[(i:Int).toNat]?=some l[i]:=by simp[h]
def cP(x:ai):Bool:=mi x.P
def cF(f:Int)(x:ai):Bool:=mi x.P&&(x.P.aG==f)
def cA(b:Bool)(x:ai):Bool:=mi x.P&&(x.P.aI==b)
theorem Uf(l:List ai)(xw last:Int)(hl:l.length≤2^63-1):aa.dh l xw last=some (bU (cF xw) last 0 l):=by
 unfold aa.dh
 refine(walk l (cF xw) last (fun i a=>(false,a,(i:Int))) (some true) (some false) ?_ ?_ ?_ _ 0 0 rfl (Nat.zero_le _)).trans (by rw[List.drop_zero]; cases bU (cF xw) last 0 l<;>rfl)
 ·intro i h a ho
  simp only[sj,cF,Bool.and_eq_true]at ho
  obtain⟨⟨a1,a2⟩,a3,a4⟩:=ho
  simp only[fo h,ct,cond_true,get_at h,Option.bind_some,Ud,a1,a2,AM,a3,a4,Bool.and_self,Bool.not_true,cond_false,m8 h hl]
 ·intro i h a ho
  simp only[fo h,ct,cond_true,get_at h,Option.bind_some,Ud,AM]
  refine⟨.inl false,?_,rfl⟩
  revert ho
  simp only[sj,cF]
  cases mi l[i].P<;>cases (l[i].P.aG==xw)<;>cases (decide (a≤l[i].At)&&decide (l[i].At≤last))<;>intro ho<;>first|rfl|exact absurd ho (by decide)
 ·intro a
  simp only[jx,cond_false]
  exact⟨_,rfl,rfl⟩
theorem JY(l:List ai)(last:Int)(Iy:Bool)(hl:l.length≤2^63-1):aa.lU l last Iy=some (bU (cA Iy) last 0 l):=by
 unfold aa.lU
 refine(walk l (cA Iy) last (fun i a=>(false,a,(i:Int))) (some true) (some false) ?_ ?_ ?_ _ 0 0 rfl (Nat.zero_le _)).trans (by rw[List.drop_zero]; cases bU (cA Iy) last 0 l<;>rfl)
 ·intro i h a ho
  simp only[sj,cA,Bool.and_eq_true]at ho
  obtain⟨⟨a1,a2⟩,a3,a4⟩:=ho
  simp only[fo h,ct,cond_true,get_at h,Option.bind_some,Ue,a1,a2,F1,a3,a4,Bool.and_self,Bool.not_true,cond_false,m8 h hl]
 ·intro i h a ho
  simp only[fo h,ct,cond_true,get_at h,Option.bind_some,Ue,F1]
  refine⟨.inl false,?_,rfl⟩
  revert ho
  simp only[sj,cA]
  cases mi l[i].P<;>cases (l[i].P.aI==Iy)<;>cases (decide (a≤l[i].At)&&decide (l[i].At≤last))<;>intro ho<;>first|rfl|exact absurd ho (by decide)
 ·intro a
  simp only[jx,cond_false]
  exact⟨_,rfl,rfl⟩
theorem Ug(q:Queue)(l:List ai)(hq:q.ag=[l])(hl:l.length≤2^63-1):aa.gl q=some (bU cP q.ae.e7 0 l&&decide ((l.length:Int)≤q.Room)):=by
 unfold aa.gl
 rw[hq]
 refine bB (v:=l) rfl ?_
 refine(walk l cP q.ae.e7 (fun i a=>(false,a,(i:Int))) (some (decide ((l.length:Int)≤q.Room))) (some false) ?_ ?_ ?_ _ 0 0 rfl (Nat.zero_le _)).trans (by rw[List.drop_zero]; cases bU cP q.ae.e7 0 l<;>rfl)
 ·intro i h a ho
  simp only[sj,cP,Bool.and_eq_true]at ho
  obtain⟨a1,a3,a4⟩:=ho
  simp only[fo h,ct,cond_true,get_at h,Option.bind_some,T9,a1,Ld,a3,a4,Bool.and_self,Bool.not_true,cond_false,m8 h hl]
 ·intro i h a ho
  simp only[fo h,ct,cond_true,get_at h,Option.bind_some,T9,Ld]
  refine⟨.inl false,?_,rfl⟩
  revert ho
  simp only[sj,cP]
  cases mi l[i].P<;>cases (decide (a≤l[i].At)&&decide (l[i].At≤q.ae.e7))<;>intro ho<;>first|rfl|exact absurd ho (by decide)
 ·intro a
  simp only[jx,cond_false]
  exact⟨_,rfl,rfl⟩
end Go.Proofs.YtpodhambaehlkaaGreatDoor
end
section
/- Plain facts of this seat: what valid queues are. -/
set_option maxRecDepth 100000
namespace Go.Proofs.YtpodhambaehlkaaGreatDoor
open Go.PI Go.Pl
def tP(n lo hi:Int):Bool:=decide (lo≤n)&&decide (n≤hi)
def sm(q:Queue):Prop:=∀ l∈q.ag,l.length≤2^63-1
theorem zu{α:Type}(a b:List α)(r:List (List α)):(!((a::b::r).length:Int)==(1:Int))=true:=by
 simp only[List.length_cons,Bool.not_eq_true',beq_eq_false_iff_ne,ne_eq]; omega
def vE(q:Queue):Bool:=(q.af.Kind==2)&&(!decide (q.af.A<1)&&(!decide (q.af.B≤q.af.A)&&(!decide (500<q.af.B)&&(tP q.af.C 0 10&&(tP q.Room 1 500 &&
 (match q.ag with
 |[l]=>(0==(0:Int)&&(q.ae.e1==0&&(q.ae.e2==0&&(q.ae.e3==0&&(q.ae.e4==0&&(q.ae.e5==0&&(q.ae.e6==0&&0==(0:Int))))))))&&(tP q.ae.e0 0 512000&&(tP q.ae.e7 0 10000000&&(bU cP q.ae.e7 0 l&&decide ((l.length:Int)≤q.Room))))
 |_=>false))))))
theorem Xx(q:Queue)(hs:sm q):aa.fY q=some (vE q):=by
 unfold aa.fY vE tP
 simp only[Ld,Option.bind_some]
 match hq:q.ag with
 |[]=>simp only[List.length_nil]; simp only[show (!((0:Nat):Int)==(1:Int))=true from rfl,cond_true,qx,qy,Bool.and_false]
 |[l]=>
  rw[Ug q l hq (hs l (by rw[hq]; simp))]
  simp only[List.length_cons,List.length_nil,show (!((0+1:Nat):Int)==(1:Int))=false from rfl,cond_false,Option.bind_some,qx,qy,cN,Bool.not_not]
  try rfl
 |a::b::r=>simp only[zu,cond_true,qx,qy,Bool.and_false]
theorem qz(q:Queue)(l:List ai)(hq:q.ag=[l]):aa.bH q=some l:=by
 unfold aa.bH; rw[hq]; rfl
theorem Xy(q:Queue)(l:List ai)(hq:q.ag=[l])(hl:l.length≤2^63-1):aa.gJ q=some (bU cP q.ae.e7 0 l):=by
 unfold aa.gJ
 rw[qz q l hq]
 refine bB (v:=l) rfl ?_
 refine(walk l cP q.ae.e7 (fun i a=>(0,(i:Int),a)) (some true) (some false) ?_ ?_ ?_ _ 0 0 rfl (Nat.zero_le _)).trans (by rw[List.drop_zero]; cases bU cP q.ae.e7 0 l<;>rfl)
 ·intro i h a ho
  simp only[sj,cP,Bool.and_eq_true,decide_eq_true_eq]at ho
  obtain⟨a1,a3,a4⟩:=ho
  simp only[fo h,ct,cond_true,get_at h,Option.bind_some,Rc,a1,decide_eq_false (show ¬l[i].At<a by omega),decide_eq_false (show ¬q.ae.e7<l[i].At by omega),Bool.not_true,cond_false,m8 h hl]
 ·intro i h a ho
  simp only[fo h,ct,cond_true,get_at h,Option.bind_some,Rc]
  refine⟨.inl ((i:Int),l[i].At),?_,?_⟩
  ·revert ho
   simp only[sj,cP]
   rw[show decide (l[i].At<a)=!decide (a≤l[i].At) by by_cases h:a≤l[i].At<;>simp[h]<;>omega,show decide (q.ae.e7<l[i].At)=!decide (l[i].At≤q.ae.e7) by by_cases h:l[i].At≤q.ae.e7<;>simp[h]<;>omega]
   cases mi l[i].P<;>cases decide (a≤l[i].At)<;>cases decide (l[i].At≤q.ae.e7)<;>intro ho<;>first|rfl|exact absurd ho (by decide)
  ·show some (!decide (0≤(i:Int)))=some false
   rw[ct]; rfl
 ·intro a
  simp only[jx,cond_false]
  exact⟨_,rfl,rfl⟩
def vT(q:Queue):Bool:=(q.af.Kind==1&&(q.af.A==0&&(q.af.B==0&&q.af.C==0)))&&((q.ae.e0==0&&(q.ae.e1==0&&(q.ae.e2==0&&(q.ae.e3==0&&(q.ae.e4==0&&(q.ae.e5==0&&(q.ae.e6==0&&0==(0:Int)))))))) &&
 ((q.aY==0)&&(tP q.ae.e7 0 10000000&&(tP q.Room 1 500&&(match q.ag with
 |[l]=>decide ((l.length:Int)≤q.Room)&&bU cP q.ae.e7 0 l
 |_=>false)))))
theorem SG(q:Queue)(hs:sm q):aa.eZ q=some (vT q):=by
 unfold aa.eZ vT tP
 simp only[T8,Option.bind_some]
 match hq:q.ag with
 |[]=>simp only[List.length_nil]; simp only[show (((0:Nat):Int)==(1:Int))=false from rfl,cond_false,cN,Bool.and_false]
 |[l]=>
  rw[qz q l hq,Xy q l hq (hs l (by rw[hq]; simp))]
  simp only[List.length_cons,List.length_nil,show (((0+1:Nat):Int)==(1:Int))=true from rfl,cond_true,Option.bind_some,cN]
  try rfl
 |a::b::r=>
  have:=zu a b r
  rw[Bool.not_eq_true']at this
  simp only[this,cond_false,cN,Bool.and_false]
theorem Xz(q:Queue)(hs:sm q):aa.lz q=some (vT q):=by
 unfold aa.lz; rw[SG q hs]; rfl
end Go.Proofs.YtpodhambaehlkaaGreatDoor
end
section
/- Plain facts of this seat: package early. -/
set_option maxRecDepth 100000
namespace Go.Proofs.YtpodhambaehlkaaGreatDoor
open Go.PI Go.Pl
theorem Re(Ej:Int):∃ k s,aa.oy Ej=some (k,s):=by
 unfold aa.oy
 exact⟨_,_,bB (lp 4 rfl) rfl⟩
theorem v9(Ej n:Int)(h1:1≤n)(h2:n≤1000000000):∃ k s,aa.cJ Ej n=some (k,s,0):=by
 unfold aa.cJ
 obtain⟨k,s,h⟩:=Re Ej
 exact⟨_,_,bF (decide_eq_false (by omega)) (bF (decide_eq_false (by omega)) (bB h (bF (decide_eq_false (by omega)) rfl)))⟩
theorem NJ{e m d M:Int}(he:0≤e∧e≤M)(hm:0≤m∧m≤M)(hd:1≤d):0≤e+(m-e).fdiv d∧e+(m-e).fdiv d≤M:=by
 rw[Int.fdiv_eq_ediv_of_nonneg _ (by omega)]
 have h1:e-e*1≤e:=by omega
 by_cases h:0≤m-e
 ·have a:=Int.ediv_nonneg h (show 0≤d by omega)
  have b:=Int.ediv_le_self d h
  omega
 ·have a:(m-e)/d≤0:=Int.le_of_lt (Int.ediv_neg_of_neg_of_pos (by omega) (by omega))
  have b:m-e≤(m-e)/d:=by
   rw[Int.le_ediv_iff_mul_le (by omega)]
   have:(m-e)*d≤(m-e)*1:=Int.mul_le_mul_of_nonpos_left (by omega) hd
   omega
  omega
structure VE(q:Queue)(l:List ai):Prop where
 kind:q.af.Kind=2
 a1:1≤q.af.A
 ab:q.af.A<q.af.B
 b5:q.af.B≤500
 c0:0≤q.af.C
 c1:q.af.C≤10
 r0:1≤q.Room
 r1:q.Room≤500
 ls:q.ag=[l]
 z:q.ae.e1=0∧q.ae.e2=0∧q.ae.e3=0∧q.ae.e4=0∧q.ae.e5=0∧q.ae.e6=0
 v0:0≤q.ae.e0
 v1:q.ae.e0≤512000
 t0:0≤q.ae.e7
 t1:q.ae.e7≤10000000
 ord:bU cP q.ae.e7 0 l=true
 len:(l.length:Int)≤q.Room
theorem Uh(q:Queue):vE q=true↔∃ l,VE q l:=by
 unfold vE tP
 constructor
 ·intro h
  simp only[Bool.and_eq_true,Bool.not_eq_true',decide_eq_true_eq,decide_eq_false_iff_not,beq_iff_eq]at h
  obtain⟨h1,h2,h3,h4,h5,h6,h7⟩:=h
  match hq:q.ag with
  |[]=>rw[hq]at h7; simp at h7
  |a::b::r=>rw[hq]at h7; simp at h7
  |[l]=>
   rw[hq]at h7
   simp only[Bool.and_eq_true,decide_eq_true_eq,beq_iff_eq]at h7
   obtain⟨⟨_,g1,g2,g3,g4,g5,g6,_⟩,g7,g8,g9,Lf⟩:=h7
   exact⟨l,h1,by omega,by omega,by omega,by omega,by omega,by omega,by omega,hq,⟨g1,g2,g3,g4,g5,g6⟩,by omega,by omega,by omega,by omega,g9,Lf⟩
 ·rintro⟨l,h⟩
  obtain⟨z1,z2,z3,z4,z5,z6⟩:=h.z
  have:=h.a1; have:=h.ab; have:=h.b5; have:=h.c0; have:=h.c1; have:=h.r0; have:=h.r1; have:=h.v0; have:=h.v1; have:=h.t0; have:=h.t1
  rw[h.ls]
  simp only[Bool.and_eq_true,Bool.not_eq_true',decide_eq_true_eq,decide_eq_false_iff_not,beq_iff_eq]
  exact⟨h.kind,by omega,by omega,by omega,⟨by omega,by omega⟩,⟨by omega,by omega⟩,⟨trivial,z1,z2,z3,z4,z5,z6,trivial⟩,⟨by omega,by omega⟩,⟨by omega,by omega⟩,h.ord,h.len⟩
theorem VE.sm{q:Queue}{l:List ai}(h:VE q l):sm q:=by
 intro x hx
 rw[h.ls]at hx
 have:=h.len; have:=h.r1
 simp only[List.mem_singleton]at hx
 subst hx; omega
theorem VE.valid{q:Queue}{l:List ai}(h:VE q l):aa.fY q=some true:=by
 rw[Xx q h.sm,(Uh q).2 ⟨l,h⟩]
theorem NK{c:ai→Bool}{a hi tM:Int}{x:ai}(hh:hi≤tM)(h:sj c hi a x=true):sj c tM a x=true:=by
 simp only[sj,Bool.and_eq_true,decide_eq_true_eq]at h ⊢
 exact⟨h.1,h.2.1,by omega⟩
theorem iW{c:ai→Bool}{hi tM:Int}(hh:hi≤tM):∀ {l:List ai} {a:Int},bU c hi a l=true→bU c tM a l=true
 |[],_,_=>rfl
 |x::xs,a,h=>by
  simp only[bU,Bool.and_eq_true]at h ⊢
  exact⟨NK hh h.1,iW hh h.2⟩
theorem Rf{c:ai→Bool}{hi a b:Int}(hh:b≤a):∀ {l:List ai},bU c hi a l=true→bU c hi b l=true
 |[],_=>rfl
 |x::xs,h=>by
  simp only[bU,Bool.and_eq_true,sj,decide_eq_true_eq]at h ⊢
  exact⟨⟨h.1.1,by omega,h.1.2.2⟩,h.2⟩
theorem AN{c:ai→Bool}{hi:Int}{x:ai}(hc:c x=true)(hx:hi≤x.At)(h0:0≤x.At):∀ {l:List ai} {a:Int},a≤x.At→bU c hi a l=true→bU c x.At a (l++[x])=true
 |[],a,ha,_=>by simp only[List.nil_append,bU,sj,hc,Bool.true_and,Bool.and_true,Bool.and_eq_true,decide_eq_true_eq]; omega
 |y::ys,a,ha,h=>by
  simp only[bU,List.cons_append,Bool.and_eq_true]at h ⊢
  have h1:=NK hx h.1
  refine⟨h1,AN hc hx h0 ?_ h.2⟩
  simp only[sj,Bool.and_eq_true,decide_eq_true_eq]at h1
  exact h1.2.2
theorem wa{c:ai→Bool}{hi a:Int}{x:ai}{xs:List ai}(ha:0≤a)(h:bU c hi a (x::xs)=true):bU c hi 0 xs=true:=by
 simp only[bU,Bool.and_eq_true,sj,decide_eq_true_eq]at h
 exact Rf (by omega) h.2
theorem JZ{c:ai→Bool}{hi:Int}:∀ {a b:List ai},bU c hi 0 (a++b)=true→bU c hi 0 b=true
 |[],b,h=>h
 |x::xs,b,h=>JZ (a:=xs) (wa (Int.le_refl 0) h)
theorem iA{c:ai→Bool}{hi:Int}:∀ {l:List ai} {a:Int},bU c hi a l=true→∀ x∈l,c x=true∧a≤x.At∧x.At≤hi
 |[],_,_,x,hx=>by simp at hx
 |y::ys,a,h,x,hx=>by
  simp only[bU,Bool.and_eq_true,sj,decide_eq_true_eq]at h
  rcases List.mem_cons.1 hx with rfl|hx
  ·exact⟨h.1.1,h.1.2.1,h.1.2.2⟩
  ·have:=iA h.2 x hx
   exact⟨this.1,by omega,this.2.2⟩
def pm(p:an)(m:Bool):an:=an.mk p.aG p.Sub p.Number p.Data p.aA p.aQ p.aI m
def mk?(p:an)(m:Bool):Prop:=m=p.ay∨(p.aI=true∧m=true)
def eQ(q:Queue)(l:List ai)(e0 now s:Int):Queue:=Queue.mk q.af q.Room [l] (A8.mk e0 q.ae.e1 q.ae.e2 q.ae.e3 q.ae.e4 q.ae.e5 q.ae.e6 now) s
theorem NL{q:Queue}{l l':List ai}{e0 now s:Int}(h:VE q l)(h0:0≤e0∧e0≤512000)(hn:0≤now∧now≤10000000)(hl:bU cP now 0 l'=true)(hlen:(l'.length:Int)≤q.Room):VE (eQ q l' e0 now s) l':=
 ⟨h.kind,h.a1,h.ab,h.b5,h.c0,h.c1,h.r0,h.r1,rfl,h.z,h0.1,h0.2,hn.1,hn.2,hl,hlen⟩
theorem cy{n:Int}:p5 n=true↔0≤n∧n≤10000000:=by simp[p5]
theorem aZ{n:Int}(h1 : -9223372036854775808≤n)(h2:n≤9223372036854775807):IntKind.i64.wrap n=n:=IntWalk.i64_in _ (by omega)
theorem Ui{q:Queue}{l:List ai}(h:VE q l){now:Int}(hn:p5 now=true)(hle:q.ae.e7≤now):
  aa.nE q now=some (match l with
   |[]=>(eQ q [] q.ae.e0 now q.aY,zP,false,[],0)
   |x::xs=>(eQ q xs q.ae.e0 now q.aY,x.P,true,[],0)):=by
 have hlen:=h.len; have hr:=h.r1
 unfold aa.nE
 refine bB h.valid (bF rfl ?_)
 rw[Ld]
 refine bB (v:=true) (congrArg some hn) (bF rfl ?_)
 refine bF (decide_eq_false (by omega)) ?_
 rw[h.ls]
 refine bB (v:=l) rfl ?_
 cases l with
 |nil=>exact bT rfl rfl
 |cons x xs=>
  simp only[List.length_cons]at hlen
  refine bF rfl (bT (by simp only[List.length_cons,Bool.and_eq_true,decide_eq_true_eq]; omega) ?_)
  refine bF (by simp only[List.length_cons,beq_eq_false_iff_ne]; omega) ?_
  refine bT (by simp only[List.length_cons,Bool.and_eq_true,decide_eq_true_eq,Int.toNat_natCast,Option.getD_none]; omega) ?_
  refine bT (by simp) ?_
  refine bB (v:=x) rfl ?_
  refine bT (by simp only[List.length_cons,decide_eq_true_eq,Int.toNat_natCast]; omega) ?_
  simp[eQ]
end Go.Proofs.YtpodhambaehlkaaGreatDoor
end
section
/- Plain facts of this seat: what comes to package early. -/
set_option maxRecDepth 100000
namespace Go.Proofs.YtpodhambaehlkaaGreatDoor
open Go.PI Go.Pl
section
variable {α β:Type}(P:Option α→Prop)
theorem pT{c:Bool}{x y:Option α}(hc:c=true)(hx:P x):P (bif c then x else y):=by subst hc; exact hx
theorem pF{c:Bool}{x y:Option α}(hc:c=false)(hy:P y):P (bif c then x else y):=by subst hc; exact hy
theorem pC{c:Bool}{x y:Option α}(hx:c=true→P x)(hy:c=false→P y):P (bif c then x else y):=by
 cases c
 ·exact hy rfl
 ·exact hx rfl
theorem pB{e:Option β}{v:β}{k:β→Option α}(he:e=some v)(hk:P (k v)):P (e.bind k):=by subst he; exact hk
end
abbrev PR:Type:=Queue×List an×Int
def tE(q:Queue)(n:Int):Int:=IntKind.i64.wrap (q.ae.e0+(IntKind.i64.wrap (IntKind.i64.wrap (1024*n)-q.ae.e0)).fdiv (2^min q.af.C.toNat 64))
theorem J0{q:Queue}{l:List ai}(h:VE q l){n:Int}(hn:0≤n∧n≤500):0≤tE q n∧tE q n≤512000:=by
 have h0:=h.v0; have h1:=h.v1
 unfold tE
 rw[aZ (n:=1024*n) (by omega) (by omega),aZ (n:=1024*n-q.ae.e0) (by omega) (by omega)]
 have hd:(1:Int)≤2^min q.af.C.toNat 64:=by
  have:(0:Int)<2^min q.af.C.toNat 64:=Int.pow_pos (by decide)
  omega
 have:=NJ (e:=q.ae.e0) (m:=1024*n) (M:=512000) ⟨h0,h1⟩ (by omega) hd
 rw[aZ (by omega) (by omega)]
 exact this
def PE(q:Queue)(l:List ai)(p:an)(now:Int)(r:Option PR):Prop:=∃ e0 s,0≤e0∧e0≤512000 ∧
 (r=some (eQ q l e0 now s,[p],0)∨((l.length:Int)<q.Room∧∃ m,mk? p m∧r=some (eQ q (l++[⟨pm p m,now⟩]) e0 now s,[],0)))
theorem XA{q:Queue}{l:List ai}(h:VE q l){p:an}(hp:mi p=true){now:Int}(hn:p5 now=true)(hle:q.ae.e7≤now):PE q l p now (aa.p6 q p now):=by
 have hlen:=h.len; have hr:=h.r1; have Fh:=h.r0; have ha:=h.a1; have hab:=h.ab; have hb:=h.b5; have P9:=h.c0
 unfold aa.p6
 refine pB _ (T9 p) (pF _ (by rw[hp]; rfl) ?_)
 refine pB _ h.valid (pF _ rfl ?_)
 rw[Ld]
 refine pB _ rfl (pF _ (by rw[show (decide (0≤now)&&decide (now≤10000000))=true from hn]; rfl) ?_)
 refine pF _ (decide_eq_false (by omega)) ?_
 rw[h.ls]
 refine pB _ (v:=l) rfl ?_
 have w1:IntKind.i64.wrap (q.af.B-q.af.A)=q.af.B-q.af.A:=aZ (by omega) (by omega)
 have w2:IntKind.i64.wrap (1024*(q.af.B-q.af.A))=1024*(q.af.B-q.af.A):=aZ (by omega) (by omega)
 obtain⟨k,s,hk⟩:=v9 q.aY (1024*(q.af.B-q.af.A)) (by omega) (by omega)
 have acc:∀ (e0 s:Int) (m:Bool),0≤e0∧e0≤512000→mk? p m→(l.length:Int)<q.Room→PE q l p now (some (eQ q (l++[⟨pm p m,now⟩]) e0 now s,[],0)):=
  fun e0 s m he hm hl=>⟨e0,s,he.1,he.2,.inr ⟨hl,m,hm,rfl⟩⟩
 have Rg:∀ (e0 s:Int),0≤e0∧e0≤512000→PE q l p now (some (eQ q l e0 now s,[p],0)):=
  fun e0 s he=>⟨e0,s,he.1,he.2,.inl rfl⟩
 have m0:mk? p p.ay:=.inl rfl
 cases l with
 |nil=>
  have he:=J0 h (n:=0) (by omega)
  have hl:((([]:List ai)).length:Int)<q.Room:=by simp only[List.length_nil]; omega
  refine pT _ rfl (pF _ (decide_eq_false (by omega)) (pF _ (by simp only[beq_eq_false_iff_ne]; omega) ?_))
  refine pC _ (fun _=>acc (tE q 0) q.aY p.ay he m0 hl) (fun _=>?_)
  refine pC _ (fun _=>pC _ (fun _=>Rg (tE q 0) q.aY he) (fun hA=>acc (tE q 0) q.aY true he (.inr ⟨by simpa using hA,rfl⟩) hl)) (fun _=>?_)
  rw[w1,w2]
  refine pB _ hk (pC _ (fun _=>pC _ (fun _=>Rg (tE q 0) s he) (fun hA=>acc (tE q 0) s true he (.inr ⟨by simpa using hA,rfl⟩) hl)) (fun _=>acc (tE q 0) s p.ay he m0 hl))
 |cons x xs=>
  generalize hL:x::xs=l at *
  have dP:l.isEmpty=false:=by subst hL; rfl
  have he:=J0 h (n:=(l.length:Int)) (by omega)
  have room:((l.length:Int)==q.Room)=false→(l.length:Int)<q.Room:=by simp only[beq_eq_false_iff_ne]; omega
  have fit:(decide ((l.length+1)*64≤2^44)&&decide (l.length+1≤2^44))=true:=by simp only[Bool.and_eq_true,decide_eq_true_eq]; omega
  refine pF _ dP (pT _ (by simp only[Bool.and_eq_true,decide_eq_true_eq]; omega) (pF _ (decide_eq_false (by omega)) ?_))
  refine pC _ (fun _=>Rg (tE q l.length) q.aY he) (fun hR=>?_)
  have hl:=room hR
  refine pC _ (fun _=>pT _ fit (acc (tE q l.length) q.aY p.ay he m0 hl)) (fun _=>?_)
  refine pC _ (fun _=>pC _ (fun _=>Rg (tE q l.length) q.aY he) (fun hA=>pT _ fit (acc (tE q l.length) q.aY true he (.inr ⟨by simpa using hA,rfl⟩) hl))) (fun _=>?_)
  rw[w1,w2]
  refine pB _ hk (pC _ (fun _=>pC _ (fun _=>Rg (tE q l.length) s he) (fun hA=>pT _ fit (acc (tE q l.length) s true he (.inr ⟨by simpa using hA,rfl⟩) hl))) (fun _=>pT _ fit (acc (tE q l.length) s p.ay he m0 hl)))
end Go.Proofs.YtpodhambaehlkaaGreatDoor
end
section
/- Plain facts of this seat: package tail. -/
set_option maxRecDepth 100000
namespace Go.Proofs.YtpodhambaehlkaaGreatDoor
open Go.PI Go.Pl
theorem AO(l:List ai)(h:l.length≤1000):aa.fh l=some l:=by
 unfold aa.fh Ek CZ
 have h1:l.length*64≤2^44:=by omega
 have h2:l.length≤2^44:=by omega
 simp only[h1,h2,decide_true,Bool.and_self,cond_true]
theorem Lg(l m:List ai)(h:l.length+m.length≤1000):aa.gv [l,m]=some (l++m):=by
 unfold aa.gv zw CZ
 simp only[List.flatten_cons,List.flatten_nil,List.append_nil,List.length_append,List.length_cons,List.length_nil]
 refine bT ?_ rfl
 simp only[Bool.and_eq_true,decide_eq_true_eq]; omega
structure VT(q:Queue)(l:List ai):Prop where
 kind:q.af.Kind=1
 pz:q.af.A=0∧q.af.B=0∧q.af.C=0
 r0:1≤q.Room
 r1:q.Room≤500
 ls:q.ag=[l]
 sd:q.aY=0
 z:q.ae.e0=0∧q.ae.e1=0∧q.ae.e2=0∧q.ae.e3=0∧q.ae.e4=0∧q.ae.e5=0∧q.ae.e6=0
 t0:0≤q.ae.e7
 t1:q.ae.e7≤10000000
 ord:bU cP q.ae.e7 0 l=true
 len:(l.length:Int)≤q.Room
theorem NM(q:Queue):vT q=true↔∃ l,VT q l:=by
 unfold vT tP
 constructor
 ·intro h
  simp only[Bool.and_eq_true,decide_eq_true_eq,beq_iff_eq]at h
  obtain⟨⟨h1,h2,h3,h4⟩,⟨g0,g1,g2,g3,g4,g5,g6,_⟩,h5,h6,h7,h8⟩:=h
  match hq:q.ag with
  |[]=>rw[hq]at h8; simp at h8
  |a::b::r=>rw[hq]at h8; simp at h8
  |[l]=>
   rw[hq]at h8
   simp only[Bool.and_eq_true,decide_eq_true_eq]at h8
   exact⟨l,h1,⟨h2,h3,h4⟩,h7.1,h7.2,hq,h5,⟨g0,g1,g2,g3,g4,g5,g6⟩,h6.1,h6.2,h8.2,h8.1⟩
 ·rintro⟨l,h⟩
  rw[h.ls]
  simp only[Bool.and_eq_true,decide_eq_true_eq,beq_iff_eq]
  obtain⟨z0,z1,z2,z3,z4,z5,z6⟩:=h.z
  exact⟨⟨h.kind,h.pz⟩,⟨z0,z1,z2,z3,z4,z5,z6,trivial⟩,h.sd,⟨h.t0,h.t1⟩,⟨h.r0,h.r1⟩,h.len,h.ord⟩
theorem VT.sm{q:Queue}{l:List ai}(h:VT q l):sm q:=by
 intro x hx
 rw[h.ls]at hx
 have:=h.len; have:=h.r1
 simp only[List.mem_singleton]at hx
 subst hx; omega
theorem VT.El{q:Queue}{l:List ai}(h:VT q l):aa.eZ q=some true:=by
 rw[SG q h.sm,(NM q).2 ⟨l,h⟩]
theorem VT.valid{q:Queue}{l:List ai}(h:VT q l):aa.lz q=some true:=by
 rw[Xz q h.sm,(NM q).2 ⟨l,h⟩]
def tQ(q:Queue)(l:List ai)(now:Int):Queue:=Queue.mk q.af q.Room [l] (A8.mk q.ae.e0 q.ae.e1 q.ae.e2 q.ae.e3 q.ae.e4 q.ae.e5 q.ae.e6 now) q.aY
theorem NN{q:Queue}{l l':List ai}{now:Int}(h:VT q l)(hn:0≤now∧now≤10000000)(hl:bU cP now 0 l'=true)(hlen:(l'.length:Int)≤q.Room):VT (tQ q l' now) l':=
 ⟨h.kind,h.pz,h.r0,h.r1,rfl,h.sd,h.z,hn.1,hn.2,hl,hlen⟩
theorem tail_at{q:Queue}{l:List ai}(h:VT q l){now:Int}(hn:p5 now=true)(hle:q.ae.e7≤now):aa.kh q now=some 0:=by
 unfold aa.kh
 refine bB h.El (bF rfl ?_)
 rw[T8]
 exact bB (v:=true) (congrArg some hn) (bF rfl (bF (decide_eq_false (by omega)) rfl))
theorem tc{q:Queue}(l:List ai)(now:Int)(h:l.length≤1000):aa.eR q l now=some (tQ q l now):=by
 unfold aa.eR
 exact bB (AO l h) rfl
theorem XB{q:Queue}{l:List ai}(h:VT q l){p:an}(hp:mi p=true){now:Int}(hn:p5 now=true)(hle:q.ae.e7≤now):
  aa.nF q p now=some (tQ q l now,[p],0)∨((l.length:Int)<q.Room∧aa.nF q p now=some (tQ q (l++[⟨p,now⟩]) now,[],0)):=by
 have hlen:=h.len; have hr:=h.r1
 by_cases hR:(l.length:Int)=q.Room
 ·left
  unfold aa.nF
  refine bB (Rc p) (bF (by rw[hp]; rfl) ?_)
  refine bB (tail_at h hn hle) (bF rfl ?_)
  refine bB (qz q l h.ls) (bT (by rw[hR]; simp) ?_)
  refine bB (qz q l h.ls) (bB (tc l now (by omega)) rfl)
 ·right
  refine⟨by omega,?_⟩
  unfold aa.nF
  refine bB (Rc p) (bF (by rw[hp]; rfl) ?_)
  refine bB (tail_at h hn hle) (bF rfl ?_)
  refine bB (qz q l h.ls) (bF (by simpa using hR) ?_)
  refine bB (qz q l h.ls) (bB (Lg l [⟨p,now⟩] (by simp only[List.length_cons,List.length_nil]; omega)) ?_)
  exact bB (tc _ now (by simp only[List.length_append,List.length_cons,List.length_nil]; omega)) rfl
theorem Lh{q:Queue}{l:List ai}(h:VT q l){now:Int}(hn:p5 now=true)(hle:q.ae.e7≤now):
  aa.p7 q now=some (match l with
   |[]=>(tQ q [] now,zP,false,[],0)
   |x::xs=>(tQ q xs now,x.P,true,[],0)):=by
 have hlen:=h.len; have hr:=h.r1
 unfold aa.p7
 refine bB (tail_at h hn hle) (bF rfl ?_)
 refine bB (qz q l h.ls) ?_
 cases l with
 |nil=>exact bT rfl (bB (tc [] now (by simp)) rfl)
 |cons x xs=>
  simp only[List.length_cons]at hlen
  refine bF (by simp only[List.length_cons,beq_eq_false_iff_ne]; omega) ?_
  refine bB (qz q _ h.ls) (bT (by simp) ?_)
  refine bB (tc _ now (by simp; omega)) ?_
  refine bB (qz q _ h.ls) ?_
  exact bB (v:=x) rfl rfl
end Go.Proofs.YtpodhambaehlkaaGreatDoor
end
section
/- Plain facts of this seat: package integral. -/
set_option maxRecDepth 100000
namespace Go.Proofs.YtpodhambaehlkaaGreatDoor
open Go.PI Go.Pl
theorem SH{τ ω β:Type}{f:τ→Option (τ ⊕ ω)}{K:ω→Option β}{x0:τ}(l:List ai)(c:ai→Bool)(hi:Int)(st:Nat→Int→τ)(Ei bad:Option β)
  (hx:x0=st 0 0)
  (h1:∀ i (h:i<l.length) a,sj c hi a l[i]=true→f (st i a)=some (.inl (st (i+1) l[i].At)))
  (h2:∀ i (h:i<l.length) a,sj c hi a l[i]=false→∃ w,f (st i a)=some (.inr w)∧K w=bad)
  (h3:∀ a,∃ w,f (st l.length a)=some (.inr w)∧K w=Ei):(aX f x0).bind K=bif bU c hi 0 l then Ei else bad:=by
 subst hx
 have:=walk l c hi st Ei bad h1 h2 h3 l.length 0 0 rfl (Nat.zero_le _)
 rw[List.drop_zero]at this
 exact this
theorem NO{a:Bool}:(bif a then some true else some false)=some a:=by cases a<;>rfl
def vI(q:Queue):Bool:=(q.af.Kind==4)&&(tP q.af.A 1 1000000&&(tP q.af.B 0 1000&&(tP q.af.C 0 1000&&(tP q.Room 1 500&&(match q.ag with
 |[l]=>!decide (q.Room<(l.length:Int))&&(tP q.ae.e7 0 10000000&&(tP q.ae.e0 0 1000000&&(tP q.ae.e1 0 q.ae.e7&&(tP q.ae.e2 0 10000000&&((q.ae.e3==0&&(q.ae.e4==0&&(q.ae.e5==0&&q.ae.e6==0)))&&bU cP q.ae.e7 0 l)))))
 |_=>false)))))
theorem SI(q:Queue)(hs:sm q):aa.cC q=some (vI q):=by
 unfold aa.cC vI tP
 simp only[Rd,Option.bind_some]
 match hq:q.ag with
 |[]=>simp only[List.length_nil]; simp only[show (!((0:Nat):Int)==(1:Int))=true from rfl,cond_true,qx,qy,Bool.and_false,Bool.not_not]
 |a::b::r=>simp only[zu,cond_true,qx,qy,Bool.and_false,Bool.not_not]
 |[l]=>
  have hl:l.length≤2^63-1:=hs l (by rw[hq]; simp)
  have hg:[l][Int.toNat 0]?=some l:=rfl
  have hg':[l][0]?=some l:=rfl
  simp only[hg,hg',Option.bind_some]
  rw[SH l cP q.ae.e7 (fun i a=>(0,(i:Int),a)) (some true) (some false)]
  ·simp only[List.length_cons,List.length_nil,show (!((0+1:Nat):Int)==(1:Int))=false from rfl,cond_false,NO,qx,qy,cN,Bool.not_not,Bool.and_true]
   try rfl
  ·rfl
  ·intro i h a ho
   simp only[sj,cP,Bool.and_eq_true]at ho
   obtain⟨a1,a3,a4⟩:=ho
   simp only[fo h,ct,cond_true,get_at h,Option.bind_some,Uc,a1,a3,a4,Bool.and_self,Bool.not_true,cond_false,m8 h hl]
  ·intro i h a ho
   simp only[fo h,ct,cond_true,get_at h,Option.bind_some,Uc]
   refine⟨.inl ((i:Int),l[i].At),?_,?_⟩
   ·revert ho
    simp only[sj,cP]
    cases mi l[i].P<;>cases (decide (a≤l[i].At)&&decide (l[i].At≤q.ae.e7))<;>intro ho<;>first|rfl|exact absurd ho (by decide)
   ·show some (!decide (0≤(i:Int)))=some false
    rw[ct]; rfl
  ·intro a
   simp only[jx,cond_false]
   exact⟨_,rfl,rfl⟩
theorem XC(q:Queue)(hs:sm q):aa.fR q=some (vI q):=by
 unfold aa.fR; rw[SI q hs]; rfl
structure VI(q:Queue)(l:List ai):Prop where
 kind:q.af.Kind=4
 pa:1≤q.af.A∧q.af.A≤1000000
 pb:0≤q.af.B∧q.af.B≤1000
 pc:0≤q.af.C∧q.af.C≤1000
 r0:1≤q.Room
 r1:q.Room≤500
 ls:q.ag=[l]
 z:q.ae.e3=0∧q.ae.e4=0∧q.ae.e5=0∧q.ae.e6=0
 v0:0≤q.ae.e0∧q.ae.e0≤1000000
 v1:0≤q.ae.e1∧q.ae.e1≤q.ae.e7
 v2:0≤q.ae.e2∧q.ae.e2≤10000000
 t0:0≤q.ae.e7
 t1:q.ae.e7≤10000000
 ord:bU cP q.ae.e7 0 l=true
 len:(l.length:Int)≤q.Room
theorem NP(q:Queue):vI q=true↔∃ l,VI q l:=by
 unfold vI tP
 constructor
 ·intro h
  simp only[Bool.and_eq_true,decide_eq_true_eq,beq_iff_eq]at h
  obtain⟨h1,h2,h3,h4,h5,h8⟩:=h
  match hq:q.ag with
  |[]=>rw[hq]at h8; simp at h8
  |a::b::r=>rw[hq]at h8; simp at h8
  |[l]=>
   rw[hq]at h8
   simp only[Bool.and_eq_true,Bool.not_eq_true',decide_eq_true_eq,decide_eq_false_iff_not,beq_iff_eq]at h8
   obtain⟨g1,g2,g3,g4,g5,g6,g7⟩:=h8
   exact⟨l,h1,h2,h3,h4,h5.1,h5.2,hq,g6,g3,g4,g5,g2.1,g2.2,g7,by omega⟩
 ·rintro⟨l,h⟩
  have hl:=h.len
  rw[h.ls]
  simp only[Bool.and_eq_true,Bool.not_eq_true',decide_eq_true_eq,decide_eq_false_iff_not,beq_iff_eq]
  exact⟨h.kind,h.pa,h.pb,h.pc,⟨h.r0,h.r1⟩,by omega,⟨h.t0,h.t1⟩,h.v0,h.v1,h.v2,h.z,h.ord⟩
theorem VI.sm{q:Queue}{l:List ai}(h:VI q l):sm q:=by
 intro x hx
 rw[h.ls]at hx
 have:=h.len; have:=h.r1
 simp only[List.mem_singleton]at hx
 subst hx; omega
theorem VI.El{q:Queue}{l:List ai}(h:VI q l):aa.cC q=some true:=by
 rw[SI q h.sm,(NP q).2 ⟨l,h⟩]
theorem VI.valid{q:Queue}{l:List ai}(h:VI q l):aa.fR q=some true:=by
 rw[XC q h.sm,(NP q).2 ⟨l,h⟩]
def iQ(q:Queue)(l:List ai)(e0 e1 e2 now s:Int):Queue:=Queue.mk q.af q.Room [l] (A8.mk e0 e1 e2 q.ae.e3 q.ae.e4 q.ae.e5 q.ae.e6 now) s
def iv(e0 e1 e2 now:Int):Prop:=(0≤e0∧e0≤1000000)∧(0≤e1∧e1≤now)∧(0≤e2∧e2≤10000000)
theorem NQ{q:Queue}{l l':List ai}{e0 e1 e2 now s:Int}(h:VI q l)(hv:iv e0 e1 e2 now)(hn:0≤now∧now≤10000000)(hl:bU cP now 0 l'=true)(hlen:(l'.length:Int)≤q.Room):VI (iQ q l' e0 e1 e2 now s) l':=
 ⟨h.kind,h.pa,h.pb,h.pc,h.r0,h.r1,rfl,h.z,hv.1,hv.2.1,hv.2.2,hn.1,hn.2,hl,hlen⟩
theorem J1{q:Queue}{l:List ai}(h:VI q l){now:Int}(hn:p5 now=true)(hle:q.ae.e7≤now)(s:Int):
  ∃ d,aa.dJ (Queue.mk q.af q.Room [l] q.ae s) now=some d∧0≤d∧d≤10000000:=by
 have kD:=cy.1 hn
 unfold aa.dJ
 cases hl:l with
 |nil=>exact⟨0,rfl,by omega,by omega⟩
 |cons x xs=>
  have ho:=h.ord
  rw[hl]at ho
  have:=iA ho x (by simp)
  refine⟨now-x.At,?_,by omega,by omega⟩
  refine bB (v:=x::xs) rfl (bT (by simp only[List.length_cons,decide_eq_true_eq]; omega) (bB (v:=x) rfl ?_))
  rw[aZ (by omega) (by omega)]
def AP(x:Int):Int:=if (if 0<x then x else 0)<1000000 then if 0<x then x else 0 else 1000000
theorem C1(x:Int):0≤AP x∧AP x≤1000000:=by
 unfold AP
 split<;>split<;>omega
def PIn(q:Queue)(l:List ai)(p:an)(now:Int)(r:Option PR):Prop:=∃ e0 e1 e2 s,iv e0 e1 e2 now ∧
 (r=some (iQ q l e0 e1 e2 now s,[p],0)∨((l.length:Int)<q.Room∧∃ m,mk? p m∧r=some (iQ q (l++[⟨pm p m,now⟩]) e0 e1 e2 now s,[],0)))
theorem XD{q:Queue}{l:List ai}(h:VI q l){p:an}(hp:mi p=true){now:Int}(hn:p5 now=true)(hle:q.ae.e7≤now):PIn q l p now (aa.ki q p now):=by
 have hlen:=h.len; have hr:=h.r1; have Fh:=h.r0; have h1:=h.v1
 have kD:=cy.1 hn
 unfold aa.ki
 refine pB _ (Uc p) (pF _ (by rw[hp]; rfl) ?_)
 refine pB _ h.El (pF _ rfl ?_)
 rw[Rd]
 refine pB _ rfl (pF _ (by rw[show (decide (0≤now)&&decide (now≤10000000))=true from hn]; rfl) ?_)
 refine pF _ (decide_eq_false (by omega)) ?_
 rw[h.ls]
 refine pB _ (v:=l) rfl ?_
 refine pB _ (AO l (by omega)) ?_
 obtain⟨k,s,hk⟩:=v9 q.aY 1000000 (by omega) (by omega)
 have acc:∀ (e0 e1 e2 s:Int) (m:Bool),iv e0 e1 e2 now→mk? p m→(l.length:Int)<q.Room→PIn q l p now (some (iQ q (l++[⟨pm p m,now⟩]) e0 e1 e2 now s,[],0)):=
  fun e0 e1 e2 s m he hm hl=>⟨e0,e1,e2,s,he,.inr ⟨hl,m,hm,rfl⟩⟩
 have Rg:∀ (e0 e1 e2 s:Int),iv e0 e1 e2 now→PIn q l p now (some (iQ q l e0 e1 e2 now s,[p],0)):=
  fun e0 e1 e2 s he=>⟨e0,e1,e2,s,he,.inl rfl⟩
 have m0:mk? p p.ay:=.inl rfl
 have room:((l.length:Int)==q.Room)=false→(l.length:Int)<q.Room:=by simp only[beq_eq_false_iff_ne]; omega
 have fit:(decide ((l.length+1)*64≤2^44)&&decide (l.length+1≤2^44))=true:=by simp only[Bool.and_eq_true,decide_eq_true_eq]; omega
 have inner:∀ (e0 e1 e2:Int),iv e0 e1 e2 now→(l.length:Int)<q.Room→∀ c:Bool,
   PIn q l p now (bif c then (bif !p.aI then some (iQ q l e0 e1 e2 now s,[p],0) else bif p.ay then (bif decide ((l.length+1)*64≤2^44)&&decide (l.length+1≤2^44) then some (iQ q (l++[⟨pm p true,now⟩]) e0 e1 e2 now s,[],0) else none)
       else (bif decide ((l.length+1)*64≤2^44)&&decide (l.length+1≤2^44) then some (iQ q (l++[⟨pm p c,now⟩]) e0 e1 e2 now s,[],0) else none))
    else (bif p.ay then (bif decide ((l.length+1)*64≤2^44)&&decide (l.length+1≤2^44) then some (iQ q (l++[⟨pm p true,now⟩]) e0 e1 e2 now s,[],0) else none)
     else (bif decide ((l.length+1)*64≤2^44)&&decide (l.length+1≤2^44) then some (iQ q (l++[⟨pm p c,now⟩]) e0 e1 e2 now s,[],0) else none))):=by
  intro e0 e1 e2 he hl c
  refine pC _ (fun hc=>pC _ (fun _=>Rg e0 e1 e2 s he) (fun hA=>?_)) (fun hc=>?_)
  ·have Uj:p.aI=true:=by simpa using hA
   refine pC _ (fun _=>pT _ fit (acc e0 e1 e2 s true he (.inr ⟨Uj,rfl⟩) hl)) (fun _=>pT _ fit (acc e0 e1 e2 s c he (.inr ⟨Uj,hc⟩) hl))
  ·refine pC _ (fun hM=>pT _ fit (acc e0 e1 e2 s true he (.inl hM.symm) hl)) (fun hM=>pT _ fit (acc e0 e1 e2 s c he (.inl (by rw[hc,hM])) hl))
 refine pC _ (fun _=>?_) (fun _=>?_)
 ·have he:iv q.ae.e0 q.ae.e1 q.ae.e2 now:=⟨h.v0,by omega,h.v2⟩
  refine pC _ (fun _=>Rg _ _ _ q.aY he) (fun hR=>?_)
  exact pB _ hk (inner _ _ _ he (room hR) _)
 ·obtain⟨d,hd,d0,d1⟩:=J1 h hn hle q.aY
  obtain⟨u,hu⟩:=SJ q.ae.e0 (Queue.mk q.af q.Room [l] q.ae q.aY) d q.ae.e2
  have he:iv (AP u) now d now:=⟨C1 u,by omega,d0,d1⟩
  refine pB _ hd (pB _ hu (pC _ (fun _=>Rg _ _ _ q.aY he) (fun hR=>?_)))
  exact pB _ hk (inner _ _ _ he (room hR) _)
def TIn(q:Queue)(l:List ai)(now:Int)(r:Option TR):Prop:=∃ e0 e1 e2 s,iv e0 e1 e2 now∧r=some (match l with
   |[]=>(iQ q [] e0 e1 e2 now s,zP,false,[],0)
   |x::xs=>(iQ q xs e0 e1 e2 now s,x.P,true,[],0))
theorem Uk{q:Queue}{l:List ai}(h:VI q l){now:Int}(hn:p5 now=true)(hle:q.ae.e7≤now):TIn q l now (aa.jf q now):=by
 have hlen:=h.len; have hr:=h.r1; have h1:=h.v1
 have kD:=cy.1 hn
 unfold aa.jf
 refine pB _ h.El (pF _ rfl ?_)
 rw[Rd]
 refine pB _ rfl (pF _ (by rw[show (decide (0≤now)&&decide (now≤10000000))=true from hn]; rfl) ?_)
 refine pF _ (decide_eq_false (by omega)) ?_
 rw[h.ls]
 refine pB _ (v:=l) rfl ?_
 refine pB _ (AO l (by omega)) ?_
 have fin:∀ e0 e1 e2:Int,iv e0 e1 e2 now→TIn q l now (bif (l.length:Int)==0 then some (iQ q l e0 e1 e2 now q.aY,zP,false,[],0) else
   bif decide (0<l.length) then (l[0]?).bind fun q5=>bif decide (1≤l.length)&&decide (l.length≤none.getD (l.length-0))&&decide (0<l.length) then
    bif decide (1+(l.length-1)≤l.length) then some (iQ q (List.take (l.length-1) (List.drop 1 l)) e0 e1 e2 now q.aY,q5.P,true,[],0) else none else none else none):=by
  intro e0 e1 e2 he
  refine⟨e0,e1,e2,q.aY,he,?_⟩
  cases l with
  |nil=>rfl
  |cons x xs=>
   refine bF (by simp only[List.length_cons,beq_eq_false_iff_ne]; omega) (bT (by simp) (bB (v:=x) rfl (bT (by simp) (bT (by simp only[List.length_cons,decide_eq_true_eq]; omega) ?_))))
   simp
 refine pC _ (fun _=>?_) (fun _=>?_)
 ·exact fin _ _ _ ⟨h.v0,by omega,h.v2⟩
 ·obtain⟨d,hd,d0,d1⟩:=J1 h hn hle q.aY
  obtain⟨u,hu⟩:=SJ q.ae.e0 (Queue.mk q.af q.Room [l] q.ae q.aY) d q.ae.e2
  exact pB _ hd (pB _ hu (fin (AP u) now d ⟨C1 u,by omega,d0,d1⟩))
end Go.Proofs.YtpodhambaehlkaaGreatDoor
end
section
/- Plain facts of this seat: package sojourn. -/
set_option maxRecDepth 100000
namespace Go.Proofs.YtpodhambaehlkaaGreatDoor
open Go.PI Go.Pl
theorem NR{α:Type}{x:Int}{a b:α}:(bif x==0 then some a else some b)=some (bif x==0 then a else b):=by cases x==0<;>rfl
def vSr(q:Queue)(l:List ai):Bool:=!decide (q.Room<(l.length:Int))&&((q.ae.e2==0)&&((q.ae.e3==0)&&((q.ae.e4==0)&&((q.ae.e5==0)&&((q.ae.e6==0)&&bU cP q.ae.e7 0 l)))))
def vSl(q:Queue):Bool:=match q.ag with
 |[l]=>(q.aY==0)&&(p5 q.ae.e7&&((decide (0≤q.ae.e0)&&decide (q.ae.e0≤IntKind.i64.wrap (IntKind.i64.wrap (q.ae.e7+q.af.B)+1)))&&((decide (0≤q.ae.e1)&&decide (q.ae.e1≤1000000000)) &&
  (bif q.ae.e0==0 then (q.ae.e1==0)&&vSr q l else vSr q l))))
 |_=>false
def vS(q:Queue):Bool:=(q.af.Kind==3)&&((decide (0≤q.af.A)&&decide (q.af.A≤1000000))&&((decide (1≤q.af.B)&&decide (q.af.B≤1000000))&&((q.af.C==0)&&((decide (1≤q.Room)&&decide (q.Room≤500))&&vSl q))))
theorem XE(q:Queue)(hs:sm q):aa.eC q=some (vS q):=by
 unfold aa.eC vS vSl
 simp only[Ub,Eg,Option.bind_some]
 match hq:q.ag with
 |[]=>simp only[List.length_nil]; simp only[show (!((0:Nat):Int)==(1:Int))=true from rfl,cond_true,qx,qy,Bool.and_false,Bool.not_not]
 |a::b::r=>simp only[zu,cond_true,qx,qy,Bool.and_false,Bool.not_not]
 |[l]=>
  have hl:l.length≤2^63-1:=hs l (by rw[hq]; simp)
  have hg:[l][Int.toNat 0]?=some l:=rfl
  have hg':[l][0]?=some l:=rfl
  simp only[hg,hg',Option.bind_some]
  rw[SH l cP q.ae.e7 (fun i a=>(false,a,(i:Int))) (some true) (some false)]
  ·simp only[List.length_cons,List.length_nil,show (!((0+1:Nat):Int)==(1:Int))=false from rfl,cond_false,NO,qx,qy,cN,NR,Bool.not_not,Bool.and_true]
   rfl
  ·rfl
  ·intro i h a ho
   simp only[sj,cP,Bool.and_eq_true]at ho
   obtain⟨a1,a3,a4⟩:=ho
   simp only[fo h,ct,cond_true,get_at h,Option.bind_some,Ua,a1,a3,a4,Bool.and_self,Bool.not_true,cond_false,m8 h hl]
  ·intro i h a ho
   simp only[fo h,ct,cond_true,get_at h,Option.bind_some,Ua]
   refine⟨.inl false,?_,rfl⟩
   revert ho
   simp only[sj,cP]
   cases mi l[i].P<;>cases (decide (a≤l[i].At)&&decide (l[i].At≤q.ae.e7))<;>intro ho<;>first|rfl|exact absurd ho (by decide)
  ·intro a
   simp only[jx,cond_false]
   exact⟨_,rfl,rfl⟩
structure VS(q:Queue)(l:List ai):Prop where
 kind:q.af.Kind=3
 pa:0≤q.af.A∧q.af.A≤1000000
 pb:1≤q.af.B∧q.af.B≤1000000
 pc:q.af.C=0
 r0:1≤q.Room
 r1:q.Room≤500
 ls:q.ag=[l]
 sd:q.aY=0
 z:q.ae.e2=0∧q.ae.e3=0∧q.ae.e4=0∧q.ae.e5=0∧q.ae.e6=0
 v0:0≤q.ae.e0∧q.ae.e0≤q.ae.e7+q.af.B+1
 v1:0≤q.ae.e1∧q.ae.e1≤1000000000
 v01:q.ae.e0=0→q.ae.e1=0
 t0:0≤q.ae.e7
 t1:q.ae.e7≤10000000
 ord:bU cP q.ae.e7 0 l=true
 len:(l.length:Int)≤q.Room
theorem Ul(q:Queue):vS q=true↔∃ l,VS q l:=by
 unfold vS vSl vSr p5
 constructor
 ·intro h
  simp only[Bool.and_eq_true,decide_eq_true_eq,beq_iff_eq]at h
  obtain⟨h1,h2,h3,h4,h5,h8⟩:=h
  match hq:q.ag with
  |[]=>rw[hq]at h8; simp at h8
  |a::b::r=>rw[hq]at h8; simp at h8
  |[l]=>
   rw[hq]at h8
   simp only[Bool.and_eq_true,decide_eq_true_eq,beq_iff_eq]at h8
   obtain⟨g1,g2,g3,g4,g5⟩:=h8
   rw[aZ (n:=q.ae.e7+q.af.B) (by omega) (by omega),aZ (by omega) (by omega)]at g3
   by_cases he:q.ae.e0=0
   ·rw[show (q.ae.e0==0)=true by simpa using he]at g5
    simp only[cond_true,Bool.and_eq_true,Bool.not_eq_true',decide_eq_false_iff_not,beq_iff_eq]at g5
    obtain⟨k0,k1,k2,k3,k4,k5,k6,k7⟩:=g5
    exact⟨l,h1,h2,h3,h4,h5.1,h5.2,hq,g1,⟨k2,k3,k4,k5,k6⟩,g3,g4,fun _=>k0,g2.1,g2.2,k7,by omega⟩
   ·rw[show (q.ae.e0==0)=false by simpa using he]at g5
    simp only[cond_false,Bool.and_eq_true,Bool.not_eq_true',decide_eq_false_iff_not,beq_iff_eq]at g5
    obtain⟨k1,k2,k3,k4,k5,k6,k7⟩:=g5
    exact⟨l,h1,h2,h3,h4,h5.1,h5.2,hq,g1,⟨k2,k3,k4,k5,k6⟩,g3,g4,fun e=>absurd e he,g2.1,g2.2,k7,by omega⟩
 ·rintro⟨l,h⟩
  have hl:=h.len; have hb:=h.pb; have ht:=h.t0; have ht1:=h.t1; have Jy:=h.v0
  rw[h.ls]
  simp only[Bool.and_eq_true,decide_eq_true_eq,beq_iff_eq]
  refine⟨h.kind,h.pa,h.pb,h.pc,⟨h.r0,h.r1⟩,h.sd,⟨h.t0,h.t1⟩,?_,h.v1,?_⟩
  ·rw[aZ (n:=q.ae.e7+q.af.B) (by omega) (by omega),aZ (by omega) (by omega)]
   exact h.v0
  ·obtain⟨z2,z3,z4,z5,z6⟩:=h.z
   by_cases he:q.ae.e0=0
   ·rw[show (q.ae.e0==0)=true by simpa using he]
    simp only[cond_true,Bool.and_eq_true,Bool.not_eq_true',decide_eq_false_iff_not,beq_iff_eq]
    exact⟨h.v01 he,by omega,z2,z3,z4,z5,z6,h.ord⟩
   ·rw[show (q.ae.e0==0)=false by simpa using he]
    simp only[cond_false,Bool.and_eq_true,Bool.not_eq_true',decide_eq_false_iff_not,beq_iff_eq]
    exact⟨by omega,z2,z3,z4,z5,z6,h.ord⟩
theorem VS.sm{q:Queue}{l:List ai}(h:VS q l):sm q:=by
 intro x hx
 rw[h.ls]at hx
 have:=h.len; have:=h.r1
 simp only[List.mem_singleton]at hx
 subst hx; omega
theorem VS.valid{q:Queue}{l:List ai}(h:VS q l):aa.eC q=some true:=by
 rw[XE q h.sm,(Ul q).2 ⟨l,h⟩]
def sQ(q:Queue)(l:List ai)(e0 e1 now:Int):Queue:=Queue.mk q.af q.Room [l] (A8.mk e0 e1 q.ae.e2 q.ae.e3 q.ae.e4 q.ae.e5 q.ae.e6 now) q.aY
structure Sv(q:Queue)(e0 e1 now:Int):Prop where
 a:0≤e0
 b:e0≤now+q.af.B+1
 c:0≤e1
 d:e1≤1000000000
 e:e0=0→e1=0
theorem J2{q:Queue}{l l':List ai}{e0 e1 now:Int}(h:VS q l)(hv:Sv q e0 e1 now)(hn:0≤now∧now≤10000000)(hl:bU cP now 0 l'=true)(hlen:(l'.length:Int)≤q.Room):VS (sQ q l' e0 e1 now) l':=
 ⟨h.kind,h.pa,h.pb,h.pc,h.r0,h.r1,rfl,h.sd,h.z,⟨hv.a,hv.b⟩,⟨hv.c,hv.d⟩,hv.e,hn.1,hn.2,hl,hlen⟩
abbrev zW:ai:=ai.mk (an.mk 0 0 0 0 0 0 false false) 0
theorem AQ(l:List ai):l++List.drop (0+l.length) (List.replicate (l.length+1) zW)=l++[zW]:=by
 rw[Nat.zero_add,List.drop_replicate,show l.length+1-l.length=1 by omega]; rfl
theorem XF{q:Queue}{l:List ai}(h:VS q l){p:an}(hp:mi p=true){now:Int}(hn:p5 now=true)(hle:q.ae.e7≤now):
  aa.gW q p now=some (sQ q l q.ae.e0 q.ae.e1 now,[p],0)∨((l.length:Int)<q.Room∧aa.gW q p now=some (sQ q (l++[⟨p,now⟩]) q.ae.e0 q.ae.e1 now,[],0)):=by
 have hlen:=h.len; have hr:=h.r1
 have hw:IntKind.i64.wrap ((l.length:Int)+1)=((l.length+1:Nat):Int):=aZ (by omega) (by omega)
 have pre:∀ r,(bif decide (q.Room≤(l.length:Int)) then some (sQ q l q.ae.e0 q.ae.e1 now,[p],0) else some (sQ q (l++[⟨p,now⟩]) q.ae.e0 q.ae.e1 now,[],0))=r→aa.gW q p now=r:=by
  intro r hr
  unfold aa.gW
  refine bB (Ua p) (bF (by rw[hp]; rfl) ?_)
  refine bB h.valid (bF rfl ?_)
  refine bB (Eg now) (bF (by rw[hn]; rfl) ?_)
  refine bF (decide_eq_false (by omega)) ?_
  rw[h.ls]
  refine bB (v:=l) rfl (bB (v:=l) rfl ?_)
  refine bT (by simp only[hw,decide_eq_true_eq]; omega) (bT (by simp only[hw,Int.toNat_natCast,Bool.and_eq_true,decide_eq_true_eq]; omega) (bB (v:=l) rfl ?_))
  refine bT (by simp only[hw,Int.toNat_natCast,Bool.and_eq_true,decide_eq_true_eq,List.length_replicate]; omega) ?_
  rw[←hr]
  by_cases hR:q.Room≤(l.length:Int)
  ·refine bT (by simp only[Int.toNat_natCast,decide_eq_true_eq]; exact hR) (bT (by simp only[hw,Int.toNat_natCast,decide_eq_true_eq,List.length_append]; omega) ?_)
   rw[decide_eq_true hR]
   simp only[hw,Int.toNat_natCast,AQ,List.drop_zero,List.take_left,cond_true,sQ]
  ·refine bF (by simp only[Int.toNat_natCast]; exact decide_eq_false hR) (bT (by simp only[hw,Int.toNat_natCast,Bool.and_eq_true,decide_eq_true_eq,List.length_append,List.length_drop,List.length_replicate]; omega) ?_)
   have e1:List.take (0+l.length) (l++[zW])++([⟨p,now⟩]++List.drop (0+l.length+1) (l++[zW]))=l++[⟨p,now⟩]:=by
    rw[Nat.zero_add,List.take_left,List.drop_eq_nil_of_le (by simp),List.append_nil]
   refine bT (by simp only[hw,Int.toNat_natCast,AQ,e1,decide_eq_true_eq,List.length_append,List.length_cons,List.length_nil]; omega) ?_
   rw[decide_eq_false hR]
   simp only[hw,Int.toNat_natCast,AQ,e1,List.drop_zero,cond_false,sQ]
   rw[List.take_of_length_le (by simp)]
 by_cases hR:q.Room≤(l.length:Int)
 ·left; exact pre _ (by rw[decide_eq_true hR]; rfl)
 ·right; exact⟨by omega,pre _ (by rw[decide_eq_false hR]; rfl)⟩
end Go.Proofs.YtpodhambaehlkaaGreatDoor
end
section
/- Plain facts of this seat: what is taken from package sojourn. -/
set_option maxRecDepth 100000
namespace Go.Proofs.YtpodhambaehlkaaGreatDoor
open Go.PI Go.Pl
section
variable {τ ω α:Type}
def Nx(K:ω→Option α)(P:Option α→Prop)(I:Nat→τ→Prop)(n:Nat)(o:Option (τ ⊕ ω)):Prop:=match o with
 |some (.inl y)=>∃ m,m<n∧I m y
 |some (.inr w)=>P (K w)
 |none=>False
theorem NS{f:τ→Option (τ ⊕ ω)}{K:ω→Option α}{P:Option α→Prop}(I:Nat→τ→Prop)(hs:∀ n s,I n s→Nx K P I n (f s)):∀ n x0,I n x0→P ((aX f x0).bind K):=by
 intro n
 induction n using Nat.strongRecOn with
 |ind n ih=>
  intro s h
  have h1:=hs n s h
  unfold Nx at h1
  cases hf:f s with
  |none=>rw[hf]at h1; exact h1.elim
  |some o=>
   rw[hf]at h1
   cases o with
   |inr w=>rw[Go.Pl.out hf]; exact h1
   |inl y=>
    obtain⟨m,h2,h3⟩:=h1
    rw[Go.Pl.next hf]
    exact ih m h2 y h3
end
def TS(q:Queue)(l:List ai)(now:Int)(r:Option TR):Prop:=∃ k e0 e1,Sv q e0 e1 now∧(∀ y∈l.take k,y.P.aI=false) ∧
 ((∃ x m,l[k]?=some x∧mk? x.P m∧r=some (sQ q (l.drop (k+1)) e0 e1 now,pm x.P m,true,(l.take k).map (·.P),0)) ∨
  (k=l.length∧r=some (sQ q [] e0 e1 now,zP,false,l.map (·.P),0)))
def Em(l:List ai):List ai:=l++List.drop (0+l.length) (List.replicate (IntKind.i64.wrap ((l.length:Int)+1)).toNat (ai.mk (an.mk 0 0 0 0 0 0 false false) 0))
theorem Um{q:Queue}{l:List ai}(h:VS q l){now:Int}(hn:p5 now=true)(hle:q.ae.e7≤now):TS q l now (aa.kj q now):=by
 have hlen:=h.len; have hr:=h.r1; have hpb:=h.pb; have hpa:=h.pa
 have kD:=cy.1 hn
 have hw:IntKind.i64.wrap ((l.length:Int)+1)=((l.length+1:Nat):Int):=aZ (by omega) (by omega)
 have Un:Em l=l++[zW]:=by unfold Em; rw[hw]; exact AQ l
 have zY:(Em l).length=l.length+1:=by rw[Un]; simp
 unfold aa.kj
 refine pB _ h.valid (pF _ rfl ?_)
 refine pB _ (Eg now) (pF _ (by rw[hn]; rfl) ?_)
 refine pF _ (decide_eq_false (by omega)) ?_
 rw[h.ls]
 refine pB _ (v:=l) rfl (pB _ (v:=l) rfl ?_)
 refine pT _ (by simp only[hw,decide_eq_true_eq]; omega) (pT _ (by simp only[hw,Int.toNat_natCast,Bool.and_eq_true,decide_eq_true_eq]; omega) (pB _ (v:=l) rfl ?_))
 refine pT _ (by simp only[hw,Int.toNat_natCast,Bool.and_eq_true,decide_eq_true_eq,List.length_replicate]; omega) ?_
 have fin:∀ (k:Nat) (hk:k<l.length) (e0 e1:Int) (m:Bool),Sv q e0 e1 now→(∀ y∈l.take k,y.P.aI=false)→mk? l[k].P m →
   TS q l now (bif decide (((((k:Int).toNat+1:Nat):Int)).toNat+((((((l.length-k:Nat):Int)).toNat-1:Nat):Int)).toNat≤(Em l).length) then
    some (Queue.mk (af.mk q.af.Kind q.af.A q.af.B q.af.C) q.Room [List.take ((((((l.length-k:Nat):Int)).toNat-1:Nat):Int)).toNat (List.drop ((((k:Int).toNat+1:Nat):Int)).toNat (Em l))]
     (A8.mk e0 e1 q.ae.e2 q.ae.e3 q.ae.e4 q.ae.e5 q.ae.e6 now) q.aY,an.mk l[k].P.aG l[k].P.Sub l[k].P.Number l[k].P.Data l[k].P.aA l[k].P.aQ l[k].P.aI m,true,(l.take k).map (·.P),0) else none):=by
  intro k hk e0 e1 m hv ha hm
  refine pT _ (by simp only[Int.toNat_natCast,zY,decide_eq_true_eq]; omega) ?_
  refine⟨k,e0,e1,hv,ha,.inl ⟨l[k],m,List.getElem?_eq_getElem hk,hm,?_⟩⟩
  simp only[Int.toNat_natCast,Un,sQ,pm]
  rw[List.drop_append_of_le_length (by omega),List.take_append_of_le_length (by simp; omega),List.take_of_length_le (by simp; omega)]
 refine NS (fun (m:Nat) s=>∃ (k:Nat) (e0 e1:Int),k≤l.length∧m=l.length-k∧Sv q e0 e1 now∧(∀ y∈l.take k,y.P.aI=false) ∧
  s=(false,0,[],(l.take k).map (·.P),q.af.Kind,q.af.A,q.af.B,q.af.C,q.Room,e0,e1,q.ae.e2,q.ae.e3,q.ae.e4,q.ae.e5,q.ae.e6,now,q.aY,now,(k:Int),((l.length-k:Nat):Int),((l.length+1-k:Nat):Int))) ?_ l.length _
  ⟨0,q.ae.e0,q.ae.e1,Nat.zero_le _,rfl,⟨h.v0.1,by have:=h.v0; omega,h.v1.1,h.v1.2,h.v01⟩,by intro y hy; simp at hy,?_⟩
 ·rintro n s ⟨k,e0,e1,hk,rfl,hv,ha,rfl⟩
  have va:=hv.a; have vb:=hv.b; have vc:=hv.c; have vd:=hv.d
  by_cases J3:k<l.length
  ·have n4:l[k]∈l:=List.getElem_mem J3
   have hx:=iA h.ord _ n4
   have wA:IntKind.i64.wrap (now-l[k].At)=now-l[k].At:=aZ (by omega) (by omega)
   have w0:IntKind.i64.wrap (e0-1)=e0-1:=aZ (by omega) (by omega)
   have w1:IntKind.i64.wrap (e1+1)=e1+1:=aZ (by omega) (by omega)
   have wB:IntKind.i64.wrap (IntKind.i64.wrap (now+q.af.B)+1)=now+q.af.B+1:=by rw[aZ (n:=now+q.af.B) (by omega) (by omega)]; exact aZ (by omega) (by omega)
   refine pT _ (by simp only[Int.toNat_natCast,decide_eq_true_eq]; omega) (pT _ (by simp only[Int.toNat_natCast,decide_eq_true_eq]; omega) ?_)
   refine pB _ (v:=l[k]) (by
    show (Em l)[(k:Int).toNat+0]?=some l[k]
    rw[Un,Int.toNat_natCast,Nat.add_zero,List.getElem?_append_left J3]; exact List.getElem?_eq_getElem J3) ?_
   refine pT _ (by
    show (decide (1≤((l.length-k:Nat):Int).toNat)&&decide (((l.length-k:Nat):Int).toNat≤(some ((l.length+1-k:Nat):Int).toNat).getD ((Em l).length-(k:Int).toNat))&&decide (0<(Em l).length))=true
    simp only[Int.toNat_natCast,Option.getD_some,zY,Bool.and_eq_true,decide_eq_true_eq]; omega) ?_
   rw[wA,w0,wB,w1]
   have hz:Sv q 0 0 now:=⟨by omega,by omega,by omega,by omega,fun _=>rfl⟩
   refine pC _ (fun _=>pC _ (fun hM=>fin k J3 0 0 true hz ha (.inl hM.symm)) (fun hM=>fin k J3 0 0 false hz ha (.inl hM.symm))) (fun _=>?_)
   refine pC _ (fun h0=>?_) (fun h0=>?_)
   ·have Mq:e1=0:=hv.e (by simpa using h0)
    have hs:Sv q (now+q.af.B+1) e1 now:=⟨by omega,by omega,by omega,by omega,fun e=>by omega⟩
    exact pC _ (fun hM=>fin k J3 _ e1 true hs ha (.inl hM.symm)) (fun hM=>fin k J3 _ e1 false hs ha (.inl hM.symm))
   ·refine pC _ (fun h1=>?_) (fun _=>?_)
    ·-- a hit
     have ZZ:e0-1≤now:=by simpa using h1
     have Z9:e0≠0:=by simpa using h0
     generalize hE:(if e1+1<1000000000 then e1+1 else 1000000000)=E
     have hE1:1≤E∧E≤1000000000:=by rw[←hE]; split<;>omega
     have wE:IntKind.i64.wrap (E+1)=E+1:=aZ (by omega) (by omega)
     rw[wE]
     have hd0:0≤q.af.B.tdiv (E+1):=Int.tdiv_nonneg (by omega) (by omega)
     have CN:q.af.B.tdiv (E+1)≤q.af.B:=Int.tdiv_le_self _ (by omega)
     have wD:IntKind.i64.wrap (q.af.B.tdiv (E+1))=q.af.B.tdiv (E+1):=aZ (by omega) (by omega)
     rw[wD]
     generalize hM:(if 1<q.af.B.tdiv (E+1) then q.af.B.tdiv (E+1) else 1)=M
     have hM1:1≤M∧M≤q.af.B:=by rw[←hM]; split<;>omega
     have wM:IntKind.i64.wrap (e0+M)=e0+M:=aZ (by omega) (by omega)
     rw[wM]
     have hs:Sv q (e0+M) E now:=⟨by omega,by omega,by omega,by omega,fun e=>by omega⟩
     refine pF _ (decide_eq_false (by omega)) (pC _ (fun hA=>?_) (fun hA=>?_))
     ·have Uj:l[k].P.aI=false:=by simpa using hA
      refine pT _ (by simp only[List.length_map,List.length_take,Bool.and_eq_true,decide_eq_true_eq]; omega) ?_
      refine⟨l.length-(k+1),by omega,k+1,e0+M,E,J3,rfl,hs,?_,?_⟩
      ·intro y hy
       rw[List.take_succ_eq_append_getElem J3,List.mem_append,List.mem_singleton]at hy
       rcases hy with hy|rfl
       ·exact ha y hy
       ·exact Uj
      ·simp only[Int.toNat_natCast,List.take_succ_eq_append_getElem J3,List.map_append,List.map_cons,List.map_nil,Nat.sub_sub]
     ·have Uj:l[k].P.aI=true:=by simpa using hA
      exact pC _ (fun _=>fin k J3 _ E true hs ha (.inr ⟨Uj,rfl⟩)) (fun _=>fin k J3 _ E true hs ha (.inr ⟨Uj,rfl⟩))
    ·exact pC _ (fun hM=>fin k J3 e0 e1 true hv ha (.inl hM.symm)) (fun hM=>fin k J3 e0 e1 false hv ha (.inl hM.symm))
  ·have hke:k=l.length:=by omega
   subst hke
   refine pF _ (by simp only[Int.toNat_natCast,decide_eq_false_iff_not]; omega) ?_
   show TS q l now (bif decide _ then _ else _)
   refine pT _ ?_ ?_
   ·show decide ((((l.length:Int).toNat:Nat):Int).toNat+(((((l.length-l.length:Nat):Int)).toNat:Nat):Int).toNat≤(Em l).length)=true
    simp only[Int.toNat_natCast,zY,decide_eq_true_eq]; omega
   ·refine⟨l.length,0,0,⟨by omega,by omega,by omega,by omega,fun _=>rfl⟩,ha,.inr ⟨rfl,?_⟩⟩
    simp only[Int.toNat_natCast,Nat.sub_self,List.take_zero,List.take_length,sQ]
 ·simp only[hw,Int.toNat_natCast,Nat.sub_zero,List.take_zero,List.map_nil,Int.natCast_zero]
end Go.Proofs.YtpodhambaehlkaaGreatDoor
end
section
/- Plain facts of this seat: package dual. -/
set_option maxRecDepth 100000
namespace Go.Proofs.YtpodhambaehlkaaGreatDoor
open Go.PI Go.Pl
structure VD(q:Queue)(a b:List ai):Prop where
 kind:q.af.Kind=6
 pa:0≤q.af.A∧q.af.A≤1000000
 pb:0≤q.af.B∧q.af.B≤1000
 pc:q.af.C=0
 r0:1≤q.Room
 r1:q.Room≤500
 ls:q.ag=[a,b]
 z:q.ae.e1=0∧q.ae.e2=0∧q.ae.e3=0∧q.ae.e4=0∧q.ae.e5=0∧q.ae.e6=0
 v0:0≤q.ae.e0∧q.ae.e0≤15
 t0:0≤q.ae.e7
 t1:q.ae.e7≤10000000
 oa:bU (cA true) q.ae.e7 0 a=true
 ob:bU (cA false) q.ae.e7 0 b=true
 len:(a.length:Int)+b.length≤q.Room
theorem VD.valid{q:Queue}{a b:List ai}(h:VD q a b):aa.jy q=some true:=by
 have hl:=h.len; have hr:=h.r1
 obtain⟨z1,z2,z3,z4,z5,z6⟩:=h.z
 unfold aa.jy
 refine bF (by rw[h.kind]; rfl) ?_
 rw[F1,F1,F1,F1,Eh]
 refine bB rfl (bF (by simp[h.pa.1,h.pa.2]) ?_)
 refine bB rfl (bF (by simp[h.pb.1,h.pb.2]) ?_)
 refine bF (by rw[h.pc]; rfl) ?_
 refine bB rfl (bF (by simp[h.r0,h.r1]) ?_)
 refine bF (by rw[h.ls]; rfl) ?_
 refine bB rfl (bF (by simp[h.v0.1,h.v0.2]) ?_)
 refine bB rfl (bF (by simp[p5,h.t0,h.t1]) ?_)
 rw[h.ls]
 refine bB (v:=a) rfl (bB (v:=b) rfl ?_)
 refine bF (decide_eq_false (by rw[aZ (by omega) (by omega)]; omega)) ?_
 rw[z1,z2,z3,z4,z5,z6]
 refine bB (lp 7 rfl) ?_
 simp only[Sum.elim_inr,List.getElem?_cons_zero,List.getElem?_cons_succ,Option.bind_some]
 rw[JY a _ _ (by omega),h.oa,JY b _ _ (by omega),h.ob]
 rfl
def dQ(q:Queue)(a b:List ai)(e0 now s:Int):Queue:=Queue.mk q.af q.Room [a,b] (A8.mk e0 q.ae.e1 q.ae.e2 q.ae.e3 q.ae.e4 q.ae.e5 q.ae.e6 now) s
theorem C2{q:Queue}{a b a' b':List ai}{e0 now s:Int}(h:VD q a b)(h0:0≤e0∧e0≤15)(hn:0≤now∧now≤10000000)(ha:bU (cA true) now 0 a'=true)(hb:bU (cA false) now 0 b'=true)
  (hlen:(a'.length:Int)+b'.length≤q.Room):VD (dQ q a' b' e0 now s) a' b':=
 ⟨h.kind,h.pa,h.pb,h.pc,h.r0,h.r1,rfl,h.z,h0,hn.1,hn.2,ha,hb,hlen⟩
theorem zx(l:List ai):l++List.drop (0+l.length) (List.replicate ((l.length:Int)).toNat zW)=l:=by
 rw[Int.toNat_natCast,Nat.zero_add,List.drop_eq_nil_of_le (by simp),List.append_nil]
def PD(q:Queue)(a b:List ai)(p:an)(now:Int)(r:Option PR):Prop:=
 r=some (dQ q a b q.ae.e0 now q.aY,[p],0)∨((a.length:Int)+b.length<q.Room ∧
  ((p.aI=true∧r=some (dQ q (a++[⟨p,now⟩]) b q.ae.e0 now q.aY,[],0))∨(p.aI=false∧r=some (dQ q a (b++[⟨p,now⟩]) q.ae.e0 now q.aY,[],0))))
theorem XG{q:Queue}{a b:List ai}(h:VD q a b){p:an}(hp:mi p=true){now:Int}(hn:p5 now=true)(hle:q.ae.e7≤now):PD q a b p now (aa.sk q p now):=by
 have hl:=h.len; have hr:=h.r1
 unfold aa.sk
 refine pB _ (Ue p) (pF _ (by rw[hp]; rfl) ?_)
 refine pB _ h.valid (pF _ rfl ?_)
 refine pB _ (Eh now) (pF _ (by rw[hn]; rfl) ?_)
 refine pF _ (decide_eq_false (by omega)) ?_
 rw[h.ls]
 refine pT _ rfl (pB _ (v:=a) rfl (pB _ (v:=b) rfl ?_))
 refine pT _ (by simp only[Int.toNat_natCast,Bool.and_eq_true,decide_eq_true_eq]; omega) (pT _ (by simp) ?_)
 refine pB _ (v:=a) (congrArg some (zx a)) ?_
 refine pT _ (by simp only[Int.toNat_natCast,Bool.and_eq_true,decide_eq_true_eq]; omega) (pT _ (by simp) ?_)
 refine pB _ (v:=b) (congrArg some (zx b)) ?_
 rw[aZ (n:=(a.length:Int)+b.length) (by omega) (by omega)]
 refine pC _ (fun _=>.inl rfl) (fun hR=>?_)
 have hR':(a.length:Int)+b.length<q.Room:=by
  have:=of_decide_eq_false hR; omega
 refine pC _ (fun hA=>?_) (fun hA=>?_)
 ·refine pF _ (decide_eq_false (by simp)) (pT _ (by simp only[Bool.and_eq_true,decide_eq_true_eq]; omega) ?_)
  exact .inr ⟨hR',.inl ⟨hA,rfl⟩⟩
 ·refine pF _ (decide_eq_false (by simp)) (pT _ (by simp only[Bool.and_eq_true,decide_eq_true_eq]; omega) ?_)
  exact .inr ⟨hR',.inr ⟨hA,rfl⟩⟩
theorem wc(x:lV):∃ v,aa.bX x=some v:=by
 unfold aa.bX
 cases x.ag.e1 with
 |nil=>exact⟨_,rfl⟩
 |cons y ys=>exact⟨_,bF (by simp only[List.length_cons,beq_eq_false_iff_ne]; omega) rfl⟩
def TD(q:Queue)(a b:List ai)(now:Int)(r:Option TR):Prop:=∃ k e0 s,0≤e0∧e0≤15 ∧
 ((∃ x,b[k]?=some x∧r=some (dQ q a (b.drop (k+1)) e0 now s,x.P,true,(b.take k).map (·.P),0)) ∨
  (∃ x xs m,a=x::xs∧k≤b.length∧mk? x.P m∧r=some (dQ q xs (b.drop k) e0 now s,pm x.P m,true,(b.take k).map (·.P),0)) ∨
  (a=[]∧k=b.length∧r=some (dQ q [] [] e0 now s,zP,false,b.map (·.P),0)))
theorem Uo{q:Queue}{a b:List ai}(h:VD q a b){now:Int}(hn:p5 now=true)(hle:q.ae.e7≤now):TD q a b now (aa.p8 q now):=by
 have hl:=h.len; have hr:=h.r1; have Jy:=h.v0
 have kD:=cy.1 hn
 unfold aa.p8
 refine pB _ h.valid (pF _ rfl ?_)
 refine pB _ (Eh now) (pF _ (by rw[hn]; rfl) ?_)
 refine pF _ (decide_eq_false (by omega)) ?_
 rw[show (true&&decide (q.ag.length=2))=true by rw[h.ls]; rfl,show q.ag[0]?=some a by rw[h.ls]; rfl,show q.ag[1]?=some b by rw[h.ls]; rfl]
 refine pT _ rfl (pB _ (v:=a) rfl (pB _ (v:=b) rfl ?_))
 refine pT _ (by simp only[Int.toNat_natCast,Bool.and_eq_true,decide_eq_true_eq]; omega) (pT _ (by simp) ?_)
 refine pB _ (v:=a) (congrArg some (zx a)) ?_
 refine pT _ (by simp only[Int.toNat_natCast,Bool.and_eq_true,decide_eq_true_eq]; omega) (pT _ (by simp) ?_)
 refine pB _ (v:=b) (congrArg some (zx b)) ?_
 have XH:∀ (k:Nat) (hk:k<b.length) (e0 s:Int),0≤e0→e0≤15 →
   TD q a b now (bif decide (((((0:Int).toNat:Nat):Int)).toNat+((((a.length:Int).toNat:Nat):Int)).toNat≤a.length) then bif decide ((((k:Int).toNat+1:Nat):Int).toNat+((((((b.length-k:Nat):Int)).toNat-1:Nat):Int)).toNat≤b.length) then
    some (Queue.mk (af.mk q.af.Kind q.af.A q.af.B q.af.C) q.Room [List.take ((((a.length:Int).toNat:Nat):Int)).toNat (List.drop (((((0:Int).toNat:Nat):Int)).toNat) a),
      List.take ((((((b.length-k:Nat):Int)).toNat-1:Nat):Int)).toNat (List.drop ((((k:Int).toNat+1:Nat):Int).toNat) b)]
     (A8.mk e0 q.ae.e1 q.ae.e2 q.ae.e3 q.ae.e4 q.ae.e5 q.ae.e6 now) s,an.mk b[k].P.aG b[k].P.Sub b[k].P.Number b[k].P.Data b[k].P.aA b[k].P.aQ b[k].P.aI b[k].P.ay,true,(b.take k).map (·.P),0) else none else none):=by
  intro k hk e0 s h0 h1
  refine pT _ (by simp) (pT _ (by simp only[Int.toNat_natCast,decide_eq_true_eq]; omega) ?_)
  refine⟨k,e0,s,h0,h1,.inl ⟨b[k],List.getElem?_eq_getElem hk,?_⟩⟩
  simp only[Int.toNat_natCast,Int.toNat_zero,List.drop_zero,List.take_length,dQ]
  rw[List.take_of_length_le (by simp; omega)]
 have Li:∀ (k:Nat) (hk:k≤b.length) (x:ai) (xs:List ai) (ha:a=x::xs) (e0 s:Int) (m:Bool),0≤e0→e0≤15→mk? x.P m →
   TD q a b now (bif decide ((((0:Int).toNat+1:Nat):Int).toNat+((((a.length:Int).toNat-1:Nat):Int)).toNat≤a.length) then bif decide ((((k:Int).toNat:Nat):Int).toNat+((((((b.length-k:Nat):Int)).toNat:Nat):Int)).toNat≤b.length) then
    some (Queue.mk (af.mk q.af.Kind q.af.A q.af.B q.af.C) q.Room [List.take ((((a.length:Int).toNat-1:Nat):Int)).toNat (List.drop ((((0:Int).toNat+1:Nat):Int).toNat) a),
      List.take ((((((b.length-k:Nat):Int)).toNat:Nat):Int)).toNat (List.drop ((((k:Int).toNat:Nat):Int).toNat) b)]
     (A8.mk e0 q.ae.e1 q.ae.e2 q.ae.e3 q.ae.e4 q.ae.e5 q.ae.e6 now) s,an.mk x.P.aG x.P.Sub x.P.Number x.P.Data x.P.aA x.P.aQ x.P.aI m,true,(b.take k).map (·.P),0) else none else none):=by
  intro k hk x xs ha e0 s m h0 h1 hm
  subst ha
  refine pT _ (by simp only[Int.toNat_natCast,decide_eq_true_eq,List.length_cons]; omega) (pT _ (by simp only[Int.toNat_natCast,decide_eq_true_eq]; omega) ?_)
  refine⟨k,e0,s,h0,h1,.inr (.inl ⟨x,xs,m,rfl,hk,hm,?_⟩)⟩
  simp only[Int.toNat_natCast,Int.toNat_zero,Nat.zero_add,List.drop_succ_cons,List.drop_zero,List.length_cons,Nat.add_sub_cancel,List.take_length,dQ,pm]
  rw[List.take_of_length_le (by simp)]
 refine NS (fun (n:Nat) st=>∃ (k:Nat) (e0 s:Int),k≤b.length∧n=b.length-k∧0≤e0∧e0≤15 ∧
  st=(false,0,false,[],0,0,0,0,0,0,false,false,q.af.Kind,q.af.A,q.af.B,q.af.C,q.Room,q.ag,e0,q.ae.e1,q.ae.e2,q.ae.e3,q.ae.e4,q.ae.e5,q.ae.e6,now,s,
   (0:Int),(a.length:Int),(((a.length:Int).toNat:Nat):Int),(k:Int),((b.length-k:Nat):Int),(((((b.length:Int).toNat:Nat)-k:Nat):Int)),now,(b.take k).map (·.P))) ?_ b.length _
  ⟨0,q.ae.e0,q.aY,Nat.zero_le _,rfl,Jy.1,Jy.2,rfl⟩
 rintro n st ⟨k,e0,s,hk,rfl,h0,h1,rfl⟩
 by_cases hz:a.length+(b.length-k)=0
 ·have ha:a=[]:=List.length_eq_zero_iff.1 (by omega)
  have Up:k=b.length:=by omega
  subst Up
  refine pT _ (by simp only[Int.toNat_natCast]; rw[aZ (by omega) (by omega)]; simp only[beq_iff_eq]; omega) ?_
  show TD q a b now (bif decide _ then (bif decide _ then _ else _) else _)
  refine pT _ (by simp) (pT _ (by simp) ?_)
  refine⟨b.length,0,s,by omega,by omega,.inr (.inr ⟨ha,rfl,?_⟩)⟩
  subst ha
  simp[dQ]
 ·refine pF _ (by simp only[Int.toNat_natCast]; rw[aZ (by omega) (by omega)]; simp only[beq_eq_false_iff_ne]; omega) ?_
  by_cases Up:k<b.length
  ·refine pT _ (by simp only[Int.toNat_natCast,decide_eq_true_eq]; omega) ?_
   have hbk:b[(k:Int).toNat+0]?=some b[k]:=by rw[Int.toNat_natCast,Nat.add_zero]; exact List.getElem?_eq_getElem Up
   obtain⟨r,s',L6⟩:=v9 s 1000000 (by omega) (by omega)
   have fits:(decide ((((b.take k).map (·.P)).length+1)*56≤2^44)&&decide (((b.take k).map (·.P)).length+1≤2^44))=true:=by
    simp only[List.length_map,List.length_take,Bool.and_eq_true,decide_eq_true_eq]; omega
   have again:∀ s':Int,∃ m,m<b.length-k∧∃ (k':Nat) (XI u9:Int),k'≤b.length∧m=b.length-k'∧0≤XI∧XI≤15 ∧
     ((false,0,false,[],0,0,0,0,0,0,false,false,q.af.Kind,q.af.A,q.af.B,q.af.C,q.Room,q.ag,0,q.ae.e1,q.ae.e2,q.ae.e3,q.ae.e4,q.ae.e5,q.ae.e6,now,s',
       (((0:Int).toNat:Nat):Int),(((a.length:Int).toNat:Nat):Int),(((((a.length:Int).toNat:Nat):Int).toNat:Nat):Int),(((k:Int).toNat+1:Nat):Int),(((((b.length-k:Nat):Int)).toNat-1:Nat):Int),((((((((b.length:Int).toNat:Nat)-k:Nat):Int)).toNat-1:Nat):Int)),now,(b.take k).map (·.P)++[b[k].P]) :
       Bool×Int×Bool×List an×Int×Int×Int×Int×Int×Int×Bool×Bool×Int×Int×Int×Int×Int×List (List ai)×Int×Int×Int×Int×Int×Int×Int×Int×Int×Int×Int×Int×Int×Int×Int×Int×List an) =
     (false,0,false,[],0,0,0,0,0,0,false,false,q.af.Kind,q.af.A,q.af.B,q.af.C,q.Room,q.ag,XI,q.ae.e1,q.ae.e2,q.ae.e3,q.ae.e4,q.ae.e5,q.ae.e6,now,u9,
       (0:Int),(a.length:Int),(((a.length:Int).toNat:Nat):Int),(k':Int),((b.length-k':Nat):Int),(((((b.length:Int).toNat:Nat)-k':Nat):Int)),now,(b.take k').map (·.P)):=by
    intro s'
    refine⟨b.length-(k+1),by omega,k+1,0,s',Up,rfl,by omega,by omega,?_⟩
    simp only[Int.toNat_natCast,Int.toNat_zero,List.take_succ_eq_append_getElem Up,List.map_append,List.map_cons,List.map_nil,Nat.sub_sub,Int.natCast_zero]
   by_cases ha:a.length=0
   ·refine pT _ (by simp only[Int.toNat_natCast,beq_iff_eq]; omega) (pT _ (by simp) (pT _ (by simp only[Int.toNat_natCast,decide_eq_true_eq]; omega) ?_))
    obtain⟨v,hv⟩:=wc (lV.mk (Queue.mk (af.mk q.af.Kind q.af.A q.af.B q.af.C) q.Room q.ag (A8.mk 0 q.ae.e1 q.ae.e2 q.ae.e3 q.ae.e4 q.ae.e5 q.ae.e6 now) s)
     (A2.mk (List.take ((a.length:Int)).toNat (List.drop ((0:Int)).toNat a)) (List.take (((b.length-k:Nat):Int)).toNat (List.drop ((k:Int)).toNat b))) now ((b.take k).map (·.P)))
    refine pB _ hv (pT _ (by simp only[Int.toNat_natCast,decide_eq_true_eq]; omega) (pB _ hbk (pT _ (by simp only[Int.toNat_natCast,Option.getD_some,Bool.and_eq_true,decide_eq_true_eq]; omega) ?_)))
    exact pB _ L6 (pC _ (fun _=>pT _ fits (again s')) (fun _=>XH k Up 0 s' (by omega) (by omega)))
   ·obtain⟨x,xs,L7⟩:∃ x xs,a=x::xs:=by
     cases a with
     |nil=>exact absurd rfl ha
     |cons x xs=>exact⟨x,xs,rfl⟩
    have hxa:a[(0:Int).toNat+0]?=some x:=by rw[L7]; rfl
    have Uq:=iA h.oa x (by rw[L7]; simp)
    have hA:x.P.aI=true:=by have:=Uq.1; simp only[cA,Bool.and_eq_true,beq_iff_eq]at this; exact this.2
    refine pF _ (by simp only[Int.toNat_natCast,beq_eq_false_iff_ne]; omega) ?_
    refine pC _ (fun _=>?_) (fun h15=>?_)
    ·refine pT _ (by simp) (pT _ (by simp only[Int.toNat_natCast,decide_eq_true_eq]; omega) ?_)
     obtain⟨v,hv⟩:=wc (lV.mk (Queue.mk (af.mk q.af.Kind q.af.A q.af.B q.af.C) q.Room q.ag (A8.mk 0 q.ae.e1 q.ae.e2 q.ae.e3 q.ae.e4 q.ae.e5 q.ae.e6 now) s)
      (A2.mk (List.take ((a.length:Int)).toNat (List.drop ((0:Int)).toNat a)) (List.take (((b.length-k:Nat):Int)).toNat (List.drop ((k:Int)).toNat b))) now ((b.take k).map (·.P)))
     refine pB _ hv (pT _ (by simp only[Int.toNat_natCast,decide_eq_true_eq]; omega) (pB _ hbk (pT _ (by simp only[Int.toNat_natCast,Option.getD_some,Bool.and_eq_true,decide_eq_true_eq]; omega) ?_)))
     exact pB _ L6 (pC _ (fun _=>pT _ fits (again s')) (fun _=>XH k Up 0 s' (by omega) (by omega)))
    ·have agt:e0<15:=by have:=of_decide_eq_false h15; omega
     have w0:IntKind.i64.wrap (e0+1)=e0+1:=aZ (by omega) (by omega)
     rw[w0]
     refine pF _ (by simp only[Int.toNat_natCast,beq_eq_false_iff_ne]; omega) (pT _ (by simp only[Int.toNat_natCast,decide_eq_true_eq]; omega) ?_)
     refine pB _ hxa (pT _ (by simp only[Int.toNat_natCast,Int.toNat_zero,Option.getD_some,Bool.and_eq_true,decide_eq_true_eq]; omega) ?_)
     refine pC _ (fun _=>Li k hk x xs L7 (e0+1) s true (by omega) (by omega) (.inr ⟨hA,rfl⟩)) (fun _=>?_)
     refine pT _ (by simp only[Int.toNat_natCast,Int.toNat_zero,decide_eq_true_eq]; omega) (pT _ (by simp only[Int.toNat_natCast,decide_eq_true_eq]; omega) ?_)
     obtain⟨v,hv⟩:=wc (lV.mk (Queue.mk (af.mk q.af.Kind q.af.A q.af.B q.af.C) q.Room q.ag (A8.mk (e0+1) q.ae.e1 q.ae.e2 q.ae.e3 q.ae.e4 q.ae.e5 q.ae.e6 now) s)
      (A2.mk (List.take ((a.length:Int).toNat-1) (List.drop ((0:Int).toNat+1) a)) (List.take (((b.length-k:Nat):Int)).toNat (List.drop ((k:Int)).toNat b))) now ((b.take k).map (·.P)))
     exact pB _ hv (pB _ L6 (pC _ (fun _=>Li k hk x xs L7 (e0+1) s' true (by omega) (by omega) (.inr ⟨hA,rfl⟩)) (fun _=>Li k hk x xs L7 (e0+1) s' x.P.ay (by omega) (by omega) (.inl rfl))))
  ·have hke:k=b.length:=by omega
   obtain⟨x,xs,L7⟩:∃ x xs,a=x::xs:=by
    cases a with
    |nil=>simp only[List.length_nil]at hz; omega
    |cons x xs=>exact⟨x,xs,rfl⟩
   have hxa:a[(0:Int).toNat+0]?=some x:=by rw[L7]; rfl
   have ui:0<a.length:=by rw[L7]; simp
   have Uq:=iA h.oa x (by rw[L7]; simp)
   have hA:x.P.aI=true:=by have:=Uq.1; simp only[cA,Bool.and_eq_true,beq_iff_eq]at this; exact this.2
   obtain⟨r,s',L6⟩:=v9 s 1000000 (by omega) (by omega)
   refine pF _ (by simp only[Int.toNat_natCast,decide_eq_false_iff_not]; omega) (pT _ (by simp only[Int.toNat_natCast,beq_iff_eq]; omega) (pT _ (by simp only[Int.toNat_natCast,decide_eq_true_eq]; omega) ?_))
   refine pB _ hxa (pT _ (by simp only[Int.toNat_natCast,Int.toNat_zero,Option.getD_some,Bool.and_eq_true,decide_eq_true_eq]; omega) ?_)
   refine pC _ (fun _=>Li k hk x xs L7 0 s true (by omega) (by omega) (.inr ⟨hA,rfl⟩)) (fun _=>?_)
   refine pT _ (by simp only[Int.toNat_natCast,Int.toNat_zero,decide_eq_true_eq]; omega) (pT _ (by simp only[Int.toNat_natCast,decide_eq_true_eq]; omega) ?_)
   obtain⟨v,hv⟩:=wc (lV.mk (Queue.mk (af.mk q.af.Kind q.af.A q.af.B q.af.C) q.Room q.ag (A8.mk 0 q.ae.e1 q.ae.e2 q.ae.e3 q.ae.e4 q.ae.e5 q.ae.e6 now) s)
    (A2.mk (List.take ((a.length:Int).toNat-1) (List.drop ((0:Int).toNat+1) a)) (List.take (((b.length-k:Nat):Int)).toNat (List.drop ((k:Int)).toNat b))) now ((b.take k).map (·.P)))
   exact pB _ hv (pB _ L6 (pC _ (fun _=>Li k hk x xs L7 0 s' true (by omega) (by omega) (.inr ⟨hA,rfl⟩)) (fun _=>Li k hk x xs L7 0 s' x.P.ay (by omega) (by omega) (.inl rfl))))
end Go.Proofs.YtpodhambaehlkaaGreatDoor
end
section
/- Plain facts of this seat: valid queues of package deficit. -/
set_option maxRecDepth 100000
namespace Go.Proofs.YtpodhambaehlkaaGreatDoor
open Go.PI Go.Pl
theorem we[ah]{τ ω:Type}{f:τ→Option (τ ⊕ ω)}(st:Nat→τ)(c:Nat→Bool)(n:Nat)(e bad:ω){x0:τ}
  (h:∀ i,i<n→f (st i)=bif c i then some (.inl (st (i+1))) else some (.inr bad)) (he:f (st n)=some (.inr e)) (hx:x0=st 0) :
  aX f x0=some (bif (List.range n).all c then e else bad):=by
 subst hx
 rcases F2 st c (fun _=>bad) n e (fun i hi=>by rw[h i hi]; cases c i<;>rfl) he with ⟨h1,h2⟩|⟨h1,i,_,_,h2⟩
 ·rw[h1,h2]; rfl
 ·rw[h1,h2]; rfl
def v8(v:A8 Int)(i:Nat):Int:=sn [v.e0,v.e1,v.e2,v.e3,v.e4,v.e5,v.e6,v.e7] i v.e0
def p9(v:A8 Int):A8 Int:=A8.mk (IntKind.i64.wrap (v.e2.tdiv 32768)) (v.e2.tmod 32768) (IntKind.i64.wrap (v.e3.tdiv 32768)) (v.e3.tmod 32768) (IntKind.i64.wrap (v.e4.tdiv 32768)) (v.e4.tmod 32768) (IntKind.i64.wrap (v.e5.tdiv 32768)) (v.e5.tmod 32768)
def nG(l:List ai)(d:Int):Bool:=match l with|[]=>false|x::_=>decide (x.P.aA≤d)
def Ur(hi e0 e1:Int)(ls:List (List ai))(d:A8 Int)(i:Nat):Bool:=match ls[i]? with
 |none=>false
 |some l=>(decide (0≤v8 d i)&&decide (v8 d i≤19999))&&((bif decide (0<v8 d i) then !((l.length:Int)==0) else true)&&(bU (cF i) hi 0 l &&
   (bif decide (0<v8 d i)&&!(e1==1&&(e0==(i:Int))) then !nG l (v8 d i) else true)))
def tot(ls:List (List ai)):Int:=(ls.map fun l=>(l.length:Int)).sum
def Us(q:Queue):Bool:=(decide (0≤q.ae.e7)&&decide (q.ae.e7≤10000000))&&((!decide (q.ae.e2<0)&&(!decide (q.ae.e3<0)&&(!decide (q.ae.e4<0)&&!decide (q.ae.e5<0)))) &&
 ((List.range 8).all (Ur q.ae.e7 q.ae.e0 q.ae.e1 q.ag (p9 q.ae))&&decide (tot q.ag≤q.Room)))
def vF(q:Queue):Bool:=(q.af.Kind==5)&&((decide (100≤q.af.A)&&decide (q.af.A≤10000))&&((q.af.B==0)&&((q.af.C==0)&&((decide (1≤q.Room)&&decide (q.Room≤500))&&(((q.ag.length:Int)==8)&&((q.aY==0)&&((q.ae.e6==0) &&
 ((decide (0≤q.ae.e0)&&decide (q.ae.e0≤7))&&((decide (0≤q.ae.e1)&&decide (q.ae.e1≤1))&&(bif q.ae.e1==1 then !(((q.ag[q.ae.e0.toNat]?.getD []).length:Int)==0)&&Us q else Us q))))))))))
theorem NT(q:Queue):aa.eJ q=some (p9 q.ae):=rfl
theorem AR(ls:List (List ai))(l:List ai):tot (ls++[l])=tot ls+l.length:=by simp[tot]
theorem AU(ls:List (List ai)):0≤tot ls:=by
 induction ls with
 |nil=>simp[tot]
 |cons l ls ih=>simp only[tot,List.map_cons,List.sum_cons]at ih ⊢; omega
theorem AW{ls:List (List ai)}(i:Nat):tot (ls.take i)≤tot ls:=by
 have h:tot ls=tot (ls.take i)+tot (ls.drop i):=by
  conv=>lhs; rw[←List.take_append_drop i ls]
  simp only[tot,List.map_append,List.sum_append]
 have:=AU (ls.drop i)
 omega
theorem En(q:Queue)(hn:q.ag.length≤2^62)(ht:tot q.ag≤2^62):aa.dF q=some (tot q.ag):=by
 unfold aa.dF
 refine bB (v:=(tot q.ag,(q.ag.length:Int))) ?_ rfl
 have key:∀ n i,q.ag.length-i=n→i≤q.ag.length→aX (ω:=Int×Int) (fun ((i1,i2):Int×Int)=>
   bif decide (i2<(↑q.ag.length:Int)) then bif decide (0≤i2) then (q.ag[i2.toNat]?).bind fun l3=>some (Sum.inl (IntKind.i64.wrap (i1+(↑l3.length:Int)),IntKind.i64.wrap (i2+1))) else none else some (Sum.inr (i1,i2)))
   (tot (q.ag.take i),(i:Int))=some (tot q.ag,(q.ag.length:Int)):=by
  intro n
  induction n with
  |zero=>
   intro i h1 h2
   have:i=q.ag.length:=by omega
   subst this
   refine Go.Pl.out (bF (jx _) ?_)
   rw[List.take_length]
  |succ n ih=>
   intro i h1 h2
   have hi:i<q.ag.length:=by omega
   have hs:tot (q.ag.take (i+1))=tot (q.ag.take i)+(q.ag[i].length:Int):=by rw[List.take_succ_eq_append_getElem hi,AR]
   have a:=AU (q.ag.take i)
   have b:=AW (ls:=q.ag) (i+1)
   refine(Go.Pl.next (y:=(tot (q.ag.take (i+1)),((i+1:Nat):Int))) ?_).trans (ih (i+1) (by omega) hi)
   refine bT (fo hi) (bT (ct i) (bB (v:=q.ag[i]) (by simp[hi]) ?_))
   rw[aZ (by omega) (by omega),aZ (by omega) (by omega),hs]
   simp only[Int.natCast_add,Int.natCast_one]
 have:=key q.ag.length 0 rfl (Nat.zero_le _)
 rwa [List.take_zero]at this
end Go.Proofs.YtpodhambaehlkaaGreatDoor
end
section
/- Plain facts of this seat: what package deficit calls valid. -/
set_option maxRecDepth 100000
namespace Go.Proofs.YtpodhambaehlkaaGreatDoor
open Go.PI Go.Pl
theorem NU{c y:Bool}{X:Option Bool}(h:c=true→X=some y):(bif !c then some false else X)=some (c&&y):=by
 cases c
 ·rfl
 ·exact h rfl
theorem sfb{c y:Bool}{X:Option Bool}(h:c=false→X=some y):(bif c then some false else X)=some (!c&&y):=by
 cases c
 ·exact h rfl
 ·rfl
section
variable {α:Type}{X:Option α}{g b:Option α}
theorem nck{c y:Bool}(h:c=true→X=bif y then g else b):(bif !c then b else X)=bif (c&&y) then g else b:=by
 cases c
 ·rfl
 ·exact h rfl
theorem sck{c y:Bool}(h:c=false→X=bif y then g else b):(bif c then b else X)=bif (!c&&y) then g else b:=by
 cases c
 ·exact h rfl
 ·rfl
theorem bfl{c:Bool}{x y:Option α}:(bif c then x else y)=bif !c then y else x:=by cases c<;>rfl
end
theorem NV(q:Queue)(hs:sm q)(h8:q.ag.length=8)(ht:tot q.ag≤2^62)(X:Option Bool)
  (hX:X=(aa.bL q.ae.e7 0 10000000).bind fun b=>bif !b then some false else
    (aX (ω:=Bool ⊕ Bool×Int) (fun ((b7,i8):Bool×Int)=>
 bif decide (i8<4) then
 bif decide (0≤IntKind.i64.wrap (2+i8)) then
 bif decide ((IntKind.i64.wrap (2+i8)).toNat<8) then
 bif decide (v8 q.ae (IntKind.i64.wrap (2+i8)).toNat<0) then
 some (Sum.inr (Sum.inl false))
 else
 some (Sum.inl (b7,IntKind.i64.wrap (i8+1)))
 else
 none
 else
 none
 else
 some (Sum.inr (Sum.inr (b7,i8)))) (false,0)).bind fun w9=>
 Sum.elim (fun yz=>
 some yz) (fun (vf,i12)=>
 (aa.eJ q).bind fun rv=>
 (aX (ω:=Bool ⊕ Bool×Int) (fun ((lA,i15):Bool×Int)=>
 bif decide (i15<8) then
 bif decide (0≤i15) then
 bif decide (i15.toNat<8) then
 (aa.bL (v8 rv i15.toNat) 0 19999).bind fun B7=>
 bif !B7 then
 some (Sum.inr (Sum.inl false))
 else
 bif decide (0<v8 rv i15.toNat) then
 bif decide (0≤i15) then
 (q.ag[i15.toNat]?).bind fun Rh=>
 bif (↑Rh.length:Int)==0 then
 some (Sum.inr (Sum.inl false))
 else
 bif decide (0≤i15) then
 (q.ag[i15.toNat]?).bind fun EZ=>
 (aa.dh EZ i15 q.ae.e7).bind fun NW=>
 bif !NW then
 some (Sum.inr (Sum.inl false))
 else
 bif q.ae.e1==1 then
 bif decide (0<v8 rv i15.toNat) then
 bif !q.ae.e0==i15 then
 bif decide (0≤i15) then
 (q.ag[i15.toNat]?).bind fun jm=>
 (jm[0]?).bind fun L8=>
 bif decide (L8.P.aA≤v8 rv i15.toNat) then
 some (Sum.inr (Sum.inl false))
 else
 some (Sum.inl (lA,IntKind.i64.wrap (i15+1)))
 else
 none
 else
 some (Sum.inl (lA,IntKind.i64.wrap (i15+1)))
 else
 some (Sum.inl (lA,IntKind.i64.wrap (i15+1)))
 else
 bif decide (0<v8 rv i15.toNat) then
 bif decide (0≤i15) then
 (q.ag[i15.toNat]?).bind fun l22=>
 (l22[0]?).bind fun q23=>
 bif decide (q23.P.aA≤v8 rv i15.toNat) then
 some (Sum.inr (Sum.inl false))
 else
 some (Sum.inl (lA,IntKind.i64.wrap (i15+1)))
 else
 none
 else
 some (Sum.inl (lA,IntKind.i64.wrap (i15+1)))
 else
 none
 else
 none
 else
 bif decide (0≤i15) then
 (q.ag[i15.toNat]?).bind fun gN=>
 (aa.dh gN i15 q.ae.e7).bind fun Ri=>
 bif !Ri then
 some (Sum.inr (Sum.inl false))
 else
 bif q.ae.e1==1 then
 bif decide (0<v8 rv i15.toNat) then
 bif !q.ae.e0==i15 then
 bif decide (0≤i15) then
 (q.ag[i15.toNat]?).bind fun l26=>
 (l26[0]?).bind fun XJ=>
 bif decide (XJ.P.aA≤v8 rv i15.toNat) then
 some (Sum.inr (Sum.inl false))
 else
 some (Sum.inl (lA,IntKind.i64.wrap (i15+1)))
 else
 none
 else
 some (Sum.inl (lA,IntKind.i64.wrap (i15+1)))
 else
 some (Sum.inl (lA,IntKind.i64.wrap (i15+1)))
 else
 bif decide (0<v8 rv i15.toNat) then
 bif decide (0≤i15) then
 (q.ag[i15.toNat]?).bind fun iB=>
 (iB[0]?).bind fun q29=>
 bif decide (q29.P.aA≤v8 rv i15.toNat) then
 some (Sum.inr (Sum.inl false))
 else
 some (Sum.inl (lA,IntKind.i64.wrap (i15+1)))
 else
 none
 else
 some (Sum.inl (lA,IntKind.i64.wrap (i15+1)))
 else
 none
 else
 none
 else
 none
 else
 some (Sum.inr (Sum.inr (lA,i15)))) (vf,0)).bind fun w30=>
 Sum.elim (fun WH=>
 some WH) (fun (b32,i33)=>
 (aa.dF q).bind fun i34=>
 some (decide (i34≤q.Room))) w30) w9):X=some (Us q):=by
  subst hX
  unfold Us
  rw[AM]
  refine bB rfl (NU fun _=>?_)
  refine bB (we (fun i=>(false,(i:Int))) (fun i=>!decide (v8 q.ae (2+i)<0)) 4 (.inr (false,4)) (.inl false) ?_ rfl rfl) ?_
  ·intro i hi
   rcases (by omega:i=0∨i=1∨i=2∨i=3) with rfl|rfl|rfl|rfl<;>exact bT rfl (bT rfl (bT rfl bfl))
  rw[show (List.range 4).all (fun i=>!decide (v8 q.ae (2+i)<0))=(!decide (q.ae.e2<0)&&(!decide (q.ae.e3<0)&&(!decide (q.ae.e4<0)&&!decide (q.ae.e5<0)))) by simp[List.range_succ,v8,sn,Bool.and_assoc]]
  cases (!decide (q.ae.e2<0)&&(!decide (q.ae.e3<0)&&(!decide (q.ae.e4<0)&&!decide (q.ae.e5<0))))
  ·rfl
  simp only[cond_true,Sum.elim_inr,Bool.true_and,NT,Option.bind_some]
  refine bB (we (fun i=>(false,(i:Int))) (Ur q.ae.e7 q.ae.e0 q.ae.e1 q.ag (p9 q.ae)) 8 (.inr (false,8)) (.inl false) ?_ rfl rfl) ?_
  ·intro i hi
   have hl:q.ag[i]?=some q.ag[i]:=List.getElem?_eq_getElem (by omega)
   have Ut:(q.ag[i]).length≤2^63-1:=hs _ (List.getElem_mem _)
   revert hl Ut
   generalize q.ag[i]=l
   intro hl Ut
   have ld:q.ag[(i:Int).toNat]?=some l:=by rw[Int.toNat_natCast]; exact hl
   have hu:Ur q.ae.e7 q.ae.e0 q.ae.e1 q.ag (p9 q.ae) i=((decide (0≤v8 (p9 q.ae) i)&&decide (v8 (p9 q.ae) i≤19999))&&((bif decide (0<v8 (p9 q.ae) i) then !((l.length:Int)==0) else true)&&(bU (cF i) q.ae.e7 0 l &&
    (bif decide (0<v8 (p9 q.ae) i)&&!(q.ae.e1==1&&(q.ae.e0==(i:Int))) then !nG l (v8 (p9 q.ae) i) else true)))):=by unfold Ur; rw[hl]
   rw[hu]
   have hw:IntKind.i64.wrap ((i:Int)+1)=((i+1:Nat):Int):=aZ (by omega) (by omega)
   refine bT (decide_eq_true (by omega)) (bT (ct i) (bT (decide_eq_true (by rw[Int.toNat_natCast]; exact hi)) ?_))
   simp only[Int.toNat_natCast,AM,Option.bind_some,ld,hl,hw,Uf l _ _ Ut,ct,cond_true]
   refine nck fun _=>?_
   cases hd:decide (0<v8 (p9 q.ae) i)
   ·simp only[cond_false,Bool.false_and,Bool.true_and,Bool.and_true]
    cases bU (cF i) q.ae.e7 0 l<;>cases (q.ae.e1==1)<;>rfl
   ·simp only[cond_true,Bool.true_and]
    refine sck fun hz=>?_
    refine nck fun _=>?_
    cases l with
    |nil=>simp at hz
    |cons x xs=>
     simp only[List.getElem?_cons_zero,Option.bind_some,nG]
     cases (q.ae.e1==1)<;>cases (q.ae.e0==(i:Int))<;>cases decide (x.P.aA≤v8 (p9 q.ae) i)<;>rfl
  cases (List.range 8).all (Ur q.ae.e7 q.ae.e0 q.ae.e1 q.ag (p9 q.ae))
  ·rfl
  simp only[cond_true,Sum.elim_inr,Bool.true_and]
  rw[En q (by omega) ht]
  rfl
theorem XK(q:Queue)(hs:sm q)(ht:tot q.ag≤2^62):aa.eD q=some (vF q):=by
 unfold aa.eD vF
 rw[AM,AM,AM,AM]
 refine NU fun _=>bB rfl (NU fun _=>NU fun _=>NU fun _=>bB rfl (NU fun _=>NU fun h8=>NU fun _=>NU fun _=>?_))
 have h8:q.ag.length=8:=by rw[beq_iff_eq]at h8; omega
 refine bB rfl (NU fun h0=>bB rfl (NU fun _=>?_))
 have h0:0≤q.ae.e0∧q.ae.e0≤7:=by
  have h:(decide (0≤q.ae.e0)&&decide (q.ae.e0≤7))=true:=h0
  simpa only[Bool.and_eq_true,decide_eq_true_eq] using h
 have hg:q.ag[q.ae.e0.toNat]?=some (q.ag[q.ae.e0.toNat]?.getD []):=by
  rw[List.getElem?_eq_getElem (by omega)]; rfl
 cases he:(q.ae.e1==1)
 ·exact bF he (NV q hs h8 ht _ rfl)
 ·refine bT he (bT (decide_eq_true h0.1) (bB hg ?_))
  refine sfb fun _=>NV q hs h8 ht _ rfl
end Go.Proofs.YtpodhambaehlkaaGreatDoor
end
section
/- Plain facts of this seat: package deficit, what comes. -/
set_option maxRecDepth 100000
namespace Go.Proofs.YtpodhambaehlkaaGreatDoor
open Go.PI Go.Pl
def DD(hi e0 e1:Int)(i:Nat)(l:List ai)(d:Int):Prop:=(0≤d∧d≤19999)∧(0<d→l≠[])∧bU (cF i) hi 0 l=true∧(0<d→¬(e1=1∧e0=(i:Int))→∀ x xs,l=x::xs→d<x.P.aA)
theorem Rj{hi e0 e1:Int}{ls:List (List ai)}{d:A8 Int}{i:Nat}:Ur hi e0 e1 ls d i=true↔∃ l,ls[i]?=some l∧DD hi e0 e1 i l (v8 d i):=by
 unfold Ur DD
 cases hl:ls[i]? with
 |none=>simp
 |some l=>
  simp only[Option.some.injEq,exists_eq_left']
  by_cases h0:0<v8 d i
  ·cases l with
   |nil=>simp[h0]
   |cons x xs=>
    by_cases h1:e1=1<;>by_cases h2:e0=(i:Int)<;>simp[h0,h1,h2,nG,show ¬((xs.length:Int)+1=0) by omega]
    all_goals
     constructor
     ·rintro⟨⟨a,b⟩,c,d⟩
      exact⟨⟨a,b⟩,c,fun y ys e _=>by subst e; exact d⟩
     ·rintro⟨⟨a,b⟩,c,d⟩
      exact⟨⟨a,b⟩,c,d x xs rfl rfl⟩
  ·simp[h0]
structure VF(q:Queue):Prop where
 kind:q.af.Kind=5
 pa:100≤q.af.A∧q.af.A≤10000
 pb:q.af.B=0
 pc:q.af.C=0
 r0:1≤q.Room
 r1:q.Room≤500
 n8:q.ag.length=8
 sd:q.aY=0
 z:q.ae.e6=0
 v0:0≤q.ae.e0∧q.ae.e0≤7
 v1:0≤q.ae.e1∧q.ae.e1≤1
 tR:q.ae.e1=1→∃ l,q.ag[q.ae.e0.toNat]?=some l∧l≠[]
 t0:0≤q.ae.e7
 t1:q.ae.e7≤10000000
 pk:0≤q.ae.e2∧0≤q.ae.e3∧0≤q.ae.e4∧0≤q.ae.e5
 dd:∀ i,i<8→∃ l,q.ag[i]?=some l∧DD q.ae.e7 q.ae.e0 q.ae.e1 i l (v8 (p9 q.ae) i)
 len:tot q.ag≤q.Room
theorem J4(q:Queue):Us q=true↔((0≤q.ae.e7∧q.ae.e7≤10000000)∧(0≤q.ae.e2∧0≤q.ae.e3∧0≤q.ae.e4∧0≤q.ae.e5)∧(∀ i,i<8→∃ l,q.ag[i]?=some l∧DD q.ae.e7 q.ae.e0 q.ae.e1 i l (v8 (p9 q.ae) i))∧tot q.ag≤q.Room):=by
 unfold Us
 simp only[Bool.and_eq_true,Bool.not_eq_true',decide_eq_true_eq,decide_eq_false_iff_not,List.all_eq_true,List.mem_range,Rj,Int.not_lt]
theorem Uu(q:Queue):vF q=true↔VF q:=by
 unfold vF
 constructor
 ·intro h
  simp only[Bool.and_eq_true,decide_eq_true_eq,beq_iff_eq]at h
  obtain⟨h1,h2,h3,h4,h5,h6,h7,h8,h9,h10,h11⟩:=h
  have g:(q.ae.e1=1→∃ l,q.ag[q.ae.e0.toNat]?=some l∧l≠[])∧Us q=true:=by
   by_cases he:q.ae.e1=1
   ·rw[show (q.ae.e1==1)=true by simpa using he]at h11
    simp only[cond_true,Bool.and_eq_true,Bool.not_eq_true',beq_eq_false_iff_ne]at h11
    refine⟨fun _=>⟨_,List.getElem?_eq_getElem (show q.ae.e0.toNat<q.ag.length by omega),fun e=>?_⟩,h11.2⟩
    rw[List.getElem?_eq_getElem (show q.ae.e0.toNat<q.ag.length by omega),Option.getD_some,e]at h11
    exact h11.1 rfl
   ·rw[show (q.ae.e1==1)=false by simpa using he]at h11
    exact⟨fun e=>absurd e he,h11⟩
  obtain⟨g1,g2,g3,g4⟩:=(J4 q).1 g.2
  exact⟨h1,h2,h3,h4,h5.1,h5.2,by omega,h7,h8,h9,h10,g.1,g1.1,g1.2,g2,g3,g4⟩
 ·intro h
  have g:=(J4 q).2 ⟨⟨h.t0,h.t1⟩,h.pk,h.dd,h.len⟩
  have hn:=h.n8
  simp only[Bool.and_eq_true,decide_eq_true_eq,beq_iff_eq]
  refine⟨h.kind,h.pa,h.pb,h.pc,⟨h.r0,h.r1⟩,by omega,h.sd,h.z,h.v0,h.v1,?_⟩
  rw[g,Bool.and_true]
  by_cases he:q.ae.e1=1
  ·obtain⟨l,hl,dP⟩:=h.tR he
   rw[hl,Option.getD_some]
   cases l with
   |nil=>exact absurd rfl dP
   |cons x xs=>cases (q.ae.e1==1)<;>simp<;>omega
  ·rw[show (q.ae.e1==1)=false by simpa using he]; rfl
theorem td{ls:List (List ai)}{l:List ai}(h:l∈ls):(l.length:Int)≤tot ls:=by
 induction ls with
 |nil=>simp at h
 |cons a ls ih=>
  have:=AU ls
  simp only[tot,List.map_cons,List.sum_cons]at ih this ⊢
  rcases List.mem_cons.1 h with rfl|h
  ·omega
  ·have:=ih h; omega
theorem VF.sm{q:Queue}(h:VF q):sm q:=by
 intro l hl
 have:=td hl; have:=h.len; have:=h.r1
 omega
theorem VF.valid{q:Queue}(h:VF q):aa.eD q=some true:=by
 have:=h.len; have:=h.r1
 rw[XK q h.sm (by omega),(Uu q).2 h]
theorem J5{ls:List (List ai)}{i:Nat}{l l':List ai}(h:ls[i]?=some l):tot (ls.set i l')=tot ls+l'.length-l.length:=by
 induction ls generalizing i with
 |nil=>simp at h
 |cons a ls ih=>
  cases i with
  |zero=>simp only[List.getElem?_cons_zero,Option.some.injEq]at h; subst h; simp only[List.set_cons_zero,tot,List.map_cons,List.sum_cons]; omega
  |succ i=>
   have:=ih (i:=i) (by simpa using h)
   simp only[List.set_cons_succ,tot,List.map_cons,List.sum_cons]at this ⊢
   omega
def fQ(q:Queue)(ls:List (List ai))(v:A8 Int):Queue:=Queue.mk q.af q.Room ls v q.aY
def XL(v:A8 Int)(now:Int):A8 Int:=A8.mk v.e0 v.e1 v.e2 v.e3 v.e4 v.e5 v.e6 now
theorem NX{q:Queue}(h:VF q){now:Int}(hn:0≤now∧now≤10000000)(hle:q.ae.e7≤now):VF (fQ q q.ag (XL q.ae now)):=
 ⟨h.kind,h.pa,h.pb,h.pc,h.r0,h.r1,h.n8,h.sd,h.z,h.v0,h.v1,h.tR,hn.1,hn.2,h.pk,fun i hi=>by
   obtain⟨l,hl,d1,d2,d3,d4⟩:=h.dd i hi
   exact⟨l,hl,d1,d2,iW hle d3,d4⟩,h.len⟩
theorem Uv{q:Queue}(h:VF q){now:Int}(hn:0≤now∧now≤10000000)(hle:q.ae.e7≤now){p:an}(hp:mi p=true){l:List ai}(hl:q.ag[p.aG.toNat]?=some l)(hr:tot q.ag<q.Room):
  VF (fQ q (q.ag.set p.aG.toNat (l++[⟨p,now⟩])) (XL q.ae now)):=by
 have hf:0≤p.aG∧p.aG≤7:=by
  simp only[mi,Bool.and_eq_true,decide_eq_true_eq]at hp
  exact hp.1
 have cr:p.aG.toNat<q.ag.length:=by have:=h.n8; omega
 refine⟨h.kind,h.pa,h.pb,h.pc,h.r0,h.r1,by simp[fQ,h.n8],h.sd,h.z,h.v0,h.v1,?_,hn.1,hn.2,h.pk,?_,?_⟩
 ·intro he
  obtain⟨m,hm,dP⟩:=h.tR he
  show ∃ l',(q.ag.set p.aG.toNat (l++[⟨p,now⟩]))[q.ae.e0.toNat]?=some l'∧l'≠[]
  by_cases hi:p.aG.toNat=q.ae.e0.toNat
  ·exact⟨l++[⟨p,now⟩],by rw[←hi,List.getElem?_set_self cr],by simp⟩
  ·exact⟨m,by rw[List.getElem?_set_ne hi]; exact hm,dP⟩
 ·intro i hi
  obtain⟨m,hm,d1,d2,d3,d4⟩:=h.dd i hi
  show ∃ l',(q.ag.set p.aG.toNat (l++[⟨p,now⟩]))[i]?=some l'∧DD now q.ae.e0 q.ae.e1 i l' (v8 (p9 q.ae) i)
  by_cases he:p.aG.toNat=i
  ·subst he
   obtain rfl:m=l:=Option.some.inj (hm.symm.trans hl)
   refine⟨_,List.getElem?_set_self cr,d1,fun _=>by simp,?_,?_⟩
   ·refine AN (x:=⟨p,now⟩) (hi:=q.ae.e7) ?_ hle hn.1 hn.1 d3
    simp only[cF,hp,Bool.true_and,beq_iff_eq]; omega
   ·intro h0 h1 x xs e
    cases m with
    |nil=>exact absurd rfl (d2 h0)
    |cons y ys=>
     simp only[List.cons_append,List.cons.injEq]at e
     exact e.1▸d4 h0 h1 y ys rfl
  ·exact⟨m,by rw[List.getElem?_set_ne he]; exact hm,d1,d2,iW hle d3,d4⟩
 ·show tot (q.ag.set p.aG.toNat (l++[⟨p,now⟩]))≤q.Room
  rw[J5 hl,List.length_append]
  simp only[List.length_cons,List.length_nil]
  omega
end Go.Proofs.YtpodhambaehlkaaGreatDoor
end
section
/- Plain facts of this seat: package deficit, calls. -/
set_option maxRecDepth 100000
set_option maxHeartbeats 1000000
namespace Go.Proofs.YtpodhambaehlkaaGreatDoor
open Go.PI Go.Pl
theorem Cq{α:Type}{l:List ai}(hl:l.length≤1000){K:Int→List ai→Nat→Nat→Option α}:
  ((some (IntKind.i64.wrap ((↑l.length:Int)+1))).bind fun i=>bif decide (0≤i) then bif decide (0≤i.toNat)&&decide (i.toNat*64≤2^47)&&decide (i.toNat<2^62) then
    bif decide (0+l.length≤i.toNat)&&decide (0+l.length≤(List.replicate i.toNat zW).length) then (some (l++List.drop (0+l.length) (List.replicate i.toNat zW))).bind fun b=>
     (some 0:Option Nat).bind fun n=>(some (0+l.length)).bind fun m=>K i b n m else none else none else none)=K ((l.length+1:Nat):Int) (l++[zW]) 0 l.length:=by
 have hw:IntKind.i64.wrap ((l.length:Int)+1)=((l.length+1:Nat):Int):=aZ (by omega) (by omega)
 refine bB (v:=((l.length+1:Nat):Int)) (by rw[hw]) ?_
 refine bT (ct _) (bT (by simp only[Int.toNat_natCast,Bool.and_eq_true,decide_eq_true_eq]; omega) (bT (by simp only[Int.toNat_natCast,Bool.and_eq_true,decide_eq_true_eq,List.length_replicate]; omega) ?_))
 simp only[Int.toNat_natCast,Option.bind_some,AQ]
 rw[Nat.zero_add]
theorem ck1(l:List ai):decide (0+l.length≤(l++[zW]).length)=true:=decide_eq_true (by rw[List.length_append]; omega)
theorem tk1(l:List ai):List.take l.length (List.drop 0 (l++[zW]))=l:=by rw[List.drop_zero,List.take_left]
theorem tk2(l:List ai)(x:ai):List.take (l.length+1) (List.drop 0 (List.take (0+l.length) (l++[zW])++([x]++List.drop (0+l.length+1) (l++[zW]))))=l++[x]:=by
 rw[Nat.zero_add,List.drop_zero,List.take_left,List.drop_eq_nil_of_le (by simp),List.append_nil,List.take_of_length_le (by simp)]
theorem ck2(l:List ai):(decide (l.length+1≤(((l.length+1:Nat):Int)).toNat)&&decide (0+l.length+1≤(l++[zW]).length))=true:=by simp
theorem ck3(l:List ai)(x:ai):decide (0+(l.length+1)≤(List.take (0+l.length) (l++[zW])++([x]++List.drop (0+l.length+1) (l++[zW]))).length)=true:=by
 refine decide_eq_true ?_
 rw[show 0+l.length=l.length by omega,List.take_left,List.drop_eq_nil_of_le (by simp),List.append_nil]; simp
theorem pE{α:Type}(P:Option α→Prop){x y:Option α}(h:x=y)(hy:P y):P x:=h▸hy
theorem l8{α:Type}{ls:List α}(h:ls.length=8):∃ a b c d e f g i,ls=[a,b,c,d,e,f,g,i]:=by
 match ls,h with
 |[a,b,c,d,e,f,g,i],_=>exact⟨a,b,c,d,e,f,g,i,rfl⟩
def PF(q:Queue)(ls:List (List ai))(p:an)(now:Int)(r:Option PR):Prop:=r=some (fQ q ls (XL q.ae now),[p],0) ∨
 (tot ls<q.Room∧∃ l,ls[p.aG.toNat]?=some l∧r=some (fQ q (ls.set p.aG.toNat (l++[⟨p,now⟩])) (XL q.ae now),[],0))
theorem XM{q:Queue}(h:VF q){p:an}(hp:mi p=true){now:Int}(hn:p5 now=true)(hle:q.ae.e7≤now):PF q q.ag p now (aa.lW q p now):=by
 have hlen:=h.len; have hr:=h.r1
 have hf:0≤p.aG∧p.aG≤7:=by
  simp only[mi,Bool.and_eq_true,decide_eq_true_eq]at hp
  exact hp.1
 have hm:∀ l∈q.ag,l.length≤1000:=fun l hl=>by have:=td hl; omega
 have hV:=h.valid
 unfold aa.lW
 refine pB _ (Ud p) (pF _ (by rw[hp]; rfl) ?_)
 refine pB _ hV (pF _ rfl ?_)
 refine pB _ (AM now 0 10000000) (pF _ (by rw[show (decide (0≤now)&&decide (now≤10000000))=true from hn]; rfl) ?_)
 refine pF _ (decide_eq_false (by omega)) (pT _ (by rw[h.n8]; rfl) ?_)
 obtain⟨l0,l1,l2,l3,l4,l5,l6,l7,hq⟩:=l8 h.n8
 rw[hq]at hm ⊢
 simp only[List.mem_cons,List.not_mem_nil,or_false,forall_eq_or_imp,forall_eq]at hm
 obtain⟨m0,m1,m2,m3,m4,m5,m6,m7⟩:=hm
 have hs:∀ (v:A8 Int),aa.dF (Queue.mk q.af q.Room [l0,l1,l2,l3,l4,l5,l6,l7] v q.aY)=some (tot [l0,l1,l2,l3,l4,l5,l6,l7]):=fun v=>En _ (by simp) (by rw[hq]at hlen; show tot [l0,l1,l2,l3,l4,l5,l6,l7]≤_; omega)
 refine pB _ (v:=l0) rfl (pB _ (v:=l1) rfl (pB _ (v:=l2) rfl (pB _ (v:=l3) rfl (pB _ (v:=l4) rfl (pB _ (v:=l5) rfl (pB _ (v:=l6) rfl (pB _ (v:=l7) rfl ?_)))))))
 refine pB _ rfl (pB _ rfl (pB _ rfl (pB _ rfl (pB _ rfl (pB _ rfl (pB _ rfl (pB _ rfl ?_)))))))
 refine pE _ (Cq m0) (pE _ (Cq m1) (pE _ (Cq m2) (pE _ (Cq m3) (pE _ (Cq m4) (pE _ (Cq m5) (pE _ (Cq m6) (pE _ (Cq m7) ?_)))))))
 simp only[ck1,cond_true,tk1,hs,Option.bind_some,ck2,ck3,tk2]
 cases hR:(tot [l0,l1,l2,l3,l4,l5,l6,l7]==q.Room)
 ·right
  refine⟨by rw[hq]at hlen; rw[beq_eq_false_iff_ne]at hR; omega,?_⟩
  obtain⟨fl,sub,nu,da,si,se,ab,mk⟩:=p
  simp only at hf
  rcases (by omega:fl=0∨fl=1∨fl=2∨fl=3∨fl=4∨fl=5∨fl=6∨fl=7) with rfl|rfl|rfl|rfl|rfl|rfl|rfl|rfl<;>exact⟨_,rfl,rfl⟩
 ·left; rfl
end Go.Proofs.YtpodhambaehlkaaGreatDoor
end
section
/- Plain facts of this seat: the rounds of package deficit. -/
set_option maxRecDepth 100000
namespace Go.Proofs.YtpodhambaehlkaaGreatDoor
open Go.PI Go.Pl
section
variable {τ ω α:Type}
def NxE(E:ω→Prop)(I:Nat→τ→Prop)(n:Nat)(o:Option (τ ⊕ ω)):Prop:=match o with
 |some (.inl y)=>∃ m,m<n∧I m y
 |some (.inr w)=>E w
 |none=>False
theorem Uw{f:τ→Option (τ ⊕ ω)}{K:ω→Option α}{P:Option α→Prop}(E:ω→Prop)(I:Nat→τ→Prop)(hE:∀ w,E w→P (K w))(hs:∀ n s,I n s→NxE E I n (f s))(n:Nat)(x0:τ)(h:I n x0):P ((aX f x0).bind K):=by
 refine NS I (fun n s h=>?_) n x0 h
 have:=hs n s h
 unfold NxE at this
 unfold Nx
 match hf:f s with
 |none=>rw[hf]at this; exact this
 |some (.inl y)=>rw[hf]at this; exact this
 |some (.inr w)=>rw[hf]at this; exact hE w this
end
def sA(d:A8 Int)(i:Nat)(x:Int):A8 Int:=match i with
 |0=>A8.mk x d.e1 d.e2 d.e3 d.e4 d.e5 d.e6 d.e7
 |1=>A8.mk d.e0 x d.e2 d.e3 d.e4 d.e5 d.e6 d.e7
 |2=>A8.mk d.e0 d.e1 x d.e3 d.e4 d.e5 d.e6 d.e7
 |3=>A8.mk d.e0 d.e1 d.e2 x d.e4 d.e5 d.e6 d.e7
 |4=>A8.mk d.e0 d.e1 d.e2 d.e3 x d.e5 d.e6 d.e7
 |5=>A8.mk d.e0 d.e1 d.e2 d.e3 d.e4 x d.e6 d.e7
 |6=>A8.mk d.e0 d.e1 d.e2 d.e3 d.e4 d.e5 x d.e7
 |_=>A8.mk d.e0 d.e1 d.e2 d.e3 d.e4 d.e5 d.e6 x
theorem SL{i:Nat}(h:i<8):i=0∨i=1∨i=2∨i=3∨i=4∨i=5∨i=6∨i=7:=by omega
theorem xx(d:A8 Int){i j:Nat}(x:Int)(hi:i<8)(hj:j<8):v8 (sA d i x) j=if j=i then x else v8 d j:=by
 rcases SL hi with rfl|rfl|rfl|rfl|rfl|rfl|rfl|rfl<;>rcases SL hj with rfl|rfl|rfl|rfl|rfl|rfl|rfl|rfl<;>rfl
def W2(a b:Int):Int:=IntKind.i64.wrap (IntKind.i64.wrap (32768*a)+b)
def Qk(t g:Int)(d:A8 Int)(e6 now:Int):A8 Int:=A8.mk t g (W2 d.e0 d.e1) (W2 d.e2 d.e3) (W2 d.e4 d.e5) (W2 d.e6 d.e7) e6 now
theorem J6{a b:Int}(ha:0≤a∧a≤19999)(hb:0≤b∧b≤19999):0≤W2 a b∧IntKind.i64.wrap ((W2 a b).tdiv 32768)=a∧(W2 a b).tmod 32768=b:=by
 have hw:W2 a b=32768*a+b:=by
  unfold W2
  rw[aZ (n:=32768*a) (by omega) (by omega),aZ (by omega) (by omega)]
 rw[hw,Int.tdiv_eq_ediv_of_nonneg (by omega),Int.tmod_eq_emod_of_nonneg (by omega)]
 refine⟨by omega,?_,by omega⟩
 rw[aZ (by omega) (by omega)]; omega
theorem Rk{t g e6 now:Int}{d:A8 Int}(h:∀ i,i<8→0≤v8 d i∧v8 d i≤19999):p9 (Qk t g d e6 now)=d∧(0≤(Qk t g d e6 now).e2∧0≤(Qk t g d e6 now).e3∧0≤(Qk t g d e6 now).e4∧0≤(Qk t g d e6 now).e5):=by
 obtain⟨a1,a2,a3⟩:=J6 (h 0 (by omega)) (h 1 (by omega))
 obtain⟨b1,b2,b3⟩:=J6 (h 2 (by omega)) (h 3 (by omega))
 obtain⟨c1,c2,c3⟩:=J6 (h 4 (by omega)) (h 5 (by omega))
 obtain⟨d1,d2,d3⟩:=J6 (h 6 (by omega)) (h 7 (by omega))
 refine⟨?_,a1,b1,c1,d1⟩
 obtain⟨x0,x1,x2,x3,x4,x5,x6,x7⟩:=d
 exact congr (congr (congr (congr (congr (congr (congr (congrArg A8.mk a2) a3) b2) b3) c2) c3) d2) d3
theorem SM{q:Queue}(h:VF q){now:Int}(hn:0≤now∧now≤10000000){t:Nat}{x:ai}{xs:List ai}(hx:q.ag[t]?=some (x::xs)){t' g:Int}{d:A8 Int}(h0:0≤t'∧t'≤7)(hg:0≤g∧g≤1)
  (Ux:g=1→∃ l,(q.ag.set t xs)[t'.toNat]?=some l∧l≠[]) (hd:∀ i,i<8→∃ l,(q.ag.set t xs)[i]?=some l∧DD now t' g i l (v8 d i)):VF (fQ q (q.ag.set t xs) (Qk t' g d q.ae.e6 now)):=by
 have hr:∀ i,i<8→0≤v8 d i∧v8 d i≤19999:=fun i hi=>by obtain⟨l,_,h1,_⟩:=hd i hi; exact h1
 obtain⟨hk,hp⟩:=Rk (t:=t') (g:=g) (e6:=q.ae.e6) (now:=now) hr
 refine⟨h.kind,h.pa,h.pb,h.pc,h.r0,h.r1,by simp[fQ,h.n8],h.sd,h.z,h0,hg,Ux,hn.1,hn.2,hp,?_,?_⟩
 ·show ∀ i,i<8→∃ l,(q.ag.set t xs)[i]?=some l∧DD now t' g i l (v8 (p9 (Qk t' g d q.ae.e6 now)) i)
  rw[hk]; exact hd
 ·show tot (q.ag.set t xs)≤q.Room
  have:=h.len
  rw[J5 hx]
  simp only[List.length_cons]; omega
structure Inv(ls:List (List ai))(now tR:Int)(t:Nat)(d:A8 Int):Prop where
 t8:t<8
 g:tR=0∨tR=1
 go:tR=1→∃ l,ls[t]?=some l∧l≠[]
 d:∀ i,i<8→∃ l,ls[i]?=some l∧DD now t tR i l (v8 d i)
def mu(j:Nat)(s tR:Int)(t:Nat)(d:A8 Int):Nat:=16*(s-v8 d j).toNat+8*tR.toNat+(j+8-t)%8
structure Out(ls:List (List ai))(now:Int)(t:Nat)(x:ai)(xs:List ai)(d:A8 Int):Prop where
 t8:t<8
 hx:ls[t]?=some (x::xs)
 r:0≤v8 d t-x.P.aA∧v8 d t-x.P.aA≤19999
 w:1≤x.P.aA∧x.P.aA≤10000
 o:bU (cF t) now 0 (x::xs)=true
 d:∀ i,i<8→i≠t→∃ l,ls[i]?=some l∧DD now t 1 i l (v8 d i)
theorem sq{c:ai→Bool}{now a:Int}{x:ai}{xs:List ai}(hc:∀ y,c y=true→mi y.P=true)(h:bU c now a (x::xs)=true):1≤x.P.aA∧x.P.aA≤10000:=by
 simp only[bU,sj,Bool.and_eq_true]at h
 have:=hc _ h.1.1
 simp only[mi,Bool.and_eq_true,decide_eq_true_eq]at this
 exact this.2.2.2.2.1
theorem F3{f:Int}(y:ai)(h:cF f y=true):mi y.P=true:=by
 simp only[cF,Bool.and_eq_true]at h; exact h.1
theorem qa{now e0 e1 XI e1':Int}{i:Nat}{l:List ai}{d:Int}(h:DD now e0 e1 i l d)(hx:¬(e1=1∧e0=(i:Int))):DD now XI e1' i l d:=
 ⟨h.1,h.2.1,h.2.2.1,fun h0 _=>h.2.2.2 h0 hx⟩
theorem Uy{t:Nat}(h:t<8):(t+1)%8<8:=Nat.mod_lt _ (by omega)
variable {ls:List (List ai)}{now tR:Int}{t j:Nat}{d:A8 Int}{s:Int}
theorem NZ(h:Inv ls now tR t d)(hl:ls[t]?=some []):Inv ls now 0 ((t+1)%8) d:=by
 have hg:tR=0:=by
  rcases h.g with e|e
  ·exact e
  ·obtain⟨l,h1,h2⟩:=h.go e
   rw[hl,Option.some.injEq]at h1
   exact absurd h1.symm h2
 subst hg
 refine⟨Uy h.t8,.inl rfl,fun e=>by simp at e,fun i hi=>?_⟩
 obtain⟨l,h1,h2⟩:=h.d i hi
 exact⟨l,h1,qa h2 (by simp)⟩
theorem Rl(h:Inv ls now tR t d)(hj:j<8)(dP:j≠t):mu j s 0 ((t+1)%8) d<mu j s tR t d:=by
 have:=h.t8
 unfold mu
 omega
theorem N0(h:Inv ls now tR t d){x:ai}{xs:List ai}(hx:ls[t]?=some (x::xs))(hs:v8 d t<x.P.aA):Inv ls now 0 ((t+1)%8) d:=by
 refine⟨Uy h.t8,.inl rfl,fun e=>by simp at e,fun i hi=>?_⟩
 obtain⟨l,h1,h2⟩:=h.d i hi
 by_cases he:i=t
 ·subst he
  obtain rfl:l=x::xs:=Option.some.inj (h1.symm.trans hx)
  refine⟨_,h1,h2.1,h2.2.1,h2.2.2.1,fun _ _ y ys e=>?_⟩
  simp only[List.cons.injEq]at e
  rw[←e.1]; exact hs
 ·exact⟨l,h1,qa h2 (by omega)⟩
theorem Rm(h:Inv ls now tR t d)(hg:tR=1)(hj:j<8):mu j s 0 ((t+1)%8) d<mu j s tR t d:=by
 have:=h.t8
 subst hg
 unfold mu
 omega
theorem Rn(h:Inv ls now 0 t d){x:ai}{xs:List ai}(hx:ls[t]?=some (x::xs)){A:Int}(hA:100≤A∧A≤10000)(hs:v8 d t+A<x.P.aA):Inv ls now 0 ((t+1)%8) (sA d t (v8 d t+A)):=by
 refine⟨Uy h.t8,.inl rfl,fun e=>by simp at e,fun i hi=>?_⟩
 obtain⟨l,h1,h2⟩:=h.d i hi
 rw[xx d _ h.t8 hi]
 by_cases he:i=t
 ·subst he
  obtain rfl:l=x::xs:=Option.some.inj (h1.symm.trans hx)
  rw[if_pos rfl]
  have hw:=sq F3 h2.2.2.1
  have h3:=h2.1
  refine⟨_,h1,⟨by omega,by omega⟩,fun _=>by simp,h2.2.2.1,fun _ _ y ys e=>?_⟩
  simp only[List.cons.injEq]at e
  rw[←e.1]; exact hs
 ·rw[if_neg he]
  exact⟨l,h1,qa h2 (by simp)⟩
theorem Uz(h:Inv ls now 0 t d)(hj:j<8){x:ai}{xs:List ai}(hx:ls[t]?=some (x::xs)){A:Int}(hA:100≤A∧A≤10000)(hs:v8 d t+A<x.P.aA)(Ro:t=j→s=x.P.aA):mu j s 0 ((t+1)%8) (sA d t (v8 d t+A))<mu j s 0 t d:=by
 have:=h.t8
 unfold mu
 rw[xx d _ h.t8 hj]
 by_cases he:j=t
 ·subst he
  rw[if_pos rfl,Ro rfl]
  omega
 ·rw[if_neg he]; omega
theorem Rp(h:Inv ls now 1 t d){x:ai}{xs:List ai}(hx:ls[t]?=some (x::xs))(hs:x.P.aA≤v8 d t):Out ls now t x xs d:=by
 obtain⟨l,h1,h2⟩:=h.d t h.t8
 obtain rfl:l=x::xs:=Option.some.inj (h1.symm.trans hx)
 have hw:=sq F3 h2.2.2.1
 have:=h2.1
 exact⟨h.t8,hx,by omega,hw,h2.2.2.1,fun i hi _=>h.d i hi⟩
theorem Rq(h:Inv ls now 0 t d){x:ai}{xs:List ai}(hx:ls[t]?=some (x::xs)){A:Int}(hA:100≤A∧A≤10000)(hs:x.P.aA≤v8 d t+A):Out ls now t x xs (sA d t (v8 d t+A)):=by
 obtain⟨l,h1,h2⟩:=h.d t h.t8
 obtain rfl:l=x::xs:=Option.some.inj (h1.symm.trans hx)
 have hw:=sq F3 h2.2.2.1
 have h3:=h2.1
 have h4:=h2.2.2.2
 refine⟨h.t8,hx,?_,hw,h2.2.2.1,fun i hi dP=>?_⟩
 ·rw[xx d _ h.t8 h.t8,if_pos rfl]
  by_cases h0:0<v8 d t
  ·have:=h4 h0 (by simp) x xs rfl
   omega
  ·omega
 ·rw[xx d _ h.t8 hi,if_neg dP]
  obtain⟨l,h1,h2⟩:=h.d i hi
  exact⟨l,h1,qa h2 (by simp)⟩
end Go.Proofs.YtpodhambaehlkaaGreatDoor
end
section
/- Plain facts of this seat: what is taken from package deficit. -/
set_option maxRecDepth 100000
set_option maxHeartbeats 2000000
namespace Go.Proofs.YtpodhambaehlkaaGreatDoor
open Go.PI Go.Pl
theorem ck4(l:List ai):decide (0+1+(l.length-1)≤(l++[zW]).length)=true:=decide_eq_true (by rw[List.length_append]; simp only[List.length_cons,List.length_nil]; omega)
theorem tk3(l:List ai):List.take (l.length-1) (List.drop (0+1) (l++[zW]))=l.tail:=by
 cases l with
 |nil=>rfl
 |cons x xs=>simp
theorem ck5(l:List ai)(n:Nat):(decide (1≤l.length)&&decide (l.length≤(some (((l.length+1:Nat):Int)).toNat).getD n)&&decide (0<(l++[zW]).length))=decide (1≤l.length):=by
 rw[decide_eq_true (show l.length≤(some (((l.length+1:Nat):Int)).toNat).getD n by simp),decide_eq_true (show 0<(l++[zW]).length by simp),Bool.and_true,Bool.and_true]
theorem XN{α:Type}{P:Option α→Prop}{l:List ai}{tR:Int}{c1 c2:ai→Bool}{a:Option α}{b1 b2 b3 b4:ai→Option α}
  (h0:l=[]→P a) (h1:∀ x xs,l=x::xs→tR=0→P (bif c1 x then b1 x else b2 x)) (h2:∀ x xs,l=x::xs→tR≠0→P (bif c2 x then b3 x else b4 x)) :
  P (bif (l.length:Int)==0 then a else bif tR==0 then bif decide (0<l.length) then ((l++[zW])[0+0]?).bind fun x=>bif c1 x then b1 x else b2 x else none else bif decide (0<l.length) then ((l++[zW])[0+0]?).bind fun x=>bif c2 x then b3 x else b4 x else none):=by
 cases l with
 |nil=>exact h0 rfl
 |cons x xs=>
  refine pF P (by simp only[List.length_cons,beq_eq_false_iff_ne]; omega) (pC P (fun hg=>pT P (by simp) (pB P (v:=x) rfl (h1 x xs rfl (by simpa using hg)))) (fun hg=>pT P (by simp) (pB P (v:=x) rfl (h2 x xs rfl (by simpa using hg)))))
abbrev ST:Type:=Int×Int×Int×Int×Int×Int×Int×Int×Bool×Bool×Int×Int×Int×Int×Int×Int×Int×Int
def sF(tR abo:Int)(o:an)(d:A8 Int):ST:=(tR,abo,o.aG,o.Sub,o.Number,o.Data,o.aA,o.aQ,o.aI,o.ay,d.e0,d.e1,d.e2,d.e3,d.e4,d.e5,d.e6,d.e7)
def IF(ls:List (List ai))(now:Int)(j:Nat)(s:Int)(n:Nat)(x:ST):Prop:=∃ tR t o d,Inv ls now tR t d∧n=mu j s tR t d∧x=sF tR (t:Int) o d
def EF(ls:List (List ai))(now:Int)(x:ST):Prop:=∃ t y ys d,Out ls now t y ys d∧x=sF 1 (t:Int) y.P d
def TF(q:Queue)(ls:List (List ai))(now:Int)(r:Option TR):Prop:=(tot ls=0∧r=some (fQ q ls (XL q.ae now),zP,false,[],0)) ∨
 ∃ i x xs v,ls[i]?=some (x::xs)∧VF (fQ q (ls.set i xs) v)∧v.e7=now∧r=some (fQ q (ls.set i xs) v,x.P,true,[],0)
theorem UA{q:Queue}(h:VF q){ls:List (List ai)}(Rr:q.ag=ls){now:Int}(hn:0≤now∧now≤10000000){t:Nat}{x:ai}{xs:List ai}{d:A8 Int}(ho:Out ls now t x xs d):
  VF (bif (xs.length:Int)==0 then fQ q (ls.set t xs) (Qk (((t+1)%8:Nat):Int) 0 (sA d t 0) q.ae.e6 now) else fQ q (ls.set t xs) (Qk (t:Int) 1 (sA d t (IntKind.i64.wrap (v8 d t-x.P.aA))) q.ae.e6 now)):=by
 subst Rr
 rw[aZ (n:=v8 d t-x.P.aA) (by have:=ho.r; omega) (by have:=ho.r; omega)]
 have ht:=ho.t8
 have hl8:=h.n8
 have hnx:(q.ag.set t xs)[t]?=some xs:=List.getElem?_set_self (by omega)
 have Xf:bU (cF t) now 0 xs=true:=wa (Int.le_refl 0) ho.o
 cases xs with
 |nil=>
  refine SM h hn ho.hx ⟨by omega,by omega⟩ ⟨by omega,by omega⟩ (fun e=>by simp at e) fun i hi=>?_
  rw[xx d _ ht hi]
  by_cases he:i=t
  ·subst he
   exact⟨_,hnx,⟨by simp,by simp⟩,fun h0=>by simp at h0,Xf,fun h0=>by simp at h0⟩
  ·rw[if_neg he]
   obtain⟨l,h1,h2⟩:=ho.d i hi he
   exact⟨l,by rw[List.getElem?_set_ne (fun e=>he e.symm)]; exact h1,qa h2 (by omega)⟩
 |cons y ys=>
  show VF (fQ q (q.ag.set t (y::ys)) (Qk (t:Int) 1 (sA d t (v8 d t-x.P.aA)) q.ae.e6 now))
  refine SM h hn ho.hx ⟨by omega,by omega⟩ ⟨by omega,by omega⟩ (fun _=>⟨_,by rw[Int.toNat_natCast]; exact hnx,by simp⟩) fun i hi=>?_
  rw[xx d _ ht hi]
  by_cases he:i=t
  ·subst he
   rw[if_pos rfl]
   exact⟨_,hnx,ho.r,fun h0=>by simp,Xf,fun h0 hx=>absurd ⟨rfl,rfl⟩ hx⟩
  ·rw[if_neg he]
   obtain⟨l,h1,h2⟩:=ho.d i hi he
   exact⟨l,by rw[List.getElem?_set_ne (fun e=>he e.symm)]; exact h1,qa h2 (by omega)⟩
theorem UB{q:Queue}(h:VF q){now:Int}(hn:p5 now=true)(hle:q.ae.e7≤now):TF q q.ag now (aa.kl q now):=by
 have hlen:=h.len; have hr:=h.r1; have hn8:=h.n8
 have kD:=cy.1 hn
 have hm:∀ l∈q.ag,l.length≤1000:=fun l hl=>by have:=td hl; omega
 have hV:=h.valid
 have Qd:Inv q.ag now q.ae.e1 q.ae.e0.toNat (p9 q.ae):=by
  have h0:=h.v0
  refine⟨by omega,by have:=h.v1; omega,h.tR,fun i hi=>?_⟩
  obtain⟨l,h1,h2,h3,h4,h5⟩:=h.dd i hi
  exact⟨l,h1,h2,h3,iW hle h4,fun a b=>h5 a (by omega)⟩
 have zZ:∀ {t x xs d},Out q.ag now t x xs d→_:=fun ho=>UA h rfl kD ho
 unfold aa.kl
 refine pB _ hV (pF _ rfl ?_)
 refine pB _ (AM now 0 10000000) (pF _ (by rw[show (decide (0≤now)&&decide (now≤10000000))=true from hn]; rfl) ?_)
 refine pF _ (decide_eq_false (by omega)) (pT _ (by rw[h.n8]; rfl) ?_)
 obtain⟨l0,l1,l2,l3,l4,l5,l6,l7,hq⟩:=l8 h.n8
 have Z0:tot q.ag≠0→∃ j x xs,j<8∧q.ag[j]?=some (x::xs):=by
  intro h0
  have:∃ l∈q.ag,l≠[]:=by
   refine Classical.byContradiction fun hc=>h0 ?_
   have:∀ l∈q.ag,l=[]:=fun l hl=>Classical.byContradiction fun e=>hc ⟨l,hl,e⟩
   clear hc
   revert this
   generalize q.ag=ls
   intro this
   induction ls with
   |nil=>rfl
   |cons a ls ih=>simp only[tot,List.map_cons,List.sum_cons]at ih ⊢; rw[ih (fun l hl=>this l (by simp[hl])),this a (by simp)]; rfl
  obtain⟨l,hl,dP⟩:=this
  obtain⟨j,hj,rfl⟩:=List.getElem_of_mem hl
  cases hc:q.ag[j] with
  |nil=>exact absurd hc dP
  |cons x xs=>exact⟨j,x,xs,by omega,by rw[List.getElem?_eq_getElem hj,hc]⟩
 have eu:∀ {j x xs},j<8→q.ag[j]?=some (x::xs)→x.P.aA≤10000:=by
  intro j x xs hj hx
  obtain⟨l,h1,h2⟩:=h.dd j hj
  obtain rfl:l=x::xs:=Option.some.inj (h1.symm.trans hx)
  exact(sq F3 h2.2.2.1).2
 rw[hq]at hm Qd zZ Z0 eu ⊢
 simp only[List.mem_cons,List.not_mem_nil,or_false,forall_eq_or_imp,forall_eq]at hm
 obtain⟨m0,m1,m2,m3,m4,m5,m6,m7⟩:=hm
 have hs:∀ (v:A8 Int),aa.dF (Queue.mk q.af q.Room [l0,l1,l2,l3,l4,l5,l6,l7] v q.aY)=some (tot [l0,l1,l2,l3,l4,l5,l6,l7]):=fun v=>En _ (by simp) (by rw[hq]at hlen; show tot [l0,l1,l2,l3,l4,l5,l6,l7]≤_; omega)
 refine pB _ (v:=l0) rfl (pB _ (v:=l1) rfl (pB _ (v:=l2) rfl (pB _ (v:=l3) rfl (pB _ (v:=l4) rfl (pB _ (v:=l5) rfl (pB _ (v:=l6) rfl (pB _ (v:=l7) rfl ?_)))))))
 refine pB _ rfl (pB _ rfl (pB _ rfl (pB _ rfl (pB _ rfl (pB _ rfl (pB _ rfl (pB _ rfl ?_)))))))
 refine pE _ (Cq m0) (pE _ (Cq m1) (pE _ (Cq m2) (pE _ (Cq m3) (pE _ (Cq m4) (pE _ (Cq m5) (pE _ (Cq m6) (pE _ (Cq m7) ?_)))))))
 simp only[ck1,cond_true,tk1,hs,Option.bind_some,ck4,ck5,tk3]
 refine pC _ (fun h0=>.inl ⟨by simpa using h0,rfl⟩) (fun h0=>?_)
 obtain⟨j,xj,xsj,hj,hxj⟩:=Z0 (by simpa using h0)
 refine pB _ (NT _) ?_
 have hA:=h.pa
 refine Uw (EF [l0,l1,l2,l3,l4,l5,l6,l7] now) (IF [l0,l1,l2,l3,l4,l5,l6,l7] now j xj.P.aA) ?_ ?_ (mu j xj.P.aA q.ae.e1 q.ae.e0.toNat (p9 q.ae)) _ ⟨q.ae.e1,q.ae.e0.toNat,zP,p9 q.ae,Qd,rfl,by rw[Int.toNat_of_nonneg h.v0.1]; rfl⟩
 ·rintro w ⟨t,y,ys,d,ho,rfl⟩
  have hv:=zZ ho
  have hx:=ho.hx
  rcases SL ho.t8 with rfl|rfl|rfl|rfl|rfl|rfl|rfl|rfl
  all_goals
   obtain rfl:=Option.some.inj hx
   repeat (first|refine pT _ rfl ?_|refine pF _ rfl ?_)
   revert hv
   cases hz:((ys.length:Int)==0)<;>intro hv
   ·exact pF _ hz (pB _ rfl (Or.inr ⟨_,y,ys,_,rfl,hv,rfl,rfl⟩))
   ·exact pT _ hz (pB _ rfl (Or.inr ⟨_,y,ys,_,rfl,hv,rfl,rfl⟩))
 ·rintro n s ⟨tR,t,o,d,hi,rfl,rfl⟩
  have hw:∀ k,k<8→IntKind.i64.wrap (v8 d k+q.af.A)=v8 d k+q.af.A:=fun k hk=>by
   obtain⟨l,_,h2,_⟩:=hi.d k hk
   exact aZ (by omega) (by omega)
  have w0:IntKind.i64.wrap (d.e0+q.af.A)=d.e0+q.af.A:=hw 0 (by omega)
  have w1:IntKind.i64.wrap (d.e1+q.af.A)=d.e1+q.af.A:=hw 1 (by omega)
  have w2:IntKind.i64.wrap (d.e2+q.af.A)=d.e2+q.af.A:=hw 2 (by omega)
  have w3:IntKind.i64.wrap (d.e3+q.af.A)=d.e3+q.af.A:=hw 3 (by omega)
  have w4:IntKind.i64.wrap (d.e4+q.af.A)=d.e4+q.af.A:=hw 4 (by omega)
  have w5:IntKind.i64.wrap (d.e5+q.af.A)=d.e5+q.af.A:=hw 5 (by omega)
  have w6:IntKind.i64.wrap (d.e6+q.af.A)=d.e6+q.af.A:=hw 6 (by omega)
  have w7:IntKind.i64.wrap (d.e7+q.af.A)=d.e7+q.af.A:=hw 7 (by omega)
  rcases SL hi.t8 with rfl|rfl|rfl|rfl|rfl|rfl|rfl|rfl
  all_goals
   repeat (first|refine pT _ rfl ?_|refine pF _ rfl ?_)
   refine XN (fun e=>?_) (fun x xs e hg=>?_) (fun x xs e hg=>?_)
   ·subst e
    exact⟨_,Rl hi hj (by rintro rfl; simp at hxj),_,_,_,_,NZ hi rfl,rfl,rfl⟩
   ·subst e; subst hg
    simp only[sF,w0,w1,w2,w3,w4,w5,w6,w7]
    refine pC _ (fun hc=>⟨_,x,xs,_,Rq hi rfl hA (of_decide_eq_true hc),rfl⟩) (fun hc=>?_)
    have HB:=of_decide_eq_false hc
    exact⟨_,Uz hi hj rfl hA (Int.not_le.1 HB) (by rintro rfl; simp at hxj; rw[hxj.1]),_,_,_,_,Rn hi rfl hA (Int.not_le.1 HB),rfl,rfl⟩
   ·subst e
    obtain rfl:=hi.g.resolve_left hg
    refine pC _ (fun hc=>⟨_,x,xs,_,Rp hi rfl (of_decide_eq_true hc),rfl⟩) (fun hc=>?_)
    exact⟨_,Rm hi rfl hj,_,_,_,_,N0 hi rfl (Int.not_le.1 (of_decide_eq_false hc)),rfl,rfl⟩
end Go.Proofs.YtpodhambaehlkaaGreatDoor
end
section
/- Plain facts of this seat: what package dual calls valid. -/
set_option maxRecDepth 100000
namespace Go.Proofs.YtpodhambaehlkaaGreatDoor
open Go.PI Go.Pl
end Go.Proofs.YtpodhambaehlkaaGreatDoor
end
section
/- Plain facts of this seat: calls of package queue, whatever the policy. -/
set_option maxRecDepth 100000
namespace Go.Proofs.YtpodhambaehlkaaGreatDoor
open Go.PI Go.Pl
def QV(q:Queue):Prop:=(∃ l,VT q l)∨(∃ l,VE q l)∨(∃ l,VS q l)∨(∃ l,VI q l)∨VF q∨∃ a b,VD q a b
theorem oz(l:List ai):tot [l]=l.length:=by simp[tot]
theorem zy(a b:List ai):tot [a,b]=a.length+b.length:=by simp[tot]
structure QB(q:Queue):Prop where
 r0:1≤q.Room
 r1:q.Room≤500
 t0:0≤q.ae.e7
 t1:q.ae.e7≤10000000
 n:q.ag.length≤8
 len:tot q.ag≤q.Room
 okp:∀ l∈q.ag,∀ x∈l,mi x.P=true
 sep:∀ (i j:Nat) (l m:List ai),q.ag[i]?=some l→q.ag[j]?=some m→i≠j→∀ x∈l,∀ y∈m,¬(x.P.aG=y.P.aG∧x.P.aI=y.P.aI)
theorem zA{ls:List (List ai)}{a:List ai}(h:ls=[a]):∀ (i j:Nat) (l m:List ai),ls[i]?=some l→ls[j]?=some m→i≠j→∀ x∈l,∀ y∈m,¬(x.P.aG=y.P.aG∧x.P.aI=y.P.aI):=by
 intro i j l m hi hj dP
 subst h
 have h1:i<[a].length:=(List.getElem?_eq_some_iff.1 hi).1
 have h2:j<[a].length:=(List.getElem?_eq_some_iff.1 hj).1
 simp only[List.length_cons,List.length_nil]at h1 h2
 omega
theorem zC{ls:List (List ai)}{a:List ai}{hi:Int}(h:ls=[a])(ho:bU cP hi 0 a=true):∀ l∈ls,∀ x∈l,mi x.P=true:=by
 subst h
 intro l hl x hx
 simp only[List.mem_singleton]at hl
 subst hl
 exact(iA ho x hx).1
theorem QV.base{q:Queue}(h:QV q):QB q:=by
 rcases h with ⟨l,h⟩|⟨l,h⟩|⟨l,h⟩|⟨l,h⟩|h|⟨a,b,h⟩
 ·exact⟨h.r0,h.r1,h.t0,h.t1,by rw[h.ls]; simp,by rw[h.ls,oz]; exact h.len,zC h.ls h.ord,zA h.ls⟩
 ·exact⟨h.r0,h.r1,h.t0,h.t1,by rw[h.ls]; simp,by rw[h.ls,oz]; exact h.len,zC h.ls h.ord,zA h.ls⟩
 ·exact⟨h.r0,h.r1,h.t0,h.t1,by rw[h.ls]; simp,by rw[h.ls,oz]; exact h.len,zC h.ls h.ord,zA h.ls⟩
 ·exact⟨h.r0,h.r1,h.t0,h.t1,by rw[h.ls]; simp,by rw[h.ls,oz]; exact h.len,zC h.ls h.ord,zA h.ls⟩
 ·refine⟨h.r0,h.r1,h.t0,h.t1,by rw[h.n8]; exact Nat.le_refl _,h.len,?_,?_⟩
  ·intro l hl x hx
   obtain⟨i,hi,rfl⟩:=List.getElem_of_mem hl
   obtain⟨m,h1,h2⟩:=h.dd i (by have:=h.n8; omega)
   rw[List.getElem?_eq_getElem hi,Option.some.injEq]at h1
   subst h1
   exact F3 x (iA h2.2.2.1 x hx).1
  ·rintro i j l m hi hj dP x hx y hy ⟨hf,_⟩
   have h1:i<q.ag.length:=(List.getElem?_eq_some_iff.1 hi).1
   have h2:j<q.ag.length:=(List.getElem?_eq_some_iff.1 hj).1
   have h8:=h.n8
   obtain⟨l',a1,a2⟩:=h.dd i (by omega)
   obtain⟨m',b1,b2⟩:=h.dd j (by omega)
   obtain rfl:=Option.some.inj (a1.symm.trans hi)
   obtain rfl:=Option.some.inj (b1.symm.trans hj)
   have c1:=(iA a2.2.2.1 x hx).1
   have c2:=(iA b2.2.2.1 y hy).1
   simp only[cF,Bool.and_eq_true,beq_iff_eq]at c1 c2
   omega
 ·refine⟨h.r0,h.r1,h.t0,h.t1,by rw[h.ls]; simp,by rw[h.ls,zy]; exact h.len,?_,?_⟩
  ·rw[h.ls]
   intro l hl x hx
   simp only[List.mem_cons,List.not_mem_nil,or_false]at hl
   rcases hl with rfl|rfl
   ·have:=(iA h.oa x hx).1; simp only[cA,Bool.and_eq_true]at this; exact this.1
   ·have:=(iA h.ob x hx).1; simp only[cA,Bool.and_eq_true]at this; exact this.1
  ·rw[h.ls]
   rintro i j l m hi hj dP x hx y hy ⟨_,hA⟩
   have h1:i<[a,b].length:=(List.getElem?_eq_some_iff.1 hi).1
   have h2:j<[a,b].length:=(List.getElem?_eq_some_iff.1 hj).1
   simp only[List.length_cons,List.length_nil]at h1 h2
   have fa:∀ z∈a,z.P.aI=true:=fun z hz=>by have:=(iA h.oa z hz).1; simp only[cA,Bool.and_eq_true,beq_iff_eq]at this; exact this.2
   have fb:∀ z∈b,z.P.aI=false:=fun z hz=>by have:=(iA h.ob z hz).1; simp only[cA,Bool.and_eq_true,beq_iff_eq]at this; exact this.2
   rcases (by omega:i=0∧j=1∨i=1∧j=0) with ⟨rfl,rfl⟩|⟨rfl,rfl⟩
   ·obtain rfl:=Option.some.inj hi; obtain rfl:=Option.some.inj hj
    rw[fa x hx,fb y hy]at hA; exact absurd hA (by decide)
   ·obtain rfl:=Option.some.inj hi; obtain rfl:=Option.some.inj hj
    rw[fb x hx,fa y hy]at hA; exact absurd hA (by decide)
theorem b3(x:Option PR):(x.bind fun r=>some (r.1,r.2.1,r.2.2))=x:=by cases x<;>rfl
theorem b5(x:Option TR):(x.bind fun r=>some (r.1,r.2.1,r.2.2.1,r.2.2.2.1,r.2.2.2.2))=x:=by cases x<;>rfl
def abr(q:Queue)(p:an)(now:Int)(r:Option PR):Prop:=∃ q',QV q'∧q'.af=q.af∧q'.Room=q.Room∧q'.ae.e7=now ∧
 ((q'.ag=q.ag∧r=some (q',[p],0))∨(tot q.ag<q.Room∧∃ i l m,q.ag[i]?=some l∧mk? p m∧q'.ag=q.ag.set i (l++[⟨pm p m,now⟩])∧r=some (q',[],0)))
theorem wg{l:List ai}{x:ai}{R:Int}(h:(l.length:Int)<R):((l++[x]).length:Int)≤R:=by
 simp only[List.length_append,List.length_cons,List.length_nil]; omega
theorem te{c:ai→Bool}{hi now:Int}{l:List ai}{p:an}(hc:c ⟨p,now⟩=true)(hle:hi≤now)(hn:0≤now)(h:bU c hi 0 l=true):bU c now 0 (l++[⟨p,now⟩])=true:=
 AN (x:=⟨p,now⟩) hc hle hn hn h
theorem XO{q:Queue}(h:QV q){p:an}(hp:mi p=true){now:Int}(hn:p5 now=true)(hle:q.ae.e7≤now):abr q p now (aa.dm q p now):=by
 have kD:=cy.1 hn
 have ok:∀ m,cP ⟨pm p m,now⟩=true:=fun m=>hp
 rcases h with ⟨l,h⟩|⟨l,h⟩|⟨l,h⟩|⟨l,h⟩|h|⟨a,b,h⟩
 ·rw[show aa.dm q p now=aa.nF q p now by unfold aa.dm; rw[h.kind]; exact b3 _]
  rcases XB h hp hn hle with e|⟨hR,e⟩<;>rw[e]
  ·exact⟨_,.inl ⟨_,NN h kD (iW hle h.ord) h.len⟩,rfl,rfl,rfl,.inl ⟨h.ls.symm,rfl⟩⟩
  ·exact⟨_,.inl ⟨_,NN h kD (te hp hle kD.1 h.ord) (wg hR)⟩,rfl,rfl,rfl,.inr ⟨by rw[h.ls,oz]; exact hR,0,l,p.ay,by rw[h.ls]; rfl,.inl rfl,by rw[h.ls]; rfl,rfl⟩⟩
 ·rw[show aa.dm q p now=aa.p6 q p now by unfold aa.dm; rw[h.kind]; exact b3 _]
  obtain⟨e0,s,v0,v1,e|⟨hR,m,hm,e⟩⟩:=XA h hp hn hle<;>rw[e]
  ·exact⟨_,.inr (.inl ⟨_,NL h ⟨v0,v1⟩ kD (iW hle h.ord) h.len⟩),rfl,rfl,rfl,.inl ⟨h.ls.symm,rfl⟩⟩
  ·exact⟨_,.inr (.inl ⟨_,NL h ⟨v0,v1⟩ kD (te (ok m) hle kD.1 h.ord) (wg hR)⟩),rfl,rfl,rfl,.inr ⟨by rw[h.ls,oz]; exact hR,0,l,m,by rw[h.ls]; rfl,hm,by rw[h.ls]; rfl,rfl⟩⟩
 ·rw[show aa.dm q p now=aa.gW q p now by unfold aa.dm; rw[h.kind]; exact b3 _]
  have hv:Sv q q.ae.e0 q.ae.e1 now:=⟨h.v0.1,by have:=h.v0; omega,h.v1.1,h.v1.2,h.v01⟩
  rcases XF h hp hn hle with e|⟨hR,e⟩<;>rw[e]
  ·exact⟨_,.inr (.inr (.inl ⟨_,J2 h hv kD (iW hle h.ord) h.len⟩)),rfl,rfl,rfl,.inl ⟨h.ls.symm,rfl⟩⟩
  ·exact⟨_,.inr (.inr (.inl ⟨_,J2 h hv kD (te hp hle kD.1 h.ord) (wg hR)⟩)),rfl,rfl,rfl,.inr ⟨by rw[h.ls,oz]; exact hR,0,l,p.ay,by rw[h.ls]; rfl,.inl rfl,by rw[h.ls]; rfl,rfl⟩⟩
 ·rw[show aa.dm q p now=aa.ki q p now by unfold aa.dm; rw[h.kind]; exact b3 _]
  obtain⟨e0,e1,e2,s,hv,e|⟨hR,m,hm,e⟩⟩:=XD h hp hn hle<;>rw[e]
  ·exact⟨_,.inr (.inr (.inr (.inl ⟨_,NQ h hv kD (iW hle h.ord) h.len⟩))),rfl,rfl,rfl,.inl ⟨h.ls.symm,rfl⟩⟩
  ·exact⟨_,.inr (.inr (.inr (.inl ⟨_,NQ h hv kD (te (ok m) hle kD.1 h.ord) (wg hR)⟩))),rfl,rfl,rfl,.inr ⟨by rw[h.ls,oz]; exact hR,0,l,m,by rw[h.ls]; rfl,hm,by rw[h.ls]; rfl,rfl⟩⟩
 ·rw[show aa.dm q p now=aa.lW q p now by unfold aa.dm; rw[h.kind]; exact b3 _]
  rcases XM h hp hn hle with e|⟨hR,l,hl,e⟩<;>rw[e]
  ·exact⟨_,.inr (.inr (.inr (.inr (.inl (NX h kD hle))))),rfl,rfl,rfl,.inl ⟨rfl,rfl⟩⟩
  ·exact⟨_,.inr (.inr (.inr (.inr (.inl (Uv h kD hle hp hl hR))))),rfl,rfl,rfl,.inr ⟨hR,_,l,p.ay,hl,.inl rfl,rfl,rfl⟩⟩
 ·rw[show aa.dm q p now=aa.sk q p now by unfold aa.dm; rw[h.kind]; exact b3 _]
  rcases XG h hp hn hle with e|⟨hR,⟨hA,e⟩|⟨hA,e⟩⟩<;>rw[e]
  ·exact⟨_,.inr (.inr (.inr (.inr (.inr ⟨_,_,C2 h h.v0 kD (iW hle h.oa) (iW hle h.ob) h.len⟩)))),rfl,rfl,rfl,.inl ⟨h.ls.symm,rfl⟩⟩
  ·have hc:cA true ⟨p,now⟩=true:=by simp only[cA,hp,hA]; rfl
   exact⟨_,.inr (.inr (.inr (.inr (.inr ⟨_,_,C2 h h.v0 kD (te hc hle kD.1 h.oa) (iW hle h.ob) (by simp only[List.length_append,List.length_cons,List.length_nil]; omega)⟩)))),rfl,rfl,rfl,
    .inr ⟨by rw[h.ls,zy]; exact hR,0,a,p.ay,by rw[h.ls]; rfl,.inl rfl,by rw[h.ls]; rfl,rfl⟩⟩
  ·have hc:cA false ⟨p,now⟩=true:=by simp only[cA,hp,hA]; rfl
   exact⟨_,.inr (.inr (.inr (.inr (.inr ⟨_,_,C2 h h.v0 kD (iW hle h.oa) (te hc hle kD.1 h.ob) (by simp only[List.length_append,List.length_cons,List.length_nil]; omega)⟩)))),rfl,rfl,rfl,
    .inr ⟨by rw[h.ls,zy]; exact hR,1,b,p.ay,by rw[h.ls]; rfl,.inl rfl,by rw[h.ls]; rfl,rfl⟩⟩
def SN(q:Queue)(now:Int)(r:Option TR):Prop:=∃ q',QV q'∧q'.af=q.af∧q'.Room=q.Room∧q'.ae.e7=now∧∃ j l k,q.ag[j]?=some l∧k≤l.length ∧
 ((∃ i x xs m,(q.ag.set j (l.drop k))[i]?=some (x::xs)∧mk? x.P m∧q'.ag=(q.ag.set j (l.drop k)).set i xs∧r=some (q',pm x.P m,true,(l.take k).map (·.P),0)) ∨
  (tot (q.ag.set j (l.drop k))=0∧q'.ag=q.ag.set j (l.drop k)∧r=some (q',zP,false,(l.take k).map (·.P),0)))
theorem take_one{q q':Queue}{now:Int}{l:List ai}(Rr:q.ag=[l])(hv:QV q')(hp:q'.af=q.af)(hr:q'.Room=q.Room)(h7:q'.ae.e7=now)(h':q'.ag=[l.tail]):
  SN q now (some (match l with|[]=>(q',zP,false,[],0)|x::_=>(q',x.P,true,[],0))):=by
 refine⟨q',hv,hp,hr,h7,0,l,0,by rw[Rr]; rfl,Nat.zero_le _,?_⟩
 cases l with
 |nil=>exact .inr ⟨by rw[Rr]; rfl,by rw[h',Rr]; rfl,rfl⟩
 |cons x xs=>exact .inl ⟨0,x,xs,x.P.ay,by rw[Rr]; rfl,.inl rfl,by rw[h',Rr]; rfl,rfl⟩
theorem AX(l:List ai):l.tail.length≤l.length:=by rw[List.length_tail]; omega
theorem AY{hi now:Int}{l:List ai}(hle:hi≤now)(h:bU cP hi 0 l=true):bU cP now 0 l.tail=true:=by
 cases l with
 |nil=>rfl
 |cons x xs=>exact iW hle (wa (Int.le_refl 0) h)
theorem AZ{c:ai→Bool}{hi now:Int}{l:List ai}(k:Nat)(hle:hi≤now)(h:bU c hi 0 l=true):bU c now 0 (l.drop k)=true:=
 iW hle (JZ (a:=l.take k) (by rw[List.take_append_drop]; exact h))
theorem UC{q:Queue}(h:QV q){now:Int}(hn:p5 now=true)(hle:q.ae.e7≤now):SN q now (aa.bS q now):=by
 have kD:=cy.1 hn
 rcases h with ⟨l,h⟩|⟨l,h⟩|⟨l,h⟩|⟨l,h⟩|h|⟨a,b,h⟩
 ·rw[show aa.bS q now=aa.p7 q now by unfold aa.bS; rw[h.kind]; exact b5 _,Lh h hn hle]
  have:=h.len; have:=AX l
  have:=take_one (q:=q) (q':=tQ q l.tail now) h.ls (.inl ⟨_,NN h kD (AY hle h.ord) (by omega)⟩) rfl rfl rfl rfl
  cases l<;>exact this
 ·rw[show aa.bS q now=aa.nE q now by unfold aa.bS; rw[h.kind]; exact b5 _,Ui h hn hle]
  have:=h.len; have:=AX l
  have:=take_one (q:=q) (q':=eQ q l.tail q.ae.e0 now q.aY) h.ls (.inr (.inl ⟨_,NL h ⟨h.v0,h.v1⟩ kD (AY hle h.ord) (by omega)⟩)) rfl rfl rfl rfl
  cases l<;>exact this
 ·rw[show aa.bS q now=aa.kj q now by unfold aa.bS; rw[h.kind]; exact b5 _]
  have hlen:=h.len
  obtain⟨k,e0,e1,hv,_,⟨x,m,hx,hm,e⟩|⟨hk,e⟩⟩:=Um h hn hle<;>rw[e]
  ·have cr:k<l.length:=(List.getElem?_eq_some_iff.1 hx).1
   refine⟨_,.inr (.inr (.inl ⟨_,J2 h hv kD (AZ (k+1) hle h.ord) (by rw[List.length_drop]; omega)⟩)),rfl,rfl,rfl,0,l,k,by rw[h.ls]; rfl,by omega,.inl ⟨0,x,l.drop (k+1),m,?_,hm,by rw[h.ls]; rfl,rfl⟩⟩
   rw[h.ls,List.getElem?_eq_some_iff]at *
   obtain⟨h1,rfl⟩:=hx
   exact⟨by simp,by simp⟩
  ·subst hk
   exact⟨_,.inr (.inr (.inl ⟨_,J2 (l':=[]) h hv kD rfl (by simp only[List.length_nil]; have:=h.r0; omega)⟩)),rfl,rfl,rfl,0,l,l.length,by rw[h.ls]; rfl,Nat.le_refl _,.inr ⟨by rw[h.ls,List.drop_length]; rfl,by rw[h.ls,List.drop_length]; rfl,by rw[List.take_length]⟩⟩
 ·rw[show aa.bS q now=aa.jf q now by unfold aa.bS; rw[h.kind]; exact b5 _]
  obtain⟨e0,e1,e2,s,hv,e⟩:=Uk h hn hle
  rw[e]
  have:=h.len; have:=AX l
  have:=take_one (q:=q) (q':=iQ q l.tail e0 e1 e2 now s) h.ls (.inr (.inr (.inr (.inl ⟨_,NQ h hv kD (AY hle h.ord) (by omega)⟩)))) rfl rfl rfl rfl
  cases l<;>exact this
 ·rw[show aa.bS q now=aa.kl q now by unfold aa.bS; rw[h.kind]; exact b5 _]
  have h0l:0<q.ag.length:=by rw[h.n8]; omega
  have hl:q.ag[0]?=some q.ag[0]:=List.getElem?_eq_getElem h0l
  have hs:q.ag.set 0 (q.ag[0].drop 0)=q.ag:=by rw[List.drop_zero,List.set_getElem_self]
  rcases UB h hn hle with ⟨h0,e⟩|⟨i,x,xs,v,hx,hv,h7,e⟩<;>rw[e]
  ·exact⟨_,.inr (.inr (.inr (.inr (.inl (NX h kD hle))))),rfl,rfl,rfl,0,_,0,hl,Nat.zero_le _,.inr ⟨by rw[hs]; exact h0,by rw[hs]; rfl,rfl⟩⟩
  ·exact⟨_,.inr (.inr (.inr (.inr (.inl hv)))),rfl,rfl,h7,0,_,0,hl,Nat.zero_le _,.inl ⟨i,x,xs,x.P.ay,by rw[hs]; exact hx,.inl rfl,by rw[hs]; rfl,rfl⟩⟩
 ·rw[show aa.bS q now=aa.p8 q now by unfold aa.bS; rw[h.kind]; exact b5 _]
  have hlen:=h.len; have Fh:=h.r0
  obtain⟨k,e0,s,v0,v1,⟨x,hx,e⟩|⟨x,xs,m,ha,hk,hm,e⟩|⟨ha,hk,e⟩⟩:=Uo h hn hle<;>rw[e]
  ·have cr:k<b.length:=(List.getElem?_eq_some_iff.1 hx).1
   refine⟨_,.inr (.inr (.inr (.inr (.inr ⟨_,_,C2 h ⟨v0,v1⟩ kD (iW hle h.oa) (AZ (k+1) hle h.ob) (by rw[List.length_drop]; omega)⟩)))),rfl,rfl,rfl,1,b,k,by rw[h.ls]; rfl,by omega,.inl ⟨1,x,b.drop (k+1),x.P.ay,?_,.inl rfl,by rw[h.ls]; rfl,rfl⟩⟩
   rw[h.ls,List.getElem?_eq_some_iff]at *
   obtain⟨h1,rfl⟩:=hx
   exact⟨by simp,by simp⟩
  ·subst ha
   exact⟨_,.inr (.inr (.inr (.inr (.inr ⟨_,_,C2 h ⟨v0,v1⟩ kD (iW hle (wa (Int.le_refl 0) h.oa)) (AZ k hle h.ob) (by simp only[List.length_cons]at hlen; rw[List.length_drop]; omega)⟩)))),rfl,rfl,rfl,1,b,k,by rw[h.ls]; rfl,hk,
    .inl ⟨0,x,xs,m,by rw[h.ls]; rfl,hm,by rw[h.ls]; rfl,rfl⟩⟩
  ·subst ha; subst hk
   exact⟨_,.inr (.inr (.inr (.inr (.inr ⟨_,_,C2 (a':=[]) (b':=[]) h ⟨v0,v1⟩ kD rfl rfl (by simp only[List.length_nil]; omega)⟩)))),rfl,rfl,rfl,1,b,b.length,by rw[h.ls]; rfl,Nat.le_refl _,
    .inr ⟨by rw[h.ls,List.drop_length]; rfl,by rw[h.ls,List.drop_length]; rfl,by rw[List.take_length]⟩⟩
end Go.Proofs.YtpodhambaehlkaaGreatDoor
end
section
/- Plain facts of this seat: calls that are refused. -/
set_option maxRecDepth 100000
namespace Go.Proofs.YtpodhambaehlkaaGreatDoor
open Go.PI Go.Pl
theorem UD(q:Queue)(hn:q.ag.length≤2^62)(ht:tot q.ag≤2^62):aa.lB q=some (tot q.ag):=by
 unfold aa.lB
 refine bB (v:=((q.ag.length:Int),tot q.ag)) ?_ rfl
 have key:∀ n i,q.ag.length-i=n→i≤q.ag.length→aX (ω:=Int×Int) (fun ((i1,i2):Int×Int)=>
   bif decide (i1<(↑q.ag.length:Int)) then bif decide (0≤i1) then (q.ag[i1.toNat]?).bind fun l3=>some (Sum.inl (IntKind.i64.wrap (i1+1),IntKind.i64.wrap (i2+(↑l3.length:Int)))) else none else some (Sum.inr (i1,i2)))
   ((i:Int),tot (q.ag.take i))=some ((q.ag.length:Int),tot q.ag):=by
  intro n
  induction n with
  |zero=>
   intro i h1 h2
   have:i=q.ag.length:=by omega
   subst this
   refine Go.Pl.out (bF (jx _) ?_)
   rw[List.take_length]
  |succ n ih=>
   intro i h1 h2
   have hi:i<q.ag.length:=by omega
   have hs:tot (q.ag.take (i+1))=tot (q.ag.take i)+(q.ag[i].length:Int):=by rw[List.take_succ_eq_append_getElem hi,AR]
   have a:=AU (q.ag.take i)
   have b:=AW (ls:=q.ag) (i+1)
   refine(Go.Pl.next (y:=(((i+1:Nat):Int),tot (q.ag.take (i+1)))) ?_).trans (ih (i+1) (by omega) hi)
   refine bT (fo hi) (bT (ct i) (bB (v:=q.ag[i]) (by simp[hi]) ?_))
   rw[aZ (by omega) (by omega),aZ (by omega) (by omega),hs]
   simp only[Int.natCast_add,Int.natCast_one]
 have:=key q.ag.length 0 rfl (Nat.zero_le _)
 rwa [List.take_zero]at this
theorem QV.size{q:Queue}(h:QV q):aa.lB q=some (tot q.ag):=by
 have b:=h.base
 have:=b.n; have:=b.len; have:=b.r1
 exact UD q (by omega) (by omega)
theorem XP(n:Int):aa.mR n=some (decide (0≤n)&&decide (n≤1000000000)):=cN
theorem UE(p:an):aa.km p=some (mi p):=by
 unfold aa.km mi
 simp only[XP,o7,p5,Option.bind_some,cN]
 rw[show decide (p.aG<8)=decide (p.aG≤7) by rw[decide_eq_decide]; omega,show decide (p.Sub<4)=decide (p.Sub≤3) by rw[decide_eq_decide]; omega]
 simp only[Bool.and_assoc]
end Go.Proofs.YtpodhambaehlkaaGreatDoor
end
section
/- Plain facts of this seat: what the references call valid (tail, early, sojourn, integral, dual). -/
set_option maxRecDepth 100000
namespace Go.Proofs.YtpodhambaehlkaaGreatDoor
open Go.PI Go.Pl
def Dc(x:Option Bool)(P:Prop):Prop:=∃ b,x=some b∧(b=true↔P)
section
variable {c:Bool}{X:Option Bool}{P Q:Prop}
theorem dN(h:c=true→Dc X Q):Dc (bif !c then some false else X) (c=true∧Q):=by
 cases c with
 |false=>exact⟨false,rfl,by simp⟩
 |true=>obtain⟨b,h1,h2⟩:=h rfl; exact⟨b,h1,by simp[h2]⟩
theorem dS(h:c=false→Dc X Q):Dc (bif c then some false else X) (c=false∧Q):=by
 cases c with
 |true=>exact⟨false,rfl,by simp⟩
 |false=>obtain⟨b,h1,h2⟩:=h rfl; exact⟨b,h1,by simp[h2]⟩
theorem dA(h:c=true→Dc X Q):Dc (bif c then X else some false) (c=true∧Q):=by
 cases c with
 |false=>exact⟨false,rfl,by simp⟩
 |true=>obtain⟨b,h1,h2⟩:=h rfl; exact⟨b,h1,by simp[h2]⟩
theorem dV:Dc (some c) (c=true):=⟨c,rfl,Iff.rfl⟩
theorem dB{α:Type}{e:Option α}{v:α}{K:α→Option Bool}(he:e=some v)(h:Dc (K v) Q):Dc (e.bind K) Q:=by subst he; exact h
theorem dI(h:Dc X P)(i:P↔Q):Dc X Q:=by obtain⟨b,h1,h2⟩:=h; exact⟨b,h1,h2.trans i⟩
theorem dK{α:Type}{e bad:α}{K:α→Option Bool}(hb:K bad=some false)(h:c=true→Dc (K e) Q):Dc (K (bif c then e else bad)) (c=true∧Q):=by
 cases c with
 |false=>exact⟨false,hb,by simp⟩
 |true=>obtain⟨b,h1,h2⟩:=h rfl; exact⟨b,h1,by simp[h2]⟩
theorem dC{Y:Option Bool}(hx:c=true→Dc X P)(hy:c=false→Dc Y Q):Dc (bif c then X else Y) (if c=true then P else Q):=by
 cases c with
 |true=>obtain⟨b,h1,h2⟩:=hx rfl; exact⟨b,h1,by simp[h2]⟩
 |false=>obtain⟨b,h1,h2⟩:=hy rfl; exact⟨b,h1,by simp[h2]⟩
end
theorem C3(v:A8 Int)(a:Nat)(ha:a≤7):aX (ω:=Bool ⊕ Bool×Int) (fun ((b2,i3):Bool×Int)=>bif decide (i3<7) then gd (decide (0≤i3)) <| gd (decide (i3.toNat<8)) <| bif !(v8 v i3.toNat==0) then some (Sum.inr (Sum.inl false)) else some (Sum.inl (b2,IntKind.i64.wrap (i3+1))) else some (Sum.inr (Sum.inr (b2,i3)))) (false,(a:Int))
  = some (bif (List.range (7-a)).all (fun i=>v8 v (a+i)==0) then Sum.inr (false,7) else Sum.inl false):=by
 refine we (fun i=>(false,((a+i:Nat):Int))) (fun i=>v8 v (a+i)==0) (7-a) (Sum.inr (false,7)) (Sum.inl false) ?_ ?_ rfl
 ·intro i hi
  refine bT (decide_eq_true (by omega)) (bT (ct _) (bT (decide_eq_true (by rw[Int.toNat_natCast]; omega)) ?_))
  rw[Int.toNat_natCast,aZ (n:=((a+i:Nat):Int)+1) (by omega) (by omega),show (((a+i:Nat):Int)+1)=((a+(i+1):Nat):Int) by omega]
  cases (v8 v (a+i)==0)<;>rfl
 ·refine bF (decide_eq_false (by omega)) ?_
  rw[show ((a+(7-a):Nat):Int)=7 by omega]
theorem z0(v:A8 Int):(List.range (7-0)).all (fun i=>v8 v (0+i)==0)=true↔v.e0=0∧v.e1=0∧v.e2=0∧v.e3=0∧v.e4=0∧v.e5=0∧v.e6=0:=by
 simp[List.range_succ,v8,sn,and_assoc]
theorem z1(v:A8 Int):(List.range (7-1)).all (fun i=>v8 v (1+i)==0)=true↔v.e1=0∧v.e2=0∧v.e3=0∧v.e4=0∧v.e5=0∧v.e6=0:=by
 simp[List.range_succ,v8,sn,and_assoc]
theorem z2(v:A8 Int):(List.range (7-2)).all (fun i=>v8 v (2+i)==0)=true↔v.e2=0∧v.e3=0∧v.e4=0∧v.e5=0∧v.e6=0:=by
 simp[List.range_succ,v8,sn,and_assoc]
theorem z3(v:A8 Int):(List.range (7-3)).all (fun i=>v8 v (3+i)==0)=true↔v.e3=0∧v.e4=0∧v.e5=0∧v.e6=0:=by
 simp[List.range_succ,v8,sn,and_assoc]
def pr(l:List ai)(i:Nat):Int:=match i with
 |0=>0
 |k+1=>match l[k]? with|some x=>x.At|none=>0
theorem XQ{τ ω β:Type}{f:τ→Option (τ ⊕ ω)}{K:ω→Option β}(l:List ai)(c:ai→Bool)(hi:Int)(p:Nat→Int)(st:Nat→τ)(Ei bad:Option β)(hp:∀ i (h:i<l.length),p (i+1)=l[i].At)
  (wb:ω) (hb:K wb=bad) (hs:∀ i (h:i<l.length),0≤p i→f (st i)=bif sj c hi (p i) l[i] then some (.inl (st (i+1))) else some (.inr wb))
  (h3:∃ w,f (st l.length)=some (.inr w)∧K w=Ei) :
  ∀ n i,l.length-i=n→i≤l.length→0≤p i→(aX f (st i)).bind K=bif bU c hi (p i) (l.drop i) then Ei else bad:=by
 intro n
 induction n with
 |zero=>
  intro i hn tM _
  have:i=l.length:=by omega
  subst this
  obtain⟨w,hw,hk⟩:=h3
  rw[Go.Pl.out hw,List.drop_length]
  exact hk
 |succ n ih=>
  intro i hn tM h0
  have cr:i<l.length:=by omega
  rw[List.drop_eq_getElem_cons cr]
  cases ho:sj c hi (p i) l[i] with
  |true=>
   have Z9:0≤p (i+1):=by
    have:=ho
    simp only[sj,Bool.and_eq_true,decide_eq_true_eq]at this
    rw[hp i cr]; omega
   rw[Go.Pl.next ((hs i cr h0).trans (by rw[ho]; rfl)),ih (i+1) (by omega) cr Z9,hp i cr]
   simp only[bU,ho,Bool.true_and]
  |false=>
   rw[Go.Pl.out (w:=wb) ((hs i cr h0).trans (by rw[ho]; rfl))]
   simp only[bU,ho,Bool.false_and,cond_false]
   exact hb
theorem nsk{α:Type}{c y:Bool}{X g b:α}(h:c=true→X=bif y then g else b):(bif !c then b else X)=bif (c&&y) then g else b:=by
 cases c
 ·rfl
 ·exact h rfl
theorem ssk{α:Type}{c y:Bool}{X g b:α}(h:c=false→X=bif y then g else b):(bif c then b else X)=bif (!c&&y) then g else b:=by
 cases c
 ·exact h rfl
 ·rfl
def cT(x:ai):Bool:=mi x.P&&p5 x.At
theorem J7(l:List ai)(hi:Int)(hl:l.length≤2^63-1):aa.dz l hi=some (bU cT hi 0 l):=by
 unfold aa.dz
 have hp:∀ i (h:i<l.length),pr l (i+1)=l[i].At:=fun i h=>by simp[pr,h]
 refine Eq.trans (XQ l cT hi (pr l) (fun i=>(false,(i:Int))) (some true) (some false) hp (Sum.inl false) ?hb ?hs ?h3 l.length 0 rfl (Nat.zero_le _) (Int.le_refl 0)) ?_
 case hb=>rfl
 case h3=>exact⟨_,bF (jx _) rfl,rfl⟩
 rotate_left
 ·rw[List.drop_zero,show pr l 0=0 from rfl]; cases bU cT hi 0 l<;>rfl
 intro i h h0
 have w1:IntKind.i64.wrap ((i:Int)+1)=((i+1:Nat):Int):=aZ (by omega) (by omega)
 refine bT (fo h) (bT (ct i) (bB (get_at h) (bB (UE _) ?_)))
 rw[show sj cT hi (pr l i) l[i]=(mi l[i].P&&(p5 l[i].At&&(!decide (hi<l[i].At)&&decide (pr l i≤l[i].At)))) by
  unfold sj cT
  cases mi l[i].P<;>cases p5 l[i].At<;>by_cases a:pr l i≤l[i].At<;>by_cases b:l[i].At≤hi<;>simp[a,b]<;>omega]
 refine nsk fun _=>bT (ct i) (bB (get_at h) (bB (o7 _) ?_))
 refine nsk fun hT=>bT (ct i) (bB (get_at h) (ssk fun _=>?_))
 cases i with
 |zero=>
  refine bF rfl ?_
  rw[w1,decide_eq_true (show pr l 0≤l[0].At from (cy.1 hT).1)]
  rfl
 |succ k=>
  have w2:IntKind.i64.wrap (((k+1:Nat):Int)-1)=(k:Int):=(aZ (by omega) (by omega)).trans (by omega)
  refine bT (decide_eq_true (by omega)) (bT (ct _) (bB (get_at h) ?_))
  rw[w2]
  refine bT (ct k) (bB (v:=l[k]) (get_at (by omega)) ?_)
  rw[w1,show decide (pr l (k+1)≤l[k+1].At)=!decide (l[k+1].At<l[k].At) by rw[hp k (by omega)]; by_cases a:l[k+1].At<l[k].At<;>simp[a]<;>omega]
  exact bfl
theorem J8{hi:Int}(hh:hi≤10000000):∀ (l:List ai) (a:Int),0≤a→bU cT hi a l=bU cP hi a l
 |[],_,_=>rfl
 |x::xs,a,h=>by
  simp only[bU,sj,cT,cP]
  by_cases h1:a≤x.At
  ·by_cases h2:x.At≤hi
   ·have h3:p5 x.At=true:=cy.2 ⟨by omega,by omega⟩
    rw[J8 hh xs x.At (by omega),h3,Bool.and_true]
   ·simp[h2]
  ·simp[h1]
theorem uz(l:List ai)(hi:Int)(hh:hi≤10000000)(hl:l.length≤2^63-1):aa.dz l hi=some (bU cP hi 0 l):=by
 rw[J7 l hi hl,J8 hh l 0 (Int.le_refl 0)]
end Go.Proofs.YtpodhambaehlkaaGreatDoor
end
section
/- Plain facts of this seat: valid queues of one list, by the references. -/
set_option maxRecDepth 100000
namespace Go.Proofs.YtpodhambaehlkaaGreatDoor
open Go.PI Go.Pl
def hd(q:Queue):List ai:=q.ag[0]?.getD []
theorem xy{q:Queue}(h:((q.ag.length:Int)==1)=true):q.ag=[hd q]:=by
 rw[beq_iff_eq]at h
 unfold hd
 match hq:q.ag with
 |[]=>rw[hq]at h; simp at h
 |[l]=>rfl
 |a::b::r=>rw[hq]at h; simp only[List.length_cons]at h; omega
theorem o8{q:Queue}(h:((q.ag.length:Int)==1)=true):q.ag[0]?=some (hd q):=by
 have:=xy h
 rw[this]; rfl
theorem A0{q:Queue}(hs:sm q)(h:((q.ag.length:Int)==1)=true):(hd q).length≤2^63-1:=hs _ (by rw[xy h]; simp)
theorem J9{q:Queue}{l:List ai}(h:q.ag=[l]):hd q=l:=by unfold hd; rw[h]; rfl
theorem rT(q:Queue)(hs:sm q):Dc (aa.oA q) (∃ l,VT q l):=by
 unfold aa.oA
 refine dI (dN fun _=>dS fun _=>dS fun _=>dN fun h1=>dN fun _=>dB (o7 _) (dN fun ht=>dB (C3 q.ae 0 (by omega)) (dK rfl fun _=>dB (o8 h1) (dA fun _=>dB (o8 h1) (dB (uz _ _ (cy.1 ht).2 (A0 hs h1)) dV))))) ?_
 rw[z0]
 simp only[Bool.and_eq_true,beq_iff_eq,decide_eq_false_iff_not,decide_eq_true_eq,cy]
 constructor
 ·rintro⟨⟨a1,a2,a3,a4⟩,b1,b2,c,d,e,f,g,h⟩
  exact⟨hd q,a1,⟨a2,a3,a4⟩,by omega,by omega,xy (by rw[beq_iff_eq]; exact c),d,f,e.1,e.2,h,g⟩
 ·rintro⟨l,h⟩
  rw[J9 h.ls,h.ls]
  have:=h.r0; have:=h.r1
  exact⟨⟨h.kind,h.pz⟩,by omega,by omega,rfl,h.sd,⟨h.t0,h.t1⟩,h.z,h.len,h.ord⟩
theorem rE(q:Queue)(hs:sm q):Dc (aa.oB q) (∃ l,VE q l):=by
 unfold aa.oB
 refine dI (dN fun _=>dS fun _=>dS fun _=>dS fun _=>dS fun _=>dS fun _=>dS fun _=>dS fun _=>dN fun h1=>dB (C3 q.ae 1 (by omega)) (dK rfl fun _=>dB (o7 _) (dB (o8 h1) (dB (J7 _ _ (A0 hs h1)) (dA fun _=>dA fun _=>dA fun _=>dA fun _=>dB (o8 h1) dV))))) ?_
 rw[z1]
 simp only[Bool.and_eq_true,beq_iff_eq,decide_eq_false_iff_not,decide_eq_true_eq]
 constructor
 ·rintro⟨a,b1,b2,b3,b4,b5,b6,b7,c,d,e,f,g0,g1,g⟩
  have e':=cy.1 e
  exact⟨hd q,a,by omega,by omega,by omega,by omega,by omega,by omega,by omega,xy (by rw[beq_iff_eq]; exact c),d,g0,g1,e'.1,e'.2,(J8 e'.2 _ 0 (Int.le_refl 0)).symm.trans f,g⟩
 ·rintro⟨l,h⟩
  rw[J9 h.ls,h.ls]
  have:=h.r0; have:=h.r1; have:=h.a1; have:=h.ab; have:=h.b5; have:=h.c0; have:=h.c1
  exact⟨h.kind,by omega,by omega,by omega,by omega,by omega,by omega,by omega,rfl,h.z,cy.2 ⟨h.t0,h.t1⟩,(J8 h.t1 _ 0 (Int.le_refl 0)).trans h.ord,h.v0,h.v1,h.len⟩
end Go.Proofs.YtpodhambaehlkaaGreatDoor
end
section
/- Plain facts of this seat: valid queues of packages sojourn, integral and dual, by the references. -/
set_option maxRecDepth 100000
namespace Go.Proofs.YtpodhambaehlkaaGreatDoor
open Go.PI Go.Pl
theorem rS(q:Queue)(hs:sm q):Dc (aa.oC q) (∃ l,VS q l):=by
 unfold aa.oC
 refine dI (dN fun _=>dS fun _=>dS fun _=>dS fun _=>dS fun _=>dN fun _=>dS fun _=>dS fun _=>dN fun h1=>dN fun _=>dB (o7 _) (dN fun ht=>dS fun _=>dS fun _=>dS fun _=>dS fun _=>
  dC (fun _=>dN fun _=>dB (C3 q.ae 2 (by omega)) (dK rfl fun _=>dB (o8 h1) (dA fun _=>dB (o8 h1) (dB (uz _ _ (cy.1 ht).2 (A0 hs h1)) dV))))
   (fun _=>dB (C3 q.ae 2 (by omega)) (dK rfl fun _=>dB (o8 h1) (dA fun _=>dB (o8 h1) (dB (uz _ _ (cy.1 ht).2 (A0 hs h1)) dV)))))) ?_
 rw[z2]
 simp only[beq_iff_eq,decide_eq_false_iff_not,decide_eq_true_eq,cy]
 show _∧_∧_∧_∧_∧_∧_∧_∧_∧_∧(0≤q.ae.e7∧q.ae.e7≤10000000)∧¬q.ae.e0<0∧¬IntKind.i64.wrap (IntKind.i64.wrap (q.ae.e7+q.af.B)+1)<q.ae.e0∧¬q.ae.e1<0∧¬1000000000<q.ae.e1∧(if q.ae.e0=0 then q.ae.e1=0∧_ else _)↔_
 constructor
 ·rintro⟨a,b1,b2,b3,b4,b5,b6,b7,c,d,e,f1,f2,f3,f4,g⟩
  rw[aZ (n:=q.ae.e7+q.af.B) (by omega) (by omega),aZ (by omega) (by omega)]at f2
  have hq:=xy (by rw[beq_iff_eq]; exact c)
  by_cases h0:q.ae.e0=0
  ·rw[if_pos h0]at g
   obtain⟨g1,g2,g3,g4⟩:=g
   exact⟨hd q,a,by omega,by omega,b5,by omega,by omega,hq,d,g2,by omega,by omega,fun _=>g1,e.1,e.2,g4,g3⟩
  ·rw[if_neg h0]at g
   obtain⟨g2,g3,g4⟩:=g
   exact⟨hd q,a,by omega,by omega,b5,by omega,by omega,hq,d,g2,by omega,by omega,fun h=>absurd h h0,e.1,e.2,g4,g3⟩
 ·rintro⟨l,h⟩
  rw[J9 h.ls,h.ls]
  have:=h.r0; have:=h.r1; have:=h.pa; have hb:=h.pb; have Jy:=h.v0; have hv1:=h.v1; have h0:=h.t0; have h1:=h.t1
  rw[aZ (n:=q.ae.e7+q.af.B) (by omega) (by omega),aZ (by omega) (by omega)]
  refine⟨h.kind,by omega,by omega,by omega,by omega,h.pc,by omega,by omega,rfl,h.sd,⟨h.t0,h.t1⟩,by omega,by omega,by omega,by omega,?_⟩
  by_cases h0:q.ae.e0=0
  ·rw[if_pos h0]; exact⟨h.v01 h0,h.z,h.len,h.ord⟩
  ·rw[if_neg h0]; exact⟨h.z,h.len,h.ord⟩
theorem XR(p:af):aa.mT p=some ((p.Kind==4)&&(decide (1≤p.A)&&(decide (p.A≤1000000)&&(decide (0≤p.B)&&(decide (p.B≤1000)&&(decide (0≤p.C)&&decide (p.C≤1000))))))):=by
 unfold aa.mT
 simp only[cN]
theorem rI(q:Queue)(hs:sm q):Dc (aa.oD q) (∃ l,VI q l):=by
 unfold aa.oD
 refine dI (dB (XR _) (dN fun _=>dS fun _=>dS fun _=>dN fun h1=>dB (o7 _) (dN fun ht=>dS fun _=>dS fun _=>dB (o7 _) (dN fun _=>dS fun _=>dB (o7 _) (dN fun _=>
  dB (C3 q.ae 3 (by omega)) (dK rfl fun _=>dB (o8 h1) (dA fun _=>dB (o8 h1) (dB (uz _ _ (cy.1 ht).2 (A0 hs h1)) dV)))))))) ?_
 rw[z3]
 simp only[Bool.and_eq_true,beq_iff_eq,decide_eq_false_iff_not,decide_eq_true_eq,cy]
 show _∧_∧_∧_∧(0≤q.ae.e7∧q.ae.e7≤10000000)∧¬q.ae.e0<0∧¬1000000<q.ae.e0∧(0≤q.ae.e1∧q.ae.e1≤10000000)∧¬q.ae.e7<q.ae.e1∧(0≤q.ae.e2∧q.ae.e2≤10000000)∧_↔_
 constructor
 ·rintro⟨⟨a,a1,a2,a3,a4,a5,a6⟩,b1,b2,c,d,e1,e2,f,f2,g,z,i,j⟩
  exact⟨hd q,a,by omega,by omega,by omega,by omega,by omega,xy (by rw[beq_iff_eq]; exact c),z,by omega,by omega,g,d.1,d.2,j,i⟩
 ·rintro⟨l,h⟩
  rw[J9 h.ls,h.ls]
  have:=h.r0; have:=h.r1; have:=h.pa; have:=h.pb; have:=h.pc; have:=h.v0; have:=h.v1; have:=h.t1
  exact⟨⟨h.kind,by omega,by omega,by omega,by omega,by omega,by omega⟩,by omega,by omega,rfl,⟨h.t0,h.t1⟩,by omega,by omega,by omega,by omega,h.v2,h.z,h.len,h.ord⟩
theorem N1(l:List ai)(is:Bool)(hl:l.length≤2^63-1):aa.nI l is=some (l.all fun x=>x.P.aI==is):=by
 unfold aa.nI
 refine bB (qb l (fun i=>(false,(i:Int))) (fun x=>x.P.aI==is) (Sum.inl false) (Sum.inr (false,(l.length:Int))) ?_ (bF (jx _) rfl) rfl) ?_
 rotate_left
 ·cases (l.all fun x=>x.P.aI==is)<;>rfl
 ·intro i h
  refine bT (fo h) (bT (ct i) (bB (get_at h) ?_))
  rw[aZ (n:=(i:Int)+1) (by omega) (by omega)]
  cases (l[i].P.aI==is)<;>rfl
theorem wi{hi:Int}{b:Bool}:∀ (l:List ai) (a:Int),bU (cA b) hi a l=(bU cP hi a l&&l.all fun x=>x.P.aI==b)
 |[],_=>rfl
 |x::xs,a=>by
  simp only[bU,sj,cA,cP,List.all_cons]
  rw[wi xs x.At]
  cases mi x.P<;>cases (x.P.aI==b)<;>cases (decide (a≤x.At)&&decide (x.At≤hi))<;>cases bU cP hi x.At xs<;>rfl
def CN(q:Queue):List ai:=q.ag[1]?.getD []
theorem xz{q:Queue}(h:((q.ag.length:Int)==2)=true):q.ag=[hd q,CN q]:=by
 rw[beq_iff_eq]at h
 unfold hd CN
 match hq:q.ag with
 |[]=>rw[hq]at h; simp at h
 |[l]=>rw[hq]at h; simp at h
 |[a,b]=>rfl
 |a::b::c::r=>rw[hq]at h; simp only[List.length_cons]at h; omega
theorem rD(q:Queue)(hs:sm q)(XS:tot q.ag≤2^62):Dc (aa.oE q) (∃ a b,VD q a b):=by
 unfold aa.oE
 have g0:∀ h:((q.ag.length:Int)==2)=true,q.ag[0]?=some (hd q):=fun h=>by have:=xz h; rw[this]; rfl
 have g1:∀ h:((q.ag.length:Int)==2)=true,q.ag[1]?=some (CN q):=fun h=>by have:=xz h; rw[this]; rfl
 have l0:∀ h:((q.ag.length:Int)==2)=true,(hd q).length≤2^63-1:=fun h=>hs _ (by rw[xz h]; simp)
 have l1:∀ h:((q.ag.length:Int)==2)=true,(CN q).length≤2^63-1:=fun h=>hs _ (by rw[xz h]; simp)
 have abt:∀ h:((q.ag.length:Int)==2)=true,((hd q).length:Int)+(CN q).length≤2^62:=fun h=>by have:=xz h; rw[this,zy]at XS; exact XS
 refine dI (dN fun _=>dS fun _=>dS fun _=>dS fun _=>dS fun _=>dN fun _=>dS fun _=>dS fun _=>dN fun h=>dB (o7 _) (dN fun ht=>dS fun _=>dS fun _=>
  dB (C3 q.ae 1 (by omega)) (dK rfl fun _=>dB (g0 h) (dB (g1 h) (dS fun _=>dB (g0 h) (dB (N1 _ _ (l0 h)) (dN fun _=>dB (g1 h) (dB (N1 _ _ (l1 h)) (dN fun _=>dB (g0 h) (dB (uz _ _ (cy.1 ht).2 (l0 h)) (dA fun _=>dB (g1 h) (dB (uz _ _ (cy.1 ht).2 (l1 h)) dV)))))))))))) ?_
 rw[z1]
 simp only[beq_iff_eq,decide_eq_false_iff_not,cy]
 show _∧_∧_∧_∧_∧_∧_∧_∧_∧(0≤q.ae.e7∧q.ae.e7≤10000000)∧¬q.ae.e0<0∧¬15<q.ae.e0∧_↔_
 constructor
 ·rintro⟨a,b1,b2,b3,b4,b5,b6,b7,c,e,f1,f2,z,s,p1,p2,o1,o2⟩
  have c':((q.ag.length:Int)==2)=true:=by rw[beq_iff_eq]; exact c
  have hl:=abt c'
  rw[aZ (n:=((hd q).length:Int)+(CN q).length) (by omega) (by omega)]at s
  refine⟨hd q,CN q,a,by omega,by omega,b5,by omega,by omega,xz c',z,by omega,e.1,e.2,?_,?_,by omega⟩
  ·rw[wi,show bU cP q.ae.e7 0 (hd q)=true from o1,p1]; rfl
  ·rw[wi,show bU cP q.ae.e7 0 (CN q)=true from o2,p2]; rfl
 ·rintro⟨a,b,h⟩
  have e0:hd q=a:=by unfold hd; rw[h.ls]; rfl
  have e1:CN q=b:=by unfold CN; rw[h.ls]; rfl
  rw[e0,e1,h.ls]
  have hlen:=h.len; have:=h.r0; have hr:=h.r1; have:=h.pa; have:=h.pb; have:=h.v0
  have oa:=h.oa; have ob:=h.ob
  rw[wi,Bool.and_eq_true]at oa ob
  rw[aZ (n:=(a.length:Int)+b.length) (by omega) (by omega)]
  exact⟨h.kind,by omega,by omega,by omega,by omega,h.pc,by omega,by omega,rfl,⟨h.t0,h.t1⟩,by omega,by omega,h.z,by omega,oa.2,ob.2,oa.1,ob.1⟩
end Go.Proofs.YtpodhambaehlkaaGreatDoor
end
section
/- Plain facts of this seat: valid queues of package deficit, by the reference. -/
set_option maxRecDepth 100000
set_option maxHeartbeats 1000000
namespace Go.Proofs.YtpodhambaehlkaaGreatDoor
open Go.PI Go.Pl
theorem dG{c:Bool}{X:Option Bool}{Q:Prop}(hc:c=true)(h:Dc X Q):Dc (gd c X) Q:=by subst hc; exact h
theorem N2(q:Queue)(hn:q.ag.length≤2^62)(ht:tot q.ag≤2^62):aa.qA q=some (tot q.ag):=En q hn ht
theorem SO{i:Nat}(h:i<8):IntKind.i64.wrap (2+IntKind.i64.wrap ((i:Int).tdiv 2))=((2+i/2:Nat):Int):=by
 rcases SL h with rfl|rfl|rfl|rfl|rfl|rfl|rfl|rfl<;>decide
theorem XT(q:Queue){i:Nat}(h:i<8):aa.jg q (i:Int)=some (v8 (p9 q.ae) i):=by
 unfold aa.jg
 rw[SO h]
 refine bT (ct _) (bT (decide_eq_true (by rw[Int.toNat_natCast]; omega)) ?_)
 rcases SL h with rfl|rfl|rfl|rfl|rfl|rfl|rfl|rfl<;>rfl
theorem fl(l:List ai)(f n:Int)(hl:l.length≤2^63-1):(((aX (ω:=Bool ⊕ Bool×Int) (fun ((b9,i10):Bool×Int)=>bif decide (i10<(↑l.length:Int)) then gd (decide (0≤i10)) <| (l[i10.toNat]?).bind fun UF=>bif !(UF.P.aG==f) then some (Sum.inr (Sum.inl false)) else some (Sum.inl (b9,IntKind.i64.wrap (i10+1))) else some (Sum.inr (Sum.inr (b9,i10)))) (false,0)).bind fun w12=>
  Sum.elim (fun uA=>some (Sum.inr (Sum.inl uA))) (fun (lA,i15)=>some (Sum.inl (lA,n))) w12):Option (Bool×Int ⊕ (Bool ⊕ Bool×Int)))=bif l.all (fun x=>x.P.aG==f) then some (Sum.inl (false,n)) else some (Sum.inr (Sum.inl false)):=by
 refine bB (qb l (fun i=>(false,(i:Int))) (fun x=>x.P.aG==f) (Sum.inl false) (Sum.inr (false,(l.length:Int))) ?_ (bF (jx _) rfl) rfl) ?_
 rotate_left
 ·cases (l.all fun x=>x.P.aG==f)<;>rfl
 ·intro i h
  refine bT (fo h) (bT (ct i) (bB (get_at h) ?_))
  rw[aZ (n:=(i:Int)+1) (by omega) (by omega)]
  cases (l[i].P.aG==f)<;>rfl
def cR(q:Queue)(i:Nat):Bool:=match q.ag[i]? with
 |none=>false
 |some l=>bU cP q.ae.e7 0 l&&(!decide (v8 q.ae (2+i/2)<0)&&(!decide (19999<v8 (p9 q.ae) i)&&((bif (l.length:Int)==0 then v8 (p9 q.ae) i==0 else true) &&
   ((bif q.ae.e0==(i:Int)&&q.ae.e1==1 then true else !nG l (v8 (p9 q.ae) i))&&l.all fun x=>x.P.aG==(i:Int)))))
theorem F4{hi f:Int}:∀ (l:List ai) (a:Int),bU (cF f) hi a l=(bU cP hi a l&&l.all fun x=>x.P.aG==f)
 |[],_=>rfl
 |x::xs,a=>by
  simp only[bU,sj,cF,cP,List.all_cons]
  rw[F4 xs x.At]
  cases mi x.P<;>cases (x.P.aG==f)<;>cases (decide (a≤x.At)&&decide (x.At≤hi))<;>cases bU cP hi x.At xs<;>rfl
theorem abv{v:A8 Int}(h0:0≤v.e2∧0≤v.e3∧0≤v.e4∧0≤v.e5)(h1:v.e2≤9223372036854775807∧v.e3≤9223372036854775807∧v.e4≤9223372036854775807∧v.e5≤9223372036854775807){i:Nat}(hi:i<8):0≤v8 (p9 v) i:=by
 have a:∀ n:Int,0≤n→n≤9223372036854775807→0≤IntKind.i64.wrap (n.tdiv 32768):=fun n a b=>by
  rw[Int.tdiv_eq_ediv_of_nonneg a,aZ (by omega) (by omega)]; omega
 have b:∀ n:Int,0≤n→0≤n.tmod 32768:=fun n a=>by rw[Int.tmod_eq_emod_of_nonneg a]; omega
 obtain⟨p,q,r,s⟩:=h0
 obtain⟨p',q',r',s'⟩:=h1
 rcases SL hi with rfl|rfl|rfl|rfl|rfl|rfl|rfl|rfl
 ·exact a _ p p'
 ·exact b _ p
 ·exact a _ q q'
 ·exact b _ q
 ·exact a _ r r'
 ·exact b _ r
 ·exact a _ s s'
 ·exact b _ s
theorem vnn{v:A8 Int}{i:Nat}(hi:i<8):(v8 v (2+i/2)=v.e2∨v8 v (2+i/2)=v.e3∨v8 v (2+i/2)=v.e4∨v8 v (2+i/2)=v.e5):=by
 rcases SL hi with rfl|rfl|rfl|rfl|rfl|rfl|rfl|rfl
 ·exact .inl rfl
 ·exact .inl rfl
 ·exact .inr (.inl rfl)
 ·exact .inr (.inl rfl)
 ·exact .inr (.inr (.inl rfl))
 ·exact .inr (.inr (.inl rfl))
 ·exact .inr (.inr (.inr rfl))
 ·exact .inr (.inr (.inr rfl))
theorem N3{q:Queue}{i:Nat}{l:List ai}(hl:q.ag[i]?=some l)(hd:0≤v8 (p9 q.ae) i):cR q i=true↔¬v8 q.ae (2+i/2)<0∧DD q.ae.e7 q.ae.e0 q.ae.e1 i l (v8 (p9 q.ae) i):=by
 unfold cR DD
 rw[hl,F4]
 simp only[Bool.and_eq_true,Bool.not_eq_true',decide_eq_false_iff_not]
 constructor
 ·rintro⟨h1,h2,h3,h4,h5,h6⟩
  refine⟨h2,⟨hd,by omega⟩,fun h0 e=>?_,⟨h1,h6⟩,fun h0 h7 x xs e=>?_⟩
  ·subst e
   have:v8 (p9 q.ae) i=0:=by simpa using h4
   omega
  ·subst e
   have hn:(q.ae.e0==(i:Int)&&q.ae.e1==1)=false:=by
    cases a:(q.ae.e0==(i:Int))<;>cases b:(q.ae.e1==1)<;>try rfl
    exact absurd ⟨by simpa using b,by simpa using a⟩ h7
   rw[hn,cond_false]at h5
   simpa[nG] using h5
 ·rintro⟨h2,⟨_,h3⟩,h4,⟨h1,h6⟩,h5⟩
  refine⟨h1,h2,by omega,?_,?_,h6⟩
  ·cases l with
   |nil=>
    have:¬0<v8 (p9 q.ae) i:=fun h=>h4 h rfl
    have:v8 (p9 q.ae) i=0:=by omega
    simp[this]
   |cons x xs=>rw[show (((x::xs).length:Int)==0)=false by simp only[List.length_cons,beq_eq_false_iff_ne]; omega]; rfl
  ·cases hn:(q.ae.e0==(i:Int)&&q.ae.e1==1) with
   |true=>rfl
   |false=>
    cases l with
    |nil=>rfl
    |cons x xs=>
     have hz:=(sq (c:=cP) (fun y h=>h) h1).1
     have kD:¬(q.ae.e1=1∧q.ae.e0=(i:Int)):=fun⟨a,b⟩=>by simp[a,b]at hn
     by_cases h0:0<v8 (p9 q.ae) i
     ·have:=h5 h0 kD x xs rfl
      simp[nG]; omega
     ·simp[nG]; omega
theorem rF(q:Queue)(hs:sm q)(hv:(0≤q.ae.e2∧0≤q.ae.e3∧0≤q.ae.e4∧0≤q.ae.e5)→∀ i,i<8→0≤v8 (p9 q.ae) i)(XS:tot q.ag≤2^62):Dc (aa.oF q) (VF q):=by
 unfold aa.oF
 have h8':∀ h:((q.ag.length:Int)==8)=true,q.ag.length=8:=fun h=>by rw[beq_iff_eq]at h; omega
 have nZ:((q.ag.length:Int)==8)=true→∀ i,i<8→∃ l,q.ag[i]?=some l∧l.length≤2^63-1:=fun h i hi=>
  ⟨_,List.getElem?_eq_getElem (by have:=h8' h; omega),hs _ (List.getElem_mem _)⟩
 have Ux:((q.ag.length:Int)==8)=true→0≤q.ae.e0∧q.ae.e0≤7→q.ag[(v8 q.ae 0).toNat]?=some (q.ag[q.ae.e0.toNat]?.getD []):=fun h h0=>by
  show q.ag[q.ae.e0.toNat]?=_
  rw[List.getElem?_eq_getElem (by have:=h8' h; omega)]; rfl
 refine dI (P:=(q.af.Kind==5)=true∧decide (q.af.A<100)=false∧decide (10000<q.af.A)=false∧(q.af.B==0)=true∧(q.af.C==0)=true∧decide (q.Room<1)=false∧decide (500<q.Room)=false∧((q.ag.length:Int)==8)=true∧(q.aY==0)=true∧(v8 q.ae 6==0)=true ∧
   p5 (v8 q.ae 7)=true∧decide (v8 q.ae 0<0)=false∧decide (7<v8 q.ae 0)=false∧decide (v8 q.ae 1<0)=false∧decide (1<v8 q.ae 1)=false ∧
   if (v8 q.ae 1==1)=true then (((q.ag[q.ae.e0.toNat]?.getD []).length:Int)==0)=false∧(List.range 8).all (cR q)=true∧decide (tot q.ag≤q.Room)=true else (List.range 8).all (cR q)=true∧decide (tot q.ag≤q.Room)=true)
  (dN fun _=>dS fun _=>dS fun _=>dN fun _=>dN fun _=>dS fun _=>dS fun _=>dN fun h8=>dN fun _=>dN fun _=>dB (o7 _) (dN fun ht=>dS fun ha=>dS fun hb=>dS fun _=>dS fun _=>
    dC (fun he=>dG (decide_eq_true (Int.not_lt.1 (of_decide_eq_false ha))) (dB (Ux h8 ⟨Int.not_lt.1 (of_decide_eq_false ha),Int.not_lt.1 (of_decide_eq_false hb)⟩) (dS fun _=>
        dB (we (fun i=>(false,(i:Int))) (cR q) 8 (Sum.inr (false,8)) (Sum.inl false) ?_ rfl rfl) (dK rfl fun _=>dB (N2 q (by have:=h8' h8; omega) XS) dV))))
     (fun he=>dB (we (fun i=>(false,(i:Int))) (cR q) 8 (Sum.inr (false,8)) (Sum.inl false) ?_ rfl rfl) (dK rfl fun _=>dB (N2 q (by have:=h8' h8; omega) XS) dV)))) ?_
 rotate_left 2
 ·have e7:v8 q.ae 7=q.ae.e7:=rfl
  have bK:q.ag.length=8→((List.range 8).all (cR q)=true↔(0≤q.ae.e2∧0≤q.ae.e3∧0≤q.ae.e4∧0≤q.ae.e5)∧∀ i,i<8→∃ l,q.ag[i]?=some l∧DD q.ae.e7 q.ae.e0 q.ae.e1 i l (v8 (p9 q.ae) i)):=by
   intro h8
   have hg:∀ i,i<8→q.ag[i]?=some (q.ag[i]?.getD []):=fun i hi=>by rw[List.getElem?_eq_getElem (by omega)]; rfl
   rw[List.all_eq_true]
   constructor
   ·intro h
    have hc:∀ i,i<8→¬v8 q.ae (2+i/2)<0:=fun i hi=>by
     have:=h i (List.mem_range.2 hi)
     unfold cR at this
     rw[hg i hi]at this
     simp only[Bool.and_eq_true,Bool.not_eq_true',decide_eq_false_iff_not]at this
     exact this.2.1
    have p:(0≤q.ae.e2∧0≤q.ae.e3∧0≤q.ae.e4∧0≤q.ae.e5):=⟨Int.not_lt.1 (hc 0 (by omega)),Int.not_lt.1 (hc 2 (by omega)),Int.not_lt.1 (hc 4 (by omega)),Int.not_lt.1 (hc 6 (by omega))⟩
    exact⟨p,fun i hi=>⟨_,hg i hi,((N3 (hg i hi) (hv p i hi)).1 (h i (List.mem_range.2 hi))).2⟩⟩
   ·rintro⟨p,h⟩ i hi
    have hi:=List.mem_range.1 hi
    obtain⟨l,hl,hd⟩:=h i hi
    refine(N3 hl (hv p i hi)).2 ⟨?_,hd⟩
    rcases vnn (v:=q.ae) hi with e|e|e|e<;>omega
  simp only[beq_iff_eq,decide_eq_false_iff_not,decide_eq_true_eq,cy]
  show _∧_∧_∧_∧_∧_∧_∧_∧_∧q.ae.e6=0∧(0≤q.ae.e7∧q.ae.e7≤10000000)∧¬q.ae.e0<0∧¬7<q.ae.e0∧¬q.ae.e1<0∧¬1<q.ae.e1∧(if q.ae.e1=1 then _ else _)↔_
  constructor
  ·rintro⟨a1,a2,a3,a4,a5,a6,a7,a8,a9,a10,a11,a12,a13,a14,a15,a16⟩
   have h8:q.ag.length=8:=by omega
   by_cases he:q.ae.e1=1
   ·rw[if_pos he]at a16
    obtain⟨b1,b2,b3⟩:=a16
    obtain⟨c1,c2⟩:=(bK h8).1 b2
    refine⟨a1,by omega,a4,a5,by omega,by omega,h8,a9,a10,by omega,by omega,fun _=>⟨_,List.getElem?_eq_getElem (by omega),fun e=>?_⟩,a11.1,a11.2,c1,c2,b3⟩
    rw[List.getElem?_eq_getElem (show q.ae.e0.toNat<q.ag.length by omega),Option.getD_some,e]at b1
    simp at b1
   ·rw[if_neg he]at a16
    obtain⟨b2,b3⟩:=a16
    obtain⟨c1,c2⟩:=(bK h8).1 b2
    exact⟨a1,by omega,a4,a5,by omega,by omega,h8,a9,a10,by omega,by omega,fun h=>absurd h he,a11.1,a11.2,c1,c2,b3⟩
  ·intro h
   have:=h.pa; have:=h.r0; have:=h.r1; have:=h.v0; have:=h.v1; have h8:=h.n8
   have hc:=(bK h8).2 ⟨h.pk,h.dd⟩
   refine⟨h.kind,by omega,by omega,h.pb,h.pc,by omega,by omega,by omega,h.sd,h.z,⟨h.t0,h.t1⟩,by omega,by omega,by omega,by omega,?_⟩
   by_cases he:q.ae.e1=1
   ·rw[if_pos he]
    refine⟨?_,hc,h.len⟩
    obtain⟨l,hl,dP⟩:=h.tR he
    rw[hl,Option.getD_some]
    cases l with
    |nil=>exact absurd rfl dP
    |cons x xs=>simp only[List.length_cons,beq_eq_false_iff_ne]; omega
   ·rw[if_neg he]
    exact⟨hc,h.len⟩
 all_goals
  intro i hi
  obtain⟨l,hl,Ut⟩:=nZ h8 i hi
  have ld:q.ag[(i:Int).toNat]?=some l:=by rw[Int.toNat_natCast]; exact hl
  have hu:cR q i=(bU cP q.ae.e7 0 l&&(!decide (v8 q.ae (2+i/2)<0)&&(!decide (19999<v8 (p9 q.ae) i)&&((bif (l.length:Int)==0 then v8 (p9 q.ae) i==0 else true) &&
   ((bif q.ae.e0==(i:Int)&&q.ae.e1==1 then true else !nG l (v8 (p9 q.ae) i))&&l.all fun x=>x.P.aG==(i:Int)))))):=by unfold cR; rw[hl]
  rw[hu]
  have hw:IntKind.i64.wrap ((i:Int)+1)=((i+1:Nat):Int):=aZ (by omega) (by omega)
  refine bT (decide_eq_true (by omega)) (bT (ct i) (bB ld (bB (uz _ _ (cy.1 ht).2 Ut) (bB (XT q hi) ?_))))
  rw[SO hi]
  refine nck fun _=>bT (ct _) (bT (decide_eq_true (by rw[Int.toNat_natCast]; omega)) ?_)
  rw[Int.toNat_natCast]
  refine sck fun _=>sck fun _=>?_
  rw[hw]
  simp only[fl l (i:Int) ((i+1:Nat):Int) Ut]
  show _=bif (bif (l.length:Int)==0 then v8 (p9 q.ae) i==0 else true)&&((bif aa.v8 q.ae 0==(i:Int)&&aa.v8 q.ae 1==1 then true else !nG l (v8 (p9 q.ae) i))&&l.all fun x=>x.P.aG==(i:Int)) then _ else _
  cases l with
  |nil=>cases (v8 (p9 q.ae) i==0)<;>cases (aa.v8 q.ae 0==(i:Int))<;>cases (aa.v8 q.ae 1==1)<;>rfl
  |cons x xs=>
   have z1:(((x::xs).length:Int)==0)=false:=by simp only[List.length_cons,beq_eq_false_iff_ne]; omega
   have z2:decide (0<((x::xs).length:Int))=true:=decide_eq_true (by simp only[List.length_cons]; omega)
   simp only[z1,z2,List.getElem?_cons_zero,Option.bind_some,cond_true,cond_false,nG]
   cases (aa.v8 q.ae 0==(i:Int))<;>cases (aa.v8 q.ae 1==1)<;>cases decide (x.P.aA≤v8 (p9 q.ae) i)<;>cases ((x::xs).all fun x=>x.P.aG==(i:Int))<;>rfl
end Go.Proofs.YtpodhambaehlkaaGreatDoor
end
section
/- Plain facts of this seat: what the reference of package queue calls valid. -/
set_option maxRecDepth 100000
namespace Go.Proofs.YtpodhambaehlkaaGreatDoor
open Go.PI Go.Pl
theorem WI{X:Option Bool}{P:Prop}(h:Dc X P):Dc (X.bind fun b=>some b) P:=by
 obtain⟨b,rfl,h2⟩:=h; exact⟨b,rfl,h2⟩
theorem rQ(q:Queue)(hs:sm q)(hv:q.af.Kind=5→(0≤q.ae.e2∧0≤q.ae.e3∧0≤q.ae.e4∧0≤q.ae.e5)→∀ i,i<8→0≤v8 (p9 q.ae) i)(ht:tot q.ag≤2^62):Dc (aa.lY q) (QV q):=by
 unfold aa.lY
 have k1:∀ {k:Int},(q.af.Kind==k)=true→q.af.Kind=k:=fun h=>by simpa using h
 have k0:∀ {k:Int},(q.af.Kind==k)=false→q.af.Kind≠k:=fun h=>by simpa using h
 refine dI (dC (fun h=>WI (rT q hs)) (fun h1=>dC (fun h=>WI (rE q hs)) (fun h2=>dC (fun h=>WI (rS q hs)) (fun h3=>dC (fun h=>WI (rI q hs)) (fun h4=>dC (fun h=>WI (rF q hs (hv (k1 h)) ht)) (fun h5=>dC (fun h=>WI (rD q hs ht)) (fun h6=>⟨false,rfl,(by simp:(false=true)↔False)⟩))))))) ?_
 simp only[beq_iff_eq]
 unfold QV
 constructor
 ·intro h
  split at h
  ·exact .inl h
  split at h
  ·exact .inr (.inl h)
  split at h
  ·exact .inr (.inr (.inl h))
  split at h
  ·exact .inr (.inr (.inr (.inl h)))
  split at h
  ·exact .inr (.inr (.inr (.inr (.inl h))))
  split at h
  ·exact .inr (.inr (.inr (.inr (.inr h))))
  ·exact h.elim
 ·rintro (⟨l,h⟩|⟨l,h⟩|⟨l,h⟩|⟨l,h⟩|h|⟨a,b,h⟩)
  ·rw[if_pos h.kind]; exact⟨l,h⟩
  ·rw[if_neg (by rw[h.kind]; decide),if_pos h.kind]; exact⟨l,h⟩
  ·rw[if_neg (by rw[h.kind]; decide),if_neg (by rw[h.kind]; decide),if_pos h.kind]; exact⟨l,h⟩
  ·rw[if_neg (by rw[h.kind]; decide),if_neg (by rw[h.kind]; decide),if_neg (by rw[h.kind]; decide),if_pos h.kind]; exact⟨l,h⟩
  ·rw[if_neg (by rw[h.kind]; decide),if_neg (by rw[h.kind]; decide),if_neg (by rw[h.kind]; decide),if_neg (by rw[h.kind]; decide),if_pos h.kind]; exact h
  ·rw[if_neg (by rw[h.kind]; decide),if_neg (by rw[h.kind]; decide),if_neg (by rw[h.kind]; decide),if_neg (by rw[h.kind]; decide),if_neg (by rw[h.kind]; decide),if_pos h.kind]; exact⟨a,b,h⟩
theorem XU(q:Queue)(hn:q.ag.length≤2^63-1):aa.tf q=some (q.ag.all (fun l=>!decide (600<(l.length:Int)))&&decide ((q.ag.length:Int)≤20)):=by
 unfold aa.tf
 refine bB (qb q.ag (fun i=>(false,(i:Int))) (fun l=>!decide (600<(l.length:Int))) (Sum.inl false) (Sum.inr (false,(q.ag.length:Int))) ?_ (bF (jx _) rfl) rfl) ?_
 rotate_left
 ·cases (q.ag.all fun l=>!decide (600<(l.length:Int)))<;>rfl
 ·intro i h
  refine bT (fo h) (bT (ct i) (bB (v:=q.ag[i]) (by simp[h]) ?_))
  rw[aZ (n:=(i:Int)+1) (by omega) (by omega)]
  cases decide (600<(q.ag[i].length:Int))<;>rfl
theorem UG{ls:List (List ai)}{k:Int}(hk:0≤k)(h:∀ l∈ls,(l.length:Int)≤k):tot ls≤k*ls.length:=by
 induction ls with
 |nil=>simp[tot]
 |cons a ls ih=>
  have h1:=h a (by simp)
  have h2:=ih fun l hl=>h l (by simp[hl])
  simp only[tot,List.map_cons,List.sum_cons,List.length_cons]at h2 ⊢
  rw[Int.natCast_add,Int.mul_add]; omega
theorem UH{q:Queue}(h:(q.ag.all (fun l=>!decide (600<(l.length:Int)))&&decide ((q.ag.length:Int)≤20))=true):sm q∧tot q.ag≤2^62:=by
 simp only[Bool.and_eq_true,List.all_eq_true,Bool.not_eq_true',decide_eq_false_iff_not,decide_eq_true_eq]at h
 obtain⟨h1,h2⟩:=h
 refine⟨fun l hl=>by have:=h1 l hl; omega,?_⟩
 have:=UG (ls:=q.ag) (k:=600) (by omega) fun l hl=>by have:=h1 l hl; omega
 omega
structure Bq(q:Queue):Prop where
 n:q.ag.length≤2^63-1
 v:q.ae.e2≤9223372036854775807∧q.ae.e3≤9223372036854775807∧q.ae.e4≤9223372036854775807∧q.ae.e5≤9223372036854775807
theorem XV{q:Queue}(h:UI q):Bq q:=by
 obtain⟨_,_,⟨h1,_⟩,⟨_,_,h2,h3,h4,h5,_⟩,_⟩:=h
 have e:IntKind.max .i64=9223372036854775807:=by decide
 have m:maxLen≤2^63-1:=by decide
 refine⟨Nat.le_trans h1 m,?_⟩
 unfold y8 at h2 h3 h4 h5
 rw[e]at h2 h3 h4 h5
 exact⟨h2.2,h3.2,h4.2,h5.2⟩
end Go.Proofs.YtpodhambaehlkaaGreatDoor
end
section
/- Plain facts of this seat: package link on valid links. -/
set_option maxRecDepth 100000
namespace Go.Proofs.YtpodhambaehlkaaGreatDoor
open Go.PI Go.Pl
structure VL(l:bc):Prop where
 r:1≤l.dq∧l.dq≤1000000
 d:0≤l.di∧l.di≤1000000
 q:QV l.Queue
 st:(l.iX=true∧mi l.dr=true∧l.Queue.ae.e7≤l.cO∧l.cO≤20000000)∨(l.iX=false∧l.dr=zP∧l.cO=0∧tot l.Queue.ag=0)
theorem QV.valid{q:Queue}(h:QV q):aa.oG q=some true:=by
 unfold aa.oG
 rcases h with ⟨l,h⟩|⟨l,h⟩|⟨l,h⟩|⟨l,h⟩|h|⟨a,b,h⟩<;>rw[h.kind]<;>exact bB h.valid rfl
theorem Iz(n lo hi:Int):aa.cW n lo hi=some (decide (lo≤n)&&decide (n≤hi)):=cN
theorem sr(n:Int):aa.gY n=some (p5 n):=by
 unfold aa.gY; exact bB (Iz _ _ _) rfl
theorem N4(p:an):aa.gw p=some (mi p):=by
 unfold aa.gw mi
 simp only[Iz,sr,p5,Option.bind_some,cN]
theorem Ka{p:an}:(p.aG==0&&(p.Sub==0&&(p.Number==0&&(p.Data==0&&(p.aA==0&&(p.aQ==0&&(p.aI==false&&p.ay==false)))))))=true↔p=zP:=by
 cases p
 simp[zP]
theorem UJ{a b:Prop}[Decidable a][Decidable b](h:a∧b):(decide a&&decide b)=true:=by simp[h.1,h.2]
theorem VL.valid{l:bc}(h:VL l):aa.gZ l=some true:=by
 unfold aa.gZ
 refine bB (Iz _ _ _) (bF (by rw[UJ h.r]; rfl) (bB (Iz _ _ _) (bF (by rw[UJ h.d]; rfl) (bB h.q.valid (bF rfl ?_)))))
 rcases h.st with ⟨b,p,u⟩|⟨b,p,u,t⟩
 ·exact bT b (bB (N4 _) (bT p (bB (Iz _ _ _) (by rw[UJ u]))))
 ·refine bF b (bT (Ka.2 p) (bT (by rw[u]; rfl) (bB h.q.size (by rw[t]; rfl))))
theorem QV.few{q:Queue}(h:QV q):sm q∧tot q.ag≤2^62:=by
 have b:=h.base
 have:=b.len; have:=b.r1
 exact⟨fun l hl=>by have:=td hl; omega,by omega⟩
theorem QV.IA{q:Queue}(h:QV q):aa.lY q=some true:=by
 obtain⟨b,h1,h2⟩:=rQ q h.few.1 (fun hk _ i hi=>by
  rcases h with ⟨l,h⟩|⟨l,h⟩|⟨l,h⟩|⟨l,h⟩|h|⟨a,b,h⟩
  ·rw[h.kind]at hk; exact absurd hk (by decide)
  ·rw[h.kind]at hk; exact absurd hk (by decide)
  ·rw[h.kind]at hk; exact absurd hk (by decide)
  ·rw[h.kind]at hk; exact absurd hk (by decide)
  ·obtain⟨l,_,d,_⟩:=h.dd i hi; exact d.1
  ·rw[h.kind]at hk; exact absurd hk (by decide)) h.few.2
 rw[h1,h2.2 h]
theorem SP(q:Queue)(hn:q.ag.length≤2^62)(ht:tot q.ag≤2^62):aa.qB q=some (tot q.ag):=by
 unfold aa.qB
 refine bB (v:=(tot q.ag,(q.ag.length:Int))) ?_ rfl
 have key:∀ n i,q.ag.length-i=n→i≤q.ag.length→aX (ω:=Int×Int) (fun ((i1,i2):Int×Int)=>
   bif decide (i2<(↑q.ag.length:Int)) then gd (decide (0≤i2)) <| (q.ag[i2.toNat]?).bind fun l3=>some (Sum.inl (IntKind.i64.wrap (i1+(↑l3.length:Int)),IntKind.i64.wrap (i2+1))) else some (Sum.inr (i1,i2)))
   (tot (q.ag.take i),(i:Int))=some (tot q.ag,(q.ag.length:Int)):=by
  intro n
  induction n with
  |zero=>
   intro i h1 h2
   have:i=q.ag.length:=by omega
   subst this
   refine Go.Pl.out (bF (jx _) ?_)
   rw[List.take_length]
  |succ n ih=>
   intro i h1 h2
   have hi:i<q.ag.length:=by omega
   have hs:tot (q.ag.take (i+1))=tot (q.ag.take i)+(q.ag[i].length:Int):=by rw[List.take_succ_eq_append_getElem hi,AR]
   have a:=AU (q.ag.take i)
   have b:=AW (ls:=q.ag) (i+1)
   refine(Go.Pl.next (y:=(tot (q.ag.take (i+1)),((i+1:Nat):Int))) ?_).trans (ih (i+1) (by omega) hi)
   refine bT (fo hi) (bT (ct i) (bB (v:=q.ag[i]) (by simp[hi]) ?_))
   rw[aZ (by omega) (by omega),aZ (by omega) (by omega),hs]
   simp only[Int.natCast_add,Int.natCast_one]
 have:=key q.ag.length 0 rfl (Nat.zero_le _)
 rwa [List.take_zero]at this
theorem rL0(l:bc)(hf:(l.Queue.ag.all (fun l=>!decide (600<(l.length:Int)))&&decide ((l.Queue.ag.length:Int)≤20))=true)(hb:Bq l.Queue):Dc (aa.fZ l) (VL l):=by
 obtain⟨hs,ht⟩:=UH hf
 have hn:l.Queue.ag.length≤2^62:=by simp only[Bool.and_eq_true,decide_eq_true_eq]at hf; omega
 unfold aa.fZ aa.nJ
 obtain⟨b,Qa,H5⟩:=rQ l.Queue hs (fun _ p i hi=>abv p hb.v hi) ht
 refine dI (P:=(decide (1≤l.dq)&&decide (l.dq≤1000000))=true∧decide (l.di<0)=false∧decide (1000000<l.di)=false∧b=true ∧
   if (!l.iX)=true then _∧(l.cO==0)=true∧(tot l.Queue.ag==0)=true else mi l.dr=true∧decide (l.Queue.ae.e7≤l.cO)=true∧decide (l.cO≤20000000)=true)
  (dB cN (dN fun _=>dS fun _=>dS fun _=>dB Qa (dN fun _=>dC (fun _=>dA fun _=>dA fun _=>dB (SP _ hn ht) dV) fun _=>dB (UE _) (dA fun _=>dA fun _=>dV)))) ?_
 rw[H5]
 simp only[Bool.and_eq_true,decide_eq_true_eq,decide_eq_false_iff_not,Bool.not_eq_true',beq_iff_eq]
 constructor
 ·rintro⟨⟨a1,a2⟩,a3,a4,a5,a6⟩
  refine⟨⟨a1,a2⟩,by omega,a5,?_⟩
  split at a6
  ·next hB=>
   obtain⟨c1,c2,c3⟩:=a6
   exact .inr ⟨hB,Ka.1 (by simpa using c1),c2,c3⟩
  ·next hB=>exact .inl ⟨by simpa using hB,a6⟩
 ·intro h
  refine⟨h.r,by have:=h.d; omega,by have:=h.d; omega,h.q,?_⟩
  rcases h.st with ⟨c,p,u⟩|⟨c,p,u,t⟩
  ·rw[if_neg (by rw[c]; decide)]; exact⟨p,u⟩
  ·rw[if_pos c]
   refine⟨by simpa using Ka.2 p,u,t⟩
theorem VL.IA{l:bc}(h:VL l):aa.fZ l=some true:=by
 have b:=h.q.base
 unfold aa.fZ aa.nJ
 refine bB cN (bF (by rw[UJ h.r]; rfl) (bF (decide_eq_false (by have:=h.d; omega)) (bF (decide_eq_false (by have:=h.d; omega)) (bB h.q.IA (bF rfl ?_)))))
 rcases h.st with ⟨c,p,u⟩|⟨c,p,u,t⟩
 ·exact bF (by rw[c]; rfl) (bB (UE _) (bT p (bT (decide_eq_true u.1) (by rw[decide_eq_true u.2]))))
 ·exact bT (by rw[c]; rfl) (bT (Ka.2 p) (bT (by rw[u]; rfl) (bB (SP _ (by have:=b.n; omega) h.q.few.2) (by rw[t]; rfl))))
def unt(r:Int)(b:Bool)(p:an)(now:Int):Int:=bif b then now+(1000*p.aA+r-1)/r else 0
theorem Rs{p:an}(h:mi p=true):1≤p.aA∧p.aA≤10000:=by
 simp only[mi,Bool.and_eq_true,decide_eq_true_eq]at h
 obtain⟨_,_,_,_,h,_⟩:=h
 exact h
theorem Kb{r now:Int}{p:an}(hr:1≤r∧r≤1000000)(hp:mi p=true):IntKind.i64.wrap ((IntKind.i64.wrap (IntKind.i64.wrap (IntKind.i64.wrap (1000*p.aA)+r)-1)).tdiv r)=(1000*p.aA+r-1)/r∧0≤(1000*p.aA+r-1)/r∧(1000*p.aA+r-1)/r≤10000000:=by
 have hs:=Rs hp
 have h0:0≤(1000*p.aA+r-1)/r:=Int.ediv_nonneg (by omega) (by omega)
 have h1:(1000*p.aA+r-1)/r≤10000000:=by
  have:(1000*p.aA+r-1)/r<10000001:=by
   rw[Int.ediv_lt_iff_lt_mul (by omega)]
   have:(10000000:Int)*1≤10000000*r:=Int.mul_le_mul_of_nonneg_left hr.1 (by omega)
   omega
  omega
 refine⟨?_,h0,h1⟩
 rw[aZ (n:=1000*p.aA) (by omega) (by omega),aZ (n:=1000*p.aA+r) (by omega) (by omega),aZ (n:=1000*p.aA+r-1) (by omega) (by omega),Int.tdiv_eq_ediv_of_nonneg (by omega),aZ (by omega) (by omega)]
structure TK(q:Queue)(now:Int)(q':Queue)(p:an)(b:Bool)(d:List an):Prop where
 e:aa.bS q now=some (q',p,b,d,0)
 v:QV q'
 t:q'.ae.e7=now
 d:d.length≤500
 one:b=true→mi p=true
 no:b=false→p=zP∧tot q'.ag=0
theorem N5{q:Queue}(h:QV q){now:Int}(hn:p5 now=true)(hle:q.ae.e7≤now):∃ q' p b d,TK q now q' p b d:=by
 obtain⟨q',v',p',r',e7,j,l,k,hl,hk,ha⟩:=UC h hn hle
 have B:=h.base
 have Ut:=td (List.mem_of_getElem? hl)
 have hlen:=B.len; have yb:=B.r1
 have hd:((l.take k).map (·.P)).length≤500:=by rw[List.length_map,List.length_take]; omega
 rcases ha with ⟨ii,x,xs,m,hx,hm,hL,e⟩|⟨hz,hL,e⟩
 ·refine⟨q',_,true,_,e,v',e7,hd,fun _=>?_,fun h=>Bool.noConfusion h⟩
  have n4:x∈x::xs:=by simp
  have:∃ l∈q.ag,x∈l:=by
   by_cases hi:j=ii
   ·subst hi
    rw[List.getElem?_set_self (List.getElem?_eq_some_iff.1 hl).1,Option.some.injEq]at hx
    exact⟨l,List.mem_of_getElem? hl,List.mem_of_mem_drop (by rw[hx]; exact n4)⟩
   ·rw[List.getElem?_set_ne hi]at hx
    exact⟨_,List.mem_of_getElem? hx,n4⟩
  obtain⟨l',h1,h2⟩:=this
  exact B.okp l' h1 x h2
 ·exact⟨q',zP,false,_,e,v',e7,hd,fun h=>Bool.noConfusion h,fun _=>⟨rfl,by rw[hL,hz]⟩⟩
theorem VL.take{q q':Queue}{r y now:Int}{p:an}{b:Bool}{d:List an}(hr:1≤r∧r≤1000000)(hd:0≤y∧y≤1000000)(hn:p5 now=true)(h:TK q now q' p b d):VL ⟨r,y,q',b,p,unt r b p now⟩:=by
 have kD:=cy.1 hn
 refine⟨hr,hd,h.v,?_⟩
 cases b with
 |true=>
  have ht:=(Kb (now:=now) hr (h.one rfl)).2
  refine .inl ⟨rfl,h.one rfl,?_,?_⟩
  ·show q'.ae.e7≤now+_
   rw[h.t]; omega
  ·show now+_≤_
   omega
 |false=>exact .inr ⟨rfl,(h.no rfl).1,rfl,(h.no rfl).2⟩
abbrev LR:Type:=bc×List an×Int
theorem C4{d:List an}{n:Nat}(h:d.length≤n)(hn:n≤100000):(decide (d.length*56≤2^44)&&decide (d.length≤2^44))=true:=UJ (by omega)
theorem Rt{l:bc}(h:VL l)(hb:l.iX=true)(hu:l.cO≤10000000){q':Queue}{p:an}{b:Bool}{d:List an}(ht:TK l.Queue l.cO q' p b d):
  aa.gx l l.cO=some (⟨l.dq,l.di,q',b,p,unt l.dq b p l.cO⟩,l.dr,d,0):=by
 unfold aa.gx
 have h7:=h.q.base.t0
 have hr:=h.r
 have lQ:l.Queue.ae.e7≤l.cO:=by
  rcases h.st with ⟨_,_,u⟩|⟨c,_⟩
  ·exact u.1
  ·rw[hb]at c; exact Bool.noConfusion c
 have hn:p5 l.cO=true:=cy.2 (by omega)
 refine bB h.valid (bF rfl (bB (sr _) (bF (by rw[hn]; rfl) (bF (by rw[hb]; rfl) (bF (by simp) (bB ht.e (bF rfl ?_)))))))
 cases b with
 |true=>
  obtain⟨t1,t2,t3⟩:=Kb (now:=l.cO) hr (ht.one rfl)
  rw[t1,aZ (by omega) (by omega)]
  refine bT rfl (bF (decide_eq_false (by omega)) ?_)
  cases d with
  |nil=>rfl
  |cons x xs=>exact bF rfl (bT (C4 ht.d (by omega)) rfl)
 |false=>
  refine bF rfl ?_
  cases d with
  |nil=>rfl
  |cons x xs=>exact bF rfl (bT (C4 ht.d (by omega)) rfl)
end Go.Proofs.YtpodhambaehlkaaGreatDoor
end
section
/- Plain facts of this seat: a packet arrives at a valid link; the laws LinkValid and LinkOtherRate. -/
set_option maxRecDepth 100000
namespace Go.Proofs.YtpodhambaehlkaaGreatDoor
open Go.PI Go.Pl
abbrev zL:bc:=bc.mk 0 0 (Queue.mk (af.mk 0 0 0 0) 0 [] (A8.mk 0 0 0 0 0 0 0 0) 0) false (an.mk 0 0 0 0 0 0 false false) 0
theorem N6{l:bc}(h:VL l)(p:an)(now:Int):∃ l' d e,aa.oH l p now=some (l',d,e)∧((e=0∧VL l')∨(e≠0∧l'=zL)):=by
 unfold aa.oH
 cases hp:mi p with
 |false=>exact⟨zL,[],1,bB h.valid (bF rfl (bB (N4 _) (bT (by rw[hp]; rfl) rfl))),.inr ⟨by decide,rfl⟩⟩
 |true=>
 cases hn:p5 now with
 |false=>exact⟨zL,[],1,bB h.valid (bF rfl (bB (N4 _) (bF (by rw[hp]; rfl) (bB (sr _) (bT (by rw[hn]; rfl) rfl))))),.inr ⟨by decide,rfl⟩⟩
 |true=>
 by_cases cr:now<l.Queue.ae.e7
 ·exact⟨zL,[],18,bB h.valid (bF rfl (bB (N4 _) (bF (by rw[hp]; rfl) (bB (sr _) (bF (by rw[hn]; rfl) (bT (decide_eq_true cr) rfl)))))),.inr ⟨by decide,rfl⟩⟩
 have hle:=Int.not_lt.1 cr
 have pre:∀ {X r:Option LR},X=r→((aa.gZ l).bind fun b1=>bif !b1 then some (zL,[],1) else (aa.gw p).bind fun b2=>bif !b2 then some (zL,[],1) else (aa.gY now).bind fun b3=>bif !b3 then some (zL,[],1) else bif decide (now<l.Queue.ae.e7) then some (zL,[],18) else X)=r:=fun hx=>
  bB h.valid (bF rfl (bB (N4 _) (bF (by rw[hp]; rfl) (bB (sr _) (bF (by rw[hn]; rfl) (bF (decide_eq_false cr) hx))))))
 obtain⟨q1,v1,p1,r1,t1,ha⟩:=XO h.q hp hn hle
 have hr:=h.r
 rcases h.st with ⟨hb,cU,u⟩|⟨hb,cU,u,ht⟩
 ·by_cases hu:l.cO<now
  ·exact⟨zL,[],18,pre (bT hb (bT (decide_eq_true hu) rfl)),.inr ⟨by decide,rfl⟩⟩
  ·have hv:VL ⟨l.dq,l.di,q1,l.iX,l.dr,l.cO⟩:=⟨h.r,h.d,v1,.inl ⟨hb,cU,by show q1.ae.e7≤l.cO; rw[t1]; omega,u.2⟩⟩
   rcases ha with ⟨_,e⟩|⟨_,_,_,_,_,_,_,e⟩
   ·exact⟨_,[p],0,pre (bT hb (bF (decide_eq_false hu) (bB e (bF rfl (bF rfl (bT (C4 (d:=[p]) (n:=1) (by simp) (by omega)) (bF (by rw[hb]; rfl) rfl))))))),.inl ⟨rfl,hv⟩⟩
   ·exact⟨_,[],0,pre (bT hb (bF (decide_eq_false hu) (bB e (bF rfl (bT rfl (bF (by rw[hb]; rfl) rfl)))))),.inl ⟨rfl,hv⟩⟩
 ·obtain⟨q2,p2,b2,d2,hk⟩:=N5 v1 hn (by rw[t1]; exact Int.le_refl _)
  have hv:=VL.take h.r h.d hn hk
  have hd:=hk.d
  have hz:decide (l.dq=0)=false:=decide_eq_false (by omega)
  have hto:=cy.1 hn
  rcases ha with ⟨_,e⟩|⟨_,_,_,_,_,_,_,e⟩
  ·have hs:(decide (([p].length+d2.length)*56≤2^44)&&decide ([p].length+d2.length≤2^44))=true:=UJ (by simp only[List.length_cons,List.length_nil]; omega)
   refine⟨_,[p]++d2,0,pre (bF hb (bB e (bF rfl (bF rfl (bT (C4 (d:=[p]) (n:=1) (by simp) (by omega)) (bT (by rw[hb]; rfl) (bB hk.e (bF rfl ?_)))))))),.inl ⟨rfl,hv⟩⟩
   cases b2 with
   |true=>
    obtain⟨t1,t2,t3⟩:=Kb (now:=now) hr (hk.one rfl)
    rw[t1,aZ (by omega) (by omega)]
    exact bT rfl (bF hz (bT hs rfl))
   |false=>exact bF rfl (bT hs rfl)
  ·refine⟨_,d2,0,pre (bF hb (bB e (bF rfl (bT rfl (bT (by rw[hb]; rfl) (bB hk.e (bF rfl ?_))))))),.inl ⟨rfl,hv⟩⟩
   cases b2 with
   |true=>
    obtain⟨t1,t2,t3⟩:=Kb (now:=now) hr (hk.one rfl)
    rw[t1,aZ (by omega) (by omega)]
    refine bT rfl (bF hz ?_)
    cases d2 with
    |nil=>rfl
    |cons x xs=>exact bF rfl (bT (C4 hd (by omega)) rfl)
   |false=>
    refine bF rfl ?_
    cases d2 with
    |nil=>rfl
    |cons x xs=>exact bF rfl (bT (C4 hd (by omega)) rfl)
theorem UK{l:bc}(h:VL l)(now:Int):∃ l' p d e,aa.gx l now=some (l',p,d,e)∧((e=0∧VL l')∨(e≠0∧l'=zL)):=by
 cases hn:p5 now with
 |false=>
  unfold aa.gx
  exact⟨zL,zP,[],1,bB h.valid (bF rfl (bB (sr _) (bT (by rw[hn]; rfl) rfl))),.inr ⟨by decide,rfl⟩⟩
 |true=>
 cases hb:l.iX with
 |false=>
  unfold aa.gx
  exact⟨zL,zP,[],6,bB h.valid (bF rfl (bB (sr _) (bF (by rw[hn]; rfl) (bT (by rw[hb]; rfl) rfl)))),.inr ⟨by decide,rfl⟩⟩
 |true=>
 by_cases hu:now=l.cO
 ·subst hu
  have hle:l.Queue.ae.e7≤l.cO:=by
   rcases h.st with ⟨_,_,u⟩|⟨c,_⟩
   ·exact u.1
   ·rw[hb]at c; exact Bool.noConfusion c
  obtain⟨q2,p2,b2,d2,hk⟩:=N5 h.q hn hle
  exact⟨_,_,_,0,Rt h hb (cy.1 hn).2 hk,.inl ⟨rfl,VL.take h.r h.d hn hk⟩⟩
 ·unfold aa.gx
  exact⟨zL,zP,[],18,bB h.valid (bF rfl (bB (sr _) (bF (by rw[hn]; rfl) (bF (by rw[hb]; rfl) (bT (by rw[beq_eq_false_iff_ne.2 hu]; rfl) rfl))))),.inr ⟨by decide,rfl⟩⟩
theorem XW{l:bc}(h:VL l)(jh:Int):∃ l' e,aa.ss l jh=some (l',e)∧((e=0∧VL l'∧(1≤jh∧jh≤1000000)∧l'=⟨jh,l.di,l.Queue,l.iX,l.dr,l.cO⟩)∨(e≠0∧l'=zL)):=by
 unfold aa.ss
 by_cases hr:1≤jh∧jh≤1000000
 ·exact⟨_,0,bB h.valid (bF rfl (bB (Iz _ _ _) (bF (by rw[UJ hr]; rfl) rfl))),.inl ⟨rfl,⟨hr,h.d,h.q,h.st⟩,hr,rfl⟩⟩
 ·exact⟨zL,1,bB h.valid (bF rfl (bB (Iz _ _ _) (bT (by
   have:¬(1≤jh∧jh≤1000000):=hr
   cases h1:(decide (1≤jh)&&decide (jh≤1000000)) with
   |false=>rfl
   |true=>simp only[Bool.and_eq_true,decide_eq_true_eq]at h1; exact absurd h1 hr) rfl))),.inr ⟨by decide,rfl⟩⟩
/-! ### Things are the same as themselves -/
theorem all_true{α:Type}(l:List α):(l.all fun _=>true)=true:=by simp
theorem Lj(a:List ai)(h:a.length≤2^62):aa.kn a a=some true:=by
 unfold aa.kn
 refine bF (by simp) (bB (qb a (fun i=>(false,(i:Int))) (fun _=>true) (Sum.inl false) (Sum.inr (false,(a.length:Int))) ?_ (bF (jx _) rfl) rfl) ?_)
 rotate_left
 ·rw[all_true]; rfl
 ·intro i hi
  refine bT (fo hi) (bT (ct i) (bB (v:=a[i]) (by simp[hi]) (bT (ct i) (bB (v:=a[i]) (by simp[hi]) (bF (by simp) ?_)))))
  rw[aZ (n:=(i:Int)+1) (by omega) (by omega)]; rfl
theorem UL(q:Queue)(hn:q.ag.length≤2^62)(h:tot q.ag≤2^62):aa.nK q q=some true:=by
 unfold aa.nK
 refine bF (by simp) (bF (by simp) (bF (by simp) (bF (by simp) (bF (by simp) (bB (qb q.ag (fun i=>(false,(i:Int))) (fun _=>true) (Sum.inl false) (Sum.inr (false,(q.ag.length:Int))) ?_ (bF (jx _) rfl) rfl) ?_)))))
 rotate_left
 ·rw[all_true]; rfl
 ·intro i hi
  have hm:=td (List.getElem_mem hi)
  refine bT (fo hi) (bT (ct i) (bB (v:=q.ag[i]) (by simp[hi]) (bT (ct i) (bB (v:=q.ag[i]) (by simp[hi]) (bB (Lj _ (by omega)) (bF rfl ?_))))))
  rw[aZ (n:=(i:Int)+1) (by omega) (by omega)]; rfl
theorem UM(l:bc)(hn:l.Queue.ag.length≤2^62)(h:tot l.Queue.ag≤2^62):aa.jz l l=some true:=by
 unfold aa.jz
 exact bT (by simp) (bT (by simp) (bB (UL _ hn h) (bT rfl (bT (by simp) (bT (by simp) (by simp))))))
theorem A1{l:bc}{e:Int}(h:(e=0∧VL l)∨(e≠0∧l=zL)):aa.dT l e=some true:=by
 unfold aa.dT
 rcases h with ⟨rfl,h⟩|⟨he,rfl⟩
 ·refine bT rfl (bB h.IA (bT rfl ?_))
  rcases h.st with ⟨hb,_⟩|⟨hb,_,_,ht⟩
  ·exact bT hb rfl
  ·exact bF hb (bB h.q.size (bT (by rw[ht]; rfl) rfl))
 ·exact bF (by simpa using he) (bT (by simpa using he) (bB (UM zL (by decide) (by decide)) rfl))
theorem y9(l:bc)(p:an)(now jh:Int)(hb:Bq l.Queue):aa.jn l p now jh=some true:=by
 unfold aa.jn aa.tg
 refine bB (v:=true) rfl (bB (bB (XU l.Queue hb.n) rfl) ?_)
 cases hf:(l.Queue.ag.all (fun l=>!decide (600<(l.length:Int)))&&decide ((l.Queue.ag.length:Int)≤20))
 ·rfl
 refine bF rfl ?_
 obtain⟨b,Qa,H5⟩:=rL0 l hf hb
 refine bB Qa ?_
 cases b with
 |false=>rfl
 |true=>
  have h:=H5.1 rfl
  obtain⟨a,d,e,ha,P7⟩:=N6 h p now
  obtain⟨c,q,x,f,hc,HB⟩:=UK h now
  obtain⟨m,g,hm,DM⟩:=XW h jh
  refine bF rfl (bB ha (bB hc (bB hm (bT rfl (bB (A1 P7) (bT rfl (bB (A1 HB) (bT rfl (bB (A1 ?_) rfl)))))))))
  rcases DM with ⟨h1,h2,_⟩|h1
  ·exact .inl ⟨h1,h2⟩
  ·exact .inr h1
end Go.Proofs.YtpodhambaehlkaaGreatDoor
end
section
set_option maxRecDepth 100000
namespace Go.Proofs.YtpodhambaehlkaaGreatDoor
open Go.PI Go.ChangeShapes Go.WideShapes Go.ChangeAt Go.RowKit
theorem U5 {W : World} (h : laidMetH Tryz.prog [("queuelab/random.mixing", Rows.laid_queuelab_random_mixing)] W) :
  W.var? Tryz.prog "queuelab/random.mixing" = some #[.int .u64 30, .int .u64 13787848793156543929, .int .u64 27, .int .u64 10723151780598845931, .int .u64 31, .int .u64 1] := by
 rw[MakeChecks.laidMetH_plain _ _ _ (by kernel_rfl)]at h
 obtain⟨ps,⟨g,t,cs,fuel,p,q,hg,ht,hv,hd,_,_⟩,_,_⟩:=h
 obtain rfl := Option.some.inj ((show Tryz.prog.globalNamed "queuelab/random.mixing" = some 0 by kernel_rfl).symm.trans hg)
 obtain rfl:=Option.some.inj ((show (Tryz.prog.globals[0]?).map (·.type)=some 154 by kernel_rfl).symm.trans ht)
 have acF:Tryz.prog.cellsOf 153=2:=by kernel_rfl
 have acG:Tryz.prog.cellsOf 154=6:=by kernel_rfl
 have acH:Tryz.prog.cellsOf 148=1:=by kernel_rfl
 have c26:Tryz.prog.cellsOf 26=1:=by kernel_rfl
 obtain⟨xs,m,_,ex,hlen,hl,vD⟩:=DataW.trod_array Tryz.underlying154 hd
 rw[acG]at hlen
 obtain⟨l⟩:=cs
 match l,hlen with
 |[a0,a1,a2,a3,a4,a5],_=>
  match xs,hl with
  |[x0,x1,x2],_=>
   have e3:=(DataW.agg.inj (Prod.mk.inj ex).1)
   simp only[List.map_cons,List.map_nil,List.cons.injEq,and_true]at e3
   have k0:=vD 0 (by omega); have k1:=vD 1 (by omega); have k2:=vD 2 (by omega)
   rw[acF]at k0 k1 k2
   obtain⟨y0,z0,_,ex0,_,p0,q0⟩:=trod_struct2 Tryz.underlying153 k0
   obtain⟨y1,z1,_,ex1,_,p1,q1⟩:=trod_struct2 Tryz.underlying153 k1
   obtain⟨y2,z2,_,ex2,_,p2,q2⟩:=trod_struct2 Tryz.underlying153 k2
   simp only[acH,c26]at p0 q0 p1 q1 p2 q2
   obtain⟨m0,b0,d0,_⟩:=DataW.trod_int Tryz.underlying148 p0
   obtain⟨n0,g0,h0,_⟩:=DataW.trod_int Tryz.underlying26 q0
   obtain⟨m1,b1,d1,_⟩:=DataW.trod_int Tryz.underlying148 p1
   obtain⟨n1,g1,h1,_⟩:=DataW.trod_int Tryz.underlying26 q1
   obtain⟨m2,b2,d2,_⟩:=DataW.trod_int Tryz.underlying148 p2
   obtain⟨n2,g2,h2,_⟩:=DataW.trod_int Tryz.underlying26 q2
   rw[hv]
   simp at b0 g0 b1 g1 b2 g2
   subst d0 h0 d1 h1 d2 h2 ex0 ex1 ex2 b0 g0 b1 g1 b2 g2
   simp at e3
   obtain⟨⟨f0,f1⟩,⟨f2,f3⟩,f4,f5⟩:=e3
   subst f0 f1 f2 f3 f4 f5
   rfl
theorem U6 {W : World} (h : laidMetH Tryz.prog [("queuelab/random.mixing", Rows.laid_queuelab_random_mixing)] W) : mn (Env.all W) := by
 have hv:=U5 h
 intro b c hb
 have qR:b=0∧c=#[.int .u64 30,.int .u64 13787848793156543929,.int .u64 27,.int .u64 10723151780598845931,.int .u64 31,.int .u64 1]:=by
  cases b with
  |zero=>exact⟨rfl,(Option.some.inj hb).symm⟩
  |succ n=>cases hb
 obtain⟨rfl,rfl⟩:=qR
 unfold World.var? at hv
 rw [show Tryz.prog.globalNamed "queuelab/random.mixing" = some 0 by kernel_rfl] at hv
 simp only[Option.bind_some]at hv
 constructor
 ·show (match W.heap[0]? with|some (.cells c _ _)=>some c|_=>none)=_
  split at hv
  ·rename_i cs T fz hw
   rw[hw]
   exact hv
  ·cases hv
 ·intro x hx
  simp only[List.mem_cons,List.not_mem_nil,or_false]at hx
  rcases hx with rfl|rfl|rfl|rfl|rfl|rfl<;>rfl
end Go.Proofs.YtpodhambaehlkaaGreatDoor
end
section
/- The law LinkValid: its row. -/
namespace Go.Proofs.YtpodhambaehlkaaGreatDoor.Dy
open Go.PI Go.ChangeShapes Go.WideShapes Go.ChangeAt Go.RowKit
theorem own:ownKnob Tryz.prog.godebug=none:=by kernel_rfl
theorem laidOut:laidOutB Tryz.prog=true:=by kernel_rfl
theorem okWide_struct{P:Program}{w:World}{r:Reach}{base:Nat}{t:TypeId}{v:Value}{fs:Array Field}(ht:P.underlying t=some (.struct fs))(h:Value.okWide P w r base t v):∃ cs,v=.agg cs:=by
 unfold Value.okWide at h
 rw[ht]at h
 obtain⟨cs,h,_⟩:=h
 exact⟨cs,h⟩
theorem Ky{E:Env}{l:List AV}{cs:Array Value}(h:aO E false l (Value.agg cs).cells.toList):ar E false (.agg l) (.agg cs):=by
 simp only[ar]
 exact⟨cs.toList,by simp,by simpa[Value.cells] using h⟩
theorem WS{E:Env}{l:List AV}{a:Option Addr}{len cap:Nat}(h:aO E false l (Value.slice a len cap).cells.toList){x:AV}(hl:l=[x]):ar E false x (.slice a len cap):=by
 subst hl
 have h2:ar E false x (Value.slice a len cap)∧jE (Value.slice a len cap)=true:=by simpa[Value.cells,aO] using h
 exact h2.1
theorem walk(W:World)(YJ:Array Value)(YK:Array Value)(a2:Int)(a3:Int){l0:List AV}{l1:List AV}(e0:aO (Env.all W) false l0 (Value.agg YJ:Value).cells.toList)(e1:aO (Env.all W) false l1 (Value.agg YK:Value).cells.toList){n0:Nat}(s0:Shape Tryz.prog n0 32 l0){n1:Nat}(s1:Shape Tryz.prog n1 30 l1)(hw2:(Lit.int .i64 a2).wf=true)(hw3:(Lit.int .i64 a3).wf=true)(hG:mn (Env.all W)):Calls Tryz.prog 4 #[.agg YJ,.agg YK,.int .i64 a2,.int .i64 a3] W fun e w'=>e=.returned (.bool true)∧Below W.heap.size W w':=by
 obtain⟨x0,w0,r0⟩:=adn (aL (show Tryz.prog.underlying 32=Tryz.prog.underlying 31 by kernel_rfl) s0)
 obtain⟨x1,w1,r1⟩:=Vy (aL (show Tryz.prog.underlying 30=Tryz.prog.underlying 29 by kernel_rfl) s1)
 have hs:wC C T 4 ⟨[32,30,3,3],[4],fun x=>Go.aa.jn x.1 x.2.1 x.2.2.1 x.2.2.2⟩:=R3 s91 rfl
 refine O1 Cok hs rfl (x:=(x0,x1,a2,a3)) (y:=true) (y9 x0 x1 a2 a3 (XV w0.2.2.1)) ?_ («as»:=[.agg l0,.agg l1,.lit (.int .i64 a2),.lit (.int .i64 a3)]) ⟨r0,r1,rfl,rfl,trivial⟩ hG (vs:=[.agg YJ,.agg YK,.int .i64 a2,.int .i64 a3]) ?_
 ·intro l hl
  match l,hl with
  |[a],hl=>have:a=.lit (.bool true):=hl.1; rw[this]
  |[],hl=>exact False.elim hl
  |_::_::_,hl=>exact False.elim hl.2
 ·simp only[aw]
  exact⟨Ky e0,Ky e1,by simp[ar],by simp[ar],trivial⟩
set_option maxRecDepth 100000 in
theorem lifted(os:Os)(started:os.Started)(H:Type)(enc:TypeId×Value→H):
  ReturnsInHanded {} Tryz.checked os 4 .any (fun w args=>(Rows.linkValidSpec.pre enc Tryz.prog Tryz.f4 [] false w args∧laidMetH Tryz.prog Rows.linkValidRow.laid w)∧sizedMet enc Tryz.prog Tryz.f4 (OpenSpec.ofChange Rows.linkValidSpec) false w args) (Rows.linkValidSpec.post enc Tryz.prog Tryz.f4 false true false false):=by
 refine returnsInHanded_of_change_and (C:=Tryz.checked) (X:=fun w _=>laidMetH Tryz.prog Rows.linkValidRow.laid w) (fun _ _ _ hh h=>h.of_heap hh) own started (by kernel_rfl) Tryz.func4
  (ChangeSpec.witness_at (enc:=enc) (C:=Tryz.checked) (os:=os) (X:=fun w _=>laidMetH Tryz.prog Rows.linkValidRow.laid w) false (World.laidAll Tryz.prog os Rows.linkValidRow.laid) #[.agg #[.int .i64 0,.int .i64 0,.int .i64 0,.int .i64 0,.int .i64 0,.int .i64 0,.int .i64 0,.slice none 0 0,.int .i64 0,.int .i64 0,.int .i64 0,.int .i64 0,.int .i64 0,.int .i64 0,.int .i64 0,.int .i64 0,.int .u64 0,.bool false,.int .i64 0,.int .i64 0,.int .i64 0,.int .i64 0,.int .i64 0,.int .i64 0,.bool false,.bool false,.int .i64 0],.agg #[.int .i64 0,.int .i64 0,.int .i64 0,.int .i64 0,.int .i64 0,.int .i64 0,.bool false,.bool false],.int .i64 0,.int .i64 0] 8 (World.laidAll_os _ _ _) (by kernel_rfl) (by kernel_rfl) (by kernel_rfl) (by kernel_rfl) (by kernel_rfl)
    (by rw[MakeChecks.laidMetH_plain _ _ _ (by kernel_rfl)]; exact laidMet_laidAll _ (by kernel_rfl) (by kernel_rfl))) ?_
 intro W base args ds gs before Tc hW _ _ hL _
 have hG:mn (Env.all W):=U6 hL
 have O2:∀ (j:Nat) t v,Tryz.f4.params[j]?=some t→args[j]?=some v→Value.okWide Tryz.prog W .any base t v:=Tc
 have hW':=hW
 obtain⟨p,q,hA0,hV,rfl,Qw,CR⟩:=hW
 have hA:DataW.TrodAll enc Tryz.prog W 0 (fun _=>true) true Tryz.f4.params.toList args.toList ds p:=hA0
 rw[Tryz.params4]at hA O2
 obtain⟨v0,vs0,d0,ds0,p0,q0,ot,rfl,rfl,h0,r0⟩:=trodAll_cons hA
 obtain⟨v1,vs1,d1,ds1,p1,q1,rfl,rfl,rfl,h1,r1⟩:=trodAll_cons r0
 obtain⟨v2,vs2,d2,ds2,p2,q2,rfl,rfl,rfl,h2,r2⟩:=trodAll_cons r1
 obtain⟨v3,vs3,d3,ds3,p3,q3,rfl,rfl,rfl,h3,r3⟩:=trodAll_cons r2
 obtain⟨rfl,rfl,rfl⟩:=trodAll_nil r3
 obtain rfl:args=#[v0,v1,v2,v3]:=by cases args; simp_all
 obtain⟨rfl,rfl⟩:=trodVars_none hV
 obtain⟨YJ,rfl⟩:=okWide_struct Tryz.underlying32 (O2 0 32 v0 rfl rfl)
 obtain⟨YK,rfl⟩:=okWide_struct Tryz.underlying30 (O2 1 30 v1 rfl rfl)
 obtain⟨a2,rfl,rfl,rfl,w2⟩:=open_int Tryz.underlying3 (O2 2 3 v2 rfl rfl) h2
 obtain⟨a3,rfl,rfl,rfl,w3⟩:=open_int Tryz.underlying3 (O2 3 3 v3 rfl rfl) h3
 have k0:=h0
 have lt0:∀ x∈p0,x.block<W.heap.size:=by obtain⟨m,hm⟩:=k0; exact DataW.trod_lt m _ _ _ hm
 have k1:=h1
 have lt1:∀ x∈p1,x.block<W.heap.size:=by obtain⟨m,hm⟩:=k1; exact DataW.trod_lt m _ _ _ hm
 obtain⟨f0,hf0⟩:=h0
 obtain⟨l0,e0,s0⟩:=JB f0 10 32 _ _ (by kernel_rfl) hf0
 obtain⟨f1,xp⟩:=h1
 obtain⟨l1,e1,s1⟩:=JB f1 10 30 _ _ (by kernel_rfl) xp
 clear hA0 Tc
 refine(walk W YJ YK a2 a3 e0 e1 s0 s1 w2 w3 hG).mono fun e W' ⟨he,bel⟩=>?_
 subst he
 exact⟨_,rfl,_,_,_,[],_,[],hW',trodAll_mk1 (shut_bool Tryz.underlying4 _),(trodAll_cons_mk (Below.trod laidOut (by kernel_rfl) (of_decide_eq_true (by kernel_rfl)) k0 bel lt0) (trodAll_cons_mk (Below.trod laidOut (by kernel_rfl) (of_decide_eq_true (by kernel_rfl)) k1 bel lt1) (trodAll_cons_mk (shut_int Tryz.underlying3 w2) (trodAll_cons_mk (shut_int Tryz.underlying3 w3) trodAll_mk0)))),rfl,bel.frame _,fun h=>by cases h⟩
theorem over:Rows.linkValidRow.holds Tryz.pinned (OpenSpec.ofChange Rows.linkValidSpec):=
 OpenClaim.holds_of_wide 4 Tryz.f4 rfl rfl rfl rfl rfl rfl rfl ⟨rfl,rfl,rfl,rfl,rfl⟩ rfl rfl rfl rfl rfl (by kernel_rfl) Tryz.func4 (by kernel_rfl)
  (of_decide_eq_true (by kernel_rfl)) (by unfold Func.isWrapper; first|(rw[if_pos (by decide +kernel)]; kernel_rfl)|(rw[if_neg (by decide +kernel)]; exact⟨rfl,rfl⟩))
  (fun os started H enc _=>lifted os started H enc)
theorem proved:Rows.LinkValidSaid:=over
theorem adp:Rows.LinkValidCardSaid:=
 Claim7.holds_tied_plain_at .later [] [.data] true (true, "271e60aeae1f627d554caaa1710f0c1be2ae30145d7f6ebf729985419eb3bc93") true proved (fun _ h => by cases h) (by kernel_rfl) (fun _ h => by cases h) linkValid_row_tie rfl ⟨rfl, rfl⟩ (by kernel_rfl) rfl
  (fun f fn hf tD=>by
    obtain rfl : f = 4 := Option.some.inj ((show Tryz.prog.funcNamed "queuelab/queuelablaw26.LinkValid" = some 4 by kernel_rfl).symm.trans hf) |>.symm
    obtain rfl:fn=Tryz.f4:=(Option.some.inj (Tryz.func4.symm.trans tD)).symm
    exact⟨by kernel_rfl,fun j t ht=>by
     rw[Tryz.params4]at ht
     have hm:t∈[32,30,3,3]:=by simpa using Array.mem_of_getElem? ht
     have bK:([32,30,3,3].all fun u=>!Tryz.prog.wantsStandIn u)=true:=by kernel_rfl
     exact(show Tryz.prog.wantsStandIn t=false by simpa using List.all_eq_true.1 bK t hm)⟩)
  (by kernel_rfl)
end Go.Proofs.YtpodhambaehlkaaGreatDoor.Dy
namespace Go.Proofs.YtpodhambaehlkaaGreatDoor
theorem linkValid_card_holds:Rows.LinkValidCardSaid:=Dy.adp
end Go.Proofs.YtpodhambaehlkaaGreatDoor
end
