/- The law LinkOtherRate returns true for every input, and each argument reads as it read before; the package variable that it reads is laid by the program's text (a tied card); no conditions. This file: the row and the card, last of the parts. -/
import Derived.IntWalk
import Derived.KernelRfl
import Derived.Test.YtpodhambaehlkaaGreatDoorRows
import Derived.WalkKit
import Derived.ProofKit
import Derived.OpenShut
import Derived.ShutString
import Derived.ChangeOld
import Derived.ChangeSame
import Derived.Below
import Derived.SizedLaws
import Derived.LaidMore
import Derived.MakeChecks
import Derived.Lay
import Derived.LaidOnce
import Derived.SevenTiedAt
import Derived.Test.YtpodhambaehlkaaGreatDoorCards
import Derived.Test.YtpodhambaehlkaaGreatDoorTie
import Derived.Test.YtpodhambaehlkaaGreatDoorX10
set_option linter.unusedVariables false
set_option linter.unusedSimpArgs false
section
/- Plain laws of this seat: new queues. -/
set_option maxRecDepth 100000
namespace Go.Proofs.YtpodhambaehlkaaGreatDoor
open Go.PI Go.Pl
theorem cN{a b:Bool}:(bif a then some b else some false)=some (a&&b):=by cases a<;>rfl
abbrev zP:an:=an.mk 0 0 0 0 0 0 false false
abbrev zQ:Queue:=Queue.mk (af.mk 0 0 0 0) 0 [] (A8.mk 0 0 0 0 0 0 0 0) 0
def tu(n:Int):Bool:=decide (0≤n)&&decide (n≤10000000)
theorem Ty(n lo hi:Int):aa.dH n lo hi=some (decide (lo≤n)&&decide (n≤hi)):=cN
theorem Nl(n lo hi:Int):aa.eO n lo hi=some (decide (lo≤n)&&decide (n≤hi)):=cN
theorem Tz(n lo hi:Int):aa.bo n lo hi=some (decide (lo≤n)&&decide (n≤hi)):=cN
theorem H9(n:Int):aa.eR n=some (tu n):=by
 unfold aa.eR
 rw[Tz]; rfl
theorem TA(n lo hi:Int):aa.aR n lo hi=some (decide (lo≤n)&&decide (n≤hi)):=cN
theorem BM(n lo hi:Int):aa.bL n lo hi=some (decide (lo≤n)&&decide (n≤hi)):=cN
theorem Fz(n lo hi:Int):aa.cK n lo hi=some (decide (lo≤n)&&decide (n≤hi)):=cN
theorem Ia(n:Int):aa.gT n=some (tu n):=by
 unfold aa.gT
 rw[Fz]; rfl
theorem oV(n:Int):aa.dU n=some (tu n):=cN
theorem lp{τ ω:Type}{f:τ→Option (τ ⊕ ω)}{x:τ}{w:ω}(n:Nat)(h:lR f n x=some w):aX f x=some w:=nA.2 ⟨n,h⟩
abbrev TR:Type:=Queue×an×Bool×List an×Int
def Ny(r:Option TR)(now:Int):Prop:=∃ q' e,r=some (q',zP,false,[],e)∧(e==0)=tu now
theorem fin{now v:Int}{x1 x2 X:Option TR}(hv:v=0)(h1:x1=some (zQ,zP,false,[],1))(h2:x2=some (zQ,zP,false,[],18))(hX:∃ q',X=some (q',zP,false,[],0)):
  Ny (bif !(decide (0≤now)&&decide (now≤10000000)) then x1 else bif decide (now<v) then x2 else X) now:=by
 subst hv
 unfold Ny tu
 cases h:(decide (0≤now)&&decide (now≤10000000))
 ·exact⟨_,_,h1,rfl⟩
 ·have h':decide (now<0)=false:=by
   simp only[Bool.and_eq_true,decide_eq_true_eq]at h
   exact decide_eq_false (by omega)
  obtain⟨q',hX⟩:=hX
  rw[h']
  exact⟨q',0,hX,rfl⟩
theorem Sf(n:Int):∃ m,aa.eb n=some m:=by
 unfold aa.eb
 cases decide (n.tmod 1000<0)
 ·exact⟨_,rfl⟩
 ·exact⟨_,rfl⟩
theorem Xb(a:Int)(q:Queue)(d o:Int):∃ m,aa.db a q d o=some m:=by
 unfold aa.db
 obtain⟨x,hx⟩:=Sf (IntKind.i64.wrap (q.af.B*IntKind.i64.wrap (d-q.af.A)))
 obtain⟨y,hy⟩:=Sf (IntKind.i64.wrap (q.af.C*IntKind.i64.wrap (d-o)))
 rw[hx,hy]
 exact⟨_,rfl⟩
end Go.Proofs.YtpodhambaehlkaaGreatDoor
end
section
/- Plain facts of this seat: packets, ordered lists, steps of models. -/
set_option maxRecDepth 100000
namespace Go.Proofs.YtpodhambaehlkaaGreatDoor
open Go.PI Go.Pl
section
variable {α β:Type}
theorem bT{c:Bool}{x y r:Option α}(hc:c=true)(hx:x=r):(bif c then x else y)=r:=by subst hc; exact hx
theorem bF{c:Bool}{x y r:Option α}(hc:c=false)(hy:y=r):(bif c then x else y)=r:=by subst hc; exact hy
theorem bB{e:Option β}{v:β}{k:β→Option α}{r:Option α}(he:e=some v)(hk:k v=r):e.bind k=r:=by subst he; exact hk
end
theorem qk{a b:Bool}:(bif !a then some false else some b)=some (a&&b):=by cases a<;>rfl
theorem ql{a b:Bool}:(bif a then some false else some b)=some (!a&&b):=by cases a<;>rfl
def pR(p:an):Bool:=(decide (0≤p.aH)&&decide (p.aH≤7))&&((decide (0≤p.Sub)&&decide (p.Sub≤3))&&((decide (0≤p.Number)&&decide (p.Number≤1000000000)) &&
 ((decide (0≤p.Data)&&decide (p.Data≤1000000000))&&((decide (1≤p.az)&&decide (p.az≤10000))&&(decide (0≤p.aQ)&&decide (p.aQ≤10000000))))))
theorem WX(p:an):aa.lO p=some (pR p):=by
 unfold aa.lO pR
 simp only[Ty,Option.bind_some,cN]
theorem WY(p:an):aa.gS p=some (pR p):=by
 unfold aa.gS pR
 simp only[Nl,Option.bind_some,cN]
theorem WZ(p:an):aa.eE p=some (pR p):=by
 unfold aa.eE pR
 simp only[Tz,H9,tu,Option.bind_some,cN]
theorem W0(p:an):aa.gq p=some (pR p):=by
 unfold aa.gq pR
 simp only[TA,Option.bind_some,cN]
theorem W1(p:an):aa.fP p=some (pR p):=by
 unfold aa.fP pR
 simp only[BM,Option.bind_some,cN]
theorem W3(p:an):aa.iY p=some (pR p):=by
 unfold aa.iY pR
 simp only[Fz,Ia,tu,Option.bind_some,cN]
def td(c:ai→Bool)(hi a:Int)(x:ai):Bool:=c x&&(decide (a≤x.At)&&decide (x.At≤hi))
def cj(c:ai→Bool)(hi:Int):Int→List ai→Bool
 |_,[]=>true
 |a,x::xs=>td c hi a x&&cj c hi x.At xs
theorem walk{τ ω β:Type}{f:τ→Option (τ ⊕ ω)}{K:ω→Option β}(l:List ai)(c:ai→Bool)(hi:Int)(st:Nat→Int→τ)(DQ bad:Option β)
  (h1:∀ i (h:i<l.length) a,td c hi a l[i]=true→f (st i a)=some (.inl (st (i+1) l[i].At)))
  (h2:∀ i (h:i<l.length) a,td c hi a l[i]=false→∃ w,f (st i a)=some (.inr w)∧K w=bad)
  (h3:∀ a,∃ w,f (st l.length a)=some (.inr w)∧K w=DQ) :
  ∀ n i a,l.length-i=n→i≤l.length→(aX f (st i a)).bind K=bif cj c hi a (l.drop i) then DQ else bad:=by
 intro n
 induction n with
 |zero=>
  intro i a hn tn
  have:i=l.length:=by omega
  subst this
  obtain⟨w,hw,hk⟩:=h3 a
  rw[Go.Pl.out hw,List.drop_length]
  exact hk
 |succ n ih=>
  intro i a hn tn
  have cG:i<l.length:=by omega
  rw[List.drop_eq_getElem_cons cG]
  cases ho:td c hi a l[i] with
  |true=>
   rw[Go.Pl.next (h1 i cG a ho),ih (i+1) _ (by omega) cG]
   simp only[cj,ho,Bool.true_and]
  |false=>
   obtain⟨w,hw,hk⟩:=h2 i cG a ho
   rw[Go.Pl.out hw]
   simp only[cj,ho,Bool.false_and,cond_false]
   exact hk
theorem eX{i n:Nat}(h:i<n):decide ((i:Int)<(n:Int))=true:=decide_eq_true (by omega)
theorem iP(n:Nat):decide ((n:Int)<(n:Int))=false:=decide_eq_false (by omega)
theorem ca(i:Nat):decide (0≤(i:Int))=true:=decide_eq_true (by omega)
theorem get_at{l:List ai}{i:Nat}(h:i<l.length):l[(i:Int).toNat]?=some l[i]:=by simp[h]
def cP(x:ai):Bool:=pR x.P
def cF(f:Int)(x:ai):Bool:=pR x.P&&(x.P.aH==f)
def cA(b:Bool)(x:ai):Bool:=pR x.P&&(x.P.aJ==b)
theorem TB(l:List ai)(wZ last:Int)(hl:l.length≤2^63-1):aa.di l wZ last=some (cj (cF wZ) last 0 l):=by
 unfold aa.di
 refine(walk l (cF wZ) last (fun i a=>(false,a,(i:Int))) (some true) (some false) ?_ ?_ ?_ _ 0 0 rfl (Nat.zero_le _)).trans (by rw[List.drop_zero]; cases cj (cF wZ) last 0 l<;>rfl)
 ·intro i h a ho
  simp only[td,cF,Bool.and_eq_true]at ho
  obtain⟨⟨a1,a2⟩,a3,a4⟩:=ho
  simp only[eX h,ca,cond_true,get_at h,Option.bind_some,W1,a1,a2,BM,a3,a4,Bool.and_self,Bool.not_true,cond_false,mT h hl]
 ·intro i h a ho
  simp only[eX h,ca,cond_true,get_at h,Option.bind_some,W1,BM]
  refine⟨.inl false,?_,rfl⟩
  revert ho
  simp only[td,cF]
  cases pR l[i].P<;>cases (l[i].P.aH==wZ)<;>cases (decide (a≤l[i].At)&&decide (l[i].At≤last))<;>intro ho<;>first|rfl|exact absurd ho (by decide)
 ·intro a
  simp only[iP,cond_false]
  exact⟨_,rfl,rfl⟩
theorem JF(l:List ai)(last:Int)(Ib:Bool)(hl:l.length≤2^63-1):aa.lP l last Ib=some (cj (cA Ib) last 0 l):=by
 unfold aa.lP
 refine(walk l (cA Ib) last (fun i a=>(false,a,(i:Int))) (some true) (some false) ?_ ?_ ?_ _ 0 0 rfl (Nat.zero_le _)).trans (by rw[List.drop_zero]; cases cj (cA Ib) last 0 l<;>rfl)
 ·intro i h a ho
  simp only[td,cA,Bool.and_eq_true]at ho
  obtain⟨⟨a1,a2⟩,a3,a4⟩:=ho
  simp only[eX h,ca,cond_true,get_at h,Option.bind_some,W3,a1,a2,Fz,a3,a4,Bool.and_self,Bool.not_true,cond_false,mT h hl]
 ·intro i h a ho
  simp only[eX h,ca,cond_true,get_at h,Option.bind_some,W3,Fz]
  refine⟨.inl false,?_,rfl⟩
  revert ho
  simp only[td,cA]
  cases pR l[i].P<;>cases (l[i].P.aJ==Ib)<;>cases (decide (a≤l[i].At)&&decide (l[i].At≤last))<;>intro ho<;>first|rfl|exact absurd ho (by decide)
 ·intro a
  simp only[iP,cond_false]
  exact⟨_,rfl,rfl⟩
theorem TC(q:Queue)(l:List ai)(hq:q.ah=[l])(hl:l.length≤2^63-1):aa.gk q=some (cj cP q.ae.e7 0 l&&decide ((l.length:Int)≤q.Room)):=by
 unfold aa.gk
 rw[hq]
 refine bB (v:=l) rfl ?_
 refine(walk l cP q.ae.e7 (fun i a=>(false,a,(i:Int))) (some (decide ((l.length:Int)≤q.Room))) (some false) ?_ ?_ ?_ _ 0 0 rfl (Nat.zero_le _)).trans (by rw[List.drop_zero]; cases cj cP q.ae.e7 0 l<;>rfl)
 ·intro i h a ho
  simp only[td,cP,Bool.and_eq_true]at ho
  obtain⟨a1,a3,a4⟩:=ho
  simp only[eX h,ca,cond_true,get_at h,Option.bind_some,WY,a1,Nl,a3,a4,Bool.and_self,Bool.not_true,cond_false,mT h hl]
 ·intro i h a ho
  simp only[eX h,ca,cond_true,get_at h,Option.bind_some,WY,Nl]
  refine⟨.inl false,?_,rfl⟩
  revert ho
  simp only[td,cP]
  cases pR l[i].P<;>cases (decide (a≤l[i].At)&&decide (l[i].At≤q.ae.e7))<;>intro ho<;>first|rfl|exact absurd ho (by decide)
 ·intro a
  simp only[iP,cond_false]
  exact⟨_,rfl,rfl⟩
end Go.Proofs.YtpodhambaehlkaaGreatDoor
end
section
/- Plain facts of this seat: what valid queues are. -/
set_option maxRecDepth 100000
namespace Go.Proofs.YtpodhambaehlkaaGreatDoor
open Go.PI Go.Pl
def tv(n lo hi:Int):Bool:=decide (lo≤n)&&decide (n≤hi)
def sm(q:Queue):Prop:=∀ l∈q.ah,l.length≤2^63-1
theorem zf{α:Type}(a b:List α)(r:List (List α)):(!((a::b::r).length:Int)==(1:Int))=true:=by
 simp only[List.length_cons,Bool.not_eq_true',beq_eq_false_iff_ne,ne_eq]; omega
def vE(q:Queue):Bool:=(q.af.Kind==2)&&(!decide (q.af.A<1)&&(!decide (q.af.B≤q.af.A)&&(!decide (500<q.af.B)&&(tv q.af.C 0 10&&(tv q.Room 1 500 &&
 (match q.ah with
 |[l]=>(0==(0:Int)&&(q.ae.e1==0&&(q.ae.e2==0&&(q.ae.e3==0&&(q.ae.e4==0&&(q.ae.e5==0&&(q.ae.e6==0&&0==(0:Int))))))))&&(tv q.ae.e0 0 512000&&(tv q.ae.e7 0 10000000&&(cj cP q.ae.e7 0 l&&decide ((l.length:Int)≤q.Room))))
 |_=>false))))))
theorem W4(q:Queue)(hs:sm q):aa.fY q=some (vE q):=by
 unfold aa.fY vE tv
 simp only[Nl,Option.bind_some]
 match hq:q.ah with
 |[]=>simp only[List.length_nil]; simp only[show (!((0:Nat):Int)==(1:Int))=true from rfl,cond_true,qk,ql,Bool.and_false]
 |[l]=>
  rw[TC q l hq (hs l (by rw[hq]; simp))]
  simp only[List.length_cons,List.length_nil,show (!((0+1:Nat):Int)==(1:Int))=false from rfl,cond_false,Option.bind_some,qk,ql,cN,Bool.not_not]
  try rfl
 |a::b::r=>simp only[zf,cond_true,qk,ql,Bool.and_false]
theorem Aw(q:Queue)(l:List ai)(hq:q.ah=[l]):aa.bH q=some l:=by
 unfold aa.bH; rw[hq]; rfl
theorem W5(q:Queue)(l:List ai)(hq:q.ah=[l])(hl:l.length≤2^63-1):aa.gF q=some (cj cP q.ae.e7 0 l):=by
 unfold aa.gF
 rw[Aw q l hq]
 refine bB (v:=l) rfl ?_
 refine(walk l cP q.ae.e7 (fun i a=>(0,(i:Int),a)) (some true) (some false) ?_ ?_ ?_ _ 0 0 rfl (Nat.zero_le _)).trans (by rw[List.drop_zero]; cases cj cP q.ae.e7 0 l<;>rfl)
 ·intro i h a ho
  simp only[td,cP,Bool.and_eq_true,decide_eq_true_eq]at ho
  obtain⟨a1,a3,a4⟩:=ho
  simp only[eX h,ca,cond_true,get_at h,Option.bind_some,WX,a1,decide_eq_false (show ¬l[i].At<a by omega),decide_eq_false (show ¬q.ae.e7<l[i].At by omega),Bool.not_true,cond_false,mT h hl]
 ·intro i h a ho
  simp only[eX h,ca,cond_true,get_at h,Option.bind_some,WX]
  refine⟨.inl ((i:Int),l[i].At),?_,?_⟩
  ·revert ho
   simp only[td,cP]
   rw[show decide (l[i].At<a)=!decide (a≤l[i].At) by by_cases h:a≤l[i].At<;>simp[h]<;>omega,show decide (q.ae.e7<l[i].At)=!decide (l[i].At≤q.ae.e7) by by_cases h:l[i].At≤q.ae.e7<;>simp[h]<;>omega]
   cases pR l[i].P<;>cases decide (a≤l[i].At)<;>cases decide (l[i].At≤q.ae.e7)<;>intro ho<;>first|rfl|exact absurd ho (by decide)
  ·show some (!decide (0≤(i:Int)))=some false
   rw[ca]; rfl
 ·intro a
  simp only[iP,cond_false]
  exact⟨_,rfl,rfl⟩
def vT(q:Queue):Bool:=(q.af.Kind==1&&(q.af.A==0&&(q.af.B==0&&q.af.C==0)))&&((q.ae.e0==0&&(q.ae.e1==0&&(q.ae.e2==0&&(q.ae.e3==0&&(q.ae.e4==0&&(q.ae.e5==0&&(q.ae.e6==0&&0==(0:Int)))))))) &&
 ((q.bm==0)&&(tv q.ae.e7 0 10000000&&(tv q.Room 1 500&&(match q.ah with
 |[l]=>decide ((l.length:Int)≤q.Room)&&cj cP q.ae.e7 0 l
 |_=>false)))))
theorem Sb(q:Queue)(hs:sm q):aa.eY q=some (vT q):=by
 unfold aa.eY vT tv
 simp only[Ty,Option.bind_some]
 match hq:q.ah with
 |[]=>simp only[List.length_nil]; simp only[show (((0:Nat):Int)==(1:Int))=false from rfl,cond_false,cN,Bool.and_false]
 |[l]=>
  rw[Aw q l hq,W5 q l hq (hs l (by rw[hq]; simp))]
  simp only[List.length_cons,List.length_nil,show (((0+1:Nat):Int)==(1:Int))=true from rfl,cond_true,Option.bind_some,cN]
  try rfl
 |a::b::r=>
  have:=zf a b r
  rw[Bool.not_eq_true']at this
  simp only[this,cond_false,cN,Bool.and_false]
theorem W6(q:Queue)(hs:sm q):aa.lk q=some (vT q):=by
 unfold aa.lk; rw[Sb q hs]; rfl
end Go.Proofs.YtpodhambaehlkaaGreatDoor
end
section
/- Plain facts of this seat: package early. -/
set_option maxRecDepth 100000
namespace Go.Proofs.YtpodhambaehlkaaGreatDoor
open Go.PI Go.Pl
theorem QI(DS:Int):∃ k s,aa.oi DS=some (k,s):=by
 unfold aa.oi
 exact⟨_,_,bB (lp 4 rfl) rfl⟩
theorem FA(DS n:Int)(h1:1≤n)(h2:n≤1000000000):∃ k s,aa.cJ DS n=some (k,s,0):=by
 unfold aa.cJ
 obtain⟨k,s,h⟩:=QI DS
 exact⟨_,_,bF (decide_eq_false (by omega)) (bF (decide_eq_false (by omega)) (bB h (bF (decide_eq_false (by omega)) rfl)))⟩
structure VE(q:Queue)(l:List ai):Prop where
 kind:q.af.Kind=2
 a1:1≤q.af.A
 ab:q.af.A<q.af.B
 b5:q.af.B≤500
 c0:0≤q.af.C
 c1:q.af.C≤10
 r0:1≤q.Room
 r1:q.Room≤500
 ls:q.ah=[l]
 z:q.ae.e1=0∧q.ae.e2=0∧q.ae.e3=0∧q.ae.e4=0∧q.ae.e5=0∧q.ae.e6=0
 v0:0≤q.ae.e0
 v1:q.ae.e0≤512000
 t0:0≤q.ae.e7
 t1:q.ae.e7≤10000000
 ord:cj cP q.ae.e7 0 l=true
 len:(l.length:Int)≤q.Room
theorem TE(q:Queue):vE q=true↔∃ l,VE q l:=by
 unfold vE tv
 constructor
 ·intro h
  simp only[Bool.and_eq_true,Bool.not_eq_true',decide_eq_true_eq,decide_eq_false_iff_not,beq_iff_eq]at h
  obtain⟨h1,h2,h3,h4,h5,h6,h7⟩:=h
  match hq:q.ah with
  |[]=>rw[hq]at h7; simp at h7
  |a::b::r=>rw[hq]at h7; simp at h7
  |[l]=>
   rw[hq]at h7
   simp only[Bool.and_eq_true,decide_eq_true_eq,beq_iff_eq]at h7
   obtain⟨⟨_,g1,g2,g3,g4,g5,g6,_⟩,g7,g8,g9,KS⟩:=h7
   exact⟨l,h1,by omega,by omega,by omega,by omega,by omega,by omega,by omega,hq,⟨g1,g2,g3,g4,g5,g6⟩,by omega,by omega,by omega,by omega,g9,KS⟩
 ·rintro⟨l,h⟩
  obtain⟨z1,z2,z3,z4,z5,z6⟩:=h.z
  have:=h.a1; have:=h.ab; have:=h.b5; have:=h.c0; have:=h.c1; have:=h.r0; have:=h.r1; have:=h.v0; have:=h.v1; have:=h.t0; have:=h.t1
  rw[h.ls]
  simp only[Bool.and_eq_true,Bool.not_eq_true',decide_eq_true_eq,decide_eq_false_iff_not,beq_iff_eq]
  exact⟨h.kind,by omega,by omega,by omega,⟨by omega,by omega⟩,⟨by omega,by omega⟩,⟨trivial,z1,z2,z3,z4,z5,z6,trivial⟩,⟨by omega,by omega⟩,⟨by omega,by omega⟩,h.ord,h.len⟩
theorem VE.sm{q:Queue}{l:List ai}(h:VE q l):sm q:=by
 intro x hx
 rw[h.ls]at hx
 have:=h.len; have:=h.r1
 simp only[List.mem_singleton]at hx
 subst hx; omega
theorem VE.valid{q:Queue}{l:List ai}(h:VE q l):aa.fY q=some true:=by
 rw[W4 q h.sm,(TE q).2 ⟨l,h⟩]
theorem TG{c:ai→Bool}{a hi tn:Int}{x:ai}(hh:hi≤tn)(h:td c hi a x=true):td c tn a x=true:=by
 simp only[td,Bool.and_eq_true,decide_eq_true_eq]at h ⊢
 exact⟨h.1,h.2.1,by omega⟩
theorem ub{c:ai→Bool}{hi tn:Int}(hh:hi≤tn):∀ {l:List ai} {a:Int},cj c hi a l=true→cj c tn a l=true
 |[],_,_=>rfl
 |x::xs,a,h=>by
  simp only[cj,Bool.and_eq_true]at h ⊢
  exact⟨TG hh h.1,ub hh h.2⟩
theorem QJ{c:ai→Bool}{hi a b:Int}(hh:b≤a):∀ {l:List ai},cj c hi a l=true→cj c hi b l=true
 |[],_=>rfl
 |x::xs,h=>by
  simp only[cj,Bool.and_eq_true,td,decide_eq_true_eq]at h ⊢
  exact⟨⟨h.1.1,by omega,h.1.2.2⟩,h.2⟩
theorem vJ{c:ai→Bool}{hi a:Int}{x:ai}{xs:List ai}(ha:0≤a)(h:cj c hi a (x::xs)=true):cj c hi 0 xs=true:=by
 simp only[cj,Bool.and_eq_true,td,decide_eq_true_eq]at h
 exact QJ (by omega) h.2
theorem JG{c:ai→Bool}{hi:Int}:∀ {a b:List ai},cj c hi 0 (a++b)=true→cj c hi 0 b=true
 |[],b,h=>h
 |x::xs,b,h=>JG (a:=xs) (vJ (Int.le_refl 0) h)
theorem iq{c:ai→Bool}{hi:Int}:∀ {l:List ai} {a:Int},cj c hi a l=true→∀ x∈l,c x=true∧a≤x.At∧x.At≤hi
 |[],_,_,x,hx=>by simp at hx
 |y::ys,a,h,x,hx=>by
  simp only[cj,Bool.and_eq_true,td,decide_eq_true_eq]at h
  rcases List.mem_cons.1 hx with rfl|hx
  ·exact⟨h.1.1,h.1.2.1,h.1.2.2⟩
  ·have:=iq h.2 x hx
   exact⟨this.1,by omega,this.2.2⟩
def pm(p:an)(m:Bool):an:=an.mk p.aH p.Sub p.Number p.Data p.az p.aQ p.aJ m
def mk?(p:an)(m:Bool):Prop:=m=p.aB∨(p.aJ=true∧m=true)
def eQ(q:Queue)(l:List ai)(e0 now s:Int):Queue:=Queue.mk q.af q.Room [l] (A8.mk e0 q.ae.e1 q.ae.e2 q.ae.e3 q.ae.e4 q.ae.e5 q.ae.e6 now) s
theorem W7{q:Queue}{l l':List ai}{e0 now s:Int}(h:VE q l)(h0:0≤e0∧e0≤512000)(hn:0≤now∧now≤10000000)(hl:cj cP now 0 l'=true)(hlen:(l'.length:Int)≤q.Room):VE (eQ q l' e0 now s) l':=
 ⟨h.kind,h.a1,h.ab,h.b5,h.c0,h.c1,h.r0,h.r1,rfl,h.z,h0.1,h0.2,hn.1,hn.2,hl,hlen⟩
theorem cU{n:Int}:tu n=true↔0≤n∧n≤10000000:=by simp[tu]
theorem bk{n:Int}(h1 : -9223372036854775808≤n)(h2:n≤9223372036854775807):IntKind.i64.wrap n=n:=IntWalk.i64_in _ (by omega)
theorem TH{q:Queue}{l:List ai}(h:VE q l){now:Int}(hn:tu now=true)(hle:q.ae.e7≤now):
  aa.nx q now=some (match l with
   |[]=>(eQ q [] q.ae.e0 now q.bm,zP,false,[],0)
   |x::xs=>(eQ q xs q.ae.e0 now q.bm,x.P,true,[],0)):=by
 have hlen:=h.len; have hr:=h.r1
 unfold aa.nx
 refine bB h.valid (bF rfl ?_)
 rw[Nl]
 refine bB (v:=true) (congrArg some hn) (bF rfl ?_)
 refine bF (decide_eq_false (by omega)) ?_
 rw[h.ls]
 refine bB (v:=l) rfl ?_
 cases l with
 |nil=>exact bT rfl rfl
 |cons x xs=>
  simp only[List.length_cons]at hlen
  refine bF rfl (bT (by simp only[List.length_cons,Bool.and_eq_true,decide_eq_true_eq]; omega) ?_)
  refine bF (by simp only[List.length_cons,beq_eq_false_iff_ne]; omega) ?_
  refine bT (by simp only[List.length_cons,Bool.and_eq_true,decide_eq_true_eq,Int.toNat_natCast,Option.getD_none]; omega) ?_
  refine bT (by simp) ?_
  refine bB (v:=x) rfl ?_
  refine bT (by simp only[List.length_cons,decide_eq_true_eq,Int.toNat_natCast]; omega) ?_
  simp[eQ]
end Go.Proofs.YtpodhambaehlkaaGreatDoor
end
section
/- Plain facts of this seat: what comes to package early. -/
set_option maxRecDepth 100000
namespace Go.Proofs.YtpodhambaehlkaaGreatDoor
open Go.PI Go.Pl
section
variable {α β:Type}(P:Option α→Prop)
theorem pT{c:Bool}{x y:Option α}(hc:c=true)(hx:P x):P (bif c then x else y):=by subst hc; exact hx
theorem pF{c:Bool}{x y:Option α}(hc:c=false)(hy:P y):P (bif c then x else y):=by subst hc; exact hy
theorem pC{c:Bool}{x y:Option α}(hx:c=true→P x)(hy:c=false→P y):P (bif c then x else y):=by
 cases c
 ·exact hy rfl
 ·exact hx rfl
theorem pB{e:Option β}{v:β}{k:β→Option α}(he:e=some v)(hk:P (k v)):P (e.bind k):=by subst he; exact hk
end
abbrev PR:Type:=Queue×List an×Int
end Go.Proofs.YtpodhambaehlkaaGreatDoor
end
section
/- Plain facts of this seat: package tail. -/
set_option maxRecDepth 100000
namespace Go.Proofs.YtpodhambaehlkaaGreatDoor
open Go.PI Go.Pl
theorem FB(l:List ai)(h:l.length≤1000):aa.ff l=some l:=by
 unfold aa.ff DT FC
 have h1:l.length*64≤2^44:=by omega
 have h2:l.length≤2^44:=by omega
 simp only[h1,h2,decide_true,Bool.and_self,cond_true]
structure VT(q:Queue)(l:List ai):Prop where
 kind:q.af.Kind=1
 pz:q.af.A=0∧q.af.B=0∧q.af.C=0
 r0:1≤q.Room
 r1:q.Room≤500
 ls:q.ah=[l]
 sd:q.bm=0
 z:q.ae.e0=0∧q.ae.e1=0∧q.ae.e2=0∧q.ae.e3=0∧q.ae.e4=0∧q.ae.e5=0∧q.ae.e6=0
 t0:0≤q.ae.e7
 t1:q.ae.e7≤10000000
 ord:cj cP q.ae.e7 0 l=true
 len:(l.length:Int)≤q.Room
theorem Nm(q:Queue):vT q=true↔∃ l,VT q l:=by
 unfold vT tv
 constructor
 ·intro h
  simp only[Bool.and_eq_true,decide_eq_true_eq,beq_iff_eq]at h
  obtain⟨⟨h1,h2,h3,h4⟩,⟨g0,g1,g2,g3,g4,g5,g6,_⟩,h5,h6,h7,h8⟩:=h
  match hq:q.ah with
  |[]=>rw[hq]at h8; simp at h8
  |a::b::r=>rw[hq]at h8; simp at h8
  |[l]=>
   rw[hq]at h8
   simp only[Bool.and_eq_true,decide_eq_true_eq]at h8
   exact⟨l,h1,⟨h2,h3,h4⟩,h7.1,h7.2,hq,h5,⟨g0,g1,g2,g3,g4,g5,g6⟩,h6.1,h6.2,h8.2,h8.1⟩
 ·rintro⟨l,h⟩
  rw[h.ls]
  simp only[Bool.and_eq_true,decide_eq_true_eq,beq_iff_eq]
  obtain⟨z0,z1,z2,z3,z4,z5,z6⟩:=h.z
  exact⟨⟨h.kind,h.pz⟩,⟨z0,z1,z2,z3,z4,z5,z6,trivial⟩,h.sd,⟨h.t0,h.t1⟩,⟨h.r0,h.r1⟩,h.len,h.ord⟩
theorem VT.sm{q:Queue}{l:List ai}(h:VT q l):sm q:=by
 intro x hx
 rw[h.ls]at hx
 have:=h.len; have:=h.r1
 simp only[List.mem_singleton]at hx
 subst hx; omega
theorem VT.Ic{q:Queue}{l:List ai}(h:VT q l):aa.eY q=some true:=by
 rw[Sb q h.sm,(Nm q).2 ⟨l,h⟩]
theorem VT.valid{q:Queue}{l:List ai}(h:VT q l):aa.lk q=some true:=by
 rw[W6 q h.sm,(Nm q).2 ⟨l,h⟩]
def tQ(q:Queue)(l:List ai)(now:Int):Queue:=Queue.mk q.af q.Room [l] (A8.mk q.ae.e0 q.ae.e1 q.ae.e2 q.ae.e3 q.ae.e4 q.ae.e5 q.ae.e6 now) q.bm
theorem W8{q:Queue}{l l':List ai}{now:Int}(h:VT q l)(hn:0≤now∧now≤10000000)(hl:cj cP now 0 l'=true)(hlen:(l'.length:Int)≤q.Room):VT (tQ q l' now) l':=
 ⟨h.kind,h.pz,h.r0,h.r1,rfl,h.sd,h.z,hn.1,hn.2,hl,hlen⟩
theorem tail_at{q:Queue}{l:List ai}(h:VT q l){now:Int}(hn:tu now=true)(hle:q.ae.e7≤now):aa.kc q now=some 0:=by
 unfold aa.kc
 refine bB h.Ic (bF rfl ?_)
 rw[Ty]
 exact bB (v:=true) (congrArg some hn) (bF rfl (bF (decide_eq_false (by omega)) rfl))
theorem CE{q:Queue}(l:List ai)(now:Int)(h:l.length≤1000):aa.eN q l now=some (tQ q l now):=by
 unfold aa.eN
 exact bB (FB l h) rfl
theorem KT{q:Queue}{l:List ai}(h:VT q l){now:Int}(hn:tu now=true)(hle:q.ae.e7≤now):
  aa.pS q now=some (match l with
   |[]=>(tQ q [] now,zP,false,[],0)
   |x::xs=>(tQ q xs now,x.P,true,[],0)):=by
 have hlen:=h.len; have hr:=h.r1
 unfold aa.pS
 refine bB (tail_at h hn hle) (bF rfl ?_)
 refine bB (Aw q l h.ls) ?_
 cases l with
 |nil=>exact bT rfl (bB (CE [] now (by simp)) rfl)
 |cons x xs=>
  simp only[List.length_cons]at hlen
  refine bF (by simp only[List.length_cons,beq_eq_false_iff_ne]; omega) ?_
  refine bB (Aw q _ h.ls) (bT (by simp) ?_)
  refine bB (CE _ now (by simp; omega)) ?_
  refine bB (Aw q _ h.ls) ?_
  exact bB (v:=x) rfl rfl
end Go.Proofs.YtpodhambaehlkaaGreatDoor
end
section
/- Plain facts of this seat: package integral. -/
set_option maxRecDepth 100000
namespace Go.Proofs.YtpodhambaehlkaaGreatDoor
open Go.PI Go.Pl
theorem Sc{τ ω β:Type}{f:τ→Option (τ ⊕ ω)}{K:ω→Option β}{x0:τ}(l:List ai)(c:ai→Bool)(hi:Int)(st:Nat→Int→τ)(DQ bad:Option β)
  (hx:x0=st 0 0)
  (h1:∀ i (h:i<l.length) a,td c hi a l[i]=true→f (st i a)=some (.inl (st (i+1) l[i].At)))
  (h2:∀ i (h:i<l.length) a,td c hi a l[i]=false→∃ w,f (st i a)=some (.inr w)∧K w=bad)
  (h3:∀ a,∃ w,f (st l.length a)=some (.inr w)∧K w=DQ):(aX f x0).bind K=bif cj c hi 0 l then DQ else bad:=by
 subst hx
 have:=walk l c hi st DQ bad h1 h2 h3 l.length 0 0 rfl (Nat.zero_le _)
 rw[List.drop_zero]at this
 exact this
theorem Nn{a:Bool}:(bif a then some true else some false)=some a:=by cases a<;>rfl
def vI(q:Queue):Bool:=(q.af.Kind==4)&&(tv q.af.A 1 1000000&&(tv q.af.B 0 1000&&(tv q.af.C 0 1000&&(tv q.Room 1 500&&(match q.ah with
 |[l]=>!decide (q.Room<(l.length:Int))&&(tv q.ae.e7 0 10000000&&(tv q.ae.e0 0 1000000&&(tv q.ae.e1 0 q.ae.e7&&(tv q.ae.e2 0 10000000&&((q.ae.e3==0&&(q.ae.e4==0&&(q.ae.e5==0&&q.ae.e6==0)))&&cj cP q.ae.e7 0 l)))))
 |_=>false)))))
theorem Sd(q:Queue)(hs:sm q):aa.cz q=some (vI q):=by
 unfold aa.cz vI tv
 simp only[TA,Option.bind_some]
 match hq:q.ah with
 |[]=>simp only[List.length_nil]; simp only[show (!((0:Nat):Int)==(1:Int))=true from rfl,cond_true,qk,ql,Bool.and_false,Bool.not_not]
 |a::b::r=>simp only[zf,cond_true,qk,ql,Bool.and_false,Bool.not_not]
 |[l]=>
  have hl:l.length≤2^63-1:=hs l (by rw[hq]; simp)
  have hg:[l][Int.toNat 0]?=some l:=rfl
  have hg':[l][0]?=some l:=rfl
  simp only[hg,hg',Option.bind_some]
  rw[Sc l cP q.ae.e7 (fun i a=>(0,(i:Int),a)) (some true) (some false)]
  ·simp only[List.length_cons,List.length_nil,show (!((0+1:Nat):Int)==(1:Int))=false from rfl,cond_false,Nn,qk,ql,cN,Bool.not_not,Bool.and_true]
   try rfl
  ·rfl
  ·intro i h a ho
   simp only[td,cP,Bool.and_eq_true]at ho
   obtain⟨a1,a3,a4⟩:=ho
   simp only[eX h,ca,cond_true,get_at h,Option.bind_some,W0,a1,a3,a4,Bool.and_self,Bool.not_true,cond_false,mT h hl]
  ·intro i h a ho
   simp only[eX h,ca,cond_true,get_at h,Option.bind_some,W0]
   refine⟨.inl ((i:Int),l[i].At),?_,?_⟩
   ·revert ho
    simp only[td,cP]
    cases pR l[i].P<;>cases (decide (a≤l[i].At)&&decide (l[i].At≤q.ae.e7))<;>intro ho<;>first|rfl|exact absurd ho (by decide)
   ·show some (!decide (0≤(i:Int)))=some false
    rw[ca]; rfl
  ·intro a
   simp only[iP,cond_false]
   exact⟨_,rfl,rfl⟩
theorem W9(q:Queue)(hs:sm q):aa.fR q=some (vI q):=by
 unfold aa.fR; rw[Sd q hs]; rfl
structure VI(q:Queue)(l:List ai):Prop where
 kind:q.af.Kind=4
 pa:1≤q.af.A∧q.af.A≤1000000
 pb:0≤q.af.B∧q.af.B≤1000
 pc:0≤q.af.C∧q.af.C≤1000
 r0:1≤q.Room
 r1:q.Room≤500
 ls:q.ah=[l]
 z:q.ae.e3=0∧q.ae.e4=0∧q.ae.e5=0∧q.ae.e6=0
 v0:0≤q.ae.e0∧q.ae.e0≤1000000
 v1:0≤q.ae.e1∧q.ae.e1≤q.ae.e7
 v2:0≤q.ae.e2∧q.ae.e2≤10000000
 t0:0≤q.ae.e7
 t1:q.ae.e7≤10000000
 ord:cj cP q.ae.e7 0 l=true
 len:(l.length:Int)≤q.Room
theorem No(q:Queue):vI q=true↔∃ l,VI q l:=by
 unfold vI tv
 constructor
 ·intro h
  simp only[Bool.and_eq_true,decide_eq_true_eq,beq_iff_eq]at h
  obtain⟨h1,h2,h3,h4,h5,h8⟩:=h
  match hq:q.ah with
  |[]=>rw[hq]at h8; simp at h8
  |a::b::r=>rw[hq]at h8; simp at h8
  |[l]=>
   rw[hq]at h8
   simp only[Bool.and_eq_true,Bool.not_eq_true',decide_eq_true_eq,decide_eq_false_iff_not,beq_iff_eq]at h8
   obtain⟨g1,g2,g3,g4,g5,g6,g7⟩:=h8
   exact⟨l,h1,h2,h3,h4,h5.1,h5.2,hq,g6,g3,g4,g5,g2.1,g2.2,g7,by omega⟩
 ·rintro⟨l,h⟩
  have hl:=h.len
  rw[h.ls]
  simp only[Bool.and_eq_true,Bool.not_eq_true',decide_eq_true_eq,decide_eq_false_iff_not,beq_iff_eq]
  exact⟨h.kind,h.pa,h.pb,h.pc,⟨h.r0,h.r1⟩,by omega,⟨h.t0,h.t1⟩,h.v0,h.v1,h.v2,h.z,h.ord⟩
theorem VI.sm{q:Queue}{l:List ai}(h:VI q l):sm q:=by
 intro x hx
 rw[h.ls]at hx
 have:=h.len; have:=h.r1
 simp only[List.mem_singleton]at hx
 subst hx; omega
theorem VI.Ic{q:Queue}{l:List ai}(h:VI q l):aa.cz q=some true:=by
 rw[Sd q h.sm,(No q).2 ⟨l,h⟩]
theorem VI.valid{q:Queue}{l:List ai}(h:VI q l):aa.fR q=some true:=by
 rw[W9 q h.sm,(No q).2 ⟨l,h⟩]
def iQ(q:Queue)(l:List ai)(e0 e1 e2 now s:Int):Queue:=Queue.mk q.af q.Room [l] (A8.mk e0 e1 e2 q.ae.e3 q.ae.e4 q.ae.e5 q.ae.e6 now) s
def iv(e0 e1 e2 now:Int):Prop:=(0≤e0∧e0≤1000000)∧(0≤e1∧e1≤now)∧(0≤e2∧e2≤10000000)
theorem Xa{q:Queue}{l l':List ai}{e0 e1 e2 now s:Int}(h:VI q l)(hv:iv e0 e1 e2 now)(hn:0≤now∧now≤10000000)(hl:cj cP now 0 l'=true)(hlen:(l'.length:Int)≤q.Room):VI (iQ q l' e0 e1 e2 now s) l':=
 ⟨h.kind,h.pa,h.pb,h.pc,h.r0,h.r1,rfl,h.z,hv.1,hv.2.1,hv.2.2,hn.1,hn.2,hl,hlen⟩
theorem QK{q:Queue}{l:List ai}(h:VI q l){now:Int}(hn:tu now=true)(hle:q.ae.e7≤now)(s:Int):
  ∃ d,aa.dF (Queue.mk q.af q.Room [l] q.ae s) now=some d∧0≤d∧d≤10000000:=by
 have qQ:=cU.1 hn
 unfold aa.dF
 cases hl:l with
 |nil=>exact⟨0,rfl,by omega,by omega⟩
 |cons x xs=>
  have ho:=h.ord
  rw[hl]at ho
  have:=iq ho x (by simp)
  refine⟨now-x.At,?_,by omega,by omega⟩
  refine bB (v:=x::xs) rfl (bT (by simp only[List.length_cons,decide_eq_true_eq]; omega) (bB (v:=x) rfl ?_))
  rw[bk (by omega) (by omega)]
def DU(x:Int):Int:=if (if 0<x then x else 0)<1000000 then if 0<x then x else 0 else 1000000
theorem KU(x:Int):0≤DU x∧DU x≤1000000:=by
 unfold DU
 split<;>split<;>omega
def TIn(q:Queue)(l:List ai)(now:Int)(r:Option TR):Prop:=∃ e0 e1 e2 s,iv e0 e1 e2 now∧r=some (match l with
   |[]=>(iQ q [] e0 e1 e2 now s,zP,false,[],0)
   |x::xs=>(iQ q xs e0 e1 e2 now s,x.P,true,[],0))
theorem TI{q:Queue}{l:List ai}(h:VI q l){now:Int}(hn:tu now=true)(hle:q.ae.e7≤now):TIn q l now (aa.iZ q now):=by
 have hlen:=h.len; have hr:=h.r1; have h1:=h.v1
 have qQ:=cU.1 hn
 unfold aa.iZ
 refine pB _ h.Ic (pF _ rfl ?_)
 rw[TA]
 refine pB _ rfl (pF _ (by rw[show (decide (0≤now)&&decide (now≤10000000))=true from hn]; rfl) ?_)
 refine pF _ (decide_eq_false (by omega)) ?_
 rw[h.ls]
 refine pB _ (v:=l) rfl ?_
 refine pB _ (FB l (by omega)) ?_
 have fin:∀ e0 e1 e2:Int,iv e0 e1 e2 now→TIn q l now (bif (l.length:Int)==0 then some (iQ q l e0 e1 e2 now q.bm,zP,false,[],0) else
   bif decide (0<l.length) then (l[0]?).bind fun q5=>bif decide (1≤l.length)&&decide (l.length≤none.getD (l.length-0))&&decide (0<l.length) then
    bif decide (1+(l.length-1)≤l.length) then some (iQ q (List.take (l.length-1) (List.drop 1 l)) e0 e1 e2 now q.bm,q5.P,true,[],0) else none else none else none):=by
  intro e0 e1 e2 he
  refine⟨e0,e1,e2,q.bm,he,?_⟩
  cases l with
  |nil=>rfl
  |cons x xs=>
   refine bF (by simp only[List.length_cons,beq_eq_false_iff_ne]; omega) (bT (by simp) (bB (v:=x) rfl (bT (by simp) (bT (by simp only[List.length_cons,decide_eq_true_eq]; omega) ?_))))
   simp
 refine pC _ (fun _=>?_) (fun _=>?_)
 ·exact fin _ _ _ ⟨h.v0,by omega,h.v2⟩
 ·obtain⟨d,hd,d0,d1⟩:=QK h hn hle q.bm
  obtain⟨u,hu⟩:=Xb q.ae.e0 (Queue.mk q.af q.Room [l] q.ae q.bm) d q.ae.e2
  exact pB _ hd (pB _ hu (fin (DU u) now d ⟨KU u,by omega,d0,d1⟩))
end Go.Proofs.YtpodhambaehlkaaGreatDoor
end
section
/- Plain facts of this seat: package sojourn. -/
set_option maxRecDepth 100000
namespace Go.Proofs.YtpodhambaehlkaaGreatDoor
open Go.PI Go.Pl
theorem Np{α:Type}{x:Int}{a b:α}:(bif x==0 then some a else some b)=some (bif x==0 then a else b):=by cases x==0<;>rfl
def vSr(q:Queue)(l:List ai):Bool:=!decide (q.Room<(l.length:Int))&&((q.ae.e2==0)&&((q.ae.e3==0)&&((q.ae.e4==0)&&((q.ae.e5==0)&&((q.ae.e6==0)&&cj cP q.ae.e7 0 l)))))
def vSl(q:Queue):Bool:=match q.ah with
 |[l]=>(q.bm==0)&&(tu q.ae.e7&&((decide (0≤q.ae.e0)&&decide (q.ae.e0≤IntKind.i64.wrap (IntKind.i64.wrap (q.ae.e7+q.af.B)+1)))&&((decide (0≤q.ae.e1)&&decide (q.ae.e1≤1000000000)) &&
  (bif q.ae.e0==0 then (q.ae.e1==0)&&vSr q l else vSr q l))))
 |_=>false
def vS(q:Queue):Bool:=(q.af.Kind==3)&&((decide (0≤q.af.A)&&decide (q.af.A≤1000000))&&((decide (1≤q.af.B)&&decide (q.af.B≤1000000))&&((q.af.C==0)&&((decide (1≤q.Room)&&decide (q.Room≤500))&&vSl q))))
theorem Xc(q:Queue)(hs:sm q):aa.eu q=some (vS q):=by
 unfold aa.eu vS vSl
 simp only[Tz,H9,Option.bind_some]
 match hq:q.ah with
 |[]=>simp only[List.length_nil]; simp only[show (!((0:Nat):Int)==(1:Int))=true from rfl,cond_true,qk,ql,Bool.and_false,Bool.not_not]
 |a::b::r=>simp only[zf,cond_true,qk,ql,Bool.and_false,Bool.not_not]
 |[l]=>
  have hl:l.length≤2^63-1:=hs l (by rw[hq]; simp)
  have hg:[l][Int.toNat 0]?=some l:=rfl
  have hg':[l][0]?=some l:=rfl
  simp only[hg,hg',Option.bind_some]
  rw[Sc l cP q.ae.e7 (fun i a=>(false,a,(i:Int))) (some true) (some false)]
  ·simp only[List.length_cons,List.length_nil,show (!((0+1:Nat):Int)==(1:Int))=false from rfl,cond_false,Nn,qk,ql,cN,Np,Bool.not_not,Bool.and_true]
   rfl
  ·rfl
  ·intro i h a ho
   simp only[td,cP,Bool.and_eq_true]at ho
   obtain⟨a1,a3,a4⟩:=ho
   simp only[eX h,ca,cond_true,get_at h,Option.bind_some,WZ,a1,a3,a4,Bool.and_self,Bool.not_true,cond_false,mT h hl]
  ·intro i h a ho
   simp only[eX h,ca,cond_true,get_at h,Option.bind_some,WZ]
   refine⟨.inl false,?_,rfl⟩
   revert ho
   simp only[td,cP]
   cases pR l[i].P<;>cases (decide (a≤l[i].At)&&decide (l[i].At≤q.ae.e7))<;>intro ho<;>first|rfl|exact absurd ho (by decide)
  ·intro a
   simp only[iP,cond_false]
   exact⟨_,rfl,rfl⟩
structure VS(q:Queue)(l:List ai):Prop where
 kind:q.af.Kind=3
 pa:0≤q.af.A∧q.af.A≤1000000
 pb:1≤q.af.B∧q.af.B≤1000000
 pc:q.af.C=0
 r0:1≤q.Room
 r1:q.Room≤500
 ls:q.ah=[l]
 sd:q.bm=0
 z:q.ae.e2=0∧q.ae.e3=0∧q.ae.e4=0∧q.ae.e5=0∧q.ae.e6=0
 v0:0≤q.ae.e0∧q.ae.e0≤q.ae.e7+q.af.B+1
 v1:0≤q.ae.e1∧q.ae.e1≤1000000000
 v01:q.ae.e0=0→q.ae.e1=0
 t0:0≤q.ae.e7
 t1:q.ae.e7≤10000000
 ord:cj cP q.ae.e7 0 l=true
 len:(l.length:Int)≤q.Room
theorem TJ(q:Queue):vS q=true↔∃ l,VS q l:=by
 unfold vS vSl vSr tu
 constructor
 ·intro h
  simp only[Bool.and_eq_true,decide_eq_true_eq,beq_iff_eq]at h
  obtain⟨h1,h2,h3,h4,h5,h8⟩:=h
  match hq:q.ah with
  |[]=>rw[hq]at h8; simp at h8
  |a::b::r=>rw[hq]at h8; simp at h8
  |[l]=>
   rw[hq]at h8
   simp only[Bool.and_eq_true,decide_eq_true_eq,beq_iff_eq]at h8
   obtain⟨g1,g2,g3,g4,g5⟩:=h8
   rw[bk (n:=q.ae.e7+q.af.B) (by omega) (by omega),bk (by omega) (by omega)]at g3
   by_cases he:q.ae.e0=0
   ·rw[show (q.ae.e0==0)=true by simpa using he]at g5
    simp only[cond_true,Bool.and_eq_true,Bool.not_eq_true',decide_eq_false_iff_not,beq_iff_eq]at g5
    obtain⟨k0,k1,k2,k3,k4,k5,k6,k7⟩:=g5
    exact⟨l,h1,h2,h3,h4,h5.1,h5.2,hq,g1,⟨k2,k3,k4,k5,k6⟩,g3,g4,fun _=>k0,g2.1,g2.2,k7,by omega⟩
   ·rw[show (q.ae.e0==0)=false by simpa using he]at g5
    simp only[cond_false,Bool.and_eq_true,Bool.not_eq_true',decide_eq_false_iff_not,beq_iff_eq]at g5
    obtain⟨k1,k2,k3,k4,k5,k6,k7⟩:=g5
    exact⟨l,h1,h2,h3,h4,h5.1,h5.2,hq,g1,⟨k2,k3,k4,k5,k6⟩,g3,g4,fun e=>absurd e he,g2.1,g2.2,k7,by omega⟩
 ·rintro⟨l,h⟩
  have hl:=h.len; have hb:=h.pb; have ht:=h.t0; have ht1:=h.t1; have Jg:=h.v0
  rw[h.ls]
  simp only[Bool.and_eq_true,decide_eq_true_eq,beq_iff_eq]
  refine⟨h.kind,h.pa,h.pb,h.pc,⟨h.r0,h.r1⟩,h.sd,⟨h.t0,h.t1⟩,?_,h.v1,?_⟩
  ·rw[bk (n:=q.ae.e7+q.af.B) (by omega) (by omega),bk (by omega) (by omega)]
   exact h.v0
  ·obtain⟨z2,z3,z4,z5,z6⟩:=h.z
   by_cases he:q.ae.e0=0
   ·rw[show (q.ae.e0==0)=true by simpa using he]
    simp only[cond_true,Bool.and_eq_true,Bool.not_eq_true',decide_eq_false_iff_not,beq_iff_eq]
    exact⟨h.v01 he,by omega,z2,z3,z4,z5,z6,h.ord⟩
   ·rw[show (q.ae.e0==0)=false by simpa using he]
    simp only[cond_false,Bool.and_eq_true,Bool.not_eq_true',decide_eq_false_iff_not,beq_iff_eq]
    exact⟨by omega,z2,z3,z4,z5,z6,h.ord⟩
theorem VS.sm{q:Queue}{l:List ai}(h:VS q l):sm q:=by
 intro x hx
 rw[h.ls]at hx
 have:=h.len; have:=h.r1
 simp only[List.mem_singleton]at hx
 subst hx; omega
theorem VS.valid{q:Queue}{l:List ai}(h:VS q l):aa.eu q=some true:=by
 rw[Xc q h.sm,(TJ q).2 ⟨l,h⟩]
def sQ(q:Queue)(l:List ai)(e0 e1 now:Int):Queue:=Queue.mk q.af q.Room [l] (A8.mk e0 e1 q.ae.e2 q.ae.e3 q.ae.e4 q.ae.e5 q.ae.e6 now) q.bm
structure Sv(q:Queue)(e0 e1 now:Int):Prop where
 a:0≤e0
 b:e0≤now+q.af.B+1
 c:0≤e1
 d:e1≤1000000000
 e:e0=0→e1=0
theorem Se{q:Queue}{l l':List ai}{e0 e1 now:Int}(h:VS q l)(hv:Sv q e0 e1 now)(hn:0≤now∧now≤10000000)(hl:cj cP now 0 l'=true)(hlen:(l'.length:Int)≤q.Room):VS (sQ q l' e0 e1 now) l':=
 ⟨h.kind,h.pa,h.pb,h.pc,h.r0,h.r1,rfl,h.sd,h.z,⟨hv.a,hv.b⟩,⟨hv.c,hv.d⟩,hv.e,hn.1,hn.2,hl,hlen⟩
abbrev zW:ai:=ai.mk (an.mk 0 0 0 0 0 0 false false) 0
theorem Nq(l:List ai):l++List.drop (0+l.length) (List.replicate (l.length+1) zW)=l++[zW]:=by
 rw[Nat.zero_add,List.drop_replicate,show l.length+1-l.length=1 by omega]; rfl
end Go.Proofs.YtpodhambaehlkaaGreatDoor
end
section
/- Plain facts of this seat: what is taken from package sojourn. -/
set_option maxRecDepth 100000
namespace Go.Proofs.YtpodhambaehlkaaGreatDoor
open Go.PI Go.Pl
section
variable {τ ω α:Type}
def Nx(K:ω→Option α)(P:Option α→Prop)(I:Nat→τ→Prop)(n:Nat)(o:Option (τ ⊕ ω)):Prop:=match o with
 |some (.inl y)=>∃ m,m<n∧I m y
 |some (.inr w)=>P (K w)
 |none=>False
theorem Nr{f:τ→Option (τ ⊕ ω)}{K:ω→Option α}{P:Option α→Prop}(I:Nat→τ→Prop)(hs:∀ n s,I n s→Nx K P I n (f s)):∀ n x0,I n x0→P ((aX f x0).bind K):=by
 intro n
 induction n using Nat.strongRecOn with
 |ind n ih=>
  intro s h
  have h1:=hs n s h
  unfold Nx at h1
  cases hf:f s with
  |none=>rw[hf]at h1; exact h1.elim
  |some o=>
   rw[hf]at h1
   cases o with
   |inr w=>rw[Go.Pl.out hf]; exact h1
   |inl y=>
    obtain⟨m,h2,h3⟩:=h1
    rw[Go.Pl.next hf]
    exact ih m h2 y h3
end
def TS(q:Queue)(l:List ai)(now:Int)(r:Option TR):Prop:=∃ k e0 e1,Sv q e0 e1 now∧(∀ y∈l.take k,y.P.aJ=false) ∧
 ((∃ x m,l[k]?=some x∧mk? x.P m∧r=some (sQ q (l.drop (k+1)) e0 e1 now,pm x.P m,true,(l.take k).map (·.P),0)) ∨
  (k=l.length∧r=some (sQ q [] e0 e1 now,zP,false,l.map (·.P),0)))
def DV(l:List ai):List ai:=l++List.drop (0+l.length) (List.replicate (IntKind.i64.wrap ((l.length:Int)+1)).toNat (ai.mk (an.mk 0 0 0 0 0 0 false false) 0))
theorem TL{q:Queue}{l:List ai}(h:VS q l){now:Int}(hn:tu now=true)(hle:q.ae.e7≤now):TS q l now (aa.ke q now):=by
 have hlen:=h.len; have hr:=h.r1; have hpb:=h.pb; have hpa:=h.pa
 have qQ:=cU.1 hn
 have hw:IntKind.i64.wrap ((l.length:Int)+1)=((l.length+1:Nat):Int):=bk (by omega) (by omega)
 have TM:DV l=l++[zW]:=by unfold DV; rw[hw]; exact Nq l
 have zC:(DV l).length=l.length+1:=by rw[TM]; simp
 unfold aa.ke
 refine pB _ h.valid (pF _ rfl ?_)
 refine pB _ (H9 now) (pF _ (by rw[hn]; rfl) ?_)
 refine pF _ (decide_eq_false (by omega)) ?_
 rw[h.ls]
 refine pB _ (v:=l) rfl (pB _ (v:=l) rfl ?_)
 refine pT _ (by simp only[hw,decide_eq_true_eq]; omega) (pT _ (by simp only[hw,Int.toNat_natCast,Bool.and_eq_true,decide_eq_true_eq]; omega) (pB _ (v:=l) rfl ?_))
 refine pT _ (by simp only[hw,Int.toNat_natCast,Bool.and_eq_true,decide_eq_true_eq,List.length_replicate]; omega) ?_
 have fin:∀ (k:Nat) (hk:k<l.length) (e0 e1:Int) (m:Bool),Sv q e0 e1 now→(∀ y∈l.take k,y.P.aJ=false)→mk? l[k].P m →
   TS q l now (bif decide (((((k:Int).toNat+1:Nat):Int)).toNat+((((((l.length-k:Nat):Int)).toNat-1:Nat):Int)).toNat≤(DV l).length) then
    some (Queue.mk (af.mk q.af.Kind q.af.A q.af.B q.af.C) q.Room [List.take ((((((l.length-k:Nat):Int)).toNat-1:Nat):Int)).toNat (List.drop ((((k:Int).toNat+1:Nat):Int)).toNat (DV l))]
     (A8.mk e0 e1 q.ae.e2 q.ae.e3 q.ae.e4 q.ae.e5 q.ae.e6 now) q.bm,an.mk l[k].P.aH l[k].P.Sub l[k].P.Number l[k].P.Data l[k].P.az l[k].P.aQ l[k].P.aJ m,true,(l.take k).map (·.P),0) else none):=by
  intro k hk e0 e1 m hv ha hm
  refine pT _ (by simp only[Int.toNat_natCast,zC,decide_eq_true_eq]; omega) ?_
  refine⟨k,e0,e1,hv,ha,.inl ⟨l[k],m,List.getElem?_eq_getElem hk,hm,?_⟩⟩
  simp only[Int.toNat_natCast,TM,sQ,pm]
  rw[List.drop_append_of_le_length (by omega),List.take_append_of_le_length (by simp; omega),List.take_of_length_le (by simp; omega)]
 refine Nr (fun (m:Nat) s=>∃ (k:Nat) (e0 e1:Int),k≤l.length∧m=l.length-k∧Sv q e0 e1 now∧(∀ y∈l.take k,y.P.aJ=false) ∧
  s=(false,0,[],(l.take k).map (·.P),q.af.Kind,q.af.A,q.af.B,q.af.C,q.Room,e0,e1,q.ae.e2,q.ae.e3,q.ae.e4,q.ae.e5,q.ae.e6,now,q.bm,now,(k:Int),((l.length-k:Nat):Int),((l.length+1-k:Nat):Int))) ?_ l.length _
  ⟨0,q.ae.e0,q.ae.e1,Nat.zero_le _,rfl,⟨h.v0.1,by have:=h.v0; omega,h.v1.1,h.v1.2,h.v01⟩,by intro y hy; simp at hy,?_⟩
 ·rintro n s ⟨k,e0,e1,hk,rfl,hv,ha,rfl⟩
  have va:=hv.a; have vb:=hv.b; have vc:=hv.c; have vd:=hv.d
  by_cases JH:k<l.length
  ·have nT:l[k]∈l:=List.getElem_mem JH
   have hx:=iq h.ord _ nT
   have wA:IntKind.i64.wrap (now-l[k].At)=now-l[k].At:=bk (by omega) (by omega)
   have w0:IntKind.i64.wrap (e0-1)=e0-1:=bk (by omega) (by omega)
   have w1:IntKind.i64.wrap (e1+1)=e1+1:=bk (by omega) (by omega)
   have wB:IntKind.i64.wrap (IntKind.i64.wrap (now+q.af.B)+1)=now+q.af.B+1:=by rw[bk (n:=now+q.af.B) (by omega) (by omega)]; exact bk (by omega) (by omega)
   refine pT _ (by simp only[Int.toNat_natCast,decide_eq_true_eq]; omega) (pT _ (by simp only[Int.toNat_natCast,decide_eq_true_eq]; omega) ?_)
   refine pB _ (v:=l[k]) (by
    show (DV l)[(k:Int).toNat+0]?=some l[k]
    rw[TM,Int.toNat_natCast,Nat.add_zero,List.getElem?_append_left JH]; exact List.getElem?_eq_getElem JH) ?_
   refine pT _ (by
    show (decide (1≤((l.length-k:Nat):Int).toNat)&&decide (((l.length-k:Nat):Int).toNat≤(some ((l.length+1-k:Nat):Int).toNat).getD ((DV l).length-(k:Int).toNat))&&decide (0<(DV l).length))=true
    simp only[Int.toNat_natCast,Option.getD_some,zC,Bool.and_eq_true,decide_eq_true_eq]; omega) ?_
   rw[wA,w0,wB,w1]
   have hz:Sv q 0 0 now:=⟨by omega,by omega,by omega,by omega,fun _=>rfl⟩
   refine pC _ (fun _=>pC _ (fun hM=>fin k JH 0 0 true hz ha (.inl hM.symm)) (fun hM=>fin k JH 0 0 false hz ha (.inl hM.symm))) (fun _=>?_)
   refine pC _ (fun h0=>?_) (fun h0=>?_)
   ·have L4:e1=0:=hv.e (by simpa using h0)
    have hs:Sv q (now+q.af.B+1) e1 now:=⟨by omega,by omega,by omega,by omega,fun e=>by omega⟩
    exact pC _ (fun hM=>fin k JH _ e1 true hs ha (.inl hM.symm)) (fun hM=>fin k JH _ e1 false hs ha (.inl hM.symm))
   ·refine pC _ (fun h1=>?_) (fun _=>?_)
    ·-- a hit
     have Zu:e0-1≤now:=by simpa using h1
     have ZE:e0≠0:=by simpa using h0
     generalize hE:(if e1+1<1000000000 then e1+1 else 1000000000)=E
     have hE1:1≤E∧E≤1000000000:=by rw[←hE]; split<;>omega
     have wE:IntKind.i64.wrap (E+1)=E+1:=bk (by omega) (by omega)
     rw[wE]
     have hd0:0≤q.af.B.tdiv (E+1):=Int.tdiv_nonneg (by omega) (by omega)
     have Cs:q.af.B.tdiv (E+1)≤q.af.B:=Int.tdiv_le_self _ (by omega)
     have wD:IntKind.i64.wrap (q.af.B.tdiv (E+1))=q.af.B.tdiv (E+1):=bk (by omega) (by omega)
     rw[wD]
     generalize hM:(if 1<q.af.B.tdiv (E+1) then q.af.B.tdiv (E+1) else 1)=M
     have hM1:1≤M∧M≤q.af.B:=by rw[←hM]; split<;>omega
     have wM:IntKind.i64.wrap (e0+M)=e0+M:=bk (by omega) (by omega)
     rw[wM]
     have hs:Sv q (e0+M) E now:=⟨by omega,by omega,by omega,by omega,fun e=>by omega⟩
     refine pF _ (decide_eq_false (by omega)) (pC _ (fun hA=>?_) (fun hA=>?_))
     ·have ZF:l[k].P.aJ=false:=by simpa using hA
      refine pT _ (by simp only[List.length_map,List.length_take,Bool.and_eq_true,decide_eq_true_eq]; omega) ?_
      refine⟨l.length-(k+1),by omega,k+1,e0+M,E,JH,rfl,hs,?_,?_⟩
      ·intro y hy
       rw[List.take_succ_eq_append_getElem JH,List.mem_append,List.mem_singleton]at hy
       rcases hy with hy|rfl
       ·exact ha y hy
       ·exact ZF
      ·simp only[Int.toNat_natCast,List.take_succ_eq_append_getElem JH,List.map_append,List.map_cons,List.map_nil,Nat.sub_sub]
     ·have ZF:l[k].P.aJ=true:=by simpa using hA
      exact pC _ (fun _=>fin k JH _ E true hs ha (.inr ⟨ZF,rfl⟩)) (fun _=>fin k JH _ E true hs ha (.inr ⟨ZF,rfl⟩))
    ·exact pC _ (fun hM=>fin k JH e0 e1 true hv ha (.inl hM.symm)) (fun hM=>fin k JH e0 e1 false hv ha (.inl hM.symm))
  ·have hke:k=l.length:=by omega
   subst hke
   refine pF _ (by simp only[Int.toNat_natCast,decide_eq_false_iff_not]; omega) ?_
   show TS q l now (bif decide _ then _ else _)
   refine pT _ ?_ ?_
   ·show decide ((((l.length:Int).toNat:Nat):Int).toNat+(((((l.length-l.length:Nat):Int)).toNat:Nat):Int).toNat≤(DV l).length)=true
    simp only[Int.toNat_natCast,zC,decide_eq_true_eq]; omega
   ·refine⟨l.length,0,0,⟨by omega,by omega,by omega,by omega,fun _=>rfl⟩,ha,.inr ⟨rfl,?_⟩⟩
    simp only[Int.toNat_natCast,Nat.sub_self,List.take_zero,List.take_length,sQ]
 ·simp only[hw,Int.toNat_natCast,Nat.sub_zero,List.take_zero,List.map_nil,Int.natCast_zero]
end Go.Proofs.YtpodhambaehlkaaGreatDoor
end
section
/- Plain facts of this seat: package dual. -/
set_option maxRecDepth 100000
namespace Go.Proofs.YtpodhambaehlkaaGreatDoor
open Go.PI Go.Pl
structure VD(q:Queue)(a b:List ai):Prop where
 kind:q.af.Kind=6
 pa:0≤q.af.A∧q.af.A≤1000000
 pb:0≤q.af.B∧q.af.B≤1000
 pc:q.af.C=0
 r0:1≤q.Room
 r1:q.Room≤500
 ls:q.ah=[a,b]
 z:q.ae.e1=0∧q.ae.e2=0∧q.ae.e3=0∧q.ae.e4=0∧q.ae.e5=0∧q.ae.e6=0
 v0:0≤q.ae.e0∧q.ae.e0≤15
 t0:0≤q.ae.e7
 t1:q.ae.e7≤10000000
 oa:cj (cA true) q.ae.e7 0 a=true
 ob:cj (cA false) q.ae.e7 0 b=true
 len:(a.length:Int)+b.length≤q.Room
theorem VD.valid{q:Queue}{a b:List ai}(h:VD q a b):aa.jo q=some true:=by
 have hl:=h.len; have hr:=h.r1
 obtain⟨z1,z2,z3,z4,z5,z6⟩:=h.z
 unfold aa.jo
 refine bF (by rw[h.kind]; rfl) ?_
 rw[Fz,Fz,Fz,Fz,Ia]
 refine bB rfl (bF (by simp[h.pa.1,h.pa.2]) ?_)
 refine bB rfl (bF (by simp[h.pb.1,h.pb.2]) ?_)
 refine bF (by rw[h.pc]; rfl) ?_
 refine bB rfl (bF (by simp[h.r0,h.r1]) ?_)
 refine bF (by rw[h.ls]; rfl) ?_
 refine bB rfl (bF (by simp[h.v0.1,h.v0.2]) ?_)
 refine bB rfl (bF (by simp[tu,h.t0,h.t1]) ?_)
 rw[h.ls]
 refine bB (v:=a) rfl (bB (v:=b) rfl ?_)
 refine bF (decide_eq_false (by rw[bk (by omega) (by omega)]; omega)) ?_
 rw[z1,z2,z3,z4,z5,z6]
 refine bB (lp 7 rfl) ?_
 simp only[Sum.elim_inr,List.getElem?_cons_zero,List.getElem?_cons_succ,Option.bind_some]
 rw[JF a _ _ (by omega),h.oa,JF b _ _ (by omega),h.ob]
 rfl
def dQ(q:Queue)(a b:List ai)(e0 now s:Int):Queue:=Queue.mk q.af q.Room [a,b] (A8.mk e0 q.ae.e1 q.ae.e2 q.ae.e3 q.ae.e4 q.ae.e5 q.ae.e6 now) s
theorem Ns{q:Queue}{a b a' b':List ai}{e0 now s:Int}(h:VD q a b)(h0:0≤e0∧e0≤15)(hn:0≤now∧now≤10000000)(ha:cj (cA true) now 0 a'=true)(hb:cj (cA false) now 0 b'=true)
  (hlen:(a'.length:Int)+b'.length≤q.Room):VD (dQ q a' b' e0 now s) a' b':=
 ⟨h.kind,h.pa,h.pb,h.pc,h.r0,h.r1,rfl,h.z,h0,hn.1,hn.2,ha,hb,hlen⟩
theorem JI(l:List ai):l++List.drop (0+l.length) (List.replicate ((l.length:Int)).toNat zW)=l:=by
 rw[Int.toNat_natCast,Nat.zero_add,List.drop_eq_nil_of_le (by simp),List.append_nil]
theorem vK(x:lQ):∃ v,aa.bW x=some v:=by
 unfold aa.bW
 cases x.ah.e1 with
 |nil=>exact⟨_,rfl⟩
 |cons y ys=>exact⟨_,bF (by simp only[List.length_cons,beq_eq_false_iff_ne]; omega) rfl⟩
def TD(q:Queue)(a b:List ai)(now:Int)(r:Option TR):Prop:=∃ k e0 s,0≤e0∧e0≤15 ∧
 ((∃ x,b[k]?=some x∧r=some (dQ q a (b.drop (k+1)) e0 now s,x.P,true,(b.take k).map (·.P),0)) ∨
  (∃ x xs m,a=x::xs∧k≤b.length∧mk? x.P m∧r=some (dQ q xs (b.drop k) e0 now s,pm x.P m,true,(b.take k).map (·.P),0)) ∨
  (a=[]∧k=b.length∧r=some (dQ q [] [] e0 now s,zP,false,b.map (·.P),0)))
theorem TN{q:Queue}{a b:List ai}(h:VD q a b){now:Int}(hn:tu now=true)(hle:q.ae.e7≤now):TD q a b now (aa.pU q now):=by
 have hl:=h.len; have hr:=h.r1; have Jg:=h.v0
 have qQ:=cU.1 hn
 unfold aa.pU
 refine pB _ h.valid (pF _ rfl ?_)
 refine pB _ (Ia now) (pF _ (by rw[hn]; rfl) ?_)
 refine pF _ (decide_eq_false (by omega)) ?_
 rw[show (true&&decide (q.ah.length=2))=true by rw[h.ls]; rfl,show q.ah[0]?=some a by rw[h.ls]; rfl,show q.ah[1]?=some b by rw[h.ls]; rfl]
 refine pT _ rfl (pB _ (v:=a) rfl (pB _ (v:=b) rfl ?_))
 refine pT _ (by simp only[Int.toNat_natCast,Bool.and_eq_true,decide_eq_true_eq]; omega) (pT _ (by simp) ?_)
 refine pB _ (v:=a) (congrArg some (JI a)) ?_
 refine pT _ (by simp only[Int.toNat_natCast,Bool.and_eq_true,decide_eq_true_eq]; omega) (pT _ (by simp) ?_)
 refine pB _ (v:=b) (congrArg some (JI b)) ?_
 have Xd:∀ (k:Nat) (hk:k<b.length) (e0 s:Int),0≤e0→e0≤15 →
   TD q a b now (bif decide (((((0:Int).toNat:Nat):Int)).toNat+((((a.length:Int).toNat:Nat):Int)).toNat≤a.length) then bif decide ((((k:Int).toNat+1:Nat):Int).toNat+((((((b.length-k:Nat):Int)).toNat-1:Nat):Int)).toNat≤b.length) then
    some (Queue.mk (af.mk q.af.Kind q.af.A q.af.B q.af.C) q.Room [List.take ((((a.length:Int).toNat:Nat):Int)).toNat (List.drop (((((0:Int).toNat:Nat):Int)).toNat) a),
      List.take ((((((b.length-k:Nat):Int)).toNat-1:Nat):Int)).toNat (List.drop ((((k:Int).toNat+1:Nat):Int).toNat) b)]
     (A8.mk e0 q.ae.e1 q.ae.e2 q.ae.e3 q.ae.e4 q.ae.e5 q.ae.e6 now) s,an.mk b[k].P.aH b[k].P.Sub b[k].P.Number b[k].P.Data b[k].P.az b[k].P.aQ b[k].P.aJ b[k].P.aB,true,(b.take k).map (·.P),0) else none else none):=by
  intro k hk e0 s h0 h1
  refine pT _ (by simp) (pT _ (by simp only[Int.toNat_natCast,decide_eq_true_eq]; omega) ?_)
  refine⟨k,e0,s,h0,h1,.inl ⟨b[k],List.getElem?_eq_getElem hk,?_⟩⟩
  simp only[Int.toNat_natCast,Int.toNat_zero,List.drop_zero,List.take_length,dQ]
  rw[List.take_of_length_le (by simp; omega)]
 have KV:∀ (k:Nat) (hk:k≤b.length) (x:ai) (xs:List ai) (ha:a=x::xs) (e0 s:Int) (m:Bool),0≤e0→e0≤15→mk? x.P m →
   TD q a b now (bif decide ((((0:Int).toNat+1:Nat):Int).toNat+((((a.length:Int).toNat-1:Nat):Int)).toNat≤a.length) then bif decide ((((k:Int).toNat:Nat):Int).toNat+((((((b.length-k:Nat):Int)).toNat:Nat):Int)).toNat≤b.length) then
    some (Queue.mk (af.mk q.af.Kind q.af.A q.af.B q.af.C) q.Room [List.take ((((a.length:Int).toNat-1:Nat):Int)).toNat (List.drop ((((0:Int).toNat+1:Nat):Int).toNat) a),
      List.take ((((((b.length-k:Nat):Int)).toNat:Nat):Int)).toNat (List.drop ((((k:Int).toNat:Nat):Int).toNat) b)]
     (A8.mk e0 q.ae.e1 q.ae.e2 q.ae.e3 q.ae.e4 q.ae.e5 q.ae.e6 now) s,an.mk x.P.aH x.P.Sub x.P.Number x.P.Data x.P.az x.P.aQ x.P.aJ m,true,(b.take k).map (·.P),0) else none else none):=by
  intro k hk x xs ha e0 s m h0 h1 hm
  subst ha
  refine pT _ (by simp only[Int.toNat_natCast,decide_eq_true_eq,List.length_cons]; omega) (pT _ (by simp only[Int.toNat_natCast,decide_eq_true_eq]; omega) ?_)
  refine⟨k,e0,s,h0,h1,.inr (.inl ⟨x,xs,m,rfl,hk,hm,?_⟩)⟩
  simp only[Int.toNat_natCast,Int.toNat_zero,Nat.zero_add,List.drop_succ_cons,List.drop_zero,List.length_cons,Nat.add_sub_cancel,List.take_length,dQ,pm]
  rw[List.take_of_length_le (by simp)]
 refine Nr (fun (n:Nat) st=>∃ (k:Nat) (e0 s:Int),k≤b.length∧n=b.length-k∧0≤e0∧e0≤15 ∧
  st=(false,0,false,[],0,0,0,0,0,0,false,false,q.af.Kind,q.af.A,q.af.B,q.af.C,q.Room,q.ah,e0,q.ae.e1,q.ae.e2,q.ae.e3,q.ae.e4,q.ae.e5,q.ae.e6,now,s,
   (0:Int),(a.length:Int),(((a.length:Int).toNat:Nat):Int),(k:Int),((b.length-k:Nat):Int),(((((b.length:Int).toNat:Nat)-k:Nat):Int)),now,(b.take k).map (·.P))) ?_ b.length _
  ⟨0,q.ae.e0,q.bm,Nat.zero_le _,rfl,Jg.1,Jg.2,rfl⟩
 rintro n st ⟨k,e0,s,hk,rfl,h0,h1,rfl⟩
 by_cases hz:a.length+(b.length-k)=0
 ·have ha:a=[]:=List.length_eq_zero_iff.1 (by omega)
  have TO:k=b.length:=by omega
  subst TO
  refine pT _ (by simp only[Int.toNat_natCast]; rw[bk (by omega) (by omega)]; simp only[beq_iff_eq]; omega) ?_
  show TD q a b now (bif decide _ then (bif decide _ then _ else _) else _)
  refine pT _ (by simp) (pT _ (by simp) ?_)
  refine⟨b.length,0,s,by omega,by omega,.inr (.inr ⟨ha,rfl,?_⟩)⟩
  subst ha
  simp[dQ]
 ·refine pF _ (by simp only[Int.toNat_natCast]; rw[bk (by omega) (by omega)]; simp only[beq_eq_false_iff_ne]; omega) ?_
  by_cases TO:k<b.length
  ·refine pT _ (by simp only[Int.toNat_natCast,decide_eq_true_eq]; omega) ?_
   have hbk:b[(k:Int).toNat+0]?=some b[k]:=by rw[Int.toNat_natCast,Nat.add_zero]; exact List.getElem?_eq_getElem TO
   obtain⟨r,s',LK⟩:=FA s 1000000 (by omega) (by omega)
   have fits:(decide ((((b.take k).map (·.P)).length+1)*56≤2^44)&&decide (((b.take k).map (·.P)).length+1≤2^44))=true:=by
    simp only[List.length_map,List.length_take,Bool.and_eq_true,decide_eq_true_eq]; omega
   have again:∀ s':Int,∃ m,m<b.length-k∧∃ (k':Nat) (Xe uN:Int),k'≤b.length∧m=b.length-k'∧0≤Xe∧Xe≤15 ∧
     ((false,0,false,[],0,0,0,0,0,0,false,false,q.af.Kind,q.af.A,q.af.B,q.af.C,q.Room,q.ah,0,q.ae.e1,q.ae.e2,q.ae.e3,q.ae.e4,q.ae.e5,q.ae.e6,now,s',
       (((0:Int).toNat:Nat):Int),(((a.length:Int).toNat:Nat):Int),(((((a.length:Int).toNat:Nat):Int).toNat:Nat):Int),(((k:Int).toNat+1:Nat):Int),(((((b.length-k:Nat):Int)).toNat-1:Nat):Int),((((((((b.length:Int).toNat:Nat)-k:Nat):Int)).toNat-1:Nat):Int)),now,(b.take k).map (·.P)++[b[k].P]) :
       Bool×Int×Bool×List an×Int×Int×Int×Int×Int×Int×Bool×Bool×Int×Int×Int×Int×Int×List (List ai)×Int×Int×Int×Int×Int×Int×Int×Int×Int×Int×Int×Int×Int×Int×Int×Int×List an) =
     (false,0,false,[],0,0,0,0,0,0,false,false,q.af.Kind,q.af.A,q.af.B,q.af.C,q.Room,q.ah,Xe,q.ae.e1,q.ae.e2,q.ae.e3,q.ae.e4,q.ae.e5,q.ae.e6,now,uN,
       (0:Int),(a.length:Int),(((a.length:Int).toNat:Nat):Int),(k':Int),((b.length-k':Nat):Int),(((((b.length:Int).toNat:Nat)-k':Nat):Int)),now,(b.take k').map (·.P)):=by
    intro s'
    refine⟨b.length-(k+1),by omega,k+1,0,s',TO,rfl,by omega,by omega,?_⟩
    simp only[Int.toNat_natCast,Int.toNat_zero,List.take_succ_eq_append_getElem TO,List.map_append,List.map_cons,List.map_nil,Nat.sub_sub,Int.natCast_zero]
   by_cases ha:a.length=0
   ·refine pT _ (by simp only[Int.toNat_natCast,beq_iff_eq]; omega) (pT _ (by simp) (pT _ (by simp only[Int.toNat_natCast,decide_eq_true_eq]; omega) ?_))
    obtain⟨v,hv⟩:=vK (lQ.mk (Queue.mk (af.mk q.af.Kind q.af.A q.af.B q.af.C) q.Room q.ah (A8.mk 0 q.ae.e1 q.ae.e2 q.ae.e3 q.ae.e4 q.ae.e5 q.ae.e6 now) s)
     (A2.mk (List.take ((a.length:Int)).toNat (List.drop ((0:Int)).toNat a)) (List.take (((b.length-k:Nat):Int)).toNat (List.drop ((k:Int)).toNat b))) now ((b.take k).map (·.P)))
    refine pB _ hv (pT _ (by simp only[Int.toNat_natCast,decide_eq_true_eq]; omega) (pB _ hbk (pT _ (by simp only[Int.toNat_natCast,Option.getD_some,Bool.and_eq_true,decide_eq_true_eq]; omega) ?_)))
    exact pB _ LK (pC _ (fun _=>pT _ fits (again s')) (fun _=>Xd k TO 0 s' (by omega) (by omega)))
   ·obtain⟨x,xs,LL⟩:∃ x xs,a=x::xs:=by
     cases a with
     |nil=>exact absurd rfl ha
     |cons x xs=>exact⟨x,xs,rfl⟩
    have hxa:a[(0:Int).toNat+0]?=some x:=by rw[LL]; rfl
    have TP:=iq h.oa x (by rw[LL]; simp)
    have hA:x.P.aJ=true:=by have:=TP.1; simp only[cA,Bool.and_eq_true,beq_iff_eq]at this; exact this.2
    refine pF _ (by simp only[Int.toNat_natCast,beq_eq_false_iff_ne]; omega) ?_
    refine pC _ (fun _=>?_) (fun h15=>?_)
    ·refine pT _ (by simp) (pT _ (by simp only[Int.toNat_natCast,decide_eq_true_eq]; omega) ?_)
     obtain⟨v,hv⟩:=vK (lQ.mk (Queue.mk (af.mk q.af.Kind q.af.A q.af.B q.af.C) q.Room q.ah (A8.mk 0 q.ae.e1 q.ae.e2 q.ae.e3 q.ae.e4 q.ae.e5 q.ae.e6 now) s)
      (A2.mk (List.take ((a.length:Int)).toNat (List.drop ((0:Int)).toNat a)) (List.take (((b.length-k:Nat):Int)).toNat (List.drop ((k:Int)).toNat b))) now ((b.take k).map (·.P)))
     refine pB _ hv (pT _ (by simp only[Int.toNat_natCast,decide_eq_true_eq]; omega) (pB _ hbk (pT _ (by simp only[Int.toNat_natCast,Option.getD_some,Bool.and_eq_true,decide_eq_true_eq]; omega) ?_)))
     exact pB _ LK (pC _ (fun _=>pT _ fits (again s')) (fun _=>Xd k TO 0 s' (by omega) (by omega)))
    ·have afW:e0<15:=by have:=of_decide_eq_false h15; omega
     have w0:IntKind.i64.wrap (e0+1)=e0+1:=bk (by omega) (by omega)
     rw[w0]
     refine pF _ (by simp only[Int.toNat_natCast,beq_eq_false_iff_ne]; omega) (pT _ (by simp only[Int.toNat_natCast,decide_eq_true_eq]; omega) ?_)
     refine pB _ hxa (pT _ (by simp only[Int.toNat_natCast,Int.toNat_zero,Option.getD_some,Bool.and_eq_true,decide_eq_true_eq]; omega) ?_)
     refine pC _ (fun _=>KV k hk x xs LL (e0+1) s true (by omega) (by omega) (.inr ⟨hA,rfl⟩)) (fun _=>?_)
     refine pT _ (by simp only[Int.toNat_natCast,Int.toNat_zero,decide_eq_true_eq]; omega) (pT _ (by simp only[Int.toNat_natCast,decide_eq_true_eq]; omega) ?_)
     obtain⟨v,hv⟩:=vK (lQ.mk (Queue.mk (af.mk q.af.Kind q.af.A q.af.B q.af.C) q.Room q.ah (A8.mk (e0+1) q.ae.e1 q.ae.e2 q.ae.e3 q.ae.e4 q.ae.e5 q.ae.e6 now) s)
      (A2.mk (List.take ((a.length:Int).toNat-1) (List.drop ((0:Int).toNat+1) a)) (List.take (((b.length-k:Nat):Int)).toNat (List.drop ((k:Int)).toNat b))) now ((b.take k).map (·.P)))
     exact pB _ hv (pB _ LK (pC _ (fun _=>KV k hk x xs LL (e0+1) s' true (by omega) (by omega) (.inr ⟨hA,rfl⟩)) (fun _=>KV k hk x xs LL (e0+1) s' x.P.aB (by omega) (by omega) (.inl rfl))))
  ·have hke:k=b.length:=by omega
   obtain⟨x,xs,LL⟩:∃ x xs,a=x::xs:=by
    cases a with
    |nil=>simp only[List.length_nil]at hz; omega
    |cons x xs=>exact⟨x,xs,rfl⟩
   have hxa:a[(0:Int).toNat+0]?=some x:=by rw[LL]; rfl
   have tO:0<a.length:=by rw[LL]; simp
   have TP:=iq h.oa x (by rw[LL]; simp)
   have hA:x.P.aJ=true:=by have:=TP.1; simp only[cA,Bool.and_eq_true,beq_iff_eq]at this; exact this.2
   obtain⟨r,s',LK⟩:=FA s 1000000 (by omega) (by omega)
   refine pF _ (by simp only[Int.toNat_natCast,decide_eq_false_iff_not]; omega) (pT _ (by simp only[Int.toNat_natCast,beq_iff_eq]; omega) (pT _ (by simp only[Int.toNat_natCast,decide_eq_true_eq]; omega) ?_))
   refine pB _ hxa (pT _ (by simp only[Int.toNat_natCast,Int.toNat_zero,Option.getD_some,Bool.and_eq_true,decide_eq_true_eq]; omega) ?_)
   refine pC _ (fun _=>KV k hk x xs LL 0 s true (by omega) (by omega) (.inr ⟨hA,rfl⟩)) (fun _=>?_)
   refine pT _ (by simp only[Int.toNat_natCast,Int.toNat_zero,decide_eq_true_eq]; omega) (pT _ (by simp only[Int.toNat_natCast,decide_eq_true_eq]; omega) ?_)
   obtain⟨v,hv⟩:=vK (lQ.mk (Queue.mk (af.mk q.af.Kind q.af.A q.af.B q.af.C) q.Room q.ah (A8.mk 0 q.ae.e1 q.ae.e2 q.ae.e3 q.ae.e4 q.ae.e5 q.ae.e6 now) s)
    (A2.mk (List.take ((a.length:Int).toNat-1) (List.drop ((0:Int).toNat+1) a)) (List.take (((b.length-k:Nat):Int)).toNat (List.drop ((k:Int)).toNat b))) now ((b.take k).map (·.P)))
   exact pB _ hv (pB _ LK (pC _ (fun _=>KV k hk x xs LL 0 s' true (by omega) (by omega) (.inr ⟨hA,rfl⟩)) (fun _=>KV k hk x xs LL 0 s' x.P.aB (by omega) (by omega) (.inl rfl))))
end Go.Proofs.YtpodhambaehlkaaGreatDoor
end
section
/- Plain facts of this seat: valid queues of package deficit. -/
set_option maxRecDepth 100000
namespace Go.Proofs.YtpodhambaehlkaaGreatDoor
open Go.PI Go.Pl
theorem vL[ag]{τ ω:Type}{f:τ→Option (τ ⊕ ω)}(st:Nat→τ)(c:Nat→Bool)(n:Nat)(e bad:ω){x0:τ}
  (h:∀ i,i<n→f (st i)=bif c i then some (.inl (st (i+1))) else some (.inr bad)) (he:f (st n)=some (.inr e)) (hx:x0=st 0) :
  aX f x0=some (bif (List.range n).all c then e else bad):=by
 subst hx
 rcases FD st c (fun _=>bad) n e (fun i hi=>by rw[h i hi]; cases c i<;>rfl) he with ⟨h1,h2⟩|⟨h1,i,_,_,h2⟩
 ·rw[h1,h2]; rfl
 ·rw[h1,h2]; rfl
def v8(v:A8 Int)(i:Nat):Int:=rV [v.e0,v.e1,v.e2,v.e3,v.e4,v.e5,v.e6,v.e7] i v.e0
def p7(v:A8 Int):A8 Int:=A8.mk (IntKind.i64.wrap (v.e2.tdiv 32768)) (v.e2.tmod 32768) (IntKind.i64.wrap (v.e3.tdiv 32768)) (v.e3.tmod 32768) (IntKind.i64.wrap (v.e4.tdiv 32768)) (v.e4.tmod 32768) (IntKind.i64.wrap (v.e5.tdiv 32768)) (v.e5.tmod 32768)
def ny(l:List ai)(d:Int):Bool:=match l with|[]=>false|x::_=>decide (x.P.az≤d)
def TQ(hi e0 e1:Int)(ls:List (List ai))(d:A8 Int)(i:Nat):Bool:=match ls[i]? with
 |none=>false
 |some l=>(decide (0≤v8 d i)&&decide (v8 d i≤19999))&&((bif decide (0<v8 d i) then !((l.length:Int)==0) else true)&&(cj (cF i) hi 0 l &&
   (bif decide (0<v8 d i)&&!(e1==1&&(e0==(i:Int))) then !ny l (v8 d i) else true)))
def tot(ls:List (List ai)):Int:=(ls.map fun l=>(l.length:Int)).sum
def TT(q:Queue):Bool:=(decide (0≤q.ae.e7)&&decide (q.ae.e7≤10000000))&&((!decide (q.ae.e2<0)&&(!decide (q.ae.e3<0)&&(!decide (q.ae.e4<0)&&!decide (q.ae.e5<0)))) &&
 ((List.range 8).all (TQ q.ae.e7 q.ae.e0 q.ae.e1 q.ah (p7 q.ae))&&decide (tot q.ah≤q.Room)))
def vF(q:Queue):Bool:=(q.af.Kind==5)&&((decide (100≤q.af.A)&&decide (q.af.A≤10000))&&((q.af.B==0)&&((q.af.C==0)&&((decide (1≤q.Room)&&decide (q.Room≤500))&&(((q.ah.length:Int)==8)&&((q.bm==0)&&((q.ae.e6==0) &&
 ((decide (0≤q.ae.e0)&&decide (q.ae.e0≤7))&&((decide (0≤q.ae.e1)&&decide (q.ae.e1≤1))&&(bif q.ae.e1==1 then !(((q.ah[q.ae.e0.toNat]?.getD []).length:Int)==0)&&TT q else TT q))))))))))
theorem Nt(q:Queue):aa.eF q=some (p7 q.ae):=rfl
theorem Ax(ls:List (List ai))(l:List ai):tot (ls++[l])=tot ls+l.length:=by simp[tot]
theorem Ay(ls:List (List ai)):0≤tot ls:=by
 induction ls with
 |nil=>simp[tot]
 |cons l ls ih=>simp only[tot,List.map_cons,List.sum_cons]at ih ⊢; omega
theorem Az{ls:List (List ai)}(i:Nat):tot (ls.take i)≤tot ls:=by
 have h:tot ls=tot (ls.take i)+tot (ls.drop i):=by
  conv=>lhs; rw[←List.take_append_drop i ls]
  simp only[tot,List.map_append,List.sum_append]
 have:=Ay (ls.drop i)
 omega
theorem Ie(q:Queue)(hn:q.ah.length≤2^62)(ht:tot q.ah≤2^62):aa.eg q=some (tot q.ah):=by
 unfold aa.eg
 refine bB (v:=(tot q.ah,(q.ah.length:Int))) ?_ rfl
 have key:∀ n i,q.ah.length-i=n→i≤q.ah.length→aX (ω:=Int×Int) (fun ((i1,i2):Int×Int)=>
   bif decide (i2<(↑q.ah.length:Int)) then bif decide (0≤i2) then (q.ah[i2.toNat]?).bind fun l3=>some (Sum.inl (IntKind.i64.wrap (i1+(↑l3.length:Int)),IntKind.i64.wrap (i2+1))) else none else some (Sum.inr (i1,i2)))
   (tot (q.ah.take i),(i:Int))=some (tot q.ah,(q.ah.length:Int)):=by
  intro n
  induction n with
  |zero=>
   intro i h1 h2
   have:i=q.ah.length:=by omega
   subst this
   refine Go.Pl.out (bF (iP _) ?_)
   rw[List.take_length]
  |succ n ih=>
   intro i h1 h2
   have hi:i<q.ah.length:=by omega
   have hs:tot (q.ah.take (i+1))=tot (q.ah.take i)+(q.ah[i].length:Int):=by rw[List.take_succ_eq_append_getElem hi,Ax]
   have a:=Ay (q.ah.take i)
   have b:=Az (ls:=q.ah) (i+1)
   refine(Go.Pl.next (y:=(tot (q.ah.take (i+1)),((i+1:Nat):Int))) ?_).trans (ih (i+1) (by omega) hi)
   refine bT (eX hi) (bT (ca i) (bB (v:=q.ah[i]) (by simp[hi]) ?_))
   rw[bk (by omega) (by omega),bk (by omega) (by omega),hs]
   simp only[Int.natCast_add,Int.natCast_one]
 have:=key q.ah.length 0 rfl (Nat.zero_le _)
 rwa [List.take_zero]at this
end Go.Proofs.YtpodhambaehlkaaGreatDoor
end
section
/- Plain facts of this seat: what package deficit calls valid. -/
set_option maxRecDepth 100000
namespace Go.Proofs.YtpodhambaehlkaaGreatDoor
open Go.PI Go.Pl
theorem Nu{c y:Bool}{X:Option Bool}(h:c=true→X=some y):(bif !c then some false else X)=some (c&&y):=by
 cases c
 ·rfl
 ·exact h rfl
theorem sfb{c y:Bool}{X:Option Bool}(h:c=false→X=some y):(bif c then some false else X)=some (!c&&y):=by
 cases c
 ·exact h rfl
 ·rfl
section
variable {α:Type}{X:Option α}{g b:Option α}
theorem nck{c y:Bool}(h:c=true→X=bif y then g else b):(bif !c then b else X)=bif (c&&y) then g else b:=by
 cases c
 ·rfl
 ·exact h rfl
theorem sck{c y:Bool}(h:c=false→X=bif y then g else b):(bif c then b else X)=bif (!c&&y) then g else b:=by
 cases c
 ·exact h rfl
 ·rfl
theorem bfl{c:Bool}{x y:Option α}:(bif c then x else y)=bif !c then y else x:=by cases c<;>rfl
end
theorem Nv(q:Queue)(hs:sm q)(h8:q.ah.length=8)(ht:tot q.ah≤2^62)(X:Option Bool)
  (hX:X=(aa.bL q.ae.e7 0 10000000).bind fun b=>bif !b then some false else
    (aX (ω:=Bool ⊕ Bool×Int) (fun ((b7,i8):Bool×Int)=>
 bif decide (i8<4) then
 bif decide (0≤IntKind.i64.wrap (2+i8)) then
 bif decide ((IntKind.i64.wrap (2+i8)).toNat<8) then
 bif decide (v8 q.ae (IntKind.i64.wrap (2+i8)).toNat<0) then
 some (Sum.inr (Sum.inl false))
 else
 some (Sum.inl (b7,IntKind.i64.wrap (i8+1)))
 else
 none
 else
 none
 else
 some (Sum.inr (Sum.inr (b7,i8)))) (false,0)).bind fun w9=>
 Sum.elim (fun yf=>
 some yf) (fun (uO,i12)=>
 (aa.eF q).bind fun rf=>
 (aX (ω:=Bool ⊕ Bool×Int) (fun ((ll,i15):Bool×Int)=>
 bif decide (i15<8) then
 bif decide (0≤i15) then
 bif decide (i15.toNat<8) then
 (aa.bL (v8 rf i15.toNat) 0 19999).bind fun BN=>
 bif !BN then
 some (Sum.inr (Sum.inl false))
 else
 bif decide (0<v8 rf i15.toNat) then
 bif decide (0≤i15) then
 (q.ah[i15.toNat]?).bind fun QL=>
 bif (↑QL.length:Int)==0 then
 some (Sum.inr (Sum.inl false))
 else
 bif decide (0≤i15) then
 (q.ah[i15.toNat]?).bind fun Ew=>
 (aa.di Ew i15 q.ae.e7).bind fun Nw=>
 bif !Nw then
 some (Sum.inr (Sum.inl false))
 else
 bif q.ae.e1==1 then
 bif decide (0<v8 rf i15.toNat) then
 bif !q.ae.e0==i15 then
 bif decide (0≤i15) then
 (q.ah[i15.toNat]?).bind fun jg=>
 (jg[0]?).bind fun LM=>
 bif decide (LM.P.az≤v8 rf i15.toNat) then
 some (Sum.inr (Sum.inl false))
 else
 some (Sum.inl (ll,IntKind.i64.wrap (i15+1)))
 else
 none
 else
 some (Sum.inl (ll,IntKind.i64.wrap (i15+1)))
 else
 some (Sum.inl (ll,IntKind.i64.wrap (i15+1)))
 else
 bif decide (0<v8 rf i15.toNat) then
 bif decide (0≤i15) then
 (q.ah[i15.toNat]?).bind fun l22=>
 (l22[0]?).bind fun q23=>
 bif decide (q23.P.az≤v8 rf i15.toNat) then
 some (Sum.inr (Sum.inl false))
 else
 some (Sum.inl (ll,IntKind.i64.wrap (i15+1)))
 else
 none
 else
 some (Sum.inl (ll,IntKind.i64.wrap (i15+1)))
 else
 none
 else
 none
 else
 bif decide (0≤i15) then
 (q.ah[i15.toNat]?).bind fun gK=>
 (aa.di gK i15 q.ae.e7).bind fun QM=>
 bif !QM then
 some (Sum.inr (Sum.inl false))
 else
 bif q.ae.e1==1 then
 bif decide (0<v8 rf i15.toNat) then
 bif !q.ae.e0==i15 then
 bif decide (0≤i15) then
 (q.ah[i15.toNat]?).bind fun l26=>
 (l26[0]?).bind fun Xf=>
 bif decide (Xf.P.az≤v8 rf i15.toNat) then
 some (Sum.inr (Sum.inl false))
 else
 some (Sum.inl (ll,IntKind.i64.wrap (i15+1)))
 else
 none
 else
 some (Sum.inl (ll,IntKind.i64.wrap (i15+1)))
 else
 some (Sum.inl (ll,IntKind.i64.wrap (i15+1)))
 else
 bif decide (0<v8 rf i15.toNat) then
 bif decide (0≤i15) then
 (q.ah[i15.toNat]?).bind fun ir=>
 (ir[0]?).bind fun q29=>
 bif decide (q29.P.az≤v8 rf i15.toNat) then
 some (Sum.inr (Sum.inl false))
 else
 some (Sum.inl (ll,IntKind.i64.wrap (i15+1)))
 else
 none
 else
 some (Sum.inl (ll,IntKind.i64.wrap (i15+1)))
 else
 none
 else
 none
 else
 none
 else
 some (Sum.inr (Sum.inr (ll,i15)))) (uO,0)).bind fun w30=>
 Sum.elim (fun V7=>
 some V7) (fun (b32,i33)=>
 (aa.eg q).bind fun i34=>
 some (decide (i34≤q.Room))) w30) w9):X=some (TT q):=by
  subst hX
  unfold TT
  rw[BM]
  refine bB rfl (Nu fun _=>?_)
  refine bB (vL (fun i=>(false,(i:Int))) (fun i=>!decide (v8 q.ae (2+i)<0)) 4 (.inr (false,4)) (.inl false) ?_ rfl rfl) ?_
  ·intro i hi
   rcases (by omega:i=0∨i=1∨i=2∨i=3) with rfl|rfl|rfl|rfl<;>exact bT rfl (bT rfl (bT rfl bfl))
  rw[show (List.range 4).all (fun i=>!decide (v8 q.ae (2+i)<0))=(!decide (q.ae.e2<0)&&(!decide (q.ae.e3<0)&&(!decide (q.ae.e4<0)&&!decide (q.ae.e5<0)))) by simp[List.range_succ,v8,rV,Bool.and_assoc]]
  cases (!decide (q.ae.e2<0)&&(!decide (q.ae.e3<0)&&(!decide (q.ae.e4<0)&&!decide (q.ae.e5<0))))
  ·rfl
  simp only[cond_true,Sum.elim_inr,Bool.true_and,Nt,Option.bind_some]
  refine bB (vL (fun i=>(false,(i:Int))) (TQ q.ae.e7 q.ae.e0 q.ae.e1 q.ah (p7 q.ae)) 8 (.inr (false,8)) (.inl false) ?_ rfl rfl) ?_
  ·intro i hi
   have hl:q.ah[i]?=some q.ah[i]:=List.getElem?_eq_getElem (by omega)
   have TU:(q.ah[i]).length≤2^63-1:=hs _ (List.getElem_mem _)
   revert hl TU
   generalize q.ah[i]=l
   intro hl TU
   have kW:q.ah[(i:Int).toNat]?=some l:=by rw[Int.toNat_natCast]; exact hl
   have hu:TQ q.ae.e7 q.ae.e0 q.ae.e1 q.ah (p7 q.ae) i=((decide (0≤v8 (p7 q.ae) i)&&decide (v8 (p7 q.ae) i≤19999))&&((bif decide (0<v8 (p7 q.ae) i) then !((l.length:Int)==0) else true)&&(cj (cF i) q.ae.e7 0 l &&
    (bif decide (0<v8 (p7 q.ae) i)&&!(q.ae.e1==1&&(q.ae.e0==(i:Int))) then !ny l (v8 (p7 q.ae) i) else true)))):=by unfold TQ; rw[hl]
   rw[hu]
   have hw:IntKind.i64.wrap ((i:Int)+1)=((i+1:Nat):Int):=bk (by omega) (by omega)
   refine bT (decide_eq_true (by omega)) (bT (ca i) (bT (decide_eq_true (by rw[Int.toNat_natCast]; exact hi)) ?_))
   simp only[Int.toNat_natCast,BM,Option.bind_some,kW,hl,hw,TB l _ _ TU,ca,cond_true]
   refine nck fun _=>?_
   cases hd:decide (0<v8 (p7 q.ae) i)
   ·simp only[cond_false,Bool.false_and,Bool.true_and,Bool.and_true]
    cases cj (cF i) q.ae.e7 0 l<;>cases (q.ae.e1==1)<;>rfl
   ·simp only[cond_true,Bool.true_and]
    refine sck fun hz=>?_
    refine nck fun _=>?_
    cases l with
    |nil=>simp at hz
    |cons x xs=>
     simp only[List.getElem?_cons_zero,Option.bind_some,ny]
     cases (q.ae.e1==1)<;>cases (q.ae.e0==(i:Int))<;>cases decide (x.P.az≤v8 (p7 q.ae) i)<;>rfl
  cases (List.range 8).all (TQ q.ae.e7 q.ae.e0 q.ae.e1 q.ah (p7 q.ae))
  ·rfl
  simp only[cond_true,Sum.elim_inr,Bool.true_and]
  rw[Ie q (by omega) ht]
  rfl
theorem Xg(q:Queue)(hs:sm q)(ht:tot q.ah≤2^62):aa.eA q=some (vF q):=by
 unfold aa.eA vF
 rw[BM,BM,BM,BM]
 refine Nu fun _=>bB rfl (Nu fun _=>Nu fun _=>Nu fun _=>bB rfl (Nu fun _=>Nu fun h8=>Nu fun _=>Nu fun _=>?_))
 have h8:q.ah.length=8:=by rw[beq_iff_eq]at h8; omega
 refine bB rfl (Nu fun h0=>bB rfl (Nu fun _=>?_))
 have h0:0≤q.ae.e0∧q.ae.e0≤7:=by
  have h:(decide (0≤q.ae.e0)&&decide (q.ae.e0≤7))=true:=h0
  simpa only[Bool.and_eq_true,decide_eq_true_eq] using h
 have hg:q.ah[q.ae.e0.toNat]?=some (q.ah[q.ae.e0.toNat]?.getD []):=by
  rw[List.getElem?_eq_getElem (by omega)]; rfl
 cases he:(q.ae.e1==1)
 ·exact bF he (Nv q hs h8 ht _ rfl)
 ·refine bT he (bT (decide_eq_true h0.1) (bB hg ?_))
  refine sfb fun _=>Nv q hs h8 ht _ rfl
end Go.Proofs.YtpodhambaehlkaaGreatDoor
end
section
/- Plain facts of this seat: package deficit, what comes. -/
set_option maxRecDepth 100000
namespace Go.Proofs.YtpodhambaehlkaaGreatDoor
open Go.PI Go.Pl
def DD(hi e0 e1:Int)(i:Nat)(l:List ai)(d:Int):Prop:=(0≤d∧d≤19999)∧(0<d→l≠[])∧cj (cF i) hi 0 l=true∧(0<d→¬(e1=1∧e0=(i:Int))→∀ x xs,l=x::xs→d<x.P.az)
theorem QN{hi e0 e1:Int}{ls:List (List ai)}{d:A8 Int}{i:Nat}:TQ hi e0 e1 ls d i=true↔∃ l,ls[i]?=some l∧DD hi e0 e1 i l (v8 d i):=by
 unfold TQ DD
 cases hl:ls[i]? with
 |none=>simp
 |some l=>
  simp only[Option.some.injEq,exists_eq_left']
  by_cases h0:0<v8 d i
  ·cases l with
   |nil=>simp[h0]
   |cons x xs=>
    by_cases h1:e1=1<;>by_cases h2:e0=(i:Int)<;>simp[h0,h1,h2,ny,show ¬((xs.length:Int)+1=0) by omega]
    all_goals
     constructor
     ·rintro⟨⟨a,b⟩,c,d⟩
      exact⟨⟨a,b⟩,c,fun y ys e _=>by subst e; exact d⟩
     ·rintro⟨⟨a,b⟩,c,d⟩
      exact⟨⟨a,b⟩,c,d x xs rfl rfl⟩
  ·simp[h0]
structure VF(q:Queue):Prop where
 kind:q.af.Kind=5
 pa:100≤q.af.A∧q.af.A≤10000
 pb:q.af.B=0
 pc:q.af.C=0
 r0:1≤q.Room
 r1:q.Room≤500
 n8:q.ah.length=8
 sd:q.bm=0
 z:q.ae.e6=0
 v0:0≤q.ae.e0∧q.ae.e0≤7
 v1:0≤q.ae.e1∧q.ae.e1≤1
 uc:q.ae.e1=1→∃ l,q.ah[q.ae.e0.toNat]?=some l∧l≠[]
 t0:0≤q.ae.e7
 t1:q.ae.e7≤10000000
 pk:0≤q.ae.e2∧0≤q.ae.e3∧0≤q.ae.e4∧0≤q.ae.e5
 dd:∀ i,i<8→∃ l,q.ah[i]?=some l∧DD q.ae.e7 q.ae.e0 q.ae.e1 i l (v8 (p7 q.ae) i)
 len:tot q.ah≤q.Room
theorem JJ(q:Queue):TT q=true↔((0≤q.ae.e7∧q.ae.e7≤10000000)∧(0≤q.ae.e2∧0≤q.ae.e3∧0≤q.ae.e4∧0≤q.ae.e5)∧(∀ i,i<8→∃ l,q.ah[i]?=some l∧DD q.ae.e7 q.ae.e0 q.ae.e1 i l (v8 (p7 q.ae) i))∧tot q.ah≤q.Room):=by
 unfold TT
 simp only[Bool.and_eq_true,Bool.not_eq_true',decide_eq_true_eq,decide_eq_false_iff_not,List.all_eq_true,List.mem_range,QN,Int.not_lt]
theorem TW(q:Queue):vF q=true↔VF q:=by
 unfold vF
 constructor
 ·intro h
  simp only[Bool.and_eq_true,decide_eq_true_eq,beq_iff_eq]at h
  obtain⟨h1,h2,h3,h4,h5,h6,h7,h8,h9,h10,h11⟩:=h
  have g:(q.ae.e1=1→∃ l,q.ah[q.ae.e0.toNat]?=some l∧l≠[])∧TT q=true:=by
   by_cases he:q.ae.e1=1
   ·rw[show (q.ae.e1==1)=true by simpa using he]at h11
    simp only[cond_true,Bool.and_eq_true,Bool.not_eq_true',beq_eq_false_iff_ne]at h11
    refine⟨fun _=>⟨_,List.getElem?_eq_getElem (show q.ae.e0.toNat<q.ah.length by omega),fun e=>?_⟩,h11.2⟩
    rw[List.getElem?_eq_getElem (show q.ae.e0.toNat<q.ah.length by omega),Option.getD_some,e]at h11
    exact h11.1 rfl
   ·rw[show (q.ae.e1==1)=false by simpa using he]at h11
    exact⟨fun e=>absurd e he,h11⟩
  obtain⟨g1,g2,g3,g4⟩:=(JJ q).1 g.2
  exact⟨h1,h2,h3,h4,h5.1,h5.2,by omega,h7,h8,h9,h10,g.1,g1.1,g1.2,g2,g3,g4⟩
 ·intro h
  have g:=(JJ q).2 ⟨⟨h.t0,h.t1⟩,h.pk,h.dd,h.len⟩
  have hn:=h.n8
  simp only[Bool.and_eq_true,decide_eq_true_eq,beq_iff_eq]
  refine⟨h.kind,h.pa,h.pb,h.pc,⟨h.r0,h.r1⟩,by omega,h.sd,h.z,h.v0,h.v1,?_⟩
  rw[g,Bool.and_true]
  by_cases he:q.ae.e1=1
  ·obtain⟨l,hl,dY⟩:=h.uc he
   rw[hl,Option.getD_some]
   cases l with
   |nil=>exact absurd rfl dY
   |cons x xs=>cases (q.ae.e1==1)<;>simp<;>omega
  ·rw[show (q.ae.e1==1)=false by simpa using he]; rfl
theorem vM{ls:List (List ai)}{l:List ai}(h:l∈ls):(l.length:Int)≤tot ls:=by
 induction ls with
 |nil=>simp at h
 |cons a ls ih=>
  have:=Ay ls
  simp only[tot,List.map_cons,List.sum_cons]at ih this ⊢
  rcases List.mem_cons.1 h with rfl|h
  ·omega
  ·have:=ih h; omega
theorem VF.sm{q:Queue}(h:VF q):sm q:=by
 intro l hl
 have:=vM hl; have:=h.len; have:=h.r1
 omega
theorem VF.valid{q:Queue}(h:VF q):aa.eA q=some true:=by
 have:=h.len; have:=h.r1
 rw[Xg q h.sm (by omega),(TW q).2 h]
theorem QO{ls:List (List ai)}{i:Nat}{l l':List ai}(h:ls[i]?=some l):tot (ls.set i l')=tot ls+l'.length-l.length:=by
 induction ls generalizing i with
 |nil=>simp at h
 |cons a ls ih=>
  cases i with
  |zero=>simp only[List.getElem?_cons_zero,Option.some.injEq]at h; subst h; simp only[List.set_cons_zero,tot,List.map_cons,List.sum_cons]; omega
  |succ i=>
   have:=ih (i:=i) (by simpa using h)
   simp only[List.set_cons_succ,tot,List.map_cons,List.sum_cons]at this ⊢
   omega
def fQ(q:Queue)(ls:List (List ai))(v:A8 Int):Queue:=Queue.mk q.af q.Room ls v q.bm
def at7(v:A8 Int)(now:Int):A8 Int:=A8.mk v.e0 v.e1 v.e2 v.e3 v.e4 v.e5 v.e6 now
theorem TX{q:Queue}(h:VF q){now:Int}(hn:0≤now∧now≤10000000)(hle:q.ae.e7≤now):VF (fQ q q.ah (at7 q.ae now)):=
 ⟨h.kind,h.pa,h.pb,h.pc,h.r0,h.r1,h.n8,h.sd,h.z,h.v0,h.v1,h.uc,hn.1,hn.2,h.pk,fun i hi=>by
   obtain⟨l,hl,d1,d2,d3,d4⟩:=h.dd i hi
   exact⟨l,hl,d1,d2,ub hle d3,d4⟩,h.len⟩
end Go.Proofs.YtpodhambaehlkaaGreatDoor
end
section
/- Plain facts of this seat: package deficit, calls. -/
set_option maxRecDepth 100000
set_option maxHeartbeats 1000000
namespace Go.Proofs.YtpodhambaehlkaaGreatDoor
open Go.PI Go.Pl
theorem LC{α:Type}{l:List ai}(hl:l.length≤1000){K:Int→List ai→Nat→Nat→Option α}:
  ((some (IntKind.i64.wrap ((↑l.length:Int)+1))).bind fun i=>bif decide (0≤i) then bif decide (0≤i.toNat)&&decide (i.toNat*64≤2^47)&&decide (i.toNat<2^62) then
    bif decide (0+l.length≤i.toNat)&&decide (0+l.length≤(List.replicate i.toNat zW).length) then (some (l++List.drop (0+l.length) (List.replicate i.toNat zW))).bind fun b=>
     (some 0:Option Nat).bind fun n=>(some (0+l.length)).bind fun m=>K i b n m else none else none else none)=K ((l.length+1:Nat):Int) (l++[zW]) 0 l.length:=by
 have hw:IntKind.i64.wrap ((l.length:Int)+1)=((l.length+1:Nat):Int):=bk (by omega) (by omega)
 refine bB (v:=((l.length+1:Nat):Int)) (by rw[hw]) ?_
 refine bT (ca _) (bT (by simp only[Int.toNat_natCast,Bool.and_eq_true,decide_eq_true_eq]; omega) (bT (by simp only[Int.toNat_natCast,Bool.and_eq_true,decide_eq_true_eq,List.length_replicate]; omega) ?_))
 simp only[Int.toNat_natCast,Option.bind_some,Nq]
 rw[Nat.zero_add]
theorem ck1(l:List ai):decide (0+l.length≤(l++[zW]).length)=true:=decide_eq_true (by rw[List.length_append]; omega)
theorem tk1(l:List ai):List.take l.length (List.drop 0 (l++[zW]))=l:=by rw[List.drop_zero,List.take_left]
theorem pE{α:Type}(P:Option α→Prop){x y:Option α}(h:x=y)(hy:P y):P x:=h▸hy
theorem l8{α:Type}{ls:List α}(h:ls.length=8):∃ a b c d e f g i,ls=[a,b,c,d,e,f,g,i]:=by
 match ls,h with
 |[a,b,c,d,e,f,g,i],_=>exact⟨a,b,c,d,e,f,g,i,rfl⟩
end Go.Proofs.YtpodhambaehlkaaGreatDoor
end
section
/- Plain facts of this seat: the rounds of package deficit. -/
set_option maxRecDepth 100000
namespace Go.Proofs.YtpodhambaehlkaaGreatDoor
open Go.PI Go.Pl
section
variable {τ ω α:Type}
def NxE(E:ω→Prop)(I:Nat→τ→Prop)(n:Nat)(o:Option (τ ⊕ ω)):Prop:=match o with
 |some (.inl y)=>∃ m,m<n∧I m y
 |some (.inr w)=>E w
 |none=>False
theorem TY{f:τ→Option (τ ⊕ ω)}{K:ω→Option α}{P:Option α→Prop}(E:ω→Prop)(I:Nat→τ→Prop)(hE:∀ w,E w→P (K w))(hs:∀ n s,I n s→NxE E I n (f s))(n:Nat)(x0:τ)(h:I n x0):P ((aX f x0).bind K):=by
 refine Nr I (fun n s h=>?_) n x0 h
 have:=hs n s h
 unfold NxE at this
 unfold Nx
 match hf:f s with
 |none=>rw[hf]at this; exact this
 |some (.inl y)=>rw[hf]at this; exact this
 |some (.inr w)=>rw[hf]at this; exact hE w this
end
def sA(d:A8 Int)(i:Nat)(x:Int):A8 Int:=match i with
 |0=>A8.mk x d.e1 d.e2 d.e3 d.e4 d.e5 d.e6 d.e7
 |1=>A8.mk d.e0 x d.e2 d.e3 d.e4 d.e5 d.e6 d.e7
 |2=>A8.mk d.e0 d.e1 x d.e3 d.e4 d.e5 d.e6 d.e7
 |3=>A8.mk d.e0 d.e1 d.e2 x d.e4 d.e5 d.e6 d.e7
 |4=>A8.mk d.e0 d.e1 d.e2 d.e3 x d.e5 d.e6 d.e7
 |5=>A8.mk d.e0 d.e1 d.e2 d.e3 d.e4 x d.e6 d.e7
 |6=>A8.mk d.e0 d.e1 d.e2 d.e3 d.e4 d.e5 x d.e7
 |_=>A8.mk d.e0 d.e1 d.e2 d.e3 d.e4 d.e5 d.e6 x
theorem Sg{i:Nat}(h:i<8):i=0∨i=1∨i=2∨i=3∨i=4∨i=5∨i=6∨i=7:=by omega
theorem xa(d:A8 Int){i j:Nat}(x:Int)(hi:i<8)(hj:j<8):v8 (sA d i x) j=if j=i then x else v8 d j:=by
 rcases Sg hi with rfl|rfl|rfl|rfl|rfl|rfl|rfl|rfl<;>rcases Sg hj with rfl|rfl|rfl|rfl|rfl|rfl|rfl|rfl<;>rfl
def W2(a b:Int):Int:=IntKind.i64.wrap (IntKind.i64.wrap (32768*a)+b)
def PK(t g:Int)(d:A8 Int)(e6 now:Int):A8 Int:=A8.mk t g (W2 d.e0 d.e1) (W2 d.e2 d.e3) (W2 d.e4 d.e5) (W2 d.e6 d.e7) e6 now
theorem JK{a b:Int}(ha:0≤a∧a≤19999)(hb:0≤b∧b≤19999):0≤W2 a b∧IntKind.i64.wrap ((W2 a b).tdiv 32768)=a∧(W2 a b).tmod 32768=b:=by
 have hw:W2 a b=32768*a+b:=by
  unfold W2
  rw[bk (n:=32768*a) (by omega) (by omega),bk (by omega) (by omega)]
 rw[hw,Int.tdiv_eq_ediv_of_nonneg (by omega),Int.tmod_eq_emod_of_nonneg (by omega)]
 refine⟨by omega,?_,by omega⟩
 rw[bk (by omega) (by omega)]; omega
theorem QP{t g e6 now:Int}{d:A8 Int}(h:∀ i,i<8→0≤v8 d i∧v8 d i≤19999):p7 (PK t g d e6 now)=d∧(0≤(PK t g d e6 now).e2∧0≤(PK t g d e6 now).e3∧0≤(PK t g d e6 now).e4∧0≤(PK t g d e6 now).e5):=by
 obtain⟨a1,a2,a3⟩:=JK (h 0 (by omega)) (h 1 (by omega))
 obtain⟨b1,b2,b3⟩:=JK (h 2 (by omega)) (h 3 (by omega))
 obtain⟨c1,c2,c3⟩:=JK (h 4 (by omega)) (h 5 (by omega))
 obtain⟨d1,d2,d3⟩:=JK (h 6 (by omega)) (h 7 (by omega))
 refine⟨?_,a1,b1,c1,d1⟩
 obtain⟨x0,x1,x2,x3,x4,x5,x6,x7⟩:=d
 exact congr (congr (congr (congr (congr (congr (congr (congrArg A8.mk a2) a3) b2) b3) c2) c3) d2) d3
theorem Sh{q:Queue}(h:VF q){now:Int}(hn:0≤now∧now≤10000000){t:Nat}{x:ai}{xs:List ai}(hx:q.ah[t]?=some (x::xs)){t' g:Int}{d:A8 Int}(h0:0≤t'∧t'≤7)(hg:0≤g∧g≤1)
  (TZ:g=1→∃ l,(q.ah.set t xs)[t'.toNat]?=some l∧l≠[]) (hd:∀ i,i<8→∃ l,(q.ah.set t xs)[i]?=some l∧DD now t' g i l (v8 d i)):VF (fQ q (q.ah.set t xs) (PK t' g d q.ae.e6 now)):=by
 have hr:∀ i,i<8→0≤v8 d i∧v8 d i≤19999:=fun i hi=>by obtain⟨l,_,h1,_⟩:=hd i hi; exact h1
 obtain⟨hk,hp⟩:=QP (t:=t') (g:=g) (e6:=q.ae.e6) (now:=now) hr
 refine⟨h.kind,h.pa,h.pb,h.pc,h.r0,h.r1,by simp[fQ,h.n8],h.sd,h.z,h0,hg,TZ,hn.1,hn.2,hp,?_,?_⟩
 ·show ∀ i,i<8→∃ l,(q.ah.set t xs)[i]?=some l∧DD now t' g i l (v8 (p7 (PK t' g d q.ae.e6 now)) i)
  rw[hk]; exact hd
 ·show tot (q.ah.set t xs)≤q.Room
  have:=h.len
  rw[QO hx]
  simp only[List.length_cons]; omega
structure Inv(ls:List (List ai))(now uc:Int)(t:Nat)(d:A8 Int):Prop where
 t8:t<8
 g:uc=0∨uc=1
 go:uc=1→∃ l,ls[t]?=some l∧l≠[]
 d:∀ i,i<8→∃ l,ls[i]?=some l∧DD now t uc i l (v8 d i)
def mu(j:Nat)(s uc:Int)(t:Nat)(d:A8 Int):Nat:=16*(s-v8 d j).toNat+8*uc.toNat+(j+8-t)%8
structure Out(ls:List (List ai))(now:Int)(t:Nat)(x:ai)(xs:List ai)(d:A8 Int):Prop where
 t8:t<8
 hx:ls[t]?=some (x::xs)
 r:0≤v8 d t-x.P.az∧v8 d t-x.P.az≤19999
 w:1≤x.P.az∧x.P.az≤10000
 o:cj (cF t) now 0 (x::xs)=true
 d:∀ i,i<8→i≠t→∃ l,ls[i]?=some l∧DD now t 1 i l (v8 d i)
theorem rW{c:ai→Bool}{now a:Int}{x:ai}{xs:List ai}(hc:∀ y,c y=true→pR y.P=true)(h:cj c now a (x::xs)=true):1≤x.P.az∧x.P.az≤10000:=by
 simp only[cj,td,Bool.and_eq_true]at h
 have:=hc _ h.1.1
 simp only[pR,Bool.and_eq_true,decide_eq_true_eq]at this
 exact this.2.2.2.2.1
theorem FE{f:Int}(y:ai)(h:cF f y=true):pR y.P=true:=by
 simp only[cF,Bool.and_eq_true]at h; exact h.1
theorem pV{now e0 e1 Xe e1':Int}{i:Nat}{l:List ai}{d:Int}(h:DD now e0 e1 i l d)(hx:¬(e1=1∧e0=(i:Int))):DD now Xe e1' i l d:=
 ⟨h.1,h.2.1,h.2.2.1,fun h0 _=>h.2.2.2 h0 hx⟩
theorem T2{t:Nat}(h:t<8):(t+1)%8<8:=Nat.mod_lt _ (by omega)
variable {ls:List (List ai)}{now uc:Int}{t j:Nat}{d:A8 Int}{s:Int}
theorem Nz(h:Inv ls now uc t d)(hl:ls[t]?=some []):Inv ls now 0 ((t+1)%8) d:=by
 have hg:uc=0:=by
  rcases h.g with e|e
  ·exact e
  ·obtain⟨l,h1,h2⟩:=h.go e
   rw[hl,Option.some.injEq]at h1
   exact absurd h1.symm h2
 subst hg
 refine⟨T2 h.t8,.inl rfl,fun e=>by simp at e,fun i hi=>?_⟩
 obtain⟨l,h1,h2⟩:=h.d i hi
 exact⟨l,h1,pV h2 (by simp)⟩
theorem QQ(h:Inv ls now uc t d)(hj:j<8)(dY:j≠t):mu j s 0 ((t+1)%8) d<mu j s uc t d:=by
 have:=h.t8
 unfold mu
 omega
theorem NA(h:Inv ls now uc t d){x:ai}{xs:List ai}(hx:ls[t]?=some (x::xs))(hs:v8 d t<x.P.az):Inv ls now 0 ((t+1)%8) d:=by
 refine⟨T2 h.t8,.inl rfl,fun e=>by simp at e,fun i hi=>?_⟩
 obtain⟨l,h1,h2⟩:=h.d i hi
 by_cases he:i=t
 ·subst he
  obtain rfl:l=x::xs:=Option.some.inj (h1.symm.trans hx)
  refine⟨_,h1,h2.1,h2.2.1,h2.2.2.1,fun _ _ y ys e=>?_⟩
  simp only[List.cons.injEq]at e
  rw[←e.1]; exact hs
 ·exact⟨l,h1,pV h2 (by omega)⟩
theorem QR(h:Inv ls now uc t d)(hg:uc=1)(hj:j<8):mu j s 0 ((t+1)%8) d<mu j s uc t d:=by
 have:=h.t8
 subst hg
 unfold mu
 omega
theorem QS(h:Inv ls now 0 t d){x:ai}{xs:List ai}(hx:ls[t]?=some (x::xs)){A:Int}(hA:100≤A∧A≤10000)(hs:v8 d t+A<x.P.az):Inv ls now 0 ((t+1)%8) (sA d t (v8 d t+A)):=by
 refine⟨T2 h.t8,.inl rfl,fun e=>by simp at e,fun i hi=>?_⟩
 obtain⟨l,h1,h2⟩:=h.d i hi
 rw[xa d _ h.t8 hi]
 by_cases he:i=t
 ·subst he
  obtain rfl:l=x::xs:=Option.some.inj (h1.symm.trans hx)
  rw[if_pos rfl]
  have hw:=rW FE h2.2.2.1
  have h3:=h2.1
  refine⟨_,h1,⟨by omega,by omega⟩,fun _=>by simp,h2.2.2.1,fun _ _ y ys e=>?_⟩
  simp only[List.cons.injEq]at e
  rw[←e.1]; exact hs
 ·rw[if_neg he]
  exact⟨l,h1,pV h2 (by simp)⟩
theorem T3(h:Inv ls now 0 t d)(hj:j<8){x:ai}{xs:List ai}(hx:ls[t]?=some (x::xs)){A:Int}(hA:100≤A∧A≤10000)(hs:v8 d t+A<x.P.az)(QT:t=j→s=x.P.az):mu j s 0 ((t+1)%8) (sA d t (v8 d t+A))<mu j s 0 t d:=by
 have:=h.t8
 unfold mu
 rw[xa d _ h.t8 hj]
 by_cases he:j=t
 ·subst he
  rw[if_pos rfl,QT rfl]
  omega
 ·rw[if_neg he]; omega
theorem QU(h:Inv ls now 1 t d){x:ai}{xs:List ai}(hx:ls[t]?=some (x::xs))(hs:x.P.az≤v8 d t):Out ls now t x xs d:=by
 obtain⟨l,h1,h2⟩:=h.d t h.t8
 obtain rfl:l=x::xs:=Option.some.inj (h1.symm.trans hx)
 have hw:=rW FE h2.2.2.1
 have:=h2.1
 exact⟨h.t8,hx,by omega,hw,h2.2.2.1,fun i hi _=>h.d i hi⟩
theorem QW(h:Inv ls now 0 t d){x:ai}{xs:List ai}(hx:ls[t]?=some (x::xs)){A:Int}(hA:100≤A∧A≤10000)(hs:x.P.az≤v8 d t+A):Out ls now t x xs (sA d t (v8 d t+A)):=by
 obtain⟨l,h1,h2⟩:=h.d t h.t8
 obtain rfl:l=x::xs:=Option.some.inj (h1.symm.trans hx)
 have hw:=rW FE h2.2.2.1
 have h3:=h2.1
 have h4:=h2.2.2.2
 refine⟨h.t8,hx,?_,hw,h2.2.2.1,fun i hi dY=>?_⟩
 ·rw[xa d _ h.t8 h.t8,if_pos rfl]
  by_cases h0:0<v8 d t
  ·have:=h4 h0 (by simp) x xs rfl
   omega
  ·omega
 ·rw[xa d _ h.t8 hi,if_neg dY]
  obtain⟨l,h1,h2⟩:=h.d i hi
  exact⟨l,h1,pV h2 (by simp)⟩
end Go.Proofs.YtpodhambaehlkaaGreatDoor
end
section
/- Plain facts of this seat: what is taken from package deficit. -/
set_option maxRecDepth 100000
set_option maxHeartbeats 2000000
namespace Go.Proofs.YtpodhambaehlkaaGreatDoor
open Go.PI Go.Pl
theorem ck4(l:List ai):decide (0+1+(l.length-1)≤(l++[zW]).length)=true:=decide_eq_true (by rw[List.length_append]; simp only[List.length_cons,List.length_nil]; omega)
theorem tk3(l:List ai):List.take (l.length-1) (List.drop (0+1) (l++[zW]))=l.tail:=by
 cases l with
 |nil=>rfl
 |cons x xs=>simp
theorem ck5(l:List ai)(n:Nat):(decide (1≤l.length)&&decide (l.length≤(some (((l.length+1:Nat):Int)).toNat).getD n)&&decide (0<(l++[zW]).length))=decide (1≤l.length):=by
 rw[decide_eq_true (show l.length≤(some (((l.length+1:Nat):Int)).toNat).getD n by simp),decide_eq_true (show 0<(l++[zW]).length by simp),Bool.and_true,Bool.and_true]
theorem Xh{α:Type}{P:Option α→Prop}{l:List ai}{uc:Int}{c1 c2:ai→Bool}{a:Option α}{b1 b2 b3 b4:ai→Option α}
  (h0:l=[]→P a) (h1:∀ x xs,l=x::xs→uc=0→P (bif c1 x then b1 x else b2 x)) (h2:∀ x xs,l=x::xs→uc≠0→P (bif c2 x then b3 x else b4 x)) :
  P (bif (l.length:Int)==0 then a else bif uc==0 then bif decide (0<l.length) then ((l++[zW])[0+0]?).bind fun x=>bif c1 x then b1 x else b2 x else none else bif decide (0<l.length) then ((l++[zW])[0+0]?).bind fun x=>bif c2 x then b3 x else b4 x else none):=by
 cases l with
 |nil=>exact h0 rfl
 |cons x xs=>
  refine pF P (by simp only[List.length_cons,beq_eq_false_iff_ne]; omega) (pC P (fun hg=>pT P (by simp) (pB P (v:=x) rfl (h1 x xs rfl (by simpa using hg)))) (fun hg=>pT P (by simp) (pB P (v:=x) rfl (h2 x xs rfl (by simpa using hg)))))
abbrev ST:Type:=Int×Int×Int×Int×Int×Int×Int×Int×Bool×Bool×Int×Int×Int×Int×Int×Int×Int×Int
def sF(uc aaU:Int)(o:an)(d:A8 Int):ST:=(uc,aaU,o.aH,o.Sub,o.Number,o.Data,o.az,o.aQ,o.aJ,o.aB,d.e0,d.e1,d.e2,d.e3,d.e4,d.e5,d.e6,d.e7)
def IF(ls:List (List ai))(now:Int)(j:Nat)(s:Int)(n:Nat)(x:ST):Prop:=∃ uc t o d,Inv ls now uc t d∧n=mu j s uc t d∧x=sF uc (t:Int) o d
def EF(ls:List (List ai))(now:Int)(x:ST):Prop:=∃ t y ys d,Out ls now t y ys d∧x=sF 1 (t:Int) y.P d
def TF(q:Queue)(ls:List (List ai))(now:Int)(r:Option TR):Prop:=(tot ls=0∧r=some (fQ q ls (at7 q.ae now),zP,false,[],0)) ∨
 ∃ i x xs v,ls[i]?=some (x::xs)∧VF (fQ q (ls.set i xs) v)∧v.e7=now∧r=some (fQ q (ls.set i xs) v,x.P,true,[],0)
theorem T4{q:Queue}(h:VF q){ls:List (List ai)}(QX:q.ah=ls){now:Int}(hn:0≤now∧now≤10000000){t:Nat}{x:ai}{xs:List ai}{d:A8 Int}(ho:Out ls now t x xs d):
  VF (bif (xs.length:Int)==0 then fQ q (ls.set t xs) (PK (((t+1)%8:Nat):Int) 0 (sA d t 0) q.ae.e6 now) else fQ q (ls.set t xs) (PK (t:Int) 1 (sA d t (IntKind.i64.wrap (v8 d t-x.P.az))) q.ae.e6 now)):=by
 subst QX
 rw[bk (n:=v8 d t-x.P.az) (by have:=ho.r; omega) (by have:=ho.r; omega)]
 have ht:=ho.t8
 have hl8:=h.n8
 have hnx:(q.ah.set t xs)[t]?=some xs:=List.getElem?_set_self (by omega)
 have WD:cj (cF t) now 0 xs=true:=vJ (Int.le_refl 0) ho.o
 cases xs with
 |nil=>
  refine Sh h hn ho.hx ⟨by omega,by omega⟩ ⟨by omega,by omega⟩ (fun e=>by simp at e) fun i hi=>?_
  rw[xa d _ ht hi]
  by_cases he:i=t
  ·subst he
   exact⟨_,hnx,⟨by simp,by simp⟩,fun h0=>by simp at h0,WD,fun h0=>by simp at h0⟩
  ·rw[if_neg he]
   obtain⟨l,h1,h2⟩:=ho.d i hi he
   exact⟨l,by rw[List.getElem?_set_ne (fun e=>he e.symm)]; exact h1,pV h2 (by omega)⟩
 |cons y ys=>
  show VF (fQ q (q.ah.set t (y::ys)) (PK (t:Int) 1 (sA d t (v8 d t-x.P.az)) q.ae.e6 now))
  refine Sh h hn ho.hx ⟨by omega,by omega⟩ ⟨by omega,by omega⟩ (fun _=>⟨_,by rw[Int.toNat_natCast]; exact hnx,by simp⟩) fun i hi=>?_
  rw[xa d _ ht hi]
  by_cases he:i=t
  ·subst he
   rw[if_pos rfl]
   exact⟨_,hnx,ho.r,fun h0=>by simp,WD,fun h0 hx=>absurd ⟨rfl,rfl⟩ hx⟩
  ·rw[if_neg he]
   obtain⟨l,h1,h2⟩:=ho.d i hi he
   exact⟨l,by rw[List.getElem?_set_ne (fun e=>he e.symm)]; exact h1,pV h2 (by omega)⟩
theorem T5{q:Queue}(h:VF q){now:Int}(hn:tu now=true)(hle:q.ae.e7≤now):TF q q.ah now (aa.kf q now):=by
 have hlen:=h.len; have hr:=h.r1; have hn8:=h.n8
 have qQ:=cU.1 hn
 have hm:∀ l∈q.ah,l.length≤1000:=fun l hl=>by have:=vM hl; omega
 have hV:=h.valid
 have PD:Inv q.ah now q.ae.e1 q.ae.e0.toNat (p7 q.ae):=by
  have h0:=h.v0
  refine⟨by omega,by have:=h.v1; omega,h.uc,fun i hi=>?_⟩
  obtain⟨l,h1,h2,h3,h4,h5⟩:=h.dd i hi
  exact⟨l,h1,h2,h3,ub hle h4,fun a b=>h5 a (by omega)⟩
 have zD:∀ {t x xs d},Out q.ah now t x xs d→_:=fun ho=>T4 h rfl qQ ho
 unfold aa.kf
 refine pB _ hV (pF _ rfl ?_)
 refine pB _ (BM now 0 10000000) (pF _ (by rw[show (decide (0≤now)&&decide (now≤10000000))=true from hn]; rfl) ?_)
 refine pF _ (decide_eq_false (by omega)) (pT _ (by rw[h.n8]; rfl) ?_)
 obtain⟨l0,l1,l2,l3,l4,l5,l6,l7,hq⟩:=l8 h.n8
 have Zv:tot q.ah≠0→∃ j x xs,j<8∧q.ah[j]?=some (x::xs):=by
  intro h0
  have:∃ l∈q.ah,l≠[]:=by
   refine Classical.byContradiction fun hc=>h0 ?_
   have:∀ l∈q.ah,l=[]:=fun l hl=>Classical.byContradiction fun e=>hc ⟨l,hl,e⟩
   clear hc
   revert this
   generalize q.ah=ls
   intro this
   induction ls with
   |nil=>rfl
   |cons a ls ih=>simp only[tot,List.map_cons,List.sum_cons]at ih ⊢; rw[ih (fun l hl=>this l (by simp[hl])),this a (by simp)]; rfl
  obtain⟨l,hl,dY⟩:=this
  obtain⟨j,hj,rfl⟩:=List.getElem_of_mem hl
  cases hc:q.ah[j] with
  |nil=>exact absurd hc dY
  |cons x xs=>exact⟨j,x,xs,by omega,by rw[List.getElem?_eq_getElem hj,hc]⟩
 have ep:∀ {j x xs},j<8→q.ah[j]?=some (x::xs)→x.P.az≤10000:=by
  intro j x xs hj hx
  obtain⟨l,h1,h2⟩:=h.dd j hj
  obtain rfl:l=x::xs:=Option.some.inj (h1.symm.trans hx)
  exact(rW FE h2.2.2.1).2
 rw[hq]at hm PD zD Zv ep ⊢
 simp only[List.mem_cons,List.not_mem_nil,or_false,forall_eq_or_imp,forall_eq]at hm
 obtain⟨m0,m1,m2,m3,m4,m5,m6,m7⟩:=hm
 have hs:∀ (v:A8 Int),aa.eg (Queue.mk q.af q.Room [l0,l1,l2,l3,l4,l5,l6,l7] v q.bm)=some (tot [l0,l1,l2,l3,l4,l5,l6,l7]):=fun v=>Ie _ (by simp) (by rw[hq]at hlen; show tot [l0,l1,l2,l3,l4,l5,l6,l7]≤_; omega)
 refine pB _ (v:=l0) rfl (pB _ (v:=l1) rfl (pB _ (v:=l2) rfl (pB _ (v:=l3) rfl (pB _ (v:=l4) rfl (pB _ (v:=l5) rfl (pB _ (v:=l6) rfl (pB _ (v:=l7) rfl ?_)))))))
 refine pB _ rfl (pB _ rfl (pB _ rfl (pB _ rfl (pB _ rfl (pB _ rfl (pB _ rfl (pB _ rfl ?_)))))))
 refine pE _ (LC m0) (pE _ (LC m1) (pE _ (LC m2) (pE _ (LC m3) (pE _ (LC m4) (pE _ (LC m5) (pE _ (LC m6) (pE _ (LC m7) ?_)))))))
 simp only[ck1,cond_true,tk1,hs,Option.bind_some,ck4,ck5,tk3]
 refine pC _ (fun h0=>.inl ⟨by simpa using h0,rfl⟩) (fun h0=>?_)
 obtain⟨j,xj,xsj,hj,hxj⟩:=Zv (by simpa using h0)
 refine pB _ (Nt _) ?_
 have hA:=h.pa
 refine TY (EF [l0,l1,l2,l3,l4,l5,l6,l7] now) (IF [l0,l1,l2,l3,l4,l5,l6,l7] now j xj.P.az) ?_ ?_ (mu j xj.P.az q.ae.e1 q.ae.e0.toNat (p7 q.ae)) _ ⟨q.ae.e1,q.ae.e0.toNat,zP,p7 q.ae,PD,rfl,by rw[Int.toNat_of_nonneg h.v0.1]; rfl⟩
 ·rintro w ⟨t,y,ys,d,ho,rfl⟩
  have hv:=zD ho
  have hx:=ho.hx
  rcases Sg ho.t8 with rfl|rfl|rfl|rfl|rfl|rfl|rfl|rfl
  all_goals
   obtain rfl:=Option.some.inj hx
   repeat (first|refine pT _ rfl ?_|refine pF _ rfl ?_)
   revert hv
   cases hz:((ys.length:Int)==0)<;>intro hv
   ·exact pF _ hz (pB _ rfl (Or.inr ⟨_,y,ys,_,rfl,hv,rfl,rfl⟩))
   ·exact pT _ hz (pB _ rfl (Or.inr ⟨_,y,ys,_,rfl,hv,rfl,rfl⟩))
 ·rintro n s ⟨uc,t,o,d,hi,rfl,rfl⟩
  have hw:∀ k,k<8→IntKind.i64.wrap (v8 d k+q.af.A)=v8 d k+q.af.A:=fun k hk=>by
   obtain⟨l,_,h2,_⟩:=hi.d k hk
   exact bk (by omega) (by omega)
  have w0:IntKind.i64.wrap (d.e0+q.af.A)=d.e0+q.af.A:=hw 0 (by omega)
  have w1:IntKind.i64.wrap (d.e1+q.af.A)=d.e1+q.af.A:=hw 1 (by omega)
  have w2:IntKind.i64.wrap (d.e2+q.af.A)=d.e2+q.af.A:=hw 2 (by omega)
  have w3:IntKind.i64.wrap (d.e3+q.af.A)=d.e3+q.af.A:=hw 3 (by omega)
  have w4:IntKind.i64.wrap (d.e4+q.af.A)=d.e4+q.af.A:=hw 4 (by omega)
  have w5:IntKind.i64.wrap (d.e5+q.af.A)=d.e5+q.af.A:=hw 5 (by omega)
  have w6:IntKind.i64.wrap (d.e6+q.af.A)=d.e6+q.af.A:=hw 6 (by omega)
  have w7:IntKind.i64.wrap (d.e7+q.af.A)=d.e7+q.af.A:=hw 7 (by omega)
  rcases Sg hi.t8 with rfl|rfl|rfl|rfl|rfl|rfl|rfl|rfl
  all_goals
   repeat (first|refine pT _ rfl ?_|refine pF _ rfl ?_)
   refine Xh (fun e=>?_) (fun x xs e hg=>?_) (fun x xs e hg=>?_)
   ·subst e
    exact⟨_,QQ hi hj (by rintro rfl; simp at hxj),_,_,_,_,Nz hi rfl,rfl,rfl⟩
   ·subst e; subst hg
    simp only[sF,w0,w1,w2,w3,w4,w5,w6,w7]
    refine pC _ (fun hc=>⟨_,x,xs,_,QW hi rfl hA (of_decide_eq_true hc),rfl⟩) (fun hc=>?_)
    have JL:=of_decide_eq_false hc
    exact⟨_,T3 hi hj rfl hA (Int.not_le.1 JL) (by rintro rfl; simp at hxj; rw[hxj.1]),_,_,_,_,QS hi rfl hA (Int.not_le.1 JL),rfl,rfl⟩
   ·subst e
    obtain rfl:=hi.g.resolve_left hg
    refine pC _ (fun hc=>⟨_,x,xs,_,QU hi rfl (of_decide_eq_true hc),rfl⟩) (fun hc=>?_)
    exact⟨_,QR hi rfl hj,_,_,_,_,NA hi rfl (Int.not_le.1 (of_decide_eq_false hc)),rfl,rfl⟩
end Go.Proofs.YtpodhambaehlkaaGreatDoor
end
section
/- Plain facts of this seat: what package dual calls valid. -/
set_option maxRecDepth 100000
namespace Go.Proofs.YtpodhambaehlkaaGreatDoor
open Go.PI Go.Pl
end Go.Proofs.YtpodhambaehlkaaGreatDoor
end
section
/- Plain facts of this seat: calls of package queue, whatever the policy. -/
set_option maxRecDepth 100000
namespace Go.Proofs.YtpodhambaehlkaaGreatDoor
open Go.PI Go.Pl
def QV(q:Queue):Prop:=(∃ l,VT q l)∨(∃ l,VE q l)∨(∃ l,VS q l)∨(∃ l,VI q l)∨VF q∨∃ a b,VD q a b
theorem zg(l:List ai):tot [l]=l.length:=by simp[tot]
theorem JM(a b:List ai):tot [a,b]=a.length+b.length:=by simp[tot]
structure QB(q:Queue):Prop where
 r0:1≤q.Room
 r1:q.Room≤500
 t0:0≤q.ae.e7
 t1:q.ae.e7≤10000000
 n:q.ah.length≤8
 len:tot q.ah≤q.Room
 okp:∀ l∈q.ah,∀ x∈l,pR x.P=true
 sep:∀ (i j:Nat) (l m:List ai),q.ah[i]?=some l→q.ah[j]?=some m→i≠j→∀ x∈l,∀ y∈m,¬(x.P.aH=y.P.aH∧x.P.aJ=y.P.aJ)
theorem zh{ls:List (List ai)}{a:List ai}(h:ls=[a]):∀ (i j:Nat) (l m:List ai),ls[i]?=some l→ls[j]?=some m→i≠j→∀ x∈l,∀ y∈m,¬(x.P.aH=y.P.aH∧x.P.aJ=y.P.aJ):=by
 intro i j l m hi hj dY
 subst h
 have h1:i<[a].length:=(List.getElem?_eq_some_iff.1 hi).1
 have h2:j<[a].length:=(List.getElem?_eq_some_iff.1 hj).1
 simp only[List.length_cons,List.length_nil]at h1 h2
 omega
theorem zi{ls:List (List ai)}{a:List ai}{hi:Int}(h:ls=[a])(ho:cj cP hi 0 a=true):∀ l∈ls,∀ x∈l,pR x.P=true:=by
 subst h
 intro l hl x hx
 simp only[List.mem_singleton]at hl
 subst hl
 exact(iq ho x hx).1
theorem QV.base{q:Queue}(h:QV q):QB q:=by
 rcases h with ⟨l,h⟩|⟨l,h⟩|⟨l,h⟩|⟨l,h⟩|h|⟨a,b,h⟩
 ·exact⟨h.r0,h.r1,h.t0,h.t1,by rw[h.ls]; simp,by rw[h.ls,zg]; exact h.len,zi h.ls h.ord,zh h.ls⟩
 ·exact⟨h.r0,h.r1,h.t0,h.t1,by rw[h.ls]; simp,by rw[h.ls,zg]; exact h.len,zi h.ls h.ord,zh h.ls⟩
 ·exact⟨h.r0,h.r1,h.t0,h.t1,by rw[h.ls]; simp,by rw[h.ls,zg]; exact h.len,zi h.ls h.ord,zh h.ls⟩
 ·exact⟨h.r0,h.r1,h.t0,h.t1,by rw[h.ls]; simp,by rw[h.ls,zg]; exact h.len,zi h.ls h.ord,zh h.ls⟩
 ·refine⟨h.r0,h.r1,h.t0,h.t1,by rw[h.n8]; exact Nat.le_refl _,h.len,?_,?_⟩
  ·intro l hl x hx
   obtain⟨i,hi,rfl⟩:=List.getElem_of_mem hl
   obtain⟨m,h1,h2⟩:=h.dd i (by have:=h.n8; omega)
   rw[List.getElem?_eq_getElem hi,Option.some.injEq]at h1
   subst h1
   exact FE x (iq h2.2.2.1 x hx).1
  ·rintro i j l m hi hj dY x hx y hy ⟨hf,_⟩
   have h1:i<q.ah.length:=(List.getElem?_eq_some_iff.1 hi).1
   have h2:j<q.ah.length:=(List.getElem?_eq_some_iff.1 hj).1
   have h8:=h.n8
   obtain⟨l',a1,a2⟩:=h.dd i (by omega)
   obtain⟨m',b1,b2⟩:=h.dd j (by omega)
   obtain rfl:=Option.some.inj (a1.symm.trans hi)
   obtain rfl:=Option.some.inj (b1.symm.trans hj)
   have c1:=(iq a2.2.2.1 x hx).1
   have c2:=(iq b2.2.2.1 y hy).1
   simp only[cF,Bool.and_eq_true,beq_iff_eq]at c1 c2
   omega
 ·refine⟨h.r0,h.r1,h.t0,h.t1,by rw[h.ls]; simp,by rw[h.ls,JM]; exact h.len,?_,?_⟩
  ·rw[h.ls]
   intro l hl x hx
   simp only[List.mem_cons,List.not_mem_nil,or_false]at hl
   rcases hl with rfl|rfl
   ·have:=(iq h.oa x hx).1; simp only[cA,Bool.and_eq_true]at this; exact this.1
   ·have:=(iq h.ob x hx).1; simp only[cA,Bool.and_eq_true]at this; exact this.1
  ·rw[h.ls]
   rintro i j l m hi hj dY x hx y hy ⟨_,hA⟩
   have h1:i<[a,b].length:=(List.getElem?_eq_some_iff.1 hi).1
   have h2:j<[a,b].length:=(List.getElem?_eq_some_iff.1 hj).1
   simp only[List.length_cons,List.length_nil]at h1 h2
   have fa:∀ z∈a,z.P.aJ=true:=fun z hz=>by have:=(iq h.oa z hz).1; simp only[cA,Bool.and_eq_true,beq_iff_eq]at this; exact this.2
   have fb:∀ z∈b,z.P.aJ=false:=fun z hz=>by have:=(iq h.ob z hz).1; simp only[cA,Bool.and_eq_true,beq_iff_eq]at this; exact this.2
   rcases (by omega:i=0∧j=1∨i=1∧j=0) with ⟨rfl,rfl⟩|⟨rfl,rfl⟩
   ·obtain rfl:=Option.some.inj hi; obtain rfl:=Option.some.inj hj
    rw[fa x hx,fb y hy]at hA; exact absurd hA (by decide)
   ·obtain rfl:=Option.some.inj hi; obtain rfl:=Option.some.inj hj
    rw[fb x hx,fa y hy]at hA; exact absurd hA (by decide)
theorem b3(x:Option PR):(x.bind fun r=>some (r.1,r.2.1,r.2.2))=x:=by cases x<;>rfl
theorem b5(x:Option TR):(x.bind fun r=>some (r.1,r.2.1,r.2.2.1,r.2.2.2.1,r.2.2.2.2))=x:=by cases x<;>rfl
def Si(q:Queue)(now:Int)(r:Option TR):Prop:=∃ q',QV q'∧q'.af=q.af∧q'.Room=q.Room∧q'.ae.e7=now∧∃ j l k,q.ah[j]?=some l∧k≤l.length ∧
 ((∃ i x xs m,(q.ah.set j (l.drop k))[i]?=some (x::xs)∧mk? x.P m∧q'.ah=(q.ah.set j (l.drop k)).set i xs∧r=some (q',pm x.P m,true,(l.take k).map (·.P),0)) ∨
  (tot (q.ah.set j (l.drop k))=0∧q'.ah=q.ah.set j (l.drop k)∧r=some (q',zP,false,(l.take k).map (·.P),0)))
theorem take_one{q q':Queue}{now:Int}{l:List ai}(QX:q.ah=[l])(hv:QV q')(hp:q'.af=q.af)(hr:q'.Room=q.Room)(h7:q'.ae.e7=now)(h':q'.ah=[l.tail]):
  Si q now (some (match l with|[]=>(q',zP,false,[],0)|x::_=>(q',x.P,true,[],0))):=by
 refine⟨q',hv,hp,hr,h7,0,l,0,by rw[QX]; rfl,Nat.zero_le _,?_⟩
 cases l with
 |nil=>exact .inr ⟨by rw[QX]; rfl,by rw[h',QX]; rfl,rfl⟩
 |cons x xs=>exact .inl ⟨0,x,xs,x.P.aB,by rw[QX]; rfl,.inl rfl,by rw[h',QX]; rfl,rfl⟩
theorem AA(l:List ai):l.tail.length≤l.length:=by rw[List.length_tail]; omega
theorem AB{hi now:Int}{l:List ai}(hle:hi≤now)(h:cj cP hi 0 l=true):cj cP now 0 l.tail=true:=by
 cases l with
 |nil=>rfl
 |cons x xs=>exact ub hle (vJ (Int.le_refl 0) h)
theorem AD{c:ai→Bool}{hi now:Int}{l:List ai}(k:Nat)(hle:hi≤now)(h:cj c hi 0 l=true):cj c now 0 (l.drop k)=true:=
 ub hle (JG (a:=l.take k) (by rw[List.take_append_drop]; exact h))
theorem T6{q:Queue}(h:QV q){now:Int}(hn:tu now=true)(hle:q.ae.e7≤now):Si q now (aa.bS q now):=by
 have qQ:=cU.1 hn
 rcases h with ⟨l,h⟩|⟨l,h⟩|⟨l,h⟩|⟨l,h⟩|h|⟨a,b,h⟩
 ·rw[show aa.bS q now=aa.pS q now by unfold aa.bS; rw[h.kind]; exact b5 _,KT h hn hle]
  have:=h.len; have:=AA l
  have:=take_one (q:=q) (q':=tQ q l.tail now) h.ls (.inl ⟨_,W8 h qQ (AB hle h.ord) (by omega)⟩) rfl rfl rfl rfl
  cases l<;>exact this
 ·rw[show aa.bS q now=aa.nx q now by unfold aa.bS; rw[h.kind]; exact b5 _,TH h hn hle]
  have:=h.len; have:=AA l
  have:=take_one (q:=q) (q':=eQ q l.tail q.ae.e0 now q.bm) h.ls (.inr (.inl ⟨_,W7 h ⟨h.v0,h.v1⟩ qQ (AB hle h.ord) (by omega)⟩)) rfl rfl rfl rfl
  cases l<;>exact this
 ·rw[show aa.bS q now=aa.ke q now by unfold aa.bS; rw[h.kind]; exact b5 _]
  have hlen:=h.len
  obtain⟨k,e0,e1,hv,_,⟨x,m,hx,hm,e⟩|⟨hk,e⟩⟩:=TL h hn hle<;>rw[e]
  ·have cG:k<l.length:=(List.getElem?_eq_some_iff.1 hx).1
   refine⟨_,.inr (.inr (.inl ⟨_,Se h hv qQ (AD (k+1) hle h.ord) (by rw[List.length_drop]; omega)⟩)),rfl,rfl,rfl,0,l,k,by rw[h.ls]; rfl,by omega,.inl ⟨0,x,l.drop (k+1),m,?_,hm,by rw[h.ls]; rfl,rfl⟩⟩
   rw[h.ls,List.getElem?_eq_some_iff]at *
   obtain⟨h1,rfl⟩:=hx
   exact⟨by simp,by simp⟩
  ·subst hk
   exact⟨_,.inr (.inr (.inl ⟨_,Se (l':=[]) h hv qQ rfl (by simp only[List.length_nil]; have:=h.r0; omega)⟩)),rfl,rfl,rfl,0,l,l.length,by rw[h.ls]; rfl,Nat.le_refl _,.inr ⟨by rw[h.ls,List.drop_length]; rfl,by rw[h.ls,List.drop_length]; rfl,by rw[List.take_length]⟩⟩
 ·rw[show aa.bS q now=aa.iZ q now by unfold aa.bS; rw[h.kind]; exact b5 _]
  obtain⟨e0,e1,e2,s,hv,e⟩:=TI h hn hle
  rw[e]
  have:=h.len; have:=AA l
  have:=take_one (q:=q) (q':=iQ q l.tail e0 e1 e2 now s) h.ls (.inr (.inr (.inr (.inl ⟨_,Xa h hv qQ (AB hle h.ord) (by omega)⟩)))) rfl rfl rfl rfl
  cases l<;>exact this
 ·rw[show aa.bS q now=aa.kf q now by unfold aa.bS; rw[h.kind]; exact b5 _]
  have h0l:0<q.ah.length:=by rw[h.n8]; omega
  have hl:q.ah[0]?=some q.ah[0]:=List.getElem?_eq_getElem h0l
  have hs:q.ah.set 0 (q.ah[0].drop 0)=q.ah:=by rw[List.drop_zero,List.set_getElem_self]
  rcases T5 h hn hle with ⟨h0,e⟩|⟨i,x,xs,v,hx,hv,h7,e⟩<;>rw[e]
  ·exact⟨_,.inr (.inr (.inr (.inr (.inl (TX h qQ hle))))),rfl,rfl,rfl,0,_,0,hl,Nat.zero_le _,.inr ⟨by rw[hs]; exact h0,by rw[hs]; rfl,rfl⟩⟩
  ·exact⟨_,.inr (.inr (.inr (.inr (.inl hv)))),rfl,rfl,h7,0,_,0,hl,Nat.zero_le _,.inl ⟨i,x,xs,x.P.aB,by rw[hs]; exact hx,.inl rfl,by rw[hs]; rfl,rfl⟩⟩
 ·rw[show aa.bS q now=aa.pU q now by unfold aa.bS; rw[h.kind]; exact b5 _]
  have hlen:=h.len; have Hv:=h.r0
  obtain⟨k,e0,s,v0,v1,⟨x,hx,e⟩|⟨x,xs,m,ha,hk,hm,e⟩|⟨ha,hk,e⟩⟩:=TN h hn hle<;>rw[e]
  ·have cG:k<b.length:=(List.getElem?_eq_some_iff.1 hx).1
   refine⟨_,.inr (.inr (.inr (.inr (.inr ⟨_,_,Ns h ⟨v0,v1⟩ qQ (ub hle h.oa) (AD (k+1) hle h.ob) (by rw[List.length_drop]; omega)⟩)))),rfl,rfl,rfl,1,b,k,by rw[h.ls]; rfl,by omega,.inl ⟨1,x,b.drop (k+1),x.P.aB,?_,.inl rfl,by rw[h.ls]; rfl,rfl⟩⟩
   rw[h.ls,List.getElem?_eq_some_iff]at *
   obtain⟨h1,rfl⟩:=hx
   exact⟨by simp,by simp⟩
  ·subst ha
   exact⟨_,.inr (.inr (.inr (.inr (.inr ⟨_,_,Ns h ⟨v0,v1⟩ qQ (ub hle (vJ (Int.le_refl 0) h.oa)) (AD k hle h.ob) (by simp only[List.length_cons]at hlen; rw[List.length_drop]; omega)⟩)))),rfl,rfl,rfl,1,b,k,by rw[h.ls]; rfl,hk,
    .inl ⟨0,x,xs,m,by rw[h.ls]; rfl,hm,by rw[h.ls]; rfl,rfl⟩⟩
  ·subst ha; subst hk
   exact⟨_,.inr (.inr (.inr (.inr (.inr ⟨_,_,Ns (a':=[]) (b':=[]) h ⟨v0,v1⟩ qQ rfl rfl (by simp only[List.length_nil]; omega)⟩)))),rfl,rfl,rfl,1,b,b.length,by rw[h.ls]; rfl,Nat.le_refl _,
    .inr ⟨by rw[h.ls,List.drop_length]; rfl,by rw[h.ls,List.drop_length]; rfl,by rw[List.take_length]⟩⟩
end Go.Proofs.YtpodhambaehlkaaGreatDoor
end
section
/- Plain facts of this seat: calls that are refused. -/
set_option maxRecDepth 100000
namespace Go.Proofs.YtpodhambaehlkaaGreatDoor
open Go.PI Go.Pl
theorem T7(q:Queue)(hn:q.ah.length≤2^62)(ht:tot q.ah≤2^62):aa.lq q=some (tot q.ah):=by
 unfold aa.lq
 refine bB (v:=((q.ah.length:Int),tot q.ah)) ?_ rfl
 have key:∀ n i,q.ah.length-i=n→i≤q.ah.length→aX (ω:=Int×Int) (fun ((i1,i2):Int×Int)=>
   bif decide (i1<(↑q.ah.length:Int)) then bif decide (0≤i1) then (q.ah[i1.toNat]?).bind fun l3=>some (Sum.inl (IntKind.i64.wrap (i1+1),IntKind.i64.wrap (i2+(↑l3.length:Int)))) else none else some (Sum.inr (i1,i2)))
   ((i:Int),tot (q.ah.take i))=some ((q.ah.length:Int),tot q.ah):=by
  intro n
  induction n with
  |zero=>
   intro i h1 h2
   have:i=q.ah.length:=by omega
   subst this
   refine Go.Pl.out (bF (iP _) ?_)
   rw[List.take_length]
  |succ n ih=>
   intro i h1 h2
   have hi:i<q.ah.length:=by omega
   have hs:tot (q.ah.take (i+1))=tot (q.ah.take i)+(q.ah[i].length:Int):=by rw[List.take_succ_eq_append_getElem hi,Ax]
   have a:=Ay (q.ah.take i)
   have b:=Az (ls:=q.ah) (i+1)
   refine(Go.Pl.next (y:=(((i+1:Nat):Int),tot (q.ah.take (i+1)))) ?_).trans (ih (i+1) (by omega) hi)
   refine bT (eX hi) (bT (ca i) (bB (v:=q.ah[i]) (by simp[hi]) ?_))
   rw[bk (by omega) (by omega),bk (by omega) (by omega),hs]
   simp only[Int.natCast_add,Int.natCast_one]
 have:=key q.ah.length 0 rfl (Nat.zero_le _)
 rwa [List.take_zero]at this
theorem QV.size{q:Queue}(h:QV q):aa.lq q=some (tot q.ah):=by
 have b:=h.base
 have:=b.n; have:=b.len; have:=b.r1
 exact T7 q (by omega) (by omega)
theorem Xi(n:Int):aa.mH n=some (decide (0≤n)&&decide (n≤1000000000)):=cN
theorem Xj(p:an):aa.kg p=some (pR p):=by
 unfold aa.kg pR
 simp only[Xi,oV,tu,Option.bind_some,cN]
 rw[show decide (p.aH<8)=decide (p.aH≤7) by rw[decide_eq_decide]; omega,show decide (p.Sub<4)=decide (p.Sub≤3) by rw[decide_eq_decide]; omega]
 simp only[Bool.and_assoc]
end Go.Proofs.YtpodhambaehlkaaGreatDoor
end
section
/- Plain facts of this seat: what the references call valid (tail, early, sojourn, integral, dual). -/
set_option maxRecDepth 100000
namespace Go.Proofs.YtpodhambaehlkaaGreatDoor
open Go.PI Go.Pl
def Dc(x:Option Bool)(P:Prop):Prop:=∃ b,x=some b∧(b=true↔P)
section
variable {c:Bool}{X:Option Bool}{P Q:Prop}
theorem dN(h:c=true→Dc X Q):Dc (bif !c then some false else X) (c=true∧Q):=by
 cases c with
 |false=>exact⟨false,rfl,by simp⟩
 |true=>obtain⟨b,h1,h2⟩:=h rfl; exact⟨b,h1,by simp[h2]⟩
theorem dS(h:c=false→Dc X Q):Dc (bif c then some false else X) (c=false∧Q):=by
 cases c with
 |true=>exact⟨false,rfl,by simp⟩
 |false=>obtain⟨b,h1,h2⟩:=h rfl; exact⟨b,h1,by simp[h2]⟩
theorem dA(h:c=true→Dc X Q):Dc (bif c then X else some false) (c=true∧Q):=by
 cases c with
 |false=>exact⟨false,rfl,by simp⟩
 |true=>obtain⟨b,h1,h2⟩:=h rfl; exact⟨b,h1,by simp[h2]⟩
theorem dV:Dc (some c) (c=true):=⟨c,rfl,Iff.rfl⟩
theorem dB{α:Type}{e:Option α}{v:α}{K:α→Option Bool}(he:e=some v)(h:Dc (K v) Q):Dc (e.bind K) Q:=by subst he; exact h
theorem dI(h:Dc X P)(i:P↔Q):Dc X Q:=by obtain⟨b,h1,h2⟩:=h; exact⟨b,h1,h2.trans i⟩
theorem dK{α:Type}{e bad:α}{K:α→Option Bool}(hb:K bad=some false)(h:c=true→Dc (K e) Q):Dc (K (bif c then e else bad)) (c=true∧Q):=by
 cases c with
 |false=>exact⟨false,hb,by simp⟩
 |true=>obtain⟨b,h1,h2⟩:=h rfl; exact⟨b,h1,by simp[h2]⟩
theorem dC{Y:Option Bool}(hx:c=true→Dc X P)(hy:c=false→Dc Y Q):Dc (bif c then X else Y) (if c=true then P else Q):=by
 cases c with
 |true=>obtain⟨b,h1,h2⟩:=hx rfl; exact⟨b,h1,by simp[h2]⟩
 |false=>obtain⟨b,h1,h2⟩:=hy rfl; exact⟨b,h1,by simp[h2]⟩
end
theorem CF(v:A8 Int)(a:Nat)(ha:a≤7):aX (ω:=Bool ⊕ Bool×Int) (fun ((b2,i3):Bool×Int)=>bif decide (i3<7) then gd (decide (0≤i3)) <| gd (decide (i3.toNat<8)) <| bif !(v8 v i3.toNat==0) then some (Sum.inr (Sum.inl false)) else some (Sum.inl (b2,IntKind.i64.wrap (i3+1))) else some (Sum.inr (Sum.inr (b2,i3)))) (false,(a:Int))
  = some (bif (List.range (7-a)).all (fun i=>v8 v (a+i)==0) then Sum.inr (false,7) else Sum.inl false):=by
 refine vL (fun i=>(false,((a+i:Nat):Int))) (fun i=>v8 v (a+i)==0) (7-a) (Sum.inr (false,7)) (Sum.inl false) ?_ ?_ rfl
 ·intro i hi
  refine bT (decide_eq_true (by omega)) (bT (ca _) (bT (decide_eq_true (by rw[Int.toNat_natCast]; omega)) ?_))
  rw[Int.toNat_natCast,bk (n:=((a+i:Nat):Int)+1) (by omega) (by omega),show (((a+i:Nat):Int)+1)=((a+(i+1):Nat):Int) by omega]
  cases (v8 v (a+i)==0)<;>rfl
 ·refine bF (decide_eq_false (by omega)) ?_
  rw[show ((a+(7-a):Nat):Int)=7 by omega]
theorem z0(v:A8 Int):(List.range (7-0)).all (fun i=>v8 v (0+i)==0)=true↔v.e0=0∧v.e1=0∧v.e2=0∧v.e3=0∧v.e4=0∧v.e5=0∧v.e6=0:=by
 simp[List.range_succ,v8,rV,and_assoc]
theorem z1(v:A8 Int):(List.range (7-1)).all (fun i=>v8 v (1+i)==0)=true↔v.e1=0∧v.e2=0∧v.e3=0∧v.e4=0∧v.e5=0∧v.e6=0:=by
 simp[List.range_succ,v8,rV,and_assoc]
theorem z2(v:A8 Int):(List.range (7-2)).all (fun i=>v8 v (2+i)==0)=true↔v.e2=0∧v.e3=0∧v.e4=0∧v.e5=0∧v.e6=0:=by
 simp[List.range_succ,v8,rV,and_assoc]
theorem z3(v:A8 Int):(List.range (7-3)).all (fun i=>v8 v (3+i)==0)=true↔v.e3=0∧v.e4=0∧v.e5=0∧v.e6=0:=by
 simp[List.range_succ,v8,rV,and_assoc]
def pr(l:List ai)(i:Nat):Int:=match i with
 |0=>0
 |k+1=>match l[k]? with|some x=>x.At|none=>0
theorem Xk{τ ω β:Type}{f:τ→Option (τ ⊕ ω)}{K:ω→Option β}(l:List ai)(c:ai→Bool)(hi:Int)(p:Nat→Int)(st:Nat→τ)(DQ bad:Option β)(hp:∀ i (h:i<l.length),p (i+1)=l[i].At)
  (wb:ω) (hb:K wb=bad) (hs:∀ i (h:i<l.length),0≤p i→f (st i)=bif td c hi (p i) l[i] then some (.inl (st (i+1))) else some (.inr wb))
  (h3:∃ w,f (st l.length)=some (.inr w)∧K w=DQ) :
  ∀ n i,l.length-i=n→i≤l.length→0≤p i→(aX f (st i)).bind K=bif cj c hi (p i) (l.drop i) then DQ else bad:=by
 intro n
 induction n with
 |zero=>
  intro i hn tn _
  have:i=l.length:=by omega
  subst this
  obtain⟨w,hw,hk⟩:=h3
  rw[Go.Pl.out hw,List.drop_length]
  exact hk
 |succ n ih=>
  intro i hn tn h0
  have cG:i<l.length:=by omega
  rw[List.drop_eq_getElem_cons cG]
  cases ho:td c hi (p i) l[i] with
  |true=>
   have ZE:0≤p (i+1):=by
    have:=ho
    simp only[td,Bool.and_eq_true,decide_eq_true_eq]at this
    rw[hp i cG]; omega
   rw[Go.Pl.next ((hs i cG h0).trans (by rw[ho]; rfl)),ih (i+1) (by omega) cG ZE,hp i cG]
   simp only[cj,ho,Bool.true_and]
  |false=>
   rw[Go.Pl.out (w:=wb) ((hs i cG h0).trans (by rw[ho]; rfl))]
   simp only[cj,ho,Bool.false_and,cond_false]
   exact hb
theorem nsk{α:Type}{c y:Bool}{X g b:α}(h:c=true→X=bif y then g else b):(bif !c then b else X)=bif (c&&y) then g else b:=by
 cases c
 ·rfl
 ·exact h rfl
theorem ssk{α:Type}{c y:Bool}{X g b:α}(h:c=false→X=bif y then g else b):(bif c then b else X)=bif (!c&&y) then g else b:=by
 cases c
 ·exact h rfl
 ·rfl
def cT(x:ai):Bool:=pR x.P&&tu x.At
theorem JN(l:List ai)(hi:Int)(hl:l.length≤2^63-1):aa.dy l hi=some (cj cT hi 0 l):=by
 unfold aa.dy
 have hp:∀ i (h:i<l.length),pr l (i+1)=l[i].At:=fun i h=>by simp[pr,h]
 refine Eq.trans (Xk l cT hi (pr l) (fun i=>(false,(i:Int))) (some true) (some false) hp (Sum.inl false) ?hb ?hs ?h3 l.length 0 rfl (Nat.zero_le _) (Int.le_refl 0)) ?_
 case hb=>rfl
 case h3=>exact⟨_,bF (iP _) rfl,rfl⟩
 rotate_left
 ·rw[List.drop_zero,show pr l 0=0 from rfl]; cases cj cT hi 0 l<;>rfl
 intro i h h0
 have w1:IntKind.i64.wrap ((i:Int)+1)=((i+1:Nat):Int):=bk (by omega) (by omega)
 refine bT (eX h) (bT (ca i) (bB (get_at h) (bB (Xj _) ?_)))
 rw[show td cT hi (pr l i) l[i]=(pR l[i].P&&(tu l[i].At&&(!decide (hi<l[i].At)&&decide (pr l i≤l[i].At)))) by
  unfold td cT
  cases pR l[i].P<;>cases tu l[i].At<;>by_cases a:pr l i≤l[i].At<;>by_cases b:l[i].At≤hi<;>simp[a,b]<;>omega]
 refine nsk fun _=>bT (ca i) (bB (get_at h) (bB (oV _) ?_))
 refine nsk fun hT=>bT (ca i) (bB (get_at h) (ssk fun _=>?_))
 cases i with
 |zero=>
  refine bF rfl ?_
  rw[w1,decide_eq_true (show pr l 0≤l[0].At from (cU.1 hT).1)]
  rfl
 |succ k=>
  have w2:IntKind.i64.wrap (((k+1:Nat):Int)-1)=(k:Int):=(bk (by omega) (by omega)).trans (by omega)
  refine bT (decide_eq_true (by omega)) (bT (ca _) (bB (get_at h) ?_))
  rw[w2]
  refine bT (ca k) (bB (v:=l[k]) (get_at (by omega)) ?_)
  rw[w1,show decide (pr l (k+1)≤l[k+1].At)=!decide (l[k+1].At<l[k].At) by rw[hp k (by omega)]; by_cases a:l[k+1].At<l[k].At<;>simp[a]<;>omega]
  exact bfl
theorem JO{hi:Int}(hh:hi≤10000000):∀ (l:List ai) (a:Int),0≤a→cj cT hi a l=cj cP hi a l
 |[],_,_=>rfl
 |x::xs,a,h=>by
  simp only[cj,td,cT,cP]
  by_cases h1:a≤x.At
  ·by_cases h2:x.At≤hi
   ·have h3:tu x.At=true:=cU.2 ⟨by omega,by omega⟩
    rw[JO hh xs x.At (by omega),h3,Bool.and_true]
   ·simp[h2]
  ·simp[h1]
theorem ud(l:List ai)(hi:Int)(hh:hi≤10000000)(hl:l.length≤2^63-1):aa.dy l hi=some (cj cP hi 0 l):=by
 rw[JN l hi hl,JO hh l 0 (Int.le_refl 0)]
end Go.Proofs.YtpodhambaehlkaaGreatDoor
end
section
/- Plain facts of this seat: valid queues of one list, by the references. -/
set_option maxRecDepth 100000
namespace Go.Proofs.YtpodhambaehlkaaGreatDoor
open Go.PI Go.Pl
def hd(q:Queue):List ai:=q.ah[0]?.getD []
theorem xb{q:Queue}(h:((q.ah.length:Int)==1)=true):q.ah=[hd q]:=by
 rw[beq_iff_eq]at h
 unfold hd
 match hq:q.ah with
 |[]=>rw[hq]at h; simp at h
 |[l]=>rfl
 |a::b::r=>rw[hq]at h; simp only[List.length_cons]at h; omega
theorem oW{q:Queue}(h:((q.ah.length:Int)==1)=true):q.ah[0]?=some (hd q):=by
 have:=xb h
 rw[this]; rfl
theorem AE{q:Queue}(hs:sm q)(h:((q.ah.length:Int)==1)=true):(hd q).length≤2^63-1:=hs _ (by rw[xb h]; simp)
theorem JP{q:Queue}{l:List ai}(h:q.ah=[l]):hd q=l:=by unfold hd; rw[h]; rfl
theorem rT(q:Queue)(hs:sm q):Dc (aa.oj q) (∃ l,VT q l):=by
 unfold aa.oj
 refine dI (dN fun _=>dS fun _=>dS fun _=>dN fun h1=>dN fun _=>dB (oV _) (dN fun ht=>dB (CF q.ae 0 (by omega)) (dK rfl fun _=>dB (oW h1) (dA fun _=>dB (oW h1) (dB (ud _ _ (cU.1 ht).2 (AE hs h1)) dV))))) ?_
 rw[z0]
 simp only[Bool.and_eq_true,beq_iff_eq,decide_eq_false_iff_not,decide_eq_true_eq,cU]
 constructor
 ·rintro⟨⟨a1,a2,a3,a4⟩,b1,b2,c,d,e,f,g,h⟩
  exact⟨hd q,a1,⟨a2,a3,a4⟩,by omega,by omega,xb (by rw[beq_iff_eq]; exact c),d,f,e.1,e.2,h,g⟩
 ·rintro⟨l,h⟩
  rw[JP h.ls,h.ls]
  have:=h.r0; have:=h.r1
  exact⟨⟨h.kind,h.pz⟩,by omega,by omega,rfl,h.sd,⟨h.t0,h.t1⟩,h.z,h.len,h.ord⟩
theorem rE(q:Queue)(hs:sm q):Dc (aa.oq q) (∃ l,VE q l):=by
 unfold aa.oq
 refine dI (dN fun _=>dS fun _=>dS fun _=>dS fun _=>dS fun _=>dS fun _=>dS fun _=>dS fun _=>dN fun h1=>dB (CF q.ae 1 (by omega)) (dK rfl fun _=>dB (oV _) (dB (oW h1) (dB (JN _ _ (AE hs h1)) (dA fun _=>dA fun _=>dA fun _=>dA fun _=>dB (oW h1) dV))))) ?_
 rw[z1]
 simp only[Bool.and_eq_true,beq_iff_eq,decide_eq_false_iff_not,decide_eq_true_eq]
 constructor
 ·rintro⟨a,b1,b2,b3,b4,b5,b6,b7,c,d,e,f,g0,g1,g⟩
  have e':=cU.1 e
  exact⟨hd q,a,by omega,by omega,by omega,by omega,by omega,by omega,by omega,xb (by rw[beq_iff_eq]; exact c),d,g0,g1,e'.1,e'.2,(JO e'.2 _ 0 (Int.le_refl 0)).symm.trans f,g⟩
 ·rintro⟨l,h⟩
  rw[JP h.ls,h.ls]
  have:=h.r0; have:=h.r1; have:=h.a1; have:=h.ab; have:=h.b5; have:=h.c0; have:=h.c1
  exact⟨h.kind,by omega,by omega,by omega,by omega,by omega,by omega,by omega,rfl,h.z,cU.2 ⟨h.t0,h.t1⟩,(JO h.t1 _ 0 (Int.le_refl 0)).trans h.ord,h.v0,h.v1,h.len⟩
end Go.Proofs.YtpodhambaehlkaaGreatDoor
end
section
/- Plain facts of this seat: valid queues of packages sojourn, integral and dual, by the references. -/
set_option maxRecDepth 100000
namespace Go.Proofs.YtpodhambaehlkaaGreatDoor
open Go.PI Go.Pl
theorem rS(q:Queue)(hs:sm q):Dc (aa.ot q) (∃ l,VS q l):=by
 unfold aa.ot
 refine dI (dN fun _=>dS fun _=>dS fun _=>dS fun _=>dS fun _=>dN fun _=>dS fun _=>dS fun _=>dN fun h1=>dN fun _=>dB (oV _) (dN fun ht=>dS fun _=>dS fun _=>dS fun _=>dS fun _=>
  dC (fun _=>dN fun _=>dB (CF q.ae 2 (by omega)) (dK rfl fun _=>dB (oW h1) (dA fun _=>dB (oW h1) (dB (ud _ _ (cU.1 ht).2 (AE hs h1)) dV))))
   (fun _=>dB (CF q.ae 2 (by omega)) (dK rfl fun _=>dB (oW h1) (dA fun _=>dB (oW h1) (dB (ud _ _ (cU.1 ht).2 (AE hs h1)) dV)))))) ?_
 rw[z2]
 simp only[beq_iff_eq,decide_eq_false_iff_not,decide_eq_true_eq,cU]
 show _∧_∧_∧_∧_∧_∧_∧_∧_∧_∧(0≤q.ae.e7∧q.ae.e7≤10000000)∧¬q.ae.e0<0∧¬IntKind.i64.wrap (IntKind.i64.wrap (q.ae.e7+q.af.B)+1)<q.ae.e0∧¬q.ae.e1<0∧¬1000000000<q.ae.e1∧(if q.ae.e0=0 then q.ae.e1=0∧_ else _)↔_
 constructor
 ·rintro⟨a,b1,b2,b3,b4,b5,b6,b7,c,d,e,f1,f2,f3,f4,g⟩
  rw[bk (n:=q.ae.e7+q.af.B) (by omega) (by omega),bk (by omega) (by omega)]at f2
  have hq:=xb (by rw[beq_iff_eq]; exact c)
  by_cases h0:q.ae.e0=0
  ·rw[if_pos h0]at g
   obtain⟨g1,g2,g3,g4⟩:=g
   exact⟨hd q,a,by omega,by omega,b5,by omega,by omega,hq,d,g2,by omega,by omega,fun _=>g1,e.1,e.2,g4,g3⟩
  ·rw[if_neg h0]at g
   obtain⟨g2,g3,g4⟩:=g
   exact⟨hd q,a,by omega,by omega,b5,by omega,by omega,hq,d,g2,by omega,by omega,fun h=>absurd h h0,e.1,e.2,g4,g3⟩
 ·rintro⟨l,h⟩
  rw[JP h.ls,h.ls]
  have:=h.r0; have:=h.r1; have:=h.pa; have hb:=h.pb; have Jg:=h.v0; have hv1:=h.v1; have h0:=h.t0; have h1:=h.t1
  rw[bk (n:=q.ae.e7+q.af.B) (by omega) (by omega),bk (by omega) (by omega)]
  refine⟨h.kind,by omega,by omega,by omega,by omega,h.pc,by omega,by omega,rfl,h.sd,⟨h.t0,h.t1⟩,by omega,by omega,by omega,by omega,?_⟩
  by_cases h0:q.ae.e0=0
  ·rw[if_pos h0]; exact⟨h.v01 h0,h.z,h.len,h.ord⟩
  ·rw[if_neg h0]; exact⟨h.z,h.len,h.ord⟩
theorem Xl(p:af):aa.mJ p=some ((p.Kind==4)&&(decide (1≤p.A)&&(decide (p.A≤1000000)&&(decide (0≤p.B)&&(decide (p.B≤1000)&&(decide (0≤p.C)&&decide (p.C≤1000))))))):=by
 unfold aa.mJ
 simp only[cN]
theorem rI(q:Queue)(hs:sm q):Dc (aa.ou q) (∃ l,VI q l):=by
 unfold aa.ou
 refine dI (dB (Xl _) (dN fun _=>dS fun _=>dS fun _=>dN fun h1=>dB (oV _) (dN fun ht=>dS fun _=>dS fun _=>dB (oV _) (dN fun _=>dS fun _=>dB (oV _) (dN fun _=>
  dB (CF q.ae 3 (by omega)) (dK rfl fun _=>dB (oW h1) (dA fun _=>dB (oW h1) (dB (ud _ _ (cU.1 ht).2 (AE hs h1)) dV)))))))) ?_
 rw[z3]
 simp only[Bool.and_eq_true,beq_iff_eq,decide_eq_false_iff_not,decide_eq_true_eq,cU]
 show _∧_∧_∧_∧(0≤q.ae.e7∧q.ae.e7≤10000000)∧¬q.ae.e0<0∧¬1000000<q.ae.e0∧(0≤q.ae.e1∧q.ae.e1≤10000000)∧¬q.ae.e7<q.ae.e1∧(0≤q.ae.e2∧q.ae.e2≤10000000)∧_↔_
 constructor
 ·rintro⟨⟨a,a1,a2,a3,a4,a5,a6⟩,b1,b2,c,d,e1,e2,f,f2,g,z,i,j⟩
  exact⟨hd q,a,by omega,by omega,by omega,by omega,by omega,xb (by rw[beq_iff_eq]; exact c),z,by omega,by omega,g,d.1,d.2,j,i⟩
 ·rintro⟨l,h⟩
  rw[JP h.ls,h.ls]
  have:=h.r0; have:=h.r1; have:=h.pa; have:=h.pb; have:=h.pc; have:=h.v0; have:=h.v1; have:=h.t1
  exact⟨⟨h.kind,by omega,by omega,by omega,by omega,by omega,by omega⟩,by omega,by omega,rfl,⟨h.t0,h.t1⟩,by omega,by omega,by omega,by omega,h.v2,h.z,h.len,h.ord⟩
theorem NB(l:List ai)(is:Bool)(hl:l.length≤2^63-1):aa.nB l is=some (l.all fun x=>x.P.aJ==is):=by
 unfold aa.nB
 refine bB (mU l (fun i=>(false,(i:Int))) (fun x=>x.P.aJ==is) (Sum.inl false) (Sum.inr (false,(l.length:Int))) ?_ (bF (iP _) rfl) rfl) ?_
 rotate_left
 ·cases (l.all fun x=>x.P.aJ==is)<;>rfl
 ·intro i h
  refine bT (eX h) (bT (ca i) (bB (get_at h) ?_))
  rw[bk (n:=(i:Int)+1) (by omega) (by omega)]
  cases (l[i].P.aJ==is)<;>rfl
theorem vN{hi:Int}{b:Bool}:∀ (l:List ai) (a:Int),cj (cA b) hi a l=(cj cP hi a l&&l.all fun x=>x.P.aJ==b)
 |[],_=>rfl
 |x::xs,a=>by
  simp only[cj,td,cA,cP,List.all_cons]
  rw[vN xs x.At]
  cases pR x.P<;>cases (x.P.aJ==b)<;>cases (decide (a≤x.At)&&decide (x.At≤hi))<;>cases cj cP hi x.At xs<;>rfl
def Cs(q:Queue):List ai:=q.ah[1]?.getD []
theorem xd{q:Queue}(h:((q.ah.length:Int)==2)=true):q.ah=[hd q,Cs q]:=by
 rw[beq_iff_eq]at h
 unfold hd Cs
 match hq:q.ah with
 |[]=>rw[hq]at h; simp at h
 |[l]=>rw[hq]at h; simp at h
 |[a,b]=>rfl
 |a::b::c::r=>rw[hq]at h; simp only[List.length_cons]at h; omega
theorem rD(q:Queue)(hs:sm q)(Xm:tot q.ah≤2^62):Dc (aa.ow q) (∃ a b,VD q a b):=by
 unfold aa.ow
 have g0:∀ h:((q.ah.length:Int)==2)=true,q.ah[0]?=some (hd q):=fun h=>by have:=xd h; rw[this]; rfl
 have g1:∀ h:((q.ah.length:Int)==2)=true,q.ah[1]?=some (Cs q):=fun h=>by have:=xd h; rw[this]; rfl
 have l0:∀ h:((q.ah.length:Int)==2)=true,(hd q).length≤2^63-1:=fun h=>hs _ (by rw[xd h]; simp)
 have l1:∀ h:((q.ah.length:Int)==2)=true,(Cs q).length≤2^63-1:=fun h=>hs _ (by rw[xd h]; simp)
 have aaX:∀ h:((q.ah.length:Int)==2)=true,((hd q).length:Int)+(Cs q).length≤2^62:=fun h=>by have:=xd h; rw[this,JM]at Xm; exact Xm
 refine dI (dN fun _=>dS fun _=>dS fun _=>dS fun _=>dS fun _=>dN fun _=>dS fun _=>dS fun _=>dN fun h=>dB (oV _) (dN fun ht=>dS fun _=>dS fun _=>
  dB (CF q.ae 1 (by omega)) (dK rfl fun _=>dB (g0 h) (dB (g1 h) (dS fun _=>dB (g0 h) (dB (NB _ _ (l0 h)) (dN fun _=>dB (g1 h) (dB (NB _ _ (l1 h)) (dN fun _=>dB (g0 h) (dB (ud _ _ (cU.1 ht).2 (l0 h)) (dA fun _=>dB (g1 h) (dB (ud _ _ (cU.1 ht).2 (l1 h)) dV)))))))))))) ?_
 rw[z1]
 simp only[beq_iff_eq,decide_eq_false_iff_not,cU]
 show _∧_∧_∧_∧_∧_∧_∧_∧_∧(0≤q.ae.e7∧q.ae.e7≤10000000)∧¬q.ae.e0<0∧¬15<q.ae.e0∧_↔_
 constructor
 ·rintro⟨a,b1,b2,b3,b4,b5,b6,b7,c,e,f1,f2,z,s,p1,p2,o1,o2⟩
  have c':((q.ah.length:Int)==2)=true:=by rw[beq_iff_eq]; exact c
  have hl:=aaX c'
  rw[bk (n:=((hd q).length:Int)+(Cs q).length) (by omega) (by omega)]at s
  refine⟨hd q,Cs q,a,by omega,by omega,b5,by omega,by omega,xd c',z,by omega,e.1,e.2,?_,?_,by omega⟩
  ·rw[vN,show cj cP q.ae.e7 0 (hd q)=true from o1,p1]; rfl
  ·rw[vN,show cj cP q.ae.e7 0 (Cs q)=true from o2,p2]; rfl
 ·rintro⟨a,b,h⟩
  have e0:hd q=a:=by unfold hd; rw[h.ls]; rfl
  have e1:Cs q=b:=by unfold Cs; rw[h.ls]; rfl
  rw[e0,e1,h.ls]
  have hlen:=h.len; have:=h.r0; have hr:=h.r1; have:=h.pa; have:=h.pb; have:=h.v0
  have oa:=h.oa; have ob:=h.ob
  rw[vN,Bool.and_eq_true]at oa ob
  rw[bk (n:=(a.length:Int)+b.length) (by omega) (by omega)]
  exact⟨h.kind,by omega,by omega,by omega,by omega,h.pc,by omega,by omega,rfl,⟨h.t0,h.t1⟩,by omega,by omega,h.z,by omega,oa.2,ob.2,oa.1,ob.1⟩
end Go.Proofs.YtpodhambaehlkaaGreatDoor
end
section
/- Plain facts of this seat: valid queues of package deficit, by the reference. -/
set_option maxRecDepth 100000
set_option maxHeartbeats 1000000
namespace Go.Proofs.YtpodhambaehlkaaGreatDoor
open Go.PI Go.Pl
theorem dG{c:Bool}{X:Option Bool}{Q:Prop}(hc:c=true)(h:Dc X Q):Dc (gd c X) Q:=by subst hc; exact h
theorem NC(q:Queue)(hn:q.ah.length≤2^62)(ht:tot q.ah≤2^62):aa.qm q=some (tot q.ah):=Ie q hn ht
theorem Sj{i:Nat}(h:i<8):IntKind.i64.wrap (2+IntKind.i64.wrap ((i:Int).tdiv 2))=((2+i/2:Nat):Int):=by
 rcases Sg h with rfl|rfl|rfl|rfl|rfl|rfl|rfl|rfl<;>decide
theorem Xn(q:Queue){i:Nat}(h:i<8):aa.ja q (i:Int)=some (v8 (p7 q.ae) i):=by
 unfold aa.ja
 rw[Sj h]
 refine bT (ca _) (bT (decide_eq_true (by rw[Int.toNat_natCast]; omega)) ?_)
 rcases Sg h with rfl|rfl|rfl|rfl|rfl|rfl|rfl|rfl<;>rfl
theorem fl(l:List ai)(f n:Int)(hl:l.length≤2^63-1):(((aX (ω:=Bool ⊕ Bool×Int) (fun ((b9,i10):Bool×Int)=>bif decide (i10<(↑l.length:Int)) then gd (decide (0≤i10)) <| (l[i10.toNat]?).bind fun T8=>bif !(T8.P.aH==f) then some (Sum.inr (Sum.inl false)) else some (Sum.inl (b9,IntKind.i64.wrap (i10+1))) else some (Sum.inr (Sum.inr (b9,i10)))) (false,0)).bind fun w12=>
  Sum.elim (fun ue=>some (Sum.inr (Sum.inl ue))) (fun (ll,i15)=>some (Sum.inl (ll,n))) w12):Option (Bool×Int ⊕ (Bool ⊕ Bool×Int)))=bif l.all (fun x=>x.P.aH==f) then some (Sum.inl (false,n)) else some (Sum.inr (Sum.inl false)):=by
 refine bB (mU l (fun i=>(false,(i:Int))) (fun x=>x.P.aH==f) (Sum.inl false) (Sum.inr (false,(l.length:Int))) ?_ (bF (iP _) rfl) rfl) ?_
 rotate_left
 ·cases (l.all fun x=>x.P.aH==f)<;>rfl
 ·intro i h
  refine bT (eX h) (bT (ca i) (bB (get_at h) ?_))
  rw[bk (n:=(i:Int)+1) (by omega) (by omega)]
  cases (l[i].P.aH==f)<;>rfl
def cR(q:Queue)(i:Nat):Bool:=match q.ah[i]? with
 |none=>false
 |some l=>cj cP q.ae.e7 0 l&&(!decide (v8 q.ae (2+i/2)<0)&&(!decide (19999<v8 (p7 q.ae) i)&&((bif (l.length:Int)==0 then v8 (p7 q.ae) i==0 else true) &&
   ((bif q.ae.e0==(i:Int)&&q.ae.e1==1 then true else !ny l (v8 (p7 q.ae) i))&&l.all fun x=>x.P.aH==(i:Int)))))
theorem FF{hi f:Int}:∀ (l:List ai) (a:Int),cj (cF f) hi a l=(cj cP hi a l&&l.all fun x=>x.P.aH==f)
 |[],_=>rfl
 |x::xs,a=>by
  simp only[cj,td,cF,cP,List.all_cons]
  rw[FF xs x.At]
  cases pR x.P<;>cases (x.P.aH==f)<;>cases (decide (a≤x.At)&&decide (x.At≤hi))<;>cases cj cP hi x.At xs<;>rfl
theorem aaZ{v:A8 Int}(h0:0≤v.e2∧0≤v.e3∧0≤v.e4∧0≤v.e5)(h1:v.e2≤9223372036854775807∧v.e3≤9223372036854775807∧v.e4≤9223372036854775807∧v.e5≤9223372036854775807){i:Nat}(hi:i<8):0≤v8 (p7 v) i:=by
 have a:∀ n:Int,0≤n→n≤9223372036854775807→0≤IntKind.i64.wrap (n.tdiv 32768):=fun n a b=>by
  rw[Int.tdiv_eq_ediv_of_nonneg a,bk (by omega) (by omega)]; omega
 have b:∀ n:Int,0≤n→0≤n.tmod 32768:=fun n a=>by rw[Int.tmod_eq_emod_of_nonneg a]; omega
 obtain⟨p,q,r,s⟩:=h0
 obtain⟨p',q',r',s'⟩:=h1
 rcases Sg hi with rfl|rfl|rfl|rfl|rfl|rfl|rfl|rfl
 ·exact a _ p p'
 ·exact b _ p
 ·exact a _ q q'
 ·exact b _ q
 ·exact a _ r r'
 ·exact b _ r
 ·exact a _ s s'
 ·exact b _ s
theorem vnn{v:A8 Int}{i:Nat}(hi:i<8):(v8 v (2+i/2)=v.e2∨v8 v (2+i/2)=v.e3∨v8 v (2+i/2)=v.e4∨v8 v (2+i/2)=v.e5):=by
 rcases Sg hi with rfl|rfl|rfl|rfl|rfl|rfl|rfl|rfl
 ·exact .inl rfl
 ·exact .inl rfl
 ·exact .inr (.inl rfl)
 ·exact .inr (.inl rfl)
 ·exact .inr (.inr (.inl rfl))
 ·exact .inr (.inr (.inl rfl))
 ·exact .inr (.inr (.inr rfl))
 ·exact .inr (.inr (.inr rfl))
theorem ND{q:Queue}{i:Nat}{l:List ai}(hl:q.ah[i]?=some l)(hd:0≤v8 (p7 q.ae) i):cR q i=true↔¬v8 q.ae (2+i/2)<0∧DD q.ae.e7 q.ae.e0 q.ae.e1 i l (v8 (p7 q.ae) i):=by
 unfold cR DD
 rw[hl,FF]
 simp only[Bool.and_eq_true,Bool.not_eq_true',decide_eq_false_iff_not]
 constructor
 ·rintro⟨h1,h2,h3,h4,h5,h6⟩
  refine⟨h2,⟨hd,by omega⟩,fun h0 e=>?_,⟨h1,h6⟩,fun h0 h7 x xs e=>?_⟩
  ·subst e
   have:v8 (p7 q.ae) i=0:=by simpa using h4
   omega
  ·subst e
   have hn:(q.ae.e0==(i:Int)&&q.ae.e1==1)=false:=by
    cases a:(q.ae.e0==(i:Int))<;>cases b:(q.ae.e1==1)<;>try rfl
    exact absurd ⟨by simpa using b,by simpa using a⟩ h7
   rw[hn,cond_false]at h5
   simpa[ny] using h5
 ·rintro⟨h2,⟨_,h3⟩,h4,⟨h1,h6⟩,h5⟩
  refine⟨h1,h2,by omega,?_,?_,h6⟩
  ·cases l with
   |nil=>
    have:¬0<v8 (p7 q.ae) i:=fun h=>h4 h rfl
    have:v8 (p7 q.ae) i=0:=by omega
    simp[this]
   |cons x xs=>rw[show (((x::xs).length:Int)==0)=false by simp only[List.length_cons,beq_eq_false_iff_ne]; omega]; rfl
  ·cases hn:(q.ae.e0==(i:Int)&&q.ae.e1==1) with
   |true=>rfl
   |false=>
    cases l with
    |nil=>rfl
    |cons x xs=>
     have hz:=(rW (c:=cP) (fun y h=>h) h1).1
     have qQ:¬(q.ae.e1=1∧q.ae.e0=(i:Int)):=fun⟨a,b⟩=>by simp[a,b]at hn
     by_cases h0:0<v8 (p7 q.ae) i
     ·have:=h5 h0 qQ x xs rfl
      simp[ny]; omega
     ·simp[ny]; omega
theorem rF(q:Queue)(hs:sm q)(hv:(0≤q.ae.e2∧0≤q.ae.e3∧0≤q.ae.e4∧0≤q.ae.e5)→∀ i,i<8→0≤v8 (p7 q.ae) i)(Xm:tot q.ah≤2^62):Dc (aa.ox q) (VF q):=by
 unfold aa.ox
 have ZG:∀ h:((q.ah.length:Int)==8)=true,q.ah.length=8:=fun h=>by rw[beq_iff_eq]at h; omega
 have nS:((q.ah.length:Int)==8)=true→∀ i,i<8→∃ l,q.ah[i]?=some l∧l.length≤2^63-1:=fun h i hi=>
  ⟨_,List.getElem?_eq_getElem (by have:=ZG h; omega),hs _ (List.getElem_mem _)⟩
 have TZ:((q.ah.length:Int)==8)=true→0≤q.ae.e0∧q.ae.e0≤7→q.ah[(v8 q.ae 0).toNat]?=some (q.ah[q.ae.e0.toNat]?.getD []):=fun h h0=>by
  show q.ah[q.ae.e0.toNat]?=_
  rw[List.getElem?_eq_getElem (by have:=ZG h; omega)]; rfl
 refine dI (P:=(q.af.Kind==5)=true∧decide (q.af.A<100)=false∧decide (10000<q.af.A)=false∧(q.af.B==0)=true∧(q.af.C==0)=true∧decide (q.Room<1)=false∧decide (500<q.Room)=false∧((q.ah.length:Int)==8)=true∧(q.bm==0)=true∧(v8 q.ae 6==0)=true ∧
   tu (v8 q.ae 7)=true∧decide (v8 q.ae 0<0)=false∧decide (7<v8 q.ae 0)=false∧decide (v8 q.ae 1<0)=false∧decide (1<v8 q.ae 1)=false ∧
   if (v8 q.ae 1==1)=true then (((q.ah[q.ae.e0.toNat]?.getD []).length:Int)==0)=false∧(List.range 8).all (cR q)=true∧decide (tot q.ah≤q.Room)=true else (List.range 8).all (cR q)=true∧decide (tot q.ah≤q.Room)=true)
  (dN fun _=>dS fun _=>dS fun _=>dN fun _=>dN fun _=>dS fun _=>dS fun _=>dN fun h8=>dN fun _=>dN fun _=>dB (oV _) (dN fun ht=>dS fun ha=>dS fun hb=>dS fun _=>dS fun _=>
    dC (fun he=>dG (decide_eq_true (Int.not_lt.1 (of_decide_eq_false ha))) (dB (TZ h8 ⟨Int.not_lt.1 (of_decide_eq_false ha),Int.not_lt.1 (of_decide_eq_false hb)⟩) (dS fun _=>
        dB (vL (fun i=>(false,(i:Int))) (cR q) 8 (Sum.inr (false,8)) (Sum.inl false) ?_ rfl rfl) (dK rfl fun _=>dB (NC q (by have:=ZG h8; omega) Xm) dV))))
     (fun he=>dB (vL (fun i=>(false,(i:Int))) (cR q) 8 (Sum.inr (false,8)) (Sum.inl false) ?_ rfl rfl) (dK rfl fun _=>dB (NC q (by have:=ZG h8; omega) Xm) dV)))) ?_
 rotate_left 2
 ·have e7:v8 q.ae 7=q.ae.e7:=rfl
  have bK:q.ah.length=8→((List.range 8).all (cR q)=true↔(0≤q.ae.e2∧0≤q.ae.e3∧0≤q.ae.e4∧0≤q.ae.e5)∧∀ i,i<8→∃ l,q.ah[i]?=some l∧DD q.ae.e7 q.ae.e0 q.ae.e1 i l (v8 (p7 q.ae) i)):=by
   intro h8
   have hg:∀ i,i<8→q.ah[i]?=some (q.ah[i]?.getD []):=fun i hi=>by rw[List.getElem?_eq_getElem (by omega)]; rfl
   rw[List.all_eq_true]
   constructor
   ·intro h
    have hc:∀ i,i<8→¬v8 q.ae (2+i/2)<0:=fun i hi=>by
     have:=h i (List.mem_range.2 hi)
     unfold cR at this
     rw[hg i hi]at this
     simp only[Bool.and_eq_true,Bool.not_eq_true',decide_eq_false_iff_not]at this
     exact this.2.1
    have p:(0≤q.ae.e2∧0≤q.ae.e3∧0≤q.ae.e4∧0≤q.ae.e5):=⟨Int.not_lt.1 (hc 0 (by omega)),Int.not_lt.1 (hc 2 (by omega)),Int.not_lt.1 (hc 4 (by omega)),Int.not_lt.1 (hc 6 (by omega))⟩
    exact⟨p,fun i hi=>⟨_,hg i hi,((ND (hg i hi) (hv p i hi)).1 (h i (List.mem_range.2 hi))).2⟩⟩
   ·rintro⟨p,h⟩ i hi
    have hi:=List.mem_range.1 hi
    obtain⟨l,hl,hd⟩:=h i hi
    refine(ND hl (hv p i hi)).2 ⟨?_,hd⟩
    rcases vnn (v:=q.ae) hi with e|e|e|e<;>omega
  simp only[beq_iff_eq,decide_eq_false_iff_not,decide_eq_true_eq,cU]
  show _∧_∧_∧_∧_∧_∧_∧_∧_∧q.ae.e6=0∧(0≤q.ae.e7∧q.ae.e7≤10000000)∧¬q.ae.e0<0∧¬7<q.ae.e0∧¬q.ae.e1<0∧¬1<q.ae.e1∧(if q.ae.e1=1 then _ else _)↔_
  constructor
  ·rintro⟨a1,a2,a3,a4,a5,a6,a7,a8,a9,a10,a11,a12,a13,a14,a15,a16⟩
   have h8:q.ah.length=8:=by omega
   by_cases he:q.ae.e1=1
   ·rw[if_pos he]at a16
    obtain⟨b1,b2,b3⟩:=a16
    obtain⟨c1,c2⟩:=(bK h8).1 b2
    refine⟨a1,by omega,a4,a5,by omega,by omega,h8,a9,a10,by omega,by omega,fun _=>⟨_,List.getElem?_eq_getElem (by omega),fun e=>?_⟩,a11.1,a11.2,c1,c2,b3⟩
    rw[List.getElem?_eq_getElem (show q.ae.e0.toNat<q.ah.length by omega),Option.getD_some,e]at b1
    simp at b1
   ·rw[if_neg he]at a16
    obtain⟨b2,b3⟩:=a16
    obtain⟨c1,c2⟩:=(bK h8).1 b2
    exact⟨a1,by omega,a4,a5,by omega,by omega,h8,a9,a10,by omega,by omega,fun h=>absurd h he,a11.1,a11.2,c1,c2,b3⟩
  ·intro h
   have:=h.pa; have:=h.r0; have:=h.r1; have:=h.v0; have:=h.v1; have h8:=h.n8
   have hc:=(bK h8).2 ⟨h.pk,h.dd⟩
   refine⟨h.kind,by omega,by omega,h.pb,h.pc,by omega,by omega,by omega,h.sd,h.z,⟨h.t0,h.t1⟩,by omega,by omega,by omega,by omega,?_⟩
   by_cases he:q.ae.e1=1
   ·rw[if_pos he]
    refine⟨?_,hc,h.len⟩
    obtain⟨l,hl,dY⟩:=h.uc he
    rw[hl,Option.getD_some]
    cases l with
    |nil=>exact absurd rfl dY
    |cons x xs=>simp only[List.length_cons,beq_eq_false_iff_ne]; omega
   ·rw[if_neg he]
    exact⟨hc,h.len⟩
 all_goals
  intro i hi
  obtain⟨l,hl,TU⟩:=nS h8 i hi
  have kW:q.ah[(i:Int).toNat]?=some l:=by rw[Int.toNat_natCast]; exact hl
  have hu:cR q i=(cj cP q.ae.e7 0 l&&(!decide (v8 q.ae (2+i/2)<0)&&(!decide (19999<v8 (p7 q.ae) i)&&((bif (l.length:Int)==0 then v8 (p7 q.ae) i==0 else true) &&
   ((bif q.ae.e0==(i:Int)&&q.ae.e1==1 then true else !ny l (v8 (p7 q.ae) i))&&l.all fun x=>x.P.aH==(i:Int)))))):=by unfold cR; rw[hl]
  rw[hu]
  have hw:IntKind.i64.wrap ((i:Int)+1)=((i+1:Nat):Int):=bk (by omega) (by omega)
  refine bT (decide_eq_true (by omega)) (bT (ca i) (bB kW (bB (ud _ _ (cU.1 ht).2 TU) (bB (Xn q hi) ?_))))
  rw[Sj hi]
  refine nck fun _=>bT (ca _) (bT (decide_eq_true (by rw[Int.toNat_natCast]; omega)) ?_)
  rw[Int.toNat_natCast]
  refine sck fun _=>sck fun _=>?_
  rw[hw]
  simp only[fl l (i:Int) ((i+1:Nat):Int) TU]
  show _=bif (bif (l.length:Int)==0 then v8 (p7 q.ae) i==0 else true)&&((bif aa.v8 q.ae 0==(i:Int)&&aa.v8 q.ae 1==1 then true else !ny l (v8 (p7 q.ae) i))&&l.all fun x=>x.P.aH==(i:Int)) then _ else _
  cases l with
  |nil=>cases (v8 (p7 q.ae) i==0)<;>cases (aa.v8 q.ae 0==(i:Int))<;>cases (aa.v8 q.ae 1==1)<;>rfl
  |cons x xs=>
   have z1:(((x::xs).length:Int)==0)=false:=by simp only[List.length_cons,beq_eq_false_iff_ne]; omega
   have z2:decide (0<((x::xs).length:Int))=true:=decide_eq_true (by simp only[List.length_cons]; omega)
   simp only[z1,z2,List.getElem?_cons_zero,Option.bind_some,cond_true,cond_false,ny]
   cases (aa.v8 q.ae 0==(i:Int))<;>cases (aa.v8 q.ae 1==1)<;>cases decide (x.P.az≤v8 (p7 q.ae) i)<;>cases ((x::xs).all fun x=>x.P.aH==(i:Int))<;>rfl
end Go.Proofs.YtpodhambaehlkaaGreatDoor
end
section
/- Plain facts of this seat: what the reference of package queue calls valid. -/
set_option maxRecDepth 100000
namespace Go.Proofs.YtpodhambaehlkaaGreatDoor
open Go.PI Go.Pl
theorem V8{X:Option Bool}{P:Prop}(h:Dc X P):Dc (X.bind fun b=>some b) P:=by
 obtain⟨b,rfl,h2⟩:=h; exact⟨b,rfl,h2⟩
theorem rQ(q:Queue)(hs:sm q)(hv:q.af.Kind=5→(0≤q.ae.e2∧0≤q.ae.e3∧0≤q.ae.e4∧0≤q.ae.e5)→∀ i,i<8→0≤v8 (p7 q.ae) i)(ht:tot q.ah≤2^62):Dc (aa.oy q) (QV q):=by
 unfold aa.oy
 have k1:∀ {k:Int},(q.af.Kind==k)=true→q.af.Kind=k:=fun h=>by simpa using h
 have k0:∀ {k:Int},(q.af.Kind==k)=false→q.af.Kind≠k:=fun h=>by simpa using h
 refine dI (dC (fun h=>V8 (rT q hs)) (fun h1=>dC (fun h=>V8 (rE q hs)) (fun h2=>dC (fun h=>V8 (rS q hs)) (fun h3=>dC (fun h=>V8 (rI q hs)) (fun h4=>dC (fun h=>V8 (rF q hs (hv (k1 h)) ht)) (fun h5=>dC (fun h=>V8 (rD q hs ht)) (fun h6=>⟨false,rfl,(by simp:(false=true)↔False)⟩))))))) ?_
 simp only[beq_iff_eq]
 unfold QV
 constructor
 ·intro h
  split at h
  ·exact .inl h
  split at h
  ·exact .inr (.inl h)
  split at h
  ·exact .inr (.inr (.inl h))
  split at h
  ·exact .inr (.inr (.inr (.inl h)))
  split at h
  ·exact .inr (.inr (.inr (.inr (.inl h))))
  split at h
  ·exact .inr (.inr (.inr (.inr (.inr h))))
  ·exact h.elim
 ·rintro (⟨l,h⟩|⟨l,h⟩|⟨l,h⟩|⟨l,h⟩|h|⟨a,b,h⟩)
  ·rw[if_pos h.kind]; exact⟨l,h⟩
  ·rw[if_neg (by rw[h.kind]; decide),if_pos h.kind]; exact⟨l,h⟩
  ·rw[if_neg (by rw[h.kind]; decide),if_neg (by rw[h.kind]; decide),if_pos h.kind]; exact⟨l,h⟩
  ·rw[if_neg (by rw[h.kind]; decide),if_neg (by rw[h.kind]; decide),if_neg (by rw[h.kind]; decide),if_pos h.kind]; exact⟨l,h⟩
  ·rw[if_neg (by rw[h.kind]; decide),if_neg (by rw[h.kind]; decide),if_neg (by rw[h.kind]; decide),if_neg (by rw[h.kind]; decide),if_pos h.kind]; exact h
  ·rw[if_neg (by rw[h.kind]; decide),if_neg (by rw[h.kind]; decide),if_neg (by rw[h.kind]; decide),if_neg (by rw[h.kind]; decide),if_neg (by rw[h.kind]; decide),if_pos h.kind]; exact⟨a,b,h⟩
theorem Xo(q:Queue)(hn:q.ah.length≤2^63-1):aa.sL q=some (q.ah.all (fun l=>!decide (600<(l.length:Int)))&&decide ((q.ah.length:Int)≤20)):=by
 unfold aa.sL
 refine bB (mU q.ah (fun i=>(false,(i:Int))) (fun l=>!decide (600<(l.length:Int))) (Sum.inl false) (Sum.inr (false,(q.ah.length:Int))) ?_ (bF (iP _) rfl) rfl) ?_
 rotate_left
 ·cases (q.ah.all fun l=>!decide (600<(l.length:Int)))<;>rfl
 ·intro i h
  refine bT (eX h) (bT (ca i) (bB (v:=q.ah[i]) (by simp[h]) ?_))
  rw[bk (n:=(i:Int)+1) (by omega) (by omega)]
  cases decide (600<(q.ah[i].length:Int))<;>rfl
theorem T9{ls:List (List ai)}{k:Int}(hk:0≤k)(h:∀ l∈ls,(l.length:Int)≤k):tot ls≤k*ls.length:=by
 induction ls with
 |nil=>simp[tot]
 |cons a ls ih=>
  have h1:=h a (by simp)
  have h2:=ih fun l hl=>h l (by simp[hl])
  simp only[tot,List.map_cons,List.sum_cons,List.length_cons]at h2 ⊢
  rw[Int.natCast_add,Int.mul_add]; omega
theorem Ua{q:Queue}(h:(q.ah.all (fun l=>!decide (600<(l.length:Int)))&&decide ((q.ah.length:Int)≤20))=true):sm q∧tot q.ah≤2^62:=by
 simp only[Bool.and_eq_true,List.all_eq_true,Bool.not_eq_true',decide_eq_false_iff_not,decide_eq_true_eq]at h
 obtain⟨h1,h2⟩:=h
 refine⟨fun l hl=>by have:=h1 l hl; omega,?_⟩
 have:=T9 (ls:=q.ah) (k:=600) (by omega) fun l hl=>by have:=h1 l hl; omega
 omega
structure Bq(q:Queue):Prop where
 n:q.ah.length≤2^63-1
 v:q.ae.e2≤9223372036854775807∧q.ae.e3≤9223372036854775807∧q.ae.e4≤9223372036854775807∧q.ae.e5≤9223372036854775807
theorem Xp{q:Queue}(h:Ub q):Bq q:=by
 obtain⟨_,_,⟨h1,_⟩,⟨_,_,h2,h3,h4,h5,_⟩,_⟩:=h
 have e:IntKind.max .i64=9223372036854775807:=by decide
 have m:maxLen≤2^63-1:=by decide
 refine⟨Nat.le_trans h1 m,?_⟩
 unfold yR at h2 h3 h4 h5
 rw[e]at h2 h3 h4 h5
 exact⟨h2.2,h3.2,h4.2,h5.2⟩
end Go.Proofs.YtpodhambaehlkaaGreatDoor
end
section
/- Plain facts of this seat: package link on valid links. -/
set_option maxRecDepth 100000
namespace Go.Proofs.YtpodhambaehlkaaGreatDoor
open Go.PI Go.Pl
structure VL(l:bf):Prop where
 r:1≤l.dv∧l.dv≤1000000
 d:0≤l.dc∧l.dc≤1000000
 q:QV l.Queue
 st:(l.iu=true∧pR l.dm=true∧l.Queue.ae.e7≤l.cB∧l.cB≤20000000)∨(l.iu=false∧l.dm=zP∧l.cB=0∧tot l.Queue.ah=0)
theorem QV.valid{q:Queue}(h:QV q):aa.oz q=some true:=by
 unfold aa.oz
 rcases h with ⟨l,h⟩|⟨l,h⟩|⟨l,h⟩|⟨l,h⟩|h|⟨a,b,h⟩<;>rw[h.kind]<;>exact bB h.valid rfl
theorem FG(n lo hi:Int):aa.cV n lo hi=some (decide (lo≤n)&&decide (n≤hi)):=cN
theorem NF(n:Int):aa.jH n=some (tu n):=by
 unfold aa.jH; exact bB (FG _ _ _) rfl
theorem aa0(p:an):aa.jb p=some (pR p):=by
 unfold aa.jb pR
 simp only[FG,NF,tu,Option.bind_some,cN]
theorem NG{p:an}:(p.aH==0&&(p.Sub==0&&(p.Number==0&&(p.Data==0&&(p.az==0&&(p.aQ==0&&(p.aJ==false&&p.aB==false)))))))=true↔p=zP:=by
 cases p
 simp[zP]
theorem Xq{a b:Prop}[Decidable a][Decidable b](h:a∧b):(decide a&&decide b)=true:=by simp[h.1,h.2]
theorem VL.valid{l:bf}(h:VL l):aa.jq l=some true:=by
 unfold aa.jq
 refine bB (FG _ _ _) (bF (by rw[Xq h.r]; rfl) (bB (FG _ _ _) (bF (by rw[Xq h.d]; rfl) (bB h.q.valid (bF rfl ?_)))))
 rcases h.st with ⟨b,p,u⟩|⟨b,p,u,t⟩
 ·exact bT b (bB (aa0 _) (bT p (bB (FG _ _ _) (by rw[Xq u]))))
 ·refine bF b (bT (NG.2 p) (bT (by rw[u]; rfl) (bB h.q.size (by rw[t]; rfl))))
theorem QV.few{q:Queue}(h:QV q):sm q∧tot q.ah≤2^62:=by
 have b:=h.base
 have:=b.len; have:=b.r1
 exact⟨fun l hl=>by have:=vM hl; omega,by omega⟩
theorem Xr(q:Queue)(hn:q.ah.length≤2^62)(ht:tot q.ah≤2^62):aa.qn q=some (tot q.ah):=by
 unfold aa.qn
 refine bB (v:=(tot q.ah,(q.ah.length:Int))) ?_ rfl
 have key:∀ n i,q.ah.length-i=n→i≤q.ah.length→aX (ω:=Int×Int) (fun ((i1,i2):Int×Int)=>
   bif decide (i2<(↑q.ah.length:Int)) then gd (decide (0≤i2)) <| (q.ah[i2.toNat]?).bind fun l3=>some (Sum.inl (IntKind.i64.wrap (i1+(↑l3.length:Int)),IntKind.i64.wrap (i2+1))) else some (Sum.inr (i1,i2)))
   (tot (q.ah.take i),(i:Int))=some (tot q.ah,(q.ah.length:Int)):=by
  intro n
  induction n with
  |zero=>
   intro i h1 h2
   have:i=q.ah.length:=by omega
   subst this
   refine Go.Pl.out (bF (iP _) ?_)
   rw[List.take_length]
  |succ n ih=>
   intro i h1 h2
   have hi:i<q.ah.length:=by omega
   have hs:tot (q.ah.take (i+1))=tot (q.ah.take i)+(q.ah[i].length:Int):=by rw[List.take_succ_eq_append_getElem hi,Ax]
   have a:=Ay (q.ah.take i)
   have b:=Az (ls:=q.ah) (i+1)
   refine(Go.Pl.next (y:=(tot (q.ah.take (i+1)),((i+1:Nat):Int))) ?_).trans (ih (i+1) (by omega) hi)
   refine bT (eX hi) (bT (ca i) (bB (v:=q.ah[i]) (by simp[hi]) ?_))
   rw[bk (by omega) (by omega),bk (by omega) (by omega),hs]
   simp only[Int.natCast_add,Int.natCast_one]
 have:=key q.ah.length 0 rfl (Nat.zero_le _)
 rwa [List.take_zero]at this
theorem rL0(l:bf)(hf:(l.Queue.ah.all (fun l=>!decide (600<(l.length:Int)))&&decide ((l.Queue.ah.length:Int)≤20))=true)(hb:Bq l.Queue):Dc (aa.jI l) (VL l):=by
 obtain⟨hs,ht⟩:=Ua hf
 have hn:l.Queue.ah.length≤2^62:=by simp only[Bool.and_eq_true,decide_eq_true_eq]at hf; omega
 unfold aa.jI aa.nC
 obtain⟨b,PA,HI⟩:=rQ l.Queue hs (fun _ p i hi=>aaZ p hb.v hi) ht
 refine dI (P:=(decide (1≤l.dv)&&decide (l.dv≤1000000))=true∧decide (l.dc<0)=false∧decide (1000000<l.dc)=false∧b=true ∧
   if (!l.iu)=true then _∧(l.cB==0)=true∧(tot l.Queue.ah==0)=true else pR l.dm=true∧decide (l.Queue.ae.e7≤l.cB)=true∧decide (l.cB≤20000000)=true)
  (dB cN (dN fun _=>dS fun _=>dS fun _=>dB PA (dN fun _=>dC (fun _=>dA fun _=>dA fun _=>dB (Xr _ hn ht) dV) fun _=>dB (Xj _) (dA fun _=>dA fun _=>dV)))) ?_
 rw[HI]
 simp only[Bool.and_eq_true,decide_eq_true_eq,decide_eq_false_iff_not,Bool.not_eq_true',beq_iff_eq]
 constructor
 ·rintro⟨⟨a1,a2⟩,a3,a4,a5,a6⟩
  refine⟨⟨a1,a2⟩,by omega,a5,?_⟩
  split at a6
  ·next hB=>
   obtain⟨c1,c2,c3⟩:=a6
   exact .inr ⟨hB,NG.1 (by simpa using c1),c2,c3⟩
  ·next hB=>exact .inl ⟨by simpa using hB,a6⟩
 ·intro h
  refine⟨h.r,by have:=h.d; omega,by have:=h.d; omega,h.q,?_⟩
  rcases h.st with ⟨c,p,u⟩|⟨c,p,u,t⟩
  ·rw[if_neg (by rw[c]; decide)]; exact⟨p,u⟩
  ·rw[if_pos c]
   refine⟨by simpa using NG.2 p,u,t⟩
def unt(r:Int)(b:Bool)(p:an)(now:Int):Int:=bif b then now+(1000*p.az+r-1)/r else 0
theorem QY{p:an}(h:pR p=true):1≤p.az∧p.az≤10000:=by
 simp only[pR,Bool.and_eq_true,decide_eq_true_eq]at h
 obtain⟨_,_,_,_,h,_⟩:=h
 exact h
theorem Sk{r now:Int}{p:an}(hr:1≤r∧r≤1000000)(hp:pR p=true):IntKind.i64.wrap ((IntKind.i64.wrap (IntKind.i64.wrap (IntKind.i64.wrap (1000*p.az)+r)-1)).tdiv r)=(1000*p.az+r-1)/r∧0≤(1000*p.az+r-1)/r∧(1000*p.az+r-1)/r≤10000000:=by
 have hs:=QY hp
 have h0:0≤(1000*p.az+r-1)/r:=Int.ediv_nonneg (by omega) (by omega)
 have h1:(1000*p.az+r-1)/r≤10000000:=by
  have:(1000*p.az+r-1)/r<10000001:=by
   rw[Int.ediv_lt_iff_lt_mul (by omega)]
   have:(10000000:Int)*1≤10000000*r:=Int.mul_le_mul_of_nonneg_left hr.1 (by omega)
   omega
  omega
 refine⟨?_,h0,h1⟩
 rw[bk (n:=1000*p.az) (by omega) (by omega),bk (n:=1000*p.az+r) (by omega) (by omega),bk (n:=1000*p.az+r-1) (by omega) (by omega),Int.tdiv_eq_ediv_of_nonneg (by omega),bk (by omega) (by omega)]
structure TK(q:Queue)(now:Int)(q':Queue)(p:an)(b:Bool)(d:List an):Prop where
 e:aa.bS q now=some (q',p,b,d,0)
 v:QV q'
 t:q'.ae.e7=now
 d:d.length≤500
 one:b=true→pR p=true
 no:b=false→p=zP∧tot q'.ah=0
theorem Uc{q:Queue}(h:QV q){now:Int}(hn:tu now=true)(hle:q.ae.e7≤now):∃ q' p b d,TK q now q' p b d:=by
 obtain⟨q',v',p',r',e7,j,l,k,hl,hk,ha⟩:=T6 h hn hle
 have B:=h.base
 have TU:=vM (List.mem_of_getElem? hl)
 have hlen:=B.len; have xM:=B.r1
 have hd:((l.take k).map (·.P)).length≤500:=by rw[List.length_map,List.length_take]; omega
 rcases ha with ⟨ii,x,xs,m,hx,hm,hL,e⟩|⟨hz,hL,e⟩
 ·refine⟨q',_,true,_,e,v',e7,hd,fun _=>?_,fun h=>Bool.noConfusion h⟩
  have nT:x∈x::xs:=by simp
  have:∃ l∈q.ah,x∈l:=by
   by_cases hi:j=ii
   ·subst hi
    rw[List.getElem?_set_self (List.getElem?_eq_some_iff.1 hl).1,Option.some.injEq]at hx
    exact⟨l,List.mem_of_getElem? hl,List.mem_of_mem_drop (by rw[hx]; exact nT)⟩
   ·rw[List.getElem?_set_ne hi]at hx
    exact⟨_,List.mem_of_getElem? hx,nT⟩
  obtain⟨l',h1,h2⟩:=this
  exact B.okp l' h1 x h2
 ·exact⟨q',zP,false,_,e,v',e7,hd,fun h=>Bool.noConfusion h,fun _=>⟨rfl,by rw[hL,hz]⟩⟩
theorem Sl{d:List an}{n:Nat}(h:d.length≤n)(hn:n≤100000):(decide (d.length*56≤2^44)&&decide (d.length≤2^44))=true:=Xq (by omega)
theorem JQ{l:bf}(h:VL l)(hb:l.iu=true)(hu:l.cB≤10000000){q':Queue}{p:an}{b:Bool}{d:List an}(ht:TK l.Queue l.cB q' p b d):
  aa.mV l l.cB=some (⟨l.dv,l.dc,q',b,p,unt l.dv b p l.cB⟩,l.dm,d,0):=by
 unfold aa.mV
 have h7:=h.q.base.t0
 have hr:=h.r
 have lM:l.Queue.ae.e7≤l.cB:=by
  rcases h.st with ⟨_,_,u⟩|⟨c,_⟩
  ·exact u.1
  ·rw[hb]at c; exact Bool.noConfusion c
 have hn:tu l.cB=true:=cU.2 (by omega)
 refine bB h.valid (bF rfl (bB (NF _) (bF (by rw[hn]; rfl) (bF (by rw[hb]; rfl) (bF (by simp) (bB ht.e (bF rfl ?_)))))))
 cases b with
 |true=>
  obtain⟨t1,t2,t3⟩:=Sk (now:=l.cB) hr (ht.one rfl)
  rw[t1,bk (by omega) (by omega)]
  refine bT rfl (bF (decide_eq_false (by omega)) ?_)
  cases d with
  |nil=>rfl
  |cons x xs=>exact bF rfl (bT (Sl ht.d (by omega)) rfl)
 |false=>
  refine bF rfl ?_
  cases d with
  |nil=>rfl
  |cons x xs=>exact bF rfl (bT (Sl ht.d (by omega)) rfl)
end Go.Proofs.YtpodhambaehlkaaGreatDoor
end
section
/- Plain facts of this seat: a packet arrives at a valid link; the laws LinkValid and LinkOtherRate. -/
set_option maxRecDepth 100000
namespace Go.Proofs.YtpodhambaehlkaaGreatDoor
open Go.PI Go.Pl
abbrev zL:bf:=bf.mk 0 0 (Queue.mk (af.mk 0 0 0 0) 0 [] (A8.mk 0 0 0 0 0 0 0 0) 0) false (an.mk 0 0 0 0 0 0 false false) 0
theorem Xs{l:bf}(h:VL l)(fh:Int):∃ l' e,aa.nD l fh=some (l',e)∧((e=0∧VL l'∧(1≤fh∧fh≤1000000)∧l'=⟨fh,l.dc,l.Queue,l.iu,l.dm,l.cB⟩)∨(e≠0∧l'=zL)):=by
 unfold aa.nD
 by_cases hr:1≤fh∧fh≤1000000
 ·exact⟨_,0,bB h.valid (bF rfl (bB (FG _ _ _) (bF (by rw[Xq hr]; rfl) rfl))),.inl ⟨rfl,⟨hr,h.d,h.q,h.st⟩,hr,rfl⟩⟩
 ·exact⟨zL,1,bB h.valid (bF rfl (bB (FG _ _ _) (bT (by
   have:¬(1≤fh∧fh≤1000000):=hr
   cases h1:(decide (1≤fh)&&decide (fh≤1000000)) with
   |false=>rfl
   |true=>simp only[Bool.and_eq_true,decide_eq_true_eq]at h1; exact absurd h1 hr) rfl))),.inr ⟨by decide,rfl⟩⟩
/-! ### Things are the same as themselves -/
theorem all_true{α:Type}(l:List α):(l.all fun _=>true)=true:=by simp
theorem NH(a:List an)(h:a.length≤2^62):aa.lG a a=some true:=by
 unfold aa.lG
 refine bF (by simp) (bB (mU a (fun i=>(false,(i:Int))) (fun _=>true) (Sum.inl false) (Sum.inr (false,(a.length:Int))) ?_ (bF (iP _) rfl) rfl) ?_)
 rotate_left
 ·rw[all_true]; rfl
 ·intro i hi
  refine bT (eX hi) (bT (ca i) (bB (v:=a[i]) (by simp[hi]) (bT (ca i) (bB (v:=a[i]) (by simp[hi]) (bF (by simp) ?_)))))
  rw[bk (n:=(i:Int)+1) (by omega) (by omega)]; rfl
theorem KW(a:List ai)(h:a.length≤2^62):aa.kh a a=some true:=by
 unfold aa.kh
 refine bF (by simp) (bB (mU a (fun i=>(false,(i:Int))) (fun _=>true) (Sum.inl false) (Sum.inr (false,(a.length:Int))) ?_ (bF (iP _) rfl) rfl) ?_)
 rotate_left
 ·rw[all_true]; rfl
 ·intro i hi
  refine bT (eX hi) (bT (ca i) (bB (v:=a[i]) (by simp[hi]) (bT (ca i) (bB (v:=a[i]) (by simp[hi]) (bF (by simp) ?_)))))
  rw[bk (n:=(i:Int)+1) (by omega) (by omega)]; rfl
theorem NI(q:Queue)(hn:q.ah.length≤2^62)(h:tot q.ah≤2^62):aa.nE q q=some true:=by
 unfold aa.nE
 refine bF (by simp) (bF (by simp) (bF (by simp) (bF (by simp) (bF (by simp) (bB (mU q.ah (fun i=>(false,(i:Int))) (fun _=>true) (Sum.inl false) (Sum.inr (false,(q.ah.length:Int))) ?_ (bF (iP _) rfl) rfl) ?_)))))
 rotate_left
 ·rw[all_true]; rfl
 ·intro i hi
  have hm:=vM (List.getElem_mem hi)
  refine bT (eX hi) (bT (ca i) (bB (v:=q.ah[i]) (by simp[hi]) (bT (ca i) (bB (v:=q.ah[i]) (by simp[hi]) (bB (KW _ (by omega)) (bF rfl ?_))))))
  rw[bk (n:=(i:Int)+1) (by omega) (by omega)]; rfl
theorem Ud(l:bf)(hn:l.Queue.ah.length≤2^62)(h:tot l.Queue.ah≤2^62):aa.jr l l=some true:=by
 unfold aa.jr
 exact bT (by simp) (bT (by simp) (bB (NI _ hn h) (bT rfl (bT (by simp) (bT (by simp) (by simp))))))
theorem te(l:bf)(fh:Int)(hb:Bq l.Queue):aa.fJ l fh=some true:=by
 unfold aa.fJ aa.sM aa.nC
 refine bB (v:=true) rfl (bB (bB (Xo l.Queue hb.n) rfl) ?_)
 cases hf:(l.Queue.ah.all (fun l=>!decide (600<(l.length:Int)))&&decide ((l.Queue.ah.length:Int)≤20))
 ·rfl
 refine bF rfl ?_
 obtain⟨b,PA,HI⟩:=rL0 l hf hb
 refine bB PA ?_
 cases b with
 |false=>rfl
 |true=>
  have h:=HI.1 rfl
  have hB:=h.q.base
  refine bF rfl (bB cN ?_)
  cases hr:(decide (1≤fh)&&decide (fh≤1000000)) with
  |false=>rfl
  |true=>
   have oO:1≤fh∧fh≤1000000:=by simpa using hr
   obtain⟨m,g,hm,⟨rfl,hv,_,rfl⟩|⟨hg,rfl⟩⟩:=Xs h fh
   rotate_left
   ·exfalso
    have:aa.nD l fh=some (⟨fh,l.dc,l.Queue,l.iu,l.dm,l.cB⟩,0):=by
     unfold aa.nD
     exact bB h.valid (bF rfl (bB (FG _ _ _) (bF (by rw[hr]; rfl) rfl)))
    rw[this]at hm
    simp only[Option.some.injEq,Prod.mk.injEq]at hm
    exact hg hm.2.symm
   refine bF rfl (bB hm (bF rfl (bB (Ud _ (show l.Queue.ah.length≤2^62 by have:=hB.n; omega) h.q.few.2) (bF rfl ?_))))
   cases hbu:l.iu with
   |false=>rfl
   |true=>
    refine bF rfl ?_
    by_cases hu:10000000<l.cB
    ·exact bT (decide_eq_true hu) rfl
    ·have hle:l.Queue.ae.e7≤l.cB:=by
      rcases h.st with ⟨_,_,u⟩|⟨c,_⟩
      ·exact u.1
      ·rw[hbu]at c; exact Bool.noConfusion c
     have hn:tu l.cB=true:=cU.2 (by have:=hB.t0; omega)
     obtain⟨q2,p2,b2,d2,hk⟩:=Uc h.q hn hle
     have Kl:=Int.not_lt.1 hu
     have hv2:VL ⟨fh,l.dc,l.Queue,l.iu,l.dm,l.cB⟩:=hv
     rw[hbu]at hv2
     have d1:=JQ h hbu Kl hk
     have d2':=JQ (l:=⟨fh,l.dc,l.Queue,true,l.dm,l.cB⟩) hv2 rfl Kl hk
     have hdl:=hk.d
     refine bF (decide_eq_false hu) (bB d1 (bB d2' (bF rfl (bF rfl (bT rfl (bT (by simp) (bT (by simp) (bB (NH _ (by omega)) (bT rfl (bT (by simp) (bT (by simp) (bB (NI _ (by have:=hk.v.base.n; show q2.ah.length≤2^62; omega) hk.v.few.2) (bT rfl ?_)))))))))))))
     cases b2 with
     |false=>rfl
     |true=>
      obtain⟨t1,t2,t3⟩:=Sk (now:=l.cB) oO (hk.one rfl)
      have qQ:=cU.1 hn
      refine bF rfl (bB (v:=(1000*p2.az+fh-1)/fh) ?_ ?_)
      ·unfold aa.jt
       exact bF (decide_eq_false (by omega)) (by show some _=_; rw[t1])
      ·show some (l.cB+(1000*p2.az+fh-1)/fh==_)=_
       rw[bk (by omega) (by omega)]; simp
end Go.Proofs.YtpodhambaehlkaaGreatDoor
end
section
set_option maxRecDepth 100000
namespace Go.Proofs.YtpodhambaehlkaaGreatDoor
open Go.PI Go.ChangeShapes Go.WideShapes Go.ChangeAt Go.RowKit
theorem Uv {W : World} (h : laidMetH Tryz.prog [("queuelab/random.mixing", Rows.laid_queuelab_random_mixing)] W) :
  W.var? Tryz.prog "queuelab/random.mixing" = some #[.int .u64 30, .int .u64 13787848793156543929, .int .u64 27, .int .u64 10723151780598845931, .int .u64 31, .int .u64 1] := by
 rw[MakeChecks.laidMetH_plain _ _ _ (by kernel_rfl)]at h
 obtain⟨ps,⟨g,t,cs,fuel,p,q,hg,ht,hv,hd,_,_⟩,_,_⟩:=h
 obtain rfl := Option.some.inj ((show Tryz.prog.globalNamed "queuelab/random.mixing" = some 0 by kernel_rfl).symm.trans hg)
 obtain rfl:=Option.some.inj ((show (Tryz.prog.globals[0]?).map (·.type)=some 154 by kernel_rfl).symm.trans ht)
 have ab8:Tryz.prog.cellsOf 153=2:=by kernel_rfl
 have ab9:Tryz.prog.cellsOf 154=6:=by kernel_rfl
 have aca:Tryz.prog.cellsOf 148=1:=by kernel_rfl
 have c26:Tryz.prog.cellsOf 26=1:=by kernel_rfl
 obtain⟨xs,m,_,ex,hlen,hl,vg⟩:=DataW.trod_array Tryz.underlying154 hd
 rw[ab9]at hlen
 obtain⟨l⟩:=cs
 match l,hlen with
 |[a0,a1,a2,a3,a4,a5],_=>
  match xs,hl with
  |[x0,x1,x2],_=>
   have e3:=(DataW.agg.inj (Prod.mk.inj ex).1)
   simp only[List.map_cons,List.map_nil,List.cons.injEq,and_true]at e3
   have k0:=vg 0 (by omega); have k1:=vg 1 (by omega); have k2:=vg 2 (by omega)
   rw[ab8]at k0 k1 k2
   obtain⟨y0,z0,_,ex0,_,p0,q0⟩:=trod_struct2 Tryz.underlying153 k0
   obtain⟨y1,z1,_,ex1,_,p1,q1⟩:=trod_struct2 Tryz.underlying153 k1
   obtain⟨y2,z2,_,ex2,_,p2,q2⟩:=trod_struct2 Tryz.underlying153 k2
   simp only[aca,c26]at p0 q0 p1 q1 p2 q2
   obtain⟨m0,b0,d0,_⟩:=DataW.trod_int Tryz.underlying148 p0
   obtain⟨n0,g0,h0,_⟩:=DataW.trod_int Tryz.underlying26 q0
   obtain⟨m1,b1,d1,_⟩:=DataW.trod_int Tryz.underlying148 p1
   obtain⟨n1,g1,h1,_⟩:=DataW.trod_int Tryz.underlying26 q1
   obtain⟨m2,b2,d2,_⟩:=DataW.trod_int Tryz.underlying148 p2
   obtain⟨n2,g2,h2,_⟩:=DataW.trod_int Tryz.underlying26 q2
   rw[hv]
   simp at b0 g0 b1 g1 b2 g2
   subst d0 h0 d1 h1 d2 h2 ex0 ex1 ex2 b0 g0 b1 g1 b2 g2
   simp at e3
   obtain⟨⟨f0,f1⟩,⟨f2,f3⟩,f4,f5⟩:=e3
   subst f0 f1 f2 f3 f4 f5
   rfl
theorem Uw {W : World} (h : laidMetH Tryz.prog [("queuelab/random.mixing", Rows.laid_queuelab_random_mixing)] W) : me (Env.all W) := by
 have hv:=Uv h
 intro b c hb
 have qG:b=0∧c=#[.int .u64 30,.int .u64 13787848793156543929,.int .u64 27,.int .u64 10723151780598845931,.int .u64 31,.int .u64 1]:=by
  cases b with
  |zero=>exact⟨rfl,(Option.some.inj hb).symm⟩
  |succ n=>cases hb
 obtain⟨rfl,rfl⟩:=qG
 unfold World.var? at hv
 rw [show Tryz.prog.globalNamed "queuelab/random.mixing" = some 0 by kernel_rfl] at hv
 simp only[Option.bind_some]at hv
 constructor
 ·show (match W.heap[0]? with|some (.cells c _ _)=>some c|_=>none)=_
  split at hv
  ·rename_i cs T fz hw
   rw[hw]
   exact hv
  ·cases hv
 ·intro x hx
  simp only[List.mem_cons,List.not_mem_nil,or_false]at hx
  rcases hx with rfl|rfl|rfl|rfl|rfl|rfl<;>rfl
end Go.Proofs.YtpodhambaehlkaaGreatDoor
end
section
/- The law LinkOtherRate: its row. -/
namespace Go.Proofs.YtpodhambaehlkaaGreatDoor.tF
open Go.PI Go.ChangeShapes Go.WideShapes Go.ChangeAt Go.RowKit
theorem own:ownKnob Tryz.prog.godebug=none:=by kernel_rfl
theorem laidOut:laidOutB Tryz.prog=true:=by kernel_rfl
theorem okWide_struct{P:Program}{w:World}{r:Reach}{base:Nat}{t:TypeId}{v:Value}{fs:Array Field}(ht:P.underlying t=some (.struct fs))(h:Value.okWide P w r base t v):∃ cs,v=.agg cs:=by
 unfold Value.okWide at h
 rw[ht]at h
 obtain⟨cs,h,_⟩:=h
 exact⟨cs,h⟩
theorem Rq{E:Env}{l:List AV}{cs:Array Value}(h:aO E false l (Value.agg cs).cells.toList):au E false (.agg l) (.agg cs):=by
 simp only[au]
 exact⟨cs.toList,by simp,by simpa[Value.cells] using h⟩
theorem Wh{E:Env}{l:List AV}{a:Option Addr}{len cap:Nat}(h:aO E false l (Value.slice a len cap).cells.toList){x:AV}(hl:l=[x]):au E false x (.slice a len cap):=by
 subst hl
 have h2:au E false x (Value.slice a len cap)∧jy (Value.slice a len cap)=true:=by simpa[Value.cells,aO] using h
 exact h2.1
theorem walk(W:World)(Yf:Array Value)(a1:Int){l0:List AV}(e0:aO (Env.all W) false l0 (Value.agg Yf:Value).cells.toList){n0:Nat}(s0:Shape Tryz.prog n0 32 l0)(LD:(Lit.int .i64 a1).wf=true)(hG:me (Env.all W)):Calls Tryz.prog 5 #[.agg Yf,.int .i64 a1] W fun e w'=>e=.returned (.bool true)∧Below W.heap.size W w':=by
 obtain⟨x0,w0,r0⟩:=acR (aL (show Tryz.prog.underlying 32=Tryz.prog.underlying 31 by kernel_rfl) s0)
 have hs:vZ C T 5 ⟨[32,3],[4],fun x=>Go.aa.fJ x.1 x.2⟩:=Rp s94 rfl
 refine OC Cok hs rfl (x:=(x0,a1)) (y:=true) (te x0 a1 (Xp w0.2.2.1)) ?_ («as»:=[.agg l0,.lit (.int .i64 a1)]) ⟨r0,rfl,trivial⟩ hG (vs:=[.agg Yf,.int .i64 a1]) ?_
 ·intro l hl
  match l,hl with
  |[a],hl=>have:a=.lit (.bool true):=hl.1; rw[this]
  |[],hl=>exact False.elim hl
  |_::_::_,hl=>exact False.elim hl.2
 ·simp only[aw]
  exact⟨Rq e0,by simp[au],trivial⟩
set_option maxRecDepth 100000 in
theorem lifted(os:Os)(started:os.Started)(H:Type)(enc:TypeId×Value→H):
  ReturnsInHanded {} Tryz.checked os 5 .any (fun w args=>(Rows.linkOtherRateSpec.pre enc Tryz.prog Tryz.f5 [] false w args∧laidMetH Tryz.prog Rows.linkOtherRateRow.laid w)∧sizedMet enc Tryz.prog Tryz.f5 (OpenSpec.ofChange Rows.linkOtherRateSpec) false w args) (Rows.linkOtherRateSpec.post enc Tryz.prog Tryz.f5 false true false false):=by
 refine returnsInHanded_of_change_and (C:=Tryz.checked) (X:=fun w _=>laidMetH Tryz.prog Rows.linkOtherRateRow.laid w) (fun _ _ _ hh h=>h.of_heap hh) own started (by kernel_rfl) Tryz.func5
  (ChangeSpec.witness_at (enc:=enc) (C:=Tryz.checked) (os:=os) (X:=fun w _=>laidMetH Tryz.prog Rows.linkOtherRateRow.laid w) false (World.laidAll Tryz.prog os Rows.linkOtherRateRow.laid) #[.agg #[.int .i64 0,.int .i64 0,.int .i64 0,.int .i64 0,.int .i64 0,.int .i64 0,.int .i64 0,.slice none 0 0,.int .i64 0,.int .i64 0,.int .i64 0,.int .i64 0,.int .i64 0,.int .i64 0,.int .i64 0,.int .i64 0,.int .u64 0,.bool false,.int .i64 0,.int .i64 0,.int .i64 0,.int .i64 0,.int .i64 0,.int .i64 0,.bool false,.bool false,.int .i64 0],.int .i64 0] 8 (World.laidAll_os _ _ _) (by kernel_rfl) (by kernel_rfl) (by kernel_rfl) (by kernel_rfl) (by kernel_rfl)
    (by rw[MakeChecks.laidMetH_plain _ _ _ (by kernel_rfl)]; exact laidMet_laidAll _ (by kernel_rfl) (by kernel_rfl))) ?_
 intro W base args ds gs before SI hW _ _ hL _
 have hG:me (Env.all W):=Uw hL
 have UZ:∀ (j:Nat) t v,Tryz.f5.params[j]?=some t→args[j]?=some v→Value.okWide Tryz.prog W .any base t v:=SI
 have hW':=hW
 obtain⟨p,q,hA0,hV,rfl,PY,Cw⟩:=hW
 have hA:DataW.TrodAll enc Tryz.prog W 0 (fun _=>true) true Tryz.f5.params.toList args.toList ds p:=hA0
 rw[Tryz.params5]at hA UZ
 obtain⟨v0,vs0,d0,ds0,p0,q0,od,rfl,rfl,h0,r0⟩:=trodAll_cons hA
 obtain⟨v1,vs1,d1,ds1,p1,q1,rfl,rfl,rfl,h1,r1⟩:=trodAll_cons r0
 obtain⟨rfl,rfl,rfl⟩:=trodAll_nil r1
 obtain rfl:args=#[v0,v1]:=by cases args; simp_all
 obtain⟨rfl,rfl⟩:=trodVars_none hV
 obtain⟨Yf,rfl⟩:=okWide_struct Tryz.underlying32 (UZ 0 32 v0 rfl rfl)
 obtain⟨a1,rfl,rfl,rfl,w1⟩:=open_int Tryz.underlying3 (UZ 1 3 v1 rfl rfl) h1
 have k0:=h0
 have lt0:∀ x∈p0,x.block<W.heap.size:=by obtain⟨m,hm⟩:=k0; exact DataW.trod_lt m _ _ _ hm
 obtain⟨f0,hf0⟩:=h0
 obtain⟨l0,e0,s0⟩:=P7 f0 10 32 _ _ (by kernel_rfl) hf0
 clear hA0 SI
 refine(walk W Yf a1 e0 s0 w1 hG).mono fun e W' ⟨he,bel⟩=>?_
 subst he
 exact⟨_,rfl,_,_,_,[],_,[],hW',trodAll_mk1 (shut_bool Tryz.underlying4 _),(trodAll_cons_mk (Below.trod laidOut (by kernel_rfl) (of_decide_eq_true (by kernel_rfl)) k0 bel lt0) (trodAll_cons_mk (shut_int Tryz.underlying3 w1) trodAll_mk0)),rfl,bel.frame _,fun h=>by cases h⟩
theorem over:Rows.linkOtherRateRow.holds Tryz.pinned (OpenSpec.ofChange Rows.linkOtherRateSpec):=
 OpenClaim.holds_of_wide 5 Tryz.f5 rfl rfl rfl rfl rfl rfl rfl ⟨rfl,rfl,rfl,rfl,rfl⟩ rfl rfl rfl rfl rfl (by kernel_rfl) Tryz.func5 (by kernel_rfl)
  (of_decide_eq_true (by kernel_rfl)) (by unfold Func.isWrapper; first|(rw[if_pos (by decide +kernel)]; kernel_rfl)|(rw[if_neg (by decide +kernel)]; exact⟨rfl,rfl⟩))
  (fun os started H enc _=>lifted os started H enc)
theorem proved:Rows.LinkOtherRateSaid:=over
theorem acS:Rows.LinkOtherRateCardSaid:=
 Claim7.holds_tied_plain_at .later [] [.data] true (true, "271e60aeae1f627d554caaa1710f0c1be2ae30145d7f6ebf729985419eb3bc93") true proved (fun _ h => by cases h) (by kernel_rfl) (fun _ h => by cases h) linkOtherRate_row_tie rfl ⟨rfl, rfl⟩ (by kernel_rfl) rfl
  (fun f fn hf tc=>by
    obtain rfl : f = 5 := Option.some.inj ((show Tryz.prog.funcNamed "queuelab/queuelablaw26.LinkOtherRate" = some 5 by kernel_rfl).symm.trans hf) |>.symm
    obtain rfl:fn=Tryz.f5:=(Option.some.inj (Tryz.func5.symm.trans tc)).symm
    exact⟨by kernel_rfl,fun j t ht=>by
     rw[Tryz.params5]at ht
     have hm:t∈[32,3]:=by simpa using Array.mem_of_getElem? ht
     have bK:([32,3].all fun u=>!Tryz.prog.wantsStandIn u)=true:=by kernel_rfl
     exact(show Tryz.prog.wantsStandIn t=false by simpa using List.all_eq_true.1 bK t hm)⟩)
  (by kernel_rfl)
end Go.Proofs.YtpodhambaehlkaaGreatDoor.tF
namespace Go.Proofs.YtpodhambaehlkaaGreatDoor
theorem linkOtherRate_card_holds:Rows.LinkOtherRateCardSaid:=tF.acS
end Go.Proofs.YtpodhambaehlkaaGreatDoor
end
