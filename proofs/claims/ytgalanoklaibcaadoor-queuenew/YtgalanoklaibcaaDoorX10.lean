/- The law QueueNew returns true for every input, and each argument reads as it read before; the package variable that it reads is laid by the program's text (a tied card); no conditions. This file: the row and the card, last of the parts. -/
import Derived.IntWalk
import Derived.KernelRfl
import Derived.Test.YtgalanoklaibcaaDoorRows
import Derived.WalkKit
import Derived.ProofKit
import Derived.OpenShut
import Derived.ShutString
import Derived.ChangeOld
import Derived.ChangeSame
import Derived.Below
import Derived.SizedLaws
import Derived.LaidMore
import Derived.MakeChecks
import Derived.Lay
import Derived.LaidOnce
import Derived.SevenTiedAt
import Derived.Test.YtgalanoklaibcaaDoorCards
import Derived.Test.YtgalanoklaibcaaDoorTie
import Derived.Test.YtgalanoklaibcaaDoorX9
section
set_option linter.unusedVariables false
set_option linter.unusedSimpArgs false
/- Plain laws of this seat: new queues. -/
set_option maxRecDepth 100000
namespace Go.Proofs.YtgalanoklaibcaaDoor
open Go.PI Go.Pl
theorem bif_and {a b:Bool}:(bif a then some b else some false)=some (a && b):=by cases a <;> rfl
abbrev zP:Packet:=Packet.mk 0 0 0 0 0 0 false false
abbrev zQ:Queue:=Queue.mk (Policy.mk 0 0 0 0) 0 [] (A8.mk 0 0 0 0 0 0 0 0) 0
def nq (p:Policy) (room:Int) (n:Nat):Queue:=Queue.mk p room (List.replicate n []) (A8.mk 0 0 0 0 0 0 0 0) 0
def okT (n:Int):Bool:=decide (0≤n) && decide (n≤10000000)
theorem t_in (n lo hi:Int):Models.tail_inside n lo hi=some (decide (lo≤n) && decide (n≤hi)):=bif_and
theorem e_in (n lo hi:Int):Models.early_in n lo hi=some (decide (lo≤n) && decide (n≤hi)):=bif_and
theorem s_in (n lo hi:Int):Models.sojourn_between n lo hi=some (decide (lo≤n) && decide (n≤hi)):=bif_and
theorem s_time (n:Int):Models.sojourn_isTime n=some (okT n):=by
 unfold Models.sojourn_isTime
 rw [s_in]; rfl
theorem i_in (n lo hi:Int):Models.integral_inside n lo hi=some (decide (lo≤n) && decide (n≤hi)):=bif_and
theorem f_in (n lo hi:Int):Models.deficit_in n lo hi=some (decide (lo≤n) && decide (n≤hi)):=bif_and
theorem d_in (n lo hi:Int):Models.dual_between n lo hi=some (decide (lo≤n) && decide (n≤hi)):=bif_and
theorem d_time (n:Int):Models.dual_isTime n=some (okT n):=by
 unfold Models.dual_isTime
 rw [d_in]; rfl
theorem r_time (n:Int):Models.ref18_Time n=some (okT n):=bif_and
theorem ex_cond {α:Type} {c:Bool} {x y:Option α} {P:α→Prop} (hx:∃ b,x=some b∧P b) (hy:∃ b,y=some b∧P b):∃ b,(bif c then x else y)=some b∧P b:=by
 cases c
 ·exact hy
 ·exact hx
theorem b_id {α:Type} (x:Option α):(x.bind fun b=>some b)=x:=by cases x <;> rfl
theorem tail_v (p:Policy) (room:Int):∃ b,Models.tail_Valid (nq p room 1)=some b∧True:=by
 unfold Models.tail_Valid Models.tail_line_valid
 simp only [t_in,Option.bind_some,b_id]
 repeat' first
  | apply ex_cond
  | exact ⟨_,rfl,trivial⟩
theorem early_v (p:Policy) (room:Int):∃ b,Models.early_Valid (nq p room 1)=some b∧True:=by
 unfold Models.early_Valid
 simp only [e_in,Option.bind_some,b_id]
 repeat' first
  | apply ex_cond
  | exact ⟨_,rfl,trivial⟩
theorem sojourn_v (p:Policy) (room:Int):∃ b,Models.sojourn_Valid (nq p room 1)=some b∧True:=by
 unfold Models.sojourn_Valid
 simp only [s_in,s_time,Option.bind_some,b_id]
 repeat' first
  | apply ex_cond
  | exact ⟨_,rfl,trivial⟩
theorem integral_v (p:Policy) (room:Int):∃ b,Models.integral_Valid (nq p room 1)=some b∧True:=by
 unfold Models.integral_Valid Models.integral_state_valid
 simp only [i_in,Option.bind_some,b_id]
 repeat' first
  | apply ex_cond
  | exact ⟨_,rfl,trivial⟩
theorem lp {τ ω:Type} {f:τ→Option (τ ⊕ ω)} {x:τ} {w:ω} (n:Nat) (h:loopN f n x=some w):loopM f x=some w:=loopM_some.2 ⟨n,h⟩
theorem ex_loop {τ ω α:Type} {f:τ→Option (τ ⊕ ω)} {x:τ} {w:ω} {K:ω→Option α} {P:α→Prop} (n:Nat) (h:loopN f n x=some w) (hk:∃ b,K w=some b∧P b):∃ b,((loopM f x).bind K)=some b∧P b:=by
 rw [lp n h]; exact hk
theorem d_list (last:Int) (able:Bool):Models.dual_isList [] last able=some true:=by
 unfold Models.dual_isList
 rw [lp 1 rfl]
 rfl
theorem dual_v (p:Policy) (room:Int):∃ b,Models.dual_Valid (nq p room 2)=some b∧True:=by
 unfold Models.dual_Valid nq
 simp only [d_in,d_time,Option.bind_some,b_id,List.replicate_succ,List.replicate_zero,List.getElem?_cons_zero,List.getElem?_cons_succ]
 repeat' first
  | apply ex_cond
  | (refine ex_loop 8 rfl ?_; simp only [Sum.elim_inl,Sum.elim_inr,d_list,Option.bind_some,b_id])
  | exact ⟨_,rfl,trivial⟩
theorem deficit_v (p:Policy) (room:Int):∃ b,Models.deficit_Valid (nq p room 8)=some b∧True:=by
 unfold Models.deficit_Valid
 refine ex_cond ⟨_,rfl,trivial⟩ ?_
 rw [f_in]
 refine ex_cond ⟨_,rfl,trivial⟩ ?_
 refine ex_cond ⟨_,rfl,trivial⟩ ?_
 refine ex_cond ⟨_,rfl,trivial⟩ ?_
 rw [f_in]
 refine ex_cond ⟨_,rfl,trivial⟩ ?_
 exact ⟨decide ((0:Int)≤room),by kernel_rfl,trivial⟩
abbrev TR:Type:=Queue×Packet×Bool×List Packet×Int
def TakeOk (r:Option TR) (now:Int):Prop:=∃ q' e,r=some (q',zP,false,[],e)∧(e==0)=okT now
theorem fin {now v:Int} {x1 x2 X:Option TR} (hv:v=0) (h1:x1=some (zQ,zP,false,[],1)) (h2:x2=some (zQ,zP,false,[],18)) (hX:∃ q',X=some (q',zP,false,[],0)):
  TakeOk (bif !(decide (0≤now) && decide (now≤10000000)) then x1 else bif decide (now < v) then x2 else X) now:=by
 subst hv
 unfold TakeOk okT
 cases h:(decide (0≤now) && decide (now≤10000000))
 ·exact ⟨_,_,h1,rfl⟩
 ·have h':decide (now < 0)=false:=by
   simp only [Bool.and_eq_true,decide_eq_true_eq] at h
   exact decide_eq_false (by omega)
  obtain ⟨q',hX⟩:=hX
  rw [h']
  exact ⟨q',0,hX,rfl⟩
theorem early_t (p:Policy) (room now:Int) (hv:Models.early_Valid (nq p room 1)=some true):TakeOk (Models.early_Take (nq p room 1) now) now:=by
 unfold Models.early_Take
 rw [hv]
 simp only [Option.bind_some,Bool.not_true,cond_false,e_in]
 refine fin rfl rfl rfl ⟨Queue.mk p room [[]] (A8.mk 0 0 0 0 0 0 0 now) 0,by kernel_rfl⟩
theorem sojourn_t (p:Policy) (room now:Int) (hv:Models.sojourn_Valid (nq p room 1)=some true):TakeOk (Models.sojourn_Take (nq p room 1) now) now:=by
 unfold Models.sojourn_Take
 rw [hv]
 simp only [Option.bind_some,Bool.not_true,cond_false,s_time]
 refine fin rfl rfl rfl ⟨Queue.mk p room [[]] (A8.mk 0 0 0 0 0 0 0 now) 0,by kernel_rfl⟩
theorem deficit_t (p:Policy) (room now:Int) (hv:Models.deficit_Valid (nq p room 8)=some true):TakeOk (Models.deficit_Take (nq p room 8) now) now:=by
 unfold Models.deficit_Take
 rw [hv]
 simp only [Option.bind_some,Bool.not_true,cond_false,f_in]
 refine fin rfl rfl rfl ⟨Queue.mk p room [[],[],[],[],[],[],[],[]] (A8.mk 0 0 0 0 0 0 0 now) 0,by kernel_rfl⟩
theorem dual_t (p:Policy) (room now:Int) (hv:Models.dual_Valid (nq p room 2)=some true):TakeOk (Models.dual_Take (nq p room 2) now) now:=by
 unfold Models.dual_Take
 rw [hv]
 simp only [Option.bind_some,Bool.not_true,cond_false,d_time]
 refine fin rfl rfl rfl ⟨Queue.mk p room [[],[]] (A8.mk 0 0 0 0 0 0 0 now) 0,by kernel_rfl⟩
theorem th_ex (n:Int):∃ m,Models.integral_thousandth n=some m:=by
 unfold Models.integral_thousandth
 cases decide (n.tmod 1000 < 0)
 ·exact ⟨_,rfl⟩
 ·exact ⟨_,rfl⟩
theorem up_ex (a:Int) (q:Queue) (d o:Int):∃ m,Models.integral_state_update_1 a q d o=some m:=by
 unfold Models.integral_state_update_1
 obtain ⟨x,hx⟩:=th_ex (IntKind.i64.wrap (q.Policy.B * IntKind.i64.wrap (d - q.Policy.A)))
 obtain ⟨y,hy⟩:=th_ex (IntKind.i64.wrap (q.Policy.C * IntKind.i64.wrap (d - o)))
 rw [hx,hy]
 exact ⟨_,rfl⟩
theorem integral_t (p:Policy) (room now:Int) (hv:Models.integral_state_valid (nq p room 1)=some true):TakeOk (Models.integral_Take (nq p room 1) now) now:=by
 unfold Models.integral_Take
 rw [hv]
 simp only [Option.bind_some,Bool.not_true,cond_false,i_in]
 refine fin rfl rfl rfl ?_
 have hc:Models.slices_Clone []=some []:=by kernel_rfl
 have hl:(nq p room 1).Lists[0]?=some []:=rfl
 simp only [hl,hc,Option.bind_some]
 cases decide (IntKind.i64.wrap (now - (nq p room 1).Vars.e1) < 16000)
 ·have hd:Models.integral_state_delay (Queue.mk (nq p room 1).Policy (nq p room 1).Room [[]] (nq p room 1).Vars (nq p room 1).Seed) now=some 0:=rfl
  simp only [cond_false,hd,Option.bind_some]
  obtain ⟨m,hm⟩:=up_ex (nq p room 1).Vars.e0 (Queue.mk (nq p room 1).Policy (nq p room 1).Room [[]] (nq p room 1).Vars (nq p room 1).Seed) 0 (nq p room 1).Vars.e2
  rw [hm]
  exact ⟨_,rfl⟩
 ·exact ⟨_,rfl⟩
theorem tail_t (p:Policy) (room now:Int) (hv:Models.tail_line_valid (nq p room 1)=some true):TakeOk (Models.tail_Take (nq p room 1) now) now:=by
 unfold Models.tail_Take Models.tail_line_at
 rw [hv]
 simp only [Option.bind_some,Bool.not_true,cond_false,t_in]
 unfold TakeOk okT
 cases h:(decide (0≤now) && decide (now≤10000000))
 ·exact ⟨_,_,rfl,rfl⟩
 ·have h':decide (now < 0)=false:=by
   simp only [Bool.and_eq_true,decide_eq_true_eq] at h
   exact decide_eq_false (by omega)
  have h2:decide (now < (nq p room 1).Vars.e7)=false:=h'
  simp only [h2,Bool.not_true,cond_false,Option.bind_some]
  exact ⟨Queue.mk p room [[]] (A8.mk 0 0 0 0 0 0 0 now) 0,0,by kernel_rfl,rfl⟩
end Go.Proofs.YtgalanoklaibcaaDoor
end

section
set_option linter.unusedVariables false
set_option linter.unusedSimpArgs false
/- Plain law of this seat: QueueNew. -/
set_option maxRecDepth 100000
namespace Go.Proofs.YtgalanoklaibcaaDoor
open Go.PI Go.Pl
theorem new_err {policy:Policy} {room now:Int} (hN:Models.queue_New policy room=some (zQ,1)) (h1:decide (policy.Kind < 1)=false) (h6:decide (6 < policy.Kind)=false):
  Models.law24_QueueNew policy room now=some true:=by
 unfold Models.law24_QueueNew
 rw [hN]
 simp only [Models.law24_head,Option.bind_some,h1,h6]
 kernel_rfl
theorem new_kind {policy:Policy} {room now:Int} (hN:Models.queue_New policy room=some (zQ,9)) (h:(decide (policy.Kind < 1) || decide (6 < policy.Kind))=true):
  Models.law24_QueueNew policy room now=some true:=by
 unfold Models.law24_QueueNew
 rw [hN]
 simp only [Models.law24_head,Option.bind_some]
 cases h1:decide (policy.Kind < 1)
 ·cases h6:decide (6 < policy.Kind)
  ·rw [h1,h6] at h; exact absurd h (by decide)
  ·kernel_rfl
 ·kernel_rfl
theorem new_ok {policy:Policy} {room now:Int} {n:Nat} (hN:Models.queue_New policy room=some (nq policy room n,0)) (hV:Models.queue_Valid (nq policy room n)=some true)
  (hS:Models.queue_Size (nq policy room n)=some 0) (hT:TakeOk (Models.queue_Take (nq policy room n) now) now):Models.law24_QueueNew policy room now=some true:=by
 obtain ⟨q',e,hT,he⟩:=hT
 unfold Models.law24_QueueNew
 rw [hN]
 simp only [Models.law24_head,Option.bind_some,hV,hS,hT,r_time,he]
 simp [nq,zP]
theorem take_id {x:Option TR} {now:Int} (h:TakeOk x now):TakeOk (x.bind fun r=>some (r.1,r.2.1,r.2.2.1,r.2.2.2.1,r.2.2.2.2)) now:=by
 obtain ⟨q',e,rfl,he⟩:=h
 exact ⟨q',e,rfl,he⟩
theorem one {k A B C room now:Int} {n:Nat} {V:Queue→Option Bool} {K:Queue→Int→Option TR} (h1:decide (k < 1)=false) (h6:decide (6 < k)=false)
  (hN:Models.queue_New ⟨k,A,B,C⟩ room=(V (nq ⟨k,A,B,C⟩ room n)).bind fun b=>bif !b then some (zQ,1) else some (nq ⟨k,A,B,C⟩ room n,0))
  (hV:Models.queue_Valid (nq ⟨k,A,B,C⟩ room n)=(V (nq ⟨k,A,B,C⟩ room n)).bind fun b=>some b)
  (hS:Models.queue_Size (nq ⟨k,A,B,C⟩ room n)=some 0)
  (hK:Models.queue_Take (nq ⟨k,A,B,C⟩ room n) now=(K (nq ⟨k,A,B,C⟩ room n) now).bind fun r=>some (r.1,r.2.1,r.2.2.1,r.2.2.2.1,r.2.2.2.2))
  (hv:∃ b,V (nq ⟨k,A,B,C⟩ room n)=some b∧True) (ht:V (nq ⟨k,A,B,C⟩ room n)=some true→TakeOk (K (nq ⟨k,A,B,C⟩ room n) now) now):
  Models.law24_QueueNew ⟨k,A,B,C⟩ room now=some true:=by
 obtain ⟨b,hb,_⟩:=hv
 rw [hb] at hN hV ht
 cases b with
 | false=>exact new_err (hN.trans rfl) h1 h6
 | true=>exact new_ok (n:=n) (hN.trans rfl) (hV.trans rfl) hS (by rw [hK]; exact take_id (ht rfl))
theorem queueNew_plain (policy:Policy) (room now:Int):Models.law24_QueueNew policy room now=some true:=by
 obtain ⟨k,A,B,C⟩:=policy
 by_cases h1:k < 1
 ·exact new_kind (by unfold Models.queue_New; simp only [decide_eq_true h1,cond_true]) (by simp [h1])
 by_cases h6:6 < k
 ·exact new_kind (by unfold Models.queue_New; simp only [decide_eq_false h1,decide_eq_true h6,cond_true,cond_false]) (by simp [h6])
 have hk:k=1∨k=2∨k=3∨k=4∨k=5∨k=6:=by omega
 rcases hk with rfl | rfl | rfl | rfl | rfl | rfl
 ·exact one (n:=1) (V:=Models.tail_Valid) (K:=Models.tail_Take) rfl rfl (by kernel_rfl) (by kernel_rfl) (by kernel_rfl) (by kernel_rfl) (tail_v _ _) (fun h=>tail_t _ _ _ (by
   unfold Models.tail_Valid at h; rw [b_id] at h; exact h))
 ·exact one (n:=1) (V:=Models.early_Valid) (K:=Models.early_Take) rfl rfl (by kernel_rfl) (by kernel_rfl) (by kernel_rfl) (by kernel_rfl) (early_v _ _) (early_t _ _ _)
 ·exact one (n:=1) (V:=Models.sojourn_Valid) (K:=Models.sojourn_Take) rfl rfl (by kernel_rfl) (by kernel_rfl) (by kernel_rfl) (by kernel_rfl) (sojourn_v _ _) (sojourn_t _ _ _)
 ·exact one (n:=1) (V:=Models.integral_Valid) (K:=Models.integral_Take) rfl rfl (by kernel_rfl) (by kernel_rfl) (by kernel_rfl) (by kernel_rfl) (integral_v _ _) (fun h=>integral_t _ _ _ (by
   unfold Models.integral_Valid at h; rw [b_id] at h; exact h))
 ·exact one (n:=8) (V:=Models.deficit_Valid) (K:=Models.deficit_Take) rfl rfl (by kernel_rfl) (by kernel_rfl) (by kernel_rfl) (by kernel_rfl) (deficit_v _ _) (deficit_t _ _ _)
 ·exact one (n:=2) (V:=Models.dual_Valid) (K:=Models.dual_Take) rfl rfl (by kernel_rfl) (by kernel_rfl) (by kernel_rfl) (by kernel_rfl) (dual_v _ _) (dual_t _ _ _)
end Go.Proofs.YtgalanoklaibcaaDoor
end

section
set_option linter.unusedVariables false
set_option linter.unusedSimpArgs false
set_option maxRecDepth 100000
namespace Go.Proofs.YtgalanoklaibcaaDoor
open Go.PI Go.ChangeShapes Go.WideShapes Go.ChangeAt Go.RowKit
theorem mixing {W : World} (h : laidMetH Tryd.prog [("queuelab/random.mixing", Rows.laid_queuelab_random_mixing)] W) :
  W.var? Tryd.prog "queuelab/random.mixing" = some #[.int .u64 30, .int .u64 13787848793156543929, .int .u64 27, .int .u64 10723151780598845931, .int .u64 31, .int .u64 1] := by
 rw [MakeChecks.laidMetH_plain _ _ _ (by kernel_rfl)] at h
 obtain ⟨ps,⟨g,t,cs,fuel,p,q,hg,ht,hv,hd,_,_⟩,_,_⟩:=h
 obtain rfl := Option.some.inj ((show Tryd.prog.globalNamed "queuelab/random.mixing" = some 0 by kernel_rfl).symm.trans hg)
 obtain rfl:=Option.some.inj ((show (Tryd.prog.globals[0]?).map (·.type)=some 125 by kernel_rfl).symm.trans ht)
 have c124:Tryd.prog.cellsOf 124=2:=by kernel_rfl
 have c125:Tryd.prog.cellsOf 125=6:=by kernel_rfl
 have c118:Tryd.prog.cellsOf 118=1:=by kernel_rfl
 have c27:Tryd.prog.cellsOf 27=1:=by kernel_rfl
 obtain ⟨xs,m,_,ex,hlen,hl,hel⟩:=DataW.trod_array Tryd.underlying125 hd
 rw [c125] at hlen
 obtain ⟨l⟩:=cs
 match l,hlen with
 | [a0,a1,a2,a3,a4,a5],_=>
   match xs,hl with
   | [x0,x1,x2],_=>
     have e3:=(DataW.agg.inj (Prod.mk.inj ex).1)
     simp only [List.map_cons,List.map_nil,List.cons.injEq,and_true] at e3
     have k0:=hel 0 (by omega); have k1:=hel 1 (by omega); have k2:=hel 2 (by omega)
     rw [c124] at k0 k1 k2
     obtain ⟨y0,z0,_,ex0,_,p0,q0⟩:=trod_struct2 Tryd.underlying124 k0
     obtain ⟨y1,z1,_,ex1,_,p1,q1⟩:=trod_struct2 Tryd.underlying124 k1
     obtain ⟨y2,z2,_,ex2,_,p2,q2⟩:=trod_struct2 Tryd.underlying124 k2
     simp only [c118,c27] at p0 q0 p1 q1 p2 q2
     obtain ⟨m0,b0,d0,_⟩:=DataW.trod_int Tryd.underlying118 p0
     obtain ⟨n0,g0,h0,_⟩:=DataW.trod_int Tryd.underlying27 q0
     obtain ⟨m1,b1,d1,_⟩:=DataW.trod_int Tryd.underlying118 p1
     obtain ⟨n1,g1,h1,_⟩:=DataW.trod_int Tryd.underlying27 q1
     obtain ⟨m2,b2,d2,_⟩:=DataW.trod_int Tryd.underlying118 p2
     obtain ⟨n2,g2,h2,_⟩:=DataW.trod_int Tryd.underlying27 q2
     rw [hv]
     simp at b0 g0 b1 g1 b2 g2
     subst d0 h0 d1 h1 d2 h2 ex0 ex1 ex2 b0 g0 b1 g1 b2 g2
     simp at e3
     obtain ⟨⟨f0,f1⟩,⟨f2,f3⟩,f4,f5⟩:=e3
     subst f0 f1 f2 f3 f4 f5
     rfl
theorem globOk {W : World} (h : laidMetH Tryd.prog [("queuelab/random.mixing", Rows.laid_queuelab_random_mixing)] W) : GlobOk (Env.all W) := by
 have hv:=mixing h
 intro b c hb
 have hb':b=0∧c=#[.int .u64 30,.int .u64 13787848793156543929,.int .u64 27,.int .u64 10723151780598845931,.int .u64 31,.int .u64 1]:=by
  cases b with
  | zero=>exact ⟨rfl,(Option.some.inj hb).symm⟩
  | succ n=>cases hb
 obtain ⟨rfl,rfl⟩:=hb'
 unfold World.var? at hv
 rw [show Tryd.prog.globalNamed "queuelab/random.mixing" = some 0 by kernel_rfl] at hv
 simp only [Option.bind_some] at hv
 constructor
 ·show (match W.heap[0]? with | some (.cells c _ _)=>some c | _=>none)=_
  split at hv
  ·rename_i cs T fz hw
   rw [hw]
   exact hv
  ·cases hv
 ·intro x hx
  simp only [List.mem_cons,List.not_mem_nil,or_false] at hx
  rcases hx with rfl | rfl | rfl | rfl | rfl | rfl <;> rfl
end Go.Proofs.YtgalanoklaibcaaDoor
end

section
set_option linter.unusedVariables false
set_option linter.unusedSimpArgs false
/- The law QueueNew: its row. -/
namespace Go.Proofs.YtgalanoklaibcaaDoor.queueNew
open Go.PI Go.ChangeShapes Go.WideShapes Go.ChangeAt Go.RowKit
theorem own:ownKnob Tryd.prog.godebug=none:=by kernel_rfl
theorem laidOut:laidOutB Tryd.prog=true:=by kernel_rfl
theorem okWide_struct {P:Program} {w:World} {r:Reach} {base:Nat} {t:TypeId} {v:Value} {fs:Array Field} (ht:P.underlying t=some (.struct fs)) (h:Value.okWide P w r base t v):∃ cs,v=.agg cs:=by
 unfold Value.okWide at h
 rw [ht] at h
 obtain ⟨cs,h,_⟩:=h
 exact ⟨cs,h⟩
theorem rep_agg {E:Env} {l:List AV} {cs:Array Value} (h:RepL E false l (Value.agg cs).cells.toList):Rep E false (.agg l) (.agg cs):=by
 simp only [Rep]
 exact ⟨cs.toList,by simp,by simpa [Value.cells] using h⟩
theorem rep_slice {E:Env} {l:List AV} {a:Option Addr} {len cap:Nat} (h:RepL E false l (Value.slice a len cap).cells.toList) {x:AV} (hl:l=[x]):Rep E false x (.slice a len cap):=by
 subst hl
 have h2:Rep E false x (Value.slice a len cap)∧leafV (Value.slice a len cap)=true:=by simpa [Value.cells,RepL] using h
 exact h2.1
theorem walk (W:World) (cs0:Array Value) (a1:Int) (a2:Int) {l0:List AV} (e0:RepL (Env.all W) false l0 (Value.agg cs0:Value).cells.toList) {n0:Nat} (s0:Shape Tryd.prog n0 23 l0) (hw1:(Lit.int .i64 a1).wf=true) (hw2:(Lit.int .i64 a2).wf=true) (hG:GlobOk (Env.all W)):Calls Tryd.prog 3 #[.agg cs0,.int .i64 a1,.int .i64 a2] W fun e w'=>e=.returned (.bool true)∧Below W.heap.size W w':=by
 obtain ⟨x0,w0,r0⟩:=sh22 (shape_same (show Tryd.prog.underlying 23=Tryd.prog.underlying 22 by kernel_rfl) s0)
 have hs:SumOk C T 3 ⟨[23,3,3],[4],fun x=>Go.Models.law24_QueueNew x.1 x.2.1 x.2.2⟩:=mkS_sum s62 rfl
 refine law_true Cok hs rfl (x:=(x0,a1,a2)) (y:=true) (queueNew_plain x0 a1 a2) ?_ («as»:=[.agg l0,.lit (.int .i64 a1),.lit (.int .i64 a2)]) ⟨r0,rfl,rfl,trivial⟩ hG (vs:=[.agg cs0,.int .i64 a1,.int .i64 a2]) ?_
 ·intro l hl
  match l,hl with
  | [a],hl=>have:a=.lit (.bool true):=hl.1; rw [this]
  | [],hl=>exact False.elim hl
  | _ :: _ :: _,hl=>exact False.elim hl.2
 ·simp only [RepT]
  exact ⟨rep_agg e0,by simp [Rep],by simp [Rep],trivial⟩
set_option maxRecDepth 100000 in
theorem lifted (os:Os) (started:os.Started) (H:Type) (enc:TypeId×Value→H):
  ReturnsInHanded {} Tryd.checked os 3 .any (fun w args=>(Rows.queueNewSpec.pre enc Tryd.prog Tryd.f3 [] false w args∧laidMetH Tryd.prog Rows.queueNewRow.laid w)∧sizedMet enc Tryd.prog Tryd.f3 (OpenSpec.ofChange Rows.queueNewSpec) false w args) (Rows.queueNewSpec.post enc Tryd.prog Tryd.f3 false true false false):=by
 refine returnsInHanded_of_change_and (C:=Tryd.checked) (X:=fun w _=>laidMetH Tryd.prog Rows.queueNewRow.laid w) (fun _ _ _ hh h=>h.of_heap hh) own started (by kernel_rfl) Tryd.func3
  (ChangeSpec.witness_at (enc:=enc) (C:=Tryd.checked) (os:=os) (X:=fun w _=>laidMetH Tryd.prog Rows.queueNewRow.laid w) false (World.laidAll Tryd.prog os Rows.queueNewRow.laid) #[.agg #[.int .i64 0,.int .i64 0,.int .i64 0,.int .i64 0],.int .i64 0,.int .i64 0] 8 (World.laidAll_os _ _ _) (by kernel_rfl) (by kernel_rfl) (by kernel_rfl) (by kernel_rfl) (by kernel_rfl)
    (by rw [MakeChecks.laidMetH_plain _ _ _ (by kernel_rfl)]; exact laidMet_laidAll _ (by kernel_rfl) (by kernel_rfl))) ?_
 intro W base args ds gs before hval0 hW _ _ hL _
 have hG:GlobOk (Env.all W):=globOk hL
 have hval:∀ (j:Nat) t v,Tryd.f3.params[j]?=some t→args[j]?=some v→Value.okWide Tryd.prog W .any base t v:=hval0
 have hW':=hW
 obtain ⟨p,q,hA0,hV,rfl,hfz,hnd⟩:=hW
 have hA:DataW.TrodAll enc Tryd.prog W 0 (fun _=>true) true Tryd.f3.params.toList args.toList ds p:=hA0
 rw [Tryd.params3] at hA hval
 obtain ⟨v0,vs0,d0,ds0,p0,q0,hargs,rfl,rfl,h0,r0⟩:=trodAll_cons hA
 obtain ⟨v1,vs1,d1,ds1,p1,q1,rfl,rfl,rfl,h1,r1⟩:=trodAll_cons r0
 obtain ⟨v2,vs2,d2,ds2,p2,q2,rfl,rfl,rfl,h2,r2⟩:=trodAll_cons r1
 obtain ⟨rfl,rfl,rfl⟩:=trodAll_nil r2
 obtain rfl:args=#[v0,v1,v2]:=by cases args; simp_all
 obtain ⟨rfl,rfl⟩:=trodVars_none hV
 obtain ⟨cs0,rfl⟩:=okWide_struct Tryd.underlying23 (hval 0 23 v0 rfl rfl)
 obtain ⟨a1,rfl,rfl,rfl,w1⟩:=open_int Tryd.underlying3 (hval 1 3 v1 rfl rfl) h1
 obtain ⟨a2,rfl,rfl,rfl,w2⟩:=open_int Tryd.underlying3 (hval 2 3 v2 rfl rfl) h2
 have k0:=h0
 have lt0:∀ x∈p0,x.block < W.heap.size:=by obtain ⟨m,hm⟩:=k0; exact DataW.trod_lt m _ _ _ hm
 obtain ⟨f0,hf0⟩:=h0
 obtain ⟨l0,e0,s0⟩:=read_ok f0 10 23 _ _ (by kernel_rfl) hf0
 clear hA0 hval0
 refine (walk W cs0 a1 a2 e0 s0 w1 w2 hG).mono fun e W' ⟨he,bel⟩=>?_
 subst he
 exact ⟨_,rfl,_,_,_,[],_,[],hW',trodAll_mk1 (shut_bool Tryd.underlying4 _),(trodAll_cons_mk (Below.trod laidOut (by kernel_rfl) (of_decide_eq_true (by kernel_rfl)) k0 bel lt0) (trodAll_cons_mk (shut_int Tryd.underlying3 w1) (trodAll_cons_mk (shut_int Tryd.underlying3 w2) trodAll_mk0))),rfl,bel.frame _,fun h=>by cases h⟩
theorem over:Rows.queueNewRow.holds Tryd.pinned (OpenSpec.ofChange Rows.queueNewSpec):=
 OpenClaim.holds_of_wide 3 Tryd.f3 rfl rfl rfl rfl rfl rfl rfl ⟨rfl,rfl,rfl,rfl,rfl⟩ rfl rfl rfl rfl rfl (by kernel_rfl) Tryd.func3 (by kernel_rfl)
  (of_decide_eq_true (by kernel_rfl)) (by unfold Func.isWrapper; first | (rw [if_pos (by decide +kernel)]; kernel_rfl) | (rw [if_neg (by decide +kernel)]; exact ⟨rfl,rfl⟩))
  (fun os started H enc _=>lifted os started H enc)
theorem proved:Rows.QueueNewSaid:=over
theorem card:Rows.QueueNewCardSaid:=
 Claim7.holds_tied_plain_at .later [] [.data] true (true, "7cdd1e2db14411f2ec576439b2dc349a90d3c6ee7dee1fda160cc2fe693c94cf") false proved (fun _ h => by cases h) (by kernel_rfl) (fun _ h => by cases h) queueNew_row_tie rfl ⟨rfl, rfl⟩ (by kernel_rfl) rfl
  (fun f fn hf hfn=>by
    obtain rfl : f = 3 := Option.some.inj ((show Tryd.prog.funcNamed "queuelab/queuelablaw24.QueueNew" = some 3 by kernel_rfl).symm.trans hf) |>.symm
    obtain rfl:fn=Tryd.f3:=(Option.some.inj (Tryd.func3.symm.trans hfn)).symm
    exact ⟨by kernel_rfl,fun j t ht=>by
     rw [Tryd.params3] at ht
     have hm:t∈[23,3,3]:=by simpa using Array.mem_of_getElem? ht
     have hall:([23,3,3].all fun u=>!Tryd.prog.wantsStandIn u)=true:=by kernel_rfl
     exact (show Tryd.prog.wantsStandIn t=false by simpa using List.all_eq_true.1 hall t hm)⟩)
  (by kernel_rfl)
end Go.Proofs.YtgalanoklaibcaaDoor.queueNew
namespace Go.Proofs.YtgalanoklaibcaaDoor
theorem queueNew_card_holds:Rows.QueueNewCardSaid:=queueNew.card
end Go.Proofs.YtgalanoklaibcaaDoor
end
