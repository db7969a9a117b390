/- The law TopCalmPolicies returns true for every input, and each argument reads as it read before; the package variable that it reads is laid by the program's text (a tied card); no conditions. This file: the row and the card, last of the parts. -/
import Derived.Test.YtomccdllhpolbaaDoorRows
import Derived.Test.YtomccdllhpolbaaDoorCards
import Derived.Test.YtomccdllhpolbaaDoorTie
import Derived.WalkKit
import Derived.ProofKit
import Derived.OpenShut
import Derived.ShutString
import Derived.ChangeOld
import Derived.Below
import Derived.SizedLaws
import Derived.LaidMore
import Derived.MakeChecks
import Derived.Lay
import Derived.LaidOnce
import Derived.SevenTiedAt
import Derived.Test.YtomccdllhpolbaaDoorX11
set_option linter.unusedVariables false
set_option linter.unusedSimpArgs false
section
/- The law TopCalmPolicies: its row. -/
namespace Go.Proofs.YtomccdllhpolbaaDoor.topCalmPolicies
open Go.PI Go.ChangeShapes Go.WideShapes Go.ChangeAt Go.RowKit
theorem own:ownKnob Tryd.prog.godebug=none:=by kernel_rfl
theorem laidOut:laidOutB Tryd.prog=true:=by kernel_rfl
theorem okWide_struct{P:Program}{w:World}{r:Reach}{base:Nat}{t:TypeId}{v:Value}{fs:Array Field}(ht:P.underlying t=some (.struct fs))(h:Value.okWide P w r base t v):∃ cs,v=.agg cs:=by
 unfold Value.okWide at h
 rw[ht]at h
 obtain⟨cs,h,_⟩:=h
 exact⟨cs,h⟩
theorem rep_agg{E:Env}{l:List AV}{cs:Array Value}(h:RepL E false l (Value.agg cs).cells.toList):Rep E false (.agg l) (.agg cs):=by
 simp only[Rep]
 exact⟨cs.toList,by simp,by simpa[Value.cells] using h⟩
theorem rep_slice{E:Env}{l:List AV}{a:Option Addr}{len cap:Nat}(h:RepL E false l (Value.slice a len cap).cells.toList){x:AV}(hl:l=[x]):Rep E false x (.slice a len cap):=by
 subst hl
 have h2:Rep E false x (Value.slice a len cap)∧leafV (Value.slice a len cap)=true:=by simpa[Value.cells,RepL] using h
 exact h2.1
theorem walk(W:World)(a0:Int)(ad1:Option Addr)(len1 cap1:Nat)(a2:Int){l1:List AV}(e1:RepL (Env.all W) false l1 (Value.slice ad1 len1 cap1:Value).cells.toList){n1:Nat}(s1:Shape Tryd.prog n1 23 l1)(hw0:(Lit.int .u16 a0).wf=true)(hw2:(Lit.int .u8 a2).wf=true)(hG:GlobOk (Env.all W)):Calls Tryd.prog 3 #[.int .u16 a0,.slice ad1 len1 cap1,.int .u8 a2] W fun e w'=>e=.returned (.bool true)∧Below W.heap.size W w':=by
 obtain⟨x1,w1,b1,hl1,r1⟩:=sh23 s1
 have hs:SumOk C T 3 ⟨[22,23,5],[4],fun x=>Go.Models.top_TopCalmPolicies x.1 x.2.1 x.2.2⟩:=mkS_sum s64 rfl
 refine law_true Cok hs rfl (x:=(a0,x1,a2)) (y:=true) (topCalm_plain a0 x1 a2 (Go.bounds_u16 hw0) (fun s hm=>u16_bnd (w1.2 s hm).1)) ?_ («as»:=[.lit (.int .u16 a0),b1,.lit (.int .u8 a2)]) ⟨rfl,r1,rfl,trivial⟩ hG (vs:=[.int .u16 a0,.slice ad1 len1 cap1,.int .u8 a2]) ?_
 ·intro l hl
  match l,hl with
  |[a],hl=>have:a=.lit (.bool true):=hl.1; rw[this]
  |[],hl=>exact False.elim hl
  |_::_::_,hl=>exact False.elim hl.2
 ·simp only[RepT]
  exact⟨by simp[Rep],rep_slice e1 hl1,by simp[Rep],trivial⟩
set_option maxRecDepth 100000 in
theorem lifted(os:Os)(started:os.Started)(H:Type)(enc:TypeId×Value→H):
  ReturnsInHanded {} Tryd.checked os 3 .any (fun w args=>(Rows.topCalmPoliciesSpec.pre enc Tryd.prog Tryd.f3 [] false w args∧laidMetH Tryd.prog Rows.topCalmPoliciesRow.laid w)∧sizedMet enc Tryd.prog Tryd.f3 (OpenSpec.ofChange Rows.topCalmPoliciesSpec) false w args) (Rows.topCalmPoliciesSpec.post enc Tryd.prog Tryd.f3 false true false false):=by
 refine returnsInHanded_of_change_and (C:=Tryd.checked) (X:=fun w _=>laidMetH Tryd.prog Rows.topCalmPoliciesRow.laid w) (fun _ _ _ hh h=>h.of_heap hh) own started (by kernel_rfl) Tryd.func3
  (ChangeSpec.witness_at (enc:=enc) (C:=Tryd.checked) (os:=os) (X:=fun w _=>laidMetH Tryd.prog Rows.topCalmPoliciesRow.laid w) false (World.laidAll Tryd.prog os Rows.topCalmPoliciesRow.laid) #[.int .u16 0,.slice none 0 0,.int .u8 0] 8 (World.laidAll_os _ _ _) (by kernel_rfl) (by kernel_rfl) (by kernel_rfl) (by kernel_rfl) (by kernel_rfl)
    (by rw[MakeChecks.laidMetH_plain _ _ _ (by kernel_rfl)]; exact laidMet_laidAll _ (by kernel_rfl) (by kernel_rfl))) ?_
 intro W base args ds gs before hval0 hW _ _ hL _
 have hG:GlobOk (Env.all W):=globOk hL
 have hval:∀ (j:Nat) t v,Tryd.f3.params[j]?=some t→args[j]?=some v→Value.okWide Tryd.prog W .any base t v:=hval0
 have hW':=hW
 obtain⟨p,q,hA0,hV,rfl,hfz,hnd⟩:=hW
 have hA:DataW.TrodAll enc Tryd.prog W 0 (fun _=>true) true Tryd.f3.params.toList args.toList ds p:=hA0
 rw[Tryd.params3]at hA hval
 obtain⟨v0,vs0,d0,ds0,p0,q0,hargs,rfl,rfl,h0,r0⟩:=trodAll_cons hA
 obtain⟨v1,vs1,d1,ds1,p1,q1,rfl,rfl,rfl,h1,r1⟩:=trodAll_cons r0
 obtain⟨v2,vs2,d2,ds2,p2,q2,rfl,rfl,rfl,h2,r2⟩:=trodAll_cons r1
 obtain⟨rfl,rfl,rfl⟩:=trodAll_nil r2
 obtain rfl:args=#[v0,v1,v2]:=by cases args; simp_all
 obtain⟨rfl,rfl⟩:=trodVars_none hV
 obtain⟨a0,rfl,rfl,rfl,w0⟩:=open_int Tryd.underlying22 (hval 0 22 v0 rfl rfl) h0
 obtain⟨ad1,len1,cap1,rfl⟩:=Go.WideShapes.okWide_slice Tryd.underlying23 (hval 1 23 v1 rfl rfl)
 obtain⟨a2,rfl,rfl,rfl,w2⟩:=open_int Tryd.underlying5 (hval 2 5 v2 rfl rfl) h2
 have k1:=h1
 have lt1:∀ x∈p1,x.block<W.heap.size:=by obtain⟨m,hm⟩:=k1; exact DataW.trod_lt m _ _ _ hm
 obtain⟨f1,hf1⟩:=h1
 obtain⟨l1,e1,s1⟩:=read_ok f1 10 23 _ _ (by kernel_rfl) hf1
 clear hA0 hval0
 refine(walk W a0 ad1 len1 cap1 a2 e1 s1 w0 w2 hG).mono fun e W' ⟨he,bel⟩=>?_
 subst he
 exact⟨_,rfl,_,_,_,[],_,[],hW',trodAll_mk1 (shut_bool Tryd.underlying4 _),(trodAll_cons_mk (shut_int Tryd.underlying22 w0) (trodAll_cons_mk (Below.trod laidOut (by kernel_rfl) (of_decide_eq_true (by kernel_rfl)) k1 bel lt1) (trodAll_cons_mk (shut_int Tryd.underlying5 w2) trodAll_mk0))),rfl,bel.frame _,fun h=>by cases h⟩
theorem over:Rows.topCalmPoliciesRow.holds Tryd.pinned (OpenSpec.ofChange Rows.topCalmPoliciesSpec):=
 OpenClaim.holds_of_wide 3 Tryd.f3 rfl rfl rfl rfl rfl rfl rfl ⟨rfl,rfl,rfl,rfl,rfl⟩ rfl rfl rfl rfl rfl (by kernel_rfl) Tryd.func3 (by kernel_rfl)
  (of_decide_eq_true (by kernel_rfl)) (by unfold Func.isWrapper; first|(rw[if_pos (by decide +kernel)]; kernel_rfl)|(rw[if_neg (by decide +kernel)]; exact⟨rfl,rfl⟩))
  (fun os started H enc _=>lifted os started H enc)
theorem proved:Rows.TopCalmPoliciesSaid:=over
theorem card:Rows.TopCalmPoliciesCardSaid:=
 Claim7.holds_tied_plain_at .later [] [.data] true (true, "e66683baf594dbb86850b4dda6c9d4fa32e9977b4184a69d3fe7d31b9e398d7a") false proved (fun _ h => by cases h) (by kernel_rfl) (fun _ h => by cases h) topCalmPolicies_row_tie rfl ⟨rfl, rfl⟩ (by kernel_rfl) rfl
  (fun f fn hf hfn=>by
    obtain rfl : f = 3 := Option.some.inj ((show Tryd.prog.funcNamed "queuelab/queuelabtop.TopCalmPolicies" = some 3 by kernel_rfl).symm.trans hf) |>.symm
    obtain rfl:fn=Tryd.f3:=(Option.some.inj (Tryd.func3.symm.trans hfn)).symm
    exact⟨by kernel_rfl,fun j t ht=>by
     rw[Tryd.params3]at ht
     have hm:t∈[22,23,5]:=by simpa using Array.mem_of_getElem? ht
     have hall:([22,23,5].all fun u=>!Tryd.prog.wantsStandIn u)=true:=by kernel_rfl
     exact(show Tryd.prog.wantsStandIn t=false by simpa using List.all_eq_true.1 hall t hm)⟩)
  (by kernel_rfl)
end Go.Proofs.YtomccdllhpolbaaDoor.topCalmPolicies
namespace Go.Proofs.YtomccdllhpolbaaDoor
theorem topCalmPolicies_card_holds:Rows.TopCalmPoliciesCardSaid:=topCalmPolicies.card
end Go.Proofs.YtomccdllhpolbaaDoor
end
