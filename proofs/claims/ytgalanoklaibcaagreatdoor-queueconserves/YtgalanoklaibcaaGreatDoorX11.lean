/- The law QueueConserves returns true for every input, and each argument reads as it read before; the package variable that it reads is laid by the program's text (a tied card); no conditions. This file: the row and the card, last of the parts. -/
import Derived.Test.YtgalanoklaibcaaGreatDoorRows
import Derived.Test.YtgalanoklaibcaaGreatDoorCards
import Derived.Test.YtgalanoklaibcaaGreatDoorTie
import Derived.WalkKit
import Derived.ProofKit
import Derived.OpenShut
import Derived.ShutString
import Derived.ChangeOld
import Derived.Below
import Derived.SizedLaws
import Derived.LaidMore
import Derived.MakeChecks
import Derived.Lay
import Derived.LaidOnce
import Derived.SevenTiedAt
import Derived.Test.YtgalanoklaibcaaGreatDoorX10
set_option linter.unusedVariables false
set_option linter.unusedSimpArgs false
section
/- The law QueueConserves: its row. -/
namespace Go.Proofs.YtgalanoklaibcaaGreatDoor.queueConserves
open Go.PI Go.ChangeShapes Go.WideShapes Go.ChangeAt Go.RowKit
theorem own:ownKnob Tryz.prog.godebug=none:=by kernel_rfl
theorem laidOut:laidOutB Tryz.prog=true:=by kernel_rfl
theorem okWide_struct{P:Program}{w:World}{r:Reach}{base:Nat}{t:TypeId}{v:Value}{fs:Array Field}(ht:P.underlying t=some (.struct fs))(h:Value.okWide P w r base t v):∃ cs,v=.agg cs:=by
 unfold Value.okWide at h
 rw[ht]at h
 obtain⟨cs,h,_⟩:=h
 exact⟨cs,h⟩
theorem rep_agg{E:Env}{l:List AV}{cs:Array Value}(h:RepL E false l (Value.agg cs).cells.toList):Rep E false (.agg l) (.agg cs):=by
 simp only[Rep]
 exact⟨cs.toList,by simp,by simpa[Value.cells] using h⟩
theorem rep_slice{E:Env}{l:List AV}{a:Option Addr}{len cap:Nat}(h:RepL E false l (Value.slice a len cap).cells.toList){x:AV}(hl:l=[x]):Rep E false x (.slice a len cap):=by
 subst hl
 have h2:Rep E false x (Value.slice a len cap)∧leafV (Value.slice a len cap)=true:=by simpa[Value.cells,RepL] using h
 exact h2.1
theorem walk(W:World)(cs0:Array Value)(ad1:Option Addr)(len1 cap1:Nat){l0:List AV}{l1:List AV}(e0:RepL (Env.all W) false l0 (Value.agg cs0:Value).cells.toList)(e1:RepL (Env.all W) false l1 (Value.slice ad1 len1 cap1:Value).cells.toList){n0:Nat}(s0:Shape Tryz.prog n0 28 l0){n1:Nat}(s1:Shape Tryz.prog n1 45 l1)(hG:GlobOk (Env.all W)):Calls Tryz.prog 4 #[.agg cs0,.slice ad1 len1 cap1] W fun e w'=>e=.returned (.bool true)∧Below W.heap.size W w':=by
 obtain⟨x0,w0,r0⟩:=sh27 (shape_same (show Tryz.prog.underlying 28=Tryz.prog.underlying 27 by kernel_rfl) s0)
 obtain⟨x1,w1,b1,hl1,r1⟩:=sh45 s1
 have hs:SumOk C T 4 ⟨[28,45],[4],fun x=>Go.Models.law24_QueueConserves x.1 x.2⟩:=mkS_sum s81 rfl
 refine law_true Cok hs rfl (x:=(x0,x1)) (y:=true) (queueConserves_plain x0 x1 (bq_wf w0) (fun s hm=>u16_bnd (w1.2 s hm).1)) ?_ («as»:=[.agg l0,b1]) ⟨r0,r1,trivial⟩ hG (vs:=[.agg cs0,.slice ad1 len1 cap1]) ?_
 ·intro l hl
  match l,hl with
  |[a],hl=>have:a=.lit (.bool true):=hl.1; rw[this]
  |[],hl=>exact False.elim hl
  |_::_::_,hl=>exact False.elim hl.2
 ·simp only[RepT]
  exact⟨rep_agg e0,rep_slice e1 hl1,trivial⟩
set_option maxRecDepth 100000 in
theorem lifted(os:Os)(started:os.Started)(H:Type)(enc:TypeId×Value→H):
  ReturnsInHanded {} Tryz.checked os 4 .any (fun w args=>(Rows.queueConservesSpec.pre enc Tryz.prog Tryz.f4 [] false w args∧laidMetH Tryz.prog Rows.queueConservesRow.laid w)∧sizedMet enc Tryz.prog Tryz.f4 (OpenSpec.ofChange Rows.queueConservesSpec) false w args) (Rows.queueConservesSpec.post enc Tryz.prog Tryz.f4 false true false false):=by
 refine returnsInHanded_of_change_and (C:=Tryz.checked) (X:=fun w _=>laidMetH Tryz.prog Rows.queueConservesRow.laid w) (fun _ _ _ hh h=>h.of_heap hh) own started (by kernel_rfl) Tryz.func4
  (ChangeSpec.witness_at (enc:=enc) (C:=Tryz.checked) (os:=os) (X:=fun w _=>laidMetH Tryz.prog Rows.queueConservesRow.laid w) false (World.laidAll Tryz.prog os Rows.queueConservesRow.laid) #[.agg #[.int .i64 0,.int .i64 0,.int .i64 0,.int .i64 0,.int .i64 0,.slice none 0 0,.int .i64 0,.int .i64 0,.int .i64 0,.int .i64 0,.int .i64 0,.int .i64 0,.int .i64 0,.int .i64 0,.int .u64 0],.slice none 0 0] 8 (World.laidAll_os _ _ _) (by kernel_rfl) (by kernel_rfl) (by kernel_rfl) (by kernel_rfl) (by kernel_rfl)
    (by rw[MakeChecks.laidMetH_plain _ _ _ (by kernel_rfl)]; exact laidMet_laidAll _ (by kernel_rfl) (by kernel_rfl))) ?_
 intro W base args ds gs before hval0 hW _ _ hL _
 have hG:GlobOk (Env.all W):=globOk hL
 have hval:∀ (j:Nat) t v,Tryz.f4.params[j]?=some t→args[j]?=some v→Value.okWide Tryz.prog W .any base t v:=hval0
 have hW':=hW
 obtain⟨p,q,hA0,hV,rfl,hfz,hnd⟩:=hW
 have hA:DataW.TrodAll enc Tryz.prog W 0 (fun _=>true) true Tryz.f4.params.toList args.toList ds p:=hA0
 rw[Tryz.params4]at hA hval
 obtain⟨v0,vs0,d0,ds0,p0,q0,hargs,rfl,rfl,h0,r0⟩:=trodAll_cons hA
 obtain⟨v1,vs1,d1,ds1,p1,q1,rfl,rfl,rfl,h1,r1⟩:=trodAll_cons r0
 obtain⟨rfl,rfl,rfl⟩:=trodAll_nil r1
 obtain rfl:args=#[v0,v1]:=by cases args; simp_all
 obtain⟨rfl,rfl⟩:=trodVars_none hV
 obtain⟨cs0,rfl⟩:=okWide_struct Tryz.underlying28 (hval 0 28 v0 rfl rfl)
 obtain⟨ad1,len1,cap1,rfl⟩:=Go.WideShapes.okWide_slice Tryz.underlying45 (hval 1 45 v1 rfl rfl)
 have k0:=h0
 have lt0:∀ x∈p0,x.block<W.heap.size:=by obtain⟨m,hm⟩:=k0; exact DataW.trod_lt m _ _ _ hm
 have k1:=h1
 have lt1:∀ x∈p1,x.block<W.heap.size:=by obtain⟨m,hm⟩:=k1; exact DataW.trod_lt m _ _ _ hm
 obtain⟨f0,hf0⟩:=h0
 obtain⟨l0,e0,s0⟩:=read_ok f0 10 28 _ _ (by kernel_rfl) hf0
 obtain⟨f1,hf1⟩:=h1
 obtain⟨l1,e1,s1⟩:=read_ok f1 10 45 _ _ (by kernel_rfl) hf1
 clear hA0 hval0
 refine(walk W cs0 ad1 len1 cap1 e0 e1 s0 s1  hG).mono fun e W' ⟨he,bel⟩=>?_
 subst he
 exact⟨_,rfl,_,_,_,[],_,[],hW',trodAll_mk1 (shut_bool Tryz.underlying4 _),(trodAll_cons_mk (Below.trod laidOut (by kernel_rfl) (of_decide_eq_true (by kernel_rfl)) k0 bel lt0) (trodAll_cons_mk (Below.trod laidOut (by kernel_rfl) (of_decide_eq_true (by kernel_rfl)) k1 bel lt1) trodAll_mk0)),rfl,bel.frame _,fun h=>by cases h⟩
theorem over:Rows.queueConservesRow.holds Tryz.pinned (OpenSpec.ofChange Rows.queueConservesSpec):=
 OpenClaim.holds_of_wide 4 Tryz.f4 rfl rfl rfl rfl rfl rfl rfl ⟨rfl,rfl,rfl,rfl,rfl⟩ rfl rfl rfl rfl rfl (by kernel_rfl) Tryz.func4 (by kernel_rfl)
  (of_decide_eq_true (by kernel_rfl)) (by unfold Func.isWrapper; first|(rw[if_pos (by decide +kernel)]; kernel_rfl)|(rw[if_neg (by decide +kernel)]; exact⟨rfl,rfl⟩))
  (fun os started H enc _=>lifted os started H enc)
theorem proved:Rows.QueueConservesSaid:=over
theorem card:Rows.QueueConservesCardSaid:=
 Claim7.holds_tied_plain_at .later [] [.data] true (true, "d7562053417589c63e5bd03a1c1fc642d0dc7854d5fabbc00f36822f029d73e5") false proved (fun _ h => by cases h) (by kernel_rfl) (fun _ h => by cases h) queueConserves_row_tie rfl ⟨rfl, rfl⟩ (by kernel_rfl) rfl
  (fun f fn hf hfn=>by
    obtain rfl : f = 4 := Option.some.inj ((show Tryz.prog.funcNamed "queuelab/queuelablaw24.QueueConserves" = some 4 by kernel_rfl).symm.trans hf) |>.symm
    obtain rfl:fn=Tryz.f4:=(Option.some.inj (Tryz.func4.symm.trans hfn)).symm
    exact⟨by kernel_rfl,fun j t ht=>by
     rw[Tryz.params4]at ht
     have hm:t∈[28,45]:=by simpa using Array.mem_of_getElem? ht
     have hall:([28,45].all fun u=>!Tryz.prog.wantsStandIn u)=true:=by kernel_rfl
     exact(show Tryz.prog.wantsStandIn t=false by simpa using List.all_eq_true.1 hall t hm)⟩)
  (by kernel_rfl)
end Go.Proofs.YtgalanoklaibcaaGreatDoor.queueConserves
namespace Go.Proofs.YtgalanoklaibcaaGreatDoor
theorem queueConserves_card_holds:Rows.QueueConservesCardSaid:=queueConserves.card
end Go.Proofs.YtgalanoklaibcaaGreatDoor
end
