/- Part 5 of the proof: texts of this session laid one behind the other. -/
import Derived.Test.YtgalanoklaibcaaDoorX4
section
set_option linter.unusedVariables false
set_option linter.unusedSimpArgs false
/- The types of this seat, as Lean's (printed by gen_tys.py out of the dump). -/
namespace Go.Proofs.YtgalanoklaibcaaDoor
open Go.PI
instance:Glob:=⟨fun g=>match Nat.beq g 0 with | true=>some #[.int .u64 30,.int .u64 13787848793156543929,.int .u64 27,.int .u64 10723151780598845931,.int .u64 31,.int .u64 1] | false=>none,fun f=>Nat.beq f 82⟩
structure A2 (α:Type) where
 e0:α
 e1:α
structure A8 (α:Type) where
 e0:α
 e1:α
 e2:α
 e3:α
 e4:α
 e5:α
 e6:α
 e7:α
structure Policy where
 Kind:Int
 A:Int
 B:Int
 C:Int
structure Packet where
 Flow:Int
 Sub:Int
 Number:Int
 Data:Int
 Size:Int
 Sent:Int
 Able:Bool
 Marked:Bool
structure Queued where
 P:Packet
 At:Int
structure Queue where
 Policy:Policy
 Room:Int
 Lists:List (List Queued)
 Vars:A8 Int
 Seed:Int
structure Stepx where
 Wait:Int
 Take:Bool
 P:Packet
structure Run where
 Q:Queue
 Came:List Packet
 Taken:List Packet
 Dropped:List Packet
structure Line where
 Queue:Queue
 Now:Int
structure Pair where
 Q:Queue
 Lists:A2 (List Queued)
 Now:Int
 Drops:List Packet
def den:Nat→Type
 | 2=>Int
 | 3=>Int
 | 4=>Bool
 | 9=>ByteArray
 | 22=>Policy
 | 23=>Policy
 | 25=>List (List Queued)
 | 26=>A8 Int
 | 27=>Int
 | 28=>Queue
 | 29=>Queue
 | 30=>Int
 | 36=>Packet
 | 37=>Packet
 | 38=>List Packet
 | 43=>List Stepx
 | 44=>Run
 | 45=>Run
 | 49=>List Policy
 | 58=>List Queued
 | 60=>Int
 | 61=>Stepx
 | 62=>Stepx
 | 66=>Queued
 | 67=>Queued
 | 68=>Queue
 | 69=>Queue
 | 76=>Queue
 | 81=>List Int
 | 85=>Line
 | 86=>Line
 | 89=>Queue
 | 102=>A2 (List Queued)
 | 103=>Pair
 | 104=>Pair
 | 75=>Queue
 | 82=>Line
 | 88=>Queue
 | 99=>Pair
 | 1088=>Queue
 | 1003=>Int
 | _=>Unit
abbrev V:=SV den
def dI (k:IntKind):V→Option Int
 | .lit (.int k' n)=>if k=k' then some n else none
 | _=>none
def dB:V→Option Bool
 | .lit (.bool b)=>some b
 | _=>none
def dS:V→Option ByteArray
 | .lit (.string s)=>some s
 | _=>none
def up2 (x:Int):V:=.lit (.int .i64 x)
def dn2 (v:V):Option Int:=dI .i64 v
def rp2 (x:Int) (a:AV):Prop:=a=.lit (.int .i64 x)
def up3 (x:Int):V:=.lit (.int .i64 x)
def dn3 (v:V):Option Int:=dI .i64 v
def rp3 (x:Int) (a:AV):Prop:=a=.lit (.int .i64 x)
def up4 (x:Bool):V:=.lit (.bool x)
def dn4 (v:V):Option Bool:=dB v
def rp4 (x:Bool) (a:AV):Prop:=a=.lit (.bool x)
def up9 (x:ByteArray):V:=.lit (.string x)
def dn9 (v:V):Option ByteArray:=dS v
def rp9 (x:ByteArray) (a:AV):Prop:=a=.lit (.string x)
def up22 (x:Policy):V:=.agg [.lit (.int .i64 x.Kind),.lit (.int .i64 x.A),.lit (.int .i64 x.B),.lit (.int .i64 x.C)]
def dn22:V→Option Policy
 | .agg [a0,a1,a2,a3]=>(dn3 a0).bind fun b0=>(dn3 a1).bind fun b1=>(dn3 a2).bind fun b2=>(dn3 a3).bind fun b3=>some ⟨b0,b1,b2,b3⟩
 | _=>none
def rp22 (x:Policy) (a:AV):Prop:=a=.agg [.lit (.int .i64 x.Kind),.lit (.int .i64 x.A),.lit (.int .i64 x.B),.lit (.int .i64 x.C)]
def up36 (x:Packet):V:=.agg [.lit (.int .i64 x.Flow),.lit (.int .i64 x.Sub),.lit (.int .i64 x.Number),.lit (.int .i64 x.Data),.lit (.int .i64 x.Size),.lit (.int .i64 x.Sent),.lit (.bool x.Able),.lit (.bool x.Marked)]
def dn36:V→Option Packet
 | .agg [a0,a1,a2,a3,a4,a5,a6,a7]=>(dn3 a0).bind fun b0=>(dn3 a1).bind fun b1=>(dn3 a2).bind fun b2=>(dn3 a3).bind fun b3=>(dn3 a4).bind fun b4=>(dn3 a5).bind fun b5=>(dn4 a6).bind fun b6=>(dn4 a7).bind fun b7=>some ⟨b0,b1,b2,b3,b4,b5,b6,b7⟩
 | _=>none
def rp36 (x:Packet) (a:AV):Prop:=a=.agg [.lit (.int .i64 x.Flow),.lit (.int .i64 x.Sub),.lit (.int .i64 x.Number),.lit (.int .i64 x.Data),.lit (.int .i64 x.Size),.lit (.int .i64 x.Sent),.lit (.bool x.Able),.lit (.bool x.Marked)]
def up66 (x:Queued):V:=.agg [.lit (.int .i64 x.P.Flow),.lit (.int .i64 x.P.Sub),.lit (.int .i64 x.P.Number),.lit (.int .i64 x.P.Data),.lit (.int .i64 x.P.Size),.lit (.int .i64 x.P.Sent),.lit (.bool x.P.Able),.lit (.bool x.P.Marked),.lit (.int .i64 x.At)]
def dn66:V→Option Queued
 | .agg [a0,a1,a2,a3,a4,a5,a6,a7,a8]=>(dn3 a0).bind fun b0=>(dn3 a1).bind fun b1=>(dn3 a2).bind fun b2=>(dn3 a3).bind fun b3=>(dn3 a4).bind fun b4=>(dn3 a5).bind fun b5=>(dn4 a6).bind fun b6=>(dn4 a7).bind fun b7=>(dn3 a8).bind fun b8=>some ⟨⟨b0,b1,b2,b3,b4,b5,b6,b7⟩,b8⟩
 | _=>none
def rp66 (x:Queued) (a:AV):Prop:=a=.agg [.lit (.int .i64 x.P.Flow),.lit (.int .i64 x.P.Sub),.lit (.int .i64 x.P.Number),.lit (.int .i64 x.P.Data),.lit (.int .i64 x.P.Size),.lit (.int .i64 x.P.Sent),.lit (.bool x.P.Able),.lit (.bool x.P.Marked),.lit (.int .i64 x.At)]
def up58 (x:List Queued):V:=.tsl 67 x
def dl58:List V→Option (List Queued)
 | []=>some []
 | v :: vs=>(dn66 v).bind fun x=>(dl58 vs).map fun l=>x :: l
def dn58:V→Option (List Queued)
 | .tsl t l=>if h:t=67 then some (@castL den t _ h l) else none
 | .sl vs=>dl58 vs
 | .lit (.slice none 0 0)=>some []
 | _=>none
def rp58 (x:List Queued) (a:AV):Prop:=(∃ l,a=.sl l∧All2 rp66 x l)∨(x=[]∧a=.lit nilSl)
def up25 (x:List (List Queued)):V:=.tsl 58 x
def dl25:List V→Option (List (List Queued))
 | []=>some []
 | v :: vs=>(dn58 v).bind fun x=>(dl25 vs).map fun l=>x :: l
def dn25:V→Option (List (List Queued))
 | .tsl t l=>if h:t=58 then some (@castL den t _ h l) else none
 | .sl vs=>dl25 vs
 | .lit (.slice none 0 0)=>some []
 | _=>none
def rp25 (x:List (List Queued)) (a:AV):Prop:=(∃ l,a=.sl l∧All2 rp58 x l)∨(x=[]∧a=.lit nilSl)
def up26 (x:A8 Int):V:=.agg [.lit (.int .i64 x.e0),.lit (.int .i64 x.e1),.lit (.int .i64 x.e2),.lit (.int .i64 x.e3),.lit (.int .i64 x.e4),.lit (.int .i64 x.e5),.lit (.int .i64 x.e6),.lit (.int .i64 x.e7)]
def dn26:V→Option (A8 Int)
 | .agg [a0,a1,a2,a3,a4,a5,a6,a7]=>(dn3 a0).bind fun b0=>(dn3 a1).bind fun b1=>(dn3 a2).bind fun b2=>(dn3 a3).bind fun b3=>(dn3 a4).bind fun b4=>(dn3 a5).bind fun b5=>(dn3 a6).bind fun b6=>(dn3 a7).bind fun b7=>some ⟨b0,b1,b2,b3,b4,b5,b6,b7⟩
 | _=>none
def rp26 (x:A8 Int) (a:AV):Prop:=a=.agg [.lit (.int .i64 x.e0),.lit (.int .i64 x.e1),.lit (.int .i64 x.e2),.lit (.int .i64 x.e3),.lit (.int .i64 x.e4),.lit (.int .i64 x.e5),.lit (.int .i64 x.e6),.lit (.int .i64 x.e7)]
def up27 (x:Int):V:=.lit (.int .u64 x)
def dn27 (v:V):Option Int:=dI .u64 v
def rp27 (x:Int) (a:AV):Prop:=a=.lit (.int .u64 x)
def up28 (x:Queue):V:=.agg [.lit (.int .i64 x.Policy.Kind),.lit (.int .i64 x.Policy.A),.lit (.int .i64 x.Policy.B),.lit (.int .i64 x.Policy.C),.lit (.int .i64 x.Room),.tsl 58 x.Lists,.lit (.int .i64 x.Vars.e0),.lit (.int .i64 x.Vars.e1),.lit (.int .i64 x.Vars.e2),.lit (.int .i64 x.Vars.e3),.lit (.int .i64 x.Vars.e4),.lit (.int .i64 x.Vars.e5),.lit (.int .i64 x.Vars.e6),.lit (.int .i64 x.Vars.e7),.lit (.int .u64 x.Seed)]
def dn28:V→Option Queue
 | .agg [a0,a1,a2,a3,a4,a5,a6,a7,a8,a9,a10,a11,a12,a13,a14]=>(dn3 a0).bind fun b0=>(dn3 a1).bind fun b1=>(dn3 a2).bind fun b2=>(dn3 a3).bind fun b3=>(dn3 a4).bind fun b4=>(dn25 a5).bind fun b5=>(dn3 a6).bind fun b6=>(dn3 a7).bind fun b7=>(dn3 a8).bind fun b8=>(dn3 a9).bind fun b9=>(dn3 a10).bind fun b10=>(dn3 a11).bind fun b11=>(dn3 a12).bind fun b12=>(dn3 a13).bind fun b13=>(dn27 a14).bind fun b14=>some ⟨⟨b0,b1,b2,b3⟩,b4,b5,⟨b6,b7,b8,b9,b10,b11,b12,b13⟩,b14⟩
 | _=>none
def rp28 (x:Queue) (a:AV):Prop:=∃ a5,rp25 x.Lists a5∧a=.agg [.lit (.int .i64 x.Policy.Kind),.lit (.int .i64 x.Policy.A),.lit (.int .i64 x.Policy.B),.lit (.int .i64 x.Policy.C),.lit (.int .i64 x.Room),a5,.lit (.int .i64 x.Vars.e0),.lit (.int .i64 x.Vars.e1),.lit (.int .i64 x.Vars.e2),.lit (.int .i64 x.Vars.e3),.lit (.int .i64 x.Vars.e4),.lit (.int .i64 x.Vars.e5),.lit (.int .i64 x.Vars.e6),.lit (.int .i64 x.Vars.e7),.lit (.int .u64 x.Seed)]
def up38 (x:List Packet):V:=.tsl 37 x
def dl38:List V→Option (List Packet)
 | []=>some []
 | v :: vs=>(dn36 v).bind fun x=>(dl38 vs).map fun l=>x :: l
def dn38:V→Option (List Packet)
 | .tsl t l=>if h:t=37 then some (@castL den t _ h l) else none
 | .sl vs=>dl38 vs
 | .lit (.slice none 0 0)=>some []
 | _=>none
def rp38 (x:List Packet) (a:AV):Prop:=(∃ l,a=.sl l∧All2 rp36 x l)∨(x=[]∧a=.lit nilSl)
def up60 (x:Int):V:=.lit (.int .u16 x)
def dn60 (v:V):Option Int:=dI .u16 v
def rp60 (x:Int) (a:AV):Prop:=a=.lit (.int .u16 x)
def up61 (x:Stepx):V:=.agg [.lit (.int .u16 x.Wait),.lit (.bool x.Take),.lit (.int .i64 x.P.Flow),.lit (.int .i64 x.P.Sub),.lit (.int .i64 x.P.Number),.lit (.int .i64 x.P.Data),.lit (.int .i64 x.P.Size),.lit (.int .i64 x.P.Sent),.lit (.bool x.P.Able),.lit (.bool x.P.Marked)]
def dn61:V→Option Stepx
 | .agg [a0,a1,a2,a3,a4,a5,a6,a7,a8,a9]=>(dn60 a0).bind fun b0=>(dn4 a1).bind fun b1=>(dn3 a2).bind fun b2=>(dn3 a3).bind fun b3=>(dn3 a4).bind fun b4=>(dn3 a5).bind fun b5=>(dn3 a6).bind fun b6=>(dn3 a7).bind fun b7=>(dn4 a8).bind fun b8=>(dn4 a9).bind fun b9=>some ⟨b0,b1,⟨b2,b3,b4,b5,b6,b7,b8,b9⟩⟩
 | _=>none
def rp61 (x:Stepx) (a:AV):Prop:=a=.agg [.lit (.int .u16 x.Wait),.lit (.bool x.Take),.lit (.int .i64 x.P.Flow),.lit (.int .i64 x.P.Sub),.lit (.int .i64 x.P.Number),.lit (.int .i64 x.P.Data),.lit (.int .i64 x.P.Size),.lit (.int .i64 x.P.Sent),.lit (.bool x.P.Able),.lit (.bool x.P.Marked)]
def up43 (x:List Stepx):V:=.tsl 62 x
def dl43:List V→Option (List Stepx)
 | []=>some []
 | v :: vs=>(dn61 v).bind fun x=>(dl43 vs).map fun l=>x :: l
def dn43:V→Option (List Stepx)
 | .tsl t l=>if h:t=62 then some (@castL den t _ h l) else none
 | .sl vs=>dl43 vs
 | .lit (.slice none 0 0)=>some []
 | _=>none
def rp43 (x:List Stepx) (a:AV):Prop:=(∃ l,a=.sl l∧All2 rp61 x l)∨(x=[]∧a=.lit nilSl)
def up44 (x:Run):V:=.agg [.lit (.int .i64 x.Q.Policy.Kind),.lit (.int .i64 x.Q.Policy.A),.lit (.int .i64 x.Q.Policy.B),.lit (.int .i64 x.Q.Policy.C),.lit (.int .i64 x.Q.Room),.tsl 58 x.Q.Lists,.lit (.int .i64 x.Q.Vars.e0),.lit (.int .i64 x.Q.Vars.e1),.lit (.int .i64 x.Q.Vars.e2),.lit (.int .i64 x.Q.Vars.e3),.lit (.int .i64 x.Q.Vars.e4),.lit (.int .i64 x.Q.Vars.e5),.lit (.int .i64 x.Q.Vars.e6),.lit (.int .i64 x.Q.Vars.e7),.lit (.int .u64 x.Q.Seed),.tsl 37 x.Came,.tsl 37 x.Taken,.tsl 37 x.Dropped]
def dn44:V→Option Run
 | .agg [a0,a1,a2,a3,a4,a5,a6,a7,a8,a9,a10,a11,a12,a13,a14,a15,a16,a17]=>(dn3 a0).bind fun b0=>(dn3 a1).bind fun b1=>(dn3 a2).bind fun b2=>(dn3 a3).bind fun b3=>(dn3 a4).bind fun b4=>(dn25 a5).bind fun b5=>(dn3 a6).bind fun b6=>(dn3 a7).bind fun b7=>(dn3 a8).bind fun b8=>(dn3 a9).bind fun b9=>(dn3 a10).bind fun b10=>(dn3 a11).bind fun b11=>(dn3 a12).bind fun b12=>(dn3 a13).bind fun b13=>(dn27 a14).bind fun b14=>(dn38 a15).bind fun b15=>(dn38 a16).bind fun b16=>(dn38 a17).bind fun b17=>some ⟨⟨⟨b0,b1,b2,b3⟩,b4,b5,⟨b6,b7,b8,b9,b10,b11,b12,b13⟩,b14⟩,b15,b16,b17⟩
 | _=>none
def rp44 (x:Run) (a:AV):Prop:=∃ a5 a15 a16 a17,rp25 x.Q.Lists a5∧rp38 x.Came a15∧rp38 x.Taken a16∧rp38 x.Dropped a17∧a=.agg [.lit (.int .i64 x.Q.Policy.Kind),.lit (.int .i64 x.Q.Policy.A),.lit (.int .i64 x.Q.Policy.B),.lit (.int .i64 x.Q.Policy.C),.lit (.int .i64 x.Q.Room),a5,.lit (.int .i64 x.Q.Vars.e0),.lit (.int .i64 x.Q.Vars.e1),.lit (.int .i64 x.Q.Vars.e2),.lit (.int .i64 x.Q.Vars.e3),.lit (.int .i64 x.Q.Vars.e4),.lit (.int .i64 x.Q.Vars.e5),.lit (.int .i64 x.Q.Vars.e6),.lit (.int .i64 x.Q.Vars.e7),.lit (.int .u64 x.Q.Seed),a15,a16,a17]
def up49 (x:List Policy):V:=.tsl 23 x
def dl49:List V→Option (List Policy)
 | []=>some []
 | v :: vs=>(dn22 v).bind fun x=>(dl49 vs).map fun l=>x :: l
def dn49:V→Option (List Policy)
 | .tsl t l=>if h:t=23 then some (@castL den t _ h l) else none
 | .sl vs=>dl49 vs
 | .lit (.slice none 0 0)=>some []
 | _=>none
def rp49 (x:List Policy) (a:AV):Prop:=(∃ l,a=.sl l∧All2 rp22 x l)∨(x=[]∧a=.lit nilSl)
def up68 (x:Queue):V:=.agg [.lit (.int .i64 x.Policy.Kind),.lit (.int .i64 x.Policy.A),.lit (.int .i64 x.Policy.B),.lit (.int .i64 x.Policy.C),.lit (.int .i64 x.Room),.tsl 58 x.Lists,.lit (.int .i64 x.Vars.e0),.lit (.int .i64 x.Vars.e1),.lit (.int .i64 x.Vars.e2),.lit (.int .i64 x.Vars.e3),.lit (.int .i64 x.Vars.e4),.lit (.int .i64 x.Vars.e5),.lit (.int .i64 x.Vars.e6),.lit (.int .i64 x.Vars.e7),.lit (.int .u64 x.Seed)]
def dn68:V→Option Queue
 | .agg [a0,a1,a2,a3,a4,a5,a6,a7,a8,a9,a10,a11,a12,a13,a14]=>(dn3 a0).bind fun b0=>(dn3 a1).bind fun b1=>(dn3 a2).bind fun b2=>(dn3 a3).bind fun b3=>(dn3 a4).bind fun b4=>(dn25 a5).bind fun b5=>(dn3 a6).bind fun b6=>(dn3 a7).bind fun b7=>(dn3 a8).bind fun b8=>(dn3 a9).bind fun b9=>(dn3 a10).bind fun b10=>(dn3 a11).bind fun b11=>(dn3 a12).bind fun b12=>(dn3 a13).bind fun b13=>(dn27 a14).bind fun b14=>some ⟨⟨b0,b1,b2,b3⟩,b4,b5,⟨b6,b7,b8,b9,b10,b11,b12,b13⟩,b14⟩
 | _=>none
def rp68 (x:Queue) (a:AV):Prop:=∃ a5,rp25 x.Lists a5∧a=.agg [.lit (.int .i64 x.Policy.Kind),.lit (.int .i64 x.Policy.A),.lit (.int .i64 x.Policy.B),.lit (.int .i64 x.Policy.C),.lit (.int .i64 x.Room),a5,.lit (.int .i64 x.Vars.e0),.lit (.int .i64 x.Vars.e1),.lit (.int .i64 x.Vars.e2),.lit (.int .i64 x.Vars.e3),.lit (.int .i64 x.Vars.e4),.lit (.int .i64 x.Vars.e5),.lit (.int .i64 x.Vars.e6),.lit (.int .i64 x.Vars.e7),.lit (.int .u64 x.Seed)]
def up81 (x:List Int):V:=.tsl 3 x
def dl81:List V→Option (List Int)
 | []=>some []
 | v :: vs=>(dn3 v).bind fun x=>(dl81 vs).map fun l=>x :: l
def dn81:V→Option (List Int)
 | .tsl t l=>if h:t=3 then some (@castL den t _ h l) else none
 | .sl vs=>dl81 vs
 | .lit (.slice none 0 0)=>some []
 | _=>none
def rp81 (x:List Int) (a:AV):Prop:=(∃ l,a=.sl l∧All2 rp3 x l)∨(x=[]∧a=.lit nilSl)
def up85 (x:Line):V:=.agg [.lit (.int .i64 x.Queue.Policy.Kind),.lit (.int .i64 x.Queue.Policy.A),.lit (.int .i64 x.Queue.Policy.B),.lit (.int .i64 x.Queue.Policy.C),.lit (.int .i64 x.Queue.Room),.tsl 58 x.Queue.Lists,.lit (.int .i64 x.Queue.Vars.e0),.lit (.int .i64 x.Queue.Vars.e1),.lit (.int .i64 x.Queue.Vars.e2),.lit (.int .i64 x.Queue.Vars.e3),.lit (.int .i64 x.Queue.Vars.e4),.lit (.int .i64 x.Queue.Vars.e5),.lit (.int .i64 x.Queue.Vars.e6),.lit (.int .i64 x.Queue.Vars.e7),.lit (.int .u64 x.Queue.Seed),.lit (.int .i64 x.Now)]
def dn85:V→Option Line
 | .agg [a0,a1,a2,a3,a4,a5,a6,a7,a8,a9,a10,a11,a12,a13,a14,a15]=>(dn3 a0).bind fun b0=>(dn3 a1).bind fun b1=>(dn3 a2).bind fun b2=>(dn3 a3).bind fun b3=>(dn3 a4).bind fun b4=>(dn25 a5).bind fun b5=>(dn3 a6).bind fun b6=>(dn3 a7).bind fun b7=>(dn3 a8).bind fun b8=>(dn3 a9).bind fun b9=>(dn3 a10).bind fun b10=>(dn3 a11).bind fun b11=>(dn3 a12).bind fun b12=>(dn3 a13).bind fun b13=>(dn27 a14).bind fun b14=>(dn3 a15).bind fun b15=>some ⟨⟨⟨b0,b1,b2,b3⟩,b4,b5,⟨b6,b7,b8,b9,b10,b11,b12,b13⟩,b14⟩,b15⟩
 | _=>none
def rp85 (x:Line) (a:AV):Prop:=∃ a5,rp25 x.Queue.Lists a5∧a=.agg [.lit (.int .i64 x.Queue.Policy.Kind),.lit (.int .i64 x.Queue.Policy.A),.lit (.int .i64 x.Queue.Policy.B),.lit (.int .i64 x.Queue.Policy.C),.lit (.int .i64 x.Queue.Room),a5,.lit (.int .i64 x.Queue.Vars.e0),.lit (.int .i64 x.Queue.Vars.e1),.lit (.int .i64 x.Queue.Vars.e2),.lit (.int .i64 x.Queue.Vars.e3),.lit (.int .i64 x.Queue.Vars.e4),.lit (.int .i64 x.Queue.Vars.e5),.lit (.int .i64 x.Queue.Vars.e6),.lit (.int .i64 x.Queue.Vars.e7),.lit (.int .u64 x.Queue.Seed),.lit (.int .i64 x.Now)]
def up102 (x:A2 (List Queued)):V:=.agg [.tsl 67 x.e0,.tsl 67 x.e1]
def dn102:V→Option (A2 (List Queued))
 | .agg [a0,a1]=>(dn58 a0).bind fun b0=>(dn58 a1).bind fun b1=>some ⟨b0,b1⟩
 | _=>none
def rp102 (x:A2 (List Queued)) (a:AV):Prop:=∃ a0 a1,rp58 x.e0 a0∧rp58 x.e1 a1∧a=.agg [a0,a1]
def up103 (x:Pair):V:=.agg [.lit (.int .i64 x.Q.Policy.Kind),.lit (.int .i64 x.Q.Policy.A),.lit (.int .i64 x.Q.Policy.B),.lit (.int .i64 x.Q.Policy.C),.lit (.int .i64 x.Q.Room),.tsl 58 x.Q.Lists,.lit (.int .i64 x.Q.Vars.e0),.lit (.int .i64 x.Q.Vars.e1),.lit (.int .i64 x.Q.Vars.e2),.lit (.int .i64 x.Q.Vars.e3),.lit (.int .i64 x.Q.Vars.e4),.lit (.int .i64 x.Q.Vars.e5),.lit (.int .i64 x.Q.Vars.e6),.lit (.int .i64 x.Q.Vars.e7),.lit (.int .u64 x.Q.Seed),.tsl 67 x.Lists.e0,.tsl 67 x.Lists.e1,.lit (.int .i64 x.Now),.tsl 37 x.Drops]
def dn103:V→Option Pair
 | .agg [a0,a1,a2,a3,a4,a5,a6,a7,a8,a9,a10,a11,a12,a13,a14,a15,a16,a17,a18]=>(dn3 a0).bind fun b0=>(dn3 a1).bind fun b1=>(dn3 a2).bind fun b2=>(dn3 a3).bind fun b3=>(dn3 a4).bind fun b4=>(dn25 a5).bind fun b5=>(dn3 a6).bind fun b6=>(dn3 a7).bind fun b7=>(dn3 a8).bind fun b8=>(dn3 a9).bind fun b9=>(dn3 a10).bind fun b10=>(dn3 a11).bind fun b11=>(dn3 a12).bind fun b12=>(dn3 a13).bind fun b13=>(dn27 a14).bind fun b14=>(dn58 a15).bind fun b15=>(dn58 a16).bind fun b16=>(dn3 a17).bind fun b17=>(dn38 a18).bind fun b18=>some ⟨⟨⟨b0,b1,b2,b3⟩,b4,b5,⟨b6,b7,b8,b9,b10,b11,b12,b13⟩,b14⟩,⟨b15,b16⟩,b17,b18⟩
 | _=>none
def rp103 (x:Pair) (a:AV):Prop:=∃ a5 a15 a16 a18,rp25 x.Q.Lists a5∧rp58 x.Lists.e0 a15∧rp58 x.Lists.e1 a16∧rp38 x.Drops a18∧a=.agg [.lit (.int .i64 x.Q.Policy.Kind),.lit (.int .i64 x.Q.Policy.A),.lit (.int .i64 x.Q.Policy.B),.lit (.int .i64 x.Q.Policy.C),.lit (.int .i64 x.Q.Room),a5,.lit (.int .i64 x.Q.Vars.e0),.lit (.int .i64 x.Q.Vars.e1),.lit (.int .i64 x.Q.Vars.e2),.lit (.int .i64 x.Q.Vars.e3),.lit (.int .i64 x.Q.Vars.e4),.lit (.int .i64 x.Q.Vars.e5),.lit (.int .i64 x.Q.Vars.e6),.lit (.int .i64 x.Q.Vars.e7),.lit (.int .u64 x.Q.Seed),a15,a16,.lit (.int .i64 x.Now),a18]
def up75 (x:Queue):V:=.eref (up68 x) 0
def dn75:V→Option Queue
 | .eref v 0=>dn68 v
 | _=>none
def rp75 (x:Queue) (a:AV):Prop:=∃ b,a=.eref b 0∧rp68 x b
def up82 (x:Line):V:=.eref (up85 x) 0
def dn82:V→Option Line
 | .eref v 0=>dn85 v
 | _=>none
def rp82 (x:Line) (a:AV):Prop:=∃ b,a=.eref b 0∧rp85 x b
def up88 (x:Queue):V:=.eref (up68 x) 0
def dn88:V→Option Queue
 | .eref v 0=>dn68 v
 | _=>none
def rp88 (x:Queue) (a:AV):Prop:=∃ b,a=.eref b 0∧rp68 x b
def up99 (x:Pair):V:=.eref (up103 x) 0
def dn99:V→Option Pair
 | .eref v 0=>dn103 v
 | _=>none
def rp99 (x:Pair) (a:AV):Prop:=∃ b,a=.eref b 0∧rp103 x b
def up1088 (x:Queue):V:=.eref (up88 x) 0
def dn1088:V→Option Queue
 | .eref v 0=>dn88 v
 | _=>none
def rp1088 (x:Queue) (a:AV):Prop:=∃ b,a=.eref b 0∧rp88 x b
def up1003 (x:Int):V:=.eref (up3 x) 0
def dn1003:V→Option Int
 | .eref v 0=>dn3 v
 | _=>none
def rp1003 (x:Int) (a:AV):Prop:=∃ b,a=.eref b 0∧rp3 x b
def up:(t:Nat)→den t→V
 | 2,x=>up2 x
 | 3,x=>up3 x
 | 4,x=>up4 x
 | 9,x=>up9 x
 | 22,x=>up22 x
 | 23,x=>up22 x
 | 25,x=>up25 x
 | 26,x=>up26 x
 | 27,x=>up27 x
 | 28,x=>up28 x
 | 29,x=>up28 x
 | 30,x=>up3 x
 | 36,x=>up36 x
 | 37,x=>up36 x
 | 38,x=>up38 x
 | 43,x=>up43 x
 | 44,x=>up44 x
 | 45,x=>up44 x
 | 49,x=>up49 x
 | 58,x=>up58 x
 | 60,x=>up60 x
 | 61,x=>up61 x
 | 62,x=>up61 x
 | 66,x=>up66 x
 | 67,x=>up66 x
 | 68,x=>up68 x
 | 69,x=>up68 x
 | 76,x=>up68 x
 | 81,x=>up81 x
 | 85,x=>up85 x
 | 86,x=>up85 x
 | 89,x=>up68 x
 | 102,x=>up102 x
 | 103,x=>up103 x
 | 104,x=>up103 x
 | 75,x=>up75 x
 | 82,x=>up82 x
 | 88,x=>up88 x
 | 99,x=>up99 x
 | 1088,x=>up1088 x
 | 1003,x=>up1003 x
 | _,_=>.dead
def dn:(t:Nat)→V→Option (den t)
 | 2,v=>dn2 v
 | 3,v=>dn3 v
 | 4,v=>dn4 v
 | 9,v=>dn9 v
 | 22,v=>dn22 v
 | 23,v=>dn22 v
 | 25,v=>dn25 v
 | 26,v=>dn26 v
 | 27,v=>dn27 v
 | 28,v=>dn28 v
 | 29,v=>dn28 v
 | 30,v=>dn3 v
 | 36,v=>dn36 v
 | 37,v=>dn36 v
 | 38,v=>dn38 v
 | 43,v=>dn43 v
 | 44,v=>dn44 v
 | 45,v=>dn44 v
 | 49,v=>dn49 v
 | 58,v=>dn58 v
 | 60,v=>dn60 v
 | 61,v=>dn61 v
 | 62,v=>dn61 v
 | 66,v=>dn66 v
 | 67,v=>dn66 v
 | 68,v=>dn68 v
 | 69,v=>dn68 v
 | 76,v=>dn68 v
 | 81,v=>dn81 v
 | 85,v=>dn85 v
 | 86,v=>dn85 v
 | 89,v=>dn68 v
 | 102,v=>dn102 v
 | 103,v=>dn103 v
 | 104,v=>dn103 v
 | 75,v=>dn75 v
 | 82,v=>dn82 v
 | 88,v=>dn88 v
 | 99,v=>dn99 v
 | 1088,v=>dn1088 v
 | 1003,v=>dn1003 v
 | _,_=>none
def rp:(t:Nat)→den t→AV→Prop
 | 2,x,a=>rp2 x a
 | 3,x,a=>rp3 x a
 | 4,x,a=>rp4 x a
 | 9,x,a=>rp9 x a
 | 22,x,a=>rp22 x a
 | 23,x,a=>rp22 x a
 | 25,x,a=>rp25 x a
 | 26,x,a=>rp26 x a
 | 27,x,a=>rp27 x a
 | 28,x,a=>rp28 x a
 | 29,x,a=>rp28 x a
 | 30,x,a=>rp3 x a
 | 36,x,a=>rp36 x a
 | 37,x,a=>rp36 x a
 | 38,x,a=>rp38 x a
 | 43,x,a=>rp43 x a
 | 44,x,a=>rp44 x a
 | 45,x,a=>rp44 x a
 | 49,x,a=>rp49 x a
 | 58,x,a=>rp58 x a
 | 60,x,a=>rp60 x a
 | 61,x,a=>rp61 x a
 | 62,x,a=>rp61 x a
 | 66,x,a=>rp66 x a
 | 67,x,a=>rp66 x a
 | 68,x,a=>rp68 x a
 | 69,x,a=>rp68 x a
 | 76,x,a=>rp68 x a
 | 81,x,a=>rp81 x a
 | 85,x,a=>rp85 x a
 | 86,x,a=>rp85 x a
 | 89,x,a=>rp68 x a
 | 102,x,a=>rp102 x a
 | 103,x,a=>rp103 x a
 | 104,x,a=>rp103 x a
 | 75,x,a=>rp75 x a
 | 82,x,a=>rp82 x a
 | 88,x,a=>rp88 x a
 | 99,x,a=>rp99 x a
 | 1088,x,a=>rp1088 x a
 | 1003,x,a=>rp1003 x a
 | _,_,_=>False
def aggT:Nat→Bool
 | 22=>true
 | 23=>true
 | 26=>true
 | 28=>true
 | 29=>true
 | 36=>true
 | 37=>true
 | 44=>true
 | 45=>true
 | 61=>true
 | 62=>true
 | 66=>true
 | 67=>true
 | 68=>true
 | 69=>true
 | 76=>true
 | 85=>true
 | 86=>true
 | 89=>true
 | 102=>true
 | 103=>true
 | 104=>true
 | _=>false
def sizeT:Nat→Nat
 | 22=>4
 | 23=>4
 | 26=>8
 | 28=>15
 | 29=>15
 | 36=>8
 | 37=>8
 | 44=>18
 | 45=>18
 | 61=>10
 | 62=>10
 | 66=>9
 | 67=>9
 | 68=>15
 | 69=>15
 | 76=>15
 | 85=>16
 | 86=>16
 | 89=>15
 | 102=>2
 | 103=>19
 | 104=>19
 | _=>1
def zeroT:(t:Nat)→Option (den t)
 | 2=>some (0:Int)
 | 3=>some (0:Int)
 | 4=>some (false:Bool)
 | 9=>some (ByteArray.empty:ByteArray)
 | 22=>some (⟨0,0,0,0⟩:Policy)
 | 23=>some (⟨0,0,0,0⟩:Policy)
 | 25=>some ([]:List (List Queued))
 | 26=>some (⟨0,0,0,0,0,0,0,0⟩:A8 Int)
 | 27=>some (0:Int)
 | 28=>some (⟨⟨0,0,0,0⟩,0,[],⟨0,0,0,0,0,0,0,0⟩,0⟩:Queue)
 | 29=>some (⟨⟨0,0,0,0⟩,0,[],⟨0,0,0,0,0,0,0,0⟩,0⟩:Queue)
 | 30=>some (0:Int)
 | 36=>some (⟨0,0,0,0,0,0,false,false⟩:Packet)
 | 37=>some (⟨0,0,0,0,0,0,false,false⟩:Packet)
 | 38=>some ([]:List Packet)
 | 43=>some ([]:List Stepx)
 | 44=>some (⟨⟨⟨0,0,0,0⟩,0,[],⟨0,0,0,0,0,0,0,0⟩,0⟩,[],[],[]⟩:Run)
 | 45=>some (⟨⟨⟨0,0,0,0⟩,0,[],⟨0,0,0,0,0,0,0,0⟩,0⟩,[],[],[]⟩:Run)
 | 49=>some ([]:List Policy)
 | 58=>some ([]:List Queued)
 | 60=>some (0:Int)
 | 61=>some (⟨0,false,⟨0,0,0,0,0,0,false,false⟩⟩:Stepx)
 | 62=>some (⟨0,false,⟨0,0,0,0,0,0,false,false⟩⟩:Stepx)
 | 66=>some (⟨⟨0,0,0,0,0,0,false,false⟩,0⟩:Queued)
 | 67=>some (⟨⟨0,0,0,0,0,0,false,false⟩,0⟩:Queued)
 | 68=>some (⟨⟨0,0,0,0⟩,0,[],⟨0,0,0,0,0,0,0,0⟩,0⟩:Queue)
 | 69=>some (⟨⟨0,0,0,0⟩,0,[],⟨0,0,0,0,0,0,0,0⟩,0⟩:Queue)
 | 76=>some (⟨⟨0,0,0,0⟩,0,[],⟨0,0,0,0,0,0,0,0⟩,0⟩:Queue)
 | 81=>some ([]:List Int)
 | 85=>some (⟨⟨⟨0,0,0,0⟩,0,[],⟨0,0,0,0,0,0,0,0⟩,0⟩,0⟩:Line)
 | 86=>some (⟨⟨⟨0,0,0,0⟩,0,[],⟨0,0,0,0,0,0,0,0⟩,0⟩,0⟩:Line)
 | 89=>some (⟨⟨0,0,0,0⟩,0,[],⟨0,0,0,0,0,0,0,0⟩,0⟩:Queue)
 | 102=>some (⟨[],[]⟩:A2 (List Queued))
 | 103=>some (⟨⟨⟨0,0,0,0⟩,0,[],⟨0,0,0,0,0,0,0,0⟩,0⟩,⟨[],[]⟩,0,[]⟩:Pair)
 | 104=>some (⟨⟨⟨0,0,0,0⟩,0,[],⟨0,0,0,0,0,0,0,0⟩,0⟩,⟨[],[]⟩,0,[]⟩:Pair)
 | _=>none
def memo:List (Nat×MTy):=[
 (1,⟨false,1,8,some (.lit .nilFunc),.other,none,none⟩),
 (2,⟨false,1,8,some (.lit (.int .i64 0)),.other,none,none⟩),
 (3,⟨false,1,8,some (.lit (.int .i64 0)),.other,none,none⟩),
 (4,⟨false,1,1,some (.lit (.bool false)),.other,none,none⟩),
 (5,⟨false,1,1,some (.lit (.int .u8 0)),.other,none,none⟩),
 (6,⟨false,1,1,some (.lit (.int .u8 0)),.other,none,none⟩),
 (7,⟨true,4,24,some (.agg [.lit (.int .i64 0),.lit (.int .i64 0),.lit (.bool false),.lit (.int .u8 0)]),.struct [(0,2),(1,3),(2,4),(3,6)],none,none⟩),
 (8,⟨true,4,24,some (.agg [.lit (.int .i64 0),.lit (.int .i64 0),.lit (.bool false),.lit (.int .u8 0)]),.struct [(0,2),(1,3),(2,4),(3,6)],none,none⟩),
 (9,⟨false,1,16,some (.lit (.string ByteArray.empty)),.other,none,none⟩),
 (10,⟨false,1,16,some (.lit (.string ByteArray.empty)),.other,none,none⟩),
 (11,⟨false,1,16,some (.lit (.string ByteArray.empty)),.other,none,none⟩),
 (12,⟨false,1,8,some (.lit (.int .u64 0)),.other,none,none⟩),
 (13,⟨true,2,24,some (.agg [.lit (.string ByteArray.empty),.lit (.int .u64 0)]),.struct [(0,9),(1,12)],none,none⟩),
 (14,⟨true,2,24,some (.agg [.lit (.string ByteArray.empty),.lit (.int .u64 0)]),.struct [(0,9),(1,12)],none,none⟩),
 (15,⟨false,1,8,some (.lit (.pointer none)),.other,none,none⟩),
 (16,⟨false,1,8,some (.lit (.pointer none)),.other,none,none⟩),
 (17,⟨false,1,8,some (.lit (.pointer none)),.other,none,none⟩),
 (18,⟨true,1,8,some (.agg [.lit (.pointer none)]),.struct [(0,17)],none,none⟩),
 (19,⟨true,1,8,some (.agg [.lit (.pointer none)]),.struct [(0,17)],none,none⟩),
 (20,⟨false,1,16,some (.lit .nilIface),.iface,none,none⟩),
 (21,⟨false,1,4,some (.lit (.int .i32 0)),.other,none,none⟩),
 (22,⟨true,4,32,some (.agg [.lit (.int .i64 0),.lit (.int .i64 0),.lit (.int .i64 0),.lit (.int .i64 0)]),.struct [(0,3),(1,3),(2,3),(3,3)],some [.int .i64,.int .i64,.int .i64,.int .i64],none⟩),
 (23,⟨true,4,32,some (.agg [.lit (.int .i64 0),.lit (.int .i64 0),.lit (.int .i64 0),.lit (.int .i64 0)]),.struct [(0,3),(1,3),(2,3),(3,3)],some [.int .i64,.int .i64,.int .i64,.int .i64],none⟩),
 (24,⟨false,1,8,some (.lit .nilFunc),.other,none,none⟩),
 (25,⟨false,1,24,some (.lit (.slice none 0 0)),.slice 58,none,none⟩),
 (26,⟨true,8,64,some (.agg [.lit (.int .i64 0),.lit (.int .i64 0),.lit (.int .i64 0),.lit (.int .i64 0),.lit (.int .i64 0),.lit (.int .i64 0),.lit (.int .i64 0),.lit (.int .i64 0)]),.array 8 3,some [.int .i64,.int .i64,.int .i64,.int .i64,.int .i64,.int .i64,.int .i64,.int .i64],none⟩),
 (27,⟨false,1,8,some (.lit (.int .u64 0)),.other,none,none⟩),
 (28,⟨true,15,136,some (.agg [.lit (.int .i64 0),.lit (.int .i64 0),.lit (.int .i64 0),.lit (.int .i64 0),.lit (.int .i64 0),.lit (.slice none 0 0),.lit (.int .i64 0),.lit (.int .i64 0),.lit (.int .i64 0),.lit (.int .i64 0),.lit (.int .i64 0),.lit (.int .i64 0),.lit (.int .i64 0),.lit (.int .i64 0),.lit (.int .u64 0)]),.struct [(0,23),(4,3),(5,25),(6,26),(14,27)],none,none⟩),
 (29,⟨true,15,136,some (.agg [.lit (.int .i64 0),.lit (.int .i64 0),.lit (.int .i64 0),.lit (.int .i64 0),.lit (.int .i64 0),.lit (.slice none 0 0),.lit (.int .i64 0),.lit (.int .i64 0),.lit (.int .i64 0),.lit (.int .i64 0),.lit (.int .i64 0),.lit (.int .i64 0),.lit (.int .i64 0),.lit (.int .i64 0),.lit (.int .u64 0)]),.struct [(0,23),(4,3),(5,25),(6,26),(14,27)],none,none⟩),
 (30,⟨false,1,8,some (.lit (.int .i64 0)),.other,none,none⟩),
 (32,⟨false,1,8,some (.lit .nilFunc),.other,none,none⟩),
 (33,⟨false,1,8,some (.lit .nilFunc),.other,none,none⟩),
 (34,⟨false,1,8,some (.lit .nilFunc),.other,none,none⟩),
 (35,⟨false,1,8,some (.lit .nilFunc),.other,none,none⟩),
 (36,⟨true,8,56,some (.agg [.lit (.int .i64 0),.lit (.int .i64 0),.lit (.int .i64 0),.lit (.int .i64 0),.lit (.int .i64 0),.lit (.int .i64 0),.lit (.bool false),.lit (.bool false)]),.struct [(0,3),(1,3),(2,3),(3,3),(4,3),(5,3),(6,4),(7,4)],some [.int .i64,.int .i64,.int .i64,.int .i64,.int .i64,.int .i64,.bool,.bool],none⟩),
 (37,⟨true,8,56,some (.agg [.lit (.int .i64 0),.lit (.int .i64 0),.lit (.int .i64 0),.lit (.int .i64 0),.lit (.int .i64 0),.lit (.int .i64 0),.lit (.bool false),.lit (.bool false)]),.struct [(0,3),(1,3),(2,3),(3,3),(4,3),(5,3),(6,4),(7,4)],some [.int .i64,.int .i64,.int .i64,.int .i64,.int .i64,.int .i64,.bool,.bool],none⟩),
 (38,⟨false,1,24,some (.lit (.slice none 0 0)),.slice 37,none,none⟩),
 (40,⟨false,1,8,some (.lit .nilFunc),.other,none,none⟩),
 (41,⟨false,1,8,some (.lit .nilFunc),.other,none,none⟩),
 (42,⟨false,1,8,some (.lit .nilFunc),.other,none,none⟩),
 (43,⟨false,1,24,some (.lit (.slice none 0 0)),.slice 62,none,none⟩),
 (44,⟨true,18,208,some (.agg [.lit (.int .i64 0),.lit (.int .i64 0),.lit (.int .i64 0),.lit (.int .i64 0),.lit (.int .i64 0),.lit (.slice none 0 0),.lit (.int .i64 0),.lit (.int .i64 0),.lit (.int .i64 0),.lit (.int .i64 0),.lit (.int .i64 0),.lit (.int .i64 0),.lit (.int .i64 0),.lit (.int .i64 0),.lit (.int .u64 0),.lit (.slice none 0 0),.lit (.slice none 0 0),.lit (.slice none 0 0)]),.struct [(0,29),(15,38),(16,38),(17,38)],none,none⟩),
 (45,⟨true,18,208,some (.agg [.lit (.int .i64 0),.lit (.int .i64 0),.lit (.int .i64 0),.lit (.int .i64 0),.lit (.int .i64 0),.lit (.slice none 0 0),.lit (.int .i64 0),.lit (.int .i64 0),.lit (.int .i64 0),.lit (.int .i64 0),.lit (.int .i64 0),.lit (.int .i64 0),.lit (.int .i64 0),.lit (.int .i64 0),.lit (.int .u64 0),.lit (.slice none 0 0),.lit (.slice none 0 0),.lit (.slice none 0 0)]),.struct [(0,29),(15,38),(16,38),(17,38)],none,none⟩),
 (47,⟨false,1,8,some (.lit .nilFunc),.other,none,none⟩),
 (48,⟨false,1,8,some (.lit .nilFunc),.other,none,none⟩),
 (49,⟨false,1,24,some (.lit (.slice none 0 0)),.slice 23,none,none⟩),
 (50,⟨false,1,8,some (.lit .nilFunc),.other,none,none⟩),
 (52,⟨false,1,8,some (.lit .nilFunc),.other,none,none⟩),
 (53,⟨true,4,32,some (.agg [.lit (.int .i64 0),.lit .nilFunc,.lit .nilFunc,.lit .nilFunc]),.struct [(0,3),(1,34),(2,52),(3,40)],none,none⟩),
 (54,⟨true,4,32,some (.agg [.lit (.int .i64 0),.lit .nilFunc,.lit .nilFunc,.lit .nilFunc]),.struct [(0,3),(1,34),(2,52),(3,40)],none,none⟩),
 (56,⟨false,1,8,some (.lit .nilFunc),.other,none,none⟩),
 (57,⟨false,1,8,some (.lit .nilFunc),.other,none,none⟩),
 (58,⟨false,1,24,some (.lit (.slice none 0 0)),.slice 67,none,none⟩),
 (59,⟨false,1,8,some (.lit .nilFunc),.other,none,none⟩),
 (60,⟨false,1,2,some (.lit (.int .u16 0)),.other,none,none⟩),
 (61,⟨true,10,64,some (.agg [.lit (.int .u16 0),.lit (.bool false),.lit (.int .i64 0),.lit (.int .i64 0),.lit (.int .i64 0),.lit (.int .i64 0),.lit (.int .i64 0),.lit (.int .i64 0),.lit (.bool false),.lit (.bool false)]),.struct [(0,60),(1,4),(2,37)],some [.int .u16,.bool,.int .i64,.int .i64,.int .i64,.int .i64,.int .i64,.int .i64,.bool,.bool],none⟩),
 (62,⟨true,10,64,some (.agg [.lit (.int .u16 0),.lit (.bool false),.lit (.int .i64 0),.lit (.int .i64 0),.lit (.int .i64 0),.lit (.int .i64 0),.lit (.int .i64 0),.lit (.int .i64 0),.lit (.bool false),.lit (.bool false)]),.struct [(0,60),(1,4),(2,37)],some [.int .u16,.bool,.int .i64,.int .i64,.int .i64,.int .i64,.int .i64,.int .i64,.bool,.bool],none⟩),
 (63,⟨false,1,8,some (.lit .nilFunc),.other,none,none⟩),
 (64,⟨true,28,224,some (.agg [.lit (.int .i64 0),.lit .nilFunc,.lit .nilFunc,.lit .nilFunc,.lit (.int .i64 0),.lit .nilFunc,.lit .nilFunc,.lit .nilFunc,.lit (.int .i64 0),.lit .nilFunc,.lit .nilFunc,.lit .nilFunc,.lit (.int .i64 0),.lit .nilFunc,.lit .nilFunc,.lit .nilFunc,.lit (.int .i64 0),.lit .nilFunc,.lit .nilFunc,.lit .nilFunc,.lit (.int .i64 0),.lit .nilFunc,.lit .nilFunc,.lit .nilFunc,.lit (.int .i64 0),.lit .nilFunc,.lit .nilFunc,.lit .nilFunc]),.array 7 54,none,none⟩),
 (65,⟨false,1,8,some (.lit .nilFunc),.other,none,none⟩),
 (66,⟨true,9,64,some (.agg [.lit (.int .i64 0),.lit (.int .i64 0),.lit (.int .i64 0),.lit (.int .i64 0),.lit (.int .i64 0),.lit (.int .i64 0),.lit (.bool false),.lit (.bool false),.lit (.int .i64 0)]),.struct [(0,37),(8,3)],some [.int .i64,.int .i64,.int .i64,.int .i64,.int .i64,.int .i64,.bool,.bool,.int .i64],none⟩),
 (67,⟨true,9,64,some (.agg [.lit (.int .i64 0),.lit (.int .i64 0),.lit (.int .i64 0),.lit (.int .i64 0),.lit (.int .i64 0),.lit (.int .i64 0),.lit (.bool false),.lit (.bool false),.lit (.int .i64 0)]),.struct [(0,37),(8,3)],some [.int .i64,.int .i64,.int .i64,.int .i64,.int .i64,.int .i64,.bool,.bool,.int .i64],none⟩),
 (68,⟨true,15,136,some (.agg [.lit (.int .i64 0),.lit (.int .i64 0),.lit (.int .i64 0),.lit (.int .i64 0),.lit (.int .i64 0),.lit (.slice none 0 0),.lit (.int .i64 0),.lit (.int .i64 0),.lit (.int .i64 0),.lit (.int .i64 0),.lit (.int .i64 0),.lit (.int .i64 0),.lit (.int .i64 0),.lit (.int .i64 0),.lit (.int .u64 0)]),.struct [(0,29)],none,none⟩),
 (69,⟨true,15,136,some (.agg [.lit (.int .i64 0),.lit (.int .i64 0),.lit (.int .i64 0),.lit (.int .i64 0),.lit (.int .i64 0),.lit (.slice none 0 0),.lit (.int .i64 0),.lit (.int .i64 0),.lit (.int .i64 0),.lit (.int .i64 0),.lit (.int .i64 0),.lit (.int .i64 0),.lit (.int .i64 0),.lit (.int .i64 0),.lit (.int .u64 0)]),.struct [(0,29)],none,none⟩),
 (70,⟨false,1,8,some (.lit .nilFunc),.other,none,none⟩),
 (71,⟨false,1,8,some (.lit .nilFunc),.other,none,none⟩),
 (72,⟨false,1,8,some (.lit .nilFunc),.other,none,none⟩),
 (73,⟨false,1,8,some (.lit .nilFunc),.other,none,none⟩),
 (74,⟨false,1,8,some (.lit .nilFunc),.other,none,none⟩),
 (75,⟨false,1,8,some (.lit (.pointer none)),.other,none,none⟩),
 (76,⟨true,15,136,some (.agg [.lit (.int .i64 0),.lit (.int .i64 0),.lit (.int .i64 0),.lit (.int .i64 0),.lit (.int .i64 0),.lit (.slice none 0 0),.lit (.int .i64 0),.lit (.int .i64 0),.lit (.int .i64 0),.lit (.int .i64 0),.lit (.int .i64 0),.lit (.int .i64 0),.lit (.int .i64 0),.lit (.int .i64 0),.lit (.int .u64 0)]),.struct [(0,29)],none,none⟩),
 (78,⟨false,1,8,some (.lit .nilFunc),.other,none,none⟩),
 (79,⟨false,1,8,some (.lit .nilFunc),.other,none,none⟩),
 (80,⟨false,1,8,some (.lit .nilFunc),.other,none,none⟩),
 (81,⟨false,1,24,some (.lit (.slice none 0 0)),.slice 3,none,none⟩),
 (82,⟨false,1,8,some (.lit (.pointer none)),.other,none,none⟩),
 (84,⟨false,1,8,some (.lit .nilFunc),.other,none,none⟩),
 (85,⟨true,16,144,some (.agg [.lit (.int .i64 0),.lit (.int .i64 0),.lit (.int .i64 0),.lit (.int .i64 0),.lit (.int .i64 0),.lit (.slice none 0 0),.lit (.int .i64 0),.lit (.int .i64 0),.lit (.int .i64 0),.lit (.int .i64 0),.lit (.int .i64 0),.lit (.int .i64 0),.lit (.int .i64 0),.lit (.int .i64 0),.lit (.int .u64 0),.lit (.int .i64 0)]),.struct [(0,29),(15,3)],none,none⟩),
 (86,⟨true,16,144,some (.agg [.lit (.int .i64 0),.lit (.int .i64 0),.lit (.int .i64 0),.lit (.int .i64 0),.lit (.int .i64 0),.lit (.slice none 0 0),.lit (.int .i64 0),.lit (.int .i64 0),.lit (.int .i64 0),.lit (.int .i64 0),.lit (.int .i64 0),.lit (.int .i64 0),.lit (.int .i64 0),.lit (.int .i64 0),.lit (.int .u64 0),.lit (.int .i64 0)]),.struct [(0,29),(15,3)],none,none⟩),
 (87,⟨false,1,8,some (.lit .nilFunc),.other,none,none⟩),
 (88,⟨false,1,8,some (.lit (.pointer none)),.other,none,none⟩),
 (89,⟨true,15,136,some (.agg [.lit (.int .i64 0),.lit (.int .i64 0),.lit (.int .i64 0),.lit (.int .i64 0),.lit (.int .i64 0),.lit (.slice none 0 0),.lit (.int .i64 0),.lit (.int .i64 0),.lit (.int .i64 0),.lit (.int .i64 0),.lit (.int .i64 0),.lit (.int .i64 0),.lit (.int .i64 0),.lit (.int .i64 0),.lit (.int .u64 0)]),.struct [(0,29)],none,none⟩),
 (91,⟨false,1,8,some (.lit .nilFunc),.other,none,none⟩),
 (93,⟨false,1,8,some (.lit .nilFunc),.other,none,none⟩),
 (94,⟨false,1,8,some (.lit .nilFunc),.other,none,none⟩),
 (95,⟨false,1,8,some (.lit .nilFunc),.other,none,none⟩),
 (96,⟨false,1,8,some (.lit .nilFunc),.other,none,none⟩),
 (97,⟨false,1,8,some (.lit .nilFunc),.other,none,none⟩),
 (98,⟨false,1,8,some (.lit .nilFunc),.other,none,none⟩),
 (99,⟨false,1,8,some (.lit (.pointer none)),.other,none,none⟩),
 (101,⟨false,1,8,some (.lit .nilFunc),.other,none,none⟩),
 (102,⟨true,2,48,some (.agg [.lit (.slice none 0 0),.lit (.slice none 0 0)]),.array 2 58,none,none⟩),
 (103,⟨true,19,216,some (.agg [.lit (.int .i64 0),.lit (.int .i64 0),.lit (.int .i64 0),.lit (.int .i64 0),.lit (.int .i64 0),.lit (.slice none 0 0),.lit (.int .i64 0),.lit (.int .i64 0),.lit (.int .i64 0),.lit (.int .i64 0),.lit (.int .i64 0),.lit (.int .i64 0),.lit (.int .i64 0),.lit (.int .i64 0),.lit (.int .u64 0),.lit (.slice none 0 0),.lit (.slice none 0 0),.lit (.int .i64 0),.lit (.slice none 0 0)]),.struct [(0,29),(15,102),(17,3),(18,38)],none,none⟩),
 (104,⟨true,19,216,some (.agg [.lit (.int .i64 0),.lit (.int .i64 0),.lit (.int .i64 0),.lit (.int .i64 0),.lit (.int .i64 0),.lit (.slice none 0 0),.lit (.int .i64 0),.lit (.int .i64 0),.lit (.int .i64 0),.lit (.int .i64 0),.lit (.int .i64 0),.lit (.int .i64 0),.lit (.int .i64 0),.lit (.int .i64 0),.lit (.int .u64 0),.lit (.slice none 0 0),.lit (.slice none 0 0),.lit (.int .i64 0),.lit (.slice none 0 0)]),.struct [(0,29),(15,102),(17,3),(18,38)],none,none⟩),
 (105,⟨false,1,8,some (.lit .nilFunc),.other,none,none⟩),
 (106,⟨false,1,8,some (.lit .nilFunc),.other,none,none⟩),
 (108,⟨false,1,8,some (.lit .nilFunc),.other,none,none⟩),
 (109,⟨false,1,8,some (.lit .nilFunc),.other,none,none⟩),
 (110,⟨false,1,8,some (.lit .nilFunc),.other,none,none⟩),
 (111,⟨false,1,8,some (.lit (.pointer none)),.other,none,none⟩),
 (112,⟨true,4,32,some (.agg [.lit (.int .i64 0),.lit (.int .i64 0),.lit (.int .i64 0),.lit (.int .i64 0)]),.array 4 3,some [.int .i64,.int .i64,.int .i64,.int .i64],none⟩),
 (113,⟨false,1,8,some (.lit .nilFunc),.other,none,none⟩),
 (114,⟨false,1,8,some (.lit .nilFunc),.other,none,none⟩),
 (115,⟨false,1,8,some (.lit .nilFunc),.other,none,none⟩),
 (117,⟨false,1,8,some (.lit .nilFunc),.other,none,none⟩),
 (118,⟨false,1,8,some (.lit (.int .u64 0)),.other,none,none⟩),
 (119,⟨false,1,8,some (.lit .nilFunc),.other,none,none⟩),
 (120,⟨false,1,8,some (.lit .nilFunc),.other,none,none⟩),
 (121,⟨false,1,8,some (.lit .nilFunc),.other,none,none⟩),
 (122,⟨false,1,8,some (.lit .nilFunc),.other,none,none⟩),
 (123,⟨false,1,8,some (.lit .nilFunc),.other,none,none⟩),
 (124,⟨true,2,16,some (.agg [.lit (.int .u64 0),.lit (.int .u64 0)]),.struct [(0,118),(1,27)],none,none⟩),
 (125,⟨true,6,48,some (.agg [.lit (.int .u64 0),.lit (.int .u64 0),.lit (.int .u64 0),.lit (.int .u64 0),.lit (.int .u64 0),.lit (.int .u64 0)]),.array 3 124,some [.int .u64,.int .u64,.int .u64,.int .u64,.int .u64,.int .u64],none⟩),
 (126,⟨false,1,8,some (.lit .nilFunc),.other,none,none⟩),
 (127,⟨true,4,40,some (.agg [.lit (.pointer none),.lit (.pointer none),.lit (.pointer none),.lit (.string ByteArray.empty)]),.struct [(0,17),(1,17),(2,17),(3,9)],none,none⟩),
 (128,⟨true,4,40,some (.agg [.lit (.pointer none),.lit (.pointer none),.lit (.pointer none),.lit (.string ByteArray.empty)]),.struct [(0,17),(1,17),(2,17),(3,9)],none,none⟩),
 (132,⟨false,1,4,some (.lit (.int .u32 0)),.other,none,none⟩),
 (133,⟨false,1,1,some (.lit (.int .u8 0)),.other,none,none⟩),
 (134,⟨false,1,1,some (.lit (.int .u8 0)),.other,none,none⟩),
 (135,⟨false,1,8,some (.lit .nilFunc),.other,none,none⟩),
 (136,⟨false,1,8,some (.lit (.pointer none)),.other,none,none⟩),
 (137,⟨false,1,4,some (.lit (.int .i32 0)),.other,none,none⟩),
 (138,⟨false,1,4,some (.lit (.int .i32 0)),.other,none,none⟩),
 (139,⟨true,11,48,some (.agg [.lit (.int .u64 0),.lit (.int .u64 0),.lit (.int .u32 0),.lit (.int .u8 0),.lit (.int .u8 0),.lit (.int .u8 0),.lit (.int .u8 0),.lit .nilFunc,.lit (.pointer none),.lit (.int .i32 0),.lit (.int .i32 0)]),.struct [(0,12),(1,12),(2,132),(3,133),(4,5),(5,5),(6,134),(7,135),(8,136),(9,137),(10,138)],none,none⟩),
 (140,⟨true,11,48,some (.agg [.lit (.int .u64 0),.lit (.int .u64 0),.lit (.int .u32 0),.lit (.int .u8 0),.lit (.int .u8 0),.lit (.int .u8 0),.lit (.int .u8 0),.lit .nilFunc,.lit (.pointer none),.lit (.int .i32 0),.lit (.int .i32 0)]),.struct [(0,12),(1,12),(2,132),(3,133),(4,5),(5,5),(6,134),(7,135),(8,136),(9,137),(10,138)],none,none⟩)]
abbrev T:Tys:=⟨den,up,dn,rp,aggT,sizeT,zeroT⟩
end Go.Proofs.YtgalanoklaibcaaDoor
end
