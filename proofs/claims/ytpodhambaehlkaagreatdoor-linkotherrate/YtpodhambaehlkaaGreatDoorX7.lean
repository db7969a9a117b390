/- Part 7 of the proof: texts of this session laid one behind the other. -/
import Derived.KernelRfl
import Derived.Test.YtpodhambaehlkaaGreatDoorX6
set_option linter.unusedVariables false
set_option linter.unusedSimpArgs false
section
/- Models of the functions of this seat hold (part 2). -/
set_option maxRecDepth 100000
set_option maxHeartbeats 0
namespace Go.Proofs.YtpodhambaehlkaaGreatDoor
open Go Go.PI
theorem s31:(S 31).Ok:=ar s30 (f:=171) rfl rfl rfl 400 (fun x=>by kernel_rfl)
theorem s32:(S 32).Ok:=ar s31 (f:=170) rfl rfl rfl 400 (fun x=>by kernel_rfl)
theorem s33:(S 33).Ok:=ar s32 (f:=103) rfl rfl rfl 400 (fun x=>by kernel_rfl)
theorem s34:(S 34).Ok:=ar s33 (f:=104) rfl rfl rfl 400 (fun x=>by kernel_rfl)
theorem s35:(S 35).Ok:=ar s34 (f:=137) rfl rfl rfl 400 (fun x=>by kernel_rfl)
theorem s36:(S 36).Ok:=ar s35 (f:=138) rfl rfl rfl 400 (fun x=>by kernel_rfl)
theorem s37:(S 37).Ok:=ar s36 (f:=141) rfl rfl rfl 400 (fun x=>by kernel_rfl)
theorem s38:(S 38).Ok:=ar s37 (f:=139) rfl rfl rfl 400 (fun x=>by kernel_rfl)
theorem s39:(S 39).Ok:=ar s38 (f:=140) rfl rfl rfl 400 (fun x=>by kernel_rfl)
theorem s40:(S 40).Ok:=ar s39 (f:=105) rfl rfl rfl 400 (fun x=>by kernel_rfl)
theorem s41:(S 41).Ok:=ar s40 (f:=106) rfl rfl rfl 400 (fun x=>by kernel_rfl)
theorem s42:(S 42).Ok:=ar s41 (f:=143) rfl rfl rfl 400 (fun x=>by kernel_rfl)
end Go.Proofs.YtpodhambaehlkaaGreatDoor
end
section
/- Models of the functions of this seat hold (part 3). -/
set_option maxRecDepth 100000
set_option maxHeartbeats 0
namespace Go.Proofs.YtpodhambaehlkaaGreatDoor
open Go Go.PI
theorem s43:(S 43).Ok:=ar s42 (f:=107) rfl rfl rfl 400 (fun x=>by kernel_rfl)
theorem s44:(S 44).Ok:=ar s43 (f:=144) rfl rfl rfl 400 (fun x=>by kernel_rfl)
theorem s45:(S 45).Ok:=ar s44 (f:=145) rfl rfl rfl 400 (fun x=>by kernel_rfl)
end Go.Proofs.YtpodhambaehlkaaGreatDoor
end
