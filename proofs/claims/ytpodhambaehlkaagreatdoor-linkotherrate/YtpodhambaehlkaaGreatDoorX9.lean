/- Part 9 of the proof: texts of this session laid one behind the other. -/
import Derived.KernelRfl
import Derived.Test.YtpodhambaehlkaaGreatDoorX8
set_option linter.unusedVariables false
set_option linter.unusedSimpArgs false
section
/- Models of the functions of this seat hold (part 7). -/
set_option maxRecDepth 100000
set_option maxHeartbeats 0
namespace Go.Proofs.YtpodhambaehlkaaGreatDoor
open Go Go.PI
theorem s69:(S 69).Ok:=ar s68 (f:=33) rfl rfl rfl 400 (fun x=>by kernel_rfl)
theorem s70:(S 70).Ok:=ar s69 (f:=47) rfl rfl rfl 400 (fun x=>by kernel_rfl)
theorem s71:(S 71).Ok:=ar s70 (f:=32) rfl rfl rfl 400 (fun x=>by kernel_rfl)
end Go.Proofs.YtpodhambaehlkaaGreatDoor
end
section
/- Models of the functions of this seat hold (part 8). -/
set_option maxRecDepth 100000
set_option maxHeartbeats 0
namespace Go.Proofs.YtpodhambaehlkaaGreatDoor
open Go Go.PI
theorem s72:(S 72).Ok:=ar s71 (f:=83) rfl rfl rfl 400 (fun x=>by kernel_rfl)
theorem s73:(S 73).Ok:=ar s72 (f:=57) rfl rfl rfl 400 (fun x=>by kernel_rfl)
theorem s74:(S 74).Ok:=ar s73 (f:=58) rfl rfl rfl 400 (fun x=>by kernel_rfl)
theorem s75:(S 75).Ok:=ar s74 (f:=59) rfl rfl rfl 400 (fun x=>by kernel_rfl)
end Go.Proofs.YtpodhambaehlkaaGreatDoor
end
section
/- Models of the functions of this seat hold (part 9). -/
set_option maxRecDepth 100000
set_option maxHeartbeats 0
namespace Go.Proofs.YtpodhambaehlkaaGreatDoor
open Go Go.PI
theorem s76:(S 76).Ok:=ar s75 (f:=84) rfl rfl rfl 400 (fun x=>by kernel_rfl)
theorem s77:(S 77).Ok:=ar s76 (f:=60) rfl rfl rfl 400 (fun x=>by kernel_rfl)
theorem s78:(S 78).Ok:=ar s77 (f:=85) rfl rfl rfl 400 (fun x=>by kernel_rfl)
end Go.Proofs.YtpodhambaehlkaaGreatDoor
end
