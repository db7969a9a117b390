/- Part 10 of the proof: texts of this session laid one behind the other. -/
import Derived.KernelRfl
import Derived.Test.YtpodhambaehlkaaGreatDoorX9
set_option linter.unusedVariables false
set_option linter.unusedSimpArgs false
section
/- Models of the functions of this seat hold (part 10). -/
set_option maxRecDepth 100000
set_option maxHeartbeats 0
namespace Go.Proofs.YtpodhambaehlkaaGreatDoor
open Go Go.PI
theorem s79:(S 79).Ok:=ar s78 (f:=73) rfl rfl rfl 400 (fun x=>by kernel_rfl)
theorem s80:(S 80).Ok:=ar s79 (f:=61) rfl rfl rfl 400 (fun x=>by kernel_rfl)
theorem s81:(S 81).Ok:=ar s80 (f:=86) rfl rfl rfl 400 (fun x=>by kernel_rfl)
theorem s82:(S 82).Ok:=ar s81 (f:=62) rfl rfl rfl 400 (fun x=>by kernel_rfl)
theorem s83:(S 83).Ok:=ar s82 (f:=40) rfl rfl rfl 400 (fun x=>by kernel_rfl)
theorem s84:(S 84).Ok:=ar s83 (f:=41) rfl rfl rfl 400 (fun x=>by kernel_rfl)
theorem s85:(S 85).Ok:=ar s84 (f:=20) rfl rfl rfl 400 (fun x=>by kernel_rfl)
theorem s86:(S 86).Ok:=ar s85 (f:=13) rfl rfl rfl 400 (fun x=>by kernel_rfl)
theorem s87:(S 87).Ok:=ar s86 (f:=43) rfl rfl rfl 400 (fun x=>by kernel_rfl)
theorem s88:(S 88).Ok:=ar s87 (f:=24) rfl rfl rfl 400 (fun x=>by kernel_rfl)
theorem s89:(S 89).Ok:=ar s88 (f:=17) rfl rfl rfl 400 (fun x=>by kernel_rfl)
theorem s90:(S 90).Ok:=ar s89 (f:=21) rfl rfl rfl 400 (fun x=>by kernel_rfl)
theorem s91:(S 91).Ok:=ar s90 (f:=4) rfl rfl rfl 400 (fun x=>by kernel_rfl)
theorem s92:(S 92).Ok:=ar s91 (f:=18) rfl rfl rfl 400 (fun x=>by kernel_rfl)
theorem s93:(S 93).Ok:=ar s92 (f:=25) rfl rfl rfl 400 (fun x=>by kernel_rfl)
theorem s94:(S 94).Ok:=ar s93 (f:=5) rfl rfl rfl 400 (fun x=>by kernel_rfl)
end Go.Proofs.YtpodhambaehlkaaGreatDoor
end
