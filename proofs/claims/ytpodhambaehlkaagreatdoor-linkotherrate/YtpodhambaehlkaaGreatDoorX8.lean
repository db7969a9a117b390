/- Part 8 of the proof: texts of this session laid one behind the other. -/
import Derived.KernelRfl
import Derived.Test.YtpodhambaehlkaaGreatDoorX7
set_option linter.unusedVariables false
set_option linter.unusedSimpArgs false
section
/- Models of the functions of this seat hold (part 4). -/
set_option maxRecDepth 100000
set_option maxHeartbeats 0
namespace Go.Proofs.YtpodhambaehlkaaGreatDoor
open Go Go.PI
theorem s46:(S 46).Ok:=ar s45 (f:=147) rfl rfl rfl 400 (fun x=>by kernel_rfl)
theorem s47:(S 47).Ok:=ar s46 (f:=146) rfl rfl rfl 400 (fun x=>by kernel_rfl)
theorem s48:(S 48).Ok:=ar s47 (f:=108) rfl rfl rfl 400 (fun x=>by kernel_rfl)
theorem s49:(S 49).Ok:=ar s48 (f:=109) rfl rfl rfl 400 (fun x=>by kernel_rfl)
theorem s50:(S 50).Ok:=ar s49 (f:=165) rfl rfl rfl 400 (fun x=>by kernel_rfl)
theorem s51:(S 51).Ok:=ar s50 (f:=110) rfl rfl rfl 400 (fun x=>by kernel_rfl)
end Go.Proofs.YtpodhambaehlkaaGreatDoor
end
section
/- Models of the functions of this seat hold (part 5). -/
set_option maxRecDepth 100000
set_option maxHeartbeats 0
namespace Go.Proofs.YtpodhambaehlkaaGreatDoor
open Go Go.PI
theorem s52:(S 52).Ok:=ar s51 (f:=44) rfl rfl rfl 400 (fun x=>by kernel_rfl)
theorem s53:(S 53).Ok:=ar s52 (f:=38) rfl rfl rfl 400 (fun x=>by kernel_rfl)
theorem s54:(S 54).Ok:=ar s53 (f:=39) rfl rfl rfl 400 (fun x=>by kernel_rfl)
theorem s55:(S 55).Ok:=ar s54 (f:=28) rfl rfl rfl 400 (fun x=>by kernel_rfl)
theorem s56:(S 56).Ok:=ar s55 (f:=27) rfl rfl rfl 400 (fun x=>by kernel_rfl)
theorem s57:(S 57).Ok:=ar s56 (f:=22) rfl rfl rfl 400 (fun x=>by kernel_rfl)
theorem s58:(S 58).Ok:=ar s57 (f:=19) rfl rfl rfl 400 (fun x=>by kernel_rfl)
end Go.Proofs.YtpodhambaehlkaaGreatDoor
end
section
/- Models of the functions of this seat hold (part 6). -/
set_option maxRecDepth 100000
set_option maxHeartbeats 0
namespace Go.Proofs.YtpodhambaehlkaaGreatDoor
open Go Go.PI
theorem s59:(S 59).Ok:=ar s58 (f:=15) rfl rfl rfl 400 (fun x=>by kernel_rfl)
theorem s60:(S 60).Ok:=ar s59 (f:=26) rfl rfl rfl 400 (fun x=>by kernel_rfl)
theorem s61:(S 61).Ok:=ar s60 (f:=45) rfl rfl rfl 400 (fun x=>by kernel_rfl)
theorem s62:(S 62).Ok:=ar s61 (f:=55) rfl rfl rfl 400 (fun x=>by kernel_rfl)
theorem s63:(S 63).Ok:=ar s62 (f:=9) rfl rfl rfl 400 (fun x=>by kernel_rfl)
theorem s64:(S 64).Ok:=ar s63 (f:=11) rfl rfl rfl 400 (fun x=>by kernel_rfl)
theorem s65:(S 65).Ok:=ar s64 (f:=6) rfl rfl rfl 400 (fun x=>by kernel_rfl)
theorem s66:(S 66).Ok:=ar s65 (f:=8) rfl rfl rfl 400 (fun x=>by kernel_rfl)
theorem s67:(S 67).Ok:=ar s66 (f:=7) rfl rfl rfl 400 (fun x=>by kernel_rfl)
theorem s68:(S 68).Ok:=ar s67 (f:=23) rfl rfl rfl 400 (fun x=>by kernel_rfl)
end Go.Proofs.YtpodhambaehlkaaGreatDoor
end
