/- Part 9 of the proof: texts of this session laid one behind the other. -/
import Derived.KernelRfl
import Derived.Test.YtomccdllhpolbaaDoorX8
set_option linter.unusedVariables false
set_option linter.unusedSimpArgs false
section
/- Models of the functions of this seat hold (part 5). -/
set_option maxRecDepth 100000
set_option maxHeartbeats 0
namespace Go.Proofs.YtomccdllhpolbaaDoor
open Go Go.PI
theorem s47:(S 47).Ok:=mkS_next s46 (f:=73) rfl rfl rfl 400 (fun x=>by kernel_rfl)
theorem s48:(S 48).Ok:=mkS_next s47 (f:=72) rfl rfl rfl 400 (fun x=>by kernel_rfl)
theorem s49:(S 49).Ok:=mkS_next s48 (f:=34) rfl rfl rfl 400 (fun x=>by kernel_rfl)
theorem s50:(S 50).Ok:=mkS_next s49 (f:=35) rfl rfl rfl 400 (fun x=>by kernel_rfl)
end Go.Proofs.YtomccdllhpolbaaDoor
end
section
/- Models of the functions of this seat hold (part 6). -/
set_option maxRecDepth 100000
set_option maxHeartbeats 0
namespace Go.Proofs.YtomccdllhpolbaaDoor
open Go Go.PI
theorem s51:(S 51).Ok:=mkS_next s50 (f:=91) rfl rfl rfl 400 (fun x=>by kernel_rfl)
theorem s52:(S 52).Ok:=mkS_next s51 (f:=36) rfl rfl rfl 400 (fun x=>by kernel_rfl)
theorem s53:(S 53).Ok:=mkS_next s52 (f:=7) rfl rfl rfl 400 (fun x=>by kernel_rfl)
end Go.Proofs.YtomccdllhpolbaaDoor
end
section
/- Models of the functions of this seat hold (part 7). -/
set_option maxRecDepth 100000
set_option maxHeartbeats 0
namespace Go.Proofs.YtomccdllhpolbaaDoor
open Go Go.PI
theorem s54:(S 54).Ok:=mkS_next s53 (f:=11) rfl rfl rfl 400 (fun x=>by kernel_rfl)
theorem s55:(S 55).Ok:=mkS_next s54 (f:=12) rfl rfl rfl 400 (fun x=>by kernel_rfl)
theorem s56:(S 56).Ok:=mkS_next s55 (f:=17) rfl rfl rfl 400 (fun x=>by kernel_rfl)
theorem s57:(S 57).Ok:=mkS_next s56 (f:=18) rfl rfl rfl 400 (fun x=>by kernel_rfl)
theorem s58:(S 58).Ok:=mkS_next s57 (f:=13) rfl rfl rfl 400 (fun x=>by kernel_rfl)
end Go.Proofs.YtomccdllhpolbaaDoor
end
