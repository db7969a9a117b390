/- Part 9 of the proof: texts of this session laid one behind the other. -/
import Derived.KernelRfl
import Derived.Test.YtedjbjphpnkpoaaX8
set_option linter.unusedVariables false
set_option linter.unusedSimpArgs false
section
/- Models of the functions of this seat hold (part 6). -/
set_option maxRecDepth 100000
set_option maxHeartbeats 0
namespace Go.Proofs.Ytedjbjphpnkpoaa
open Go Go.PI
theorem s52:(S 52).Ok:=aA s51 (f:=72) rfl rfl rfl 400 (fun x=>by kernel_rfl)
theorem s53:(S 53).Ok:=aA s52 (f:=46) rfl rfl rfl 400 (fun x=>by kernel_rfl)
theorem s54:(S 54).Ok:=aA s53 (f:=25) rfl rfl rfl 400 (fun x=>by kernel_rfl)
end Go.Proofs.Ytedjbjphpnkpoaa
end
section
/- Models of the functions of this seat hold (part 7). -/
set_option maxRecDepth 100000
set_option maxHeartbeats 0
namespace Go.Proofs.Ytedjbjphpnkpoaa
open Go Go.PI
theorem s55:(S 55).Ok:=aA s54 (f:=79) rfl rfl rfl 400 (fun x=>by kernel_rfl)
theorem s56:(S 56).Ok:=aA s55 (f:=10) rfl rfl rfl 400 (fun x=>by kernel_rfl)
theorem s57:(S 57).Ok:=aA s56 (f:=9) rfl rfl rfl 400 (fun x=>by kernel_rfl)
end Go.Proofs.Ytedjbjphpnkpoaa
end
section
/- Models of the functions of this seat hold (part 8). -/
set_option maxRecDepth 100000
set_option maxHeartbeats 0
namespace Go.Proofs.Ytedjbjphpnkpoaa
open Go Go.PI
end Go.Proofs.Ytedjbjphpnkpoaa
end
