/- Part 8 of the proof: texts of this session laid one behind the other. -/
import Derived.KernelRfl
import Derived.Test.YtedjbjphpnkpoaaX7
set_option linter.unusedVariables false
set_option linter.unusedSimpArgs false
section
/- Models of the functions of this seat hold (part 4). -/
set_option maxRecDepth 100000
set_option maxHeartbeats 0
namespace Go.Proofs.Ytedjbjphpnkpoaa
open Go Go.PI
theorem s45:(S 45).Ok:=aA s44 (f:=121) rfl rfl rfl 400 (fun x=>by kernel_rfl)
theorem s46:(S 46).Ok:=aA s45 (f:=122) rfl rfl rfl 400 (fun x=>by kernel_rfl)
theorem s47:(S 47).Ok:=aA s46 (f:=12) rfl rfl rfl 400 (fun x=>by kernel_rfl)
theorem s48:(S 48).Ok:=aA s47 (f:=28) rfl rfl rfl 400 (fun x=>by kernel_rfl)
theorem s49:(S 49).Ok:=aA s48 (f:=27) rfl rfl rfl 400 (fun x=>by kernel_rfl)
end Go.Proofs.Ytedjbjphpnkpoaa
end
section
/- Models of the functions of this seat hold (part 5). -/
set_option maxRecDepth 100000
set_option maxHeartbeats 0
namespace Go.Proofs.Ytedjbjphpnkpoaa
open Go Go.PI
theorem s50:(S 50).Ok:=aA s49 (f:=20) rfl rfl rfl 400 (fun x=>by kernel_rfl)
theorem s51:(S 51).Ok:=aA s50 (f:=71) rfl rfl rfl 400 (fun x=>by kernel_rfl)
end Go.Proofs.Ytedjbjphpnkpoaa
end
