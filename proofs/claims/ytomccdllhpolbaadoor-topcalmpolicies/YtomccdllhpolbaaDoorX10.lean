/- Part 10 of the proof: texts of this session laid one behind the other. -/
import Derived.KernelRfl
import Derived.Test.YtomccdllhpolbaaDoorX9
set_option linter.unusedVariables false
set_option linter.unusedSimpArgs false
section
/- Models of the functions of this seat hold (part 8). -/
set_option maxRecDepth 100000
set_option maxHeartbeats 0
namespace Go.Proofs.YtomccdllhpolbaaDoor
open Go Go.PI
theorem s59:(S 59).Ok:=mkS_next s58 (f:=14) rfl rfl rfl 400 (fun x=>by kernel_rfl)
theorem s60:(S 60).Ok:=mkS_next s59 (f:=8) rfl rfl rfl 400 (fun x=>by kernel_rfl)
theorem s61:(S 61).Ok:=mkS_next s60 (f:=4) rfl rfl rfl 400 (fun x=>by kernel_rfl)
end Go.Proofs.YtomccdllhpolbaaDoor
end
section
/- Models of the functions of this seat hold (part 9). -/
set_option maxRecDepth 100000
set_option maxHeartbeats 0
namespace Go.Proofs.YtomccdllhpolbaaDoor
open Go Go.PI
theorem s62:(S 62).Ok:=mkS_next s61 (f:=5) rfl rfl rfl 400 (fun x=>by kernel_rfl)
theorem s63:(S 63).Ok:=mkS_next s62 (f:=9) rfl rfl rfl 400 (fun x=>by kernel_rfl)
theorem s64:(S 64).Ok:=mkS_next s63 (f:=3) rfl rfl rfl 400 (fun x=>by kernel_rfl)
end Go.Proofs.YtomccdllhpolbaaDoor
end
