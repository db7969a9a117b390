/- Part 7 of the proof: texts of this session laid one behind the other. -/
import Derived.KernelRfl
import Derived.Test.YtomccdllhpolbaaDoorX6
set_option linter.unusedVariables false
set_option linter.unusedSimpArgs false
section
/- Models of the functions of this seat hold (part 2). -/
set_option maxRecDepth 100000
set_option maxHeartbeats 0
namespace Go.Proofs.YtomccdllhpolbaaDoor
open Go Go.PI
theorem s22:(S 22).Ok:=mkS_next s21 (f:=50) rfl rfl rfl 400 (fun x=>by kernel_rfl)
theorem s23:(S 23).Ok:=mkS_next s22 (f:=53) rfl rfl rfl 400 (fun x=>by kernel_rfl)
theorem s24:(S 24).Ok:=mkS_next s23 (f:=25) rfl rfl rfl 400 (fun x=>by kernel_rfl)
theorem s25:(S 25).Ok:=mkS_next s24 (f:=26) rfl rfl rfl 400 (fun x=>by kernel_rfl)
theorem s26:(S 26).Ok:=mkS_next s25 (f:=27) rfl rfl rfl 400 (fun x=>by kernel_rfl)
theorem s27:(S 27).Ok:=mkS_next s26 (f:=83) rfl rfl rfl 400 (fun x=>by kernel_rfl)
theorem s28:(S 28).Ok:=mkS_next s27 (f:=60) rfl rfl rfl 400 (fun x=>by kernel_rfl)
theorem s29:(S 29).Ok:=mkS_next s28 (f:=59) rfl rfl rfl 400 (fun x=>by kernel_rfl)
theorem s30:(S 30).Ok:=mkS_next s29 (f:=28) rfl rfl rfl 400 (fun x=>by kernel_rfl)
theorem s31:(S 31).Ok:=mkS_next s30 (f:=94) rfl rfl rfl 400 (fun x=>by kernel_rfl)
theorem s32:(S 32).Ok:=mkS_next s31 (f:=97) rfl rfl rfl 400 (fun x=>by kernel_rfl)
theorem s33:(S 33).Ok:=mkS_next s32 (f:=96) rfl rfl rfl 400 (fun x=>by kernel_rfl)
end Go.Proofs.YtomccdllhpolbaaDoor
end
