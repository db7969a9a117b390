/- Part 8 of the proof: texts of this session laid one behind the other. -/
import Derived.KernelRfl
import Derived.Test.YtomccdllhpolbaaDoorX7
set_option linter.unusedVariables false
set_option linter.unusedSimpArgs false
section
/- Models of the functions of this seat hold (part 3). -/
set_option maxRecDepth 100000
set_option maxHeartbeats 0
namespace Go.Proofs.YtomccdllhpolbaaDoor
open Go Go.PI
theorem s34:(S 34).Ok:=mkS_next s33 (f:=29) rfl rfl rfl 400 (fun x=>by kernel_rfl)
theorem s35:(S 35).Ok:=mkS_next s34 (f:=30) rfl rfl rfl 400 (fun x=>by kernel_rfl)
theorem s36:(S 36).Ok:=mkS_next s35 (f:=63) rfl rfl rfl 400 (fun x=>by kernel_rfl)
theorem s37:(S 37).Ok:=mkS_next s36 (f:=64) rfl rfl rfl 400 (fun x=>by kernel_rfl)
theorem s38:(S 38).Ok:=mkS_next s37 (f:=67) rfl rfl rfl 400 (fun x=>by kernel_rfl)
theorem s39:(S 39).Ok:=mkS_next s38 (f:=65) rfl rfl rfl 400 (fun x=>by kernel_rfl)
theorem s40:(S 40).Ok:=mkS_next s39 (f:=66) rfl rfl rfl 400 (fun x=>by kernel_rfl)
theorem s41:(S 41).Ok:=mkS_next s40 (f:=31) rfl rfl rfl 400 (fun x=>by kernel_rfl)
theorem s42:(S 42).Ok:=mkS_next s41 (f:=32) rfl rfl rfl 400 (fun x=>by kernel_rfl)
end Go.Proofs.YtomccdllhpolbaaDoor
end
section
/- Models of the functions of this seat hold (part 4). -/
set_option maxRecDepth 100000
set_option maxHeartbeats 0
namespace Go.Proofs.YtomccdllhpolbaaDoor
open Go Go.PI
theorem s43:(S 43).Ok:=mkS_next s42 (f:=69) rfl rfl rfl 400 (fun x=>by kernel_rfl)
theorem s44:(S 44).Ok:=mkS_next s43 (f:=33) rfl rfl rfl 400 (fun x=>by kernel_rfl)
theorem s45:(S 45).Ok:=mkS_next s44 (f:=70) rfl rfl rfl 400 (fun x=>by kernel_rfl)
theorem s46:(S 46).Ok:=mkS_next s45 (f:=71) rfl rfl rfl 400 (fun x=>by kernel_rfl)
end Go.Proofs.YtomccdllhpolbaaDoor
end
