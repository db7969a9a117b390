/- Part 7 of the proof: texts of this session laid one behind the other. -/
import Derived.KernelRfl
import Derived.Test.YtgalanoklaibcaaGreatDoorX6
set_option linter.unusedVariables false
set_option linter.unusedSimpArgs false
section
/- Models of the functions of this seat hold (part 2). -/
set_option maxRecDepth 100000
set_option maxHeartbeats 0
namespace Go.Proofs.YtgalanoklaibcaaGreatDoor
open Go Go.PI
theorem s31:(S 31).Ok:=mkS_next s30 (f:=150) rfl rfl rfl 400 (fun x=>by kernel_rfl)
theorem s32:(S 32).Ok:=mkS_next s31 (f:=153) rfl rfl rfl 400 (fun x=>by kernel_rfl)
theorem s33:(S 33).Ok:=mkS_next s32 (f:=152) rfl rfl rfl 400 (fun x=>by kernel_rfl)
theorem s34:(S 34).Ok:=mkS_next s33 (f:=81) rfl rfl rfl 400 (fun x=>by kernel_rfl)
theorem s35:(S 35).Ok:=mkS_next s34 (f:=82) rfl rfl rfl 400 (fun x=>by kernel_rfl)
theorem s36:(S 36).Ok:=mkS_next s35 (f:=119) rfl rfl rfl 400 (fun x=>by kernel_rfl)
theorem s37:(S 37).Ok:=mkS_next s36 (f:=120) rfl rfl rfl 400 (fun x=>by kernel_rfl)
theorem s38:(S 38).Ok:=mkS_next s37 (f:=123) rfl rfl rfl 400 (fun x=>by kernel_rfl)
theorem s39:(S 39).Ok:=mkS_next s38 (f:=121) rfl rfl rfl 400 (fun x=>by kernel_rfl)
theorem s40:(S 40).Ok:=mkS_next s39 (f:=122) rfl rfl rfl 400 (fun x=>by kernel_rfl)
theorem s41:(S 41).Ok:=mkS_next s40 (f:=83) rfl rfl rfl 400 (fun x=>by kernel_rfl)
theorem s42:(S 42).Ok:=mkS_next s41 (f:=84) rfl rfl rfl 400 (fun x=>by kernel_rfl)
end Go.Proofs.YtgalanoklaibcaaGreatDoor
end
section
/- Models of the functions of this seat hold (part 3). -/
set_option maxRecDepth 100000
set_option maxHeartbeats 0
namespace Go.Proofs.YtgalanoklaibcaaGreatDoor
open Go Go.PI
theorem s43:(S 43).Ok:=mkS_next s42 (f:=125) rfl rfl rfl 400 (fun x=>by kernel_rfl)
theorem s44:(S 44).Ok:=mkS_next s43 (f:=85) rfl rfl rfl 400 (fun x=>by kernel_rfl)
theorem s45:(S 45).Ok:=mkS_next s44 (f:=126) rfl rfl rfl 400 (fun x=>by kernel_rfl)
end Go.Proofs.YtgalanoklaibcaaGreatDoor
end
