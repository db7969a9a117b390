/- Part 9 of the proof: texts of this session laid one behind the other. -/
import Derived.KernelRfl
import Derived.Test.YtgalanoklaibcaaGreatDoorX8
set_option linter.unusedVariables false
set_option linter.unusedSimpArgs false
section
/- Models of the functions of this seat hold (part 7). -/
set_option maxRecDepth 100000
set_option maxHeartbeats 0
namespace Go.Proofs.YtgalanoklaibcaaGreatDoor
open Go Go.PI
theorem s69:(S 69).Ok:=mkS_next s68 (f:=67) rfl rfl rfl 400 (fun x=>by kernel_rfl)
theorem s70:(S 70).Ok:=mkS_next s69 (f:=62) rfl rfl rfl 400 (fun x=>by kernel_rfl)
theorem s71:(S 71).Ok:=mkS_next s70 (f:=46) rfl rfl rfl 400 (fun x=>by kernel_rfl)
end Go.Proofs.YtgalanoklaibcaaGreatDoor
end
section
/- Models of the functions of this seat hold (part 8). -/
set_option maxRecDepth 100000
set_option maxHeartbeats 0
namespace Go.Proofs.YtgalanoklaibcaaGreatDoor
open Go Go.PI
theorem s72:(S 72).Ok:=mkS_next s71 (f:=70) rfl rfl rfl 400 (fun x=>by kernel_rfl)
theorem s73:(S 73).Ok:=mkS_next s72 (f:=47) rfl rfl rfl 400 (fun x=>by kernel_rfl)
theorem s74:(S 74).Ok:=mkS_next s73 (f:=18) rfl rfl rfl 400 (fun x=>by kernel_rfl)
theorem s75:(S 75).Ok:=mkS_next s74 (f:=5) rfl rfl rfl 400 (fun x=>by kernel_rfl)
end Go.Proofs.YtgalanoklaibcaaGreatDoor
end
section
/- Models of the functions of this seat hold (part 9). -/
set_option maxRecDepth 100000
set_option maxHeartbeats 0
namespace Go.Proofs.YtgalanoklaibcaaGreatDoor
open Go Go.PI
theorem s76:(S 76).Ok:=mkS_next s75 (f:=6) rfl rfl rfl 400 (fun x=>by kernel_rfl)
theorem s77:(S 77).Ok:=mkS_next s76 (f:=21) rfl rfl rfl 400 (fun x=>by kernel_rfl)
theorem s78:(S 78).Ok:=mkS_next s77 (f:=22) rfl rfl rfl 400 (fun x=>by kernel_rfl)
end Go.Proofs.YtgalanoklaibcaaGreatDoor
end
section
/- Models of the functions of this seat hold (part 10). -/
set_option maxRecDepth 100000
set_option maxHeartbeats 0
namespace Go.Proofs.YtgalanoklaibcaaGreatDoor
open Go Go.PI
theorem s79:(S 79).Ok:=mkS_next s78 (f:=49) rfl rfl rfl 400 (fun x=>by kernel_rfl)
theorem s80:(S 80).Ok:=mkS_next s79 (f:=24) rfl rfl rfl 400 (fun x=>by kernel_rfl)
theorem s81:(S 81).Ok:=mkS_next s80 (f:=4) rfl rfl rfl 400 (fun x=>by kernel_rfl)
end Go.Proofs.YtgalanoklaibcaaGreatDoor
end
