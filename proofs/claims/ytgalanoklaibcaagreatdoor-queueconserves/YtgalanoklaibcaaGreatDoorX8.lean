/- Part 8 of the proof: texts of this session laid one behind the other. -/
import Derived.KernelRfl
import Derived.Test.YtgalanoklaibcaaGreatDoorX7
set_option linter.unusedVariables false
set_option linter.unusedSimpArgs false
section
/- Models of the functions of this seat hold (part 4). -/
set_option maxRecDepth 100000
set_option maxHeartbeats 0
namespace Go.Proofs.YtgalanoklaibcaaGreatDoor
open Go Go.PI
theorem s46:(S 46).Ok:=mkS_next s45 (f:=127) rfl rfl rfl 400 (fun x=>by kernel_rfl)
theorem s47:(S 47).Ok:=mkS_next s46 (f:=129) rfl rfl rfl 400 (fun x=>by kernel_rfl)
theorem s48:(S 48).Ok:=mkS_next s47 (f:=128) rfl rfl rfl 400 (fun x=>by kernel_rfl)
theorem s49:(S 49).Ok:=mkS_next s48 (f:=86) rfl rfl rfl 400 (fun x=>by kernel_rfl)
theorem s50:(S 50).Ok:=mkS_next s49 (f:=87) rfl rfl rfl 400 (fun x=>by kernel_rfl)
theorem s51:(S 51).Ok:=mkS_next s50 (f:=147) rfl rfl rfl 400 (fun x=>by kernel_rfl)
end Go.Proofs.YtgalanoklaibcaaGreatDoor
end
section
/- Models of the functions of this seat hold (part 5). -/
set_option maxRecDepth 100000
set_option maxHeartbeats 0
namespace Go.Proofs.YtgalanoklaibcaaGreatDoor
open Go Go.PI
theorem s52:(S 52).Ok:=mkS_next s51 (f:=88) rfl rfl rfl 400 (fun x=>by kernel_rfl)
theorem s53:(S 53).Ok:=mkS_next s52 (f:=8) rfl rfl rfl 400 (fun x=>by kernel_rfl)
theorem s54:(S 54).Ok:=mkS_next s53 (f:=12) rfl rfl rfl 400 (fun x=>by kernel_rfl)
theorem s55:(S 55).Ok:=mkS_next s54 (f:=14) rfl rfl rfl 400 (fun x=>by kernel_rfl)
theorem s56:(S 56).Ok:=mkS_next s55 (f:=19) rfl rfl rfl 400 (fun x=>by kernel_rfl)
theorem s57:(S 57).Ok:=mkS_next s56 (f:=17) rfl rfl rfl 400 (fun x=>by kernel_rfl)
theorem s58:(S 58).Ok:=mkS_next s57 (f:=7) rfl rfl rfl 400 (fun x=>by kernel_rfl)
end Go.Proofs.YtgalanoklaibcaaGreatDoor
end
section
/- Models of the functions of this seat hold (part 6). -/
set_option maxRecDepth 100000
set_option maxHeartbeats 0
namespace Go.Proofs.YtgalanoklaibcaaGreatDoor
open Go Go.PI
theorem s59:(S 59).Ok:=mkS_next s58 (f:=11) rfl rfl rfl 400 (fun x=>by kernel_rfl)
theorem s60:(S 60).Ok:=mkS_next s59 (f:=25) rfl rfl rfl 400 (fun x=>by kernel_rfl)
theorem s61:(S 61).Ok:=mkS_next s60 (f:=50) rfl rfl rfl 400 (fun x=>by kernel_rfl)
theorem s62:(S 62).Ok:=mkS_next s61 (f:=26) rfl rfl rfl 400 (fun x=>by kernel_rfl)
theorem s63:(S 63).Ok:=mkS_next s62 (f:=68) rfl rfl rfl 400 (fun x=>by kernel_rfl)
theorem s64:(S 64).Ok:=mkS_next s63 (f:=42) rfl rfl rfl 400 (fun x=>by kernel_rfl)
theorem s65:(S 65).Ok:=mkS_next s64 (f:=43) rfl rfl rfl 400 (fun x=>by kernel_rfl)
theorem s66:(S 66).Ok:=mkS_next s65 (f:=44) rfl rfl rfl 400 (fun x=>by kernel_rfl)
theorem s67:(S 67).Ok:=mkS_next s66 (f:=69) rfl rfl rfl 400 (fun x=>by kernel_rfl)
theorem s68:(S 68).Ok:=mkS_next s67 (f:=45) rfl rfl rfl 400 (fun x=>by kernel_rfl)
end Go.Proofs.YtgalanoklaibcaaGreatDoor
end
