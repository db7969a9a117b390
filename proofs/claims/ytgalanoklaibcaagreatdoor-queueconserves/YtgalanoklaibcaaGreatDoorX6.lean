/- Part 6 of the proof: texts of this session laid one behind the other. -/
import Derived.KernelRfl
import Derived.Test.YtgalanoklaibcaaGreatDoorX5
set_option linter.unusedVariables false
set_option linter.unusedSimpArgs false
section
/- Models of the functions of this seat hold (part 1). -/
set_option maxRecDepth 100000
set_option maxHeartbeats 0
namespace Go.Proofs.YtgalanoklaibcaaGreatDoor
open Go Go.PI
theorem s1:(S 1).Ok:=mkS_next s0 (f:=27) rfl rfl rfl 400 (fun x=>by kernel_rfl)
theorem s2:(S 2).Ok:=mkS_next s1 (f:=134) rfl rfl rfl 400 (fun x=>by kernel_rfl)
theorem s3:(S 3).Ok:=mkS_next s2 (f:=96) rfl rfl rfl 400 (fun x=>by kernel_rfl)
theorem s4:(S 4).Ok:=mkS_next s3 (f:=94) rfl rfl rfl 400 (fun x=>by kernel_rfl)
theorem s5:(S 5).Ok:=mkS_next s4 (f:=135) rfl rfl rfl 400 (fun x=>by kernel_rfl)
theorem s6:(S 6).Ok:=mkS_next s5 (f:=93) rfl rfl rfl 400 (fun x=>by kernel_rfl)
theorem s7:(S 7).Ok:=mkS_next s6 (f:=71) rfl rfl rfl 400 (fun x=>by kernel_rfl)
theorem s8:(S 8).Ok:=mkS_next s7 (f:=95) rfl rfl rfl 400 (fun x=>by kernel_rfl)
theorem s9:(S 9).Ok:=mkS_next s8 (f:=97) rfl rfl rfl 400 (fun x=>by kernel_rfl)
theorem s10:(S 10).Ok:=mkS_step s9 (f:=98) rfl hand98
theorem s11:(S 11).Ok:=mkS_next s10 (f:=72) rfl rfl rfl 400 (fun x=>by kernel_rfl)
theorem s12:(S 12).Ok:=mkS_next s11 (f:=73) rfl rfl rfl 400 (fun x=>by kernel_rfl)
theorem s13:(S 13).Ok:=mkS_next s12 (f:=99) rfl rfl rfl 400 (fun x=>by kernel_rfl)
theorem s14:(S 14).Ok:=mkS_next s13 (f:=101) rfl rfl rfl 400 (fun x=>by kernel_rfl)
theorem s15:(S 15).Ok:=mkS_next s14 (f:=100) rfl rfl rfl 400 (fun x=>by kernel_rfl)
theorem s16:(S 16).Ok:=mkS_next s15 (f:=74) rfl rfl rfl 400 (fun x=>by kernel_rfl)
theorem s17:(S 17).Ok:=mkS_next s16 (f:=143) rfl rfl rfl 400 (fun x=>by kernel_rfl)
theorem s18:(S 18).Ok:=mkS_next s17 (f:=118) rfl rfl rfl 400 (fun x=>by kernel_rfl)
theorem s19:(S 19).Ok:=mkS_next s18 (f:=75) rfl rfl rfl 400 (fun x=>by kernel_rfl)
theorem s20:(S 20).Ok:=mkS_next s19 (f:=76) rfl rfl rfl 400 (fun x=>by kernel_rfl)
theorem s21:(S 21).Ok:=mkS_next s20 (f:=105) rfl rfl rfl 400 (fun x=>by kernel_rfl)
theorem s22:(S 22).Ok:=mkS_next s21 (f:=106) rfl rfl rfl 400 (fun x=>by kernel_rfl)
theorem s23:(S 23).Ok:=mkS_next s22 (f:=109) rfl rfl rfl 400 (fun x=>by kernel_rfl)
theorem s24:(S 24).Ok:=mkS_next s23 (f:=77) rfl rfl rfl 400 (fun x=>by kernel_rfl)
theorem s25:(S 25).Ok:=mkS_next s24 (f:=78) rfl rfl rfl 400 (fun x=>by kernel_rfl)
theorem s26:(S 26).Ok:=mkS_next s25 (f:=79) rfl rfl rfl 400 (fun x=>by kernel_rfl)
theorem s27:(S 27).Ok:=mkS_next s26 (f:=139) rfl rfl rfl 400 (fun x=>by kernel_rfl)
theorem s28:(S 28).Ok:=mkS_next s27 (f:=116) rfl rfl rfl 400 (fun x=>by kernel_rfl)
theorem s29:(S 29).Ok:=mkS_next s28 (f:=115) rfl rfl rfl 400 (fun x=>by kernel_rfl)
theorem s30:(S 30).Ok:=mkS_next s29 (f:=80) rfl rfl rfl 400 (fun x=>by kernel_rfl)
end Go.Proofs.YtgalanoklaibcaaGreatDoor
end
