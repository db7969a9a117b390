/- Part 6 of the proof: texts of this session laid one behind the other. -/
import Derived.KernelRfl
import Derived.Test.YtpodhambaehlkaaGreatDoorX5
set_option linter.unusedVariables false
set_option linter.unusedSimpArgs false
section
/- Models of the functions of this seat hold (part 1). -/
set_option maxRecDepth 100000
set_option maxHeartbeats 0
namespace Go.Proofs.YtpodhambaehlkaaGreatDoor
open Go Go.PI
theorem s1:(S 1).Ok:=au s0 (f:=152) rfl rfl rfl 400 (fun x=>by kernel_rfl)
theorem s2:(S 2).Ok:=au s1 (f:=114) rfl rfl rfl 400 (fun x=>by kernel_rfl)
theorem s3:(S 3).Ok:=au s2 (f:=112) rfl rfl rfl 400 (fun x=>by kernel_rfl)
theorem s4:(S 4).Ok:=au s3 (f:=153) rfl rfl rfl 400 (fun x=>by kernel_rfl)
theorem s5:(S 5).Ok:=au s4 (f:=111) rfl rfl rfl 400 (fun x=>by kernel_rfl)
theorem s6:(S 6).Ok:=au s5 (f:=93) rfl rfl rfl 400 (fun x=>by kernel_rfl)
theorem s7:(S 7).Ok:=au s6 (f:=113) rfl rfl rfl 400 (fun x=>by kernel_rfl)
theorem s8:(S 8).Ok:=au s7 (f:=115) rfl rfl rfl 400 (fun x=>by kernel_rfl)
theorem s9:(S 9).Ok:=GA s8 (f:=116) rfl RF
theorem s10:(S 10).Ok:=au s9 (f:=94) rfl rfl rfl 400 (fun x=>by kernel_rfl)
theorem s11:(S 11).Ok:=au s10 (f:=95) rfl rfl rfl 400 (fun x=>by kernel_rfl)
theorem s12:(S 12).Ok:=au s11 (f:=117) rfl rfl rfl 400 (fun x=>by kernel_rfl)
theorem s13:(S 13).Ok:=au s12 (f:=119) rfl rfl rfl 400 (fun x=>by kernel_rfl)
theorem s14:(S 14).Ok:=au s13 (f:=118) rfl rfl rfl 400 (fun x=>by kernel_rfl)
theorem s15:(S 15).Ok:=au s14 (f:=96) rfl rfl rfl 400 (fun x=>by kernel_rfl)
theorem s16:(S 16).Ok:=au s15 (f:=161) rfl rfl rfl 400 (fun x=>by kernel_rfl)
theorem s17:(S 17).Ok:=au s16 (f:=136) rfl rfl rfl 400 (fun x=>by kernel_rfl)
theorem s18:(S 18).Ok:=au s17 (f:=97) rfl rfl rfl 400 (fun x=>by kernel_rfl)
theorem s19:(S 19).Ok:=au s18 (f:=98) rfl rfl rfl 400 (fun x=>by kernel_rfl)
theorem s20:(S 20).Ok:=au s19 (f:=123) rfl rfl rfl 400 (fun x=>by kernel_rfl)
theorem s21:(S 21).Ok:=au s20 (f:=124) rfl rfl rfl 400 (fun x=>by kernel_rfl)
theorem s22:(S 22).Ok:=au s21 (f:=127) rfl rfl rfl 400 (fun x=>by kernel_rfl)
theorem s23:(S 23).Ok:=au s22 (f:=99) rfl rfl rfl 400 (fun x=>by kernel_rfl)
theorem s24:(S 24).Ok:=au s23 (f:=100) rfl rfl rfl 400 (fun x=>by kernel_rfl)
theorem s25:(S 25).Ok:=au s24 (f:=101) rfl rfl rfl 400 (fun x=>by kernel_rfl)
theorem s26:(S 26).Ok:=au s25 (f:=157) rfl rfl rfl 400 (fun x=>by kernel_rfl)
theorem s27:(S 27).Ok:=au s26 (f:=134) rfl rfl rfl 400 (fun x=>by kernel_rfl)
theorem s28:(S 28).Ok:=au s27 (f:=133) rfl rfl rfl 400 (fun x=>by kernel_rfl)
theorem s29:(S 29).Ok:=au s28 (f:=102) rfl rfl rfl 400 (fun x=>by kernel_rfl)
theorem s30:(S 30).Ok:=au s29 (f:=168) rfl rfl rfl 400 (fun x=>by kernel_rfl)
end Go.Proofs.YtpodhambaehlkaaGreatDoor
end
