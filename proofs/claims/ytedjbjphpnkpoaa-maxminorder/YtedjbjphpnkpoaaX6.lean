/- Part 6 of the proof: texts of this session laid one behind the other. -/
import Derived.KernelRfl
import Derived.Test.YtedjbjphpnkpoaaX5
set_option linter.unusedVariables false
set_option linter.unusedSimpArgs false
section
/- Models of the functions of this seat hold (part 1). -/
set_option maxRecDepth 100000
set_option maxHeartbeats 0
namespace Go.Proofs.Ytedjbjphpnkpoaa
open Go Go.PI
theorem s1:(S 1).Ok:=aB s0 (f:=41) rfl rfl rfl 400 (fun x=>by kernel_rfl)
theorem s2:(S 2).Ok:=aB s1 (f:=42) rfl rfl rfl 400 (fun x=>by kernel_rfl)
theorem s3:(S 3).Ok:=tH s2 (f:=40) rfl Qq
theorem s4:(S 4).Ok:=aB s3 (f:=17) rfl rfl rfl 400 (fun x=>by kernel_rfl)
theorem s5:(S 5).Ok:=aB s4 (f:=48) rfl rfl rfl 400 (fun x=>by kernel_rfl)
theorem s6:(S 6).Ok:=aB s5 (f:=29) rfl rfl rfl 400 (fun x=>by kernel_rfl)
theorem s7:(S 7).Ok:=aB s6 (f:=52) rfl rfl rfl 400 (fun x=>by kernel_rfl)
theorem s8:(S 8).Ok:=tH s7 (f:=82) rfl Qr
theorem s9:(S 9).Ok:=aB s8 (f:=53) rfl rfl rfl 400 (fun x=>by kernel_rfl)
theorem s10:(S 10).Ok:=aB s9 (f:=33) rfl rfl rfl 400 (fun x=>by kernel_rfl)
theorem s11:(S 11).Ok:=aB s10 (f:=95) rfl rfl rfl 400 (fun x=>by kernel_rfl)
theorem s12:(S 12).Ok:=aB s11 (f:=83) rfl rfl rfl 400 (fun x=>by kernel_rfl)
theorem s13:(S 13).Ok:=aB s12 (f:=54) rfl rfl rfl 400 (fun x=>by kernel_rfl)
theorem s14:(S 14).Ok:=aB s13 (f:=34) rfl rfl rfl 400 (fun x=>by kernel_rfl)
theorem s15:(S 15).Ok:=aB s14 (f:=43) rfl rfl rfl 400 (fun x=>by kernel_rfl)
theorem s16:(S 16).Ok:=aB s15 (f:=18) rfl rfl rfl 400 (fun x=>by kernel_rfl)
theorem s17:(S 17).Ok:=aB s16 (f:=32) rfl rfl rfl 400 (fun x=>by kernel_rfl)
theorem s18:(S 18).Ok:=aB s17 (f:=58) rfl rfl rfl 400 (fun x=>by kernel_rfl)
theorem s19:(S 19).Ok:=aB s18 (f:=60) rfl rfl rfl 400 (fun x=>by kernel_rfl)
theorem s20:(S 20).Ok:=aB s19 (f:=59) rfl rfl rfl 400 (fun x=>by kernel_rfl)
end Go.Proofs.Ytedjbjphpnkpoaa
end
