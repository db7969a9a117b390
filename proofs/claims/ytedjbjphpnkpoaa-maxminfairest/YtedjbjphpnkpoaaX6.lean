/- Part 6 of the proof: texts of this session laid one behind the other. -/
import Derived.KernelRfl
import Derived.Test.YtedjbjphpnkpoaaX5
set_option linter.unusedVariables false
set_option linter.unusedSimpArgs false
section
/- Models of the functions of this seat hold (part 1). -/
set_option maxRecDepth 100000
set_option maxHeartbeats 0
namespace Go.Proofs.Ytedjbjphpnkpoaa
open Go Go.PI
theorem s1:(S 1).Ok:=aA s0 (f:=41) rfl rfl rfl 400 (fun x=>by kernel_rfl)
theorem s2:(S 2).Ok:=aA s1 (f:=42) rfl rfl rfl 400 (fun x=>by kernel_rfl)
theorem s3:(S 3).Ok:=ue s2 (f:=40) rfl RC
theorem s4:(S 4).Ok:=aA s3 (f:=17) rfl rfl rfl 400 (fun x=>by kernel_rfl)
theorem s5:(S 5).Ok:=aA s4 (f:=48) rfl rfl rfl 400 (fun x=>by kernel_rfl)
theorem s6:(S 6).Ok:=aA s5 (f:=29) rfl rfl rfl 400 (fun x=>by kernel_rfl)
theorem s7:(S 7).Ok:=aA s6 (f:=52) rfl rfl rfl 400 (fun x=>by kernel_rfl)
theorem s8:(S 8).Ok:=ue s7 (f:=82) rfl RF
theorem s9:(S 9).Ok:=aA s8 (f:=53) rfl rfl rfl 400 (fun x=>by kernel_rfl)
theorem s10:(S 10).Ok:=aA s9 (f:=33) rfl rfl rfl 400 (fun x=>by kernel_rfl)
theorem s11:(S 11).Ok:=aA s10 (f:=95) rfl rfl rfl 400 (fun x=>by kernel_rfl)
theorem s12:(S 12).Ok:=aA s11 (f:=83) rfl rfl rfl 400 (fun x=>by kernel_rfl)
theorem s13:(S 13).Ok:=aA s12 (f:=54) rfl rfl rfl 400 (fun x=>by kernel_rfl)
theorem s14:(S 14).Ok:=aA s13 (f:=34) rfl rfl rfl 400 (fun x=>by kernel_rfl)
theorem s15:(S 15).Ok:=aA s14 (f:=43) rfl rfl rfl 400 (fun x=>by kernel_rfl)
theorem s16:(S 16).Ok:=aA s15 (f:=18) rfl rfl rfl 400 (fun x=>by kernel_rfl)
theorem s17:(S 17).Ok:=aA s16 (f:=32) rfl rfl rfl 400 (fun x=>by kernel_rfl)
theorem s18:(S 18).Ok:=aA s17 (f:=58) rfl rfl rfl 400 (fun x=>by kernel_rfl)
theorem s19:(S 19).Ok:=aA s18 (f:=60) rfl rfl rfl 400 (fun x=>by kernel_rfl)
theorem s20:(S 20).Ok:=aA s19 (f:=59) rfl rfl rfl 400 (fun x=>by kernel_rfl)
end Go.Proofs.Ytedjbjphpnkpoaa
end
