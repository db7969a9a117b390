/- Part 6 of the proof: texts of this session laid one behind the other. -/
import Derived.KernelRfl
import Derived.Test.YtomccdllhpolbaaDoorX5
set_option linter.unusedVariables false
set_option linter.unusedSimpArgs false
section
/- Models of the functions of this seat hold (part 1). -/
set_option maxRecDepth 100000
set_option maxHeartbeats 0
namespace Go.Proofs.YtomccdllhpolbaaDoor
open Go Go.PI
theorem s1:(S 1).Ok:=mkS_next s0 (f:=6) rfl rfl rfl 400 (fun x=>by kernel_rfl)
theorem s2:(S 2).Ok:=mkS_next s1 (f:=78) rfl rfl rfl 400 (fun x=>by kernel_rfl)
theorem s3:(S 3).Ok:=mkS_next s2 (f:=40) rfl rfl rfl 400 (fun x=>by kernel_rfl)
theorem s4:(S 4).Ok:=mkS_next s3 (f:=38) rfl rfl rfl 400 (fun x=>by kernel_rfl)
theorem s5:(S 5).Ok:=mkS_next s4 (f:=79) rfl rfl rfl 400 (fun x=>by kernel_rfl)
theorem s6:(S 6).Ok:=mkS_next s5 (f:=37) rfl rfl rfl 400 (fun x=>by kernel_rfl)
theorem s7:(S 7).Ok:=mkS_next s6 (f:=19) rfl rfl rfl 400 (fun x=>by kernel_rfl)
theorem s8:(S 8).Ok:=mkS_next s7 (f:=39) rfl rfl rfl 400 (fun x=>by kernel_rfl)
theorem s9:(S 9).Ok:=mkS_next s8 (f:=41) rfl rfl rfl 400 (fun x=>by kernel_rfl)
theorem s10:(S 10).Ok:=mkS_step s9 (f:=42) rfl hand42
theorem s11:(S 11).Ok:=mkS_next s10 (f:=20) rfl rfl rfl 400 (fun x=>by kernel_rfl)
theorem s12:(S 12).Ok:=mkS_next s11 (f:=21) rfl rfl rfl 400 (fun x=>by kernel_rfl)
theorem s13:(S 13).Ok:=mkS_next s12 (f:=43) rfl rfl rfl 400 (fun x=>by kernel_rfl)
theorem s14:(S 14).Ok:=mkS_next s13 (f:=45) rfl rfl rfl 400 (fun x=>by kernel_rfl)
theorem s15:(S 15).Ok:=mkS_next s14 (f:=44) rfl rfl rfl 400 (fun x=>by kernel_rfl)
theorem s16:(S 16).Ok:=mkS_next s15 (f:=22) rfl rfl rfl 400 (fun x=>by kernel_rfl)
theorem s17:(S 17).Ok:=mkS_next s16 (f:=87) rfl rfl rfl 400 (fun x=>by kernel_rfl)
theorem s18:(S 18).Ok:=mkS_next s17 (f:=62) rfl rfl rfl 400 (fun x=>by kernel_rfl)
theorem s19:(S 19).Ok:=mkS_next s18 (f:=23) rfl rfl rfl 400 (fun x=>by kernel_rfl)
theorem s20:(S 20).Ok:=mkS_next s19 (f:=24) rfl rfl rfl 400 (fun x=>by kernel_rfl)
theorem s21:(S 21).Ok:=mkS_next s20 (f:=49) rfl rfl rfl 400 (fun x=>by kernel_rfl)
end Go.Proofs.YtomccdllhpolbaaDoor
end
