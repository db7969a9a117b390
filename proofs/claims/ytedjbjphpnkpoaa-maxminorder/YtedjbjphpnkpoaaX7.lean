/- Part 7 of the proof: texts of this session laid one behind the other. -/
import Derived.KernelRfl
import Derived.Test.YtedjbjphpnkpoaaX6
set_option linter.unusedVariables false
set_option linter.unusedSimpArgs false
section
/- Models of the functions of this seat hold (part 2). -/
set_option maxRecDepth 100000
set_option maxHeartbeats 0
namespace Go.Proofs.Ytedjbjphpnkpoaa
open Go Go.PI
theorem s21:(S 21).Ok:=aB s20 (f:=38) rfl rfl rfl 400 (fun x=>by kernel_rfl)
theorem s22:(S 22).Ok:=aB s21 (f:=62) rfl rfl rfl 400 (fun x=>by kernel_rfl)
theorem s23:(S 23).Ok:=aB s22 (f:=50) rfl rfl rfl 400 (fun x=>by kernel_rfl)
theorem s24:(S 24).Ok:=aB s23 (f:=51) rfl rfl rfl 400 (fun x=>by kernel_rfl)
theorem s25:(S 25).Ok:=aB s24 (f:=31) rfl rfl rfl 400 (fun x=>by kernel_rfl)
theorem s26:(S 26).Ok:=aB s25 (f:=21) rfl rfl rfl 400 (fun x=>by kernel_rfl)
theorem s27:(S 27).Ok:=aB s26 (f:=13) rfl rfl rfl 400 (fun x=>by kernel_rfl)
theorem s28:(S 28).Ok:=aB s27 (f:=35) rfl rfl rfl 400 (fun x=>by kernel_rfl)
theorem s29:(S 29).Ok:=aB s28 (f:=86) rfl rfl rfl 400 (fun x=>by kernel_rfl)
theorem s30:(S 30).Ok:=aB s29 (f:=57) rfl rfl rfl 400 (fun x=>by kernel_rfl)
theorem s31:(S 31).Ok:=aB s30 (f:=96) rfl rfl rfl 400 (fun x=>by kernel_rfl)
theorem s32:(S 32).Ok:=aB s31 (f:=55) rfl rfl rfl 400 (fun x=>by kernel_rfl)
theorem s33:(S 33).Ok:=K3 (aB (hint:=GN Qo) (K3 s32) (f:=36) rfl rfl rfl 400 (fun x=>by kernel_rfl))
theorem s34:(S 34).Ok:=aB s33 (f:=15) rfl rfl rfl 400 (fun x=>by kernel_rfl)
end Go.Proofs.Ytedjbjphpnkpoaa
end
section
/- Models of the functions of this seat hold (part 3). -/
set_option maxRecDepth 100000
set_option maxHeartbeats 0
namespace Go.Proofs.Ytedjbjphpnkpoaa
open Go Go.PI
theorem s35:(S 35).Ok:=aB s34 (f:=44) rfl rfl rfl 400 (fun x=>by kernel_rfl)
theorem s36:(S 36).Ok:=aB s35 (f:=22) rfl rfl rfl 400 (fun x=>by kernel_rfl)
theorem s37:(S 37).Ok:=aB s36 (f:=39) rfl rfl rfl 400 (fun x=>by kernel_rfl)
theorem s38:(S 38).Ok:=aB s37 (f:=16) rfl rfl rfl 400 (fun x=>by kernel_rfl)
theorem s39:(S 39).Ok:=aB s38 (f:=11) rfl rfl rfl 400 (fun x=>by kernel_rfl)
theorem s40:(S 40).Ok:=aB s39 (f:=14) rfl rfl rfl 400 (fun x=>by kernel_rfl)
theorem s41:(S 41).Ok:=aB s40 (f:=117) rfl rfl rfl 400 (fun x=>by kernel_rfl)
theorem s42:(S 42).Ok:=aB s41 (f:=118) rfl rfl rfl 400 (fun x=>by kernel_rfl)
theorem s43:(S 43).Ok:=aB s42 (f:=115) rfl rfl rfl 400 (fun x=>by kernel_rfl)
theorem s44:(S 44).Ok:=aB s43 (f:=116) rfl rfl rfl 400 (fun x=>by kernel_rfl)
end Go.Proofs.Ytedjbjphpnkpoaa
end
