/- Part 7 of the proof: texts of this session laid one behind the other. -/
import Derived.KernelRfl
import Derived.Test.YtedjbjphpnkpoaaX6
set_option linter.unusedVariables false
set_option linter.unusedSimpArgs false
section
/- Models of the functions of this seat hold (part 2). -/
set_option maxRecDepth 100000
set_option maxHeartbeats 0
namespace Go.Proofs.Ytedjbjphpnkpoaa
open Go Go.PI
theorem s21:(S 21).Ok:=aA s20 (f:=38) rfl rfl rfl 400 (fun x=>by kernel_rfl)
theorem s22:(S 22).Ok:=aA s21 (f:=62) rfl rfl rfl 400 (fun x=>by kernel_rfl)
theorem s23:(S 23).Ok:=aA s22 (f:=50) rfl rfl rfl 400 (fun x=>by kernel_rfl)
theorem s24:(S 24).Ok:=aA s23 (f:=51) rfl rfl rfl 400 (fun x=>by kernel_rfl)
theorem s25:(S 25).Ok:=aA s24 (f:=31) rfl rfl rfl 400 (fun x=>by kernel_rfl)
theorem s26:(S 26).Ok:=aA s25 (f:=21) rfl rfl rfl 400 (fun x=>by kernel_rfl)
theorem s27:(S 27).Ok:=aA s26 (f:=13) rfl rfl rfl 400 (fun x=>by kernel_rfl)
theorem s28:(S 28).Ok:=aA s27 (f:=35) rfl rfl rfl 400 (fun x=>by kernel_rfl)
theorem s29:(S 29).Ok:=aA s28 (f:=86) rfl rfl rfl 400 (fun x=>by kernel_rfl)
theorem s30:(S 30).Ok:=aA s29 (f:=57) rfl rfl rfl 400 (fun x=>by kernel_rfl)
theorem s31:(S 31).Ok:=aA s30 (f:=96) rfl rfl rfl 400 (fun x=>by kernel_rfl)
theorem s32:(S 32).Ok:=aA s31 (f:=55) rfl rfl rfl 400 (fun x=>by kernel_rfl)
theorem s33:(S 33).Ok:=Mc (aA (hint:=HK RA) (Mc s32) (f:=36) rfl rfl rfl 400 (fun x=>by kernel_rfl))
theorem s34:(S 34).Ok:=aA s33 (f:=15) rfl rfl rfl 400 (fun x=>by kernel_rfl)
end Go.Proofs.Ytedjbjphpnkpoaa
end
section
/- Models of the functions of this seat hold (part 3). -/
set_option maxRecDepth 100000
set_option maxHeartbeats 0
namespace Go.Proofs.Ytedjbjphpnkpoaa
open Go Go.PI
theorem s35:(S 35).Ok:=aA s34 (f:=44) rfl rfl rfl 400 (fun x=>by kernel_rfl)
theorem s36:(S 36).Ok:=aA s35 (f:=22) rfl rfl rfl 400 (fun x=>by kernel_rfl)
theorem s37:(S 37).Ok:=aA s36 (f:=39) rfl rfl rfl 400 (fun x=>by kernel_rfl)
theorem s38:(S 38).Ok:=aA s37 (f:=16) rfl rfl rfl 400 (fun x=>by kernel_rfl)
theorem s39:(S 39).Ok:=aA s38 (f:=11) rfl rfl rfl 400 (fun x=>by kernel_rfl)
theorem s40:(S 40).Ok:=aA s39 (f:=14) rfl rfl rfl 400 (fun x=>by kernel_rfl)
theorem s41:(S 41).Ok:=aA s40 (f:=117) rfl rfl rfl 400 (fun x=>by kernel_rfl)
theorem s42:(S 42).Ok:=aA s41 (f:=118) rfl rfl rfl 400 (fun x=>by kernel_rfl)
theorem s43:(S 43).Ok:=aA s42 (f:=115) rfl rfl rfl 400 (fun x=>by kernel_rfl)
theorem s44:(S 44).Ok:=aA s43 (f:=116) rfl rfl rfl 400 (fun x=>by kernel_rfl)
end Go.Proofs.Ytedjbjphpnkpoaa
end
