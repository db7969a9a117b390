/- Part 9 of the proof: texts of this session laid one behind the other. -/
import Derived.KernelRfl
import Derived.Test.YtedjbjphpnkpoaaX8
set_option linter.unusedVariables false
set_option linter.unusedSimpArgs false
section
/- Models of the functions of this seat hold (part 6). -/
set_option maxRecDepth 100000
set_option maxHeartbeats 0
namespace Go.Proofs.Ytedjbjphpnkpoaa
open Go Go.PI
end Go.Proofs.Ytedjbjphpnkpoaa
end
section
/- Models of the functions of this seat hold (part 7). -/
set_option maxRecDepth 100000
set_option maxHeartbeats 0
namespace Go.Proofs.Ytedjbjphpnkpoaa
open Go Go.PI
end Go.Proofs.Ytedjbjphpnkpoaa
end
