/- The run. By program (mkrunp.py). -/
import Derived.Test.YtemkchpdcgkeiaaGreatDoorZRun10
set_option linter.unusedSimpArgs false
set_option linter.unusedVariables false
namespace Go.Proofs.YtemkchpdcgkeiaaGreatDoor
open Go Go.TI
set_option linter.unusedVariables false
set_option maxRecDepth 100000
theorem runZ : callP t80 ft 100000 6 [] ⟨0, 0, []⟩ = some (.bool true, ⟨0, 0, []⟩) := by kernel_rfl
theorem callsOk : CallOk Tryz.prog cx (callP t80 ft 100000) := callP_ok p80 qsOk 100000
end Go.Proofs.YtemkchpdcgkeiaaGreatDoor
