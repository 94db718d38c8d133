/- The run. By program (mkrun.py). -/
import Derived.Test.YtemkchpdcgkeiaaGreatDoorZRun3
namespace Go.Proofs.YtemkchpdcgkeiaaGreatDoor
set_option linter.unusedSimpArgs false
set_option linter.unusedVariables false
open Go Go.TI
set_option linter.unusedVariables false
set_option maxRecDepth 100000
theorem runZ : callM [ent3, ent2, ent1, ent0] ft 100000 4 [] ⟨0, 0, []⟩ = some (.bool true, ⟨0, 0, []⟩) := by kernel_rfl
theorem callsOk : CallOk Tryz.prog cx (callM [ent3, ent2, ent1, ent0] ft 100000) := callM_ok ents4 qsOk 100000
end Go.Proofs.YtemkchpdcgkeiaaGreatDoor
