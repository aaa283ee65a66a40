/- Part R of the proof: what it says stands at its theorems. -/
import Derived.Test.YtghcmmmpmfncbaaGreatDoorSe
set_option linter.unusedVariables false
set_option linter.unusedSimpArgs false
set_option linter.unusedSectionVars false
/- The law's runs, part 6. -/
namespace Go.Proofs.YtghcmmmpmfncbaaGreatDoor
open Go Go.AM Go.AM.S Go.Proofs
set_option maxRecDepth 100000
theorem run_R5M_3_1_2 : S.fn Pg (kn [(0, 4, 3), (1, 4, 1), (2, 4, 2)]) tbl 3000 5 [.sym 0, .sym 1, .sym 2] noHp = some (.val (.bool true) noHp) := by kernel_rfl
theorem run_R5M_3_1_3 : S.fn Pg (kn [(0, 4, 3), (1, 4, 1), (2, 4, 3)]) tbl 3000 5 [.sym 0, .sym 1, .sym 2] noHp = some (.val (.bool true) noHp) := by kernel_rfl
theorem run_R5M_3_2_0 : S.fn Pg (kn [(0, 4, 3), (1, 4, 2), (2, 4, 0)]) tbl 3000 5 [.sym 0, .sym 1, .sym 2] noHp = some (.val (.bool true) noHp) := by kernel_rfl
theorem run_R5M_3_2_1 : S.fn Pg (kn [(0, 4, 3), (1, 4, 2), (2, 4, 1)]) tbl 3000 5 [.sym 0, .sym 1, .sym 2] noHp = some (.val (.bool true) noHp) := by kernel_rfl
theorem run_R5M_3_2_2 : S.fn Pg (kn [(0, 4, 3), (1, 4, 2), (2, 4, 2)]) tbl 3000 5 [.sym 0, .sym 1, .sym 2] noHp = some (.val (.bool true) noHp) := by kernel_rfl
end Go.Proofs.YtghcmmmpmfncbaaGreatDoor
