/- Part C4 of the proof: what it says stands at its theorems. -/
import Derived.Test.YtghcmmmpmfncbaaGreatDoorSe
set_option linter.unusedVariables false
set_option linter.unusedSimpArgs false
set_option linter.unusedSectionVars false
/- The law's runs, part 4. -/
namespace Go.Proofs.YtghcmmmpmfncbaaGreatDoor
open Go Go.AM Go.AM.S Go.Proofs
set_option maxRecDepth 100000
theorem run_R5C_4_4 : S.fn Pg (kn [(0, 7, 4), (1, 5, 4)]) tbl 3000 4 [.sym 0, .sym 1] noHp = some (.val (.bool true) noHp) := by kernel_rfl
theorem run_R5C_5_0 : S.fn Pg (kn [(0, 7, 5), (1, 5, 0)]) tbl 3000 4 [.sym 0, .sym 1] noHp = some (.val (.bool true) noHp) := by kernel_rfl
theorem run_R5C_5_1 : S.fn Pg (kn [(0, 7, 5), (1, 5, 1)]) tbl 3000 4 [.sym 0, .sym 1] noHp = some (.val (.bool true) noHp) := by kernel_rfl
theorem run_R5C_5_2 : S.fn Pg (kn [(0, 7, 5), (1, 5, 2)]) tbl 3000 4 [.sym 0, .sym 1] noHp = some (.val (.bool true) noHp) := by kernel_rfl
theorem run_R5C_5_3 : S.fn Pg (kn [(0, 7, 5), (1, 5, 3)]) tbl 3000 4 [.sym 0, .sym 1] noHp = some (.val (.bool true) noHp) := by kernel_rfl
theorem run_R5C_5_4 : S.fn Pg (kn [(0, 7, 5), (1, 5, 4)]) tbl 3000 4 [.sym 0, .sym 1] noHp = some (.val (.bool true) noHp) := by kernel_rfl
end Go.Proofs.YtghcmmmpmfncbaaGreatDoor
