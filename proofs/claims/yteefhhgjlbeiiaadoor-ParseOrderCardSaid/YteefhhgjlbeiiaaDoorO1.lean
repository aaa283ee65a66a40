/- Part O1 of the proof: what it says stands at its theorems. -/
import Derived.Test.YteefhhgjlbeiiaaDoorSe
set_option linter.unusedVariables false
set_option linter.unusedSimpArgs false
set_option linter.unusedSectionVars false
/- The law's runs, part 1. -/
namespace Go.Proofs.YteefhhgjlbeiiaaDoor
open Go Go.AM Go.AM.S Go.Proofs
set_option maxRecDepth 100000
theorem run_R3O_2_0 : S.fn Pg (kn [(0, 4, 2), (1, 5, 0)]) tbl 3000 11 [.sym 0, .sym 1] noHp = some (.val (.bool true) noHp) := by kernel_rfl
theorem run_R3O_2_1 : S.fn Pg (kn [(0, 4, 2), (1, 5, 1)]) tbl 3000 11 [.sym 0, .sym 1] noHp = some (.val (.bool true) noHp) := by kernel_rfl
theorem run_R3O_2_2 : S.fn Pg (kn [(0, 4, 2), (1, 5, 2)]) tbl 3000 11 [.sym 0, .sym 1] noHp = some (.val (.bool true) noHp) := by kernel_rfl
theorem run_R3O_2_3 : S.fn Pg (kn [(0, 4, 2), (1, 5, 3)]) tbl 3000 11 [.sym 0, .sym 1] noHp = some (.val (.bool true) noHp) := by kernel_rfl
theorem run_R3O_2_4 : S.fn Pg (kn [(0, 4, 2), (1, 5, 4)]) tbl 3000 11 [.sym 0, .sym 1] noHp = some (.val (.bool true) noHp) := by kernel_rfl
theorem run_R3O_3_0 : S.fn Pg (kn [(0, 4, 3), (1, 5, 0)]) tbl 3000 11 [.sym 0, .sym 1] noHp = some (.val (.bool true) noHp) := by kernel_rfl
theorem run_R3O_3_1 : S.fn Pg (kn [(0, 4, 3), (1, 5, 1)]) tbl 3000 11 [.sym 0, .sym 1] noHp = some (.val (.bool true) noHp) := by kernel_rfl
theorem run_R3O_3_2 : S.fn Pg (kn [(0, 4, 3), (1, 5, 2)]) tbl 3000 11 [.sym 0, .sym 1] noHp = some (.val (.bool true) noHp) := by kernel_rfl
theorem run_R3O_3_3 : S.fn Pg (kn [(0, 4, 3), (1, 5, 3)]) tbl 3000 11 [.sym 0, .sym 1] noHp = some (.val (.bool true) noHp) := by kernel_rfl
theorem run_R3O_3_4 : S.fn Pg (kn [(0, 4, 3), (1, 5, 4)]) tbl 3000 11 [.sym 0, .sym 1] noHp = some (.val (.bool true) noHp) := by kernel_rfl
end Go.Proofs.YteefhhgjlbeiiaaDoor
