/- Part E1 of the proof: what it says stands at its theorems. -/
import Derived.Test.YtdaimjlegjhidaaDoorSe
set_option linter.unusedVariables false
set_option linter.unusedSimpArgs false
set_option linter.unusedSectionVars false
/- The law's runs, part 1. -/
namespace Go.Proofs.YtdaimjlegjhidaaDoor
open Go Go.AM Go.AM.S Go.Proofs
set_option maxRecDepth 100000
theorem run_R2E_0_3_1 : S.fn Pg (kn [(0, 5, 0), (1, 5, 3), (2, 5, 1)]) tbl 3000 9 [.sym 0, .sym 1, .sym 2] noHp = some (.val (.bool true) noHp) := by kernel_rfl
theorem run_R2E_0_3_2 : S.fn Pg (kn [(0, 5, 0), (1, 5, 3), (2, 5, 2)]) tbl 3000 9 [.sym 0, .sym 1, .sym 2] noHp = some (.val (.bool true) noHp) := by kernel_rfl
theorem run_R2E_0_3_3 : S.fn Pg (kn [(0, 5, 0), (1, 5, 3), (2, 5, 3)]) tbl 3000 9 [.sym 0, .sym 1, .sym 2] noHp = some (.val (.bool true) noHp) := by kernel_rfl
theorem run_R2E_0_3_4 : S.fn Pg (kn [(0, 5, 0), (1, 5, 3), (2, 5, 4)]) tbl 3000 9 [.sym 0, .sym 1, .sym 2] noHp = some (.val (.bool true) noHp) := by kernel_rfl
theorem run_R2E_0_4_0 : S.fn Pg (kn [(0, 5, 0), (1, 5, 4), (2, 5, 0)]) tbl 3000 9 [.sym 0, .sym 1, .sym 2] noHp = some (.val (.bool true) noHp) := by kernel_rfl
theorem run_R2E_0_4_1 : S.fn Pg (kn [(0, 5, 0), (1, 5, 4), (2, 5, 1)]) tbl 3000 9 [.sym 0, .sym 1, .sym 2] noHp = some (.val (.bool true) noHp) := by kernel_rfl
theorem run_R2E_0_4_2 : S.fn Pg (kn [(0, 5, 0), (1, 5, 4), (2, 5, 2)]) tbl 3000 9 [.sym 0, .sym 1, .sym 2] noHp = some (.val (.bool true) noHp) := by kernel_rfl
theorem run_R2E_0_4_3 : S.fn Pg (kn [(0, 5, 0), (1, 5, 4), (2, 5, 3)]) tbl 3000 9 [.sym 0, .sym 1, .sym 2] noHp = some (.val (.bool true) noHp) := by kernel_rfl
theorem run_R2E_0_4_4 : S.fn Pg (kn [(0, 5, 0), (1, 5, 4), (2, 5, 4)]) tbl 3000 9 [.sym 0, .sym 1, .sym 2] noHp = some (.val (.bool true) noHp) := by kernel_rfl
theorem run_R2E_1_0_0 : S.fn Pg (kn [(0, 5, 1), (1, 5, 0), (2, 5, 0)]) tbl 3000 9 [.sym 0, .sym 1, .sym 2] noHp = some (.val (.bool true) noHp) := by kernel_rfl
theorem run_R2E_1_0_1 : S.fn Pg (kn [(0, 5, 1), (1, 5, 0), (2, 5, 1)]) tbl 3000 9 [.sym 0, .sym 1, .sym 2] noHp = some (.val (.bool true) noHp) := by kernel_rfl
theorem run_R2E_1_0_2 : S.fn Pg (kn [(0, 5, 1), (1, 5, 0), (2, 5, 2)]) tbl 3000 9 [.sym 0, .sym 1, .sym 2] noHp = some (.val (.bool true) noHp) := by kernel_rfl
theorem run_R2E_1_0_3 : S.fn Pg (kn [(0, 5, 1), (1, 5, 0), (2, 5, 3)]) tbl 3000 9 [.sym 0, .sym 1, .sym 2] noHp = some (.val (.bool true) noHp) := by kernel_rfl
theorem run_R2E_1_0_4 : S.fn Pg (kn [(0, 5, 1), (1, 5, 0), (2, 5, 4)]) tbl 3000 9 [.sym 0, .sym 1, .sym 2] noHp = some (.val (.bool true) noHp) := by kernel_rfl
theorem run_R2E_1_1_0 : S.fn Pg (kn [(0, 5, 1), (1, 5, 1), (2, 5, 0)]) tbl 3000 9 [.sym 0, .sym 1, .sym 2] noHp = some (.val (.bool true) noHp) := by kernel_rfl
theorem run_R2E_1_1_1 : S.fn Pg (kn [(0, 5, 1), (1, 5, 1), (2, 5, 1)]) tbl 3000 9 [.sym 0, .sym 1, .sym 2] noHp = some (.val (.bool true) noHp) := by kernel_rfl
end Go.Proofs.YtdaimjlegjhidaaDoor
