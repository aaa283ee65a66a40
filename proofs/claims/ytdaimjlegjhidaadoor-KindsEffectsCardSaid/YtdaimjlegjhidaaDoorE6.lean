/- Part E6 of the proof: what it says stands at its theorems. -/
import Derived.Test.YtdaimjlegjhidaaDoorSe
set_option linter.unusedVariables false
set_option linter.unusedSimpArgs false
set_option linter.unusedSectionVars false
/- The law's runs, part 6. -/
namespace Go.Proofs.YtdaimjlegjhidaaDoor
open Go Go.AM Go.AM.S Go.Proofs
set_option maxRecDepth 100000
theorem run_R2E_3_4_1 : S.fn Pg (kn [(0, 5, 3), (1, 5, 4), (2, 5, 1)]) tbl 3000 9 [.sym 0, .sym 1, .sym 2] noHp = some (.val (.bool true) noHp) := by kernel_rfl
theorem run_R2E_3_4_2 : S.fn Pg (kn [(0, 5, 3), (1, 5, 4), (2, 5, 2)]) tbl 3000 9 [.sym 0, .sym 1, .sym 2] noHp = some (.val (.bool true) noHp) := by kernel_rfl
theorem run_R2E_3_4_3 : S.fn Pg (kn [(0, 5, 3), (1, 5, 4), (2, 5, 3)]) tbl 3000 9 [.sym 0, .sym 1, .sym 2] noHp = some (.val (.bool true) noHp) := by kernel_rfl
theorem run_R2E_3_4_4 : S.fn Pg (kn [(0, 5, 3), (1, 5, 4), (2, 5, 4)]) tbl 3000 9 [.sym 0, .sym 1, .sym 2] noHp = some (.val (.bool true) noHp) := by kernel_rfl
theorem run_R2E_4_0_0 : S.fn Pg (kn [(0, 5, 4), (1, 5, 0), (2, 5, 0)]) tbl 3000 9 [.sym 0, .sym 1, .sym 2] noHp = some (.val (.bool true) noHp) := by kernel_rfl
theorem run_R2E_4_0_1 : S.fn Pg (kn [(0, 5, 4), (1, 5, 0), (2, 5, 1)]) tbl 3000 9 [.sym 0, .sym 1, .sym 2] noHp = some (.val (.bool true) noHp) := by kernel_rfl
theorem run_R2E_4_0_2 : S.fn Pg (kn [(0, 5, 4), (1, 5, 0), (2, 5, 2)]) tbl 3000 9 [.sym 0, .sym 1, .sym 2] noHp = some (.val (.bool true) noHp) := by kernel_rfl
theorem run_R2E_4_0_3 : S.fn Pg (kn [(0, 5, 4), (1, 5, 0), (2, 5, 3)]) tbl 3000 9 [.sym 0, .sym 1, .sym 2] noHp = some (.val (.bool true) noHp) := by kernel_rfl
theorem run_R2E_4_0_4 : S.fn Pg (kn [(0, 5, 4), (1, 5, 0), (2, 5, 4)]) tbl 3000 9 [.sym 0, .sym 1, .sym 2] noHp = some (.val (.bool true) noHp) := by kernel_rfl
theorem run_R2E_4_1_0 : S.fn Pg (kn [(0, 5, 4), (1, 5, 1), (2, 5, 0)]) tbl 3000 9 [.sym 0, .sym 1, .sym 2] noHp = some (.val (.bool true) noHp) := by kernel_rfl
theorem run_R2E_4_1_1 : S.fn Pg (kn [(0, 5, 4), (1, 5, 1), (2, 5, 1)]) tbl 3000 9 [.sym 0, .sym 1, .sym 2] noHp = some (.val (.bool true) noHp) := by kernel_rfl
theorem run_R2E_4_1_2 : S.fn Pg (kn [(0, 5, 4), (1, 5, 1), (2, 5, 2)]) tbl 3000 9 [.sym 0, .sym 1, .sym 2] noHp = some (.val (.bool true) noHp) := by kernel_rfl
theorem run_R2E_4_1_3 : S.fn Pg (kn [(0, 5, 4), (1, 5, 1), (2, 5, 3)]) tbl 3000 9 [.sym 0, .sym 1, .sym 2] noHp = some (.val (.bool true) noHp) := by kernel_rfl
theorem run_R2E_4_1_4 : S.fn Pg (kn [(0, 5, 4), (1, 5, 1), (2, 5, 4)]) tbl 3000 9 [.sym 0, .sym 1, .sym 2] noHp = some (.val (.bool true) noHp) := by kernel_rfl
theorem run_R2E_4_2_0 : S.fn Pg (kn [(0, 5, 4), (1, 5, 2), (2, 5, 0)]) tbl 3000 9 [.sym 0, .sym 1, .sym 2] noHp = some (.val (.bool true) noHp) := by kernel_rfl
theorem run_R2E_4_2_1 : S.fn Pg (kn [(0, 5, 4), (1, 5, 2), (2, 5, 1)]) tbl 3000 9 [.sym 0, .sym 1, .sym 2] noHp = some (.val (.bool true) noHp) := by kernel_rfl
end Go.Proofs.YtdaimjlegjhidaaDoor
