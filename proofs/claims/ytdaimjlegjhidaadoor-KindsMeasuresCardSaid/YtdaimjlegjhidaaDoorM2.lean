/- Part M2 of the proof: what it says stands at its theorems. -/
import Derived.Test.YtdaimjlegjhidaaDoorSe
set_option linter.unusedVariables false
set_option linter.unusedSimpArgs false
set_option linter.unusedSectionVars false
/- The law's runs, part 2. -/
namespace Go.Proofs.YtdaimjlegjhidaaDoor
open Go Go.AM Go.AM.S Go.Proofs
set_option maxRecDepth 100000
theorem run_R2M_false_0_0 : S.fn Pg (kn [(0, 5, 0), (1, 6, 0)]) tbl 3000 8 [.bool false, .sym 0, .sym 1] noHp = some (.val (.bool true) noHp) := by kernel_rfl
theorem run_R2M_false_0_1 : S.fn Pg (kn [(0, 5, 0), (1, 6, 1)]) tbl 3000 8 [.bool false, .sym 0, .sym 1] noHp = some (.val (.bool true) noHp) := by kernel_rfl
theorem run_R2M_false_0_2 : S.fn Pg (kn [(0, 5, 0), (1, 6, 2)]) tbl 3000 8 [.bool false, .sym 0, .sym 1] noHp = some (.val (.bool true) noHp) := by kernel_rfl
theorem run_R2M_false_0_3 : S.fn Pg (kn [(0, 5, 0), (1, 6, 3)]) tbl 3000 8 [.bool false, .sym 0, .sym 1] noHp = some (.val (.bool true) noHp) := by kernel_rfl
theorem run_R2M_false_0_4 : S.fn Pg (kn [(0, 5, 0), (1, 6, 4)]) tbl 3000 8 [.bool false, .sym 0, .sym 1] noHp = some (.val (.bool true) noHp) := by kernel_rfl
theorem run_R2M_false_0_5 : S.fn Pg (kn [(0, 5, 0), (1, 6, 5)]) tbl 3000 8 [.bool false, .sym 0, .sym 1] noHp = some (.val (.bool true) noHp) := by kernel_rfl
theorem run_R2M_false_1_0 : S.fn Pg (kn [(0, 5, 1), (1, 6, 0)]) tbl 3000 8 [.bool false, .sym 0, .sym 1] noHp = some (.val (.bool true) noHp) := by kernel_rfl
theorem run_R2M_false_1_1 : S.fn Pg (kn [(0, 5, 1), (1, 6, 1)]) tbl 3000 8 [.bool false, .sym 0, .sym 1] noHp = some (.val (.bool true) noHp) := by kernel_rfl
theorem run_R2M_false_1_2 : S.fn Pg (kn [(0, 5, 1), (1, 6, 2)]) tbl 3000 8 [.bool false, .sym 0, .sym 1] noHp = some (.val (.bool true) noHp) := by kernel_rfl
theorem run_R2M_false_1_3 : S.fn Pg (kn [(0, 5, 1), (1, 6, 3)]) tbl 3000 8 [.bool false, .sym 0, .sym 1] noHp = some (.val (.bool true) noHp) := by kernel_rfl
theorem run_R2M_false_1_4 : S.fn Pg (kn [(0, 5, 1), (1, 6, 4)]) tbl 3000 8 [.bool false, .sym 0, .sym 1] noHp = some (.val (.bool true) noHp) := by kernel_rfl
theorem run_R2M_false_1_5 : S.fn Pg (kn [(0, 5, 1), (1, 6, 5)]) tbl 3000 8 [.bool false, .sym 0, .sym 1] noHp = some (.val (.bool true) noHp) := by kernel_rfl
theorem run_R2M_false_2_0 : S.fn Pg (kn [(0, 5, 2), (1, 6, 0)]) tbl 3000 8 [.bool false, .sym 0, .sym 1] noHp = some (.val (.bool true) noHp) := by kernel_rfl
theorem run_R2M_false_2_1 : S.fn Pg (kn [(0, 5, 2), (1, 6, 1)]) tbl 3000 8 [.bool false, .sym 0, .sym 1] noHp = some (.val (.bool true) noHp) := by kernel_rfl
theorem run_R2M_false_2_2 : S.fn Pg (kn [(0, 5, 2), (1, 6, 2)]) tbl 3000 8 [.bool false, .sym 0, .sym 1] noHp = some (.val (.bool true) noHp) := by kernel_rfl
end Go.Proofs.YtdaimjlegjhidaaDoor
