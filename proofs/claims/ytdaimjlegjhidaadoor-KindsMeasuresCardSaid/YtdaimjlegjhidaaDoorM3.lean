/- Part M3 of the proof: what it says stands at its theorems. -/
import Derived.Test.YtdaimjlegjhidaaDoorSe
set_option linter.unusedVariables false
set_option linter.unusedSimpArgs false
set_option linter.unusedSectionVars false
/- The law's runs, part 3. -/
namespace Go.Proofs.YtdaimjlegjhidaaDoor
open Go Go.AM Go.AM.S Go.Proofs
set_option maxRecDepth 100000
theorem run_R2M_false_2_3 : S.fn Pg (kn [(0, 5, 2), (1, 6, 3)]) tbl 3000 8 [.bool false, .sym 0, .sym 1] noHp = some (.val (.bool true) noHp) := by kernel_rfl
theorem run_R2M_false_2_4 : S.fn Pg (kn [(0, 5, 2), (1, 6, 4)]) tbl 3000 8 [.bool false, .sym 0, .sym 1] noHp = some (.val (.bool true) noHp) := by kernel_rfl
theorem run_R2M_false_2_5 : S.fn Pg (kn [(0, 5, 2), (1, 6, 5)]) tbl 3000 8 [.bool false, .sym 0, .sym 1] noHp = some (.val (.bool true) noHp) := by kernel_rfl
theorem run_R2M_false_3_0 : S.fn Pg (kn [(0, 5, 3), (1, 6, 0)]) tbl 3000 8 [.bool false, .sym 0, .sym 1] noHp = some (.val (.bool true) noHp) := by kernel_rfl
theorem run_R2M_false_3_1 : S.fn Pg (kn [(0, 5, 3), (1, 6, 1)]) tbl 3000 8 [.bool false, .sym 0, .sym 1] noHp = some (.val (.bool true) noHp) := by kernel_rfl
theorem run_R2M_false_3_2 : S.fn Pg (kn [(0, 5, 3), (1, 6, 2)]) tbl 3000 8 [.bool false, .sym 0, .sym 1] noHp = some (.val (.bool true) noHp) := by kernel_rfl
theorem run_R2M_false_3_3 : S.fn Pg (kn [(0, 5, 3), (1, 6, 3)]) tbl 3000 8 [.bool false, .sym 0, .sym 1] noHp = some (.val (.bool true) noHp) := by kernel_rfl
theorem run_R2M_false_3_4 : S.fn Pg (kn [(0, 5, 3), (1, 6, 4)]) tbl 3000 8 [.bool false, .sym 0, .sym 1] noHp = some (.val (.bool true) noHp) := by kernel_rfl
theorem run_R2M_false_3_5 : S.fn Pg (kn [(0, 5, 3), (1, 6, 5)]) tbl 3000 8 [.bool false, .sym 0, .sym 1] noHp = some (.val (.bool true) noHp) := by kernel_rfl
theorem run_R2M_false_4_0 : S.fn Pg (kn [(0, 5, 4), (1, 6, 0)]) tbl 3000 8 [.bool false, .sym 0, .sym 1] noHp = some (.val (.bool true) noHp) := by kernel_rfl
theorem run_R2M_false_4_1 : S.fn Pg (kn [(0, 5, 4), (1, 6, 1)]) tbl 3000 8 [.bool false, .sym 0, .sym 1] noHp = some (.val (.bool true) noHp) := by kernel_rfl
theorem run_R2M_false_4_2 : S.fn Pg (kn [(0, 5, 4), (1, 6, 2)]) tbl 3000 8 [.bool false, .sym 0, .sym 1] noHp = some (.val (.bool true) noHp) := by kernel_rfl
theorem run_R2M_false_4_3 : S.fn Pg (kn [(0, 5, 4), (1, 6, 3)]) tbl 3000 8 [.bool false, .sym 0, .sym 1] noHp = some (.val (.bool true) noHp) := by kernel_rfl
theorem run_R2M_false_4_4 : S.fn Pg (kn [(0, 5, 4), (1, 6, 4)]) tbl 3000 8 [.bool false, .sym 0, .sym 1] noHp = some (.val (.bool true) noHp) := by kernel_rfl
theorem run_R2M_false_4_5 : S.fn Pg (kn [(0, 5, 4), (1, 6, 5)]) tbl 3000 8 [.bool false, .sym 0, .sym 1] noHp = some (.val (.bool true) noHp) := by kernel_rfl
end Go.Proofs.YtdaimjlegjhidaaDoor
