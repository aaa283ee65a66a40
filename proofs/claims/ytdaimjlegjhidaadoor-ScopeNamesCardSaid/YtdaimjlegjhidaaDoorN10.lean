/- Part N10 of the proof: what it says stands at its theorems. -/
import Derived.Test.YtdaimjlegjhidaaDoorSe
set_option linter.unusedVariables false
set_option linter.unusedSimpArgs false
set_option linter.unusedSectionVars false
/- The law's runs, part 10. -/
namespace Go.Proofs.YtdaimjlegjhidaaDoor
open Go Go.AM Go.AM.S Go.Proofs
set_option maxRecDepth 100000
theorem run_R8N_4_0 : S.fn Pg (kn [(0, 20, 4), (1, 5, 0)]) tbl 3000 5 [.sym 0, .sym 1] noHp = some (.val (.bool true) noHp) := by kernel_rfl
theorem run_R8N_7_6 : S.fn Pg (kn [(0, 20, 7), (1, 8, 6)]) tbl 3000 5 [.sym 0, .sym 1] noHp = some (.val (.bool true) noHp) := by kernel_rfl
theorem run_R8N_10_3 : S.fn Pg (kn [(0, 20, 10), (1, 11, 3)]) tbl 3000 5 [.sym 0, .sym 1] noHp = some (.val (.bool true) noHp) := by kernel_rfl
theorem run_R8N_12_4 : S.fn Pg (kn [(0, 20, 12), (1, 13, 4)]) tbl 3000 5 [.sym 0, .sym 1] noHp = some (.val (.bool true) noHp) := by kernel_rfl
theorem run_R8N_14_1 : S.fn Pg (kn [(0, 20, 14), (1, 15, 1)]) tbl 3000 5 [.sym 0, .sym 1] noHp = some (.val (.bool true) noHp) := by kernel_rfl
theorem run_R8N_15_10 : S.fn Pg (kn [(0, 20, 15), (1, 16, 10)]) tbl 3000 5 [.sym 0, .sym 1] noHp = some (.val (.bool true) noHp) := by kernel_rfl
theorem run_R8N_17_1 : S.fn Pg (kn [(0, 20, 17), (1, 18, 1)]) tbl 3000 5 [.sym 0, .sym 1] noHp = some (.val (.bool true) noHp) := by kernel_rfl
theorem run_R8N_18_7 : S.fn Pg (kn [(0, 20, 18), (1, 19, 7)]) tbl 3000 5 [.sym 0, .sym 1] noHp = some (.val (.bool true) noHp) := by kernel_rfl
theorem run_R8N_19_12 : S.fn Pg (kn [(0, 20, 19), (1, 20, 12)]) tbl 3000 5 [.sym 0, .sym 1] noHp = some (.val (.bool true) noHp) := by kernel_rfl
end Go.Proofs.YtdaimjlegjhidaaDoor
