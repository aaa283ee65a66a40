/- Part N22 of the proof: what it says stands at its theorems. -/
import Derived.Test.YtdaimjlegjhidaaDoorSe
set_option linter.unusedVariables false
set_option linter.unusedSimpArgs false
set_option linter.unusedSectionVars false
/- The law's runs, part 22. -/
namespace Go.Proofs.YtdaimjlegjhidaaDoor
open Go Go.AM Go.AM.S Go.Proofs
set_option maxRecDepth 100000
theorem run_R8N_6_1 : S.fn Pg (kn [(0, 20, 6), (1, 7, 1)]) tbl 3000 5 [.sym 0, .sym 1] noHp = some (.val (.bool true) noHp) := by kernel_rfl
theorem run_R8N_9_1 : S.fn Pg (kn [(0, 20, 9), (1, 10, 1)]) tbl 3000 5 [.sym 0, .sym 1] noHp = some (.val (.bool true) noHp) := by kernel_rfl
theorem run_R8N_11_4 : S.fn Pg (kn [(0, 20, 11), (1, 12, 4)]) tbl 3000 5 [.sym 0, .sym 1] noHp = some (.val (.bool true) noHp) := by kernel_rfl
theorem run_R8N_13_3 : S.fn Pg (kn [(0, 20, 13), (1, 14, 3)]) tbl 3000 5 [.sym 0, .sym 1] noHp = some (.val (.bool true) noHp) := by kernel_rfl
theorem run_R8N_14_13 : S.fn Pg (kn [(0, 20, 14), (1, 15, 13)]) tbl 3000 5 [.sym 0, .sym 1] noHp = some (.val (.bool true) noHp) := by kernel_rfl
theorem run_R8N_16_6 : S.fn Pg (kn [(0, 20, 16), (1, 17, 6)]) tbl 3000 5 [.sym 0, .sym 1] noHp = some (.val (.bool true) noHp) := by kernel_rfl
theorem run_R8N_17_13 : S.fn Pg (kn [(0, 20, 17), (1, 18, 13)]) tbl 3000 5 [.sym 0, .sym 1] noHp = some (.val (.bool true) noHp) := by kernel_rfl
theorem run_R8N_19_0 : S.fn Pg (kn [(0, 20, 19), (1, 20, 0)]) tbl 3000 5 [.sym 0, .sym 1] noHp = some (.val (.bool true) noHp) := by kernel_rfl
end Go.Proofs.YtdaimjlegjhidaaDoor
