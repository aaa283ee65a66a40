/- Part N3 of the proof: what it says stands at its theorems. -/
import Derived.Test.YtdaimjlegjhidaaDoorSe
set_option linter.unusedVariables false
set_option linter.unusedSimpArgs false
set_option linter.unusedSectionVars false
/- The law's runs, part 3. -/
namespace Go.Proofs.YtdaimjlegjhidaaDoor
open Go Go.AM Go.AM.S Go.Proofs
set_option maxRecDepth 100000
theorem run_R8N_2_0 : S.fn Pg (kn [(0, 20, 2), (1, 3, 0)]) tbl 3000 5 [.sym 0, .sym 1] noHp = some (.val (.bool true) noHp) := by kernel_rfl
theorem run_R8N_6_6 : S.fn Pg (kn [(0, 20, 6), (1, 7, 6)]) tbl 3000 5 [.sym 0, .sym 1] noHp = some (.val (.bool true) noHp) := by kernel_rfl
theorem run_R8N_9_6 : S.fn Pg (kn [(0, 20, 9), (1, 10, 6)]) tbl 3000 5 [.sym 0, .sym 1] noHp = some (.val (.bool true) noHp) := by kernel_rfl
theorem run_R8N_11_9 : S.fn Pg (kn [(0, 20, 11), (1, 12, 9)]) tbl 3000 5 [.sym 0, .sym 1] noHp = some (.val (.bool true) noHp) := by kernel_rfl
theorem run_R8N_13_8 : S.fn Pg (kn [(0, 20, 13), (1, 14, 8)]) tbl 3000 5 [.sym 0, .sym 1] noHp = some (.val (.bool true) noHp) := by kernel_rfl
theorem run_R8N_15_3 : S.fn Pg (kn [(0, 20, 15), (1, 16, 3)]) tbl 3000 5 [.sym 0, .sym 1] noHp = some (.val (.bool true) noHp) := by kernel_rfl
theorem run_R8N_16_11 : S.fn Pg (kn [(0, 20, 16), (1, 17, 11)]) tbl 3000 5 [.sym 0, .sym 1] noHp = some (.val (.bool true) noHp) := by kernel_rfl
theorem run_R8N_18_0 : S.fn Pg (kn [(0, 20, 18), (1, 19, 0)]) tbl 3000 5 [.sym 0, .sym 1] noHp = some (.val (.bool true) noHp) := by kernel_rfl
theorem run_R8N_19_5 : S.fn Pg (kn [(0, 20, 19), (1, 20, 5)]) tbl 3000 5 [.sym 0, .sym 1] noHp = some (.val (.bool true) noHp) := by kernel_rfl
end Go.Proofs.YtdaimjlegjhidaaDoor
