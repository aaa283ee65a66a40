/- Part N21 of the proof: what it says stands at its theorems. -/
import Derived.Test.YtdaimjlegjhidaaDoorSe
set_option linter.unusedVariables false
set_option linter.unusedSimpArgs false
set_option linter.unusedSectionVars false
/- The law's runs, part 21. -/
namespace Go.Proofs.YtdaimjlegjhidaaDoor
open Go Go.AM Go.AM.S Go.Proofs
set_option maxRecDepth 100000
theorem run_R8N_6_0 : S.fn Pg (kn [(0, 20, 6), (1, 7, 0)]) tbl 3000 5 [.sym 0, .sym 1] noHp = some (.val (.bool true) noHp) := by kernel_rfl
theorem run_R8N_9_0 : S.fn Pg (kn [(0, 20, 9), (1, 10, 0)]) tbl 3000 5 [.sym 0, .sym 1] noHp = some (.val (.bool true) noHp) := by kernel_rfl
theorem run_R8N_11_3 : S.fn Pg (kn [(0, 20, 11), (1, 12, 3)]) tbl 3000 5 [.sym 0, .sym 1] noHp = some (.val (.bool true) noHp) := by kernel_rfl
theorem run_R8N_13_2 : S.fn Pg (kn [(0, 20, 13), (1, 14, 2)]) tbl 3000 5 [.sym 0, .sym 1] noHp = some (.val (.bool true) noHp) := by kernel_rfl
theorem run_R8N_14_12 : S.fn Pg (kn [(0, 20, 14), (1, 15, 12)]) tbl 3000 5 [.sym 0, .sym 1] noHp = some (.val (.bool true) noHp) := by kernel_rfl
theorem run_R8N_16_5 : S.fn Pg (kn [(0, 20, 16), (1, 17, 5)]) tbl 3000 5 [.sym 0, .sym 1] noHp = some (.val (.bool true) noHp) := by kernel_rfl
theorem run_R8N_17_12 : S.fn Pg (kn [(0, 20, 17), (1, 18, 12)]) tbl 3000 5 [.sym 0, .sym 1] noHp = some (.val (.bool true) noHp) := by kernel_rfl
theorem run_R8N_18_18 : S.fn Pg (kn [(0, 20, 18), (1, 19, 18)]) tbl 3000 5 [.sym 0, .sym 1] noHp = some (.val (.bool true) noHp) := by kernel_rfl
end Go.Proofs.YtdaimjlegjhidaaDoor
