/- Part P1 of the proof: what it says stands at its theorems. -/
import Derived.Test.YtdaimjlegjhidaaDoorSe
set_option linter.unusedVariables false
set_option linter.unusedSimpArgs false
set_option linter.unusedSectionVars false
/- The law's runs, part 1. -/
namespace Go.Proofs.YtdaimjlegjhidaaDoor
open Go Go.AM Go.AM.S Go.Proofs
set_option maxRecDepth 100000
theorem run_R2P_1_6 : S.fn Pg (kn [(0, 7, 1), (1, 7, 6)]) tbl 3000 10 [.sym 0, .sym 1] noHp = some (.val (.bool true) noHp) := by kernel_rfl
theorem run_R2P_2_0 : S.fn Pg (kn [(0, 7, 2), (1, 7, 0)]) tbl 3000 10 [.sym 0, .sym 1] noHp = some (.val (.bool true) noHp) := by kernel_rfl
theorem run_R2P_2_1 : S.fn Pg (kn [(0, 7, 2), (1, 7, 1)]) tbl 3000 10 [.sym 0, .sym 1] noHp = some (.val (.bool true) noHp) := by kernel_rfl
theorem run_R2P_2_2 : S.fn Pg (kn [(0, 7, 2), (1, 7, 2)]) tbl 3000 10 [.sym 0, .sym 1] noHp = some (.val (.bool true) noHp) := by kernel_rfl
theorem run_R2P_2_3 : S.fn Pg (kn [(0, 7, 2), (1, 7, 3)]) tbl 3000 10 [.sym 0, .sym 1] noHp = some (.val (.bool true) noHp) := by kernel_rfl
theorem run_R2P_2_4 : S.fn Pg (kn [(0, 7, 2), (1, 7, 4)]) tbl 3000 10 [.sym 0, .sym 1] noHp = some (.val (.bool true) noHp) := by kernel_rfl
theorem run_R2P_2_5 : S.fn Pg (kn [(0, 7, 2), (1, 7, 5)]) tbl 3000 10 [.sym 0, .sym 1] noHp = some (.val (.bool true) noHp) := by kernel_rfl
theorem run_R2P_2_6 : S.fn Pg (kn [(0, 7, 2), (1, 7, 6)]) tbl 3000 10 [.sym 0, .sym 1] noHp = some (.val (.bool true) noHp) := by kernel_rfl
theorem run_R2P_3_0 : S.fn Pg (kn [(0, 7, 3), (1, 7, 0)]) tbl 3000 10 [.sym 0, .sym 1] noHp = some (.val (.bool true) noHp) := by kernel_rfl
theorem run_R2P_3_1 : S.fn Pg (kn [(0, 7, 3), (1, 7, 1)]) tbl 3000 10 [.sym 0, .sym 1] noHp = some (.val (.bool true) noHp) := by kernel_rfl
theorem run_R2P_3_2 : S.fn Pg (kn [(0, 7, 3), (1, 7, 2)]) tbl 3000 10 [.sym 0, .sym 1] noHp = some (.val (.bool true) noHp) := by kernel_rfl
theorem run_R2P_3_3 : S.fn Pg (kn [(0, 7, 3), (1, 7, 3)]) tbl 3000 10 [.sym 0, .sym 1] noHp = some (.val (.bool true) noHp) := by kernel_rfl
theorem run_R2P_3_4 : S.fn Pg (kn [(0, 7, 3), (1, 7, 4)]) tbl 3000 10 [.sym 0, .sym 1] noHp = some (.val (.bool true) noHp) := by kernel_rfl
end Go.Proofs.YtdaimjlegjhidaaDoor
