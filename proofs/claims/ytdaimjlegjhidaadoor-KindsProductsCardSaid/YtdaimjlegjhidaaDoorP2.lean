/- Part P2 of the proof: what it says stands at its theorems. -/
import Derived.Test.YtdaimjlegjhidaaDoorSe
set_option linter.unusedVariables false
set_option linter.unusedSimpArgs false
set_option linter.unusedSectionVars false
/- The law's runs, part 2. -/
namespace Go.Proofs.YtdaimjlegjhidaaDoor
open Go Go.AM Go.AM.S Go.Proofs
set_option maxRecDepth 100000
theorem run_R2P_3_5 : S.fn Pg (kn [(0, 7, 3), (1, 7, 5)]) tbl 3000 10 [.sym 0, .sym 1] noHp = some (.val (.bool true) noHp) := by kernel_rfl
theorem run_R2P_3_6 : S.fn Pg (kn [(0, 7, 3), (1, 7, 6)]) tbl 3000 10 [.sym 0, .sym 1] noHp = some (.val (.bool true) noHp) := by kernel_rfl
theorem run_R2P_4_0 : S.fn Pg (kn [(0, 7, 4), (1, 7, 0)]) tbl 3000 10 [.sym 0, .sym 1] noHp = some (.val (.bool true) noHp) := by kernel_rfl
theorem run_R2P_4_1 : S.fn Pg (kn [(0, 7, 4), (1, 7, 1)]) tbl 3000 10 [.sym 0, .sym 1] noHp = some (.val (.bool true) noHp) := by kernel_rfl
theorem run_R2P_4_2 : S.fn Pg (kn [(0, 7, 4), (1, 7, 2)]) tbl 3000 10 [.sym 0, .sym 1] noHp = some (.val (.bool true) noHp) := by kernel_rfl
theorem run_R2P_4_3 : S.fn Pg (kn [(0, 7, 4), (1, 7, 3)]) tbl 3000 10 [.sym 0, .sym 1] noHp = some (.val (.bool true) noHp) := by kernel_rfl
theorem run_R2P_4_4 : S.fn Pg (kn [(0, 7, 4), (1, 7, 4)]) tbl 3000 10 [.sym 0, .sym 1] noHp = some (.val (.bool true) noHp) := by kernel_rfl
theorem run_R2P_4_5 : S.fn Pg (kn [(0, 7, 4), (1, 7, 5)]) tbl 3000 10 [.sym 0, .sym 1] noHp = some (.val (.bool true) noHp) := by kernel_rfl
theorem run_R2P_4_6 : S.fn Pg (kn [(0, 7, 4), (1, 7, 6)]) tbl 3000 10 [.sym 0, .sym 1] noHp = some (.val (.bool true) noHp) := by kernel_rfl
theorem run_R2P_5_0 : S.fn Pg (kn [(0, 7, 5), (1, 7, 0)]) tbl 3000 10 [.sym 0, .sym 1] noHp = some (.val (.bool true) noHp) := by kernel_rfl
theorem run_R2P_5_1 : S.fn Pg (kn [(0, 7, 5), (1, 7, 1)]) tbl 3000 10 [.sym 0, .sym 1] noHp = some (.val (.bool true) noHp) := by kernel_rfl
theorem run_R2P_5_2 : S.fn Pg (kn [(0, 7, 5), (1, 7, 2)]) tbl 3000 10 [.sym 0, .sym 1] noHp = some (.val (.bool true) noHp) := by kernel_rfl
theorem run_R2P_5_3 : S.fn Pg (kn [(0, 7, 5), (1, 7, 3)]) tbl 3000 10 [.sym 0, .sym 1] noHp = some (.val (.bool true) noHp) := by kernel_rfl
end Go.Proofs.YtdaimjlegjhidaaDoor
