/- Part T1 of the proof: what it says stands at its theorems. -/
import Derived.Test.YtdaimjlegjhidaaDoorSe
set_option linter.unusedVariables false
set_option linter.unusedSimpArgs false
set_option linter.unusedSectionVars false
/- The law's runs, part 1. -/
namespace Go.Proofs.YtdaimjlegjhidaaDoor
open Go Go.AM Go.AM.S Go.Proofs
set_option maxRecDepth 100000
theorem run_R8T_1_5 : S.fn Pg (kn [(0, 5, 1), (1, 20, 5)]) tbl 3000 4 [.sym 0, .sym 1] noHp = some (.val (.bool true) noHp) := by kernel_rfl
theorem run_R8T_1_6 : S.fn Pg (kn [(0, 5, 1), (1, 20, 6)]) tbl 3000 4 [.sym 0, .sym 1] noHp = some (.val (.bool true) noHp) := by kernel_rfl
theorem run_R8T_1_7 : S.fn Pg (kn [(0, 5, 1), (1, 20, 7)]) tbl 3000 4 [.sym 0, .sym 1] noHp = some (.val (.bool true) noHp) := by kernel_rfl
theorem run_R8T_1_8 : S.fn Pg (kn [(0, 5, 1), (1, 20, 8)]) tbl 3000 4 [.sym 0, .sym 1] noHp = some (.val (.bool true) noHp) := by kernel_rfl
theorem run_R8T_1_9 : S.fn Pg (kn [(0, 5, 1), (1, 20, 9)]) tbl 3000 4 [.sym 0, .sym 1] noHp = some (.val (.bool true) noHp) := by kernel_rfl
theorem run_R8T_1_10 : S.fn Pg (kn [(0, 5, 1), (1, 20, 10)]) tbl 3000 4 [.sym 0, .sym 1] noHp = some (.val (.bool true) noHp) := by kernel_rfl
theorem run_R8T_1_11 : S.fn Pg (kn [(0, 5, 1), (1, 20, 11)]) tbl 3000 4 [.sym 0, .sym 1] noHp = some (.val (.bool true) noHp) := by kernel_rfl
theorem run_R8T_1_12 : S.fn Pg (kn [(0, 5, 1), (1, 20, 12)]) tbl 3000 4 [.sym 0, .sym 1] noHp = some (.val (.bool true) noHp) := by kernel_rfl
theorem run_R8T_1_13 : S.fn Pg (kn [(0, 5, 1), (1, 20, 13)]) tbl 3000 4 [.sym 0, .sym 1] noHp = some (.val (.bool true) noHp) := by kernel_rfl
theorem run_R8T_1_14 : S.fn Pg (kn [(0, 5, 1), (1, 20, 14)]) tbl 3000 4 [.sym 0, .sym 1] noHp = some (.val (.bool true) noHp) := by kernel_rfl
theorem run_R8T_1_15 : S.fn Pg (kn [(0, 5, 1), (1, 20, 15)]) tbl 3000 4 [.sym 0, .sym 1] noHp = some (.val (.bool true) noHp) := by kernel_rfl
theorem run_R8T_1_16 : S.fn Pg (kn [(0, 5, 1), (1, 20, 16)]) tbl 3000 4 [.sym 0, .sym 1] noHp = some (.val (.bool true) noHp) := by kernel_rfl
theorem run_R8T_1_17 : S.fn Pg (kn [(0, 5, 1), (1, 20, 17)]) tbl 3000 4 [.sym 0, .sym 1] noHp = some (.val (.bool true) noHp) := by kernel_rfl
theorem run_R8T_1_18 : S.fn Pg (kn [(0, 5, 1), (1, 20, 18)]) tbl 3000 4 [.sym 0, .sym 1] noHp = some (.val (.bool true) noHp) := by kernel_rfl
theorem run_R8T_1_19 : S.fn Pg (kn [(0, 5, 1), (1, 20, 19)]) tbl 3000 4 [.sym 0, .sym 1] noHp = some (.val (.bool true) noHp) := by kernel_rfl
theorem run_R8T_2_0 : S.fn Pg (kn [(0, 5, 2), (1, 20, 0)]) tbl 3000 4 [.sym 0, .sym 1] noHp = some (.val (.bool true) noHp) := by kernel_rfl
theorem run_R8T_2_1 : S.fn Pg (kn [(0, 5, 2), (1, 20, 1)]) tbl 3000 4 [.sym 0, .sym 1] noHp = some (.val (.bool true) noHp) := by kernel_rfl
theorem run_R8T_2_2 : S.fn Pg (kn [(0, 5, 2), (1, 20, 2)]) tbl 3000 4 [.sym 0, .sym 1] noHp = some (.val (.bool true) noHp) := by kernel_rfl
theorem run_R8T_2_3 : S.fn Pg (kn [(0, 5, 2), (1, 20, 3)]) tbl 3000 4 [.sym 0, .sym 1] noHp = some (.val (.bool true) noHp) := by kernel_rfl
theorem run_R8T_2_4 : S.fn Pg (kn [(0, 5, 2), (1, 20, 4)]) tbl 3000 4 [.sym 0, .sym 1] noHp = some (.val (.bool true) noHp) := by kernel_rfl
theorem run_R8T_2_5 : S.fn Pg (kn [(0, 5, 2), (1, 20, 5)]) tbl 3000 4 [.sym 0, .sym 1] noHp = some (.val (.bool true) noHp) := by kernel_rfl
theorem run_R8T_2_6 : S.fn Pg (kn [(0, 5, 2), (1, 20, 6)]) tbl 3000 4 [.sym 0, .sym 1] noHp = some (.val (.bool true) noHp) := by kernel_rfl
theorem run_R8T_2_7 : S.fn Pg (kn [(0, 5, 2), (1, 20, 7)]) tbl 3000 4 [.sym 0, .sym 1] noHp = some (.val (.bool true) noHp) := by kernel_rfl
theorem run_R8T_2_8 : S.fn Pg (kn [(0, 5, 2), (1, 20, 8)]) tbl 3000 4 [.sym 0, .sym 1] noHp = some (.val (.bool true) noHp) := by kernel_rfl
theorem run_R8T_2_9 : S.fn Pg (kn [(0, 5, 2), (1, 20, 9)]) tbl 3000 4 [.sym 0, .sym 1] noHp = some (.val (.bool true) noHp) := by kernel_rfl
end Go.Proofs.YtdaimjlegjhidaaDoor
