/- Part T0 of the proof: what it says stands at its theorems. -/
import Derived.Test.YtdaimjlegjhidaaDoorSe
set_option linter.unusedVariables false
set_option linter.unusedSimpArgs false
set_option linter.unusedSectionVars false
/- The law's runs, part 0. -/
namespace Go.Proofs.YtdaimjlegjhidaaDoor
open Go Go.AM Go.AM.S Go.Proofs
set_option maxRecDepth 100000
theorem run_R8T_0_0 : S.fn Pg (kn [(0, 5, 0), (1, 20, 0)]) tbl 3000 4 [.sym 0, .sym 1] noHp = some (.val (.bool true) noHp) := by kernel_rfl
theorem run_R8T_0_1 : S.fn Pg (kn [(0, 5, 0), (1, 20, 1)]) tbl 3000 4 [.sym 0, .sym 1] noHp = some (.val (.bool true) noHp) := by kernel_rfl
theorem run_R8T_0_2 : S.fn Pg (kn [(0, 5, 0), (1, 20, 2)]) tbl 3000 4 [.sym 0, .sym 1] noHp = some (.val (.bool true) noHp) := by kernel_rfl
theorem run_R8T_0_3 : S.fn Pg (kn [(0, 5, 0), (1, 20, 3)]) tbl 3000 4 [.sym 0, .sym 1] noHp = some (.val (.bool true) noHp) := by kernel_rfl
theorem run_R8T_0_4 : S.fn Pg (kn [(0, 5, 0), (1, 20, 4)]) tbl 3000 4 [.sym 0, .sym 1] noHp = some (.val (.bool true) noHp) := by kernel_rfl
theorem run_R8T_0_5 : S.fn Pg (kn [(0, 5, 0), (1, 20, 5)]) tbl 3000 4 [.sym 0, .sym 1] noHp = some (.val (.bool true) noHp) := by kernel_rfl
theorem run_R8T_0_6 : S.fn Pg (kn [(0, 5, 0), (1, 20, 6)]) tbl 3000 4 [.sym 0, .sym 1] noHp = some (.val (.bool true) noHp) := by kernel_rfl
theorem run_R8T_0_7 : S.fn Pg (kn [(0, 5, 0), (1, 20, 7)]) tbl 3000 4 [.sym 0, .sym 1] noHp = some (.val (.bool true) noHp) := by kernel_rfl
theorem run_R8T_0_8 : S.fn Pg (kn [(0, 5, 0), (1, 20, 8)]) tbl 3000 4 [.sym 0, .sym 1] noHp = some (.val (.bool true) noHp) := by kernel_rfl
theorem run_R8T_0_9 : S.fn Pg (kn [(0, 5, 0), (1, 20, 9)]) tbl 3000 4 [.sym 0, .sym 1] noHp = some (.val (.bool true) noHp) := by kernel_rfl
theorem run_R8T_0_10 : S.fn Pg (kn [(0, 5, 0), (1, 20, 10)]) tbl 3000 4 [.sym 0, .sym 1] noHp = some (.val (.bool true) noHp) := by kernel_rfl
theorem run_R8T_0_11 : S.fn Pg (kn [(0, 5, 0), (1, 20, 11)]) tbl 3000 4 [.sym 0, .sym 1] noHp = some (.val (.bool true) noHp) := by kernel_rfl
theorem run_R8T_0_12 : S.fn Pg (kn [(0, 5, 0), (1, 20, 12)]) tbl 3000 4 [.sym 0, .sym 1] noHp = some (.val (.bool true) noHp) := by kernel_rfl
theorem run_R8T_0_13 : S.fn Pg (kn [(0, 5, 0), (1, 20, 13)]) tbl 3000 4 [.sym 0, .sym 1] noHp = some (.val (.bool true) noHp) := by kernel_rfl
theorem run_R8T_0_14 : S.fn Pg (kn [(0, 5, 0), (1, 20, 14)]) tbl 3000 4 [.sym 0, .sym 1] noHp = some (.val (.bool true) noHp) := by kernel_rfl
theorem run_R8T_0_15 : S.fn Pg (kn [(0, 5, 0), (1, 20, 15)]) tbl 3000 4 [.sym 0, .sym 1] noHp = some (.val (.bool true) noHp) := by kernel_rfl
theorem run_R8T_0_16 : S.fn Pg (kn [(0, 5, 0), (1, 20, 16)]) tbl 3000 4 [.sym 0, .sym 1] noHp = some (.val (.bool true) noHp) := by kernel_rfl
theorem run_R8T_0_17 : S.fn Pg (kn [(0, 5, 0), (1, 20, 17)]) tbl 3000 4 [.sym 0, .sym 1] noHp = some (.val (.bool true) noHp) := by kernel_rfl
theorem run_R8T_0_18 : S.fn Pg (kn [(0, 5, 0), (1, 20, 18)]) tbl 3000 4 [.sym 0, .sym 1] noHp = some (.val (.bool true) noHp) := by kernel_rfl
theorem run_R8T_0_19 : S.fn Pg (kn [(0, 5, 0), (1, 20, 19)]) tbl 3000 4 [.sym 0, .sym 1] noHp = some (.val (.bool true) noHp) := by kernel_rfl
theorem run_R8T_1_0 : S.fn Pg (kn [(0, 5, 1), (1, 20, 0)]) tbl 3000 4 [.sym 0, .sym 1] noHp = some (.val (.bool true) noHp) := by kernel_rfl
theorem run_R8T_1_1 : S.fn Pg (kn [(0, 5, 1), (1, 20, 1)]) tbl 3000 4 [.sym 0, .sym 1] noHp = some (.val (.bool true) noHp) := by kernel_rfl
theorem run_R8T_1_2 : S.fn Pg (kn [(0, 5, 1), (1, 20, 2)]) tbl 3000 4 [.sym 0, .sym 1] noHp = some (.val (.bool true) noHp) := by kernel_rfl
theorem run_R8T_1_3 : S.fn Pg (kn [(0, 5, 1), (1, 20, 3)]) tbl 3000 4 [.sym 0, .sym 1] noHp = some (.val (.bool true) noHp) := by kernel_rfl
theorem run_R8T_1_4 : S.fn Pg (kn [(0, 5, 1), (1, 20, 4)]) tbl 3000 4 [.sym 0, .sym 1] noHp = some (.val (.bool true) noHp) := by kernel_rfl
end Go.Proofs.YtdaimjlegjhidaaDoor
