/- Part T2 of the proof: what it says stands at its theorems. -/
import Derived.Test.YtdaimjlegjhidaaDoorSe
set_option linter.unusedVariables false
set_option linter.unusedSimpArgs false
set_option linter.unusedSectionVars false
/- The law's runs, part 2. -/
namespace Go.Proofs.YtdaimjlegjhidaaDoor
open Go Go.AM Go.AM.S Go.Proofs
set_option maxRecDepth 100000
theorem run_R8T_2_10 : S.fn Pg (kn [(0, 5, 2), (1, 20, 10)]) tbl 3000 4 [.sym 0, .sym 1] noHp = some (.val (.bool true) noHp) := by kernel_rfl
theorem run_R8T_2_11 : S.fn Pg (kn [(0, 5, 2), (1, 20, 11)]) tbl 3000 4 [.sym 0, .sym 1] noHp = some (.val (.bool true) noHp) := by kernel_rfl
theorem run_R8T_2_12 : S.fn Pg (kn [(0, 5, 2), (1, 20, 12)]) tbl 3000 4 [.sym 0, .sym 1] noHp = some (.val (.bool true) noHp) := by kernel_rfl
theorem run_R8T_2_13 : S.fn Pg (kn [(0, 5, 2), (1, 20, 13)]) tbl 3000 4 [.sym 0, .sym 1] noHp = some (.val (.bool true) noHp) := by kernel_rfl
theorem run_R8T_2_14 : S.fn Pg (kn [(0, 5, 2), (1, 20, 14)]) tbl 3000 4 [.sym 0, .sym 1] noHp = some (.val (.bool true) noHp) := by kernel_rfl
theorem run_R8T_2_15 : S.fn Pg (kn [(0, 5, 2), (1, 20, 15)]) tbl 3000 4 [.sym 0, .sym 1] noHp = some (.val (.bool true) noHp) := by kernel_rfl
theorem run_R8T_2_16 : S.fn Pg (kn [(0, 5, 2), (1, 20, 16)]) tbl 3000 4 [.sym 0, .sym 1] noHp = some (.val (.bool true) noHp) := by kernel_rfl
theorem run_R8T_2_17 : S.fn Pg (kn [(0, 5, 2), (1, 20, 17)]) tbl 3000 4 [.sym 0, .sym 1] noHp = some (.val (.bool true) noHp) := by kernel_rfl
theorem run_R8T_2_18 : S.fn Pg (kn [(0, 5, 2), (1, 20, 18)]) tbl 3000 4 [.sym 0, .sym 1] noHp = some (.val (.bool true) noHp) := by kernel_rfl
theorem run_R8T_2_19 : S.fn Pg (kn [(0, 5, 2), (1, 20, 19)]) tbl 3000 4 [.sym 0, .sym 1] noHp = some (.val (.bool true) noHp) := by kernel_rfl
theorem run_R8T_3_0 : S.fn Pg (kn [(0, 5, 3), (1, 20, 0)]) tbl 3000 4 [.sym 0, .sym 1] noHp = some (.val (.bool true) noHp) := by kernel_rfl
theorem run_R8T_3_1 : S.fn Pg (kn [(0, 5, 3), (1, 20, 1)]) tbl 3000 4 [.sym 0, .sym 1] noHp = some (.val (.bool true) noHp) := by kernel_rfl
theorem run_R8T_3_2 : S.fn Pg (kn [(0, 5, 3), (1, 20, 2)]) tbl 3000 4 [.sym 0, .sym 1] noHp = some (.val (.bool true) noHp) := by kernel_rfl
theorem run_R8T_3_3 : S.fn Pg (kn [(0, 5, 3), (1, 20, 3)]) tbl 3000 4 [.sym 0, .sym 1] noHp = some (.val (.bool true) noHp) := by kernel_rfl
theorem run_R8T_3_4 : S.fn Pg (kn [(0, 5, 3), (1, 20, 4)]) tbl 3000 4 [.sym 0, .sym 1] noHp = some (.val (.bool true) noHp) := by kernel_rfl
theorem run_R8T_3_5 : S.fn Pg (kn [(0, 5, 3), (1, 20, 5)]) tbl 3000 4 [.sym 0, .sym 1] noHp = some (.val (.bool true) noHp) := by kernel_rfl
theorem run_R8T_3_6 : S.fn Pg (kn [(0, 5, 3), (1, 20, 6)]) tbl 3000 4 [.sym 0, .sym 1] noHp = some (.val (.bool true) noHp) := by kernel_rfl
theorem run_R8T_3_7 : S.fn Pg (kn [(0, 5, 3), (1, 20, 7)]) tbl 3000 4 [.sym 0, .sym 1] noHp = some (.val (.bool true) noHp) := by kernel_rfl
theorem run_R8T_3_8 : S.fn Pg (kn [(0, 5, 3), (1, 20, 8)]) tbl 3000 4 [.sym 0, .sym 1] noHp = some (.val (.bool true) noHp) := by kernel_rfl
theorem run_R8T_3_9 : S.fn Pg (kn [(0, 5, 3), (1, 20, 9)]) tbl 3000 4 [.sym 0, .sym 1] noHp = some (.val (.bool true) noHp) := by kernel_rfl
theorem run_R8T_3_10 : S.fn Pg (kn [(0, 5, 3), (1, 20, 10)]) tbl 3000 4 [.sym 0, .sym 1] noHp = some (.val (.bool true) noHp) := by kernel_rfl
theorem run_R8T_3_11 : S.fn Pg (kn [(0, 5, 3), (1, 20, 11)]) tbl 3000 4 [.sym 0, .sym 1] noHp = some (.val (.bool true) noHp) := by kernel_rfl
theorem run_R8T_3_12 : S.fn Pg (kn [(0, 5, 3), (1, 20, 12)]) tbl 3000 4 [.sym 0, .sym 1] noHp = some (.val (.bool true) noHp) := by kernel_rfl
theorem run_R8T_3_13 : S.fn Pg (kn [(0, 5, 3), (1, 20, 13)]) tbl 3000 4 [.sym 0, .sym 1] noHp = some (.val (.bool true) noHp) := by kernel_rfl
theorem run_R8T_3_14 : S.fn Pg (kn [(0, 5, 3), (1, 20, 14)]) tbl 3000 4 [.sym 0, .sym 1] noHp = some (.val (.bool true) noHp) := by kernel_rfl
end Go.Proofs.YtdaimjlegjhidaaDoor
