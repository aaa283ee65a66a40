/- Part V4 of the proof: what it says stands at its theorems. -/
import Derived.Test.YteefhhgjlbeiiaaDoorSe
set_option linter.unusedVariables false
set_option linter.unusedSimpArgs false
set_option linter.unusedSectionVars false
/- The law's runs, part 4. -/
namespace Go.Proofs.YteefhhgjlbeiiaaDoor
open Go Go.AM Go.AM.S Go.Proofs
set_option maxRecDepth 100000
theorem run_R3V_8_0 : S.fn Pg (kn [(0, 12, 8), (1, 12, 0)]) tbl 3000 9 [.sym 0, .sym 1] noHp = some (.val (.bool true) noHp) := by kernel_rfl
theorem run_R3V_8_1 : S.fn Pg (kn [(0, 12, 8), (1, 12, 1)]) tbl 3000 9 [.sym 0, .sym 1] noHp = some (.val (.bool true) noHp) := by kernel_rfl
theorem run_R3V_8_2 : S.fn Pg (kn [(0, 12, 8), (1, 12, 2)]) tbl 3000 9 [.sym 0, .sym 1] noHp = some (.val (.bool true) noHp) := by kernel_rfl
theorem run_R3V_8_3 : S.fn Pg (kn [(0, 12, 8), (1, 12, 3)]) tbl 3000 9 [.sym 0, .sym 1] noHp = some (.val (.bool true) noHp) := by kernel_rfl
theorem run_R3V_8_4 : S.fn Pg (kn [(0, 12, 8), (1, 12, 4)]) tbl 3000 9 [.sym 0, .sym 1] noHp = some (.val (.bool true) noHp) := by kernel_rfl
theorem run_R3V_8_5 : S.fn Pg (kn [(0, 12, 8), (1, 12, 5)]) tbl 3000 9 [.sym 0, .sym 1] noHp = some (.val (.bool true) noHp) := by kernel_rfl
theorem run_R3V_8_6 : S.fn Pg (kn [(0, 12, 8), (1, 12, 6)]) tbl 3000 9 [.sym 0, .sym 1] noHp = some (.val (.bool true) noHp) := by kernel_rfl
theorem run_R3V_8_7 : S.fn Pg (kn [(0, 12, 8), (1, 12, 7)]) tbl 3000 9 [.sym 0, .sym 1] noHp = some (.val (.bool true) noHp) := by kernel_rfl
theorem run_R3V_8_8 : S.fn Pg (kn [(0, 12, 8), (1, 12, 8)]) tbl 3000 9 [.sym 0, .sym 1] noHp = some (.val (.bool true) noHp) := by kernel_rfl
theorem run_R3V_8_9 : S.fn Pg (kn [(0, 12, 8), (1, 12, 9)]) tbl 3000 9 [.sym 0, .sym 1] noHp = some (.val (.bool true) noHp) := by kernel_rfl
theorem run_R3V_8_10 : S.fn Pg (kn [(0, 12, 8), (1, 12, 10)]) tbl 3000 9 [.sym 0, .sym 1] noHp = some (.val (.bool true) noHp) := by kernel_rfl
theorem run_R3V_8_11 : S.fn Pg (kn [(0, 12, 8), (1, 12, 11)]) tbl 3000 9 [.sym 0, .sym 1] noHp = some (.val (.bool true) noHp) := by kernel_rfl
theorem run_R3V_9_0 : S.fn Pg (kn [(0, 12, 9), (1, 12, 0)]) tbl 3000 9 [.sym 0, .sym 1] noHp = some (.val (.bool true) noHp) := by kernel_rfl
theorem run_R3V_9_1 : S.fn Pg (kn [(0, 12, 9), (1, 12, 1)]) tbl 3000 9 [.sym 0, .sym 1] noHp = some (.val (.bool true) noHp) := by kernel_rfl
theorem run_R3V_9_2 : S.fn Pg (kn [(0, 12, 9), (1, 12, 2)]) tbl 3000 9 [.sym 0, .sym 1] noHp = some (.val (.bool true) noHp) := by kernel_rfl
theorem run_R3V_9_3 : S.fn Pg (kn [(0, 12, 9), (1, 12, 3)]) tbl 3000 9 [.sym 0, .sym 1] noHp = some (.val (.bool true) noHp) := by kernel_rfl
theorem run_R3V_9_4 : S.fn Pg (kn [(0, 12, 9), (1, 12, 4)]) tbl 3000 9 [.sym 0, .sym 1] noHp = some (.val (.bool true) noHp) := by kernel_rfl
theorem run_R3V_9_5 : S.fn Pg (kn [(0, 12, 9), (1, 12, 5)]) tbl 3000 9 [.sym 0, .sym 1] noHp = some (.val (.bool true) noHp) := by kernel_rfl
theorem run_R3V_9_6 : S.fn Pg (kn [(0, 12, 9), (1, 12, 6)]) tbl 3000 9 [.sym 0, .sym 1] noHp = some (.val (.bool true) noHp) := by kernel_rfl
theorem run_R3V_9_7 : S.fn Pg (kn [(0, 12, 9), (1, 12, 7)]) tbl 3000 9 [.sym 0, .sym 1] noHp = some (.val (.bool true) noHp) := by kernel_rfl
theorem run_R3V_9_8 : S.fn Pg (kn [(0, 12, 9), (1, 12, 8)]) tbl 3000 9 [.sym 0, .sym 1] noHp = some (.val (.bool true) noHp) := by kernel_rfl
theorem run_R3V_9_9 : S.fn Pg (kn [(0, 12, 9), (1, 12, 9)]) tbl 3000 9 [.sym 0, .sym 1] noHp = some (.val (.bool true) noHp) := by kernel_rfl
theorem run_R3V_9_10 : S.fn Pg (kn [(0, 12, 9), (1, 12, 10)]) tbl 3000 9 [.sym 0, .sym 1] noHp = some (.val (.bool true) noHp) := by kernel_rfl
theorem run_R3V_9_11 : S.fn Pg (kn [(0, 12, 9), (1, 12, 11)]) tbl 3000 9 [.sym 0, .sym 1] noHp = some (.val (.bool true) noHp) := by kernel_rfl
end Go.Proofs.YteefhhgjlbeiiaaDoor
