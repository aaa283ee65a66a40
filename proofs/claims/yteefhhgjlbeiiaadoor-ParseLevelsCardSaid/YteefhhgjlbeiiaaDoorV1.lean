/- Part V1 of the proof: what it says stands at its theorems. -/
import Derived.Test.YteefhhgjlbeiiaaDoorSe
set_option linter.unusedVariables false
set_option linter.unusedSimpArgs false
set_option linter.unusedSectionVars false
/- The law's runs, part 1. -/
namespace Go.Proofs.YteefhhgjlbeiiaaDoor
open Go Go.AM Go.AM.S Go.Proofs
set_option maxRecDepth 100000
theorem run_R3V_2_0 : S.fn Pg (kn [(0, 12, 2), (1, 12, 0)]) tbl 3000 9 [.sym 0, .sym 1] noHp = some (.val (.bool true) noHp) := by kernel_rfl
theorem run_R3V_2_1 : S.fn Pg (kn [(0, 12, 2), (1, 12, 1)]) tbl 3000 9 [.sym 0, .sym 1] noHp = some (.val (.bool true) noHp) := by kernel_rfl
theorem run_R3V_2_2 : S.fn Pg (kn [(0, 12, 2), (1, 12, 2)]) tbl 3000 9 [.sym 0, .sym 1] noHp = some (.val (.bool true) noHp) := by kernel_rfl
theorem run_R3V_2_3 : S.fn Pg (kn [(0, 12, 2), (1, 12, 3)]) tbl 3000 9 [.sym 0, .sym 1] noHp = some (.val (.bool true) noHp) := by kernel_rfl
theorem run_R3V_2_4 : S.fn Pg (kn [(0, 12, 2), (1, 12, 4)]) tbl 3000 9 [.sym 0, .sym 1] noHp = some (.val (.bool true) noHp) := by kernel_rfl
theorem run_R3V_2_5 : S.fn Pg (kn [(0, 12, 2), (1, 12, 5)]) tbl 3000 9 [.sym 0, .sym 1] noHp = some (.val (.bool true) noHp) := by kernel_rfl
theorem run_R3V_2_6 : S.fn Pg (kn [(0, 12, 2), (1, 12, 6)]) tbl 3000 9 [.sym 0, .sym 1] noHp = some (.val (.bool true) noHp) := by kernel_rfl
theorem run_R3V_2_7 : S.fn Pg (kn [(0, 12, 2), (1, 12, 7)]) tbl 3000 9 [.sym 0, .sym 1] noHp = some (.val (.bool true) noHp) := by kernel_rfl
theorem run_R3V_2_8 : S.fn Pg (kn [(0, 12, 2), (1, 12, 8)]) tbl 3000 9 [.sym 0, .sym 1] noHp = some (.val (.bool true) noHp) := by kernel_rfl
theorem run_R3V_2_9 : S.fn Pg (kn [(0, 12, 2), (1, 12, 9)]) tbl 3000 9 [.sym 0, .sym 1] noHp = some (.val (.bool true) noHp) := by kernel_rfl
theorem run_R3V_2_10 : S.fn Pg (kn [(0, 12, 2), (1, 12, 10)]) tbl 3000 9 [.sym 0, .sym 1] noHp = some (.val (.bool true) noHp) := by kernel_rfl
theorem run_R3V_2_11 : S.fn Pg (kn [(0, 12, 2), (1, 12, 11)]) tbl 3000 9 [.sym 0, .sym 1] noHp = some (.val (.bool true) noHp) := by kernel_rfl
theorem run_R3V_3_0 : S.fn Pg (kn [(0, 12, 3), (1, 12, 0)]) tbl 3000 9 [.sym 0, .sym 1] noHp = some (.val (.bool true) noHp) := by kernel_rfl
theorem run_R3V_3_1 : S.fn Pg (kn [(0, 12, 3), (1, 12, 1)]) tbl 3000 9 [.sym 0, .sym 1] noHp = some (.val (.bool true) noHp) := by kernel_rfl
theorem run_R3V_3_2 : S.fn Pg (kn [(0, 12, 3), (1, 12, 2)]) tbl 3000 9 [.sym 0, .sym 1] noHp = some (.val (.bool true) noHp) := by kernel_rfl
theorem run_R3V_3_3 : S.fn Pg (kn [(0, 12, 3), (1, 12, 3)]) tbl 3000 9 [.sym 0, .sym 1] noHp = some (.val (.bool true) noHp) := by kernel_rfl
theorem run_R3V_3_4 : S.fn Pg (kn [(0, 12, 3), (1, 12, 4)]) tbl 3000 9 [.sym 0, .sym 1] noHp = some (.val (.bool true) noHp) := by kernel_rfl
theorem run_R3V_3_5 : S.fn Pg (kn [(0, 12, 3), (1, 12, 5)]) tbl 3000 9 [.sym 0, .sym 1] noHp = some (.val (.bool true) noHp) := by kernel_rfl
theorem run_R3V_3_6 : S.fn Pg (kn [(0, 12, 3), (1, 12, 6)]) tbl 3000 9 [.sym 0, .sym 1] noHp = some (.val (.bool true) noHp) := by kernel_rfl
theorem run_R3V_3_7 : S.fn Pg (kn [(0, 12, 3), (1, 12, 7)]) tbl 3000 9 [.sym 0, .sym 1] noHp = some (.val (.bool true) noHp) := by kernel_rfl
theorem run_R3V_3_8 : S.fn Pg (kn [(0, 12, 3), (1, 12, 8)]) tbl 3000 9 [.sym 0, .sym 1] noHp = some (.val (.bool true) noHp) := by kernel_rfl
theorem run_R3V_3_9 : S.fn Pg (kn [(0, 12, 3), (1, 12, 9)]) tbl 3000 9 [.sym 0, .sym 1] noHp = some (.val (.bool true) noHp) := by kernel_rfl
theorem run_R3V_3_10 : S.fn Pg (kn [(0, 12, 3), (1, 12, 10)]) tbl 3000 9 [.sym 0, .sym 1] noHp = some (.val (.bool true) noHp) := by kernel_rfl
theorem run_R3V_3_11 : S.fn Pg (kn [(0, 12, 3), (1, 12, 11)]) tbl 3000 9 [.sym 0, .sym 1] noHp = some (.val (.bool true) noHp) := by kernel_rfl
end Go.Proofs.YteefhhgjlbeiiaaDoor
