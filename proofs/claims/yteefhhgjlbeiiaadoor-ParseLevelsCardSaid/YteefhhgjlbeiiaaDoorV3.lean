/- Part V3 of the proof: what it says stands at its theorems. -/
import Derived.Test.YteefhhgjlbeiiaaDoorSe
set_option linter.unusedVariables false
set_option linter.unusedSimpArgs false
set_option linter.unusedSectionVars false
/- The law's runs, part 3. -/
namespace Go.Proofs.YteefhhgjlbeiiaaDoor
open Go Go.AM Go.AM.S Go.Proofs
set_option maxRecDepth 100000
theorem run_R3V_6_0 : S.fn Pg (kn [(0, 12, 6), (1, 12, 0)]) tbl 3000 9 [.sym 0, .sym 1] noHp = some (.val (.bool true) noHp) := by kernel_rfl
theorem run_R3V_6_1 : S.fn Pg (kn [(0, 12, 6), (1, 12, 1)]) tbl 3000 9 [.sym 0, .sym 1] noHp = some (.val (.bool true) noHp) := by kernel_rfl
theorem run_R3V_6_2 : S.fn Pg (kn [(0, 12, 6), (1, 12, 2)]) tbl 3000 9 [.sym 0, .sym 1] noHp = some (.val (.bool true) noHp) := by kernel_rfl
theorem run_R3V_6_3 : S.fn Pg (kn [(0, 12, 6), (1, 12, 3)]) tbl 3000 9 [.sym 0, .sym 1] noHp = some (.val (.bool true) noHp) := by kernel_rfl
theorem run_R3V_6_4 : S.fn Pg (kn [(0, 12, 6), (1, 12, 4)]) tbl 3000 9 [.sym 0, .sym 1] noHp = some (.val (.bool true) noHp) := by kernel_rfl
theorem run_R3V_6_5 : S.fn Pg (kn [(0, 12, 6), (1, 12, 5)]) tbl 3000 9 [.sym 0, .sym 1] noHp = some (.val (.bool true) noHp) := by kernel_rfl
theorem run_R3V_6_6 : S.fn Pg (kn [(0, 12, 6), (1, 12, 6)]) tbl 3000 9 [.sym 0, .sym 1] noHp = some (.val (.bool true) noHp) := by kernel_rfl
theorem run_R3V_6_7 : S.fn Pg (kn [(0, 12, 6), (1, 12, 7)]) tbl 3000 9 [.sym 0, .sym 1] noHp = some (.val (.bool true) noHp) := by kernel_rfl
theorem run_R3V_6_8 : S.fn Pg (kn [(0, 12, 6), (1, 12, 8)]) tbl 3000 9 [.sym 0, .sym 1] noHp = some (.val (.bool true) noHp) := by kernel_rfl
theorem run_R3V_6_9 : S.fn Pg (kn [(0, 12, 6), (1, 12, 9)]) tbl 3000 9 [.sym 0, .sym 1] noHp = some (.val (.bool true) noHp) := by kernel_rfl
theorem run_R3V_6_10 : S.fn Pg (kn [(0, 12, 6), (1, 12, 10)]) tbl 3000 9 [.sym 0, .sym 1] noHp = some (.val (.bool true) noHp) := by kernel_rfl
theorem run_R3V_6_11 : S.fn Pg (kn [(0, 12, 6), (1, 12, 11)]) tbl 3000 9 [.sym 0, .sym 1] noHp = some (.val (.bool true) noHp) := by kernel_rfl
theorem run_R3V_7_0 : S.fn Pg (kn [(0, 12, 7), (1, 12, 0)]) tbl 3000 9 [.sym 0, .sym 1] noHp = some (.val (.bool true) noHp) := by kernel_rfl
theorem run_R3V_7_1 : S.fn Pg (kn [(0, 12, 7), (1, 12, 1)]) tbl 3000 9 [.sym 0, .sym 1] noHp = some (.val (.bool true) noHp) := by kernel_rfl
theorem run_R3V_7_2 : S.fn Pg (kn [(0, 12, 7), (1, 12, 2)]) tbl 3000 9 [.sym 0, .sym 1] noHp = some (.val (.bool true) noHp) := by kernel_rfl
theorem run_R3V_7_3 : S.fn Pg (kn [(0, 12, 7), (1, 12, 3)]) tbl 3000 9 [.sym 0, .sym 1] noHp = some (.val (.bool true) noHp) := by kernel_rfl
theorem run_R3V_7_4 : S.fn Pg (kn [(0, 12, 7), (1, 12, 4)]) tbl 3000 9 [.sym 0, .sym 1] noHp = some (.val (.bool true) noHp) := by kernel_rfl
theorem run_R3V_7_5 : S.fn Pg (kn [(0, 12, 7), (1, 12, 5)]) tbl 3000 9 [.sym 0, .sym 1] noHp = some (.val (.bool true) noHp) := by kernel_rfl
theorem run_R3V_7_6 : S.fn Pg (kn [(0, 12, 7), (1, 12, 6)]) tbl 3000 9 [.sym 0, .sym 1] noHp = some (.val (.bool true) noHp) := by kernel_rfl
theorem run_R3V_7_7 : S.fn Pg (kn [(0, 12, 7), (1, 12, 7)]) tbl 3000 9 [.sym 0, .sym 1] noHp = some (.val (.bool true) noHp) := by kernel_rfl
theorem run_R3V_7_8 : S.fn Pg (kn [(0, 12, 7), (1, 12, 8)]) tbl 3000 9 [.sym 0, .sym 1] noHp = some (.val (.bool true) noHp) := by kernel_rfl
theorem run_R3V_7_9 : S.fn Pg (kn [(0, 12, 7), (1, 12, 9)]) tbl 3000 9 [.sym 0, .sym 1] noHp = some (.val (.bool true) noHp) := by kernel_rfl
theorem run_R3V_7_10 : S.fn Pg (kn [(0, 12, 7), (1, 12, 10)]) tbl 3000 9 [.sym 0, .sym 1] noHp = some (.val (.bool true) noHp) := by kernel_rfl
theorem run_R3V_7_11 : S.fn Pg (kn [(0, 12, 7), (1, 12, 11)]) tbl 3000 9 [.sym 0, .sym 1] noHp = some (.val (.bool true) noHp) := by kernel_rfl
end Go.Proofs.YteefhhgjlbeiiaaDoor
