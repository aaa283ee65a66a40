/- Part V2 of the proof: what it says stands at its theorems. -/
import Derived.Test.YteefhhgjlbeiiaaDoorSe
set_option linter.unusedVariables false
set_option linter.unusedSimpArgs false
set_option linter.unusedSectionVars false
/- The law's runs, part 2. -/
namespace Go.Proofs.YteefhhgjlbeiiaaDoor
open Go Go.AM Go.AM.S Go.Proofs
set_option maxRecDepth 100000
theorem run_R3V_4_0 : S.fn Pg (kn [(0, 12, 4), (1, 12, 0)]) tbl 3000 9 [.sym 0, .sym 1] noHp = some (.val (.bool true) noHp) := by kernel_rfl
theorem run_R3V_4_1 : S.fn Pg (kn [(0, 12, 4), (1, 12, 1)]) tbl 3000 9 [.sym 0, .sym 1] noHp = some (.val (.bool true) noHp) := by kernel_rfl
theorem run_R3V_4_2 : S.fn Pg (kn [(0, 12, 4), (1, 12, 2)]) tbl 3000 9 [.sym 0, .sym 1] noHp = some (.val (.bool true) noHp) := by kernel_rfl
theorem run_R3V_4_3 : S.fn Pg (kn [(0, 12, 4), (1, 12, 3)]) tbl 3000 9 [.sym 0, .sym 1] noHp = some (.val (.bool true) noHp) := by kernel_rfl
theorem run_R3V_4_4 : S.fn Pg (kn [(0, 12, 4), (1, 12, 4)]) tbl 3000 9 [.sym 0, .sym 1] noHp = some (.val (.bool true) noHp) := by kernel_rfl
theorem run_R3V_4_5 : S.fn Pg (kn [(0, 12, 4), (1, 12, 5)]) tbl 3000 9 [.sym 0, .sym 1] noHp = some (.val (.bool true) noHp) := by kernel_rfl
theorem run_R3V_4_6 : S.fn Pg (kn [(0, 12, 4), (1, 12, 6)]) tbl 3000 9 [.sym 0, .sym 1] noHp = some (.val (.bool true) noHp) := by kernel_rfl
theorem run_R3V_4_7 : S.fn Pg (kn [(0, 12, 4), (1, 12, 7)]) tbl 3000 9 [.sym 0, .sym 1] noHp = some (.val (.bool true) noHp) := by kernel_rfl
theorem run_R3V_4_8 : S.fn Pg (kn [(0, 12, 4), (1, 12, 8)]) tbl 3000 9 [.sym 0, .sym 1] noHp = some (.val (.bool true) noHp) := by kernel_rfl
theorem run_R3V_4_9 : S.fn Pg (kn [(0, 12, 4), (1, 12, 9)]) tbl 3000 9 [.sym 0, .sym 1] noHp = some (.val (.bool true) noHp) := by kernel_rfl
theorem run_R3V_4_10 : S.fn Pg (kn [(0, 12, 4), (1, 12, 10)]) tbl 3000 9 [.sym 0, .sym 1] noHp = some (.val (.bool true) noHp) := by kernel_rfl
theorem run_R3V_4_11 : S.fn Pg (kn [(0, 12, 4), (1, 12, 11)]) tbl 3000 9 [.sym 0, .sym 1] noHp = some (.val (.bool true) noHp) := by kernel_rfl
theorem run_R3V_5_0 : S.fn Pg (kn [(0, 12, 5), (1, 12, 0)]) tbl 3000 9 [.sym 0, .sym 1] noHp = some (.val (.bool true) noHp) := by kernel_rfl
theorem run_R3V_5_1 : S.fn Pg (kn [(0, 12, 5), (1, 12, 1)]) tbl 3000 9 [.sym 0, .sym 1] noHp = some (.val (.bool true) noHp) := by kernel_rfl
theorem run_R3V_5_2 : S.fn Pg (kn [(0, 12, 5), (1, 12, 2)]) tbl 3000 9 [.sym 0, .sym 1] noHp = some (.val (.bool true) noHp) := by kernel_rfl
theorem run_R3V_5_3 : S.fn Pg (kn [(0, 12, 5), (1, 12, 3)]) tbl 3000 9 [.sym 0, .sym 1] noHp = some (.val (.bool true) noHp) := by kernel_rfl
theorem run_R3V_5_4 : S.fn Pg (kn [(0, 12, 5), (1, 12, 4)]) tbl 3000 9 [.sym 0, .sym 1] noHp = some (.val (.bool true) noHp) := by kernel_rfl
theorem run_R3V_5_5 : S.fn Pg (kn [(0, 12, 5), (1, 12, 5)]) tbl 3000 9 [.sym 0, .sym 1] noHp = some (.val (.bool true) noHp) := by kernel_rfl
theorem run_R3V_5_6 : S.fn Pg (kn [(0, 12, 5), (1, 12, 6)]) tbl 3000 9 [.sym 0, .sym 1] noHp = some (.val (.bool true) noHp) := by kernel_rfl
theorem run_R3V_5_7 : S.fn Pg (kn [(0, 12, 5), (1, 12, 7)]) tbl 3000 9 [.sym 0, .sym 1] noHp = some (.val (.bool true) noHp) := by kernel_rfl
theorem run_R3V_5_8 : S.fn Pg (kn [(0, 12, 5), (1, 12, 8)]) tbl 3000 9 [.sym 0, .sym 1] noHp = some (.val (.bool true) noHp) := by kernel_rfl
theorem run_R3V_5_9 : S.fn Pg (kn [(0, 12, 5), (1, 12, 9)]) tbl 3000 9 [.sym 0, .sym 1] noHp = some (.val (.bool true) noHp) := by kernel_rfl
theorem run_R3V_5_10 : S.fn Pg (kn [(0, 12, 5), (1, 12, 10)]) tbl 3000 9 [.sym 0, .sym 1] noHp = some (.val (.bool true) noHp) := by kernel_rfl
theorem run_R3V_5_11 : S.fn Pg (kn [(0, 12, 5), (1, 12, 11)]) tbl 3000 9 [.sym 0, .sym 1] noHp = some (.val (.bool true) noHp) := by kernel_rfl
end Go.Proofs.YteefhhgjlbeiiaaDoor
