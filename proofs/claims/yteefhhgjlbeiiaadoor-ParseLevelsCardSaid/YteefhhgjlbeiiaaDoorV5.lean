/- Part V5 of the proof: what it says stands at its theorems. -/
import Derived.Test.YteefhhgjlbeiiaaDoorSe
set_option linter.unusedVariables false
set_option linter.unusedSimpArgs false
set_option linter.unusedSectionVars false
/- The law's runs, part 5. -/
namespace Go.Proofs.YteefhhgjlbeiiaaDoor
open Go Go.AM Go.AM.S Go.Proofs
set_option maxRecDepth 100000
theorem run_R3V_10_0 : S.fn Pg (kn [(0, 12, 10), (1, 12, 0)]) tbl 3000 9 [.sym 0, .sym 1] noHp = some (.val (.bool true) noHp) := by kernel_rfl
theorem run_R3V_10_1 : S.fn Pg (kn [(0, 12, 10), (1, 12, 1)]) tbl 3000 9 [.sym 0, .sym 1] noHp = some (.val (.bool true) noHp) := by kernel_rfl
theorem run_R3V_10_2 : S.fn Pg (kn [(0, 12, 10), (1, 12, 2)]) tbl 3000 9 [.sym 0, .sym 1] noHp = some (.val (.bool true) noHp) := by kernel_rfl
theorem run_R3V_10_3 : S.fn Pg (kn [(0, 12, 10), (1, 12, 3)]) tbl 3000 9 [.sym 0, .sym 1] noHp = some (.val (.bool true) noHp) := by kernel_rfl
theorem run_R3V_10_4 : S.fn Pg (kn [(0, 12, 10), (1, 12, 4)]) tbl 3000 9 [.sym 0, .sym 1] noHp = some (.val (.bool true) noHp) := by kernel_rfl
theorem run_R3V_10_5 : S.fn Pg (kn [(0, 12, 10), (1, 12, 5)]) tbl 3000 9 [.sym 0, .sym 1] noHp = some (.val (.bool true) noHp) := by kernel_rfl
theorem run_R3V_10_6 : S.fn Pg (kn [(0, 12, 10), (1, 12, 6)]) tbl 3000 9 [.sym 0, .sym 1] noHp = some (.val (.bool true) noHp) := by kernel_rfl
theorem run_R3V_10_7 : S.fn Pg (kn [(0, 12, 10), (1, 12, 7)]) tbl 3000 9 [.sym 0, .sym 1] noHp = some (.val (.bool true) noHp) := by kernel_rfl
theorem run_R3V_10_8 : S.fn Pg (kn [(0, 12, 10), (1, 12, 8)]) tbl 3000 9 [.sym 0, .sym 1] noHp = some (.val (.bool true) noHp) := by kernel_rfl
theorem run_R3V_10_9 : S.fn Pg (kn [(0, 12, 10), (1, 12, 9)]) tbl 3000 9 [.sym 0, .sym 1] noHp = some (.val (.bool true) noHp) := by kernel_rfl
theorem run_R3V_10_10 : S.fn Pg (kn [(0, 12, 10), (1, 12, 10)]) tbl 3000 9 [.sym 0, .sym 1] noHp = some (.val (.bool true) noHp) := by kernel_rfl
theorem run_R3V_10_11 : S.fn Pg (kn [(0, 12, 10), (1, 12, 11)]) tbl 3000 9 [.sym 0, .sym 1] noHp = some (.val (.bool true) noHp) := by kernel_rfl
theorem run_R3V_11_0 : S.fn Pg (kn [(0, 12, 11), (1, 12, 0)]) tbl 3000 9 [.sym 0, .sym 1] noHp = some (.val (.bool true) noHp) := by kernel_rfl
theorem run_R3V_11_1 : S.fn Pg (kn [(0, 12, 11), (1, 12, 1)]) tbl 3000 9 [.sym 0, .sym 1] noHp = some (.val (.bool true) noHp) := by kernel_rfl
theorem run_R3V_11_2 : S.fn Pg (kn [(0, 12, 11), (1, 12, 2)]) tbl 3000 9 [.sym 0, .sym 1] noHp = some (.val (.bool true) noHp) := by kernel_rfl
theorem run_R3V_11_3 : S.fn Pg (kn [(0, 12, 11), (1, 12, 3)]) tbl 3000 9 [.sym 0, .sym 1] noHp = some (.val (.bool true) noHp) := by kernel_rfl
theorem run_R3V_11_4 : S.fn Pg (kn [(0, 12, 11), (1, 12, 4)]) tbl 3000 9 [.sym 0, .sym 1] noHp = some (.val (.bool true) noHp) := by kernel_rfl
theorem run_R3V_11_5 : S.fn Pg (kn [(0, 12, 11), (1, 12, 5)]) tbl 3000 9 [.sym 0, .sym 1] noHp = some (.val (.bool true) noHp) := by kernel_rfl
theorem run_R3V_11_6 : S.fn Pg (kn [(0, 12, 11), (1, 12, 6)]) tbl 3000 9 [.sym 0, .sym 1] noHp = some (.val (.bool true) noHp) := by kernel_rfl
theorem run_R3V_11_7 : S.fn Pg (kn [(0, 12, 11), (1, 12, 7)]) tbl 3000 9 [.sym 0, .sym 1] noHp = some (.val (.bool true) noHp) := by kernel_rfl
theorem run_R3V_11_8 : S.fn Pg (kn [(0, 12, 11), (1, 12, 8)]) tbl 3000 9 [.sym 0, .sym 1] noHp = some (.val (.bool true) noHp) := by kernel_rfl
theorem run_R3V_11_9 : S.fn Pg (kn [(0, 12, 11), (1, 12, 9)]) tbl 3000 9 [.sym 0, .sym 1] noHp = some (.val (.bool true) noHp) := by kernel_rfl
theorem run_R3V_11_10 : S.fn Pg (kn [(0, 12, 11), (1, 12, 10)]) tbl 3000 9 [.sym 0, .sym 1] noHp = some (.val (.bool true) noHp) := by kernel_rfl
theorem run_R3V_11_11 : S.fn Pg (kn [(0, 12, 11), (1, 12, 11)]) tbl 3000 9 [.sym 0, .sym 1] noHp = some (.val (.bool true) noHp) := by kernel_rfl
end Go.Proofs.YteefhhgjlbeiiaaDoor
