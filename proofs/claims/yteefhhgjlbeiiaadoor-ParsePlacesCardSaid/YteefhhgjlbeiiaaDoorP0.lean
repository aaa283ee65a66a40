/- Part P0 of the proof: what it says stands at its theorems. -/
import Derived.Test.YteefhhgjlbeiiaaDoorSe
set_option linter.unusedVariables false
set_option linter.unusedSimpArgs false
set_option linter.unusedSectionVars false
/- The law's runs, part 0. -/
namespace Go.Proofs.YteefhhgjlbeiiaaDoor
open Go Go.AM Go.AM.S Go.Proofs
set_option maxRecDepth 100000
theorem run_R3P_0 : S.fn Pg (kn [(0, 50, 0)]) tbl 3000 10 [.sym 0] noHp = some (.val (.bool true) noHp) := by kernel_rfl
theorem run_R3P_1 : S.fn Pg (kn [(0, 50, 1)]) tbl 3000 10 [.sym 0] noHp = some (.val (.bool true) noHp) := by kernel_rfl
theorem run_R3P_2 : S.fn Pg (kn [(0, 50, 2)]) tbl 3000 10 [.sym 0] noHp = some (.val (.bool true) noHp) := by kernel_rfl
theorem run_R3P_3 : S.fn Pg (kn [(0, 50, 3)]) tbl 3000 10 [.sym 0] noHp = some (.val (.bool true) noHp) := by kernel_rfl
theorem run_R3P_4 : S.fn Pg (kn [(0, 50, 4)]) tbl 3000 10 [.sym 0] noHp = some (.val (.bool true) noHp) := by kernel_rfl
theorem run_R3P_5 : S.fn Pg (kn [(0, 50, 5)]) tbl 3000 10 [.sym 0] noHp = some (.val (.bool true) noHp) := by kernel_rfl
theorem run_R3P_6 : S.fn Pg (kn [(0, 50, 6)]) tbl 3000 10 [.sym 0] noHp = some (.val (.bool true) noHp) := by kernel_rfl
theorem run_R3P_7 : S.fn Pg (kn [(0, 50, 7)]) tbl 3000 10 [.sym 0] noHp = some (.val (.bool true) noHp) := by kernel_rfl
theorem run_R3P_8 : S.fn Pg (kn [(0, 50, 8)]) tbl 3000 10 [.sym 0] noHp = some (.val (.bool true) noHp) := by kernel_rfl
end Go.Proofs.YteefhhgjlbeiiaaDoor
