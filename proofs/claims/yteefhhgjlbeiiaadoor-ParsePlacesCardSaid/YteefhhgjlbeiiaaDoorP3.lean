/- Part P3 of the proof: what it says stands at its theorems. -/
import Derived.Test.YteefhhgjlbeiiaaDoorSe
set_option linter.unusedVariables false
set_option linter.unusedSimpArgs false
set_option linter.unusedSectionVars false
/- The law's runs, part 3. -/
namespace Go.Proofs.YteefhhgjlbeiiaaDoor
open Go Go.AM Go.AM.S Go.Proofs
set_option maxRecDepth 100000
theorem run_R3P_27 : S.fn Pg (kn [(0, 50, 27)]) tbl 3000 10 [.sym 0] noHp = some (.val (.bool true) noHp) := by kernel_rfl
theorem run_R3P_28 : S.fn Pg (kn [(0, 50, 28)]) tbl 3000 10 [.sym 0] noHp = some (.val (.bool true) noHp) := by kernel_rfl
theorem run_R3P_29 : S.fn Pg (kn [(0, 50, 29)]) tbl 3000 10 [.sym 0] noHp = some (.val (.bool true) noHp) := by kernel_rfl
theorem run_R3P_30 : S.fn Pg (kn [(0, 50, 30)]) tbl 3000 10 [.sym 0] noHp = some (.val (.bool true) noHp) := by kernel_rfl
theorem run_R3P_31 : S.fn Pg (kn [(0, 50, 31)]) tbl 3000 10 [.sym 0] noHp = some (.val (.bool true) noHp) := by kernel_rfl
theorem run_R3P_32 : S.fn Pg (kn [(0, 50, 32)]) tbl 3000 10 [.sym 0] noHp = some (.val (.bool true) noHp) := by kernel_rfl
theorem run_R3P_33 : S.fn Pg (kn [(0, 50, 33)]) tbl 3000 10 [.sym 0] noHp = some (.val (.bool true) noHp) := by kernel_rfl
theorem run_R3P_34 : S.fn Pg (kn [(0, 50, 34)]) tbl 3000 10 [.sym 0] noHp = some (.val (.bool true) noHp) := by kernel_rfl
theorem run_R3P_35 : S.fn Pg (kn [(0, 50, 35)]) tbl 3000 10 [.sym 0] noHp = some (.val (.bool true) noHp) := by kernel_rfl
end Go.Proofs.YteefhhgjlbeiiaaDoor
