/- Part P2 of the proof: what it says stands at its theorems. -/
import Derived.Test.YteefhhgjlbeiiaaDoorSe
set_option linter.unusedVariables false
set_option linter.unusedSimpArgs false
set_option linter.unusedSectionVars false
/- The law's runs, part 2. -/
namespace Go.Proofs.YteefhhgjlbeiiaaDoor
open Go Go.AM Go.AM.S Go.Proofs
set_option maxRecDepth 100000
theorem run_R3P_18 : S.fn Pg (kn [(0, 50, 18)]) tbl 3000 10 [.sym 0] noHp = some (.val (.bool true) noHp) := by kernel_rfl
theorem run_R3P_19 : S.fn Pg (kn [(0, 50, 19)]) tbl 3000 10 [.sym 0] noHp = some (.val (.bool true) noHp) := by kernel_rfl
theorem run_R3P_20 : S.fn Pg (kn [(0, 50, 20)]) tbl 3000 10 [.sym 0] noHp = some (.val (.bool true) noHp) := by kernel_rfl
theorem run_R3P_21 : S.fn Pg (kn [(0, 50, 21)]) tbl 3000 10 [.sym 0] noHp = some (.val (.bool true) noHp) := by kernel_rfl
theorem run_R3P_22 : S.fn Pg (kn [(0, 50, 22)]) tbl 3000 10 [.sym 0] noHp = some (.val (.bool true) noHp) := by kernel_rfl
theorem run_R3P_23 : S.fn Pg (kn [(0, 50, 23)]) tbl 3000 10 [.sym 0] noHp = some (.val (.bool true) noHp) := by kernel_rfl
theorem run_R3P_24 : S.fn Pg (kn [(0, 50, 24)]) tbl 3000 10 [.sym 0] noHp = some (.val (.bool true) noHp) := by kernel_rfl
theorem run_R3P_25 : S.fn Pg (kn [(0, 50, 25)]) tbl 3000 10 [.sym 0] noHp = some (.val (.bool true) noHp) := by kernel_rfl
theorem run_R3P_26 : S.fn Pg (kn [(0, 50, 26)]) tbl 3000 10 [.sym 0] noHp = some (.val (.bool true) noHp) := by kernel_rfl
end Go.Proofs.YteefhhgjlbeiiaaDoor
