/- Part P4 of the proof: what it says stands at its theorems. -/
import Derived.Test.YteefhhgjlbeiiaaDoorSe
set_option linter.unusedVariables false
set_option linter.unusedSimpArgs false
set_option linter.unusedSectionVars false
/- The law's runs, part 4. -/
namespace Go.Proofs.YteefhhgjlbeiiaaDoor
open Go Go.AM Go.AM.S Go.Proofs
set_option maxRecDepth 100000
theorem run_R3P_36 : S.fn Pg (kn [(0, 50, 36)]) tbl 3000 10 [.sym 0] noHp = some (.val (.bool true) noHp) := by kernel_rfl
theorem run_R3P_37 : S.fn Pg (kn [(0, 50, 37)]) tbl 3000 10 [.sym 0] noHp = some (.val (.bool true) noHp) := by kernel_rfl
theorem run_R3P_38 : S.fn Pg (kn [(0, 50, 38)]) tbl 3000 10 [.sym 0] noHp = some (.val (.bool true) noHp) := by kernel_rfl
theorem run_R3P_39 : S.fn Pg (kn [(0, 50, 39)]) tbl 3000 10 [.sym 0] noHp = some (.val (.bool true) noHp) := by kernel_rfl
theorem run_R3P_40 : S.fn Pg (kn [(0, 50, 40)]) tbl 3000 10 [.sym 0] noHp = some (.val (.bool true) noHp) := by kernel_rfl
theorem run_R3P_41 : S.fn Pg (kn [(0, 50, 41)]) tbl 3000 10 [.sym 0] noHp = some (.val (.bool true) noHp) := by kernel_rfl
theorem run_R3P_42 : S.fn Pg (kn [(0, 50, 42)]) tbl 3000 10 [.sym 0] noHp = some (.val (.bool true) noHp) := by kernel_rfl
theorem run_R3P_43 : S.fn Pg (kn [(0, 50, 43)]) tbl 3000 10 [.sym 0] noHp = some (.val (.bool true) noHp) := by kernel_rfl
theorem run_R3P_44 : S.fn Pg (kn [(0, 50, 44)]) tbl 3000 10 [.sym 0] noHp = some (.val (.bool true) noHp) := by kernel_rfl
end Go.Proofs.YteefhhgjlbeiiaaDoor
