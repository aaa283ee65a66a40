/- Part P1 of the proof: what it says stands at its theorems. -/
import Derived.Test.YteefhhgjlbeiiaaDoorSe
set_option linter.unusedVariables false
set_option linter.unusedSimpArgs false
set_option linter.unusedSectionVars false
/- The law's runs, part 1. -/
namespace Go.Proofs.YteefhhgjlbeiiaaDoor
open Go Go.AM Go.AM.S Go.Proofs
set_option maxRecDepth 100000
theorem run_R3P_9 : S.fn Pg (kn [(0, 50, 9)]) tbl 3000 10 [.sym 0] noHp = some (.val (.bool true) noHp) := by kernel_rfl
theorem run_R3P_10 : S.fn Pg (kn [(0, 50, 10)]) tbl 3000 10 [.sym 0] noHp = some (.val (.bool true) noHp) := by kernel_rfl
theorem run_R3P_11 : S.fn Pg (kn [(0, 50, 11)]) tbl 3000 10 [.sym 0] noHp = some (.val (.bool true) noHp) := by kernel_rfl
theorem run_R3P_12 : S.fn Pg (kn [(0, 50, 12)]) tbl 3000 10 [.sym 0] noHp = some (.val (.bool true) noHp) := by kernel_rfl
theorem run_R3P_13 : S.fn Pg (kn [(0, 50, 13)]) tbl 3000 10 [.sym 0] noHp = some (.val (.bool true) noHp) := by kernel_rfl
theorem run_R3P_14 : S.fn Pg (kn [(0, 50, 14)]) tbl 3000 10 [.sym 0] noHp = some (.val (.bool true) noHp) := by kernel_rfl
theorem run_R3P_15 : S.fn Pg (kn [(0, 50, 15)]) tbl 3000 10 [.sym 0] noHp = some (.val (.bool true) noHp) := by kernel_rfl
theorem run_R3P_16 : S.fn Pg (kn [(0, 50, 16)]) tbl 3000 10 [.sym 0] noHp = some (.val (.bool true) noHp) := by kernel_rfl
theorem run_R3P_17 : S.fn Pg (kn [(0, 50, 17)]) tbl 3000 10 [.sym 0] noHp = some (.val (.bool true) noHp) := by kernel_rfl
end Go.Proofs.YteefhhgjlbeiiaaDoor
