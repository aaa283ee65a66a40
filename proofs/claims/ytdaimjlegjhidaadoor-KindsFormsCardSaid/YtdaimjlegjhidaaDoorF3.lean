/- Part F3 of the proof: what it says stands at its theorems. -/
import Derived.Test.YtdaimjlegjhidaaDoorSe
set_option linter.unusedVariables false
set_option linter.unusedSimpArgs false
set_option linter.unusedSectionVars false
/- The law's runs, part 3. -/
namespace Go.Proofs.YtdaimjlegjhidaaDoor
open Go Go.AM Go.AM.S Go.Proofs
set_option maxRecDepth 100000
theorem run_R2F_4_2 : S.fn Pg (kn [(0, 6, 4), (1, 4, 2)]) tbl 3000 7 [.sym 0, .sym 1] noHp = some (.val (.bool true) noHp) := by kernel_rfl
theorem run_R2F_4_3 : S.fn Pg (kn [(0, 6, 4), (1, 4, 3)]) tbl 3000 7 [.sym 0, .sym 1] noHp = some (.val (.bool true) noHp) := by kernel_rfl
theorem run_R2F_5_0 : S.fn Pg (kn [(0, 6, 5), (1, 4, 0)]) tbl 3000 7 [.sym 0, .sym 1] noHp = some (.val (.bool true) noHp) := by kernel_rfl
theorem run_R2F_5_1 : S.fn Pg (kn [(0, 6, 5), (1, 4, 1)]) tbl 3000 7 [.sym 0, .sym 1] noHp = some (.val (.bool true) noHp) := by kernel_rfl
theorem run_R2F_5_2 : S.fn Pg (kn [(0, 6, 5), (1, 4, 2)]) tbl 3000 7 [.sym 0, .sym 1] noHp = some (.val (.bool true) noHp) := by kernel_rfl
theorem run_R2F_5_3 : S.fn Pg (kn [(0, 6, 5), (1, 4, 3)]) tbl 3000 7 [.sym 0, .sym 1] noHp = some (.val (.bool true) noHp) := by kernel_rfl
end Go.Proofs.YtdaimjlegjhidaaDoor
