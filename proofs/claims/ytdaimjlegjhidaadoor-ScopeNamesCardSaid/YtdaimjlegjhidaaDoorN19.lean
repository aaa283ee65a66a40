/- Part N19 of the proof: what it says stands at its theorems. -/
import Derived.Test.YtdaimjlegjhidaaDoorSe
set_option linter.unusedVariables false
set_option linter.unusedSimpArgs false
set_option linter.unusedSectionVars false
/- The law's runs, part 19. -/
namespace Go.Proofs.YtdaimjlegjhidaaDoor
open Go Go.AM Go.AM.S Go.Proofs
set_option maxRecDepth 100000
theorem run_R8N_5_4 : S.fn Pg (kn [(0, 20, 5), (1, 6, 4)]) tbl 3000 5 [.sym 0, .sym 1] noHp = some (.val (.bool true) noHp) := by kernel_rfl
theorem run_R8N_8_7 : S.fn Pg (kn [(0, 20, 8), (1, 9, 7)]) tbl 3000 5 [.sym 0, .sym 1] noHp = some (.val (.bool true) noHp) := by kernel_rfl
theorem run_R8N_11_1 : S.fn Pg (kn [(0, 20, 11), (1, 12, 1)]) tbl 3000 5 [.sym 0, .sym 1] noHp = some (.val (.bool true) noHp) := by kernel_rfl
theorem run_R8N_13_0 : S.fn Pg (kn [(0, 20, 13), (1, 14, 0)]) tbl 3000 5 [.sym 0, .sym 1] noHp = some (.val (.bool true) noHp) := by kernel_rfl
theorem run_R8N_14_10 : S.fn Pg (kn [(0, 20, 14), (1, 15, 10)]) tbl 3000 5 [.sym 0, .sym 1] noHp = some (.val (.bool true) noHp) := by kernel_rfl
theorem run_R8N_16_3 : S.fn Pg (kn [(0, 20, 16), (1, 17, 3)]) tbl 3000 5 [.sym 0, .sym 1] noHp = some (.val (.bool true) noHp) := by kernel_rfl
theorem run_R8N_17_10 : S.fn Pg (kn [(0, 20, 17), (1, 18, 10)]) tbl 3000 5 [.sym 0, .sym 1] noHp = some (.val (.bool true) noHp) := by kernel_rfl
theorem run_R8N_18_16 : S.fn Pg (kn [(0, 20, 18), (1, 19, 16)]) tbl 3000 5 [.sym 0, .sym 1] noHp = some (.val (.bool true) noHp) := by kernel_rfl
end Go.Proofs.YtdaimjlegjhidaaDoor
