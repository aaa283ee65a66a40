/- Part NC of the proof: what it says stands at its theorems. -/
import Derived.Test.YtdaimjlegjhidaaDoorN0
import Derived.Test.YtdaimjlegjhidaaDoorN1
import Derived.Test.YtdaimjlegjhidaaDoorN2
import Derived.Test.YtdaimjlegjhidaaDoorN3
import Derived.Test.YtdaimjlegjhidaaDoorN4
import Derived.Test.YtdaimjlegjhidaaDoorN5
import Derived.Test.YtdaimjlegjhidaaDoorN6
import Derived.Test.YtdaimjlegjhidaaDoorN7
import Derived.Test.YtdaimjlegjhidaaDoorN8
import Derived.Test.YtdaimjlegjhidaaDoorN9
import Derived.Test.YtdaimjlegjhidaaDoorN10
import Derived.Test.YtdaimjlegjhidaaDoorN11
import Derived.Test.YtdaimjlegjhidaaDoorN12
import Derived.Test.YtdaimjlegjhidaaDoorN13
import Derived.Test.YtdaimjlegjhidaaDoorN14
import Derived.Test.YtdaimjlegjhidaaDoorN15
import Derived.Test.YtdaimjlegjhidaaDoorN16
import Derived.Test.YtdaimjlegjhidaaDoorN17
import Derived.Test.YtdaimjlegjhidaaDoorN18
import Derived.Test.YtdaimjlegjhidaaDoorN19
import Derived.Test.YtdaimjlegjhidaaDoorN20
import Derived.Test.YtdaimjlegjhidaaDoorN21
import Derived.Test.YtdaimjlegjhidaaDoorN22
import Derived.Test.YtdaimjlegjhidaaDoorN23
set_option linter.unusedVariables false
set_option linter.unusedSimpArgs false
set_option linter.unusedSectionVars false
/- ScopeNames: the law returns true for every input, and each argument reads as it did (the card that ties what the row lists). The proof: every argument counts by its remainder alone (avowhelp.Place), and each of the finitely many runs is carried out by the kernel in an abstract machine that is proved sound. -/
namespace Go.Proofs.YtdaimjlegjhidaaDoor.scopeNames
open Go Go.AM Go.AM.S Go.Proofs Go.ChangeShapes Go.WideShapes Go.ChangeAt Go.RowKit
set_option maxRecDepth 100000
set_option linter.unusedSimpArgs false
theorem hl {n0 m0 n1 m1 : Int} (a b : Int) (p0 : 0 < n0 ∧ n0 < 4611686018427387904) (e0 : a % n0 = m0) (p1 : 0 < n1 ∧ n1 < 4611686018427387904) (e1 : b % n1 = m1) : ∀ t ∈ [((0 : Nat), n0, m0), ((1 : Nat), n1, m1)], 0 < t.2.1 ∧ t.2.1 < 4611686018427387904 ∧ ((env2 a b) t.1).1 = .i64 ∧ ((env2 a b) t.1).2 % t.2.1 = t.2.2 := by
  intro t ht
  simp only [List.mem_cons, List.not_mem_nil, or_false] at ht
  rcases ht with rfl | rfl
  · exact ⟨p0.1, p0.2, rfl, e0⟩
  · exact ⟨p1.1, p1.2, rfl, e1⟩
theorem runs (a : Int) (b : Int) : ∃ l : List (Nat × Int × Int), (∀ t ∈ l, 0 < t.2.1 ∧ t.2.1 < 4611686018427387904 ∧ ((env2 a b) t.1).1 = .i64 ∧ ((env2 a b) t.1).2 % t.2.1 = t.2.2) ∧ S.fn Pg (kn l) tbl 3000 5 [.sym 0, .sym 1] noHp = some (.val (.bool true) noHp) := by
  have h0 : a % 20 = 0 ∨ a % 20 = 1 ∨ a % 20 = 2 ∨ a % 20 = 3 ∨ a % 20 = 4 ∨ a % 20 = 5 ∨ a % 20 = 6 ∨ a % 20 = 7 ∨ a % 20 = 8 ∨ a % 20 = 9 ∨ a % 20 = 10 ∨ a % 20 = 11 ∨ a % 20 = 12 ∨ a % 20 = 13 ∨ a % 20 = 14 ∨ a % 20 = 15 ∨ a % 20 = 16 ∨ a % 20 = 17 ∨ a % 20 = 18 ∨ a % 20 = 19 := by omega
  rcases h0 with h0 | h0 | h0 | h0 | h0 | h0 | h0 | h0 | h0 | h0 | h0 | h0 | h0 | h0 | h0 | h0 | h0 | h0 | h0 | h0
  · have h1 : b % 1 = 0 := by omega
    exact ⟨[(0, 20, 0), (1, 1, 0)], hl a b ⟨by decide, by decide⟩ h0 ⟨by decide, by decide⟩ h1, run_R8N_0_0⟩
  · have h1 : b % 2 = 0 ∨ b % 2 = 1 := by omega
    rcases h1 with h1 | h1
    · exact ⟨[(0, 20, 1), (1, 2, 0)], hl a b ⟨by decide, by decide⟩ h0 ⟨by decide, by decide⟩ h1, run_R8N_1_0⟩
    · exact ⟨[(0, 20, 1), (1, 2, 1)], hl a b ⟨by decide, by decide⟩ h0 ⟨by decide, by decide⟩ h1, run_R8N_1_1⟩
  · have h1 : b % 3 = 0 ∨ b % 3 = 1 ∨ b % 3 = 2 := by omega
    rcases h1 with h1 | h1 | h1
    · exact ⟨[(0, 20, 2), (1, 3, 0)], hl a b ⟨by decide, by decide⟩ h0 ⟨by decide, by decide⟩ h1, run_R8N_2_0⟩
    · exact ⟨[(0, 20, 2), (1, 3, 1)], hl a b ⟨by decide, by decide⟩ h0 ⟨by decide, by decide⟩ h1, run_R8N_2_1⟩
    · exact ⟨[(0, 20, 2), (1, 3, 2)], hl a b ⟨by decide, by decide⟩ h0 ⟨by decide, by decide⟩ h1, run_R8N_2_2⟩
  · have h1 : b % 4 = 0 ∨ b % 4 = 1 ∨ b % 4 = 2 ∨ b % 4 = 3 := by omega
    rcases h1 with h1 | h1 | h1 | h1
    · exact ⟨[(0, 20, 3), (1, 4, 0)], hl a b ⟨by decide, by decide⟩ h0 ⟨by decide, by decide⟩ h1, run_R8N_3_0⟩
    · exact ⟨[(0, 20, 3), (1, 4, 1)], hl a b ⟨by decide, by decide⟩ h0 ⟨by decide, by decide⟩ h1, run_R8N_3_1⟩
    · exact ⟨[(0, 20, 3), (1, 4, 2)], hl a b ⟨by decide, by decide⟩ h0 ⟨by decide, by decide⟩ h1, run_R8N_3_2⟩
    · exact ⟨[(0, 20, 3), (1, 4, 3)], hl a b ⟨by decide, by decide⟩ h0 ⟨by decide, by decide⟩ h1, run_R8N_3_3⟩
  · have h1 : b % 5 = 0 ∨ b % 5 = 1 ∨ b % 5 = 2 ∨ b % 5 = 3 ∨ b % 5 = 4 := by omega
    rcases h1 with h1 | h1 | h1 | h1 | h1
    · exact ⟨[(0, 20, 4), (1, 5, 0)], hl a b ⟨by decide, by decide⟩ h0 ⟨by decide, by decide⟩ h1, run_R8N_4_0⟩
    · exact ⟨[(0, 20, 4), (1, 5, 1)], hl a b ⟨by decide, by decide⟩ h0 ⟨by decide, by decide⟩ h1, run_R8N_4_1⟩
    · exact ⟨[(0, 20, 4), (1, 5, 2)], hl a b ⟨by decide, by decide⟩ h0 ⟨by decide, by decide⟩ h1, run_R8N_4_2⟩
    · exact ⟨[(0, 20, 4), (1, 5, 3)], hl a b ⟨by decide, by decide⟩ h0 ⟨by decide, by decide⟩ h1, run_R8N_4_3⟩
    · exact ⟨[(0, 20, 4), (1, 5, 4)], hl a b ⟨by decide, by decide⟩ h0 ⟨by decide, by decide⟩ h1, run_R8N_4_4⟩
  · have h1 : b % 6 = 0 ∨ b % 6 = 1 ∨ b % 6 = 2 ∨ b % 6 = 3 ∨ b % 6 = 4 ∨ b % 6 = 5 := by omega
    rcases h1 with h1 | h1 | h1 | h1 | h1 | h1
    · exact ⟨[(0, 20, 5), (1, 6, 0)], hl a b ⟨by decide, by decide⟩ h0 ⟨by decide, by decide⟩ h1, run_R8N_5_0⟩
    · exact ⟨[(0, 20, 5), (1, 6, 1)], hl a b ⟨by decide, by decide⟩ h0 ⟨by decide, by decide⟩ h1, run_R8N_5_1⟩
    · exact ⟨[(0, 20, 5), (1, 6, 2)], hl a b ⟨by decide, by decide⟩ h0 ⟨by decide, by decide⟩ h1, run_R8N_5_2⟩
    · exact ⟨[(0, 20, 5), (1, 6, 3)], hl a b ⟨by decide, by decide⟩ h0 ⟨by decide, by decide⟩ h1, run_R8N_5_3⟩
    · exact ⟨[(0, 20, 5), (1, 6, 4)], hl a b ⟨by decide, by decide⟩ h0 ⟨by decide, by decide⟩ h1, run_R8N_5_4⟩
    · exact ⟨[(0, 20, 5), (1, 6, 5)], hl a b ⟨by decide, by decide⟩ h0 ⟨by decide, by decide⟩ h1, run_R8N_5_5⟩
  · have h1 : b % 7 = 0 ∨ b % 7 = 1 ∨ b % 7 = 2 ∨ b % 7 = 3 ∨ b % 7 = 4 ∨ b % 7 = 5 ∨ b % 7 = 6 := by omega
    rcases h1 with h1 | h1 | h1 | h1 | h1 | h1 | h1
    · exact ⟨[(0, 20, 6), (1, 7, 0)], hl a b ⟨by decide, by decide⟩ h0 ⟨by decide, by decide⟩ h1, run_R8N_6_0⟩
    · exact ⟨[(0, 20, 6), (1, 7, 1)], hl a b ⟨by decide, by decide⟩ h0 ⟨by decide, by decide⟩ h1, run_R8N_6_1⟩
    · exact ⟨[(0, 20, 6), (1, 7, 2)], hl a b ⟨by decide, by decide⟩ h0 ⟨by decide, by decide⟩ h1, run_R8N_6_2⟩
    · exact ⟨[(0, 20, 6), (1, 7, 3)], hl a b ⟨by decide, by decide⟩ h0 ⟨by decide, by decide⟩ h1, run_R8N_6_3⟩
    · exact ⟨[(0, 20, 6), (1, 7, 4)], hl a b ⟨by decide, by decide⟩ h0 ⟨by decide, by decide⟩ h1, run_R8N_6_4⟩
    · exact ⟨[(0, 20, 6), (1, 7, 5)], hl a b ⟨by decide, by decide⟩ h0 ⟨by decide, by decide⟩ h1, run_R8N_6_5⟩
    · exact ⟨[(0, 20, 6), (1, 7, 6)], hl a b ⟨by decide, by decide⟩ h0 ⟨by decide, by decide⟩ h1, run_R8N_6_6⟩
  · have h1 : b % 8 = 0 ∨ b % 8 = 1 ∨ b % 8 = 2 ∨ b % 8 = 3 ∨ b % 8 = 4 ∨ b % 8 = 5 ∨ b % 8 = 6 ∨ b % 8 = 7 := by omega
    rcases h1 with h1 | h1 | h1 | h1 | h1 | h1 | h1 | h1
    · exact ⟨[(0, 20, 7), (1, 8, 0)], hl a b ⟨by decide, by decide⟩ h0 ⟨by decide, by decide⟩ h1, run_R8N_7_0⟩
    · exact ⟨[(0, 20, 7), (1, 8, 1)], hl a b ⟨by decide, by decide⟩ h0 ⟨by decide, by decide⟩ h1, run_R8N_7_1⟩
    · exact ⟨[(0, 20, 7), (1, 8, 2)], hl a b ⟨by decide, by decide⟩ h0 ⟨by decide, by decide⟩ h1, run_R8N_7_2⟩
    · exact ⟨[(0, 20, 7), (1, 8, 3)], hl a b ⟨by decide, by decide⟩ h0 ⟨by decide, by decide⟩ h1, run_R8N_7_3⟩
    · exact ⟨[(0, 20, 7), (1, 8, 4)], hl a b ⟨by decide, by decide⟩ h0 ⟨by decide, by decide⟩ h1, run_R8N_7_4⟩
    · exact ⟨[(0, 20, 7), (1, 8, 5)], hl a b ⟨by decide, by decide⟩ h0 ⟨by decide, by decide⟩ h1, run_R8N_7_5⟩
    · exact ⟨[(0, 20, 7), (1, 8, 6)], hl a b ⟨by decide, by decide⟩ h0 ⟨by decide, by decide⟩ h1, run_R8N_7_6⟩
    · exact ⟨[(0, 20, 7), (1, 8, 7)], hl a b ⟨by decide, by decide⟩ h0 ⟨by decide, by decide⟩ h1, run_R8N_7_7⟩
  · have h1 : b % 9 = 0 ∨ b % 9 = 1 ∨ b % 9 = 2 ∨ b % 9 = 3 ∨ b % 9 = 4 ∨ b % 9 = 5 ∨ b % 9 = 6 ∨ b % 9 = 7 ∨ b % 9 = 8 := by omega
    rcases h1 with h1 | h1 | h1 | h1 | h1 | h1 | h1 | h1 | h1
    · exact ⟨[(0, 20, 8), (1, 9, 0)], hl a b ⟨by decide, by decide⟩ h0 ⟨by decide, by decide⟩ h1, run_R8N_8_0⟩
    · exact ⟨[(0, 20, 8), (1, 9, 1)], hl a b ⟨by decide, by decide⟩ h0 ⟨by decide, by decide⟩ h1, run_R8N_8_1⟩
    · exact ⟨[(0, 20, 8), (1, 9, 2)], hl a b ⟨by decide, by decide⟩ h0 ⟨by decide, by decide⟩ h1, run_R8N_8_2⟩
    · exact ⟨[(0, 20, 8), (1, 9, 3)], hl a b ⟨by decide, by decide⟩ h0 ⟨by decide, by decide⟩ h1, run_R8N_8_3⟩
    · exact ⟨[(0, 20, 8), (1, 9, 4)], hl a b ⟨by decide, by decide⟩ h0 ⟨by decide, by decide⟩ h1, run_R8N_8_4⟩
    · exact ⟨[(0, 20, 8), (1, 9, 5)], hl a b ⟨by decide, by decide⟩ h0 ⟨by decide, by decide⟩ h1, run_R8N_8_5⟩
    · exact ⟨[(0, 20, 8), (1, 9, 6)], hl a b ⟨by decide, by decide⟩ h0 ⟨by decide, by decide⟩ h1, run_R8N_8_6⟩
    · exact ⟨[(0, 20, 8), (1, 9, 7)], hl a b ⟨by decide, by decide⟩ h0 ⟨by decide, by decide⟩ h1, run_R8N_8_7⟩
    · exact ⟨[(0, 20, 8), (1, 9, 8)], hl a b ⟨by decide, by decide⟩ h0 ⟨by decide, by decide⟩ h1, run_R8N_8_8⟩
  · have h1 : b % 10 = 0 ∨ b % 10 = 1 ∨ b % 10 = 2 ∨ b % 10 = 3 ∨ b % 10 = 4 ∨ b % 10 = 5 ∨ b % 10 = 6 ∨ b % 10 = 7 ∨ b % 10 = 8 ∨ b % 10 = 9 := by omega
    rcases h1 with h1 | h1 | h1 | h1 | h1 | h1 | h1 | h1 | h1 | h1
    · exact ⟨[(0, 20, 9), (1, 10, 0)], hl a b ⟨by decide, by decide⟩ h0 ⟨by decide, by decide⟩ h1, run_R8N_9_0⟩
    · exact ⟨[(0, 20, 9), (1, 10, 1)], hl a b ⟨by decide, by decide⟩ h0 ⟨by decide, by decide⟩ h1, run_R8N_9_1⟩
    · exact ⟨[(0, 20, 9), (1, 10, 2)], hl a b ⟨by decide, by decide⟩ h0 ⟨by decide, by decide⟩ h1, run_R8N_9_2⟩
    · exact ⟨[(0, 20, 9), (1, 10, 3)], hl a b ⟨by decide, by decide⟩ h0 ⟨by decide, by decide⟩ h1, run_R8N_9_3⟩
    · exact ⟨[(0, 20, 9), (1, 10, 4)], hl a b ⟨by decide, by decide⟩ h0 ⟨by decide, by decide⟩ h1, run_R8N_9_4⟩
    · exact ⟨[(0, 20, 9), (1, 10, 5)], hl a b ⟨by decide, by decide⟩ h0 ⟨by decide, by decide⟩ h1, run_R8N_9_5⟩
    · exact ⟨[(0, 20, 9), (1, 10, 6)], hl a b ⟨by decide, by decide⟩ h0 ⟨by decide, by decide⟩ h1, run_R8N_9_6⟩
    · exact ⟨[(0, 20, 9), (1, 10, 7)], hl a b ⟨by decide, by decide⟩ h0 ⟨by decide, by decide⟩ h1, run_R8N_9_7⟩
    · exact ⟨[(0, 20, 9), (1, 10, 8)], hl a b ⟨by decide, by decide⟩ h0 ⟨by decide, by decide⟩ h1, run_R8N_9_8⟩
    · exact ⟨[(0, 20, 9), (1, 10, 9)], hl a b ⟨by decide, by decide⟩ h0 ⟨by decide, by decide⟩ h1, run_R8N_9_9⟩
  · have h1 : b % 11 = 0 ∨ b % 11 = 1 ∨ b % 11 = 2 ∨ b % 11 = 3 ∨ b % 11 = 4 ∨ b % 11 = 5 ∨ b % 11 = 6 ∨ b % 11 = 7 ∨ b % 11 = 8 ∨ b % 11 = 9 ∨ b % 11 = 10 := by omega
    rcases h1 with h1 | h1 | h1 | h1 | h1 | h1 | h1 | h1 | h1 | h1 | h1
    · exact ⟨[(0, 20, 10), (1, 11, 0)], hl a b ⟨by decide, by decide⟩ h0 ⟨by decide, by decide⟩ h1, run_R8N_10_0⟩
    · exact ⟨[(0, 20, 10), (1, 11, 1)], hl a b ⟨by decide, by decide⟩ h0 ⟨by decide, by decide⟩ h1, run_R8N_10_1⟩
    · exact ⟨[(0, 20, 10), (1, 11, 2)], hl a b ⟨by decide, by decide⟩ h0 ⟨by decide, by decide⟩ h1, run_R8N_10_2⟩
    · exact ⟨[(0, 20, 10), (1, 11, 3)], hl a b ⟨by decide, by decide⟩ h0 ⟨by decide, by decide⟩ h1, run_R8N_10_3⟩
    · exact ⟨[(0, 20, 10), (1, 11, 4)], hl a b ⟨by decide, by decide⟩ h0 ⟨by decide, by decide⟩ h1, run_R8N_10_4⟩
    · exact ⟨[(0, 20, 10), (1, 11, 5)], hl a b ⟨by decide, by decide⟩ h0 ⟨by decide, by decide⟩ h1, run_R8N_10_5⟩
    · exact ⟨[(0, 20, 10), (1, 11, 6)], hl a b ⟨by decide, by decide⟩ h0 ⟨by decide, by decide⟩ h1, run_R8N_10_6⟩
    · exact ⟨[(0, 20, 10), (1, 11, 7)], hl a b ⟨by decide, by decide⟩ h0 ⟨by decide, by decide⟩ h1, run_R8N_10_7⟩
    · exact ⟨[(0, 20, 10), (1, 11, 8)], hl a b ⟨by decide, by decide⟩ h0 ⟨by decide, by decide⟩ h1, run_R8N_10_8⟩
    · exact ⟨[(0, 20, 10), (1, 11, 9)], hl a b ⟨by decide, by decide⟩ h0 ⟨by decide, by decide⟩ h1, run_R8N_10_9⟩
    · exact ⟨[(0, 20, 10), (1, 11, 10)], hl a b ⟨by decide, by decide⟩ h0 ⟨by decide, by decide⟩ h1, run_R8N_10_10⟩
  · have h1 : b % 12 = 0 ∨ b % 12 = 1 ∨ b % 12 = 2 ∨ b % 12 = 3 ∨ b % 12 = 4 ∨ b % 12 = 5 ∨ b % 12 = 6 ∨ b % 12 = 7 ∨ b % 12 = 8 ∨ b % 12 = 9 ∨ b % 12 = 10 ∨ b % 12 = 11 := by omega
    rcases h1 with h1 | h1 | h1 | h1 | h1 | h1 | h1 | h1 | h1 | h1 | h1 | h1
    · exact ⟨[(0, 20, 11), (1, 12, 0)], hl a b ⟨by decide, by decide⟩ h0 ⟨by decide, by decide⟩ h1, run_R8N_11_0⟩
    · exact ⟨[(0, 20, 11), (1, 12, 1)], hl a b ⟨by decide, by decide⟩ h0 ⟨by decide, by decide⟩ h1, run_R8N_11_1⟩
    · exact ⟨[(0, 20, 11), (1, 12, 2)], hl a b ⟨by decide, by decide⟩ h0 ⟨by decide, by decide⟩ h1, run_R8N_11_2⟩
    · exact ⟨[(0, 20, 11), (1, 12, 3)], hl a b ⟨by decide, by decide⟩ h0 ⟨by decide, by decide⟩ h1, run_R8N_11_3⟩
    · exact ⟨[(0, 20, 11), (1, 12, 4)], hl a b ⟨by decide, by decide⟩ h0 ⟨by decide, by decide⟩ h1, run_R8N_11_4⟩
    · exact ⟨[(0, 20, 11), (1, 12, 5)], hl a b ⟨by decide, by decide⟩ h0 ⟨by decide, by decide⟩ h1, run_R8N_11_5⟩
    · exact ⟨[(0, 20, 11), (1, 12, 6)], hl a b ⟨by decide, by decide⟩ h0 ⟨by decide, by decide⟩ h1, run_R8N_11_6⟩
    · exact ⟨[(0, 20, 11), (1, 12, 7)], hl a b ⟨by decide, by decide⟩ h0 ⟨by decide, by decide⟩ h1, run_R8N_11_7⟩
    · exact ⟨[(0, 20, 11), (1, 12, 8)], hl a b ⟨by decide, by decide⟩ h0 ⟨by decide, by decide⟩ h1, run_R8N_11_8⟩
    · exact ⟨[(0, 20, 11), (1, 12, 9)], hl a b ⟨by decide, by decide⟩ h0 ⟨by decide, by decide⟩ h1, run_R8N_11_9⟩
    · exact ⟨[(0, 20, 11), (1, 12, 10)], hl a b ⟨by decide, by decide⟩ h0 ⟨by decide, by decide⟩ h1, run_R8N_11_10⟩
    · exact ⟨[(0, 20, 11), (1, 12, 11)], hl a b ⟨by decide, by decide⟩ h0 ⟨by decide, by decide⟩ h1, run_R8N_11_11⟩
  · have h1 : b % 13 = 0 ∨ b % 13 = 1 ∨ b % 13 = 2 ∨ b % 13 = 3 ∨ b % 13 = 4 ∨ b % 13 = 5 ∨ b % 13 = 6 ∨ b % 13 = 7 ∨ b % 13 = 8 ∨ b % 13 = 9 ∨ b % 13 = 10 ∨ b % 13 = 11 ∨ b % 13 = 12 := by omega
    rcases h1 with h1 | h1 | h1 | h1 | h1 | h1 | h1 | h1 | h1 | h1 | h1 | h1 | h1
    · exact ⟨[(0, 20, 12), (1, 13, 0)], hl a b ⟨by decide, by decide⟩ h0 ⟨by decide, by decide⟩ h1, run_R8N_12_0⟩
    · exact ⟨[(0, 20, 12), (1, 13, 1)], hl a b ⟨by decide, by decide⟩ h0 ⟨by decide, by decide⟩ h1, run_R8N_12_1⟩
    · exact ⟨[(0, 20, 12), (1, 13, 2)], hl a b ⟨by decide, by decide⟩ h0 ⟨by decide, by decide⟩ h1, run_R8N_12_2⟩
    · exact ⟨[(0, 20, 12), (1, 13, 3)], hl a b ⟨by decide, by decide⟩ h0 ⟨by decide, by decide⟩ h1, run_R8N_12_3⟩
    · exact ⟨[(0, 20, 12), (1, 13, 4)], hl a b ⟨by decide, by decide⟩ h0 ⟨by decide, by decide⟩ h1, run_R8N_12_4⟩
    · exact ⟨[(0, 20, 12), (1, 13, 5)], hl a b ⟨by decide, by decide⟩ h0 ⟨by decide, by decide⟩ h1, run_R8N_12_5⟩
    · exact ⟨[(0, 20, 12), (1, 13, 6)], hl a b ⟨by decide, by decide⟩ h0 ⟨by decide, by decide⟩ h1, run_R8N_12_6⟩
    · exact ⟨[(0, 20, 12), (1, 13, 7)], hl a b ⟨by decide, by decide⟩ h0 ⟨by decide, by decide⟩ h1, run_R8N_12_7⟩
    · exact ⟨[(0, 20, 12), (1, 13, 8)], hl a b ⟨by decide, by decide⟩ h0 ⟨by decide, by decide⟩ h1, run_R8N_12_8⟩
    · exact ⟨[(0, 20, 12), (1, 13, 9)], hl a b ⟨by decide, by decide⟩ h0 ⟨by decide, by decide⟩ h1, run_R8N_12_9⟩
    · exact ⟨[(0, 20, 12), (1, 13, 10)], hl a b ⟨by decide, by decide⟩ h0 ⟨by decide, by decide⟩ h1, run_R8N_12_10⟩
    · exact ⟨[(0, 20, 12), (1, 13, 11)], hl a b ⟨by decide, by decide⟩ h0 ⟨by decide, by decide⟩ h1, run_R8N_12_11⟩
    · exact ⟨[(0, 20, 12), (1, 13, 12)], hl a b ⟨by decide, by decide⟩ h0 ⟨by decide, by decide⟩ h1, run_R8N_12_12⟩
  · have h1 : b % 14 = 0 ∨ b % 14 = 1 ∨ b % 14 = 2 ∨ b % 14 = 3 ∨ b % 14 = 4 ∨ b % 14 = 5 ∨ b % 14 = 6 ∨ b % 14 = 7 ∨ b % 14 = 8 ∨ b % 14 = 9 ∨ b % 14 = 10 ∨ b % 14 = 11 ∨ b % 14 = 12 ∨ b % 14 = 13 := by omega
    rcases h1 with h1 | h1 | h1 | h1 | h1 | h1 | h1 | h1 | h1 | h1 | h1 | h1 | h1 | h1
    · exact ⟨[(0, 20, 13), (1, 14, 0)], hl a b ⟨by decide, by decide⟩ h0 ⟨by decide, by decide⟩ h1, run_R8N_13_0⟩
    · exact ⟨[(0, 20, 13), (1, 14, 1)], hl a b ⟨by decide, by decide⟩ h0 ⟨by decide, by decide⟩ h1, run_R8N_13_1⟩
    · exact ⟨[(0, 20, 13), (1, 14, 2)], hl a b ⟨by decide, by decide⟩ h0 ⟨by decide, by decide⟩ h1, run_R8N_13_2⟩
    · exact ⟨[(0, 20, 13), (1, 14, 3)], hl a b ⟨by decide, by decide⟩ h0 ⟨by decide, by decide⟩ h1, run_R8N_13_3⟩
    · exact ⟨[(0, 20, 13), (1, 14, 4)], hl a b ⟨by decide, by decide⟩ h0 ⟨by decide, by decide⟩ h1, run_R8N_13_4⟩
    · exact ⟨[(0, 20, 13), (1, 14, 5)], hl a b ⟨by decide, by decide⟩ h0 ⟨by decide, by decide⟩ h1, run_R8N_13_5⟩
    · exact ⟨[(0, 20, 13), (1, 14, 6)], hl a b ⟨by decide, by decide⟩ h0 ⟨by decide, by decide⟩ h1, run_R8N_13_6⟩
    · exact ⟨[(0, 20, 13), (1, 14, 7)], hl a b ⟨by decide, by decide⟩ h0 ⟨by decide, by decide⟩ h1, run_R8N_13_7⟩
    · exact ⟨[(0, 20, 13), (1, 14, 8)], hl a b ⟨by decide, by decide⟩ h0 ⟨by decide, by decide⟩ h1, run_R8N_13_8⟩
    · exact ⟨[(0, 20, 13), (1, 14, 9)], hl a b ⟨by decide, by decide⟩ h0 ⟨by decide, by decide⟩ h1, run_R8N_13_9⟩
    · exact ⟨[(0, 20, 13), (1, 14, 10)], hl a b ⟨by decide, by decide⟩ h0 ⟨by decide, by decide⟩ h1, run_R8N_13_10⟩
    · exact ⟨[(0, 20, 13), (1, 14, 11)], hl a b ⟨by decide, by decide⟩ h0 ⟨by decide, by decide⟩ h1, run_R8N_13_11⟩
    · exact ⟨[(0, 20, 13), (1, 14, 12)], hl a b ⟨by decide, by decide⟩ h0 ⟨by decide, by decide⟩ h1, run_R8N_13_12⟩
    · exact ⟨[(0, 20, 13), (1, 14, 13)], hl a b ⟨by decide, by decide⟩ h0 ⟨by decide, by decide⟩ h1, run_R8N_13_13⟩
  · have h1 : b % 15 = 0 ∨ b % 15 = 1 ∨ b % 15 = 2 ∨ b % 15 = 3 ∨ b % 15 = 4 ∨ b % 15 = 5 ∨ b % 15 = 6 ∨ b % 15 = 7 ∨ b % 15 = 8 ∨ b % 15 = 9 ∨ b % 15 = 10 ∨ b % 15 = 11 ∨ b % 15 = 12 ∨ b % 15 = 13 ∨ b % 15 = 14 := by omega
    rcases h1 with h1 | h1 | h1 | h1 | h1 | h1 | h1 | h1 | h1 | h1 | h1 | h1 | h1 | h1 | h1
    · exact ⟨[(0, 20, 14), (1, 15, 0)], hl a b ⟨by decide, by decide⟩ h0 ⟨by decide, by decide⟩ h1, run_R8N_14_0⟩
    · exact ⟨[(0, 20, 14), (1, 15, 1)], hl a b ⟨by decide, by decide⟩ h0 ⟨by decide, by decide⟩ h1, run_R8N_14_1⟩
    · exact ⟨[(0, 20, 14), (1, 15, 2)], hl a b ⟨by decide, by decide⟩ h0 ⟨by decide, by decide⟩ h1, run_R8N_14_2⟩
    · exact ⟨[(0, 20, 14), (1, 15, 3)], hl a b ⟨by decide, by decide⟩ h0 ⟨by decide, by decide⟩ h1, run_R8N_14_3⟩
    · exact ⟨[(0, 20, 14), (1, 15, 4)], hl a b ⟨by decide, by decide⟩ h0 ⟨by decide, by decide⟩ h1, run_R8N_14_4⟩
    · exact ⟨[(0, 20, 14), (1, 15, 5)], hl a b ⟨by decide, by decide⟩ h0 ⟨by decide, by decide⟩ h1, run_R8N_14_5⟩
    · exact ⟨[(0, 20, 14), (1, 15, 6)], hl a b ⟨by decide, by decide⟩ h0 ⟨by decide, by decide⟩ h1, run_R8N_14_6⟩
    · exact ⟨[(0, 20, 14), (1, 15, 7)], hl a b ⟨by decide, by decide⟩ h0 ⟨by decide, by decide⟩ h1, run_R8N_14_7⟩
    · exact ⟨[(0, 20, 14), (1, 15, 8)], hl a b ⟨by decide, by decide⟩ h0 ⟨by decide, by decide⟩ h1, run_R8N_14_8⟩
    · exact ⟨[(0, 20, 14), (1, 15, 9)], hl a b ⟨by decide, by decide⟩ h0 ⟨by decide, by decide⟩ h1, run_R8N_14_9⟩
    · exact ⟨[(0, 20, 14), (1, 15, 10)], hl a b ⟨by decide, by decide⟩ h0 ⟨by decide, by decide⟩ h1, run_R8N_14_10⟩
    · exact ⟨[(0, 20, 14), (1, 15, 11)], hl a b ⟨by decide, by decide⟩ h0 ⟨by decide, by decide⟩ h1, run_R8N_14_11⟩
    · exact ⟨[(0, 20, 14), (1, 15, 12)], hl a b ⟨by decide, by decide⟩ h0 ⟨by decide, by decide⟩ h1, run_R8N_14_12⟩
    · exact ⟨[(0, 20, 14), (1, 15, 13)], hl a b ⟨by decide, by decide⟩ h0 ⟨by decide, by decide⟩ h1, run_R8N_14_13⟩
    · exact ⟨[(0, 20, 14), (1, 15, 14)], hl a b ⟨by decide, by decide⟩ h0 ⟨by decide, by decide⟩ h1, run_R8N_14_14⟩
  · have h1 : b % 16 = 0 ∨ b % 16 = 1 ∨ b % 16 = 2 ∨ b % 16 = 3 ∨ b % 16 = 4 ∨ b % 16 = 5 ∨ b % 16 = 6 ∨ b % 16 = 7 ∨ b % 16 = 8 ∨ b % 16 = 9 ∨ b % 16 = 10 ∨ b % 16 = 11 ∨ b % 16 = 12 ∨ b % 16 = 13 ∨ b % 16 = 14 ∨ b % 16 = 15 := by omega
    rcases h1 with h1 | h1 | h1 | h1 | h1 | h1 | h1 | h1 | h1 | h1 | h1 | h1 | h1 | h1 | h1 | h1
    · exact ⟨[(0, 20, 15), (1, 16, 0)], hl a b ⟨by decide, by decide⟩ h0 ⟨by decide, by decide⟩ h1, run_R8N_15_0⟩
    · exact ⟨[(0, 20, 15), (1, 16, 1)], hl a b ⟨by decide, by decide⟩ h0 ⟨by decide, by decide⟩ h1, run_R8N_15_1⟩
    · exact ⟨[(0, 20, 15), (1, 16, 2)], hl a b ⟨by decide, by decide⟩ h0 ⟨by decide, by decide⟩ h1, run_R8N_15_2⟩
    · exact ⟨[(0, 20, 15), (1, 16, 3)], hl a b ⟨by decide, by decide⟩ h0 ⟨by decide, by decide⟩ h1, run_R8N_15_3⟩
    · exact ⟨[(0, 20, 15), (1, 16, 4)], hl a b ⟨by decide, by decide⟩ h0 ⟨by decide, by decide⟩ h1, run_R8N_15_4⟩
    · exact ⟨[(0, 20, 15), (1, 16, 5)], hl a b ⟨by decide, by decide⟩ h0 ⟨by decide, by decide⟩ h1, run_R8N_15_5⟩
    · exact ⟨[(0, 20, 15), (1, 16, 6)], hl a b ⟨by decide, by decide⟩ h0 ⟨by decide, by decide⟩ h1, run_R8N_15_6⟩
    · exact ⟨[(0, 20, 15), (1, 16, 7)], hl a b ⟨by decide, by decide⟩ h0 ⟨by decide, by decide⟩ h1, run_R8N_15_7⟩
    · exact ⟨[(0, 20, 15), (1, 16, 8)], hl a b ⟨by decide, by decide⟩ h0 ⟨by decide, by decide⟩ h1, run_R8N_15_8⟩
    · exact ⟨[(0, 20, 15), (1, 16, 9)], hl a b ⟨by decide, by decide⟩ h0 ⟨by decide, by decide⟩ h1, run_R8N_15_9⟩
    · exact ⟨[(0, 20, 15), (1, 16, 10)], hl a b ⟨by decide, by decide⟩ h0 ⟨by decide, by decide⟩ h1, run_R8N_15_10⟩
    · exact ⟨[(0, 20, 15), (1, 16, 11)], hl a b ⟨by decide, by decide⟩ h0 ⟨by decide, by decide⟩ h1, run_R8N_15_11⟩
    · exact ⟨[(0, 20, 15), (1, 16, 12)], hl a b ⟨by decide, by decide⟩ h0 ⟨by decide, by decide⟩ h1, run_R8N_15_12⟩
    · exact ⟨[(0, 20, 15), (1, 16, 13)], hl a b ⟨by decide, by decide⟩ h0 ⟨by decide, by decide⟩ h1, run_R8N_15_13⟩
    · exact ⟨[(0, 20, 15), (1, 16, 14)], hl a b ⟨by decide, by decide⟩ h0 ⟨by decide, by decide⟩ h1, run_R8N_15_14⟩
    · exact ⟨[(0, 20, 15), (1, 16, 15)], hl a b ⟨by decide, by decide⟩ h0 ⟨by decide, by decide⟩ h1, run_R8N_15_15⟩
  · have h1 : b % 17 = 0 ∨ b % 17 = 1 ∨ b % 17 = 2 ∨ b % 17 = 3 ∨ b % 17 = 4 ∨ b % 17 = 5 ∨ b % 17 = 6 ∨ b % 17 = 7 ∨ b % 17 = 8 ∨ b % 17 = 9 ∨ b % 17 = 10 ∨ b % 17 = 11 ∨ b % 17 = 12 ∨ b % 17 = 13 ∨ b % 17 = 14 ∨ b % 17 = 15 ∨ b % 17 = 16 := by omega
    rcases h1 with h1 | h1 | h1 | h1 | h1 | h1 | h1 | h1 | h1 | h1 | h1 | h1 | h1 | h1 | h1 | h1 | h1
    · exact ⟨[(0, 20, 16), (1, 17, 0)], hl a b ⟨by decide, by decide⟩ h0 ⟨by decide, by decide⟩ h1, run_R8N_16_0⟩
    · exact ⟨[(0, 20, 16), (1, 17, 1)], hl a b ⟨by decide, by decide⟩ h0 ⟨by decide, by decide⟩ h1, run_R8N_16_1⟩
    · exact ⟨[(0, 20, 16), (1, 17, 2)], hl a b ⟨by decide, by decide⟩ h0 ⟨by decide, by decide⟩ h1, run_R8N_16_2⟩
    · exact ⟨[(0, 20, 16), (1, 17, 3)], hl a b ⟨by decide, by decide⟩ h0 ⟨by decide, by decide⟩ h1, run_R8N_16_3⟩
    · exact ⟨[(0, 20, 16), (1, 17, 4)], hl a b ⟨by decide, by decide⟩ h0 ⟨by decide, by decide⟩ h1, run_R8N_16_4⟩
    · exact ⟨[(0, 20, 16), (1, 17, 5)], hl a b ⟨by decide, by decide⟩ h0 ⟨by decide, by decide⟩ h1, run_R8N_16_5⟩
    · exact ⟨[(0, 20, 16), (1, 17, 6)], hl a b ⟨by decide, by decide⟩ h0 ⟨by decide, by decide⟩ h1, run_R8N_16_6⟩
    · exact ⟨[(0, 20, 16), (1, 17, 7)], hl a b ⟨by decide, by decide⟩ h0 ⟨by decide, by decide⟩ h1, run_R8N_16_7⟩
    · exact ⟨[(0, 20, 16), (1, 17, 8)], hl a b ⟨by decide, by decide⟩ h0 ⟨by decide, by decide⟩ h1, run_R8N_16_8⟩
    · exact ⟨[(0, 20, 16), (1, 17, 9)], hl a b ⟨by decide, by decide⟩ h0 ⟨by decide, by decide⟩ h1, run_R8N_16_9⟩
    · exact ⟨[(0, 20, 16), (1, 17, 10)], hl a b ⟨by decide, by decide⟩ h0 ⟨by decide, by decide⟩ h1, run_R8N_16_10⟩
    · exact ⟨[(0, 20, 16), (1, 17, 11)], hl a b ⟨by decide, by decide⟩ h0 ⟨by decide, by decide⟩ h1, run_R8N_16_11⟩
    · exact ⟨[(0, 20, 16), (1, 17, 12)], hl a b ⟨by decide, by decide⟩ h0 ⟨by decide, by decide⟩ h1, run_R8N_16_12⟩
    · exact ⟨[(0, 20, 16), (1, 17, 13)], hl a b ⟨by decide, by decide⟩ h0 ⟨by decide, by decide⟩ h1, run_R8N_16_13⟩
    · exact ⟨[(0, 20, 16), (1, 17, 14)], hl a b ⟨by decide, by decide⟩ h0 ⟨by decide, by decide⟩ h1, run_R8N_16_14⟩
    · exact ⟨[(0, 20, 16), (1, 17, 15)], hl a b ⟨by decide, by decide⟩ h0 ⟨by decide, by decide⟩ h1, run_R8N_16_15⟩
    · exact ⟨[(0, 20, 16), (1, 17, 16)], hl a b ⟨by decide, by decide⟩ h0 ⟨by decide, by decide⟩ h1, run_R8N_16_16⟩
  · have h1 : b % 18 = 0 ∨ b % 18 = 1 ∨ b % 18 = 2 ∨ b % 18 = 3 ∨ b % 18 = 4 ∨ b % 18 = 5 ∨ b % 18 = 6 ∨ b % 18 = 7 ∨ b % 18 = 8 ∨ b % 18 = 9 ∨ b % 18 = 10 ∨ b % 18 = 11 ∨ b % 18 = 12 ∨ b % 18 = 13 ∨ b % 18 = 14 ∨ b % 18 = 15 ∨ b % 18 = 16 ∨ b % 18 = 17 := by omega
    rcases h1 with h1 | h1 | h1 | h1 | h1 | h1 | h1 | h1 | h1 | h1 | h1 | h1 | h1 | h1 | h1 | h1 | h1 | h1
    · exact ⟨[(0, 20, 17), (1, 18, 0)], hl a b ⟨by decide, by decide⟩ h0 ⟨by decide, by decide⟩ h1, run_R8N_17_0⟩
    · exact ⟨[(0, 20, 17), (1, 18, 1)], hl a b ⟨by decide, by decide⟩ h0 ⟨by decide, by decide⟩ h1, run_R8N_17_1⟩
    · exact ⟨[(0, 20, 17), (1, 18, 2)], hl a b ⟨by decide, by decide⟩ h0 ⟨by decide, by decide⟩ h1, run_R8N_17_2⟩
    · exact ⟨[(0, 20, 17), (1, 18, 3)], hl a b ⟨by decide, by decide⟩ h0 ⟨by decide, by decide⟩ h1, run_R8N_17_3⟩
    · exact ⟨[(0, 20, 17), (1, 18, 4)], hl a b ⟨by decide, by decide⟩ h0 ⟨by decide, by decide⟩ h1, run_R8N_17_4⟩
    · exact ⟨[(0, 20, 17), (1, 18, 5)], hl a b ⟨by decide, by decide⟩ h0 ⟨by decide, by decide⟩ h1, run_R8N_17_5⟩
    · exact ⟨[(0, 20, 17), (1, 18, 6)], hl a b ⟨by decide, by decide⟩ h0 ⟨by decide, by decide⟩ h1, run_R8N_17_6⟩
    · exact ⟨[(0, 20, 17), (1, 18, 7)], hl a b ⟨by decide, by decide⟩ h0 ⟨by decide, by decide⟩ h1, run_R8N_17_7⟩
    · exact ⟨[(0, 20, 17), (1, 18, 8)], hl a b ⟨by decide, by decide⟩ h0 ⟨by decide, by decide⟩ h1, run_R8N_17_8⟩
    · exact ⟨[(0, 20, 17), (1, 18, 9)], hl a b ⟨by decide, by decide⟩ h0 ⟨by decide, by decide⟩ h1, run_R8N_17_9⟩
    · exact ⟨[(0, 20, 17), (1, 18, 10)], hl a b ⟨by decide, by decide⟩ h0 ⟨by decide, by decide⟩ h1, run_R8N_17_10⟩
    · exact ⟨[(0, 20, 17), (1, 18, 11)], hl a b ⟨by decide, by decide⟩ h0 ⟨by decide, by decide⟩ h1, run_R8N_17_11⟩
    · exact ⟨[(0, 20, 17), (1, 18, 12)], hl a b ⟨by decide, by decide⟩ h0 ⟨by decide, by decide⟩ h1, run_R8N_17_12⟩
    · exact ⟨[(0, 20, 17), (1, 18, 13)], hl a b ⟨by decide, by decide⟩ h0 ⟨by decide, by decide⟩ h1, run_R8N_17_13⟩
    · exact ⟨[(0, 20, 17), (1, 18, 14)], hl a b ⟨by decide, by decide⟩ h0 ⟨by decide, by decide⟩ h1, run_R8N_17_14⟩
    · exact ⟨[(0, 20, 17), (1, 18, 15)], hl a b ⟨by decide, by decide⟩ h0 ⟨by decide, by decide⟩ h1, run_R8N_17_15⟩
    · exact ⟨[(0, 20, 17), (1, 18, 16)], hl a b ⟨by decide, by decide⟩ h0 ⟨by decide, by decide⟩ h1, run_R8N_17_16⟩
    · exact ⟨[(0, 20, 17), (1, 18, 17)], hl a b ⟨by decide, by decide⟩ h0 ⟨by decide, by decide⟩ h1, run_R8N_17_17⟩
  · have h1 : b % 19 = 0 ∨ b % 19 = 1 ∨ b % 19 = 2 ∨ b % 19 = 3 ∨ b % 19 = 4 ∨ b % 19 = 5 ∨ b % 19 = 6 ∨ b % 19 = 7 ∨ b % 19 = 8 ∨ b % 19 = 9 ∨ b % 19 = 10 ∨ b % 19 = 11 ∨ b % 19 = 12 ∨ b % 19 = 13 ∨ b % 19 = 14 ∨ b % 19 = 15 ∨ b % 19 = 16 ∨ b % 19 = 17 ∨ b % 19 = 18 := by omega
    rcases h1 with h1 | h1 | h1 | h1 | h1 | h1 | h1 | h1 | h1 | h1 | h1 | h1 | h1 | h1 | h1 | h1 | h1 | h1 | h1
    · exact ⟨[(0, 20, 18), (1, 19, 0)], hl a b ⟨by decide, by decide⟩ h0 ⟨by decide, by decide⟩ h1, run_R8N_18_0⟩
    · exact ⟨[(0, 20, 18), (1, 19, 1)], hl a b ⟨by decide, by decide⟩ h0 ⟨by decide, by decide⟩ h1, run_R8N_18_1⟩
    · exact ⟨[(0, 20, 18), (1, 19, 2)], hl a b ⟨by decide, by decide⟩ h0 ⟨by decide, by decide⟩ h1, run_R8N_18_2⟩
    · exact ⟨[(0, 20, 18), (1, 19, 3)], hl a b ⟨by decide, by decide⟩ h0 ⟨by decide, by decide⟩ h1, run_R8N_18_3⟩
    · exact ⟨[(0, 20, 18), (1, 19, 4)], hl a b ⟨by decide, by decide⟩ h0 ⟨by decide, by decide⟩ h1, run_R8N_18_4⟩
    · exact ⟨[(0, 20, 18), (1, 19, 5)], hl a b ⟨by decide, by decide⟩ h0 ⟨by decide, by decide⟩ h1, run_R8N_18_5⟩
    · exact ⟨[(0, 20, 18), (1, 19, 6)], hl a b ⟨by decide, by decide⟩ h0 ⟨by decide, by decide⟩ h1, run_R8N_18_6⟩
    · exact ⟨[(0, 20, 18), (1, 19, 7)], hl a b ⟨by decide, by decide⟩ h0 ⟨by decide, by decide⟩ h1, run_R8N_18_7⟩
    · exact ⟨[(0, 20, 18), (1, 19, 8)], hl a b ⟨by decide, by decide⟩ h0 ⟨by decide, by decide⟩ h1, run_R8N_18_8⟩
    · exact ⟨[(0, 20, 18), (1, 19, 9)], hl a b ⟨by decide, by decide⟩ h0 ⟨by decide, by decide⟩ h1, run_R8N_18_9⟩
    · exact ⟨[(0, 20, 18), (1, 19, 10)], hl a b ⟨by decide, by decide⟩ h0 ⟨by decide, by decide⟩ h1, run_R8N_18_10⟩
    · exact ⟨[(0, 20, 18), (1, 19, 11)], hl a b ⟨by decide, by decide⟩ h0 ⟨by decide, by decide⟩ h1, run_R8N_18_11⟩
    · exact ⟨[(0, 20, 18), (1, 19, 12)], hl a b ⟨by decide, by decide⟩ h0 ⟨by decide, by decide⟩ h1, run_R8N_18_12⟩
    · exact ⟨[(0, 20, 18), (1, 19, 13)], hl a b ⟨by decide, by decide⟩ h0 ⟨by decide, by decide⟩ h1, run_R8N_18_13⟩
    · exact ⟨[(0, 20, 18), (1, 19, 14)], hl a b ⟨by decide, by decide⟩ h0 ⟨by decide, by decide⟩ h1, run_R8N_18_14⟩
    · exact ⟨[(0, 20, 18), (1, 19, 15)], hl a b ⟨by decide, by decide⟩ h0 ⟨by decide, by decide⟩ h1, run_R8N_18_15⟩
    · exact ⟨[(0, 20, 18), (1, 19, 16)], hl a b ⟨by decide, by decide⟩ h0 ⟨by decide, by decide⟩ h1, run_R8N_18_16⟩
    · exact ⟨[(0, 20, 18), (1, 19, 17)], hl a b ⟨by decide, by decide⟩ h0 ⟨by decide, by decide⟩ h1, run_R8N_18_17⟩
    · exact ⟨[(0, 20, 18), (1, 19, 18)], hl a b ⟨by decide, by decide⟩ h0 ⟨by decide, by decide⟩ h1, run_R8N_18_18⟩
  · have h1 : b % 20 = 0 ∨ b % 20 = 1 ∨ b % 20 = 2 ∨ b % 20 = 3 ∨ b % 20 = 4 ∨ b % 20 = 5 ∨ b % 20 = 6 ∨ b % 20 = 7 ∨ b % 20 = 8 ∨ b % 20 = 9 ∨ b % 20 = 10 ∨ b % 20 = 11 ∨ b % 20 = 12 ∨ b % 20 = 13 ∨ b % 20 = 14 ∨ b % 20 = 15 ∨ b % 20 = 16 ∨ b % 20 = 17 ∨ b % 20 = 18 ∨ b % 20 = 19 := by omega
    rcases h1 with h1 | h1 | h1 | h1 | h1 | h1 | h1 | h1 | h1 | h1 | h1 | h1 | h1 | h1 | h1 | h1 | h1 | h1 | h1 | h1
    · exact ⟨[(0, 20, 19), (1, 20, 0)], hl a b ⟨by decide, by decide⟩ h0 ⟨by decide, by decide⟩ h1, run_R8N_19_0⟩
    · exact ⟨[(0, 20, 19), (1, 20, 1)], hl a b ⟨by decide, by decide⟩ h0 ⟨by decide, by decide⟩ h1, run_R8N_19_1⟩
    · exact ⟨[(0, 20, 19), (1, 20, 2)], hl a b ⟨by decide, by decide⟩ h0 ⟨by decide, by decide⟩ h1, run_R8N_19_2⟩
    · exact ⟨[(0, 20, 19), (1, 20, 3)], hl a b ⟨by decide, by decide⟩ h0 ⟨by decide, by decide⟩ h1, run_R8N_19_3⟩
    · exact ⟨[(0, 20, 19), (1, 20, 4)], hl a b ⟨by decide, by decide⟩ h0 ⟨by decide, by decide⟩ h1, run_R8N_19_4⟩
    · exact ⟨[(0, 20, 19), (1, 20, 5)], hl a b ⟨by decide, by decide⟩ h0 ⟨by decide, by decide⟩ h1, run_R8N_19_5⟩
    · exact ⟨[(0, 20, 19), (1, 20, 6)], hl a b ⟨by decide, by decide⟩ h0 ⟨by decide, by decide⟩ h1, run_R8N_19_6⟩
    · exact ⟨[(0, 20, 19), (1, 20, 7)], hl a b ⟨by decide, by decide⟩ h0 ⟨by decide, by decide⟩ h1, run_R8N_19_7⟩
    · exact ⟨[(0, 20, 19), (1, 20, 8)], hl a b ⟨by decide, by decide⟩ h0 ⟨by decide, by decide⟩ h1, run_R8N_19_8⟩
    · exact ⟨[(0, 20, 19), (1, 20, 9)], hl a b ⟨by decide, by decide⟩ h0 ⟨by decide, by decide⟩ h1, run_R8N_19_9⟩
    · exact ⟨[(0, 20, 19), (1, 20, 10)], hl a b ⟨by decide, by decide⟩ h0 ⟨by decide, by decide⟩ h1, run_R8N_19_10⟩
    · exact ⟨[(0, 20, 19), (1, 20, 11)], hl a b ⟨by decide, by decide⟩ h0 ⟨by decide, by decide⟩ h1, run_R8N_19_11⟩
    · exact ⟨[(0, 20, 19), (1, 20, 12)], hl a b ⟨by decide, by decide⟩ h0 ⟨by decide, by decide⟩ h1, run_R8N_19_12⟩
    · exact ⟨[(0, 20, 19), (1, 20, 13)], hl a b ⟨by decide, by decide⟩ h0 ⟨by decide, by decide⟩ h1, run_R8N_19_13⟩
    · exact ⟨[(0, 20, 19), (1, 20, 14)], hl a b ⟨by decide, by decide⟩ h0 ⟨by decide, by decide⟩ h1, run_R8N_19_14⟩
    · exact ⟨[(0, 20, 19), (1, 20, 15)], hl a b ⟨by decide, by decide⟩ h0 ⟨by decide, by decide⟩ h1, run_R8N_19_15⟩
    · exact ⟨[(0, 20, 19), (1, 20, 16)], hl a b ⟨by decide, by decide⟩ h0 ⟨by decide, by decide⟩ h1, run_R8N_19_16⟩
    · exact ⟨[(0, 20, 19), (1, 20, 17)], hl a b ⟨by decide, by decide⟩ h0 ⟨by decide, by decide⟩ h1, run_R8N_19_17⟩
    · exact ⟨[(0, 20, 19), (1, 20, 18)], hl a b ⟨by decide, by decide⟩ h0 ⟨by decide, by decide⟩ h1, run_R8N_19_18⟩
    · exact ⟨[(0, 20, 19), (1, 20, 19)], hl a b ⟨by decide, by decide⟩ h0 ⟨by decide, by decide⟩ h1, run_R8N_19_19⟩

theorem walk (a : Int) (b : Int) (W : World) (hg : W.cell? ⟨0, 0, none⟩ = some errT) : Calls Tryd.prog 5 #[.int .i64 a, .int .i64 b] W fun e W' => e = .returned (.bool true) ∧ Stays W W' := by
  obtain ⟨l, hl, hr⟩ := runs a b
  letI := lay (env2 a b)
  exact law_true (env2 a b) hl (xs := [.int .i64 a, .int .i64 b]) hr hg (fun c => .cons (.sym 0) (.cons (.sym 1) (.nil c))) rfl


/-- What the runs give, for every argument and every world that holds what the row lists. -/
theorem contract (H : Type) (enc : TypeId × Value → H) (W : World) (base : Nat) (args : Array Value) (ds gs : List (DataW H)) (before : List MemPlace)
    (hval : ∀ (j : Nat) t v, Tryd.f5.params[j]? = some t → args[j]? = some v → Value.okWide Tryd.prog W .any base t v)
    (hW : DataW.Whole enc Tryd.prog Tryd.f5.params.toList Rows.scopeNamesSpec.vars false W args.toList ds gs before) (hL : laidMetH Tryd.prog Rows.scopeNamesRow.laid W) :
    Calls Tryd.prog 5 args W fun e W' => ∃ v, e = .returned v ∧ Rows.scopeNamesSpec.post enc Tryd.prog Tryd.f5 false true false false W args v W' := by
  have hW' := hW
  obtain ⟨p, q, hA0, hV, rfl, hfz, hnd⟩ := hW
  have hA : DataW.TrodAll enc Tryd.prog W 0 (fun _ => true) true Tryd.f5.params.toList args.toList ds p := hA0
  rw [Tryd.params5] at hA hval
  obtain ⟨v0, vs0, d0, ds0, p0, q0, hargs, rfl, rfl, h0, r0⟩ := trodAll_cons hA
  obtain ⟨v1, vs1, d1, ds1, p1, q1, rfl, rfl, rfl, h1, r1⟩ := trodAll_cons r0
  obtain ⟨rfl, rfl, rfl⟩ := trodAll_nil r1
  obtain rfl : args = #[v0, v1] := by cases args; simp_all
  obtain ⟨rfl, rfl⟩ := trodVars_none hV
  obtain ⟨a, rfl, rfl, rfl, hw0⟩ := open_int Tryd.underlying3 (hval 0 3 v0 rfl rfl) h0
  obtain ⟨b, rfl, rfl, rfl, hw1⟩ := open_int Tryd.underlying3 (hval 1 3 v1 rfl rfl) h1
  clear hA0
  simp only [List.append_nil] at hW'
  refine (walk a b W (handle_of_laid hL)).mono fun e W' ⟨he, hs⟩ => ?_
  subst he
  exact ⟨_, rfl, post_of_stays (pa := []) (pv := []) hW' (fun _ _ _ => trodAll_cons_mk (shut_bool Tryd.underlying4 _) trodAll_mk0) (fun _ _ => trodAll_cons_mk (shut_int Tryd.underlying3 hw0) (trodAll_cons_mk (shut_int Tryd.underlying3 hw1) (trodAll_mk0))) (fun _ _ => rfl) rfl
    hs (ok_one (by kernel_rfl) rfl (okWide_bool_mk Tryd.underlying4 _))⟩

theorem reads (os : Os) {H : Type} (enc : TypeId × Value → H) : ∃ places, DataW.whole enc Tryd.prog ((laidWorld os).forCall (fun _ _ => 0) ⟨#[], #[.int .i64 0, .int .i64 0], []⟩).memory Tryd.f5.params.toList Rows.scopeNamesSpec.vars false #[Value.int .i64 0, Value.int .i64 0].toList 8 = some ([.lit (.int .i64 0), .lit (.int .i64 0)], [], places) :=
  ⟨[], by kernel_rfl⟩

theorem lifted (os : Os) (started : os.Started) (H : Type) (enc : TypeId × Value → H) (F : Stop.Interp) :
    ReturnsInHanded {} Tryd.checked os 5 .any ((OpenSpec.ofChange Rows.scopeNamesSpec).preRow enc Tryd.prog Tryd.f5 Rows.scopeNamesRow.domain false Rows.scopeNamesRow.laid) (((OpenSpec.ofChange Rows.scopeNamesSpec).at F).post enc Tryd.prog Tryd.f5 false true false false) := by
  obtain ⟨places, hx⟩ := reads os enc
  refine returnsInHanded_of_row (C := Tryd.checked) (s := OpenSpec.ofChange Rows.scopeNamesSpec) own started (by kernel_rfl) Tryd.func5
    (witness_row_at (enc := enc) (C := Tryd.checked) false (laidWorld os) #[.int .i64 0, .int .i64 0] rfl (by kernel_rfl) (by kernel_rfl) (by kernel_rfl)
      (OpenSpec.preRow_of_cond 8 hx (by kernel_rfl) (fun k hk => by cases hk) (by kernel_rfl) (laidWorld_met os _))) ?_
  intro W base args ds gs before hval hW _ _ _ hL _ _
  exact contract H enc W base args ds gs before hval hW hL

theorem said : Rows.ScopeNamesSaid :=
  OpenClaim.holds_of_cond 5 Tryd.f5 rfl rfl rfl rfl rfl rfl rfl ⟨rfl, rfl, rfl, rfl, rfl⟩ rfl rfl rfl rfl rfl (by kernel_rfl) Tryd.func5 (by kernel_rfl)
    (of_decide_eq_true (by kernel_rfl)) (by unfold Func.isWrapper; first | (rw [if_pos (by decide +kernel)]; kernel_rfl) | (rw [if_neg (by decide +kernel)]; exact ⟨rfl, rfl⟩))
    (fun os started H enc _ F => by rw [OpenClaim.pre_eq_preRow]; exact lifted os started H enc F)

theorem plain (f : FuncId) (fn : Func) (hf : Tryd.pinned.checked.prog.funcNamed "avow/avowlaw17.ScopeNames" = some f) (hfn : Tryd.pinned.checked.prog.funcs[f]? = some fn) :
    true = Tryd.pinned.checked.prog.looks [] ∧ ∀ (j : Nat) t, fn.params[j]? = some t → Tryd.pinned.checked.prog.wantsStandIn t = false := by
  obtain rfl : f = 5 := Option.some.inj ((show Tryd.prog.funcNamed "avow/avowlaw17.ScopeNames" = some 5 by kernel_rfl).symm.trans hf) |>.symm
  obtain rfl : fn = Tryd.f5 := (Option.some.inj (Tryd.func5.symm.trans hfn)).symm
  refine ⟨by kernel_rfl, fun j t ht => ?_⟩
  rw [Tryd.params5] at ht
  have h := Array.mem_of_getElem? ht
  simp at h
  subst h; exact (show Tryd.prog.wantsStandIn 3 = false by kernel_rfl)

end Go.Proofs.YtdaimjlegjhidaaDoor.scopeNames
namespace Go.Proofs.YtdaimjlegjhidaaDoor
/-- The card. -/
theorem scopeNames_card : Rows.ScopeNamesCardSaid :=
  Claim7.holds_tied_plain_at .later [] _ _ _ _ scopeNames.said (fun _ h => by cases h) (by kernel_rfl) (fun _ h => by cases h) scopeNames_row_tie rfl ⟨rfl, rfl⟩ (by kernel_rfl) rfl scopeNames.plain (by kernel_rfl)
end Go.Proofs.YtdaimjlegjhidaaDoor
