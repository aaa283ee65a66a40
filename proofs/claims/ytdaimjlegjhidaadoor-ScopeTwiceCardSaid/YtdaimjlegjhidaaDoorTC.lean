/- Part TC of the proof: what it says stands at its theorems. -/
import Derived.Test.YtdaimjlegjhidaaDoorT0
import Derived.Test.YtdaimjlegjhidaaDoorT1
import Derived.Test.YtdaimjlegjhidaaDoorT2
import Derived.Test.YtdaimjlegjhidaaDoorT3
set_option linter.unusedVariables false
set_option linter.unusedSimpArgs false
set_option linter.unusedSectionVars false
/- ScopeTwice: the law returns true for every input, and each argument reads as it did (the card that ties what the row lists). The proof: every argument counts by its remainder alone (avowhelp.Place), and each of the finitely many runs is carried out by the kernel in an abstract machine that is proved sound. -/
namespace Go.Proofs.YtdaimjlegjhidaaDoor.scopeTwice
open Go Go.AM Go.AM.S Go.Proofs Go.ChangeShapes Go.WideShapes Go.ChangeAt Go.RowKit
set_option maxRecDepth 100000
set_option linter.unusedSimpArgs false
theorem hl {n0 m0 n1 m1 : Int} (a b : Int) (p0 : 0 < n0 ∧ n0 < 4611686018427387904) (e0 : a % n0 = m0) (p1 : 0 < n1 ∧ n1 < 4611686018427387904) (e1 : b % n1 = m1) : ∀ t ∈ [((0 : Nat), n0, m0), ((1 : Nat), n1, m1)], 0 < t.2.1 ∧ t.2.1 < 4611686018427387904 ∧ ((env2 a b) t.1).1 = .i64 ∧ ((env2 a b) t.1).2 % t.2.1 = t.2.2 := by
  intro t ht
  simp only [List.mem_cons, List.not_mem_nil, or_false] at ht
  rcases ht with rfl | rfl
  · exact ⟨p0.1, p0.2, rfl, e0⟩
  · exact ⟨p1.1, p1.2, rfl, e1⟩
theorem runs (a : Int) (b : Int) : ∃ l : List (Nat × Int × Int), (∀ t ∈ l, 0 < t.2.1 ∧ t.2.1 < 4611686018427387904 ∧ ((env2 a b) t.1).1 = .i64 ∧ ((env2 a b) t.1).2 % t.2.1 = t.2.2) ∧ S.fn Pg (kn l) tbl 3000 4 [.sym 0, .sym 1] noHp = some (.val (.bool true) noHp) := by
  have h0 : a % 5 = 0 ∨ a % 5 = 1 ∨ a % 5 = 2 ∨ a % 5 = 3 ∨ a % 5 = 4 := by omega
  rcases h0 with h0 | h0 | h0 | h0 | h0
  · have h1 : b % 20 = 0 ∨ b % 20 = 1 ∨ b % 20 = 2 ∨ b % 20 = 3 ∨ b % 20 = 4 ∨ b % 20 = 5 ∨ b % 20 = 6 ∨ b % 20 = 7 ∨ b % 20 = 8 ∨ b % 20 = 9 ∨ b % 20 = 10 ∨ b % 20 = 11 ∨ b % 20 = 12 ∨ b % 20 = 13 ∨ b % 20 = 14 ∨ b % 20 = 15 ∨ b % 20 = 16 ∨ b % 20 = 17 ∨ b % 20 = 18 ∨ b % 20 = 19 := by omega
    rcases h1 with h1 | h1 | h1 | h1 | h1 | h1 | h1 | h1 | h1 | h1 | h1 | h1 | h1 | h1 | h1 | h1 | h1 | h1 | h1 | h1
    · exact ⟨[(0, 5, 0), (1, 20, 0)], hl a b ⟨by decide, by decide⟩ h0 ⟨by decide, by decide⟩ h1, run_R8T_0_0⟩
    · exact ⟨[(0, 5, 0), (1, 20, 1)], hl a b ⟨by decide, by decide⟩ h0 ⟨by decide, by decide⟩ h1, run_R8T_0_1⟩
    · exact ⟨[(0, 5, 0), (1, 20, 2)], hl a b ⟨by decide, by decide⟩ h0 ⟨by decide, by decide⟩ h1, run_R8T_0_2⟩
    · exact ⟨[(0, 5, 0), (1, 20, 3)], hl a b ⟨by decide, by decide⟩ h0 ⟨by decide, by decide⟩ h1, run_R8T_0_3⟩
    · exact ⟨[(0, 5, 0), (1, 20, 4)], hl a b ⟨by decide, by decide⟩ h0 ⟨by decide, by decide⟩ h1, run_R8T_0_4⟩
    · exact ⟨[(0, 5, 0), (1, 20, 5)], hl a b ⟨by decide, by decide⟩ h0 ⟨by decide, by decide⟩ h1, run_R8T_0_5⟩
    · exact ⟨[(0, 5, 0), (1, 20, 6)], hl a b ⟨by decide, by decide⟩ h0 ⟨by decide, by decide⟩ h1, run_R8T_0_6⟩
    · exact ⟨[(0, 5, 0), (1, 20, 7)], hl a b ⟨by decide, by decide⟩ h0 ⟨by decide, by decide⟩ h1, run_R8T_0_7⟩
    · exact ⟨[(0, 5, 0), (1, 20, 8)], hl a b ⟨by decide, by decide⟩ h0 ⟨by decide, by decide⟩ h1, run_R8T_0_8⟩
    · exact ⟨[(0, 5, 0), (1, 20, 9)], hl a b ⟨by decide, by decide⟩ h0 ⟨by decide, by decide⟩ h1, run_R8T_0_9⟩
    · exact ⟨[(0, 5, 0), (1, 20, 10)], hl a b ⟨by decide, by decide⟩ h0 ⟨by decide, by decide⟩ h1, run_R8T_0_10⟩
    · exact ⟨[(0, 5, 0), (1, 20, 11)], hl a b ⟨by decide, by decide⟩ h0 ⟨by decide, by decide⟩ h1, run_R8T_0_11⟩
    · exact ⟨[(0, 5, 0), (1, 20, 12)], hl a b ⟨by decide, by decide⟩ h0 ⟨by decide, by decide⟩ h1, run_R8T_0_12⟩
    · exact ⟨[(0, 5, 0), (1, 20, 13)], hl a b ⟨by decide, by decide⟩ h0 ⟨by decide, by decide⟩ h1, run_R8T_0_13⟩
    · exact ⟨[(0, 5, 0), (1, 20, 14)], hl a b ⟨by decide, by decide⟩ h0 ⟨by decide, by decide⟩ h1, run_R8T_0_14⟩
    · exact ⟨[(0, 5, 0), (1, 20, 15)], hl a b ⟨by decide, by decide⟩ h0 ⟨by decide, by decide⟩ h1, run_R8T_0_15⟩
    · exact ⟨[(0, 5, 0), (1, 20, 16)], hl a b ⟨by decide, by decide⟩ h0 ⟨by decide, by decide⟩ h1, run_R8T_0_16⟩
    · exact ⟨[(0, 5, 0), (1, 20, 17)], hl a b ⟨by decide, by decide⟩ h0 ⟨by decide, by decide⟩ h1, run_R8T_0_17⟩
    · exact ⟨[(0, 5, 0), (1, 20, 18)], hl a b ⟨by decide, by decide⟩ h0 ⟨by decide, by decide⟩ h1, run_R8T_0_18⟩
    · exact ⟨[(0, 5, 0), (1, 20, 19)], hl a b ⟨by decide, by decide⟩ h0 ⟨by decide, by decide⟩ h1, run_R8T_0_19⟩
  · have h1 : b % 20 = 0 ∨ b % 20 = 1 ∨ b % 20 = 2 ∨ b % 20 = 3 ∨ b % 20 = 4 ∨ b % 20 = 5 ∨ b % 20 = 6 ∨ b % 20 = 7 ∨ b % 20 = 8 ∨ b % 20 = 9 ∨ b % 20 = 10 ∨ b % 20 = 11 ∨ b % 20 = 12 ∨ b % 20 = 13 ∨ b % 20 = 14 ∨ b % 20 = 15 ∨ b % 20 = 16 ∨ b % 20 = 17 ∨ b % 20 = 18 ∨ b % 20 = 19 := by omega
    rcases h1 with h1 | h1 | h1 | h1 | h1 | h1 | h1 | h1 | h1 | h1 | h1 | h1 | h1 | h1 | h1 | h1 | h1 | h1 | h1 | h1
    · exact ⟨[(0, 5, 1), (1, 20, 0)], hl a b ⟨by decide, by decide⟩ h0 ⟨by decide, by decide⟩ h1, run_R8T_1_0⟩
    · exact ⟨[(0, 5, 1), (1, 20, 1)], hl a b ⟨by decide, by decide⟩ h0 ⟨by decide, by decide⟩ h1, run_R8T_1_1⟩
    · exact ⟨[(0, 5, 1), (1, 20, 2)], hl a b ⟨by decide, by decide⟩ h0 ⟨by decide, by decide⟩ h1, run_R8T_1_2⟩
    · exact ⟨[(0, 5, 1), (1, 20, 3)], hl a b ⟨by decide, by decide⟩ h0 ⟨by decide, by decide⟩ h1, run_R8T_1_3⟩
    · exact ⟨[(0, 5, 1), (1, 20, 4)], hl a b ⟨by decide, by decide⟩ h0 ⟨by decide, by decide⟩ h1, run_R8T_1_4⟩
    · exact ⟨[(0, 5, 1), (1, 20, 5)], hl a b ⟨by decide, by decide⟩ h0 ⟨by decide, by decide⟩ h1, run_R8T_1_5⟩
    · exact ⟨[(0, 5, 1), (1, 20, 6)], hl a b ⟨by decide, by decide⟩ h0 ⟨by decide, by decide⟩ h1, run_R8T_1_6⟩
    · exact ⟨[(0, 5, 1), (1, 20, 7)], hl a b ⟨by decide, by decide⟩ h0 ⟨by decide, by decide⟩ h1, run_R8T_1_7⟩
    · exact ⟨[(0, 5, 1), (1, 20, 8)], hl a b ⟨by decide, by decide⟩ h0 ⟨by decide, by decide⟩ h1, run_R8T_1_8⟩
    · exact ⟨[(0, 5, 1), (1, 20, 9)], hl a b ⟨by decide, by decide⟩ h0 ⟨by decide, by decide⟩ h1, run_R8T_1_9⟩
    · exact ⟨[(0, 5, 1), (1, 20, 10)], hl a b ⟨by decide, by decide⟩ h0 ⟨by decide, by decide⟩ h1, run_R8T_1_10⟩
    · exact ⟨[(0, 5, 1), (1, 20, 11)], hl a b ⟨by decide, by decide⟩ h0 ⟨by decide, by decide⟩ h1, run_R8T_1_11⟩
    · exact ⟨[(0, 5, 1), (1, 20, 12)], hl a b ⟨by decide, by decide⟩ h0 ⟨by decide, by decide⟩ h1, run_R8T_1_12⟩
    · exact ⟨[(0, 5, 1), (1, 20, 13)], hl a b ⟨by decide, by decide⟩ h0 ⟨by decide, by decide⟩ h1, run_R8T_1_13⟩
    · exact ⟨[(0, 5, 1), (1, 20, 14)], hl a b ⟨by decide, by decide⟩ h0 ⟨by decide, by decide⟩ h1, run_R8T_1_14⟩
    · exact ⟨[(0, 5, 1), (1, 20, 15)], hl a b ⟨by decide, by decide⟩ h0 ⟨by decide, by decide⟩ h1, run_R8T_1_15⟩
    · exact ⟨[(0, 5, 1), (1, 20, 16)], hl a b ⟨by decide, by decide⟩ h0 ⟨by decide, by decide⟩ h1, run_R8T_1_16⟩
    · exact ⟨[(0, 5, 1), (1, 20, 17)], hl a b ⟨by decide, by decide⟩ h0 ⟨by decide, by decide⟩ h1, run_R8T_1_17⟩
    · exact ⟨[(0, 5, 1), (1, 20, 18)], hl a b ⟨by decide, by decide⟩ h0 ⟨by decide, by decide⟩ h1, run_R8T_1_18⟩
    · exact ⟨[(0, 5, 1), (1, 20, 19)], hl a b ⟨by decide, by decide⟩ h0 ⟨by decide, by decide⟩ h1, run_R8T_1_19⟩
  · have h1 : b % 20 = 0 ∨ b % 20 = 1 ∨ b % 20 = 2 ∨ b % 20 = 3 ∨ b % 20 = 4 ∨ b % 20 = 5 ∨ b % 20 = 6 ∨ b % 20 = 7 ∨ b % 20 = 8 ∨ b % 20 = 9 ∨ b % 20 = 10 ∨ b % 20 = 11 ∨ b % 20 = 12 ∨ b % 20 = 13 ∨ b % 20 = 14 ∨ b % 20 = 15 ∨ b % 20 = 16 ∨ b % 20 = 17 ∨ b % 20 = 18 ∨ b % 20 = 19 := by omega
    rcases h1 with h1 | h1 | h1 | h1 | h1 | h1 | h1 | h1 | h1 | h1 | h1 | h1 | h1 | h1 | h1 | h1 | h1 | h1 | h1 | h1
    · exact ⟨[(0, 5, 2), (1, 20, 0)], hl a b ⟨by decide, by decide⟩ h0 ⟨by decide, by decide⟩ h1, run_R8T_2_0⟩
    · exact ⟨[(0, 5, 2), (1, 20, 1)], hl a b ⟨by decide, by decide⟩ h0 ⟨by decide, by decide⟩ h1, run_R8T_2_1⟩
    · exact ⟨[(0, 5, 2), (1, 20, 2)], hl a b ⟨by decide, by decide⟩ h0 ⟨by decide, by decide⟩ h1, run_R8T_2_2⟩
    · exact ⟨[(0, 5, 2), (1, 20, 3)], hl a b ⟨by decide, by decide⟩ h0 ⟨by decide, by decide⟩ h1, run_R8T_2_3⟩
    · exact ⟨[(0, 5, 2), (1, 20, 4)], hl a b ⟨by decide, by decide⟩ h0 ⟨by decide, by decide⟩ h1, run_R8T_2_4⟩
    · exact ⟨[(0, 5, 2), (1, 20, 5)], hl a b ⟨by decide, by decide⟩ h0 ⟨by decide, by decide⟩ h1, run_R8T_2_5⟩
    · exact ⟨[(0, 5, 2), (1, 20, 6)], hl a b ⟨by decide, by decide⟩ h0 ⟨by decide, by decide⟩ h1, run_R8T_2_6⟩
    · exact ⟨[(0, 5, 2), (1, 20, 7)], hl a b ⟨by decide, by decide⟩ h0 ⟨by decide, by decide⟩ h1, run_R8T_2_7⟩
    · exact ⟨[(0, 5, 2), (1, 20, 8)], hl a b ⟨by decide, by decide⟩ h0 ⟨by decide, by decide⟩ h1, run_R8T_2_8⟩
    · exact ⟨[(0, 5, 2), (1, 20, 9)], hl a b ⟨by decide, by decide⟩ h0 ⟨by decide, by decide⟩ h1, run_R8T_2_9⟩
    · exact ⟨[(0, 5, 2), (1, 20, 10)], hl a b ⟨by decide, by decide⟩ h0 ⟨by decide, by decide⟩ h1, run_R8T_2_10⟩
    · exact ⟨[(0, 5, 2), (1, 20, 11)], hl a b ⟨by decide, by decide⟩ h0 ⟨by decide, by decide⟩ h1, run_R8T_2_11⟩
    · exact ⟨[(0, 5, 2), (1, 20, 12)], hl a b ⟨by decide, by decide⟩ h0 ⟨by decide, by decide⟩ h1, run_R8T_2_12⟩
    · exact ⟨[(0, 5, 2), (1, 20, 13)], hl a b ⟨by decide, by decide⟩ h0 ⟨by decide, by decide⟩ h1, run_R8T_2_13⟩
    · exact ⟨[(0, 5, 2), (1, 20, 14)], hl a b ⟨by decide, by decide⟩ h0 ⟨by decide, by decide⟩ h1, run_R8T_2_14⟩
    · exact ⟨[(0, 5, 2), (1, 20, 15)], hl a b ⟨by decide, by decide⟩ h0 ⟨by decide, by decide⟩ h1, run_R8T_2_15⟩
    · exact ⟨[(0, 5, 2), (1, 20, 16)], hl a b ⟨by decide, by decide⟩ h0 ⟨by decide, by decide⟩ h1, run_R8T_2_16⟩
    · exact ⟨[(0, 5, 2), (1, 20, 17)], hl a b ⟨by decide, by decide⟩ h0 ⟨by decide, by decide⟩ h1, run_R8T_2_17⟩
    · exact ⟨[(0, 5, 2), (1, 20, 18)], hl a b ⟨by decide, by decide⟩ h0 ⟨by decide, by decide⟩ h1, run_R8T_2_18⟩
    · exact ⟨[(0, 5, 2), (1, 20, 19)], hl a b ⟨by decide, by decide⟩ h0 ⟨by decide, by decide⟩ h1, run_R8T_2_19⟩
  · have h1 : b % 20 = 0 ∨ b % 20 = 1 ∨ b % 20 = 2 ∨ b % 20 = 3 ∨ b % 20 = 4 ∨ b % 20 = 5 ∨ b % 20 = 6 ∨ b % 20 = 7 ∨ b % 20 = 8 ∨ b % 20 = 9 ∨ b % 20 = 10 ∨ b % 20 = 11 ∨ b % 20 = 12 ∨ b % 20 = 13 ∨ b % 20 = 14 ∨ b % 20 = 15 ∨ b % 20 = 16 ∨ b % 20 = 17 ∨ b % 20 = 18 ∨ b % 20 = 19 := by omega
    rcases h1 with h1 | h1 | h1 | h1 | h1 | h1 | h1 | h1 | h1 | h1 | h1 | h1 | h1 | h1 | h1 | h1 | h1 | h1 | h1 | h1
    · exact ⟨[(0, 5, 3), (1, 20, 0)], hl a b ⟨by decide, by decide⟩ h0 ⟨by decide, by decide⟩ h1, run_R8T_3_0⟩
    · exact ⟨[(0, 5, 3), (1, 20, 1)], hl a b ⟨by decide, by decide⟩ h0 ⟨by decide, by decide⟩ h1, run_R8T_3_1⟩
    · exact ⟨[(0, 5, 3), (1, 20, 2)], hl a b ⟨by decide, by decide⟩ h0 ⟨by decide, by decide⟩ h1, run_R8T_3_2⟩
    · exact ⟨[(0, 5, 3), (1, 20, 3)], hl a b ⟨by decide, by decide⟩ h0 ⟨by decide, by decide⟩ h1, run_R8T_3_3⟩
    · exact ⟨[(0, 5, 3), (1, 20, 4)], hl a b ⟨by decide, by decide⟩ h0 ⟨by decide, by decide⟩ h1, run_R8T_3_4⟩
    · exact ⟨[(0, 5, 3), (1, 20, 5)], hl a b ⟨by decide, by decide⟩ h0 ⟨by decide, by decide⟩ h1, run_R8T_3_5⟩
    · exact ⟨[(0, 5, 3), (1, 20, 6)], hl a b ⟨by decide, by decide⟩ h0 ⟨by decide, by decide⟩ h1, run_R8T_3_6⟩
    · exact ⟨[(0, 5, 3), (1, 20, 7)], hl a b ⟨by decide, by decide⟩ h0 ⟨by decide, by decide⟩ h1, run_R8T_3_7⟩
    · exact ⟨[(0, 5, 3), (1, 20, 8)], hl a b ⟨by decide, by decide⟩ h0 ⟨by decide, by decide⟩ h1, run_R8T_3_8⟩
    · exact ⟨[(0, 5, 3), (1, 20, 9)], hl a b ⟨by decide, by decide⟩ h0 ⟨by decide, by decide⟩ h1, run_R8T_3_9⟩
    · exact ⟨[(0, 5, 3), (1, 20, 10)], hl a b ⟨by decide, by decide⟩ h0 ⟨by decide, by decide⟩ h1, run_R8T_3_10⟩
    · exact ⟨[(0, 5, 3), (1, 20, 11)], hl a b ⟨by decide, by decide⟩ h0 ⟨by decide, by decide⟩ h1, run_R8T_3_11⟩
    · exact ⟨[(0, 5, 3), (1, 20, 12)], hl a b ⟨by decide, by decide⟩ h0 ⟨by decide, by decide⟩ h1, run_R8T_3_12⟩
    · exact ⟨[(0, 5, 3), (1, 20, 13)], hl a b ⟨by decide, by decide⟩ h0 ⟨by decide, by decide⟩ h1, run_R8T_3_13⟩
    · exact ⟨[(0, 5, 3), (1, 20, 14)], hl a b ⟨by decide, by decide⟩ h0 ⟨by decide, by decide⟩ h1, run_R8T_3_14⟩
    · exact ⟨[(0, 5, 3), (1, 20, 15)], hl a b ⟨by decide, by decide⟩ h0 ⟨by decide, by decide⟩ h1, run_R8T_3_15⟩
    · exact ⟨[(0, 5, 3), (1, 20, 16)], hl a b ⟨by decide, by decide⟩ h0 ⟨by decide, by decide⟩ h1, run_R8T_3_16⟩
    · exact ⟨[(0, 5, 3), (1, 20, 17)], hl a b ⟨by decide, by decide⟩ h0 ⟨by decide, by decide⟩ h1, run_R8T_3_17⟩
    · exact ⟨[(0, 5, 3), (1, 20, 18)], hl a b ⟨by decide, by decide⟩ h0 ⟨by decide, by decide⟩ h1, run_R8T_3_18⟩
    · exact ⟨[(0, 5, 3), (1, 20, 19)], hl a b ⟨by decide, by decide⟩ h0 ⟨by decide, by decide⟩ h1, run_R8T_3_19⟩
  · have h1 : b % 20 = 0 ∨ b % 20 = 1 ∨ b % 20 = 2 ∨ b % 20 = 3 ∨ b % 20 = 4 ∨ b % 20 = 5 ∨ b % 20 = 6 ∨ b % 20 = 7 ∨ b % 20 = 8 ∨ b % 20 = 9 ∨ b % 20 = 10 ∨ b % 20 = 11 ∨ b % 20 = 12 ∨ b % 20 = 13 ∨ b % 20 = 14 ∨ b % 20 = 15 ∨ b % 20 = 16 ∨ b % 20 = 17 ∨ b % 20 = 18 ∨ b % 20 = 19 := by omega
    rcases h1 with h1 | h1 | h1 | h1 | h1 | h1 | h1 | h1 | h1 | h1 | h1 | h1 | h1 | h1 | h1 | h1 | h1 | h1 | h1 | h1
    · exact ⟨[(0, 5, 4), (1, 20, 0)], hl a b ⟨by decide, by decide⟩ h0 ⟨by decide, by decide⟩ h1, run_R8T_4_0⟩
    · exact ⟨[(0, 5, 4), (1, 20, 1)], hl a b ⟨by decide, by decide⟩ h0 ⟨by decide, by decide⟩ h1, run_R8T_4_1⟩
    · exact ⟨[(0, 5, 4), (1, 20, 2)], hl a b ⟨by decide, by decide⟩ h0 ⟨by decide, by decide⟩ h1, run_R8T_4_2⟩
    · exact ⟨[(0, 5, 4), (1, 20, 3)], hl a b ⟨by decide, by decide⟩ h0 ⟨by decide, by decide⟩ h1, run_R8T_4_3⟩
    · exact ⟨[(0, 5, 4), (1, 20, 4)], hl a b ⟨by decide, by decide⟩ h0 ⟨by decide, by decide⟩ h1, run_R8T_4_4⟩
    · exact ⟨[(0, 5, 4), (1, 20, 5)], hl a b ⟨by decide, by decide⟩ h0 ⟨by decide, by decide⟩ h1, run_R8T_4_5⟩
    · exact ⟨[(0, 5, 4), (1, 20, 6)], hl a b ⟨by decide, by decide⟩ h0 ⟨by decide, by decide⟩ h1, run_R8T_4_6⟩
    · exact ⟨[(0, 5, 4), (1, 20, 7)], hl a b ⟨by decide, by decide⟩ h0 ⟨by decide, by decide⟩ h1, run_R8T_4_7⟩
    · exact ⟨[(0, 5, 4), (1, 20, 8)], hl a b ⟨by decide, by decide⟩ h0 ⟨by decide, by decide⟩ h1, run_R8T_4_8⟩
    · exact ⟨[(0, 5, 4), (1, 20, 9)], hl a b ⟨by decide, by decide⟩ h0 ⟨by decide, by decide⟩ h1, run_R8T_4_9⟩
    · exact ⟨[(0, 5, 4), (1, 20, 10)], hl a b ⟨by decide, by decide⟩ h0 ⟨by decide, by decide⟩ h1, run_R8T_4_10⟩
    · exact ⟨[(0, 5, 4), (1, 20, 11)], hl a b ⟨by decide, by decide⟩ h0 ⟨by decide, by decide⟩ h1, run_R8T_4_11⟩
    · exact ⟨[(0, 5, 4), (1, 20, 12)], hl a b ⟨by decide, by decide⟩ h0 ⟨by decide, by decide⟩ h1, run_R8T_4_12⟩
    · exact ⟨[(0, 5, 4), (1, 20, 13)], hl a b ⟨by decide, by decide⟩ h0 ⟨by decide, by decide⟩ h1, run_R8T_4_13⟩
    · exact ⟨[(0, 5, 4), (1, 20, 14)], hl a b ⟨by decide, by decide⟩ h0 ⟨by decide, by decide⟩ h1, run_R8T_4_14⟩
    · exact ⟨[(0, 5, 4), (1, 20, 15)], hl a b ⟨by decide, by decide⟩ h0 ⟨by decide, by decide⟩ h1, run_R8T_4_15⟩
    · exact ⟨[(0, 5, 4), (1, 20, 16)], hl a b ⟨by decide, by decide⟩ h0 ⟨by decide, by decide⟩ h1, run_R8T_4_16⟩
    · exact ⟨[(0, 5, 4), (1, 20, 17)], hl a b ⟨by decide, by decide⟩ h0 ⟨by decide, by decide⟩ h1, run_R8T_4_17⟩
    · exact ⟨[(0, 5, 4), (1, 20, 18)], hl a b ⟨by decide, by decide⟩ h0 ⟨by decide, by decide⟩ h1, run_R8T_4_18⟩
    · exact ⟨[(0, 5, 4), (1, 20, 19)], hl a b ⟨by decide, by decide⟩ h0 ⟨by decide, by decide⟩ h1, run_R8T_4_19⟩

theorem walk (a : Int) (b : Int) (W : World) (hg : W.cell? ⟨0, 0, none⟩ = some errT) : Calls Tryd.prog 4 #[.int .i64 a, .int .i64 b] W fun e W' => e = .returned (.bool true) ∧ Stays W W' := by
  obtain ⟨l, hl, hr⟩ := runs a b
  letI := lay (env2 a b)
  exact law_true (env2 a b) hl (xs := [.int .i64 a, .int .i64 b]) hr hg (fun c => .cons (.sym 0) (.cons (.sym 1) (.nil c))) rfl


/-- What the runs give, for every argument and every world that holds what the row lists. -/
theorem contract (H : Type) (enc : TypeId × Value → H) (W : World) (base : Nat) (args : Array Value) (ds gs : List (DataW H)) (before : List MemPlace)
    (hval : ∀ (j : Nat) t v, Tryd.f4.params[j]? = some t → args[j]? = some v → Value.okWide Tryd.prog W .any base t v)
    (hW : DataW.Whole enc Tryd.prog Tryd.f4.params.toList Rows.scopeTwiceSpec.vars false W args.toList ds gs before) (hL : laidMetH Tryd.prog Rows.scopeTwiceRow.laid W) :
    Calls Tryd.prog 4 args W fun e W' => ∃ v, e = .returned v ∧ Rows.scopeTwiceSpec.post enc Tryd.prog Tryd.f4 false true false false W args v W' := by
  have hW' := hW
  obtain ⟨p, q, hA0, hV, rfl, hfz, hnd⟩ := hW
  have hA : DataW.TrodAll enc Tryd.prog W 0 (fun _ => true) true Tryd.f4.params.toList args.toList ds p := hA0
  rw [Tryd.params4] at hA hval
  obtain ⟨v0, vs0, d0, ds0, p0, q0, hargs, rfl, rfl, h0, r0⟩ := trodAll_cons hA
  obtain ⟨v1, vs1, d1, ds1, p1, q1, rfl, rfl, rfl, h1, r1⟩ := trodAll_cons r0
  obtain ⟨rfl, rfl, rfl⟩ := trodAll_nil r1
  obtain rfl : args = #[v0, v1] := by cases args; simp_all
  obtain ⟨rfl, rfl⟩ := trodVars_none hV
  obtain ⟨a, rfl, rfl, rfl, hw0⟩ := open_int Tryd.underlying3 (hval 0 3 v0 rfl rfl) h0
  obtain ⟨b, rfl, rfl, rfl, hw1⟩ := open_int Tryd.underlying3 (hval 1 3 v1 rfl rfl) h1
  clear hA0
  simp only [List.append_nil] at hW'
  refine (walk a b W (handle_of_laid hL)).mono fun e W' ⟨he, hs⟩ => ?_
  subst he
  exact ⟨_, rfl, post_of_stays (pa := []) (pv := []) hW' (fun _ _ _ => trodAll_cons_mk (shut_bool Tryd.underlying4 _) trodAll_mk0) (fun _ _ => trodAll_cons_mk (shut_int Tryd.underlying3 hw0) (trodAll_cons_mk (shut_int Tryd.underlying3 hw1) (trodAll_mk0))) (fun _ _ => rfl) rfl
    hs (ok_one (by kernel_rfl) rfl (okWide_bool_mk Tryd.underlying4 _))⟩

theorem reads (os : Os) {H : Type} (enc : TypeId × Value → H) : ∃ places, DataW.whole enc Tryd.prog ((laidWorld os).forCall (fun _ _ => 0) ⟨#[], #[.int .i64 0, .int .i64 0], []⟩).memory Tryd.f4.params.toList Rows.scopeTwiceSpec.vars false #[Value.int .i64 0, Value.int .i64 0].toList 8 = some ([.lit (.int .i64 0), .lit (.int .i64 0)], [], places) :=
  ⟨[], by kernel_rfl⟩

theorem lifted (os : Os) (started : os.Started) (H : Type) (enc : TypeId × Value → H) (F : Stop.Interp) :
    ReturnsInHanded {} Tryd.checked os 4 .any ((OpenSpec.ofChange Rows.scopeTwiceSpec).preRow enc Tryd.prog Tryd.f4 Rows.scopeTwiceRow.domain false Rows.scopeTwiceRow.laid) (((OpenSpec.ofChange Rows.scopeTwiceSpec).at F).post enc Tryd.prog Tryd.f4 false true false false) := by
  obtain ⟨places, hx⟩ := reads os enc
  refine returnsInHanded_of_row (C := Tryd.checked) (s := OpenSpec.ofChange Rows.scopeTwiceSpec) own started (by kernel_rfl) Tryd.func4
    (witness_row_at (enc := enc) (C := Tryd.checked) false (laidWorld os) #[.int .i64 0, .int .i64 0] rfl (by kernel_rfl) (by kernel_rfl) (by kernel_rfl)
      (OpenSpec.preRow_of_cond 8 hx (by kernel_rfl) (fun k hk => by cases hk) (by kernel_rfl) (laidWorld_met os _))) ?_
  intro W base args ds gs before hval hW _ _ _ hL _ _
  exact contract H enc W base args ds gs before hval hW hL

theorem said : Rows.ScopeTwiceSaid :=
  OpenClaim.holds_of_cond 4 Tryd.f4 rfl rfl rfl rfl rfl rfl rfl ⟨rfl, rfl, rfl, rfl, rfl⟩ rfl rfl rfl rfl rfl (by kernel_rfl) Tryd.func4 (by kernel_rfl)
    (of_decide_eq_true (by kernel_rfl)) (by unfold Func.isWrapper; first | (rw [if_pos (by decide +kernel)]; kernel_rfl) | (rw [if_neg (by decide +kernel)]; exact ⟨rfl, rfl⟩))
    (fun os started H enc _ F => by rw [OpenClaim.pre_eq_preRow]; exact lifted os started H enc F)

theorem plain (f : FuncId) (fn : Func) (hf : Tryd.pinned.checked.prog.funcNamed "avow/avowlaw17.ScopeTwice" = some f) (hfn : Tryd.pinned.checked.prog.funcs[f]? = some fn) :
    true = Tryd.pinned.checked.prog.looks [] ∧ ∀ (j : Nat) t, fn.params[j]? = some t → Tryd.pinned.checked.prog.wantsStandIn t = false := by
  obtain rfl : f = 4 := Option.some.inj ((show Tryd.prog.funcNamed "avow/avowlaw17.ScopeTwice" = some 4 by kernel_rfl).symm.trans hf) |>.symm
  obtain rfl : fn = Tryd.f4 := (Option.some.inj (Tryd.func4.symm.trans hfn)).symm
  refine ⟨by kernel_rfl, fun j t ht => ?_⟩
  rw [Tryd.params4] at ht
  have h := Array.mem_of_getElem? ht
  simp at h
  subst h; exact (show Tryd.prog.wantsStandIn 3 = false by kernel_rfl)

end Go.Proofs.YtdaimjlegjhidaaDoor.scopeTwice
namespace Go.Proofs.YtdaimjlegjhidaaDoor
/-- The card. -/
theorem scopeTwice_card : Rows.ScopeTwiceCardSaid :=
  Claim7.holds_tied_plain_at .later [] _ _ _ _ scopeTwice.said (fun _ h => by cases h) (by kernel_rfl) (fun _ h => by cases h) scopeTwice_row_tie rfl ⟨rfl, rfl⟩ (by kernel_rfl) rfl scopeTwice.plain (by kernel_rfl)
end Go.Proofs.YtdaimjlegjhidaaDoor
