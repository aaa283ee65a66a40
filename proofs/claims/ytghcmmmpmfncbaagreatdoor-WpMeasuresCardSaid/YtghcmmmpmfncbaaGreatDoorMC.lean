/- Part R of the proof: what it says stands at its theorems. -/
import Derived.Test.YtghcmmmpmfncbaaGreatDoorM0
import Derived.Test.YtghcmmmpmfncbaaGreatDoorM1
import Derived.Test.YtghcmmmpmfncbaaGreatDoorM2
import Derived.Test.YtghcmmmpmfncbaaGreatDoorM3
import Derived.Test.YtghcmmmpmfncbaaGreatDoorM4
import Derived.Test.YtghcmmmpmfncbaaGreatDoorM5
import Derived.Test.YtghcmmmpmfncbaaGreatDoorM6
import Derived.Test.YtghcmmmpmfncbaaGreatDoorM7
set_option linter.unusedVariables false
set_option linter.unusedSimpArgs false
set_option linter.unusedSectionVars false
/- WpMeasures: the law returns true for every input, and each argument reads as it did (the card that ties what the row lists). The proof: every argument counts by its remainder alone (avowhelp.Place), and each of the finitely many runs is carried out by the kernel in an abstract machine that is proved sound. -/
namespace Go.Proofs.YtghcmmmpmfncbaaGreatDoor.wpMeasures
open Go Go.AM Go.AM.S Go.Proofs Go.ChangeShapes Go.WideShapes Go.ChangeAt Go.RowKit
set_option maxRecDepth 100000
set_option linter.unusedSimpArgs false
theorem hl {n0 m0 n1 m1 n2 m2 : Int} (a b c : Int) (p0 : 0 < n0 ∧ n0 < 4611686018427387904) (e0 : a % n0 = m0) (p1 : 0 < n1 ∧ n1 < 4611686018427387904) (e1 : b % n1 = m1) (p2 : 0 < n2 ∧ n2 < 4611686018427387904) (e2 : c % n2 = m2) : ∀ t ∈ [((0 : Nat), n0, m0), ((1 : Nat), n1, m1), ((2 : Nat), n2, m2)], 0 < t.2.1 ∧ t.2.1 < 4611686018427387904 ∧ ((env3 a b c) t.1).1 = .i64 ∧ ((env3 a b c) t.1).2 % t.2.1 = t.2.2 := by
  intro t ht
  simp only [List.mem_cons, List.not_mem_nil, or_false] at ht
  rcases ht with rfl | rfl | rfl
  · exact ⟨p0.1, p0.2, rfl, e0⟩
  · exact ⟨p1.1, p1.2, rfl, e1⟩
  · exact ⟨p2.1, p2.2, rfl, e2⟩
theorem runs (a : Int) (b : Int) (c : Int) : ∃ l : List (Nat × Int × Int), (∀ t ∈ l, 0 < t.2.1 ∧ t.2.1 < 4611686018427387904 ∧ ((env3 a b c) t.1).1 = .i64 ∧ ((env3 a b c) t.1).2 % t.2.1 = t.2.2) ∧ S.fn Pg (kn l) tbl 3000 5 [.sym 0, .sym 1, .sym 2] noHp = some (.val (.bool true) noHp) := by
  have h0 : a % 4 = 0 ∨ a % 4 = 1 ∨ a % 4 = 2 ∨ a % 4 = 3 := by omega
  rcases h0 with h0 | h0 | h0 | h0
  · have h1 : b % 1 = 0 := by omega
    have h2 : c % 4 = 0 ∨ c % 4 = 1 ∨ c % 4 = 2 ∨ c % 4 = 3 := by omega
    rcases h2 with h2 | h2 | h2 | h2
    · exact ⟨[(0, 4, 0), (1, 1, 0), (2, 4, 0)], hl a b c ⟨by decide, by decide⟩ h0 ⟨by decide, by decide⟩ h1 ⟨by decide, by decide⟩ h2, run_R5M_0_0_0⟩
    · exact ⟨[(0, 4, 0), (1, 1, 0), (2, 4, 1)], hl a b c ⟨by decide, by decide⟩ h0 ⟨by decide, by decide⟩ h1 ⟨by decide, by decide⟩ h2, run_R5M_0_0_1⟩
    · exact ⟨[(0, 4, 0), (1, 1, 0), (2, 4, 2)], hl a b c ⟨by decide, by decide⟩ h0 ⟨by decide, by decide⟩ h1 ⟨by decide, by decide⟩ h2, run_R5M_0_0_2⟩
    · exact ⟨[(0, 4, 0), (1, 1, 0), (2, 4, 3)], hl a b c ⟨by decide, by decide⟩ h0 ⟨by decide, by decide⟩ h1 ⟨by decide, by decide⟩ h2, run_R5M_0_0_3⟩
  · have h1 : b % 2 = 0 ∨ b % 2 = 1 := by omega
    rcases h1 with h1 | h1
    · have h2 : c % 4 = 0 ∨ c % 4 = 1 ∨ c % 4 = 2 ∨ c % 4 = 3 := by omega
      rcases h2 with h2 | h2 | h2 | h2
      · exact ⟨[(0, 4, 1), (1, 2, 0), (2, 4, 0)], hl a b c ⟨by decide, by decide⟩ h0 ⟨by decide, by decide⟩ h1 ⟨by decide, by decide⟩ h2, run_R5M_1_0_0⟩
      · exact ⟨[(0, 4, 1), (1, 2, 0), (2, 4, 1)], hl a b c ⟨by decide, by decide⟩ h0 ⟨by decide, by decide⟩ h1 ⟨by decide, by decide⟩ h2, run_R5M_1_0_1⟩
      · exact ⟨[(0, 4, 1), (1, 2, 0), (2, 4, 2)], hl a b c ⟨by decide, by decide⟩ h0 ⟨by decide, by decide⟩ h1 ⟨by decide, by decide⟩ h2, run_R5M_1_0_2⟩
      · exact ⟨[(0, 4, 1), (1, 2, 0), (2, 4, 3)], hl a b c ⟨by decide, by decide⟩ h0 ⟨by decide, by decide⟩ h1 ⟨by decide, by decide⟩ h2, run_R5M_1_0_3⟩
    · have h2 : c % 4 = 0 ∨ c % 4 = 1 ∨ c % 4 = 2 ∨ c % 4 = 3 := by omega
      rcases h2 with h2 | h2 | h2 | h2
      · exact ⟨[(0, 4, 1), (1, 2, 1), (2, 4, 0)], hl a b c ⟨by decide, by decide⟩ h0 ⟨by decide, by decide⟩ h1 ⟨by decide, by decide⟩ h2, run_R5M_1_1_0⟩
      · exact ⟨[(0, 4, 1), (1, 2, 1), (2, 4, 1)], hl a b c ⟨by decide, by decide⟩ h0 ⟨by decide, by decide⟩ h1 ⟨by decide, by decide⟩ h2, run_R5M_1_1_1⟩
      · exact ⟨[(0, 4, 1), (1, 2, 1), (2, 4, 2)], hl a b c ⟨by decide, by decide⟩ h0 ⟨by decide, by decide⟩ h1 ⟨by decide, by decide⟩ h2, run_R5M_1_1_2⟩
      · exact ⟨[(0, 4, 1), (1, 2, 1), (2, 4, 3)], hl a b c ⟨by decide, by decide⟩ h0 ⟨by decide, by decide⟩ h1 ⟨by decide, by decide⟩ h2, run_R5M_1_1_3⟩
  · have h1 : b % 3 = 0 ∨ b % 3 = 1 ∨ b % 3 = 2 := by omega
    rcases h1 with h1 | h1 | h1
    · have h2 : c % 4 = 0 ∨ c % 4 = 1 ∨ c % 4 = 2 ∨ c % 4 = 3 := by omega
      rcases h2 with h2 | h2 | h2 | h2
      · exact ⟨[(0, 4, 2), (1, 3, 0), (2, 4, 0)], hl a b c ⟨by decide, by decide⟩ h0 ⟨by decide, by decide⟩ h1 ⟨by decide, by decide⟩ h2, run_R5M_2_0_0⟩
      · exact ⟨[(0, 4, 2), (1, 3, 0), (2, 4, 1)], hl a b c ⟨by decide, by decide⟩ h0 ⟨by decide, by decide⟩ h1 ⟨by decide, by decide⟩ h2, run_R5M_2_0_1⟩
      · exact ⟨[(0, 4, 2), (1, 3, 0), (2, 4, 2)], hl a b c ⟨by decide, by decide⟩ h0 ⟨by decide, by decide⟩ h1 ⟨by decide, by decide⟩ h2, run_R5M_2_0_2⟩
      · exact ⟨[(0, 4, 2), (1, 3, 0), (2, 4, 3)], hl a b c ⟨by decide, by decide⟩ h0 ⟨by decide, by decide⟩ h1 ⟨by decide, by decide⟩ h2, run_R5M_2_0_3⟩
    · have h2 : c % 4 = 0 ∨ c % 4 = 1 ∨ c % 4 = 2 ∨ c % 4 = 3 := by omega
      rcases h2 with h2 | h2 | h2 | h2
      · exact ⟨[(0, 4, 2), (1, 3, 1), (2, 4, 0)], hl a b c ⟨by decide, by decide⟩ h0 ⟨by decide, by decide⟩ h1 ⟨by decide, by decide⟩ h2, run_R5M_2_1_0⟩
      · exact ⟨[(0, 4, 2), (1, 3, 1), (2, 4, 1)], hl a b c ⟨by decide, by decide⟩ h0 ⟨by decide, by decide⟩ h1 ⟨by decide, by decide⟩ h2, run_R5M_2_1_1⟩
      · exact ⟨[(0, 4, 2), (1, 3, 1), (2, 4, 2)], hl a b c ⟨by decide, by decide⟩ h0 ⟨by decide, by decide⟩ h1 ⟨by decide, by decide⟩ h2, run_R5M_2_1_2⟩
      · exact ⟨[(0, 4, 2), (1, 3, 1), (2, 4, 3)], hl a b c ⟨by decide, by decide⟩ h0 ⟨by decide, by decide⟩ h1 ⟨by decide, by decide⟩ h2, run_R5M_2_1_3⟩
    · have h2 : c % 4 = 0 ∨ c % 4 = 1 ∨ c % 4 = 2 ∨ c % 4 = 3 := by omega
      rcases h2 with h2 | h2 | h2 | h2
      · exact ⟨[(0, 4, 2), (1, 3, 2), (2, 4, 0)], hl a b c ⟨by decide, by decide⟩ h0 ⟨by decide, by decide⟩ h1 ⟨by decide, by decide⟩ h2, run_R5M_2_2_0⟩
      · exact ⟨[(0, 4, 2), (1, 3, 2), (2, 4, 1)], hl a b c ⟨by decide, by decide⟩ h0 ⟨by decide, by decide⟩ h1 ⟨by decide, by decide⟩ h2, run_R5M_2_2_1⟩
      · exact ⟨[(0, 4, 2), (1, 3, 2), (2, 4, 2)], hl a b c ⟨by decide, by decide⟩ h0 ⟨by decide, by decide⟩ h1 ⟨by decide, by decide⟩ h2, run_R5M_2_2_2⟩
      · exact ⟨[(0, 4, 2), (1, 3, 2), (2, 4, 3)], hl a b c ⟨by decide, by decide⟩ h0 ⟨by decide, by decide⟩ h1 ⟨by decide, by decide⟩ h2, run_R5M_2_2_3⟩
  · have h1 : b % 4 = 0 ∨ b % 4 = 1 ∨ b % 4 = 2 ∨ b % 4 = 3 := by omega
    rcases h1 with h1 | h1 | h1 | h1
    · have h2 : c % 4 = 0 ∨ c % 4 = 1 ∨ c % 4 = 2 ∨ c % 4 = 3 := by omega
      rcases h2 with h2 | h2 | h2 | h2
      · exact ⟨[(0, 4, 3), (1, 4, 0), (2, 4, 0)], hl a b c ⟨by decide, by decide⟩ h0 ⟨by decide, by decide⟩ h1 ⟨by decide, by decide⟩ h2, run_R5M_3_0_0⟩
      · exact ⟨[(0, 4, 3), (1, 4, 0), (2, 4, 1)], hl a b c ⟨by decide, by decide⟩ h0 ⟨by decide, by decide⟩ h1 ⟨by decide, by decide⟩ h2, run_R5M_3_0_1⟩
      · exact ⟨[(0, 4, 3), (1, 4, 0), (2, 4, 2)], hl a b c ⟨by decide, by decide⟩ h0 ⟨by decide, by decide⟩ h1 ⟨by decide, by decide⟩ h2, run_R5M_3_0_2⟩
      · exact ⟨[(0, 4, 3), (1, 4, 0), (2, 4, 3)], hl a b c ⟨by decide, by decide⟩ h0 ⟨by decide, by decide⟩ h1 ⟨by decide, by decide⟩ h2, run_R5M_3_0_3⟩
    · have h2 : c % 4 = 0 ∨ c % 4 = 1 ∨ c % 4 = 2 ∨ c % 4 = 3 := by omega
      rcases h2 with h2 | h2 | h2 | h2
      · exact ⟨[(0, 4, 3), (1, 4, 1), (2, 4, 0)], hl a b c ⟨by decide, by decide⟩ h0 ⟨by decide, by decide⟩ h1 ⟨by decide, by decide⟩ h2, run_R5M_3_1_0⟩
      · exact ⟨[(0, 4, 3), (1, 4, 1), (2, 4, 1)], hl a b c ⟨by decide, by decide⟩ h0 ⟨by decide, by decide⟩ h1 ⟨by decide, by decide⟩ h2, run_R5M_3_1_1⟩
      · exact ⟨[(0, 4, 3), (1, 4, 1), (2, 4, 2)], hl a b c ⟨by decide, by decide⟩ h0 ⟨by decide, by decide⟩ h1 ⟨by decide, by decide⟩ h2, run_R5M_3_1_2⟩
      · exact ⟨[(0, 4, 3), (1, 4, 1), (2, 4, 3)], hl a b c ⟨by decide, by decide⟩ h0 ⟨by decide, by decide⟩ h1 ⟨by decide, by decide⟩ h2, run_R5M_3_1_3⟩
    · have h2 : c % 4 = 0 ∨ c % 4 = 1 ∨ c % 4 = 2 ∨ c % 4 = 3 := by omega
      rcases h2 with h2 | h2 | h2 | h2
      · exact ⟨[(0, 4, 3), (1, 4, 2), (2, 4, 0)], hl a b c ⟨by decide, by decide⟩ h0 ⟨by decide, by decide⟩ h1 ⟨by decide, by decide⟩ h2, run_R5M_3_2_0⟩
      · exact ⟨[(0, 4, 3), (1, 4, 2), (2, 4, 1)], hl a b c ⟨by decide, by decide⟩ h0 ⟨by decide, by decide⟩ h1 ⟨by decide, by decide⟩ h2, run_R5M_3_2_1⟩
      · exact ⟨[(0, 4, 3), (1, 4, 2), (2, 4, 2)], hl a b c ⟨by decide, by decide⟩ h0 ⟨by decide, by decide⟩ h1 ⟨by decide, by decide⟩ h2, run_R5M_3_2_2⟩
      · exact ⟨[(0, 4, 3), (1, 4, 2), (2, 4, 3)], hl a b c ⟨by decide, by decide⟩ h0 ⟨by decide, by decide⟩ h1 ⟨by decide, by decide⟩ h2, run_R5M_3_2_3⟩
    · have h2 : c % 4 = 0 ∨ c % 4 = 1 ∨ c % 4 = 2 ∨ c % 4 = 3 := by omega
      rcases h2 with h2 | h2 | h2 | h2
      · exact ⟨[(0, 4, 3), (1, 4, 3), (2, 4, 0)], hl a b c ⟨by decide, by decide⟩ h0 ⟨by decide, by decide⟩ h1 ⟨by decide, by decide⟩ h2, run_R5M_3_3_0⟩
      · exact ⟨[(0, 4, 3), (1, 4, 3), (2, 4, 1)], hl a b c ⟨by decide, by decide⟩ h0 ⟨by decide, by decide⟩ h1 ⟨by decide, by decide⟩ h2, run_R5M_3_3_1⟩
      · exact ⟨[(0, 4, 3), (1, 4, 3), (2, 4, 2)], hl a b c ⟨by decide, by decide⟩ h0 ⟨by decide, by decide⟩ h1 ⟨by decide, by decide⟩ h2, run_R5M_3_3_2⟩
      · exact ⟨[(0, 4, 3), (1, 4, 3), (2, 4, 3)], hl a b c ⟨by decide, by decide⟩ h0 ⟨by decide, by decide⟩ h1 ⟨by decide, by decide⟩ h2, run_R5M_3_3_3⟩

theorem walk (a : Int) (b : Int) (c : Int) (W : World) : Calls Tryz.prog 5 #[.int .i64 a, .int .i64 b, .int .i64 c] W fun e W' => e = .returned (.bool true) ∧ Stays W W' := by
  obtain ⟨l, hl, hr⟩ := runs a b c
  letI := lay (env3 a b c)
  exact law_true (env3 a b c) hl (xs := [.int .i64 a, .int .i64 b, .int .i64 c]) hr (fun c => .cons (.sym 0) (.cons (.sym 1) (.cons (.sym 2) (.nil c)))) rfl


/-- What the runs give, for every argument and every world that holds what the row lists. -/
theorem contract (H : Type) (enc : TypeId × Value → H) (W : World) (base : Nat) (args : Array Value) (ds gs : List (DataW H)) (before : List MemPlace)
    (hval : ∀ (j : Nat) t v, Tryz.f5.params[j]? = some t → args[j]? = some v → Value.okWide Tryz.prog W .any base t v)
    (hW : DataW.Whole enc Tryz.prog Tryz.f5.params.toList Rows.wpMeasuresSpec.vars false W args.toList ds gs before) (hL : laidMetH Tryz.prog Rows.wpMeasuresRow.laid W) :
    Calls Tryz.prog 5 args W fun e W' => ∃ v, e = .returned v ∧ Rows.wpMeasuresSpec.post enc Tryz.prog Tryz.f5 false true false false W args v W' := by
  have hW' := hW
  obtain ⟨p, q, hA0, hV, rfl, hfz, hnd⟩ := hW
  have hA : DataW.TrodAll enc Tryz.prog W 0 (fun _ => true) true Tryz.f5.params.toList args.toList ds p := hA0
  rw [Tryz.params5] at hA hval
  obtain ⟨v0, vs0, d0, ds0, p0, q0, hargs, rfl, rfl, h0, r0⟩ := trodAll_cons hA
  obtain ⟨v1, vs1, d1, ds1, p1, q1, rfl, rfl, rfl, h1, r1⟩ := trodAll_cons r0
  obtain ⟨v2, vs2, d2, ds2, p2, q2, rfl, rfl, rfl, h2, r2⟩ := trodAll_cons r1
  obtain ⟨rfl, rfl, rfl⟩ := trodAll_nil r2
  obtain rfl : args = #[v0, v1, v2] := by cases args; simp_all
  obtain ⟨rfl, rfl⟩ := trodVars_none hV
  obtain ⟨a, rfl, rfl, rfl, hw0⟩ := open_int Tryz.underlying3 (hval 0 3 v0 rfl rfl) h0
  obtain ⟨b, rfl, rfl, rfl, hw1⟩ := open_int Tryz.underlying3 (hval 1 3 v1 rfl rfl) h1
  obtain ⟨c, rfl, rfl, rfl, hw2⟩ := open_int Tryz.underlying3 (hval 2 3 v2 rfl rfl) h2
  clear hA0
  simp only [List.append_nil] at hW'
  refine (walk a b c W).mono fun e W' ⟨he, hs⟩ => ?_
  subst he
  exact ⟨_, rfl, post_of_stays (pa := []) (pv := []) hW' (fun _ _ _ => trodAll_cons_mk (shut_bool Tryz.underlying4 _) trodAll_mk0) (fun _ _ => trodAll_cons_mk (shut_int Tryz.underlying3 hw0) (trodAll_cons_mk (shut_int Tryz.underlying3 hw1) (trodAll_cons_mk (shut_int Tryz.underlying3 hw2) (trodAll_mk0)))) (fun _ _ => rfl) rfl
    hs (ok_one (by kernel_rfl) rfl (okWide_bool_mk Tryz.underlying4 _))⟩

theorem reads (os : Os) {H : Type} (enc : TypeId × Value → H) : ∃ places, DataW.whole enc Tryz.prog ((laidWorld os).forCall (fun _ _ => 0) ⟨#[], #[.int .i64 0, .int .i64 0, .int .i64 0], []⟩).memory Tryz.f5.params.toList Rows.wpMeasuresSpec.vars false #[Value.int .i64 0, Value.int .i64 0, Value.int .i64 0].toList 8 = some ([.lit (.int .i64 0), .lit (.int .i64 0), .lit (.int .i64 0)], [], places) :=
  ⟨[], by kernel_rfl⟩

theorem lifted (os : Os) (started : os.Started) (H : Type) (enc : TypeId × Value → H) (F : Stop.Interp) :
    ReturnsInHanded {} Tryz.checked os 5 .any ((OpenSpec.ofChange Rows.wpMeasuresSpec).preRow enc Tryz.prog Tryz.f5 Rows.wpMeasuresRow.domain false Rows.wpMeasuresRow.laid) (((OpenSpec.ofChange Rows.wpMeasuresSpec).at F).post enc Tryz.prog Tryz.f5 false true false false) := by
  obtain ⟨places, hx⟩ := reads os enc
  refine returnsInHanded_of_row (C := Tryz.checked) (s := OpenSpec.ofChange Rows.wpMeasuresSpec) own started (by kernel_rfl) Tryz.func5
    (witness_row_at (enc := enc) (C := Tryz.checked) false (laidWorld os) #[.int .i64 0, .int .i64 0, .int .i64 0] rfl (by kernel_rfl) (by kernel_rfl) (by kernel_rfl)
      (OpenSpec.preRow_of_cond 8 hx (by kernel_rfl) (fun k hk => by cases hk) (by kernel_rfl) (laidWorld_met os _))) ?_
  intro W base args ds gs before hval hW _ _ _ hL _ _
  exact contract H enc W base args ds gs before hval hW hL

theorem said : Rows.WpMeasuresSaid :=
  OpenClaim.holds_of_cond 5 Tryz.f5 rfl rfl rfl rfl rfl rfl rfl ⟨rfl, rfl, rfl, rfl, rfl⟩ rfl rfl rfl rfl rfl (by kernel_rfl) Tryz.func5 (by kernel_rfl)
    (of_decide_eq_true (by kernel_rfl)) (by unfold Func.isWrapper; first | (rw [if_pos (by decide +kernel)]; kernel_rfl) | (rw [if_neg (by decide +kernel)]; exact ⟨rfl, rfl⟩))
    (fun os started H enc _ F => by rw [OpenClaim.pre_eq_preRow]; exact lifted os started H enc F)

theorem plain (f : FuncId) (fn : Func) (hf : Tryz.pinned.checked.prog.funcNamed "avow/avowlaw21.WpMeasures" = some f) (hfn : Tryz.pinned.checked.prog.funcs[f]? = some fn) :
    true = Tryz.pinned.checked.prog.looks [] ∧ ∀ (j : Nat) t, fn.params[j]? = some t → Tryz.pinned.checked.prog.wantsStandIn t = false := by
  obtain rfl : f = 5 := Option.some.inj ((show Tryz.prog.funcNamed "avow/avowlaw21.WpMeasures" = some 5 by kernel_rfl).symm.trans hf) |>.symm
  obtain rfl : fn = Tryz.f5 := (Option.some.inj (Tryz.func5.symm.trans hfn)).symm
  refine ⟨by kernel_rfl, fun j t ht => ?_⟩
  rw [Tryz.params5] at ht
  have h := Array.mem_of_getElem? ht
  simp at h
  subst h; exact (show Tryz.prog.wantsStandIn 3 = false by kernel_rfl)

end Go.Proofs.YtghcmmmpmfncbaaGreatDoor.wpMeasures
namespace Go.Proofs.YtghcmmmpmfncbaaGreatDoor
/-- The card. -/
theorem wpMeasures_card : Rows.WpMeasuresCardSaid :=
  Claim7.holds_tied_plain_at .later [] _ _ _ _ wpMeasures.said (fun _ h => by cases h) (by kernel_rfl) (fun _ h => by cases h) wpMeasures_row_tie rfl ⟨rfl, rfl⟩ (by kernel_rfl) rfl wpMeasures.plain (by kernel_rfl)
end Go.Proofs.YtghcmmmpmfncbaaGreatDoor
