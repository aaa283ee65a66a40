/- Part EC of the proof: what it says stands at its theorems. -/
import Derived.Test.YtdaimjlegjhidaaDoorE0
import Derived.Test.YtdaimjlegjhidaaDoorE1
import Derived.Test.YtdaimjlegjhidaaDoorE2
import Derived.Test.YtdaimjlegjhidaaDoorE3
import Derived.Test.YtdaimjlegjhidaaDoorE4
import Derived.Test.YtdaimjlegjhidaaDoorE5
import Derived.Test.YtdaimjlegjhidaaDoorE6
import Derived.Test.YtdaimjlegjhidaaDoorE7
set_option linter.unusedVariables false
set_option linter.unusedSimpArgs false
set_option linter.unusedSectionVars false
/- KindsEffects: the law returns true for every input, and each argument reads as it did (the card that ties what the row lists). The proof: every argument counts by its remainder alone (avowhelp.Place), and each of the finitely many runs is carried out by the kernel in an abstract machine that is proved sound. -/
namespace Go.Proofs.YtdaimjlegjhidaaDoor.kindsEffects
open Go Go.AM Go.AM.S Go.Proofs Go.ChangeShapes Go.WideShapes Go.ChangeAt Go.RowKit
set_option maxRecDepth 100000
set_option linter.unusedSimpArgs false
theorem runs (a : Int) (b : Int) (c : Int) : ∃ m0 m1 m2 : Int, a % 5 = m0 ∧ b % 5 = m1 ∧ c % 5 = m2 ∧ S.fn Pg (kn [(0, 5, m0), (1, 5, m1), (2, 5, m2)]) tbl 3000 9 [.sym 0, .sym 1, .sym 2] noHp = some (.val (.bool true) noHp) := by
  have h0 : a % 5 = 0 ∨ a % 5 = 1 ∨ a % 5 = 2 ∨ a % 5 = 3 ∨ a % 5 = 4 := by omega
  have h1 : b % 5 = 0 ∨ b % 5 = 1 ∨ b % 5 = 2 ∨ b % 5 = 3 ∨ b % 5 = 4 := by omega
  have h2 : c % 5 = 0 ∨ c % 5 = 1 ∨ c % 5 = 2 ∨ c % 5 = 3 ∨ c % 5 = 4 := by omega
  rcases h0 with h0 | h0 | h0 | h0 | h0
  · rcases h1 with h1 | h1 | h1 | h1 | h1
    · rcases h2 with h2 | h2 | h2 | h2 | h2
      · exact ⟨_, _, _, h0, h1, h2, run_R2E_0_0_0⟩
      · exact ⟨_, _, _, h0, h1, h2, run_R2E_0_0_1⟩
      · exact ⟨_, _, _, h0, h1, h2, run_R2E_0_0_2⟩
      · exact ⟨_, _, _, h0, h1, h2, run_R2E_0_0_3⟩
      · exact ⟨_, _, _, h0, h1, h2, run_R2E_0_0_4⟩
    · rcases h2 with h2 | h2 | h2 | h2 | h2
      · exact ⟨_, _, _, h0, h1, h2, run_R2E_0_1_0⟩
      · exact ⟨_, _, _, h0, h1, h2, run_R2E_0_1_1⟩
      · exact ⟨_, _, _, h0, h1, h2, run_R2E_0_1_2⟩
      · exact ⟨_, _, _, h0, h1, h2, run_R2E_0_1_3⟩
      · exact ⟨_, _, _, h0, h1, h2, run_R2E_0_1_4⟩
    · rcases h2 with h2 | h2 | h2 | h2 | h2
      · exact ⟨_, _, _, h0, h1, h2, run_R2E_0_2_0⟩
      · exact ⟨_, _, _, h0, h1, h2, run_R2E_0_2_1⟩
      · exact ⟨_, _, _, h0, h1, h2, run_R2E_0_2_2⟩
      · exact ⟨_, _, _, h0, h1, h2, run_R2E_0_2_3⟩
      · exact ⟨_, _, _, h0, h1, h2, run_R2E_0_2_4⟩
    · rcases h2 with h2 | h2 | h2 | h2 | h2
      · exact ⟨_, _, _, h0, h1, h2, run_R2E_0_3_0⟩
      · exact ⟨_, _, _, h0, h1, h2, run_R2E_0_3_1⟩
      · exact ⟨_, _, _, h0, h1, h2, run_R2E_0_3_2⟩
      · exact ⟨_, _, _, h0, h1, h2, run_R2E_0_3_3⟩
      · exact ⟨_, _, _, h0, h1, h2, run_R2E_0_3_4⟩
    · rcases h2 with h2 | h2 | h2 | h2 | h2
      · exact ⟨_, _, _, h0, h1, h2, run_R2E_0_4_0⟩
      · exact ⟨_, _, _, h0, h1, h2, run_R2E_0_4_1⟩
      · exact ⟨_, _, _, h0, h1, h2, run_R2E_0_4_2⟩
      · exact ⟨_, _, _, h0, h1, h2, run_R2E_0_4_3⟩
      · exact ⟨_, _, _, h0, h1, h2, run_R2E_0_4_4⟩
  · rcases h1 with h1 | h1 | h1 | h1 | h1
    · rcases h2 with h2 | h2 | h2 | h2 | h2
      · exact ⟨_, _, _, h0, h1, h2, run_R2E_1_0_0⟩
      · exact ⟨_, _, _, h0, h1, h2, run_R2E_1_0_1⟩
      · exact ⟨_, _, _, h0, h1, h2, run_R2E_1_0_2⟩
      · exact ⟨_, _, _, h0, h1, h2, run_R2E_1_0_3⟩
      · exact ⟨_, _, _, h0, h1, h2, run_R2E_1_0_4⟩
    · rcases h2 with h2 | h2 | h2 | h2 | h2
      · exact ⟨_, _, _, h0, h1, h2, run_R2E_1_1_0⟩
      · exact ⟨_, _, _, h0, h1, h2, run_R2E_1_1_1⟩
      · exact ⟨_, _, _, h0, h1, h2, run_R2E_1_1_2⟩
      · exact ⟨_, _, _, h0, h1, h2, run_R2E_1_1_3⟩
      · exact ⟨_, _, _, h0, h1, h2, run_R2E_1_1_4⟩
    · rcases h2 with h2 | h2 | h2 | h2 | h2
      · exact ⟨_, _, _, h0, h1, h2, run_R2E_1_2_0⟩
      · exact ⟨_, _, _, h0, h1, h2, run_R2E_1_2_1⟩
      · exact ⟨_, _, _, h0, h1, h2, run_R2E_1_2_2⟩
      · exact ⟨_, _, _, h0, h1, h2, run_R2E_1_2_3⟩
      · exact ⟨_, _, _, h0, h1, h2, run_R2E_1_2_4⟩
    · rcases h2 with h2 | h2 | h2 | h2 | h2
      · exact ⟨_, _, _, h0, h1, h2, run_R2E_1_3_0⟩
      · exact ⟨_, _, _, h0, h1, h2, run_R2E_1_3_1⟩
      · exact ⟨_, _, _, h0, h1, h2, run_R2E_1_3_2⟩
      · exact ⟨_, _, _, h0, h1, h2, run_R2E_1_3_3⟩
      · exact ⟨_, _, _, h0, h1, h2, run_R2E_1_3_4⟩
    · rcases h2 with h2 | h2 | h2 | h2 | h2
      · exact ⟨_, _, _, h0, h1, h2, run_R2E_1_4_0⟩
      · exact ⟨_, _, _, h0, h1, h2, run_R2E_1_4_1⟩
      · exact ⟨_, _, _, h0, h1, h2, run_R2E_1_4_2⟩
      · exact ⟨_, _, _, h0, h1, h2, run_R2E_1_4_3⟩
      · exact ⟨_, _, _, h0, h1, h2, run_R2E_1_4_4⟩
  · rcases h1 with h1 | h1 | h1 | h1 | h1
    · rcases h2 with h2 | h2 | h2 | h2 | h2
      · exact ⟨_, _, _, h0, h1, h2, run_R2E_2_0_0⟩
      · exact ⟨_, _, _, h0, h1, h2, run_R2E_2_0_1⟩
      · exact ⟨_, _, _, h0, h1, h2, run_R2E_2_0_2⟩
      · exact ⟨_, _, _, h0, h1, h2, run_R2E_2_0_3⟩
      · exact ⟨_, _, _, h0, h1, h2, run_R2E_2_0_4⟩
    · rcases h2 with h2 | h2 | h2 | h2 | h2
      · exact ⟨_, _, _, h0, h1, h2, run_R2E_2_1_0⟩
      · exact ⟨_, _, _, h0, h1, h2, run_R2E_2_1_1⟩
      · exact ⟨_, _, _, h0, h1, h2, run_R2E_2_1_2⟩
      · exact ⟨_, _, _, h0, h1, h2, run_R2E_2_1_3⟩
      · exact ⟨_, _, _, h0, h1, h2, run_R2E_2_1_4⟩
    · rcases h2 with h2 | h2 | h2 | h2 | h2
      · exact ⟨_, _, _, h0, h1, h2, run_R2E_2_2_0⟩
      · exact ⟨_, _, _, h0, h1, h2, run_R2E_2_2_1⟩
      · exact ⟨_, _, _, h0, h1, h2, run_R2E_2_2_2⟩
      · exact ⟨_, _, _, h0, h1, h2, run_R2E_2_2_3⟩
      · exact ⟨_, _, _, h0, h1, h2, run_R2E_2_2_4⟩
    · rcases h2 with h2 | h2 | h2 | h2 | h2
      · exact ⟨_, _, _, h0, h1, h2, run_R2E_2_3_0⟩
      · exact ⟨_, _, _, h0, h1, h2, run_R2E_2_3_1⟩
      · exact ⟨_, _, _, h0, h1, h2, run_R2E_2_3_2⟩
      · exact ⟨_, _, _, h0, h1, h2, run_R2E_2_3_3⟩
      · exact ⟨_, _, _, h0, h1, h2, run_R2E_2_3_4⟩
    · rcases h2 with h2 | h2 | h2 | h2 | h2
      · exact ⟨_, _, _, h0, h1, h2, run_R2E_2_4_0⟩
      · exact ⟨_, _, _, h0, h1, h2, run_R2E_2_4_1⟩
      · exact ⟨_, _, _, h0, h1, h2, run_R2E_2_4_2⟩
      · exact ⟨_, _, _, h0, h1, h2, run_R2E_2_4_3⟩
      · exact ⟨_, _, _, h0, h1, h2, run_R2E_2_4_4⟩
  · rcases h1 with h1 | h1 | h1 | h1 | h1
    · rcases h2 with h2 | h2 | h2 | h2 | h2
      · exact ⟨_, _, _, h0, h1, h2, run_R2E_3_0_0⟩
      · exact ⟨_, _, _, h0, h1, h2, run_R2E_3_0_1⟩
      · exact ⟨_, _, _, h0, h1, h2, run_R2E_3_0_2⟩
      · exact ⟨_, _, _, h0, h1, h2, run_R2E_3_0_3⟩
      · exact ⟨_, _, _, h0, h1, h2, run_R2E_3_0_4⟩
    · rcases h2 with h2 | h2 | h2 | h2 | h2
      · exact ⟨_, _, _, h0, h1, h2, run_R2E_3_1_0⟩
      · exact ⟨_, _, _, h0, h1, h2, run_R2E_3_1_1⟩
      · exact ⟨_, _, _, h0, h1, h2, run_R2E_3_1_2⟩
      · exact ⟨_, _, _, h0, h1, h2, run_R2E_3_1_3⟩
      · exact ⟨_, _, _, h0, h1, h2, run_R2E_3_1_4⟩
    · rcases h2 with h2 | h2 | h2 | h2 | h2
      · exact ⟨_, _, _, h0, h1, h2, run_R2E_3_2_0⟩
      · exact ⟨_, _, _, h0, h1, h2, run_R2E_3_2_1⟩
      · exact ⟨_, _, _, h0, h1, h2, run_R2E_3_2_2⟩
      · exact ⟨_, _, _, h0, h1, h2, run_R2E_3_2_3⟩
      · exact ⟨_, _, _, h0, h1, h2, run_R2E_3_2_4⟩
    · rcases h2 with h2 | h2 | h2 | h2 | h2
      · exact ⟨_, _, _, h0, h1, h2, run_R2E_3_3_0⟩
      · exact ⟨_, _, _, h0, h1, h2, run_R2E_3_3_1⟩
      · exact ⟨_, _, _, h0, h1, h2, run_R2E_3_3_2⟩
      · exact ⟨_, _, _, h0, h1, h2, run_R2E_3_3_3⟩
      · exact ⟨_, _, _, h0, h1, h2, run_R2E_3_3_4⟩
    · rcases h2 with h2 | h2 | h2 | h2 | h2
      · exact ⟨_, _, _, h0, h1, h2, run_R2E_3_4_0⟩
      · exact ⟨_, _, _, h0, h1, h2, run_R2E_3_4_1⟩
      · exact ⟨_, _, _, h0, h1, h2, run_R2E_3_4_2⟩
      · exact ⟨_, _, _, h0, h1, h2, run_R2E_3_4_3⟩
      · exact ⟨_, _, _, h0, h1, h2, run_R2E_3_4_4⟩
  · rcases h1 with h1 | h1 | h1 | h1 | h1
    · rcases h2 with h2 | h2 | h2 | h2 | h2
      · exact ⟨_, _, _, h0, h1, h2, run_R2E_4_0_0⟩
      · exact ⟨_, _, _, h0, h1, h2, run_R2E_4_0_1⟩
      · exact ⟨_, _, _, h0, h1, h2, run_R2E_4_0_2⟩
      · exact ⟨_, _, _, h0, h1, h2, run_R2E_4_0_3⟩
      · exact ⟨_, _, _, h0, h1, h2, run_R2E_4_0_4⟩
    · rcases h2 with h2 | h2 | h2 | h2 | h2
      · exact ⟨_, _, _, h0, h1, h2, run_R2E_4_1_0⟩
      · exact ⟨_, _, _, h0, h1, h2, run_R2E_4_1_1⟩
      · exact ⟨_, _, _, h0, h1, h2, run_R2E_4_1_2⟩
      · exact ⟨_, _, _, h0, h1, h2, run_R2E_4_1_3⟩
      · exact ⟨_, _, _, h0, h1, h2, run_R2E_4_1_4⟩
    · rcases h2 with h2 | h2 | h2 | h2 | h2
      · exact ⟨_, _, _, h0, h1, h2, run_R2E_4_2_0⟩
      · exact ⟨_, _, _, h0, h1, h2, run_R2E_4_2_1⟩
      · exact ⟨_, _, _, h0, h1, h2, run_R2E_4_2_2⟩
      · exact ⟨_, _, _, h0, h1, h2, run_R2E_4_2_3⟩
      · exact ⟨_, _, _, h0, h1, h2, run_R2E_4_2_4⟩
    · rcases h2 with h2 | h2 | h2 | h2 | h2
      · exact ⟨_, _, _, h0, h1, h2, run_R2E_4_3_0⟩
      · exact ⟨_, _, _, h0, h1, h2, run_R2E_4_3_1⟩
      · exact ⟨_, _, _, h0, h1, h2, run_R2E_4_3_2⟩
      · exact ⟨_, _, _, h0, h1, h2, run_R2E_4_3_3⟩
      · exact ⟨_, _, _, h0, h1, h2, run_R2E_4_3_4⟩
    · rcases h2 with h2 | h2 | h2 | h2 | h2
      · exact ⟨_, _, _, h0, h1, h2, run_R2E_4_4_0⟩
      · exact ⟨_, _, _, h0, h1, h2, run_R2E_4_4_1⟩
      · exact ⟨_, _, _, h0, h1, h2, run_R2E_4_4_2⟩
      · exact ⟨_, _, _, h0, h1, h2, run_R2E_4_4_3⟩
      · exact ⟨_, _, _, h0, h1, h2, run_R2E_4_4_4⟩

theorem walk (a : Int) (b : Int) (c : Int) (W : World) (hg : W.cell? ⟨0, 0, none⟩ = some errT) : Calls Tryd.prog 9 #[.int .i64 a, .int .i64 b, .int .i64 c] W fun e W' => e = .returned (.bool true) ∧ Stays W W' := by
  obtain ⟨m0, m1, m2, e0, e1, e2, hr⟩ := runs a b c
  have hl : ∀ t ∈ [((0 : Nat), (5 : Int), m0), ((1 : Nat), (5 : Int), m1), ((2 : Nat), (5 : Int), m2)], 0 < t.2.1 ∧ t.2.1 < 4611686018427387904 ∧ ((env3 a b c) t.1).1 = .i64 ∧ ((env3 a b c) t.1).2 % t.2.1 = t.2.2 := by
    intro t ht
    simp only [List.mem_cons, List.not_mem_nil, or_false] at ht
    rcases ht with rfl | rfl | rfl
    all_goals exact ⟨by simp, by simp, rfl, by assumption⟩
  letI := lay (env3 a b c)
  exact law_true (env3 a b c) hl (xs := [.int .i64 a, .int .i64 b, .int .i64 c]) hr hg (fun c => .cons (.sym 0) (.cons (.sym 1) (.cons (.sym 2) (.nil c)))) rfl


/-- What the runs give, for every argument and every world that holds what the row lists. -/
theorem contract (H : Type) (enc : TypeId × Value → H) (W : World) (base : Nat) (args : Array Value) (ds gs : List (DataW H)) (before : List MemPlace)
    (hval : ∀ (j : Nat) t v, Tryd.f9.params[j]? = some t → args[j]? = some v → Value.okWide Tryd.prog W .any base t v)
    (hW : DataW.Whole enc Tryd.prog Tryd.f9.params.toList Rows.kindsEffectsSpec.vars false W args.toList ds gs before) (hL : laidMetH Tryd.prog Rows.kindsEffectsRow.laid W) :
    Calls Tryd.prog 9 args W fun e W' => ∃ v, e = .returned v ∧ Rows.kindsEffectsSpec.post enc Tryd.prog Tryd.f9 false true false false W args v W' := by
  have hW' := hW
  obtain ⟨p, q, hA0, hV, rfl, hfz, hnd⟩ := hW
  have hA : DataW.TrodAll enc Tryd.prog W 0 (fun _ => true) true Tryd.f9.params.toList args.toList ds p := hA0
  rw [Tryd.params9] at hA hval
  obtain ⟨v0, vs0, d0, ds0, p0, q0, hargs, rfl, rfl, h0, r0⟩ := trodAll_cons hA
  obtain ⟨v1, vs1, d1, ds1, p1, q1, rfl, rfl, rfl, h1, r1⟩ := trodAll_cons r0
  obtain ⟨v2, vs2, d2, ds2, p2, q2, rfl, rfl, rfl, h2, r2⟩ := trodAll_cons r1
  obtain ⟨rfl, rfl, rfl⟩ := trodAll_nil r2
  obtain rfl : args = #[v0, v1, v2] := by cases args; simp_all
  obtain ⟨rfl, rfl⟩ := trodVars_none hV
  obtain ⟨a, rfl, rfl, rfl, hw0⟩ := open_int Tryd.underlying3 (hval 0 3 v0 rfl rfl) h0
  obtain ⟨b, rfl, rfl, rfl, hw1⟩ := open_int Tryd.underlying3 (hval 1 3 v1 rfl rfl) h1
  obtain ⟨c, rfl, rfl, rfl, hw2⟩ := open_int Tryd.underlying3 (hval 2 3 v2 rfl rfl) h2
  clear hA0
  simp only [List.append_nil] at hW'
  refine (walk a b c W (handle_of_laid hL)).mono fun e W' ⟨he, hs⟩ => ?_
  subst he
  exact ⟨_, rfl, post_of_stays (pa := []) (pv := []) hW' (fun _ _ _ => trodAll_cons_mk (shut_bool Tryd.underlying4 _) trodAll_mk0) (fun _ _ => trodAll_cons_mk (shut_int Tryd.underlying3 hw0) (trodAll_cons_mk (shut_int Tryd.underlying3 hw1) (trodAll_cons_mk (shut_int Tryd.underlying3 hw2) (trodAll_mk0)))) (fun _ _ => rfl) rfl
    hs (ok_one (by kernel_rfl) rfl (okWide_bool_mk Tryd.underlying4 _))⟩

theorem reads (os : Os) {H : Type} (enc : TypeId × Value → H) : ∃ places, DataW.whole enc Tryd.prog ((laidWorld os).forCall (fun _ _ => 0) ⟨#[], #[.int .i64 0, .int .i64 0, .int .i64 0], []⟩).memory Tryd.f9.params.toList Rows.kindsEffectsSpec.vars false #[Value.int .i64 0, Value.int .i64 0, Value.int .i64 0].toList 8 = some ([.lit (.int .i64 0), .lit (.int .i64 0), .lit (.int .i64 0)], [], places) :=
  ⟨[], by kernel_rfl⟩

theorem lifted (os : Os) (started : os.Started) (H : Type) (enc : TypeId × Value → H) (F : Stop.Interp) :
    ReturnsInHanded {} Tryd.checked os 9 .any ((OpenSpec.ofChange Rows.kindsEffectsSpec).preRow enc Tryd.prog Tryd.f9 Rows.kindsEffectsRow.domain false Rows.kindsEffectsRow.laid) (((OpenSpec.ofChange Rows.kindsEffectsSpec).at F).post enc Tryd.prog Tryd.f9 false true false false) := by
  obtain ⟨places, hx⟩ := reads os enc
  refine returnsInHanded_of_row (C := Tryd.checked) (s := OpenSpec.ofChange Rows.kindsEffectsSpec) own started (by kernel_rfl) Tryd.func9
    (witness_row_at (enc := enc) (C := Tryd.checked) false (laidWorld os) #[.int .i64 0, .int .i64 0, .int .i64 0] rfl (by kernel_rfl) (by kernel_rfl) (by kernel_rfl)
      (OpenSpec.preRow_of_cond 8 hx (by kernel_rfl) (fun k hk => by cases hk) (by kernel_rfl) (laidWorld_met os _))) ?_
  intro W base args ds gs before hval hW _ _ _ hL _ _
  exact contract H enc W base args ds gs before hval hW hL

theorem said : Rows.KindsEffectsSaid :=
  OpenClaim.holds_of_cond 9 Tryd.f9 rfl rfl rfl rfl rfl rfl rfl ⟨rfl, rfl, rfl, rfl, rfl⟩ rfl rfl rfl rfl rfl (by kernel_rfl) Tryd.func9 (by kernel_rfl)
    (of_decide_eq_true (by kernel_rfl)) (by unfold Func.isWrapper; first | (rw [if_pos (by decide +kernel)]; kernel_rfl) | (rw [if_neg (by decide +kernel)]; exact ⟨rfl, rfl⟩))
    (fun os started H enc _ F => by rw [OpenClaim.pre_eq_preRow]; exact lifted os started H enc F)

theorem plain (f : FuncId) (fn : Func) (hf : Tryd.pinned.checked.prog.funcNamed "avow/avowlaw18.KindsEffects" = some f) (hfn : Tryd.pinned.checked.prog.funcs[f]? = some fn) :
    true = Tryd.pinned.checked.prog.looks [] ∧ ∀ (j : Nat) t, fn.params[j]? = some t → Tryd.pinned.checked.prog.wantsStandIn t = false := by
  obtain rfl : f = 9 := Option.some.inj ((show Tryd.prog.funcNamed "avow/avowlaw18.KindsEffects" = some 9 by kernel_rfl).symm.trans hf) |>.symm
  obtain rfl : fn = Tryd.f9 := (Option.some.inj (Tryd.func9.symm.trans hfn)).symm
  refine ⟨by kernel_rfl, fun j t ht => ?_⟩
  rw [Tryd.params9] at ht
  have h := Array.mem_of_getElem? ht
  simp at h
  subst h; exact (show Tryd.prog.wantsStandIn 3 = false by kernel_rfl)

end Go.Proofs.YtdaimjlegjhidaaDoor.kindsEffects
namespace Go.Proofs.YtdaimjlegjhidaaDoor
/-- The card. -/
theorem kindsEffects_card : Rows.KindsEffectsCardSaid :=
  Claim7.holds_tied_plain_at .later [] _ _ _ _ kindsEffects.said (fun _ h => by cases h) (by kernel_rfl) (fun _ h => by cases h) kindsEffects_row_tie rfl ⟨rfl, rfl⟩ (by kernel_rfl) rfl kindsEffects.plain (by kernel_rfl)
end Go.Proofs.YtdaimjlegjhidaaDoor
