/- Part MC of the proof: what it says stands at its theorems. -/
import Derived.Test.YtdaimjlegjhidaaDoorM0
import Derived.Test.YtdaimjlegjhidaaDoorM1
import Derived.Test.YtdaimjlegjhidaaDoorM2
import Derived.Test.YtdaimjlegjhidaaDoorM3
set_option linter.unusedVariables false
set_option linter.unusedSimpArgs false
set_option linter.unusedSectionVars false
/- KindsMeasures: the law returns true for every input, and each argument reads as it did (the card that ties what the row lists). The proof: every argument counts by its remainder alone (avowhelp.Place), and each of the finitely many runs is carried out by the kernel in an abstract machine that is proved sound. -/
namespace Go.Proofs.YtdaimjlegjhidaaDoor.kindsMeasures
open Go Go.AM Go.AM.S Go.Proofs Go.ChangeShapes Go.WideShapes Go.ChangeAt Go.RowKit
set_option maxRecDepth 100000
set_option linter.unusedSimpArgs false
theorem runs (q0 : Bool) (a : Int) (b : Int) : ∃ m0 m1 : Int, a % 5 = m0 ∧ b % 6 = m1 ∧ S.fn Pg (kn [(0, 5, m0), (1, 6, m1)]) tbl 3000 8 [.bool q0, .sym 0, .sym 1] noHp = some (.val (.bool true) noHp) := by
  have h0 : a % 5 = 0 ∨ a % 5 = 1 ∨ a % 5 = 2 ∨ a % 5 = 3 ∨ a % 5 = 4 := by omega
  have h1 : b % 6 = 0 ∨ b % 6 = 1 ∨ b % 6 = 2 ∨ b % 6 = 3 ∨ b % 6 = 4 ∨ b % 6 = 5 := by omega
  cases q0 with
  | false =>
    rcases h0 with h0 | h0 | h0 | h0 | h0
    · rcases h1 with h1 | h1 | h1 | h1 | h1 | h1
      · exact ⟨_, _, h0, h1, run_R2M_false_0_0⟩
      · exact ⟨_, _, h0, h1, run_R2M_false_0_1⟩
      · exact ⟨_, _, h0, h1, run_R2M_false_0_2⟩
      · exact ⟨_, _, h0, h1, run_R2M_false_0_3⟩
      · exact ⟨_, _, h0, h1, run_R2M_false_0_4⟩
      · exact ⟨_, _, h0, h1, run_R2M_false_0_5⟩
    · rcases h1 with h1 | h1 | h1 | h1 | h1 | h1
      · exact ⟨_, _, h0, h1, run_R2M_false_1_0⟩
      · exact ⟨_, _, h0, h1, run_R2M_false_1_1⟩
      · exact ⟨_, _, h0, h1, run_R2M_false_1_2⟩
      · exact ⟨_, _, h0, h1, run_R2M_false_1_3⟩
      · exact ⟨_, _, h0, h1, run_R2M_false_1_4⟩
      · exact ⟨_, _, h0, h1, run_R2M_false_1_5⟩
    · rcases h1 with h1 | h1 | h1 | h1 | h1 | h1
      · exact ⟨_, _, h0, h1, run_R2M_false_2_0⟩
      · exact ⟨_, _, h0, h1, run_R2M_false_2_1⟩
      · exact ⟨_, _, h0, h1, run_R2M_false_2_2⟩
      · exact ⟨_, _, h0, h1, run_R2M_false_2_3⟩
      · exact ⟨_, _, h0, h1, run_R2M_false_2_4⟩
      · exact ⟨_, _, h0, h1, run_R2M_false_2_5⟩
    · rcases h1 with h1 | h1 | h1 | h1 | h1 | h1
      · exact ⟨_, _, h0, h1, run_R2M_false_3_0⟩
      · exact ⟨_, _, h0, h1, run_R2M_false_3_1⟩
      · exact ⟨_, _, h0, h1, run_R2M_false_3_2⟩
      · exact ⟨_, _, h0, h1, run_R2M_false_3_3⟩
      · exact ⟨_, _, h0, h1, run_R2M_false_3_4⟩
      · exact ⟨_, _, h0, h1, run_R2M_false_3_5⟩
    · rcases h1 with h1 | h1 | h1 | h1 | h1 | h1
      · exact ⟨_, _, h0, h1, run_R2M_false_4_0⟩
      · exact ⟨_, _, h0, h1, run_R2M_false_4_1⟩
      · exact ⟨_, _, h0, h1, run_R2M_false_4_2⟩
      · exact ⟨_, _, h0, h1, run_R2M_false_4_3⟩
      · exact ⟨_, _, h0, h1, run_R2M_false_4_4⟩
      · exact ⟨_, _, h0, h1, run_R2M_false_4_5⟩
  | true =>
    rcases h0 with h0 | h0 | h0 | h0 | h0
    · rcases h1 with h1 | h1 | h1 | h1 | h1 | h1
      · exact ⟨_, _, h0, h1, run_R2M_true_0_0⟩
      · exact ⟨_, _, h0, h1, run_R2M_true_0_1⟩
      · exact ⟨_, _, h0, h1, run_R2M_true_0_2⟩
      · exact ⟨_, _, h0, h1, run_R2M_true_0_3⟩
      · exact ⟨_, _, h0, h1, run_R2M_true_0_4⟩
      · exact ⟨_, _, h0, h1, run_R2M_true_0_5⟩
    · rcases h1 with h1 | h1 | h1 | h1 | h1 | h1
      · exact ⟨_, _, h0, h1, run_R2M_true_1_0⟩
      · exact ⟨_, _, h0, h1, run_R2M_true_1_1⟩
      · exact ⟨_, _, h0, h1, run_R2M_true_1_2⟩
      · exact ⟨_, _, h0, h1, run_R2M_true_1_3⟩
      · exact ⟨_, _, h0, h1, run_R2M_true_1_4⟩
      · exact ⟨_, _, h0, h1, run_R2M_true_1_5⟩
    · rcases h1 with h1 | h1 | h1 | h1 | h1 | h1
      · exact ⟨_, _, h0, h1, run_R2M_true_2_0⟩
      · exact ⟨_, _, h0, h1, run_R2M_true_2_1⟩
      · exact ⟨_, _, h0, h1, run_R2M_true_2_2⟩
      · exact ⟨_, _, h0, h1, run_R2M_true_2_3⟩
      · exact ⟨_, _, h0, h1, run_R2M_true_2_4⟩
      · exact ⟨_, _, h0, h1, run_R2M_true_2_5⟩
    · rcases h1 with h1 | h1 | h1 | h1 | h1 | h1
      · exact ⟨_, _, h0, h1, run_R2M_true_3_0⟩
      · exact ⟨_, _, h0, h1, run_R2M_true_3_1⟩
      · exact ⟨_, _, h0, h1, run_R2M_true_3_2⟩
      · exact ⟨_, _, h0, h1, run_R2M_true_3_3⟩
      · exact ⟨_, _, h0, h1, run_R2M_true_3_4⟩
      · exact ⟨_, _, h0, h1, run_R2M_true_3_5⟩
    · rcases h1 with h1 | h1 | h1 | h1 | h1 | h1
      · exact ⟨_, _, h0, h1, run_R2M_true_4_0⟩
      · exact ⟨_, _, h0, h1, run_R2M_true_4_1⟩
      · exact ⟨_, _, h0, h1, run_R2M_true_4_2⟩
      · exact ⟨_, _, h0, h1, run_R2M_true_4_3⟩
      · exact ⟨_, _, h0, h1, run_R2M_true_4_4⟩
      · exact ⟨_, _, h0, h1, run_R2M_true_4_5⟩

theorem walk (q0 : Bool) (a : Int) (b : Int) (W : World) (hg : W.cell? ⟨0, 0, none⟩ = some errT) : Calls Tryd.prog 8 #[.bool q0, .int .i64 a, .int .i64 b] W fun e W' => e = .returned (.bool true) ∧ Stays W W' := by
  obtain ⟨m0, m1, e0, e1, hr⟩ := runs q0 a b
  have hl : ∀ t ∈ [((0 : Nat), (5 : Int), m0), ((1 : Nat), (6 : Int), m1)], 0 < t.2.1 ∧ t.2.1 < 4611686018427387904 ∧ ((env2 a b) t.1).1 = .i64 ∧ ((env2 a b) t.1).2 % t.2.1 = t.2.2 := by
    intro t ht
    simp only [List.mem_cons, List.not_mem_nil, or_false] at ht
    rcases ht with rfl | rfl
    all_goals exact ⟨by simp, by simp, rfl, by assumption⟩
  letI := lay (env2 a b)
  exact law_true (env2 a b) hl (xs := [.bool q0, .int .i64 a, .int .i64 b]) hr hg (fun c => .cons (.bool _) (.cons (.sym 0) (.cons (.sym 1) (.nil c)))) rfl


/-- What the runs give, for every argument and every world that holds what the row lists. -/
theorem contract (H : Type) (enc : TypeId × Value → H) (W : World) (base : Nat) (args : Array Value) (ds gs : List (DataW H)) (before : List MemPlace)
    (hval : ∀ (j : Nat) t v, Tryd.f8.params[j]? = some t → args[j]? = some v → Value.okWide Tryd.prog W .any base t v)
    (hW : DataW.Whole enc Tryd.prog Tryd.f8.params.toList Rows.kindsMeasuresSpec.vars false W args.toList ds gs before) (hL : laidMetH Tryd.prog Rows.kindsMeasuresRow.laid W) :
    Calls Tryd.prog 8 args W fun e W' => ∃ v, e = .returned v ∧ Rows.kindsMeasuresSpec.post enc Tryd.prog Tryd.f8 false true false false W args v W' := by
  have hW' := hW
  obtain ⟨p, q, hA0, hV, rfl, hfz, hnd⟩ := hW
  have hA : DataW.TrodAll enc Tryd.prog W 0 (fun _ => true) true Tryd.f8.params.toList args.toList ds p := hA0
  rw [Tryd.params8] at hA hval
  obtain ⟨v0, vs0, d0, ds0, p0, q0, hargs, rfl, rfl, h0, r0⟩ := trodAll_cons hA
  obtain ⟨v1, vs1, d1, ds1, p1, q1, rfl, rfl, rfl, h1, r1⟩ := trodAll_cons r0
  obtain ⟨v2, vs2, d2, ds2, p2, q2, rfl, rfl, rfl, h2, r2⟩ := trodAll_cons r1
  obtain ⟨rfl, rfl, rfl⟩ := trodAll_nil r2
  obtain rfl : args = #[v0, v1, v2] := by cases args; simp_all
  obtain ⟨rfl, rfl⟩ := trodVars_none hV
  obtain ⟨q0, rfl, rfl, rfl⟩ := open_bool Tryd.underlying4 (hval 0 4 v0 rfl rfl) h0
  obtain ⟨a, rfl, rfl, rfl, hw1⟩ := open_int Tryd.underlying3 (hval 1 3 v1 rfl rfl) h1
  obtain ⟨b, rfl, rfl, rfl, hw2⟩ := open_int Tryd.underlying3 (hval 2 3 v2 rfl rfl) h2
  clear hA0
  simp only [List.append_nil] at hW'
  refine (walk q0 a b W (handle_of_laid hL)).mono fun e W' ⟨he, hs⟩ => ?_
  subst he
  exact ⟨_, rfl, post_of_stays (pa := []) (pv := []) hW' (fun _ _ _ => trodAll_cons_mk (shut_bool Tryd.underlying4 _) trodAll_mk0) (fun _ _ => trodAll_cons_mk (shut_bool Tryd.underlying4 _) (trodAll_cons_mk (shut_int Tryd.underlying3 hw1) (trodAll_cons_mk (shut_int Tryd.underlying3 hw2) (trodAll_mk0)))) (fun _ _ => rfl) rfl
    hs (ok_one (by kernel_rfl) rfl (okWide_bool_mk Tryd.underlying4 _))⟩

theorem reads (os : Os) {H : Type} (enc : TypeId × Value → H) : ∃ places, DataW.whole enc Tryd.prog ((laidWorld os).forCall (fun _ _ => 0) ⟨#[], #[.bool false, .int .i64 0, .int .i64 0], []⟩).memory Tryd.f8.params.toList Rows.kindsMeasuresSpec.vars false #[Value.bool false, Value.int .i64 0, Value.int .i64 0].toList 8 = some ([.lit (.bool false), .lit (.int .i64 0), .lit (.int .i64 0)], [], places) :=
  ⟨[], by kernel_rfl⟩

theorem lifted (os : Os) (started : os.Started) (H : Type) (enc : TypeId × Value → H) (F : Stop.Interp) :
    ReturnsInHanded {} Tryd.checked os 8 .any ((OpenSpec.ofChange Rows.kindsMeasuresSpec).preRow enc Tryd.prog Tryd.f8 Rows.kindsMeasuresRow.domain false Rows.kindsMeasuresRow.laid) (((OpenSpec.ofChange Rows.kindsMeasuresSpec).at F).post enc Tryd.prog Tryd.f8 false true false false) := by
  obtain ⟨places, hx⟩ := reads os enc
  refine returnsInHanded_of_row (C := Tryd.checked) (s := OpenSpec.ofChange Rows.kindsMeasuresSpec) own started (by kernel_rfl) Tryd.func8
    (witness_row_at (enc := enc) (C := Tryd.checked) false (laidWorld os) #[.bool false, .int .i64 0, .int .i64 0] rfl (by kernel_rfl) (by kernel_rfl) (by kernel_rfl)
      (OpenSpec.preRow_of_cond 8 hx (by kernel_rfl) (fun k hk => by cases hk) (by kernel_rfl) (laidWorld_met os _))) ?_
  intro W base args ds gs before hval hW _ _ _ hL _ _
  exact contract H enc W base args ds gs before hval hW hL

theorem said : Rows.KindsMeasuresSaid :=
  OpenClaim.holds_of_cond 8 Tryd.f8 rfl rfl rfl rfl rfl rfl rfl ⟨rfl, rfl, rfl, rfl, rfl⟩ rfl rfl rfl rfl rfl (by kernel_rfl) Tryd.func8 (by kernel_rfl)
    (of_decide_eq_true (by kernel_rfl)) (by unfold Func.isWrapper; first | (rw [if_pos (by decide +kernel)]; kernel_rfl) | (rw [if_neg (by decide +kernel)]; exact ⟨rfl, rfl⟩))
    (fun os started H enc _ F => by rw [OpenClaim.pre_eq_preRow]; exact lifted os started H enc F)

theorem plain (f : FuncId) (fn : Func) (hf : Tryd.pinned.checked.prog.funcNamed "avow/avowlaw18.KindsMeasures" = some f) (hfn : Tryd.pinned.checked.prog.funcs[f]? = some fn) :
    true = Tryd.pinned.checked.prog.looks [] ∧ ∀ (j : Nat) t, fn.params[j]? = some t → Tryd.pinned.checked.prog.wantsStandIn t = false := by
  obtain rfl : f = 8 := Option.some.inj ((show Tryd.prog.funcNamed "avow/avowlaw18.KindsMeasures" = some 8 by kernel_rfl).symm.trans hf) |>.symm
  obtain rfl : fn = Tryd.f8 := (Option.some.inj (Tryd.func8.symm.trans hfn)).symm
  refine ⟨by kernel_rfl, fun j t ht => ?_⟩
  rw [Tryd.params8] at ht
  have h := Array.mem_of_getElem? ht
  simp at h
  rcases h with rfl | rfl
  · exact (show Tryd.prog.wantsStandIn 4 = false by kernel_rfl)
  · exact (show Tryd.prog.wantsStandIn 3 = false by kernel_rfl)

end Go.Proofs.YtdaimjlegjhidaaDoor.kindsMeasures
namespace Go.Proofs.YtdaimjlegjhidaaDoor
/-- The card. -/
theorem kindsMeasures_card : Rows.KindsMeasuresCardSaid :=
  Claim7.holds_tied_plain_at .later [] _ _ _ _ kindsMeasures.said (fun _ h => by cases h) (by kernel_rfl) (fun _ h => by cases h) kindsMeasures_row_tie rfl ⟨rfl, rfl⟩ (by kernel_rfl) rfl kindsMeasures.plain (by kernel_rfl)
end Go.Proofs.YtdaimjlegjhidaaDoor
