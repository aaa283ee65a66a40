/- Part VC of the proof: what it says stands at its theorems. -/
import Derived.Test.YteefhhgjlbeiiaaDoorV0
import Derived.Test.YteefhhgjlbeiiaaDoorV1
import Derived.Test.YteefhhgjlbeiiaaDoorV2
import Derived.Test.YteefhhgjlbeiiaaDoorV3
import Derived.Test.YteefhhgjlbeiiaaDoorV4
import Derived.Test.YteefhhgjlbeiiaaDoorV5
set_option linter.unusedVariables false
set_option linter.unusedSimpArgs false
set_option linter.unusedSectionVars false
/- ParseLevels: the law returns true for every input, and each argument reads as it did (the card that ties what the row lists). The proof: every argument counts by its remainder alone (avowhelp.Place), and each of the finitely many runs is carried out by the kernel in an abstract machine that is proved sound. -/
namespace Go.Proofs.YteefhhgjlbeiiaaDoor.parseLevels
open Go Go.AM Go.AM.S Go.Proofs Go.ChangeShapes Go.WideShapes Go.ChangeAt Go.RowKit
set_option maxRecDepth 100000
set_option linter.unusedSimpArgs false
theorem runs (a : Int) (b : Int) : ∃ m0 m1 : Int, a % 12 = m0 ∧ b % 12 = m1 ∧ S.fn Pg (kn [(0, 12, m0), (1, 12, m1)]) tbl 3000 9 [.sym 0, .sym 1] noHp = some (.val (.bool true) noHp) := by
  have h0 : a % 12 = 0 ∨ a % 12 = 1 ∨ a % 12 = 2 ∨ a % 12 = 3 ∨ a % 12 = 4 ∨ a % 12 = 5 ∨ a % 12 = 6 ∨ a % 12 = 7 ∨ a % 12 = 8 ∨ a % 12 = 9 ∨ a % 12 = 10 ∨ a % 12 = 11 := by omega
  have h1 : b % 12 = 0 ∨ b % 12 = 1 ∨ b % 12 = 2 ∨ b % 12 = 3 ∨ b % 12 = 4 ∨ b % 12 = 5 ∨ b % 12 = 6 ∨ b % 12 = 7 ∨ b % 12 = 8 ∨ b % 12 = 9 ∨ b % 12 = 10 ∨ b % 12 = 11 := by omega
  rcases h0 with h0 | h0 | h0 | h0 | h0 | h0 | h0 | h0 | h0 | h0 | h0 | h0
  · rcases h1 with h1 | h1 | h1 | h1 | h1 | h1 | h1 | h1 | h1 | h1 | h1 | h1
    · exact ⟨_, _, h0, h1, run_R3V_0_0⟩
    · exact ⟨_, _, h0, h1, run_R3V_0_1⟩
    · exact ⟨_, _, h0, h1, run_R3V_0_2⟩
    · exact ⟨_, _, h0, h1, run_R3V_0_3⟩
    · exact ⟨_, _, h0, h1, run_R3V_0_4⟩
    · exact ⟨_, _, h0, h1, run_R3V_0_5⟩
    · exact ⟨_, _, h0, h1, run_R3V_0_6⟩
    · exact ⟨_, _, h0, h1, run_R3V_0_7⟩
    · exact ⟨_, _, h0, h1, run_R3V_0_8⟩
    · exact ⟨_, _, h0, h1, run_R3V_0_9⟩
    · exact ⟨_, _, h0, h1, run_R3V_0_10⟩
    · exact ⟨_, _, h0, h1, run_R3V_0_11⟩
  · rcases h1 with h1 | h1 | h1 | h1 | h1 | h1 | h1 | h1 | h1 | h1 | h1 | h1
    · exact ⟨_, _, h0, h1, run_R3V_1_0⟩
    · exact ⟨_, _, h0, h1, run_R3V_1_1⟩
    · exact ⟨_, _, h0, h1, run_R3V_1_2⟩
    · exact ⟨_, _, h0, h1, run_R3V_1_3⟩
    · exact ⟨_, _, h0, h1, run_R3V_1_4⟩
    · exact ⟨_, _, h0, h1, run_R3V_1_5⟩
    · exact ⟨_, _, h0, h1, run_R3V_1_6⟩
    · exact ⟨_, _, h0, h1, run_R3V_1_7⟩
    · exact ⟨_, _, h0, h1, run_R3V_1_8⟩
    · exact ⟨_, _, h0, h1, run_R3V_1_9⟩
    · exact ⟨_, _, h0, h1, run_R3V_1_10⟩
    · exact ⟨_, _, h0, h1, run_R3V_1_11⟩
  · rcases h1 with h1 | h1 | h1 | h1 | h1 | h1 | h1 | h1 | h1 | h1 | h1 | h1
    · exact ⟨_, _, h0, h1, run_R3V_2_0⟩
    · exact ⟨_, _, h0, h1, run_R3V_2_1⟩
    · exact ⟨_, _, h0, h1, run_R3V_2_2⟩
    · exact ⟨_, _, h0, h1, run_R3V_2_3⟩
    · exact ⟨_, _, h0, h1, run_R3V_2_4⟩
    · exact ⟨_, _, h0, h1, run_R3V_2_5⟩
    · exact ⟨_, _, h0, h1, run_R3V_2_6⟩
    · exact ⟨_, _, h0, h1, run_R3V_2_7⟩
    · exact ⟨_, _, h0, h1, run_R3V_2_8⟩
    · exact ⟨_, _, h0, h1, run_R3V_2_9⟩
    · exact ⟨_, _, h0, h1, run_R3V_2_10⟩
    · exact ⟨_, _, h0, h1, run_R3V_2_11⟩
  · rcases h1 with h1 | h1 | h1 | h1 | h1 | h1 | h1 | h1 | h1 | h1 | h1 | h1
    · exact ⟨_, _, h0, h1, run_R3V_3_0⟩
    · exact ⟨_, _, h0, h1, run_R3V_3_1⟩
    · exact ⟨_, _, h0, h1, run_R3V_3_2⟩
    · exact ⟨_, _, h0, h1, run_R3V_3_3⟩
    · exact ⟨_, _, h0, h1, run_R3V_3_4⟩
    · exact ⟨_, _, h0, h1, run_R3V_3_5⟩
    · exact ⟨_, _, h0, h1, run_R3V_3_6⟩
    · exact ⟨_, _, h0, h1, run_R3V_3_7⟩
    · exact ⟨_, _, h0, h1, run_R3V_3_8⟩
    · exact ⟨_, _, h0, h1, run_R3V_3_9⟩
    · exact ⟨_, _, h0, h1, run_R3V_3_10⟩
    · exact ⟨_, _, h0, h1, run_R3V_3_11⟩
  · rcases h1 with h1 | h1 | h1 | h1 | h1 | h1 | h1 | h1 | h1 | h1 | h1 | h1
    · exact ⟨_, _, h0, h1, run_R3V_4_0⟩
    · exact ⟨_, _, h0, h1, run_R3V_4_1⟩
    · exact ⟨_, _, h0, h1, run_R3V_4_2⟩
    · exact ⟨_, _, h0, h1, run_R3V_4_3⟩
    · exact ⟨_, _, h0, h1, run_R3V_4_4⟩
    · exact ⟨_, _, h0, h1, run_R3V_4_5⟩
    · exact ⟨_, _, h0, h1, run_R3V_4_6⟩
    · exact ⟨_, _, h0, h1, run_R3V_4_7⟩
    · exact ⟨_, _, h0, h1, run_R3V_4_8⟩
    · exact ⟨_, _, h0, h1, run_R3V_4_9⟩
    · exact ⟨_, _, h0, h1, run_R3V_4_10⟩
    · exact ⟨_, _, h0, h1, run_R3V_4_11⟩
  · rcases h1 with h1 | h1 | h1 | h1 | h1 | h1 | h1 | h1 | h1 | h1 | h1 | h1
    · exact ⟨_, _, h0, h1, run_R3V_5_0⟩
    · exact ⟨_, _, h0, h1, run_R3V_5_1⟩
    · exact ⟨_, _, h0, h1, run_R3V_5_2⟩
    · exact ⟨_, _, h0, h1, run_R3V_5_3⟩
    · exact ⟨_, _, h0, h1, run_R3V_5_4⟩
    · exact ⟨_, _, h0, h1, run_R3V_5_5⟩
    · exact ⟨_, _, h0, h1, run_R3V_5_6⟩
    · exact ⟨_, _, h0, h1, run_R3V_5_7⟩
    · exact ⟨_, _, h0, h1, run_R3V_5_8⟩
    · exact ⟨_, _, h0, h1, run_R3V_5_9⟩
    · exact ⟨_, _, h0, h1, run_R3V_5_10⟩
    · exact ⟨_, _, h0, h1, run_R3V_5_11⟩
  · rcases h1 with h1 | h1 | h1 | h1 | h1 | h1 | h1 | h1 | h1 | h1 | h1 | h1
    · exact ⟨_, _, h0, h1, run_R3V_6_0⟩
    · exact ⟨_, _, h0, h1, run_R3V_6_1⟩
    · exact ⟨_, _, h0, h1, run_R3V_6_2⟩
    · exact ⟨_, _, h0, h1, run_R3V_6_3⟩
    · exact ⟨_, _, h0, h1, run_R3V_6_4⟩
    · exact ⟨_, _, h0, h1, run_R3V_6_5⟩
    · exact ⟨_, _, h0, h1, run_R3V_6_6⟩
    · exact ⟨_, _, h0, h1, run_R3V_6_7⟩
    · exact ⟨_, _, h0, h1, run_R3V_6_8⟩
    · exact ⟨_, _, h0, h1, run_R3V_6_9⟩
    · exact ⟨_, _, h0, h1, run_R3V_6_10⟩
    · exact ⟨_, _, h0, h1, run_R3V_6_11⟩
  · rcases h1 with h1 | h1 | h1 | h1 | h1 | h1 | h1 | h1 | h1 | h1 | h1 | h1
    · exact ⟨_, _, h0, h1, run_R3V_7_0⟩
    · exact ⟨_, _, h0, h1, run_R3V_7_1⟩
    · exact ⟨_, _, h0, h1, run_R3V_7_2⟩
    · exact ⟨_, _, h0, h1, run_R3V_7_3⟩
    · exact ⟨_, _, h0, h1, run_R3V_7_4⟩
    · exact ⟨_, _, h0, h1, run_R3V_7_5⟩
    · exact ⟨_, _, h0, h1, run_R3V_7_6⟩
    · exact ⟨_, _, h0, h1, run_R3V_7_7⟩
    · exact ⟨_, _, h0, h1, run_R3V_7_8⟩
    · exact ⟨_, _, h0, h1, run_R3V_7_9⟩
    · exact ⟨_, _, h0, h1, run_R3V_7_10⟩
    · exact ⟨_, _, h0, h1, run_R3V_7_11⟩
  · rcases h1 with h1 | h1 | h1 | h1 | h1 | h1 | h1 | h1 | h1 | h1 | h1 | h1
    · exact ⟨_, _, h0, h1, run_R3V_8_0⟩
    · exact ⟨_, _, h0, h1, run_R3V_8_1⟩
    · exact ⟨_, _, h0, h1, run_R3V_8_2⟩
    · exact ⟨_, _, h0, h1, run_R3V_8_3⟩
    · exact ⟨_, _, h0, h1, run_R3V_8_4⟩
    · exact ⟨_, _, h0, h1, run_R3V_8_5⟩
    · exact ⟨_, _, h0, h1, run_R3V_8_6⟩
    · exact ⟨_, _, h0, h1, run_R3V_8_7⟩
    · exact ⟨_, _, h0, h1, run_R3V_8_8⟩
    · exact ⟨_, _, h0, h1, run_R3V_8_9⟩
    · exact ⟨_, _, h0, h1, run_R3V_8_10⟩
    · exact ⟨_, _, h0, h1, run_R3V_8_11⟩
  · rcases h1 with h1 | h1 | h1 | h1 | h1 | h1 | h1 | h1 | h1 | h1 | h1 | h1
    · exact ⟨_, _, h0, h1, run_R3V_9_0⟩
    · exact ⟨_, _, h0, h1, run_R3V_9_1⟩
    · exact ⟨_, _, h0, h1, run_R3V_9_2⟩
    · exact ⟨_, _, h0, h1, run_R3V_9_3⟩
    · exact ⟨_, _, h0, h1, run_R3V_9_4⟩
    · exact ⟨_, _, h0, h1, run_R3V_9_5⟩
    · exact ⟨_, _, h0, h1, run_R3V_9_6⟩
    · exact ⟨_, _, h0, h1, run_R3V_9_7⟩
    · exact ⟨_, _, h0, h1, run_R3V_9_8⟩
    · exact ⟨_, _, h0, h1, run_R3V_9_9⟩
    · exact ⟨_, _, h0, h1, run_R3V_9_10⟩
    · exact ⟨_, _, h0, h1, run_R3V_9_11⟩
  · rcases h1 with h1 | h1 | h1 | h1 | h1 | h1 | h1 | h1 | h1 | h1 | h1 | h1
    · exact ⟨_, _, h0, h1, run_R3V_10_0⟩
    · exact ⟨_, _, h0, h1, run_R3V_10_1⟩
    · exact ⟨_, _, h0, h1, run_R3V_10_2⟩
    · exact ⟨_, _, h0, h1, run_R3V_10_3⟩
    · exact ⟨_, _, h0, h1, run_R3V_10_4⟩
    · exact ⟨_, _, h0, h1, run_R3V_10_5⟩
    · exact ⟨_, _, h0, h1, run_R3V_10_6⟩
    · exact ⟨_, _, h0, h1, run_R3V_10_7⟩
    · exact ⟨_, _, h0, h1, run_R3V_10_8⟩
    · exact ⟨_, _, h0, h1, run_R3V_10_9⟩
    · exact ⟨_, _, h0, h1, run_R3V_10_10⟩
    · exact ⟨_, _, h0, h1, run_R3V_10_11⟩
  · rcases h1 with h1 | h1 | h1 | h1 | h1 | h1 | h1 | h1 | h1 | h1 | h1 | h1
    · exact ⟨_, _, h0, h1, run_R3V_11_0⟩
    · exact ⟨_, _, h0, h1, run_R3V_11_1⟩
    · exact ⟨_, _, h0, h1, run_R3V_11_2⟩
    · exact ⟨_, _, h0, h1, run_R3V_11_3⟩
    · exact ⟨_, _, h0, h1, run_R3V_11_4⟩
    · exact ⟨_, _, h0, h1, run_R3V_11_5⟩
    · exact ⟨_, _, h0, h1, run_R3V_11_6⟩
    · exact ⟨_, _, h0, h1, run_R3V_11_7⟩
    · exact ⟨_, _, h0, h1, run_R3V_11_8⟩
    · exact ⟨_, _, h0, h1, run_R3V_11_9⟩
    · exact ⟨_, _, h0, h1, run_R3V_11_10⟩
    · exact ⟨_, _, h0, h1, run_R3V_11_11⟩

theorem walk (a : Int) (b : Int) (W : World) (hg : W.cell? ⟨0, 0, none⟩ = some errT) {m : Int} (hm : W.cell? ⟨3, 0, none⟩ = some (.int .i64 m)) : Calls Tryd.prog 9 #[.int .i64 a, .int .i64 b] W fun e W' => e = .returned (.bool true) ∧ Stays W W' := by
  obtain ⟨m0, m1, e0, e1, hr⟩ := runs a b
  have hl : ∀ t ∈ [((0 : Nat), (12 : Int), m0), ((1 : Nat), (12 : Int), m1)], 0 < t.2.1 ∧ t.2.1 < 4611686018427387904 ∧ ((env2 a b) t.1).1 = .i64 ∧ ((env2 a b) t.1).2 % t.2.1 = t.2.2 := by
    intro t ht
    simp only [List.mem_cons, List.not_mem_nil, or_false] at ht
    rcases ht with rfl | rfl
    all_goals exact ⟨by simp, by simp, rfl, by assumption⟩
  letI := lay m (env2 a b)
  exact law_true m (env2 a b) hl (xs := [.int .i64 a, .int .i64 b]) hr hg hm (fun c => .cons (.sym 0) (.cons (.sym 1) (.nil c))) rfl


/-- What the runs give, for every argument and every world that holds what the row lists. -/
theorem contract (H : Type) (enc : TypeId × Value → H) (W : World) (base : Nat) (args : Array Value) (ds gs : List (DataW H)) (before : List MemPlace)
    (hval : ∀ (j : Nat) t v, Tryd.f9.params[j]? = some t → args[j]? = some v → Value.okWide Tryd.prog W .any base t v)
    (hW : DataW.Whole enc Tryd.prog Tryd.f9.params.toList Rows.parseLevelsSpec.vars false W args.toList ds gs before) (hL : laidMetH Tryd.prog Rows.parseLevelsRow.laid W) (hsh : W.ShapedOpen Tryd.prog) :
    Calls Tryd.prog 9 args W fun e W' => ∃ v, e = .returned v ∧ Rows.parseLevelsSpec.post enc Tryd.prog Tryd.f9 false true false false W args v W' := by
  have hW' := hW
  obtain ⟨p, q, hA0, hV, rfl, hfz, hnd⟩ := hW
  have hA : DataW.TrodAll enc Tryd.prog W 0 (fun _ => true) true Tryd.f9.params.toList args.toList ds p := hA0
  rw [Tryd.params9] at hA hval
  obtain ⟨v0, vs0, d0, ds0, p0, q0, hargs, rfl, rfl, h0, r0⟩ := trodAll_cons hA
  obtain ⟨v1, vs1, d1, ds1, p1, q1, rfl, rfl, rfl, h1, r1⟩ := trodAll_cons r0
  obtain ⟨rfl, rfl, rfl⟩ := trodAll_nil r1
  obtain rfl : args = #[v0, v1] := by cases args; simp_all
  obtain ⟨rfl, rfl⟩ := trodVars_none hV
  obtain ⟨a, rfl, rfl, rfl, hw0⟩ := open_int Tryd.underlying3 (hval 0 3 v0 rfl rfl) h0
  obtain ⟨b, rfl, rfl, rfl, hw1⟩ := open_int Tryd.underlying3 (hval 1 3 v1 rfl rfl) h1
  clear hA0
  simp only [List.append_nil] at hW'
  obtain ⟨m, hm⟩ := Tryd.laysM146.s1_3 W hsh
  refine (walk a b W (handle_of_laid hL) hm).mono fun e W' ⟨he, hs⟩ => ?_
  subst he
  exact ⟨_, rfl, post_of_stays (pa := []) (pv := []) hW' (fun _ _ _ => trodAll_cons_mk (shut_bool Tryd.underlying4 _) trodAll_mk0) (fun _ _ => trodAll_cons_mk (shut_int Tryd.underlying3 hw0) (trodAll_cons_mk (shut_int Tryd.underlying3 hw1) (trodAll_mk0))) (fun _ _ => rfl) rfl
    hs (ok_one (by kernel_rfl) rfl (okWide_bool_mk Tryd.underlying4 _))⟩

theorem reads (os : Os) {H : Type} (enc : TypeId × Value → H) : ∃ places, DataW.whole enc Tryd.prog ((laidWorld os).forCall (fun _ _ => 0) ⟨#[], #[.int .i64 0, .int .i64 0], []⟩).memory Tryd.f9.params.toList Rows.parseLevelsSpec.vars false #[Value.int .i64 0, Value.int .i64 0].toList 8 = some ([.lit (.int .i64 0), .lit (.int .i64 0)], [], places) :=
  ⟨[], by kernel_rfl⟩

theorem lifted (os : Os) (started : os.Started) (H : Type) (enc : TypeId × Value → H) (F : Stop.Interp) :
    ReturnsInHanded {} Tryd.checked os 9 .any ((OpenSpec.ofChange Rows.parseLevelsSpec).preRow enc Tryd.prog Tryd.f9 Rows.parseLevelsRow.domain false Rows.parseLevelsRow.laid) (((OpenSpec.ofChange Rows.parseLevelsSpec).at F).post enc Tryd.prog Tryd.f9 false true false false) := by
  obtain ⟨places, hx⟩ := reads os enc
  refine returnsInHanded_of_row (C := Tryd.checked) (s := OpenSpec.ofChange Rows.parseLevelsSpec) own started (by kernel_rfl) Tryd.func9
    (witness_row_at (enc := enc) (C := Tryd.checked) false (laidWorld os) #[.int .i64 0, .int .i64 0] rfl (by kernel_rfl) (by kernel_rfl) (by kernel_rfl)
      (OpenSpec.preRow_of_cond 8 hx (by kernel_rfl) (fun k hk => by cases hk) (by kernel_rfl) (laidWorld_met os _))) ?_
  intro W base args ds gs before hval hW _ _ _ hL hsh _
  exact contract H enc W base args ds gs before hval hW hL hsh

theorem said : Rows.ParseLevelsSaid :=
  OpenClaim.holds_of_cond 9 Tryd.f9 rfl rfl rfl rfl rfl rfl rfl ⟨rfl, rfl, rfl, rfl, rfl⟩ rfl rfl rfl rfl rfl (by kernel_rfl) Tryd.func9 (by kernel_rfl)
    (of_decide_eq_true (by kernel_rfl)) (by unfold Func.isWrapper; first | (rw [if_pos (by decide +kernel)]; kernel_rfl) | (rw [if_neg (by decide +kernel)]; exact ⟨rfl, rfl⟩))
    (fun os started H enc _ F => by rw [OpenClaim.pre_eq_preRow]; exact lifted os started H enc F)

theorem plain (f : FuncId) (fn : Func) (hf : Tryd.pinned.checked.prog.funcNamed "avow/avowlaw15.ParseLevels" = some f) (hfn : Tryd.pinned.checked.prog.funcs[f]? = some fn) :
    true = Tryd.pinned.checked.prog.looks [] ∧ ∀ (j : Nat) t, fn.params[j]? = some t → Tryd.pinned.checked.prog.wantsStandIn t = false := by
  obtain rfl : f = 9 := Option.some.inj ((show Tryd.prog.funcNamed "avow/avowlaw15.ParseLevels" = some 9 by kernel_rfl).symm.trans hf) |>.symm
  obtain rfl : fn = Tryd.f9 := (Option.some.inj (Tryd.func9.symm.trans hfn)).symm
  refine ⟨by kernel_rfl, fun j t ht => ?_⟩
  rw [Tryd.params9] at ht
  have h := Array.mem_of_getElem? ht
  simp at h
  subst h; exact (show Tryd.prog.wantsStandIn 3 = false by kernel_rfl)

end Go.Proofs.YteefhhgjlbeiiaaDoor.parseLevels
namespace Go.Proofs.YteefhhgjlbeiiaaDoor
/-- The card. -/
theorem parseLevels_card : Rows.ParseLevelsCardSaid :=
  Claim7.holds_tied_plain_at .later [] _ _ _ _ parseLevels.said (fun _ h => by cases h) (by kernel_rfl) (fun _ h => by cases h) parseLevels_row_tie rfl ⟨rfl, rfl⟩ (by kernel_rfl) rfl parseLevels.plain (by kernel_rfl)
end Go.Proofs.YteefhhgjlbeiiaaDoor
