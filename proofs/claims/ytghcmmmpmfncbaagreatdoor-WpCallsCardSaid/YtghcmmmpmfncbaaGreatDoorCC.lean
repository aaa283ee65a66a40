/- Part CC of the proof: what it says stands at its theorems. -/
import Derived.Test.YtghcmmmpmfncbaaGreatDoorC0
import Derived.Test.YtghcmmmpmfncbaaGreatDoorC1
import Derived.Test.YtghcmmmpmfncbaaGreatDoorC2
import Derived.Test.YtghcmmmpmfncbaaGreatDoorC3
import Derived.Test.YtghcmmmpmfncbaaGreatDoorC4
import Derived.Test.YtghcmmmpmfncbaaGreatDoorC5
set_option linter.unusedVariables false
set_option linter.unusedSimpArgs false
set_option linter.unusedSectionVars false
/- WpCalls: the law returns true for every input, and each argument reads as it did (the card that ties what the row lists). The proof: every argument counts by its remainder alone (avowhelp.Place), and each of the finitely many runs is carried out by the kernel in an abstract machine that is proved sound. -/
namespace Go.Proofs.YtghcmmmpmfncbaaGreatDoor.wpCalls
open Go Go.AM Go.AM.S Go.Proofs Go.ChangeShapes Go.WideShapes Go.ChangeAt Go.RowKit
set_option maxRecDepth 100000
set_option linter.unusedSimpArgs false
theorem hl {n0 m0 n1 m1 : Int} (a b : Int) (p0 : 0 < n0 ∧ n0 < 4611686018427387904) (e0 : a % n0 = m0) (p1 : 0 < n1 ∧ n1 < 4611686018427387904) (e1 : b % n1 = m1) : ∀ t ∈ [((0 : Nat), n0, m0), ((1 : Nat), n1, m1)], 0 < t.2.1 ∧ t.2.1 < 4611686018427387904 ∧ ((env2 a b) t.1).1 = .i64 ∧ ((env2 a b) t.1).2 % t.2.1 = t.2.2 := by
  intro t ht
  simp only [List.mem_cons, List.not_mem_nil, or_false] at ht
  rcases ht with rfl | rfl
  · exact ⟨p0.1, p0.2, rfl, e0⟩
  · exact ⟨p1.1, p1.2, rfl, e1⟩
theorem runs (a : Int) (b : Int) : ∃ l : List (Nat × Int × Int), (∀ t ∈ l, 0 < t.2.1 ∧ t.2.1 < 4611686018427387904 ∧ ((env2 a b) t.1).1 = .i64 ∧ ((env2 a b) t.1).2 % t.2.1 = t.2.2) ∧ S.fn Pg (kn l) tbl 3000 4 [.sym 0, .sym 1] noHp = some (.val (.bool true) noHp) := by
  have h0 : a % 7 = 0 ∨ a % 7 = 1 ∨ a % 7 = 2 ∨ a % 7 = 3 ∨ a % 7 = 4 ∨ a % 7 = 5 ∨ a % 7 = 6 := by omega
  rcases h0 with h0 | h0 | h0 | h0 | h0 | h0 | h0
  · have h1 : b % 5 = 0 ∨ b % 5 = 1 ∨ b % 5 = 2 ∨ b % 5 = 3 ∨ b % 5 = 4 := by omega
    rcases h1 with h1 | h1 | h1 | h1 | h1
    · exact ⟨[(0, 7, 0), (1, 5, 0)], hl a b ⟨by decide, by decide⟩ h0 ⟨by decide, by decide⟩ h1, run_R5C_0_0⟩
    · exact ⟨[(0, 7, 0), (1, 5, 1)], hl a b ⟨by decide, by decide⟩ h0 ⟨by decide, by decide⟩ h1, run_R5C_0_1⟩
    · exact ⟨[(0, 7, 0), (1, 5, 2)], hl a b ⟨by decide, by decide⟩ h0 ⟨by decide, by decide⟩ h1, run_R5C_0_2⟩
    · exact ⟨[(0, 7, 0), (1, 5, 3)], hl a b ⟨by decide, by decide⟩ h0 ⟨by decide, by decide⟩ h1, run_R5C_0_3⟩
    · exact ⟨[(0, 7, 0), (1, 5, 4)], hl a b ⟨by decide, by decide⟩ h0 ⟨by decide, by decide⟩ h1, run_R5C_0_4⟩
  · have h1 : b % 5 = 0 ∨ b % 5 = 1 ∨ b % 5 = 2 ∨ b % 5 = 3 ∨ b % 5 = 4 := by omega
    rcases h1 with h1 | h1 | h1 | h1 | h1
    · exact ⟨[(0, 7, 1), (1, 5, 0)], hl a b ⟨by decide, by decide⟩ h0 ⟨by decide, by decide⟩ h1, run_R5C_1_0⟩
    · exact ⟨[(0, 7, 1), (1, 5, 1)], hl a b ⟨by decide, by decide⟩ h0 ⟨by decide, by decide⟩ h1, run_R5C_1_1⟩
    · exact ⟨[(0, 7, 1), (1, 5, 2)], hl a b ⟨by decide, by decide⟩ h0 ⟨by decide, by decide⟩ h1, run_R5C_1_2⟩
    · exact ⟨[(0, 7, 1), (1, 5, 3)], hl a b ⟨by decide, by decide⟩ h0 ⟨by decide, by decide⟩ h1, run_R5C_1_3⟩
    · exact ⟨[(0, 7, 1), (1, 5, 4)], hl a b ⟨by decide, by decide⟩ h0 ⟨by decide, by decide⟩ h1, run_R5C_1_4⟩
  · have h1 : b % 5 = 0 ∨ b % 5 = 1 ∨ b % 5 = 2 ∨ b % 5 = 3 ∨ b % 5 = 4 := by omega
    rcases h1 with h1 | h1 | h1 | h1 | h1
    · exact ⟨[(0, 7, 2), (1, 5, 0)], hl a b ⟨by decide, by decide⟩ h0 ⟨by decide, by decide⟩ h1, run_R5C_2_0⟩
    · exact ⟨[(0, 7, 2), (1, 5, 1)], hl a b ⟨by decide, by decide⟩ h0 ⟨by decide, by decide⟩ h1, run_R5C_2_1⟩
    · exact ⟨[(0, 7, 2), (1, 5, 2)], hl a b ⟨by decide, by decide⟩ h0 ⟨by decide, by decide⟩ h1, run_R5C_2_2⟩
    · exact ⟨[(0, 7, 2), (1, 5, 3)], hl a b ⟨by decide, by decide⟩ h0 ⟨by decide, by decide⟩ h1, run_R5C_2_3⟩
    · exact ⟨[(0, 7, 2), (1, 5, 4)], hl a b ⟨by decide, by decide⟩ h0 ⟨by decide, by decide⟩ h1, run_R5C_2_4⟩
  · have h1 : b % 5 = 0 ∨ b % 5 = 1 ∨ b % 5 = 2 ∨ b % 5 = 3 ∨ b % 5 = 4 := by omega
    rcases h1 with h1 | h1 | h1 | h1 | h1
    · exact ⟨[(0, 7, 3), (1, 5, 0)], hl a b ⟨by decide, by decide⟩ h0 ⟨by decide, by decide⟩ h1, run_R5C_3_0⟩
    · exact ⟨[(0, 7, 3), (1, 5, 1)], hl a b ⟨by decide, by decide⟩ h0 ⟨by decide, by decide⟩ h1, run_R5C_3_1⟩
    · exact ⟨[(0, 7, 3), (1, 5, 2)], hl a b ⟨by decide, by decide⟩ h0 ⟨by decide, by decide⟩ h1, run_R5C_3_2⟩
    · exact ⟨[(0, 7, 3), (1, 5, 3)], hl a b ⟨by decide, by decide⟩ h0 ⟨by decide, by decide⟩ h1, run_R5C_3_3⟩
    · exact ⟨[(0, 7, 3), (1, 5, 4)], hl a b ⟨by decide, by decide⟩ h0 ⟨by decide, by decide⟩ h1, run_R5C_3_4⟩
  · have h1 : b % 5 = 0 ∨ b % 5 = 1 ∨ b % 5 = 2 ∨ b % 5 = 3 ∨ b % 5 = 4 := by omega
    rcases h1 with h1 | h1 | h1 | h1 | h1
    · exact ⟨[(0, 7, 4), (1, 5, 0)], hl a b ⟨by decide, by decide⟩ h0 ⟨by decide, by decide⟩ h1, run_R5C_4_0⟩
    · exact ⟨[(0, 7, 4), (1, 5, 1)], hl a b ⟨by decide, by decide⟩ h0 ⟨by decide, by decide⟩ h1, run_R5C_4_1⟩
    · exact ⟨[(0, 7, 4), (1, 5, 2)], hl a b ⟨by decide, by decide⟩ h0 ⟨by decide, by decide⟩ h1, run_R5C_4_2⟩
    · exact ⟨[(0, 7, 4), (1, 5, 3)], hl a b ⟨by decide, by decide⟩ h0 ⟨by decide, by decide⟩ h1, run_R5C_4_3⟩
    · exact ⟨[(0, 7, 4), (1, 5, 4)], hl a b ⟨by decide, by decide⟩ h0 ⟨by decide, by decide⟩ h1, run_R5C_4_4⟩
  · have h1 : b % 5 = 0 ∨ b % 5 = 1 ∨ b % 5 = 2 ∨ b % 5 = 3 ∨ b % 5 = 4 := by omega
    rcases h1 with h1 | h1 | h1 | h1 | h1
    · exact ⟨[(0, 7, 5), (1, 5, 0)], hl a b ⟨by decide, by decide⟩ h0 ⟨by decide, by decide⟩ h1, run_R5C_5_0⟩
    · exact ⟨[(0, 7, 5), (1, 5, 1)], hl a b ⟨by decide, by decide⟩ h0 ⟨by decide, by decide⟩ h1, run_R5C_5_1⟩
    · exact ⟨[(0, 7, 5), (1, 5, 2)], hl a b ⟨by decide, by decide⟩ h0 ⟨by decide, by decide⟩ h1, run_R5C_5_2⟩
    · exact ⟨[(0, 7, 5), (1, 5, 3)], hl a b ⟨by decide, by decide⟩ h0 ⟨by decide, by decide⟩ h1, run_R5C_5_3⟩
    · exact ⟨[(0, 7, 5), (1, 5, 4)], hl a b ⟨by decide, by decide⟩ h0 ⟨by decide, by decide⟩ h1, run_R5C_5_4⟩
  · have h1 : b % 5 = 0 ∨ b % 5 = 1 ∨ b % 5 = 2 ∨ b % 5 = 3 ∨ b % 5 = 4 := by omega
    rcases h1 with h1 | h1 | h1 | h1 | h1
    · exact ⟨[(0, 7, 6), (1, 5, 0)], hl a b ⟨by decide, by decide⟩ h0 ⟨by decide, by decide⟩ h1, run_R5C_6_0⟩
    · exact ⟨[(0, 7, 6), (1, 5, 1)], hl a b ⟨by decide, by decide⟩ h0 ⟨by decide, by decide⟩ h1, run_R5C_6_1⟩
    · exact ⟨[(0, 7, 6), (1, 5, 2)], hl a b ⟨by decide, by decide⟩ h0 ⟨by decide, by decide⟩ h1, run_R5C_6_2⟩
    · exact ⟨[(0, 7, 6), (1, 5, 3)], hl a b ⟨by decide, by decide⟩ h0 ⟨by decide, by decide⟩ h1, run_R5C_6_3⟩
    · exact ⟨[(0, 7, 6), (1, 5, 4)], hl a b ⟨by decide, by decide⟩ h0 ⟨by decide, by decide⟩ h1, run_R5C_6_4⟩

theorem walk (a : Int) (b : Int) (W : World) : Calls Tryz.prog 4 #[.int .i64 a, .int .i64 b] W fun e W' => e = .returned (.bool true) ∧ Stays W W' := by
  obtain ⟨l, hl, hr⟩ := runs a b
  letI := lay (env2 a b)
  exact law_true (env2 a b) hl (xs := [.int .i64 a, .int .i64 b]) hr (fun c => .cons (.sym 0) (.cons (.sym 1) (.nil c))) rfl


/-- What the runs give, for every argument and every world that holds what the row lists. -/
theorem contract (H : Type) (enc : TypeId × Value → H) (W : World) (base : Nat) (args : Array Value) (ds gs : List (DataW H)) (before : List MemPlace)
    (hval : ∀ (j : Nat) t v, Tryz.f4.params[j]? = some t → args[j]? = some v → Value.okWide Tryz.prog W .any base t v)
    (hW : DataW.Whole enc Tryz.prog Tryz.f4.params.toList Rows.wpCallsSpec.vars false W args.toList ds gs before) (hL : laidMetH Tryz.prog Rows.wpCallsRow.laid W) :
    Calls Tryz.prog 4 args W fun e W' => ∃ v, e = .returned v ∧ Rows.wpCallsSpec.post enc Tryz.prog Tryz.f4 false true false false W args v W' := by
  have hW' := hW
  obtain ⟨p, q, hA0, hV, rfl, hfz, hnd⟩ := hW
  have hA : DataW.TrodAll enc Tryz.prog W 0 (fun _ => true) true Tryz.f4.params.toList args.toList ds p := hA0
  rw [Tryz.params4] at hA hval
  obtain ⟨v0, vs0, d0, ds0, p0, q0, hargs, rfl, rfl, h0, r0⟩ := trodAll_cons hA
  obtain ⟨v1, vs1, d1, ds1, p1, q1, rfl, rfl, rfl, h1, r1⟩ := trodAll_cons r0
  obtain ⟨rfl, rfl, rfl⟩ := trodAll_nil r1
  obtain rfl : args = #[v0, v1] := by cases args; simp_all
  obtain ⟨rfl, rfl⟩ := trodVars_none hV
  obtain ⟨a, rfl, rfl, rfl, hw0⟩ := open_int Tryz.underlying3 (hval 0 3 v0 rfl rfl) h0
  obtain ⟨b, rfl, rfl, rfl, hw1⟩ := open_int Tryz.underlying3 (hval 1 3 v1 rfl rfl) h1
  clear hA0
  simp only [List.append_nil] at hW'
  refine (walk a b W).mono fun e W' ⟨he, hs⟩ => ?_
  subst he
  exact ⟨_, rfl, post_of_stays (pa := []) (pv := []) hW' (fun _ _ _ => trodAll_cons_mk (shut_bool Tryz.underlying4 _) trodAll_mk0) (fun _ _ => trodAll_cons_mk (shut_int Tryz.underlying3 hw0) (trodAll_cons_mk (shut_int Tryz.underlying3 hw1) (trodAll_mk0))) (fun _ _ => rfl) rfl
    hs (ok_one (by kernel_rfl) rfl (okWide_bool_mk Tryz.underlying4 _))⟩

theorem reads (os : Os) {H : Type} (enc : TypeId × Value → H) : ∃ places, DataW.whole enc Tryz.prog ((laidWorld os).forCall (fun _ _ => 0) ⟨#[], #[.int .i64 0, .int .i64 0], []⟩).memory Tryz.f4.params.toList Rows.wpCallsSpec.vars false #[Value.int .i64 0, Value.int .i64 0].toList 8 = some ([.lit (.int .i64 0), .lit (.int .i64 0)], [], places) :=
  ⟨[], by kernel_rfl⟩

theorem lifted (os : Os) (started : os.Started) (H : Type) (enc : TypeId × Value → H) (F : Stop.Interp) :
    ReturnsInHanded {} Tryz.checked os 4 .any ((OpenSpec.ofChange Rows.wpCallsSpec).preRow enc Tryz.prog Tryz.f4 Rows.wpCallsRow.domain false Rows.wpCallsRow.laid) (((OpenSpec.ofChange Rows.wpCallsSpec).at F).post enc Tryz.prog Tryz.f4 false true false false) := by
  obtain ⟨places, hx⟩ := reads os enc
  refine returnsInHanded_of_row (C := Tryz.checked) (s := OpenSpec.ofChange Rows.wpCallsSpec) own started (by kernel_rfl) Tryz.func4
    (witness_row_at (enc := enc) (C := Tryz.checked) false (laidWorld os) #[.int .i64 0, .int .i64 0] rfl (by kernel_rfl) (by kernel_rfl) (by kernel_rfl)
      (OpenSpec.preRow_of_cond 8 hx (by kernel_rfl) (fun k hk => by cases hk) (by kernel_rfl) (laidWorld_met os _))) ?_
  intro W base args ds gs before hval hW _ _ _ hL _ _
  exact contract H enc W base args ds gs before hval hW hL

theorem said : Rows.WpCallsSaid :=
  OpenClaim.holds_of_cond 4 Tryz.f4 rfl rfl rfl rfl rfl rfl rfl ⟨rfl, rfl, rfl, rfl, rfl⟩ rfl rfl rfl rfl rfl (by kernel_rfl) Tryz.func4 (by kernel_rfl)
    (of_decide_eq_true (by kernel_rfl)) (by unfold Func.isWrapper; first | (rw [if_pos (by decide +kernel)]; kernel_rfl) | (rw [if_neg (by decide +kernel)]; exact ⟨rfl, rfl⟩))
    (fun os started H enc _ F => by rw [OpenClaim.pre_eq_preRow]; exact lifted os started H enc F)

theorem plain (f : FuncId) (fn : Func) (hf : Tryz.pinned.checked.prog.funcNamed "avow/avowlaw21.WpCalls" = some f) (hfn : Tryz.pinned.checked.prog.funcs[f]? = some fn) :
    true = Tryz.pinned.checked.prog.looks [] ∧ ∀ (j : Nat) t, fn.params[j]? = some t → Tryz.pinned.checked.prog.wantsStandIn t = false := by
  obtain rfl : f = 4 := Option.some.inj ((show Tryz.prog.funcNamed "avow/avowlaw21.WpCalls" = some 4 by kernel_rfl).symm.trans hf) |>.symm
  obtain rfl : fn = Tryz.f4 := (Option.some.inj (Tryz.func4.symm.trans hfn)).symm
  refine ⟨by kernel_rfl, fun j t ht => ?_⟩
  rw [Tryz.params4] at ht
  have h := Array.mem_of_getElem? ht
  simp at h
  subst h; exact (show Tryz.prog.wantsStandIn 3 = false by kernel_rfl)

end Go.Proofs.YtghcmmmpmfncbaaGreatDoor.wpCalls
namespace Go.Proofs.YtghcmmmpmfncbaaGreatDoor
/-- The card. -/
theorem wpCalls_card : Rows.WpCallsCardSaid :=
  Claim7.holds_tied_plain_at .later [] _ _ _ _ wpCalls.said (fun _ h => by cases h) (by kernel_rfl) (fun _ h => by cases h) wpCalls_row_tie rfl ⟨rfl, rfl⟩ (by kernel_rfl) rfl wpCalls.plain (by kernel_rfl)
end Go.Proofs.YtghcmmmpmfncbaaGreatDoor
