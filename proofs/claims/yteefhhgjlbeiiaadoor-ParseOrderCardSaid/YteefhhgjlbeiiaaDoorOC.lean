/- Part OC of the proof: what it says stands at its theorems. -/
import Derived.Test.YteefhhgjlbeiiaaDoorO0
import Derived.Test.YteefhhgjlbeiiaaDoorO1
set_option linter.unusedVariables false
set_option linter.unusedSimpArgs false
set_option linter.unusedSectionVars false
/- ParseOrder: the law returns true for every input, and each argument reads as it did (the card that ties what the row lists). The proof: every argument counts by its remainder alone (avowhelp.Place), and each of the finitely many runs is carried out by the kernel in an abstract machine that is proved sound. -/
namespace Go.Proofs.YteefhhgjlbeiiaaDoor.parseOrder
open Go Go.AM Go.AM.S Go.Proofs Go.ChangeShapes Go.WideShapes Go.ChangeAt Go.RowKit
set_option maxRecDepth 100000
set_option linter.unusedSimpArgs false
theorem runs (a : Int) (b : Int) : ∃ m0 m1 : Int, a % 4 = m0 ∧ b % 5 = m1 ∧ S.fn Pg (kn [(0, 4, m0), (1, 5, m1)]) tbl 3000 11 [.sym 0, .sym 1] noHp = some (.val (.bool true) noHp) := by
  have h0 : a % 4 = 0 ∨ a % 4 = 1 ∨ a % 4 = 2 ∨ a % 4 = 3 := by omega
  have h1 : b % 5 = 0 ∨ b % 5 = 1 ∨ b % 5 = 2 ∨ b % 5 = 3 ∨ b % 5 = 4 := by omega
  rcases h0 with h0 | h0 | h0 | h0
  · rcases h1 with h1 | h1 | h1 | h1 | h1
    · exact ⟨_, _, h0, h1, run_R3O_0_0⟩
    · exact ⟨_, _, h0, h1, run_R3O_0_1⟩
    · exact ⟨_, _, h0, h1, run_R3O_0_2⟩
    · exact ⟨_, _, h0, h1, run_R3O_0_3⟩
    · exact ⟨_, _, h0, h1, run_R3O_0_4⟩
  · rcases h1 with h1 | h1 | h1 | h1 | h1
    · exact ⟨_, _, h0, h1, run_R3O_1_0⟩
    · exact ⟨_, _, h0, h1, run_R3O_1_1⟩
    · exact ⟨_, _, h0, h1, run_R3O_1_2⟩
    · exact ⟨_, _, h0, h1, run_R3O_1_3⟩
    · exact ⟨_, _, h0, h1, run_R3O_1_4⟩
  · rcases h1 with h1 | h1 | h1 | h1 | h1
    · exact ⟨_, _, h0, h1, run_R3O_2_0⟩
    · exact ⟨_, _, h0, h1, run_R3O_2_1⟩
    · exact ⟨_, _, h0, h1, run_R3O_2_2⟩
    · exact ⟨_, _, h0, h1, run_R3O_2_3⟩
    · exact ⟨_, _, h0, h1, run_R3O_2_4⟩
  · rcases h1 with h1 | h1 | h1 | h1 | h1
    · exact ⟨_, _, h0, h1, run_R3O_3_0⟩
    · exact ⟨_, _, h0, h1, run_R3O_3_1⟩
    · exact ⟨_, _, h0, h1, run_R3O_3_2⟩
    · exact ⟨_, _, h0, h1, run_R3O_3_3⟩
    · exact ⟨_, _, h0, h1, run_R3O_3_4⟩

theorem walk (a : Int) (b : Int) (W : World) (hg : W.cell? ⟨0, 0, none⟩ = some errT) {m : Int} (hm : W.cell? ⟨3, 0, none⟩ = some (.int .i64 m)) : Calls Tryd.prog 11 #[.int .i64 a, .int .i64 b] W fun e W' => e = .returned (.bool true) ∧ Stays W W' := by
  obtain ⟨m0, m1, e0, e1, hr⟩ := runs a b
  have hl : ∀ t ∈ [((0 : Nat), (4 : Int), m0), ((1 : Nat), (5 : Int), m1)], 0 < t.2.1 ∧ t.2.1 < 4611686018427387904 ∧ ((env2 a b) t.1).1 = .i64 ∧ ((env2 a b) t.1).2 % t.2.1 = t.2.2 := by
    intro t ht
    simp only [List.mem_cons, List.not_mem_nil, or_false] at ht
    rcases ht with rfl | rfl
    all_goals exact ⟨by simp, by simp, rfl, by assumption⟩
  letI := lay m (env2 a b)
  exact law_true m (env2 a b) hl (xs := [.int .i64 a, .int .i64 b]) hr hg hm (fun c => .cons (.sym 0) (.cons (.sym 1) (.nil c))) rfl


/-- What the runs give, for every argument and every world that holds what the row lists. -/
theorem contract (H : Type) (enc : TypeId × Value → H) (W : World) (base : Nat) (args : Array Value) (ds gs : List (DataW H)) (before : List MemPlace)
    (hval : ∀ (j : Nat) t v, Tryd.f11.params[j]? = some t → args[j]? = some v → Value.okWide Tryd.prog W .any base t v)
    (hW : DataW.Whole enc Tryd.prog Tryd.f11.params.toList Rows.parseOrderSpec.vars false W args.toList ds gs before) (hL : laidMetH Tryd.prog Rows.parseOrderRow.laid W) (hsh : W.ShapedOpen Tryd.prog) :
    Calls Tryd.prog 11 args W fun e W' => ∃ v, e = .returned v ∧ Rows.parseOrderSpec.post enc Tryd.prog Tryd.f11 false true false false W args v W' := by
  have hW' := hW
  obtain ⟨p, q, hA0, hV, rfl, hfz, hnd⟩ := hW
  have hA : DataW.TrodAll enc Tryd.prog W 0 (fun _ => true) true Tryd.f11.params.toList args.toList ds p := hA0
  rw [Tryd.params11] at hA hval
  obtain ⟨v0, vs0, d0, ds0, p0, q0, hargs, rfl, rfl, h0, r0⟩ := trodAll_cons hA
  obtain ⟨v1, vs1, d1, ds1, p1, q1, rfl, rfl, rfl, h1, r1⟩ := trodAll_cons r0
  obtain ⟨rfl, rfl, rfl⟩ := trodAll_nil r1
  obtain rfl : args = #[v0, v1] := by cases args; simp_all
  obtain ⟨rfl, rfl⟩ := trodVars_none hV
  obtain ⟨a, rfl, rfl, rfl, hw0⟩ := open_int Tryd.underlying3 (hval 0 3 v0 rfl rfl) h0
  obtain ⟨b, rfl, rfl, rfl, hw1⟩ := open_int Tryd.underlying3 (hval 1 3 v1 rfl rfl) h1
  clear hA0
  simp only [List.append_nil] at hW'
  obtain ⟨m, hm⟩ := Tryd.laysM146.s1_3 W hsh
  refine (walk a b W (handle_of_laid hL) hm).mono fun e W' ⟨he, hs⟩ => ?_
  subst he
  exact ⟨_, rfl, post_of_stays (pa := []) (pv := []) hW' (fun _ _ _ => trodAll_cons_mk (shut_bool Tryd.underlying4 _) trodAll_mk0) (fun _ _ => trodAll_cons_mk (shut_int Tryd.underlying3 hw0) (trodAll_cons_mk (shut_int Tryd.underlying3 hw1) (trodAll_mk0))) (fun _ _ => rfl) rfl
    hs (ok_one (by kernel_rfl) rfl (okWide_bool_mk Tryd.underlying4 _))⟩

theorem reads (os : Os) {H : Type} (enc : TypeId × Value → H) : ∃ places, DataW.whole enc Tryd.prog ((laidWorld os).forCall (fun _ _ => 0) ⟨#[], #[.int .i64 0, .int .i64 0], []⟩).memory Tryd.f11.params.toList Rows.parseOrderSpec.vars false #[Value.int .i64 0, Value.int .i64 0].toList 8 = some ([.lit (.int .i64 0), .lit (.int .i64 0)], [], places) :=
  ⟨[], by kernel_rfl⟩

theorem lifted (os : Os) (started : os.Started) (H : Type) (enc : TypeId × Value → H) (F : Stop.Interp) :
    ReturnsInHanded {} Tryd.checked os 11 .any ((OpenSpec.ofChange Rows.parseOrderSpec).preRow enc Tryd.prog Tryd.f11 Rows.parseOrderRow.domain false Rows.parseOrderRow.laid) (((OpenSpec.ofChange Rows.parseOrderSpec).at F).post enc Tryd.prog Tryd.f11 false true false false) := by
  obtain ⟨places, hx⟩ := reads os enc
  refine returnsInHanded_of_row (C := Tryd.checked) (s := OpenSpec.ofChange Rows.parseOrderSpec) own started (by kernel_rfl) Tryd.func11
    (witness_row_at (enc := enc) (C := Tryd.checked) false (laidWorld os) #[.int .i64 0, .int .i64 0] rfl (by kernel_rfl) (by kernel_rfl) (by kernel_rfl)
      (OpenSpec.preRow_of_cond 8 hx (by kernel_rfl) (fun k hk => by cases hk) (by kernel_rfl) (laidWorld_met os _))) ?_
  intro W base args ds gs before hval hW _ _ _ hL hsh _
  exact contract H enc W base args ds gs before hval hW hL hsh

theorem said : Rows.ParseOrderSaid :=
  OpenClaim.holds_of_cond 11 Tryd.f11 rfl rfl rfl rfl rfl rfl rfl ⟨rfl, rfl, rfl, rfl, rfl⟩ rfl rfl rfl rfl rfl (by kernel_rfl) Tryd.func11 (by kernel_rfl)
    (of_decide_eq_true (by kernel_rfl)) (by unfold Func.isWrapper; first | (rw [if_pos (by decide +kernel)]; kernel_rfl) | (rw [if_neg (by decide +kernel)]; exact ⟨rfl, rfl⟩))
    (fun os started H enc _ F => by rw [OpenClaim.pre_eq_preRow]; exact lifted os started H enc F)

theorem plain (f : FuncId) (fn : Func) (hf : Tryd.pinned.checked.prog.funcNamed "avow/avowlaw15.ParseOrder" = some f) (hfn : Tryd.pinned.checked.prog.funcs[f]? = some fn) :
    true = Tryd.pinned.checked.prog.looks [] ∧ ∀ (j : Nat) t, fn.params[j]? = some t → Tryd.pinned.checked.prog.wantsStandIn t = false := by
  obtain rfl : f = 11 := Option.some.inj ((show Tryd.prog.funcNamed "avow/avowlaw15.ParseOrder" = some 11 by kernel_rfl).symm.trans hf) |>.symm
  obtain rfl : fn = Tryd.f11 := (Option.some.inj (Tryd.func11.symm.trans hfn)).symm
  refine ⟨by kernel_rfl, fun j t ht => ?_⟩
  rw [Tryd.params11] at ht
  have h := Array.mem_of_getElem? ht
  simp at h
  subst h; exact (show Tryd.prog.wantsStandIn 3 = false by kernel_rfl)

end Go.Proofs.YteefhhgjlbeiiaaDoor.parseOrder
namespace Go.Proofs.YteefhhgjlbeiiaaDoor
/-- The card. -/
theorem parseOrder_card : Rows.ParseOrderCardSaid :=
  Claim7.holds_tied_plain_at .later [] _ _ _ _ parseOrder.said (fun _ h => by cases h) (by kernel_rfl) (fun _ h => by cases h) parseOrder_row_tie rfl ⟨rfl, rfl⟩ (by kernel_rfl) rfl parseOrder.plain (by kernel_rfl)
end Go.Proofs.YteefhhgjlbeiiaaDoor
