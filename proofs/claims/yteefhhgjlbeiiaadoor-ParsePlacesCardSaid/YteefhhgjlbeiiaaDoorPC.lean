/- Part PC of the proof: what it says stands at its theorems. -/
import Derived.Test.YteefhhgjlbeiiaaDoorP0
import Derived.Test.YteefhhgjlbeiiaaDoorP1
import Derived.Test.YteefhhgjlbeiiaaDoorP2
import Derived.Test.YteefhhgjlbeiiaaDoorP3
import Derived.Test.YteefhhgjlbeiiaaDoorP4
import Derived.Test.YteefhhgjlbeiiaaDoorP5
set_option linter.unusedVariables false
set_option linter.unusedSimpArgs false
set_option linter.unusedSectionVars false
/- ParsePlaces: the law returns true for every input, and each argument reads as it did (the card that ties what the row lists). The proof: every argument counts by its remainder alone (avowhelp.Place), and each of the finitely many runs is carried out by the kernel in an abstract machine that is proved sound. -/
namespace Go.Proofs.YteefhhgjlbeiiaaDoor.parsePlaces
open Go Go.AM Go.AM.S Go.Proofs Go.ChangeShapes Go.WideShapes Go.ChangeAt Go.RowKit
set_option maxRecDepth 100000
set_option linter.unusedSimpArgs false
theorem runs (a : Int) : ∃ m0 : Int, a % 50 = m0 ∧ S.fn Pg (kn [(0, 50, m0)]) tbl 3000 10 [.sym 0] noHp = some (.val (.bool true) noHp) := by
  have h0 : a % 50 = 0 ∨ a % 50 = 1 ∨ a % 50 = 2 ∨ a % 50 = 3 ∨ a % 50 = 4 ∨ a % 50 = 5 ∨ a % 50 = 6 ∨ a % 50 = 7 ∨ a % 50 = 8 ∨ a % 50 = 9 ∨ a % 50 = 10 ∨ a % 50 = 11 ∨ a % 50 = 12 ∨ a % 50 = 13 ∨ a % 50 = 14 ∨ a % 50 = 15 ∨ a % 50 = 16 ∨ a % 50 = 17 ∨ a % 50 = 18 ∨ a % 50 = 19 ∨ a % 50 = 20 ∨ a % 50 = 21 ∨ a % 50 = 22 ∨ a % 50 = 23 ∨ a % 50 = 24 ∨ a % 50 = 25 ∨ a % 50 = 26 ∨ a % 50 = 27 ∨ a % 50 = 28 ∨ a % 50 = 29 ∨ a % 50 = 30 ∨ a % 50 = 31 ∨ a % 50 = 32 ∨ a % 50 = 33 ∨ a % 50 = 34 ∨ a % 50 = 35 ∨ a % 50 = 36 ∨ a % 50 = 37 ∨ a % 50 = 38 ∨ a % 50 = 39 ∨ a % 50 = 40 ∨ a % 50 = 41 ∨ a % 50 = 42 ∨ a % 50 = 43 ∨ a % 50 = 44 ∨ a % 50 = 45 ∨ a % 50 = 46 ∨ a % 50 = 47 ∨ a % 50 = 48 ∨ a % 50 = 49 := by omega
  rcases h0 with h0 | h0 | h0 | h0 | h0 | h0 | h0 | h0 | h0 | h0 | h0 | h0 | h0 | h0 | h0 | h0 | h0 | h0 | h0 | h0 | h0 | h0 | h0 | h0 | h0 | h0 | h0 | h0 | h0 | h0 | h0 | h0 | h0 | h0 | h0 | h0 | h0 | h0 | h0 | h0 | h0 | h0 | h0 | h0 | h0 | h0 | h0 | h0 | h0 | h0
  · exact ⟨_, h0, run_R3P_0⟩
  · exact ⟨_, h0, run_R3P_1⟩
  · exact ⟨_, h0, run_R3P_2⟩
  · exact ⟨_, h0, run_R3P_3⟩
  · exact ⟨_, h0, run_R3P_4⟩
  · exact ⟨_, h0, run_R3P_5⟩
  · exact ⟨_, h0, run_R3P_6⟩
  · exact ⟨_, h0, run_R3P_7⟩
  · exact ⟨_, h0, run_R3P_8⟩
  · exact ⟨_, h0, run_R3P_9⟩
  · exact ⟨_, h0, run_R3P_10⟩
  · exact ⟨_, h0, run_R3P_11⟩
  · exact ⟨_, h0, run_R3P_12⟩
  · exact ⟨_, h0, run_R3P_13⟩
  · exact ⟨_, h0, run_R3P_14⟩
  · exact ⟨_, h0, run_R3P_15⟩
  · exact ⟨_, h0, run_R3P_16⟩
  · exact ⟨_, h0, run_R3P_17⟩
  · exact ⟨_, h0, run_R3P_18⟩
  · exact ⟨_, h0, run_R3P_19⟩
  · exact ⟨_, h0, run_R3P_20⟩
  · exact ⟨_, h0, run_R3P_21⟩
  · exact ⟨_, h0, run_R3P_22⟩
  · exact ⟨_, h0, run_R3P_23⟩
  · exact ⟨_, h0, run_R3P_24⟩
  · exact ⟨_, h0, run_R3P_25⟩
  · exact ⟨_, h0, run_R3P_26⟩
  · exact ⟨_, h0, run_R3P_27⟩
  · exact ⟨_, h0, run_R3P_28⟩
  · exact ⟨_, h0, run_R3P_29⟩
  · exact ⟨_, h0, run_R3P_30⟩
  · exact ⟨_, h0, run_R3P_31⟩
  · exact ⟨_, h0, run_R3P_32⟩
  · exact ⟨_, h0, run_R3P_33⟩
  · exact ⟨_, h0, run_R3P_34⟩
  · exact ⟨_, h0, run_R3P_35⟩
  · exact ⟨_, h0, run_R3P_36⟩
  · exact ⟨_, h0, run_R3P_37⟩
  · exact ⟨_, h0, run_R3P_38⟩
  · exact ⟨_, h0, run_R3P_39⟩
  · exact ⟨_, h0, run_R3P_40⟩
  · exact ⟨_, h0, run_R3P_41⟩
  · exact ⟨_, h0, run_R3P_42⟩
  · exact ⟨_, h0, run_R3P_43⟩
  · exact ⟨_, h0, run_R3P_44⟩
  · exact ⟨_, h0, run_R3P_45⟩
  · exact ⟨_, h0, run_R3P_46⟩
  · exact ⟨_, h0, run_R3P_47⟩
  · exact ⟨_, h0, run_R3P_48⟩
  · exact ⟨_, h0, run_R3P_49⟩

theorem walk (a : Int) (W : World) (hg : W.cell? ⟨0, 0, none⟩ = some errT) {m : Int} (hm : W.cell? ⟨3, 0, none⟩ = some (.int .i64 m)) : Calls Tryd.prog 10 #[.int .i64 a] W fun e W' => e = .returned (.bool true) ∧ Stays W W' := by
  obtain ⟨m0, e0, hr⟩ := runs a
  have hl : ∀ t ∈ [((0 : Nat), (50 : Int), m0)], 0 < t.2.1 ∧ t.2.1 < 4611686018427387904 ∧ ((fun _ => (IntKind.i64, a)) t.1).1 = .i64 ∧ ((fun _ => (IntKind.i64, a)) t.1).2 % t.2.1 = t.2.2 := by
    intro t ht
    simp only [List.mem_cons, List.not_mem_nil, or_false] at ht
    rcases ht with rfl
    all_goals exact ⟨by simp, by simp, rfl, by assumption⟩
  letI := lay m (fun _ => (IntKind.i64, a))
  exact law_true m (fun _ => (IntKind.i64, a)) hl (xs := [.int .i64 a]) hr hg hm (fun c => .cons (.sym 0) (.nil c)) rfl


/-- What the runs give, for every argument and every world that holds what the row lists. -/
theorem contract (H : Type) (enc : TypeId × Value → H) (W : World) (base : Nat) (args : Array Value) (ds gs : List (DataW H)) (before : List MemPlace)
    (hval : ∀ (j : Nat) t v, Tryd.f10.params[j]? = some t → args[j]? = some v → Value.okWide Tryd.prog W .any base t v)
    (hW : DataW.Whole enc Tryd.prog Tryd.f10.params.toList Rows.parsePlacesSpec.vars false W args.toList ds gs before) (hL : laidMetH Tryd.prog Rows.parsePlacesRow.laid W) (hsh : W.ShapedOpen Tryd.prog) :
    Calls Tryd.prog 10 args W fun e W' => ∃ v, e = .returned v ∧ Rows.parsePlacesSpec.post enc Tryd.prog Tryd.f10 false true false false W args v W' := by
  have hW' := hW
  obtain ⟨p, q, hA0, hV, rfl, hfz, hnd⟩ := hW
  have hA : DataW.TrodAll enc Tryd.prog W 0 (fun _ => true) true Tryd.f10.params.toList args.toList ds p := hA0
  rw [Tryd.params10] at hA hval
  obtain ⟨v0, vs0, d0, ds0, p0, q0, hargs, rfl, rfl, h0, r0⟩ := trodAll_cons hA
  obtain ⟨rfl, rfl, rfl⟩ := trodAll_nil r0
  obtain rfl : args = #[v0] := by cases args; simp_all
  obtain ⟨rfl, rfl⟩ := trodVars_none hV
  obtain ⟨a, rfl, rfl, rfl, hw0⟩ := open_int Tryd.underlying3 (hval 0 3 v0 rfl rfl) h0
  clear hA0
  simp only [List.append_nil] at hW'
  obtain ⟨m, hm⟩ := Tryd.laysM146.s1_3 W hsh
  refine (walk a W (handle_of_laid hL) hm).mono fun e W' ⟨he, hs⟩ => ?_
  subst he
  exact ⟨_, rfl, post_of_stays (pa := []) (pv := []) hW' (fun _ _ _ => trodAll_cons_mk (shut_bool Tryd.underlying4 _) trodAll_mk0) (fun _ _ => trodAll_cons_mk (shut_int Tryd.underlying3 hw0) (trodAll_mk0)) (fun _ _ => rfl) rfl
    hs (ok_one (by kernel_rfl) rfl (okWide_bool_mk Tryd.underlying4 _))⟩

theorem reads (os : Os) {H : Type} (enc : TypeId × Value → H) : ∃ places, DataW.whole enc Tryd.prog ((laidWorld os).forCall (fun _ _ => 0) ⟨#[], #[.int .i64 0], []⟩).memory Tryd.f10.params.toList Rows.parsePlacesSpec.vars false #[Value.int .i64 0].toList 8 = some ([.lit (.int .i64 0)], [], places) :=
  ⟨[], by kernel_rfl⟩

theorem lifted (os : Os) (started : os.Started) (H : Type) (enc : TypeId × Value → H) (F : Stop.Interp) :
    ReturnsInHanded {} Tryd.checked os 10 .any ((OpenSpec.ofChange Rows.parsePlacesSpec).preRow enc Tryd.prog Tryd.f10 Rows.parsePlacesRow.domain false Rows.parsePlacesRow.laid) (((OpenSpec.ofChange Rows.parsePlacesSpec).at F).post enc Tryd.prog Tryd.f10 false true false false) := by
  obtain ⟨places, hx⟩ := reads os enc
  refine returnsInHanded_of_row (C := Tryd.checked) (s := OpenSpec.ofChange Rows.parsePlacesSpec) own started (by kernel_rfl) Tryd.func10
    (witness_row_at (enc := enc) (C := Tryd.checked) false (laidWorld os) #[.int .i64 0] rfl (by kernel_rfl) (by kernel_rfl) (by kernel_rfl)
      (OpenSpec.preRow_of_cond 8 hx (by kernel_rfl) (fun k hk => by cases hk) (by kernel_rfl) (laidWorld_met os _))) ?_
  intro W base args ds gs before hval hW _ _ _ hL hsh _
  exact contract H enc W base args ds gs before hval hW hL hsh

theorem said : Rows.ParsePlacesSaid :=
  OpenClaim.holds_of_cond 10 Tryd.f10 rfl rfl rfl rfl rfl rfl rfl ⟨rfl, rfl, rfl, rfl, rfl⟩ rfl rfl rfl rfl rfl (by kernel_rfl) Tryd.func10 (by kernel_rfl)
    (of_decide_eq_true (by kernel_rfl)) (by unfold Func.isWrapper; first | (rw [if_pos (by decide +kernel)]; kernel_rfl) | (rw [if_neg (by decide +kernel)]; exact ⟨rfl, rfl⟩))
    (fun os started H enc _ F => by rw [OpenClaim.pre_eq_preRow]; exact lifted os started H enc F)

theorem plain (f : FuncId) (fn : Func) (hf : Tryd.pinned.checked.prog.funcNamed "avow/avowlaw15.ParsePlaces" = some f) (hfn : Tryd.pinned.checked.prog.funcs[f]? = some fn) :
    true = Tryd.pinned.checked.prog.looks [] ∧ ∀ (j : Nat) t, fn.params[j]? = some t → Tryd.pinned.checked.prog.wantsStandIn t = false := by
  obtain rfl : f = 10 := Option.some.inj ((show Tryd.prog.funcNamed "avow/avowlaw15.ParsePlaces" = some 10 by kernel_rfl).symm.trans hf) |>.symm
  obtain rfl : fn = Tryd.f10 := (Option.some.inj (Tryd.func10.symm.trans hfn)).symm
  refine ⟨by kernel_rfl, fun j t ht => ?_⟩
  rw [Tryd.params10] at ht
  have h := Array.mem_of_getElem? ht
  simp at h
  subst h; exact (show Tryd.prog.wantsStandIn 3 = false by kernel_rfl)

end Go.Proofs.YteefhhgjlbeiiaaDoor.parsePlaces
namespace Go.Proofs.YteefhhgjlbeiiaaDoor
/-- The card. -/
theorem parsePlaces_card : Rows.ParsePlacesCardSaid :=
  Claim7.holds_tied_plain_at .later [] _ _ _ _ parsePlaces.said (fun _ h => by cases h) (by kernel_rfl) (fun _ h => by cases h) parsePlaces_row_tie rfl ⟨rfl, rfl⟩ (by kernel_rfl) rfl parsePlaces.plain (by kernel_rfl)
end Go.Proofs.YteefhhgjlbeiiaaDoor
