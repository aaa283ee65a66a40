/- Part BC of the proof: what it says stands at its theorems. -/
import Derived.Test.YtjldfkldmfmkiaaDoorWd
set_option linter.unusedVariables false
set_option linter.unusedSimpArgs false
set_option linter.unusedSectionVars false
/- LexBounds: the law returns true for every input, and each argument reads as it did (the card that ties what the row lists). The proof: each argument counts by its remainder alone (avowhelp.Place); the digits' ten texts are read by the kernel in an abstract machine that is proved sound; the text of blanks, as long as may be, is followed by hand, whatever its length. -/
namespace Go.Proofs.YtjldfkldmfmkiaaDoor.lexBounds
open Go Go.AM Go.AM.S Go.Proofs Go.ChangeShapes Go.WideShapes Go.ChangeAt Go.RowKit
set_option maxRecDepth 100000
set_option linter.unusedSimpArgs false
theorem walk (a : Int) (b : Int) (q2 : Bool) (W : World) (hg : W.cell? ⟨0, 0, none⟩ = some errT) {m : Int} (hm : W.cell? ⟨3, 0, none⟩ = some (.int .i64 m)) : Calls Tryd.prog 6 #[.int .i64 a, .int .i64 b, .bool q2] W fun e W' => e = .returned (.bool true) ∧ Stays W W' := by
  obtain ⟨x, hx, ex⟩ : ∃ x : Nat, x < 5 ∧ a % 5 = .ofNat x := ⟨(a % 5).toNat, by omega, by rw [Int.ofNat_eq_natCast]; omega⟩
  obtain ⟨y, hy, ey⟩ : ∃ y : Nat, y < 5 ∧ b % 5 = .ofNat y := ⟨(b % 5).toNat, by omega, by rw [Int.ofNat_eq_natCast]; omega⟩
  obtain ⟨N, hr⟩ := (lexBounds_run x y hx hy q2).at
  have hl : ∀ t ∈ [((0 : Nat), (5 : Int), (.ofNat x : Int)), ((1 : Nat), (5 : Int), (.ofNat y : Int))], 0 < t.2.1 ∧ t.2.1 < 4611686018427387904 ∧ ((env2 a b) t.1).1 = .i64 ∧ ((env2 a b) t.1).2 % t.2.1 = t.2.2 := by
    intro t ht
    simp only [List.mem_cons, List.not_mem_nil, or_false] at ht
    rcases ht with rfl | rfl
    all_goals exact ⟨by simp, by simp, rfl, by assumption⟩
  letI := lay m (env2 a b)
  exact law_true m (env2 a b) hl (xs := [.int .i64 a, .int .i64 b, .bool q2]) hr hg hm (fun c => .cons (.sym 0) (.cons (.sym 1) (.cons (.bool _) (.nil c)))) rfl

/-- What the runs give, for every argument and every world that holds what the row lists. -/
theorem contract (H : Type) (enc : TypeId × Value → H) (W : World) (base : Nat) (args : Array Value) (ds gs : List (DataW H)) (before : List MemPlace)
    (hval : ∀ (j : Nat) t v, Tryd.f6.params[j]? = some t → args[j]? = some v → Value.okWide Tryd.prog W .any base t v)
    (hW : DataW.Whole enc Tryd.prog Tryd.f6.params.toList Rows.lexBoundsSpec.vars false W args.toList ds gs before) (hL : laidMetH Tryd.prog Rows.lexBoundsRow.laid W) (hsh : W.ShapedOpen Tryd.prog) :
    Calls Tryd.prog 6 args W fun e W' => ∃ v, e = .returned v ∧ Rows.lexBoundsSpec.post enc Tryd.prog Tryd.f6 false true false false W args v W' := by
  have hW' := hW
  obtain ⟨p, q, hA0, hV, rfl, hfz, hnd⟩ := hW
  have hA : DataW.TrodAll enc Tryd.prog W 0 (fun _ => true) true Tryd.f6.params.toList args.toList ds p := hA0
  rw [Tryd.params6] at hA hval
  obtain ⟨v0, vs0, d0, ds0, p0, q0, hargs, rfl, rfl, h0, r0⟩ := trodAll_cons hA
  obtain ⟨v1, vs1, d1, ds1, p1, q1, rfl, rfl, rfl, h1, r1⟩ := trodAll_cons r0
  obtain ⟨v2, vs2, d2, ds2, p2, q2, rfl, rfl, rfl, h2, r2⟩ := trodAll_cons r1
  obtain ⟨rfl, rfl, rfl⟩ := trodAll_nil r2
  obtain rfl : args = #[v0, v1, v2] := by cases args; simp_all
  obtain ⟨rfl, rfl⟩ := trodVars_none hV
  obtain ⟨a, rfl, rfl, rfl, hw0⟩ := open_int Tryd.underlying3 (hval 0 3 v0 rfl rfl) h0
  obtain ⟨b, rfl, rfl, rfl, hw1⟩ := open_int Tryd.underlying3 (hval 1 3 v1 rfl rfl) h1
  obtain ⟨q2, rfl, rfl, rfl⟩ := open_bool Tryd.underlying4 (hval 2 4 v2 rfl rfl) h2
  clear hA0
  simp only [List.append_nil] at hW'
  obtain ⟨m, hm⟩ := Tryd.laysM146.s1_3 W hsh
  refine (walk a b q2 W (handle_of_laid hL) hm).mono fun e W' ⟨he, hs⟩ => ?_
  subst he
  exact ⟨_, rfl, post_of_stays (pa := []) (pv := []) hW' (fun _ _ _ => trodAll_cons_mk (shut_bool Tryd.underlying4 _) trodAll_mk0) (fun _ _ => trodAll_cons_mk (shut_int Tryd.underlying3 hw0) (trodAll_cons_mk (shut_int Tryd.underlying3 hw1) (trodAll_cons_mk (shut_bool Tryd.underlying4 _) (trodAll_mk0)))) (fun _ _ => rfl) rfl
    hs (ok_one (by kernel_rfl) rfl (okWide_bool_mk Tryd.underlying4 _))⟩

theorem reads (os : Os) {H : Type} (enc : TypeId × Value → H) : ∃ places, DataW.whole enc Tryd.prog ((laidWorld os).forCall (fun _ _ => 0) ⟨#[], #[.int .i64 0, .int .i64 0, .bool false], []⟩).memory Tryd.f6.params.toList Rows.lexBoundsSpec.vars false #[Value.int .i64 0, Value.int .i64 0, Value.bool false].toList 8 = some ([.lit (.int .i64 0), .lit (.int .i64 0), .lit (.bool false)], [], places) :=
  ⟨[], by kernel_rfl⟩

theorem lifted (os : Os) (started : os.Started) (H : Type) (enc : TypeId × Value → H) (F : Stop.Interp) :
    ReturnsInHanded {} Tryd.checked os 6 .any ((OpenSpec.ofChange Rows.lexBoundsSpec).preRow enc Tryd.prog Tryd.f6 Rows.lexBoundsRow.domain false Rows.lexBoundsRow.laid) (((OpenSpec.ofChange Rows.lexBoundsSpec).at F).post enc Tryd.prog Tryd.f6 false true false false) := by
  obtain ⟨places, hx⟩ := reads os enc
  refine returnsInHanded_of_row (C := Tryd.checked) (s := OpenSpec.ofChange Rows.lexBoundsSpec) own started (by kernel_rfl) Tryd.func6
    (witness_row_at (enc := enc) (C := Tryd.checked) false (laidWorld os) #[.int .i64 0, .int .i64 0, .bool false] rfl (by kernel_rfl) (by kernel_rfl) (by kernel_rfl)
      (OpenSpec.preRow_of_cond 8 hx (by kernel_rfl) (fun k hk => by cases hk) (by kernel_rfl) (laidWorld_met os _))) ?_
  intro W base args ds gs before hval hW _ _ _ hL hsh _
  exact contract H enc W base args ds gs before hval hW hL hsh

theorem said : Rows.LexBoundsSaid :=
  OpenClaim.holds_of_cond 6 Tryd.f6 rfl rfl rfl rfl rfl rfl rfl ⟨rfl, rfl, rfl, rfl, rfl⟩ rfl rfl rfl rfl rfl (by kernel_rfl) Tryd.func6 (by kernel_rfl)
    (of_decide_eq_true (by kernel_rfl)) (by unfold Func.isWrapper; first | (rw [if_pos (by decide +kernel)]; kernel_rfl) | (rw [if_neg (by decide +kernel)]; exact ⟨rfl, rfl⟩))
    (fun os started H enc _ F => by rw [OpenClaim.pre_eq_preRow]; exact lifted os started H enc F)

theorem plain (f : FuncId) (fn : Func) (hf : Tryd.pinned.checked.prog.funcNamed "avow/avowlaw14.LexBounds" = some f) (hfn : Tryd.pinned.checked.prog.funcs[f]? = some fn) :
    true = Tryd.pinned.checked.prog.looks [] ∧ ∀ (j : Nat) t, fn.params[j]? = some t → Tryd.pinned.checked.prog.wantsStandIn t = false := by
  obtain rfl : f = 6 := Option.some.inj ((show Tryd.prog.funcNamed "avow/avowlaw14.LexBounds" = some 6 by kernel_rfl).symm.trans hf) |>.symm
  obtain rfl : fn = Tryd.f6 := (Option.some.inj (Tryd.func6.symm.trans hfn)).symm
  refine ⟨by kernel_rfl, fun j t ht => ?_⟩
  rw [Tryd.params6] at ht
  have h := Array.mem_of_getElem? ht
  simp at h
  rcases h with rfl | rfl
  · exact (show Tryd.prog.wantsStandIn 4 = false by kernel_rfl)
  · exact (show Tryd.prog.wantsStandIn 3 = false by kernel_rfl)

end Go.Proofs.YtjldfkldmfmkiaaDoor.lexBounds
namespace Go.Proofs.YtjldfkldmfmkiaaDoor
/-- The card. -/
theorem lexBounds_card : Rows.LexBoundsCardSaid :=
  Claim7.holds_tied_plain_at .later [] _ _ _ _ lexBounds.said (fun _ h => by cases h) (by kernel_rfl) (fun _ h => by cases h) lexBounds_row_tie rfl ⟨rfl, rfl⟩ (by kernel_rfl) rfl lexBounds.plain (by kernel_rfl)
end Go.Proofs.YtjldfkldmfmkiaaDoor
