/- LexRunes: the law returns true for every input, and each argument reads as it did (the card that ties what the row lists). The proof: each function of the program's lexer, and of the document's, is followed once, over any text, in an abstract machine that is proved sound; a law of lists alone says that both come to the same tokens, or to the same fault at the same place. -/
import Derived.Test.YtjldfkldmfmkiaaDoorWd
import Derived.Test.YtjldfkldmfmkiaaDoorSd
set_option linter.unusedVariables false
set_option linter.unusedSimpArgs false
set_option linter.unusedSectionVars false
namespace Go.Proofs.YtjldfkldmfmkiaaDoor
open Go Go.AM Go.AM.S Go.Proofs Go.ChangeShapes Go.WideShapes Go.ChangeAt Go.RowKit NumL
theorem pk_vl : ∀ l : List UInt8, pk l = vl 256 (l.map UInt8.toNat) := by
 intro l
 induction l with
 | nil => rfl
 | cons b l ih => simp only [List.map_cons, vl, ← ih]; rfl
theorem of_sl (s : ByteArray) : Str.of s = sl (s.data.toList.map UInt8.toNat) := by
 unfold Str.of sl
 rw [pk_vl, List.length_map]
 rfl
theorem dg_bytes (l : List UInt8) : Dg 256 (l.map UInt8.toNat) := by
 intro x hx
 obtain ⟨b, _, rfl⟩ := List.mem_map.1 hx
 exact b.toNat_lt
end Go.Proofs.YtjldfkldmfmkiaaDoor
namespace Go.Proofs.YtjldfkldmfmkiaaDoor.lexRunes
open Go Go.AM Go.AM.S Go.Proofs Go.ChangeShapes Go.WideShapes Go.ChangeAt Go.RowKit NumL
open Go.ChangeMaps (open_string shut_string)
set_option maxRecDepth 100000
theorem walk (s : ByteArray) (b : Int) (r : Int) (q : Bool) (hb : 0 ≤ b ∧ b ≤ 255) (W : World) (hg : W.cell? ⟨0, 0, none⟩ = some errT) {m : Int} (hm : W.cell? ⟨3, 0, none⟩ = some (.int .i64 m)) (hT : Lib.Utf8Tabs 1 2 W) :
  Calls Tryd.prog 5 #[.string s, .int .u8 b, .int .i32 r, .bool q] W fun e W' => e = .returned (.bool true) ∧ Stays W W' := by
 obtain ⟨c, rfl⟩ : ∃ c : Nat, b = .ofNat c := ⟨b.toNat, by rw [Int.ofNat_eq_natCast]; omega⟩
 obtain ⟨n, hn⟩ := (law5 (L := []) (dg_bytes s.data.toList) (c := c) (by rw [Int.ofNat_eq_natCast] at hb; omega) r q).at
 rw [← of_sl] at hn
 letI := lay m (env2 0 0) (fun _ _ => none)
 exact law_true m (env2 0 0) (fun _ _ => none) (fun _ h => by cases h) (xs := [.string s, .int .u8 (.ofNat c), .int .i32 r, .bool q]) hn hg hm hT (fun _ _ _ h => by cases h) (.cons (.str' s) (.cons (.int _ _) (.cons (.int _ _) (.cons (.bool _) (.nil _))))) rfl
theorem contract (H : Type) (enc : TypeId × Value → H) (W : World) (base : Nat) (args : Array Value) (ds gs : List (DataW H)) (before : List MemPlace)
  (hval : ∀ (j : Nat) t v, Tryd.f5.params[j]? = some t → args[j]? = some v → Value.okWide Tryd.prog W .any base t v)
  (hW : DataW.Whole enc Tryd.prog Tryd.f5.params.toList Rows.lexRunesSpec.vars false W args.toList ds gs before) (hL : laidMetH Tryd.prog Rows.lexRunesRow.laid W) (hsh : W.ShapedOpen Tryd.prog) :
  Calls Tryd.prog 5 args W fun e W' => ∃ v, e = .returned v ∧ Rows.lexRunesSpec.post enc Tryd.prog Tryd.f5 false true false false W args v W' := by
 have hW' := hW
 obtain ⟨p, q, hA0, hV, rfl, hfz, hnd⟩ := hW
 have hA : DataW.TrodAll enc Tryd.prog W 0 (fun _ => true) true Tryd.f5.params.toList args.toList ds p := hA0
 rw [Tryd.params5] at hA hval
 obtain ⟨v0, vs0, d0, ds0, p0, q0, hargs, rfl, rfl, h0, r0⟩ := trodAll_cons hA
 obtain ⟨v1, vs1, d1, ds1, p1, q1, rfl, rfl, rfl, h1, r1⟩ := trodAll_cons r0
 obtain ⟨v2, vs2, d2, ds2, p2, q2, rfl, rfl, rfl, h2, r2⟩ := trodAll_cons r1
 obtain ⟨v3, vs3, d3, ds3, p3, q3, rfl, rfl, rfl, h3, r3⟩ := trodAll_cons r2
 obtain ⟨rfl, rfl, rfl⟩ := trodAll_nil r3
 obtain rfl : args = #[v0, v1, v2, v3] := by cases args; simp_all
 obtain ⟨rfl, rfl⟩ := trodVars_none hV
 obtain ⟨a, rfl, rfl, rfl, wa⟩ := open_string Tryd.underlying9 (hval 0 9 v0 rfl rfl) h0
 obtain ⟨b, rfl, rfl, rfl, wb⟩ := open_int Tryd.underlying5 (hval 1 5 v1 rfl rfl) h1
 obtain ⟨r, rfl, rfl, rfl, wr⟩ := open_int Tryd.underlying21 (hval 2 21 v2 rfl rfl) h2
 obtain ⟨q, rfl, rfl, rfl⟩ := open_bool Tryd.underlying4 (hval 3 4 v3 rfl rfl) h3
 clear hA0
 simp only [List.append_nil] at hW'
 obtain ⟨m, hm⟩ := Tryd.laysM146.s1_3 W hsh
 refine (walk a b r q (bounds_u8 wb) W (handle_of_laid hL) hm (tabs_of_laid hL)).mono fun e W' ⟨he, hs⟩ => ?_
 subst he
 exact ⟨_, rfl, post_of_stays (pa := []) (pv := []) hW' (fun _ _ _ => trodAll_cons_mk (shut_bool Tryd.underlying4 _) trodAll_mk0) (fun _ _ => trodAll_cons_mk (shut_string Tryd.underlying9 wa) (trodAll_cons_mk (shut_int Tryd.underlying5 wb) (trodAll_cons_mk (shut_int Tryd.underlying21 wr) (trodAll_cons_mk (shut_bool Tryd.underlying4 _) (trodAll_mk0))))) (fun _ _ => rfl) rfl
  hs (ok_one (by kernel_rfl) rfl (okWide_bool_mk Tryd.underlying4 _))⟩
theorem reads (os : Os) {H : Type} (enc : TypeId × Value → H) : ∃ places, DataW.whole enc Tryd.prog ((laidWorld os).forCall (fun _ _ => 0) ⟨#[], #[.string ⟨#[]⟩, .int .u8 0, .int .i32 0, .bool false], []⟩).memory Tryd.f5.params.toList Rows.lexRunesSpec.vars false #[Value.string ⟨#[]⟩, Value.int .u8 0, Value.int .i32 0, Value.bool false].toList 8 = some ([.lit (.string []), .lit (.int .u8 0), .lit (.int .i32 0), .lit (.bool false)], [], places) :=
 ⟨[], by kernel_rfl⟩
theorem lifted (os : Os) (started : os.Started) (H : Type) (enc : TypeId × Value → H) (F : Stop.Interp) :
  ReturnsInHanded {} Tryd.checked os 5 .any ((OpenSpec.ofChange Rows.lexRunesSpec).preRow enc Tryd.prog Tryd.f5 Rows.lexRunesRow.domain false Rows.lexRunesRow.laid) (((OpenSpec.ofChange Rows.lexRunesSpec).at F).post enc Tryd.prog Tryd.f5 false true false false) := by
 obtain ⟨places, hx⟩ := reads os enc
 refine returnsInHanded_of_row (C := Tryd.checked) (s := OpenSpec.ofChange Rows.lexRunesSpec) own started (by kernel_rfl) Tryd.func5
  (witness_row_at (enc := enc) (C := Tryd.checked) false (laidWorld os) #[.string ⟨#[]⟩, .int .u8 0, .int .i32 0, .bool false] rfl (by kernel_rfl) (by kernel_rfl) (by kernel_rfl)
   (OpenSpec.preRow_of_cond 8 hx (by kernel_rfl) (fun k hk => by cases hk) (by kernel_rfl) (laidWorld_met os _))) ?_
 intro W base args ds gs before hval hW _ _ _ hL hsh _
 exact contract H enc W base args ds gs before hval hW hL hsh
theorem said : Rows.LexRunesSaid :=
 OpenClaim.holds_of_cond 5 Tryd.f5 rfl rfl rfl rfl rfl rfl rfl ⟨rfl, rfl, rfl, rfl, rfl⟩ rfl rfl rfl rfl rfl (by kernel_rfl) Tryd.func5 (by kernel_rfl)
  (of_decide_eq_true (by kernel_rfl)) (by unfold Func.isWrapper; first | (rw [if_pos (by decide +kernel)]; kernel_rfl) | (rw [if_neg (by decide +kernel)]; exact ⟨rfl, rfl⟩))
  (fun os started H enc _ F => by rw [OpenClaim.pre_eq_preRow]; exact lifted os started H enc F)
theorem plain (f : FuncId) (fn : Func) (hf : Tryd.pinned.checked.prog.funcNamed "avow/avowlaw14.LexRunes" = some f) (hfn : Tryd.pinned.checked.prog.funcs[f]? = some fn) :
  true = Tryd.pinned.checked.prog.looks [] ∧ ∀ (j : Nat) t, fn.params[j]? = some t → Tryd.pinned.checked.prog.wantsStandIn t = false := by
 obtain rfl : f = 5 := Option.some.inj ((show Tryd.prog.funcNamed "avow/avowlaw14.LexRunes" = some 5 by kernel_rfl).symm.trans hf) |>.symm
 obtain rfl : fn = Tryd.f5 := (Option.some.inj (Tryd.func5.symm.trans hfn)).symm
 refine ⟨by kernel_rfl, fun j t ht => ?_⟩
 rw [Tryd.params5] at ht
 have h := Array.mem_of_getElem? ht
 simp at h
 rcases h with rfl | rfl | rfl | rfl
 ·exact (show Tryd.prog.wantsStandIn 9 = false by kernel_rfl)
 ·exact (show Tryd.prog.wantsStandIn 5 = false by kernel_rfl)
 ·exact (show Tryd.prog.wantsStandIn 21 = false by kernel_rfl)
 ·exact (show Tryd.prog.wantsStandIn 4 = false by kernel_rfl)
end Go.Proofs.YtjldfkldmfmkiaaDoor.lexRunes
namespace Go.Proofs.YtjldfkldmfmkiaaDoor
theorem lexRunes_card : Rows.LexRunesCardSaid :=
 Claim7.holds_tied_plain_at .later [] _ _ _ _ lexRunes.said (fun _ h => by cases h) (by kernel_rfl) (fun _ h => by cases h) lexRunes_row_tie rfl ⟨rfl, rfl⟩ (by kernel_rfl) rfl lexRunes.plain (by kernel_rfl)
end Go.Proofs.YtjldfkldmfmkiaaDoor
