/- NumPowers: for every row of bytes and either truth the law avowlaw1.NumPowers returns true, and each argument reads as it did; there is no condition. The proof: the program is walked once, function by function, in an abstract machine that is proved sound, and what it reckons are whole numbers. -/
import Derived.Test.YtooliddjiiilfaaNpA4
import Derived.Test.YtooliddjiiilfaaNpA3
import Derived.Test.YtooliddjiiilfaaRows
import Derived.ProofKit
import Derived.OpenShut
set_option linter.unusedVariables false
set_option linter.unusedSimpArgs false
set_option linter.unusedSectionVars false
namespace Go.Proofs.Ytooliddjiiilfaa
open Go Go.AM Go.AM.S Go.Proofs Go.ChangeShapes Go.WideShapes Go.ChangeAt Go.RowKit NumL
set_option maxRecDepth 100000
theorem Try.own : ownKnob Try.prog.godebug = none := by kernel_rfl
theorem top_trueL [Laid] {P : Program} {call : CallF} (hC : CallOk P call) {f : FuncId} {args : List V} {h : Hp} (hr : call f args noHp = some (.val (.bool true) h)) {W : World} {xs : List Value}
  (hargs : RelL topCtx args xs) (hnl : V.noLocL args = true) (hl : ∀ b o x, Laid.cells b o = some x → W.cell? ⟨b, o, none⟩ = some x) :
  Calls P f xs.toArray W fun e W' => e = .returned (.bool true) ∧ Stays W W' := by
 have hrow : ∀ r row, getRow (⟨.lf, .lf, noHp⟩ : St) r = some row → row = .gone := by
  intro r row hr
  cases r with
  | loc s g =>
   rw [Go.AM.getRow_loc] at hr
   have : (⟨.lf, .lf, noHp⟩ : St).lc s = (0, .gone) := aget_lf _ _
   rw [this] at hr
   split at hr
   ·simpa using hr.symm
   ·simp at hr
  | glob r => simp [getRow, noHp] at hr
 have hblk : ∀ r, (topCtx).blk r = none := fun r => by cases r <;> rfl
 have hW : WRel topCtx ⟨.lf, .lf, noHp⟩ W := by
  refine ⟨fun b o x hx => hl b o x hx, fun r row hr => ?_, fun r1 r2 row1 row2 b g1 g2 n1 n2 => absurd (hrow _ _ g1) n1, fun _ _ => rfl, fun _ _ _ => rfl, fun r b hb => ?_, fun r n hn => ?_, fun b n hn => ?_⟩
  ·rw [hrow r row hr]; trivial
  ·rw [hblk] at hb; simp at hb
  ·simp [topCtx] at hn
  ·simp [topCtx] at hn
 obtain ⟨_, hc⟩ := hC f args noHp _ hr topCtx W ⟨.lf, .lf, noHp⟩ xs rfl hW (fun r frz cs hr => by simp [noHp] at hr) hargs hnl (fun _ _ _ h => h)
 refine hc.mono (fun e W' he => ?_)
 cases e with
 | returned x =>
  obtain ⟨c', r⟩ := he
  have hno : ∀ b, ¬ Own topCtx ⟨.lf, .lf, noHp⟩ b := fun b ⟨r, row, h1, h2, _⟩ => h2 (hrow r row h1)
  have hx := r.rel.bool_inv
  exact ⟨by rw [hx], ⟨r.keep.os, r.keep.output, r.keep.size, fun i hi => r.keep.block i hi (hno i)⟩⟩
 | panicked ch => exact he.elim
 | outgrown => exact he.elim
@[reducible] def layAt (W : World) (b off len : Nat) : Laid := ⟨fun _ => (.i64, 0), fun bb o => if bb = b ∧ off ≤ o ∧ o < off + len then W.cell? ⟨b, o, none⟩ else none⟩
theorem knL (L : Laid) : @KnownOk L Pg kn0 := by
 letI := L
 exact ⟨(fun f k h => by cases h), (fun f k h => by cases h)⟩
theorem rel_bytes (W : World) (b off len cap : Nat) (zs : List Int) (hl : len ≤ zs.length) (hc : len ≤ cap) (hcell : ∀ i, i < zs.length → W.cell? ⟨b, off + i, none⟩ = some (.int .u8 (zs.getD i 0))) (hz : ∀ n ∈ zs, 0 ≤ n) :
  letI := layAt W b off len
  Rel topCtx (.slice none false 1 (nl .u8 ((zs.take len).map Int.toNat))) (.slice (some ⟨b, off, none⟩) len cap) := by
 letI := layAt W b off len
 have e : len = (nl .u8 ((zs.take len).map Int.toNat)).length := by rw [nl_length]; simp; omega
 have key : Rel topCtx (.slice none false 1 (nl .u8 ((zs.take len).map Int.toNat))) (.slice (some ⟨b, off, none⟩) (nl .u8 ((zs.take len).map Int.toNat)).length cap) := by
  refine Rel.slice none false 1 _ b off cap ((zs.take len).map fun n => .int .u8 n) ?_ ?_ ?_ ?_ ?_ (by omega) (fun h => by cases h) (fun r h => by cases h)
  ·intro v hv
   obtain ⟨n, _, rfl⟩ := List.mem_map.1 hv
   rfl
  ·rw [flat_nl, nl_length]; simp
  ·intro i x hx
   rw [List.getElem?_map] at hx
   cases hq : (zs.take len)[i]? with
   | none => rw [hq] at hx; simp at hx
   | some n =>
    rw [hq] at hx
    simp only [Option.map_some, Option.some.injEq] at hx
    subst hx
    have hi : i < (zs.take len).length := (List.getElem?_eq_some_iff.1 hq).1
    have hi2 : i < len := by simp at hi; omega
    show (if b = b ∧ off ≤ off + i ∧ off + i < off + len then W.cell? ⟨b, off + i, none⟩ else none) = _
    rw [if_pos ⟨rfl, by omega, by omega⟩, hcell i (by omega)]
    have : zs.getD i 0 = n := by
     rw [List.getElem?_take] at hq
     rw [if_pos hi2] at hq
     rw [List.getD_eq_getElem?_getD, hq]; rfl
    rw [this]
  ·intro i v x hv hx
   rw [flat_nl] at hv
   rw [List.getElem?_map] at hx
   unfold nl at hv
   rw [List.getElem?_map, List.getElem?_map] at hv
   cases hq : (zs.take len)[i]? with
   | none => rw [hq] at hx; simp at hx
   | some n =>
    rw [hq] at hx hv
    simp only [Option.map_some, Option.some.injEq] at hx hv
    subst hx; subst hv
    have hn : 0 ≤ n := hz n (List.mem_of_mem_take (List.mem_of_getElem? hq))
    have e2 : (Int.ofNat n.toNat) = n := Int.toNat_of_nonneg hn
    rw [e2]
    exact .int .u8 n
  ·rw [flat_nl]; exact noRefsL_nl _ _
 rwa [← e] at key
theorem numPowers_walk (W : World) (L : Laid) (v : V) (x : Value) (ds : List Nat) (ng : Bool) (hv : Sl .u8 v ds) (hd : Dg 256 ds) (hrel : @Rel L (@topCtx L) v x) (hl : ∀ b o x, L.cells b o = some x → W.cell? ⟨b, o, none⟩ = some x) :
  Calls Try.prog 5 #[x, .bool ng] W fun e W' => e = .returned (.bool true) ∧ Stays W W' := by
 obtain ⟨n, hn⟩ := (law5 hv hd ng).at
 letI := L
 rw [seat_eq] at hn
 exact top_trueL (xs := [x, .bool ng]) (fnV_sound prog_ok (knL L) n) hn (.cons hrel (.cons (.bool ng) (.nil _))) (by rcases hv with ⟨f, rfl⟩ | ⟨rfl, _⟩ <;> rfl) hl
theorem stays_cell {W W' : World} (h : Stays W W') {b o : Nat} {x : Value} (hx : W.cell? ⟨b, o, none⟩ = some x) : W'.cell? ⟨b, o, none⟩ = some x := by
 have hb : b < W.heap.size := by
  rcases Nat.lt_or_ge b W.heap.size with h1 | h1
  ·exact h1
  ·unfold World.cell? at hx
   simp only [Array.getElem?_eq_none h1] at hx
   simp at hx
 unfold World.cell? at hx ⊢
 simp only [h.heap b hb]
 exact hx
set_option maxRecDepth 100000 in
theorem numPowers_lifted (os : Os) (started : os.Started) (H : Type) (enc : TypeId × Value → H) :
  ReturnsInHanded {} Try.checked os 5 .any (Rows.numPowersSpec.pre6 enc Try.prog Try.f5 Rows.numPowersRow.domain false) (Rows.numPowersSpec.post enc Try.prog Try.f5 false true false false) := by
 refine returnsInHanded_of_change (C := Try.checked) Try.own started (by kernel_rfl) Try.func5
  (ChangeSpec.witness6 (enc := enc) (C := Try.checked) false ⟨#[], #[.slice none 0 0, .bool false], []⟩ 8 (by kernel_rfl) (by kernel_rfl) (by kernel_rfl) (by kernel_rfl)) ?_
 intro W base args ds gs before hval0 hW hcnd0 _
 clear hcnd0
 have hval : ∀ (j : Nat) t v, Try.f5.params[j]? = some t → args[j]? = some v → Value.okWide Try.prog W .any base t v := hval0
 have hW' := hW
 obtain ⟨p, q, hA0, hV, rfl, hfz, _⟩ := hW
 have hA : DataW.TrodAll enc Try.prog W 0 (fun _ => true) true Try.f5.params.toList args.toList ds p := hA0
 rw [Try.params5] at hA hval
 obtain ⟨v0, v1, d0, d1, p0, p1, rfl, rfl, rfl, h0, h1⟩ := trodAll_two hA
 obtain ⟨rfl, rfl⟩ := trodVars_none hV
 obtain ⟨ng, rfl, rfl, rfl⟩ := open_bool Try.underlying4 (hval 1 4 v1 rfl rfl) h1
 have hv0 := hval 0 51 v0 rfl rfl
 obtain ⟨a0, len, cap, rfl⟩ := okWide_slice Try.underlying51 hv0
 obtain ⟨fuel, hf⟩ := h0
 have hc5 : Try.prog.cellsOf 5 = 1 := by kernel_rfl
 clear hA0 hval0
 rcases open_ints Try.underlying51 Try.underlying5 hc5 hf with ⟨hcs, hx⟩ | ⟨a, len', cap', zs, hcs, hba, hle, hmax, hzl, hx, hcell, hwf⟩
 ·simp [Value.cells] at hcs
  obtain ⟨rfl, rfl, rfl⟩ := hcs
  simp only [Prod.mk.injEq] at hx
  obtain ⟨rfl, rfl⟩ := hx
  refine (numPowers_walk W (layAt W 0 0 0) .nils _ [] ng (.inr ⟨rfl, rfl⟩) (fun x hx => by simp at hx) (by letI := layAt W 0 0 0; exact .nils) (fun b o x hx => ?_)).mono fun e W' ⟨he, hs⟩ => ?_
  ·have hx' : (if b = 0 ∧ 0 ≤ o ∧ o < 0 + 0 then W.cell? ⟨0, o, none⟩ else none) = some x := hx
   rw [if_neg (by omega)] at hx'
   simp at hx'
  subst he
  simp only [List.append_nil] at hW'
  exact ⟨_, rfl, post_of_stays (pa := []) (pv := []) hW' (fun _ _ _ => trodAll_mk1 (shut_bool Try.underlying4 true)) (fun sp _ => trodAll_mk2 (shut_slice_nil Try.underlying51) (shut_bool Try.underlying4 ng)) (fun _ _ => rfl) rfl
   hs (ok_one (by kernel_rfl) rfl (okWide_bool_mk Try.underlying4 true))⟩
 ·simp [Value.cells] at hcs
  obtain ⟨rfl, rfl, rfl⟩ := hcs
  simp only [Prod.mk.injEq] at hx
  obtain ⟨rfl, rfl⟩ := hx
  have hspot : a.spot = none := by
   simp only [Value.okWide, Cell.okWide, Cell.ok, Try.underlying51] at hv0
   exact hv0.2.2.2.1
  obtain ⟨b, off, sp0⟩ := a
  have e0 : sp0 = none := hspot
  subst e0
  simp only [if_true] at hzl
  have hcell' : ∀ i, i < zs.length → W.cell? ⟨b, off + i, none⟩ = some (.int .u8 (zs.getD i 0)) := fun i hi => by rw [← add_plain]; exact hcell i hi
  have hnn : ∀ n ∈ zs, 0 ≤ n ∧ n ≤ 255 := fun n hn => bounds_u8 (hwf n hn)
  refine (numPowers_walk W (layAt W b off len) (.slice none false 1 (nl .u8 ((zs.take len).map Int.toNat))) _ ((zs.take len).map Int.toNat) ng (.inl ⟨false, rfl⟩) (fun x hx => ?_) (rel_bytes W b off len cap zs (by omega) hle hcell' (fun n hn => (hnn n hn).1)) (fun bb o x hx => ?_)).mono fun e W' ⟨he, hs⟩ => ?_
  ·obtain ⟨n, hn, rfl⟩ := List.mem_map.1 hx
   have := hnn n (List.mem_of_mem_take hn)
   omega
  ·have hx' : (if bb = b ∧ off ≤ o ∧ o < off + len then W.cell? ⟨b, o, none⟩ else none) = some x := hx
   split at hx'
   ·rename_i hh
    rw [hh.1]; exact hx'
   ·simp at hx'
  subst he
  simp only [List.append_nil] at hW'
  refine ⟨_, rfl, post_of_stays (pa := MemPlace.row ⟨b, off, none⟩ zs.length ++ []) (pv := []) hW' (fun _ _ _ => trodAll_mk1 (shut_bool Try.underlying4 true)) (fun sp hsp => trodAll_mk2 ⟨2, shut_ints' 0 Try.underlying51 Try.underlying5 hc5 (Nat.zero_le _) hle hmax ?_ (fun i hi => stays_cell hs (hcell' i hi)) hwf⟩ (shut_bool Try.underlying4 ng)) (fun _ _ => rfl) (by simp)
   hs (ok_one (by kernel_rfl) rfl (okWide_bool_mk Try.underlying4 true))⟩
  rcases Nat.eq_zero_or_pos zs.length with ez | ez
  ·split <;> omega
  ·have := hsp (.cell b (off + 0)) (by simpa using MemPlace.mem_row.2 ⟨0, ez, rfl⟩)
   have hb1 : sp b = true := this
   rw [hb1, if_pos rfl]; exact hzl
theorem numPowers_holds : Rows.NumPowersSaid :=
 OpenClaim.holds_of_wide 5 Try.f5 rfl rfl rfl rfl rfl rfl rfl ⟨rfl, rfl, rfl, rfl, rfl⟩ rfl rfl rfl rfl rfl (by kernel_rfl) Try.func5 (by kernel_rfl)
  (of_decide_eq_true (by kernel_rfl)) (by unfold Func.isWrapper; first | (rw [if_pos (by decide +kernel)]; kernel_rfl) | (rw [if_neg (by decide +kernel)]; exact ⟨rfl, rfl⟩))
  (fun os started H enc _ => numPowers_lifted os started H enc)
end Go.Proofs.Ytooliddjiiilfaa
