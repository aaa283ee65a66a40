/- Part KC of the proof: what it says stands at its theorems. -/
import Derived.Test.YtjldfkldmfmkiaaDoorWc
import Derived.Test.YtjldfkldmfmkiaaDoorSd
import Derived.ChangeSlices
set_option linter.unusedVariables false
set_option linter.unusedSimpArgs false
set_option linter.unusedSectionVars false
/- LexBlanks: the law returns true for every input, and each argument reads as it did (the card that ties what the row lists). The proof: each function of the program's lexer is followed once, over any text, in an abstract machine that is proved sound; a law of lists alone then says that tokens joined by separators are read as the same tokens. -/
namespace Go.Proofs.YtjldfkldmfmkiaaDoor
open Go Go.AM Go.AM.S Go.Proofs Go.ChangeShapes Go.WideShapes Go.ChangeAt Go.RowKit NumL
theorem pk_vl : ∀ l : List UInt8, pk l = vl 256 (l.map UInt8.toNat) := by
  intro l
  induction l with
  | nil => rfl
  | cons b l ih => simp only [List.map_cons, vl, ← ih]; rfl
theorem of_sl (s : ByteArray) : Str.of s = sl (s.data.toList.map UInt8.toNat) := by
  unfold Str.of sl
  rw [pk_vl, List.length_map]
  rfl
theorem dg_bytes (l : List UInt8) : Dg 256 (l.map UInt8.toNat) := by
  intro x hx
  obtain ⟨b, _, rfl⟩ := List.mem_map.1 hx
  exact b.toNat_lt
/-- bytes handed in, as the machine has them -/
theorem rel_u8 [Laid] {c : Ctx} {b off len cap : Nat} {zs : List Int} (hw : ∀ n ∈ zs, (Lit.int .u8 n).wf = true) (hl : len ≤ zs.length) (hc : len ≤ cap)
    (hs : ∀ j, j < len → c.shut b (off + j) = some (.int .u8 (zs.getD j 0))) : ∃ ms, Dg 256 ms ∧ ms.length = len ∧ Rel c (.slice none false 1 (nl .u8 ms)) (.slice (some ⟨b, off, none⟩) len cap) := by
  have hb : ∀ j, j < zs.length → 0 ≤ zs.getD j 0 ∧ zs.getD j 0 ≤ 255 := fun j hj => by
    have e : zs.getD j 0 = zs[j] := by rw [List.getD_eq_getElem?_getD, List.getElem?_eq_getElem hj]; rfl
    rw [e]
    exact bounds_u8 (hw _ (List.getElem_mem hj))
  refine ⟨(List.range len).map fun j => (zs.getD j 0).toNat, ?_, by simp, ?_⟩
  · intro x hx
    obtain ⟨j, hj, rfl⟩ := List.mem_map.1 hx
    have := hb j (Nat.lt_of_lt_of_le (List.mem_range.1 hj) hl)
    show (zs.getD j 0).toNat < 256
    omega
  · have hln : ((List.range len).map fun j => (zs.getD j 0).toNat).length = len := by simp
    refine Rel.mk_slice (sz := 1) (xs := (List.range len).map fun j => .int .u8 (zs.getD j 0)) (fun v hv => ?_) ?_ (fun i x hx => ?_) ?_ (by rw [nl_length, hln]; exact hc) (fun h => by cases h) (fun r h => by cases h) (by rw [nl_length, hln])
    · obtain ⟨x, _, rfl⟩ := List.mem_map.1 hv; rfl
    · rw [flat_nl]
      refine ⟨by rw [nl_length, hln]; simp, fun i v x hv hx => ?_⟩
      unfold nl at hv
      rw [List.getElem?_map, List.getElem?_map] at hv
      rw [List.getElem?_map] at hx
      cases hr : (List.range len)[i]? with
      | none => rw [hr] at hx; cases hx
      | some j =>
        rw [hr] at hv hx
        obtain rfl := Option.some.inj hv
        obtain rfl := Option.some.inj hx
        have hj : j < len := by
          have := List.mem_of_getElem? hr
          exact List.mem_range.1 this
        have := (hb j (Nat.lt_of_lt_of_le hj hl)).1
        have e : Int.ofNat (zs.getD j 0).toNat = zs.getD j 0 := by rw [Int.ofNat_eq_natCast]; omega
        show Rel c (.int .u8 (Int.ofNat (zs.getD j 0).toNat)) (.int .u8 (zs.getD j 0))
        rw [e]
        exact .int _ _
    · rw [List.getElem?_map] at hx
      cases hr : (List.range len)[i]? with
      | none => rw [hr] at hx; cases hx
      | some j =>
        rw [hr] at hx
        obtain rfl := Option.some.inj hx
        have hi : i < len := by
          have := (List.getElem?_eq_some_iff.1 hr).1
          simpa using this
        have hij : j = i := by
          rw [List.getElem?_range hi] at hr
          exact (Option.some.inj hr).symm
        subst hij
        exact hs j hi
    · rw [flat_nl]
      unfold nl
      generalize (List.map (fun j => (zs.getD j 0).toNat) (List.range len)) = m
      induction m with
      | nil => rfl
      | cons x m ih => exact ih
end Go.Proofs.YtjldfkldmfmkiaaDoor
namespace Go.Proofs.YtjldfkldmfmkiaaDoor.lexBlanks
open Go Go.AM Go.AM.S Go.Proofs Go.ChangeShapes Go.WideShapes Go.ChangeAt Go.RowKit NumL
open Go.ChangeMaps (open_string shut_string)
set_option maxRecDepth 100000
set_option linter.unusedSimpArgs false
theorem walk (s : ByteArray) {ms : List Nat} (hm' : Dg 256 ms) {v : V} {x : Value} (hv : Sl .u8 v ms) (W : World) (hg : W.cell? ⟨0, 0, none⟩ = some errT) {m : Int} (hm : W.cell? ⟨3, 0, none⟩ = some (.int .i64 m)) (hT : Lib.Utf8Tabs 1 2 W)
    (hx : @Rel (lay m (env2 0 0) (allC W)) (@topCtx (lay m (env2 0 0) (allC W))) v x) : Calls Tryd.prog 3 #[.string s, x] W fun e W' => e = .returned (.bool true) ∧ Stays W W' := by
  obtain ⟨n, hn⟩ := (law3 (L := []) (dg_bytes s.data.toList) hm' hv).at
  rw [← of_sl] at hn
  letI := lay m (env2 0 0) (allC W)
  exact law_true m (env2 0 0) (allC W) (fun _ h => by cases h) (xs := [.string s, x]) hn hg hm hT (fun _ _ _ h => h) (.cons (.str' s) (.cons hx (.nil _))) (by rcases hv with ⟨f, rfl⟩ | ⟨rfl, _⟩ <;> rfl)

theorem laidOut : laidOutB Tryd.prog = true := by kernel_rfl
/-- What the runs give, for every argument and every world that holds what the row lists. -/
theorem contract (H : Type) (enc : TypeId × Value → H) (W : World) (base : Nat) (args : Array Value) (ds gs : List (DataW H)) (before : List MemPlace)
    (hval : ∀ (j : Nat) t v, Tryd.f3.params[j]? = some t → args[j]? = some v → Value.okWide Tryd.prog W .any base t v)
    (hW : DataW.Whole enc Tryd.prog Tryd.f3.params.toList Rows.lexBlanksSpec.vars false W args.toList ds gs before) (hL : laidMetH Tryd.prog Rows.lexBlanksRow.laid W) (hsh : W.ShapedOpen Tryd.prog) :
    Calls Tryd.prog 3 args W fun e W' => ∃ v, e = .returned v ∧ Rows.lexBlanksSpec.post enc Tryd.prog Tryd.f3 false true false false W args v W' := by
  have hW' := hW
  obtain ⟨p, q, hA0, hV, rfl, hfz, hnd⟩ := hW
  have hA : DataW.TrodAll enc Tryd.prog W 0 (fun _ => true) true Tryd.f3.params.toList args.toList ds p := hA0
  rw [Tryd.params3] at hA hval
  obtain ⟨v0, v1, d0, d1, p0, p1, hargs, rfl, rfl, h0, h1⟩ := trodAll_two hA
  obtain rfl : args = #[v0, v1] := by cases args; simp_all
  obtain ⟨rfl, rfl⟩ := trodVars_none hV
  obtain ⟨a, rfl, rfl, rfl, wa⟩ := open_string Tryd.underlying9 (hval 0 9 v0 rfl rfl) h0
  clear hA0
  simp only [List.append_nil, List.nil_append] at hW'
  obtain ⟨m, hm⟩ := Tryd.laysM146.s1_3 W hsh
  have hg := handle_of_laid hL
  have hT := tabs_of_laid hL
  have hlt : ∀ x ∈ p1, x.block < W.heap.size := fun x hx => by simpa using hW'.lt x hx
  have fin : ∀ {W' : World}, Stays W W' → Rows.lexBlanksSpec.post enc Tryd.prog Tryd.f3 false true false false W #[.string a, v1] (.bool true) W' := by
    intro W' hs
    exact post_of_stays (pa := p1) (pv := []) hW' (fun _ _ _ => trodAll_mk1 (shut_bool Tryd.underlying4 _)) (fun sp hsp => trodAll_mk2 (shut_string Tryd.underlying9 wa) (Stays.trod laidOut (by kernel_rfl) (of_decide_eq_true (by kernel_rfl)) h1 hs hlt hsp)) (fun _ _ => rfl) (by simp)
      hs (ok_one (by kernel_rfl) rfl (okWide_bool_mk Tryd.underlying4 _))
  have hv1 := hval 1 22 v1 rfl rfl
  obtain ⟨fuel, hf⟩ := h1
  obtain ⟨a2, l2, c2, rfl⟩ := okWide_slice Tryd.underlying22 hv1
  have hf : DataW.trod enc Tryd.prog W 0 (fun _ => true) true fuel 22 [.slice a2 l2 c2] = some (d1, p1) := hf
  rcases open_ints Tryd.underlying22 Tryd.underlying5 (by kernel_rfl) hf with ⟨hc, _⟩ | ⟨a1, len, cap, zs, hc, _, hl, _, hz, _, hcell, hwf⟩
  · obtain ⟨rfl, rfl, rfl⟩ : _ ∧ _ ∧ _ := Value.slice.inj (List.head_eq_of_cons_eq hc)
    exact (walk a (ms := []) (fun _ h => by cases h) (v := .nils) (x := .slice none 0 0) (.inr ⟨rfl, rfl⟩) W hg hm hT (@Rel.nils (lay m (env2 0 0) (allC W)) _)).mono fun e W' ⟨he, hs⟩ => ⟨_, he, fin hs⟩
  · obtain ⟨rfl, rfl, rfl⟩ : _ ∧ _ ∧ _ := Value.slice.inj (List.head_eq_of_cons_eq hc)
    have hsp := okWide_spot Tryd.underlying22 hv1
    obtain ⟨b, off, spot⟩ := a1
    have hsp : spot = none := hsp
    subst hsp
    have hz : zs.length = c2 := by simpa using hz
    letI := lay m (env2 0 0) (allC W)
    obtain ⟨ms, hd, hn, hr⟩ := rel_u8 (c := topCtx) (b := b) (off := off) (len := l2) (cap := c2) hwf (by omega) hl (fun j hj => by
      have := hcell j (by omega)
      rw [Go.WideShapes.add_plain] at this
      exact lay_all m (env2 0 0) hg hm hT this)
    exact (walk a hd (.inl ⟨false, rfl⟩) W hg hm hT hr).mono fun e W' ⟨he, hs⟩ => ⟨_, he, fin hs⟩

theorem reads (os : Os) {H : Type} (enc : TypeId × Value → H) : ∃ places, DataW.whole enc Tryd.prog ((laidWorld os).forCall (fun _ _ => 0) ⟨#[], #[.string ⟨#[]⟩, .slice none 0 0], []⟩).memory Tryd.f3.params.toList Rows.lexBlanksSpec.vars false #[Value.string ⟨#[]⟩, Value.slice none 0 0].toList 8 = some ([.lit (.string []), .nil], [], places) :=
  ⟨[], by kernel_rfl⟩

theorem lifted (os : Os) (started : os.Started) (H : Type) (enc : TypeId × Value → H) (F : Stop.Interp) :
    ReturnsInHanded {} Tryd.checked os 3 .any ((OpenSpec.ofChange Rows.lexBlanksSpec).preRow enc Tryd.prog Tryd.f3 Rows.lexBlanksRow.domain false Rows.lexBlanksRow.laid) (((OpenSpec.ofChange Rows.lexBlanksSpec).at F).post enc Tryd.prog Tryd.f3 false true false false) := by
  obtain ⟨places, hx⟩ := reads os enc
  refine returnsInHanded_of_row (C := Tryd.checked) (s := OpenSpec.ofChange Rows.lexBlanksSpec) own started (by kernel_rfl) Tryd.func3
    (witness_row_at (enc := enc) (C := Tryd.checked) false (laidWorld os) #[.string ⟨#[]⟩, .slice none 0 0] rfl (by kernel_rfl) (by kernel_rfl) (by kernel_rfl)
      (OpenSpec.preRow_of_cond 8 hx (by kernel_rfl) (fun k hk => by cases hk) (by kernel_rfl) (laidWorld_met os _))) ?_
  intro W base args ds gs before hval hW _ _ _ hL hsh _
  exact contract H enc W base args ds gs before hval hW hL hsh

theorem said : Rows.LexBlanksSaid :=
  OpenClaim.holds_of_cond 3 Tryd.f3 rfl rfl rfl rfl rfl rfl rfl ⟨rfl, rfl, rfl, rfl, rfl⟩ rfl rfl rfl rfl rfl (by kernel_rfl) Tryd.func3 (by kernel_rfl)
    (of_decide_eq_true (by kernel_rfl)) (by unfold Func.isWrapper; first | (rw [if_pos (by decide +kernel)]; kernel_rfl) | (rw [if_neg (by decide +kernel)]; exact ⟨rfl, rfl⟩))
    (fun os started H enc _ F => by rw [OpenClaim.pre_eq_preRow]; exact lifted os started H enc F)

theorem plain (f : FuncId) (fn : Func) (hf : Tryd.pinned.checked.prog.funcNamed "avow/avowlaw14.LexBlanks" = some f) (hfn : Tryd.pinned.checked.prog.funcs[f]? = some fn) :
    true = Tryd.pinned.checked.prog.looks [] ∧ ∀ (j : Nat) t, fn.params[j]? = some t → Tryd.pinned.checked.prog.wantsStandIn t = false := by
  obtain rfl : f = 3 := Option.some.inj ((show Tryd.prog.funcNamed "avow/avowlaw14.LexBlanks" = some 3 by kernel_rfl).symm.trans hf) |>.symm
  obtain rfl : fn = Tryd.f3 := (Option.some.inj (Tryd.func3.symm.trans hfn)).symm
  refine ⟨by kernel_rfl, fun j t ht => ?_⟩
  rw [Tryd.params3] at ht
  have h := Array.mem_of_getElem? ht
  simp at h
  rcases h with rfl | rfl
  · exact (show Tryd.prog.wantsStandIn 9 = false by kernel_rfl)
  · exact (show Tryd.prog.wantsStandIn 22 = false by kernel_rfl)

end Go.Proofs.YtjldfkldmfmkiaaDoor.lexBlanks
namespace Go.Proofs.YtjldfkldmfmkiaaDoor
/-- The card. -/
theorem lexBlanks_card : Rows.LexBlanksCardSaid :=
  Claim7.holds_tied_plain_at .later [] _ _ _ _ lexBlanks.said (fun _ h => by cases h) (by kernel_rfl) (fun _ h => by cases h) lexBlanks_row_tie rfl ⟨rfl, rfl⟩ (by kernel_rfl) rfl lexBlanks.plain (by kernel_rfl)
end Go.Proofs.YtjldfkldmfmkiaaDoor
