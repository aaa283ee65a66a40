/- Part Se of the proof: what it says stands at its theorems. -/
import Derived.Test.YtdaimjlegjhidaaDoorProg
import Derived.WalkKit
import Derived.Tactics2
import Derived.Test.YtdaimjlegjhidaaDoorAm3
import Derived.Test.YtdaimjlegjhidaaDoorAs
import Derived.Test.YtdaimjlegjhidaaDoorCards
import Derived.Test.YtdaimjlegjhidaaDoorTie
import Derived.ProofKit
import Derived.OpenShut
import Derived.Deep.DeepHandedRow
import Derived.Lib.LaidTab
import Derived.LaidHandle
import Derived.RangeFuncBox
import Derived.RangeFuncLeaves
import Derived.Shelf.Abstract
import Derived.OwnWalkIn
import Derived.TacticsInMore
import Derived.LoopNIn
import Derived.LoopIn
import Derived.IntWalk
import Derived.Laws.Strings
import Derived.Test.YtdaimjlegjhidaaDoorTb
set_option linter.unusedVariables false
set_option linter.unusedSimpArgs false
set_option linter.unusedSectionVars false
section
namespace Go.Proofs
open Go Go.RowKit

theorem tmod_emod (a n : Int) : a % n = (a.tmod n) % n := by
  have h := Int.mul_tdiv_add_tmod a n
  conv => lhs; rw [← h]
  rw [Int.add_comm, Int.add_mul_emod_self_left]
theorem tmod_lt' (a n : Int) (h : 0 < n) : a.tmod n < n := Int.tmod_lt_of_pos a h
theorem tmod_gt' (a n : Int) (h : 0 < n) : -n < a.tmod n := by
  have := Int.lt_tmod_of_pos a h
  omega

set_option maxHeartbeats 4000000 in
theorem place23 : Go.AM.PlaceOk Tryd.prog 23 := by
  refine ⟨⟨_, _, Tryd.func23, rfl⟩, fun a n w h0 h1 => ?_⟩
  have e0 := tmod_emod a n
  have e1 := tmod_lt' a n h0
  have e2 := tmod_gt' a n h0
  go_enter Tryd.func23, Tryd.ntmps23
  go_wp2
  · rename_i h
    go_ret
    refine ⟨?_, rfl⟩
    have e4 : a % n = a.tmod n + n := by rw [e0, ← Int.add_emod_right, Int.emod_eq_of_lt (by omega) (by omega)]
    rw [e4]; rfl
  · rename_i h
    go_ret
    refine ⟨?_, rfl⟩
    have e4 : a % n = a.tmod n := by rw [e0, Int.emod_eq_of_lt h e1]
    rw [e4]; rfl
end Go.Proofs
end

section
/- What is laid ahead in this seat: errors.errorType's cell, and the law's arguments as unknown numbers. -/
namespace Go.Proofs
open Go

def errT : Value := .iface 143 (.agg #[.pointer (some ⟨3, 27, none⟩)])
abbrev lay (env : Nat → IntKind × Int) : Go.AM.Laid := ⟨env, fun b o => bif Nat.beq b 0 && Nat.beq o 0 then some errT else none⟩
theorem lay_cells (env : Nat → IntKind × Int) (w : World) (h : w.cell? ⟨0, 0, none⟩ = some errT) : ∀ b o x, (lay env).cells b o = some x → w.cell? ⟨b, o, none⟩ = some x := by
  intro b o x hx
  have hx : (bif Nat.beq b 0 && Nat.beq o 0 then some errT else none) = some x := hx
  cases hq : (Nat.beq b 0 && Nat.beq o 0) with
  | false => rw [hq] at hx; simp at hx
  | true =>
    rw [hq] at hx
    simp only [Bool.and_eq_true] at hq
    have e1 := Nat.eq_of_beq_eq_true hq.1
    have e2 := Nat.eq_of_beq_eq_true hq.2
    subst e1; subst e2
    have hx : some errT = some x := hx
    obtain rfl := Option.some.inj hx
    exact h
theorem as34 (env : Nat → IntKind × Int) : @Go.AM.AsOk (lay env) Tryd.prog 34 66 68 := by
  letI := lay env
  refine ⟨⟨_, _, Tryd.func34, rfl⟩, fun t w => as_nil t w, fun e t old w hl hc hz => ?_⟩
  exact (as_hit e t old w (hl 0 0 errT rfl) hc hz).mono (fun ev w' ⟨h1, h2⟩ => ⟨h1, _, _, _, _, _, _, _, _, h2⟩)
end Go.Proofs
end

section
/- What the seat's rows list: their cells, a world that holds them. -/
namespace Go.Proofs.YtdaimjlegjhidaaDoor
open Go.ChangeShapes Go.WideShapes Go.RowKit

theorem own : ownKnob Tryd.prog.godebug = none := by kernel_rfl
theorem et : Tryd.prog.globalNamed "errors.errorType" = some 0 := by kernel_rfl
theorem rt : (Tryd.prog.cutTypes.find? (·.1 == "internal/reflectlite.rtype")).map (·.2) = some 143 := by kernel_rfl
theorem oneRow : ((List.range 208).filter fun t => Tryd.prog.rowNamed t [101, 114, 114, 111, 114]) = [27] := by kernel_rfl
theorem typesSize : Tryd.prog.types.size = 208 := by kernel_rfl

abbrev laidL : List (String × DataW Unit) := [("unicode/utf8.acceptRanges", Rows.laid_unicode_utf8_acceptRanges), ("errors.errorType", Rows.laid_errors_errorType), ("unicode/utf8.first", Rows.laid_unicode_utf8_first)]

/-- The variable's one cell. -/
theorem handle_of_laid {W : World} (h : laidMetH Tryd.prog laidL W) : W.cell? ⟨0, 0, none⟩ = some errT := by
  have h' : laidMet Tryd.prog [("unicode/utf8.acceptRanges", Rows.laid_unicode_utf8_acceptRanges), ("unicode/utf8.first", Rows.laid_unicode_utf8_first)] W ∧ handlesMet Tryd.prog [("errors.errorType", Rows.laid_errors_errorType)] W := h
  obtain ⟨name, u, ty, e1, e2, e3, e4, e5⟩ := h'.2 _ (List.mem_singleton.2 rfl)
  have en : name = [101, 114, 114, 111, 114] := (Option.some.inj e1).symm
  subst en
  obtain rfl := Option.some.inj (rt.symm.trans e2)
  have hm : ty ∈ (List.range 208).filter fun t => Tryd.prog.rowNamed t [101, 114, 114, 111, 114] := List.mem_filter.2 ⟨List.mem_range.2 (by rw [← typesSize]; exact e3), e4⟩
  rw [oneRow] at hm
  obtain rfl := List.mem_singleton.1 hm
  have hh : typeHandle Tryd.prog 27 = .pointer (some ⟨3, 27, none⟩) := by kernel_rfl
  rw [hh] at e5
  simpa [errT] using World.var?_cell et e5 0

def firstCells : Array Value := (Pinned.utf8FirstZ.map fun z => Value.int .u8 (z : Nat)).toArray
def rangeCells : Array Value := ([128, 191, 160, 191, 128, 159, 144, 191, 128, 143, 0, 0, 0, 0, 0, 0, 0, 0, 0, 0, 0, 0, 0, 0, 0, 0, 0, 0, 0, 0, 0, 0].map fun (z : Int) => Value.int .u8 z).toArray

/-- A world that meets the condition: the settled one, the variables' cells laid. -/
noncomputable def laidWorld (os : Os) : World :=
  let w0 := World.holding Tryd.prog os ⟨#[], #[], []⟩
  { w0 with heap := ((w0.heap.modify 0 fun
      | .cells _ t frozen => .cells #[errT] t frozen
      | o => o).modify 1 fun
      | .cells _ t frozen => .cells firstCells t frozen
      | o => o).modify 2 fun
      | .cells _ t frozen => .cells rangeCells t frozen
      | o => o }
set_option maxRecDepth 100000 in
theorem laidWorld_met (os : Os) (args : Array Value) : laidMetH Tryd.prog laidL ((laidWorld os).forCall (fun _ _ => 0) ⟨#[], args, []⟩).memory :=
  laidMetH_of_parts (laidMet_of_run' 8 (by kernel_rfl) (by kernel_rfl)) (by kernel_rfl)
end Go.Proofs.YtdaimjlegjhidaaDoor
end

section
/- slices.Backward at texts: what it hands back, and what its iterator gives to every loop body. -/
namespace Go.Proofs
open Go Go.RowKit Go.Shelf
attribute [local go_sem] Oper.semAt_some
set_option linter.unusedVariables false
set_option linter.unusedSimpArgs false

/-- what has come when k rounds are over -/
def uptoF {α : Type} (f : Nat → α) (k : Nat) : List α := (List.range k).map f
theorem uptoF_succ {α : Type} (f : Nat → α) (k : Nat) : uptoF f (k + 1) = uptoF f k ++ [f k] := by simp [uptoF, List.range_succ]
theorem uptoF_length {α : Type} (f : Nat → α) (k : Nat) : (uptoF f k).length = k := by simp [uptoF]
abbrev encP (x : Nat × ByteArray) : Array Value := #[Value.int .i64 (x.1 : Int), Value.string x.2]
abbrev bk (zs : List ByteArray) (len : Nat) (j : Nat) : Nat × ByteArray := (len - 1 - j, zs[len - 1 - j]?.getD ByteArray.empty)

set_option maxRecDepth 100000 in
set_option maxHeartbeats 2000000 in
theorem back1_in (F : Fence) (n : Nat) (h7 : F.fn 107) (hro : F.round = none) (hn : 1 ≤ n) (l Bs n₀ b off len cap : Nat) (zs : List ByteArray) (hreach : len ≤ 1000) (hb : b < n₀) (J Jx : List (Nat × ByteArray) → World → Prop)
    (hY : ∀ pre x W, J pre W → pre.length < len → YieldAt F (n - 1) Tryd.prog l #[.int .i64 (x.1 : Int), .string x.2] W fun e W' =>
      (e = .returned (.bool true) ∧ J (pre ++ [x]) W' ∧ Below n₀ W W') ∨ (e = .returned (.bool false) ∧ Jx (pre ++ [x]) W'))
    (W : World) (hBs : W.cell? ⟨Bs, 0, none⟩ = some (.slice (some ⟨b, off, none⟩) len cap)) (hBn : Bs < n₀) (hc : ∀ j, j < len → W.cell? ⟨b, off + j, none⟩ = some (.string (zs[j]?.getD ByteArray.empty))) (h0 : J [] W) :
    CallsIn F n Tryd.prog 107 #[.func (.yield l) #[] #[], .pointer (some ⟨Bs, 0, none⟩)] W fun e W' => (∃ v, e = .returned v) ∧
      ((∃ ys, ys = uptoF (bk zs len) len ∧ J ys W') ∨ (∃ pre, (∃ k, k ≤ len ∧ pre = uptoF (bk zs len) k) ∧ Jx pre W')) := by
  refine callsIn_of_wp Tryd.func107 rfl h7 ?_ hro
  simp only [Tryd.ntmps107, List.size_toArray, List.length_cons, List.length_nil, Nat.reduceAdd, Nat.reduceSub, Array.replicate_succ, Array.replicate_zero, List.push_toArray, List.append_toArray, List.nil_append, List.cons_append]
  gi_wp2
  gi_loopw [3] (fun i wr => ∃ k : Nat, k ≤ len ∧ i = .int .i64 ((len : Int) - 1 - k) ∧ J (uptoF (bk zs len) k) wr ∧ Below n₀ W wr)
    (fun i _ => (intOf i + 1).toNat)
  case atStart => exact ⟨0, Nat.zero_le _, by simp, h0, Below.refl _ _⟩
  case round =>
    obtain ⟨k, hk, rfl, hJs, hnx⟩ := hrel
    have hBs' : wr.cell? ⟨Bs, 0, none⟩ = some (.slice (some ⟨b, off, none⟩) len cap) := (hnx.cell (p := ⟨Bs, 0, none⟩) hBn).trans hBs
    by_cases hlt : k < len
    · obtain ⟨j, hj⟩ : ∃ j : Nat, len - 1 - k = j := ⟨_, rfl⟩
      have hjl : j < len := by omega
      have hij : (len : Int) - 1 - k = (j : Int) := by omega
      rw [hij]
      have hcx : wr.cell? ⟨b, off + j, none⟩ = some (.string (zs[j]?.getD ByteArray.empty)) := (hnx.cell (p := ⟨b, off + j, none⟩) hb).trans (hc j hjl)
      obtain ⟨fn, tmps, assign, body, hy, hR⟩ := hY _ (j, zs[j]?.getD ByteArray.empty) wr hJs (by rw [uptoF_length]; exact hlt)
      dsimp only at hy
      gi_wp2
      refine hR.mono ?_
      have hbk : (j, zs[j]?.getD ByteArray.empty) = bk zs len k := by simp only [bk, hj]
      rw [hbk]
      rintro e W3 (⟨rfl, hJ3, hk3⟩ | ⟨rfl, hJx3⟩)
      · gi_wp2
        go_roundw
        case rel => exact ⟨k + 1, by omega, by congr 1; omega, by rw [uptoF_succ]; exact hJ3, hnx.trans hk3⟩
        case measure => simp [intOf] <;> omega
      · gi_wp2
        refine bodyPost_ret (results_none rfl _ _ _) rfl ?_
        exact ⟨⟨_, rfl⟩, .inr ⟨_, ⟨k + 1, by omega, (uptoF_succ _ _).symm⟩, hJx3⟩⟩
    · obtain rfl : k = len := by omega
      have hij : (k : Int) - 1 - k = -1 := by omega
      rw [hij]
      gi_wp2
      go_end0
      exact ⟨⟨_, rfl⟩, .inl ⟨_, rfl, hJs⟩⟩

/-- the slice value holds the texts, in a block below n₀; or it is nil and there are none -/
def TextsAt (n₀ : Nat) (W : World) (sv : Value) (zs : List ByteArray) : Prop :=
  (sv = .slice none 0 0 ∧ zs = []) ∨ ∃ b off cap, sv = .slice (some ⟨b, off, none⟩) zs.length cap ∧ b < n₀ ∧ ∀ j, j < zs.length → W.cell? ⟨b, off + j, none⟩ = some (.string (zs[j]?.getD ByteArray.empty))
theorem TextsAt.below {n₀ : Nat} {A B : World} (h : Below n₀ A B) {sv : Value} {zs : List ByteArray} : TextsAt n₀ A sv zs → TextsAt n₀ B sv zs
  | .inl e => .inl e
  | .inr ⟨b, off, cap, e, hb, hc⟩ => .inr ⟨b, off, cap, e, hb, fun j hj => (h.cell (p := ⟨b, off + j, none⟩) hb).trans (hc j hj)⟩

set_option maxRecDepth 100000 in
set_option maxHeartbeats 1000000 in
theorem back1_nil_in (F : Fence) (n : Nat) (h7 : F.fn 107) (hro : F.round = none) (l Bs : Nat) (J : List (Nat × ByteArray) → World → Prop) (W : World) (hBs : W.cell? ⟨Bs, 0, none⟩ = some (.slice none 0 0)) (h0 : J [] W) :
    CallsIn F n Tryd.prog 107 #[.func (.yield l) #[] #[], .pointer (some ⟨Bs, 0, none⟩)] W fun e W' => (∃ v, e = .returned v) ∧ J [] W' := by
  refine callsIn_of_wp Tryd.func107 rfl h7 ?_ hro
  simp only [Tryd.ntmps107, List.size_toArray, List.length_cons, List.length_nil, Nat.reduceAdd, Nat.reduceSub, Array.replicate_succ, Array.replicate_zero, List.push_toArray, List.append_toArray, List.nil_append, List.cons_append]
  gi_wp2
  gi_loopw [3] (fun i wr => i = .int .i64 (-1) ∧ J [] wr) (fun _ _ => 0)
  case atStart => exact ⟨rfl, h0⟩
  case round =>
    obtain ⟨rfl, hJs⟩ := hrel
    gi_wp2
    go_end0
    exact ⟨⟨_, rfl⟩, hJs⟩

set_option maxHeartbeats 1000000 in
theorem back_in (F : Fence) (n : Nat) (h5 : F.fn 99) (hro : F.round = none) (a : Option Addr) (len cap : Nat) (w : World) :
    CallsIn F n Tryd.prog 99 #[.slice a len cap] w fun e w' => e = .returned (.func (.func 107) #[] #[.pointer (some ⟨w.heap.size, 0, none⟩)]) ∧ w' = w.alloc (.cells #[.slice a len cap] 36) := by
  refine callsIn_of_wp Tryd.func99 rfl h5 ?_ hro
  simp only [Tryd.ntmps99, List.size_toArray, List.length_cons, List.length_nil, Nat.reduceAdd, Nat.reduceSub, Array.replicate_succ, Array.replicate_zero, List.push_toArray, List.append_toArray, List.nil_append, List.cons_append]
  gi_wp2
  go_ret
  exact ⟨rfl, rfl⟩

/-- slices.Backward(s) hands back a value that gives (len - 1, s[len - 1]), .., (0, s[0]): all; or the first k of them -/
theorem back_stops (F : Fence) (n : Nat) (h7 : F.fn 107) (hro : F.round = none) (hn : 1 ≤ n) (Bs n₀ : Nat) (sv : Value) (zs : List ByteArray) (hreach : zs.length ≤ 1000) (w : World) (hBs : Bs < w.heap.size) (hBn : Bs < n₀) (hn₀ : n₀ ≤ w.heap.size)
    (hc : w.cell? ⟨Bs, 0, none⟩ = some sv) (hI : TextsAt n₀ w sv zs) :
    SeqStopsK F n Tryd.prog 107 #[.pointer (some ⟨Bs, 0, none⟩)] encP (Below n₀) (fun ys => ys = uptoF (bk zs zs.length) zs.length)
      (fun pre => ∃ k, k ≤ zs.length ∧ pre = uptoF (bk zs zs.length) k) zs.length w := fun l J Jx W hW _ _ hY h0 => by
  have hc' := (hW.cell (p := ⟨Bs, 0, none⟩) hBs).trans hc
  rcases hI.below (hW.mono hn₀) with ⟨rfl, rfl⟩ | ⟨b, off, cap, rfl, hb, hcs⟩
  · exact (back1_nil_in F n h7 hro l Bs J W hc' h0).mono fun e W' ⟨he, hj⟩ => ⟨he, .inl ⟨_, rfl, hj⟩⟩
  · exact back1_in F n h7 hro hn l Bs n₀ b off zs.length cap zs hreach hb J Jx hY W hc' hBn hcs h0
end Go.Proofs
end

section
/- (*scope.finder).name: what it comes to. -/
namespace Go.Proofs
open Go Go.RowKit Go.Shelf
attribute [local go_sem] Oper.semAt_some
set_option linter.unusedVariables false
set_option linter.unusedSimpArgs false
theorem toList_inj {a b : ByteArray} (h : a.toList = b.toList) : a = b := by
  rw [ByteArray.toList_eq, ByteArray.toList_eq] at h
  obtain ⟨⟨x⟩⟩ := a
  obtain ⟨⟨y⟩⟩ := b
  have h : x = y := h
  rw [h]
set_option maxRecDepth 100000 in
set_option maxHeartbeats 4000000 in
theorem name_other (pv nm n2 b l i at_ : Value) (a : Option Addr) (len cap : Nat) (op : Int) (h4 : op ≠ 4) (h5 : op ≠ 5) (h25 : op ≠ 25) (h6 : op ≠ 6) (h21 : op ≠ 21) (w : World) :
    Calls Tryd.prog 86 #[pv, .agg #[.int .i64 op, nm, n2, b, l, i, at_], .slice a len cap] w fun e w' => e = .returned (.int .i64 0) ∧ Below w.heap.size w w' := by
  refine callsIn_wide (n := 5).1 ?_
  refine callsIn_of_wp Tryd.func86 rfl trivial ?_ rfl
  simp only [Tryd.ntmps86, List.size_toArray, List.length_cons, List.length_nil, Nat.reduceAdd, Nat.reduceSub, Array.replicate_succ, Array.replicate_zero, List.push_toArray, List.append_toArray, List.nil_append, List.cons_append]
  gi_wp2
  refine bodyPost_ret (v := .int .i64 0) (by simp [results, Tryd.results86, go_sem]) rfl ?_
  exact ⟨rfl, (((Below.refl _ w).alloc (Nat.le_refl _) _).alloc (by simp) _).alloc (by simp; omega) _⟩

set_option maxRecDepth 100000 in
set_option maxHeartbeats 8000000 in
theorem name_var (pv n2 b l i : Value) (nm : ByteArray) (at_ : Int) (a : Option Addr) (len cap : Nat) (zs : List ByteArray) (hlen : zs.length ≤ 1000) (w : World) (hI : TextsAt w.heap.size w (.slice a len cap) zs)
    (R : World → Ending → World → Prop)
    (hfail : (∀ k : Nat, zs[k]? ≠ some nm) → ∀ W', Below w.heap.size w W' → w.heap.size + 4 ≤ W'.heap.size → Calls Tryd.prog 32 #[pv, .int .i64 at_, .int .i64 170] W' (R W'))
    (hR : (∀ k : Nat, zs[k]? ≠ some nm) → ∀ W' e W'', R W' e W'' → (∃ v, e = .returned v) ∧ W''.os = W'.os ∧ W''.tape = W'.tape ∧ W''.output = W'.output ∧ W'.heap.size ≤ W''.heap.size ∧ ∀ k : Nat, w.heap.size ≤ k → k < W'.heap.size → W''.heap[k]? = W'.heap[k]?) :
    Calls Tryd.prog 86 #[pv, .agg #[.int .i64 4, .string nm, n2, b, l, i, .int .i64 at_], .slice a len cap] w fun e w' =>
      (∃ j : Nat, j < zs.length ∧ zs[j]? = some nm ∧ (∀ k : Nat, j < k → zs[k]? ≠ some nm) ∧ e = .returned (.int .i64 ((zs.length : Int) - 1 - j)) ∧ Below w.heap.size w w') ∨
      ((∀ k : Nat, zs[k]? ≠ some nm) ∧ e = .returned (.int .i64 0) ∧ ∃ W' W'' v, Below w.heap.size w W' ∧ R W' (.returned v) W'' ∧ w'.os = W''.os ∧ w'.tape = W''.tape ∧ w'.output = W''.output ∧ W''.heap.size ≤ w'.heap.size ∧ ∀ k : Nat, (k < w.heap.size ∨ W'.heap.size ≤ k) → w'.heap[k]? = W''.heap[k]?) := by
  refine callsIn_wide (n := 5).1 ?_
  refine callsIn_of_wp_marks Tryd.func86 rfl trivial ?_ rfl
  simp only [Tryd.ntmps86, List.size_toArray, List.length_cons, List.length_nil, Nat.reduceAdd, Nat.reduceSub, Array.replicate_succ, Array.replicate_zero, List.push_toArray, List.append_toArray, List.nil_append, List.cons_append]
  gi_wp2
  refine ⟨trivial, (back_in Fence.wide 4 trivial rfl _ _ _ _).mono ?_⟩
  rintro e w' ⟨rfl, rfl⟩
  gi_wp2
  have b0 : ((((w.alloc (.cells #[.int .i64 4, .string nm, n2, b, l, i, .int .i64 at_] 51)).alloc (.cells #[.slice a len cap] 36)).alloc (.cells #[.int .i64 0] 3)).alloc (.cells #[.slice a len cap] 36)).heap[w.heap.size]? = some (.cells #[.int .i64 4, .string nm, n2, b, l, i, .int .i64 at_] 51 (0, 0)) := by
    rw [Below.heap_alloc _ _ _ (by simp; omega), Below.heap_alloc _ _ _ (by simp; omega), Below.heap_alloc _ _ _ (by simp), World.alloc_heap_new]
  have b1 : Boxed ((((w.alloc (.cells #[.int .i64 4, .string nm, n2, b, l, i, .int .i64 at_] 51)).alloc (.cells #[.slice a len cap] 36)).alloc (.cells #[.int .i64 0] 3)).alloc (.cells #[.slice a len cap] 36)) (w.heap.size + 1) 36 (.slice a len cap) := by
    have h := Boxed.new (w.alloc (.cells #[.int .i64 4, .string nm, n2, b, l, i, .int .i64 at_] 51)) 36 (.slice a len cap)
    rw [World.size_alloc] at h
    exact (h.alloc _).alloc _
  have b2 : Boxed ((((w.alloc (.cells #[.int .i64 4, .string nm, n2, b, l, i, .int .i64 at_] 51)).alloc (.cells #[.slice a len cap] 36)).alloc (.cells #[.int .i64 0] 3)).alloc (.cells #[.slice a len cap] 36)) (w.heap.size + 1 + 1) 3 (.int .i64 0) := by
    have h := Boxed.new ((w.alloc (.cells #[.int .i64 4, .string nm, n2, b, l, i, .int .i64 at_] 51)).alloc (.cells #[.slice a len cap] 36)) 3 (.int .i64 0)
    rw [World.size_alloc, World.size_alloc] at h
    exact h.alloc _
  have b3 : Boxed ((((w.alloc (.cells #[.int .i64 4, .string nm, n2, b, l, i, .int .i64 at_] 51)).alloc (.cells #[.slice a len cap] 36)).alloc (.cells #[.int .i64 0] 3)).alloc (.cells #[.slice a len cap] 36)) (w.heap.size + 1 + 1 + 1) 36 (.slice a len cap) := by
    have h := Boxed.new (((w.alloc (.cells #[.int .i64 4, .string nm, n2, b, l, i, .int .i64 at_] 51)).alloc (.cells #[.slice a len cap] 36)).alloc (.cells #[.int .i64 0] 3)) 36 (.slice a len cap)
    rw [World.size_alloc, World.size_alloc, World.size_alloc] at h
    exact h
  have hB : Below w.heap.size w ((((w.alloc (.cells #[.int .i64 4, .string nm, n2, b, l, i, .int .i64 at_] 51)).alloc (.cells #[.slice a len cap] 36)).alloc (.cells #[.int .i64 0] 3)).alloc (.cells #[.slice a len cap] 36)) := (((Below.refl _ w).alloc (Nat.le_refl _) _).alloc (by simp) _).alloc (by simp; omega) _ |>.alloc (by simp; omega) _
  have hs1 : ((((w.alloc (.cells #[.int .i64 4, .string nm, n2, b, l, i, .int .i64 at_] 51)).alloc (.cells #[.slice a len cap] 36)).alloc (.cells #[.int .i64 0] 3)).alloc (.cells #[.slice a len cap] 36)).heap.size = w.heap.size + 4 := by simp
  revert b0 b1 b2 b3 hB hs1
  generalize ((((w.alloc (.cells #[.int .i64 4, .string nm, n2, b, l, i, .int .i64 at_] 51)).alloc (.cells #[.slice a len cap] 36)).alloc (.cells #[.int .i64 0] 3)).alloc (.cells #[.slice a len cap] 36)) = w1
  intro b0 b1 b2 b3 hB hs1
  have hln : len = zs.length := by
    rcases hI with ⟨e, rfl⟩ | ⟨_, _, _, e, _⟩
    · injection e
    · injection e
  have hI1 : TextsAt w1.heap.size w1 (.slice a len cap) zs := by
    rcases hI.below hB with h | ⟨b', o', c', e, h1, h2⟩
    · exact .inl h
    · exact .inr ⟨b', o', c', e, by omega, h2⟩
  refine wpIn_rangeFunc_ownG (n := 5) (a₁ := ?a1) rfl (by omega) (gf := 107) (lb := #[.pointer (some ⟨w.heap.size + 1 + 1 + 1, 0, none⟩)]) rfl trivial (enters_of Tryd.func107 (by kernel_rfl) rfl)
    (back_stops Fence.wide 4 trivial rfl (by omega) (w.heap.size + 1 + 1 + 1) w1.heap.size _ zs hlen w1 (by omega) (by omega) (Nat.le_refl _) b3.cell hI1) belowK_t (belowK_b (Nat.le_refl _)) (Below.refl _ _) (fun _ => rfl)
    (fun pre W => (∀ p ∈ pre, p.2 ≠ nm) ∧ Below w1.heap.size w1 W)
    (fun c pre W => (c = .ret ∧ ∃ ini last, pre = ini ++ [last] ∧ (∀ p ∈ ini, p.2 ≠ nm) ∧ last.2 = nm ∧ W.cell? ⟨w.heap.size + 1 + 1, 0, none⟩ = some (.int .i64 (wrap64 ((zs.length : Int) - 1 - (last.1 : Int))))) ∧ Below w.heap.size w W)
    (OwnFrom.and (I := fun (pre : List (Nat × ByteArray)) (_ : World) => ∀ p ∈ pre, p.2 ≠ nm) (fun _ _ _ _ hs _ _ => hs) (ownFrom_below (Nat.le_refl _) (Nat.le_refl _)))
    (fun c => OwnFrom.and (Own.from (fun s A B row hs hg hr => by obtain ⟨hc, ini, last, e1, e2, e3, e4⟩ := hs; exact ⟨hc, ini, last, e1, e2, e3, cell_kept e4 hg hr⟩) _) (ownFrom_below (Nat.le_refl _) (by omega)))
    ⟨by simp, Below.refl _ _⟩ ?assign ?body ?done ?stop
  case assign =>
    intro l x W K hK
    gi_wp2
    exact hK
  case body =>
    rintro l pre x W ⟨hp, hBW⟩ hlt
    have c1 : W.cell? ⟨w.heap.size, 1, none⟩ = some (.string nm) := (hBW.cell (p := ⟨w.heap.size, 1, none⟩) (by show w.heap.size < _; omega)).trans (by simp [World.cell?, b0])
    have c5 : W.cell? ⟨w.heap.size + 1, 0, none⟩ = some (.slice a len cap) := (hBW.cell (p := ⟨w.heap.size + 1, 0, none⟩) (by show w.heap.size + 1 < _; omega)).trans b1.cell
    have h6 : Boxed W (w.heap.size + 1 + 1) 3 (.int .i64 0) := (hBW.block _ (by omega)).trans b2
    have c6 := h6.cell
    have z6 := h6.frozen
    subst hln
    gi_wp2
    · rename_i hx
      have hx' : x.2 = nm := toList_inj (eq_of_beq hx)
      exact ⟨(KeepsOthers.setCell _ _ _).from _, ⟨rfl, pre, x, rfl, hp, hx', (h6.set _).cell⟩, (hB.trans (hBW.mono (by omega))).setCell (p := ⟨w.heap.size + 1 + 1, 0, none⟩) (by show w.heap.size ≤ w.heap.size + 1 + 1; omega) _⟩
    · rename_i hx
      have hx' : x.2 ≠ nm := fun e => ne_of_beq_false hx (by rw [e])
      exact ⟨KeepsFrom.refl _ _, Below.refl _ _, fun p hp' => (List.mem_append.1 hp').elim (hp p) (fun e => by simp at e; subst e; exact hx'), hBW⟩
  case done =>
    rintro D ys W hD rfl ⟨hne, hBW⟩ hK
    have cA : W.cell? ⟨w.heap.size, 6, none⟩ = some (.int .i64 at_) := (hBW.cell (p := ⟨w.heap.size, 6, none⟩) (by show w.heap.size < _; omega)).trans (by simp [World.cell?, b0])
    have h6 : Boxed W (w.heap.size + 1 + 1) 3 (.int .i64 0) := (hBW.block _ (by omega)).trans b2
    have hDl : D < W.heap.size := (Array.getElem?_eq_some_iff.1 hK).1
    have hno : ∀ k : Nat, zs[k]? ≠ some nm := by
      intro q hq
      have hq2 : q < zs.length := by
        rcases Nat.lt_or_ge q zs.length with h | h
        · exact h
        · rw [List.getElem?_eq_none h] at hq; cases hq
      refine hne (bk zs zs.length (zs.length - 1 - q)) ?_ ?_
      · simp only [uptoF, List.mem_map, List.mem_range]; exact ⟨zs.length - 1 - q, by omega, rfl⟩
      · show zs[zs.length - 1 - (zs.length - 1 - q)]?.getD ByteArray.empty = nm
        rw [show zs.length - 1 - (zs.length - 1 - q) = q by omega, hq]; rfl
    gi_wp2
    refine ⟨trivial, callsIn_wide.2 ((hfail hno W (hB.trans (hBW.mono (by omega))) (by have := hBW.size; omega)).mono ?_)⟩
    intro e W2 hr
    obtain ⟨⟨v, rfl⟩, r1, r2, r3, r4, r5⟩ := hR hno _ _ _ hr
    have h62 : Boxed W2 (w.heap.size + 1 + 1) 3 (.int .i64 0) := (r5 _ (by omega) h6.lt).trans h6
    have hK2 : W2.heap[D]? = some (.deferred (some [])) := (r5 _ (by omega) hDl).trans hK
    have c6 := h62.cell
    have z6 := h62.frozen
    gi_wp2
    have hK3 := (KeepsOthers.setCell W2 ⟨w.heap.size + 1 + 1, 0, none⟩ (.int .i64 0)).same D _ hK2 rfl
    refine ⟨by simp, .inl ⟨_, _, rfl, run_takeDeferred hK3, ?_⟩⟩
    have hc5 := cell_kept (World.cell?_setCell_same' W2 ⟨w.heap.size + 1 + 1, 0, none⟩ (.int .i64 0) (by rw [c6]; rfl)) (grownBy_putObj' _ D (.deferred none)) (fun r e => by cases e; exact ⟨_, hK3, rfl⟩)
    refine ⟨.int .i64 0, by simp [results, Tryd.results86, go_sem, hc5], .inr ⟨hno, rfl, W, W2, v, hB.trans (hBW.mono (by omega)), hr, rfl, rfl, rfl, ?_, fun q hq => ?_⟩⟩
    · have s1 : (W2.setCell ⟨w.heap.size + 1 + 1, 0, none⟩ (.int .i64 0)).heap.size = W2.heap.size := by simp
      have s2 := (grownBy_putObj' (W2.setCell ⟨w.heap.size + 1 + 1, 0, none⟩ (.int .i64 0)) D (.deferred none)).size
      omega
    · rw [World.putObj_heap_other (by omega)]
      exact Below.heap_setCell _ _ _ _ (by show q ≠ w.heap.size + 1 + 1; have := h6.lt; omega)
  case stop =>
    rintro D c pre W hD ⟨k, hk, rfl⟩ ⟨⟨rfl, ini, last, e1, e2, e3, hcr⟩, hBW⟩ hK
    gi_wp2
    refine ⟨by simp, .inl ⟨_, _, rfl, run_takeDeferred hK, ?_⟩⟩
    have hc5 := cell_kept hcr (grownBy_putObj' _ D (.deferred none)) (fun r e => by cases e; exact ⟨_, hK, rfl⟩)
    obtain ⟨k', rfl⟩ : ∃ k', k = k' + 1 := by
      cases k with
      | zero => simp [uptoF] at e1
      | succ k' => exact ⟨k', rfl⟩
    rw [uptoF_succ] at e1
    obtain ⟨rfl, e5⟩ := List.append_inj' e1 rfl
    obtain rfl : bk zs zs.length k' = last := by simpa using e5
    have hz : zs[zs.length - 1 - k']? = some nm := by
      have h : zs.length - 1 - k' < zs.length := by omega
      have e3' : zs[zs.length - 1 - k']?.getD ByteArray.empty = nm := e3
      rw [List.getElem?_eq_getElem h] at e3' ⊢
      simpa using e3'
    refine ⟨.int .i64 ((zs.length : Int) - 1 - ((zs.length - 1 - k' : Nat) : Int)), ?_, .inl ⟨zs.length - 1 - k', by omega, hz, fun q hq he => ?_, rfl, ?_⟩⟩
    · have hw : wrap64 ((zs.length : Int) - 1 - ((bk zs zs.length k').1 : Int)) = (zs.length : Int) - 1 - ((zs.length - 1 - k' : Nat) : Int) := by
        show wrap64 ((zs.length : Int) - 1 - ((zs.length - 1 - k' : Nat) : Int)) = _
        exact IntWalk.wrap64_in _ (by omega)
      rw [hw] at hc5
      simp [results, Tryd.results86, go_sem, hc5]
    · have hq2 : q < zs.length := by
        rcases Nat.lt_or_ge q zs.length with h | h
        · exact h
        · rw [List.getElem?_eq_none h] at he; cases he
      refine e2 (bk zs zs.length (zs.length - 1 - q)) ?_ ?_
      · simp only [uptoF, List.mem_map, List.mem_range]; exact ⟨zs.length - 1 - q, by omega, rfl⟩
      · show zs[zs.length - 1 - (zs.length - 1 - q)]?.getD ByteArray.empty = nm
        rw [show zs.length - 1 - (zs.length - 1 - q) = q by omega, he]; rfl
    · exact hBW.trans (belowK_b (w := w) (Nat.le_refl _) W D _ _ (by omega) hK rfl rfl)
end Go.Proofs
end

section
/- (*scope.finder).name as a function known by its contract. -/
namespace Go.AM
open Go Go.Proofs Go.RowKit
set_option linter.unusedSimpArgs false
set_option linter.unusedVariables false

def strL : List V → Option (List Str)
  | [] => some []
  | .str s :: l => (match strL l with | some r => some (s :: r) | none => none)
  | _ => none
def envOf : V → Option (List Str)
  | .nils => some []
  | .slice _ _ 1 (v :: l) => strL (v :: l)
  | _ => none
/-- the last that is the same -/
def lastS (nm : Str) : List Str → Nat → Option Nat → Option Nat
  | [], _, r => r
  | s :: l, i, r => lastS nm l (i + 1) (bif s.same nm then some i else r)

def nameK (g k32 : Nat) : Kn1 := fun call args h => match args with
  | [p, .agg [.int .i64 op, .str nm, n2, b, l, i, .int .i64 at_], env] =>
    bif F.eqI op 4 then (match envOf env with
      | some zs => bif Nat.ble zs.length 1000 then (match lastS nm zs 0 none with
          | some j => some (.val (.int .i64 (.ofNat (zs.length - 1 - j))) h)
          | none => (match call k32 [p, .int .i64 at_, .int .i64 170] h with
            | some (.val _ h') => some (.val (.int .i64 0) h')
            | _ => none)) else none
      | none => none)
    else (bif F.eqI op 5 || F.eqI op 25 || F.eqI op 6 || F.eqI op 21 then none else (match envOf env with
      | some _ => some (.val (.int .i64 0) h)
      | none => none))
  | _ => none

theorem strL_spec : ∀ {l : List V} {zs : List Str}, strL l = some zs → l = zs.map V.str
  | [], zs, h => by simp [strL] at h; subst h; rfl
  | .str s :: l, zs, h => by
    simp only [strL] at h
    cases hl : strL l with
    | none => rw [hl] at h; simp at h
    | some r => rw [hl] at h; simp at h; subst h; rw [strL_spec hl]; rfl
  | .dead :: _, _, h | .int _ _ :: _, _, h | .bool _ :: _, _, h | .nilp :: _, _, h | .ptr _ _ :: _, _, h | .iptr _ :: _, _, h | .nils :: _, _, h | .slice _ _ _ _ :: _, _, h | .arr _ _ _ _ _ _ :: _, _, h
  | .fn _ _ _ :: _, _, h | .nilf :: _, _, h | .iface _ _ :: _, _, h | .nili :: _, _, h | .agg _ :: _, _, h | .tuple _ :: _, _, h | .sym _ :: _, _, h | .mref _ :: _, _, h | .nilm :: _, _, h => by simp [strL] at h

theorem lastS_spec (nm : Str) : ∀ (l : List Str) (i : Nat) (r : Option Nat), 
    (∀ j, lastS nm l i r = some j → (r = some j ∧ ∀ k, k < l.length → (l.getD k ⟨0, 0⟩).same nm = false) ∨ (∃ k, k < l.length ∧ j = i + k ∧ (l.getD k ⟨0, 0⟩).same nm = true ∧ ∀ q, k < q → q < l.length → (l.getD q ⟨0, 0⟩).same nm = false)) ∧
    (lastS nm l i r = none → r = none ∧ ∀ k, k < l.length → (l.getD k ⟨0, 0⟩).same nm = false)
  | [], i, r => ⟨fun j h => .inl ⟨h, fun k hk => by simp at hk⟩, fun h => ⟨h, fun k hk => by simp at hk⟩⟩
  | s :: l, i, r => by
    obtain ⟨h1, h2⟩ := lastS_spec nm l (i + 1) (bif s.same nm then some i else r)
    refine ⟨fun j h => ?_, fun h => ?_⟩
    · rcases h1 j h with ⟨e, hall⟩ | ⟨k, hk, e, hs, hall⟩
      · cases hs : s.same nm with
        | true =>
          rw [hs] at e
          obtain rfl : i = j := by simpa using e
          refine .inr ⟨0, by simp, rfl, hs, fun q hq hq2 => ?_⟩
          obtain ⟨q, rfl⟩ : ∃ p, q = p + 1 := ⟨q - 1, by omega⟩
          simpa using hall q (by simpa using hq2)
        | false =>
          rw [hs] at e
          refine .inl ⟨e, fun k hk => ?_⟩
          cases k with
          | zero => simpa using hs
          | succ k => simpa using hall k (by simpa using hk)
      · refine .inr ⟨k + 1, by simpa using hk, by omega, by simpa using hs, fun q hq hq2 => ?_⟩
        obtain ⟨q, rfl⟩ : ∃ p, q = p + 1 := ⟨q - 1, by omega⟩
        simpa using hall q (by omega) (by simpa using hq2)
    · obtain ⟨e, hall⟩ := h2 h
      cases hs : s.same nm with
      | true => rw [hs] at e; simp at e
      | false =>
        rw [hs] at e
        refine ⟨e, fun k hk => ?_⟩
        cases k with
        | zero => simpa using hs
        | succ k => simpa using hall k (by simpa using hk)

/-- a world that has grown, or turned where the relation does not look -/
theorem WRel.other [Laid] {c : Ctx} {st : St} {w w' : World} (h : WRel c st w) (hs : w.heap.size ≤ w'.heap.size)
    (hb : ∀ b, (Own c st b ∨ ∃ o x, c.shut b o = some x) → w'.heap[b]? = w.heap[b]?) : WRel c st w' := by
  have hcell : ∀ b o x, c.shut b o = some x → w'.cell? ⟨b, o, none⟩ = w.cell? ⟨b, o, none⟩ := fun b o x hx => by
    unfold World.cell?
    rw [hb b (.inr ⟨o, x, hx⟩)]
  refine ⟨fun b o x hx => (hcell b o x hx).trans (h.shut b o x hx), fun r row hr => ?_, h.inj, h.glb, h.lcb, fun r b hb => Nat.lt_of_lt_of_le (h.lt r b hb) hs, h.tlt, fun b n hb => Nat.lt_of_lt_of_le (h.elt b n hb) hs⟩
  have := h.rows r row hr
  cases row with
  | gone => trivial
  | cells frz cs =>
    obtain ⟨b, xs, e, fz, h1, h2, h3⟩ := this
    exact ⟨b, xs, e, fz, h1, (hb b (.inl ⟨r, _, hr, by simp, h1⟩)).trans h2, h3⟩
  | tok =>
    obtain ⟨b, xs, e, fz, n, h1, h2, h3⟩ := this
    exact ⟨b, xs, e, fz, n, h1, (hb b (.inl ⟨r, _, hr, by simp, h1⟩)).trans h2, h3⟩
  | iter s pos =>
    obtain ⟨b, h1, h2⟩ := this
    exact ⟨b, h1, (hb b (.inl ⟨r, _, hr, by simp, h1⟩)).trans h2⟩
  | mp ks vs =>
    obtain ⟨b, es, clk, h1, h2, h3⟩ := this
    exact ⟨b, es, clk, h1, (hb b (.inl ⟨r, _, hr, by simp, h1⟩)).trans h2, h3⟩
theorem WRel.below [Laid] {c : Ctx} {st : St} {w w' : World} (h : WRel c st w) (hB : Below w.heap.size w w') : WRel c st w' :=
  h.other hB.size fun b hb => hB.block b (by
    rcases hb with ⟨r, row, _, _, h1⟩ | ⟨o, x, hx⟩
    · exact h.lt r b h1
    · exact h.shut_lt hx)
theorem Keep.below [Laid] {c : Ctx} {st : St} {w w' : World} (hB : Below w.heap.size w w') : Keep c c st st w w' :=
  ⟨hB.os, hB.tape, hB.output, hB.size, fun b hb _ => hB.block b hb, fun _ _ _ _ => rfl, fun _ _ h => h⟩

theorem envOf_texts [Laid] {c : Ctx} {st : St} {w : World} (hW : WRel c st w) {env : V} {x : Value} (hr : Rel c env x) {zs : List Str} (he : envOf env = some zs) :
    ∃ a len cap, x = .slice a len cap ∧ TextsAt w.heap.size w x (zs.map Str.bytes) := by
  unfold envOf at he
  split at he
  · obtain rfl := hr.nils_inv
    simp at he; subst he
    exact ⟨_, _, _, rfl, .inl ⟨rfl, rfl⟩⟩
  · rename_i tok full v l
    have hl := strL_spec he
    obtain ⟨b, off, cap, xs, rfl, hsz, hx, hs, _⟩ := hr.slice_inv
    have hf : flat (v :: l) = v :: l := by
      rw [hl]
      clear hl he hx hsz hr
      induction zs with
      | nil => rfl
      | cons s zs ih => show [V.str s] ++ flat (zs.map V.str) = _; rw [ih]; rfl
    rw [hf] at hx
    have hcell : ∀ j, j < zs.length → w.cell? ⟨b, off + j, none⟩ = some (.string (zs.getD j ⟨0, 0⟩).bytes) ∧ b < w.heap.size := fun j hj => by
      have hv : (v :: l)[j]? = some (.str (zs.getD j ⟨0, 0⟩)) := by rw [hl]; simp [hj]
      obtain ⟨y, hy, hry⟩ := hx.get hv
      obtain rfl := hry.str_inv
      exact ⟨hW.shut _ _ _ (hs j _ hy), hW.shut_lt (hs j _ hy)⟩
    have h0 : 0 < zs.length := by
      have : (v :: l).length = zs.length := by rw [hl]; simp
      simp at this; omega
    refine ⟨_, _, _, rfl, .inr ⟨b, off, cap, by rw [hl]; simp, (hcell 0 h0).2, fun j hj => ?_⟩⟩
    have hj' : j < zs.length := by simpa using hj
    rw [(hcell j hj').1]
    simp [hj']
  · simp at he

theorem getD_map (zs : List Str) (k : Nat) : (zs.map Str.bytes)[k]? = if k < zs.length then some (zs.getD k ⟨0, 0⟩).bytes else none := by
  by_cases h : k < zs.length
  · simp [h]
  · simp [h]

theorem known_name [Laid] : KnownAt Tryd.prog 86 (nameK 86 32) := by
  refine ⟨fun call hS g args h out hr => ?_, fun call hS hC g args h out hr c w st xs hst hW hH hargs hnl hlaid => ?_⟩
  · dsimp only at hr
    unfold nameK at hr
    split at hr
    · rename_i p op nm n2 b l i at_ env
      generalize F.eqI op 4 = q4 at hr
      cases q4 with
      | true =>
        simp only [cond_true] at hr
        split at hr
        · rename_i zs _
          generalize Nat.ble zs.length 1000 = q1 at hr
          cases q1 with
          | false => simp at hr
          | true =>
            simp only [cond_true] at hr
            split at hr
            · simp at hr; rw [← hr]; exact .refl _
            · split at hr
              · rename_i v h' hc
                simp at hr; rw [← hr]
                have h5 := hS _ _ _ _ hc
                exact h5
              · simp at hr
        · simp at hr
      | false =>
        simp only [cond_false] at hr
        generalize (F.eqI op 5 || F.eqI op 25 || F.eqI op 6 || F.eqI op 21) = q5 at hr
        cases q5 with
        | true => simp at hr
        | false =>
          simp only [cond_false] at hr
          split at hr
          · simp at hr; rw [← hr]; exact .refl _
          · simp at hr
    · simp at hr
  · subst hst
    dsimp only at hr
    cases hg : Nat.beq g 86 with
    | false => rw [hg] at hr; simp at hr
    | true =>
    obtain rfl := Nat.eq_of_beq_eq_true hg
    rw [hg] at hr
    simp only [cond_true] at hr
    refine ⟨⟨_, _, Tryd.func86, rfl⟩, ?_⟩
    unfold nameK at hr
    split at hr
    rotate_left
    · simp at hr
    rename_i p op nm n2 b l i at_ env
    have h3 : xs.length = 3 := hargs.1
    obtain ⟨xp, xe, xv, rfl⟩ : ∃ x y z, xs = [x, y, z] := by
      match xs, h3 with
      | [x, y, z], _ => exact ⟨x, y, z, rfl⟩
    have rp := hargs.head
    have re := hargs.tail.head
    have rv := hargs.tail.tail.head
    obtain ⟨ys, rfl, ry⟩ := re.agg_inv
    have h7 : ys.length = 7 := ry.1
    obtain ⟨y0, y1, y2, y3, y4, y5, y6, rfl⟩ : ∃ a b c d e f g, ys = [a, b, c, d, e, f, g] := by
      match ys, h7 with
      | [a, b, c, d, e, f, g], _ => exact ⟨a, b, c, d, e, f, g, rfl⟩
    obtain rfl := ry.head.int_inv
    obtain rfl := ry.tail.head.str_inv
    obtain rfl := ry.tail.tail.tail.tail.tail.tail.head.int_inv
    show Calls Tryd.prog 86 #[xp, .agg #[.int .i64 op, .string nm.bytes, y2, y3, y4, y5, .int .i64 at_], xv] w _
    cases q4 : F.eqI op 4 with
    | true =>
      obtain rfl : op = 4 := by simpa [F.eqI_eq] using q4
      rw [q4] at hr
      simp only [cond_true] at hr
      split at hr
      rotate_left
      · simp at hr
      rename_i zs henv
      cases q1 : Nat.ble zs.length 1000 with
      | false => rw [q1] at hr; simp at hr
      | true =>
      rw [q1] at hr
      simp only [cond_true] at hr
      have hlen : (zs.map Str.bytes).length ≤ 1000 := by simpa using Nat.le_of_ble_eq_true q1
      obtain ⟨a, len, cap, rfl, hI⟩ := envOf_texts hW rv henv
      have hsame : ∀ k, k < zs.length → ((zs.getD k ⟨0, 0⟩).same nm = true ↔ (zs.map Str.bytes)[k]? = some nm.bytes) := fun k hk => by
        rw [Str.same_spec, getD_map, if_pos hk, Option.some.injEq]
      cases hls : lastS nm zs 0 none with
      | some j =>
        rw [hls] at hr
        simp only [Option.some.injEq] at hr
        subst hr
        rcases (lastS_spec nm zs 0 none).1 j hls with ⟨e, _⟩ | ⟨k, hk, e, hs, hall⟩
        · cases e
        obtain rfl : j = k := by omega
        have hhit := (hsame j hk).1 hs
        refine (name_var xp y2 y3 y4 y5 nm.bytes at_ a len cap (zs.map Str.bytes) hlen w hI (fun _ _ _ => True) (fun hno => absurd hhit (hno j)) (fun hno => absurd hhit (hno j))).mono (fun e w' hp => ?_)
        rcases hp with ⟨j', hj', hz, hlater, rfl, hB⟩ | ⟨hno, _⟩
        · have hjj : j' = j := by
            have hj2 : j' < zs.length := by simpa using hj'
            rcases Nat.lt_trichotomy j' j with q | q | q
            · exact absurd hhit (hlater j q)
            · exact q
            · have := hall j' q hj2
              rw [(hsame j' hj2).2 hz] at this
              cases this
          subst hjj
          refine ⟨c, .refl c, ?_, hW.below hB, .below hB, .refl _, hH⟩
          have : ((zs.map Str.bytes).length : Int) - 1 - (j' : Int) = .ofNat (zs.length - 1 - j') := by simp; omega
          rw [this]
          exact .int _ _
        · exact absurd hhit (hno j)
      | none =>
        rw [hls] at hr
        simp only at hr
        split at hr
        rotate_left
        · simp at hr
        rename_i v h' hcall
        simp only [Option.some.injEq] at hr
        subst hr
        have hall := ((lastS_spec nm zs 0 none).2 hls).2
        have hcall' : ∀ W', Below w.heap.size w W' → Calls Tryd.prog 32 #[xp, .int .i64 at_, .int .i64 170] W' (OutOk c st W' (.val v h')) := fun W' hB =>
          (hC 32 _ _ _ hcall c W' st [xp, .int .i64 at_, .int .i64 170] rfl (hW.below hB) hH (.cons rp (.cons (.int _ _) (.cons (.int _ _) (.nil c)))) (by
            have := noLocL_mem.1 hnl p (by simp)
            rw [noLocL_mem]
            intro u hu
            simp at hu
            rcases hu with rfl | rfl | rfl
            · exact this
            · rfl
            · rfl) hlaid).2
        refine (name_var xp y2 y3 y4 y5 nm.bytes at_ a len cap (zs.map Str.bytes) hlen w hI (fun W' => OutOk c st W' (.val v h')) (fun _ W' hB _ => hcall' W' hB) (fun _ W' e W'' hO => ?_)).mono (fun e w' hp => ?_)
        · cases e with
          | returned x =>
            obtain ⟨c', r⟩ := hO
            refine ⟨⟨_, rfl⟩, r.keep.os, r.keep.tape, r.keep.output, r.keep.size, fun k hk hk2 => r.keep.block k hk2 (fun ⟨rf, row, _, _, hb⟩ => ?_)⟩
            have := hW.lt rf k hb
            omega
          | panicked ch => exact hO.elim
          | outgrown => exact hO.elim
        · rcases hp with ⟨j', hj', hz, _⟩ | ⟨hno, rfl, W', W'', x, hB, ⟨c', r⟩, o1, o2, o3, hsz, hbl⟩
          · have hj2 : j' < zs.length := by simpa using hj'
            have := hall j' hj2
            rw [(hsame j' hj2).2 hz] at this
            cases this
          · have hout : ∀ bb, (Own c' { st with hp := h' } bb ∨ ∃ o x, c'.shut bb o = some x) → w'.heap[bb]? = W''.heap[bb]? := fun bb hbb => by
              refine hbl bb ?_
              rcases Nat.lt_or_ge bb w.heap.size with q | q
              · exact .inl q
              rcases Nat.lt_or_ge bb W'.heap.size with q2 | q2
              · exfalso
                have hno : ¬ Own c st bb := fun ⟨rf, row, _, _, hb⟩ => by have := hW.lt rf bb hb; omega
                rcases hbb with hb | ⟨o, x, hx⟩
                · exact hno (r.keep.own bb q2 hb)
                · rw [r.keep.shut bb q2 hno] at hx
                  have := hW.shut_lt hx
                  omega
              · exact .inr q2
            refine ⟨c', r.le, .int _ _, r.wrel.other hsz hout, ?_, r.dirt, r.hp⟩
            refine ⟨o1.trans (r.keep.os.trans hB.os), o2.trans (r.keep.tape.trans hB.tape), o3.trans (r.keep.output.trans hB.output), Nat.le_trans hB.size (Nat.le_trans r.keep.size hsz), fun bb hb hn => ?_, fun bb hb hn o => r.keep.shut bb (Nat.lt_of_lt_of_le hb hB.size) hn o, fun bb hb ho => r.keep.own bb (Nat.lt_of_lt_of_le hb hB.size) ho⟩
            exact (hbl bb (.inl hb)).trans ((r.keep.block bb (Nat.lt_of_lt_of_le hb hB.size) hn).trans (hB.block bb hb))
    | false =>
      rw [q4] at hr
      simp only [cond_false] at hr
      cases q5 : (F.eqI op 5 || F.eqI op 25 || F.eqI op 6 || F.eqI op 21) with
      | true => rw [q5] at hr; simp at hr
      | false =>
      rw [q5] at hr
      simp only [cond_false] at hr
      split at hr
      rotate_left
      · simp at hr
      rename_i zs henv
      simp only [Option.some.injEq] at hr
      subst hr
      obtain ⟨a, len, cap, rfl, hI⟩ := envOf_texts hW rv henv
      have e4 : op ≠ 4 := by rw [F.eqI_eq] at q4; simpa using q4
      simp only [F.eqI_eq, Bool.or_eq_false_iff, beq_eq_false_iff_ne, ne_eq] at q5
      obtain ⟨⟨⟨e5, e25⟩, e6⟩, e21⟩ := q5
      exact (name_other xp (.string nm.bytes) y2 y3 y4 y5 (.int .i64 at_) a len cap op e4 e5 e25 e6 e21 w).mono (fun e w' ⟨he, hB⟩ => by
        subst he
        exact ⟨c, .refl c, .int _ _, hW.below hB, .below hB, .refl _, hH⟩)
end Go.AM
end

section
/- The functions of the seat that are known by their contracts; a law that runs to true holds. -/
namespace Go.Proofs.YtdaimjlegjhidaaDoor
open Go Go.AM Go.AM.S Go.Proofs Go.RowKit
set_option maxRecDepth 100000

noncomputable def kn0 : Kn := lkL [(34, errAs 66 68), (86, nameK 86 32)]
theorem run11 : S.fn Pg kn0 tbl 3000 11 [] noHp = some (.val (.bool true) noHp) := by kernel_rfl
noncomputable def kn (l : List (Nat × Int × Int)) : Kn := lkL [(34, errAs 66 68), (23, place l), (86, nameK 86 32), (11, cached (.val (.bool true) noHp))]

theorem kn0Ok (env : Nat → IntKind × Int) : @KnownOk (lay env) Pg kn0 := by
  letI := lay env
  refine knownL (fun p hp => ?_)
  simp only [List.mem_cons, List.not_mem_nil, or_false] at hp
  rcases hp with rfl | rfl
  · exact known_as (as34 env)
  · exact known_name

theorem knOk (env : Nat → IntKind × Int) (l : List (Nat × Int × Int)) (hl : ∀ t ∈ l, 0 < t.2.1 ∧ t.2.1 < 4611686018427387904 ∧ (env t.1).1 = .i64 ∧ (env t.1).2 % t.2.1 = t.2.2) : @KnownOk (lay env) Pg (kn l) := by
  letI := lay env
  refine knownL (fun p hp => ?_)
  simp only [List.mem_cons, List.not_mem_nil, or_false] at hp
  rcases hp with rfl | rfl | rfl | rfl
  · exact known_as (as34 env)
  · exact known_place place23 hl
  · exact known_name
  · refine known_cached (call0 := fnV Pg Cg kn0 3000) (fnV_sound prog_ok (kn0Ok env) 3000) ?_
    rw [← seat_eq]; exact run11

/-- A law that runs to true with unknown arguments. -/
theorem law_true (env : Nat → IntKind × Int) {l : List (Nat × Int × Int)} (hl : ∀ t ∈ l, 0 < t.2.1 ∧ t.2.1 < 4611686018427387904 ∧ (env t.1).1 = .i64 ∧ (env t.1).2 % t.2.1 = t.2.2)
    {f : FuncId} {args : List V} {xs : List Value} (hr : S.fn Pg (kn l) tbl 3000 f args noHp = some (.val (.bool true) noHp)) {W : World} (hg : W.cell? ⟨0, 0, none⟩ = some errT)
    (hargs : ∀ c : Ctx, @RelL (lay env) c args xs) (hnl : V.noLocL args = true) : Calls Tryd.prog f xs.toArray W fun e W' => e = .returned (.bool true) ∧ Stays W W' := by
  letI := lay env
  rw [seat_eq] at hr
  exact top_true (fnV_sound prog_ok (knOk env l hl) 3000) hr hargs hnl (lay_cells env W hg)

def env2 (a b : Int) : Nat → IntKind × Int := fun i => (.i64, bif Nat.beq i 0 then a else b)
def env3 (a b c : Int) : Nat → IntKind × Int := fun i => (.i64, bif Nat.beq i 0 then a else bif Nat.beq i 1 then b else c)
end Go.Proofs.YtdaimjlegjhidaaDoor
end
