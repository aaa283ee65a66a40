/- Part Sd of the proof: what it says stands at its theorems. -/
import Derived.Test.YtjldfkldmfmkiaaDoorProg
import Derived.WalkKit
import Derived.Tactics2
import Derived.Test.YtjldfkldmfmkiaaDoorAm3
import Derived.Shelf.Strings.Search1
import Derived.Shelf.Strings.Search2
import Derived.Shelf.Strings.Search3
import Derived.Shelf.Strings.Count
import Derived.Shelf.LaysM
import Derived.Shelf.Strings.Shaped
import Derived.Shelf.Strings.Split
import Derived.Shelf.Strings.SplitShaped
import Derived.Test.YtjldfkldmfmkiaaDoorAs
import Derived.Test.YtjldfkldmfmkiaaDoorCards
import Derived.Test.YtjldfkldmfmkiaaDoorTie
import Derived.ProofKit
import Derived.OpenShut
import Derived.Deep.DeepHandedRow
import Derived.Lib.LaidTab
import Derived.LaidHandle
import Derived.Test.YtjldfkldmfmkiaaDoorTc
set_option linter.unusedVariables false
set_option linter.unusedSimpArgs false
set_option linter.unusedSectionVars false
section
namespace Go.Proofs
open Go Go.RowKit

theorem tmod_emod (a n : Int) : a % n = (a.tmod n) % n := by
  have h := Int.mul_tdiv_add_tmod a n
  conv => lhs; rw [← h]
  rw [Int.add_comm, Int.add_mul_emod_self_left]
theorem tmod_lt' (a n : Int) (h : 0 < n) : a.tmod n < n := Int.tmod_lt_of_pos a h
theorem tmod_gt' (a n : Int) (h : 0 < n) : -n < a.tmod n := by
  have := Int.lt_tmod_of_pos a h
  omega

set_option maxHeartbeats 4000000 in
theorem placeK : Go.AM.PlaceOk Tryd.prog 11 := by
  refine ⟨⟨_, _, Tryd.func11, rfl⟩, fun a n w h0 h1 => ?_⟩
  have e0 := tmod_emod a n
  have e1 := tmod_lt' a n h0
  have e2 := tmod_gt' a n h0
  go_enter Tryd.func11, Tryd.ntmps11
  go_wp2
  · rename_i h
    go_ret
    refine ⟨?_, rfl⟩
    have e4 : a % n = a.tmod n + n := by rw [e0, ← Int.add_emod_right, Int.emod_eq_of_lt (by omega) (by omega)]
    rw [e4]; rfl
  · rename_i h
    go_ret
    refine ⟨?_, rfl⟩
    have e4 : a % n = a.tmod n := by rw [e0, Int.emod_eq_of_lt h e1]
    rw [e4]; rfl
end Go.Proofs
end

section
/-
  DERIVED: THE SHELF's CONTRACTS AT THIS DUMP, IN PLAIN WORDS (tools/lay-plain.mjs out of 'TrydShelf.lean', which tools/lay-shelf.mjs wrote): THE SAME DECLARATIONS UNDER THE SAME NAMES: 'import', 'namespace', 'open', 'def', 'theorem' AND NOTHING ELSE: no command of the shelf's: FOR A HAND-IN. Each laying: the table of numbers ('.._ren') and one theorem, a field a fact of the dump's own or the kernel's comparison; each contract: ONE APPLICATION.
-/
namespace Go.Proofs
open Go.Shelf
def Tryd.lays146_ren : Go.Shelf.Ren := ⟨fun | 146 => 35 | 221 => 40 | 268 => 41 | 138 => 42 | 143 => 43 | 195 => 44 | 197 => 31 | 218 => 45 | 219 => 46 | 260 => 39 | 217 => 47 | 225 => 48 | 224 => 49 | 267 => 50 | 266 => 51 | 314 => 52 | n => n, fun | 9 => 9 | 31 => 31 | 3 => 3 | 4 => 4 | 0 => 0 | 105 => 72 | 21 => 21 | 5 => 5 | 46 => 92 | 119 => 91 | 139 => 95 | 138 => 94 | 146 => 102 | 51 => 101 | n => n, fun | 1 => 3 | 3 => 1 | 4 => 2 | n => n⟩
theorem Tryd.lays146 : Go.Proofs.Lays.n146 Tryd.prog Tryd.lays146_ren := {
  mixed := by kernel_rfl
  f138 := Tryd.func42.trans (congrArg some (by kernel_rfl))
  f143 := Tryd.func43.trans (congrArg some (by kernel_rfl))
  f146 := Tryd.func35.trans (congrArg some (by kernel_rfl))
  f195 := Tryd.func44.trans (congrArg some (by kernel_rfl))
  f197 := Tryd.func31.trans (congrArg some (by kernel_rfl))
  f217 := Tryd.func47.trans (congrArg some (by kernel_rfl))
  f218 := Tryd.func45.trans (congrArg some (by kernel_rfl))
  f219 := Tryd.func46.trans (congrArg some (by kernel_rfl))
  f221 := Tryd.func40.trans (congrArg some (by kernel_rfl))
  f224 := Tryd.func49.trans (congrArg some (by kernel_rfl))
  f225 := Tryd.func48.trans (congrArg some (by kernel_rfl))
  f260 := Tryd.func39.trans (congrArg some (by kernel_rfl))
  f266 := Tryd.func51.trans (congrArg some (by kernel_rfl))
  f267 := Tryd.func50.trans (congrArg some (by kernel_rfl))
  f268 := Tryd.func41.trans (congrArg some (by kernel_rfl))
  f314 := Tryd.func52.trans (congrArg some (by kernel_rfl))
  t0 := Tryd.underlying0
  a0 := Tryd.isAgg0
  z0 := Tryd.sizeOf0
  v0 := Tryd.zeroValue0
  t3 := Tryd.underlying3
  a3 := Tryd.isAgg3
  z3 := Tryd.sizeOf3
  v3 := Tryd.zeroValue3
  t4 := Tryd.underlying4
  a4 := Tryd.isAgg4
  z4 := Tryd.sizeOf4
  v4 := Tryd.zeroValue4
  t5 := Tryd.underlying5
  a5 := Tryd.isAgg5
  z5 := Tryd.sizeOf5
  v5 := Tryd.zeroValue5
  t9 := Tryd.underlying9
  a9 := Tryd.isAgg9
  z9 := Tryd.sizeOf9
  v9 := Tryd.zeroValue9
  t21 := Tryd.underlying21
  a21 := Tryd.isAgg21
  z21 := Tryd.sizeOf21
  v21 := Tryd.zeroValue21
  t31 := Tryd.underlying31
  a31 := Tryd.isAgg31
  z31 := Tryd.sizeOf31
  v31 := Tryd.zeroValue31
  t46 := Tryd.underlying92
  a46 := Tryd.isAgg92
  z46 := Tryd.sizeOf92
  v46 := Tryd.zeroValue92
  t51 := Tryd.underlying101
  a51 := Tryd.isAgg101
  z51 := Tryd.sizeOf101
  v51 := Tryd.zeroValue101
  t105 := Tryd.underlying72
  a105 := Tryd.isAgg72
  z105 := Tryd.sizeOf72
  v105 := Tryd.zeroValue72
  t119 := Tryd.underlying91
  a119 := Tryd.isAgg91
  z119 := Tryd.sizeOf91
  t138 := Tryd.underlying94
  a138 := Tryd.isAgg94
  z138 := Tryd.sizeOf94
  v138 := Tryd.zeroValue94
  t139 := Tryd.underlying95
  a139 := Tryd.isAgg95
  z139 := Tryd.sizeOf95
  v139 := Tryd.zeroValue95
  t146 := Tryd.underlying102
  a146 := Tryd.isAgg102
  z146 := Tryd.sizeOf102
  v146 := Tryd.zeroValue102
  g1 := by kernel_rfl
  g3 := by kernel_rfl
  g4 := by kernel_rfl }
open Go.RowKit Go.Lib in
/-- strings.Split. (LAID: no walk: one application.) -/
theorem Tryd.strings_Split (s sep : ByteArray) (m : Int) (w : World) (hs : s.size < 4294967281) (hm : w.cell? ⟨3, 0, none⟩ = some (.int .i64 m)) (h1 : 1 ≤ sep.size) :
    Calls Tryd.prog 35 #[.string s, .string sep] w fun e w' =>
      e = .returned (.slice (some ⟨w.heap.size, 0, none⟩) (Lib.countB s sep + 1) (Lib.countB s sep + 1)) ∧ w' = w.alloc (.cells ((Lib.splitB sep 0 (Lib.countB s sep) s).map Value.string).toArray 9) := Any.strings_Split Tryd.lays146 (by kernel_rfl) s sep m w hs hm h1
def Tryd.laysM146_ren : Go.Shelf.Ren := ⟨fun | 146 => 35 | 221 => 40 | 268 => 41 | 138 => 42 | 143 => 43 | 195 => 44 | 197 => 31 | 218 => 45 | 219 => 46 | 260 => 39 | 217 => 47 | 225 => 48 | 224 => 49 | 267 => 50 | 266 => 51 | 314 => 52 | n => n, fun | 9 => 9 | 31 => 31 | 3 => 3 | 4 => 4 | 0 => 0 | 105 => 72 | 21 => 21 | 5 => 5 | 46 => 92 | 119 => 91 | 139 => 95 | 138 => 94 | 146 => 102 | 51 => 101 | n => n, fun | 1 => 3 | 3 => 1 | 4 => 2 | n => n⟩
theorem Tryd.laysM146 : Go.Proofs.LaysM.n146 Tryd.prog Tryd.laysM146_ren := {
  mixed := by kernel_rfl
  f138 := Tryd.func42.trans (congrArg some (by kernel_rfl))
  f143 := Tryd.func43.trans (congrArg some (by kernel_rfl))
  f146 := Tryd.func35.trans (congrArg some (by kernel_rfl))
  f195 := Tryd.func44.trans (congrArg some (by kernel_rfl))
  f197 := Tryd.func31.trans (congrArg some (by kernel_rfl))
  f217 := Tryd.func47.trans (congrArg some (by kernel_rfl))
  f218 := Tryd.func45.trans (congrArg some (by kernel_rfl))
  f219 := Tryd.func46.trans (congrArg some (by kernel_rfl))
  f221 := Tryd.func40.trans (congrArg some (by kernel_rfl))
  f224 := Tryd.func49.trans (congrArg some (by kernel_rfl))
  f225 := Tryd.func48.trans (congrArg some (by kernel_rfl))
  f260 := Tryd.func39.trans (congrArg some (by kernel_rfl))
  f266 := Tryd.func51.trans (congrArg some (by kernel_rfl))
  f267 := Tryd.func50.trans (congrArg some (by kernel_rfl))
  f268 := Tryd.func41.trans (congrArg some (by kernel_rfl))
  f314 := Tryd.func52.trans (congrArg some (by kernel_rfl))
  t0 := Tryd.underlying0
  a0 := Tryd.isAgg0
  z0 := Tryd.sizeOf0
  v0 := Tryd.zeroValue0
  t3 := Tryd.underlying3
  a3 := Tryd.isAgg3
  z3 := Tryd.sizeOf3
  v3 := Tryd.zeroValue3
  t4 := Tryd.underlying4
  a4 := Tryd.isAgg4
  z4 := Tryd.sizeOf4
  v4 := Tryd.zeroValue4
  t5 := Tryd.underlying5
  a5 := Tryd.isAgg5
  z5 := Tryd.sizeOf5
  v5 := Tryd.zeroValue5
  t9 := Tryd.underlying9
  a9 := Tryd.isAgg9
  z9 := Tryd.sizeOf9
  v9 := Tryd.zeroValue9
  t21 := Tryd.underlying21
  a21 := Tryd.isAgg21
  z21 := Tryd.sizeOf21
  v21 := Tryd.zeroValue21
  t31 := Tryd.underlying31
  a31 := Tryd.isAgg31
  z31 := Tryd.sizeOf31
  v31 := Tryd.zeroValue31
  t46 := Tryd.underlying92
  a46 := Tryd.isAgg92
  z46 := Tryd.sizeOf92
  v46 := Tryd.zeroValue92
  t51 := Tryd.underlying101
  a51 := Tryd.isAgg101
  z51 := Tryd.sizeOf101
  v51 := Tryd.zeroValue101
  t105 := Tryd.underlying72
  a105 := Tryd.isAgg72
  z105 := Tryd.sizeOf72
  v105 := Tryd.zeroValue72
  t119 := Tryd.underlying91
  a119 := Tryd.isAgg91
  z119 := Tryd.sizeOf91
  t138 := Tryd.underlying94
  a138 := Tryd.isAgg94
  z138 := Tryd.sizeOf94
  v138 := Tryd.zeroValue94
  t139 := Tryd.underlying95
  a139 := Tryd.isAgg95
  z139 := Tryd.sizeOf95
  v139 := Tryd.zeroValue95
  t146 := Tryd.underlying102
  a146 := Tryd.isAgg102
  z146 := Tryd.sizeOf102
  v146 := Tryd.zeroValue102
  g1 := by kernel_rfl
  g3 := by kernel_rfl
  g4 := by kernel_rfl
  i0 := by kernel_rfl
  i3 := by kernel_rfl
  i4 := by kernel_rfl
  i5 := by kernel_rfl
  i9 := by kernel_rfl
  i21 := by kernel_rfl
  i31 := by kernel_rfl
  i46 := by kernel_rfl
  i51 := by kernel_rfl
  i105 := by kernel_rfl
  i138 := by kernel_rfl
  i139 := by kernel_rfl
  i146 := by kernel_rfl
  m1 := by kernel_rfl
  s1_3 := fun w h => Go.Proofs.cell_of_shapedOpen_int (zero := #[.int .i64 0]) (t := 3) h (of_decide_eq_true (by kernel_rfl)) (by kernel_rfl) rfl (by kernel_rfl) (by kernel_rfl) Tryd.underlying3
  m3 := by kernel_rfl
  m4 := by kernel_rfl }
open Go.RowKit Go.Lib in
/-- strings.Split, sep not empty. (LAID: no walk: one application.) -/
theorem Tryd.strings_Split_shaped (s sep : ByteArray) (w : World) (h : w.ShapedOpen Tryd.prog) (hs : s.size < 4294967281) (h1 : 1 ≤ sep.size) :
    Calls Tryd.prog 35 #[.string s, .string sep] w fun e w' =>
      e = .returned (.slice (some ⟨w.heap.size, 0, none⟩) (Lib.countB s sep + 1) (Lib.countB s sep + 1)) ∧ w' = w.alloc (.cells ((Lib.splitB sep 0 (Lib.countB s sep) s).map Value.string).toArray 9) := Any.strings_Split_shaped Tryd.laysM146 s sep w h hs h1
end Go.Proofs
end

section
/- What is laid ahead in this seat: errors.errorType's cell, whatever internal/bytealg.MaxLen holds, and the law's arguments as unknown numbers. -/
namespace Go.Proofs
open Go

def errT : Value := .iface 78 (.agg #[.pointer (some ⟨4, 26, none⟩)])
abbrev lay (m : Int) (env : Nat → IntKind × Int) : Go.AM.Laid := ⟨env, fun b o => bif Nat.beq b 0 && Nat.beq o 0 then some errT else bif Nat.beq b 3 && Nat.beq o 0 then some (.int .i64 m) else none⟩
theorem lay_cells (m : Int) (env : Nat → IntKind × Int) (w : World) (h : w.cell? ⟨0, 0, none⟩ = some errT) (h3 : w.cell? ⟨3, 0, none⟩ = some (.int .i64 m)) : ∀ b o x, (lay m env).cells b o = some x → w.cell? ⟨b, o, none⟩ = some x := by
  intro b o x hx
  have hx : (bif Nat.beq b 0 && Nat.beq o 0 then some errT else bif Nat.beq b 3 && Nat.beq o 0 then some (.int .i64 m) else none) = some x := hx
  cases hq : (Nat.beq b 0 && Nat.beq o 0) with
  | false =>
    rw [hq] at hx
    cases hq3 : (Nat.beq b 3 && Nat.beq o 0) with
    | false => rw [hq3] at hx; simp at hx
    | true =>
      rw [hq3] at hx
      simp only [Bool.and_eq_true] at hq3
      have e1 := Nat.eq_of_beq_eq_true hq3.1
      have e2 := Nat.eq_of_beq_eq_true hq3.2
      subst e1; subst e2
      have hx : some (Value.int .i64 m) = some x := hx
      obtain rfl := Option.some.inj hx
      exact h3
  | true =>
    rw [hq] at hx
    simp only [Bool.and_eq_true] at hq
    have e1 := Nat.eq_of_beq_eq_true hq.1
    have e2 := Nat.eq_of_beq_eq_true hq.2
    subst e1; subst e2
    have hx : some errT = some x := hx
    obtain rfl := Option.some.inj hx
    exact h
theorem asK (m : Int) (env : Nat → IntKind × Int) : @Go.AM.AsOk (lay m env) Tryd.prog 18 51 53 := by
  letI := lay m env
  refine ⟨⟨_, _, Tryd.func18, rfl⟩, fun t w => as_nil t w, fun e t old w hl hc hz => ?_⟩
  exact (as_hit e t old w (hl 0 0 errT rfl) hc hz).mono (fun ev w' ⟨h1, h2⟩ => ⟨h1, _, _, _, _, _, _, _, _, h2⟩)

/-- the signs that parse's lexer splits -/
def signsS : Go.AM.Str := Go.AM.Str.of "==> := <= >= <> && || -> ;; : ; , . ( ) { } | = < > + - * !".toUTF8
def blankS : Go.AM.Str := Go.AM.Str.of " ".toUTF8
def partsS : List Go.AM.Str := ["==>", ":=", "<=", ">=", "<>", "&&", "||", "->", ";;", ":", ";", ",", ".", "(", ")", "{", "}", "|", "=", "<", ">", "+", "-", "*", "!"].map fun s => Go.AM.Str.of s.toUTF8
set_option maxRecDepth 100000 in
theorem splitOkK (m : Int) (env : Nat → IntKind × Int) : @Go.AM.SplitOk (lay m env) Tryd.prog 35 signsS blankS partsS := by
  letI := lay m env
  refine ⟨⟨_, _, Tryd.func35, rfl⟩, fun w hl => ?_⟩
  have hm : w.cell? ⟨3, 0, none⟩ = some (.int .i64 m) := hl 3 0 _ rfl
  have hb : blankS.bytes.size = 1 := by kernel_rfl
  have hs : signsS.bytes.size = 59 := by kernel_rfl
  refine (Tryd.strings_Split signsS.bytes blankS.bytes m w (by rw [hs]; decide) hm (by rw [hb]; decide)).mono (fun e w' ⟨h1, h2⟩ => ⟨9, ?_, ?_⟩)
  · rw [h1]
    have : Go.Lib.countB signsS.bytes blankS.bytes + 1 = partsS.length := by kernel_rfl
    rw [this]
  · rw [h2]
    have : (Go.Lib.splitB blankS.bytes 0 (Go.Lib.countB signsS.bytes blankS.bytes) signsS.bytes).map Value.string = partsS.map fun u => Value.string u.bytes := by kernel_rfl
    rw [this]
end Go.Proofs
end

section
/- What the seat's rows list: their cells, a world that holds them. -/
namespace Go.Proofs.YtjldfkldmfmkiaaDoor
open Go.ChangeShapes Go.WideShapes Go.RowKit

theorem own : ownKnob Tryd.prog.godebug = none := by kernel_rfl
theorem et : Tryd.prog.globalNamed "errors.errorType" = some 0 := by kernel_rfl
theorem rt : (Tryd.prog.cutTypes.find? (·.1 == "internal/reflectlite.rtype")).map (·.2) = some 78 := by kernel_rfl
theorem oneRow : ((List.range 132).filter fun t => Tryd.prog.rowNamed t [101, 114, 114, 111, 114]) = [26] := by kernel_rfl
theorem typesSize : Tryd.prog.types.size = 132 := by kernel_rfl

abbrev laidL : List (String × DataW Unit) := [("unicode/utf8.acceptRanges", Rows.laid_unicode_utf8_acceptRanges), ("errors.errorType", Rows.laid_errors_errorType), ("unicode/utf8.first", Rows.laid_unicode_utf8_first)]

/-- The variable's one cell. -/
theorem handle_of_laid {W : World} (h : laidMetH Tryd.prog laidL W) : W.cell? ⟨0, 0, none⟩ = some errT := by
  have h' : laidMet Tryd.prog [("unicode/utf8.acceptRanges", Rows.laid_unicode_utf8_acceptRanges), ("unicode/utf8.first", Rows.laid_unicode_utf8_first)] W ∧ handlesMet Tryd.prog [("errors.errorType", Rows.laid_errors_errorType)] W := h
  obtain ⟨name, u, ty, e1, e2, e3, e4, e5⟩ := h'.2 _ (List.mem_singleton.2 rfl)
  have en : name = [101, 114, 114, 111, 114] := (Option.some.inj e1).symm
  subst en
  obtain rfl := Option.some.inj (rt.symm.trans e2)
  have hm : ty ∈ (List.range 132).filter fun t => Tryd.prog.rowNamed t [101, 114, 114, 111, 114] := List.mem_filter.2 ⟨List.mem_range.2 (by rw [← typesSize]; exact e3), e4⟩
  rw [oneRow] at hm
  obtain rfl := List.mem_singleton.1 hm
  have hh : typeHandle Tryd.prog 26 = .pointer (some ⟨4, 26, none⟩) := by kernel_rfl
  rw [hh] at e5
  simpa [errT] using World.var?_cell et e5 0

def firstCells : Array Value := (Pinned.utf8FirstZ.map fun z => Value.int .u8 (z : Nat)).toArray
def rangeCells : Array Value := ([128, 191, 160, 191, 128, 159, 144, 191, 128, 143, 0, 0, 0, 0, 0, 0, 0, 0, 0, 0, 0, 0, 0, 0, 0, 0, 0, 0, 0, 0, 0, 0].map fun (z : Int) => Value.int .u8 z).toArray

/-- A world that meets the condition: the settled one, the variables' cells laid. -/
noncomputable def laidWorld (os : Os) : World :=
  let w0 := World.holding Tryd.prog os ⟨#[], #[], []⟩
  { w0 with heap := ((w0.heap.modify 0 fun
      | .cells _ t frozen => .cells #[errT] t frozen
      | o => o).modify 1 fun
      | .cells _ t frozen => .cells firstCells t frozen
      | o => o).modify 2 fun
      | .cells _ t frozen => .cells rangeCells t frozen
      | o => o }
set_option maxRecDepth 100000 in
theorem laidWorld_met (os : Os) (args : Array Value) : laidMetH Tryd.prog laidL ((laidWorld os).forCall (fun _ _ => 0) ⟨#[], args, []⟩).memory :=
  laidMetH_of_parts (laidMet_of_run' 8 (by kernel_rfl) (by kernel_rfl)) (by kernel_rfl)
end Go.Proofs.YtjldfkldmfmkiaaDoor
end

section
/- The functions of the seat that are known by their contracts; a law that runs to true holds. -/
namespace Go.Proofs.YtjldfkldmfmkiaaDoor
open Go Go.AM Go.AM.S Go.Proofs Go.RowKit
set_option maxRecDepth 100000

noncomputable def kn0 : Kn := lkL [(18, errAs 51 53), (35, splitK signsS blankS partsS)]
theorem run7 : S.fn Pg kn0 tbl 3000 7 [] noHp = some (.val (.bool true) noHp) := by kernel_rfl
noncomputable def kn (l : List (Nat × Int × Int)) : Kn := lkL [(18, errAs 51 53), (35, splitK signsS blankS partsS), (11, place l), (7, cached (.val (.bool true) noHp))]

theorem kn0Ok (m : Int) (env : Nat → IntKind × Int) : @KnownOk (lay m env) Pg kn0 := by
  letI := lay m env
  refine knownL (fun p hp => ?_)
  simp only [List.mem_cons, List.not_mem_nil, or_false] at hp
  rcases hp with rfl | rfl
  · exact known_as (asK m env)
  · exact known_split (splitOkK m env)

theorem knOk (m : Int) (env : Nat → IntKind × Int) (l : List (Nat × Int × Int)) (hl : ∀ t ∈ l, 0 < t.2.1 ∧ t.2.1 < 4611686018427387904 ∧ (env t.1).1 = .i64 ∧ (env t.1).2 % t.2.1 = t.2.2) : @KnownOk (lay m env) Pg (kn l) := by
  letI := lay m env
  refine knownL (fun p hp => ?_)
  simp only [List.mem_cons, List.not_mem_nil, or_false] at hp
  rcases hp with rfl | rfl | rfl | rfl
  · exact known_as (asK m env)
  · exact known_split (splitOkK m env)
  · exact known_place placeK hl
  · refine known_cached (call0 := fnV Pg Cg kn0 3000) (fnV_sound prog_ok (kn0Ok m env) 3000) ?_
    rw [← seat_eq]; exact run7

/-- A law that runs to true with unknown arguments. -/
theorem law_true (m : Int) (env : Nat → IntKind × Int) {l : List (Nat × Int × Int)} (hl : ∀ t ∈ l, 0 < t.2.1 ∧ t.2.1 < 4611686018427387904 ∧ (env t.1).1 = .i64 ∧ (env t.1).2 % t.2.1 = t.2.2)
    {f : FuncId} {args : List V} {xs : List Value} {N : Nat} (hr : S.fn Pg (kn l) tbl N f args noHp = some (.val (.bool true) noHp)) {W : World} (hg : W.cell? ⟨0, 0, none⟩ = some errT) (h3 : W.cell? ⟨3, 0, none⟩ = some (.int .i64 m))
    (hargs : ∀ c : Ctx, @RelL (lay m env) c args xs) (hnl : V.noLocL args = true) : Calls Tryd.prog f xs.toArray W fun e W' => e = .returned (.bool true) ∧ Stays W W' := by
  letI := lay m env
  rw [seat_eq] at hr
  exact top_true (fnV_sound prog_ok (knOk m env l hl) N) hr hargs hnl (lay_cells m env W hg h3)

def env2 (a b : Int) : Nat → IntKind × Int := fun i => (.i64, bif Nat.beq i 0 then a else b)
def env3 (a b c : Int) : Nat → IntKind × Int := fun i => (.i64, bif Nat.beq i 0 then a else bif Nat.beq i 1 then b else c)
end Go.Proofs.YtjldfkldmfmkiaaDoor
end
