/- Part Sd of the proof: what it says stands at its theorems. -/
import Derived.Test.YtjldfkldmfmkiaaDoorProg
import Derived.WalkKit
import Derived.Tactics2
import Derived.Test.YtjldfkldmfmkiaaDoorAm2
import Derived.Shelf.Strings.Search1
import Derived.Shelf.Strings.Search2
import Derived.Shelf.Strings.Search3
import Derived.Shelf.Strings.Count
import Derived.Shelf.LaysM
import Derived.Shelf.Strings.Shaped
import Derived.Shelf.Strings.Split
import Derived.Shelf.Strings.SplitShaped
import Derived.Shelf.Unicode.Decode
import Derived.Shelf.Unicode.DecodeSlow
import Derived.Shelf.Unicode.DecodeAny
import Derived.Test.YtjldfkldmfmkiaaDoorAs
import Derived.Test.YtjldfkldmfmkiaaDoorAm3
import Derived.Test.YtjldfkldmfmkiaaDoorCards
import Derived.Test.YtjldfkldmfmkiaaDoorTie
import Derived.ProofKit
import Derived.OpenShut
import Derived.Deep.DeepHandedRow
import Derived.Lib.LaidTab
import Derived.LaidHandle
import Derived.Test.YtjldfkldmfmkiaaDoorTc
import Derived.Lib.LaidU8
set_option linter.unusedVariables false
set_option linter.unusedSimpArgs false
set_option linter.unusedSectionVars false
section
namespace Go.Proofs
open Go Go.RowKit
theorem tmod_emod (a n : Int) : a % n = (a.tmod n) % n := by
 have h := Int.mul_tdiv_add_tmod a n
 conv => lhs; rw [← h]
 rw [Int.add_comm, Int.add_mul_emod_self_left]
theorem tmod_lt' (a n : Int) (h : 0 < n) : a.tmod n < n := Int.tmod_lt_of_pos a h
theorem tmod_gt' (a n : Int) (h : 0 < n) : -n < a.tmod n := by
 have := Int.lt_tmod_of_pos a h
 omega
set_option maxHeartbeats 4000000 in
theorem placeK : Go.AM.PlaceOk Tryd.prog 11 := by
 refine ⟨⟨_, _, Tryd.func11, rfl⟩, fun a n w h0 h1 => ?_⟩
 have e0 := tmod_emod a n
 have e1 := tmod_lt' a n h0
 have e2 := tmod_gt' a n h0
 go_enter Tryd.func11, Tryd.ntmps11
 go_wp2
 ·rename_i h
  go_ret
  refine ⟨?_, rfl⟩
  have e4 : a % n = a.tmod n + n := by rw [e0, ← Int.add_emod_right, Int.emod_eq_of_lt (by omega) (by omega)]
  rw [e4]; rfl
 ·rename_i h
  go_ret
  refine ⟨?_, rfl⟩
  have e4 : a % n = a.tmod n := by rw [e0, Int.emod_eq_of_lt h e1]
  rw [e4]; rfl
end Go.Proofs
end

section
namespace Go.Proofs
open Go.Shelf
def Tryd.lays146_ren : Go.Shelf.Ren := ⟨fun | 146 => 35 | 221 => 40 | 268 => 41 | 138 => 42 | 143 => 43 | 195 => 44 | 197 => 31 | 218 => 45 | 219 => 46 | 260 => 39 | 217 => 47 | 225 => 48 | 224 => 49 | 267 => 50 | 266 => 51 | 314 => 52 | n => n, fun | 9 => 9 | 31 => 31 | 3 => 3 | 4 => 4 | 0 => 0 | 105 => 72 | 21 => 21 | 5 => 5 | 46 => 92 | 119 => 91 | 139 => 95 | 138 => 94 | 146 => 102 | 51 => 101 | n => n, fun | 1 => 3 | 3 => 1 | 4 => 2 | n => n⟩
theorem Tryd.lays146 : Go.Proofs.Lays.n146 Tryd.prog Tryd.lays146_ren := {
 mixed := by kernel_rfl
 f138 := Tryd.func42.trans (congrArg some (by kernel_rfl))
 f143 := Tryd.func43.trans (congrArg some (by kernel_rfl))
 f146 := Tryd.func35.trans (congrArg some (by kernel_rfl))
 f195 := Tryd.func44.trans (congrArg some (by kernel_rfl))
 f197 := Tryd.func31.trans (congrArg some (by kernel_rfl))
 f217 := Tryd.func47.trans (congrArg some (by kernel_rfl))
 f218 := Tryd.func45.trans (congrArg some (by kernel_rfl))
 f219 := Tryd.func46.trans (congrArg some (by kernel_rfl))
 f221 := Tryd.func40.trans (congrArg some (by kernel_rfl))
 f224 := Tryd.func49.trans (congrArg some (by kernel_rfl))
 f225 := Tryd.func48.trans (congrArg some (by kernel_rfl))
 f260 := Tryd.func39.trans (congrArg some (by kernel_rfl))
 f266 := Tryd.func51.trans (congrArg some (by kernel_rfl))
 f267 := Tryd.func50.trans (congrArg some (by kernel_rfl))
 f268 := Tryd.func41.trans (congrArg some (by kernel_rfl))
 f314 := Tryd.func52.trans (congrArg some (by kernel_rfl))
 t0 := Tryd.underlying0
 a0 := Tryd.isAgg0
 z0 := Tryd.sizeOf0
 v0 := Tryd.zeroValue0
 t3 := Tryd.underlying3
 a3 := Tryd.isAgg3
 z3 := Tryd.sizeOf3
 v3 := Tryd.zeroValue3
 t4 := Tryd.underlying4
 a4 := Tryd.isAgg4
 z4 := Tryd.sizeOf4
 v4 := Tryd.zeroValue4
 t5 := Tryd.underlying5
 a5 := Tryd.isAgg5
 z5 := Tryd.sizeOf5
 v5 := Tryd.zeroValue5
 t9 := Tryd.underlying9
 a9 := Tryd.isAgg9
 z9 := Tryd.sizeOf9
 v9 := Tryd.zeroValue9
 t21 := Tryd.underlying21
 a21 := Tryd.isAgg21
 z21 := Tryd.sizeOf21
 v21 := Tryd.zeroValue21
 t31 := Tryd.underlying31
 a31 := Tryd.isAgg31
 z31 := Tryd.sizeOf31
 v31 := Tryd.zeroValue31
 t46 := Tryd.underlying92
 a46 := Tryd.isAgg92
 z46 := Tryd.sizeOf92
 v46 := Tryd.zeroValue92
 t51 := Tryd.underlying101
 a51 := Tryd.isAgg101
 z51 := Tryd.sizeOf101
 v51 := Tryd.zeroValue101
 t105 := Tryd.underlying72
 a105 := Tryd.isAgg72
 z105 := Tryd.sizeOf72
 v105 := Tryd.zeroValue72
 t119 := Tryd.underlying91
 a119 := Tryd.isAgg91
 z119 := Tryd.sizeOf91
 t138 := Tryd.underlying94
 a138 := Tryd.isAgg94
 z138 := Tryd.sizeOf94
 v138 := Tryd.zeroValue94
 t139 := Tryd.underlying95
 a139 := Tryd.isAgg95
 z139 := Tryd.sizeOf95
 v139 := Tryd.zeroValue95
 t146 := Tryd.underlying102
 a146 := Tryd.isAgg102
 z146 := Tryd.sizeOf102
 v146 := Tryd.zeroValue102
 g1 := by kernel_rfl
 g3 := by kernel_rfl
 g4 := by kernel_rfl }
open Go.RowKit Go.Lib in
theorem Tryd.strings_Split (s sep : ByteArray) (m : Int) (w : World) (hs : s.size < 4294967281) (hm : w.cell? ⟨3, 0, none⟩ = some (.int .i64 m)) (h1 : 1 ≤ sep.size) :
  Calls Tryd.prog 35 #[.string s, .string sep] w fun e w' =>
   e = .returned (.slice (some ⟨w.heap.size, 0, none⟩) (Lib.countB s sep + 1) (Lib.countB s sep + 1)) ∧ w' = w.alloc (.cells ((Lib.splitB sep 0 (Lib.countB s sep) s).map Value.string).toArray 9) := Any.strings_Split Tryd.lays146 (by kernel_rfl) s sep m w hs hm h1
def Tryd.laysM146_ren : Go.Shelf.Ren := ⟨fun | 146 => 35 | 221 => 40 | 268 => 41 | 138 => 42 | 143 => 43 | 195 => 44 | 197 => 31 | 218 => 45 | 219 => 46 | 260 => 39 | 217 => 47 | 225 => 48 | 224 => 49 | 267 => 50 | 266 => 51 | 314 => 52 | n => n, fun | 9 => 9 | 31 => 31 | 3 => 3 | 4 => 4 | 0 => 0 | 105 => 72 | 21 => 21 | 5 => 5 | 46 => 92 | 119 => 91 | 139 => 95 | 138 => 94 | 146 => 102 | 51 => 101 | n => n, fun | 1 => 3 | 3 => 1 | 4 => 2 | n => n⟩
theorem Tryd.laysM146 : Go.Proofs.LaysM.n146 Tryd.prog Tryd.laysM146_ren := {
 mixed := by kernel_rfl
 f138 := Tryd.func42.trans (congrArg some (by kernel_rfl))
 f143 := Tryd.func43.trans (congrArg some (by kernel_rfl))
 f146 := Tryd.func35.trans (congrArg some (by kernel_rfl))
 f195 := Tryd.func44.trans (congrArg some (by kernel_rfl))
 f197 := Tryd.func31.trans (congrArg some (by kernel_rfl))
 f217 := Tryd.func47.trans (congrArg some (by kernel_rfl))
 f218 := Tryd.func45.trans (congrArg some (by kernel_rfl))
 f219 := Tryd.func46.trans (congrArg some (by kernel_rfl))
 f221 := Tryd.func40.trans (congrArg some (by kernel_rfl))
 f224 := Tryd.func49.trans (congrArg some (by kernel_rfl))
 f225 := Tryd.func48.trans (congrArg some (by kernel_rfl))
 f260 := Tryd.func39.trans (congrArg some (by kernel_rfl))
 f266 := Tryd.func51.trans (congrArg some (by kernel_rfl))
 f267 := Tryd.func50.trans (congrArg some (by kernel_rfl))
 f268 := Tryd.func41.trans (congrArg some (by kernel_rfl))
 f314 := Tryd.func52.trans (congrArg some (by kernel_rfl))
 t0 := Tryd.underlying0
 a0 := Tryd.isAgg0
 z0 := Tryd.sizeOf0
 v0 := Tryd.zeroValue0
 t3 := Tryd.underlying3
 a3 := Tryd.isAgg3
 z3 := Tryd.sizeOf3
 v3 := Tryd.zeroValue3
 t4 := Tryd.underlying4
 a4 := Tryd.isAgg4
 z4 := Tryd.sizeOf4
 v4 := Tryd.zeroValue4
 t5 := Tryd.underlying5
 a5 := Tryd.isAgg5
 z5 := Tryd.sizeOf5
 v5 := Tryd.zeroValue5
 t9 := Tryd.underlying9
 a9 := Tryd.isAgg9
 z9 := Tryd.sizeOf9
 v9 := Tryd.zeroValue9
 t21 := Tryd.underlying21
 a21 := Tryd.isAgg21
 z21 := Tryd.sizeOf21
 v21 := Tryd.zeroValue21
 t31 := Tryd.underlying31
 a31 := Tryd.isAgg31
 z31 := Tryd.sizeOf31
 v31 := Tryd.zeroValue31
 t46 := Tryd.underlying92
 a46 := Tryd.isAgg92
 z46 := Tryd.sizeOf92
 v46 := Tryd.zeroValue92
 t51 := Tryd.underlying101
 a51 := Tryd.isAgg101
 z51 := Tryd.sizeOf101
 v51 := Tryd.zeroValue101
 t105 := Tryd.underlying72
 a105 := Tryd.isAgg72
 z105 := Tryd.sizeOf72
 v105 := Tryd.zeroValue72
 t119 := Tryd.underlying91
 a119 := Tryd.isAgg91
 z119 := Tryd.sizeOf91
 t138 := Tryd.underlying94
 a138 := Tryd.isAgg94
 z138 := Tryd.sizeOf94
 v138 := Tryd.zeroValue94
 t139 := Tryd.underlying95
 a139 := Tryd.isAgg95
 z139 := Tryd.sizeOf95
 v139 := Tryd.zeroValue95
 t146 := Tryd.underlying102
 a146 := Tryd.isAgg102
 z146 := Tryd.sizeOf102
 v146 := Tryd.zeroValue102
 g1 := by kernel_rfl
 g3 := by kernel_rfl
 g4 := by kernel_rfl
 i0 := by kernel_rfl
 i3 := by kernel_rfl
 i4 := by kernel_rfl
 i5 := by kernel_rfl
 i9 := by kernel_rfl
 i21 := by kernel_rfl
 i31 := by kernel_rfl
 i46 := by kernel_rfl
 i51 := by kernel_rfl
 i105 := by kernel_rfl
 i138 := by kernel_rfl
 i139 := by kernel_rfl
 i146 := by kernel_rfl
 m1 := by kernel_rfl
 s1_3 := fun w h => Go.Proofs.cell_of_shapedOpen_int (zero := #[.int .i64 0]) (t := 3) h (of_decide_eq_true (by kernel_rfl)) (by kernel_rfl) rfl (by kernel_rfl) (by kernel_rfl) Tryd.underlying3
 m3 := by kernel_rfl
 m4 := by kernel_rfl }
open Go.RowKit Go.Lib in
theorem Tryd.strings_Split_shaped (s sep : ByteArray) (w : World) (h : w.ShapedOpen Tryd.prog) (hs : s.size < 4294967281) (h1 : 1 ≤ sep.size) :
  Calls Tryd.prog 35 #[.string s, .string sep] w fun e w' =>
   e = .returned (.slice (some ⟨w.heap.size, 0, none⟩) (Lib.countB s sep + 1) (Lib.countB s sep + 1)) ∧ w' = w.alloc (.cells ((Lib.splitB sep 0 (Lib.countB s sep) s).map Value.string).toArray 9) := Any.strings_Split_shaped Tryd.laysM146 s sep w h hs h1
end Go.Proofs
end

section
namespace Go.Proofs
open Go.Shelf
def Tryd.lays197_ren : Go.Shelf.Ren := ⟨fun | 197 => 31 | 260 => 39 | n => n, fun | 9 => 9 | 21 => 21 | 3 => 3 | 4 => 4 | 5 => 5 | 105 => 72 | 119 => 91 | 0 => 0 | 46 => 92 | 139 => 95 | 138 => 94 | n => n, fun | 3 => 1 | 4 => 2 | n => n⟩
theorem Tryd.lays197 : Go.Proofs.Lays.n197 Tryd.prog Tryd.lays197_ren := {
 mixed := by kernel_rfl
 f197 := Tryd.func31.trans (congrArg some (by kernel_rfl))
 f260 := Tryd.func39.trans (congrArg some (by kernel_rfl))
 t0 := Tryd.underlying0
 a0 := Tryd.isAgg0
 z0 := Tryd.sizeOf0
 v0 := Tryd.zeroValue0
 t3 := Tryd.underlying3
 a3 := Tryd.isAgg3
 z3 := Tryd.sizeOf3
 v3 := Tryd.zeroValue3
 t4 := Tryd.underlying4
 a4 := Tryd.isAgg4
 z4 := Tryd.sizeOf4
 v4 := Tryd.zeroValue4
 t5 := Tryd.underlying5
 a5 := Tryd.isAgg5
 z5 := Tryd.sizeOf5
 v5 := Tryd.zeroValue5
 t9 := Tryd.underlying9
 a9 := Tryd.isAgg9
 z9 := Tryd.sizeOf9
 v9 := Tryd.zeroValue9
 t21 := Tryd.underlying21
 a21 := Tryd.isAgg21
 z21 := Tryd.sizeOf21
 v21 := Tryd.zeroValue21
 t46 := Tryd.underlying92
 a46 := Tryd.isAgg92
 z46 := Tryd.sizeOf92
 v46 := Tryd.zeroValue92
 t105 := Tryd.underlying72
 a105 := Tryd.isAgg72
 z105 := Tryd.sizeOf72
 v105 := Tryd.zeroValue72
 t119 := Tryd.underlying91
 a119 := Tryd.isAgg91
 z119 := Tryd.sizeOf91
 t138 := Tryd.underlying94
 a138 := Tryd.isAgg94
 z138 := Tryd.sizeOf94
 v138 := Tryd.zeroValue94
 t139 := Tryd.underlying95
 a139 := Tryd.isAgg95
 z139 := Tryd.sizeOf95
 v139 := Tryd.zeroValue95
 g3 := by kernel_rfl
 g4 := by kernel_rfl }
open Go.RowKit Go.Lib in
theorem Tryd.utf8_DecodeRuneInString (s : ByteArray) (w : World) (hT : Lib.Utf8Tabs 1 2 w) :
  Calls Tryd.prog 31 #[.string s] w fun e w' => e = .returned (.tuple #[.int .i32 (Lib.decodeGo s).1, .int .i64 (Lib.decodeGo s).2]) ∧ Below w.heap.size w w' := Any.utf8_DecodeRuneInString Tryd.lays197 s w hT
end Go.Proofs
end

section
namespace Go.Proofs
open Go
def errT : Value := .iface 78 (.agg #[.pointer (some ⟨4, 26, none⟩)])
def tabC (b o : Nat) : Option Value := bif Nat.beq b 1 && Nat.blt o 256 then some (.int .u8 (Lib.firstT o)) else
 bif Nat.beq b 2 && Nat.blt o 32 then some (.int .u8 (bif Nat.beq (o % 2) 0 then Lib.accLo (o / 2) else Lib.accHi (o / 2))) else none
def orC (a b : Option Value) : Option Value := match a with | some x => some x | none => b
abbrev lay (m : Int) (env : Nat → IntKind × Int) (X : Nat → Nat → Option Value) : Go.AM.Laid := ⟨env, fun b o => bif Nat.beq b 0 && Nat.beq o 0 then some errT else bif Nat.beq b 3 && Nat.beq o 0 then some (.int .i64 m) else orC (tabC b o) (X b o)⟩
theorem tabC_cells (w : World) (hT : Lib.Utf8Tabs 1 2 w) : ∀ b o x, tabC b o = some x → w.cell? ⟨b, o, none⟩ = some x := by
 intro b o x hx
 unfold tabC at hx
 cases hq : (Nat.beq b 1 && Nat.blt o 256) with
 | true =>
  rw [hq] at hx
  simp only [Bool.and_eq_true, Nat.blt_eq] at hq
  obtain rfl := Nat.eq_of_beq_eq_true hq.1
  obtain rfl := Option.some.inj hx
  exact hT.1 o hq.2
 | false =>
  rw [hq] at hx
  simp only [cond_false] at hx
  cases hq2 : (Nat.beq b 2 && Nat.blt o 32) with
  | false => rw [hq2] at hx; simp at hx
  | true =>
   rw [hq2] at hx
   simp only [Bool.and_eq_true, Nat.blt_eq] at hq2
   obtain rfl := Nat.eq_of_beq_eq_true hq2.1
   simp only [cond_true] at hx
   obtain ⟨h1, h2⟩ := hT.2 (o / 2) (by omega)
   cases hm : Nat.beq (o % 2) 0 with
   | true =>
    rw [hm] at hx
    have e := Nat.eq_of_beq_eq_true hm
    obtain rfl := Option.some.inj hx
    rw [show 2 * (o / 2) = o by omega] at h1
    exact h1
   | false =>
    rw [hm] at hx
    have e : o % 2 ≠ 0 := fun e => by rw [e] at hm; exact absurd hm (by decide)
    obtain rfl := Option.some.inj hx
    rw [show 2 * (o / 2) + 1 = o by omega] at h2
    exact h2
theorem lay_cells (m : Int) (env : Nat → IntKind × Int) (X : Nat → Nat → Option Value) (w : World) (h : w.cell? ⟨0, 0, none⟩ = some errT) (h3 : w.cell? ⟨3, 0, none⟩ = some (.int .i64 m)) (hT : Lib.Utf8Tabs 1 2 w) (hX : ∀ b o x, X b o = some x → w.cell? ⟨b, o, none⟩ = some x) : ∀ b o x, (lay m env X).cells b o = some x → w.cell? ⟨b, o, none⟩ = some x := by
 intro b o x hx
 have hx : (bif Nat.beq b 0 && Nat.beq o 0 then some errT else bif Nat.beq b 3 && Nat.beq o 0 then some (.int .i64 m) else orC (tabC b o) (X b o)) = some x := hx
 cases hq : (Nat.beq b 0 && Nat.beq o 0) with
 | false =>
  rw [hq] at hx
  cases hq3 : (Nat.beq b 3 && Nat.beq o 0) with
  | false =>
   rw [hq3] at hx
   have hx : orC (tabC b o) (X b o) = some x := hx
   cases ht : tabC b o with
   | some y =>
    rw [ht] at hx
    exact tabC_cells w hT b o x (ht.trans hx)
   | none =>
    rw [ht] at hx
    exact hX b o x hx
  | true =>
   rw [hq3] at hx
   simp only [Bool.and_eq_true] at hq3
   have e1 := Nat.eq_of_beq_eq_true hq3.1
   have e2 := Nat.eq_of_beq_eq_true hq3.2
   subst e1; subst e2
   have hx : some (Value.int .i64 m) = some x := hx
   obtain rfl := Option.some.inj hx
   exact h3
 | true =>
  rw [hq] at hx
  simp only [Bool.and_eq_true] at hq
  have e1 := Nat.eq_of_beq_eq_true hq.1
  have e2 := Nat.eq_of_beq_eq_true hq.2
  subst e1; subst e2
  have hx : some errT = some x := hx
  obtain rfl := Option.some.inj hx
  exact h
theorem asK (m : Int) (env : Nat → IntKind × Int) (X : Nat → Nat → Option Value) : @Go.AM.AsOk (lay m env X) Tryd.prog 18 51 53 := by
 letI := lay m env X
 refine ⟨⟨_, _, Tryd.func18, rfl⟩, fun t w => as_nil t w, fun e t old w hl hc hz => ?_⟩
 exact (as_hit e t old w (hl 0 0 errT rfl) hc hz).mono (fun ev w' ⟨h1, h2⟩ => ⟨h1, _, _, _, _, _, _, _, _, h2⟩)
def signsS : Go.AM.Str := Go.AM.Str.of "==> := <= >= <> && || -> ;; : ; , . ( ) { } | = < > + - * !".toUTF8
def blankS : Go.AM.Str := Go.AM.Str.of " ".toUTF8
def partsS : List Go.AM.Str := ["==>", ":=", "<=", ">=", "<>", "&&", "||", "->", ";;", ":", ";", ",", ".", "(", ")", "{", "}", "|", "=", "<", ">", "+", "-", "*", "!"].map fun s => Go.AM.Str.of s.toUTF8
set_option maxRecDepth 100000 in
theorem splitOkK (m : Int) (env : Nat → IntKind × Int) (X : Nat → Nat → Option Value) : @Go.AM.SplitOk (lay m env X) Tryd.prog 35 signsS blankS partsS := by
 letI := lay m env X
 refine ⟨⟨_, _, Tryd.func35, rfl⟩, fun w hl => ?_⟩
 have hm : w.cell? ⟨3, 0, none⟩ = some (.int .i64 m) := hl 3 0 _ rfl
 have hb : blankS.bytes.size = 1 := by kernel_rfl
 have hs : signsS.bytes.size = 59 := by kernel_rfl
 refine (Tryd.strings_Split signsS.bytes blankS.bytes m w (by rw [hs]; decide) hm (by rw [hb]; decide)).mono (fun e w' ⟨h1, h2⟩ => ⟨9, ?_, ?_⟩)
 ·rw [h1]
  have : Go.Lib.countB signsS.bytes blankS.bytes + 1 = partsS.length := by kernel_rfl
  rw [this]
 ·rw [h2]
  have : (Go.Lib.splitB blankS.bytes 0 (Go.Lib.countB signsS.bytes blankS.bytes) signsS.bytes).map Value.string = partsS.map fun u => Value.string u.bytes := by kernel_rfl
  rw [this]
def headR (s : Go.AM.Str) : Nat × Nat := bif Nat.beq s.n 0 then (65533, 0) else s.rune 0
theorem headR_go (s : Go.AM.Str) : Lib.decodeGo s.bytes = headR s := by
 unfold Lib.decodeGo headR
 rw [Go.AM.Str.bytes_size]
 by_cases h : s.n = 0
 ·rw [if_pos h, h]; rfl
 ·rw [if_neg h, Go.AM.Str.rune_spec s (by omega)]
  have : Nat.beq s.n 0 = false := by
   cases hb : Nat.beq s.n 0 with
   | false => rfl
   | true => exact absurd (Nat.eq_of_beq_eq_true hb) h
  rw [this]; rfl
end Go.Proofs
namespace Go.AM
open Go Go.Proofs Go.RowKit
def decK : Kn1 := fun _ args h => match args with
 | [.str s] => some (.val (.tuple [.int .i32 (.ofNat (headR s).1), .int .i64 (.ofNat (headR s).2)]) h)
 | _ => none
end Go.AM
end

section
namespace Go.Proofs.YtjldfkldmfmkiaaDoor
open Go.ChangeShapes Go.WideShapes Go.RowKit
theorem own : ownKnob Tryd.prog.godebug = none := by kernel_rfl
theorem et : Tryd.prog.globalNamed "errors.errorType" = some 0 := by kernel_rfl
theorem rt : (Tryd.prog.cutTypes.find? (·.1 == "internal/reflectlite.rtype")).map (·.2) = some 78 := by kernel_rfl
theorem oneRow : ((List.range 132).filter fun t => Tryd.prog.rowNamed t [101, 114, 114, 111, 114]) = [26] := by kernel_rfl
theorem typesSize : Tryd.prog.types.size = 132 := by kernel_rfl
abbrev laidL : List (String × DataW Unit) := [("unicode/utf8.acceptRanges", Rows.laid_unicode_utf8_acceptRanges), ("errors.errorType", Rows.laid_errors_errorType), ("unicode/utf8.first", Rows.laid_unicode_utf8_first)]
theorem handle_of_laid {W : World} (h : laidMetH Tryd.prog laidL W) : W.cell? ⟨0, 0, none⟩ = some errT := by
 have h' : laidMet Tryd.prog [("unicode/utf8.acceptRanges", Rows.laid_unicode_utf8_acceptRanges), ("unicode/utf8.first", Rows.laid_unicode_utf8_first)] W ∧ handlesMet Tryd.prog [("errors.errorType", Rows.laid_errors_errorType)] W := h
 obtain ⟨name, u, ty, e1, e2, e3, e4, e5⟩ := h'.2 _ (List.mem_singleton.2 rfl)
 have en : name = [101, 114, 114, 111, 114] := (Option.some.inj e1).symm
 subst en
 obtain rfl := Option.some.inj (rt.symm.trans e2)
 have hm : ty ∈ (List.range 132).filter fun t => Tryd.prog.rowNamed t [101, 114, 114, 111, 114] := List.mem_filter.2 ⟨List.mem_range.2 (by rw [← typesSize]; exact e3), e4⟩
 rw [oneRow] at hm
 obtain rfl := List.mem_singleton.1 hm
 have hh : typeHandle Tryd.prog 26 = .pointer (some ⟨4, 26, none⟩) := by kernel_rfl
 rw [hh] at e5
 simpa [errT] using World.var?_cell et e5 0
def firstCells : Array Value := (Pinned.utf8FirstZ.map fun z => Value.int .u8 (z : Nat)).toArray
def rangeCells : Array Value := ([128, 191, 160, 191, 128, 159, 144, 191, 128, 143, 0, 0, 0, 0, 0, 0, 0, 0, 0, 0, 0, 0, 0, 0, 0, 0, 0, 0, 0, 0, 0, 0].map fun (z : Int) => Value.int .u8 z).toArray
noncomputable def laidWorld (os : Os) : World :=
 let w0 := World.holding Tryd.prog os ⟨#[], #[], []⟩
 { w0 with heap := ((w0.heap.modify 0 fun
   | .cells _ t frozen => .cells #[errT] t frozen
   | o => o).modify 1 fun
   | .cells _ t frozen => .cells firstCells t frozen
   | o => o).modify 2 fun
   | .cells _ t frozen => .cells rangeCells t frozen
   | o => o }
set_option maxRecDepth 100000 in
theorem laidWorld_met (os : Os) (args : Array Value) : laidMetH Tryd.prog laidL ((laidWorld os).forCall (fun _ _ => 0) ⟨#[], args, []⟩).memory :=
 laidMetH_of_parts (laidMet_of_run' 8 (by kernel_rfl) (by kernel_rfl)) (by kernel_rfl)
end Go.Proofs.YtjldfkldmfmkiaaDoor
end

section
namespace Go.AM
open Go Go.Proofs Go.RowKit
theorem WRel.other [Laid] {c : Ctx} {st : St} {w w' : World} (h : WRel c st w) (hs : w.heap.size ≤ w'.heap.size)
  (hb : ∀ b, (Own c st b ∨ ∃ o x, c.shut b o = some x) → w'.heap[b]? = w.heap[b]?) : WRel c st w' := by
 have hcell : ∀ b o x, c.shut b o = some x → w'.cell? ⟨b, o, none⟩ = w.cell? ⟨b, o, none⟩ := fun b o x hx => by
  unfold World.cell?
  rw [hb b (.inr ⟨o, x, hx⟩)]
 refine ⟨fun b o x hx => (hcell b o x hx).trans (h.shut b o x hx), fun r row hr => ?_, h.inj, h.glb, h.lcb, fun r b hb => Nat.lt_of_lt_of_le (h.lt r b hb) hs, h.tlt, fun b n hb => Nat.lt_of_lt_of_le (h.elt b n hb) hs⟩
 have := h.rows r row hr
 cases row with
 | gone => trivial
 | cells frz cs =>
  obtain ⟨b, xs, e, fz, h1, h2, h3⟩ := this
  exact ⟨b, xs, e, fz, h1, (hb b (.inl ⟨r, _, hr, by simp, h1⟩)).trans h2, h3⟩
 | tok =>
  obtain ⟨b, xs, e, fz, n, h1, h2, h3⟩ := this
  exact ⟨b, xs, e, fz, n, h1, (hb b (.inl ⟨r, _, hr, by simp, h1⟩)).trans h2, h3⟩
 | iter s pos =>
  obtain ⟨b, h1, h2⟩ := this
  exact ⟨b, h1, (hb b (.inl ⟨r, _, hr, by simp, h1⟩)).trans h2⟩
 | mp ks vs =>
  obtain ⟨b, es, clk, h1, h2, h3⟩ := this
  exact ⟨b, es, clk, h1, (hb b (.inl ⟨r, _, hr, by simp, h1⟩)).trans h2, h3⟩
theorem WRel.below [Laid] {c : Ctx} {st : St} {w w' : World} (h : WRel c st w) (hB : Below w.heap.size w w') : WRel c st w' :=
 h.other hB.size fun b hb => hB.block b (by
  rcases hb with ⟨r, row, _, _, h1⟩ | ⟨o, x, hx⟩
  ·exact h.lt r b h1
  ·exact h.shut_lt hx)
theorem Keep.below [Laid] {c : Ctx} {st : St} {w w' : World} (hB : Below w.heap.size w w') : Keep c c st st w w' :=
 ⟨hB.os, hB.tape, hB.output, hB.size, fun b hb _ => hB.block b hb, fun _ _ _ _ => rfl, fun _ _ h => h⟩
end Go.AM
namespace Go.Proofs.YtjldfkldmfmkiaaDoor
open Go Go.AM Go.AM.S Go.Proofs Go.RowKit
set_option maxRecDepth 100000
theorem known_dec (m : Int) (env : Nat → IntKind × Int) (X : Nat → Nat → Option Value) : @KnownAt (lay m env X) Tryd.prog 31 decK := by
 letI := lay m env X
 have key : ∀ call args h out, decK call args h = some out → ∃ s, args = [.str s] ∧ out = .val (.tuple [.int .i32 (.ofNat (headR s).1), .int .i64 (.ofNat (headR s).2)]) h := by
  intro call args h out hr
  unfold decK at hr
  split at hr
  ·rename_i s
   exact ⟨s, rfl, (Option.some.inj hr).symm⟩
  ·cases hr
 refine ⟨fun call _ g args h out hr => ?_, fun call _ _ g args h out hr c w st xs hst hW hH hargs hnl hlaid => ?_⟩
 ·obtain ⟨s, rfl, rfl⟩ := key _ _ _ _ hr
  exact .refl _
 ·subst hst
  dsimp only at hr
  cases hg : Nat.beq g 31 with
  | false => rw [hg] at hr; simp at hr
  | true =>
  obtain rfl := Nat.eq_of_beq_eq_true hg
  rw [hg] at hr
  simp only [cond_true] at hr
  obtain ⟨s, rfl, rfl⟩ := key _ _ _ _ hr
  refine ⟨⟨_, _, Tryd.func31, rfl⟩, ?_⟩
  have h1 : xs.length = 1 := hargs.1
  obtain ⟨x, rfl⟩ : ∃ x, xs = [x] := by
   match xs, h1 with
   | [x], _ => exact ⟨x, rfl⟩
  obtain rfl := hargs.head.str_inv
  have hT : Lib.Utf8Tabs 1 2 w := by
   have hc : ∀ b o x, tabC b o = some x → w.cell? ⟨b, o, none⟩ = some x := fun b o x hx => hW.shut b o x (hlaid b o x (by
    show (bif Nat.beq b 0 && Nat.beq o 0 then some errT else bif Nat.beq b 3 && Nat.beq o 0 then some (.int .i64 m) else orC (tabC b o) (X b o)) = some x
    have hb : b = 1 ∨ b = 2 := by
     unfold tabC at hx
     cases hq : (Nat.beq b 1 && Nat.blt o 256) with
     | true => simp only [Bool.and_eq_true] at hq; exact .inl (Nat.eq_of_beq_eq_true hq.1)
     | false =>
      rw [hq] at hx
      simp only [cond_false] at hx
      cases hq2 : (Nat.beq b 2 && Nat.blt o 32) with
      | true => simp only [Bool.and_eq_true] at hq2; exact .inr (Nat.eq_of_beq_eq_true hq2.1)
      | false => rw [hq2] at hx; cases hx
    rw [hx]
    rcases hb with rfl | rfl <;> rfl))
   refine ⟨fun c hc2 => hc 1 c _ ?_, fun i hi => ⟨hc 2 (2 * i) _ ?_, hc 2 (2 * i + 1) _ ?_⟩⟩
   ·unfold tabC
    rw [show (Nat.beq 1 1 && Nat.blt c 256) = true by simp [Nat.blt_eq, hc2]]; rfl
   ·unfold tabC
    rw [show (Nat.beq 2 1 && Nat.blt (2 * i) 256) = false from rfl, show (Nat.beq 2 2 && Nat.blt (2 * i) 32) = true by simp [Nat.blt_eq]; omega, show 2 * i % 2 = 0 by omega, show 2 * i / 2 = i by omega]; rfl
   ·unfold tabC
    rw [show (Nat.beq 2 1 && Nat.blt (2 * i + 1) 256) = false from rfl, show (Nat.beq 2 2 && Nat.blt (2 * i + 1) 32) = true by simp [Nat.blt_eq]; omega, show (2 * i + 1) % 2 = 1 by omega, show (2 * i + 1) / 2 = i by omega]; rfl
  refine (Tryd.utf8_DecodeRuneInString s.bytes w hT).mono (fun e w' ⟨he, hB⟩ => ?_)
  subst he
  rw [headR_go]
  exact ⟨c, .refl c, .tuple _ _ rfl (fun i v x a b => by
   match i with
   | 0 => simp at a b; subst a; subst b; exact .int _ _
   | 1 => simp at a b; subst a; subst b; exact .int _ _
   | (i + 2) => simp at a), hW.below hB, .below hB, .refl _, hH⟩
theorem tabs_of_laid {W : World} (h : laidMetH Tryd.prog laidL W) : Lib.Utf8Tabs 1 2 W := by
 have h' : laidMet Tryd.prog [("unicode/utf8.acceptRanges", Rows.laid_unicode_utf8_acceptRanges), ("unicode/utf8.first", Rows.laid_unicode_utf8_first)] W ∧ handlesMet Tryd.prog [("errors.errorType", Rows.laid_errors_errorType)] W := h
 have e1 : (Rows.laid_unicode_utf8_acceptRanges : DataW Unit) = Go.Lib.acceptData := by kernel_rfl
 have e2 : Rows.laid_unicode_utf8_first = Go.Lib.firstData := by kernel_rfl
 have hL := h'.1
 rw [e1, e2] at hL
 exact utf8Tabs_of_reads (ρ := Tryd.lays197_ren) { Tryd.lays197 with } ⟨by kernel_rfl, by kernel_rfl, by kernel_rfl, by kernel_rfl, by kernel_rfl, by kernel_rfl, by kernel_rfl⟩ (Lib.laidMet.reads hL (.tail _ (.head _))) (Lib.laidMet.reads hL (.head _))
noncomputable def kn0 : Kn := lkL [(18, errAs 51 53), (35, splitK signsS blankS partsS), (31, decK)]
theorem run7 : S.fn Pg kn0 tbl 3000 7 [] noHp = some (.val (.bool true) noHp) := by kernel_rfl
noncomputable def kn (l : List (Nat × Int × Int)) : Kn := lkL [(18, errAs 51 53), (35, splitK signsS blankS partsS), (31, decK), (11, place l), (7, cached (.val (.bool true) noHp))]
theorem kn0Ok (m : Int) (env : Nat → IntKind × Int) (X : Nat → Nat → Option Value) : @KnownOk (lay m env X) Pg kn0 := by
 letI := lay m env X
 refine knownL (fun p hp => ?_)
 simp only [List.mem_cons, List.not_mem_nil, or_false] at hp
 rcases hp with rfl | rfl | rfl
 ·exact known_as (asK m env X)
 ·exact known_split (splitOkK m env X)
 ·exact known_dec m env X
theorem knOk (m : Int) (env : Nat → IntKind × Int) (X : Nat → Nat → Option Value) (l : List (Nat × Int × Int)) (hl : ∀ t ∈ l, 0 < t.2.1 ∧ t.2.1 < 4611686018427387904 ∧ (env t.1).1 = .i64 ∧ (env t.1).2 % t.2.1 = t.2.2) : @KnownOk (lay m env X) Pg (kn l) := by
 letI := lay m env X
 refine knownL (fun p hp => ?_)
 simp only [List.mem_cons, List.not_mem_nil, or_false] at hp
 rcases hp with rfl | rfl | rfl | rfl | rfl
 ·exact known_as (asK m env X)
 ·exact known_split (splitOkK m env X)
 ·exact known_dec m env X
 ·exact known_place placeK hl
 ·refine known_cached (call0 := fnV Pg Cg kn0 3000) (fnV_sound prog_ok (kn0Ok m env X) 3000) ?_
  rw [← seat_eq]; exact run7
theorem law_true (m : Int) (env : Nat → IntKind × Int) (X : Nat → Nat → Option Value) {l : List (Nat × Int × Int)} (hl : ∀ t ∈ l, 0 < t.2.1 ∧ t.2.1 < 4611686018427387904 ∧ (env t.1).1 = .i64 ∧ (env t.1).2 % t.2.1 = t.2.2)
  {f : FuncId} {args : List V} {xs : List Value} {N : Nat} (hr : S.fn Pg (kn l) tbl N f args noHp = some (.val (.bool true) noHp)) {W : World} (hg : W.cell? ⟨0, 0, none⟩ = some errT) (h3 : W.cell? ⟨3, 0, none⟩ = some (.int .i64 m)) (hT : Lib.Utf8Tabs 1 2 W)
  (hX : ∀ b o x, X b o = some x → W.cell? ⟨b, o, none⟩ = some x) (hargs : @RelL (lay m env X) (@topCtx (lay m env X)) args xs) (hnl : V.noLocL args = true) : Calls Tryd.prog f xs.toArray W fun e W' => e = .returned (.bool true) ∧ Stays W W' := by
 letI := lay m env X
 rw [seat_eq] at hr
 exact top_true1 (fnV_sound prog_ok (knOk m env X l hl) N) hr hargs hnl (lay_cells m env X W hg h3 hT hX)
def allC (W : World) : Nat → Nat → Option Value := fun b o => W.cell? ⟨b, o, none⟩
theorem lay_all (m : Int) (env : Nat → IntKind × Int) {W : World} (hg : W.cell? ⟨0, 0, none⟩ = some errT) (h3 : W.cell? ⟨3, 0, none⟩ = some (.int .i64 m)) (hT : Lib.Utf8Tabs 1 2 W) {b o : Nat} {x : Value} (h : W.cell? ⟨b, o, none⟩ = some x) : (lay m env (allC W)).cells b o = some x := by
 have h2 := lay_cells m env (allC W) W hg h3 hT (fun b o x hx => hx) b o
 cases hq : (lay m env (allC W)).cells b o with
 | some y => rw [← h2 y hq, h]
 | none =>
  exfalso
  have hx : (bif Nat.beq b 0 && Nat.beq o 0 then some errT else bif Nat.beq b 3 && Nat.beq o 0 then some (.int .i64 m) else orC (tabC b o) (allC W b o)) = none := hq
  cases h5 : (Nat.beq b 0 && Nat.beq o 0) with
  | true => rw [h5] at hx; cases hx
  | false =>
   cases h6 : (Nat.beq b 3 && Nat.beq o 0) with
   | true => rw [h5, h6] at hx; cases hx
   | false =>
    rw [h5, h6] at hx
    have hx : orC (tabC b o) (allC W b o) = none := hx
    cases h7 : tabC b o with
    | some y => rw [h7] at hx; cases hx
    | none =>
     rw [h7] at hx
     have hx : W.cell? ⟨b, o, none⟩ = none := hx
     rw [h] at hx; cases hx
def env2 (a b : Int) : Nat → IntKind × Int := fun i => (.i64, bif Nat.beq i 0 then a else b)
def env3 (a b c : Int) : Nat → IntKind × Int := fun i => (.i64, bif Nat.beq i 0 then a else bif Nat.beq i 1 then b else c)
end Go.Proofs.YtjldfkldmfmkiaaDoor
end
