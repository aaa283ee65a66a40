/- Part Se of the proof: what it says stands at its theorems. -/
import Derived.Test.YteefhhgjlbeiiaaDoorProg
import Derived.WalkKit
import Derived.Tactics2
import Derived.Defers
import Derived.Recover
import Derived.Stop.Asserts
import Derived.Test.YteefhhgjlbeiiaaDoorAm3
import Derived.Test.YteefhhgjlbeiiaaDoorAs
import Derived.Test.YteefhhgjlbeiiaaDoorSh
import Derived.Test.YteefhhgjlbeiiaaDoorCards
import Derived.Test.YteefhhgjlbeiiaaDoorTie
import Derived.ProofKit
import Derived.OpenShut
import Derived.Deep.DeepHandedRow
import Derived.Lib.LaidTab
import Derived.LaidHandle
import Derived.Test.YteefhhgjlbeiiaaDoorTb
set_option linter.unusedVariables false
set_option linter.unusedSimpArgs false
set_option linter.unusedSectionVars false
section
/- The deferred closure of kinds.caught: what it does. -/
namespace Go.Proofs
open Go Go.RowKit

set_option maxRecDepth 100000 in
set_option maxHeartbeats 4000000 in
theorem catch_idle (p : Addr) (w : World) : CallsD Tryd.prog 56 #[.pointer (some p)] .returning w fun e u' w' => (∃ v, e = .returned v) ∧ u' = .returning ∧ w' = w := by
  refine callsD_of_wpS Tryd.func56 rfl fun c₀ cs hu => ?_
  apply wpS_seq
  apply wpS_region
  have hrep : Array.replicate 17 undef = #[undef, undef, undef, undef, undef, undef, undef, undef, undef, undef, undef, undef, undef, undef, undef, undef, undef] := rfl
  simp [wpOpsS, go_sem, recoverD, hu, Tryd.ntmps56, Exit.thenS, hrep]
  refine wpS_of_wp ?_
  go_wp2
  cases c₀
  simp_all [bodyPostS, results, Tryd.results56]

set_option maxRecDepth 100000 in
set_option maxHeartbeats 4000000 in
theorem catch_hit (p e : Addr) (old : Value) (w : World) (hc : w.cell? p = some old) (hz : w.frozen? p = false) :
    CallsD Tryd.prog 56 #[.pointer (some p)] (.panicking [{ v := .iface 109 (.agg #[.pointer (some e)]), recovered := false }]) w fun en u' w' => (∃ v, en = .returned v) ∧
      u' = .panicking [{ v := .iface 109 (.agg #[.pointer (some e)]), recovered := true }] ∧ ∃ a1 t1, w' = (w.alloc (.cells a1 t1)).setCell p (.iface 68 (.pointer (some e))) := by
  have hlt : p.block < w.heap.size := by
    rcases Nat.lt_or_ge p.block w.heap.size with h | h
    · exact h
    · simp [World.cell?, Array.getElem?_eq_none h] at hc
  have ta : ∀ (v : Value) (xT : TypeId) (w : World), (Instr.typeAssert (.iface 109 v) xT 109 true).run Tryd.prog w = .ok (.tuple #[v, .bool true]) w := fun v xT w => by kernel_rfl
  have hrep : Array.replicate 17 undef = #[undef, undef, undef, undef, undef, undef, undef, undef, undef, undef, undef, undef, undef, undef, undef, undef, undef] := rfl
  refine callsD_of_wpS Tryd.func56 rfl fun c₀ cs hu => ?_
  apply wpS_seq
  apply wpS_region
  simp [wpOpsS, go_sem, recoverD, hu, Tryd.ntmps56, Exit.thenS, hrep]
  refine wpS_of_wp ?_
  go_wp2
  · rename_i h
    rw [World.frozen?_alloc_old _ _ p (Nat.ne_of_lt hlt), hz] at h
    simp at h
  · refine ⟨rfl, _, rfl, ?_⟩
    simp [results, Tryd.results56]
    exact ⟨_, _, rfl⟩
theorem catchC : Go.AM.CatchOk Tryd.prog 56 109 68 := ⟨catch_idle, catch_hit⟩
end Go.Proofs
end

section
namespace Go.Proofs
open Go Go.RowKit

theorem tmod_emod (a n : Int) : a % n = (a.tmod n) % n := by
  have h := Int.mul_tdiv_add_tmod a n
  conv => lhs; rw [← h]
  rw [Int.add_comm, Int.add_mul_emod_self_left]
theorem tmod_lt' (a n : Int) (h : 0 < n) : a.tmod n < n := Int.tmod_lt_of_pos a h
theorem tmod_gt' (a n : Int) (h : 0 < n) : -n < a.tmod n := by
  have := Int.lt_tmod_of_pos a h
  omega

set_option maxHeartbeats 4000000 in
theorem placeK : Go.AM.PlaceOk Tryd.prog 16 := by
  refine ⟨⟨_, _, Tryd.func16, rfl⟩, fun a n w h0 h1 => ?_⟩
  have e0 := tmod_emod a n
  have e1 := tmod_lt' a n h0
  have e2 := tmod_gt' a n h0
  go_enter Tryd.func16, Tryd.ntmps16
  go_wp2
  · rename_i h
    go_ret
    refine ⟨?_, rfl⟩
    have e4 : a % n = a.tmod n + n := by rw [e0, ← Int.add_emod_right, Int.emod_eq_of_lt (by omega) (by omega)]
    rw [e4]; rfl
  · rename_i h
    go_ret
    refine ⟨?_, rfl⟩
    have e4 : a % n = a.tmod n := by rw [e0, Int.emod_eq_of_lt h e1]
    rw [e4]; rfl
end Go.Proofs
end

section
/- What is laid ahead in this seat: errors.errorType's cell, whatever internal/bytealg.MaxLen holds, and the law's arguments as unknown numbers. -/
namespace Go.Proofs
open Go

def errT : Value := .iface 123 (.agg #[.pointer (some ⟨4, 26, none⟩)])
abbrev lay (m : Int) (env : Nat → IntKind × Int) : Go.AM.Laid := ⟨env, fun b o => bif Nat.beq b 0 && Nat.beq o 0 then some errT else bif Nat.beq b 3 && Nat.beq o 0 then some (.int .i64 m) else none⟩
theorem lay_cells (m : Int) (env : Nat → IntKind × Int) (w : World) (h : w.cell? ⟨0, 0, none⟩ = some errT) (h3 : w.cell? ⟨3, 0, none⟩ = some (.int .i64 m)) : ∀ b o x, (lay m env).cells b o = some x → w.cell? ⟨b, o, none⟩ = some x := by
  intro b o x hx
  have hx : (bif Nat.beq b 0 && Nat.beq o 0 then some errT else bif Nat.beq b 3 && Nat.beq o 0 then some (.int .i64 m) else none) = some x := hx
  cases hq : (Nat.beq b 0 && Nat.beq o 0) with
  | false =>
    rw [hq] at hx
    cases hq3 : (Nat.beq b 3 && Nat.beq o 0) with
    | false => rw [hq3] at hx; simp at hx
    | true =>
      rw [hq3] at hx
      simp only [Bool.and_eq_true] at hq3
      have e1 := Nat.eq_of_beq_eq_true hq3.1
      have e2 := Nat.eq_of_beq_eq_true hq3.2
      subst e1; subst e2
      have hx : some (Value.int .i64 m) = some x := hx
      obtain rfl := Option.some.inj hx
      exact h3
  | true =>
    rw [hq] at hx
    simp only [Bool.and_eq_true] at hq
    have e1 := Nat.eq_of_beq_eq_true hq.1
    have e2 := Nat.eq_of_beq_eq_true hq.2
    subst e1; subst e2
    have hx : some errT = some x := hx
    obtain rfl := Option.some.inj hx
    exact h
theorem asK (m : Int) (env : Nat → IntKind × Int) : @Go.AM.AsOk (lay m env) Tryd.prog 31 68 70 := by
  letI := lay m env
  refine ⟨⟨_, _, Tryd.func31, rfl⟩, fun t w => as_nil t w, fun e t old w hl hc hz => ?_⟩
  exact (as_hit e t old w (hl 0 0 errT rfl) hc hz).mono (fun ev w' ⟨h1, h2⟩ => ⟨h1, _, _, _, _, _, _, _, _, h2⟩)

/-- the signs that parse's lexer splits -/
def signsS : Go.AM.Str := Go.AM.Str.of "==> := <= >= <> && || -> ;; : ; , . ( ) { } | = < > + - * !".toUTF8
def blankS : Go.AM.Str := Go.AM.Str.of " ".toUTF8
def partsS : List Go.AM.Str := ["==>", ":=", "<=", ">=", "<>", "&&", "||", "->", ";;", ":", ";", ",", ".", "(", ")", "{", "}", "|", "=", "<", ">", "+", "-", "*", "!"].map fun s => Go.AM.Str.of s.toUTF8
set_option maxRecDepth 100000 in
theorem splitOkK (m : Int) (env : Nat → IntKind × Int) : @Go.AM.SplitOk (lay m env) Tryd.prog 69 signsS blankS partsS := by
  letI := lay m env
  refine ⟨⟨_, _, Tryd.func69, rfl⟩, fun w hl => ?_⟩
  have hm : w.cell? ⟨3, 0, none⟩ = some (.int .i64 m) := hl 3 0 _ rfl
  have hb : blankS.bytes.size = 1 := by kernel_rfl
  have hs : signsS.bytes.size = 59 := by kernel_rfl
  refine (Tryd.strings_Split signsS.bytes blankS.bytes m w (by rw [hs]; decide) hm (by rw [hb]; decide)).mono (fun e w' ⟨h1, h2⟩ => ⟨9, ?_, ?_⟩)
  · rw [h1]
    have : Go.Lib.countB signsS.bytes blankS.bytes + 1 = partsS.length := by kernel_rfl
    rw [this]
  · rw [h2]
    have : (Go.Lib.splitB blankS.bytes 0 (Go.Lib.countB signsS.bytes blankS.bytes) signsS.bytes).map Value.string = partsS.map fun u => Value.string u.bytes := by kernel_rfl
    rw [this]
end Go.Proofs
end

section
/- What the seat's rows list: their cells, a world that holds them. -/
namespace Go.Proofs.YteefhhgjlbeiiaaDoor
open Go.ChangeShapes Go.WideShapes Go.RowKit

theorem own : ownKnob Tryd.prog.godebug = none := by kernel_rfl
theorem et : Tryd.prog.globalNamed "errors.errorType" = some 0 := by kernel_rfl
theorem rt : (Tryd.prog.cutTypes.find? (·.1 == "internal/reflectlite.rtype")).map (·.2) = some 123 := by kernel_rfl
theorem oneRow : ((List.range 184).filter fun t => Tryd.prog.rowNamed t [101, 114, 114, 111, 114]) = [26] := by kernel_rfl
theorem typesSize : Tryd.prog.types.size = 184 := by kernel_rfl

abbrev laidL : List (String × DataW Unit) := [("unicode/utf8.acceptRanges", Rows.laid_unicode_utf8_acceptRanges), ("errors.errorType", Rows.laid_errors_errorType), ("unicode/utf8.first", Rows.laid_unicode_utf8_first)]

/-- The variable's one cell. -/
theorem handle_of_laid {W : World} (h : laidMetH Tryd.prog laidL W) : W.cell? ⟨0, 0, none⟩ = some errT := by
  have h' : laidMet Tryd.prog [("unicode/utf8.acceptRanges", Rows.laid_unicode_utf8_acceptRanges), ("unicode/utf8.first", Rows.laid_unicode_utf8_first)] W ∧ handlesMet Tryd.prog [("errors.errorType", Rows.laid_errors_errorType)] W := h
  obtain ⟨name, u, ty, e1, e2, e3, e4, e5⟩ := h'.2 _ (List.mem_singleton.2 rfl)
  have en : name = [101, 114, 114, 111, 114] := (Option.some.inj e1).symm
  subst en
  obtain rfl := Option.some.inj (rt.symm.trans e2)
  have hm : ty ∈ (List.range 184).filter fun t => Tryd.prog.rowNamed t [101, 114, 114, 111, 114] := List.mem_filter.2 ⟨List.mem_range.2 (by rw [← typesSize]; exact e3), e4⟩
  rw [oneRow] at hm
  obtain rfl := List.mem_singleton.1 hm
  have hh : typeHandle Tryd.prog 26 = .pointer (some ⟨4, 26, none⟩) := by kernel_rfl
  rw [hh] at e5
  simpa [errT] using World.var?_cell et e5 0

def firstCells : Array Value := (Pinned.utf8FirstZ.map fun z => Value.int .u8 (z : Nat)).toArray
def rangeCells : Array Value := ([128, 191, 160, 191, 128, 159, 144, 191, 128, 143, 0, 0, 0, 0, 0, 0, 0, 0, 0, 0, 0, 0, 0, 0, 0, 0, 0, 0, 0, 0, 0, 0].map fun (z : Int) => Value.int .u8 z).toArray

/-- A world that meets the condition: the settled one, the variables' cells laid. -/
noncomputable def laidWorld (os : Os) : World :=
  let w0 := World.holding Tryd.prog os ⟨#[], #[], []⟩
  { w0 with heap := ((w0.heap.modify 0 fun
      | .cells _ t frozen => .cells #[errT] t frozen
      | o => o).modify 1 fun
      | .cells _ t frozen => .cells firstCells t frozen
      | o => o).modify 2 fun
      | .cells _ t frozen => .cells rangeCells t frozen
      | o => o }
set_option maxRecDepth 100000 in
theorem laidWorld_met (os : Os) (args : Array Value) : laidMetH Tryd.prog laidL ((laidWorld os).forCall (fun _ _ => 0) ⟨#[], args, []⟩).memory :=
  laidMetH_of_parts (laidMet_of_run' 8 (by kernel_rfl) (by kernel_rfl)) (by kernel_rfl)
end Go.Proofs.YteefhhgjlbeiiaaDoor
end

section
/- The functions of the seat that are known by their contracts; a law that runs to true holds. -/
namespace Go.Proofs.YteefhhgjlbeiiaaDoor
open Go Go.AM Go.AM.S Go.Proofs Go.RowKit
set_option maxRecDepth 100000

noncomputable def kn0 : Kn := lkL [(31, errAs 68 70), (69, splitK signsS blankS partsS), (34, guardV Pg Cg 34 (catchKd 56 109 68) 3000)]
theorem run20 : S.fn Pg kn0 tbl 3000 20 [] noHp = some (.val (.bool true) noHp) := by kernel_rfl
noncomputable def kn (l : List (Nat × Int × Int)) : Kn := lkL [(31, errAs 68 70), (69, splitK signsS blankS partsS), (16, place l), (34, guardV Pg Cg 34 (catchKd 56 109 68) 3000), (20, cached (.val (.bool true) noHp))]

theorem kn0Ok (m : Int) (env : Nat → IntKind × Int) : @KnownOk (lay m env) Pg kn0 := by
  letI := lay m env
  refine knownL (fun p hp => ?_)
  simp only [List.mem_cons, List.not_mem_nil, or_false] at hp
  rcases hp with rfl | rfl | rfl
  · exact known_as (asK m env)
  · exact known_split (splitOkK m env)
  · exact known_guard prog_ok (by kernel_rfl) (catch_ok catchC)

theorem knOk (m : Int) (env : Nat → IntKind × Int) (l : List (Nat × Int × Int)) (hl : ∀ t ∈ l, 0 < t.2.1 ∧ t.2.1 < 4611686018427387904 ∧ (env t.1).1 = .i64 ∧ (env t.1).2 % t.2.1 = t.2.2) : @KnownOk (lay m env) Pg (kn l) := by
  letI := lay m env
  refine knownL (fun p hp => ?_)
  simp only [List.mem_cons, List.not_mem_nil, or_false] at hp
  rcases hp with rfl | rfl | rfl | rfl | rfl
  · exact known_as (asK m env)
  · exact known_split (splitOkK m env)
  · exact known_place placeK hl
  · exact known_guard prog_ok (by kernel_rfl) (catch_ok catchC)
  · refine known_cached (call0 := fnV Pg Cg kn0 3000) (fnV_sound prog_ok (kn0Ok m env) 3000) ?_
    rw [← seat_eq]; exact run20

/-- A law that runs to true with unknown arguments. -/
theorem law_true (m : Int) (env : Nat → IntKind × Int) {l : List (Nat × Int × Int)} (hl : ∀ t ∈ l, 0 < t.2.1 ∧ t.2.1 < 4611686018427387904 ∧ (env t.1).1 = .i64 ∧ (env t.1).2 % t.2.1 = t.2.2)
    {f : FuncId} {args : List V} {xs : List Value} (hr : S.fn Pg (kn l) tbl 3000 f args noHp = some (.val (.bool true) noHp)) {W : World} (hg : W.cell? ⟨0, 0, none⟩ = some errT) (h3 : W.cell? ⟨3, 0, none⟩ = some (.int .i64 m))
    (hargs : ∀ c : Ctx, @RelL (lay m env) c args xs) (hnl : V.noLocL args = true) : Calls Tryd.prog f xs.toArray W fun e W' => e = .returned (.bool true) ∧ Stays W W' := by
  letI := lay m env
  rw [seat_eq] at hr
  exact top_true (fnV_sound prog_ok (knOk m env l hl) 3000) hr hargs hnl (lay_cells m env W hg h3)

def env2 (a b : Int) : Nat → IntKind × Int := fun i => (.i64, bif Nat.beq i 0 then a else b)
def env3 (a b c : Int) : Nat → IntKind × Int := fun i => (.i64, bif Nat.beq i 0 then a else bif Nat.beq i 1 then b else c)
end Go.Proofs.YteefhhgjlbeiiaaDoor
end
