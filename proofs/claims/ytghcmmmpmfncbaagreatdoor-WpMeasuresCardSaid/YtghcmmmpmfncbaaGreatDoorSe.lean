/- Part Se of the proof: what it says stands at its theorems. -/
import Derived.Test.YtghcmmmpmfncbaaGreatDoorProg
import Derived.WalkKit
import Derived.Tactics2
import Derived.Defers
import Derived.Recover
import Derived.Stop.Asserts
import Derived.Test.YtghcmmmpmfncbaaGreatDoorAm3
import Derived.Test.YtghcmmmpmfncbaaGreatDoorCards
import Derived.Test.YtghcmmmpmfncbaaGreatDoorTie
import Derived.ProofKit
import Derived.OpenShut
import Derived.Deep.DeepHandedRow
import Derived.Lib.LaidTab
import Derived.LaidHandle
import Derived.Test.YtghcmmmpmfncbaaGreatDoorTb
set_option linter.unusedVariables false
set_option linter.unusedSimpArgs false
set_option linter.unusedSectionVars false
section
/- Deferred closures that find no panic: they do nothing. -/
namespace Go.AM
open Go

/-- so many pointers, no panic: nothing -/
def idleKd (g0 n : Nat) : Kd := fun g l h pv => bif Nat.beq g g0 && Nat.beq l.length n then (match pv with
  | none => some h
  | some _ => none) else none
def IdleOk (P : Program) (g n : Nat) : Prop := ∀ (xs : Array Value) (w : World), xs.size = n → CallsD P g xs .returning w fun e u' w' => (∃ v, e = .returned v) ∧ u' = .returning ∧ w' = w

theorem idle_spec {g0 n g : Nat} {l : List V} {h : Hp} {pv : Option V} {h' : Hp} (hr : idleKd g0 n g l h pv = some h') : g = g0 ∧ l.length = n ∧ pv = none ∧ h' = h := by
  unfold idleKd at hr
  cases hq : (Nat.beq g g0 && Nat.beq l.length n) with
  | false => rw [hq] at hr; simp at hr
  | true =>
    rw [hq] at hr
    simp only [Bool.and_eq_true] at hq
    cases pv with
    | some v => simp at hr
    | none =>
      simp at hr
      exact ⟨Nat.eq_of_beq_eq_true hq.1, Nat.eq_of_beq_eq_true hq.2, rfl, hr.symm⟩

theorem idle_ok [Laid] {P : Program} {g n : Nat} (hI : IdleOk P g n) : KdOk P (idleKd g n) := by
  refine ⟨fun g' l h pv h' hr => ?_, fun g' l h h' hr c w st xs hst hW hH hargs hnl hlaid => ?_, fun g' l h v h' hr c w st xs x hst hW hH hargs hnl hlaid hx hv => ?_⟩
  · obtain ⟨_, _, _, rfl⟩ := idle_spec hr; exact .refl _
  · subst hst
    obtain ⟨rfl, hl, _, rfl⟩ := idle_spec hr
    refine (hI xs.toArray w (by have := hargs.1; simp; omega)).mono (fun e u' w' ⟨h1, h2, h3⟩ => ⟨h1, h2, c, ?_⟩)
    subst h3
    exact ⟨.refl c, hW, .refl c st _, hH⟩
  · obtain ⟨_, _, h3, _⟩ := idle_spec hr
    simp at h3
end Go.AM
end

section
namespace Go.Proofs
open Go Go.RowKit

set_option maxRecDepth 100000 in
set_option maxHeartbeats 4000000 in
theorem idle35 : Go.AM.IdleOk Tryz.prog 35 1 := by
  intro xs w hx
  obtain ⟨p, rfl⟩ : ∃ p, xs = #[p] := ⟨xs[0], by
    apply Array.ext
    · simp [hx]
    · intro i h1 h2
      have : i = 0 := by omega
      subst this; rfl⟩
  refine callsD_of_wpS Tryz.func35 rfl fun c₀ cs hu => ?_
  apply wpS_seq
  apply wpS_region
  have hrep : Array.replicate 5 undef = #[undef, undef, undef, undef, undef] := rfl
  simp [wpOpsS, go_sem, recoverD, hu, Tryz.ntmps35, Exit.thenS, hrep]
  refine wpS_of_wp ?_
  go_wp2
  cases c₀
  simp_all [bodyPostS, results, Tryz.results35]

set_option maxRecDepth 100000 in
set_option maxHeartbeats 4000000 in
theorem idle38 : Go.AM.IdleOk Tryz.prog 38 2 := by
  intro xs w hx
  obtain ⟨p, q, rfl⟩ : ∃ p q, xs = #[p, q] := ⟨xs[0], xs[1], by
    apply Array.ext
    · simp [hx]
    · intro i h1 h2
      have : i = 0 ∨ i = 1 := by omega
      rcases this with rfl | rfl <;> rfl⟩
  refine callsD_of_wpS Tryz.func38 rfl fun c₀ cs hu => ?_
  apply wpS_seq
  apply wpS_region
  have hrep : Array.replicate 17 undef = #[undef, undef, undef, undef, undef, undef, undef, undef, undef, undef, undef, undef, undef, undef, undef, undef, undef] := rfl
  simp [wpOpsS, go_sem, recoverD, hu, Tryz.ntmps38, Exit.thenS, hrep]
  refine wpS_of_wp ?_
  go_wp2
  cases c₀
  simp_all [bodyPostS, results, Tryz.results38]
end Go.Proofs
end

section
namespace Go.Proofs
open Go Go.RowKit

theorem tmod_emod (a n : Int) : a % n = (a.tmod n) % n := by
  have h := Int.mul_tdiv_add_tmod a n
  conv => lhs; rw [← h]
  rw [Int.add_comm, Int.add_mul_emod_self_left]
theorem tmod_lt' (a n : Int) (h : 0 < n) : a.tmod n < n := Int.tmod_lt_of_pos a h
theorem tmod_gt' (a n : Int) (h : 0 < n) : -n < a.tmod n := by
  have := Int.lt_tmod_of_pos a h
  omega

set_option maxHeartbeats 4000000 in
theorem placeK : Go.AM.PlaceOk Tryz.prog 7 := by
  refine ⟨⟨_, _, Tryz.func7, rfl⟩, fun a n w h0 h1 => ?_⟩
  have e0 := tmod_emod a n
  have e1 := tmod_lt' a n h0
  have e2 := tmod_gt' a n h0
  go_enter Tryz.func7, Tryz.ntmps7
  go_wp2
  · rename_i h
    go_ret
    refine ⟨?_, rfl⟩
    have e4 : a % n = a.tmod n + n := by rw [e0, ← Int.add_emod_right, Int.emod_eq_of_lt (by omega) (by omega)]
    rw [e4]; rfl
  · rename_i h
    go_ret
    refine ⟨?_, rfl⟩
    have e4 : a % n = a.tmod n := by rw [e0, Int.emod_eq_of_lt h e1]
    rw [e4]; rfl
end Go.Proofs
end

section
/- What is laid ahead in this seat: the law's arguments as unknown numbers. -/
namespace Go.Proofs
open Go
abbrev lay (env : Nat → IntKind × Int) : Go.AM.Laid := ⟨env, fun _ _ => none⟩
theorem lay_cells (env : Nat → IntKind × Int) (w : World) : ∀ b o x, (lay env).cells b o = some x → w.cell? ⟨b, o, none⟩ = some x := by
  intro b o x hx
  exact absurd hx (by show ¬ (none = some x); simp)
end Go.Proofs
end

section
/- What the seat's rows list: a world that holds it. -/
namespace Go.Proofs.YtghcmmmpmfncbaaGreatDoor
open Go.ChangeShapes Go.WideShapes Go.RowKit

theorem own : ownKnob Tryz.prog.godebug = none := by kernel_rfl

abbrev laidL : List (String × DataW Unit) := [("math/bits.deBruijn32tab", Rows.laid_math_bits_deBruijn32tab), ("math/bits.deBruijn64tab", Rows.laid_math_bits_deBruijn64tab), ("internal/strconv.uint64pow10", Rows.laid_internal_strconv_uint64pow10), ("unicode/utf8.acceptRanges", Rows.laid_unicode_utf8_acceptRanges), ("unicode/utf8.first", Rows.laid_unicode_utf8_first)]

def firstCells : Array Value := (Pinned.utf8FirstZ.map fun z => Value.int .u8 (z : Nat)).toArray
def powCells : Array Value := ([1, 10, 100, 1000, 10000, 100000, 1000000, 10000000, 100000000, 1000000000, 10000000000, 100000000000, 1000000000000, 10000000000000, 100000000000000, 1000000000000000, 10000000000000000, 100000000000000000, 1000000000000000000, 10000000000000000000].map fun (z : Int) => Value.int .u64 z).toArray
def rangeCells : Array Value := ([128, 191, 160, 191, 128, 159, 144, 191, 128, 143, 0, 0, 0, 0, 0, 0, 0, 0, 0, 0, 0, 0, 0, 0, 0, 0, 0, 0, 0, 0, 0, 0].map fun (z : Int) => Value.int .u8 z).toArray
def tab32Cells : Array Value := ([0, 1, 28, 2, 29, 14, 24, 3, 30, 22, 20, 15, 25, 17, 4, 8, 31, 27, 13, 23, 21, 19, 16, 7, 26, 12, 18, 6, 11, 5, 10, 9].map fun (z : Int) => Value.int .u8 z).toArray
def tab64Cells : Array Value := ([0, 1, 56, 2, 57, 49, 28, 3, 61, 58, 42, 50, 38, 29, 17, 4, 62, 47, 59, 36, 45, 43, 51, 22, 53, 39, 33, 30, 24, 18, 12, 5, 63, 55, 48, 27, 60, 41, 37, 16, 46, 35, 44, 21, 52, 32, 23, 11, 54, 26, 40, 15, 34, 20, 31, 10, 25, 14, 19, 9, 13, 8, 7, 6].map fun (z : Int) => Value.int .u8 z).toArray

/-- A world that meets the condition: the settled one, the variables' cells laid. -/
noncomputable def laidWorld (os : Os) : World :=
  let w0 := World.holding Tryz.prog os ⟨#[], #[], []⟩
  { w0 with heap := (((((w0.heap.modify 0 fun
      | .cells _ t frozen => .cells powCells t frozen
      | o => o).modify 1 fun
      | .cells _ t frozen => .cells firstCells t frozen
      | o => o).modify 2 fun
      | .cells _ t frozen => .cells rangeCells t frozen
      | o => o).modify 3 fun
      | .cells _ t frozen => .cells tab32Cells t frozen
      | o => o).modify 4 fun
      | .cells _ t frozen => .cells tab64Cells t frozen
      | o => o) }
set_option maxRecDepth 100000 in
theorem laidWorld_met (os : Os) (args : Array Value) : laidMetH Tryz.prog laidL ((laidWorld os).forCall (fun _ _ => 0) ⟨#[], args, []⟩).memory :=
  laidMetH_of_parts (laidMet_of_run' 8 (by kernel_rfl) (by kernel_rfl)) (by kernel_rfl)
end Go.Proofs.YtghcmmmpmfncbaaGreatDoor
end

section
/- The functions of the seat that are known by their contracts; a law that runs to true holds. -/
namespace Go.Proofs.YtghcmmmpmfncbaaGreatDoor
open Go Go.AM Go.AM.S Go.Proofs Go.RowKit
set_option maxRecDepth 100000

noncomputable def kn0 : Kn := lkL [(18, guardV Pg Cg 18 (idleKd 35 1) 3000), (21, guardV Pg Cg 21 (idleKd 38 2) 3000)]
theorem run6 : S.fn Pg kn0 tbl 3000 6 [] noHp = some (.val (.bool true) noHp) := by kernel_rfl
noncomputable def kn (l : List (Nat × Int × Int)) : Kn := lkL [(18, guardV Pg Cg 18 (idleKd 35 1) 3000), (21, guardV Pg Cg 21 (idleKd 38 2) 3000), (7, place l), (6, cached (.val (.bool true) noHp))]

theorem kn0Ok (env : Nat → IntKind × Int) : @KnownOk (lay env) Pg kn0 := by
  letI := lay env
  refine knownL (fun p hp => ?_)
  simp only [List.mem_cons, List.not_mem_nil, or_false] at hp
  rcases hp with rfl | rfl
  · exact known_guard prog_ok (by kernel_rfl) (idle_ok idle35)
  · exact known_guard prog_ok (by kernel_rfl) (idle_ok idle38)

theorem knOk (env : Nat → IntKind × Int) (l : List (Nat × Int × Int)) (hl : ∀ t ∈ l, 0 < t.2.1 ∧ t.2.1 < 4611686018427387904 ∧ (env t.1).1 = .i64 ∧ (env t.1).2 % t.2.1 = t.2.2) : @KnownOk (lay env) Pg (kn l) := by
  letI := lay env
  refine knownL (fun p hp => ?_)
  simp only [List.mem_cons, List.not_mem_nil, or_false] at hp
  rcases hp with rfl | rfl | rfl | rfl
  · exact known_guard prog_ok (by kernel_rfl) (idle_ok idle35)
  · exact known_guard prog_ok (by kernel_rfl) (idle_ok idle38)
  · exact known_place placeK hl
  · refine known_cached (call0 := fnV Pg Cg kn0 3000) (fnV_sound prog_ok (kn0Ok env) 3000) ?_
    rw [← seat_eq]; exact run6

/-- A law that runs to true with unknown arguments. -/
theorem law_true (env : Nat → IntKind × Int) {l : List (Nat × Int × Int)} (hl : ∀ t ∈ l, 0 < t.2.1 ∧ t.2.1 < 4611686018427387904 ∧ (env t.1).1 = .i64 ∧ (env t.1).2 % t.2.1 = t.2.2)
    {f : FuncId} {args : List V} {xs : List Value} (hr : S.fn Pg (kn l) tbl 3000 f args noHp = some (.val (.bool true) noHp)) {W : World}
    (hargs : ∀ c : Ctx, @RelL (lay env) c args xs) (hnl : V.noLocL args = true) : Calls Tryz.prog f xs.toArray W fun e W' => e = .returned (.bool true) ∧ Stays W W' := by
  letI := lay env
  rw [seat_eq] at hr
  exact top_true (fnV_sound prog_ok (knOk env l hl) 3000) hr hargs hnl (lay_cells env W)

def env2 (a b : Int) : Nat → IntKind × Int := fun i => (.i64, bif Nat.beq i 0 then a else b)
def env3 (a b c : Int) : Nat → IntKind × Int := fun i => (.i64, bif Nat.beq i 0 then a else bif Nat.beq i 1 then b else c)
end Go.Proofs.YtghcmmmpmfncbaaGreatDoor
end
