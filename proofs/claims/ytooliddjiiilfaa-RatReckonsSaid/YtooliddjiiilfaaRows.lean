/-
  No cell of these rows narrows 'for every input' (looked for: loops, veiled, ifaces, maps, wideKeys, modest, calm, conditions, laid).
  DERIVED. THE GIVEN ROWS OF THIS SEAT. 10 by the template 'for every input the law returns true; each argument reads behind the call as it read before'; 0 by the template 'total and deterministic' (their statements: YtooliddjiiilfaaTotals.lean).
  GIVEN WITH THE SEED: the statements are not yours to turn. If you find one false, say at which input.
  Laid BY PROGRAM, IN A SANDBOX (cutbox-rows.mjs): the forced cells as the released guide's own fill.sh prints them over the translation 7eb3ad1321e43b7d… (all of the seat's roots in one cut). By AI agents, Wed Nov 11 2026. No macro, syntax, notation, axiom, sorry.
-/
import Derived.Test.YtooliddjiiilfaaChecked
import GoSem.Claim
import GoSem.ClaimJoined
import GoSem.ClaimMapViews
import Derived.JoinedTies
import Derived.KernelRfl
namespace Go.Proofs.Ytooliddjiiilfaa
/- THE CELL 'sum', in the pinned program and in every row, IS THE sha256 OF THE DUMP (.gsa) THAT YtooliddjiiilfaaProg.lean LOADS. Nothing in Lean hashes anything: it is a label: what it is worth is what the hold of that sum in a sandbox is worth. -/
noncomputable def Try.pinned : Pinned := { name := "ytooliddjiiilfaa", sum := "7eb3ad1321e43b7d27a555567c8d37c09b38e587b108c8fec96391be8e46c34e", checked := Try.checked }
namespace Rows
def none {H : Type} : Left H := { results := [], args := [] }

/-- 'avowlaw1.NumTexts': WHATEVER THE INPUT: true; the input reads as it did. -/
def numTextsSpec : ChangeSpec := { name := "numTexts", fn := fun _ => fun
  | [d1, d2] => { results := [.lit (.bool true)], args := [d1, d2] }
  | _ => none }
def numTextsRow : OpenClaim := { program := "ytooliddjiiilfaa", sum := "7eb3ad1321e43b7d27a555567c8d37c09b38e587b108c8fec96391be8e46c34e", func := "avow/avowlaw1.NumTexts", spec := "numTexts", apart := false }
def NumTextsSaid : Prop := numTextsRow.holds Try.pinned (OpenSpec.ofChange numTextsSpec)

/-- ITS FALSE NEIGHBOUR: 'it returns false'. Refute it at one input. -/
def numTextsWrong : ChangeSpec := { name := "numTexts", fn := fun _ => fun
  | [d1, d2] => { results := [.lit (.bool false)], args := [d1, d2] }
  | _ => none }
def NumTextsWrongFalsely : Prop := numTextsRow.holds Try.pinned (OpenSpec.ofChange numTextsWrong)

/-- 'avowlaw1.NumReckons': WHATEVER THE INPUT: true; the input reads as it did. -/
def numReckonsSpec : ChangeSpec := { name := "numReckons", fn := fun _ => fun
  | [d1, d2] => { results := [.lit (.bool true)], args := [d1, d2] }
  | _ => none }
def numReckonsRow : OpenClaim := { program := "ytooliddjiiilfaa", sum := "7eb3ad1321e43b7d27a555567c8d37c09b38e587b108c8fec96391be8e46c34e", func := "avow/avowlaw1.NumReckons", spec := "numReckons", apart := false }
def NumReckonsSaid : Prop := numReckonsRow.holds Try.pinned (OpenSpec.ofChange numReckonsSpec)

/-- ITS FALSE NEIGHBOUR: 'it returns false'. Refute it at one input. -/
def numReckonsWrong : ChangeSpec := { name := "numReckons", fn := fun _ => fun
  | [d1, d2] => { results := [.lit (.bool false)], args := [d1, d2] }
  | _ => none }
def NumReckonsWrongFalsely : Prop := numReckonsRow.holds Try.pinned (OpenSpec.ofChange numReckonsWrong)

/-- 'avowlaw1.NumPowers': WHATEVER THE INPUT: true; the input reads as it did. -/
def numPowersSpec : ChangeSpec := { name := "numPowers", fn := fun _ => fun
  | [d1, d2] => { results := [.lit (.bool true)], args := [d1, d2] }
  | _ => none }
def numPowersRow : OpenClaim := { program := "ytooliddjiiilfaa", sum := "7eb3ad1321e43b7d27a555567c8d37c09b38e587b108c8fec96391be8e46c34e", func := "avow/avowlaw1.NumPowers", spec := "numPowers", apart := false }
def NumPowersSaid : Prop := numPowersRow.holds Try.pinned (OpenSpec.ofChange numPowersSpec)

/-- ITS FALSE NEIGHBOUR: 'it returns false'. Refute it at one input. -/
def numPowersWrong : ChangeSpec := { name := "numPowers", fn := fun _ => fun
  | [d1, d2] => { results := [.lit (.bool false)], args := [d1, d2] }
  | _ => none }
def NumPowersWrongFalsely : Prop := numPowersRow.holds Try.pinned (OpenSpec.ofChange numPowersWrong)

/-- 'avowlaw1.NumDivides': WHATEVER THE INPUT: true; the input reads as it did. -/
def numDividesSpec : ChangeSpec := { name := "numDivides", fn := fun _ => fun
  | [d1, d2] => { results := [.lit (.bool true)], args := [d1, d2] }
  | _ => none }
def numDividesRow : OpenClaim := { program := "ytooliddjiiilfaa", sum := "7eb3ad1321e43b7d27a555567c8d37c09b38e587b108c8fec96391be8e46c34e", func := "avow/avowlaw1.NumDivides", spec := "numDivides", apart := false }
def NumDividesSaid : Prop := numDividesRow.holds Try.pinned (OpenSpec.ofChange numDividesSpec)

/-- ITS FALSE NEIGHBOUR: 'it returns false'. Refute it at one input. -/
def numDividesWrong : ChangeSpec := { name := "numDivides", fn := fun _ => fun
  | [d1, d2] => { results := [.lit (.bool false)], args := [d1, d2] }
  | _ => none }
def NumDividesWrongFalsely : Prop := numDividesRow.holds Try.pinned (OpenSpec.ofChange numDividesWrong)

/-- 'avowlaw1.NumLaws': WHATEVER THE INPUT: true; the input reads as it did. -/
def numLawsSpec : ChangeSpec := { name := "numLaws", fn := fun _ => fun
  | [d1, d2, d3] => { results := [.lit (.bool true)], args := [d1, d2, d3] }
  | _ => none }
def numLawsRow : OpenClaim := { program := "ytooliddjiiilfaa", sum := "7eb3ad1321e43b7d27a555567c8d37c09b38e587b108c8fec96391be8e46c34e", func := "avow/avowlaw1.NumLaws", spec := "numLaws", apart := false }
def NumLawsSaid : Prop := numLawsRow.holds Try.pinned (OpenSpec.ofChange numLawsSpec)

/-- ITS FALSE NEIGHBOUR: 'it returns false'. Refute it at one input. -/
def numLawsWrong : ChangeSpec := { name := "numLaws", fn := fun _ => fun
  | [d1, d2, d3] => { results := [.lit (.bool false)], args := [d1, d2, d3] }
  | _ => none }
def NumLawsWrongFalsely : Prop := numLawsRow.holds Try.pinned (OpenSpec.ofChange numLawsWrong)

/-- 'avowlaw1.NumGcds': WHATEVER THE INPUT: true; the input reads as it did. -/
def numGcdsSpec : ChangeSpec := { name := "numGcds", fn := fun _ => fun
  | [d1, d2, d3] => { results := [.lit (.bool true)], args := [d1, d2, d3] }
  | _ => none }
def numGcdsRow : OpenClaim := { program := "ytooliddjiiilfaa", sum := "7eb3ad1321e43b7d27a555567c8d37c09b38e587b108c8fec96391be8e46c34e", func := "avow/avowlaw1.NumGcds", spec := "numGcds", apart := false }
def NumGcdsSaid : Prop := numGcdsRow.holds Try.pinned (OpenSpec.ofChange numGcdsSpec)

/-- ITS FALSE NEIGHBOUR: 'it returns false'. Refute it at one input. -/
def numGcdsWrong : ChangeSpec := { name := "numGcds", fn := fun _ => fun
  | [d1, d2, d3] => { results := [.lit (.bool false)], args := [d1, d2, d3] }
  | _ => none }
def NumGcdsWrongFalsely : Prop := numGcdsRow.holds Try.pinned (OpenSpec.ofChange numGcdsWrong)

/-- 'avowlaw2.RatMakes': WHATEVER THE INPUT: true; the input reads as it did. -/
def ratMakesSpec : ChangeSpec := { name := "ratMakes", fn := fun _ => fun
  | [d1, d2] => { results := [.lit (.bool true)], args := [d1, d2] }
  | _ => none }
def ratMakesRow : OpenClaim := { program := "ytooliddjiiilfaa", sum := "7eb3ad1321e43b7d27a555567c8d37c09b38e587b108c8fec96391be8e46c34e", func := "avow/avowlaw2.RatMakes", spec := "ratMakes", apart := false }
def RatMakesSaid : Prop := ratMakesRow.holds Try.pinned (OpenSpec.ofChange ratMakesSpec)

/-- ITS FALSE NEIGHBOUR: 'it returns false'. Refute it at one input. -/
def ratMakesWrong : ChangeSpec := { name := "ratMakes", fn := fun _ => fun
  | [d1, d2] => { results := [.lit (.bool false)], args := [d1, d2] }
  | _ => none }
def RatMakesWrongFalsely : Prop := ratMakesRow.holds Try.pinned (OpenSpec.ofChange ratMakesWrong)

/-- 'avowlaw2.RatLaws': WHATEVER THE INPUT: true; the input reads as it did. -/
def ratLawsSpec : ChangeSpec := { name := "ratLaws", fn := fun _ => fun
  | [d1, d2, d3, d4, d5, d6] => { results := [.lit (.bool true)], args := [d1, d2, d3, d4, d5, d6] }
  | _ => none }
def ratLawsRow : OpenClaim := { program := "ytooliddjiiilfaa", sum := "7eb3ad1321e43b7d27a555567c8d37c09b38e587b108c8fec96391be8e46c34e", func := "avow/avowlaw2.RatLaws", spec := "ratLaws", unfollowed := true, recurses := true, apart := false }
def RatLawsSaid : Prop := ratLawsRow.holds Try.pinned (OpenSpec.ofChange ratLawsSpec)

/-- ITS FALSE NEIGHBOUR: 'it returns false'. Refute it at one input. -/
def ratLawsWrong : ChangeSpec := { name := "ratLaws", fn := fun _ => fun
  | [d1, d2, d3, d4, d5, d6] => { results := [.lit (.bool false)], args := [d1, d2, d3, d4, d5, d6] }
  | _ => none }
def RatLawsWrongFalsely : Prop := ratLawsRow.holds Try.pinned (OpenSpec.ofChange ratLawsWrong)

/-- 'avowlaw2.RatHalves': WHATEVER THE INPUT: true; the input reads as it did. -/
def ratHalvesSpec : ChangeSpec := { name := "ratHalves", fn := fun _ => fun
  | [d1, d2, d3, d4] => { results := [.lit (.bool true)], args := [d1, d2, d3, d4] }
  | _ => none }
def ratHalvesRow : OpenClaim := { program := "ytooliddjiiilfaa", sum := "7eb3ad1321e43b7d27a555567c8d37c09b38e587b108c8fec96391be8e46c34e", func := "avow/avowlaw2.RatHalves", spec := "ratHalves", unfollowed := true, recurses := true, apart := false }
def RatHalvesSaid : Prop := ratHalvesRow.holds Try.pinned (OpenSpec.ofChange ratHalvesSpec)

/-- ITS FALSE NEIGHBOUR: 'it returns false'. Refute it at one input. -/
def ratHalvesWrong : ChangeSpec := { name := "ratHalves", fn := fun _ => fun
  | [d1, d2, d3, d4] => { results := [.lit (.bool false)], args := [d1, d2, d3, d4] }
  | _ => none }
def RatHalvesWrongFalsely : Prop := ratHalvesRow.holds Try.pinned (OpenSpec.ofChange ratHalvesWrong)

/-- 'avowlaw2.RatReckons': WHATEVER THE INPUT: true; the input reads as it did. -/
def ratReckonsSpec : ChangeSpec := { name := "ratReckons", fn := fun _ => fun
  | [d1, d2, d3, d4] => { results := [.lit (.bool true)], args := [d1, d2, d3, d4] }
  | _ => none }
def ratReckonsRow : OpenClaim := { program := "ytooliddjiiilfaa", sum := "7eb3ad1321e43b7d27a555567c8d37c09b38e587b108c8fec96391be8e46c34e", func := "avow/avowlaw2.RatReckons", spec := "ratReckons", unfollowed := true, recurses := true, apart := false }
def RatReckonsSaid : Prop := ratReckonsRow.holds Try.pinned (OpenSpec.ofChange ratReckonsSpec)

/-- ITS FALSE NEIGHBOUR: 'it returns false'. Refute it at one input. -/
def ratReckonsWrong : ChangeSpec := { name := "ratReckons", fn := fun _ => fun
  | [d1, d2, d3, d4] => { results := [.lit (.bool false)], args := [d1, d2, d3, d4] }
  | _ => none }
def RatReckonsWrongFalsely : Prop := ratReckonsRow.holds Try.pinned (OpenSpec.ofChange ratReckonsWrong)

/- THE SECOND FORM. 'bulk': how many values and letters a reading holds, each counted each time it is reached (what is shared counts as often as it is met; a slice's spare places count too). A statement '..UptoSaid' is the law's where the arguments, and the package variables that the reading takes, are together of bulk at most 1048576: NARROWER than '..Said'. Prove '..Said' where nothing that the law and all that it calls make is longer than what came in: it says more and counts as full. Else prove '..UptoSaid'. A law counts once. -/
mutual
def uptoBulk {H : Type} : DataW H → Nat
  | .lit (.string bytes) => bytes.length + 1
  | .lit _ => 1
  | .nil => 1
  | .ptr d => uptoBulk d + 1
  | .slice elems spare => uptoBulkAll elems + uptoBulkAll spare + 1
  | .agg parts => uptoBulkAll parts + 1
  | .iface _ d => uptoBulk d + 1
  | .map entries => uptoBulkEntries entries + 1
  | .held _ => 1
def uptoBulkAll {H : Type} : List (DataW H) → Nat
  | [] => 0
  | d :: r => uptoBulk d + uptoBulkAll r
def uptoBulkEntries {H : Type} : List (Lit × DataW H) → Nat
  | [] => 0
  | x :: r => uptoBulkEntry x + uptoBulkEntries r
def uptoBulkEntry {H : Type} : Lit × DataW H → Nat
  | (.string bytes, d) => bytes.length + uptoBulk d + 1
  | (_, d) => uptoBulk d + 1
 end
def uptoSmall : (H : Type) → List (DataW H) → Bool := fun _ ds => decide (uptoBulkAll ds ≤ 1048576)
def OpenSpec.upto (s : _root_.Go.ChangeSpec) : _root_.Go.OpenSpec := { _root_.Go.OpenSpec.ofChange s with cond := some uptoSmall }

/-- 'avowlaw1.NumTexts', WHERE WHAT IT READS IS OF BULK AT MOST 1048576: true; the input reads as it did. -/
def numTextsUptoRow : OpenClaim := { program := "ytooliddjiiilfaa", sum := "7eb3ad1321e43b7d27a555567c8d37c09b38e587b108c8fec96391be8e46c34e", func := "avow/avowlaw1.NumTexts", spec := "numTexts", apart := false, narrowed := true }
def NumTextsUptoSaid : Prop := numTextsUptoRow.holds Try.pinned (OpenSpec.upto numTextsSpec)

/-- 'avowlaw1.NumReckons', WHERE WHAT IT READS IS OF BULK AT MOST 1048576: true; the input reads as it did. -/
def numReckonsUptoRow : OpenClaim := { program := "ytooliddjiiilfaa", sum := "7eb3ad1321e43b7d27a555567c8d37c09b38e587b108c8fec96391be8e46c34e", func := "avow/avowlaw1.NumReckons", spec := "numReckons", apart := false, narrowed := true }
def NumReckonsUptoSaid : Prop := numReckonsUptoRow.holds Try.pinned (OpenSpec.upto numReckonsSpec)

/-- 'avowlaw1.NumPowers', WHERE WHAT IT READS IS OF BULK AT MOST 1048576: true; the input reads as it did. -/
def numPowersUptoRow : OpenClaim := { program := "ytooliddjiiilfaa", sum := "7eb3ad1321e43b7d27a555567c8d37c09b38e587b108c8fec96391be8e46c34e", func := "avow/avowlaw1.NumPowers", spec := "numPowers", apart := false, narrowed := true }
def NumPowersUptoSaid : Prop := numPowersUptoRow.holds Try.pinned (OpenSpec.upto numPowersSpec)

/-- 'avowlaw1.NumDivides', WHERE WHAT IT READS IS OF BULK AT MOST 1048576: true; the input reads as it did. -/
def numDividesUptoRow : OpenClaim := { program := "ytooliddjiiilfaa", sum := "7eb3ad1321e43b7d27a555567c8d37c09b38e587b108c8fec96391be8e46c34e", func := "avow/avowlaw1.NumDivides", spec := "numDivides", apart := false, narrowed := true }
def NumDividesUptoSaid : Prop := numDividesUptoRow.holds Try.pinned (OpenSpec.upto numDividesSpec)

/-- 'avowlaw1.NumLaws', WHERE WHAT IT READS IS OF BULK AT MOST 1048576: true; the input reads as it did. -/
def numLawsUptoRow : OpenClaim := { program := "ytooliddjiiilfaa", sum := "7eb3ad1321e43b7d27a555567c8d37c09b38e587b108c8fec96391be8e46c34e", func := "avow/avowlaw1.NumLaws", spec := "numLaws", apart := false, narrowed := true }
def NumLawsUptoSaid : Prop := numLawsUptoRow.holds Try.pinned (OpenSpec.upto numLawsSpec)

/-- 'avowlaw1.NumGcds', WHERE WHAT IT READS IS OF BULK AT MOST 1048576: true; the input reads as it did. -/
def numGcdsUptoRow : OpenClaim := { program := "ytooliddjiiilfaa", sum := "7eb3ad1321e43b7d27a555567c8d37c09b38e587b108c8fec96391be8e46c34e", func := "avow/avowlaw1.NumGcds", spec := "numGcds", apart := false, narrowed := true }
def NumGcdsUptoSaid : Prop := numGcdsUptoRow.holds Try.pinned (OpenSpec.upto numGcdsSpec)

/-- 'avowlaw2.RatMakes', WHERE WHAT IT READS IS OF BULK AT MOST 1048576: true; the input reads as it did. -/
def ratMakesUptoRow : OpenClaim := { program := "ytooliddjiiilfaa", sum := "7eb3ad1321e43b7d27a555567c8d37c09b38e587b108c8fec96391be8e46c34e", func := "avow/avowlaw2.RatMakes", spec := "ratMakes", apart := false, narrowed := true }
def RatMakesUptoSaid : Prop := ratMakesUptoRow.holds Try.pinned (OpenSpec.upto ratMakesSpec)

/-- 'avowlaw2.RatLaws', WHERE WHAT IT READS IS OF BULK AT MOST 1048576: true; the input reads as it did. -/
def ratLawsUptoRow : OpenClaim := { program := "ytooliddjiiilfaa", sum := "7eb3ad1321e43b7d27a555567c8d37c09b38e587b108c8fec96391be8e46c34e", func := "avow/avowlaw2.RatLaws", spec := "ratLaws", unfollowed := true, recurses := true, apart := false, narrowed := true }
def RatLawsUptoSaid : Prop := ratLawsUptoRow.holds Try.pinned (OpenSpec.upto ratLawsSpec)

/-- 'avowlaw2.RatHalves', WHERE WHAT IT READS IS OF BULK AT MOST 1048576: true; the input reads as it did. -/
def ratHalvesUptoRow : OpenClaim := { program := "ytooliddjiiilfaa", sum := "7eb3ad1321e43b7d27a555567c8d37c09b38e587b108c8fec96391be8e46c34e", func := "avow/avowlaw2.RatHalves", spec := "ratHalves", unfollowed := true, recurses := true, apart := false, narrowed := true }
def RatHalvesUptoSaid : Prop := ratHalvesUptoRow.holds Try.pinned (OpenSpec.upto ratHalvesSpec)

/-- 'avowlaw2.RatReckons', WHERE WHAT IT READS IS OF BULK AT MOST 1048576: true; the input reads as it did. -/
def ratReckonsUptoRow : OpenClaim := { program := "ytooliddjiiilfaa", sum := "7eb3ad1321e43b7d27a555567c8d37c09b38e587b108c8fec96391be8e46c34e", func := "avow/avowlaw2.RatReckons", spec := "ratReckons", unfollowed := true, recurses := true, apart := false, narrowed := true }
def RatReckonsUptoSaid : Prop := ratReckonsUptoRow.holds Try.pinned (OpenSpec.upto ratReckonsSpec)

end Rows
end Go.Proofs.Ytooliddjiiilfaa
