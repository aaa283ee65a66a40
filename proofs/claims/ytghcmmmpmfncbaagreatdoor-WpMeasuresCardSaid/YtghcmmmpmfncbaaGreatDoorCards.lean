/-
  DERIVED. GIVEN WITH THE SEED: THE CARDS: each row of YtghcmmmpmfncbaaGreatDoorRows.lean that lists a variable, with what it lists TIED to the program's text (the seventh form; the later family's looks); each row that meets fmt, with fmt's text TOLD by the authors' own Lean function (tested against real Go, not proved from fmt's source: count such statements apart). THE CARD IS WHAT COUNTS. Prove the row's statement (the work); the ties are given (YtghcmmmpmfncbaaGreatDoorTie.lean); close each card by the builder's one call (the guide's Derived/Test/ToyasCard.lean, 'card_holds'). Laid BY PROGRAM, IN A SANDBOX (cutbox-door.mjs). By AI agents, Wed Nov 11 2026. No macro, syntax, notation, axiom, sorry.
-/
import Derived.Test.YtghcmmmpmfncbaaGreatDoorRows
import GoSem.ClaimSeven
namespace Go.Proofs.YtghcmmmpmfncbaaGreatDoor
namespace Rows

/-- THE TIED CARD OF 'avowlaw21.WpBranches'. -/
def wpBranchesCard : Claim7 := { stood := { row := wpBranchesRow, standIns := [], harness := (true, "bf1013cff6b49b64a4fb88d451be801b0e235cc3d1bd3f385c5178962501a2a0"), looks := true }, kinds := [], alts := [], laidByText := true, laidKinds := [.data, .data, .data, .data, .pinned], laidTests := true, laidLooks := .later }
def WpBranchesCardSaid : Prop := Claim7.holds Tryz.pinned (.plain (OpenSpec.ofChange wpBranchesSpec)) wpBranchesCard

/-- THE TIED CARD OF 'avowlaw21.WpCalls'. -/
def wpCallsCard : Claim7 := { stood := { row := wpCallsRow, standIns := [], harness := (true, "bf1013cff6b49b64a4fb88d451be801b0e235cc3d1bd3f385c5178962501a2a0"), looks := true }, kinds := [], alts := [], laidByText := true, laidKinds := [.data, .data, .data, .data, .pinned], laidTests := true, laidLooks := .later }
def WpCallsCardSaid : Prop := Claim7.holds Tryz.pinned (.plain (OpenSpec.ofChange wpCallsSpec)) wpCallsCard

/-- THE TIED CARD OF 'avowlaw21.WpMeasures'. -/
def wpMeasuresCard : Claim7 := { stood := { row := wpMeasuresRow, standIns := [], harness := (true, "bf1013cff6b49b64a4fb88d451be801b0e235cc3d1bd3f385c5178962501a2a0"), looks := true }, kinds := [], alts := [], laidByText := true, laidKinds := [.data, .data, .data, .data, .pinned], laidTests := true, laidLooks := .later }
def WpMeasuresCardSaid : Prop := Claim7.holds Tryz.pinned (.plain (OpenSpec.ofChange wpMeasuresSpec)) wpMeasuresCard

/-- THE SECOND FORM's CARD OF 'avowlaw21.WpBranches'. -/
def wpBranchesUptoCard : Claim7 := { stood := { row := wpBranchesUptoRow, standIns := [], harness := (true, "bf1013cff6b49b64a4fb88d451be801b0e235cc3d1bd3f385c5178962501a2a0"), looks := true }, kinds := [], alts := [], laidByText := true, laidKinds := [.data, .data, .data, .data, .pinned], laidTests := true, laidLooks := .later }
def WpBranchesUptoCardSaid : Prop := Claim7.holds Tryz.pinned (.plain (OpenSpec.upto wpBranchesSpec)) wpBranchesUptoCard

/-- THE SECOND FORM's CARD OF 'avowlaw21.WpCalls'. -/
def wpCallsUptoCard : Claim7 := { stood := { row := wpCallsUptoRow, standIns := [], harness := (true, "bf1013cff6b49b64a4fb88d451be801b0e235cc3d1bd3f385c5178962501a2a0"), looks := true }, kinds := [], alts := [], laidByText := true, laidKinds := [.data, .data, .data, .data, .pinned], laidTests := true, laidLooks := .later }
def WpCallsUptoCardSaid : Prop := Claim7.holds Tryz.pinned (.plain (OpenSpec.upto wpCallsSpec)) wpCallsUptoCard

/-- THE SECOND FORM's CARD OF 'avowlaw21.WpMeasures'. -/
def wpMeasuresUptoCard : Claim7 := { stood := { row := wpMeasuresUptoRow, standIns := [], harness := (true, "bf1013cff6b49b64a4fb88d451be801b0e235cc3d1bd3f385c5178962501a2a0"), looks := true }, kinds := [], alts := [], laidByText := true, laidKinds := [.data, .data, .data, .data, .pinned], laidTests := true, laidLooks := .later }
def WpMeasuresUptoCardSaid : Prop := Claim7.holds Tryz.pinned (.plain (OpenSpec.upto wpMeasuresSpec)) wpMeasuresUptoCard
end Rows
end Go.Proofs.YtghcmmmpmfncbaaGreatDoor
