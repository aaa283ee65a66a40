/-
  DERIVED. GIVEN WITH THE SEED: THE CARDS: each row of YtjldfkldmfmkiaaDoorRows.lean that lists a variable, with what it lists TIED to the program's text (the seventh form; the later family's looks); each row that meets fmt, with fmt's text TOLD by the authors' own Lean function (tested against real Go, not proved from fmt's source: count such statements apart). THE CARD IS WHAT COUNTS. Prove the row's statement (the work); the ties are given (YtjldfkldmfmkiaaDoorTie.lean); close each card by the builder's one call (the guide's Derived/Test/ToyasCard.lean, 'card_holds'). Laid BY PROGRAM, IN A SANDBOX (cutbox-door.mjs). By AI agents, Wed Nov 11 2026. No macro, syntax, notation, axiom, sorry.
-/
import Derived.Test.YtjldfkldmfmkiaaDoorRows
import GoSem.ClaimSeven
namespace Go.Proofs.YtjldfkldmfmkiaaDoor
namespace Rows

/-- THE TIED CARD OF 'avowlaw14.LexBlanks'. -/
def lexBlanksCard : Claim7 := { stood := { row := lexBlanksRow, standIns := [], harness := (true, "67b2ccbd3ba0bcacfcd9caac9ea795648fead3d379ae6978795f2fe50493d46f"), looks := true }, kinds := [], alts := [], laidByText := true, laidKinds := [.data, .handle, .pinned], laidTests := true, laidLooks := .later }
def LexBlanksCardSaid : Prop := Claim7.holds Tryd.pinned (.plain (OpenSpec.ofChange lexBlanksSpec)) lexBlanksCard

/-- THE TIED CARD OF 'avowlaw14.LexWords'. -/
def lexWordsCard : Claim7 := { stood := { row := lexWordsRow, standIns := [], harness := (true, "67b2ccbd3ba0bcacfcd9caac9ea795648fead3d379ae6978795f2fe50493d46f"), looks := true }, kinds := [], alts := [], laidByText := true, laidKinds := [.data, .handle, .pinned], laidTests := true, laidLooks := .later }
def LexWordsCardSaid : Prop := Claim7.holds Tryd.pinned (.plain (OpenSpec.ofChange lexWordsSpec)) lexWordsCard

/-- THE TIED CARD OF 'avowlaw14.LexRunes'. -/
def lexRunesCard : Claim7 := { stood := { row := lexRunesRow, standIns := [], harness := (true, "67b2ccbd3ba0bcacfcd9caac9ea795648fead3d379ae6978795f2fe50493d46f"), looks := true }, kinds := [], alts := [], laidByText := true, laidKinds := [.data, .handle, .pinned], laidTests := true, laidLooks := .later }
def LexRunesCardSaid : Prop := Claim7.holds Tryd.pinned (.plain (OpenSpec.ofChange lexRunesSpec)) lexRunesCard

/-- THE TIED CARD OF 'avowlaw14.LexBounds'. -/
def lexBoundsCard : Claim7 := { stood := { row := lexBoundsRow, standIns := [], harness := (true, "67b2ccbd3ba0bcacfcd9caac9ea795648fead3d379ae6978795f2fe50493d46f"), looks := true }, kinds := [], alts := [], laidByText := true, laidKinds := [.data, .handle, .pinned], laidTests := true, laidLooks := .later }
def LexBoundsCardSaid : Prop := Claim7.holds Tryd.pinned (.plain (OpenSpec.ofChange lexBoundsSpec)) lexBoundsCard

/-- THE SECOND FORM's CARD OF 'avowlaw14.LexBlanks'. -/
def lexBlanksUptoCard : Claim7 := { stood := { row := lexBlanksUptoRow, standIns := [], harness := (true, "67b2ccbd3ba0bcacfcd9caac9ea795648fead3d379ae6978795f2fe50493d46f"), looks := true }, kinds := [], alts := [], laidByText := true, laidKinds := [.data, .handle, .pinned], laidTests := true, laidLooks := .later }
def LexBlanksUptoCardSaid : Prop := Claim7.holds Tryd.pinned (.plain (OpenSpec.upto lexBlanksSpec)) lexBlanksUptoCard

/-- THE SECOND FORM's CARD OF 'avowlaw14.LexWords'. -/
def lexWordsUptoCard : Claim7 := { stood := { row := lexWordsUptoRow, standIns := [], harness := (true, "67b2ccbd3ba0bcacfcd9caac9ea795648fead3d379ae6978795f2fe50493d46f"), looks := true }, kinds := [], alts := [], laidByText := true, laidKinds := [.data, .handle, .pinned], laidTests := true, laidLooks := .later }
def LexWordsUptoCardSaid : Prop := Claim7.holds Tryd.pinned (.plain (OpenSpec.upto lexWordsSpec)) lexWordsUptoCard

/-- THE SECOND FORM's CARD OF 'avowlaw14.LexRunes'. -/
def lexRunesUptoCard : Claim7 := { stood := { row := lexRunesUptoRow, standIns := [], harness := (true, "67b2ccbd3ba0bcacfcd9caac9ea795648fead3d379ae6978795f2fe50493d46f"), looks := true }, kinds := [], alts := [], laidByText := true, laidKinds := [.data, .handle, .pinned], laidTests := true, laidLooks := .later }
def LexRunesUptoCardSaid : Prop := Claim7.holds Tryd.pinned (.plain (OpenSpec.upto lexRunesSpec)) lexRunesUptoCard

/-- THE SECOND FORM's CARD OF 'avowlaw14.LexBounds'. -/
def lexBoundsUptoCard : Claim7 := { stood := { row := lexBoundsUptoRow, standIns := [], harness := (true, "67b2ccbd3ba0bcacfcd9caac9ea795648fead3d379ae6978795f2fe50493d46f"), looks := true }, kinds := [], alts := [], laidByText := true, laidKinds := [.data, .handle, .pinned], laidTests := true, laidLooks := .later }
def LexBoundsUptoCardSaid : Prop := Claim7.holds Tryd.pinned (.plain (OpenSpec.upto lexBoundsSpec)) lexBoundsUptoCard
end Rows
end Go.Proofs.YtjldfkldmfmkiaaDoor
