/-
  DERIVED. GIVEN WITH THE SEED: THE CARDS: each row of YtdaimjlegjhidaaDoorRows.lean that lists a variable, with what it lists TIED to the program's text (the seventh form; the later family's looks); each row that meets fmt, with fmt's text TOLD by the authors' own Lean function (tested against real Go, not proved from fmt's source: count such statements apart). THE CARD IS WHAT COUNTS. Prove the row's statement (the work); the ties are given (YtdaimjlegjhidaaDoorTie.lean); close each card by the builder's one call (the guide's Derived/Test/ToyasCard.lean, 'card_holds'). Laid BY PROGRAM, IN A SANDBOX (cutbox-door.mjs). By AI agents, Wed Nov 11 2026. No macro, syntax, notation, axiom, sorry.
-/
import Derived.Test.YtdaimjlegjhidaaDoorRows
import GoSem.ClaimSeven
namespace Go.Proofs.YtdaimjlegjhidaaDoor
namespace Rows

/-- THE TIED CARD OF 'avowlaw17.ScopeResolves'. -/
def scopeResolvesCard : Claim7 := { stood := { row := scopeResolvesRow, standIns := [], harness := (true, "be46cbd23d6d72f95e4369739184b8893cde9792fda07db939fd832597836d31"), looks := true }, kinds := [], alts := [], laidByText := true, laidKinds := [.data, .handle, .pinned], laidTests := true, laidLooks := .later }
def ScopeResolvesCardSaid : Prop := Claim7.holds Tryd.pinned (.plain (OpenSpec.ofChange scopeResolvesSpec)) scopeResolvesCard

/-- THE TIED CARD OF 'avowlaw17.ScopeTwice'. -/
def scopeTwiceCard : Claim7 := { stood := { row := scopeTwiceRow, standIns := [], harness := (true, "be46cbd23d6d72f95e4369739184b8893cde9792fda07db939fd832597836d31"), looks := true }, kinds := [], alts := [], laidByText := true, laidKinds := [.data, .handle, .pinned], laidTests := true, laidLooks := .later }
def ScopeTwiceCardSaid : Prop := Claim7.holds Tryd.pinned (.plain (OpenSpec.ofChange scopeTwiceSpec)) scopeTwiceCard

/-- THE TIED CARD OF 'avowlaw17.ScopeNames'. -/
def scopeNamesCard : Claim7 := { stood := { row := scopeNamesRow, standIns := [], harness := (true, "be46cbd23d6d72f95e4369739184b8893cde9792fda07db939fd832597836d31"), looks := true }, kinds := [], alts := [], laidByText := true, laidKinds := [.data, .handle, .pinned], laidTests := true, laidLooks := .later }
def ScopeNamesCardSaid : Prop := Claim7.holds Tryd.pinned (.plain (OpenSpec.ofChange scopeNamesSpec)) scopeNamesCard

/-- THE TIED CARD OF 'avowlaw18.KindsCheck'. -/
def kindsCheckCard : Claim7 := { stood := { row := kindsCheckRow, standIns := [], harness := (true, "be46cbd23d6d72f95e4369739184b8893cde9792fda07db939fd832597836d31"), looks := true }, kinds := [], alts := [], laidByText := true, laidKinds := [.data, .handle, .pinned], laidTests := true, laidLooks := .later }
def KindsCheckCardSaid : Prop := Claim7.holds Tryd.pinned (.plain (OpenSpec.ofChange kindsCheckSpec)) kindsCheckCard

/-- THE TIED CARD OF 'avowlaw18.KindsForms'. -/
def kindsFormsCard : Claim7 := { stood := { row := kindsFormsRow, standIns := [], harness := (true, "be46cbd23d6d72f95e4369739184b8893cde9792fda07db939fd832597836d31"), looks := true }, kinds := [], alts := [], laidByText := true, laidKinds := [.data, .handle, .pinned], laidTests := true, laidLooks := .later }
def KindsFormsCardSaid : Prop := Claim7.holds Tryd.pinned (.plain (OpenSpec.ofChange kindsFormsSpec)) kindsFormsCard

/-- THE TIED CARD OF 'avowlaw18.KindsMeasures'. -/
def kindsMeasuresCard : Claim7 := { stood := { row := kindsMeasuresRow, standIns := [], harness := (true, "be46cbd23d6d72f95e4369739184b8893cde9792fda07db939fd832597836d31"), looks := true }, kinds := [], alts := [], laidByText := true, laidKinds := [.data, .handle, .pinned], laidTests := true, laidLooks := .later }
def KindsMeasuresCardSaid : Prop := Claim7.holds Tryd.pinned (.plain (OpenSpec.ofChange kindsMeasuresSpec)) kindsMeasuresCard

/-- THE TIED CARD OF 'avowlaw18.KindsEffects'. -/
def kindsEffectsCard : Claim7 := { stood := { row := kindsEffectsRow, standIns := [], harness := (true, "be46cbd23d6d72f95e4369739184b8893cde9792fda07db939fd832597836d31"), looks := true }, kinds := [], alts := [], laidByText := true, laidKinds := [.data, .handle, .pinned], laidTests := true, laidLooks := .later }
def KindsEffectsCardSaid : Prop := Claim7.holds Tryd.pinned (.plain (OpenSpec.ofChange kindsEffectsSpec)) kindsEffectsCard

/-- THE TIED CARD OF 'avowlaw18.KindsProducts'. -/
def kindsProductsCard : Claim7 := { stood := { row := kindsProductsRow, standIns := [], harness := (true, "be46cbd23d6d72f95e4369739184b8893cde9792fda07db939fd832597836d31"), looks := true }, kinds := [], alts := [], laidByText := true, laidKinds := [.data, .handle, .pinned], laidTests := true, laidLooks := .later }
def KindsProductsCardSaid : Prop := Claim7.holds Tryd.pinned (.plain (OpenSpec.ofChange kindsProductsSpec)) kindsProductsCard

/-- THE SECOND FORM's CARD OF 'avowlaw17.ScopeResolves'. -/
def scopeResolvesUptoCard : Claim7 := { stood := { row := scopeResolvesUptoRow, standIns := [], harness := (true, "be46cbd23d6d72f95e4369739184b8893cde9792fda07db939fd832597836d31"), looks := true }, kinds := [], alts := [], laidByText := true, laidKinds := [.data, .handle, .pinned], laidTests := true, laidLooks := .later }
def ScopeResolvesUptoCardSaid : Prop := Claim7.holds Tryd.pinned (.plain (OpenSpec.upto scopeResolvesSpec)) scopeResolvesUptoCard

/-- THE SECOND FORM's CARD OF 'avowlaw17.ScopeTwice'. -/
def scopeTwiceUptoCard : Claim7 := { stood := { row := scopeTwiceUptoRow, standIns := [], harness := (true, "be46cbd23d6d72f95e4369739184b8893cde9792fda07db939fd832597836d31"), looks := true }, kinds := [], alts := [], laidByText := true, laidKinds := [.data, .handle, .pinned], laidTests := true, laidLooks := .later }
def ScopeTwiceUptoCardSaid : Prop := Claim7.holds Tryd.pinned (.plain (OpenSpec.upto scopeTwiceSpec)) scopeTwiceUptoCard

/-- THE SECOND FORM's CARD OF 'avowlaw17.ScopeNames'. -/
def scopeNamesUptoCard : Claim7 := { stood := { row := scopeNamesUptoRow, standIns := [], harness := (true, "be46cbd23d6d72f95e4369739184b8893cde9792fda07db939fd832597836d31"), looks := true }, kinds := [], alts := [], laidByText := true, laidKinds := [.data, .handle, .pinned], laidTests := true, laidLooks := .later }
def ScopeNamesUptoCardSaid : Prop := Claim7.holds Tryd.pinned (.plain (OpenSpec.upto scopeNamesSpec)) scopeNamesUptoCard

/-- THE SECOND FORM's CARD OF 'avowlaw18.KindsCheck'. -/
def kindsCheckUptoCard : Claim7 := { stood := { row := kindsCheckUptoRow, standIns := [], harness := (true, "be46cbd23d6d72f95e4369739184b8893cde9792fda07db939fd832597836d31"), looks := true }, kinds := [], alts := [], laidByText := true, laidKinds := [.data, .handle, .pinned], laidTests := true, laidLooks := .later }
def KindsCheckUptoCardSaid : Prop := Claim7.holds Tryd.pinned (.plain (OpenSpec.upto kindsCheckSpec)) kindsCheckUptoCard

/-- THE SECOND FORM's CARD OF 'avowlaw18.KindsForms'. -/
def kindsFormsUptoCard : Claim7 := { stood := { row := kindsFormsUptoRow, standIns := [], harness := (true, "be46cbd23d6d72f95e4369739184b8893cde9792fda07db939fd832597836d31"), looks := true }, kinds := [], alts := [], laidByText := true, laidKinds := [.data, .handle, .pinned], laidTests := true, laidLooks := .later }
def KindsFormsUptoCardSaid : Prop := Claim7.holds Tryd.pinned (.plain (OpenSpec.upto kindsFormsSpec)) kindsFormsUptoCard

/-- THE SECOND FORM's CARD OF 'avowlaw18.KindsMeasures'. -/
def kindsMeasuresUptoCard : Claim7 := { stood := { row := kindsMeasuresUptoRow, standIns := [], harness := (true, "be46cbd23d6d72f95e4369739184b8893cde9792fda07db939fd832597836d31"), looks := true }, kinds := [], alts := [], laidByText := true, laidKinds := [.data, .handle, .pinned], laidTests := true, laidLooks := .later }
def KindsMeasuresUptoCardSaid : Prop := Claim7.holds Tryd.pinned (.plain (OpenSpec.upto kindsMeasuresSpec)) kindsMeasuresUptoCard

/-- THE SECOND FORM's CARD OF 'avowlaw18.KindsEffects'. -/
def kindsEffectsUptoCard : Claim7 := { stood := { row := kindsEffectsUptoRow, standIns := [], harness := (true, "be46cbd23d6d72f95e4369739184b8893cde9792fda07db939fd832597836d31"), looks := true }, kinds := [], alts := [], laidByText := true, laidKinds := [.data, .handle, .pinned], laidTests := true, laidLooks := .later }
def KindsEffectsUptoCardSaid : Prop := Claim7.holds Tryd.pinned (.plain (OpenSpec.upto kindsEffectsSpec)) kindsEffectsUptoCard

/-- THE SECOND FORM's CARD OF 'avowlaw18.KindsProducts'. -/
def kindsProductsUptoCard : Claim7 := { stood := { row := kindsProductsUptoRow, standIns := [], harness := (true, "be46cbd23d6d72f95e4369739184b8893cde9792fda07db939fd832597836d31"), looks := true }, kinds := [], alts := [], laidByText := true, laidKinds := [.data, .handle, .pinned], laidTests := true, laidLooks := .later }
def KindsProductsUptoCardSaid : Prop := Claim7.holds Tryd.pinned (.plain (OpenSpec.upto kindsProductsSpec)) kindsProductsUptoCard
end Rows
end Go.Proofs.YtdaimjlegjhidaaDoor
