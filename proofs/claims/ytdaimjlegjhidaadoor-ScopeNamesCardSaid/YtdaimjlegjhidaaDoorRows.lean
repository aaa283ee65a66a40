/-
  NARROWER THAN 'FOR EVERY INPUT', by the rows' own cells (each row's printed sentence says how): ScopeResolves: laid · ScopeTwice: laid · ScopeNames: laid · KindsCheck: laid · KindsForms: laid · KindsMeasures: laid · KindsEffects: laid · KindsProducts: laid.
  DERIVED. THE GIVEN ROWS OF THIS SEAT. 8 by the template 'for every input the law returns true; each argument reads behind the call as it read before'; 0 by the template 'total and deterministic' (their statements: YtdaimjlegjhidaaDoorTotals.lean).
  GIVEN WITH THE SEED: the statements are not yours to turn. If you find one false, say at which input.
  Laid BY PROGRAM, IN A SANDBOX (cutbox-rows.mjs): the forced cells as the released guide's own fill.sh prints them over the translation 19a1a0fc82cb4b96… (all of the seat's roots in one cut). By AI agents, Wed Nov 11 2026. No macro, syntax, notation, axiom, sorry.
-/
import Derived.Test.YtdaimjlegjhidaaDoorChecked
import GoSem.PinnedTables
import GoSem.Claim
import GoSem.ClaimJoined
import GoSem.ClaimMapViews
import Derived.JoinedTies
import Derived.KernelRfl
namespace Go.Proofs.YtdaimjlegjhidaaDoor
/- THE CELL 'sum', in the pinned program and in every row, IS THE sha256 OF THE DUMP (.gsa) THAT YtdaimjlegjhidaaDoorProg.lean LOADS. Nothing in Lean hashes anything: it is a label: what it is worth is what the hold of that sum in a sandbox is worth. -/
noncomputable def Tryd.pinned : Pinned := { name := "ytdaimjlegjhidaadoor", sum := "19a1a0fc82cb4b963b3e06b4b849aaa98794e01b710a0fede2ba1769acc365bd", checked := Tryd.checked }
namespace Rows
def none {H : Type} : Left H := { results := [], args := [] }

/- WHAT THE LISTED PACKAGE-LEVEL VARIABLES READ AS WHEN THE CALL BEGINS. Each datum BY PROGRAM (the guide's laid-datum.mjs) off the statement by which the dump's own 'gosem.cut.vars' lays the variable. In a bare row this is a premise. The card (YtdaimjlegjhidaaDoorCards.lean) ties it to the program's text. -/
def laid_unicode_utf8_acceptRanges {H : Type} : DataW H := .agg [.agg [.lit (.int .u8 128), .lit (.int .u8 191)], .agg [.lit (.int .u8 160), .lit (.int .u8 191)], .agg [.lit (.int .u8 128), .lit (.int .u8 159)], .agg [.lit (.int .u8 144), .lit (.int .u8 191)], .agg [.lit (.int .u8 128), .lit (.int .u8 143)], .agg [.lit (.int .u8 0), .lit (.int .u8 0)], .agg [.lit (.int .u8 0), .lit (.int .u8 0)], .agg [.lit (.int .u8 0), .lit (.int .u8 0)], .agg [.lit (.int .u8 0), .lit (.int .u8 0)], .agg [.lit (.int .u8 0), .lit (.int .u8 0)], .agg [.lit (.int .u8 0), .lit (.int .u8 0)], .agg [.lit (.int .u8 0), .lit (.int .u8 0)], .agg [.lit (.int .u8 0), .lit (.int .u8 0)], .agg [.lit (.int .u8 0), .lit (.int .u8 0)], .agg [.lit (.int .u8 0), .lit (.int .u8 0)], .agg [.lit (.int .u8 0), .lit (.int .u8 0)]]
def laid_errors_errorType {H : Type} : DataW H := .iface "internal/reflectlite.rtype" (.agg [.ptr (.lit (.string [101, 114, 114, 111, 114]))])
/-- One of Go's own tables, pinned by name: the form's constant. -/
def laid_unicode_utf8_first : DataW Unit := Go.Pinned.utf8First

/-- 'avowlaw17.ScopeResolves': WHATEVER THE INPUT: true; the input reads as it did. -/
def scopeResolvesSpec : ChangeSpec := { name := "scopeResolves", fn := fun _ => fun
  | [d] => { results := [.lit (.bool true)], args := [d] }
  | _ => none }
def scopeResolvesRow : OpenClaim := { program := "ytdaimjlegjhidaadoor", sum := "19a1a0fc82cb4b963b3e06b4b849aaa98794e01b710a0fede2ba1769acc365bd", func := "avow/avowlaw17.ScopeResolves", spec := "scopeResolves", inPlace := ["internal/reflectlite.ValueOf", "(internal/reflectlite.Value).Type", "(internal/reflectlite.Value).IsNil", "internal/reflectlite.TypeOf", "(internal/reflectlite.Value).Elem", "(internal/reflectlite.Value).Set"], unfollowed := true, recurses := true, named := ["unicode/utf8.first", "unicode/utf8.acceptRanges", "errors.errorType"], apart := false, laid := [("unicode/utf8.acceptRanges", laid_unicode_utf8_acceptRanges), ("errors.errorType", laid_errors_errorType), ("unicode/utf8.first", laid_unicode_utf8_first)] }
def ScopeResolvesSaid : Prop := scopeResolvesRow.holds Tryd.pinned (OpenSpec.ofChange scopeResolvesSpec)

/-- ITS FALSE NEIGHBOUR: 'it returns false'. Refute it at one input. -/
def scopeResolvesWrong : ChangeSpec := { name := "scopeResolves", fn := fun _ => fun
  | [d] => { results := [.lit (.bool false)], args := [d] }
  | _ => none }
def ScopeResolvesWrongFalsely : Prop := scopeResolvesRow.holds Tryd.pinned (OpenSpec.ofChange scopeResolvesWrong)

/-- 'avowlaw17.ScopeTwice': WHATEVER THE INPUT: true; the input reads as it did. -/
def scopeTwiceSpec : ChangeSpec := { name := "scopeTwice", fn := fun _ => fun
  | [d1, d2] => { results := [.lit (.bool true)], args := [d1, d2] }
  | _ => none }
def scopeTwiceRow : OpenClaim := { program := "ytdaimjlegjhidaadoor", sum := "19a1a0fc82cb4b963b3e06b4b849aaa98794e01b710a0fede2ba1769acc365bd", func := "avow/avowlaw17.ScopeTwice", spec := "scopeTwice", inPlace := ["internal/reflectlite.ValueOf", "(internal/reflectlite.Value).Type", "(internal/reflectlite.Value).IsNil", "internal/reflectlite.TypeOf", "(internal/reflectlite.Value).Elem", "(internal/reflectlite.Value).Set"], unfollowed := true, recurses := true, named := ["unicode/utf8.first", "unicode/utf8.acceptRanges", "errors.errorType"], apart := false, laid := [("unicode/utf8.acceptRanges", laid_unicode_utf8_acceptRanges), ("errors.errorType", laid_errors_errorType), ("unicode/utf8.first", laid_unicode_utf8_first)] }
def ScopeTwiceSaid : Prop := scopeTwiceRow.holds Tryd.pinned (OpenSpec.ofChange scopeTwiceSpec)

/-- ITS FALSE NEIGHBOUR: 'it returns false'. Refute it at one input. -/
def scopeTwiceWrong : ChangeSpec := { name := "scopeTwice", fn := fun _ => fun
  | [d1, d2] => { results := [.lit (.bool false)], args := [d1, d2] }
  | _ => none }
def ScopeTwiceWrongFalsely : Prop := scopeTwiceRow.holds Tryd.pinned (OpenSpec.ofChange scopeTwiceWrong)

/-- 'avowlaw17.ScopeNames': WHATEVER THE INPUT: true; the input reads as it did. -/
def scopeNamesSpec : ChangeSpec := { name := "scopeNames", fn := fun _ => fun
  | [d1, d2] => { results := [.lit (.bool true)], args := [d1, d2] }
  | _ => none }
def scopeNamesRow : OpenClaim := { program := "ytdaimjlegjhidaadoor", sum := "19a1a0fc82cb4b963b3e06b4b849aaa98794e01b710a0fede2ba1769acc365bd", func := "avow/avowlaw17.ScopeNames", spec := "scopeNames", inPlace := ["internal/reflectlite.ValueOf", "(internal/reflectlite.Value).Type", "(internal/reflectlite.Value).IsNil", "internal/reflectlite.TypeOf", "(internal/reflectlite.Value).Elem", "(internal/reflectlite.Value).Set"], unfollowed := true, recurses := true, named := ["unicode/utf8.first", "unicode/utf8.acceptRanges", "errors.errorType"], apart := false, laid := [("unicode/utf8.acceptRanges", laid_unicode_utf8_acceptRanges), ("errors.errorType", laid_errors_errorType), ("unicode/utf8.first", laid_unicode_utf8_first)] }
def ScopeNamesSaid : Prop := scopeNamesRow.holds Tryd.pinned (OpenSpec.ofChange scopeNamesSpec)

/-- ITS FALSE NEIGHBOUR: 'it returns false'. Refute it at one input. -/
def scopeNamesWrong : ChangeSpec := { name := "scopeNames", fn := fun _ => fun
  | [d1, d2] => { results := [.lit (.bool false)], args := [d1, d2] }
  | _ => none }
def ScopeNamesWrongFalsely : Prop := scopeNamesRow.holds Tryd.pinned (OpenSpec.ofChange scopeNamesWrong)

/-- 'avowlaw18.KindsCheck': WHATEVER THE INPUT: true; the input reads as it did. -/
def kindsCheckSpec : ChangeSpec := { name := "kindsCheck", fn := fun _ => fun
  | [d] => { results := [.lit (.bool true)], args := [d] }
  | _ => none }
def kindsCheckRow : OpenClaim := { program := "ytdaimjlegjhidaadoor", sum := "19a1a0fc82cb4b963b3e06b4b849aaa98794e01b710a0fede2ba1769acc365bd", func := "avow/avowlaw18.KindsCheck", spec := "kindsCheck", inPlace := ["internal/reflectlite.ValueOf", "(internal/reflectlite.Value).Type", "(internal/reflectlite.Value).IsNil", "internal/reflectlite.TypeOf", "(internal/reflectlite.Value).Elem", "(internal/reflectlite.Value).Set"], unfollowed := true, recurses := true, named := ["unicode/utf8.first", "unicode/utf8.acceptRanges", "errors.errorType"], apart := false, laid := [("unicode/utf8.acceptRanges", laid_unicode_utf8_acceptRanges), ("errors.errorType", laid_errors_errorType), ("unicode/utf8.first", laid_unicode_utf8_first)] }
def KindsCheckSaid : Prop := kindsCheckRow.holds Tryd.pinned (OpenSpec.ofChange kindsCheckSpec)

/-- ITS FALSE NEIGHBOUR: 'it returns false'. Refute it at one input. -/
def kindsCheckWrong : ChangeSpec := { name := "kindsCheck", fn := fun _ => fun
  | [d] => { results := [.lit (.bool false)], args := [d] }
  | _ => none }
def KindsCheckWrongFalsely : Prop := kindsCheckRow.holds Tryd.pinned (OpenSpec.ofChange kindsCheckWrong)

/-- 'avowlaw18.KindsForms': WHATEVER THE INPUT: true; the input reads as it did. -/
def kindsFormsSpec : ChangeSpec := { name := "kindsForms", fn := fun _ => fun
  | [d1, d2] => { results := [.lit (.bool true)], args := [d1, d2] }
  | _ => none }
def kindsFormsRow : OpenClaim := { program := "ytdaimjlegjhidaadoor", sum := "19a1a0fc82cb4b963b3e06b4b849aaa98794e01b710a0fede2ba1769acc365bd", func := "avow/avowlaw18.KindsForms", spec := "kindsForms", inPlace := ["internal/reflectlite.ValueOf", "(internal/reflectlite.Value).Type", "(internal/reflectlite.Value).IsNil", "internal/reflectlite.TypeOf", "(internal/reflectlite.Value).Elem", "(internal/reflectlite.Value).Set"], unfollowed := true, recurses := true, named := ["unicode/utf8.first", "unicode/utf8.acceptRanges", "errors.errorType"], apart := false, laid := [("unicode/utf8.acceptRanges", laid_unicode_utf8_acceptRanges), ("errors.errorType", laid_errors_errorType), ("unicode/utf8.first", laid_unicode_utf8_first)] }
def KindsFormsSaid : Prop := kindsFormsRow.holds Tryd.pinned (OpenSpec.ofChange kindsFormsSpec)

/-- ITS FALSE NEIGHBOUR: 'it returns false'. Refute it at one input. -/
def kindsFormsWrong : ChangeSpec := { name := "kindsForms", fn := fun _ => fun
  | [d1, d2] => { results := [.lit (.bool false)], args := [d1, d2] }
  | _ => none }
def KindsFormsWrongFalsely : Prop := kindsFormsRow.holds Tryd.pinned (OpenSpec.ofChange kindsFormsWrong)

/-- 'avowlaw18.KindsMeasures': WHATEVER THE INPUT: true; the input reads as it did. -/
def kindsMeasuresSpec : ChangeSpec := { name := "kindsMeasures", fn := fun _ => fun
  | [d1, d2, d3] => { results := [.lit (.bool true)], args := [d1, d2, d3] }
  | _ => none }
def kindsMeasuresRow : OpenClaim := { program := "ytdaimjlegjhidaadoor", sum := "19a1a0fc82cb4b963b3e06b4b849aaa98794e01b710a0fede2ba1769acc365bd", func := "avow/avowlaw18.KindsMeasures", spec := "kindsMeasures", inPlace := ["internal/reflectlite.ValueOf", "(internal/reflectlite.Value).Type", "(internal/reflectlite.Value).IsNil", "internal/reflectlite.TypeOf", "(internal/reflectlite.Value).Elem", "(internal/reflectlite.Value).Set"], unfollowed := true, recurses := true, named := ["unicode/utf8.first", "unicode/utf8.acceptRanges", "errors.errorType"], apart := false, laid := [("unicode/utf8.acceptRanges", laid_unicode_utf8_acceptRanges), ("errors.errorType", laid_errors_errorType), ("unicode/utf8.first", laid_unicode_utf8_first)] }
def KindsMeasuresSaid : Prop := kindsMeasuresRow.holds Tryd.pinned (OpenSpec.ofChange kindsMeasuresSpec)

/-- ITS FALSE NEIGHBOUR: 'it returns false'. Refute it at one input. -/
def kindsMeasuresWrong : ChangeSpec := { name := "kindsMeasures", fn := fun _ => fun
  | [d1, d2, d3] => { results := [.lit (.bool false)], args := [d1, d2, d3] }
  | _ => none }
def KindsMeasuresWrongFalsely : Prop := kindsMeasuresRow.holds Tryd.pinned (OpenSpec.ofChange kindsMeasuresWrong)

/-- 'avowlaw18.KindsEffects': WHATEVER THE INPUT: true; the input reads as it did. -/
def kindsEffectsSpec : ChangeSpec := { name := "kindsEffects", fn := fun _ => fun
  | [d1, d2, d3] => { results := [.lit (.bool true)], args := [d1, d2, d3] }
  | _ => none }
def kindsEffectsRow : OpenClaim := { program := "ytdaimjlegjhidaadoor", sum := "19a1a0fc82cb4b963b3e06b4b849aaa98794e01b710a0fede2ba1769acc365bd", func := "avow/avowlaw18.KindsEffects", spec := "kindsEffects", inPlace := ["internal/reflectlite.ValueOf", "(internal/reflectlite.Value).Type", "(internal/reflectlite.Value).IsNil", "internal/reflectlite.TypeOf", "(internal/reflectlite.Value).Elem", "(internal/reflectlite.Value).Set"], unfollowed := true, recurses := true, named := ["unicode/utf8.first", "unicode/utf8.acceptRanges", "errors.errorType"], apart := false, laid := [("unicode/utf8.acceptRanges", laid_unicode_utf8_acceptRanges), ("errors.errorType", laid_errors_errorType), ("unicode/utf8.first", laid_unicode_utf8_first)] }
def KindsEffectsSaid : Prop := kindsEffectsRow.holds Tryd.pinned (OpenSpec.ofChange kindsEffectsSpec)

/-- ITS FALSE NEIGHBOUR: 'it returns false'. Refute it at one input. -/
def kindsEffectsWrong : ChangeSpec := { name := "kindsEffects", fn := fun _ => fun
  | [d1, d2, d3] => { results := [.lit (.bool false)], args := [d1, d2, d3] }
  | _ => none }
def KindsEffectsWrongFalsely : Prop := kindsEffectsRow.holds Tryd.pinned (OpenSpec.ofChange kindsEffectsWrong)

/-- 'avowlaw18.KindsProducts': WHATEVER THE INPUT: true; the input reads as it did. -/
def kindsProductsSpec : ChangeSpec := { name := "kindsProducts", fn := fun _ => fun
  | [d1, d2] => { results := [.lit (.bool true)], args := [d1, d2] }
  | _ => none }
def kindsProductsRow : OpenClaim := { program := "ytdaimjlegjhidaadoor", sum := "19a1a0fc82cb4b963b3e06b4b849aaa98794e01b710a0fede2ba1769acc365bd", func := "avow/avowlaw18.KindsProducts", spec := "kindsProducts", inPlace := ["internal/reflectlite.ValueOf", "(internal/reflectlite.Value).Type", "(internal/reflectlite.Value).IsNil", "internal/reflectlite.TypeOf", "(internal/reflectlite.Value).Elem", "(internal/reflectlite.Value).Set"], unfollowed := true, recurses := true, named := ["unicode/utf8.first", "unicode/utf8.acceptRanges", "errors.errorType"], apart := false, laid := [("unicode/utf8.acceptRanges", laid_unicode_utf8_acceptRanges), ("errors.errorType", laid_errors_errorType), ("unicode/utf8.first", laid_unicode_utf8_first)] }
def KindsProductsSaid : Prop := kindsProductsRow.holds Tryd.pinned (OpenSpec.ofChange kindsProductsSpec)

/-- ITS FALSE NEIGHBOUR: 'it returns false'. Refute it at one input. -/
def kindsProductsWrong : ChangeSpec := { name := "kindsProducts", fn := fun _ => fun
  | [d1, d2] => { results := [.lit (.bool false)], args := [d1, d2] }
  | _ => none }
def KindsProductsWrongFalsely : Prop := kindsProductsRow.holds Tryd.pinned (OpenSpec.ofChange kindsProductsWrong)

/- THE SECOND FORM. 'bulk': how many values and letters a reading holds, each counted each time it is reached (what is shared counts as often as it is met; a slice's spare places count too). A statement '..UptoSaid' is the law's where the arguments, and the package variables that the reading takes, are together of bulk at most 1048576: NARROWER than '..Said'. Prove '..Said' where nothing that the law and all that it calls make is longer than what came in: it says more and counts as full. Else prove '..UptoSaid'. A law counts once. -/
mutual
def uptoBulk {H : Type} : DataW H → Nat
  | .lit (.string bytes) => bytes.length + 1
  | .lit _ => 1
  | .nil => 1
  | .ptr d => uptoBulk d + 1
  | .slice elems spare => uptoBulkAll elems + uptoBulkAll spare + 1
  | .agg parts => uptoBulkAll parts + 1
  | .iface _ d => uptoBulk d + 1
  | .map entries => uptoBulkEntries entries + 1
  | .held _ => 1
def uptoBulkAll {H : Type} : List (DataW H) → Nat
  | [] => 0
  | d :: r => uptoBulk d + uptoBulkAll r
def uptoBulkEntries {H : Type} : List (Lit × DataW H) → Nat
  | [] => 0
  | x :: r => uptoBulkEntry x + uptoBulkEntries r
def uptoBulkEntry {H : Type} : Lit × DataW H → Nat
  | (.string bytes, d) => bytes.length + uptoBulk d + 1
  | (_, d) => uptoBulk d + 1
 end
def uptoSmall : (H : Type) → List (DataW H) → Bool := fun _ ds => decide (uptoBulkAll ds ≤ 1048576)
def OpenSpec.upto (s : _root_.Go.ChangeSpec) : _root_.Go.OpenSpec := { _root_.Go.OpenSpec.ofChange s with cond := some uptoSmall }

/-- 'avowlaw17.ScopeResolves', WHERE WHAT IT READS IS OF BULK AT MOST 1048576: true; the input reads as it did. -/
def scopeResolvesUptoRow : OpenClaim := { program := "ytdaimjlegjhidaadoor", sum := "19a1a0fc82cb4b963b3e06b4b849aaa98794e01b710a0fede2ba1769acc365bd", func := "avow/avowlaw17.ScopeResolves", spec := "scopeResolves", inPlace := ["internal/reflectlite.ValueOf", "(internal/reflectlite.Value).Type", "(internal/reflectlite.Value).IsNil", "internal/reflectlite.TypeOf", "(internal/reflectlite.Value).Elem", "(internal/reflectlite.Value).Set"], unfollowed := true, recurses := true, named := ["unicode/utf8.first", "unicode/utf8.acceptRanges", "errors.errorType"], apart := false, laid := [("unicode/utf8.acceptRanges", laid_unicode_utf8_acceptRanges), ("errors.errorType", laid_errors_errorType), ("unicode/utf8.first", laid_unicode_utf8_first)], narrowed := true }
def ScopeResolvesUptoSaid : Prop := scopeResolvesUptoRow.holds Tryd.pinned (OpenSpec.upto scopeResolvesSpec)

/-- 'avowlaw17.ScopeTwice', WHERE WHAT IT READS IS OF BULK AT MOST 1048576: true; the input reads as it did. -/
def scopeTwiceUptoRow : OpenClaim := { program := "ytdaimjlegjhidaadoor", sum := "19a1a0fc82cb4b963b3e06b4b849aaa98794e01b710a0fede2ba1769acc365bd", func := "avow/avowlaw17.ScopeTwice", spec := "scopeTwice", inPlace := ["internal/reflectlite.ValueOf", "(internal/reflectlite.Value).Type", "(internal/reflectlite.Value).IsNil", "internal/reflectlite.TypeOf", "(internal/reflectlite.Value).Elem", "(internal/reflectlite.Value).Set"], unfollowed := true, recurses := true, named := ["unicode/utf8.first", "unicode/utf8.acceptRanges", "errors.errorType"], apart := false, laid := [("unicode/utf8.acceptRanges", laid_unicode_utf8_acceptRanges), ("errors.errorType", laid_errors_errorType), ("unicode/utf8.first", laid_unicode_utf8_first)], narrowed := true }
def ScopeTwiceUptoSaid : Prop := scopeTwiceUptoRow.holds Tryd.pinned (OpenSpec.upto scopeTwiceSpec)

/-- 'avowlaw17.ScopeNames', WHERE WHAT IT READS IS OF BULK AT MOST 1048576: true; the input reads as it did. -/
def scopeNamesUptoRow : OpenClaim := { program := "ytdaimjlegjhidaadoor", sum := "19a1a0fc82cb4b963b3e06b4b849aaa98794e01b710a0fede2ba1769acc365bd", func := "avow/avowlaw17.ScopeNames", spec := "scopeNames", inPlace := ["internal/reflectlite.ValueOf", "(internal/reflectlite.Value).Type", "(internal/reflectlite.Value).IsNil", "internal/reflectlite.TypeOf", "(internal/reflectlite.Value).Elem", "(internal/reflectlite.Value).Set"], unfollowed := true, recurses := true, named := ["unicode/utf8.first", "unicode/utf8.acceptRanges", "errors.errorType"], apart := false, laid := [("unicode/utf8.acceptRanges", laid_unicode_utf8_acceptRanges), ("errors.errorType", laid_errors_errorType), ("unicode/utf8.first", laid_unicode_utf8_first)], narrowed := true }
def ScopeNamesUptoSaid : Prop := scopeNamesUptoRow.holds Tryd.pinned (OpenSpec.upto scopeNamesSpec)

/-- 'avowlaw18.KindsCheck', WHERE WHAT IT READS IS OF BULK AT MOST 1048576: true; the input reads as it did. -/
def kindsCheckUptoRow : OpenClaim := { program := "ytdaimjlegjhidaadoor", sum := "19a1a0fc82cb4b963b3e06b4b849aaa98794e01b710a0fede2ba1769acc365bd", func := "avow/avowlaw18.KindsCheck", spec := "kindsCheck", inPlace := ["internal/reflectlite.ValueOf", "(internal/reflectlite.Value).Type", "(internal/reflectlite.Value).IsNil", "internal/reflectlite.TypeOf", "(internal/reflectlite.Value).Elem", "(internal/reflectlite.Value).Set"], unfollowed := true, recurses := true, named := ["unicode/utf8.first", "unicode/utf8.acceptRanges", "errors.errorType"], apart := false, laid := [("unicode/utf8.acceptRanges", laid_unicode_utf8_acceptRanges), ("errors.errorType", laid_errors_errorType), ("unicode/utf8.first", laid_unicode_utf8_first)], narrowed := true }
def KindsCheckUptoSaid : Prop := kindsCheckUptoRow.holds Tryd.pinned (OpenSpec.upto kindsCheckSpec)

/-- 'avowlaw18.KindsForms', WHERE WHAT IT READS IS OF BULK AT MOST 1048576: true; the input reads as it did. -/
def kindsFormsUptoRow : OpenClaim := { program := "ytdaimjlegjhidaadoor", sum := "19a1a0fc82cb4b963b3e06b4b849aaa98794e01b710a0fede2ba1769acc365bd", func := "avow/avowlaw18.KindsForms", spec := "kindsForms", inPlace := ["internal/reflectlite.ValueOf", "(internal/reflectlite.Value).Type", "(internal/reflectlite.Value).IsNil", "internal/reflectlite.TypeOf", "(internal/reflectlite.Value).Elem", "(internal/reflectlite.Value).Set"], unfollowed := true, recurses := true, named := ["unicode/utf8.first", "unicode/utf8.acceptRanges", "errors.errorType"], apart := false, laid := [("unicode/utf8.acceptRanges", laid_unicode_utf8_acceptRanges), ("errors.errorType", laid_errors_errorType), ("unicode/utf8.first", laid_unicode_utf8_first)], narrowed := true }
def KindsFormsUptoSaid : Prop := kindsFormsUptoRow.holds Tryd.pinned (OpenSpec.upto kindsFormsSpec)

/-- 'avowlaw18.KindsMeasures', WHERE WHAT IT READS IS OF BULK AT MOST 1048576: true; the input reads as it did. -/
def kindsMeasuresUptoRow : OpenClaim := { program := "ytdaimjlegjhidaadoor", sum := "19a1a0fc82cb4b963b3e06b4b849aaa98794e01b710a0fede2ba1769acc365bd", func := "avow/avowlaw18.KindsMeasures", spec := "kindsMeasures", inPlace := ["internal/reflectlite.ValueOf", "(internal/reflectlite.Value).Type", "(internal/reflectlite.Value).IsNil", "internal/reflectlite.TypeOf", "(internal/reflectlite.Value).Elem", "(internal/reflectlite.Value).Set"], unfollowed := true, recurses := true, named := ["unicode/utf8.first", "unicode/utf8.acceptRanges", "errors.errorType"], apart := false, laid := [("unicode/utf8.acceptRanges", laid_unicode_utf8_acceptRanges), ("errors.errorType", laid_errors_errorType), ("unicode/utf8.first", laid_unicode_utf8_first)], narrowed := true }
def KindsMeasuresUptoSaid : Prop := kindsMeasuresUptoRow.holds Tryd.pinned (OpenSpec.upto kindsMeasuresSpec)

/-- 'avowlaw18.KindsEffects', WHERE WHAT IT READS IS OF BULK AT MOST 1048576: true; the input reads as it did. -/
def kindsEffectsUptoRow : OpenClaim := { program := "ytdaimjlegjhidaadoor", sum := "19a1a0fc82cb4b963b3e06b4b849aaa98794e01b710a0fede2ba1769acc365bd", func := "avow/avowlaw18.KindsEffects", spec := "kindsEffects", inPlace := ["internal/reflectlite.ValueOf", "(internal/reflectlite.Value).Type", "(internal/reflectlite.Value).IsNil", "internal/reflectlite.TypeOf", "(internal/reflectlite.Value).Elem", "(internal/reflectlite.Value).Set"], unfollowed := true, recurses := true, named := ["unicode/utf8.first", "unicode/utf8.acceptRanges", "errors.errorType"], apart := false, laid := [("unicode/utf8.acceptRanges", laid_unicode_utf8_acceptRanges), ("errors.errorType", laid_errors_errorType), ("unicode/utf8.first", laid_unicode_utf8_first)], narrowed := true }
def KindsEffectsUptoSaid : Prop := kindsEffectsUptoRow.holds Tryd.pinned (OpenSpec.upto kindsEffectsSpec)

/-- 'avowlaw18.KindsProducts', WHERE WHAT IT READS IS OF BULK AT MOST 1048576: true; the input reads as it did. -/
def kindsProductsUptoRow : OpenClaim := { program := "ytdaimjlegjhidaadoor", sum := "19a1a0fc82cb4b963b3e06b4b849aaa98794e01b710a0fede2ba1769acc365bd", func := "avow/avowlaw18.KindsProducts", spec := "kindsProducts", inPlace := ["internal/reflectlite.ValueOf", "(internal/reflectlite.Value).Type", "(internal/reflectlite.Value).IsNil", "internal/reflectlite.TypeOf", "(internal/reflectlite.Value).Elem", "(internal/reflectlite.Value).Set"], unfollowed := true, recurses := true, named := ["unicode/utf8.first", "unicode/utf8.acceptRanges", "errors.errorType"], apart := false, laid := [("unicode/utf8.acceptRanges", laid_unicode_utf8_acceptRanges), ("errors.errorType", laid_errors_errorType), ("unicode/utf8.first", laid_unicode_utf8_first)], narrowed := true }
def KindsProductsUptoSaid : Prop := kindsProductsUptoRow.holds Tryd.pinned (OpenSpec.upto kindsProductsSpec)

end Rows
end Go.Proofs.YtdaimjlegjhidaaDoor
