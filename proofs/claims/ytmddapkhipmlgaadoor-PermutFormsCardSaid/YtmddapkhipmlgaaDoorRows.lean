/-
  NARROWER THAN 'FOR EVERY INPUT', by the rows' own cells (each row's printed sentence says how): AddParts: laid · AddKeeps: laid · PermutKeeps: laid · AddSums: laid · PermutSolves: laid · AddAll: laid · PermutAll: laid · PermutForms: laid.
  DERIVED. THE GIVEN ROWS OF THIS SEAT. 8 by the template 'for every input the law returns true; each argument reads behind the call as it read before'; 0 by the template 'total and deterministic' (their statements: YtmddapkhipmlgaaDoorTotals.lean).
  GIVEN WITH THE SEED: the statements are not yours to turn. If you find one false, say at which input.
  Laid BY PROGRAM, IN A SANDBOX (cutbox-rows.mjs): the forced cells as the released guide's own fill.sh prints them over the translation 82bb7ee09a38acff… (all of the seat's roots in one cut). By AI agents, Wed Nov 11 2026. No macro, syntax, notation, axiom, sorry.
-/
import Derived.Test.YtmddapkhipmlgaaDoorChecked
import GoSem.Claim
import GoSem.ClaimJoined
import GoSem.ClaimMapViews
import Derived.JoinedTies
import Derived.KernelRfl
namespace Go.Proofs.YtmddapkhipmlgaaDoor
/- THE CELL 'sum', in the pinned program and in every row, IS THE sha256 OF THE DUMP (.gsa) THAT YtmddapkhipmlgaaDoorProg.lean LOADS. Nothing in Lean hashes anything: it is a label: what it is worth is what the hold of that sum in a sandbox is worth. -/
noncomputable def Tryd.pinned : Pinned := { name := "ytmddapkhipmlgaadoor", sum := "82bb7ee09a38acffb5113fcafabaa3a1e91f5346e82f7b7d443176023aca2b83", checked := Tryd.checked }
namespace Rows
def none {H : Type} : Left H := { results := [], args := [] }

/- WHAT THE LISTED PACKAGE-LEVEL VARIABLES READ AS WHEN THE CALL BEGINS. Each datum BY PROGRAM (the guide's laid-datum.mjs) off the statement by which the dump's own 'gosem.cut.vars' lays the variable. In a bare row this is a premise. The card (YtmddapkhipmlgaaDoorCards.lean) ties it to the program's text. -/
def laid_eden_api_BadRule {H : Type} : DataW H := .iface "*errors.errorString" (.ptr (.agg [.lit (.string [98, 97, 100, 32, 114, 117, 108, 101])]))
def laid_eden_api_BadWord {H : Type} : DataW H := .iface "*errors.errorString" (.ptr (.agg [.lit (.string [98, 97, 100, 32, 119, 111, 114, 100])]))
def laid_eden_api_BadArg {H : Type} : DataW H := .iface "*errors.errorString" (.ptr (.agg [.lit (.string [98, 97, 100, 32, 97, 114, 103, 117, 109, 101, 110, 116])]))
def laid_eden_api_TooBig {H : Type} : DataW H := .iface "*errors.errorString" (.ptr (.agg [.lit (.string [116, 111, 111, 32, 98, 105, 103])]))
def laid_eden_api_NoBudget {H : Type} : DataW H := .iface "*errors.errorString" (.ptr (.agg [.lit (.string [110, 111, 32, 98, 117, 100, 103, 101, 116])]))
def laid_eden_api_BadText {H : Type} : DataW H := .iface "*errors.errorString" (.ptr (.agg [.lit (.string [98, 97, 100, 32, 116, 101, 120, 116])]))
def laid_eden_api_BadPatch {H : Type} : DataW H := .iface "*errors.errorString" (.ptr (.agg [.lit (.string [98, 97, 100, 32, 112, 97, 116, 99, 104])]))
def laid_eden_api_BadCert {H : Type} : DataW H := .iface "*errors.errorString" (.ptr (.agg [.lit (.string [98, 97, 100, 32, 99, 101, 114, 116, 105, 102, 105, 99, 97, 116, 101])]))
def laid_eden_api_NoInverse {H : Type} : DataW H := .iface "*errors.errorString" (.ptr (.agg [.lit (.string [110, 111, 32, 105, 110, 118, 101, 114, 115, 101])]))
def laid_eden_api_BadLine {H : Type} : DataW H := .iface "*errors.errorString" (.ptr (.agg [.lit (.string [98, 97, 100, 32, 108, 105, 110, 101])]))
def laid_eden_api_BadState {H : Type} : DataW H := .iface "*errors.errorString" (.ptr (.agg [.lit (.string [98, 97, 100, 32, 115, 116, 97, 116, 101])]))
def laid_eden_api_Unknown {H : Type} : DataW H := .iface "*errors.errorString" (.ptr (.agg [.lit (.string [117, 110, 107, 110, 111, 119, 110])]))
def laid_errors_errorType {H : Type} : DataW H := .iface "internal/reflectlite.rtype" (.agg [.ptr (.lit (.string [101, 114, 114, 111, 114]))])

/-- 'edenlaw18.AddParts': WHATEVER THE INPUT: true; the input reads as it did. -/
def addPartsSpec : ChangeSpec := { name := "addParts", fn := fun _ => fun
  | [d] => { results := [.lit (.bool true)], args := [d] }
  | _ => none }
def addPartsRow : OpenClaim := { program := "ytmddapkhipmlgaadoor", sum := "82bb7ee09a38acffb5113fcafabaa3a1e91f5346e82f7b7d443176023aca2b83", func := "eden/edenlaw18.AddParts", spec := "addParts", unfollowed := true, recurses := true, named := ["eden/api.BadRule", "eden/api.BadWord", "eden/api.BadArg", "eden/api.TooBig", "eden/api.NoBudget", "eden/api.BadText", "eden/api.BadPatch", "eden/api.BadCert", "eden/api.NoInverse", "eden/api.BadLine", "eden/api.BadState", "eden/api.Unknown"], apart := false, laid := [("eden/api.BadRule", laid_eden_api_BadRule), ("eden/api.BadWord", laid_eden_api_BadWord), ("eden/api.BadArg", laid_eden_api_BadArg), ("eden/api.TooBig", laid_eden_api_TooBig), ("eden/api.NoBudget", laid_eden_api_NoBudget), ("eden/api.BadText", laid_eden_api_BadText), ("eden/api.BadPatch", laid_eden_api_BadPatch), ("eden/api.BadCert", laid_eden_api_BadCert), ("eden/api.NoInverse", laid_eden_api_NoInverse), ("eden/api.BadLine", laid_eden_api_BadLine), ("eden/api.BadState", laid_eden_api_BadState), ("eden/api.Unknown", laid_eden_api_Unknown)] }
def AddPartsSaid : Prop := addPartsRow.holds Tryd.pinned (OpenSpec.ofChange addPartsSpec)

/-- ITS FALSE NEIGHBOUR: 'it returns false'. Refute it at one input. -/
def addPartsWrong : ChangeSpec := { name := "addParts", fn := fun _ => fun
  | [d] => { results := [.lit (.bool false)], args := [d] }
  | _ => none }
def AddPartsWrongFalsely : Prop := addPartsRow.holds Tryd.pinned (OpenSpec.ofChange addPartsWrong)

/-- 'edenlaw18.AddKeeps': WHATEVER THE INPUT: true; the input reads as it did. -/
def addKeepsSpec : ChangeSpec := { name := "addKeeps", fn := fun _ => fun
  | [d1, d2, d3] => { results := [.lit (.bool true)], args := [d1, d2, d3] }
  | _ => none }
def addKeepsRow : OpenClaim := { program := "ytmddapkhipmlgaadoor", sum := "82bb7ee09a38acffb5113fcafabaa3a1e91f5346e82f7b7d443176023aca2b83", func := "eden/edenlaw18.AddKeeps", spec := "addKeeps", unfollowed := true, recurses := true, named := ["eden/api.BadRule", "eden/api.BadWord", "eden/api.BadArg", "eden/api.TooBig", "eden/api.NoBudget", "eden/api.BadText", "eden/api.BadPatch", "eden/api.BadCert", "eden/api.NoInverse", "eden/api.BadLine", "eden/api.BadState", "eden/api.Unknown"], apart := false, laid := [("eden/api.BadRule", laid_eden_api_BadRule), ("eden/api.BadWord", laid_eden_api_BadWord), ("eden/api.BadArg", laid_eden_api_BadArg), ("eden/api.TooBig", laid_eden_api_TooBig), ("eden/api.NoBudget", laid_eden_api_NoBudget), ("eden/api.BadText", laid_eden_api_BadText), ("eden/api.BadPatch", laid_eden_api_BadPatch), ("eden/api.BadCert", laid_eden_api_BadCert), ("eden/api.NoInverse", laid_eden_api_NoInverse), ("eden/api.BadLine", laid_eden_api_BadLine), ("eden/api.BadState", laid_eden_api_BadState), ("eden/api.Unknown", laid_eden_api_Unknown)] }
def AddKeepsSaid : Prop := addKeepsRow.holds Tryd.pinned (OpenSpec.ofChange addKeepsSpec)

/-- ITS FALSE NEIGHBOUR: 'it returns false'. Refute it at one input. -/
def addKeepsWrong : ChangeSpec := { name := "addKeeps", fn := fun _ => fun
  | [d1, d2, d3] => { results := [.lit (.bool false)], args := [d1, d2, d3] }
  | _ => none }
def AddKeepsWrongFalsely : Prop := addKeepsRow.holds Tryd.pinned (OpenSpec.ofChange addKeepsWrong)

/-- 'edenlaw19.PermutKeeps': WHATEVER THE INPUT: true; the input reads as it did. -/
def permutKeepsSpec : ChangeSpec := { name := "permutKeeps", fn := fun _ => fun
  | [d1, d2, d3] => { results := [.lit (.bool true)], args := [d1, d2, d3] }
  | _ => none }
def permutKeepsRow : OpenClaim := { program := "ytmddapkhipmlgaadoor", sum := "82bb7ee09a38acffb5113fcafabaa3a1e91f5346e82f7b7d443176023aca2b83", func := "eden/edenlaw19.PermutKeeps", spec := "permutKeeps", unfollowed := true, recurses := true, named := ["eden/api.BadRule", "eden/api.BadWord", "eden/api.BadArg", "eden/api.TooBig", "eden/api.NoBudget", "eden/api.BadText", "eden/api.BadPatch", "eden/api.BadCert", "eden/api.NoInverse", "eden/api.BadLine", "eden/api.BadState", "eden/api.Unknown"], apart := false, laid := [("eden/api.BadRule", laid_eden_api_BadRule), ("eden/api.BadWord", laid_eden_api_BadWord), ("eden/api.BadArg", laid_eden_api_BadArg), ("eden/api.TooBig", laid_eden_api_TooBig), ("eden/api.NoBudget", laid_eden_api_NoBudget), ("eden/api.BadText", laid_eden_api_BadText), ("eden/api.BadPatch", laid_eden_api_BadPatch), ("eden/api.BadCert", laid_eden_api_BadCert), ("eden/api.NoInverse", laid_eden_api_NoInverse), ("eden/api.BadLine", laid_eden_api_BadLine), ("eden/api.BadState", laid_eden_api_BadState), ("eden/api.Unknown", laid_eden_api_Unknown)] }
def PermutKeepsSaid : Prop := permutKeepsRow.holds Tryd.pinned (OpenSpec.ofChange permutKeepsSpec)

/-- ITS FALSE NEIGHBOUR: 'it returns false'. Refute it at one input. -/
def permutKeepsWrong : ChangeSpec := { name := "permutKeeps", fn := fun _ => fun
  | [d1, d2, d3] => { results := [.lit (.bool false)], args := [d1, d2, d3] }
  | _ => none }
def PermutKeepsWrongFalsely : Prop := permutKeepsRow.holds Tryd.pinned (OpenSpec.ofChange permutKeepsWrong)

/-- 'edenlaw18.AddSums': WHATEVER THE INPUT: true; the input reads as it did. -/
def addSumsSpec : ChangeSpec := { name := "addSums", fn := fun _ => fun
  | [d1, d2, d3, d4, d5] => { results := [.lit (.bool true)], args := [d1, d2, d3, d4, d5] }
  | _ => none }
def addSumsRow : OpenClaim := { program := "ytmddapkhipmlgaadoor", sum := "82bb7ee09a38acffb5113fcafabaa3a1e91f5346e82f7b7d443176023aca2b83", func := "eden/edenlaw18.AddSums", spec := "addSums", unfollowed := true, recurses := true, named := ["eden/api.BadRule", "eden/api.BadWord", "eden/api.BadArg", "eden/api.TooBig", "eden/api.NoBudget", "eden/api.BadText", "eden/api.BadPatch", "eden/api.BadCert", "eden/api.NoInverse", "eden/api.BadLine", "eden/api.BadState", "eden/api.Unknown"], apart := false, laid := [("eden/api.BadRule", laid_eden_api_BadRule), ("eden/api.BadWord", laid_eden_api_BadWord), ("eden/api.BadArg", laid_eden_api_BadArg), ("eden/api.TooBig", laid_eden_api_TooBig), ("eden/api.NoBudget", laid_eden_api_NoBudget), ("eden/api.BadText", laid_eden_api_BadText), ("eden/api.BadPatch", laid_eden_api_BadPatch), ("eden/api.BadCert", laid_eden_api_BadCert), ("eden/api.NoInverse", laid_eden_api_NoInverse), ("eden/api.BadLine", laid_eden_api_BadLine), ("eden/api.BadState", laid_eden_api_BadState), ("eden/api.Unknown", laid_eden_api_Unknown)] }
def AddSumsSaid : Prop := addSumsRow.holds Tryd.pinned (OpenSpec.ofChange addSumsSpec)

/-- ITS FALSE NEIGHBOUR: 'it returns false'. Refute it at one input. -/
def addSumsWrong : ChangeSpec := { name := "addSums", fn := fun _ => fun
  | [d1, d2, d3, d4, d5] => { results := [.lit (.bool false)], args := [d1, d2, d3, d4, d5] }
  | _ => none }
def AddSumsWrongFalsely : Prop := addSumsRow.holds Tryd.pinned (OpenSpec.ofChange addSumsWrong)

/-- 'edenlaw19.PermutSolves': WHATEVER THE INPUT: true; the input reads as it did. -/
def permutSolvesSpec : ChangeSpec := { name := "permutSolves", fn := fun _ => fun
  | [d1, d2, d3] => { results := [.lit (.bool true)], args := [d1, d2, d3] }
  | _ => none }
def permutSolvesRow : OpenClaim := { program := "ytmddapkhipmlgaadoor", sum := "82bb7ee09a38acffb5113fcafabaa3a1e91f5346e82f7b7d443176023aca2b83", func := "eden/edenlaw19.PermutSolves", spec := "permutSolves", unfollowed := true, recurses := true, named := ["eden/api.BadRule", "eden/api.BadWord", "eden/api.BadArg", "eden/api.TooBig", "eden/api.NoBudget", "eden/api.BadText", "eden/api.BadPatch", "eden/api.BadCert", "eden/api.NoInverse", "eden/api.BadLine", "eden/api.BadState", "eden/api.Unknown"], apart := false, laid := [("eden/api.BadRule", laid_eden_api_BadRule), ("eden/api.BadWord", laid_eden_api_BadWord), ("eden/api.BadArg", laid_eden_api_BadArg), ("eden/api.TooBig", laid_eden_api_TooBig), ("eden/api.NoBudget", laid_eden_api_NoBudget), ("eden/api.BadText", laid_eden_api_BadText), ("eden/api.BadPatch", laid_eden_api_BadPatch), ("eden/api.BadCert", laid_eden_api_BadCert), ("eden/api.NoInverse", laid_eden_api_NoInverse), ("eden/api.BadLine", laid_eden_api_BadLine), ("eden/api.BadState", laid_eden_api_BadState), ("eden/api.Unknown", laid_eden_api_Unknown)] }
def PermutSolvesSaid : Prop := permutSolvesRow.holds Tryd.pinned (OpenSpec.ofChange permutSolvesSpec)

/-- ITS FALSE NEIGHBOUR: 'it returns false'. Refute it at one input. -/
def permutSolvesWrong : ChangeSpec := { name := "permutSolves", fn := fun _ => fun
  | [d1, d2, d3] => { results := [.lit (.bool false)], args := [d1, d2, d3] }
  | _ => none }
def PermutSolvesWrongFalsely : Prop := permutSolvesRow.holds Tryd.pinned (OpenSpec.ofChange permutSolvesWrong)

/-- 'edenlaw18.AddAll': WHATEVER THE INPUT: true; the input reads as it did. -/
def addAllSpec : ChangeSpec := { name := "addAll", fn := fun _ => fun
  | [d1, d2, d3, d4, d5] => { results := [.lit (.bool true)], args := [d1, d2, d3, d4, d5] }
  | _ => none }
def addAllRow : OpenClaim := { program := "ytmddapkhipmlgaadoor", sum := "82bb7ee09a38acffb5113fcafabaa3a1e91f5346e82f7b7d443176023aca2b83", func := "eden/edenlaw18.AddAll", spec := "addAll", inPlace := ["internal/reflectlite.TypeOf", "internal/reflectlite.ValueOf", "(internal/reflectlite.Value).Type", "(internal/reflectlite.Value).IsNil", "(internal/reflectlite.Value).Elem", "(internal/reflectlite.Value).Set"], unfollowed := true, recurses := true, named := ["eden/api.BadRule", "eden/api.BadWord", "eden/api.BadArg", "eden/api.TooBig", "eden/api.NoBudget", "eden/api.BadText", "eden/api.BadPatch", "eden/api.BadCert", "eden/api.NoInverse", "eden/api.BadLine", "eden/api.BadState", "eden/api.Unknown", "errors.errorType"], apart := false, laid := [("errors.errorType", laid_errors_errorType), ("eden/api.BadRule", laid_eden_api_BadRule), ("eden/api.BadWord", laid_eden_api_BadWord), ("eden/api.BadArg", laid_eden_api_BadArg), ("eden/api.TooBig", laid_eden_api_TooBig), ("eden/api.NoBudget", laid_eden_api_NoBudget), ("eden/api.BadText", laid_eden_api_BadText), ("eden/api.BadPatch", laid_eden_api_BadPatch), ("eden/api.BadCert", laid_eden_api_BadCert), ("eden/api.NoInverse", laid_eden_api_NoInverse), ("eden/api.BadLine", laid_eden_api_BadLine), ("eden/api.BadState", laid_eden_api_BadState), ("eden/api.Unknown", laid_eden_api_Unknown)] }
def AddAllSaid : Prop := addAllRow.holds Tryd.pinned (OpenSpec.ofChange addAllSpec)

/-- ITS FALSE NEIGHBOUR: 'it returns false'. Refute it at one input. -/
def addAllWrong : ChangeSpec := { name := "addAll", fn := fun _ => fun
  | [d1, d2, d3, d4, d5] => { results := [.lit (.bool false)], args := [d1, d2, d3, d4, d5] }
  | _ => none }
def AddAllWrongFalsely : Prop := addAllRow.holds Tryd.pinned (OpenSpec.ofChange addAllWrong)

/-- 'edenlaw19.PermutAll': WHATEVER THE INPUT: true; the input reads as it did. -/
def permutAllSpec : ChangeSpec := { name := "permutAll", fn := fun _ => fun
  | [d1, d2, d3] => { results := [.lit (.bool true)], args := [d1, d2, d3] }
  | _ => none }
def permutAllRow : OpenClaim := { program := "ytmddapkhipmlgaadoor", sum := "82bb7ee09a38acffb5113fcafabaa3a1e91f5346e82f7b7d443176023aca2b83", func := "eden/edenlaw19.PermutAll", spec := "permutAll", inPlace := ["internal/reflectlite.TypeOf", "internal/reflectlite.ValueOf", "(internal/reflectlite.Value).Type", "(internal/reflectlite.Value).IsNil", "(internal/reflectlite.Value).Elem", "(internal/reflectlite.Value).Set"], unfollowed := true, recurses := true, named := ["eden/api.BadRule", "eden/api.BadWord", "eden/api.BadArg", "eden/api.TooBig", "eden/api.NoBudget", "eden/api.BadText", "eden/api.BadPatch", "eden/api.BadCert", "eden/api.NoInverse", "eden/api.BadLine", "eden/api.BadState", "eden/api.Unknown", "errors.errorType"], apart := false, laid := [("errors.errorType", laid_errors_errorType), ("eden/api.BadRule", laid_eden_api_BadRule), ("eden/api.BadWord", laid_eden_api_BadWord), ("eden/api.BadArg", laid_eden_api_BadArg), ("eden/api.TooBig", laid_eden_api_TooBig), ("eden/api.NoBudget", laid_eden_api_NoBudget), ("eden/api.BadText", laid_eden_api_BadText), ("eden/api.BadPatch", laid_eden_api_BadPatch), ("eden/api.BadCert", laid_eden_api_BadCert), ("eden/api.NoInverse", laid_eden_api_NoInverse), ("eden/api.BadLine", laid_eden_api_BadLine), ("eden/api.BadState", laid_eden_api_BadState), ("eden/api.Unknown", laid_eden_api_Unknown)] }
def PermutAllSaid : Prop := permutAllRow.holds Tryd.pinned (OpenSpec.ofChange permutAllSpec)

/-- ITS FALSE NEIGHBOUR: 'it returns false'. Refute it at one input. -/
def permutAllWrong : ChangeSpec := { name := "permutAll", fn := fun _ => fun
  | [d1, d2, d3] => { results := [.lit (.bool false)], args := [d1, d2, d3] }
  | _ => none }
def PermutAllWrongFalsely : Prop := permutAllRow.holds Tryd.pinned (OpenSpec.ofChange permutAllWrong)

/-- 'edenlaw19.PermutForms': WHATEVER THE INPUT: true; the input reads as it did. -/
def permutFormsSpec : ChangeSpec := { name := "permutForms", fn := fun _ => fun
  | [d1, d2, d3] => { results := [.lit (.bool true)], args := [d1, d2, d3] }
  | _ => none }
def permutFormsRow : OpenClaim := { program := "ytmddapkhipmlgaadoor", sum := "82bb7ee09a38acffb5113fcafabaa3a1e91f5346e82f7b7d443176023aca2b83", func := "eden/edenlaw19.PermutForms", spec := "permutForms", unfollowed := true, recurses := true, named := ["eden/api.BadRule", "eden/api.BadWord", "eden/api.BadArg", "eden/api.TooBig", "eden/api.NoBudget", "eden/api.BadText", "eden/api.BadPatch", "eden/api.BadCert", "eden/api.NoInverse", "eden/api.BadLine", "eden/api.BadState", "eden/api.Unknown"], apart := false, laid := [("eden/api.BadRule", laid_eden_api_BadRule), ("eden/api.BadWord", laid_eden_api_BadWord), ("eden/api.BadArg", laid_eden_api_BadArg), ("eden/api.TooBig", laid_eden_api_TooBig), ("eden/api.NoBudget", laid_eden_api_NoBudget), ("eden/api.BadText", laid_eden_api_BadText), ("eden/api.BadPatch", laid_eden_api_BadPatch), ("eden/api.BadCert", laid_eden_api_BadCert), ("eden/api.NoInverse", laid_eden_api_NoInverse), ("eden/api.BadLine", laid_eden_api_BadLine), ("eden/api.BadState", laid_eden_api_BadState), ("eden/api.Unknown", laid_eden_api_Unknown)] }
def PermutFormsSaid : Prop := permutFormsRow.holds Tryd.pinned (OpenSpec.ofChange permutFormsSpec)

/-- ITS FALSE NEIGHBOUR: 'it returns false'. Refute it at one input. -/
def permutFormsWrong : ChangeSpec := { name := "permutForms", fn := fun _ => fun
  | [d1, d2, d3] => { results := [.lit (.bool false)], args := [d1, d2, d3] }
  | _ => none }
def PermutFormsWrongFalsely : Prop := permutFormsRow.holds Tryd.pinned (OpenSpec.ofChange permutFormsWrong)

/- THE SECOND FORM. 'bulk': how many values and letters a reading holds, each counted each time it is reached (what is shared counts as often as it is met; a slice's spare places count too). A statement '..UptoSaid' is the law's where the arguments, and the package variables that the reading takes, are together of bulk at most 1048576: NARROWER than '..Said'. Prove '..Said' where nothing that the law and all that it calls make is longer than what came in: it says more and counts as full. Else prove '..UptoSaid'. A law counts once. -/
mutual
def uptoBulk {H : Type} : DataW H → Nat
  | .lit (.string bytes) => bytes.length + 1
  | .lit _ => 1
  | .nil => 1
  | .ptr d => uptoBulk d + 1
  | .slice elems spare => uptoBulkAll elems + uptoBulkAll spare + 1
  | .agg parts => uptoBulkAll parts + 1
  | .iface _ d => uptoBulk d + 1
  | .map entries => uptoBulkEntries entries + 1
  | .held _ => 1
def uptoBulkAll {H : Type} : List (DataW H) → Nat
  | [] => 0
  | d :: r => uptoBulk d + uptoBulkAll r
def uptoBulkEntries {H : Type} : List (Lit × DataW H) → Nat
  | [] => 0
  | x :: r => uptoBulkEntry x + uptoBulkEntries r
def uptoBulkEntry {H : Type} : Lit × DataW H → Nat
  | (.string bytes, d) => bytes.length + uptoBulk d + 1
  | (_, d) => uptoBulk d + 1
 end
def uptoSmall : (H : Type) → List (DataW H) → Bool := fun _ ds => decide (uptoBulkAll ds ≤ 1048576)
def OpenSpec.upto (s : _root_.Go.ChangeSpec) : _root_.Go.OpenSpec := { _root_.Go.OpenSpec.ofChange s with cond := some uptoSmall }

/-- 'edenlaw18.AddParts', WHERE WHAT IT READS IS OF BULK AT MOST 1048576: true; the input reads as it did. -/
def addPartsUptoRow : OpenClaim := { program := "ytmddapkhipmlgaadoor", sum := "82bb7ee09a38acffb5113fcafabaa3a1e91f5346e82f7b7d443176023aca2b83", func := "eden/edenlaw18.AddParts", spec := "addParts", unfollowed := true, recurses := true, named := ["eden/api.BadRule", "eden/api.BadWord", "eden/api.BadArg", "eden/api.TooBig", "eden/api.NoBudget", "eden/api.BadText", "eden/api.BadPatch", "eden/api.BadCert", "eden/api.NoInverse", "eden/api.BadLine", "eden/api.BadState", "eden/api.Unknown"], apart := false, laid := [("eden/api.BadRule", laid_eden_api_BadRule), ("eden/api.BadWord", laid_eden_api_BadWord), ("eden/api.BadArg", laid_eden_api_BadArg), ("eden/api.TooBig", laid_eden_api_TooBig), ("eden/api.NoBudget", laid_eden_api_NoBudget), ("eden/api.BadText", laid_eden_api_BadText), ("eden/api.BadPatch", laid_eden_api_BadPatch), ("eden/api.BadCert", laid_eden_api_BadCert), ("eden/api.NoInverse", laid_eden_api_NoInverse), ("eden/api.BadLine", laid_eden_api_BadLine), ("eden/api.BadState", laid_eden_api_BadState), ("eden/api.Unknown", laid_eden_api_Unknown)], narrowed := true }
def AddPartsUptoSaid : Prop := addPartsUptoRow.holds Tryd.pinned (OpenSpec.upto addPartsSpec)

/-- 'edenlaw18.AddKeeps', WHERE WHAT IT READS IS OF BULK AT MOST 1048576: true; the input reads as it did. -/
def addKeepsUptoRow : OpenClaim := { program := "ytmddapkhipmlgaadoor", sum := "82bb7ee09a38acffb5113fcafabaa3a1e91f5346e82f7b7d443176023aca2b83", func := "eden/edenlaw18.AddKeeps", spec := "addKeeps", unfollowed := true, recurses := true, named := ["eden/api.BadRule", "eden/api.BadWord", "eden/api.BadArg", "eden/api.TooBig", "eden/api.NoBudget", "eden/api.BadText", "eden/api.BadPatch", "eden/api.BadCert", "eden/api.NoInverse", "eden/api.BadLine", "eden/api.BadState", "eden/api.Unknown"], apart := false, laid := [("eden/api.BadRule", laid_eden_api_BadRule), ("eden/api.BadWord", laid_eden_api_BadWord), ("eden/api.BadArg", laid_eden_api_BadArg), ("eden/api.TooBig", laid_eden_api_TooBig), ("eden/api.NoBudget", laid_eden_api_NoBudget), ("eden/api.BadText", laid_eden_api_BadText), ("eden/api.BadPatch", laid_eden_api_BadPatch), ("eden/api.BadCert", laid_eden_api_BadCert), ("eden/api.NoInverse", laid_eden_api_NoInverse), ("eden/api.BadLine", laid_eden_api_BadLine), ("eden/api.BadState", laid_eden_api_BadState), ("eden/api.Unknown", laid_eden_api_Unknown)], narrowed := true }
def AddKeepsUptoSaid : Prop := addKeepsUptoRow.holds Tryd.pinned (OpenSpec.upto addKeepsSpec)

/-- 'edenlaw19.PermutKeeps', WHERE WHAT IT READS IS OF BULK AT MOST 1048576: true; the input reads as it did. -/
def permutKeepsUptoRow : OpenClaim := { program := "ytmddapkhipmlgaadoor", sum := "82bb7ee09a38acffb5113fcafabaa3a1e91f5346e82f7b7d443176023aca2b83", func := "eden/edenlaw19.PermutKeeps", spec := "permutKeeps", unfollowed := true, recurses := true, named := ["eden/api.BadRule", "eden/api.BadWord", "eden/api.BadArg", "eden/api.TooBig", "eden/api.NoBudget", "eden/api.BadText", "eden/api.BadPatch", "eden/api.BadCert", "eden/api.NoInverse", "eden/api.BadLine", "eden/api.BadState", "eden/api.Unknown"], apart := false, laid := [("eden/api.BadRule", laid_eden_api_BadRule), ("eden/api.BadWord", laid_eden_api_BadWord), ("eden/api.BadArg", laid_eden_api_BadArg), ("eden/api.TooBig", laid_eden_api_TooBig), ("eden/api.NoBudget", laid_eden_api_NoBudget), ("eden/api.BadText", laid_eden_api_BadText), ("eden/api.BadPatch", laid_eden_api_BadPatch), ("eden/api.BadCert", laid_eden_api_BadCert), ("eden/api.NoInverse", laid_eden_api_NoInverse), ("eden/api.BadLine", laid_eden_api_BadLine), ("eden/api.BadState", laid_eden_api_BadState), ("eden/api.Unknown", laid_eden_api_Unknown)], narrowed := true }
def PermutKeepsUptoSaid : Prop := permutKeepsUptoRow.holds Tryd.pinned (OpenSpec.upto permutKeepsSpec)

/-- 'edenlaw18.AddSums', WHERE WHAT IT READS IS OF BULK AT MOST 1048576: true; the input reads as it did. -/
def addSumsUptoRow : OpenClaim := { program := "ytmddapkhipmlgaadoor", sum := "82bb7ee09a38acffb5113fcafabaa3a1e91f5346e82f7b7d443176023aca2b83", func := "eden/edenlaw18.AddSums", spec := "addSums", unfollowed := true, recurses := true, named := ["eden/api.BadRule", "eden/api.BadWord", "eden/api.BadArg", "eden/api.TooBig", "eden/api.NoBudget", "eden/api.BadText", "eden/api.BadPatch", "eden/api.BadCert", "eden/api.NoInverse", "eden/api.BadLine", "eden/api.BadState", "eden/api.Unknown"], apart := false, laid := [("eden/api.BadRule", laid_eden_api_BadRule), ("eden/api.BadWord", laid_eden_api_BadWord), ("eden/api.BadArg", laid_eden_api_BadArg), ("eden/api.TooBig", laid_eden_api_TooBig), ("eden/api.NoBudget", laid_eden_api_NoBudget), ("eden/api.BadText", laid_eden_api_BadText), ("eden/api.BadPatch", laid_eden_api_BadPatch), ("eden/api.BadCert", laid_eden_api_BadCert), ("eden/api.NoInverse", laid_eden_api_NoInverse), ("eden/api.BadLine", laid_eden_api_BadLine), ("eden/api.BadState", laid_eden_api_BadState), ("eden/api.Unknown", laid_eden_api_Unknown)], narrowed := true }
def AddSumsUptoSaid : Prop := addSumsUptoRow.holds Tryd.pinned (OpenSpec.upto addSumsSpec)

/-- 'edenlaw19.PermutSolves', WHERE WHAT IT READS IS OF BULK AT MOST 1048576: true; the input reads as it did. -/
def permutSolvesUptoRow : OpenClaim := { program := "ytmddapkhipmlgaadoor", sum := "82bb7ee09a38acffb5113fcafabaa3a1e91f5346e82f7b7d443176023aca2b83", func := "eden/edenlaw19.PermutSolves", spec := "permutSolves", unfollowed := true, recurses := true, named := ["eden/api.BadRule", "eden/api.BadWord", "eden/api.BadArg", "eden/api.TooBig", "eden/api.NoBudget", "eden/api.BadText", "eden/api.BadPatch", "eden/api.BadCert", "eden/api.NoInverse", "eden/api.BadLine", "eden/api.BadState", "eden/api.Unknown"], apart := false, laid := [("eden/api.BadRule", laid_eden_api_BadRule), ("eden/api.BadWord", laid_eden_api_BadWord), ("eden/api.BadArg", laid_eden_api_BadArg), ("eden/api.TooBig", laid_eden_api_TooBig), ("eden/api.NoBudget", laid_eden_api_NoBudget), ("eden/api.BadText", laid_eden_api_BadText), ("eden/api.BadPatch", laid_eden_api_BadPatch), ("eden/api.BadCert", laid_eden_api_BadCert), ("eden/api.NoInverse", laid_eden_api_NoInverse), ("eden/api.BadLine", laid_eden_api_BadLine), ("eden/api.BadState", laid_eden_api_BadState), ("eden/api.Unknown", laid_eden_api_Unknown)], narrowed := true }
def PermutSolvesUptoSaid : Prop := permutSolvesUptoRow.holds Tryd.pinned (OpenSpec.upto permutSolvesSpec)

/-- 'edenlaw18.AddAll', WHERE WHAT IT READS IS OF BULK AT MOST 1048576: true; the input reads as it did. -/
def addAllUptoRow : OpenClaim := { program := "ytmddapkhipmlgaadoor", sum := "82bb7ee09a38acffb5113fcafabaa3a1e91f5346e82f7b7d443176023aca2b83", func := "eden/edenlaw18.AddAll", spec := "addAll", inPlace := ["internal/reflectlite.TypeOf", "internal/reflectlite.ValueOf", "(internal/reflectlite.Value).Type", "(internal/reflectlite.Value).IsNil", "(internal/reflectlite.Value).Elem", "(internal/reflectlite.Value).Set"], unfollowed := true, recurses := true, named := ["eden/api.BadRule", "eden/api.BadWord", "eden/api.BadArg", "eden/api.TooBig", "eden/api.NoBudget", "eden/api.BadText", "eden/api.BadPatch", "eden/api.BadCert", "eden/api.NoInverse", "eden/api.BadLine", "eden/api.BadState", "eden/api.Unknown", "errors.errorType"], apart := false, laid := [("errors.errorType", laid_errors_errorType), ("eden/api.BadRule", laid_eden_api_BadRule), ("eden/api.BadWord", laid_eden_api_BadWord), ("eden/api.BadArg", laid_eden_api_BadArg), ("eden/api.TooBig", laid_eden_api_TooBig), ("eden/api.NoBudget", laid_eden_api_NoBudget), ("eden/api.BadText", laid_eden_api_BadText), ("eden/api.BadPatch", laid_eden_api_BadPatch), ("eden/api.BadCert", laid_eden_api_BadCert), ("eden/api.NoInverse", laid_eden_api_NoInverse), ("eden/api.BadLine", laid_eden_api_BadLine), ("eden/api.BadState", laid_eden_api_BadState), ("eden/api.Unknown", laid_eden_api_Unknown)], narrowed := true }
def AddAllUptoSaid : Prop := addAllUptoRow.holds Tryd.pinned (OpenSpec.upto addAllSpec)

/-- 'edenlaw19.PermutAll', WHERE WHAT IT READS IS OF BULK AT MOST 1048576: true; the input reads as it did. -/
def permutAllUptoRow : OpenClaim := { program := "ytmddapkhipmlgaadoor", sum := "82bb7ee09a38acffb5113fcafabaa3a1e91f5346e82f7b7d443176023aca2b83", func := "eden/edenlaw19.PermutAll", spec := "permutAll", inPlace := ["internal/reflectlite.TypeOf", "internal/reflectlite.ValueOf", "(internal/reflectlite.Value).Type", "(internal/reflectlite.Value).IsNil", "(internal/reflectlite.Value).Elem", "(internal/reflectlite.Value).Set"], unfollowed := true, recurses := true, named := ["eden/api.BadRule", "eden/api.BadWord", "eden/api.BadArg", "eden/api.TooBig", "eden/api.NoBudget", "eden/api.BadText", "eden/api.BadPatch", "eden/api.BadCert", "eden/api.NoInverse", "eden/api.BadLine", "eden/api.BadState", "eden/api.Unknown", "errors.errorType"], apart := false, laid := [("errors.errorType", laid_errors_errorType), ("eden/api.BadRule", laid_eden_api_BadRule), ("eden/api.BadWord", laid_eden_api_BadWord), ("eden/api.BadArg", laid_eden_api_BadArg), ("eden/api.TooBig", laid_eden_api_TooBig), ("eden/api.NoBudget", laid_eden_api_NoBudget), ("eden/api.BadText", laid_eden_api_BadText), ("eden/api.BadPatch", laid_eden_api_BadPatch), ("eden/api.BadCert", laid_eden_api_BadCert), ("eden/api.NoInverse", laid_eden_api_NoInverse), ("eden/api.BadLine", laid_eden_api_BadLine), ("eden/api.BadState", laid_eden_api_BadState), ("eden/api.Unknown", laid_eden_api_Unknown)], narrowed := true }
def PermutAllUptoSaid : Prop := permutAllUptoRow.holds Tryd.pinned (OpenSpec.upto permutAllSpec)

/-- 'edenlaw19.PermutForms', WHERE WHAT IT READS IS OF BULK AT MOST 1048576: true; the input reads as it did. -/
def permutFormsUptoRow : OpenClaim := { program := "ytmddapkhipmlgaadoor", sum := "82bb7ee09a38acffb5113fcafabaa3a1e91f5346e82f7b7d443176023aca2b83", func := "eden/edenlaw19.PermutForms", spec := "permutForms", unfollowed := true, recurses := true, named := ["eden/api.BadRule", "eden/api.BadWord", "eden/api.BadArg", "eden/api.TooBig", "eden/api.NoBudget", "eden/api.BadText", "eden/api.BadPatch", "eden/api.BadCert", "eden/api.NoInverse", "eden/api.BadLine", "eden/api.BadState", "eden/api.Unknown"], apart := false, laid := [("eden/api.BadRule", laid_eden_api_BadRule), ("eden/api.BadWord", laid_eden_api_BadWord), ("eden/api.BadArg", laid_eden_api_BadArg), ("eden/api.TooBig", laid_eden_api_TooBig), ("eden/api.NoBudget", laid_eden_api_NoBudget), ("eden/api.BadText", laid_eden_api_BadText), ("eden/api.BadPatch", laid_eden_api_BadPatch), ("eden/api.BadCert", laid_eden_api_BadCert), ("eden/api.NoInverse", laid_eden_api_NoInverse), ("eden/api.BadLine", laid_eden_api_BadLine), ("eden/api.BadState", laid_eden_api_BadState), ("eden/api.Unknown", laid_eden_api_Unknown)], narrowed := true }
def PermutFormsUptoSaid : Prop := permutFormsUptoRow.holds Tryd.pinned (OpenSpec.upto permutFormsSpec)

end Rows
end Go.Proofs.YtmddapkhipmlgaaDoor
