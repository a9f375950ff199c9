/-
  NARROWER THAN 'FOR EVERY INPUT', by the rows' own cells (each row's printed sentence says how): PermutOntos: laid · AddOntos: laid · LabKeeps: laid · LabReports: laid · LabBack: laid · LabForms: laid · LabKnown: laid · LabTexts: laid.
  DERIVED. THE GIVEN ROWS OF THIS SEAT. 8 by the template 'for every input the law returns true; each argument reads behind the call as it read before'; 0 by the template 'total and deterministic' (their statements: YtncpnaoabkjegaaGreatDoorTotals.lean).
  GIVEN WITH THE SEED: the statements are not yours to turn. If you find one false, say at which input.
  Laid BY PROGRAM, IN A SANDBOX (cutbox-rows.mjs): the forced cells as the released guide's own fill.sh prints them over the translation a5e998aef09f851a… (all of the seat's roots in one cut). By AI agents, Wed Nov 11 2026. No macro, syntax, notation, axiom, sorry.
-/
import Derived.Test.YtncpnaoabkjegaaGreatDoorChecked
import GoSem.Claim
import GoSem.ClaimJoined
import GoSem.ClaimMapViews
import Derived.JoinedTies
import Derived.KernelRfl
namespace Go.Proofs.YtncpnaoabkjegaaGreatDoor
/- THE CELL 'sum', in the pinned program and in every row, IS THE sha256 OF THE DUMP (.gsa) THAT YtncpnaoabkjegaaGreatDoorProg.lean LOADS. Nothing in Lean hashes anything: it is a label: what it is worth is what the hold of that sum in a sandbox is worth. -/
noncomputable def Tryz.pinned : Pinned := { name := "ytncpnaoabkjegaagreatdoor", sum := "a5e998aef09f851ade336aa654732ec59ce7bea86a9cfd1b4537a312fab6b902", checked := Tryz.checked }
namespace Rows
def none {H : Type} : Left H := { results := [], args := [] }

/- WHAT THE LISTED PACKAGE-LEVEL VARIABLES READ AS WHEN THE CALL BEGINS. Each datum BY PROGRAM (the guide's laid-datum.mjs) off the statement by which the dump's own 'gosem.cut.vars' lays the variable. In a bare row this is a premise. The card (YtncpnaoabkjegaaGreatDoorCards.lean) ties it to the program's text. -/
def laid_errors_errorType {H : Type} : DataW H := .iface "internal/reflectlite.rtype" (.agg [.ptr (.lit (.string [101, 114, 114, 111, 114]))])
def laid_eden_api_BadRule {H : Type} : DataW H := .iface "*errors.errorString" (.ptr (.agg [.lit (.string [98, 97, 100, 32, 114, 117, 108, 101])]))
def laid_eden_api_BadWord {H : Type} : DataW H := .iface "*errors.errorString" (.ptr (.agg [.lit (.string [98, 97, 100, 32, 119, 111, 114, 100])]))
def laid_eden_api_BadArg {H : Type} : DataW H := .iface "*errors.errorString" (.ptr (.agg [.lit (.string [98, 97, 100, 32, 97, 114, 103, 117, 109, 101, 110, 116])]))
def laid_eden_api_TooBig {H : Type} : DataW H := .iface "*errors.errorString" (.ptr (.agg [.lit (.string [116, 111, 111, 32, 98, 105, 103])]))
def laid_eden_api_NoBudget {H : Type} : DataW H := .iface "*errors.errorString" (.ptr (.agg [.lit (.string [110, 111, 32, 98, 117, 100, 103, 101, 116])]))
def laid_eden_api_BadText {H : Type} : DataW H := .iface "*errors.errorString" (.ptr (.agg [.lit (.string [98, 97, 100, 32, 116, 101, 120, 116])]))
def laid_eden_api_BadPatch {H : Type} : DataW H := .iface "*errors.errorString" (.ptr (.agg [.lit (.string [98, 97, 100, 32, 112, 97, 116, 99, 104])]))
def laid_eden_api_BadCert {H : Type} : DataW H := .iface "*errors.errorString" (.ptr (.agg [.lit (.string [98, 97, 100, 32, 99, 101, 114, 116, 105, 102, 105, 99, 97, 116, 101])]))
def laid_eden_api_NoInverse {H : Type} : DataW H := .iface "*errors.errorString" (.ptr (.agg [.lit (.string [110, 111, 32, 105, 110, 118, 101, 114, 115, 101])]))
def laid_eden_api_BadLine {H : Type} : DataW H := .iface "*errors.errorString" (.ptr (.agg [.lit (.string [98, 97, 100, 32, 108, 105, 110, 101])]))
def laid_eden_api_BadState {H : Type} : DataW H := .iface "*errors.errorString" (.ptr (.agg [.lit (.string [98, 97, 100, 32, 115, 116, 97, 116, 101])]))
def laid_eden_api_Unknown {H : Type} : DataW H := .iface "*errors.errorString" (.ptr (.agg [.lit (.string [117, 110, 107, 110, 111, 119, 110])]))
def laid_math_bits_deBruijn32tab {H : Type} : DataW H := .agg [.lit (.int .u8 0), .lit (.int .u8 1), .lit (.int .u8 28), .lit (.int .u8 2), .lit (.int .u8 29), .lit (.int .u8 14), .lit (.int .u8 24), .lit (.int .u8 3), .lit (.int .u8 30), .lit (.int .u8 22), .lit (.int .u8 20), .lit (.int .u8 15), .lit (.int .u8 25), .lit (.int .u8 17), .lit (.int .u8 4), .lit (.int .u8 8), .lit (.int .u8 31), .lit (.int .u8 27), .lit (.int .u8 13), .lit (.int .u8 23), .lit (.int .u8 21), .lit (.int .u8 19), .lit (.int .u8 16), .lit (.int .u8 7), .lit (.int .u8 26), .lit (.int .u8 12), .lit (.int .u8 18), .lit (.int .u8 6), .lit (.int .u8 11), .lit (.int .u8 5), .lit (.int .u8 10), .lit (.int .u8 9)]
def laid_math_bits_deBruijn64tab {H : Type} : DataW H := .agg [.lit (.int .u8 0), .lit (.int .u8 1), .lit (.int .u8 56), .lit (.int .u8 2), .lit (.int .u8 57), .lit (.int .u8 49), .lit (.int .u8 28), .lit (.int .u8 3), .lit (.int .u8 61), .lit (.int .u8 58), .lit (.int .u8 42), .lit (.int .u8 50), .lit (.int .u8 38), .lit (.int .u8 29), .lit (.int .u8 17), .lit (.int .u8 4), .lit (.int .u8 62), .lit (.int .u8 47), .lit (.int .u8 59), .lit (.int .u8 36), .lit (.int .u8 45), .lit (.int .u8 43), .lit (.int .u8 51), .lit (.int .u8 22), .lit (.int .u8 53), .lit (.int .u8 39), .lit (.int .u8 33), .lit (.int .u8 30), .lit (.int .u8 24), .lit (.int .u8 18), .lit (.int .u8 12), .lit (.int .u8 5), .lit (.int .u8 63), .lit (.int .u8 55), .lit (.int .u8 48), .lit (.int .u8 27), .lit (.int .u8 60), .lit (.int .u8 41), .lit (.int .u8 37), .lit (.int .u8 16), .lit (.int .u8 46), .lit (.int .u8 35), .lit (.int .u8 44), .lit (.int .u8 21), .lit (.int .u8 52), .lit (.int .u8 32), .lit (.int .u8 23), .lit (.int .u8 11), .lit (.int .u8 54), .lit (.int .u8 26), .lit (.int .u8 40), .lit (.int .u8 15), .lit (.int .u8 34), .lit (.int .u8 20), .lit (.int .u8 31), .lit (.int .u8 10), .lit (.int .u8 25), .lit (.int .u8 14), .lit (.int .u8 19), .lit (.int .u8 9), .lit (.int .u8 13), .lit (.int .u8 8), .lit (.int .u8 7), .lit (.int .u8 6)]
def laid_internal_strconv_uint64pow10 {H : Type} : DataW H := .agg [.lit (.int .u64 1), .lit (.int .u64 10), .lit (.int .u64 100), .lit (.int .u64 1000), .lit (.int .u64 10000), .lit (.int .u64 100000), .lit (.int .u64 1000000), .lit (.int .u64 10000000), .lit (.int .u64 100000000), .lit (.int .u64 1000000000), .lit (.int .u64 10000000000), .lit (.int .u64 100000000000), .lit (.int .u64 1000000000000), .lit (.int .u64 10000000000000), .lit (.int .u64 100000000000000), .lit (.int .u64 1000000000000000), .lit (.int .u64 10000000000000000), .lit (.int .u64 100000000000000000), .lit (.int .u64 1000000000000000000), .lit (.int .u64 10000000000000000000)]

/-- 'edenlaw19.PermutOntos': WHATEVER THE INPUT: true; the input reads as it did. -/
def permutOntosSpec : ChangeSpec := { name := "permutOntos", fn := fun _ => fun
  | [d] => { results := [.lit (.bool true)], args := [d] }
  | _ => none }
def permutOntosRow : OpenClaim := { program := "ytncpnaoabkjegaagreatdoor", sum := "a5e998aef09f851ade336aa654732ec59ce7bea86a9cfd1b4537a312fab6b902", func := "eden/edenlaw19.PermutOntos", spec := "permutOntos", inPlace := ["internal/reflectlite.ValueOf", "(internal/reflectlite.Value).Type", "(internal/reflectlite.Value).IsNil", "internal/reflectlite.TypeOf", "(internal/reflectlite.Value).Elem", "(internal/reflectlite.Value).Set"], unfollowed := true, recurses := true, named := ["eden/api.BadRule", "eden/api.BadWord", "eden/api.BadArg", "eden/api.TooBig", "eden/api.NoBudget", "eden/api.BadText", "eden/api.BadPatch", "eden/api.BadCert", "eden/api.NoInverse", "eden/api.BadLine", "eden/api.BadState", "eden/api.Unknown", "errors.errorType"], apart := false, laid := [("errors.errorType", laid_errors_errorType), ("eden/api.BadRule", laid_eden_api_BadRule), ("eden/api.BadWord", laid_eden_api_BadWord), ("eden/api.BadArg", laid_eden_api_BadArg), ("eden/api.TooBig", laid_eden_api_TooBig), ("eden/api.NoBudget", laid_eden_api_NoBudget), ("eden/api.BadText", laid_eden_api_BadText), ("eden/api.BadPatch", laid_eden_api_BadPatch), ("eden/api.BadCert", laid_eden_api_BadCert), ("eden/api.NoInverse", laid_eden_api_NoInverse), ("eden/api.BadLine", laid_eden_api_BadLine), ("eden/api.BadState", laid_eden_api_BadState), ("eden/api.Unknown", laid_eden_api_Unknown)] }
def PermutOntosSaid : Prop := permutOntosRow.holds Tryz.pinned (OpenSpec.ofChange permutOntosSpec)

/-- ITS FALSE NEIGHBOUR: 'it returns false'. Refute it at one input. -/
def permutOntosWrong : ChangeSpec := { name := "permutOntos", fn := fun _ => fun
  | [d] => { results := [.lit (.bool false)], args := [d] }
  | _ => none }
def PermutOntosWrongFalsely : Prop := permutOntosRow.holds Tryz.pinned (OpenSpec.ofChange permutOntosWrong)

/-- 'edenlaw18.AddOntos': WHATEVER THE INPUT: true; the input reads as it did. -/
def addOntosSpec : ChangeSpec := { name := "addOntos", fn := fun _ => fun
  | [d1, d2, d3] => { results := [.lit (.bool true)], args := [d1, d2, d3] }
  | _ => none }
def addOntosRow : OpenClaim := { program := "ytncpnaoabkjegaagreatdoor", sum := "a5e998aef09f851ade336aa654732ec59ce7bea86a9cfd1b4537a312fab6b902", func := "eden/edenlaw18.AddOntos", spec := "addOntos", inPlace := ["internal/reflectlite.ValueOf", "(internal/reflectlite.Value).Type", "(internal/reflectlite.Value).IsNil", "internal/reflectlite.TypeOf", "(internal/reflectlite.Value).Elem", "(internal/reflectlite.Value).Set"], unfollowed := true, recurses := true, named := ["eden/api.BadRule", "eden/api.BadWord", "eden/api.BadArg", "eden/api.TooBig", "eden/api.NoBudget", "eden/api.BadText", "eden/api.BadPatch", "eden/api.BadCert", "eden/api.NoInverse", "eden/api.BadLine", "eden/api.BadState", "eden/api.Unknown", "errors.errorType"], apart := false, laid := [("errors.errorType", laid_errors_errorType), ("eden/api.BadRule", laid_eden_api_BadRule), ("eden/api.BadWord", laid_eden_api_BadWord), ("eden/api.BadArg", laid_eden_api_BadArg), ("eden/api.TooBig", laid_eden_api_TooBig), ("eden/api.NoBudget", laid_eden_api_NoBudget), ("eden/api.BadText", laid_eden_api_BadText), ("eden/api.BadPatch", laid_eden_api_BadPatch), ("eden/api.BadCert", laid_eden_api_BadCert), ("eden/api.NoInverse", laid_eden_api_NoInverse), ("eden/api.BadLine", laid_eden_api_BadLine), ("eden/api.BadState", laid_eden_api_BadState), ("eden/api.Unknown", laid_eden_api_Unknown)] }
def AddOntosSaid : Prop := addOntosRow.holds Tryz.pinned (OpenSpec.ofChange addOntosSpec)

/-- ITS FALSE NEIGHBOUR: 'it returns false'. Refute it at one input. -/
def addOntosWrong : ChangeSpec := { name := "addOntos", fn := fun _ => fun
  | [d1, d2, d3] => { results := [.lit (.bool false)], args := [d1, d2, d3] }
  | _ => none }
def AddOntosWrongFalsely : Prop := addOntosRow.holds Tryz.pinned (OpenSpec.ofChange addOntosWrong)

/-- 'edenlaw26.LabKeeps': WHATEVER THE INPUT: true; the input reads as it did. -/
def labKeepsSpec : ChangeSpec := { name := "labKeeps", fn := fun _ => fun
  | [d] => { results := [.lit (.bool true)], args := [d] }
  | _ => none }
def labKeepsRow : OpenClaim := { program := "ytncpnaoabkjegaagreatdoor", sum := "a5e998aef09f851ade336aa654732ec59ce7bea86a9cfd1b4537a312fab6b902", func := "eden/edenlaw26.LabKeeps", spec := "labKeeps", inPlace := ["internal/reflectlite.ValueOf", "(internal/reflectlite.Value).Type", "(internal/reflectlite.Value).IsNil", "internal/reflectlite.TypeOf", "(internal/reflectlite.Value).Elem", "(internal/reflectlite.Value).Set"], unfollowed := true, recurses := true, named := ["eden/api.TooBig", "eden/api.NoInverse", "eden/api.BadRule", "eden/api.BadWord", "eden/api.BadArg", "eden/api.NoBudget", "eden/api.BadText", "eden/api.BadPatch", "eden/api.BadCert", "eden/api.BadLine", "eden/api.BadState", "eden/api.Unknown", "errors.errorType"], apart := false, laid := [("errors.errorType", laid_errors_errorType), ("eden/api.BadRule", laid_eden_api_BadRule), ("eden/api.BadWord", laid_eden_api_BadWord), ("eden/api.BadArg", laid_eden_api_BadArg), ("eden/api.TooBig", laid_eden_api_TooBig), ("eden/api.NoBudget", laid_eden_api_NoBudget), ("eden/api.BadText", laid_eden_api_BadText), ("eden/api.BadPatch", laid_eden_api_BadPatch), ("eden/api.BadCert", laid_eden_api_BadCert), ("eden/api.NoInverse", laid_eden_api_NoInverse), ("eden/api.BadLine", laid_eden_api_BadLine), ("eden/api.BadState", laid_eden_api_BadState), ("eden/api.Unknown", laid_eden_api_Unknown)] }
def LabKeepsSaid : Prop := labKeepsRow.holds Tryz.pinned (OpenSpec.ofChange labKeepsSpec)

/-- ITS FALSE NEIGHBOUR: 'it returns false'. Refute it at one input. -/
def labKeepsWrong : ChangeSpec := { name := "labKeeps", fn := fun _ => fun
  | [d] => { results := [.lit (.bool false)], args := [d] }
  | _ => none }
def LabKeepsWrongFalsely : Prop := labKeepsRow.holds Tryz.pinned (OpenSpec.ofChange labKeepsWrong)

/-- 'edenlaw26.LabReports': WHATEVER THE INPUT: true; the input reads as it did. -/
def labReportsSpec : ChangeSpec := { name := "labReports", fn := fun _ => fun
  | [d] => { results := [.lit (.bool true)], args := [d] }
  | _ => none }
def labReportsRow : OpenClaim := { program := "ytncpnaoabkjegaagreatdoor", sum := "a5e998aef09f851ade336aa654732ec59ce7bea86a9cfd1b4537a312fab6b902", func := "eden/edenlaw26.LabReports", spec := "labReports", inPlace := ["internal/reflectlite.ValueOf", "(internal/reflectlite.Value).Type", "(internal/reflectlite.Value).IsNil", "internal/reflectlite.TypeOf", "(internal/reflectlite.Value).Elem", "(internal/reflectlite.Value).Set"], unfollowed := true, recurses := true, named := ["eden/api.TooBig", "eden/api.NoInverse", "eden/api.BadRule", "eden/api.BadWord", "eden/api.BadArg", "eden/api.NoBudget", "eden/api.BadText", "eden/api.BadPatch", "eden/api.BadCert", "eden/api.BadLine", "eden/api.BadState", "eden/api.Unknown", "errors.errorType"], apart := false, laid := [("errors.errorType", laid_errors_errorType), ("eden/api.BadRule", laid_eden_api_BadRule), ("eden/api.BadWord", laid_eden_api_BadWord), ("eden/api.BadArg", laid_eden_api_BadArg), ("eden/api.TooBig", laid_eden_api_TooBig), ("eden/api.NoBudget", laid_eden_api_NoBudget), ("eden/api.BadText", laid_eden_api_BadText), ("eden/api.BadPatch", laid_eden_api_BadPatch), ("eden/api.BadCert", laid_eden_api_BadCert), ("eden/api.NoInverse", laid_eden_api_NoInverse), ("eden/api.BadLine", laid_eden_api_BadLine), ("eden/api.BadState", laid_eden_api_BadState), ("eden/api.Unknown", laid_eden_api_Unknown)] }
def LabReportsSaid : Prop := labReportsRow.holds Tryz.pinned (OpenSpec.ofChange labReportsSpec)

/-- ITS FALSE NEIGHBOUR: 'it returns false'. Refute it at one input. -/
def labReportsWrong : ChangeSpec := { name := "labReports", fn := fun _ => fun
  | [d] => { results := [.lit (.bool false)], args := [d] }
  | _ => none }
def LabReportsWrongFalsely : Prop := labReportsRow.holds Tryz.pinned (OpenSpec.ofChange labReportsWrong)

/-- 'edenlaw26.LabBack': WHATEVER THE INPUT: true; the input reads as it did. -/
def labBackSpec : ChangeSpec := { name := "labBack", fn := fun _ => fun
  | [d] => { results := [.lit (.bool true)], args := [d] }
  | _ => none }
def labBackRow : OpenClaim := { program := "ytncpnaoabkjegaagreatdoor", sum := "a5e998aef09f851ade336aa654732ec59ce7bea86a9cfd1b4537a312fab6b902", func := "eden/edenlaw26.LabBack", spec := "labBack", inPlace := ["internal/reflectlite.ValueOf", "(internal/reflectlite.Value).Type", "(internal/reflectlite.Value).IsNil", "internal/reflectlite.TypeOf", "(internal/reflectlite.Value).Elem", "(internal/reflectlite.Value).Set"], unfollowed := true, recurses := true, named := ["eden/api.TooBig", "eden/api.NoInverse", "eden/api.BadRule", "eden/api.BadWord", "eden/api.BadArg", "eden/api.NoBudget", "eden/api.BadText", "eden/api.BadPatch", "eden/api.BadCert", "eden/api.BadLine", "eden/api.BadState", "eden/api.Unknown", "errors.errorType"], apart := false, laid := [("errors.errorType", laid_errors_errorType), ("eden/api.BadRule", laid_eden_api_BadRule), ("eden/api.BadWord", laid_eden_api_BadWord), ("eden/api.BadArg", laid_eden_api_BadArg), ("eden/api.TooBig", laid_eden_api_TooBig), ("eden/api.NoBudget", laid_eden_api_NoBudget), ("eden/api.BadText", laid_eden_api_BadText), ("eden/api.BadPatch", laid_eden_api_BadPatch), ("eden/api.BadCert", laid_eden_api_BadCert), ("eden/api.NoInverse", laid_eden_api_NoInverse), ("eden/api.BadLine", laid_eden_api_BadLine), ("eden/api.BadState", laid_eden_api_BadState), ("eden/api.Unknown", laid_eden_api_Unknown)] }
def LabBackSaid : Prop := labBackRow.holds Tryz.pinned (OpenSpec.ofChange labBackSpec)

/-- ITS FALSE NEIGHBOUR: 'it returns false'. Refute it at one input. -/
def labBackWrong : ChangeSpec := { name := "labBack", fn := fun _ => fun
  | [d] => { results := [.lit (.bool false)], args := [d] }
  | _ => none }
def LabBackWrongFalsely : Prop := labBackRow.holds Tryz.pinned (OpenSpec.ofChange labBackWrong)

/-- 'edenlaw26.LabForms': WHATEVER THE INPUT: true; the input reads as it did. -/
def labFormsSpec : ChangeSpec := { name := "labForms", fn := fun _ => fun
  | [d1, d2] => { results := [.lit (.bool true)], args := [d1, d2] }
  | _ => none }
def labFormsRow : OpenClaim := { program := "ytncpnaoabkjegaagreatdoor", sum := "a5e998aef09f851ade336aa654732ec59ce7bea86a9cfd1b4537a312fab6b902", func := "eden/edenlaw26.LabForms", spec := "labForms", inPlace := ["internal/reflectlite.ValueOf", "(internal/reflectlite.Value).Type", "(internal/reflectlite.Value).IsNil", "internal/reflectlite.TypeOf", "(internal/reflectlite.Value).Elem", "(internal/reflectlite.Value).Set"], unfollowed := true, recurses := true, named := ["eden/api.TooBig", "eden/api.NoInverse", "eden/api.BadRule", "eden/api.BadWord", "eden/api.BadArg", "eden/api.NoBudget", "eden/api.BadText", "eden/api.BadPatch", "eden/api.BadCert", "eden/api.BadLine", "eden/api.BadState", "eden/api.Unknown", "errors.errorType"], apart := false, laid := [("errors.errorType", laid_errors_errorType), ("eden/api.BadRule", laid_eden_api_BadRule), ("eden/api.BadWord", laid_eden_api_BadWord), ("eden/api.BadArg", laid_eden_api_BadArg), ("eden/api.TooBig", laid_eden_api_TooBig), ("eden/api.NoBudget", laid_eden_api_NoBudget), ("eden/api.BadText", laid_eden_api_BadText), ("eden/api.BadPatch", laid_eden_api_BadPatch), ("eden/api.BadCert", laid_eden_api_BadCert), ("eden/api.NoInverse", laid_eden_api_NoInverse), ("eden/api.BadLine", laid_eden_api_BadLine), ("eden/api.BadState", laid_eden_api_BadState), ("eden/api.Unknown", laid_eden_api_Unknown)] }
def LabFormsSaid : Prop := labFormsRow.holds Tryz.pinned (OpenSpec.ofChange labFormsSpec)

/-- ITS FALSE NEIGHBOUR: 'it returns false'. Refute it at one input. -/
def labFormsWrong : ChangeSpec := { name := "labForms", fn := fun _ => fun
  | [d1, d2] => { results := [.lit (.bool false)], args := [d1, d2] }
  | _ => none }
def LabFormsWrongFalsely : Prop := labFormsRow.holds Tryz.pinned (OpenSpec.ofChange labFormsWrong)

/-- 'edenlaw26.LabKnown': WHATEVER THE INPUT: true; the input reads as it did. -/
def labKnownSpec : ChangeSpec := { name := "labKnown", fn := fun _ => fun
  | [d] => { results := [.lit (.bool true)], args := [d] }
  | _ => none }
def labKnownRow : OpenClaim := { program := "ytncpnaoabkjegaagreatdoor", sum := "a5e998aef09f851ade336aa654732ec59ce7bea86a9cfd1b4537a312fab6b902", func := "eden/edenlaw26.LabKnown", spec := "labKnown", inPlace := ["internal/reflectlite.ValueOf", "(internal/reflectlite.Value).Type", "(internal/reflectlite.Value).IsNil", "internal/reflectlite.TypeOf", "(internal/reflectlite.Value).Elem", "(internal/reflectlite.Value).Set"], unfollowed := true, recurses := true, named := ["eden/api.TooBig", "eden/api.NoInverse", "eden/api.BadRule", "eden/api.BadWord", "eden/api.BadArg", "eden/api.NoBudget", "eden/api.BadText", "eden/api.BadPatch", "eden/api.BadCert", "eden/api.BadLine", "eden/api.BadState", "eden/api.Unknown", "errors.errorType"], apart := false, laid := [("errors.errorType", laid_errors_errorType), ("eden/api.BadRule", laid_eden_api_BadRule), ("eden/api.BadWord", laid_eden_api_BadWord), ("eden/api.BadArg", laid_eden_api_BadArg), ("eden/api.TooBig", laid_eden_api_TooBig), ("eden/api.NoBudget", laid_eden_api_NoBudget), ("eden/api.BadText", laid_eden_api_BadText), ("eden/api.BadPatch", laid_eden_api_BadPatch), ("eden/api.BadCert", laid_eden_api_BadCert), ("eden/api.NoInverse", laid_eden_api_NoInverse), ("eden/api.BadLine", laid_eden_api_BadLine), ("eden/api.BadState", laid_eden_api_BadState), ("eden/api.Unknown", laid_eden_api_Unknown)] }
def LabKnownSaid : Prop := labKnownRow.holds Tryz.pinned (OpenSpec.ofChange labKnownSpec)

/-- ITS FALSE NEIGHBOUR: 'it returns false'. Refute it at one input. -/
def labKnownWrong : ChangeSpec := { name := "labKnown", fn := fun _ => fun
  | [d] => { results := [.lit (.bool false)], args := [d] }
  | _ => none }
def LabKnownWrongFalsely : Prop := labKnownRow.holds Tryz.pinned (OpenSpec.ofChange labKnownWrong)

/-- 'edenlaw26.LabTexts': WHATEVER THE INPUT: true; the input reads as it did. -/
def labTextsSpec : ChangeSpec := { name := "labTexts", fn := fun _ => fun
  | [d] => { results := [.lit (.bool true)], args := [d] }
  | _ => none }
def labTextsRow : OpenClaim := { program := "ytncpnaoabkjegaagreatdoor", sum := "a5e998aef09f851ade336aa654732ec59ce7bea86a9cfd1b4537a312fab6b902", func := "eden/edenlaw26.LabTexts", spec := "labTexts", inPlace := ["internal/reflectlite.ValueOf", "(internal/reflectlite.Value).Type", "(internal/reflectlite.Value).IsNil", "internal/reflectlite.TypeOf", "(internal/reflectlite.Value).Elem", "(internal/reflectlite.Value).Set", "internal/abi.NoEscape", "internal/bytealg.MakeNoZero"], unfollowed := true, recurses := true, named := ["eden/api.TooBig", "eden/api.NoInverse", "eden/api.BadRule", "eden/api.BadWord", "eden/api.BadArg", "eden/api.NoBudget", "eden/api.BadText", "eden/api.BadPatch", "eden/api.BadCert", "eden/api.BadLine", "eden/api.BadState", "eden/api.Unknown", "errors.errorType", "internal/strconv.uint64pow10", "math/bits.deBruijn32tab", "math/bits.deBruijn64tab"], apart := false, laid := [("math/bits.deBruijn32tab", laid_math_bits_deBruijn32tab), ("math/bits.deBruijn64tab", laid_math_bits_deBruijn64tab), ("internal/strconv.uint64pow10", laid_internal_strconv_uint64pow10), ("errors.errorType", laid_errors_errorType), ("eden/api.BadRule", laid_eden_api_BadRule), ("eden/api.BadWord", laid_eden_api_BadWord), ("eden/api.BadArg", laid_eden_api_BadArg), ("eden/api.TooBig", laid_eden_api_TooBig), ("eden/api.NoBudget", laid_eden_api_NoBudget), ("eden/api.BadText", laid_eden_api_BadText), ("eden/api.BadPatch", laid_eden_api_BadPatch), ("eden/api.BadCert", laid_eden_api_BadCert), ("eden/api.NoInverse", laid_eden_api_NoInverse), ("eden/api.BadLine", laid_eden_api_BadLine), ("eden/api.BadState", laid_eden_api_BadState), ("eden/api.Unknown", laid_eden_api_Unknown)] }
def LabTextsSaid : Prop := labTextsRow.holds Tryz.pinned (OpenSpec.ofChange labTextsSpec)

/-- ITS FALSE NEIGHBOUR: 'it returns false'. Refute it at one input. -/
def labTextsWrong : ChangeSpec := { name := "labTexts", fn := fun _ => fun
  | [d] => { results := [.lit (.bool false)], args := [d] }
  | _ => none }
def LabTextsWrongFalsely : Prop := labTextsRow.holds Tryz.pinned (OpenSpec.ofChange labTextsWrong)

/- THE SECOND FORM. 'bulk': how many values and letters a reading holds, each counted each time it is reached (what is shared counts as often as it is met; a slice's spare places count too). A statement '..UptoSaid' is the law's where the arguments, and the package variables that the reading takes, are together of bulk at most 1048576: NARROWER than '..Said'. Prove '..Said' where nothing that the law and all that it calls make is longer than what came in: it says more and counts as full. Else prove '..UptoSaid'. A law counts once. -/
mutual
def uptoBulk {H : Type} : DataW H → Nat
  | .lit (.string bytes) => bytes.length + 1
  | .lit _ => 1
  | .nil => 1
  | .ptr d => uptoBulk d + 1
  | .slice elems spare => uptoBulkAll elems + uptoBulkAll spare + 1
  | .agg parts => uptoBulkAll parts + 1
  | .iface _ d => uptoBulk d + 1
  | .map entries => uptoBulkEntries entries + 1
  | .held _ => 1
def uptoBulkAll {H : Type} : List (DataW H) → Nat
  | [] => 0
  | d :: r => uptoBulk d + uptoBulkAll r
def uptoBulkEntries {H : Type} : List (Lit × DataW H) → Nat
  | [] => 0
  | x :: r => uptoBulkEntry x + uptoBulkEntries r
def uptoBulkEntry {H : Type} : Lit × DataW H → Nat
  | (.string bytes, d) => bytes.length + uptoBulk d + 1
  | (_, d) => uptoBulk d + 1
 end
def uptoSmall : (H : Type) → List (DataW H) → Bool := fun _ ds => decide (uptoBulkAll ds ≤ 1048576)
def OpenSpec.upto (s : _root_.Go.ChangeSpec) : _root_.Go.OpenSpec := { _root_.Go.OpenSpec.ofChange s with cond := some uptoSmall }

/-- 'edenlaw19.PermutOntos', WHERE WHAT IT READS IS OF BULK AT MOST 1048576: true; the input reads as it did. -/
def permutOntosUptoRow : OpenClaim := { program := "ytncpnaoabkjegaagreatdoor", sum := "a5e998aef09f851ade336aa654732ec59ce7bea86a9cfd1b4537a312fab6b902", func := "eden/edenlaw19.PermutOntos", spec := "permutOntos", inPlace := ["internal/reflectlite.ValueOf", "(internal/reflectlite.Value).Type", "(internal/reflectlite.Value).IsNil", "internal/reflectlite.TypeOf", "(internal/reflectlite.Value).Elem", "(internal/reflectlite.Value).Set"], unfollowed := true, recurses := true, named := ["eden/api.BadRule", "eden/api.BadWord", "eden/api.BadArg", "eden/api.TooBig", "eden/api.NoBudget", "eden/api.BadText", "eden/api.BadPatch", "eden/api.BadCert", "eden/api.NoInverse", "eden/api.BadLine", "eden/api.BadState", "eden/api.Unknown", "errors.errorType"], apart := false, laid := [("errors.errorType", laid_errors_errorType), ("eden/api.BadRule", laid_eden_api_BadRule), ("eden/api.BadWord", laid_eden_api_BadWord), ("eden/api.BadArg", laid_eden_api_BadArg), ("eden/api.TooBig", laid_eden_api_TooBig), ("eden/api.NoBudget", laid_eden_api_NoBudget), ("eden/api.BadText", laid_eden_api_BadText), ("eden/api.BadPatch", laid_eden_api_BadPatch), ("eden/api.BadCert", laid_eden_api_BadCert), ("eden/api.NoInverse", laid_eden_api_NoInverse), ("eden/api.BadLine", laid_eden_api_BadLine), ("eden/api.BadState", laid_eden_api_BadState), ("eden/api.Unknown", laid_eden_api_Unknown)], narrowed := true }
def PermutOntosUptoSaid : Prop := permutOntosUptoRow.holds Tryz.pinned (OpenSpec.upto permutOntosSpec)

/-- 'edenlaw18.AddOntos', WHERE WHAT IT READS IS OF BULK AT MOST 1048576: true; the input reads as it did. -/
def addOntosUptoRow : OpenClaim := { program := "ytncpnaoabkjegaagreatdoor", sum := "a5e998aef09f851ade336aa654732ec59ce7bea86a9cfd1b4537a312fab6b902", func := "eden/edenlaw18.AddOntos", spec := "addOntos", inPlace := ["internal/reflectlite.ValueOf", "(internal/reflectlite.Value).Type", "(internal/reflectlite.Value).IsNil", "internal/reflectlite.TypeOf", "(internal/reflectlite.Value).Elem", "(internal/reflectlite.Value).Set"], unfollowed := true, recurses := true, named := ["eden/api.BadRule", "eden/api.BadWord", "eden/api.BadArg", "eden/api.TooBig", "eden/api.NoBudget", "eden/api.BadText", "eden/api.BadPatch", "eden/api.BadCert", "eden/api.NoInverse", "eden/api.BadLine", "eden/api.BadState", "eden/api.Unknown", "errors.errorType"], apart := false, laid := [("errors.errorType", laid_errors_errorType), ("eden/api.BadRule", laid_eden_api_BadRule), ("eden/api.BadWord", laid_eden_api_BadWord), ("eden/api.BadArg", laid_eden_api_BadArg), ("eden/api.TooBig", laid_eden_api_TooBig), ("eden/api.NoBudget", laid_eden_api_NoBudget), ("eden/api.BadText", laid_eden_api_BadText), ("eden/api.BadPatch", laid_eden_api_BadPatch), ("eden/api.BadCert", laid_eden_api_BadCert), ("eden/api.NoInverse", laid_eden_api_NoInverse), ("eden/api.BadLine", laid_eden_api_BadLine), ("eden/api.BadState", laid_eden_api_BadState), ("eden/api.Unknown", laid_eden_api_Unknown)], narrowed := true }
def AddOntosUptoSaid : Prop := addOntosUptoRow.holds Tryz.pinned (OpenSpec.upto addOntosSpec)

/-- 'edenlaw26.LabKeeps', WHERE WHAT IT READS IS OF BULK AT MOST 1048576: true; the input reads as it did. -/
def labKeepsUptoRow : OpenClaim := { program := "ytncpnaoabkjegaagreatdoor", sum := "a5e998aef09f851ade336aa654732ec59ce7bea86a9cfd1b4537a312fab6b902", func := "eden/edenlaw26.LabKeeps", spec := "labKeeps", inPlace := ["internal/reflectlite.ValueOf", "(internal/reflectlite.Value).Type", "(internal/reflectlite.Value).IsNil", "internal/reflectlite.TypeOf", "(internal/reflectlite.Value).Elem", "(internal/reflectlite.Value).Set"], unfollowed := true, recurses := true, named := ["eden/api.TooBig", "eden/api.NoInverse", "eden/api.BadRule", "eden/api.BadWord", "eden/api.BadArg", "eden/api.NoBudget", "eden/api.BadText", "eden/api.BadPatch", "eden/api.BadCert", "eden/api.BadLine", "eden/api.BadState", "eden/api.Unknown", "errors.errorType"], apart := false, laid := [("errors.errorType", laid_errors_errorType), ("eden/api.BadRule", laid_eden_api_BadRule), ("eden/api.BadWord", laid_eden_api_BadWord), ("eden/api.BadArg", laid_eden_api_BadArg), ("eden/api.TooBig", laid_eden_api_TooBig), ("eden/api.NoBudget", laid_eden_api_NoBudget), ("eden/api.BadText", laid_eden_api_BadText), ("eden/api.BadPatch", laid_eden_api_BadPatch), ("eden/api.BadCert", laid_eden_api_BadCert), ("eden/api.NoInverse", laid_eden_api_NoInverse), ("eden/api.BadLine", laid_eden_api_BadLine), ("eden/api.BadState", laid_eden_api_BadState), ("eden/api.Unknown", laid_eden_api_Unknown)], narrowed := true }
def LabKeepsUptoSaid : Prop := labKeepsUptoRow.holds Tryz.pinned (OpenSpec.upto labKeepsSpec)

/-- 'edenlaw26.LabReports', WHERE WHAT IT READS IS OF BULK AT MOST 1048576: true; the input reads as it did. -/
def labReportsUptoRow : OpenClaim := { program := "ytncpnaoabkjegaagreatdoor", sum := "a5e998aef09f851ade336aa654732ec59ce7bea86a9cfd1b4537a312fab6b902", func := "eden/edenlaw26.LabReports", spec := "labReports", inPlace := ["internal/reflectlite.ValueOf", "(internal/reflectlite.Value).Type", "(internal/reflectlite.Value).IsNil", "internal/reflectlite.TypeOf", "(internal/reflectlite.Value).Elem", "(internal/reflectlite.Value).Set"], unfollowed := true, recurses := true, named := ["eden/api.TooBig", "eden/api.NoInverse", "eden/api.BadRule", "eden/api.BadWord", "eden/api.BadArg", "eden/api.NoBudget", "eden/api.BadText", "eden/api.BadPatch", "eden/api.BadCert", "eden/api.BadLine", "eden/api.BadState", "eden/api.Unknown", "errors.errorType"], apart := false, laid := [("errors.errorType", laid_errors_errorType), ("eden/api.BadRule", laid_eden_api_BadRule), ("eden/api.BadWord", laid_eden_api_BadWord), ("eden/api.BadArg", laid_eden_api_BadArg), ("eden/api.TooBig", laid_eden_api_TooBig), ("eden/api.NoBudget", laid_eden_api_NoBudget), ("eden/api.BadText", laid_eden_api_BadText), ("eden/api.BadPatch", laid_eden_api_BadPatch), ("eden/api.BadCert", laid_eden_api_BadCert), ("eden/api.NoInverse", laid_eden_api_NoInverse), ("eden/api.BadLine", laid_eden_api_BadLine), ("eden/api.BadState", laid_eden_api_BadState), ("eden/api.Unknown", laid_eden_api_Unknown)], narrowed := true }
def LabReportsUptoSaid : Prop := labReportsUptoRow.holds Tryz.pinned (OpenSpec.upto labReportsSpec)

/-- 'edenlaw26.LabBack', WHERE WHAT IT READS IS OF BULK AT MOST 1048576: true; the input reads as it did. -/
def labBackUptoRow : OpenClaim := { program := "ytncpnaoabkjegaagreatdoor", sum := "a5e998aef09f851ade336aa654732ec59ce7bea86a9cfd1b4537a312fab6b902", func := "eden/edenlaw26.LabBack", spec := "labBack", inPlace := ["internal/reflectlite.ValueOf", "(internal/reflectlite.Value).Type", "(internal/reflectlite.Value).IsNil", "internal/reflectlite.TypeOf", "(internal/reflectlite.Value).Elem", "(internal/reflectlite.Value).Set"], unfollowed := true, recurses := true, named := ["eden/api.TooBig", "eden/api.NoInverse", "eden/api.BadRule", "eden/api.BadWord", "eden/api.BadArg", "eden/api.NoBudget", "eden/api.BadText", "eden/api.BadPatch", "eden/api.BadCert", "eden/api.BadLine", "eden/api.BadState", "eden/api.Unknown", "errors.errorType"], apart := false, laid := [("errors.errorType", laid_errors_errorType), ("eden/api.BadRule", laid_eden_api_BadRule), ("eden/api.BadWord", laid_eden_api_BadWord), ("eden/api.BadArg", laid_eden_api_BadArg), ("eden/api.TooBig", laid_eden_api_TooBig), ("eden/api.NoBudget", laid_eden_api_NoBudget), ("eden/api.BadText", laid_eden_api_BadText), ("eden/api.BadPatch", laid_eden_api_BadPatch), ("eden/api.BadCert", laid_eden_api_BadCert), ("eden/api.NoInverse", laid_eden_api_NoInverse), ("eden/api.BadLine", laid_eden_api_BadLine), ("eden/api.BadState", laid_eden_api_BadState), ("eden/api.Unknown", laid_eden_api_Unknown)], narrowed := true }
def LabBackUptoSaid : Prop := labBackUptoRow.holds Tryz.pinned (OpenSpec.upto labBackSpec)

/-- 'edenlaw26.LabForms', WHERE WHAT IT READS IS OF BULK AT MOST 1048576: true; the input reads as it did. -/
def labFormsUptoRow : OpenClaim := { program := "ytncpnaoabkjegaagreatdoor", sum := "a5e998aef09f851ade336aa654732ec59ce7bea86a9cfd1b4537a312fab6b902", func := "eden/edenlaw26.LabForms", spec := "labForms", inPlace := ["internal/reflectlite.ValueOf", "(internal/reflectlite.Value).Type", "(internal/reflectlite.Value).IsNil", "internal/reflectlite.TypeOf", "(internal/reflectlite.Value).Elem", "(internal/reflectlite.Value).Set"], unfollowed := true, recurses := true, named := ["eden/api.TooBig", "eden/api.NoInverse", "eden/api.BadRule", "eden/api.BadWord", "eden/api.BadArg", "eden/api.NoBudget", "eden/api.BadText", "eden/api.BadPatch", "eden/api.BadCert", "eden/api.BadLine", "eden/api.BadState", "eden/api.Unknown", "errors.errorType"], apart := false, laid := [("errors.errorType", laid_errors_errorType), ("eden/api.BadRule", laid_eden_api_BadRule), ("eden/api.BadWord", laid_eden_api_BadWord), ("eden/api.BadArg", laid_eden_api_BadArg), ("eden/api.TooBig", laid_eden_api_TooBig), ("eden/api.NoBudget", laid_eden_api_NoBudget), ("eden/api.BadText", laid_eden_api_BadText), ("eden/api.BadPatch", laid_eden_api_BadPatch), ("eden/api.BadCert", laid_eden_api_BadCert), ("eden/api.NoInverse", laid_eden_api_NoInverse), ("eden/api.BadLine", laid_eden_api_BadLine), ("eden/api.BadState", laid_eden_api_BadState), ("eden/api.Unknown", laid_eden_api_Unknown)], narrowed := true }
def LabFormsUptoSaid : Prop := labFormsUptoRow.holds Tryz.pinned (OpenSpec.upto labFormsSpec)

/-- 'edenlaw26.LabKnown', WHERE WHAT IT READS IS OF BULK AT MOST 1048576: true; the input reads as it did. -/
def labKnownUptoRow : OpenClaim := { program := "ytncpnaoabkjegaagreatdoor", sum := "a5e998aef09f851ade336aa654732ec59ce7bea86a9cfd1b4537a312fab6b902", func := "eden/edenlaw26.LabKnown", spec := "labKnown", inPlace := ["internal/reflectlite.ValueOf", "(internal/reflectlite.Value).Type", "(internal/reflectlite.Value).IsNil", "internal/reflectlite.TypeOf", "(internal/reflectlite.Value).Elem", "(internal/reflectlite.Value).Set"], unfollowed := true, recurses := true, named := ["eden/api.TooBig", "eden/api.NoInverse", "eden/api.BadRule", "eden/api.BadWord", "eden/api.BadArg", "eden/api.NoBudget", "eden/api.BadText", "eden/api.BadPatch", "eden/api.BadCert", "eden/api.BadLine", "eden/api.BadState", "eden/api.Unknown", "errors.errorType"], apart := false, laid := [("errors.errorType", laid_errors_errorType), ("eden/api.BadRule", laid_eden_api_BadRule), ("eden/api.BadWord", laid_eden_api_BadWord), ("eden/api.BadArg", laid_eden_api_BadArg), ("eden/api.TooBig", laid_eden_api_TooBig), ("eden/api.NoBudget", laid_eden_api_NoBudget), ("eden/api.BadText", laid_eden_api_BadText), ("eden/api.BadPatch", laid_eden_api_BadPatch), ("eden/api.BadCert", laid_eden_api_BadCert), ("eden/api.NoInverse", laid_eden_api_NoInverse), ("eden/api.BadLine", laid_eden_api_BadLine), ("eden/api.BadState", laid_eden_api_BadState), ("eden/api.Unknown", laid_eden_api_Unknown)], narrowed := true }
def LabKnownUptoSaid : Prop := labKnownUptoRow.holds Tryz.pinned (OpenSpec.upto labKnownSpec)

/-- 'edenlaw26.LabTexts', WHERE WHAT IT READS IS OF BULK AT MOST 1048576: true; the input reads as it did. -/
def labTextsUptoRow : OpenClaim := { program := "ytncpnaoabkjegaagreatdoor", sum := "a5e998aef09f851ade336aa654732ec59ce7bea86a9cfd1b4537a312fab6b902", func := "eden/edenlaw26.LabTexts", spec := "labTexts", inPlace := ["internal/reflectlite.ValueOf", "(internal/reflectlite.Value).Type", "(internal/reflectlite.Value).IsNil", "internal/reflectlite.TypeOf", "(internal/reflectlite.Value).Elem", "(internal/reflectlite.Value).Set", "internal/abi.NoEscape", "internal/bytealg.MakeNoZero"], unfollowed := true, recurses := true, named := ["eden/api.TooBig", "eden/api.NoInverse", "eden/api.BadRule", "eden/api.BadWord", "eden/api.BadArg", "eden/api.NoBudget", "eden/api.BadText", "eden/api.BadPatch", "eden/api.BadCert", "eden/api.BadLine", "eden/api.BadState", "eden/api.Unknown", "errors.errorType", "internal/strconv.uint64pow10", "math/bits.deBruijn32tab", "math/bits.deBruijn64tab"], apart := false, laid := [("math/bits.deBruijn32tab", laid_math_bits_deBruijn32tab), ("math/bits.deBruijn64tab", laid_math_bits_deBruijn64tab), ("internal/strconv.uint64pow10", laid_internal_strconv_uint64pow10), ("errors.errorType", laid_errors_errorType), ("eden/api.BadRule", laid_eden_api_BadRule), ("eden/api.BadWord", laid_eden_api_BadWord), ("eden/api.BadArg", laid_eden_api_BadArg), ("eden/api.TooBig", laid_eden_api_TooBig), ("eden/api.NoBudget", laid_eden_api_NoBudget), ("eden/api.BadText", laid_eden_api_BadText), ("eden/api.BadPatch", laid_eden_api_BadPatch), ("eden/api.BadCert", laid_eden_api_BadCert), ("eden/api.NoInverse", laid_eden_api_NoInverse), ("eden/api.BadLine", laid_eden_api_BadLine), ("eden/api.BadState", laid_eden_api_BadState), ("eden/api.Unknown", laid_eden_api_Unknown)], narrowed := true }
def LabTextsUptoSaid : Prop := labTextsUptoRow.holds Tryz.pinned (OpenSpec.upto labTextsSpec)

end Rows
end Go.Proofs.YtncpnaoabkjegaaGreatDoor
