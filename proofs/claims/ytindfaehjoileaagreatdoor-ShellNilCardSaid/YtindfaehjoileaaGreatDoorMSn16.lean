/-
  Texts that the proof leans on.
-/
import Derived.Test.YtindfaehjoileaaGreatDoorMSn15
import Derived.Test.YtindfaehjoileaaGreatDoorCards
namespace Go.Proofs.YtindfaehjoileaaGreatDoor
open Go.ChangeShapes Go.WideShapes Go.ChangeAt Go.RowKit Go.Joins
namespace ShellNilP
theorem cw:Rows.shellNilRow.wfByText (OpenSpec.ofChange Rows.shellNilSpec)=true:=by kernel_rfl
theorem cm:Tryz.prog.mainIs=some (Rows.shellNilCard.stood.harness.1,Rows.shellNilCard.stood.harness.2.toList):=by kernel_rfl
theorem cl:Rows.shellNilCard.stood.looks=Tryz.prog.looks []:=by kernel_rfl
theorem go_a:(Tryz.prog.funcs.toList.take 120).any Func.goes=false:=by kernel_rfl
theorem go_b:((Tryz.prog.funcs.toList.drop 120).take 120).any Func.goes=false:=by kernel_rfl
theorem go_c:(((Tryz.prog.funcs.toList.drop 120).drop 120).take 120).any Func.goes=false:=by kernel_rfl
theorem go_d:(((Tryz.prog.funcs.toList.drop 120).drop 120).drop 120).any Func.goes=false:=by kernel_rfl
theorem go_all:Tryz.prog.funcs.toList.any Func.goes=false:=by
 rw [← List.take_append_drop 120 Tryz.prog.funcs.toList,List.any_append,go_a,Bool.false_or,← List.take_append_drop 120 (Tryz.prog.funcs.toList.drop 120),List.any_append,go_b,Bool.false_or,← List.take_append_drop 120 ((Tryz.prog.funcs.toList.drop 120).drop 120),List.any_append,go_c,Bool.false_or,go_d]
theorem no_goes (f:FuncId):Tryz.prog.goes f=false:=by
 have hall:Tryz.prog.funcs.any Func.goes=false:=by rw [← Array.any_toList]; exact go_all
 unfold Program.goes
 rw [hall,Bool.and_false,Bool.or_false]
 rw [List.any_eq_false]
 intro g _
 cases h:Tryz.prog.funcs[g]? with
 | none=>simp
 | some fn =>
  have hm:fn∈Tryz.prog.funcs.toList:=Array.mem_toList_iff.2 (Array.mem_of_getElem? h)
  have:=(List.any_eq_false.1 go_all) fn hm
  simpa using this
theorem cg:false=Rows.shellNilRow.goesBy Tryz.prog:=by
 unfold OpenClaim.goesBy Program.goesAt Program.goesFrom
 cases Tryz.prog.funcNamed Rows.shellNilRow.func with
 | none=>rfl
 | some f=>simp only [Option.any_some,no_goes]; rfl
theorem cs:([9,3].all fun u=>!Tryz.prog.wantsStandIn u)=true:=by kernel_rfl
end ShellNilP
end Go.Proofs.YtindfaehjoileaaGreatDoor
