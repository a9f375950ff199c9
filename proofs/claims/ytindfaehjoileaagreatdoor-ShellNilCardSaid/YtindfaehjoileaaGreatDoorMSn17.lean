/-
  Proved: the law edenlaw27.ShellNil as its tied card: it returns true and never panics, for any line and number. No conditions beyond the card's own.
-/
import Derived.Test.YtindfaehjoileaaGreatDoorMSn16
import Derived.Test.YtindfaehjoileaaGreatDoorCards
import Derived.Test.YtindfaehjoileaaGreatDoorTieO
import Derived.SevenTiedAt
import Derived.ChangeMaps5
namespace Go.Proofs.YtindfaehjoileaaGreatDoor
open Go.ChangeShapes Go.WideShapes Go.ChangeAt Go.RowKit Go.Joins
namespace ShellNilP
theorem over:Rows.ShellNilSaid :=
 OpenClaim.holds_of_wide 3 Tryz.f3 rfl rfl rfl rfl rfl rfl rfl ⟨rfl,rfl,rfl,rfl,rfl⟩ rfl rfl rfl rfl rfl fnamed Tryz.func3 joined
  inst wrapd
  (fun os started H enc _=>lifted_of door_met os started H enc)
theorem card_holds:Rows.ShellNilCardSaid :=
 Claim7.holds_tied_plain_at .later [] [.sentinel,.sentinel,.sentinel,.sentinel,.sentinel,.sentinel,.sentinel,.sentinel,.sentinel,.sentinel,.sentinel,.sentinel,.pinned,.data,.handle,.data,.data,.data,.sentinel,.sentinel] true _ _
  over (fun _ h=>by cases h) cw (fun _ h=>by cases h) shellNil_row_tie rfl ⟨rfl,rfl⟩ cm rfl
  (fun f fn hf hfn=>by
    obtain rfl:f=3:=Option.some.inj (fnamed.symm.trans hf) |>.symm
    obtain rfl:fn=Tryz.f3:=(Option.some.inj (Tryz.func3.symm.trans hfn)).symm
    exact ⟨cl,fun j t ht=>by
     rw [Tryz.params3] at ht
     have hm:t∈[9,3]:=by simpa using Array.mem_of_getElem? ht
     exact (show Tryz.prog.wantsStandIn t=false by simpa using List.all_eq_true.1 cs t hm)⟩)
  cg
end ShellNilP
#print axioms ShellNilP.card_holds
end Go.Proofs.YtindfaehjoileaaGreatDoor
