/-
  Texts that the proof leans on.
-/
import Derived.Test.YtindfaehjoileaaGreatDoorMSn13
namespace Go.Proofs.YtindfaehjoileaaGreatDoor
open Go.ChangeShapes Go.WideShapes Go.ChangeAt Go.RowKit Go.Joins
namespace ShellNilP
noncomputable abbrev memD (os:Os) (args:Array Value):World:=((doorP os).forCall (fun _ _=>0) ⟨#[],args,[]⟩).memory
abbrev laidD:List (String×DataW Unit):=Rows.shellNilRow.laid.filter fun x=>x.2.handleName?.isNone
set_option maxRecDepth 100000 in
theorem dm_run (os:Os) (args:Array Value):(DataW.laidRun Tryz.prog (memD os args) 8 (laidD.map (·.1))).map (·.1)=some laidD:=by kernel_rfl
def placeN:MemPlace→Nat
 | .cell b off=>b*512+off
 | .map b=>b*512
def apartN:Nat→List Nat→Bool
 | _,[]=>true
 | m,x::l=>!(m.testBit x)&&apartN (m ||| (1 <<< x)) l
theorem apartN_ok:∀ (l:List Nat) (m:Nat),apartN m l=true→(∀ x∈l,m.testBit x=false)∧l.Nodup
 | [],_,_=>⟨fun x hx=>(by cases hx),List.nodup_nil⟩
 | x::l,m,h=>by
  simp only [apartN,Bool.and_eq_true,Bool.not_eq_true'] at h
  obtain ⟨h1,h2⟩:=apartN_ok l _ h.2
  have hb:∀ y,(m ||| (1 <<< x)).testBit y=(m.testBit y||decide (x=y)):=fun y=>by
   rw [Nat.testBit_or,Nat.one_shiftLeft,Nat.testBit_two_pow]
  refine ⟨fun y hy=>?_,List.nodup_cons.2 ⟨fun hx=>?_,h2⟩⟩
  ·rcases List.mem_cons.1 hy with rfl | hy
   ·exact h.1
   ·have:=h1 y hy
    rw [hb] at this
    simp only [Bool.or_eq_false_iff] at this
    exact this.1
  ·have:=h1 x hx
   rw [hb] at this
   simp at this
theorem nodup_places {ps:List MemPlace} (h:apartN 0 (ps.map placeN)=true):ps.Nodup :=
 (List.pairwise_map.1 (apartN_ok _ _ h).2).imp fun h e=>h (by rw [e])
set_option maxRecDepth 100000 in
theorem dm_apart (os:Os) (args:Array Value):(DataW.laidRun Tryz.prog (memD os args) 8 (laidD.map (·.1))).map (fun x=>apartN 0 (x.2.map placeN))=some true:=by kernel_rfl
set_option maxRecDepth 100000 in
theorem dm_rows (os:Os) (args:Array Value):(DataW.laidRun Tryz.prog (memD os args) 8 (laidD.map (·.1))).map (fun x=>laidRowsB Tryz.prog (memD os args) x.2)=some true:=by kernel_rfl
theorem dm_met (os:Os) (args:Array Value):laidMet Tryz.prog laidD (memD os args):=by
 have h1:=dm_run os args
 have h2:=dm_apart os args
 have h3:=dm_rows os args
 cases hx:DataW.laidRun Tryz.prog (memD os args) 8 (laidD.map (·.1)) with
 | none=>rw [hx] at h1; cases h1
 | some x =>
  obtain ⟨l',ps⟩:=x
  rw [hx] at h1 h2 h3
  have e1:l'=laidD:=Option.some.inj h1
  have e2:apartN 0 (ps.map placeN)=true:=Option.some.inj h2
  have e3:laidRowsB Tryz.prog (memD os args) ps=true:=Option.some.inj h3
  subst e1
  exact laidMet_of_run 8 hx (decide_eq_true (nodup_places e2)) e3
set_option maxRecDepth 100000 in
theorem dm_hand (os:Os) (args:Array Value):(Rows.shellNilRow.laid.filter fun x=>x.2.handleName?.isSome&&x.2.funcsIn?.isNone).all (handleAtB Tryz.prog (memD os args))=true:=by kernel_rfl
set_option maxRecDepth 100000 in
theorem dm_funcs (os:Os) (args:Array Value):funcsRun Tryz.prog (memD os args) 8 ((funcsListed Rows.shellNilRow.laid).map (·.1))=some ((funcsListed Rows.shellNilRow.laid).map (·.2.funcsOut)):=by kernel_rfl
theorem door_met (os:Os) (args:Array Value):laidMetH Tryz.prog Rows.shellNilRow.laid ((doorP os).forCall (fun _ _=>0) ⟨#[],args,[]⟩).memory :=
 laidMetH_of_parts3 (fuel:=8) (dm_met os args) (dm_hand os args) (dm_funcs os args)
end ShellNilP
end Go.Proofs.YtindfaehjoileaaGreatDoor
