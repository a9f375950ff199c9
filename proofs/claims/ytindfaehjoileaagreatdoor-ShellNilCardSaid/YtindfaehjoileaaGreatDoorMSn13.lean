/-
  Texts that the proof leans on.
-/
import Derived.Test.YtindfaehjoileaaGreatDoorMSn12
import Derived.SevenTiedAt
import Derived.ChangeMaps5
namespace Go.Proofs.YtindfaehjoileaaGreatDoor
open Go.ChangeShapes Go.WideShapes Go.ChangeAt Go.RowKit Go.Joins
namespace ShellNilP
set_option maxRecDepth 100000 in
theorem lifted_of (hdoor:∀ (os:Os) (args:Array Value),laidMetH Tryz.prog Rows.shellNilRow.laid ((doorP os).forCall (fun _ _=>0) ⟨#[],args,[]⟩).memory) (os:Os) (started:os.Started) (H:Type) (enc:TypeId×Value→H) :
 ReturnsInHanded {} Tryz.checked os 3 .any (fun w args=>(Rows.shellNilSpec.pre enc Tryz.prog Tryz.f3 [] false w args∧laidMetH Tryz.prog Rows.shellNilRow.laid w)∧sizedMet enc Tryz.prog Tryz.f3 (OpenSpec.ofChange Rows.shellNilSpec) false w args)
  (Rows.shellNilSpec.post enc Tryz.prog Tryz.f3 false true false false):=by
 refine returnsInHanded_of_change_and_shaped (C:=Tryz.checked) (X:=fun w _=>laidMetH Tryz.prog Rows.shellNilRow.laid w) (fun _ _ _ hh h=>h.of_heap hh) own started (by kernel_rfl) Tryz.func3
  (ChangeSpec.witness_shaped (enc:=enc) (C:=Tryz.checked) (os:=os) (X:=fun w _=>laidMetH Tryz.prog Rows.shellNilRow.laid w) false (doorP os) #[.string ⟨#[]⟩,.int .i64 0] 8 (doorP_os _) (World.shaped_of_RefB (by kernel_rfl) (by kernel_rfl)) (by kernel_rfl) (by kernel_rfl) (by kernel_rfl) (hdoor os _)) ?_
 intro W base args ds gs before hval0 hW _ hsz hL hsh _
 have hval:∀ (j:Nat) t v,Tryz.f3.params[j]?=some t→args[j]?=some v→Value.okWide Tryz.prog W .any base t v:=hval0
 have hW':=hW
 obtain ⟨p,q,hA0,hV,rfl,hfz,hnd⟩:=hW
 have hA:DataW.TrodAll enc Tryz.prog W 0 (fun _=>true) true Tryz.f3.params.toList args.toList ds p:=hA0
 rw [Tryz.params3] at hA hval hsz
 obtain ⟨v0,vs0,d0,ds0,p0,q0,hargs,rfl,rfl,g0,t0⟩:=trodAll_cons hA
 obtain ⟨v1,vs1,d1,ds1,p1,q1,rfl,rfl,rfl,g1,t1⟩:=trodAll_cons t0
 obtain ⟨rfl,rfl,rfl⟩:=trodAll_nil t1
 obtain rfl:args=#[v0,v1]:=by cases args; simp_all
 obtain ⟨rfl,rfl⟩:=trodVars_none hV
 obtain ⟨s0,rfl,rfl,rfl,hs0⟩:=Go.ChangeMaps.open_string uStr (hval 0 9 v0 rfl rfl) g0
 obtain ⟨k1,rfl,rfl,rfl,w1⟩:=open_int uInt (hval 1 3 v1 rfl rfl) g1
 obtain ⟨r,hg,hG,hT⟩:=glob_of_laidS (W:=W) (by
  exact hL)
 clear hA0 hval0
 refine (shellNil_any r s0 k1 W hg hG hT (MaxOk.of hsh)).mono fun e W' ⟨x,he,bel,hxx⟩=>?_
 subst he; subst hxx
 exact ⟨_,rfl,_,_,_,[],_,[],hW',trodAll_mk1 (shut_bool Tryz.underlying4 _),(trodAll_cons_mk (Go.ChangeMaps.shut_string uStr hs0) (trodAll_cons_mk (shut_int uInt w1) trodAll_mk0)),rfl,bel.frame _,fun h=>by cases h⟩
end ShellNilP
end Go.Proofs.YtindfaehjoileaaGreatDoor
