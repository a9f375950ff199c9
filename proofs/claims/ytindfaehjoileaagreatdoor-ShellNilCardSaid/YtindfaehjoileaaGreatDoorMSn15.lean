/-
  Texts that the proof leans on.
-/
import Derived.Test.YtindfaehjoileaaGreatDoorMSn14
import Derived.Test.YtindfaehjoileaaGreatDoorCards
namespace Go.Proofs.YtindfaehjoileaaGreatDoor
open Go.ChangeShapes Go.WideShapes Go.ChangeAt Go.RowKit Go.Joins
namespace ShellNilP
theorem and_t {a b:Bool} (h:a=true) (k:b=true):(a&&b)=true:=by rw [h,k]; rfl
theorem jf_wf:Rows.shellNilRow.wf (OpenSpec.ofChange Rows.shellNilSpec)=true:=by kernel_rfl
theorem jf_lo:laidOutB Tryz.prog=true:=by kernel_rfl
theorem jf_mr:mapsRowed Tryz.prog=true:=by kernel_rfl
theorem jf_nt:namedTie Tryz.prog Rows.shellNilRow.named Rows.shellNilSpec.vars=true:=by kernel_rfl
theorem jf_ip:(Rows.shellNilRow.inPlace==Tryz.prog.inPlace 3)=true:=by kernel_rfl
theorem jf_uf:(Rows.shellNilRow.unfollowed==Tryz.prog.unfollowed 3)=true:=by kernel_rfl
theorem jf_rc:(Rows.shellNilRow.recurses==Tryz.prog.recurses 3)=true:=by kernel_rfl
theorem jf_nm:(Rows.shellNilRow.named==Tryz.prog.varsNamed 3)=true:=by kernel_rfl
theorem jf_pk:(Rows.shellNilRow.plainKeys==Tryz.prog.plainKeys)=true:=by kernel_rfl
theorem jf_sh:Tryz.prog.stopsHeard=true:=by kernel_rfl
theorem jf_me:Tryz.prog.mayEnter=true:=by kernel_rfl
theorem jf_lf:(Rows.shellNilRow.lifted==Tryz.prog.liftsFinal)=true:=by kernel_rfl
theorem jf_mk:(Tryz.prog.make==some Rows.shellNilRow.make)=true:=by kernel_rfl
theorem joined:joinedFacts Tryz.prog 3 Tryz.f3 Rows.shellNilSpec Rows.shellNilRow=true:=and_t (and_t (and_t (and_t (and_t (and_t (and_t (and_t (and_t (and_t (and_t (and_t (and_t (and_t (and_t (and_t (and_t (and_t (and_t (and_t (and_t (and_t (and_t (and_t (and_t (and_t (and_t (and_t (and_t (and_t (and_t jf_wf jf_lo) jf_mr) (by kernel_rfl)) jf_nt) (by kernel_rfl)) (by kernel_rfl)) (by kernel_rfl)) (by kernel_rfl)) jf_ip) jf_uf) jf_rc) jf_nm) (by kernel_rfl)) (by kernel_rfl)) (by kernel_rfl)) (by kernel_rfl)) (by kernel_rfl)) (by kernel_rfl)) (by kernel_rfl)) (by kernel_rfl)) (by kernel_rfl)) jf_pk) (by kernel_rfl)) jf_sh) jf_me) jf_lf) jf_mk) (by kernel_rfl)) (by kernel_rfl)) (by kernel_rfl)) (by kernel_rfl)
theorem fnamed:Tryz.prog.funcNamed Rows.shellNilRow.func=some 3:=by kernel_rfl
theorem inst:Tryz.f3.isInstance Tryz.prog Rows.shellNilRow.origin Rows.shellNilRow.targs:=of_decide_eq_true (by kernel_rfl)
theorem wrapd:Tryz.f3.isWrapper Tryz.prog Rows.shellNilRow.wrapper Rows.shellNilRow.mainSum:=by unfold Func.isWrapper; first | (rw [if_pos (by decide +kernel)]; kernel_rfl) | (rw [if_neg (by decide +kernel)]; exact ⟨rfl,rfl⟩)
end ShellNilP
end Go.Proofs.YtindfaehjoileaaGreatDoor
