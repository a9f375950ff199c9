/-
  Walks: errors.Is and errors.As at a chain of Faults; the model's entries for internal/reflectlite at this program's types (after the kit's worked example Toyas).
-/
import Derived.Test.YtmddapkhipmlgaaDoorErr
import Derived.LaidEql
import Derived.Stop.Asserts
import Derived.RowKitTokens
import Derived.Deep.LoopGhost
namespace Go.Proofs.YtmddapkhipmlgaaDoor
open Go.RowKit Go.Extern.Stop Go.Stop Go.Extern
set_option maxRecDepth 100000
namespace Errs

theorem typeOfE (v : Value) (w : World) : (ReflectliteType.typeOf #[.iface 187 v]).run Tryd.prog w = .ok (.iface 146 (.agg #[.pointer (some ⟨13, 187, none⟩)])) w := by kernel_rfl
theorem comparableE (w : World) : ((ReflectliteType.method fun t => do Rtype.noPackHeld "Comparable" t; (fun a => Value.bool a.comparable) <$> typeInfo t) #[.agg #[.pointer (some ⟨13, 187, none⟩)]]).run Tryd.prog w = .ok (.bool true) w := by kernel_rfl
theorem methodComparable (v : Value) (w : World) : (Go.method 320 146 v "Comparable").run Tryd.prog w = .ok (173, v) w := by kernel_rfl
theorem compE : (Tryd.prog.info? 187).map (·.comparable) = some true := by kernel_rfl
theorem sizeE : (Tryd.prog.info? 208).map (·.size) = some 1 := by kernel_rfl
theorem uErr : Tryd.prog.underlying 27 = some (.interface #[("Error", 188)]) := by kernel_rfl
theorem uES : Tryd.prog.underlying 187 = some (.pointer 208) := by kernel_rfl
theorem uIs : Tryd.prog.underlying 148 = some (.interface #[("Is", 150)]) := by kernel_rfl
theorem uUnw : Tryd.prog.underlying 151 = some (.interface #[("Unwrap", 152)]) := by kernel_rfl
theorem noIsF (v : Value) (xT : TypeId) (w : World) : (Instr.typeAssert (.iface 106 v) xT 148 true).run Tryd.prog w = .ok (.tuple #[.nilIface, .bool false]) w := run_typeAssert_lacksB uIs (by kernel_rfl) (by kernel_rfl) v xT w
theorem hasUnwrapF (v : Value) (xT : TypeId) (w : World) : (Instr.typeAssert (.iface 106 v) xT 151 true).run Tryd.prog w = .ok (.tuple #[.iface 106 v, .bool true]) w := run_typeAssert_hasB uUnw (by kernel_rfl) v xT w
theorem methodUnwrap (v : Value) (w : World) : (Go.method 320 106 v "Unwrap").run Tryd.prog w = .ok (167, v) w := by kernel_rfl

theorem unwrap_any (p : Nat) (u : Value) (w : World) (h : w.cell? ⟨p, 2, none⟩ = some u) :
    Calls Tryd.prog 167 #[.pointer (some ⟨p, 0, none⟩)] w fun e w' => e = .returned u ∧ w = w' := by
  go_enter Tryd.func167, Tryd.ntmps167
  go_wp2
  go_ret
  exact ⟨rfl, rfl⟩

set_option maxHeartbeats 800000 in
theorem is_loop (r : Nat → Addr) (n : Int) (l : List (ByteArray × Int)) (v : Value) (w : World) (h : ErrAt r w n l v) :
    Calls Tryd.prog 109 #[v, rootV r n, .bool true] w fun e w' => e = .returned (.bool true) ∧ w = w' := by
  obtain ⟨i, hi, hcmp⟩ := Option.map_eq_some_iff.1 compE
  obtain ⟨j, hj, hjs⟩ := Option.map_eq_some_iff.1 sizeE
  have heq := run_eql_iface_ptr_same (P := Tryd.prog) w (r n.toNat) uErr uES hi hcmp hj
  have nF := noIsF
  have uF := hasUnwrapF
  have mU := methodUnwrap
  clear hi hcmp hj hjs
  replace h := Lib.hid h
  go_enter Tryd.func109, Tryd.ntmps109
  go_wp2
  go_loopg [0] l.length (fun k u wr => wr = w ∧ ∃ l', l'.length = k ∧ ErrAt r w n l' u)
  case atStart => exact ⟨rfl, l, rfl, h.out⟩
  case round =>
    obtain ⟨rfl, l', hl', hu⟩ := hrel
    match l', hl', hu with
    | [], hl', hu =>
      obtain rfl : _ = rootV r n := hu
      clear hl'
      go_wp2
      go_ret
      exact ⟨rfl, rfl⟩
    | (op, at_) :: rest, hl', hu =>
      obtain ⟨p, u', rfl, c0, c1, c2, hrest⟩ := hu
      obtain ⟨T, a, rfl⟩ := hrest.shape
      have hty := run_eql_iface_types (P := Tryd.prog) 106 187 (.pointer (some ⟨p, 0, none⟩)) (.pointer (some (r n.toNat))) uErr (by decide) wr
      replace hrest := Lib.hid hrest
      replace hl' := Lib.hid hl'
      go_wp2_with (go_at_call 167; refine (unwrap_any p _ _ c2).mono ?_; rintro e w' ⟨rfl, rfl⟩)
      go_roundg rest.length
      case measure => have := hl'.out; simp at this; omega
      case rel => exact ⟨rfl, rest, rfl, hrest.out⟩

/-- errors.Is at a chain of Faults and the error that it ends in. -/
theorem is_any (r : Nat → Addr) (n : Int) (l : List (ByteArray × Int)) (v : Value) (w : World) (h : ErrAt r w n l v) :
    Calls Tryd.prog 77 #[v, rootV r n] w fun e w' => e = .returned (.bool true) ∧ w = w' := by
  have h8 := @run_callFunc_extern Tryd.prog 108 _ Extern.ReflectliteType.typeOf Tryd.func108 (by kernel_rfl) (by kernel_rfl) (by kernel_rfl) (by kernel_rfl)
  have h32 := @run_callFunc_extern Tryd.prog 173 _ (Extern.ReflectliteType.method fun t => do Extern.Rtype.noPackHeld "Comparable" t; pure (.bool (← typeInfo t).comparable)) Tryd.func173 (by kernel_rfl) (by kernel_rfl) (by kernel_rfl) (by kernel_rfl)
  have tT := typeOfE
  have cT := comparableE
  have mR := methodComparable
  obtain ⟨T, a, rfl⟩ := h.shape
  replace h := Lib.hid h
  go_enter Tryd.func77, Tryd.ntmps77
  go_wp2_with fail
  refine (is_loop r n l _ _ h.out).mono ?_
  rintro e w' ⟨rfl, rfl⟩
  go_wp2
  go_ret
  exact ⟨rfl, rfl⟩
end Errs
end Go.Proofs.YtmddapkhipmlgaaDoor
