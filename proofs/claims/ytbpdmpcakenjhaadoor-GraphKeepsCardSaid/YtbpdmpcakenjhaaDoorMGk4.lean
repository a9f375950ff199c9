/-
  Walk: edenraw.Under at an error.
  Walks: errors.Is and errors.As at a chain of Faults; the model's entries for internal/reflectlite at this program's types (after the kit's worked example Toyas).
  The model's entries for internal/reflectlite at a *api.Fault and at the address of a variable of that type (after the kit's worked example Toyas).
  Walk: errors.As at a Fault (after the kit's worked example Toyas).
  Walk: edenraw.Is at an error that is what it must be.
  Walk: graph.Parts.
  Lists of ints of one's own: a row of slices, each a row of its own; what a new list, an append, a store does to them.
  Walk: graph.reach: what can be reached from the marked vertices.
  Walk: graph.back: the arrows the other way round.
-/
import Derived.Test.YtbpdmpcakenjhaaDoorMGk3
import Derived.LaidEql
import Derived.Stop.Asserts
import Derived.RowKitTokens
import Derived.Deep.LoopGhost
import Derived.Deep.RegionHeld3
import Derived.WalkArith
import Derived.Deep.DeepCutAuto
namespace Go.Proofs.YtbpdmpcakenjhaaDoor
open Go.RowKit
set_option maxRecDepth 100000

theorem ValsAt.shape {w : World} {v : Value} {vs : List Value} (h : ValsAt w v vs) : ∃ a n c, v = .slice a n c := by
  obtain ⟨a, cap, e, _⟩ := h; exact ⟨_, _, _, e⟩
theorem cell_keep {w w' : World} {b i : Nat} {x : Value} (hb : Below w.heap.size w w') (h : w.cell? ⟨b, i, none⟩ = some x) : w'.cell? ⟨b, i, none⟩ = some x :=
  (hb.cell (p := ⟨b, i, none⟩) (World.block_lt_of_cell? _ _ h)).trans h
theorem cell_alloc {w : World} {b i : Nat} {x : Value} (h : w.cell? ⟨b, i, none⟩ = some x) (o : Obj) : (w.alloc o).cell? ⟨b, i, none⟩ = some x := cell_keep ((Below.refl _ _).alloc (Nat.le_refl _) _) h
theorem cell_new {w : World} {b : Nat} {x : Value} {T : TypeId} (hb : b = w.heap.size) : (w.alloc (.cells #[x] T)).cell? ⟨b, 0, none⟩ = some x := by subst hb; simp
theorem cell_drew {w : World} {b i : Nat} {x : Value} (h : w.cell? ⟨b, i, none⟩ = some x) : w.drew.cell? ⟨b, i, none⟩ = some x := h

/-- Three cells of a variable of the call's own. -/
def Box3 (w : World) (b : Nat) (x0 x1 x2 : Value) : Prop := (w.cell? ⟨b, 0, none⟩ = some x0 ∧ w.cell? ⟨b, 1, none⟩ = some x1 ∧ w.cell? ⟨b, 2, none⟩ = some x2) ∧ w.frozen? ⟨b, 0, none⟩ = false ∧ w.frozen? ⟨b, 1, none⟩ = false ∧ w.frozen? ⟨b, 2, none⟩ = false
theorem Box3.below {w w' : World} {b : Nat} {x0 x1 x2 : Value} (h : Box3 w b x0 x1 x2) (hb : Below w.heap.size w w') : Box3 w' b x0 x1 x2 := by
  obtain ⟨⟨h0, h1, h2⟩, f0, f1, f2⟩ := h
  have hlt := World.block_lt_of_cell? _ _ h0
  exact ⟨⟨cell_keep hb h0, cell_keep hb h1, cell_keep hb h2⟩, (hb.frozen (p := ⟨b, 0, none⟩) hlt).trans f0, (hb.frozen (p := ⟨b, 1, none⟩) hlt).trans f1, (hb.frozen (p := ⟨b, 2, none⟩) hlt).trans f2⟩
theorem Box3.alloc {w : World} {b : Nat} {x0 x1 x2 : Value} (h : Box3 w b x0 x1 x2) (o : Obj) : Box3 (w.alloc o) b x0 x1 x2 := h.below ((Below.refl _ _).alloc (Nat.le_refl _) _)
theorem Box3.drew {w : World} {b : Nat} {x0 x1 x2 : Value} (h : Box3 w b x0 x1 x2) : Box3 w.drew b x0 x1 x2 := h
theorem OwnV.drew {E : TypeId} {B : Nat} {w : World} {v : Value} {vs : List Value} (h : OwnV E B w v vs) : OwnV E B w.drew v vs := h
theorem Below.allocL {w w' : World} (h : Below w.heap.size w w') (o : Obj) : Below w.heap.size w (w'.alloc o) := h.alloc h.size o
theorem Below.stepL {w1 w2 w3 : World} (h : Below w1.heap.size w1 w2) (k : Below w2.heap.size w2 w3) : Below w1.heap.size w1 w3 := h.trans (k.mono h.size)
theorem belowAlloc' (w : World) (o : Obj) : Below w.heap.size w (w.alloc o) := (Below.refl _ _).alloc (Nat.le_refl _) _
theorem Below.drewL {w w' : World} {n : Nat} (h : Below n w w') : Below n w w'.drew := h.drew

end Go.Proofs.YtbpdmpcakenjhaaDoor

namespace Go.Proofs.YtbpdmpcakenjhaaDoor
open Go.RowKit Go.Extern.Stop Go.Stop Go.Extern
set_option maxRecDepth 100000
namespace Errs

theorem typeOfE (v : Value) (w : World) : (ReflectliteType.typeOf #[.iface 174 v]).run Tryd.prog w = .ok (.iface 138 (.agg #[.pointer (some ⟨13, 174, none⟩)])) w := by kernel_rfl
theorem comparableE (w : World) : ((ReflectliteType.method fun t => do Rtype.noPackHeld "Comparable" t; (fun a => Value.bool a.comparable) <$> typeInfo t) #[.agg #[.pointer (some ⟨13, 174, none⟩)]]).run Tryd.prog w = .ok (.bool true) w := by kernel_rfl
theorem methodComparable (v : Value) (w : World) : (Go.method 307 138 v "Comparable").run Tryd.prog w = .ok (149, v) w := by kernel_rfl
theorem compE : (Tryd.prog.info? 174).map (·.comparable) = some true := by kernel_rfl
theorem sizeE : (Tryd.prog.info? 195).map (·.size) = some 1 := by kernel_rfl
theorem uErr : Tryd.prog.underlying 27 = some (.interface #[("Error", 175)]) := by kernel_rfl
theorem uES : Tryd.prog.underlying 174 = some (.pointer 195) := by kernel_rfl
theorem uIs : Tryd.prog.underlying 140 = some (.interface #[("Is", 142)]) := by kernel_rfl
theorem uUnw : Tryd.prog.underlying 143 = some (.interface #[("Unwrap", 144)]) := by kernel_rfl
theorem noIsF (v : Value) (xT : TypeId) (w : World) : (Instr.typeAssert (.iface 90 v) xT 140 true).run Tryd.prog w = .ok (.tuple #[.nilIface, .bool false]) w := run_typeAssert_lacksB uIs (by kernel_rfl) (by kernel_rfl) v xT w
theorem hasUnwrapF (v : Value) (xT : TypeId) (w : World) : (Instr.typeAssert (.iface 90 v) xT 143 true).run Tryd.prog w = .ok (.tuple #[.iface 90 v, .bool true]) w := run_typeAssert_hasB uUnw (by kernel_rfl) v xT w
theorem methodUnwrap (v : Value) (w : World) : (Go.method 307 90 v "Unwrap").run Tryd.prog w = .ok (143, v) w := by kernel_rfl

theorem unwrap_any (p : Nat) (u : Value) (w : World) (h : w.cell? ⟨p, 2, none⟩ = some u) :
    Calls Tryd.prog 143 #[.pointer (some ⟨p, 0, none⟩)] w fun e w' => e = .returned u ∧ w = w' := by
  go_enter Tryd.func143, Tryd.ntmps143
  go_wp2
  go_ret
  exact ⟨rfl, rfl⟩

set_option maxHeartbeats 800000 in
theorem is_loop (r : Nat → Addr) (n : Int) (l : List (ByteArray × Int)) (v : Value) (w : World) (h : ErrAt r w n l v) :
    Calls Tryd.prog 87 #[v, rootV r n, .bool true] w fun e w' => e = .returned (.bool true) ∧ w = w' := by
  obtain ⟨i, hi, hcmp⟩ := Option.map_eq_some_iff.1 compE
  obtain ⟨j, hj, hjs⟩ := Option.map_eq_some_iff.1 sizeE
  have heq := run_eql_iface_ptr_same (P := Tryd.prog) w (r n.toNat) uErr uES hi hcmp hj
  have nF := noIsF
  have uF := hasUnwrapF
  have mU := methodUnwrap
  clear hi hcmp hj hjs
  replace h := Lib.hid h
  go_enter Tryd.func87, Tryd.ntmps87
  go_wp2
  go_loopg [0] l.length (fun k u wr => wr = w ∧ ∃ l', l'.length = k ∧ ErrAt r w n l' u)
  case atStart => exact ⟨rfl, l, rfl, h.out⟩
  case round =>
    obtain ⟨rfl, l', hl', hu⟩ := hrel
    match l', hl', hu with
    | [], hl', hu =>
      obtain rfl : _ = rootV r n := hu
      clear hl'
      go_wp2
      go_ret
      exact ⟨rfl, rfl⟩
    | (op, at_) :: rest, hl', hu =>
      obtain ⟨p, u', rfl, c0, c1, c2, hrest⟩ := hu
      obtain ⟨T, a, rfl⟩ := hrest.shape
      have hty := run_eql_iface_types (P := Tryd.prog) 90 174 (.pointer (some ⟨p, 0, none⟩)) (.pointer (some (r n.toNat))) uErr (by decide) wr
      replace hrest := Lib.hid hrest
      replace hl' := Lib.hid hl'
      go_wp2_with (go_at_call 143; refine (unwrap_any p _ _ c2).mono ?_; rintro e w' ⟨rfl, rfl⟩)
      go_roundg rest.length
      case measure => have := hl'.out; simp at this; omega
      case rel => exact ⟨rfl, rest, rfl, hrest.out⟩

/-- errors.Is at a chain of Faults and the error that it ends in. -/
theorem is_any (r : Nat → Addr) (n : Int) (l : List (ByteArray × Int)) (v : Value) (w : World) (h : ErrAt r w n l v) :
    Calls Tryd.prog 62 #[v, rootV r n] w fun e w' => e = .returned (.bool true) ∧ w = w' := by
  have h8 := @run_callFunc_extern Tryd.prog 86 _ Extern.ReflectliteType.typeOf Tryd.func86 (by kernel_rfl) (by kernel_rfl) (by kernel_rfl) (by kernel_rfl)
  have h32 := @run_callFunc_extern Tryd.prog 149 _ (Extern.ReflectliteType.method fun t => do Extern.Rtype.noPackHeld "Comparable" t; pure (.bool (← typeInfo t).comparable)) Tryd.func149 (by kernel_rfl) (by kernel_rfl) (by kernel_rfl) (by kernel_rfl)
  have tT := typeOfE
  have cT := comparableE
  have mR := methodComparable
  obtain ⟨T, a, rfl⟩ := h.shape
  replace h := Lib.hid h
  go_enter Tryd.func62, Tryd.ntmps62
  go_wp2_with fail
  refine (is_loop r n l _ _ h.out).mono ?_
  rintro e w' ⟨rfl, rfl⟩
  go_wp2
  go_ret
  exact ⟨rfl, rfl⟩
end Errs
end Go.Proofs.YtbpdmpcakenjhaaDoor

namespace Go.Proofs.YtbpdmpcakenjhaaDoor
open Go.RowKit Go.Extern.Stop Go.Stop Go.Extern
set_option maxRecDepth 100000
namespace Errs

/-! errors.As at a Fault: the target a *api.Fault variable. -/
theorem uF : Tryd.prog.underlying 90 = some (.pointer 94) := by kernel_rfl
theorem uFF : Tryd.prog.underlying 92 = some (.pointer 90) := by kernel_rfl
theorem valueOfFF (t : Addr) (w : World) : (ReflectliteValue.unpack (.iface 92 (.pointer (some t)))).run Tryd.prog w
    = .ok (.agg #[.pointer (some ⟨13, 92, none⟩), .pointer (some ⟨w.heap.size, 0, none⟩), .int .u64 150]) (w.alloc (.cells #[.pointer (some t)] 92)) := by kernel_rfl
theorem typeFF (a : Addr) (w : World) : (ReflectliteValue.methodAny (ReflectliteValue.valueError "reflectlite.Value.Type" 0) (fun t _ _ _ => ReflectliteType.toType t) #[.agg #[.pointer (some ⟨13, 92, none⟩), .pointer (some a), .int .u64 150]]).run Tryd.prog w
    = .ok (.iface 138 (.agg #[.pointer (some ⟨13, 92, none⟩)])) w := by kernel_rfl
theorem methodKind (h : Value) (w : World) : (Go.method 307 138 (.agg #[h]) "Kind").run Tryd.prog w = .ok (139, h) w := by kernel_rfl
theorem kindFF (w : World) : ((ReflectliteType.abiMethod fun t => (fun a : Nat => Value.int IntKind.u8 (a : Int)) <$> Rtype.kind t) #[.pointer (some ⟨13, 92, none⟩)]).run Tryd.prog w = .ok (.int .u8 22) w := by kernel_rfl
theorem kindF (w : World) : ((ReflectliteType.abiMethod fun t => (fun a : Nat => Value.int IntKind.u8 (a : Int)) <$> Rtype.kind t) #[.pointer (some ⟨13, 90, none⟩)]).run Tryd.prog w = .ok (.int .u8 22) w := by kernel_rfl
theorem rlm (z : Sem Value) (f : TypeId → Addr → Nat → Nat → Sem Value) (v : Value) :
    ReflectliteValue.method z f #[v] = (do match ← ReflectliteValue.parts v with | none => z | some (t, a, fl) => f t a fl (fl % 32)) := rfl
theorem partsFF (a : Addr) (w : World) : (ReflectliteValue.parts (.agg #[.pointer (some ⟨13, 92, none⟩), .pointer (some a), .int .u64 150])).run Tryd.prog w = .ok (some (92, a, 150)) w := by kernel_rfl
theorem isNilFF (a p : Addr) (W : World) (ha : W.cell? a = some (.pointer (some p))) :
    (ReflectliteValue.method (ReflectliteValue.valueError "reflectlite.Value.IsNil" 0) ReflectliteValue.isNil #[.agg #[.pointer (some ⟨13, 92, none⟩), .pointer (some a), .int .u64 150]]).run Tryd.prog W = .ok (.bool false) W := by
  rw [rlm]
  simp only [Sem.run_bind, partsFF, Result.andThen]
  simp [ReflectliteValue.isNil, loadVar, isAgg, underlying, ha, Result.andThen]
theorem methodElem (h : Value) (w : World) : (Go.method 307 138 (.agg #[h]) "Elem").run Tryd.prog w = .ok (150, .agg #[h]) w := by kernel_rfl
theorem methodImplements (h : Value) (w : World) : (Go.method 307 138 (.agg #[h]) "Implements").run Tryd.prog w = .ok (151, .agg #[h]) w := by kernel_rfl
theorem methodAssignableTo (h : Value) (w : World) : (Go.method 307 138 (.agg #[h]) "AssignableTo").run Tryd.prog w = .ok (148, .agg #[h]) w := by kernel_rfl
theorem elemFF (w : World) : (ReflectliteType.method ReflectliteType.elem #[.agg #[.pointer (some ⟨13, 92, none⟩)]]).run Tryd.prog w = .ok (.iface 138 (.agg #[.pointer (some ⟨13, 90, none⟩)])) w := by kernel_rfl
theorem implementsF (w : World) : (ReflectliteType.relation "Implements" ReflectliteType.implements_ #[.agg #[.pointer (some ⟨13, 90, none⟩)], .iface 138 (.agg #[.pointer (some ⟨13, 27, none⟩)])]).run Tryd.prog w = .ok (.bool true) w := by kernel_rfl
theorem typeOfF (v : Value) (w : World) : (ReflectliteType.typeOf #[.iface 90 v]).run Tryd.prog w = .ok (.iface 138 (.agg #[.pointer (some ⟨13, 90, none⟩)])) w := by kernel_rfl
theorem assignableF (w : World) : (ReflectliteType.relation "AssignableTo" ReflectliteType.assignableTo #[.agg #[.pointer (some ⟨13, 90, none⟩)], .iface 138 (.agg #[.pointer (some ⟨13, 90, none⟩)])]).run Tryd.prog w = .ok (.bool true) w := by kernel_rfl
theorem valueOfF (e : Addr) (w : World) : (ReflectliteValue.unpack (.iface 90 (.pointer (some e)))).run Tryd.prog w
    = .ok (.agg #[.pointer (some ⟨13, 90, none⟩), .pointer (some ⟨w.heap.size, 0, none⟩), .int .u64 150]) (w.alloc (.cells #[.pointer (some e)] 90)) := by kernel_rfl
theorem elemOfFF (w : World) : (Rtype.elem? 92).run Tryd.prog w = .ok (some 90) w := by kernel_rfl
theorem mkF (p : Addr) (w : World) : (ReflectliteValue.mk 90 p ReflectliteValue.flagAddr).run Tryd.prog w = .ok (.agg #[.pointer (some ⟨13, 90, none⟩), .pointer (some p), .int .u64 406]) w := by kernel_rfl
theorem elemVFF (a p : Addr) (W : World) (ha : W.cell? a = some (.pointer (some p))) :
    (ReflectliteValue.method (ReflectliteValue.valueError "reflectlite.Value.Elem" 0) ReflectliteValue.elem #[.agg #[.pointer (some ⟨13, 92, none⟩), .pointer (some a), .int .u64 150]]).run Tryd.prog W
      = .ok (.agg #[.pointer (some ⟨13, 90, none⟩), .pointer (some p), .int .u64 406]) W := by
  rw [rlm]
  simp only [Sem.run_bind, partsFF, Result.andThen]
  simp [ReflectliteValue.elem, loadVar, isAgg, underlying, ha, Result.andThen, elemOfFF, mkF]
theorem rls (v x : Value) : ReflectliteValue.set #[v, x] = (do
    let (some (dst, a, fl), some (src, b, _)) := (← ReflectliteValue.parts v, ← ReflectliteValue.parts x)
      | unsupported (.noEntry "extern/(internal/reflectlite.Value).Set.zeroValue")
    if fl / ReflectliteValue.flagAddr % 2 == 0 then unsupported (.noEntry "extern/(internal/reflectlite.Value).Set.unaddressable")
    let val ← loadVar src b
    if ← Rtype.directlyAssignable dst src then storeVar dst a val
    else if ← Rtype.implements dst src then
      if (← Rtype.kind src) == 20 then
        match val with
        | .nilIface => unsupported (.noEntry "extern/reflectlite: a nil value of one interface type handed on as a value of another")
        | _ => storeVar dst a val
      else storeVar dst a (.iface src val)
    else panicString ("reflectlite.Set: value of type " ++ (← Rtype.spelt src) ++ " is not assignable to type " ++ (← Rtype.spelt dst))
    pure (.tuple #[])) := rfl
theorem partsFa (a : Addr) (w : World) : (ReflectliteValue.parts (.agg #[.pointer (some ⟨13, 90, none⟩), .pointer (some a), .int .u64 406])).run Tryd.prog w = .ok (some (90, a, 406)) w := by kernel_rfl
theorem partsF (a : Addr) (w : World) : (ReflectliteValue.parts (.agg #[.pointer (some ⟨13, 90, none⟩), .pointer (some a), .int .u64 150])).run Tryd.prog w = .ok (some (90, a, 150)) w := by kernel_rfl
theorem directF (w : World) : (Rtype.directlyAssignable 90 90).run Tryd.prog w = .ok true w := by kernel_rfl
theorem setF (ta b e : Addr) (old : Value) (W : World) (hb : W.cell? b = some (.pointer (some e))) (ht : W.cell? ta = some old) (hf : W.frozen? ta = false) :
    (ReflectliteValue.set #[.agg #[.pointer (some ⟨13, 90, none⟩), .pointer (some ta), .int .u64 406], .agg #[.pointer (some ⟨13, 90, none⟩), .pointer (some b), .int .u64 150]]).run Tryd.prog W
      = .ok (.tuple #[]) (W.setCell ta (.pointer (some e))) := by
  rw [rls]
  simp only [Sem.run_bind, partsFa, partsF, Result.andThen]
  simp [ReflectliteValue.flagAddr, loadVar, isAgg, underlying, hb, Result.andThen, directF, storeVar, Value.cells, storeCells, Addr.add]
  rw [run_store Tryd.prog W ta _ _ (by rfl)]
  simp [ht, hf]

end Errs
end Go.Proofs.YtbpdmpcakenjhaaDoor

namespace Go.Proofs.YtbpdmpcakenjhaaDoor
open Go.RowKit Go.Extern.Stop Go.Stop Go.Extern
set_option maxRecDepth 100000
namespace Errs
set_option maxHeartbeats 4000000 in
theorem as_hit (e t : Addr) (old : Value) (w : World) (hg : w.cell? ⟨12, 0, none⟩ = some (.iface 138 (.agg #[.pointer (some ⟨13, 27, none⟩)]))) (ht0 : w.cell? t = some old) (hf0 : w.frozen? t = false) :
    Calls Tryd.prog 64 #[.iface 90 (.pointer (some e)), .iface 92 (.pointer (some t))] w fun ev w' => ev = .returned (.bool true) ∧ w' = ((((w.alloc (.cells #[.pointer (some t)] 92)).alloc (.cells #[.pointer (some ⟨13, 92, none⟩), .pointer (some ⟨w.heap.size, 0, none⟩), .int .u64 150] 123)).alloc (.cells #[.pointer (some ⟨13, 92, none⟩), .pointer (some ⟨w.heap.size, 0, none⟩), .int .u64 150] 123)).alloc (.cells #[.pointer (some e)] 90)).setCell t (.pointer (some e)) := by
  have h6 := @run_callFunc_extern Tryd.prog 88 _ (fun args => ReflectliteValue.unpack (args.getD 0 (.tuple #[]))) Tryd.func88 (by kernel_rfl) (by kernel_rfl) (by kernel_rfl) (by kernel_rfl)
  have h7 := @run_callFunc_extern Tryd.prog 89 _ (ReflectliteValue.methodAny (ReflectliteValue.valueError "reflectlite.Value.Type" 0) (fun t _ _ _ => ReflectliteType.toType t)) Tryd.func89 (by kernel_rfl) (by kernel_rfl) (by kernel_rfl) (by kernel_rfl)
  have h8 := @run_callFunc_extern Tryd.prog 90 _ (ReflectliteValue.method (ReflectliteValue.valueError "reflectlite.Value.IsNil" 0) ReflectliteValue.isNil) Tryd.func90 (by kernel_rfl) (by kernel_rfl) (by kernel_rfl) (by kernel_rfl)
  have h27 := @run_callFunc_extern Tryd.prog 139 _ (ReflectliteType.abiMethod fun t => do pure (.int .u8 (← Rtype.kind t))) Tryd.func139 (by kernel_rfl) (by kernel_rfl) (by kernel_rfl) (by kernel_rfl)
  have h37 := @run_callFunc_extern Tryd.prog 150 _ (ReflectliteType.method ReflectliteType.elem) Tryd.func150 (by kernel_rfl) (by kernel_rfl) (by kernel_rfl) (by kernel_rfl)
  have h38 := @run_callFunc_extern Tryd.prog 151 _ (ReflectliteType.relation "Implements" ReflectliteType.implements_) Tryd.func151 (by kernel_rfl) (by kernel_rfl) (by kernel_rfl) (by kernel_rfl)
  have h10 := @run_callFunc_extern Tryd.prog 86 _ ReflectliteType.typeOf Tryd.func86 (by kernel_rfl) (by kernel_rfl) (by kernel_rfl) (by kernel_rfl)
  have h35 := @run_callFunc_extern Tryd.prog 148 _ (ReflectliteType.relation "AssignableTo" ReflectliteType.assignableTo) Tryd.func148 (by kernel_rfl) (by kernel_rfl) (by kernel_rfl) (by kernel_rfl)
  have h11 := @run_callFunc_extern Tryd.prog 102 _ (ReflectliteValue.method (ReflectliteValue.valueError "reflectlite.Value.Elem" 0) ReflectliteValue.elem) Tryd.func102 (by kernel_rfl) (by kernel_rfl) (by kernel_rfl) (by kernel_rfl)
  have h12 := @run_callFunc_extern Tryd.prog 103 _ ReflectliteValue.set Tryd.func103 (by kernel_rfl) (by kernel_rfl) (by kernel_rfl) (by kernel_rfl)
  have tO := typeOfF
  have mA := methodAssignableTo
  have aF := assignableF
  have vF := valueOfF
  have f6 := valueOfFF
  have f7 := typeFF
  have mK := methodKind
  have mE := methodElem
  have mI := methodImplements
  have kFF := kindFF
  have kF := kindF
  have eFF := elemFF
  have iF := implementsF
  have n8 := isNilFF ⟨w.heap.size, 0, none⟩ t ((w.alloc (.cells #[.pointer (some t)] 92)).alloc (.cells #[.pointer (some ⟨13, 92, none⟩), .pointer (some ⟨w.heap.size, 0, none⟩), .int .u64 150] 123)) (by simp)
  have hlt : 12 < w.heap.size := World.block_lt_of_cell? _ _ hg
  have hg2 : ((w.alloc (.cells #[.pointer (some t)] 92)).alloc (.cells #[.pointer (some ⟨13, 92, none⟩), .pointer (some ⟨w.heap.size, 0, none⟩), .int .u64 150] 123)).cell? ⟨12, 0, none⟩ = some (.iface 138 (.agg #[.pointer (some ⟨13, 27, none⟩)])) := by
    rw [World.cell?_alloc_lt _ _ ⟨12, 0, none⟩ (by simp; omega), World.cell?_alloc_lt _ _ ⟨12, 0, none⟩ hlt]; exact hg
  have htl : t.block < w.heap.size := World.block_lt_of_cell? _ _ ht0
  have el := elemVFF ⟨w.heap.size, 0, none⟩ t (((w.alloc (.cells #[.pointer (some t)] 92)).alloc (.cells #[.pointer (some ⟨13, 92, none⟩), .pointer (some ⟨w.heap.size, 0, none⟩), .int .u64 150] 123)).alloc (.cells #[.pointer (some ⟨13, 92, none⟩), .pointer (some ⟨w.heap.size, 0, none⟩), .int .u64 150] 123)) (by rw [World.cell?_alloc_lt _ _ ⟨w.heap.size, 0, none⟩ (by simp; omega)]; simp)
  have st := setF t ⟨w.heap.size + 1 + 1 + 1, 0, none⟩ e old ((((w.alloc (.cells #[.pointer (some t)] 92)).alloc (.cells #[.pointer (some ⟨13, 92, none⟩), .pointer (some ⟨w.heap.size, 0, none⟩), .int .u64 150] 123)).alloc (.cells #[.pointer (some ⟨13, 92, none⟩), .pointer (some ⟨w.heap.size, 0, none⟩), .int .u64 150] 123)).alloc (.cells #[.pointer (some e)] 90))
    (by rw [World.cell?_alloc_at _ _ _ _ (by simp)]; rfl)
    (by rw [World.cell?_alloc_lt _ _ t (by simp; omega), World.cell?_alloc_lt _ _ t (by simp; omega), World.cell?_alloc_lt _ _ t (by simp; omega), World.cell?_alloc_lt _ _ t htl]; exact ht0)
    (by rw [World.frozen?_alloc_old _ _ t (by simp; omega), World.frozen?_alloc_old _ _ t (by simp; omega), World.frozen?_alloc_old _ _ t (by simp; omega), World.frozen?_alloc_old _ _ t (Nat.ne_of_lt htl)]; exact hf0)
  go_enter Tryd.func64, Tryd.ntmps64
  go_wp2
  refine wp_loop_rounds 1 ?_
  rw [rounds_succ]
  go_wp2
  go_ret
  exact ⟨rfl, rfl⟩

/-- errors.As at a Fault and a variable of the call's own: the variable holds the Fault; nothing else that was there has changed. -/
theorem as_any (e t : Addr) (old : Value) (w : World) (hg : w.cell? ⟨12, 0, none⟩ = some (.iface 138 (.agg #[.pointer (some ⟨13, 27, none⟩)]))) (ht0 : w.cell? t = some old) (hf0 : w.frozen? t = false) :
    Calls Tryd.prog 64 #[.iface 90 (.pointer (some e)), .iface 92 (.pointer (some t))] w fun ev w' => ev = .returned (.bool true) ∧ ∃ w1, Below w.heap.size w w1 ∧ w' = w1.setCell t (.pointer (some e)) :=
  (as_hit e t old w hg ht0 hf0).mono fun _ _ ⟨h1, h2⟩ => ⟨h1, _, ((((Below.refl _ _).alloc (Nat.le_refl _) _).alloc (by simp) _).alloc (by simp; omega) _).alloc (by simp; omega) _, h2⟩
end Errs
end Go.Proofs.YtbpdmpcakenjhaaDoor

namespace Go.Proofs.YtbpdmpcakenjhaaDoor
open Go.RowKit
set_option maxRecDepth 100000

/-- errors.errorType holds the handle of the type error. -/
def GlobE (w : World) : Prop := w.cell? ⟨12, 0, none⟩ = some (.iface 138 (.agg #[.pointer (some ⟨13, 27, none⟩)]))
theorem GlobE.below {w w' : World} (h : GlobE w) (hb : Below w.heap.size w w') : GlobE w' := cell_keep hb h

/-- An error's number and length are as every error's. -/
def PErr.Fine (t : PErr) : Prop := match t with | none => True | some (n, l) => 1 ≤ n ∧ n ≤ 11 ∧ l.length ≤ 1000

theorem takeD {P : Program} {ops : Array Oper} {Q : Exit → Act → World → Prop} {md : Region.Mode} {S : World → Prop} {i : Nat} {oi : Oper} {v : Value} {fuel : Nat} {listed : Array Bool} {a : Act} {w : World} (d : Option Tmp) (hi : ops[i]? = some oi) (hd : oi.dst = d)
    (hs : Region.noSelect ops = true) (hf : Region.free md ops listed i = true) (hr : (Region.ready md ops listed).contains i = true)
    (hQ : ∀ c a w, Q (.panic c) (a.put d v) w → Q (.panic c) a w) (hy : YieldsIf P ops S oi v a) (hS : S w)
    (h : wpAnyH P md ops Q S fuel (listed.setIfInBounds i true) (a.put d v) w) : wpAnyH P md ops Q S (fuel + 1) listed a w := by
  subst hd
  exact wpAnyH_take hi hs hf hr hQ hy hS h

theorem takeA {P : Program} {ops : Array Oper} {Q : Exit → Act → World → Prop} {md : Region.Mode} {i : Nat} {oi : Oper} {v : Value} {fuel : Nat} {listed : Array Bool} {a : Act} {w : World} (d : Option Tmp) (hi : ops[i]? = some oi) (hd : oi.dst = d)
    (hs : Region.noSelect ops = true) (hf : Region.free md ops listed i = true) (hr : (Region.ready md ops listed).contains i = true)
    (hQ : ∀ c a w, Q (.panic c) (a.put d v) w → Q (.panic c) a w) (hy : Yields P ops oi v a)
    (h : wpAny P md ops Q fuel (listed.setIfInBounds i true) (a.put d v) w) : wpAny P md ops Q (fuel + 1) listed a w := by
  subst hd
  exact wpAny_take hi hs hf hr hQ hy h

/-- errors.As at a Fault and a variable just laid: the variable holds the Fault; all that was there before it is as it was. -/
theorem as_keep (q : Addr) (wo wv w : World) (bv : Below wo.heap.size wo wv) (hw : w = wv.drew) (hG : GlobE wv) (zt : wv.cell? ⟨wo.heap.size, 0, none⟩ = some (.pointer none)) (ft : wv.frozen? ⟨wo.heap.size, 0, none⟩ = false) :
    Calls Tryd.prog 64 #[.iface 90 (.pointer (some q)), .iface 92 (.pointer (some ⟨wo.heap.size, 0, none⟩))] w fun e w' => e = .returned (.bool true) ∧ w'.cell? ⟨wo.heap.size, 0, none⟩ = some (.pointer (some q)) ∧ Below wo.heap.size wo w' := by
  subst hw
  refine (Errs.as_any q ⟨wo.heap.size, 0, none⟩ (.pointer none) wv.drew hG zt ft).mono ?_
  rintro e w6 ⟨rfl, w5, hb5, rfl⟩
  have h5 : Below wv.heap.size wv w5 := ((Below.refl wv.heap.size wv).drew).trans hb5
  refine ⟨rfl, World.cell?_setCell_same _ _ _ (cell_keep h5 zt), (Below.stepL bv h5).setCell (p := ⟨wo.heap.size, 0, none⟩) (Nat.le_refl _) _⟩

theorem raw_is_none (w : World) :
    Calls Tryd.prog 31 #[.nilIface, zErr] w (Ret1 (fun x _ => x = .bool true) w) := by
  go_enter Tryd.func31, Tryd.ntmps31
  go_wp2
  go_ret
  exact ⟨_, rfl, belowAlloc' _ _, rfl⟩

set_option maxHeartbeats 1000000 in
theorem raw_is_some (r : Nat → Addr) (n : Int) (l : List (ByteArray × Int)) (v e : Value) (w : World) (hg : Glob r w) (hG : GlobE w) (hv : ErrAt r w n l v) (he : EAt w (some (n, l)) e) (h1 : 1 ≤ n) (h11 : n ≤ 11) (hl : l.length ≤ 1000) :
    Calls Tryd.prog 31 #[v, e] w (Ret1 (fun x _ => x = .bool true) w) := by
  obtain ⟨a1, n1, c1, a2, n2, c2, rfl, hs, hi⟩ := he
  have b0 := belowAlloc' w (.cells #[.int .i64 n, .slice a1 n1 c1, .slice a2 n2 c2] 52)
  have hn0 : (n == 0) = false := by rw [beq_eq_false_iff_ne]; omega
  obtain ⟨T, p, rfl⟩ := hv.shape
  replace hv := Lib.hid (hv.below b0)
  have hg0 := Lib.hid hg
  replace hg := Lib.hid (hg.below b0)
  replace hG := Lib.hid (hG.below b0)
  have hsl := hs.len oneStrs
  rw [List.length_map] at hsl
  replace hs := Lib.hid (hs.below b0)
  replace hi := Lib.hid (hi.below b0)
  go_enter Tryd.func31, Tryd.ntmps31
  go_wp2_with fail
  refine (raw_root r n _ hg.out h1 h11).mono ?_
  rintro e w1 ⟨rfl, rfl⟩
  go_wp2_with fail
  refine (Errs.is_any r n l _ _ hv.out).mono ?_
  rintro e w1 ⟨rfl, rfl⟩
  have z : (w.alloc (.cells #[.int .i64 n, .slice a1 n1 c1, .slice a2 n2 c2] 52)).cell? ⟨w.heap.size, 0, none⟩ = some (.int .i64 n) ∧ (w.alloc (.cells #[.int .i64 n, .slice a1 n1 c1, .slice a2 n2 c2] 52)).cell? ⟨w.heap.size, 1, none⟩ = some (.slice a1 n1 c1) ∧ (w.alloc (.cells #[.int .i64 n, .slice a1 n1 c1, .slice a2 n2 c2] 52)).cell? ⟨w.heap.size, 2, none⟩ = some (.slice a2 n2 c2) := by simp
  obtain ⟨W, hW⟩ : ∃ W : World, W = w.alloc (.cells #[.int .i64 n, .slice a1 n1 c1, .slice a2 n2 c2] 52) := ⟨_, rfl⟩
  rw [← hW] at hv hg hG hs hi z b0 ⊢
  clear hW
  replace z := Lib.hid z
  go_wp2
  go_loopw [0, 5] (fun u i wr => ∃ k : Nat, k ≤ l.length ∧ i = .int .i64 k ∧ ErrAt r wr n (l.drop k) u ∧ Below W.heap.size W wr) (fun _ i _ => l.length - (intOf i).toNat)
  case atStart => exact ⟨0, by omega, rfl, hv.out, Below.refl _ _⟩
  case round =>
    obtain ⟨k, hk, rfl, hu, hB⟩ := hrel
    obtain ⟨wo, rfl⟩ : ∃ wo : World, wo = wr := ⟨_, rfl⟩
    obtain ⟨z0, z1, z2⟩ := keep3 hB z.out
    by_cases hkl : k < l.length
    · have hd : l.drop k = l[k] :: l.drop (k + 1) := List.drop_eq_getElem_cons hkl
      rw [hd] at hu
      generalize hlk : l[k] = x at hu
      obtain ⟨op, at_⟩ := x
      obtain ⟨q, u', rfl, d0, d1, d2, hrest⟩ := hu
      have hs' := hs.out.below hB
      have hi' := hi.out.below hB
      have i1 := hs'.idx oneStrs k (by simpa using hkl)
      have e1 := hs'.cell k (by simpa using hkl)
      have i2 := hi'.idx k (by simpa using hkl)
      have e2 := hi'.cell k (by simpa using hkl)
      simp only [List.getElem_map, hlk] at e1 e2
      replace hd := Lib.hid hd
      replace hlk := Lib.hid hlk
      replace hrest := Lib.hid hrest
      clear hs' hi'
      have gE := Lib.hid (hG.out.below hB)
      generalize valAt (.slice a1 n1 c1) k = A1 at i1 e1
      generalize valAt (.slice a2 n2 c2) k = A2 at i2 e2
      have bv := belowAlloc' wo (.cells #[.pointer none] 90)
      have y1 := cell_keep bv z1
      have y2 := cell_keep bv z2
      have g0 := cell_keep bv d0
      have g1 := cell_keep bv d1
      have s1 := (bv.cell (World.block_lt_of_cell? _ _ e1)).trans e1
      have s2 := (bv.cell (World.block_lt_of_cell? _ _ e2)).trans e2
      have zt : (wo.alloc (.cells #[.pointer none] 90)).cell? ⟨wo.heap.size, 0, none⟩ = some (.pointer none) := by simp
      have ft : (wo.alloc (.cells #[.pointer none] 90)).frozen? ⟨wo.heap.size, 0, none⟩ = false := by simp
      have gv := Lib.hid (gE.out.below bv)
      go_wp2
      obtain ⟨wv, hwv⟩ : ∃ W : World, W = wo.alloc (.cells #[.pointer none] 90) := ⟨_, rfl⟩
      rw [← hwv] at bv y1 y2 g0 g1 s1 s2 zt ft gv ⊢
      clear hwv
      replace z0 := Lib.hid z0
      replace z1 := Lib.hid z1
      replace z2 := Lib.hid z2
      replace d0 := Lib.hid d0
      replace d1 := Lib.hid d1
      replace d2 := Lib.hid d2
      replace e1 := Lib.hid e1
      replace e2 := Lib.hid e2
      refine wp_region_noPanic ?_
      refine wp_region_any (by kernel_rfl) ?_
      change wpAny _ _ _ _ _ _ _ (World.drew _)
      refine takeA (i := 0) (v := ?_) (some 29) rfl rfl (by kernel_rfl) (by kernel_rfl) (by kernel_rfl) (fun _ _ _ h => h) (Or.inl ⟨by rfl, ?_⟩) ?_
      rotate_left
      · intro _; go_simp; try with_reducible rfl
      simp only [Act.put, List.setIfInBounds_toArray, List.set_cons_zero, List.set_cons_succ]
      refine takeA (i := 1) (v := ?_) (some 30) rfl rfl (by kernel_rfl) (by kernel_rfl) (by kernel_rfl) (fun _ _ _ h => h) (Or.inl ⟨by rfl, ?_⟩) ?_
      rotate_left
      · intro _; go_simp; try with_reducible rfl
      simp only [Act.put, List.setIfInBounds_toArray, List.set_cons_zero, List.set_cons_succ]
      refine wpAny_ready (rs := [2]) (by kernel_rfl) (by simp) (AllReady.cons rfl (fun K hK => ?_) AllReady.nil)
      go_simp
      go_at_call 64
      refine (as_keep ⟨q, 0, none⟩ wo wv _ bv rfl gv.out zt ft).mono ?_
      rintro e w6 ⟨rfl, p0, b6⟩
      refine hK _ _ ?_
      clear hK K y1 y2 g0 g1 s1 s2
      have p1 := cell_keep b6 z1.out
      have p2 := cell_keep b6 z2.out
      have p3 := cell_keep b6 d0.out
      have p4 := cell_keep b6 d1.out
      have p5 := (b6.cell (World.block_lt_of_cell? _ _ e1.out)).trans e1.out
      have p6 := (b6.cell (World.block_lt_of_cell? _ _ e2.out)).trans e2.out
      have p7 := cell_keep b6 d2.out
      refine wpAny_of_held (S := fun w' => w' = w6) _ _ _ _ ?_
      refine takeD (i := 3) (v := ?_) (some 32) rfl rfl (by kernel_rfl) (by kernel_rfl) (by kernel_rfl) (fun _ _ _ h => h) (Or.inl ⟨by rfl, ?_⟩) rfl ?_
      rotate_left
      · intro _ hw; subst hw; go_simp; try with_reducible rfl
      simp only [Act.put, List.setIfInBounds_toArray, List.set_cons_zero, List.set_cons_succ]
      refine takeD (i := 4) (v := ?_) (some 33) rfl rfl (by kernel_rfl) (by kernel_rfl) (by kernel_rfl) (fun _ _ _ h => h) (Or.inl ⟨by rfl, ?_⟩) rfl ?_
      rotate_left
      · intro _ hw; subst hw; go_simp; try with_reducible rfl
      simp only [Act.put, List.setIfInBounds_toArray, List.set_cons_zero, List.set_cons_succ]
      refine takeD (i := 5) (v := ?_) (some 34) rfl rfl (by kernel_rfl) (by kernel_rfl) (by kernel_rfl) (fun _ _ _ h => h) (Or.inl ⟨by rfl, ?_⟩) rfl ?_
      rotate_left
      · intro _ hw; subst hw; go_simp; try with_reducible rfl
      simp only [Act.put, List.setIfInBounds_toArray, List.set_cons_zero, List.set_cons_succ]
      refine takeD (i := 6) (v := ?_) (some 35) rfl rfl (by kernel_rfl) (by kernel_rfl) (by kernel_rfl) (fun _ _ _ h => h) (Or.inl ⟨by rfl, ?_⟩) rfl ?_
      rotate_left
      · intro _ hw; subst hw; go_simp; try with_reducible rfl
      simp only [Act.put, List.setIfInBounds_toArray, List.set_cons_zero, List.set_cons_succ]
      refine takeD (i := 7) (v := ?_) (some 36) rfl rfl (by kernel_rfl) (by kernel_rfl) (by kernel_rfl) (fun _ _ _ h => h) (Or.inl ⟨by rfl, ?_⟩) rfl ?_
      rotate_left
      · intro _ hw; subst hw; go_simp; try with_reducible rfl
      simp only [Act.put, List.setIfInBounds_toArray, List.set_cons_zero, List.set_cons_succ]
      refine takeD (i := 8) (v := ?_) (some 37) rfl rfl (by kernel_rfl) (by kernel_rfl) (by kernel_rfl) (fun _ _ _ h => h) (Or.inl ⟨by rfl, ?_⟩) rfl ?_
      rotate_left
      · intro _ hw; subst hw; go_simp; try with_reducible rfl
      simp only [Act.put, List.setIfInBounds_toArray, List.set_cons_zero, List.set_cons_succ]
      refine takeD (i := 9) (v := ?_) (some 38) rfl rfl (by kernel_rfl) (by kernel_rfl) (by kernel_rfl) (fun _ _ _ h => h) (Or.inl ⟨by rfl, ?_⟩) rfl ?_
      rotate_left
      · intro _ hw; subst hw; go_simp; try with_reducible rfl
      simp only [Act.put, List.setIfInBounds_toArray, List.set_cons_zero, List.set_cons_succ]
      refine takeD (i := 10) (v := ?_) (some 39) rfl rfl (by kernel_rfl) (by kernel_rfl) (by kernel_rfl) (fun _ _ _ h => h) (Or.inl ⟨by rfl, ?_⟩) rfl ?_
      rotate_left
      · intro _ hw; subst hw; go_simp; try with_reducible rfl
      simp only [Act.put, List.setIfInBounds_toArray, List.set_cons_zero, List.set_cons_succ]
      refine takeD (i := 11) (v := ?_) (some 40) rfl rfl (by kernel_rfl) (by kernel_rfl) (by kernel_rfl) (fun _ _ _ h => h) (Or.inl ⟨by rfl, ?_⟩) rfl ?_
      rotate_left
      · intro _ hw; subst hw; go_simp; try with_reducible rfl
      simp only [Act.put, List.setIfInBounds_toArray, List.set_cons_zero, List.set_cons_succ]
      refine takeD (i := 12) (v := ?_) (some 41) rfl rfl (by kernel_rfl) (by kernel_rfl) (by kernel_rfl) (fun _ _ _ h => h) (Or.inl ⟨by rfl, ?_⟩) rfl ?_
      rotate_left
      · intro _ hw; subst hw; go_simp; try with_reducible rfl
      simp only [Act.put, List.setIfInBounds_toArray, List.set_cons_zero, List.set_cons_succ]
      refine takeD (i := 13) (v := ?_) (some 42) rfl rfl (by kernel_rfl) (by kernel_rfl) (by kernel_rfl) (fun _ _ _ h => h) (Or.inl ⟨by rfl, ?_⟩) rfl ?_
      rotate_left
      · intro _ hw; subst hw; go_simp; try with_reducible rfl
      simp only [Act.put, List.setIfInBounds_toArray, List.set_cons_zero, List.set_cons_succ]
      refine takeD (i := 14) (v := ?_) (some 43) rfl rfl (by kernel_rfl) (by kernel_rfl) (by kernel_rfl) (fun _ _ _ h => h) (Or.inl ⟨by rfl, ?_⟩) rfl ?_
      rotate_left
      · intro _ hw; subst hw; go_simp; try with_reducible rfl
      simp only [Act.put, List.setIfInBounds_toArray, List.set_cons_zero, List.set_cons_succ]
      refine takeD (i := 15) (v := ?_) (some 44) rfl rfl (by kernel_rfl) (by kernel_rfl) (by kernel_rfl) (fun _ _ _ h => h) (Or.inl ⟨by rfl, ?_⟩) rfl ?_
      rotate_left
      · intro _ hw; subst hw; go_simp; try with_reducible rfl
      simp only [Act.put, List.setIfInBounds_toArray, List.set_cons_zero, List.set_cons_succ]
      refine takeD (i := 16) (v := ?_) (some 45) rfl rfl (by kernel_rfl) (by kernel_rfl) (by kernel_rfl) (fun _ _ _ h => h) (Or.inl ⟨by rfl, ?_⟩) rfl ?_
      rotate_left
      · intro _ hw; subst hw; go_simp; try with_reducible rfl
      simp only [Act.put, List.setIfInBounds_toArray, List.set_cons_zero, List.set_cons_succ]
      refine takeD (i := 17) (v := ?_) (some 46) rfl rfl (by kernel_rfl) (by kernel_rfl) (by kernel_rfl) (fun _ _ _ h => h) (Or.inl ⟨by rfl, ?_⟩) rfl ?_
      rotate_left
      · intro _ hw; subst hw; go_simp; try with_reducible rfl
      simp only [Act.put, List.setIfInBounds_toArray, List.set_cons_zero, List.set_cons_succ]
      refine takeD (i := 18) (v := ?_) (some 47) rfl rfl (by kernel_rfl) (by kernel_rfl) (by kernel_rfl) (fun _ _ _ h => h) (Or.inl ⟨by rfl, ?_⟩) rfl ?_
      rotate_left
      · intro _ hw; subst hw; go_simp; try with_reducible rfl
      simp only [Act.put, List.setIfInBounds_toArray, List.set_cons_zero, List.set_cons_succ]
      refine takeD (i := 19) (v := ?_) (some 48) rfl rfl (by kernel_rfl) (by kernel_rfl) (by kernel_rfl) (fun _ _ _ h => h) (Or.inl ⟨by rfl, ?_⟩) rfl ?_
      rotate_left
      · intro _ hw; subst hw; go_simp; try with_reducible rfl
      simp only [Act.put, List.setIfInBounds_toArray, List.set_cons_zero, List.set_cons_succ]
      refine takeD (i := 20) (v := ?_) (some 49) rfl rfl (by kernel_rfl) (by kernel_rfl) (by kernel_rfl) (fun _ _ _ h => h) (Or.inl ⟨by rfl, ?_⟩) rfl ?_
      rotate_left
      · intro _ hw; subst hw; go_simp; try with_reducible rfl
      simp only [Act.put, List.setIfInBounds_toArray, List.set_cons_zero, List.set_cons_succ]
      refine takeD (i := 21) (v := ?_) (some 50) rfl rfl (by kernel_rfl) (by kernel_rfl) (by kernel_rfl) (fun _ _ _ h => h) (Or.inl ⟨by rfl, ?_⟩) rfl ?_
      rotate_left
      · intro _ hw; subst hw; go_simp; try with_reducible rfl
      simp only [Act.put, List.setIfInBounds_toArray, List.set_cons_zero, List.set_cons_succ]
      refine takeD (i := 22) (v := ?_) (some 51) rfl rfl (by kernel_rfl) (by kernel_rfl) (by kernel_rfl) (fun _ _ _ h => h) (Or.inl ⟨by rfl, ?_⟩) rfl ?_
      rotate_left
      · intro _ hw; subst hw; go_simp; try with_reducible rfl
      simp only [Act.put, List.setIfInBounds_toArray, List.set_cons_zero, List.set_cons_succ]
      refine takeD (i := 23) (v := ?_) (some 52) rfl rfl (by kernel_rfl) (by kernel_rfl) (by kernel_rfl) (fun _ _ _ h => h) (Or.inl ⟨by rfl, ?_⟩) rfl ?_
      rotate_left
      · intro _ hw; subst hw; go_simp; try with_reducible rfl
      simp only [Act.put, List.setIfInBounds_toArray, List.set_cons_zero, List.set_cons_succ]
      refine takeD (i := 24) (v := ?_) (some 53) rfl rfl (by kernel_rfl) (by kernel_rfl) (by kernel_rfl) (fun _ _ _ h => h) (Or.inl ⟨by rfl, ?_⟩) rfl ?_
      rotate_left
      · intro _ hw; subst hw; go_simp; try with_reducible rfl
      simp only [Act.put, List.setIfInBounds_toArray, List.set_cons_zero, List.set_cons_succ]
      refine takeD (i := 25) (v := ?_) (some 54) rfl rfl (by kernel_rfl) (by kernel_rfl) (by kernel_rfl) (fun _ _ _ h => h) (Or.inl ⟨by rfl, ?_⟩) rfl ?_
      rotate_left
      · intro _ hw; subst hw; go_simp; try with_reducible rfl
      simp only [Act.put, List.setIfInBounds_toArray, List.set_cons_zero, List.set_cons_succ]
      refine takeD (i := 26) (v := ?_) (some 55) rfl rfl (by kernel_rfl) (by kernel_rfl) (by kernel_rfl) (fun _ _ _ h => h) (Or.inl ⟨by rfl, ?_⟩) rfl ?_
      rotate_left
      · intro _ hw; subst hw; go_simp; try with_reducible rfl
      simp only [Act.put, List.setIfInBounds_toArray, List.set_cons_zero, List.set_cons_succ]
      refine takeD (i := 27) (v := ?_) (some 56) rfl rfl (by kernel_rfl) (by kernel_rfl) (by kernel_rfl) (fun _ _ _ h => h) (Or.inl ⟨by rfl, ?_⟩) rfl ?_
      rotate_left
      · intro _ hw; subst hw; go_simp; try with_reducible rfl
      simp only [Act.put, List.setIfInBounds_toArray, List.set_cons_zero, List.set_cons_succ]
      refine takeD (i := 28) (v := ?_) (some 57) rfl rfl (by kernel_rfl) (by kernel_rfl) (by kernel_rfl) (fun _ _ _ h => h) (Or.inl ⟨by rfl, ?_⟩) rfl ?_
      rotate_left
      · intro _ hw; subst hw; go_simp; try with_reducible rfl
      simp only [Act.put, List.setIfInBounds_toArray, List.set_cons_zero, List.set_cons_succ]
      refine takeD (i := 29) (v := ?_) (some 58) rfl rfl (by kernel_rfl) (by kernel_rfl) (by kernel_rfl) (fun _ _ _ h => h) (Or.inl ⟨by rfl, ?_⟩) rfl ?_
      rotate_left
      · intro _ hw; subst hw; go_simp; try with_reducible rfl
      simp only [Act.put, List.setIfInBounds_toArray, List.set_cons_zero, List.set_cons_succ]
      refine takeD (i := 30) (v := ?_) (some 59) rfl rfl (by kernel_rfl) (by kernel_rfl) (by kernel_rfl) (fun _ _ _ h => h) (Or.inl ⟨by rfl, ?_⟩) rfl ?_
      rotate_left
      · intro _ hw; subst hw; go_simp; try with_reducible rfl
      simp only [Act.put, List.setIfInBounds_toArray, List.set_cons_zero, List.set_cons_succ]
      refine takeD (i := 31) (v := ?_) (some 60) rfl rfl (by kernel_rfl) (by kernel_rfl) (by kernel_rfl) (fun _ _ _ h => h) (Or.inl ⟨by rfl, ?_⟩) rfl ?_
      rotate_left
      · intro _ hw; subst hw; go_simp; try with_reducible rfl
      simp only [Act.put, List.setIfInBounds_toArray, List.set_cons_zero, List.set_cons_succ]
      refine wpAnyH_done (by kernel_rfl) ?_ _
      refine NoPanic.normal ?_
      have hr6 := Lib.hid (hrest.out.below b6)
      have hB6 := Lib.hid (Below.stepL hB b6)
      clear p1 p2 p3 p4 p5 p6
      go_wp2
      go_roundw
      case rel => exact ⟨k + 1, by omega, by go_num, hr6.out, hB6.out⟩
      case measure => simp [intOf]; omega
    · obtain rfl : k = l.length := by omega
      rw [List.drop_length] at hu
      obtain rfl : _ = rootV r n := hu
      obtain ⟨i, hi, hcmp⟩ := Option.map_eq_some_iff.1 Errs.compE
      obtain ⟨j, hj, hjs⟩ := Option.map_eq_some_iff.1 Errs.sizeE
      have heq := run_eql_iface_ptr_same (P := Tryd.prog) wo (r n.toNat) Errs.uErr Errs.uES hi hcmp hj
      clear hi hcmp hj hjs
      have hgo := Lib.hid (hg.out.below hB)
      have hBf := Lib.hid (Below.stepL b0 hB)
      go_wp2_with fail
      refine (raw_root r n _ hgo.out h1 h11).mono ?_
      rintro e w1 ⟨rfl, rfl⟩
      go_wp2
      go_ret
      exact ⟨_, rfl, hBf.out, rfl⟩

/-- edenraw.Is at an error that is what it must be. -/
theorem raw_is (r : Nat → Addr) (t : PErr) (v e : Value) (w : World) (hg : Glob r w) (hG : GlobE w) (hv : ErrIs r w t v) (he : EAt w t e) (ht : t.Fine) :
    Calls Tryd.prog 31 #[v, e] w (Ret1 (fun x _ => x = .bool true) w) := by
  match t, hv, he, ht with
  | none, hv, he, _ =>
    obtain rfl := ErrIs.none_eq hv
    obtain rfl : e = zErr := he
    exact raw_is_none w
  | some (n, l), hv, he, ⟨h1, h11, hl⟩ => exact raw_is_some r n l v e w hg hG hv he h1 h11 hl

end Go.Proofs.YtbpdmpcakenjhaaDoor

namespace Go.Proofs.YtbpdmpcakenjhaaDoor
open Go.RowKit
set_option maxRecDepth 100000

/-- The names ahead of the search: two empty stacks. -/
def names0 : Names := fun i => if i = (3, 0) then some (rowI (.slice none 0 0) []) else if i = (5, 0) then some ⟨114, 2, .slice none 0 0, 0, []⟩ else none
theorem rows0 (B : Nat) (w : World) : Rows B w names0 := by
  refine ⟨fun i r hi => ?_, fun i j r s hi hj hne => ?_⟩
  · unfold names0 at hi
    split at hi
    · injection hi with hi; subst hi; exact OwnI.nil B w
    · split at hi
      · injection hi with hi; subst hi; exact World.ownsRow_nil w B _ 2
      · cases hi
  · left
    unfold names0 at hi
    split at hi
    · injection hi with hi; subst hi; rfl
    · split at hi
      · injection hi with hi; subst hi; rfl
      · cases hi
theorem tab_zero (n : Nat) : tab n (fun _ => 0) = List.replicate n 0 := by
  unfold tab; apply List.ext_getElem <;> simp
theorem tabI_neg (n : Nat) : tabI n (fun _ => -1) = List.replicate n (-1) := by
  unfold tabI; apply List.ext_getElem <;> simp
/-- The search's box is made. -/
theorem search_box {B : Nat} {W : World} {f : Names} {na : Option Addr} {gl nc n : Nat} {lv fv pv : Value} (hr : Rows B W f) (hB : B ≤ W.heap.size)
    (h1 : f (1, 0) = some (rowI lv (List.replicate n 0))) (h2 : f (2, 0) = some (rowI fv (List.replicate n 0))) (h4 : f (4, 0) = some (rowI pv (List.replicate n (-1))))
    (h3 : f (3, 0) = some (rowI (.slice none 0 0) [])) (h5 : f (5, 0) = some ⟨114, 2, .slice none 0 0, 0, []⟩) :
    Rows B (W.alloc (.cells #[.slice na gl nc, lv, fv, .slice none 0 0, pv, .slice none 0 0, .int .i64 0] 82)) (upd f (0, 0) (some ⟨82, 7, .slice (some ⟨W.heap.size, 0, none⟩) 1 1, 1, [.slice na gl nc, lv, fv, .slice none 0 0, pv, .slice none 0 0, .int .i64 0]⟩)) ∧
      SN (upd f (0, 0) (some ⟨82, 7, .slice (some ⟨W.heap.size, 0, none⟩) 1 1, 1, [.slice na gl nc, lv, fv, .slice none 0 0, pv, .slice none 0 0, .int .i64 0]⟩)) W.heap.size (.slice na gl nc) lv fv pv (.slice none 0 0) (.slice none 0 0) n initS := by
  refine ⟨hr.add (belowAlloc W _) ⟨rfl, .inr ⟨W.heap.size, 1, _, rfl, hB, heap_alloc_new W _, Nat.le_refl _, by unfold maxLen; omega, rfl, rfl⟩⟩ (fun k hk => by cases hk; exact Nat.le_refl _), ⟨upd_same _ _ _, ?_, ?_, ?_, ?_, ?_⟩⟩
  · rw [upd_ne _ _ (by simp), h1]; show _ = some (rowI lv (tab n fun _ => 0)); rw [tab_zero]
  · rw [upd_ne _ _ (by simp), h2]; show _ = some (rowI fv (tab n fun _ => 0)); rw [tab_zero]
  · rw [upd_ne _ _ (by simp), h3]; rfl
  · rw [upd_ne _ _ (by simp), h4]; show _ = some (rowI pv (tabI n fun _ => -1)); rw [tabI_neg]
  · rw [upd_ne _ _ (by simp), h5]; rfl

/-- What Parts leaves. -/
def PartsPost (r : Nat → Addr) (w : World) (G : List (List Int)) (x y : Value) (w' : World) : Prop :=
  ErrIs r w' (checkG G) y ∧ (checkG G = none → ∃ ps, PartsOf G.length (adjOf G) ps ∧ OwnI w.heap.size w' x ps) ∧ (checkG G ≠ none → x = .slice none 0 0)

set_option maxHeartbeats 4000000 in
theorem parts_any (r : Nat → Addr) (na : Option Addr) (nc : Nat) (G : List (List Int)) (w : World) (hg : Glob r w) (h : ListsAt w (.slice na G.length nc) G) (hsz : ∀ k, k < G.length → (G.getD k []).length ≤ 17592186044416) :
    Calls Tryd.prog 20 #[.slice na G.length nc] w (Ret2 (PartsPost r w G) w) := by
  have hC := graph_check r na nc G w hg h hsz
  cases hck : checkG G with
  | some t =>
    rw [hck] at hC
    replace hck := Lib.hid hck
    replace h := Lib.hid h
    replace hg := Lib.hid hg
    replace hsz := Lib.hid hsz
    go_enter Tryd.func20, Tryd.ntmps20
    go_wp2_with fail
    refine hC.mono ?_
    rintro e w1 ⟨y, rfl, b1, he⟩
    obtain ⟨T, a, rfl⟩ := he.some_shape
    replace he := Lib.hid he
    go_wp2
    go_ret2
    exact ⟨_, _, rfl, b1, ⟨by rw [hck.out]; exact he.out, ⟨fun q => (by rw [hck.out] at q; cases q), fun _ => rfl⟩⟩⟩
  | none =>
    rw [hck] at hC
    obtain ⟨hn, harr, hok⟩ := checkG_none hck
    replace hck := Lib.hid hck
    replace h := Lib.hid h
    replace hg := Lib.hid hg
    replace hsz := Lib.hid hsz
    replace hok := Lib.hid hok
    go_enter Tryd.func20, Tryd.ntmps20
    go_wp2_with fail
    refine hC.mono ?_
    rintro e w1 ⟨y, rfl, b1, he⟩
    obtain rfl := he.none_eq
    clear he hC
    go_upto_region 5 with fail
    go_cut [6] from 14 (fun s6 wx => ∃ d f lv fv pv, s6 = .pointer (some ⟨d, 0, none⟩) ∧ Below w1.heap.size w1 wx ∧ Rows w1.heap.size wx f ∧ SN f d (.slice na G.length nc) lv fv pv (.slice none 0 0) (.slice none 0 0) G.length initS)
    case first =>
      obtain ⟨W0, hW0⟩ : ∃ W0 : World, W0 = w1.drew := ⟨_, rfl⟩
      have b0 : Below w1.heap.size w1 W0 := by rw [hW0]; exact (Below.refl _ _).drew
      have R0 := rows0 w1.heap.size W0
      have hB0 := b0.size
      refine wp_region_noPanic ?_
      refine wp_region_any (by kernel_rfl) ?_
      change wpAny _ _ _ _ _ _ _ (World.drew _)
      rw [← hW0]
      clear hW0
      refine takeA (i := 0) (v := ?_) (some 21) rfl rfl (by kernel_rfl) (by kernel_rfl) (by kernel_rfl) (fun _ _ _ h => h) (Or.inl ⟨by rfl, ?_⟩) ?_
      rotate_left
      · intro _; go_simp; try with_reducible rfl
      simp only [Act.put, List.setIfInBounds_toArray, List.set_cons_zero, List.set_cons_succ]
      refine takeA (i := 1) (v := ?_) (some 22) rfl rfl (by kernel_rfl) (by kernel_rfl) (by kernel_rfl) (fun _ _ _ h => h) (Or.inl ⟨by rfl, ?_⟩) ?_
      rotate_left
      · intro _; go_simp; try with_reducible rfl
      simp only [Act.put, List.setIfInBounds_toArray, List.set_cons_zero, List.set_cons_succ]
      refine takeA (i := 3) (v := ?_) (some 24) rfl rfl (by kernel_rfl) (by kernel_rfl) (by kernel_rfl) (fun _ _ _ h => h) (Or.inl ⟨by rfl, ?_⟩) ?_
      rotate_left
      · intro _; go_simp; try with_reducible rfl
      simp only [Act.put, List.setIfInBounds_toArray, List.set_cons_zero, List.set_cons_succ]
      refine takeA (i := 6) (v := ?_) (some 27) rfl rfl (by kernel_rfl) (by kernel_rfl) (by kernel_rfl) (fun _ _ _ h => h) (Or.inl ⟨by rfl, ?_⟩) ?_
      rotate_left
      · intro _; go_simp; try with_reducible rfl
      simp only [Act.put, List.setIfInBounds_toArray, List.set_cons_zero, List.set_cons_succ]
      refine wpAny_ready (rs := [2, 4, 5]) (by kernel_rfl) (by simp) (AllReady.cons rfl (fun KK hK => ?_) (AllReady.cons rfl (fun KK hK => ?_) (AllReady.cons rfl (fun KK hK => ?_) (AllReady.nil))))
      · obtain ⟨lv, W1, mk, ho, hb⟩ := run_makeI (G.length : Int) G.length W0 rfl (by omega)
        obtain ⟨lva, lvn, lvc, rfl⟩ := ho.at.shape
        go_simp
        refine hK _ _ ?_
        clear hK KK mk
        have R1 := R0.add (i := (1, 0)) (r' := rowI (.slice lva lvn lvc) (List.replicate G.length 0)) hb (ho.mono hB0) (fun k hk => (ho.lt k hk).1)
        have b1 := b0.trans (hb.mono hB0)
        have hB1 := Nat.le_trans hB0 hb.size
        clear ho hb R0
        refine wpAny_ready (rs := [4, 5]) (by kernel_rfl) (by simp) (AllReady.cons rfl (fun KK hK => ?_) (AllReady.cons rfl (fun KK hK => ?_) (AllReady.nil)))
        · obtain ⟨fv, W2, mk, ho, hb⟩ := run_makeI (G.length : Int) G.length W1 rfl (by omega)
          obtain ⟨fva, fvn, fvc, rfl⟩ := ho.at.shape
          go_simp
          refine hK _ _ ?_
          clear hK KK mk
          have R2 := R1.add (i := (2, 0)) (r' := rowI (.slice fva fvn fvc) (List.replicate G.length 0)) hb (ho.mono hB1) (fun k hk => (ho.lt k hk).1)
          have b2 := b1.trans (hb.mono hB1)
          have hB2 := Nat.le_trans hB1 hb.size
          clear ho hb R1
          refine wpAny_ready (rs := [5]) (by kernel_rfl) (by simp) (AllReady.cons rfl (fun KK hK => ?_) (AllReady.nil))
          · go_simp
            refine hK _ _ ?_
            clear hK KK
            have hb := belowAlloc W2 (.cells #[.int .i64 (-1)] 3)
            have hI3 := (OwnI.lit W2.heap.size W2 (Nat.le_refl _) [-1] (by simp [maxLen]) #[.int .i64 (-1)] rfl 1 rfl).at
            obtain ⟨W3, hW3⟩ : ∃ W3 : World, W3 = W2.alloc (.cells #[.int .i64 (-1)] 3) := ⟨_, rfl⟩
            rw [← hW3]
            rw [← hW3] at hb hI3
            clear hW3
            have R3 := R2.below hb
            have b3 := b2.trans (hb.mono hB2)
            have hB3 := Nat.le_trans hB2 hb.size
            clear hb R2
            refine wpAny_ready (rs := [7]) (by kernel_rfl) (by simp) (AllReady.cons rfl (fun KK hK => ?_) (AllReady.nil))
            · go_simp
              refine (repeat_any _ (-1) G.length _ hI3 (by omega)).mono ?_
              rintro e W4 ⟨pv, rfl, hb, ho⟩
              obtain ⟨pva, pvn, pvc, rfl⟩ := ho.at.shape
              refine hK _ _ ?_
              clear hK KK
              have R4 := R3.add (i := (4, 0)) (r' := rowI (.slice pva pvn pvc) (List.replicate G.length (-1))) hb (ho.mono hB3) (fun k hk => (ho.lt k hk).1)
              have b4 := b3.trans (hb.mono hB3)
              have hB4 := Nat.le_trans hB3 hb.size
              have hI4 := hI3.below hb
              clear ho hb R3 hI3
              refine takeA (i := 8) (v := ?_) (some 29) rfl rfl (by kernel_rfl) (by kernel_rfl) (by kernel_rfl) (fun _ _ _ h => h) (Or.inl ⟨by rfl, ?_⟩) ?_
              rotate_left
              · intro _; go_simp; try with_reducible rfl
              simp only [Act.put, List.setIfInBounds_toArray, List.set_cons_zero, List.set_cons_succ]
              have Rb := search_box (na := na) (gl := G.length) (nc := nc) (n := G.length) (lv := .slice lva lvn lvc) (fv := .slice fva fvn fvc) (pv := .slice pva pvn pvc) R4 hB4 (by simp [upd]) (by simp [upd]) (by simp [upd]) (by simp [upd, names0]) (by simp [upd, names0])
              replace Rb := Lib.hid Rb
              replace R4 := Lib.hid R4
              have bb := b4.trans ((belowAlloc W4 (.cells #[.slice na G.length nc, .slice lva lvn lvc, .slice fva fvn fvc, .slice none 0 0, .slice pva pvn pvc, .slice none 0 0, .int .i64 0] 82)).mono hB4)
              refine wpAny_ready (rs := [9]) (by kernel_rfl) (by simp) (AllReady.cons rfl (fun KK hK => ?_) AllReady.nil)
              go_simp
              refine hK _ _ ?_
              clear hK KK
              refine takeA (i := 10) (v := ?_) (some 6) rfl rfl (by kernel_rfl) (by kernel_rfl) (by kernel_rfl) (fun _ _ _ h => h) (Or.inl ⟨by rfl, ?_⟩) ?_
              rotate_left
              · intro _; go_simp; try with_reducible rfl
              simp only [Act.put, List.setIfInBounds_toArray, List.set_cons_zero, List.set_cons_succ]
              refine wpAny_done (by kernel_rfl) ?_ _
              refine NoPanic.normal ?_
              go_wp2
              go_meet
              case rel => exact ⟨_, _, _, _, _, rfl, bb, Rb.out.1, Rb.out.2⟩
        · go_simp
          refine hK _ _ ?_
          clear hK KK
          have hb := belowAlloc W1 (.cells #[.int .i64 (-1)] 3)
          have hI5 := (OwnI.lit W1.heap.size W1 (Nat.le_refl _) [-1] (by simp [maxLen]) #[.int .i64 (-1)] rfl 1 rfl).at
          obtain ⟨W5, hW5⟩ : ∃ W5 : World, W5 = W1.alloc (.cells #[.int .i64 (-1)] 3) := ⟨_, rfl⟩
          rw [← hW5]
          rw [← hW5] at hb hI5
          clear hW5
          have R5 := R1.below hb
          have b5 := b1.trans (hb.mono hB1)
          have hB5 := Nat.le_trans hB1 hb.size
          clear hb R1
          refine wpAny_ready (rs := [4, 7]) (by kernel_rfl) (by simp) (AllReady.cons rfl (fun KK hK => ?_) (AllReady.cons rfl (fun KK hK => ?_) (AllReady.nil)))
          · obtain ⟨fv, W6, mk, ho, hb⟩ := run_makeI (G.length : Int) G.length W5 rfl (by omega)
            obtain ⟨fva, fvn, fvc, rfl⟩ := ho.at.shape
            go_simp
            refine hK _ _ ?_
            clear hK KK mk
            have R6 := R5.add (i := (2, 0)) (r' := rowI (.slice fva fvn fvc) (List.replicate G.length 0)) hb (ho.mono hB5) (fun k hk => (ho.lt k hk).1)
            have b6 := b5.trans (hb.mono hB5)
            have hB6 := Nat.le_trans hB5 hb.size
            have hI6 := hI5.below hb
            clear hI5
            clear ho hb R5
            refine wpAny_ready (rs := [7]) (by kernel_rfl) (by simp) (AllReady.cons rfl (fun KK hK => ?_) (AllReady.nil))
            · go_simp
              refine (repeat_any _ (-1) G.length _ hI6 (by omega)).mono ?_
              rintro e W7 ⟨pv, rfl, hb, ho⟩
              obtain ⟨pva, pvn, pvc, rfl⟩ := ho.at.shape
              refine hK _ _ ?_
              clear hK KK
              have R7 := R6.add (i := (4, 0)) (r' := rowI (.slice pva pvn pvc) (List.replicate G.length (-1))) hb (ho.mono hB6) (fun k hk => (ho.lt k hk).1)
              have b7 := b6.trans (hb.mono hB6)
              have hB7 := Nat.le_trans hB6 hb.size
              have hI7 := hI6.below hb
              clear ho hb R6 hI6
              refine takeA (i := 8) (v := ?_) (some 29) rfl rfl (by kernel_rfl) (by kernel_rfl) (by kernel_rfl) (fun _ _ _ h => h) (Or.inl ⟨by rfl, ?_⟩) ?_
              rotate_left
              · intro _; go_simp; try with_reducible rfl
              simp only [Act.put, List.setIfInBounds_toArray, List.set_cons_zero, List.set_cons_succ]
              have Rb := search_box (na := na) (gl := G.length) (nc := nc) (n := G.length) (lv := .slice lva lvn lvc) (fv := .slice fva fvn fvc) (pv := .slice pva pvn pvc) R7 hB7 (by simp [upd]) (by simp [upd]) (by simp [upd]) (by simp [upd, names0]) (by simp [upd, names0])
              replace Rb := Lib.hid Rb
              replace R7 := Lib.hid R7
              have bb := b7.trans ((belowAlloc W7 (.cells #[.slice na G.length nc, .slice lva lvn lvc, .slice fva fvn fvc, .slice none 0 0, .slice pva pvn pvc, .slice none 0 0, .int .i64 0] 82)).mono hB7)
              refine wpAny_ready (rs := [9]) (by kernel_rfl) (by simp) (AllReady.cons rfl (fun KK hK => ?_) AllReady.nil)
              go_simp
              refine hK _ _ ?_
              clear hK KK
              refine takeA (i := 10) (v := ?_) (some 6) rfl rfl (by kernel_rfl) (by kernel_rfl) (by kernel_rfl) (fun _ _ _ h => h) (Or.inl ⟨by rfl, ?_⟩) ?_
              rotate_left
              · intro _; go_simp; try with_reducible rfl
              simp only [Act.put, List.setIfInBounds_toArray, List.set_cons_zero, List.set_cons_succ]
              refine wpAny_done (by kernel_rfl) ?_ _
              refine NoPanic.normal ?_
              go_wp2
              go_meet
              case rel => exact ⟨_, _, _, _, _, rfl, bb, Rb.out.1, Rb.out.2⟩
          · go_simp
            refine (repeat_any _ (-1) G.length _ hI5 (by omega)).mono ?_
            rintro e W8 ⟨pv, rfl, hb, ho⟩
            obtain ⟨pva, pvn, pvc, rfl⟩ := ho.at.shape
            refine hK _ _ ?_
            clear hK KK
            have R8 := R5.add (i := (4, 0)) (r' := rowI (.slice pva pvn pvc) (List.replicate G.length (-1))) hb (ho.mono hB5) (fun k hk => (ho.lt k hk).1)
            have b8 := b5.trans (hb.mono hB5)
            have hB8 := Nat.le_trans hB5 hb.size
            have hI8 := hI5.below hb
            clear ho hb R5 hI5
            refine wpAny_ready (rs := [4]) (by kernel_rfl) (by simp) (AllReady.cons rfl (fun KK hK => ?_) (AllReady.nil))
            · obtain ⟨fv, W9, mk, ho, hb⟩ := run_makeI (G.length : Int) G.length W8 rfl (by omega)
              obtain ⟨fva, fvn, fvc, rfl⟩ := ho.at.shape
              go_simp
              refine hK _ _ ?_
              clear hK KK mk
              have R9 := R8.add (i := (2, 0)) (r' := rowI (.slice fva fvn fvc) (List.replicate G.length 0)) hb (ho.mono hB8) (fun k hk => (ho.lt k hk).1)
              have b9 := b8.trans (hb.mono hB8)
              have hB9 := Nat.le_trans hB8 hb.size
              have hI9 := hI8.below hb
              clear hI8
              clear ho hb R8
              refine takeA (i := 8) (v := ?_) (some 29) rfl rfl (by kernel_rfl) (by kernel_rfl) (by kernel_rfl) (fun _ _ _ h => h) (Or.inl ⟨by rfl, ?_⟩) ?_
              rotate_left
              · intro _; go_simp; try with_reducible rfl
              simp only [Act.put, List.setIfInBounds_toArray, List.set_cons_zero, List.set_cons_succ]
              have Rb := search_box (na := na) (gl := G.length) (nc := nc) (n := G.length) (lv := .slice lva lvn lvc) (fv := .slice fva fvn fvc) (pv := .slice pva pvn pvc) R9 hB9 (by simp [upd]) (by simp [upd]) (by simp [upd]) (by simp [upd, names0]) (by simp [upd, names0])
              replace Rb := Lib.hid Rb
              replace R9 := Lib.hid R9
              have bb := b9.trans ((belowAlloc W9 (.cells #[.slice na G.length nc, .slice lva lvn lvc, .slice fva fvn fvc, .slice none 0 0, .slice pva pvn pvc, .slice none 0 0, .int .i64 0] 82)).mono hB9)
              refine wpAny_ready (rs := [9]) (by kernel_rfl) (by simp) (AllReady.cons rfl (fun KK hK => ?_) AllReady.nil)
              go_simp
              refine hK _ _ ?_
              clear hK KK
              refine takeA (i := 10) (v := ?_) (some 6) rfl rfl (by kernel_rfl) (by kernel_rfl) (by kernel_rfl) (fun _ _ _ h => h) (Or.inl ⟨by rfl, ?_⟩) ?_
              rotate_left
              · intro _; go_simp; try with_reducible rfl
              simp only [Act.put, List.setIfInBounds_toArray, List.set_cons_zero, List.set_cons_succ]
              refine wpAny_done (by kernel_rfl) ?_ _
              refine NoPanic.normal ?_
              go_wp2
              go_meet
              case rel => exact ⟨_, _, _, _, _, rfl, bb, Rb.out.1, Rb.out.2⟩
      · obtain ⟨fv, W10, mk, ho, hb⟩ := run_makeI (G.length : Int) G.length W0 rfl (by omega)
        obtain ⟨fva, fvn, fvc, rfl⟩ := ho.at.shape
        go_simp
        refine hK _ _ ?_
        clear hK KK mk
        have R10 := R0.add (i := (2, 0)) (r' := rowI (.slice fva fvn fvc) (List.replicate G.length 0)) hb (ho.mono hB0) (fun k hk => (ho.lt k hk).1)
        have b10 := b0.trans (hb.mono hB0)
        have hB10 := Nat.le_trans hB0 hb.size
        clear ho hb R0
        refine wpAny_ready (rs := [2, 5]) (by kernel_rfl) (by simp) (AllReady.cons rfl (fun KK hK => ?_) (AllReady.cons rfl (fun KK hK => ?_) (AllReady.nil)))
        · obtain ⟨lv, W11, mk, ho, hb⟩ := run_makeI (G.length : Int) G.length W10 rfl (by omega)
          obtain ⟨lva, lvn, lvc, rfl⟩ := ho.at.shape
          go_simp
          refine hK _ _ ?_
          clear hK KK mk
          have R11 := R10.add (i := (1, 0)) (r' := rowI (.slice lva lvn lvc) (List.replicate G.length 0)) hb (ho.mono hB10) (fun k hk => (ho.lt k hk).1)
          have b11 := b10.trans (hb.mono hB10)
          have hB11 := Nat.le_trans hB10 hb.size
          clear ho hb R10
          refine wpAny_ready (rs := [5]) (by kernel_rfl) (by simp) (AllReady.cons rfl (fun KK hK => ?_) (AllReady.nil))
          · go_simp
            refine hK _ _ ?_
            clear hK KK
            have hb := belowAlloc W11 (.cells #[.int .i64 (-1)] 3)
            have hI12 := (OwnI.lit W11.heap.size W11 (Nat.le_refl _) [-1] (by simp [maxLen]) #[.int .i64 (-1)] rfl 1 rfl).at
            obtain ⟨W12, hW12⟩ : ∃ W12 : World, W12 = W11.alloc (.cells #[.int .i64 (-1)] 3) := ⟨_, rfl⟩
            rw [← hW12]
            rw [← hW12] at hb hI12
            clear hW12
            have R12 := R11.below hb
            have b12 := b11.trans (hb.mono hB11)
            have hB12 := Nat.le_trans hB11 hb.size
            clear hb R11
            refine wpAny_ready (rs := [7]) (by kernel_rfl) (by simp) (AllReady.cons rfl (fun KK hK => ?_) (AllReady.nil))
            · go_simp
              refine (repeat_any _ (-1) G.length _ hI12 (by omega)).mono ?_
              rintro e W13 ⟨pv, rfl, hb, ho⟩
              obtain ⟨pva, pvn, pvc, rfl⟩ := ho.at.shape
              refine hK _ _ ?_
              clear hK KK
              have R13 := R12.add (i := (4, 0)) (r' := rowI (.slice pva pvn pvc) (List.replicate G.length (-1))) hb (ho.mono hB12) (fun k hk => (ho.lt k hk).1)
              have b13 := b12.trans (hb.mono hB12)
              have hB13 := Nat.le_trans hB12 hb.size
              have hI13 := hI12.below hb
              clear ho hb R12 hI12
              refine takeA (i := 8) (v := ?_) (some 29) rfl rfl (by kernel_rfl) (by kernel_rfl) (by kernel_rfl) (fun _ _ _ h => h) (Or.inl ⟨by rfl, ?_⟩) ?_
              rotate_left
              · intro _; go_simp; try with_reducible rfl
              simp only [Act.put, List.setIfInBounds_toArray, List.set_cons_zero, List.set_cons_succ]
              have Rb := search_box (na := na) (gl := G.length) (nc := nc) (n := G.length) (lv := .slice lva lvn lvc) (fv := .slice fva fvn fvc) (pv := .slice pva pvn pvc) R13 hB13 (by simp [upd]) (by simp [upd]) (by simp [upd]) (by simp [upd, names0]) (by simp [upd, names0])
              replace Rb := Lib.hid Rb
              replace R13 := Lib.hid R13
              have bb := b13.trans ((belowAlloc W13 (.cells #[.slice na G.length nc, .slice lva lvn lvc, .slice fva fvn fvc, .slice none 0 0, .slice pva pvn pvc, .slice none 0 0, .int .i64 0] 82)).mono hB13)
              refine wpAny_ready (rs := [9]) (by kernel_rfl) (by simp) (AllReady.cons rfl (fun KK hK => ?_) AllReady.nil)
              go_simp
              refine hK _ _ ?_
              clear hK KK
              refine takeA (i := 10) (v := ?_) (some 6) rfl rfl (by kernel_rfl) (by kernel_rfl) (by kernel_rfl) (fun _ _ _ h => h) (Or.inl ⟨by rfl, ?_⟩) ?_
              rotate_left
              · intro _; go_simp; try with_reducible rfl
              simp only [Act.put, List.setIfInBounds_toArray, List.set_cons_zero, List.set_cons_succ]
              refine wpAny_done (by kernel_rfl) ?_ _
              refine NoPanic.normal ?_
              go_wp2
              go_meet
              case rel => exact ⟨_, _, _, _, _, rfl, bb, Rb.out.1, Rb.out.2⟩
        · go_simp
          refine hK _ _ ?_
          clear hK KK
          have hb := belowAlloc W10 (.cells #[.int .i64 (-1)] 3)
          have hI14 := (OwnI.lit W10.heap.size W10 (Nat.le_refl _) [-1] (by simp [maxLen]) #[.int .i64 (-1)] rfl 1 rfl).at
          obtain ⟨W14, hW14⟩ : ∃ W14 : World, W14 = W10.alloc (.cells #[.int .i64 (-1)] 3) := ⟨_, rfl⟩
          rw [← hW14]
          rw [← hW14] at hb hI14
          clear hW14
          have R14 := R10.below hb
          have b14 := b10.trans (hb.mono hB10)
          have hB14 := Nat.le_trans hB10 hb.size
          clear hb R10
          refine wpAny_ready (rs := [2, 7]) (by kernel_rfl) (by simp) (AllReady.cons rfl (fun KK hK => ?_) (AllReady.cons rfl (fun KK hK => ?_) (AllReady.nil)))
          · obtain ⟨lv, W15, mk, ho, hb⟩ := run_makeI (G.length : Int) G.length W14 rfl (by omega)
            obtain ⟨lva, lvn, lvc, rfl⟩ := ho.at.shape
            go_simp
            refine hK _ _ ?_
            clear hK KK mk
            have R15 := R14.add (i := (1, 0)) (r' := rowI (.slice lva lvn lvc) (List.replicate G.length 0)) hb (ho.mono hB14) (fun k hk => (ho.lt k hk).1)
            have b15 := b14.trans (hb.mono hB14)
            have hB15 := Nat.le_trans hB14 hb.size
            have hI15 := hI14.below hb
            clear hI14
            clear ho hb R14
            refine wpAny_ready (rs := [7]) (by kernel_rfl) (by simp) (AllReady.cons rfl (fun KK hK => ?_) (AllReady.nil))
            · go_simp
              refine (repeat_any _ (-1) G.length _ hI15 (by omega)).mono ?_
              rintro e W16 ⟨pv, rfl, hb, ho⟩
              obtain ⟨pva, pvn, pvc, rfl⟩ := ho.at.shape
              refine hK _ _ ?_
              clear hK KK
              have R16 := R15.add (i := (4, 0)) (r' := rowI (.slice pva pvn pvc) (List.replicate G.length (-1))) hb (ho.mono hB15) (fun k hk => (ho.lt k hk).1)
              have b16 := b15.trans (hb.mono hB15)
              have hB16 := Nat.le_trans hB15 hb.size
              have hI16 := hI15.below hb
              clear ho hb R15 hI15
              refine takeA (i := 8) (v := ?_) (some 29) rfl rfl (by kernel_rfl) (by kernel_rfl) (by kernel_rfl) (fun _ _ _ h => h) (Or.inl ⟨by rfl, ?_⟩) ?_
              rotate_left
              · intro _; go_simp; try with_reducible rfl
              simp only [Act.put, List.setIfInBounds_toArray, List.set_cons_zero, List.set_cons_succ]
              have Rb := search_box (na := na) (gl := G.length) (nc := nc) (n := G.length) (lv := .slice lva lvn lvc) (fv := .slice fva fvn fvc) (pv := .slice pva pvn pvc) R16 hB16 (by simp [upd]) (by simp [upd]) (by simp [upd]) (by simp [upd, names0]) (by simp [upd, names0])
              replace Rb := Lib.hid Rb
              replace R16 := Lib.hid R16
              have bb := b16.trans ((belowAlloc W16 (.cells #[.slice na G.length nc, .slice lva lvn lvc, .slice fva fvn fvc, .slice none 0 0, .slice pva pvn pvc, .slice none 0 0, .int .i64 0] 82)).mono hB16)
              refine wpAny_ready (rs := [9]) (by kernel_rfl) (by simp) (AllReady.cons rfl (fun KK hK => ?_) AllReady.nil)
              go_simp
              refine hK _ _ ?_
              clear hK KK
              refine takeA (i := 10) (v := ?_) (some 6) rfl rfl (by kernel_rfl) (by kernel_rfl) (by kernel_rfl) (fun _ _ _ h => h) (Or.inl ⟨by rfl, ?_⟩) ?_
              rotate_left
              · intro _; go_simp; try with_reducible rfl
              simp only [Act.put, List.setIfInBounds_toArray, List.set_cons_zero, List.set_cons_succ]
              refine wpAny_done (by kernel_rfl) ?_ _
              refine NoPanic.normal ?_
              go_wp2
              go_meet
              case rel => exact ⟨_, _, _, _, _, rfl, bb, Rb.out.1, Rb.out.2⟩
          · go_simp
            refine (repeat_any _ (-1) G.length _ hI14 (by omega)).mono ?_
            rintro e W17 ⟨pv, rfl, hb, ho⟩
            obtain ⟨pva, pvn, pvc, rfl⟩ := ho.at.shape
            refine hK _ _ ?_
            clear hK KK
            have R17 := R14.add (i := (4, 0)) (r' := rowI (.slice pva pvn pvc) (List.replicate G.length (-1))) hb (ho.mono hB14) (fun k hk => (ho.lt k hk).1)
            have b17 := b14.trans (hb.mono hB14)
            have hB17 := Nat.le_trans hB14 hb.size
            have hI17 := hI14.below hb
            clear ho hb R14 hI14
            refine wpAny_ready (rs := [2]) (by kernel_rfl) (by simp) (AllReady.cons rfl (fun KK hK => ?_) (AllReady.nil))
            · obtain ⟨lv, W18, mk, ho, hb⟩ := run_makeI (G.length : Int) G.length W17 rfl (by omega)
              obtain ⟨lva, lvn, lvc, rfl⟩ := ho.at.shape
              go_simp
              refine hK _ _ ?_
              clear hK KK mk
              have R18 := R17.add (i := (1, 0)) (r' := rowI (.slice lva lvn lvc) (List.replicate G.length 0)) hb (ho.mono hB17) (fun k hk => (ho.lt k hk).1)
              have b18 := b17.trans (hb.mono hB17)
              have hB18 := Nat.le_trans hB17 hb.size
              have hI18 := hI17.below hb
              clear hI17
              clear ho hb R17
              refine takeA (i := 8) (v := ?_) (some 29) rfl rfl (by kernel_rfl) (by kernel_rfl) (by kernel_rfl) (fun _ _ _ h => h) (Or.inl ⟨by rfl, ?_⟩) ?_
              rotate_left
              · intro _; go_simp; try with_reducible rfl
              simp only [Act.put, List.setIfInBounds_toArray, List.set_cons_zero, List.set_cons_succ]
              have Rb := search_box (na := na) (gl := G.length) (nc := nc) (n := G.length) (lv := .slice lva lvn lvc) (fv := .slice fva fvn fvc) (pv := .slice pva pvn pvc) R18 hB18 (by simp [upd]) (by simp [upd]) (by simp [upd]) (by simp [upd, names0]) (by simp [upd, names0])
              replace Rb := Lib.hid Rb
              replace R18 := Lib.hid R18
              have bb := b18.trans ((belowAlloc W18 (.cells #[.slice na G.length nc, .slice lva lvn lvc, .slice fva fvn fvc, .slice none 0 0, .slice pva pvn pvc, .slice none 0 0, .int .i64 0] 82)).mono hB18)
              refine wpAny_ready (rs := [9]) (by kernel_rfl) (by simp) (AllReady.cons rfl (fun KK hK => ?_) AllReady.nil)
              go_simp
              refine hK _ _ ?_
              clear hK KK
              refine takeA (i := 10) (v := ?_) (some 6) rfl rfl (by kernel_rfl) (by kernel_rfl) (by kernel_rfl) (fun _ _ _ h => h) (Or.inl ⟨by rfl, ?_⟩) ?_
              rotate_left
              · intro _; go_simp; try with_reducible rfl
              simp only [Act.put, List.setIfInBounds_toArray, List.set_cons_zero, List.set_cons_succ]
              refine wpAny_done (by kernel_rfl) ?_ _
              refine NoPanic.normal ?_
              go_wp2
              go_meet
              case rel => exact ⟨_, _, _, _, _, rfl, bb, Rb.out.1, Rb.out.2⟩
      · go_simp
        refine hK _ _ ?_
        clear hK KK
        have hb := belowAlloc W0 (.cells #[.int .i64 (-1)] 3)
        have hI19 := (OwnI.lit W0.heap.size W0 (Nat.le_refl _) [-1] (by simp [maxLen]) #[.int .i64 (-1)] rfl 1 rfl).at
        obtain ⟨W19, hW19⟩ : ∃ W19 : World, W19 = W0.alloc (.cells #[.int .i64 (-1)] 3) := ⟨_, rfl⟩
        rw [← hW19]
        rw [← hW19] at hb hI19
        clear hW19
        have R19 := R0.below hb
        have b19 := b0.trans (hb.mono hB0)
        have hB19 := Nat.le_trans hB0 hb.size
        clear hb R0
        refine wpAny_ready (rs := [2, 4, 7]) (by kernel_rfl) (by simp) (AllReady.cons rfl (fun KK hK => ?_) (AllReady.cons rfl (fun KK hK => ?_) (AllReady.cons rfl (fun KK hK => ?_) (AllReady.nil))))
        · obtain ⟨lv, W20, mk, ho, hb⟩ := run_makeI (G.length : Int) G.length W19 rfl (by omega)
          obtain ⟨lva, lvn, lvc, rfl⟩ := ho.at.shape
          go_simp
          refine hK _ _ ?_
          clear hK KK mk
          have R20 := R19.add (i := (1, 0)) (r' := rowI (.slice lva lvn lvc) (List.replicate G.length 0)) hb (ho.mono hB19) (fun k hk => (ho.lt k hk).1)
          have b20 := b19.trans (hb.mono hB19)
          have hB20 := Nat.le_trans hB19 hb.size
          have hI20 := hI19.below hb
          clear hI19
          clear ho hb R19
          refine wpAny_ready (rs := [4, 7]) (by kernel_rfl) (by simp) (AllReady.cons rfl (fun KK hK => ?_) (AllReady.cons rfl (fun KK hK => ?_) (AllReady.nil)))
          · obtain ⟨fv, W21, mk, ho, hb⟩ := run_makeI (G.length : Int) G.length W20 rfl (by omega)
            obtain ⟨fva, fvn, fvc, rfl⟩ := ho.at.shape
            go_simp
            refine hK _ _ ?_
            clear hK KK mk
            have R21 := R20.add (i := (2, 0)) (r' := rowI (.slice fva fvn fvc) (List.replicate G.length 0)) hb (ho.mono hB20) (fun k hk => (ho.lt k hk).1)
            have b21 := b20.trans (hb.mono hB20)
            have hB21 := Nat.le_trans hB20 hb.size
            have hI21 := hI20.below hb
            clear hI20
            clear ho hb R20
            refine wpAny_ready (rs := [7]) (by kernel_rfl) (by simp) (AllReady.cons rfl (fun KK hK => ?_) (AllReady.nil))
            · go_simp
              refine (repeat_any _ (-1) G.length _ hI21 (by omega)).mono ?_
              rintro e W22 ⟨pv, rfl, hb, ho⟩
              obtain ⟨pva, pvn, pvc, rfl⟩ := ho.at.shape
              refine hK _ _ ?_
              clear hK KK
              have R22 := R21.add (i := (4, 0)) (r' := rowI (.slice pva pvn pvc) (List.replicate G.length (-1))) hb (ho.mono hB21) (fun k hk => (ho.lt k hk).1)
              have b22 := b21.trans (hb.mono hB21)
              have hB22 := Nat.le_trans hB21 hb.size
              have hI22 := hI21.below hb
              clear ho hb R21 hI21
              refine takeA (i := 8) (v := ?_) (some 29) rfl rfl (by kernel_rfl) (by kernel_rfl) (by kernel_rfl) (fun _ _ _ h => h) (Or.inl ⟨by rfl, ?_⟩) ?_
              rotate_left
              · intro _; go_simp; try with_reducible rfl
              simp only [Act.put, List.setIfInBounds_toArray, List.set_cons_zero, List.set_cons_succ]
              have Rb := search_box (na := na) (gl := G.length) (nc := nc) (n := G.length) (lv := .slice lva lvn lvc) (fv := .slice fva fvn fvc) (pv := .slice pva pvn pvc) R22 hB22 (by simp [upd]) (by simp [upd]) (by simp [upd]) (by simp [upd, names0]) (by simp [upd, names0])
              replace Rb := Lib.hid Rb
              replace R22 := Lib.hid R22
              have bb := b22.trans ((belowAlloc W22 (.cells #[.slice na G.length nc, .slice lva lvn lvc, .slice fva fvn fvc, .slice none 0 0, .slice pva pvn pvc, .slice none 0 0, .int .i64 0] 82)).mono hB22)
              refine wpAny_ready (rs := [9]) (by kernel_rfl) (by simp) (AllReady.cons rfl (fun KK hK => ?_) AllReady.nil)
              go_simp
              refine hK _ _ ?_
              clear hK KK
              refine takeA (i := 10) (v := ?_) (some 6) rfl rfl (by kernel_rfl) (by kernel_rfl) (by kernel_rfl) (fun _ _ _ h => h) (Or.inl ⟨by rfl, ?_⟩) ?_
              rotate_left
              · intro _; go_simp; try with_reducible rfl
              simp only [Act.put, List.setIfInBounds_toArray, List.set_cons_zero, List.set_cons_succ]
              refine wpAny_done (by kernel_rfl) ?_ _
              refine NoPanic.normal ?_
              go_wp2
              go_meet
              case rel => exact ⟨_, _, _, _, _, rfl, bb, Rb.out.1, Rb.out.2⟩
          · go_simp
            refine (repeat_any _ (-1) G.length _ hI20 (by omega)).mono ?_
            rintro e W23 ⟨pv, rfl, hb, ho⟩
            obtain ⟨pva, pvn, pvc, rfl⟩ := ho.at.shape
            refine hK _ _ ?_
            clear hK KK
            have R23 := R20.add (i := (4, 0)) (r' := rowI (.slice pva pvn pvc) (List.replicate G.length (-1))) hb (ho.mono hB20) (fun k hk => (ho.lt k hk).1)
            have b23 := b20.trans (hb.mono hB20)
            have hB23 := Nat.le_trans hB20 hb.size
            have hI23 := hI20.below hb
            clear ho hb R20 hI20
            refine wpAny_ready (rs := [4]) (by kernel_rfl) (by simp) (AllReady.cons rfl (fun KK hK => ?_) (AllReady.nil))
            · obtain ⟨fv, W24, mk, ho, hb⟩ := run_makeI (G.length : Int) G.length W23 rfl (by omega)
              obtain ⟨fva, fvn, fvc, rfl⟩ := ho.at.shape
              go_simp
              refine hK _ _ ?_
              clear hK KK mk
              have R24 := R23.add (i := (2, 0)) (r' := rowI (.slice fva fvn fvc) (List.replicate G.length 0)) hb (ho.mono hB23) (fun k hk => (ho.lt k hk).1)
              have b24 := b23.trans (hb.mono hB23)
              have hB24 := Nat.le_trans hB23 hb.size
              have hI24 := hI23.below hb
              clear hI23
              clear ho hb R23
              refine takeA (i := 8) (v := ?_) (some 29) rfl rfl (by kernel_rfl) (by kernel_rfl) (by kernel_rfl) (fun _ _ _ h => h) (Or.inl ⟨by rfl, ?_⟩) ?_
              rotate_left
              · intro _; go_simp; try with_reducible rfl
              simp only [Act.put, List.setIfInBounds_toArray, List.set_cons_zero, List.set_cons_succ]
              have Rb := search_box (na := na) (gl := G.length) (nc := nc) (n := G.length) (lv := .slice lva lvn lvc) (fv := .slice fva fvn fvc) (pv := .slice pva pvn pvc) R24 hB24 (by simp [upd]) (by simp [upd]) (by simp [upd]) (by simp [upd, names0]) (by simp [upd, names0])
              replace Rb := Lib.hid Rb
              replace R24 := Lib.hid R24
              have bb := b24.trans ((belowAlloc W24 (.cells #[.slice na G.length nc, .slice lva lvn lvc, .slice fva fvn fvc, .slice none 0 0, .slice pva pvn pvc, .slice none 0 0, .int .i64 0] 82)).mono hB24)
              refine wpAny_ready (rs := [9]) (by kernel_rfl) (by simp) (AllReady.cons rfl (fun KK hK => ?_) AllReady.nil)
              go_simp
              refine hK _ _ ?_
              clear hK KK
              refine takeA (i := 10) (v := ?_) (some 6) rfl rfl (by kernel_rfl) (by kernel_rfl) (by kernel_rfl) (fun _ _ _ h => h) (Or.inl ⟨by rfl, ?_⟩) ?_
              rotate_left
              · intro _; go_simp; try with_reducible rfl
              simp only [Act.put, List.setIfInBounds_toArray, List.set_cons_zero, List.set_cons_succ]
              refine wpAny_done (by kernel_rfl) ?_ _
              refine NoPanic.normal ?_
              go_wp2
              go_meet
              case rel => exact ⟨_, _, _, _, _, rfl, bb, Rb.out.1, Rb.out.2⟩
        · obtain ⟨fv, W25, mk, ho, hb⟩ := run_makeI (G.length : Int) G.length W19 rfl (by omega)
          obtain ⟨fva, fvn, fvc, rfl⟩ := ho.at.shape
          go_simp
          refine hK _ _ ?_
          clear hK KK mk
          have R25 := R19.add (i := (2, 0)) (r' := rowI (.slice fva fvn fvc) (List.replicate G.length 0)) hb (ho.mono hB19) (fun k hk => (ho.lt k hk).1)
          have b25 := b19.trans (hb.mono hB19)
          have hB25 := Nat.le_trans hB19 hb.size
          have hI25 := hI19.below hb
          clear hI19
          clear ho hb R19
          refine wpAny_ready (rs := [2, 7]) (by kernel_rfl) (by simp) (AllReady.cons rfl (fun KK hK => ?_) (AllReady.cons rfl (fun KK hK => ?_) (AllReady.nil)))
          · obtain ⟨lv, W26, mk, ho, hb⟩ := run_makeI (G.length : Int) G.length W25 rfl (by omega)
            obtain ⟨lva, lvn, lvc, rfl⟩ := ho.at.shape
            go_simp
            refine hK _ _ ?_
            clear hK KK mk
            have R26 := R25.add (i := (1, 0)) (r' := rowI (.slice lva lvn lvc) (List.replicate G.length 0)) hb (ho.mono hB25) (fun k hk => (ho.lt k hk).1)
            have b26 := b25.trans (hb.mono hB25)
            have hB26 := Nat.le_trans hB25 hb.size
            have hI26 := hI25.below hb
            clear hI25
            clear ho hb R25
            refine wpAny_ready (rs := [7]) (by kernel_rfl) (by simp) (AllReady.cons rfl (fun KK hK => ?_) (AllReady.nil))
            · go_simp
              refine (repeat_any _ (-1) G.length _ hI26 (by omega)).mono ?_
              rintro e W27 ⟨pv, rfl, hb, ho⟩
              obtain ⟨pva, pvn, pvc, rfl⟩ := ho.at.shape
              refine hK _ _ ?_
              clear hK KK
              have R27 := R26.add (i := (4, 0)) (r' := rowI (.slice pva pvn pvc) (List.replicate G.length (-1))) hb (ho.mono hB26) (fun k hk => (ho.lt k hk).1)
              have b27 := b26.trans (hb.mono hB26)
              have hB27 := Nat.le_trans hB26 hb.size
              have hI27 := hI26.below hb
              clear ho hb R26 hI26
              refine takeA (i := 8) (v := ?_) (some 29) rfl rfl (by kernel_rfl) (by kernel_rfl) (by kernel_rfl) (fun _ _ _ h => h) (Or.inl ⟨by rfl, ?_⟩) ?_
              rotate_left
              · intro _; go_simp; try with_reducible rfl
              simp only [Act.put, List.setIfInBounds_toArray, List.set_cons_zero, List.set_cons_succ]
              have Rb := search_box (na := na) (gl := G.length) (nc := nc) (n := G.length) (lv := .slice lva lvn lvc) (fv := .slice fva fvn fvc) (pv := .slice pva pvn pvc) R27 hB27 (by simp [upd]) (by simp [upd]) (by simp [upd]) (by simp [upd, names0]) (by simp [upd, names0])
              replace Rb := Lib.hid Rb
              replace R27 := Lib.hid R27
              have bb := b27.trans ((belowAlloc W27 (.cells #[.slice na G.length nc, .slice lva lvn lvc, .slice fva fvn fvc, .slice none 0 0, .slice pva pvn pvc, .slice none 0 0, .int .i64 0] 82)).mono hB27)
              refine wpAny_ready (rs := [9]) (by kernel_rfl) (by simp) (AllReady.cons rfl (fun KK hK => ?_) AllReady.nil)
              go_simp
              refine hK _ _ ?_
              clear hK KK
              refine takeA (i := 10) (v := ?_) (some 6) rfl rfl (by kernel_rfl) (by kernel_rfl) (by kernel_rfl) (fun _ _ _ h => h) (Or.inl ⟨by rfl, ?_⟩) ?_
              rotate_left
              · intro _; go_simp; try with_reducible rfl
              simp only [Act.put, List.setIfInBounds_toArray, List.set_cons_zero, List.set_cons_succ]
              refine wpAny_done (by kernel_rfl) ?_ _
              refine NoPanic.normal ?_
              go_wp2
              go_meet
              case rel => exact ⟨_, _, _, _, _, rfl, bb, Rb.out.1, Rb.out.2⟩
          · go_simp
            refine (repeat_any _ (-1) G.length _ hI25 (by omega)).mono ?_
            rintro e W28 ⟨pv, rfl, hb, ho⟩
            obtain ⟨pva, pvn, pvc, rfl⟩ := ho.at.shape
            refine hK _ _ ?_
            clear hK KK
            have R28 := R25.add (i := (4, 0)) (r' := rowI (.slice pva pvn pvc) (List.replicate G.length (-1))) hb (ho.mono hB25) (fun k hk => (ho.lt k hk).1)
            have b28 := b25.trans (hb.mono hB25)
            have hB28 := Nat.le_trans hB25 hb.size
            have hI28 := hI25.below hb
            clear ho hb R25 hI25
            refine wpAny_ready (rs := [2]) (by kernel_rfl) (by simp) (AllReady.cons rfl (fun KK hK => ?_) (AllReady.nil))
            · obtain ⟨lv, W29, mk, ho, hb⟩ := run_makeI (G.length : Int) G.length W28 rfl (by omega)
              obtain ⟨lva, lvn, lvc, rfl⟩ := ho.at.shape
              go_simp
              refine hK _ _ ?_
              clear hK KK mk
              have R29 := R28.add (i := (1, 0)) (r' := rowI (.slice lva lvn lvc) (List.replicate G.length 0)) hb (ho.mono hB28) (fun k hk => (ho.lt k hk).1)
              have b29 := b28.trans (hb.mono hB28)
              have hB29 := Nat.le_trans hB28 hb.size
              have hI29 := hI28.below hb
              clear hI28
              clear ho hb R28
              refine takeA (i := 8) (v := ?_) (some 29) rfl rfl (by kernel_rfl) (by kernel_rfl) (by kernel_rfl) (fun _ _ _ h => h) (Or.inl ⟨by rfl, ?_⟩) ?_
              rotate_left
              · intro _; go_simp; try with_reducible rfl
              simp only [Act.put, List.setIfInBounds_toArray, List.set_cons_zero, List.set_cons_succ]
              have Rb := search_box (na := na) (gl := G.length) (nc := nc) (n := G.length) (lv := .slice lva lvn lvc) (fv := .slice fva fvn fvc) (pv := .slice pva pvn pvc) R29 hB29 (by simp [upd]) (by simp [upd]) (by simp [upd]) (by simp [upd, names0]) (by simp [upd, names0])
              replace Rb := Lib.hid Rb
              replace R29 := Lib.hid R29
              have bb := b29.trans ((belowAlloc W29 (.cells #[.slice na G.length nc, .slice lva lvn lvc, .slice fva fvn fvc, .slice none 0 0, .slice pva pvn pvc, .slice none 0 0, .int .i64 0] 82)).mono hB29)
              refine wpAny_ready (rs := [9]) (by kernel_rfl) (by simp) (AllReady.cons rfl (fun KK hK => ?_) AllReady.nil)
              go_simp
              refine hK _ _ ?_
              clear hK KK
              refine takeA (i := 10) (v := ?_) (some 6) rfl rfl (by kernel_rfl) (by kernel_rfl) (by kernel_rfl) (fun _ _ _ h => h) (Or.inl ⟨by rfl, ?_⟩) ?_
              rotate_left
              · intro _; go_simp; try with_reducible rfl
              simp only [Act.put, List.setIfInBounds_toArray, List.set_cons_zero, List.set_cons_succ]
              refine wpAny_done (by kernel_rfl) ?_ _
              refine NoPanic.normal ?_
              go_wp2
              go_meet
              case rel => exact ⟨_, _, _, _, _, rfl, bb, Rb.out.1, Rb.out.2⟩
        · go_simp
          refine (repeat_any _ (-1) G.length _ hI19 (by omega)).mono ?_
          rintro e W30 ⟨pv, rfl, hb, ho⟩
          obtain ⟨pva, pvn, pvc, rfl⟩ := ho.at.shape
          refine hK _ _ ?_
          clear hK KK
          have R30 := R19.add (i := (4, 0)) (r' := rowI (.slice pva pvn pvc) (List.replicate G.length (-1))) hb (ho.mono hB19) (fun k hk => (ho.lt k hk).1)
          have b30 := b19.trans (hb.mono hB19)
          have hB30 := Nat.le_trans hB19 hb.size
          have hI30 := hI19.below hb
          clear ho hb R19 hI19
          refine wpAny_ready (rs := [2, 4]) (by kernel_rfl) (by simp) (AllReady.cons rfl (fun KK hK => ?_) (AllReady.cons rfl (fun KK hK => ?_) (AllReady.nil)))
          · obtain ⟨lv, W31, mk, ho, hb⟩ := run_makeI (G.length : Int) G.length W30 rfl (by omega)
            obtain ⟨lva, lvn, lvc, rfl⟩ := ho.at.shape
            go_simp
            refine hK _ _ ?_
            clear hK KK mk
            have R31 := R30.add (i := (1, 0)) (r' := rowI (.slice lva lvn lvc) (List.replicate G.length 0)) hb (ho.mono hB30) (fun k hk => (ho.lt k hk).1)
            have b31 := b30.trans (hb.mono hB30)
            have hB31 := Nat.le_trans hB30 hb.size
            have hI31 := hI30.below hb
            clear hI30
            clear ho hb R30
            refine wpAny_ready (rs := [4]) (by kernel_rfl) (by simp) (AllReady.cons rfl (fun KK hK => ?_) (AllReady.nil))
            · obtain ⟨fv, W32, mk, ho, hb⟩ := run_makeI (G.length : Int) G.length W31 rfl (by omega)
              obtain ⟨fva, fvn, fvc, rfl⟩ := ho.at.shape
              go_simp
              refine hK _ _ ?_
              clear hK KK mk
              have R32 := R31.add (i := (2, 0)) (r' := rowI (.slice fva fvn fvc) (List.replicate G.length 0)) hb (ho.mono hB31) (fun k hk => (ho.lt k hk).1)
              have b32 := b31.trans (hb.mono hB31)
              have hB32 := Nat.le_trans hB31 hb.size
              have hI32 := hI31.below hb
              clear hI31
              clear ho hb R31
              refine takeA (i := 8) (v := ?_) (some 29) rfl rfl (by kernel_rfl) (by kernel_rfl) (by kernel_rfl) (fun _ _ _ h => h) (Or.inl ⟨by rfl, ?_⟩) ?_
              rotate_left
              · intro _; go_simp; try with_reducible rfl
              simp only [Act.put, List.setIfInBounds_toArray, List.set_cons_zero, List.set_cons_succ]
              have Rb := search_box (na := na) (gl := G.length) (nc := nc) (n := G.length) (lv := .slice lva lvn lvc) (fv := .slice fva fvn fvc) (pv := .slice pva pvn pvc) R32 hB32 (by simp [upd]) (by simp [upd]) (by simp [upd]) (by simp [upd, names0]) (by simp [upd, names0])
              replace Rb := Lib.hid Rb
              replace R32 := Lib.hid R32
              have bb := b32.trans ((belowAlloc W32 (.cells #[.slice na G.length nc, .slice lva lvn lvc, .slice fva fvn fvc, .slice none 0 0, .slice pva pvn pvc, .slice none 0 0, .int .i64 0] 82)).mono hB32)
              refine wpAny_ready (rs := [9]) (by kernel_rfl) (by simp) (AllReady.cons rfl (fun KK hK => ?_) AllReady.nil)
              go_simp
              refine hK _ _ ?_
              clear hK KK
              refine takeA (i := 10) (v := ?_) (some 6) rfl rfl (by kernel_rfl) (by kernel_rfl) (by kernel_rfl) (fun _ _ _ h => h) (Or.inl ⟨by rfl, ?_⟩) ?_
              rotate_left
              · intro _; go_simp; try with_reducible rfl
              simp only [Act.put, List.setIfInBounds_toArray, List.set_cons_zero, List.set_cons_succ]
              refine wpAny_done (by kernel_rfl) ?_ _
              refine NoPanic.normal ?_
              go_wp2
              go_meet
              case rel => exact ⟨_, _, _, _, _, rfl, bb, Rb.out.1, Rb.out.2⟩
          · obtain ⟨fv, W33, mk, ho, hb⟩ := run_makeI (G.length : Int) G.length W30 rfl (by omega)
            obtain ⟨fva, fvn, fvc, rfl⟩ := ho.at.shape
            go_simp
            refine hK _ _ ?_
            clear hK KK mk
            have R33 := R30.add (i := (2, 0)) (r' := rowI (.slice fva fvn fvc) (List.replicate G.length 0)) hb (ho.mono hB30) (fun k hk => (ho.lt k hk).1)
            have b33 := b30.trans (hb.mono hB30)
            have hB33 := Nat.le_trans hB30 hb.size
            have hI33 := hI30.below hb
            clear hI30
            clear ho hb R30
            refine wpAny_ready (rs := [2]) (by kernel_rfl) (by simp) (AllReady.cons rfl (fun KK hK => ?_) (AllReady.nil))
            · obtain ⟨lv, W34, mk, ho, hb⟩ := run_makeI (G.length : Int) G.length W33 rfl (by omega)
              obtain ⟨lva, lvn, lvc, rfl⟩ := ho.at.shape
              go_simp
              refine hK _ _ ?_
              clear hK KK mk
              have R34 := R33.add (i := (1, 0)) (r' := rowI (.slice lva lvn lvc) (List.replicate G.length 0)) hb (ho.mono hB33) (fun k hk => (ho.lt k hk).1)
              have b34 := b33.trans (hb.mono hB33)
              have hB34 := Nat.le_trans hB33 hb.size
              have hI34 := hI33.below hb
              clear hI33
              clear ho hb R33
              refine takeA (i := 8) (v := ?_) (some 29) rfl rfl (by kernel_rfl) (by kernel_rfl) (by kernel_rfl) (fun _ _ _ h => h) (Or.inl ⟨by rfl, ?_⟩) ?_
              rotate_left
              · intro _; go_simp; try with_reducible rfl
              simp only [Act.put, List.setIfInBounds_toArray, List.set_cons_zero, List.set_cons_succ]
              have Rb := search_box (na := na) (gl := G.length) (nc := nc) (n := G.length) (lv := .slice lva lvn lvc) (fv := .slice fva fvn fvc) (pv := .slice pva pvn pvc) R34 hB34 (by simp [upd]) (by simp [upd]) (by simp [upd]) (by simp [upd, names0]) (by simp [upd, names0])
              replace Rb := Lib.hid Rb
              replace R34 := Lib.hid R34
              have bb := b34.trans ((belowAlloc W34 (.cells #[.slice na G.length nc, .slice lva lvn lvc, .slice fva fvn fvc, .slice none 0 0, .slice pva pvn pvc, .slice none 0 0, .int .i64 0] 82)).mono hB34)
              refine wpAny_ready (rs := [9]) (by kernel_rfl) (by simp) (AllReady.cons rfl (fun KK hK => ?_) AllReady.nil)
              go_simp
              refine hK _ _ ?_
              clear hK KK
              refine takeA (i := 10) (v := ?_) (some 6) rfl rfl (by kernel_rfl) (by kernel_rfl) (by kernel_rfl) (fun _ _ _ h => h) (Or.inl ⟨by rfl, ?_⟩) ?_
              rotate_left
              · intro _; go_simp; try with_reducible rfl
              simp only [Act.put, List.setIfInBounds_toArray, List.set_cons_zero, List.set_cons_succ]
              refine wpAny_done (by kernel_rfl) ?_ _
              refine NoPanic.normal ?_
              go_wp2
              go_meet
              case rel => exact ⟨_, _, _, _, _, rfl, bb, Rb.out.1, Rb.out.2⟩
    case rest =>
      obtain ⟨d, f, lv, fv, pv, rfl, b2, hr2, h2⟩ := hcut
      have hG1 := Lib.hid (h.out.below b1)
      have hI0 := TInv.init G.length (adjOf G) hok.out.lt
      replace hr2 := Lib.hid hr2
      replace hI0 := Lib.hid hI0
      go_wp2_with fail
      go_loopw [33] (fun iv wr => ∃ (k : Nat) (f' : Names) (ov cv : Value) (S : TS), k ≤ G.length ∧ iv = .int .i64 k ∧ Rows w1.heap.size wr f' ∧ Below w1.heap.size w1 wr ∧ SN f' d (.slice na G.length nc) lv fv pv ov cv G.length S ∧ TInv G.length (adjOf G) S ∧ S.calls = [] ∧ ∀ x, x < k → S.found x ≠ 0) (fun iv _ => G.length - (intOf iv).toNat)
      case atStart => exact ⟨0, f, _, _, initS, by omega, rfl, hr2.out, b2, h2, hI0.out, rfl, fun x hx => by omega⟩
      case round =>
        obtain ⟨k, f', ov, cv, S, hk, rfl, hr3, b3, h3, hI3, hc3, hall⟩ := hrel
        obtain ⟨wo, rfl⟩ : ∃ wo : World, wo = wr := ⟨_, rfl⟩
        by_cases hlt : k < G.length
        · have x2 := h3.cell hr3 2 (by decide)
          simp only [List.getElem?_cons_succ, List.getElem?_cons_zero] at x2
          have oF := (hr3.ownI h3.fnd).at
          have iF := fun w' => oF.idx k (by rw [tab_len]; exact hlt) w'
          have cF := oF.cellD k (by rw [tab_len]; exact hlt)
          rw [tab_get _ _ _ hlt] at cF
          clear oF
          generalize valAt fv k = fa at *
          by_cases hfk : S.found k = 0
          · have hF := from_any w1 wo f' d na nc lv fv pv ov cv G S k hG1.out hok.out hn b3 hr3 h3 hI3 hc3 hlt hfk
            rw [hfk] at cF
            replace hF := Lib.hid hF
            replace hr3 := Lib.hid hr3
            replace hI3 := Lib.hid hI3
            replace hall := Lib.hid hall
            replace hfk := Lib.hid hfk
            replace hc3 := Lib.hid hc3
            go_wp2_with fail
            clear x2 iF cF
            refine hF.out.mono ?_
            rintro e w4 ⟨rfl, b4, f4, ov4, cv4, T, hr4, h4, hI4, hc4, hk4⟩
            replace hr4 := Lib.hid hr4
            replace hI4 := Lib.hid hI4
            replace hk4 := Lib.hid hk4
            replace hc4 := Lib.hid hc4
            go_wp2
            go_roundw
            case measure => simp [intOf]; omega
            case rel =>
              refine ⟨k + 1, f4, ov4, cv4, T, by omega, by go_num, hr4.out, b3.trans b4, h4, hI4.out, hc4.out, fun x hx => hk4.out x ?_⟩
              by_cases e : x = k
              · exact .inr e
              · exact .inl (hall.out x (by omega))
          · have hne : ((S.found k : Int) == 0) = false := by rw [beq_eq_false_iff_ne]; omega
            replace hr3 := Lib.hid hr3
            replace hI3 := Lib.hid hI3
            replace hall := Lib.hid hall
            replace hfk := Lib.hid hfk
            replace hc3 := Lib.hid hc3
            go_wp2
            go_roundw
            case measure => simp [intOf]; omega
            case rel =>
              refine ⟨k + 1, f', ov, cv, S, by omega, by go_num, hr3.out, b3, h3, hI3.out, hc3.out, fun x hx => ?_⟩
              by_cases e : x = k
              · subst e; exact hfk.out
              · exact hall.out x (by omega)
        · obtain rfl : k = G.length := by omega
          have hD := hI3.done hc3 hall
          have x4 := h3.cell hr3 4 (by decide)
          simp only [List.getElem?_cons_succ, List.getElem?_cons_zero] at x4
          have oP := hr3.ownI h3.part
          have hpb : ∀ x, x < G.length → (Lit.int .i64 (S.part x)).wf = true := fun x hx => by
            obtain ⟨q, hq, hq2, _⟩ := hI3.P1 x (hD.1 x hx)
            have := hI3.seenLt q (hI3.partSeen q hq2)
            exact WalkArith.wf_i64 (by omega)
          have hparts : PartsOf G.length (adjOf G) ((List.range G.length).map (numO S.part)) := ⟨S.part, hD.2, rfl⟩
          have hpv := oP.at
          generalize S.part = p at *
          have hM := NumMap.made wo
          have hbM := belowAlloc wo (.map #[] 0)
          obtain ⟨W5, hW5⟩ : ∃ W5 : World, W5 = wo.alloc (.map #[] 0) := ⟨_, rfl⟩
          have hs5 : W5.heap.size = wo.heap.size + 1 := by rw [hW5]; simp
          rw [← hW5] at hM hbM
          obtain ⟨out, w6, mk6, ho6, hb6⟩ := run_makeI (G.length : Int) G.length W5 rfl (by omega)
          rw [hs5] at ho6 hb6
          have hb56 : Below wo.heap.size wo w6 := hbM.trans (hb6.mono (by omega))
          have hM6 := hM.kept (World.grownBy.mk hb6.os hb6.tape hb6.output hb6.size (fun j hj _ => hb6.block j (by omega)) : W5.grownBy w6 none) (by simp)
          have lP := hpv.len
          rw [tabI_len] at lP
          have x45 := (hbM.cell (World.block_lt_of_cell? _ _ x4)).trans x4
          have x46 := (hb56.cell (World.block_lt_of_cell? _ _ x4)).trans x4
          obtain ⟨outa, outn, outc, rfl⟩ := ho6.at.shape
          have hz : tabI G.length (fun v => if v < 0 then numO p v else 0) = List.replicate G.length 0 := by
            unfold tabI; apply List.ext_getElem <;> simp
          replace hparts := Lib.hid hparts
          replace hpb := Lib.hid hpb
          replace hpv := Lib.hid hpv
          replace hD := Lib.hid hD
          replace hI3 := Lib.hid hI3
          replace hr3 := Lib.hid hr3
          replace hall := Lib.hid hall
          replace hM6 := Lib.hid hM6
          replace ho6 := Lib.hid ho6
          replace hz := Lib.hid hz
          clear hM hbM oP x45
          have mkm : (Instr.makeMap 84 none).run Tryd.prog wo = .ok (.map (some wo.heap.size)) W5 := by rw [hW5]; rfl
          replace hW5 := Lib.hid hW5
          go_wp2_with fail
          clear mk6 mkm x46 lP
          go_loopw [56] (fun iv wr => ∃ k nn : Nat, k ≤ G.length ∧ nn ≤ k ∧ iv = .int .i64 k ∧ NumMap wr wo.heap.size nn (numM p k).1 (numM p k).2 ∧ OwnI (wo.heap.size + 1) wr (.slice outa outn outc) (tabI G.length (fun v => if v < k then numO p v else 0)) ∧ Below wo.heap.size wo wr) (fun iv _ => G.length - (intOf iv).toNat)
          case atStart => exact ⟨0, 0, by omega, by omega, rfl, hM6.out, by rw [hz.out]; exact ho6.out, hb56⟩
          case round =>
            obtain ⟨k, nn, hk, hnn, rfl, hM, hO, hB⟩ := hrel
            obtain ⟨W, rfl⟩ : ∃ W : World, W = wr := ⟨_, rfl⟩
            by_cases hlt : k < G.length
            · have hpk := hpb.out k hlt
              have hPt := hpv.out.below (hB.mono (by omega) : Below wo.heap.size wo W)
              have iP := fun w' => hPt.idx k (by rw [tabI_len]; exact hlt) w'
              have cP := hPt.cellD k (by rw [tabI_len]; exact hlt)
              rw [tabI_get _ _ _ hlt] at cP
              have hown := numM_own p k
              have hsz2 := numM_size p k
              have hwn : (Lit.int .i64 (((numM p k).2 : Nat) : Int)).wf = true := WalkArith.wf_i64 (by omega)
              have hnext : tabI G.length (updN (fun v => if v < k then numO p v else 0) k (numO p k)) = tabI G.length (fun v => if v < k + 1 then numO p v else 0) := by
                congr 1
                funext v
                by_cases e : v = k
                · subst e; rw [updN_same, if_pos (by omega)]
                · rw [updN_other _ _ _ e]
                  by_cases e2 : v < k
                  · rw [if_pos e2, if_pos (by omega)]
                  · rw [if_neg e2, if_neg (by omega)]
              obtain ⟨pc, hpc⟩ : ∃ pc, p k = pc := ⟨_, rfl⟩
              obtain ⟨px, hpx⟩ : ∃ px, numO p k = px := ⟨_, rfl⟩
              rw [hpc] at cP hpk hown
              rw [hpx] at hown hnext
              generalize valAt pv k = pa at *
              have hfin : ∀ W' : World, OwnI (wo.heap.size + 1) W' (.slice outa outn outc) (tabI G.length (fun v => if v < k then numO p v else 0)) → Below wo.heap.size wo W' → ∀ nn', NumMap W' wo.heap.size nn' (numM p (k + 1)).1 (numM p (k + 1)).2 →
                  NumMap (W'.setCell (valAt (.slice outa outn outc) k) (.int .i64 px)) wo.heap.size nn' (numM p (k + 1)).1 (numM p (k + 1)).2 ∧ OwnI (wo.heap.size + 1) (W'.setCell (valAt (.slice outa outn outc) k) (.int .i64 px)) (.slice outa outn outc) (tabI G.length (fun v => if v < k + 1 then numO p v else 0)) ∧ Below wo.heap.size wo (W'.setCell (valAt (.slice outa outn outc) k) (.int .i64 px)) := by
                intro W' hO' hB' nn' hM'
                have hs := hO'.set k (by rw [tabI_len]; exact hlt) px
                rw [tabI_upd, hnext] at hs
                have hg := hO'.toV.setGrown k (by rw [List.length_map, tabI_len]; exact hlt) (.int .i64 px)
                have hbk := hO'.toV.blkB k (by rw [List.length_map, tabI_len]; exact hlt)
                refine ⟨hM'.kept hg (fun e => ?_), hs, hB'.setCell (by have := hbk.2; omega) _⟩
                have := (hO'.toV.lt wo.heap.size e.symm).1
                omega
              replace hfin := Lib.hid hfin
              replace hnext := Lib.hid hnext
              replace hparts := Lib.hid hparts.out
              have iO : ∀ w', (Instr.indexAt 22 (.slice outa outn outc) (.int .i64 k)).run Tryd.prog w' = .ok (.pointer (some (valAt (.slice outa outn outc) k))) w' := fun w' => hO.at.idx k (by rw [tabI_len]; exact hlt) w'
              by_cases hs : ((numM p k).1 pc).isSome
              · have hMk : numM p (k + 1) = numM p k := by
                  show (if _ then _ else _) = _
                  rw [hpc, if_pos hs]
                rw [hMk] at hown
                obtain ⟨c, hl1⟩ := hM.lookOk pc hpk
                rw [hs] at hl1
                have hl2 := hM.look pc px hpk hown
                have cO := hO.at.cellD k (by rw [tabI_len]; exact hlt)
                have fO := hO.frz k (by rw [tabI_len]; exact hlt)
                have hF := hfin.out W hO hB nn (by rw [hMk]; exact hM)
                replace hF := Lib.hid hF
                replace hO := Lib.hid hO
                replace hM := Lib.hid hM
                replace hMk := Lib.hid hMk
                replace hown := Lib.hid hown
                generalize valAt (.slice outa outn outc) k = oa at *
                generalize (tabI G.length fun v => if v < k then numO p v else 0).getD k 0 = oc at cO
                go_wp2
                go_roundw
                case measure => simp [intOf]; omega
                case rel => exact ⟨k + 1, nn, by omega, by omega, by go_num, hF.out.1, hF.out.2.1, hF.out.2.2⟩
              · have hsn : (numM p k).1 pc = none := by simpa using hs
                have hMk : numM p (k + 1) = (updM (numM p k).1 pc ((numM p k).2 : Int), (numM p k).2 + 1) := by
                  show (if _ then _ else _) = _
                  rw [hpc, if_neg hs]
                obtain ⟨c, hl1⟩ := hM.lookOk pc hpk
                rw [hsn, Option.isSome_none] at hl1
                have lM := hM.len 3
                obtain ⟨W', hst, hM', hg'⟩ := hM.store pc _ hpk hwn hsn (by omega)
                have hMn : NumMap W' wo.heap.size (nn + 1) (numM p (k + 1)).1 (numM p (k + 1)).2 := by rw [hMk]; exact hM'
                have hO' := ownI_map hO hM.blk.choose_spec.choose_spec hg'
                have hB' : Below wo.heap.size wo W' := hB.grown hg' hB.size (fun j hj => by cases hj; exact Nat.le_refl _)
                have hl2 := hMn.look pc px hpk hown
                have cO := hO'.at.cellD k (by rw [tabI_len]; exact hlt)
                have fO := hO'.frz k (by rw [tabI_len]; exact hlt)
                have hF := hfin.out W' hO' hB' (nn + 1) hMn
                replace hF := Lib.hid hF
                replace hO := Lib.hid hO
                replace hO' := Lib.hid hO'
                replace hM := Lib.hid hM
                replace hM' := Lib.hid hM'
                replace hMn := Lib.hid hMn
                replace hMk := Lib.hid hMk
                replace hown := Lib.hid hown
                replace hsn := Lib.hid hsn
                clear hs
                generalize valAt (.slice outa outn outc) k = oa at *
                generalize (tabI G.length fun v => if v < k then numO p v else 0).getD k 0 = oc at cO
                generalize (numM p k).2 = ms at *
                go_wp2
                go_roundw
                case measure => simp [intOf]; omega
                case rel => exact ⟨k + 1, nn + 1, by omega, by omega, by go_num, hF.out.1, hF.out.2.1, hF.out.2.2⟩
            · obtain rfl : k = G.length := by omega
              have hres : tabI G.length (fun v => if v < G.length then numO p v else 0) = (List.range G.length).map (numO p) := by
                unfold tabI
                exact List.map_congr_left fun v hv => if_pos (List.mem_range.1 hv)
              rw [hres] at hO
              replace hO := Lib.hid hO
              replace hM := Lib.hid hM
              replace hres := Lib.hid hres
              go_wp2
              go_ret2
              refine ⟨_, _, rfl, b1.trans ((b3.mono b1.size).trans (hB.mono (Nat.le_trans b1.size b3.size))), ⟨by rw [hck.out]; rfl, ⟨fun _ => ⟨_, hparts.out, hO.out.mono (Nat.le_trans (Nat.le_trans b1.size b3.size) (Nat.le_succ _))⟩, fun q => absurd hck.out q⟩⟩⟩
end Go.Proofs.YtbpdmpcakenjhaaDoor

namespace Go.Proofs.YtbpdmpcakenjhaaDoor
open Go.RowKit
set_option maxRecDepth 100000

/-- The lists of a function. -/
def rowsOf (n : Nat) (F : Nat → List Int) : List (List Int) := (List.range n).map F
theorem rowsOf_len (n : Nat) (F : Nat → List Int) : (rowsOf n F).length = n := by simp [rowsOf]
theorem rowsOf_get (n : Nat) (F : Nat → List Int) (u : Nat) (hu : u < n) : (rowsOf n F).getD u [] = F u := by simp [rowsOf, List.getD, hu]
theorem vAt_set_same {l : List Value} {k : Nat} {g : Value} (h : k < l.length) : vAt (l.set k g) k = g := by simp [vAt, List.getD, h]
theorem vAt_set_ne {l : List Value} {k t : Nat} {g : Value} (h : t ≠ k) : vAt (l.set k g) t = vAt l t := by
  simp [vAt, List.getD, Ne.symm h]
/-- What the names name: the outer row, the lists. -/
structure WN (f : Names) (ov : Value) (vals : List Value) (n : Nat) (F : Nat → List Int) : Prop where
  outer : f (1, 0) = some (rowV 22 ov vals)
  len : vals.length = n
  rows : ∀ u, u < n → f (2, u) = some (rowI (vAt vals u) (F u))
section
variable {B : Nat} {w : World} {f : Names} {ov : Value} {vals : List Value} {n : Nat} {F : Nat → List Int}
theorem WN.lists (h : WN f ov vals n F) (hr : Rows B w f) : ListsAt w ov (rowsOf n F) :=
  ⟨vals, (hr.ownV h.outer).at, by rw [h.len, rowsOf_len], fun i hi => by
    rw [rowsOf_len] at hi
    rw [rowsOf_get n F i hi]
    exact (hr.ownI (h.rows i hi)).at⟩
/-- out[u] = a list: the list's row is there; now the outer row's cell. -/
theorem WN.put (h : WN f ov vals n F) {w1 : World} {u : Nat} (hu : u < n) {v' : Value} {xs : List Int} (hr1 : Rows B w1 (upd f (2, u) (some (rowI v' xs)))) :
    w1.cell? (valAt ov u) = some (vAt vals u) ∧ w1.frozen? (valAt ov u) = false ∧ B ≤ (valAt ov u).block ∧
    ∃ f', Rows B (w1.setCell (valAt ov u) v') f' ∧ WN f' ov (vals.set u v') n (updN F u xs) ∧ ∀ i, i ≠ (1, 0) → i ≠ (2, u) → f' i = f i := by
  have ho : upd f (2, u) (some (rowI v' xs)) (1, 0) = some (rowV 22 ov vals) := by rw [upd_ne _ _ (by simp)]; exact h.outer
  have hl : u < vals.length := by rw [h.len]; exact hu
  have hO := hr1.ownV ho
  refine ⟨hO.at.cellV u hl, hO.frz u hl, (hO.blkB u hl).2, _, hr1.setV ho u hl v', ⟨upd_same _ _ _, by simpa using h.len, fun t ht => ?_⟩, fun i h1 h2 => by rw [upd_ne _ _ h1, upd_ne _ _ h2]⟩
  rw [upd_ne _ _ (by simp)]
  by_cases e : t = u
  · subst e
    rw [upd_same, vAt_set_same hl, updN_same]
  · rw [upd_ne _ _ (by simpa using e), vAt_set_ne e, updN_other _ _ _ e]
    exact h.rows t ht
/-- A list that a call has made. -/
theorem WN.new (_h : WN f ov vals n F) (hr : Rows B w f) {w1 : World} (u : Nat) {v' : Value} {xs : List Int} (hb : Below w.heap.size w w1) (hB : B ≤ w.heap.size) (ho : OwnI w.heap.size w1 v' xs) : Rows B w1 (upd f (2, u) (some (rowI v' xs))) :=
  hr.add hb (ho.mono hB) (fun k hk => (ho.lt k hk).1)
/-- append(out[u], x). -/
theorem WN.app (h : WN f ov vals n F) (hr : Rows B w f) {w1 : World} {u : Nat} (hu : u < n) {v' : Value} (x : Int) (ho : OwnI B w1 v' (F u ++ [x]))
    (hal : (roomOf v' = roomOf (vAt vals u) ∧ w.grownBy w1 (vAt vals u).ownBlock) ∨ (∃ k, v'.ownBlock = some k ∧ w.heap.size ≤ k ∧ w.grownBy w1 none)) : Rows B w1 (upd f (2, u) (some (rowI v' (F u ++ [x])))) := by
  have hO := hr.ownI (h.rows u hu)
  refine hr.grown (r' := rowI v' (F u ++ [x])) (h.rows u hu) (grown_via (hal.imp (·.2) (fun ⟨_, _, _, q⟩ => q))) ho ?_
  rcases hal with ⟨q, _⟩ | ⟨k, h1, h2, _⟩
  · obtain ⟨a1, n1, c1, e1⟩ := hO.at.shape
    obtain ⟨a2, n2, c2, e2⟩ := ho.at.shape
    exact .inl (ownBlock_of_room e1 e2 q)
  · exact .inr ⟨k, h1, h2⟩
/-- out[u][i] = x. -/
theorem WN.elem (h : WN f ov vals n F) (hr : Rows B w f) (u : Nat) (hu : u < n) (i : Nat) (hi : i < (F u).length) (x : Int) :
    ∃ f', Rows B (w.setCell (valAt (vAt vals u) i) (.int .i64 x)) f' ∧ WN f' ov vals n (updN F u ((F u).set i x)) := by
  refine ⟨_, hr.setI (h.rows u hu) i hi x, ⟨by rw [upd_ne _ _ (by simp)]; exact h.outer, h.len, fun t ht => ?_⟩⟩
  by_cases e : t = u
  · subst e; rw [upd_same, updN_same]
  · rw [upd_ne _ _ (by simpa using e), updN_other _ _ _ e]; exact h.rows t ht
end
/-- make([]T, n) as an equation. -/
theorem run_makeW {T E : TypeId} {z : Value} {b : Nat} (oc : OneCell T E z b) (C : Int) (n : Nat) (w : World) (hC : C = n) (hn : n ≤ 4398046511104) :
    ∃ v w', (Instr.makeSlice T (.int .i64 C) (.int .i64 C)).run Tryd.prog w = .ok v w' ∧ OwnV E w.heap.size w' v (List.replicate n z) ∧ Below w.heap.size w w' := by
  subst hC
  obtain ⟨i, hi, hz0, hz1, hz2⟩ := info_parts oc.hi
  have hb := oc.hb
  obtain ⟨w', hrun, r1, r2⟩ := run_make_full (P := Tryd.prog) w w.heap.size T E i z 1 oc.ht hi hz0 hz1 .i64 .i64 n (by
    rw [hz2]
    calc b * n ≤ 32 * 4398046511104 := Nat.mul_le_mul hb (by omega)
      _ ≤ _ := by decide) (by unfold maxLen; omega) (Nat.le_refl _)
  refine ⟨_, w', hrun, ?_, (Below.refl _ _).grown r2 (Nat.le_refl _) (by intro k hk; cases hk)⟩
  rw [oc.hz, toList_madeCells_one] at r1
  simpa [OwnV] using r1
/-- Lists none of which is made yet. -/
def nils (n : Nat) : Names := fun i => if i.1 = 2 ∧ i.2 < n then some (rowI (.slice none 0 0) []) else none
theorem rows_nils (B : Nat) (w : World) (n : Nat) : Rows B w (nils n) := by
  refine ⟨fun i r hi => ?_, fun i j r s hi _ _ => ?_⟩
  · unfold nils at hi
    split at hi
    · injection hi with hi; subst hi; exact OwnI.nil B w
    · cases hi
  · left
    unfold nils at hi
    split at hi
    · injection hi with hi; subst hi; rfl
    · cases hi
/-- make([][]int, n). -/
theorem WN.made {B : Nat} {w w1 : World} {ov : Value} (n : Nat) (hb : Below w.heap.size w w1) (hB : B ≤ w.heap.size) (ho : OwnV 22 w.heap.size w1 ov (List.replicate n (.slice none 0 0))) :
    ∃ f, Rows B w1 f ∧ WN f ov (List.replicate n (.slice none 0 0)) n (fun _ => []) := by
  refine ⟨_, (rows_nils B w n).add (i := (1, 0)) (r' := rowV 22 ov (List.replicate n (.slice none 0 0))) hb (ho.mono hB) (fun k hk => (ho.lt k hk).1), ⟨upd_same _ _ _, by simp, fun u hu => ?_⟩⟩
  rw [upd_ne _ _ (by simp)]
  show nils n (2, u) = _
  unfold nils
  rw [if_pos ⟨rfl, hu⟩]
  simp [vAt, List.getD, hu]
end Go.Proofs.YtbpdmpcakenjhaaDoor

namespace Go.Proofs.YtbpdmpcakenjhaaDoor
open Go.RowKit
set_option maxRecDepth 100000

theorem oneBoolG : OneCell 45 4 (.bool false) 1 := ⟨by kernel_rfl, by kernel_rfl, rfl, by decide, fun _ => by kernel_rfl⟩
/-- The first n marks of a function. -/
def tabB (n : Nat) (m : Nat → Bool) : List Value := (List.range n).map fun v => Value.bool (m v)
theorem tabB_len (n : Nat) (m : Nat → Bool) : (tabB n m).length = n := by simp [tabB]
theorem tabB_get (n : Nat) (m : Nat → Bool) (v : Nat) (hv : v < n) : vAt (tabB n m) v = .bool (m v) := by simp [tabB, vAt, List.getD, hv]
theorem tabB_upd (n : Nat) (m : Nat → Bool) (v : Nat) (b : Bool) : (tabB n m).set v (.bool b) = tabB n (updN m v b) := by
  apply List.ext_getElem
  · simp [tabB]
  · intro i h1 h2
    simp only [tabB, List.getElem_set, List.getElem_map, List.getElem_range, updN]
    by_cases e : v = i
    · rw [if_pos e, if_pos e.symm]
    · rw [if_neg e, if_neg (fun q => e q.symm)]
theorem tabB_one (n : Nat) (m : Nat → Bool) : ∀ v ∈ tabB n m, v.oneCell' = true := by
  intro v hv
  obtain ⟨x, _, rfl⟩ := List.mem_map.1 hv
  rfl

theorem clone_bools (v : Value) (n : Nat) (m : Nat → Bool) (w : World) (h : ValsAt w v (tabB n m)) (hl : n ≤ 10000) :
    Calls Tryd.prog 85 #[v] w (Ret1 (fun x w' => OwnV 4 w.heap.size w' x (tabB n m)) w) := by
  obtain ⟨ao, cap, rfl, h1, h2, h3, h4⟩ := h
  cases ao with
  | none =>
    obtain rfl := h3 rfl
    rw [tabB_len] at h1
    obtain rfl : n = 0 := by omega
    have hn := fun w' => Lib.run_eql_slice_nil (P := Tryd.prog) w' _ _ none 0 0 0 0 oneBoolG.ht
    rw [show (tabB 0 m).length = 0 from rfl]
    clear h4
    go_enter Tryd.func85, Tryd.ntmps85
    go_wp2
    go_ret
    exact ⟨_, rfl, Below.refl _ _, OwnV.nil _ _ _⟩
  | some p =>
    have hn := fun w' => Lib.run_eql_slice_nil (P := Tryd.prog) w' _ _ (some p) (tabB n m).length cap 0 0 oneBoolG.ht
    have b0 : Below w.heap.size w (w.alloc (.cells #[] 4)) := (Below.refl _ _).alloc (Nat.le_refl _) _
    have ho0 : OwnV 4 w.heap.size (w.alloc (.cells #[] 4)) (.slice (some ⟨w.heap.size, 0, none⟩) 0 0) [] := World.ownsRow_made w #[] 0 (Nat.le_refl _) (by unfold maxLen; omega) rfl
    obtain ⟨i, hi, hz0, hz1, hz2⟩ := info_parts oneBoolG.hi
    have hcells : ∀ (j : Nat) (u : Value), (tabB n m)[j]? = some u → (w.alloc (.cells #[] 4)).cell? (p.add j) = some u := by
      intro j u hj
      have hjl := (List.getElem?_eq_some_iff.1 hj).1
      have := h4 j hjl
      simp only [valAt] at this
      rw [b0.cell (World.block_lt_of_cell? _ _ this), this, ← hj, List.getElem?_eq_getElem hjl]
    have hone := tabB_one n m
    have htl := tabB_len n m
    generalize tabB n m = bs at *
    have hbl : bs.length ≤ 10000 := by omega
    replace htl := Lib.hid htl
    replace hcells := Lib.hid hcells
    replace hone := Lib.hid hone
    replace ho0 := Lib.hid ho0
    clear h4
    go_enter Tryd.func85, Tryd.ntmps85
    go_wp2_with (at_builtin; refine wpList_append_own_at _ rfl _ _ 45 rfl w.heap.size 4 i (.bool false) 1 1 oneBoolG.ht hi hz0 hz1 hz2 rfl (by decide) _ 0 [] rfl ho0.out p bs.length cap bs rfl (by simp) hcells.out hone.out (by unfold maxLen; omega) (by omega) (by simp) ?_)
    intro v' w' ho' hgr _ hat
    have hb2 : Below w.heap.size w w' := b0.trans ((Below.refl _ _).grown hgr (by simp) (fun k hk => (ho0.out.lt k hk).1))
    have ho2 : OwnV 4 w.heap.size w' v' bs := by simpa [OwnV] using ho'
    replace ho2 := Lib.hid ho2
    clear ho' hat hgr
    go_wp2
    go_ret
    exact ⟨_, rfl, hb2, ho2.out⟩

/-- How many aren't marked. -/
def unm (n : Nat) (m : Nat → Bool) : Nat := wsum (fun _ => 1) (fun x => if m x then 1 else 0) n
theorem unm_upd (n : Nat) (m : Nat → Bool) (t : Nat) (ht : t < n) (hm : m t = false) : unm n (updN m t true) + 1 = unm n m := by
  have h := wsum_upd (fun _ => 1) (fun x => if m x then 1 else 0) t 1 (by decide) (by simp [hm]) n
  rw [if_pos ht] at h
  have e : (fun x => if updN m t true x then 1 else 0) = updN (fun x => if m x then 1 else 0) t 1 := by
    funext x
    by_cases q : x = t
    · subst q; simp [updN_same]
    · rw [updN_other _ _ _ q, updN_other _ _ _ q]
  unfold unm
  rw [e]; exact h
theorem wsum_le (f : Nat → Nat) : ∀ n, wsum (fun _ => 1) f n ≤ n
  | 0 => Nat.le_refl _
  | n + 1 => by
    have := wsum_le f n
    simp only [wsum]; split <;> omega
theorem unm_le (n : Nat) (m : Nat → Bool) : unm n m ≤ n := wsum_le _ n
/-- The marks while the search runs; done: a vertex whose arrows have all been followed. -/
structure RInv (n : Nat) (adj : Nat → List Nat) (ms m : Nat → Bool) (qs : List Nat) (busy : Nat → Prop) : Prop where
  start : ∀ x, x < n → ms x = true → m x = true
  sound : ∀ x, x < n → m x = true → ∃ u, u < n ∧ ms u = true ∧ Goes adj u x
  queue : ∀ x ∈ qs, x < n ∧ m x = true
  closed : ∀ x, x < n → m x = true → x ∉ qs → ¬ busy x → ∀ t ∈ adj x, m t = true
theorem RInv.pop {n : Nat} {adj : Nat → List Nat} {ms m : Nat → Bool} {v : Nat} {qs : List Nat} (h : RInv n adj ms m (v :: qs) (fun _ => False)) : RInv n adj ms m qs (fun x => x = v) :=
  ⟨h.start, h.sound, fun x hx => h.queue x (List.mem_cons_of_mem _ hx), fun x hx hm hq hb => h.closed x hx hm (fun hc => (List.mem_cons.1 hc).elim hb hq) id⟩
theorem RInv.finish {n : Nat} {adj : Nat → List Nat} {ms m : Nat → Bool} {v : Nat} {qs : List Nat} (h : RInv n adj ms m qs (fun x => x = v)) (hv : ∀ t ∈ adj v, m t = true) : RInv n adj ms m qs (fun _ => False) :=
  ⟨h.start, h.sound, h.queue, fun x hx hm hq _ => by
    by_cases e : x = v
    · subst e; exact hv
    · exact h.closed x hx hm hq e⟩
theorem RInv.mark {n : Nat} {adj : Nat → List Nat} {ms m : Nat → Bool} {v t : Nat} {qs : List Nat} (h : RInv n adj ms m qs (fun x => x = v)) (hv : v < n) (hmv : m v = true) (ht : t ∈ adj v) (htn : t < n) : RInv n adj ms (updN m t true) (t :: qs) (fun x => x = v) := by
  have up : ∀ x, m x = true → updN m t true x = true := fun x hx => by
    by_cases e : x = t
    · subst e; exact updN_same _ _ _
    · rw [updN_other _ _ _ e]; exact hx
  refine ⟨fun x hx hs => up x (h.start x hx hs), fun x hx hm => ?_, fun x hx => ?_, fun x hx hm hq hb t' ht' => ?_⟩
  · by_cases e : x = t
    · subst e
      obtain ⟨u, h1, h2, h3⟩ := h.sound v hv hmv
      exact ⟨u, h1, h2, h3.step ht⟩
    · rw [updN_other _ _ _ e] at hm; exact h.sound x hx hm
  · rcases List.mem_cons.1 hx with e | e
    · subst e; exact ⟨htn, updN_same _ _ _⟩
    · exact ⟨(h.queue x e).1, up x (h.queue x e).2⟩
  · have e : x ≠ t := fun e => hq (by rw [e]; exact List.mem_cons_self)
    rw [updN_other _ _ _ e] at hm
    exact up t' (h.closed x hx hm (fun hc => hq (List.mem_cons_of_mem _ hc)) hb t' ht')
theorem RInv.all {n : Nat} {adj : Nat → List Nat} {ms m : Nat → Bool} (h : RInv n adj ms m [] (fun _ => False)) (ha : ∀ v, v < n → ∀ t ∈ adj v, t < n) : ∀ x, x < n → (m x = true ↔ ∃ u, u < n ∧ ms u = true ∧ Goes adj u x) := by
  intro x hx
  refine ⟨h.sound x hx, fun ⟨u, hu, hs, hg⟩ => ?_⟩
  exact (Goes.closed (P := fun y => y < n ∧ m y = true) (fun y hy t ht => ⟨ha y hy.1 t ht, h.closed y hy.1 hy.2 (by simp) id t ht⟩) hg ⟨hu, h.start u hu hs⟩).2

/-- The search's memory. -/
structure RN (f : Names) (ov qv : Value) (n : Nat) (m : Nat → Bool) (qs : List Nat) : Prop where
  outs : f (1, 0) = some (rowV 4 ov (tabB n m))
  queue : f (2, 0) = some (rowI qv (upI qs))
section
variable {B : Nat} {w : World} {f : Names} {ov qv : Value} {n : Nat} {m : Nat → Bool} {qs : List Nat}
theorem RN.mark (h : RN f ov qv n m qs) (hr : Rows B w f) (t : Nat) (ht : t < n) : ∃ f', Rows B (w.setCell (valAt ov t) (.bool true)) f' ∧ RN f' ov qv n (updN m t true) qs := by
  have hs := hr.setV h.outs t (by rw [tabB_len]; exact ht) (.bool true)
  rw [tabB_upd] at hs
  exact ⟨_, hs, ⟨upd_same _ _ _, by rw [upd_ne _ _ (by simp)]; exact h.queue⟩⟩
theorem RN.push (h : RN f ov qv n m qs) (hr : Rows B w f) {w1 : World} {qv' : Value} (t : Nat) (ho : OwnI B w1 qv' (upI qs ++ [(t : Int)]))
    (hal : (roomOf qv' = roomOf qv ∧ w.grownBy w1 qv.ownBlock) ∨ (∃ k, qv'.ownBlock = some k ∧ w.heap.size ≤ k ∧ w.grownBy w1 none)) : ∃ f', Rows B w1 f' ∧ RN f' ov qv' n m (t :: qs) := by
  have hO := hr.ownI h.queue
  have hg : w.grownBy w1 qv.ownBlock := grown_via (hal.imp (·.2) (fun ⟨_, _, _, q⟩ => q))
  have hob : qv'.ownBlock = qv.ownBlock ∨ ∃ k, qv'.ownBlock = some k ∧ w.heap.size ≤ k := by
    rcases hal with ⟨q, _⟩ | ⟨k, h1, h2, _⟩
    · obtain ⟨a1, n1, c1, e1⟩ := hO.at.shape
      obtain ⟨a2, n2, c2, e2⟩ := ho.at.shape
      exact .inl (ownBlock_of_room e1 e2 q)
    · exact .inr ⟨k, h1, h2⟩
  exact ⟨_, hr.grown (r' := rowI qv' (upI qs ++ [(t : Int)])) h.queue hg ho hob, ⟨by rw [upd_ne _ _ (by simp)]; exact h.outs, by rw [upd_same, upI_cons]⟩⟩
theorem RN.pop {v g c : Nat} {r : List Nat} (h : RN f ov (.slice (some ⟨g, 0, none⟩) (r.length + 1) c) n m (v :: r)) (hr : Rows B w f) : ∃ f', Rows B w f' ∧ RN f' ov (.slice (some ⟨g, 0, none⟩) r.length c) n m r := by
  have ho : f (2, 0) = some ⟨3, 1, .slice (some ⟨g, 0, none⟩) (r.length + 1) c, r.length + 1, (upI (v :: r)).map (Value.int .i64)⟩ := by
    rw [h.queue]; simp [rowI, upI_len]
  have h1 := hr.shrink ho
  have hx : ((upI (v :: r)).map (Value.int .i64)).take (r.length * 1) = (upI r).map (Value.int .i64) := by
    rw [upI_cons, List.map_append, Nat.mul_one]; exact List.take_left' (by simp [upI_len])
  rw [hx] at h1
  exact ⟨_, h1, ⟨by rw [upd_ne _ _ (by simp)]; exact h.outs, by rw [upd_same]; simp [upI_len]⟩⟩
theorem RN.shape {v : Nat} {r : List Nat} (h : RN f ov qv n m (v :: r)) (hr : Rows B w f) : ∃ g c, qv = .slice (some ⟨g, 0, none⟩) (r.length + 1) c ∧ r.length + 1 ≤ c := by
  obtain ⟨g, c, e, e2⟩ := row_shape (hr.1 _ _ h.queue) (by show 0 < (upI (v :: r)).length; rw [upI_len]; simp)
  have e : qv = .slice (some ⟨g, 0, none⟩) (upI (v :: r)).length c := e
  have e2 : (upI (v :: r)).length ≤ c := e2
  rw [upI_len, List.length_cons] at e e2
  exact ⟨g, c, e, e2⟩
end
theorem upI_topR (t : Nat) (o : List Nat) : (upI (t :: o)).getD o.length 0 = (t : Int) := by
  rw [upI_cons, List.getD_eq_getElem?_getD, List.getElem?_append_right (by rw [upI_len]; exact Nat.le_refl _), upI_len, Nat.sub_self]; rfl

set_option maxHeartbeats 4000000 in
theorem reach_any (na : Option Addr) (nc : Nat) (G : List (List Int)) (mv : Value) (ms : Nat → Bool) (w : World) (h : ListsAt w (.slice na G.length nc) G) (hok : GraphOk G) (hn : G.length ≤ 8200) (hm : ValsAt w mv (tabB G.length ms)) :
    Calls Tryd.prog 55 #[.slice na G.length nc, mv] w (Ret1 (fun x w' => ∃ out : Nat → Bool, OwnV 4 w.heap.size w' x (tabB G.length out) ∧ ∀ x, x < G.length → (out x = true ↔ ∃ u, u < G.length ∧ ms u = true ∧ Goes (adjOf G) u x)) w) := by
  have hC := clone_bools mv G.length ms w hm (by omega)
  replace h := Lib.hid h
  replace hok := Lib.hid hok
  replace hm := Lib.hid hm
  go_enter Tryd.func55, Tryd.ntmps55
  go_wp2_with fail
  refine hC.mono ?_
  rintro e w1 ⟨ov, rfl, b1, ho⟩
  clear hC
  have R1 := ((rows_nils w.heap.size w 0).add (i := (1, 0)) (r' := rowV 4 ov (tabB G.length ms)) b1 ho (fun k hk => (ho.lt k hk).1)).fresh (i := (2, 0)) (r' := rowI (.slice none 0 0) []) (World.grownBy.refl _ _) (OwnI.nil _ _) (fun k hk => (by cases hk))
  have h1 : RN (upd (upd (nils 0) (1, 0) (some (rowV 4 ov (tabB G.length ms)))) (2, 0) (some (rowI (.slice none 0 0) []))) ov (.slice none 0 0) G.length ms [] := ⟨by rw [upd_ne _ _ (by simp), upd_same], by rw [upd_same]; rfl⟩
  generalize upd (upd (nils 0) (1, 0) (some (rowV 4 ov (tabB G.length ms)))) (2, 0) (some (rowI (.slice none 0 0) [])) = f1 at *
  have lO := fun w' => ho.at.len oneBoolG 3 w'
  rw [tabB_len] at lO
  replace R1 := Lib.hid R1
  replace ho := Lib.hid ho
  go_wp2_with fail
  clear lO
  go_loopw [6, 16] (fun qv kv wr => ∃ (k : Nat) (qs : List Nat) (f : Names) (qw : Value), qw = qv ∧ kv = .int .i64 k ∧ k ≤ G.length ∧ qs.length ≤ k ∧ Rows w.heap.size wr f ∧ Below w.heap.size w wr ∧ RN f ov qw G.length ms qs ∧ ∀ x, x ∈ qs ↔ (x < k ∧ ms x = true)) (fun _ kv _ => G.length - (intOf kv).toNat)
  case atStart => exact ⟨0, [], f1, _, rfl, rfl, by omega, by simp, R1.out, b1, h1, fun x => ⟨fun h => (by cases h), fun h => by omega⟩⟩
  case round =>
    clear h1 R1 ho
    obtain ⟨k, qs, f2, qv, rfl, rfl, hk, hql, hr2, b2, h2, hqs⟩ := hrel
    obtain ⟨wo, rfl⟩ : ∃ wo : World, wo = wr := ⟨_, rfl⟩
    by_cases hlt : k < G.length
    · have hOV := (hr2.ownV h2.outs).at
      have iK := fun w' => hOV.idx oneBoolG k (by rw [tabB_len]; exact hlt) w'
      have cK := hOV.cellV k (by rw [tabB_len]; exact hlt)
      rw [tabB_get _ _ _ hlt] at cK
      generalize valAt ov k = ka at *
      obtain ⟨bk, hbk⟩ : ∃ bk, ms k = bk := ⟨_, rfl⟩
      rw [hbk] at cK
      replace hOV := Lib.hid hOV
      cases bk with
      | true =>
        have hOQ := hr2.ownI h2.queue
        have hB2 : w.heap.size ≤ wo.heap.size := b2.size
        have hqs2 : ∀ x, x ∈ k :: qs ↔ (x < k + 1 ∧ ms x = true) := fun x => by
          rw [List.mem_cons, hqs x]
          constructor
          · rintro (rfl | ⟨a, b⟩)
            · exact ⟨by omega, hbk⟩
            · exact ⟨by omega, b⟩
          · rintro ⟨a, b⟩
            by_cases e : x = k
            · exact .inl e
            · exact .inr ⟨by omega, b⟩
        replace hqs2 := Lib.hid hqs2
        replace hqs := Lib.hid hqs
        replace hbk := Lib.hid hbk
        replace hr2 := Lib.hid hr2
        go_wp2_with (at_builtin; refine wpl_app1 rfl _ _ rfl w.heap.size qv (upI qs) k hOQ rfl rfl (by rw [upI_len]; omega) hB2 ?_)
        intro qv' w7 ho7 b7 hal7
        obtain ⟨f7, hr7, h7⟩ := h2.push hr2.out k ho7 hal7
        replace hr7 := Lib.hid hr7
        replace ho7 := Lib.hid ho7
        clear hal7
        go_wp2
        go_roundw
        case measure => simp [intOf]; omega
        case rel => exact ⟨k + 1, k :: qs, f7, qv', rfl, by go_num, by omega, by simp only [List.length_cons]; omega, hr7.out, b2.trans b7, h7, hqs2.out⟩
      | false =>
        have hqs2 : ∀ x, x ∈ qs ↔ (x < k + 1 ∧ ms x = true) := fun x => by
          rw [hqs x]
          constructor
          · rintro ⟨a, b⟩; exact ⟨by omega, b⟩
          · rintro ⟨a, b⟩
            by_cases e : x = k
            · subst e; rw [hbk] at b; cases b
            · exact ⟨by omega, b⟩
        replace hqs2 := Lib.hid hqs2
        replace hqs := Lib.hid hqs
        replace hbk := Lib.hid hbk
        replace hr2 := Lib.hid hr2
        go_wp2
        go_roundw
        case measure => simp [intOf]; omega
        case rel => exact ⟨k + 1, qs, f2, qv, rfl, by go_num, by omega, by omega, hr2.out, b2, h2, hqs2.out⟩
    · obtain rfl : k = G.length := by omega
      have hinv : RInv G.length (adjOf G) ms ms qs (fun _ => False) := ⟨fun _ _ q => q, fun x hx q => ⟨x, hx, q, .refl x⟩, fun x hx => ⟨((hqs x).1 hx).1, ((hqs x).1 hx).2⟩, fun x hx hmx hq _ => absurd ((hqs x).2 ⟨hx, hmx⟩) hq⟩
      replace hinv := Lib.hid hinv
      replace hqs := Lib.hid hqs
      replace hr2 := Lib.hid hr2
      go_wp2_with fail
      go_loopg [6] (2 * unm G.length ms + qs.length) (fun k qv wr => ∃ (m : Nat → Bool) (qs : List Nat) (f : Names) (qw : Value), qw = qv ∧ k = 2 * unm G.length m + qs.length ∧ k ≤ 3 * G.length ∧ Rows w.heap.size wr f ∧ Below w.heap.size w wr ∧ RN f ov qw G.length m qs ∧ RInv G.length (adjOf G) ms m qs (fun _ => False))
      case atStart => exact ⟨ms, qs, f2, qv, rfl, rfl, by have := unm_le G.length ms; omega, hr2.out, b2, h2, hinv.out⟩
      case round =>
        clear hinv hqs hr2 h2 b2 hql
        obtain ⟨m, qs, f3, qv, rfl, rfl, hk3, hr3, b3, h3, hI⟩ := hrel
        obtain ⟨wo, rfl⟩ : ∃ wo : World, wo = wr := ⟨_, rfl⟩
        cases qs with
        | nil =>
          have hOQ := hr3.ownI h3.queue
          have lQ := hOQ.at.len
          rw [upI_len, List.length_nil] at lQ
          have hall := hI.all hok.out.lt
          have hres := hr3.ownV h3.outs
          replace hall := Lib.hid hall
          replace hres := Lib.hid hres
          replace hI := Lib.hid hI
          replace hr3 := Lib.hid hr3
          go_wp2
          go_ret
          exact ⟨_, rfl, b3, m, hres.out, hall.out⟩
        | cons v r =>
          obtain ⟨g, c, rfl, hcap⟩ := h3.shape hr3
          have hun := unm_le G.length m
          obtain ⟨hvn, hmv⟩ := hI.queue v List.mem_cons_self
          have hOQ := (hr3.ownI h3.queue).at
          have iV := fun w' => hOQ.idx r.length (by rw [upI_len]; simp) w'
          have cV := hOQ.cellD r.length (by rw [upI_len]; simp)
          rw [upI_topR] at cV
          obtain ⟨f4, hr4, h4⟩ := h3.pop hr3
          have hpop := hI.pop
          obtain ⟨xv, iR, cR0, hM0⟩ := h.out.row v hvn
          have cR := (b3.cell (World.block_lt_of_cell? _ _ cR0)).trans cR0
          have hM := hM0.below b3
          have hgp := hok.out v hvn
          have hadj : adjOf G v = (G.getD v []).map Int.toNat := rfl
          generalize G.getD v [] = gx at *
          have lM := hM.len
          have hglen := hM.len_le
          generalize valAt (.slice na G.length nc) v = ra at *
          generalize valAt (.slice (some ⟨g, 0, none⟩) (r.length + 1) c) r.length = qa at *
          simp only [List.length_cons] at hk3
          have hwr : IntKind.i64.wrap (r.length : Int) = r.length := wrapK (by omega) (by omega)
          have hsl : (0 ≤ (r.length : Int) ∧ (r.length : Int) ≤ (c : Int)) := ⟨by omega, by omega⟩
          replace hOQ := Lib.hid hOQ
          replace hM := Lib.hid hM
          replace hM0 := Lib.hid hM0
          replace hgp := Lib.hid hgp
          replace hadj := Lib.hid hadj
          replace hr3 := Lib.hid hr3
          replace hr4 := Lib.hid hr4
          replace hI := Lib.hid hI
          replace hpop := Lib.hid hpop
          replace hmv := Lib.hid hmv
          go_wp2_with fail
          clear iV cV iR cR lM
          go_loopw [6, 46] (fun qv jv wr => ∃ (j : Nat) (m' : Nat → Bool) (qs : List Nat) (f : Names) (qw : Value), qw = qv ∧ jv = .int .i64 j ∧ j ≤ gx.length ∧ 2 * unm G.length m' + qs.length ≤ 2 * unm G.length m + r.length ∧ Rows w.heap.size wr f ∧ Below w.heap.size w wr ∧ RN f ov qw G.length m' qs ∧ RInv G.length (adjOf G) ms m' qs (fun x => x = v) ∧ m' v = true ∧ ∀ i, i < j → m' (gx.getD i 0).toNat = true) (fun _ jv _ => gx.length - (intOf jv).toNat)
          case atStart => exact ⟨0, m, r, f4, _, rfl, rfl, by omega, Nat.le_refl _, hr4.out, b3, h4, hpop.out, hmv.out, fun i hi => by omega⟩
          case round =>
            clear hOQ hM hr3 hr4 h4 h3 b3 hpop hI hmv hwr hsl hcap
            obtain ⟨j, m', qs, f5, qv, rfl, rfl, hj, hle, hr5, b5, h5, hI, hmv, hdone⟩ := hrel
            obtain ⟨wo, rfl⟩ : ∃ wo : World, wo = wr := ⟨_, rfl⟩
            by_cases hjl : j < gx.length
            · have hMj := hM0.out.below b5
              have hgj := hgp.out gx[j] (List.getElem_mem hjl)
              obtain ⟨t, hu⟩ : ∃ t : Nat, gx[j] = t := Int.eq_ofNat_of_zero_le hgj.1
              have htn : t < G.length := by rw [hu] at hgj; omega
              have hgd : gx.getD j 0 = (t : Int) := by rw [List.getD_eq_getElem?_getD, List.getElem?_eq_getElem hjl, hu]; rfl
              have hta : t ∈ adjOf G v := by
                rw [hadj.out]
                exact List.mem_map.2 ⟨gx[j], List.getElem_mem hjl, by rw [hu]; rfl⟩
              have iJ := fun w' => hMj.idx j hjl w'
              have cJ := hMj.cellD j hjl
              rw [hgd] at cJ
              have hOV := (hr5.ownV h5.outs)
              have iT := fun w' => hOV.at.idx oneBoolG t (by rw [tabB_len]; exact htn) w'
              have cT := hOV.at.cellV t (by rw [tabB_len]; exact htn)
              rw [tabB_get _ _ _ htn] at cT
              have fT := hOV.frz t (by rw [tabB_len]; exact htn)
              have kT := (hOV.blkB t (by rw [tabB_len]; exact htn)).2
              obtain ⟨f6, hr6, h6⟩ := h5.mark hr5 t htn
              have b6 : Below w.heap.size w (wo.setCell (valAt ov t) (.bool true)) := b5.setCell kT _
              generalize valAt xv j = ja at *
              generalize valAt ov t = ta at *
              obtain ⟨bt, hbt⟩ : ∃ bt, m' t = bt := ⟨_, rfl⟩
              rw [hbt] at cT
              cases bt with
              | false =>
                have hunm := unm_upd G.length m' t htn hbt
                have hmark := hI.mark hvn hmv hta htn
                have hmv2 : updN m' t true v = true := by
                  by_cases e : v = t
                  · subst e; exact updN_same _ _ _
                  · rw [updN_other _ _ _ e]; exact hmv
                have hdone2 : ∀ i, i < j + 1 → updN m' t true (gx.getD i 0).toNat = true := fun i hi => by
                  by_cases e : (gx.getD i 0).toNat = t
                  · rw [e]; exact updN_same _ _ _
                  · rw [updN_other _ _ _ e]
                    by_cases q : i = j
                    · subst q; rw [hgd] at e; exact absurd rfl e
                    · exact hdone i (by omega)
                replace hmark := Lib.hid hmark
                replace hmv2 := Lib.hid hmv2
                replace hdone2 := Lib.hid hdone2
                replace hdone := Lib.hid hdone
                replace hmv := Lib.hid hmv
                replace hI := Lib.hid hI
                replace hbt := Lib.hid hbt
                replace hr5 := Lib.hid hr5
                replace hr6 := Lib.hid hr6
                replace hOV := Lib.hid hOV
                replace hMj := Lib.hid hMj
                replace hgd := Lib.hid hgd
                replace hgj := Lib.hid hgj
                replace hu := Lib.hid hu
                replace hta := Lib.hid hta
                go_upto_region 17 with fail
                obtain ⟨W6, hW6⟩ : ∃ W6 : World, W6 = wo.setCell ta (.bool true) := ⟨_, rfl⟩
                rw [← hW6]
                rw [← hW6] at hr6 b6
                clear hW6 iJ cJ iT cT fT
                have hOQ := hr6.out.ownI h6.queue
                have hB6 : w.heap.size ≤ W6.heap.size := b6.size
                go_wp2_with (at_builtin; refine wpl_app1 rfl _ _ rfl w.heap.size qv (upI qs) t hOQ rfl rfl (by rw [upI_len]; omega) hB6 ?_)
                intro qv' w7 ho7 b7 hal7
                obtain ⟨f7, hr7, h7⟩ := h6.push hr6.out t ho7 hal7
                replace hr7 := Lib.hid hr7
                replace ho7 := Lib.hid ho7
                clear hal7
                go_wp2
                go_roundw
                case measure => simp [intOf]; omega
                case rel => exact ⟨j + 1, updN m' t true, t :: qs, f7, qv', rfl, by go_num, by omega, by simp only [List.length_cons]; omega, hr7.out, b6.trans b7, h7, hmark.out, hmv2.out, hdone2.out⟩
              | true =>
                have hdone2 : ∀ i, i < j + 1 → m' (gx.getD i 0).toNat = true := fun i hi => by
                  by_cases q : i = j
                  · subst q; rw [hgd]; exact hbt
                  · exact hdone i (by omega)
                replace hdone2 := Lib.hid hdone2
                replace hdone := Lib.hid hdone
                replace hmv := Lib.hid hmv
                replace hI := Lib.hid hI
                replace hbt := Lib.hid hbt
                replace hr5 := Lib.hid hr5
                replace hr6 := Lib.hid hr6
                replace hOV := Lib.hid hOV
                replace hMj := Lib.hid hMj
                replace hgd := Lib.hid hgd
                replace hgj := Lib.hid hgj
                replace hu := Lib.hid hu
                replace hta := Lib.hid hta
                go_wp2
                go_roundw
                case measure => simp [intOf]; omega
                case rel => exact ⟨j + 1, m', qs, f5, qv, rfl, by go_num, by omega, by omega, hr5.out, b5, h5, hI.out, hmv.out, hdone2.out⟩
            · obtain rfl : j = gx.length := by omega
              have hfin := hI.finish (fun t ht => by
                rw [hadj.out] at ht
                obtain ⟨x, hx, rfl⟩ := List.mem_map.1 ht
                obtain ⟨i, hi, rfl⟩ := List.mem_iff_getElem.1 hx
                have := hdone i hi
                rw [List.getD_eq_getElem?_getD, List.getElem?_eq_getElem hi] at this
                exact this)
              replace hfin := Lib.hid hfin
              replace hdone := Lib.hid hdone
              replace hmv := Lib.hid hmv
              replace hI := Lib.hid hI
              replace hr5 := Lib.hid hr5
              go_wp2
              go_roundg (2 * unm G.length m' + qs.length)
              case measure => simp only [List.length_cons]; omega
              case rel => exact ⟨m', qs, f5, qv, rfl, rfl, by omega, hr5.out, b5, h5, hfin.out⟩
end Go.Proofs.YtbpdmpcakenjhaaDoor

namespace Go.Proofs.YtbpdmpcakenjhaaDoor
open Go.RowKit
set_option maxRecDepth 100000

/-- What is told so far: the first k lists, and j of the next. -/
def BackTo (G : List (List Int)) (k j : Nat) (F : Nat → List Int) : Prop :=
  ∀ t, t < G.length → ((F t).length ≤ arrowsTo G k + j ∧ ∀ y : Int, y ∈ F t ↔ ∃ v : Nat, y = v ∧ (v < k ∧ (t : Int) ∈ G.getD v [] ∨ v = k ∧ (t : Int) ∈ (G.getD k []).take j))
theorem BackTo.zero (G : List (List Int)) : BackTo G 0 0 (fun _ => []) := by
  intro t _
  refine ⟨Nat.zero_le _, fun y => ⟨fun h => (by cases h), fun ⟨v, _, h⟩ => ?_⟩⟩
  rcases h with ⟨h, _⟩ | ⟨_, h⟩
  · omega
  · simp at h
theorem BackTo.next {G : List (List Int)} {k : Nat} {F : Nat → List Int} (h : BackTo G k (G.getD k []).length F) : BackTo G (k + 1) 0 F := by
  intro t ht
  obtain ⟨h1, h2⟩ := h t ht
  refine ⟨by simpa [arrowsTo] using h1, fun y => ?_⟩
  rw [h2 y]
  constructor
  · rintro ⟨v, hv, h⟩
    refine ⟨v, hv, .inl ?_⟩
    rcases h with ⟨a, b⟩ | ⟨rfl, b⟩
    · exact ⟨by omega, b⟩
    · rw [List.take_length] at b; exact ⟨by omega, b⟩
  · rintro ⟨v, hv, h⟩
    rcases h with ⟨a, b⟩ | ⟨_, b⟩
    · refine ⟨v, hv, ?_⟩
      by_cases e : v = k
      · subst e; exact .inr ⟨rfl, by rw [List.take_length]; exact b⟩
      · exact .inl ⟨by omega, b⟩
    · simp at b
theorem BackTo.add {G : List (List Int)} {k j u : Nat} {F : Nat → List Int} (h : BackTo G k j F) (hj : (G.getD k [])[j]? = some (u : Int)) : BackTo G k (j + 1) (updN F u (F u ++ [(k : Int)])) := by
  have hjl : j < (G.getD k []).length := by
    by_cases q : j < (G.getD k []).length
    · exact q
    · rw [List.getElem?_eq_none (by omega)] at hj; cases hj
  have htk : (G.getD k []).take (j + 1) = (G.getD k []).take j ++ [(u : Int)] := by
    rw [List.take_add_one, hj]; rfl
  intro t ht
  obtain ⟨h1, h2⟩ := h t ht
  by_cases e : t = u
  · subst e
    rw [updN_same]
    refine ⟨by rw [List.length_append]; simp only [List.length_cons, List.length_nil]; omega, fun y => ?_⟩
    rw [List.mem_append, h2 y, htk]
    simp only [List.mem_singleton, List.mem_append]
    constructor
    · rintro (⟨v, hv, h⟩ | rfl)
      · refine ⟨v, hv, ?_⟩
        rcases h with h | ⟨a, b⟩
        · exact .inl h
        · exact .inr ⟨a, .inl b⟩
      · exact ⟨k, rfl, .inr ⟨rfl, .inr (by simp)⟩⟩
    · rintro ⟨v, hv, h⟩
      rcases h with h | ⟨a, b | b⟩
      · exact .inl ⟨v, hv, .inl h⟩
      · exact .inl ⟨v, hv, .inr ⟨a, b⟩⟩
      · right; rw [hv, a]
  · rw [updN_other _ _ _ e]
    refine ⟨by omega, fun y => ?_⟩
    rw [h2 y, htk]
    simp only [List.mem_append, List.mem_singleton]
    constructor
    · rintro ⟨v, hv, h⟩
      refine ⟨v, hv, ?_⟩
      rcases h with h | ⟨a, b⟩
      · exact .inl h
      · exact .inr ⟨a, .inl b⟩
    · rintro ⟨v, hv, h⟩
      refine ⟨v, hv, ?_⟩
      rcases h with h | ⟨a, b | b⟩
      · exact .inl h
      · exact .inr ⟨a, b⟩
      · exact absurd (by omega) e
/-- The graph turned: arrows the other way. -/
def TurnedOf (G H : List (List Int)) : Prop := H.length = G.length ∧ (∀ t, t < G.length → (H.getD t []).length ≤ arrowsTo G G.length) ∧ ∀ t, t < G.length → ∀ y : Int, y ∈ H.getD t [] ↔ ∃ v : Nat, y = v ∧ v < G.length ∧ (t : Int) ∈ G.getD v []
theorem BackTo.turned {G : List (List Int)} {F : Nat → List Int} (h : BackTo G G.length 0 F) : TurnedOf G (rowsOf G.length F) := by
  refine ⟨rowsOf_len _ _, fun t ht => ?_, fun t ht y => ?_⟩
  · rw [rowsOf_get _ _ _ ht]; simpa using (h t ht).1
  · rw [rowsOf_get _ _ _ ht, (h t ht).2 y]
    constructor
    · rintro ⟨v, hv, h⟩
      rcases h with h | ⟨_, h⟩
      · exact ⟨v, hv, h.1, h.2⟩
      · simp at h
    · rintro ⟨v, hv, h⟩
      exact ⟨v, hv, .inl h⟩

set_option maxHeartbeats 4000000 in
theorem graph_back (na : Option Addr) (nc : Nat) (G : List (List Int)) (w : World) (h : ListsAt w (.slice na G.length nc) G) (hok : GraphOk G) (hn : G.length ≤ 8200) (harr : arrowsTo G G.length ≤ 262144) :
    Calls Tryd.prog 56 #[.slice na G.length nc] w (Ret1 (fun x w' => ∃ H, TurnedOf G H ∧ ListsAt w' x H) w) := by
  obtain ⟨ov, w1, mk, ho, hb1⟩ := run_makeW oneLists (G.length : Int) G.length w rfl (by omega)
  obtain ⟨f1, hr1, h1⟩ := WN.made G.length hb1 (Nat.le_refl _) ho
  obtain ⟨oa, on, oc, rfl⟩ := ho.shape
  have hlen : ∀ k, k < G.length → (G.getD k []).length ≤ 262144 := fun k hk => by
    have := arrowsTo_mono G (show k + 1 ≤ G.length by omega)
    simp only [arrowsTo] at this; omega
  replace h := Lib.hid h
  replace hok := Lib.hid hok
  replace hr1 := Lib.hid hr1
  replace ho := Lib.hid ho
  replace hlen := Lib.hid hlen
  go_enter Tryd.func56, Tryd.ntmps56
  go_wp2_with fail
  clear mk
  go_loopw [13] (fun kv wr => ∃ (k : Nat) (F : Nat → List Int) (f : Names) (vals : List Value), k ≤ G.length ∧ kv = .int .i64 k ∧ Rows w.heap.size wr f ∧ Below w.heap.size w wr ∧ WN f (.slice oa on oc) vals G.length F ∧ BackTo G k 0 F) (fun kv _ => G.length - (intOf kv).toNat)
  case atStart => exact ⟨0, _, f1, _, by omega, rfl, hr1.out, hb1, h1, BackTo.zero G⟩
  case round =>
    clear h1 ho hr1
    obtain ⟨k, F, f2, vals, hk, rfl, hr2, b2, h2, hB⟩ := hrel
    obtain ⟨wo, rfl⟩ : ∃ wo : World, wo = wr := ⟨_, rfl⟩
    by_cases hlt : k < G.length
    · obtain ⟨mv, iR, cR0, hM0⟩ := h.out.row k hlt
      have cR := (b2.cell (World.block_lt_of_cell? _ _ cR0)).trans cR0
      clear cR0
      have hM := hM0.below b2
      have hgl := hlen.out k hlt
      have hgp := hok.out k hlt
      have hBadd := fun (j u : Nat) (F : Nat → List Int) (h : BackTo G k j F) => h.add (u := u)
      have hBnext := fun (F : Nat → List Int) (h : BackTo G k (G.getD k []).length F) => h.next
      have hBlen := fun (j t : Nat) (F : Nat → List Int) (h : BackTo G k j F) (ht : t < G.length) => (h t ht).1
      have harrk := arrowsTo_mono G hk
      generalize G.getD k [] = gk at *
      have lM := hM.len
      generalize valAt (.slice na G.length nc) k = ra at *
      replace hB := Lib.hid hB
      replace hBadd := Lib.hid hBadd
      replace hBnext := Lib.hid hBnext
      replace hBlen := Lib.hid hBlen
      replace hgp := Lib.hid hgp
      replace hr2 := Lib.hid hr2
      replace hM := Lib.hid hM
      replace hM0 := Lib.hid hM0
      go_wp2_with fail
      clear iR cR lM
      go_loopw [20] (fun jv wr => ∃ (j : Nat) (F : Nat → List Int) (f : Names) (vals : List Value), j ≤ gk.length ∧ jv = .int .i64 j ∧ Rows w.heap.size wr f ∧ Below w.heap.size w wr ∧ WN f (.slice oa on oc) vals G.length F ∧ BackTo G k j F) (fun jv _ => gk.length - (intOf jv).toNat)
      case atStart => exact ⟨0, F, f2, vals, by omega, rfl, hr2.out, b2, h2, hB.out⟩
      case round =>
        clear hB hr2 h2 b2 hM
        obtain ⟨j, F, f3, vals, hj, rfl, hr3, b3, h3, hB⟩ := hrel
        obtain ⟨wo, rfl⟩ : ∃ wo : World, wo = wr := ⟨_, rfl⟩
        by_cases hjl : j < gk.length
        · have hMj := hM0.out.below b3
          have hgj := hgp.out gk[j] (List.getElem_mem hjl)
          obtain ⟨u, hu⟩ : ∃ u : Nat, gk[j] = u := Int.eq_ofNat_of_zero_le hgj.1
          have hun : u < G.length := by rw [hu] at hgj; omega
          have hgu : gk[j]? = some (u : Int) := by rw [List.getElem?_eq_getElem hjl, hu]
          have hgd : gk.getD j 0 = (u : Int) := by rw [List.getD_eq_getElem?_getD, hgu]; rfl
          have iJ := fun w' => hMj.idx j hjl w'
          have cJ := hMj.cellD j hjl
          rw [hgd] at cJ
          have hadd := hBadd.out j u F hB hgu
          have hfl := hBlen.out j u F hB hun
          have hOV := (hr3.ownV h3.outer).at
          have iO := fun w' => hOV.idx oneLists u (by rw [h3.len]; exact hun) w'
          have cO := hOV.cellV u (by rw [h3.len]; exact hun)
          have hT := hr3.ownI (h3.rows u hun)
          have happ := fun (w1 : World) (v' : Value) => h3.app hr3 hun (w1 := w1) (v' := v') (k : Int)
          have hput := fun (w1 : World) (v' : Value) (xs : List Int) => h3.put (B := w.heap.size) (w1 := w1) hun (v' := v') (xs := xs)
          have hB3 : w.heap.size ≤ wo.heap.size := b3.size
          generalize valAt mv j = ja at *
          generalize vAt vals u = tv at *
          generalize valAt (.slice oa on oc) u = ua at *
          replace hadd := Lib.hid hadd
          replace happ := Lib.hid happ
          replace hput := Lib.hid hput
          replace hB := Lib.hid hB
          replace hr3 := Lib.hid hr3
          replace hOV := Lib.hid hOV
          replace hgu := Lib.hid hgu
          replace hgd := Lib.hid hgd
          replace hu := Lib.hid hu
          replace hgj := Lib.hid hgj
          go_wp2_with (at_builtin; refine wpl_app1 rfl _ _ rfl w.heap.size tv (F u) k hT rfl rfl (by omega) hB3 ?_)
          intro v' w7 ho7 b7 hal7
          have hR7 := happ.out w7 v' ho7 hal7
          obtain ⟨y1, y2, y3, f8, hr8, h8, _⟩ := hput.out w7 v' _ hR7
          obtain ⟨va, vn, vc, rfl⟩ := ho7.at.shape
          replace hr8 := Lib.hid hr8
          replace ho7 := Lib.hid ho7
          replace hR7 := Lib.hid hR7
          clear hal7 hT iJ cJ cO
          go_wp2
          go_roundw
          case measure => simp [intOf]; omega
          case rel => exact ⟨j + 1, _, f8, _, by omega, by go_num, hr8.out, (b3.trans b7).setCell y3 _, h8, hadd.out⟩
        · obtain rfl : j = gk.length := by omega
          have hnext := hBnext.out F hB
          replace hnext := Lib.hid hnext
          replace hB := Lib.hid hB
          replace hr3 := Lib.hid hr3
          go_wp2
          go_roundw
          case measure => simp [intOf]; omega
          case rel => exact ⟨k + 1, F, f3, vals, by omega, by go_num, hr3.out, b3, h3, hnext.out⟩
    · obtain rfl : k = G.length := by omega
      have hT := hB.turned
      have hL := h2.lists hr2
      replace hB := Lib.hid hB
      replace hT := Lib.hid hT
      replace hL := Lib.hid hL
      replace hr2 := Lib.hid hr2
      go_wp2
      go_ret
      exact ⟨_, rfl, b2, _, hT.out, hL.out⟩
end Go.Proofs.YtbpdmpcakenjhaaDoor
