/-
  The model's entries for internal/reflectlite at a *api.Fault and at the address of a variable of that type (after the kit's worked example Toyas).
  Walk: errors.As at a Fault (after the kit's worked example Toyas).
  Walk: edenraw.Is at an error that is what it must be.
  Plain law of AddParts: a table is a sum just if each window is the sum of two.
  Plain mathematics of AddSums: a product may be turned; the factors of a sum at one symbol alone; factors taken modulo k.
  Plain mathematics: the reference's sums, window by window; what it tells by the factors; its products.
  Walk: edenref18.Sum.
  append(s, t...) as a run and as a step of a drawn region; walk: edenraw.Copy.
  The memory of overlap.dead under names: its box, the marks, the list and its items; what a store, an append does to it.
  A law for a region that draws its order: the operations of its head in an order of our own, each load under a fact on the world that the head keeps; then the forced tail, one behind the other.
  Walk: (*overlap.dead).on at the word's end.
-/
import Derived.Test.YtbpdmpcakenjhaaDoorMPs2
import Derived.LaidEql
import Derived.Stop.Asserts
import Derived.RowKitTokens
import Derived.Deep.RegionHeld3
import Derived.StillTail
import Derived.BigQuiet
import Derived.Deep.QuietTactic
namespace Go.Proofs.YtbpdmpcakenjhaaDoor
open Go.RowKit Go.Extern.Stop Go.Stop Go.Extern
set_option maxRecDepth 100000
namespace Errs

/-! errors.As at a Fault: the target a *api.Fault variable. -/
theorem uF : Tryd.prog.underlying 90 = some (.pointer 94) := by kernel_rfl
theorem uFF : Tryd.prog.underlying 92 = some (.pointer 90) := by kernel_rfl
theorem valueOfFF (t : Addr) (w : World) : (ReflectliteValue.unpack (.iface 92 (.pointer (some t)))).run Tryd.prog w
    = .ok (.agg #[.pointer (some ⟨13, 92, none⟩), .pointer (some ⟨w.heap.size, 0, none⟩), .int .u64 150]) (w.alloc (.cells #[.pointer (some t)] 92)) := by kernel_rfl
theorem typeFF (a : Addr) (w : World) : (ReflectliteValue.methodAny (ReflectliteValue.valueError "reflectlite.Value.Type" 0) (fun t _ _ _ => ReflectliteType.toType t) #[.agg #[.pointer (some ⟨13, 92, none⟩), .pointer (some a), .int .u64 150]]).run Tryd.prog w
    = .ok (.iface 138 (.agg #[.pointer (some ⟨13, 92, none⟩)])) w := by kernel_rfl
theorem methodKind (h : Value) (w : World) : (Go.method 307 138 (.agg #[h]) "Kind").run Tryd.prog w = .ok (139, h) w := by kernel_rfl
theorem kindFF (w : World) : ((ReflectliteType.abiMethod fun t => (fun a : Nat => Value.int IntKind.u8 (a : Int)) <$> Rtype.kind t) #[.pointer (some ⟨13, 92, none⟩)]).run Tryd.prog w = .ok (.int .u8 22) w := by kernel_rfl
theorem kindF (w : World) : ((ReflectliteType.abiMethod fun t => (fun a : Nat => Value.int IntKind.u8 (a : Int)) <$> Rtype.kind t) #[.pointer (some ⟨13, 90, none⟩)]).run Tryd.prog w = .ok (.int .u8 22) w := by kernel_rfl
theorem rlm (z : Sem Value) (f : TypeId → Addr → Nat → Nat → Sem Value) (v : Value) :
    ReflectliteValue.method z f #[v] = (do match ← ReflectliteValue.parts v with | none => z | some (t, a, fl) => f t a fl (fl % 32)) := rfl
theorem partsFF (a : Addr) (w : World) : (ReflectliteValue.parts (.agg #[.pointer (some ⟨13, 92, none⟩), .pointer (some a), .int .u64 150])).run Tryd.prog w = .ok (some (92, a, 150)) w := by kernel_rfl
theorem isNilFF (a p : Addr) (W : World) (ha : W.cell? a = some (.pointer (some p))) :
    (ReflectliteValue.method (ReflectliteValue.valueError "reflectlite.Value.IsNil" 0) ReflectliteValue.isNil #[.agg #[.pointer (some ⟨13, 92, none⟩), .pointer (some a), .int .u64 150]]).run Tryd.prog W = .ok (.bool false) W := by
  rw [rlm]
  simp only [Sem.run_bind, partsFF, Result.andThen]
  simp [ReflectliteValue.isNil, loadVar, isAgg, underlying, ha, Result.andThen]
theorem methodElem (h : Value) (w : World) : (Go.method 307 138 (.agg #[h]) "Elem").run Tryd.prog w = .ok (150, .agg #[h]) w := by kernel_rfl
theorem methodImplements (h : Value) (w : World) : (Go.method 307 138 (.agg #[h]) "Implements").run Tryd.prog w = .ok (151, .agg #[h]) w := by kernel_rfl
theorem methodAssignableTo (h : Value) (w : World) : (Go.method 307 138 (.agg #[h]) "AssignableTo").run Tryd.prog w = .ok (148, .agg #[h]) w := by kernel_rfl
theorem elemFF (w : World) : (ReflectliteType.method ReflectliteType.elem #[.agg #[.pointer (some ⟨13, 92, none⟩)]]).run Tryd.prog w = .ok (.iface 138 (.agg #[.pointer (some ⟨13, 90, none⟩)])) w := by kernel_rfl
theorem implementsF (w : World) : (ReflectliteType.relation "Implements" ReflectliteType.implements_ #[.agg #[.pointer (some ⟨13, 90, none⟩)], .iface 138 (.agg #[.pointer (some ⟨13, 27, none⟩)])]).run Tryd.prog w = .ok (.bool true) w := by kernel_rfl
theorem typeOfF (v : Value) (w : World) : (ReflectliteType.typeOf #[.iface 90 v]).run Tryd.prog w = .ok (.iface 138 (.agg #[.pointer (some ⟨13, 90, none⟩)])) w := by kernel_rfl
theorem assignableF (w : World) : (ReflectliteType.relation "AssignableTo" ReflectliteType.assignableTo #[.agg #[.pointer (some ⟨13, 90, none⟩)], .iface 138 (.agg #[.pointer (some ⟨13, 90, none⟩)])]).run Tryd.prog w = .ok (.bool true) w := by kernel_rfl
theorem valueOfF (e : Addr) (w : World) : (ReflectliteValue.unpack (.iface 90 (.pointer (some e)))).run Tryd.prog w
    = .ok (.agg #[.pointer (some ⟨13, 90, none⟩), .pointer (some ⟨w.heap.size, 0, none⟩), .int .u64 150]) (w.alloc (.cells #[.pointer (some e)] 90)) := by kernel_rfl
theorem elemOfFF (w : World) : (Rtype.elem? 92).run Tryd.prog w = .ok (some 90) w := by kernel_rfl
theorem mkF (p : Addr) (w : World) : (ReflectliteValue.mk 90 p ReflectliteValue.flagAddr).run Tryd.prog w = .ok (.agg #[.pointer (some ⟨13, 90, none⟩), .pointer (some p), .int .u64 406]) w := by kernel_rfl
theorem elemVFF (a p : Addr) (W : World) (ha : W.cell? a = some (.pointer (some p))) :
    (ReflectliteValue.method (ReflectliteValue.valueError "reflectlite.Value.Elem" 0) ReflectliteValue.elem #[.agg #[.pointer (some ⟨13, 92, none⟩), .pointer (some a), .int .u64 150]]).run Tryd.prog W
      = .ok (.agg #[.pointer (some ⟨13, 90, none⟩), .pointer (some p), .int .u64 406]) W := by
  rw [rlm]
  simp only [Sem.run_bind, partsFF, Result.andThen]
  simp [ReflectliteValue.elem, loadVar, isAgg, underlying, ha, Result.andThen, elemOfFF, mkF]
theorem rls (v x : Value) : ReflectliteValue.set #[v, x] = (do
    let (some (dst, a, fl), some (src, b, _)) := (← ReflectliteValue.parts v, ← ReflectliteValue.parts x)
      | unsupported (.noEntry "extern/(internal/reflectlite.Value).Set.zeroValue")
    if fl / ReflectliteValue.flagAddr % 2 == 0 then unsupported (.noEntry "extern/(internal/reflectlite.Value).Set.unaddressable")
    let val ← loadVar src b
    if ← Rtype.directlyAssignable dst src then storeVar dst a val
    else if ← Rtype.implements dst src then
      if (← Rtype.kind src) == 20 then
        match val with
        | .nilIface => unsupported (.noEntry "extern/reflectlite: a nil value of one interface type handed on as a value of another")
        | _ => storeVar dst a val
      else storeVar dst a (.iface src val)
    else panicString ("reflectlite.Set: value of type " ++ (← Rtype.spelt src) ++ " is not assignable to type " ++ (← Rtype.spelt dst))
    pure (.tuple #[])) := rfl
theorem partsFa (a : Addr) (w : World) : (ReflectliteValue.parts (.agg #[.pointer (some ⟨13, 90, none⟩), .pointer (some a), .int .u64 406])).run Tryd.prog w = .ok (some (90, a, 406)) w := by kernel_rfl
theorem partsF (a : Addr) (w : World) : (ReflectliteValue.parts (.agg #[.pointer (some ⟨13, 90, none⟩), .pointer (some a), .int .u64 150])).run Tryd.prog w = .ok (some (90, a, 150)) w := by kernel_rfl
theorem directF (w : World) : (Rtype.directlyAssignable 90 90).run Tryd.prog w = .ok true w := by kernel_rfl
theorem setF (ta b e : Addr) (old : Value) (W : World) (hb : W.cell? b = some (.pointer (some e))) (ht : W.cell? ta = some old) (hf : W.frozen? ta = false) :
    (ReflectliteValue.set #[.agg #[.pointer (some ⟨13, 90, none⟩), .pointer (some ta), .int .u64 406], .agg #[.pointer (some ⟨13, 90, none⟩), .pointer (some b), .int .u64 150]]).run Tryd.prog W
      = .ok (.tuple #[]) (W.setCell ta (.pointer (some e))) := by
  rw [rls]
  simp only [Sem.run_bind, partsFa, partsF, Result.andThen]
  simp [ReflectliteValue.flagAddr, loadVar, isAgg, underlying, hb, Result.andThen, directF, storeVar, Value.cells, storeCells, Addr.add]
  rw [run_store Tryd.prog W ta _ _ (by rfl)]
  simp [ht, hf]

end Errs
end Go.Proofs.YtbpdmpcakenjhaaDoor

namespace Go.Proofs.YtbpdmpcakenjhaaDoor
open Go.RowKit Go.Extern.Stop Go.Stop Go.Extern
set_option maxRecDepth 100000
namespace Errs
set_option maxHeartbeats 4000000 in
theorem as_hit (e t : Addr) (old : Value) (w : World) (hg : w.cell? ⟨12, 0, none⟩ = some (.iface 138 (.agg #[.pointer (some ⟨13, 27, none⟩)]))) (ht0 : w.cell? t = some old) (hf0 : w.frozen? t = false) :
    Calls Tryd.prog 64 #[.iface 90 (.pointer (some e)), .iface 92 (.pointer (some t))] w fun ev w' => ev = .returned (.bool true) ∧ w' = ((((w.alloc (.cells #[.pointer (some t)] 92)).alloc (.cells #[.pointer (some ⟨13, 92, none⟩), .pointer (some ⟨w.heap.size, 0, none⟩), .int .u64 150] 123)).alloc (.cells #[.pointer (some ⟨13, 92, none⟩), .pointer (some ⟨w.heap.size, 0, none⟩), .int .u64 150] 123)).alloc (.cells #[.pointer (some e)] 90)).setCell t (.pointer (some e)) := by
  have h6 := @run_callFunc_extern Tryd.prog 88 _ (fun args => ReflectliteValue.unpack (args.getD 0 (.tuple #[]))) Tryd.func88 (by kernel_rfl) (by kernel_rfl) (by kernel_rfl) (by kernel_rfl)
  have h7 := @run_callFunc_extern Tryd.prog 89 _ (ReflectliteValue.methodAny (ReflectliteValue.valueError "reflectlite.Value.Type" 0) (fun t _ _ _ => ReflectliteType.toType t)) Tryd.func89 (by kernel_rfl) (by kernel_rfl) (by kernel_rfl) (by kernel_rfl)
  have h8 := @run_callFunc_extern Tryd.prog 90 _ (ReflectliteValue.method (ReflectliteValue.valueError "reflectlite.Value.IsNil" 0) ReflectliteValue.isNil) Tryd.func90 (by kernel_rfl) (by kernel_rfl) (by kernel_rfl) (by kernel_rfl)
  have h27 := @run_callFunc_extern Tryd.prog 139 _ (ReflectliteType.abiMethod fun t => do pure (.int .u8 (← Rtype.kind t))) Tryd.func139 (by kernel_rfl) (by kernel_rfl) (by kernel_rfl) (by kernel_rfl)
  have h37 := @run_callFunc_extern Tryd.prog 150 _ (ReflectliteType.method ReflectliteType.elem) Tryd.func150 (by kernel_rfl) (by kernel_rfl) (by kernel_rfl) (by kernel_rfl)
  have h38 := @run_callFunc_extern Tryd.prog 151 _ (ReflectliteType.relation "Implements" ReflectliteType.implements_) Tryd.func151 (by kernel_rfl) (by kernel_rfl) (by kernel_rfl) (by kernel_rfl)
  have h10 := @run_callFunc_extern Tryd.prog 86 _ ReflectliteType.typeOf Tryd.func86 (by kernel_rfl) (by kernel_rfl) (by kernel_rfl) (by kernel_rfl)
  have h35 := @run_callFunc_extern Tryd.prog 148 _ (ReflectliteType.relation "AssignableTo" ReflectliteType.assignableTo) Tryd.func148 (by kernel_rfl) (by kernel_rfl) (by kernel_rfl) (by kernel_rfl)
  have h11 := @run_callFunc_extern Tryd.prog 102 _ (ReflectliteValue.method (ReflectliteValue.valueError "reflectlite.Value.Elem" 0) ReflectliteValue.elem) Tryd.func102 (by kernel_rfl) (by kernel_rfl) (by kernel_rfl) (by kernel_rfl)
  have h12 := @run_callFunc_extern Tryd.prog 103 _ ReflectliteValue.set Tryd.func103 (by kernel_rfl) (by kernel_rfl) (by kernel_rfl) (by kernel_rfl)
  have tO := typeOfF
  have mA := methodAssignableTo
  have aF := assignableF
  have vF := valueOfF
  have f6 := valueOfFF
  have f7 := typeFF
  have mK := methodKind
  have mE := methodElem
  have mI := methodImplements
  have kFF := kindFF
  have kF := kindF
  have eFF := elemFF
  have iF := implementsF
  have n8 := isNilFF ⟨w.heap.size, 0, none⟩ t ((w.alloc (.cells #[.pointer (some t)] 92)).alloc (.cells #[.pointer (some ⟨13, 92, none⟩), .pointer (some ⟨w.heap.size, 0, none⟩), .int .u64 150] 123)) (by simp)
  have hlt : 12 < w.heap.size := World.block_lt_of_cell? _ _ hg
  have hg2 : ((w.alloc (.cells #[.pointer (some t)] 92)).alloc (.cells #[.pointer (some ⟨13, 92, none⟩), .pointer (some ⟨w.heap.size, 0, none⟩), .int .u64 150] 123)).cell? ⟨12, 0, none⟩ = some (.iface 138 (.agg #[.pointer (some ⟨13, 27, none⟩)])) := by
    rw [World.cell?_alloc_lt _ _ ⟨12, 0, none⟩ (by simp; omega), World.cell?_alloc_lt _ _ ⟨12, 0, none⟩ hlt]; exact hg
  have htl : t.block < w.heap.size := World.block_lt_of_cell? _ _ ht0
  have el := elemVFF ⟨w.heap.size, 0, none⟩ t (((w.alloc (.cells #[.pointer (some t)] 92)).alloc (.cells #[.pointer (some ⟨13, 92, none⟩), .pointer (some ⟨w.heap.size, 0, none⟩), .int .u64 150] 123)).alloc (.cells #[.pointer (some ⟨13, 92, none⟩), .pointer (some ⟨w.heap.size, 0, none⟩), .int .u64 150] 123)) (by rw [World.cell?_alloc_lt _ _ ⟨w.heap.size, 0, none⟩ (by simp; omega)]; simp)
  have st := setF t ⟨w.heap.size + 1 + 1 + 1, 0, none⟩ e old ((((w.alloc (.cells #[.pointer (some t)] 92)).alloc (.cells #[.pointer (some ⟨13, 92, none⟩), .pointer (some ⟨w.heap.size, 0, none⟩), .int .u64 150] 123)).alloc (.cells #[.pointer (some ⟨13, 92, none⟩), .pointer (some ⟨w.heap.size, 0, none⟩), .int .u64 150] 123)).alloc (.cells #[.pointer (some e)] 90))
    (by rw [World.cell?_alloc_at _ _ _ _ (by simp)]; rfl)
    (by rw [World.cell?_alloc_lt _ _ t (by simp; omega), World.cell?_alloc_lt _ _ t (by simp; omega), World.cell?_alloc_lt _ _ t (by simp; omega), World.cell?_alloc_lt _ _ t htl]; exact ht0)
    (by rw [World.frozen?_alloc_old _ _ t (by simp; omega), World.frozen?_alloc_old _ _ t (by simp; omega), World.frozen?_alloc_old _ _ t (by simp; omega), World.frozen?_alloc_old _ _ t (Nat.ne_of_lt htl)]; exact hf0)
  go_enter Tryd.func64, Tryd.ntmps64
  go_wp2
  refine wp_loop_rounds 1 ?_
  rw [rounds_succ]
  go_wp2
  go_ret
  exact ⟨rfl, rfl⟩

/-- errors.As at a Fault and a variable of the call's own: the variable holds the Fault; nothing else that was there has changed. -/
theorem as_any (e t : Addr) (old : Value) (w : World) (hg : w.cell? ⟨12, 0, none⟩ = some (.iface 138 (.agg #[.pointer (some ⟨13, 27, none⟩)]))) (ht0 : w.cell? t = some old) (hf0 : w.frozen? t = false) :
    Calls Tryd.prog 64 #[.iface 90 (.pointer (some e)), .iface 92 (.pointer (some t))] w fun ev w' => ev = .returned (.bool true) ∧ ∃ w1, Below w.heap.size w w1 ∧ w' = w1.setCell t (.pointer (some e)) :=
  (as_hit e t old w hg ht0 hf0).mono fun _ _ ⟨h1, h2⟩ => ⟨h1, _, ((((Below.refl _ _).alloc (Nat.le_refl _) _).alloc (by simp) _).alloc (by simp; omega) _).alloc (by simp; omega) _, h2⟩
end Errs
end Go.Proofs.YtbpdmpcakenjhaaDoor

namespace Go.Proofs.YtbpdmpcakenjhaaDoor
open Go.RowKit
set_option maxRecDepth 100000

/-- errors.errorType holds the handle of the type error. -/
def GlobE (w : World) : Prop := w.cell? ⟨12, 0, none⟩ = some (.iface 138 (.agg #[.pointer (some ⟨13, 27, none⟩)]))
theorem GlobE.below {w w' : World} (h : GlobE w) (hb : Below w.heap.size w w') : GlobE w' := cell_keep hb h

/-- An error's number and length are as every error's. -/
def PErr.Fine (t : PErr) : Prop := match t with | none => True | some (n, l) => 1 ≤ n ∧ n ≤ 11 ∧ l.length ≤ 1000

theorem takeD {P : Program} {ops : Array Oper} {Q : Exit → Act → World → Prop} {md : Region.Mode} {S : World → Prop} {i : Nat} {oi : Oper} {v : Value} {fuel : Nat} {listed : Array Bool} {a : Act} {w : World} (d : Option Tmp) (hi : ops[i]? = some oi) (hd : oi.dst = d)
    (hs : Region.noSelect ops = true) (hf : Region.free md ops listed i = true) (hr : (Region.ready md ops listed).contains i = true)
    (hQ : ∀ c a w, Q (.panic c) (a.put d v) w → Q (.panic c) a w) (hy : YieldsIf P ops S oi v a) (hS : S w)
    (h : wpAnyH P md ops Q S fuel (listed.setIfInBounds i true) (a.put d v) w) : wpAnyH P md ops Q S (fuel + 1) listed a w := by
  subst hd
  exact wpAnyH_take hi hs hf hr hQ hy hS h

theorem takeA {P : Program} {ops : Array Oper} {Q : Exit → Act → World → Prop} {md : Region.Mode} {i : Nat} {oi : Oper} {v : Value} {fuel : Nat} {listed : Array Bool} {a : Act} {w : World} (d : Option Tmp) (hi : ops[i]? = some oi) (hd : oi.dst = d)
    (hs : Region.noSelect ops = true) (hf : Region.free md ops listed i = true) (hr : (Region.ready md ops listed).contains i = true)
    (hQ : ∀ c a w, Q (.panic c) (a.put d v) w → Q (.panic c) a w) (hy : Yields P ops oi v a)
    (h : wpAny P md ops Q fuel (listed.setIfInBounds i true) (a.put d v) w) : wpAny P md ops Q (fuel + 1) listed a w := by
  subst hd
  exact wpAny_take hi hs hf hr hQ hy h

/-- errors.As at a Fault and a variable just laid: the variable holds the Fault; all that was there before it is as it was. -/
theorem as_keep (q : Addr) (wo wv w : World) (bv : Below wo.heap.size wo wv) (hw : w = wv.drew) (hG : GlobE wv) (zt : wv.cell? ⟨wo.heap.size, 0, none⟩ = some (.pointer none)) (ft : wv.frozen? ⟨wo.heap.size, 0, none⟩ = false) :
    Calls Tryd.prog 64 #[.iface 90 (.pointer (some q)), .iface 92 (.pointer (some ⟨wo.heap.size, 0, none⟩))] w fun e w' => e = .returned (.bool true) ∧ w'.cell? ⟨wo.heap.size, 0, none⟩ = some (.pointer (some q)) ∧ Below wo.heap.size wo w' := by
  subst hw
  refine (Errs.as_any q ⟨wo.heap.size, 0, none⟩ (.pointer none) wv.drew hG zt ft).mono ?_
  rintro e w6 ⟨rfl, w5, hb5, rfl⟩
  have h5 : Below wv.heap.size wv w5 := ((Below.refl wv.heap.size wv).drew).trans hb5
  refine ⟨rfl, World.cell?_setCell_same _ _ _ (cell_keep h5 zt), (Below.stepL bv h5).setCell (p := ⟨wo.heap.size, 0, none⟩) (Nat.le_refl _) _⟩

theorem raw_is_none (w : World) :
    Calls Tryd.prog 31 #[.nilIface, zErr] w (Ret1 (fun x _ => x = .bool true) w) := by
  go_enter Tryd.func31, Tryd.ntmps31
  go_wp2
  go_ret
  exact ⟨_, rfl, belowAlloc' _ _, rfl⟩

set_option maxHeartbeats 1000000 in
theorem raw_is_some (r : Nat → Addr) (n : Int) (l : List (ByteArray × Int)) (v e : Value) (w : World) (hg : Glob r w) (hG : GlobE w) (hv : ErrAt r w n l v) (he : EAt w (some (n, l)) e) (h1 : 1 ≤ n) (h11 : n ≤ 11) (hl : l.length ≤ 1000) :
    Calls Tryd.prog 31 #[v, e] w (Ret1 (fun x _ => x = .bool true) w) := by
  obtain ⟨a1, n1, c1, a2, n2, c2, rfl, hs, hi⟩ := he
  have b0 := belowAlloc' w (.cells #[.int .i64 n, .slice a1 n1 c1, .slice a2 n2 c2] 52)
  have hn0 : (n == 0) = false := by rw [beq_eq_false_iff_ne]; omega
  obtain ⟨T, p, rfl⟩ := hv.shape
  replace hv := Lib.hid (hv.below b0)
  have hg0 := Lib.hid hg
  replace hg := Lib.hid (hg.below b0)
  replace hG := Lib.hid (hG.below b0)
  have hsl := hs.len oneStrs
  rw [List.length_map] at hsl
  replace hs := Lib.hid (hs.below b0)
  replace hi := Lib.hid (hi.below b0)
  go_enter Tryd.func31, Tryd.ntmps31
  go_wp2_with fail
  refine (raw_root r n _ hg.out h1 h11).mono ?_
  rintro e w1 ⟨rfl, rfl⟩
  go_wp2_with fail
  refine (Errs.is_any r n l _ _ hv.out).mono ?_
  rintro e w1 ⟨rfl, rfl⟩
  have z : (w.alloc (.cells #[.int .i64 n, .slice a1 n1 c1, .slice a2 n2 c2] 52)).cell? ⟨w.heap.size, 0, none⟩ = some (.int .i64 n) ∧ (w.alloc (.cells #[.int .i64 n, .slice a1 n1 c1, .slice a2 n2 c2] 52)).cell? ⟨w.heap.size, 1, none⟩ = some (.slice a1 n1 c1) ∧ (w.alloc (.cells #[.int .i64 n, .slice a1 n1 c1, .slice a2 n2 c2] 52)).cell? ⟨w.heap.size, 2, none⟩ = some (.slice a2 n2 c2) := by simp
  obtain ⟨W, hW⟩ : ∃ W : World, W = w.alloc (.cells #[.int .i64 n, .slice a1 n1 c1, .slice a2 n2 c2] 52) := ⟨_, rfl⟩
  rw [← hW] at hv hg hG hs hi z b0 ⊢
  clear hW
  replace z := Lib.hid z
  go_wp2
  go_loopw [0, 5] (fun u i wr => ∃ k : Nat, k ≤ l.length ∧ i = .int .i64 k ∧ ErrAt r wr n (l.drop k) u ∧ Below W.heap.size W wr) (fun _ i _ => l.length - (intOf i).toNat)
  case atStart => exact ⟨0, by omega, rfl, hv.out, Below.refl _ _⟩
  case round =>
    obtain ⟨k, hk, rfl, hu, hB⟩ := hrel
    obtain ⟨wo, rfl⟩ : ∃ wo : World, wo = wr := ⟨_, rfl⟩
    obtain ⟨z0, z1, z2⟩ := keep3 hB z.out
    by_cases hkl : k < l.length
    · have hd : l.drop k = l[k] :: l.drop (k + 1) := List.drop_eq_getElem_cons hkl
      rw [hd] at hu
      generalize hlk : l[k] = x at hu
      obtain ⟨op, at_⟩ := x
      obtain ⟨q, u', rfl, d0, d1, d2, hrest⟩ := hu
      have hs' := hs.out.below hB
      have hi' := hi.out.below hB
      have i1 := hs'.idx oneStrs k (by simpa using hkl)
      have e1 := hs'.cell k (by simpa using hkl)
      have i2 := hi'.idx k (by simpa using hkl)
      have e2 := hi'.cell k (by simpa using hkl)
      simp only [List.getElem_map, hlk] at e1 e2
      replace hd := Lib.hid hd
      replace hlk := Lib.hid hlk
      replace hrest := Lib.hid hrest
      clear hs' hi'
      have gE := Lib.hid (hG.out.below hB)
      generalize valAt (.slice a1 n1 c1) k = A1 at i1 e1
      generalize valAt (.slice a2 n2 c2) k = A2 at i2 e2
      have bv := belowAlloc' wo (.cells #[.pointer none] 90)
      have y1 := cell_keep bv z1
      have y2 := cell_keep bv z2
      have g0 := cell_keep bv d0
      have g1 := cell_keep bv d1
      have s1 := (bv.cell (World.block_lt_of_cell? _ _ e1)).trans e1
      have s2 := (bv.cell (World.block_lt_of_cell? _ _ e2)).trans e2
      have zt : (wo.alloc (.cells #[.pointer none] 90)).cell? ⟨wo.heap.size, 0, none⟩ = some (.pointer none) := by simp
      have ft : (wo.alloc (.cells #[.pointer none] 90)).frozen? ⟨wo.heap.size, 0, none⟩ = false := by simp
      have gv := Lib.hid (gE.out.below bv)
      go_wp2
      obtain ⟨wv, hwv⟩ : ∃ W : World, W = wo.alloc (.cells #[.pointer none] 90) := ⟨_, rfl⟩
      rw [← hwv] at bv y1 y2 g0 g1 s1 s2 zt ft gv ⊢
      clear hwv
      replace z0 := Lib.hid z0
      replace z1 := Lib.hid z1
      replace z2 := Lib.hid z2
      replace d0 := Lib.hid d0
      replace d1 := Lib.hid d1
      replace d2 := Lib.hid d2
      replace e1 := Lib.hid e1
      replace e2 := Lib.hid e2
      refine wp_region_noPanic ?_
      refine wp_region_any (by kernel_rfl) ?_
      change wpAny _ _ _ _ _ _ _ (World.drew _)
      refine takeA (i := 0) (v := ?_) (some 29) rfl rfl (by kernel_rfl) (by kernel_rfl) (by kernel_rfl) (fun _ _ _ h => h) (Or.inl ⟨by rfl, ?_⟩) ?_
      rotate_left
      · intro _; go_simp; try with_reducible rfl
      simp only [Act.put, List.setIfInBounds_toArray, List.set_cons_zero, List.set_cons_succ]
      refine takeA (i := 1) (v := ?_) (some 30) rfl rfl (by kernel_rfl) (by kernel_rfl) (by kernel_rfl) (fun _ _ _ h => h) (Or.inl ⟨by rfl, ?_⟩) ?_
      rotate_left
      · intro _; go_simp; try with_reducible rfl
      simp only [Act.put, List.setIfInBounds_toArray, List.set_cons_zero, List.set_cons_succ]
      refine wpAny_ready (rs := [2]) (by kernel_rfl) (by simp) (AllReady.cons rfl (fun K hK => ?_) AllReady.nil)
      go_simp
      go_at_call 64
      refine (as_keep ⟨q, 0, none⟩ wo wv _ bv rfl gv.out zt ft).mono ?_
      rintro e w6 ⟨rfl, p0, b6⟩
      refine hK _ _ ?_
      clear hK K y1 y2 g0 g1 s1 s2
      have p1 := cell_keep b6 z1.out
      have p2 := cell_keep b6 z2.out
      have p3 := cell_keep b6 d0.out
      have p4 := cell_keep b6 d1.out
      have p5 := (b6.cell (World.block_lt_of_cell? _ _ e1.out)).trans e1.out
      have p6 := (b6.cell (World.block_lt_of_cell? _ _ e2.out)).trans e2.out
      have p7 := cell_keep b6 d2.out
      refine wpAny_of_held (S := fun w' => w' = w6) _ _ _ _ ?_
      refine takeD (i := 3) (v := ?_) (some 32) rfl rfl (by kernel_rfl) (by kernel_rfl) (by kernel_rfl) (fun _ _ _ h => h) (Or.inl ⟨by rfl, ?_⟩) rfl ?_
      rotate_left
      · intro _ hw; subst hw; go_simp; try with_reducible rfl
      simp only [Act.put, List.setIfInBounds_toArray, List.set_cons_zero, List.set_cons_succ]
      refine takeD (i := 4) (v := ?_) (some 33) rfl rfl (by kernel_rfl) (by kernel_rfl) (by kernel_rfl) (fun _ _ _ h => h) (Or.inl ⟨by rfl, ?_⟩) rfl ?_
      rotate_left
      · intro _ hw; subst hw; go_simp; try with_reducible rfl
      simp only [Act.put, List.setIfInBounds_toArray, List.set_cons_zero, List.set_cons_succ]
      refine takeD (i := 5) (v := ?_) (some 34) rfl rfl (by kernel_rfl) (by kernel_rfl) (by kernel_rfl) (fun _ _ _ h => h) (Or.inl ⟨by rfl, ?_⟩) rfl ?_
      rotate_left
      · intro _ hw; subst hw; go_simp; try with_reducible rfl
      simp only [Act.put, List.setIfInBounds_toArray, List.set_cons_zero, List.set_cons_succ]
      refine takeD (i := 6) (v := ?_) (some 35) rfl rfl (by kernel_rfl) (by kernel_rfl) (by kernel_rfl) (fun _ _ _ h => h) (Or.inl ⟨by rfl, ?_⟩) rfl ?_
      rotate_left
      · intro _ hw; subst hw; go_simp; try with_reducible rfl
      simp only [Act.put, List.setIfInBounds_toArray, List.set_cons_zero, List.set_cons_succ]
      refine takeD (i := 7) (v := ?_) (some 36) rfl rfl (by kernel_rfl) (by kernel_rfl) (by kernel_rfl) (fun _ _ _ h => h) (Or.inl ⟨by rfl, ?_⟩) rfl ?_
      rotate_left
      · intro _ hw; subst hw; go_simp; try with_reducible rfl
      simp only [Act.put, List.setIfInBounds_toArray, List.set_cons_zero, List.set_cons_succ]
      refine takeD (i := 8) (v := ?_) (some 37) rfl rfl (by kernel_rfl) (by kernel_rfl) (by kernel_rfl) (fun _ _ _ h => h) (Or.inl ⟨by rfl, ?_⟩) rfl ?_
      rotate_left
      · intro _ hw; subst hw; go_simp; try with_reducible rfl
      simp only [Act.put, List.setIfInBounds_toArray, List.set_cons_zero, List.set_cons_succ]
      refine takeD (i := 9) (v := ?_) (some 38) rfl rfl (by kernel_rfl) (by kernel_rfl) (by kernel_rfl) (fun _ _ _ h => h) (Or.inl ⟨by rfl, ?_⟩) rfl ?_
      rotate_left
      · intro _ hw; subst hw; go_simp; try with_reducible rfl
      simp only [Act.put, List.setIfInBounds_toArray, List.set_cons_zero, List.set_cons_succ]
      refine takeD (i := 10) (v := ?_) (some 39) rfl rfl (by kernel_rfl) (by kernel_rfl) (by kernel_rfl) (fun _ _ _ h => h) (Or.inl ⟨by rfl, ?_⟩) rfl ?_
      rotate_left
      · intro _ hw; subst hw; go_simp; try with_reducible rfl
      simp only [Act.put, List.setIfInBounds_toArray, List.set_cons_zero, List.set_cons_succ]
      refine takeD (i := 11) (v := ?_) (some 40) rfl rfl (by kernel_rfl) (by kernel_rfl) (by kernel_rfl) (fun _ _ _ h => h) (Or.inl ⟨by rfl, ?_⟩) rfl ?_
      rotate_left
      · intro _ hw; subst hw; go_simp; try with_reducible rfl
      simp only [Act.put, List.setIfInBounds_toArray, List.set_cons_zero, List.set_cons_succ]
      refine takeD (i := 12) (v := ?_) (some 41) rfl rfl (by kernel_rfl) (by kernel_rfl) (by kernel_rfl) (fun _ _ _ h => h) (Or.inl ⟨by rfl, ?_⟩) rfl ?_
      rotate_left
      · intro _ hw; subst hw; go_simp; try with_reducible rfl
      simp only [Act.put, List.setIfInBounds_toArray, List.set_cons_zero, List.set_cons_succ]
      refine takeD (i := 13) (v := ?_) (some 42) rfl rfl (by kernel_rfl) (by kernel_rfl) (by kernel_rfl) (fun _ _ _ h => h) (Or.inl ⟨by rfl, ?_⟩) rfl ?_
      rotate_left
      · intro _ hw; subst hw; go_simp; try with_reducible rfl
      simp only [Act.put, List.setIfInBounds_toArray, List.set_cons_zero, List.set_cons_succ]
      refine takeD (i := 14) (v := ?_) (some 43) rfl rfl (by kernel_rfl) (by kernel_rfl) (by kernel_rfl) (fun _ _ _ h => h) (Or.inl ⟨by rfl, ?_⟩) rfl ?_
      rotate_left
      · intro _ hw; subst hw; go_simp; try with_reducible rfl
      simp only [Act.put, List.setIfInBounds_toArray, List.set_cons_zero, List.set_cons_succ]
      refine takeD (i := 15) (v := ?_) (some 44) rfl rfl (by kernel_rfl) (by kernel_rfl) (by kernel_rfl) (fun _ _ _ h => h) (Or.inl ⟨by rfl, ?_⟩) rfl ?_
      rotate_left
      · intro _ hw; subst hw; go_simp; try with_reducible rfl
      simp only [Act.put, List.setIfInBounds_toArray, List.set_cons_zero, List.set_cons_succ]
      refine takeD (i := 16) (v := ?_) (some 45) rfl rfl (by kernel_rfl) (by kernel_rfl) (by kernel_rfl) (fun _ _ _ h => h) (Or.inl ⟨by rfl, ?_⟩) rfl ?_
      rotate_left
      · intro _ hw; subst hw; go_simp; try with_reducible rfl
      simp only [Act.put, List.setIfInBounds_toArray, List.set_cons_zero, List.set_cons_succ]
      refine takeD (i := 17) (v := ?_) (some 46) rfl rfl (by kernel_rfl) (by kernel_rfl) (by kernel_rfl) (fun _ _ _ h => h) (Or.inl ⟨by rfl, ?_⟩) rfl ?_
      rotate_left
      · intro _ hw; subst hw; go_simp; try with_reducible rfl
      simp only [Act.put, List.setIfInBounds_toArray, List.set_cons_zero, List.set_cons_succ]
      refine takeD (i := 18) (v := ?_) (some 47) rfl rfl (by kernel_rfl) (by kernel_rfl) (by kernel_rfl) (fun _ _ _ h => h) (Or.inl ⟨by rfl, ?_⟩) rfl ?_
      rotate_left
      · intro _ hw; subst hw; go_simp; try with_reducible rfl
      simp only [Act.put, List.setIfInBounds_toArray, List.set_cons_zero, List.set_cons_succ]
      refine takeD (i := 19) (v := ?_) (some 48) rfl rfl (by kernel_rfl) (by kernel_rfl) (by kernel_rfl) (fun _ _ _ h => h) (Or.inl ⟨by rfl, ?_⟩) rfl ?_
      rotate_left
      · intro _ hw; subst hw; go_simp; try with_reducible rfl
      simp only [Act.put, List.setIfInBounds_toArray, List.set_cons_zero, List.set_cons_succ]
      refine takeD (i := 20) (v := ?_) (some 49) rfl rfl (by kernel_rfl) (by kernel_rfl) (by kernel_rfl) (fun _ _ _ h => h) (Or.inl ⟨by rfl, ?_⟩) rfl ?_
      rotate_left
      · intro _ hw; subst hw; go_simp; try with_reducible rfl
      simp only [Act.put, List.setIfInBounds_toArray, List.set_cons_zero, List.set_cons_succ]
      refine takeD (i := 21) (v := ?_) (some 50) rfl rfl (by kernel_rfl) (by kernel_rfl) (by kernel_rfl) (fun _ _ _ h => h) (Or.inl ⟨by rfl, ?_⟩) rfl ?_
      rotate_left
      · intro _ hw; subst hw; go_simp; try with_reducible rfl
      simp only [Act.put, List.setIfInBounds_toArray, List.set_cons_zero, List.set_cons_succ]
      refine takeD (i := 22) (v := ?_) (some 51) rfl rfl (by kernel_rfl) (by kernel_rfl) (by kernel_rfl) (fun _ _ _ h => h) (Or.inl ⟨by rfl, ?_⟩) rfl ?_
      rotate_left
      · intro _ hw; subst hw; go_simp; try with_reducible rfl
      simp only [Act.put, List.setIfInBounds_toArray, List.set_cons_zero, List.set_cons_succ]
      refine takeD (i := 23) (v := ?_) (some 52) rfl rfl (by kernel_rfl) (by kernel_rfl) (by kernel_rfl) (fun _ _ _ h => h) (Or.inl ⟨by rfl, ?_⟩) rfl ?_
      rotate_left
      · intro _ hw; subst hw; go_simp; try with_reducible rfl
      simp only [Act.put, List.setIfInBounds_toArray, List.set_cons_zero, List.set_cons_succ]
      refine takeD (i := 24) (v := ?_) (some 53) rfl rfl (by kernel_rfl) (by kernel_rfl) (by kernel_rfl) (fun _ _ _ h => h) (Or.inl ⟨by rfl, ?_⟩) rfl ?_
      rotate_left
      · intro _ hw; subst hw; go_simp; try with_reducible rfl
      simp only [Act.put, List.setIfInBounds_toArray, List.set_cons_zero, List.set_cons_succ]
      refine takeD (i := 25) (v := ?_) (some 54) rfl rfl (by kernel_rfl) (by kernel_rfl) (by kernel_rfl) (fun _ _ _ h => h) (Or.inl ⟨by rfl, ?_⟩) rfl ?_
      rotate_left
      · intro _ hw; subst hw; go_simp; try with_reducible rfl
      simp only [Act.put, List.setIfInBounds_toArray, List.set_cons_zero, List.set_cons_succ]
      refine takeD (i := 26) (v := ?_) (some 55) rfl rfl (by kernel_rfl) (by kernel_rfl) (by kernel_rfl) (fun _ _ _ h => h) (Or.inl ⟨by rfl, ?_⟩) rfl ?_
      rotate_left
      · intro _ hw; subst hw; go_simp; try with_reducible rfl
      simp only [Act.put, List.setIfInBounds_toArray, List.set_cons_zero, List.set_cons_succ]
      refine takeD (i := 27) (v := ?_) (some 56) rfl rfl (by kernel_rfl) (by kernel_rfl) (by kernel_rfl) (fun _ _ _ h => h) (Or.inl ⟨by rfl, ?_⟩) rfl ?_
      rotate_left
      · intro _ hw; subst hw; go_simp; try with_reducible rfl
      simp only [Act.put, List.setIfInBounds_toArray, List.set_cons_zero, List.set_cons_succ]
      refine takeD (i := 28) (v := ?_) (some 57) rfl rfl (by kernel_rfl) (by kernel_rfl) (by kernel_rfl) (fun _ _ _ h => h) (Or.inl ⟨by rfl, ?_⟩) rfl ?_
      rotate_left
      · intro _ hw; subst hw; go_simp; try with_reducible rfl
      simp only [Act.put, List.setIfInBounds_toArray, List.set_cons_zero, List.set_cons_succ]
      refine takeD (i := 29) (v := ?_) (some 58) rfl rfl (by kernel_rfl) (by kernel_rfl) (by kernel_rfl) (fun _ _ _ h => h) (Or.inl ⟨by rfl, ?_⟩) rfl ?_
      rotate_left
      · intro _ hw; subst hw; go_simp; try with_reducible rfl
      simp only [Act.put, List.setIfInBounds_toArray, List.set_cons_zero, List.set_cons_succ]
      refine takeD (i := 30) (v := ?_) (some 59) rfl rfl (by kernel_rfl) (by kernel_rfl) (by kernel_rfl) (fun _ _ _ h => h) (Or.inl ⟨by rfl, ?_⟩) rfl ?_
      rotate_left
      · intro _ hw; subst hw; go_simp; try with_reducible rfl
      simp only [Act.put, List.setIfInBounds_toArray, List.set_cons_zero, List.set_cons_succ]
      refine takeD (i := 31) (v := ?_) (some 60) rfl rfl (by kernel_rfl) (by kernel_rfl) (by kernel_rfl) (fun _ _ _ h => h) (Or.inl ⟨by rfl, ?_⟩) rfl ?_
      rotate_left
      · intro _ hw; subst hw; go_simp; try with_reducible rfl
      simp only [Act.put, List.setIfInBounds_toArray, List.set_cons_zero, List.set_cons_succ]
      refine wpAnyH_done (by kernel_rfl) ?_ _
      refine NoPanic.normal ?_
      have hr6 := Lib.hid (hrest.out.below b6)
      have hB6 := Lib.hid (Below.stepL hB b6)
      clear p1 p2 p3 p4 p5 p6
      go_wp2
      go_roundw
      case rel => exact ⟨k + 1, by omega, by go_num, hr6.out, hB6.out⟩
      case measure => simp [intOf]; omega
    · obtain rfl : k = l.length := by omega
      rw [List.drop_length] at hu
      obtain rfl : _ = rootV r n := hu
      obtain ⟨i, hi, hcmp⟩ := Option.map_eq_some_iff.1 Errs.compE
      obtain ⟨j, hj, hjs⟩ := Option.map_eq_some_iff.1 Errs.sizeE
      have heq := run_eql_iface_ptr_same (P := Tryd.prog) wo (r n.toNat) Errs.uErr Errs.uES hi hcmp hj
      clear hi hcmp hj hjs
      have hgo := Lib.hid (hg.out.below hB)
      have hBf := Lib.hid (Below.stepL b0 hB)
      go_wp2_with fail
      refine (raw_root r n _ hgo.out h1 h11).mono ?_
      rintro e w1 ⟨rfl, rfl⟩
      go_wp2
      go_ret
      exact ⟨_, rfl, hBf.out, rfl⟩

/-- edenraw.Is at an error that is what it must be. -/
theorem raw_is (r : Nat → Addr) (t : PErr) (v e : Value) (w : World) (hg : Glob r w) (hG : GlobE w) (hv : ErrIs r w t v) (he : EAt w t e) (ht : t.Fine) :
    Calls Tryd.prog 31 #[v, e] w (Ret1 (fun x _ => x = .bool true) w) := by
  match t, hv, he, ht with
  | none, hv, he, _ =>
    obtain rfl := ErrIs.none_eq hv
    obtain rfl : e = zErr := he
    exact raw_is_none w
  | some (n, l), hv, he, ⟨h1, h11, hl⟩ => exact raw_is_some r n l v e w hg hG hv he h1 h11 hl

end Go.Proofs.YtbpdmpcakenjhaaDoor

namespace Go.Proofs.YtbpdmpcakenjhaaDoor

theorem sumRow_getD (K : Nat) (x y : Int) (s n : Nat) (h : n < s) : (sumRow K x y s).getD n 0 = (y + x * n) % K := by
  simp [sumRow, List.getD, h]

theorem sumStep_getD {K : Nat} (hK : 1 ≤ K) (x : Int) : ∀ (T : List Int) (i : Nat), i < T.length * K → (sumStep K x T).getD i 0 = (T.getD (i / K) 0 + x * (i % K : Nat)) % K
  | [], i, h => by simp at h
  | y :: T, i, h => by
    have e : sumStep K x (y :: T) = sumRow K x y K ++ sumStep K x T := rfl
    rw [e]
    by_cases hi : i < K
    · rw [show (sumRow K x y K ++ sumStep K x T).getD i 0 = (sumRow K x y K).getD i 0 by
        simp only [List.getD]; rw [List.getElem?_append_left (by rw [sumRow_length]; exact hi)]]
      rw [sumRow_getD K x y K i hi, Nat.div_eq_of_lt hi, Nat.mod_eq_of_lt hi]
      rfl
    · have hi' : i - K < T.length * K := by rw [List.length_cons, Nat.succ_mul] at h; omega
      rw [show (sumRow K x y K ++ sumStep K x T).getD i 0 = (sumStep K x T).getD (i - K) 0 by
        simp only [List.getD]; rw [List.getElem?_append_right (by rw [sumRow_length]; omega), sumRow_length]]
      rw [sumStep_getD hK x T (i - K) hi']
      have h1 : i / K = (i - K) / K + 1 := by
        rw [show i = (i - K) + K by omega, Nat.add_div_right _ (by omega), Nat.add_sub_cancel]
      have h2 : i % K = (i - K) % K := Nat.mod_eq_sub_mod (by omega)
      rw [h1, h2]
      simp [List.getD]

theorem sumT_snoc (K : Nat) (f : List Int) (x : Int) : sumT K (f ++ [x]) = sumStep K x (sumT K f) := sumTable_snoc ..

/-- An entry of a sum's table, by the window's last symbol. -/
theorem sumT_getD {K : Nat} (hK : 1 ≤ K) (f : List Int) (x : Int) (i : Nat) (h : i < pw K (f.length + 1)) :
    (sumT K (f ++ [x])).getD i 0 = ((sumT K f).getD (i / K) 0 + x * (i % K : Nat)) % K := by
  rw [sumT_snoc]
  refine sumStep_getD hK x _ i ?_
  rw [sumT_length, ← pw_succ]; exact h

theorem snoc_ind {P : List Int → Prop} (h0 : P []) (h1 : ∀ f x, P f → P (f ++ [x])) (f : List Int) : P f := by
  have : P f.reverse.reverse := by
    induction f.reverse with
    | nil => exact h0
    | cons x g ih => rw [List.reverse_cons]; exact h1 _ _ ih
  simpa using this

theorem sumT_zero {K : Nat} (hK : 1 ≤ K) (f : List Int) : (sumT K f).getD 0 0 = 0 := by
  refine snoc_ind (P := fun f => (sumT K f).getD 0 0 = 0) rfl (fun f x ih => ?_) f
  rw [sumT_getD hK f x 0 (pw_pos _ hK), Nat.zero_div, ih]
  simp

theorem emod_addMul {a b : Int} {K : Nat} : (a % K + b) % K = (a + b) % K := by simp [Int.add_emod]

theorem sumT_range {K : Nat} (hK : 1 ≤ K) (f : List Int) (i : Nat) : 0 ≤ (sumT K f).getD i 0 ∧ (sumT K f).getD i 0 < K := by
  by_cases h : i < (sumT K f).length
  · simp only [List.getD, List.getElem?_eq_getElem h, Option.getD_some]
    exact sumT_syms hK f _ (by simp)
  · simp only [List.getD, List.getElem?_eq_none (Nat.le_of_not_lt h), Option.getD_none]
    omega

/-- The windows with a single 1 tell the factors. -/
theorem sumT_pw {K : Nat} (hK : 1 < K) (f : List Int) : ∀ t, t < f.length → (sumT K f).getD (pw K t) 0 = f.getD (f.length - 1 - t) 0 % K := by
  refine snoc_ind (P := fun f => ∀ t, t < f.length → (sumT K f).getD (pw K t) 0 = f.getD (f.length - 1 - t) 0 % K) (by intro t h; simp at h) (fun f x ih => ?_) f
  intro t ht
  rw [List.length_append, List.length_singleton] at ht
  rw [sumT_getD (by omega) f x _ (pw_lt hK ht)]
  cases t with
  | zero =>
    rw [pw_zero, Nat.div_eq_of_lt hK, Nat.mod_eq_of_lt hK, sumT_zero (by omega)]
    simp [List.getD]
  | succ t =>
    rw [pw_succ, Nat.mul_div_cancel _ (by omega), Nat.mul_mod_left, ih t (by omega)]
    have : (f ++ [x]).getD ((f ++ [x]).length - 1 - (t + 1)) 0 = f.getD (f.length - 1 - t) 0 := by
      simp only [List.getD, List.length_append, List.length_singleton]
      rw [show f.length + 1 - 1 - (t + 1) = f.length - 1 - t by omega, List.getElem?_append_left (by omega)]
    rw [this]
    simp

/-- Window i is one with its first symbol less by one, and the window with a single 1 there. -/
theorem sumT_add {K : Nat} (hK : 1 < K) (f : List Int) : ∀ t x, x % K ≠ 0 → x * pw K t < pw K f.length →
    (sumT K f).getD (x * pw K t) 0 = ((sumT K f).getD (x * pw K t - pw K t) 0 + (sumT K f).getD (pw K t) 0) % K := by
  refine snoc_ind (P := fun f => ∀ t x, x % K ≠ 0 → x * pw K t < pw K f.length →
    (sumT K f).getD (x * pw K t) 0 = ((sumT K f).getD (x * pw K t - pw K t) 0 + (sumT K f).getD (pw K t) 0) % K) ?_ (fun f y ih => ?_) f
  · intro t x hx h
    have : x ≠ 0 := by intro e; subst e; simp at hx
    have h1 := pw_pos t (show 1 ≤ K by omega)
    have : 1 * 1 ≤ x * pw K t := Nat.mul_le_mul (by omega) h1
    simp only [List.length_nil, pw_zero] at h
    omega
  · intro t x hx h
    have hx0 : x ≠ 0 := by intro e; subst e; simp at hx
    rw [List.length_append, List.length_singleton] at h
    have hp := pw_pos t (show 1 ≤ K by omega)
    have hle : pw K t ≤ x * pw K t := Nat.le_mul_of_pos_left _ (by omega)
    rw [sumT_getD (by omega) f y _ h, sumT_getD (by omega) f y _ (show x * pw K t - pw K t < _ by omega), sumT_getD (by omega) f y _ (show pw K t < _ by omega)]
    cases t with
    | zero =>
      rw [pw_zero, Nat.mul_one]
      have h1 : (x - 1) / K = x / K ∧ (x - 1) % K = x % K - 1 := by
        have hd := Nat.div_add_mod x K
        have hl := Nat.mod_lt x (show 0 < K by omega)
        have e : x - 1 = (x % K - 1) + K * (x / K) := by omega
        rw [e, Nat.add_mul_div_left _ _ (by omega), Nat.add_mul_mod_self_left, Nat.div_eq_of_lt (by omega), Nat.mod_eq_of_lt (by omega)]
        omega
      rw [h1.1, h1.2, Nat.div_eq_of_lt hK, Nat.mod_eq_of_lt hK, sumT_zero (by omega)]
      rw [← Int.add_emod]
      congr 1
      have : ((x % K - 1 : Nat) : Int) = ((x % K : Nat) : Int) - 1 := by omega
      rw [this, Int.mul_sub]
      simp
      omega
    | succ t =>
      have hh : x * pw K t < pw K f.length := by
        rw [pw_succ, pw_succ, ← Nat.mul_assoc] at h
        exact Nat.lt_of_mul_lt_mul_right h
      have e := ih t x hx hh
      rw [pw_succ, ← Nat.mul_assoc, ← Nat.sub_mul, Nat.mul_div_cancel _ (by omega), Nat.mul_div_cancel _ (by omega), Nat.mul_div_cancel _ (by omega), Nat.mul_mod_left, Nat.mul_mod_left, Nat.mul_mod_left, e]
      simp

/-- What the law asks of window i; and that it does not hold. -/
def Good (K : Nat) (T : List Int) (i : Nat) : Prop := (i = 0 ∧ T.getD 0 0 = 0) ∨ ∃ t x, x * pw K t = i ∧ x % K ≠ 0 ∧ T.getD i 0 = (T.getD (i - pw K t) 0 + T.getD (pw K t) 0) % K
def Bad (K : Nat) (T : List Int) (i : Nat) : Prop := (i = 0 ∧ T.getD 0 0 ≠ 0) ∨ ∃ t x, x * pw K t = i ∧ x % K ≠ 0 ∧ T.getD i 0 ≠ (T.getD (i - pw K t) 0 + T.getD (pw K t) 0) % K

theorem not_sum_of_bad {K R : Nat} {T : List Int} (h : RuleOk K R T) (i : Nat) (hi : i < T.length) (hb : Bad K T i) : isSum K R T = false := by
  have hk := h.k1
  rw [isSum, decide_eq_false_iff_not]
  intro e
  have hlen : T.length = pw K (facs K R T).length := by rw [facs_length, h.len]
  rcases hb with ⟨_, h0⟩ | ⟨t, x, hx, hxK, hne⟩
  · apply h0
    rw [← e]; exact sumT_zero hk _
  · by_cases hK : 1 < K
    · apply hne
      rw [← e, ← hx]
      exact sumT_add hK _ t x hxK (by rw [hx, ← hlen]; exact hi)
    · have : K = 1 := by omega
      subst this
      simp [Nat.mod_one] at hxK

theorem facs_getD {K R : Nat} {T : List Int} (hK : 1 < K) (t : Nat) (ht : t < 2 * R + 1) : (facs K R T).getD (2 * R + 1 - 1 - t) 0 = T.getD (pw K t) 0 := by
  unfold facs facI
  rw [if_pos hK]
  simp only [facL, List.getD]
  rw [List.getElem?_map, List.getElem?_range (by omega)]
  simp only [Option.map_some, Option.getD_some]
  rw [if_pos (by omega)]
  rw [show 2 * R + 1 - 1 - (2 * R + 1 - 1 - t) = t by omega]

theorem sum_of_good {K R : Nat} {T : List Int} (h : RuleOk K R T) (hg : ∀ i, i < T.length → Good K T i) : isSum K R T = true := by
  have hk := h.k1
  rw [isSum, decide_eq_true_iff]
  have hlen : (sumT K (facs K R T)).length = T.length := by rw [sumT_length, facs_length, h.len]
  have rng : ∀ i, 0 ≤ T.getD i 0 ∧ T.getD i 0 < K := by
    intro i
    by_cases hi : i < T.length
    · simp only [List.getD, List.getElem?_eq_getElem hi, Option.getD_some]
      exact h.syms _ (by simp)
    · simp only [List.getD, List.getElem?_eq_none (Nat.le_of_not_lt hi), Option.getD_none]
      omega
  have hpow : 1 < K → ∀ t, t < 2 * R + 1 → (sumT K (facs K R T)).getD (pw K t) 0 = T.getD (pw K t) 0 := by
    intro hK t ht
    rw [sumT_pw hK _ t (by rw [facs_length]; exact ht), facs_length, facs_getD hK t ht]
    exact Int.emod_eq_of_lt (rng _).1 (rng _).2
  have key : ∀ n i, i < n → i < T.length → (sumT K (facs K R T)).getD i 0 = T.getD i 0 := by
    intro n
    induction n with
    | zero => intro i hi; omega
    | succ n ih =>
      intro i hin hi
      rcases hg i hi with ⟨rfl, h0⟩ | ⟨t, x, hx, hxK, he⟩
      · rw [h0]; exact sumT_zero hk _
      · by_cases hK : 1 < K
        · have hx0 : x ≠ 0 := by intro e; subst e; simp at hxK
          have hp := pw_pos t hk
          have hle : pw K t ≤ x * pw K t := Nat.le_mul_of_pos_left _ (by omega)
          have ht : t < 2 * R + 1 := by
            by_cases c : t < 2 * R + 1
            · exact c
            · have := pw_mono (i := 2 * R + 1) (j := t) hk (by omega)
              have := h.len
              omega
          have e1 := sumT_add hK (facs K R T) t x hxK (by rw [hx, facs_length, ← h.len]; exact hi)
          rw [hx] at e1
          rw [e1, he, ih (i - pw K t) (by omega) (by omega), hpow hK t ht]
        · have : K = 1 := by omega
          subst this
          simp [Nat.mod_one] at hxK
  refine List.ext_getElem hlen fun i h1 h2 => ?_
  have := key (i + 1) i (by omega) h2
  simpa [List.getD, h1, h2] using this

/-- The factors of a sum are those that it was made of. -/
theorem facs_sumT {K R : Nat} {f : List Int} (hK : 1 < K) (hl : f.length = 2 * R + 1) (hs : Syms K f) : facs K R (sumT K f) = f := by
  refine List.ext_getElem (by rw [facs_length, hl]) fun i h1 h2 => ?_
  have hi : i < 2 * R + 1 := by omega
  have e1 := facs_getD (K := K) (R := R) (T := sumT K f) hK (2 * R + 1 - 1 - i) (by omega)
  rw [show 2 * R + 1 - 1 - (2 * R + 1 - 1 - i) = i by omega, sumT_pw hK f _ (by omega), hl] at e1
  rw [show 2 * R + 1 - 1 - (2 * R + 1 - 1 - i) = i by omega] at e1
  have hb := hs.getD (by omega) i
  rw [Int.emod_eq_of_lt hb.1 hb.2] at e1
  simpa [List.getD, h1, h2] using e1
theorem isSum_sumT {K R : Nat} {f : List Int} (hK : 1 < K) (hl : f.length = 2 * R + 1) (hs : Syms K f) : isSum K R (sumT K f) = true := by
  rw [isSum, facs_sumT hK hl hs]; simp

theorem mulAll_one {K : Nat} {a : List Int} (hs : Syms K a) : ∀ i, i ≤ a.length → mulAll K a [1] i = a.take i ++ List.replicate (a.length - i) 0
  | 0, _ => by simp [mulAll]
  | i + 1, h => by
    rw [mulAll, mulAll_one hs i (by omega)]
    have hi : i < a.length := by omega
    have hx := hs (a[i]) (by simp)
    have hl : (a.take i).length = i := by simp; omega
    show addAt K (a.take i ++ List.replicate (a.length - i) 0) (i + 0) (a.getD i 0 * 1) = _
    have e : a.getD i 0 = a[i] := by simp [List.getD, hi]
    have hrep : List.replicate (a.length - i) (0 : Int) = 0 :: List.replicate (a.length - (i + 1)) 0 := by
      rw [show a.length - i = (a.length - (i + 1)) + 1 by omega, List.replicate_succ]
    have hg : (a.take i ++ List.replicate (a.length - i) (0 : Int)).getD (i + 0) 0 = 0 := by
      rw [hrep]
      simp only [List.getD, Nat.add_zero]
      rw [List.getElem?_append_right (by omega), hl]
      simp
    rw [addAt, hg, e, Int.mul_one, Int.zero_add, Int.emod_eq_of_lt hx.1 hx.2, hrep, List.take_succ_eq_append_getElem hi]
    rw [List.set_append_right _ _ (by omega), hl]
    simp only [Nat.add_zero, Nat.sub_self, List.set_cons_zero, List.append_assoc, List.singleton_append]
theorem mulL_one {K : Nat} {a : List Int} (hs : Syms K a) : mulL K a [1] = a := by
  rw [mulL, mulAll_one hs _ (Nat.le_refl _)]; simp

theorem makeP_none {k R : Int} {f : List Int} (h : makeP k R f = none) : ∃ K Q : Nat, k = K ∧ R = Q ∧ 1 ≤ K ∧ K ≤ 4 ∧ Q ≤ 3 ∧ f.length = 2 * Q + 1 ∧ Syms K f := by
  unfold makeP at h
  by_cases h1 : k < 1 ∨ 4 < k ∨ R < 0 ∨ 3 < R
  · rw [if_pos h1] at h; cases h
  rw [if_neg h1] at h
  by_cases h2 : (f.length : Int) ≠ 2 * R + 1
  · rw [if_pos h2] at h; cases h
  rw [if_neg h2] at h
  refine ⟨k.toNat, R.toNat, by omega, by omega, by omega, by omega, by omega, by omega, ?_⟩
  rw [show ((k.toNat : Nat) : Int) = k by omega]
  exact numP_none h
theorem oddP_mk {Q : Nat} (h : Q ≤ 3) : oddP (2 * Q + 1) = true := by
  simp [oddP]; omega
theorem factP_of {K : Nat} {f : List Int} (h1 : 1 ≤ K) (h4 : K ≤ 4) (ho : oddP f.length = true) (hs : Syms K f) : factP K f = none := by
  rw [factP, if_neg (by omega), ho, if_neg (by decide), hs.num]
theorem mulP_one {K : Nat} {f : List Int} (h1 : 1 < K) (h4 : K ≤ 4) (ho : oddP f.length = true) (hs : Syms K f) : mulP K f [1] = none := by
  have h1' : Syms K [1] := by intro x hx; simp at hx; omega
  simp only [mulP, factP_of (by omega) h4 ho hs, h1'.num, List.length_singleton, Nat.add_sub_cancel, ho]
  decide
end Go.Proofs.YtbpdmpcakenjhaaDoor

namespace Go.Proofs.YtbpdmpcakenjhaaDoor

theorem Sm_add (f g : Nat → Int) (n : Nat) : Sm (fun i => f i + g i) n = Sm f n + Sm g n := by
  induction n with
  | zero => rfl
  | succ n ih => rw [Sm, Sm, Sm, ih]; omega
theorem Sm_swap (f : Nat → Nat → Int) (n m : Nat) : Sm (fun i => Sm (f i) m) n = Sm (fun j => Sm (fun i => f i j) n) m := by
  induction n with
  | zero => rw [Sm, Sm_zero]; intro _ _; rfl
  | succ n ih => rw [Sm, ih, ← Sm_add]; exact Sm_congr _ fun i _ => rfl
theorem Sm_mulL (c : Int) (f : Nat → Int) (n : Nat) : Sm (fun i => c * f i) n = c * Sm f n := by
  induction n with
  | zero => simp [Sm]
  | succ n ih => rw [Sm, Sm, ih, Int.mul_add]
theorem Sm_delta (f : Nat → Int) (p n : Nat) : Sm (fun i => f i * (if i = p then 1 else 0)) n = if p < n then f p else 0 := by
  induction n with
  | zero => simp [Sm]
  | succ n ih =>
    rw [Sm, ih]
    by_cases e : n = p
    · subst e; simp
    · rw [if_neg e]
      by_cases c : p < n
      · rw [if_pos c, if_pos (by omega)]; omega
      · rw [if_neg c, if_neg (by omega)]; omega

theorem mulL_at (K : Nat) (hK : 1 ≤ K) (a b : List Int) (hb : 1 ≤ b.length) (p : Nat) (hp : p < a.length + b.length - 1) :
    (mulL K a b).getD p 0 = Sm (fun i => Sm (fun j => a.getD i 0 * b.getD j 0 * (if i + j = p then 1 else 0)) b.length) a.length % K := by
  have h := mulAll_sum K a b (fun t => if t = p then 1 else 0) hb a.length (Nat.le_refl _)
  rw [Sm_delta (fun t => (mulAll K a b a.length).getD t 0) p, if_pos hp] at h
  have hr := (mulAll_syms hK a b a.length).getD (by omega) p
  rw [Int.emod_eq_of_lt hr.1 hr.2] at h
  rw [mulL, h]
  congr 1
  refine Sm_congr _ fun i _ => ?_
  rw [← Sm_mulL]
  refine Sm_congr _ fun j _ => ?_
  rw [Int.mul_assoc]

/-- A product may be turned. -/
theorem mulL_comm (K : Nat) (hK : 1 ≤ K) (a b : List Int) (ha : 1 ≤ a.length) (hb : 1 ≤ b.length) : mulL K a b = mulL K b a := by
  have l1 := mulL_length K a b
  have l2 := mulL_length K b a
  refine List.ext_getElem (by omega) fun p h1 h2 => ?_
  have e1 := mulL_at K hK a b hb p (by omega)
  have e2 := mulL_at K hK b a ha p (by omega)
  rw [Sm_swap] at e2
  have : (mulL K a b).getD p 0 = (mulL K b a).getD p 0 := by
    rw [e1, e2]
    congr 1
    refine Sm_congr _ fun i _ => Sm_congr _ fun j _ => ?_
    rw [Int.mul_comm (a.getD i 0), Nat.add_comm]
  simpa [List.getD, h1, h2] using this

theorem facs_sumT1 {K R : Nat} {f : List Int} (hK : 1 ≤ K) (hl : f.length = 2 * R + 1) (hs : Syms K f) : facs K R (sumT K f) = f := by
  by_cases h : 1 < K
  · exact facs_sumT h hl hs
  · obtain rfl : K = 1 := by omega
    have e : f = List.replicate (2 * R + 1) 0 := List.eq_replicate_iff.2 ⟨hl, fun x hx => by have := hs x hx; omega⟩
    simp only [facs, facI, Nat.lt_irrefl, if_false]
    exact e.symm
theorem isSum_sumT1 {K R : Nat} {f : List Int} (hK : 1 ≤ K) (hl : f.length = 2 * R + 1) (hs : Syms K f) : isSum K R (sumT K f) = true := by
  rw [isSum, facs_sumT1 hK hl hs]; simp

/-- Factors taken modulo k. -/
def modL (K : Nat) (f : List Int) (n : Nat) : List Int := (f.take n).map (· % (K : Int))
theorem modL_length (K : Nat) (f : List Int) (n : Nat) (h : n ≤ f.length) : (modL K f n).length = n := by simp [modL]; omega
theorem modL_syms {K : Nat} (hK : 1 ≤ K) (f : List Int) (n : Nat) : Syms K (modL K f n) := by
  intro x hx
  obtain ⟨y, _, rfl⟩ := List.mem_map.1 hx
  exact ⟨Int.emod_nonneg _ (by omega), Int.emod_lt_of_pos _ (by omega)⟩
theorem modL_succ (K : Nat) (f : List Int) (j : Nat) (h : j < f.length) : modL K f (j + 1) = modL K f j ++ [f[j] % (K : Int)] := by
  rw [modL, modL, take_snoc f j h, List.map_append]; rfl
/-- Being filled. -/
def modF (K : Nat) (f : List Int) (n j : Nat) : List Int := modL K f j ++ List.replicate (n - j) 0
theorem modF_length (K : Nat) (f : List Int) (n j : Nat) (hn : n ≤ f.length) (h : j ≤ n) : (modF K f n j).length = n := by
  rw [modF, List.length_append, modL_length K f j (by omega), List.length_replicate]; omega
theorem modF_set (K : Nat) (f : List Int) (n j : Nat) (hn : n ≤ f.length) (h : j < n) : (modF K f n j).set j (f[j]'(by omega) % (K : Int)) = modF K f n (j + 1) := by
  have hl := modL_length K f j (by omega)
  rw [modF, List.set_append_right _ _ (by omega), hl, Nat.sub_self, show n - j = (n - (j + 1)) + 1 by omega, List.replicate_succ, List.set_cons_zero, modF, modL_succ K f j (by omega), List.append_assoc]
  rfl
theorem tmod_twice {x : Int} {K : Nat} (hK : 1 ≤ K) : (x.tmod K + K).tmod K = x % K ∧ -4 * (K : Int) ≤ x.tmod K ∧ x.tmod K < K := by
  have h1 : -(K : Int) < x.tmod K := by have := Int.lt_tmod_of_pos x (show (0 : Int) < K by omega); omega
  have h2 : x.tmod K < K := Int.tmod_lt_of_pos x (by omega)
  refine ⟨?_, by omega, h2⟩
  rw [Int.tmod_eq_emod_of_nonneg (by omega)]
  have h3 := Int.mul_tdiv_add_tmod x K
  have h4 : x.tmod K = x - K * x.tdiv K := by omega
  rw [h4, show x - (K : Int) * x.tdiv K + K = x + K * (1 - x.tdiv K) by rw [Int.mul_sub]; omega, Int.add_mul_emod_self_left]
end Go.Proofs.YtbpdmpcakenjhaaDoor

namespace Go.Proofs.YtbpdmpcakenjhaaDoor

/-- The reference's symbol of window i. -/
def sumR (K : Nat) (f : List Int) (i : Nat) : Int := Sm (fun j => f.getD j 0 * (digs K f.length i).getD j 0) f.length % K
theorem sumT_range_eq {K : Nat} (hK : 1 ≤ K) (f : List Int) : sumT K f = (List.range (pw K f.length)).map (sumR K f) := by
  refine List.ext_getElem (by simp [sumT_length]) fun i h1 h2 => ?_
  have hi : i < pw K f.length := by rw [← sumT_length]; exact h1
  have h := sumT_at K f (digs K f.length i) (digs_length ..).symm (digs_syms hK _ _)
  rw [numW_digs hK _ _ hi] at h
  simp only [List.getElem_map, List.getElem_range]
  rw [sumR, ← h]
  simp [List.getD, h1]
theorem Sm_bound {K : Nat} (h4 : K ≤ 4) (u v : Nat → Int) (hu : ∀ j, 0 ≤ u j ∧ u j < K) (hv : ∀ j, 0 ≤ v j ∧ v j < K) (n : Nat) : 0 ≤ Sm (fun j => u j * v j) n ∧ Sm (fun j => u j * v j) n ≤ 9 * n := by
  induction n with
  | zero => simp [Sm]
  | succ n ih =>
    rw [Sm]
    have h1 := hu n
    have h2 := hv n
    have h3 : 0 ≤ u n * v n := Int.mul_nonneg h1.1 h2.1
    have h5 : u n * v n ≤ 3 * 3 := Int.mul_le_mul (by omega) (by omega) h2.1 (by omega)
    omega
theorem prod_bound {K : Nat} (h4 : K ≤ 4) {x y : Int} (hx : 0 ≤ x ∧ x < K) (hy : 0 ≤ y ∧ y < K) : 0 ≤ x * y ∧ x * y ≤ 9 := by
  have h5 : x * y ≤ 3 * 3 := Int.mul_le_mul (by omega) (by omega) hy.1 (by omega)
  exact ⟨Int.mul_nonneg hx.1 hy.1, by omega⟩

/-- What the reference tells of a sum: has every word a preimage? -/
def ontoR (k : Int) (f : List Int) : Bool := !((decide (k = 2 ∨ k = 4) && f.all fun x => x % 2 == 0) || (decide (k = 3) && f.all fun x => x % 3 == 0))
theorem cnt_zero (p : Int) (f : List Int) : mayOnto (cnt p f) = !(f.all fun x => x % p == 0) := by
  unfold mayOnto cnt
  induction f with
  | nil => rfl
  | cons x f ih =>
    rw [List.countP_cons, List.all_cons]
    by_cases h : x % p = 0
    · simp [h, ← ih]
    · have : (x % p == 0) = false := by simpa using h
      simp [h, this]
theorem ontoR_eq {k : Int} {f : List Int} : ontoR k f = wholeP mayOnto k f := by
  unfold ontoR wholeP primesP
  by_cases h : k = 2 ∨ k = 4
  · have h3 : ¬ k = 3 := by omega
    rw [if_pos h]
    simp [h, h3, cnt_zero]
  · rw [if_neg h]
    by_cases h3 : k = 3
    · rw [if_pos h3]
      simp [h3, cnt_zero]
    · rw [if_neg h3]
      simp [h, h3]

def allD (d : Nat) (f : List Int) : Bool := f.all fun x => x % (d : Int) == 0
theorem allD_snoc (d : Nat) (f : List Int) (x : Int) : allD d (f ++ [x]) = (allD d f && (x % (d : Int) == 0)) := by simp [allD]
theorem allD_four {f : List Int} (h : allD 4 f = true) : allD 2 f = true := by
  simp only [allD, List.all_eq_true, beq_iff_eq] at *
  intro x hx
  have := h x hx
  omega
theorem ontoR_false {K d : Nat} {f : List Int} (h4 : K ≤ 4) (h2 : 2 ≤ d) (hd : d ≤ K) (hk : K % d = 0) (ha : allD d f = true) : ontoR K f = false := by
  have hc : (K = 2 ∧ d = 2) ∨ (K = 3 ∧ d = 3) ∨ (K = 4 ∧ d = 2) ∨ (K = 4 ∧ d = 4) := by
    have hKc : K = 2 ∨ K = 3 ∨ K = 4 := by omega
    have hdc : d = 2 ∨ d = 3 ∨ d = 4 := by omega
    rcases hKc with rfl | rfl | rfl <;> rcases hdc with rfl | rfl | rfl <;> simp_all
  rcases hc with ⟨rfl, rfl⟩ | ⟨rfl, rfl⟩ | ⟨rfl, rfl⟩ | ⟨rfl, rfl⟩
  · simp only [allD] at ha; simp [ontoR]; simpa using ha
  · simp only [allD] at ha; simp [ontoR]; simpa using ha
  · simp only [allD] at ha; simp [ontoR]; simpa using ha
  · have ha := allD_four ha; simp only [allD] at ha; simp [ontoR]; simpa using ha
theorem ontoR_true {K : Nat} {f : List Int} (h1 : 1 ≤ K) (h4 : K ≤ 4) (h : ∀ d, 2 ≤ d → d ≤ K → ¬ (K % d = 0 ∧ allD d f = true)) : ontoR K f = true := by
  have hc : K = 1 ∨ K = 2 ∨ K = 3 ∨ K = 4 := by omega
  rcases hc with rfl | rfl | rfl | rfl
  · simp [ontoR]
  · have := h 2 (by omega) (by omega)
    simp [allD] at this
    simpa [ontoR] using this
  · have := h 3 (by omega) (by omega)
    simp [allD] at this
    simpa [ontoR] using this
  · have := h 2 (by omega) (by omega)
    simp [allD] at this
    simpa [ontoR] using this
theorem oneR_false {K p : Nat} {f : List Int} (h4 : K ≤ 4) (h1 : 1 ≤ K) (hp : p = 2 ∨ p = 3) (hk : K % p = 0) (hn : cnt p f ≠ 1) : wholeP mayOne K f = false := by
  have hc : (p = 2 ∧ (K = 2 ∨ K = 4)) ∨ (p = 3 ∧ K = 3) := by
    have : K = 1 ∨ K = 2 ∨ K = 3 ∨ K = 4 := by omega
    rcases this with rfl | rfl | rfl | rfl <;> rcases hp with rfl | rfl <;> simp_all
  have hm : mayOne (cnt p f) = false := by simp [mayOne]; omega
  rcases hc with ⟨rfl, rfl | rfl⟩ | ⟨rfl, rfl⟩ <;> simpa [wholeP, primesP] using hm
theorem oneR_true {K : Nat} {f : List Int} (h4 : K ≤ 4) (h1 : 1 ≤ K) (h : ∀ p, p = 2 ∨ p = 3 → K % p = 0 → cnt p f = 1) : wholeP mayOne K f = true := by
  have : K = 1 ∨ K = 2 ∨ K = 3 ∨ K = 4 := by omega
  rcases this with rfl | rfl | rfl | rfl
  · simp [wholeP, primesP]
  · have := h 2 (.inl rfl) rfl; simp [wholeP, primesP, mayOne] at *; omega
  · have := h 3 (.inr rfl) rfl; simp [wholeP, primesP, mayOne] at *; omega
  · have := h 2 (.inl rfl) rfl; simp [wholeP, primesP, mayOne] at *; omega
end Go.Proofs.YtbpdmpcakenjhaaDoor

namespace Go.Proofs.YtbpdmpcakenjhaaDoor
open Go.RowKit
set_option maxRecDepth 100000

/-- append(s, y) onto a list of one's own, in a region that draws. -/
theorem step_app1 {ops : Array Oper} {o : Oper} {a : Act} {w : World} {K : Act → World → Prop} {Q : Exit → Act → World → Prop} {Ep : Prop} (hgd : o.guard = none) (s x : Operand)
    (ho : o.op = .call { callee := .builtin .append, args := #[s, x], argTypes := #[22, 22] })
    (B : Nat) (v : Value) (xs : List Int) (y : Int) (b : Nat) (hs : a.eval s = v) (hx : a.eval x = .slice (some ⟨b, 0, none⟩) 1 1) (hown : OwnI B w v xs) (hc : w.cell? ⟨b, 0, none⟩ = some (.int .i64 y))
    (hlen : xs.length < 4398046511104) (hB : B ≤ w.heap.size)
    (h : ∀ v' w', OwnI B w' v' (xs ++ [y]) → Below B w w' → K (a.put o.dst v') w') :
    if Region.wanted o (yielded ops a.tmps) = true then Oper.wp Tryd.prog o a w K Q else Ep := by
  have hw : Region.wanted o (yielded ops a.tmps) = true := by simp [Region.wanted, hgd]
  rw [if_pos hw]
  obtain ⟨v', w', hr, h2, h3⟩ := run_app oneInts w B o.type v _ hown.toV ⟨b, 0, none⟩ 1 [.int .i64 y] (by simp) (fun j u hj => by
    obtain ⟨hj1, hj2⟩ := List.getElem?_eq_some_iff.1 hj
    obtain rfl : j = 0 := by simpa using hj1
    simp at hj2; subst hj2
    exact hc) (by simp [Value.oneCell']) (by simp; omega) hB
  rw [show ([.int .i64 y] : List Value).length = 1 from rfl] at hr
  unfold Oper.wp
  simp [execOp, ho, resolve, invoke, builtin, hs, hx, hr, Result.andThen]
  have ho' : OwnI B w' v' (xs ++ [y]) := OwnV.toI (by simpa using h2)
  rcases h3 with ⟨_, hg⟩ | ⟨_, hg⟩
  · exact h v' w' ho' ((Below.refl _ _).grown hg hB (fun k hk => (hown.lt k hk).1))
  · exact h v' w' ho' ((Below.refl _ _).grown hg hB (by intro k hk; cases hk))

theorem Box3.belowB {B : Nat} {w w' : World} {b : Nat} {x0 x1 x2 : Value} (h : Box3 w b x0 x1 x2) (hb : Below B w w') (hlt : b < B) : Box3 w' b x0 x1 x2 := by
  obtain ⟨⟨h0, h1, h2⟩, f0, f1, f2⟩ := h
  exact ⟨⟨(hb.cell (p := ⟨b, 0, none⟩) hlt).trans h0, (hb.cell (p := ⟨b, 1, none⟩) hlt).trans h1, (hb.cell (p := ⟨b, 2, none⟩) hlt).trans h2⟩, (hb.frozen (p := ⟨b, 0, none⟩) hlt).trans f0, (hb.frozen (p := ⟨b, 1, none⟩) hlt).trans f1, (hb.frozen (p := ⟨b, 2, none⟩) hlt).trans f2⟩
theorem Box3.far {w : World} {b b' : Nat} {x0 x1 x2 : Value} (h : Box3 w b x0 x1 x2) (hne : b' ≠ b) (i : Nat) (u : Value) : Box3 (w.setCell ⟨b', i, none⟩ u) b x0 x1 x2 := by
  obtain ⟨⟨h0, h1, h2⟩, f0, f1, f2⟩ := h
  refine ⟨⟨?_, ?_, ?_⟩, ?_, ?_, ?_⟩
  · rw [World.cell?_setCell_far _ _ _ _ hne]; exact h0
  · rw [World.cell?_setCell_far _ _ _ _ hne]; exact h1
  · rw [World.cell?_setCell_far _ _ _ _ hne]; exact h2
  · simpa using f0
  · simpa using f1
  · simpa using f2
theorem Box3.set2 {w : World} {b : Nat} {x0 x1 x2 : Value} (h : Box3 w b x0 x1 x2) (u : Value) : Box3 (w.setCell ⟨b, 2, none⟩ u) b x0 x1 u := by
  obtain ⟨⟨h0, h1, h2⟩, f0, f1, f2⟩ := h
  refine ⟨⟨?_, ?_, World.cell?_setCell_same _ _ _ h2⟩, ?_, ?_, ?_⟩
  · rw [World.cell?_setCell_other _ _ _ _ (by simp)]; exact h0
  · rw [World.cell?_setCell_other _ _ _ _ (by simp)]; exact h1
  · simpa using f0
  · simpa using f1
  · simpa using f2

end Go.Proofs.YtbpdmpcakenjhaaDoor

namespace Go.Proofs.YtbpdmpcakenjhaaDoor
open Go.RowKit
set_option maxRecDepth 100000

theorem run_appI {w : World} (B : Nat) (ty : TypeId) (v u : Value) (xs ys : List Int) (hown : OwnI B w v xs) (hu : IntsAt w u ys) (hlen : xs.length + ys.length ≤ 17592186044416) (hB : B ≤ w.heap.size) :
    ∃ v' w', (Builtin.append_ #[22, 22] ty #[v, u]).run Tryd.prog w = .ok v' w' ∧ OwnI B w' v' (xs ++ ys) ∧ Below B w w' ∧ w.grownBy w' v.ownBlock ∧ (v'.ownBlock = v.ownBlock ∨ v'.ownBlock = some w.heap.size) := by
  obtain ⟨i, hi, hz0, hz1, hz2⟩ := info_parts iInt
  obtain ⟨ao, cap, rfl, h1, h2, h3, h4⟩ := hu
  cases ao with
  | none =>
    obtain rfl := h3 rfl
    have hy : ys = [] := List.length_eq_zero_iff.1 (by omega)
    subst hy
    have hrun := run_append_owned_none (P := Tryd.prog) w B 22 ty 3 i 1 uInts hi v xs.length _ hown
    exact ⟨_, _, hrun, by simpa using hown, Below.refl _ _, World.grownBy.refl _ _, .inl rfl⟩
  | some p =>
    obtain ⟨v', w', hr, ho', hgr, _, hat⟩ := run_append_own_at (P := Tryd.prog) w B 22 ty 3 i (.int .i64 0) 1 8 uInts hi hz0 hz1 hz2 rfl (by decide) v xs.length _ hown p ys.length cap (ys.map (.int .i64)) (by simp) (fun j u hj => by
      have hjl : j < ys.length := by have := (List.getElem?_eq_some_iff.1 hj).1; simpa using this
      have := h4 j hjl
      simp only [valAt] at this
      rw [this, ← hj]; simp [hjl]) (ints_oneCell _ _) (by unfold maxLen; omega) (by omega) hB
    exact ⟨v', w', hr, by simpa [OwnI] using ho', (Below.refl _ _).grown hgr hB (fun k hk => (hown.lt k hk).1), hgr, hat⟩

/-- append(s, t...) in a region that draws. -/
theorem step_appI {ops : Array Oper} {o : Oper} {a : Act} {w : World} {K : Act → World → Prop} {Q : Exit → Act → World → Prop} {Ep : Prop} (hgd : o.guard = none) (s x : Operand)
    (ho : o.op = .call { callee := .builtin .append, args := #[s, x], argTypes := #[22, 22] })
    (B : Nat) (v u : Value) (xs ys : List Int) (hs : a.eval s = v) (hx : a.eval x = u) (hown : OwnI B w v xs) (hu : IntsAt w u ys)
    (hlen : xs.length + ys.length ≤ 17592186044416) (hB : B ≤ w.heap.size)
    (h : ∀ v' w', OwnI B w' v' (xs ++ ys) → Below B w w' → K (a.put o.dst v') w') :
    if Region.wanted o (yielded ops a.tmps) = true then Oper.wp Tryd.prog o a w K Q else Ep := by
  have hw : Region.wanted o (yielded ops a.tmps) = true := by simp [Region.wanted, hgd]
  rw [if_pos hw]
  obtain ⟨v', w', hr, h2, h3, _, _⟩ := run_appI B o.type v u xs ys hown hu hlen hB
  unfold Oper.wp
  simp [execOp, ho, resolve, invoke, builtin, hs, hx, hr, Result.andThen]
  exact h v' w' h2 h3

theorem copy_any (v : Value) (xs : List Int) (w : World) (h : IntsAt w v xs) (hl : xs.length ≤ 17592186044416) :
    Calls Tryd.prog 16 #[v] w (Ret1 (fun x w' => OwnI w.heap.size w' x xs) w) := by
  have b0 := belowAlloc w (.cells #[] 3)
  have ho := OwnI.lit w.heap.size w (Nat.le_refl _) [] (by unfold maxLen; simp) #[] rfl 0 rfl
  replace ho := Lib.hid ho
  replace h := Lib.hid (h.below b0)
  go_enter Tryd.func16, Tryd.ntmps16
  go_wp2_with (at_builtin; refine wpl_append rfl _ _ rfl w.heap.size _ v [] xs ho.out h.out rfl rfl (by simpa using hl) (by simp) ?_)
  intro v' w' h2 h3 _ _
  go_wp2
  go_ret
  exact ⟨_, rfl, Below.trans (b0.mono (Nat.le_refl _)) h3, h2⟩
end Go.Proofs.YtbpdmpcakenjhaaDoor

namespace Go.Proofs.YtbpdmpcakenjhaaDoor
open Go.RowKit

theorem below_grows {w w' : World} (h : Below w.heap.size w w') (row : Option Nat) : w.grownBy w' row := ⟨h.os, h.tape, h.output, h.size, fun k hk _ => h.block k hk⟩
theorem grown_any {w w' : World} (h : w.grownBy w' none) (row : Option Nat) : w.grownBy w' row := ⟨h.os, h.tape, h.output, h.size, fun k hk _ => h.block k hk (by simp)⟩
/-- A new row, made by a call that keeps what was. -/
theorem Rows.add {B : Nat} {w w' : World} {f : Names} {i : Nat × Nat} {r' : Row} (h : Rows B w f) (hb : Below w.heap.size w w') (ho : r'.own B w') (hn : ∀ k, r'.v.ownBlock = some k → w.heap.size ≤ k) : Rows B w' (upd f i (some r')) :=
  h.fresh (below_grows hb none) ho hn

/-- What the names name. -/
structure DN (f : Names) (d : Nat) (hd : List Value) (A : Value) (az : List Value) (L N most : Nat) (M : Nat → List Bool) (lv : Value) (ls : List Value) (LS : List (List Int)) (more : Bool) : Prop where
  box : f (0, 0) = some ⟨70, 8, .slice (some ⟨d, 0, none⟩) 1 1, 1, hd ++ [lv, .bool more]⟩
  hd6 : hd.length = 6
  outer : f (5, 0) = some (rowV 45 A az)
  aslen : az.length = L
  marks : ∀ i, i < L → f (2, i) = some (rowV 4 (vAt az i) ((M i).map Value.bool)) ∧ (M i).length = N
  list : f (1, 0) = some (rowV 22 lv ls)
  llen : ls.length = LS.length
  items : ∀ j, j < ls.length → f (3, j) = some (rowI (vAt ls j) (LS.getD j []))
  lmost : LS.length ≤ most

section
variable {B : Nat} {w : World} {f f' : Names} {d : Nat} {hd : List Value} {A : Value} {az : List Value} {L N most : Nat} {M : Nat → List Bool} {lv : Value} {ls : List Value} {LS : List (List Int)} {more : Bool}

theorem DN.congr (h : DN f d hd A az L N most M lv ls LS more) (e : ∀ i, i.1 ≠ 4 → f' i = f i) : DN f' d hd A az L N most M lv ls LS more :=
  ⟨(e _ (by decide)).trans h.box, h.hd6, (e _ (by decide)).trans h.outer, h.aslen, fun i hi => ⟨(e _ (by simp)).trans (h.marks i hi).1, (h.marks i hi).2⟩, (e _ (by decide)).trans h.list, h.llen, fun j hj => (e _ (by simp)).trans (h.items j hj), h.lmost⟩

theorem DN.cellH (h : DN f d hd A az L N most M lv ls LS more) (hr : Rows B w f) (k : Nat) (hk : k < 6) : w.cell? ⟨d, k, none⟩ = hd[k]? := by
  have := hr.cell h.box (g := d) (cap := 1) rfl k (by simp; omega)
  rw [this, List.getElem?_append_left (by rw [h.hd6]; exact hk)]
theorem DN.cell6 (h : DN f d hd A az L N most M lv ls LS more) (hr : Rows B w f) : w.cell? ⟨d, 6, none⟩ = some lv := by
  have := hr.cell h.box (g := d) (cap := 1) rfl 6 (by simp)
  rw [this, List.getElem?_append_right (by rw [h.hd6]; decide), h.hd6]; rfl
theorem DN.cell7 (h : DN f d hd A az L N most M lv ls LS more) (hr : Rows B w f) : w.cell? ⟨d, 7, none⟩ = some (.bool more) := by
  have := hr.cell h.box (g := d) (cap := 1) rfl 7 (by simp)
  rw [this, List.getElem?_append_right (by rw [h.hd6]; decide), h.hd6]; rfl
theorem DN.frz (h : DN f d hd A az L N most M lv ls LS more) (hr : Rows B w f) (k : Nat) : w.frozen? ⟨d, k, none⟩ = false := hr.frozen h.box (g := d) (cap := 1) rfl k
theorem DN.base (h : DN f d hd A az L N most M lv ls LS more) (hr : Rows B w f) : B ≤ d := (hr.lt h.box d rfl).1

/-- d.more = true. -/
theorem DN.setMore (h : DN f d hd A az L N most M lv ls LS more) (hr : Rows B w f) : ∃ f', Rows B (w.setCell ⟨d, 7, none⟩ (.bool true)) f' ∧ DN f' d hd A az L N most M lv ls LS true ∧ ∀ i, i ≠ (0, 0) → f' i = f i := by
  refine ⟨_, hr.set h.box (g := d) (cap := 1) rfl 7 (.bool true), ⟨?_, h.hd6, ?_, h.aslen, fun i hi => ?_, ?_, h.llen, fun j hj => ?_, h.lmost⟩, fun i hi => upd_ne _ _ hi⟩
  · rw [upd_same, List.set_append_right _ _ (by rw [h.hd6]; decide), h.hd6]; rfl
  · rw [upd_ne _ _ (by decide)]; exact h.outer
  · rw [upd_ne _ _ (by simp)]; exact h.marks i hi
  · rw [upd_ne _ _ (by decide)]; exact h.list
  · rw [upd_ne _ _ (by simp)]; exact h.items j hj

/-- d.at[i][node] = b. -/
theorem DN.mark (h : DN f d hd A az L N most M lv ls LS more) (hr : Rows B w f) (i : Nat) (hi : i < L) (node : Nat) (hn : node < N) (b : Bool) :
    ∃ f', Rows B (w.setCell (valAt (vAt az i) node) (.bool b)) f' ∧ DN f' d hd A az L N most (fun j => if j = i then (M i).set node b else M j) lv ls LS more ∧ ∀ j, j ≠ (2, i) → f' j = f j := by
  have hm := h.marks i hi
  refine ⟨_, hr.setV hm.1 node (by simp; omega) (.bool b), ⟨?_, h.hd6, ?_, h.aslen, fun j hj => ?_, ?_, h.llen, fun j hj => ?_, h.lmost⟩, fun j hj => upd_ne _ _ hj⟩
  · rw [upd_ne _ _ (by simp)]; exact h.box
  · rw [upd_ne _ _ (by simp)]; exact h.outer
  · by_cases e : j = i
    · subst e
      rw [upd_same]
      simp [hm.2, List.map_set]
    · rw [upd_ne _ _ (by simp [e])]; simp only [if_neg e]; exact h.marks j hj
  · rw [upd_ne _ _ (by simp)]; exact h.list
  · rw [upd_ne _ _ (by simp)]; exact h.items j hj

/-- The names behind d.list = append(d.list, x). -/
theorem DN.pushed (h : DN f d hd A az L N most M lv ls LS more) (x lv' : Value) (xs : List Int) (hl : LS.length < most) :
    DN (upd (upd (upd f (3, ls.length) (some (rowI x xs))) (1, 0) (some (rowV 22 lv' (ls ++ [x])))) (0, 0) (some ⟨70, 8, .slice (some ⟨d, 0, none⟩) 1 1, 1, hd ++ [lv', .bool more]⟩)) d hd A az L N most M lv' (ls ++ [x]) (LS ++ [xs]) more := by
  refine ⟨upd_same _ _ _, h.hd6, ?_, h.aslen, fun i hi => ?_, ?_, by simp [h.llen], fun j hj => ?_, by simp; omega⟩
  · rw [upd_ne _ _ (by simp), upd_ne _ _ (by simp), upd_ne _ _ (by simp)]; exact h.outer
  · rw [upd_ne _ _ (by simp), upd_ne _ _ (by simp), upd_ne _ _ (by simp)]; exact h.marks i hi
  · rw [upd_ne _ _ (by simp), upd_same]
  · rw [upd_ne _ _ (by simp), upd_ne _ _ (by simp)]
    by_cases e : j = ls.length
    · subst e
      rw [upd_same]
      simp [vAt, List.getD, h.llen]
    · have hjl : j < ls.length := by simp at hj; omega
      rw [upd_ne _ _ (by simp [e]), h.items j hjl]
      have : j < LS.length := by rw [← h.llen]; exact hjl
      simp [vAt, List.getD, List.getElem?_append_left, hjl, this]

/-- What lies where: the lists' facts. -/
theorem DN.listV (h : DN f d hd A az L N most M lv ls LS more) (hr : Rows B w f) : OwnV 22 B w lv ls := hr.ownV h.list
theorem DN.outerV (h : DN f d hd A az L N most M lv ls LS more) (hr : Rows B w f) : OwnV 45 B w A az := hr.ownV h.outer
theorem DN.marksV (h : DN f d hd A az L N most M lv ls LS more) (hr : Rows B w f) (i : Nat) (hi : i < L) : OwnV 4 B w (vAt az i) ((M i).map Value.bool) := hr.ownV (h.marks i hi).1
end

/-- Where a mark stands nothing goes on. -/
def Sound (K N : Nat) (T ws : List Int) (M : Nat → List Bool) : Prop := ∀ i node, i < ws.length → (M i)[node]? = some true → compl K N T node (ws.drop i) = []
theorem Sound.mark {K N : Nat} {T ws : List Int} {M : Nat → List Bool} (h : Sound K N T ws M) (i node : Nat) (b : Bool) (hb : b = true → compl K N T node (ws.drop i) = []) : Sound K N T ws (fun j => if j = i then (M i).set node b else M j) := by
  intro j m hj hm
  by_cases e : j = i
  · subst e
    simp only [if_true] at hm
    rw [List.getElem?_set] at hm
    split at hm
    · rename_i e
      subst e
      split at hm
      · injection hm with hm; exact hb hm
      · cases hm
    · exact h j m hj hm
  · simp only [if_neg e] at hm
    exact h j m hj hm
end Go.Proofs.YtbpdmpcakenjhaaDoor

namespace Go.Proofs.YtbpdmpcakenjhaaDoor

section
variable {P : Program} {ops : Array Oper} {Q : Exit → Act → World → Prop} {md : Region.Mode} {S : World → Prop}

/-- Whatever order is picked from here on; behind an operation of the head the fact S holds. -/
def wpAnyT (P : Program) (md : Region.Mode) (ops : Array Oper) (Q : Exit → Act → World → Prop) (S : World → Prop) (n : Nat) : Nat → Array Bool → Act → World → Prop
  | 0, listed, a, w => Region.ready md ops listed = [] ∧ Q .normal a w
  | fuel + 1, listed, a, w =>
    (Region.ready md ops listed = [] → Q .normal a w) ∧
    ∀ i ∈ Region.ready md ops listed, wpOp P ops Q i (fun a' w' => (i < n → S w') ∧ wpAnyT P md ops Q S n fuel (listed.setIfInBounds i true) a' w') a w

theorem wpAny_of_T {n : Nat} : ∀ (fuel : Nat) (listed : Array Bool) (a : Act) (w : World), wpAnyT P md ops Q S n fuel listed a w → wpAny P md ops Q fuel listed a w
  | 0, _, _, _, h => h
  | fuel + 1, _, _, _, h => ⟨h.1, fun i hi => wpOp_mono (fun a' w' h' => wpAny_of_T fuel _ a' w' h'.2) (h.2 i hi)⟩

/-- Where the whole head has come up, it is a wpAny. -/
theorem wpAnyT_of {n : Nat} : ∀ (fuel : Nat) (listed : Array Bool) (a : Act) (w : World), (∀ j, j < n → listed.getD j true = true) → wpAny P md ops Q fuel listed a w → wpAnyT P md ops Q S n fuel listed a w
  | 0, _, _, _, _, h => h
  | fuel + 1, listed, a, w, hl, h => ⟨h.1, fun i hi => wpOp_mono (fun a' w' h' => ⟨fun hin => Bool.noConfusion ((hl i hin).symm.trans (mem_ready.1 hi).1), wpAnyT_of fuel _ a' w' (fun j hj => by
        by_cases hij : i = j
        · subst hij
          rcases Nat.lt_or_ge i listed.size with h2 | h2
          · simp [h2]
          · rw [Array.getD_eq_getD_getElem?, Array.getElem?_eq_none (by simpa using h2)]; rfl
        · rw [getD_set_ne true hij]; exact hl j hj) h'⟩) (h.2 i hi)⟩

theorem wpAnyT_first {n i : Nat} {oi : Oper} {v : Value} (hi : ops[i]? = some oi) (hsel : ∀ (j : Nat) (o : Oper) cs b, ops[j]? = some o → o.op ≠ .select cs b)
    (hs : Region.sinkB md ops n = true) (hc : Region.chainB md ops n = true) (hn : n < ops.size) (hin : i < n)
    (hQ : ∀ c a w, Q (.panic c) (a.put oi.dst v) w → Q (.panic c) a w) :
    ∀ (fuel : Nat) (listed : Array Bool) (a : Act) (w : World), HeadInv md ops n listed →
      (∀ j oj, ops[j]? = some oj → j ≠ i → listed.getD j true = false → (∀ e ∈ oj.after, Region.binds md e = true → e.on ≠ i) → oi.apart ops oj = true) →
      i ∈ Region.ready md ops listed → YieldsIf P ops S oi v a → S w →
      wpAnyT P md ops Q S n fuel (listed.setIfInBounds i true) (a.put oi.dst v) w → wpAnyT P md ops Q S n (fuel + 1) listed a w := by
  intro fuel
  induction fuel with
  | zero =>
    intro listed a w inv _ hr hy hS H
    refine ⟨fun h => (by rw [h] at hr; cases hr), fun j hj => ?_⟩
    by_cases hji : j = i
    · subst hji; exact hy.wpOp hi hS ⟨fun _ => hS, H⟩
    · have := ready_mono hj hji
      rw [H.1] at this
      cases this
  | succ fuel ih =>
    intro listed a w inv hfree hr hy hS H
    have hun := (mem_ready.1 hr).1
    refine ⟨fun h => (by rw [h] at hr; cases hr), fun j hj => ?_⟩
    have hjn : j < n := by
      rcases Nat.lt_or_ge j n with h | h
      · exact h
      · exact absurd hj (tail_waits hs hc hn inv _ i rfl hin hun j h)
    by_cases hji : j = i
    · subst hji; exact hy.wpOp hi hS ⟨fun _ => hS, H⟩
    · have h1 := H.2 j (ready_mono hj hji)
      obtain ⟨hjun, oj, hoj, hall⟩ := mem_ready.1 hj
      have hnot : ∀ e ∈ oj.after, Region.binds md e = true → e.on ≠ i := fun e he hb heq => by
        have h1 := hall e he hb
        rw [heq, getD_both hun] at h1
        cases h1
      have h2 := wpOp_putIf hoj (hfree j oj hoj hji hjun hnot) (fun cs b => hsel i oi cs b hi) (fun cs b => hsel j oj cs b hoj) hQ hy h1
      have hfree' : ∀ k ok, ops[k]? = some ok → k ≠ i → (listed.setIfInBounds j true).getD k true = false →
          (∀ e ∈ ok.after, Region.binds md e = true → e.on ≠ i) → oi.apart ops ok = true := fun k ok hk hki hun hno => by
        refine hfree k ok hk hki ?_ hno
        by_cases hjk : j = k
        · subst hjk; exact hjun
        · rw [getD_set_ne true hjk] at hun; exact hun
      refine wpOp_mono (fun a' w' h3 => ⟨fun _ => h3.2.1 hjn, ih (listed.setIfInBounds j true) a' w' (inv.set hj hjn) hfree' (ready_mono hr (Ne.symm hji)) h3.1 (h3.2.1 hjn) ?_⟩) h2
      rw [Array.setIfInBounds_comm _ _ hji]
      exact h3.2.2

/-- The head's operations in the plan's order: (k, true): number k yields a value under S; (k, false): number k alone can come up, whatever it does. -/
def wpHead (P : Program) (ops : Array Oper) (Q : Exit → Act → World → Prop) (S : World → Prop) (K : Act → World → Prop) : List (Nat × Bool) → Act → World → Prop
  | [], a, w => K a w
  | (k, true) :: l, a, w => ∃ o v, ops[k]? = some o ∧ YieldsIf P ops S o v a ∧ S w ∧ wpHead P ops Q S K l (a.put o.dst v) w
  | (k, false) :: l, a, w => wpOp P ops Q k (fun a' w' => S w' ∧ wpHead P ops Q S K l a' w') a w

def planB (md : Region.Mode) (ops : Array Oper) (n : Nat) : List (Nat × Bool) → Array Bool → Bool
  | [], listed => (List.range n).all (fun j => listed.getD j true) && Region.seqB md ops (ops.size - n) n listed
  | (k, true) :: l, listed => decide (k < n) && (Region.ready md ops listed).contains k && Region.free md ops listed k && planB md ops n l (listed.setIfInBounds k true)
  | (k, false) :: l, listed => decide (k < n) && decide (Region.ready md ops listed = [k]) && planB md ops n l (listed.setIfInBounds k true)

theorem wpAnyT_plan {n : Nat} {ol : List Oper} (hol : ops = ol.toArray) (hsel : Region.noSelect ops = true) (hs : Region.sinkB md ops n = true) (hc : Region.chainB md ops n = true) (hn : n < ops.size)
    (hQ : ∀ c a w, Q (.panic c) a w → False) :
    ∀ (l : List (Nat × Bool)) (listed : Array Bool) (a : Act) (w : World), HeadInv md ops n listed → planB md ops n l listed = true →
      wpHead P ops Q S (fun a' w' => wpList P ops Q (ol.drop n) a' w') l a w → wpAnyT P md ops Q S n (l.length + (ops.size - n)) listed a w
  | [], listed, a, w, inv, hB, h => by
    simp only [planB, Bool.and_eq_true] at hB
    have hl : ∀ j, j < n → listed.getD j true = true := fun j hj => List.all_eq_true.1 hB.1 j (List.mem_range.2 hj)
    rw [List.length_nil, Nat.zero_add]
    refine wpAnyT_of _ _ _ _ hl ?_
    have hdl : (ol.drop n).length = ops.size - n := by subst hol; simp
    rw [← hdl]
    refine wpAny_of_seq (ol.drop n) n listed a w (fun j => by subst hol; simp) ?_ h
    rw [hdl]; exact hB.2
  | (k, true) :: l, listed, a, w, inv, hB, h => by
    simp only [planB, Bool.and_eq_true, decide_eq_true_eq] at hB
    obtain ⟨⟨⟨hkn, hr⟩, hf⟩, hB'⟩ := hB
    obtain ⟨o, v, ho, hy, hS, h'⟩ := h
    have hr' : k ∈ Region.ready md ops listed := by simpa using hr
    rw [show ((k, true) :: l).length + (ops.size - n) = (l.length + (ops.size - n)) + 1 by simp; omega]
    exact wpAnyT_first ho (Region.noSelect_spec hsel) hs hc hn hkn (fun c a w h => (hQ c _ w h).elim) _ listed a w inv (Region.free_spec ho hf) hr' hy hS
      (wpAnyT_plan hol hsel hs hc hn hQ l _ _ _ (inv.set hr' hkn) hB' h')
  | (k, false) :: l, listed, a, w, inv, hB, h => by
    simp only [planB, Bool.and_eq_true, decide_eq_true_eq] at hB
    obtain ⟨⟨hkn, hr⟩, hB'⟩ := hB
    rw [show ((k, false) :: l).length + (ops.size - n) = (l.length + (ops.size - n)) + 1 by simp; omega]
    refine ⟨fun h0 => (by rw [h0] at hr; cases hr), fun i hi => ?_⟩
    have hi' := hi
    rw [hr] at hi'
    obtain rfl : i = k := by simpa using hi'
    exact wpOp_mono (fun a' w' h3 => ⟨fun _ => h3.1, wpAnyT_plan hol hsel hs hc hn hQ l _ a' w' (inv.set hi hkn) hB' h3.2⟩) h

/-- What is asked of the region and the plan. -/
def tailB (md : Region.Mode) (ops : Array Oper) (n : Nat) (plan : List (Nat × Bool)) : Bool :=
  Region.noSelect ops && decide (n < ops.size) && Region.sinkB md ops n && Region.chainB md ops n && decide (plan.length = n) && planB md ops n plan (Array.replicate ops.size false)

/-- **The law**: a region that draws its order, by a plan for its head; then its tail, one behind the other. -/
theorem wp_region_plan {id : Nat} {a : Act} {w : World} {l : List Oper} (S : World → Prop) (n : Nat) (plan : List (Nat × Bool)) (hm : P.follows .mixedOrders = true) (hB : tailB .any l.toArray n plan = true)
    (h : wpHead P l.toArray (NoPanic Q) S (fun a' w' => wpList P l.toArray (NoPanic Q) (l.drop n) a' w') plan a w.drew) : (Code.region id l.toArray true).wp P Q a w := by
  simp only [tailB, Bool.and_eq_true, decide_eq_true_eq] at hB
  obtain ⟨⟨⟨⟨⟨hsel, hn⟩, hs⟩, hc⟩, hlen⟩, hp⟩ := hB
  refine wp_region_noPanic ?_
  refine wp_region_any hm ?_
  have inv0 : HeadInv .any l.toArray n (Array.replicate l.toArray.size false) :=
    ⟨by simp, fun j oj _ hl => (by rw [getD_replicate_false] at hl; cases hl), fun t _ ht => getD_in (by simpa using ht) (getD_replicate_false _ _)⟩
  have := wpAnyT_plan (md := .any) (Q := NoPanic Q) (S := S) rfl hsel hs hc hn (fun _ _ _ h => h) plan _ a _ inv0 hp h
  rw [hlen, show n + (l.toArray.size - n) = l.toArray.size by omega] at this
  exact wpAny_of_T _ _ _ _ this

/-- A step that yields. -/
theorem headY {K : Act → World → Prop} {k : Nat} {o : Oper} {v : Value} {l : List (Nat × Bool)} {a : Act} {w : World} (d : Option Tmp) (ho : ops[k]? = some o) (hd : o.dst = d)
    (hy : YieldsIf P ops S o v a) (hS : S w) (h : wpHead P ops Q S K l (a.put d v) w) : wpHead P ops Q S K ((k, true) :: l) a w := by
  subst hd; exact ⟨o, v, ho, hy, hS, h⟩
/-- A step that does whatever it does. -/
theorem headC {K : Act → World → Prop} {k : Nat} {o : Oper} {l : List (Nat × Bool)} {a : Act} {w : World} (ho : ops[k]? = some o)
    (h : ∀ K' : Act → World → Prop, (∀ a w, S w → wpHead P ops Q S K l a w → K' a w) → if Region.wanted o (yielded ops a.tmps) = true then Oper.wp P o a w K' Q else K' (a.put o.dst undef) w) :
    wpHead P ops Q S K ((k, false) :: l) a w := by
  show wpOp _ _ _ _ _ _ _
  unfold wpOp
  simp only [ho]
  have := h (fun a' w' => S w' ∧ wpHead P ops Q S K l a' w') (fun a w h1 h2 => ⟨h1, h2⟩)
  split
  · rename_i hw; rw [if_pos hw] at this; exact .inl this
  · rename_i hw; rw [if_neg hw] at this; exact this
theorem head0 {K : Act → World → Prop} {a : Act} {w : World} (h : K a w) : wpHead P ops Q S K [] a w := h
end
end Go.Proofs.YtbpdmpcakenjhaaDoor

namespace Go.Proofs.YtbpdmpcakenjhaaDoor
open Go.RowKit
set_option maxRecDepth 100000

theorem below_drewND (B : Nat) (w : World) (n : Nat) : Below B w (w.drewN n).drew := ⟨rfl, rfl, rfl, Nat.le_refl _, fun _ _ => rfl⟩
theorem OwnI.one {B : Nat} {w : World} {v : Value} {xs : List Int} (h : OwnI B w v xs) : v.oneCell' = true := by
  obtain ⟨a, n, c, rfl⟩ := h.at.shape; rfl

/-- append(l, x) of one []int in a region that draws. -/
theorem step_app1L {ops : Array Oper} {o : Oper} {a : Act} {w : World} {K : Act → World → Prop} {Q : Exit → Act → World → Prop} {Ep : Prop} (hw : Region.wanted o (yielded ops a.tmps) = true) (s x : Operand)
    (ho : o.op = .call { callee := .builtin .append, args := #[s, x], argTypes := #[32, 32] })
    (B : Nat) (v : Value) (vs : List Value) (y : Value) (b : Nat) (hs : a.eval s = v) (hx : a.eval x = .slice (some ⟨b, 0, none⟩) 1 1) (hb : b = w.heap.size) (hown : OwnV 22 B w v vs)
    (hlen : vs.length < 4398046511104) (hy : y.oneCell' = true) (hB : B ≤ w.heap.size)
    (h : ∀ v' w', OwnV 22 B w' v' (vs ++ [y]) → ((v'.ownBlock = v.ownBlock ∧ w.grownBy w' v.ownBlock) ∨ (∃ k, v'.ownBlock = some k ∧ w.heap.size ≤ k ∧ w.grownBy w' none)) → K (a.put o.dst v') w') :
    if Region.wanted o (yielded ops a.tmps) = true then Oper.wp Tryd.prog o a (w.alloc (.cells #[y] 22)) K Q else Ep := by
  rw [if_pos hw]
  subst hb
  obtain ⟨v', w', hr, h2, h3⟩ := run_app oneLists (w.alloc (.cells #[y] 22)) B o.type v _ (hown.alloc _) ⟨w.heap.size, 0, none⟩ 1 [y] (by simp) (cell_one_new _ _ _) (by simpa using hy) (by simp; omega) (by simp; omega)
  rw [show ([y] : List Value).length = 1 from rfl] at hr
  have hal : ∀ row, w.grownBy (w.alloc (.cells #[y] 22)) row := fun row => World.grownBy_alloc w _ row
  have hK : K (a.put o.dst v') w' := by
    refine h v' w' (by simpa using h2) ?_
    rcases h3 with ⟨hroom, hg⟩ | ⟨hk, hg⟩
    · obtain ⟨a1, n1, c1, e1⟩ := hown.shape
      obtain ⟨a2, n2, c2, e2⟩ := h2.shape
      exact .inl ⟨ownBlock_of_room e1 e2 hroom, (hal v.ownBlock).trans hg⟩
    · exact .inr ⟨_, hk, by simp, (hal none).trans hg⟩
  unfold Oper.wp
  simp [execOp, ho, resolve, invoke, builtin, hs, hx, hr, Result.andThen]
  exact hK

/-- What the call leaves. -/
def OnPost (B K N : Nat) (T ws : List Int) (d : Nat) (hd : List Value) (A : Value) (az : List Value) (most : Nat) (f : Names) (LS C : List (List Int)) (i : Nat) (w : World) (e : Ending) (w' : World) : Prop :=
  ∃ ret f' M' lv' ls' LS' more', e = .returned ret ∧ Rows B w' f' ∧ Below B w w' ∧ DN f' d hd A az ws.length N most M' lv' ls' LS' more' ∧ Sound K N T ws M' ∧ (∀ k, k ≤ i → f' (4, k) = f (4, k)) ∧
    ((LS.length + C.length ≤ most ∧ LS' = LS ++ C ∧ more' = false ∧ ret = .bool (decide (C ≠ []))) ∨ (most < LS.length + C.length ∧ more' = true ∧ ret = .bool true))

section
variable {B : Nat} {w : World} {f : Names} {d : Nat} {hd : List Value} {A : Value} {az : List Value} {L N most : Nat} {M : Nat → List Bool} {lv : Value} {ls : List Value} {LS : List (List Int)} {more : Bool}

/-- Behind the append: the rows, the box's cell. -/
theorem push_rows {w1 w3 : World} {x lv' : Value} {xs : List Int} (D : DN f d hd A az L N most M lv ls LS more) (hr : Rows B w f) (b1 : Below w.heap.size w w1) (hC : OwnI w.heap.size w1 x xs) (hBw : B ≤ w.heap.size) (hV3 : OwnV 22 B w3 lv' (ls ++ [x]))
    (hg : (lv'.ownBlock = lv.ownBlock ∧ w1.grownBy w3 lv.ownBlock) ∨ (∃ k, lv'.ownBlock = some k ∧ w1.heap.size ≤ k ∧ w1.grownBy w3 none)) :
    Rows B w3 (upd (upd f (3, ls.length) (some (rowI x xs))) (1, 0) (some (rowV 22 lv' (ls ++ [x])))) ∧ w3.cell? ⟨d, 6, none⟩ = some lv ∧ w3.frozen? ⟨d, 6, none⟩ = false ∧ Below B w w3 := by
  have h1 := hr.add (i := (3, ls.length)) (r' := rowI x xs) b1 (hC.mono hBw) (fun k hk => (hC.lt k hk).1)
  have hl1 : upd f (3, ls.length) (some (rowI x xs)) (1, 0) = some (rowV 22 lv ls) := by rw [upd_ne _ _ (by simp)]; exact D.list
  have hb1 : upd f (3, ls.length) (some (rowI x xs)) (0, 0) = some ⟨70, 8, .slice (some ⟨d, 0, none⟩) 1 1, 1, hd ++ [lv, .bool more]⟩ := by rw [upd_ne _ _ (by simp)]; exact D.box
  have hgr : w1.grownBy w3 lv.ownBlock := by
    rcases hg with h | ⟨k, _, _, h⟩
    · exact h.2
    · exact grown_any h _
  have h3 := h1.grown (r' := rowV 22 lv' (ls ++ [x])) hl1 hgr hV3 (by
    rcases hg with h | ⟨k, hk, hk2, _⟩
    · exact .inl h.1
    · exact .inr ⟨k, hk, hk2⟩)
  have hb3 : upd (upd f (3, ls.length) (some (rowI x xs))) (1, 0) (some (rowV 22 lv' (ls ++ [x]))) (0, 0) = some ⟨70, 8, .slice (some ⟨d, 0, none⟩) 1 1, 1, hd ++ [lv, .bool more]⟩ := by rw [upd_ne _ _ (by simp)]; exact hb1
  refine ⟨h3, ?_, ?_, ?_⟩
  · rw [h3.cell hb3 (g := d) (cap := 1) rfl 6 (by simp)]
    rw [List.getElem?_append_right (by rw [D.hd6]; decide), D.hd6]; rfl
  · exact h3.frozen hb3 (g := d) (cap := 1) rfl 6
  · exact (b1.mono hBw).trans ((Below.refl _ _).grown hgr (Nat.le_trans hBw b1.size) (fun k hk => ((D.listV hr).lt k hk).1))
/-- The store of the list's new value. -/
theorem push_store {w3 : World} {x lv' : Value} {xs : List Int} (D : DN f d hd A az L N most M lv ls LS more)
    (h3 : Rows B w3 (upd (upd f (3, ls.length) (some (rowI x xs))) (1, 0) (some (rowV 22 lv' (ls ++ [x]))))) :
    Rows B (w3.setCell ⟨d, 6, none⟩ lv') (upd (upd (upd f (3, ls.length) (some (rowI x xs))) (1, 0) (some (rowV 22 lv' (ls ++ [x])))) (0, 0) (some ⟨70, 8, .slice (some ⟨d, 0, none⟩) 1 1, 1, hd ++ [lv', .bool more]⟩)) := by
  have hb3 : upd (upd f (3, ls.length) (some (rowI x xs))) (1, 0) (some (rowV 22 lv' (ls ++ [x]))) (0, 0) = some ⟨70, 8, .slice (some ⟨d, 0, none⟩) 1 1, 1, hd ++ [lv, .bool more]⟩ := by rw [upd_ne _ _ (by simp), upd_ne _ _ (by simp)]; exact D.box
  have := h3.set hb3 (g := d) (cap := 1) rfl 6 lv'
  simp only [] at this
  rw [List.set_append_right _ _ (by rw [D.hd6]; decide), D.hd6] at this
  exact this
theorem below_le {B : Nat} {w W w' : World} (h : Below w.heap.size w W) (k : Below B W w') (hB : B ≤ w.heap.size) : Below B w w' := (h.mono hB).trans k
end

set_option maxHeartbeats 1000000 in
theorem on_end (B K N R : Nat) (T ws : List Int) (d : Nat) (vT : Value) (ua : Option Addr) (un uc : Nat) (A : Value) (az : List Value) (most : Nat) (f : Names) (M : Nat → List Bool) (lv : Value) (ls : List Value) (LS : List (List Int)) (xv : Value) (xs : List Int) (node : Nat) (w : World)
    (hBW : B ≤ w.heap.size) (hr : Rows B w f) (hW : IntsAt w (.slice ua un uc) ws) (D : DN f d [.int .i64 K, .int .i64 R, vT, .slice ua un uc, A, .int .i64 most] A az ws.length N most M lv ls LS false) (hso : Sound K N T ws M)
    (hx : f (4, ws.length) = some (rowI xv xs)) (hxl : xs.length ≤ 5000) (hm : most ≤ 256) :
    Calls Tryd.prog 46 #[.pointer (some ⟨d, 0, none⟩), xv, .int .i64 node, .int .i64 ws.length] w (OnPost B K N T ws d [.int .i64 K, .int .i64 R, vT, .slice ua un uc, A, .int .i64 most] A az most f LS ((compl K N T node (ws.drop ws.length)).map (xs ++ ·)) ws.length w) := by
  rw [List.drop_length, show (compl K N T node []).map (xs ++ ·) = [xs] by simp [compl]]
  have hX := (hr.ownI hx).at
  have lw := hW.len
  have hlm := D.lmost
  have hll := D.llen
  have lv6 := fun w' => (D.listV hr).at.len oneLists 3 w'
  have z3 := D.cellH hr 3 (by decide)
  have z5 := D.cellH hr 5 (by decide)
  have z6 := D.cell6 hr
  have f6 := D.frz hr 6
  have f7 := D.frz hr 7
  have z7 := D.cell7 hr
  simp only [List.getElem?_cons_succ, List.getElem?_cons_zero] at z3 z5
  rw [hll] at lv6
  by_cases hlt : LS.length < most
  · replace hX := Lib.hid hX
    replace hW := Lib.hid hW
    replace hso := Lib.hid hso
    go_enter Tryd.func46, Tryd.ntmps46
    go_wp2
    go_quiet (fail)
    go_wp2_with fail
    refine wp_region_plan (fun w' => w'.cell? ⟨d, 6, none⟩ = some lv) 9 [(0, true), (1, true), (2, true), (3, true), (4, true), (5, true), (6, false), (7, false), (8, false)] (by kernel_rfl) (by kernel_rfl) ?_
    obtain ⟨W, hWe⟩ : ∃ W : World, W = (w.drewN nq).drew := ⟨_, rfl⟩
    rw [← hWe]
    have hS : W.cell? ⟨d, 6, none⟩ = some lv := by rw [hWe]; exact z6
    have hrW : Rows B W f := by rw [hWe]; exact (hr.drewN nq).drew
    have hXW : IntsAt W xv xs := by rw [hWe]; exact hX.out.drew
    have hBw : Below w.heap.size w W := by rw [hWe]; exact below_drewND _ _ _
    have hf7 := z7
    have hsW : B ≤ W.heap.size := Nat.le_trans hBW hBw.size
    clear hWe
    refine headY (v := ?_) (some 29) rfl rfl (Or.inl ⟨by rfl, ?_⟩) hS ?_
    rotate_left
    · rintro W' s0; go_simp; try with_reducible rfl
    simp only [Act.put, List.setIfInBounds_toArray, List.set_cons_zero, List.set_cons_succ]
    refine headY (v := ?_) (some 30) rfl rfl (Or.inl ⟨by rfl, ?_⟩) hS ?_
    rotate_left
    · rintro W' s0; go_simp; try with_reducible rfl
    simp only [Act.put, List.setIfInBounds_toArray, List.set_cons_zero, List.set_cons_succ]
    refine headY (v := ?_) (some 31) rfl rfl (Or.inl ⟨by rfl, ?_⟩) hS ?_
    rotate_left
    · rintro W' s0; go_simp; try with_reducible rfl
    simp only [Act.put, List.setIfInBounds_toArray, List.set_cons_zero, List.set_cons_succ]
    refine headY (v := ?_) (some 32) rfl rfl (Or.inl ⟨by rfl, ?_⟩) hS ?_
    rotate_left
    · rintro W' s0; go_simp; try with_reducible rfl
    simp only [Act.put, List.setIfInBounds_toArray, List.set_cons_zero, List.set_cons_succ]
    refine headY (v := ?_) (some 33) rfl rfl (Or.inl ⟨by rfl, ?_⟩) hS ?_
    rotate_left
    · rintro W' s0; go_simp; try with_reducible rfl
    simp only [Act.put, List.setIfInBounds_toArray, List.set_cons_zero, List.set_cons_succ]
    refine headY (v := ?_) (some 34) rfl rfl (Or.inl ⟨by rfl, ?_⟩) hS ?_
    rotate_left
    · rintro W' s0; go_simp; try with_reducible rfl
    simp only [Act.put, List.setIfInBounds_toArray, List.set_cons_zero, List.set_cons_succ]
    refine headC rfl (fun KK hK => ?_)
    go_simp
    refine (clone_any xv xs _ hXW (by omega)).mono ?_
    rintro e W1 ⟨x, rfl, b1, hC⟩
    obtain ⟨xa, xn, xc, rfl⟩ := hC.at.shape
    have hS1 := cell_keep b1 hS
    refine hK _ _ hS1 ?_
    clear hK KK
    refine headC rfl (fun KK hK => ?_)
    go_simp
    refine hK _ _ (cell_alloc hS1 _) ?_
    clear hK KK
    refine headC rfl (fun KK hK => ?_)
    have hV1 := (D.listV hrW).below b1
    refine step_app1L (by rfl) _ _ rfl B lv ls _ W1.heap.size rfl rfl rfl hV1 (by omega) (hC.one) (Nat.le_trans hsW b1.size) ?_
    intro lv' W3 hV3 hgr
    obtain ⟨hr3, hS3, hF3, hB3⟩ := push_rows D hrW b1 hC hsW hV3 hgr
    refine hK _ _ hS3 ?_
    clear hK KK

    refine head0 ?_
    simp only [List.drop_succ_cons, List.drop_zero]
    obtain ⟨la, ln, lc, rfl⟩ := hV3.shape
    replace hr3 := Lib.hid hr3
    replace hV3 := Lib.hid hV3
    replace hgr := Lib.hid hgr
    replace hC := Lib.hid hC
    clear z3 z5 z6 hS hS1 f6 f7 z7 hf7
    go_wp2
    refine NoPanic.normal ?_
    go_wp2
    go_ret
    refine ⟨_, _, M, _, _, _, false, rfl, push_store D hr3.out, below_le hBw (hB3.setCell (p := ⟨d, 6, none⟩) (D.base hr) _) hBW, D.pushed _ _ xs hlt, hso.out, fun k _ => ?_, .inl ⟨by simp; omega, rfl, rfl, by simp⟩⟩
    rw [upd_ne _ _ (by simp), upd_ne _ _ (by simp), upd_ne _ _ (by simp)]
  · replace hX := Lib.hid hX
    replace hW := Lib.hid hW
    replace hso := Lib.hid hso
    obtain ⟨f', hr', D', hf'⟩ := D.setMore hr
    go_enter Tryd.func46, Tryd.ntmps46
    go_wp2
    go_quiet (fail)
    go_wp2
    go_ret
    refine ⟨_, f', M, lv, ls, LS, true, rfl, hr'.drewN nq, ?_, D', hso.out, fun k _ => hf' _ (by simp), .inr ⟨by simp; omega, rfl, rfl⟩⟩
    exact (show Below B w (w.drewN nq) from ⟨rfl, rfl, rfl, Nat.le_refl _, fun _ _ => rfl⟩).setCell (p := ⟨d, 7, none⟩) (D.base hr) (.bool true)
end Go.Proofs.YtbpdmpcakenjhaaDoor
