/-
  Proved: the law edenlaw13.PairsGraphs as its tied card: it returns true and never panics, for any rule. No conditions beyond the card's own.
  Walk: edenlaw13.PairsGraphs returns true.
  Opening what a call is handed: []int, api.Rule, the package-level errors.
  From a card's list of laid variables that holds the handle of the type error: the package errors and errors.errorType.
-/
import Derived.Test.YtmhiambkfdkkbaaGreatDoorMPg9
import Derived.Test.YtmhiambkfdkkbaaGreatDoorRows
import Derived.ProofKit
import Derived.OpenShut
import Derived.ShutString
import Derived.ChangeOld
import Derived.LaidMore
import Derived.Stop.Joined
import Derived.Stop.LaidErr
import Derived.Lib.SmallJoins
import Derived.LaidHandle
import Derived.Test.YtmhiambkfdkkbaaGreatDoorCards
import Derived.Test.YtmhiambkfdkkbaaGreatDoorTie
import Derived.SevenTiedAt
namespace Go.Proofs.YtmhiambkfdkkbaaGreatDoor
open Go.RowKit
set_option maxRecDepth 100000

/-- What an error's numbers look like in memory. -/
theorem eat_shape {w : World} {t : PErr} {v : Value} (h : EAt w t v) : ∃ (n : Int) (sa : Option Addr) (sn sc : Nat) (ja : Option Addr) (jn jc : Nat), v = .agg #[.int .i64 n, .slice sa sn sc, .slice ja jn jc] := by
  cases t with
  | none => exact ⟨0, none, 0, 0, none, 0, 0, h⟩
  | some q =>
    obtain ⟨n, l⟩ := q
    obtain ⟨a1, n1, c1, a2, n2, c2, rfl, _, _⟩ := h
    exact ⟨_, _, _, _, _, _, _, rfl⟩

set_option maxHeartbeats 4000000 in
theorem pairsGraphs_any (r : Nat → Addr) (k R : Int) (tv : Value) (T : List Int) (w : World) (hg : Glob r w) (hG : GlobE w) (h : IntsAt w tv T) (lT : T.length ≤ 17592186043904) :
    Calls Tryz.prog 5 #[.agg #[.int .i64 k, .int .i64 R, tv]] w (Ret1 (fun x _ => x = .bool true) w) := by
  obtain ⟨va, vn, vc, rfl⟩ := h.shape
  have b0 := belowAlloc w (.cells #[.int .i64 k, .int .i64 R, .slice va vn vc] 24)
  have q : Box3 (w.alloc (.cells #[.int .i64 k, .int .i64 R, .slice va vn vc] 24)) w.heap.size (.int .i64 k) (.int .i64 R) (.slice va vn vc) := by simp [Box3, go_sem]
  replace hg := Lib.hid (hg.below b0)
  replace hG := Lib.hid (hG.below b0)
  replace h := Lib.hid (h.below b0)
  go_enter Tryz.func5, Tryz.ntmps5
  go_wp2_with fail
  refine (awake13 r _ hg.out).mono ?_
  rintro e w1 ⟨_, rfl, b1, rfl⟩
  obtain ⟨⟨z0, z1, z2⟩, -, -, -⟩ := q.below b1
  go_wp2_with fail
  refine (lentRule_any k R va vn vc T w1 (h.out.below b1) (by omega)).mono ?_
  rintro e w2 ⟨_, rfl, b2, ma, mn, mc, rfl, hm⟩
  have b2a := Below.step b2 (belowAlloc w2 (.cells #[.int .i64 k, .int .i64 R, .slice ma mn mc] 24))
  have qm : Box3 (w2.alloc (.cells #[.int .i64 k, .int .i64 R, .slice ma mn mc] 24)) w2.heap.size (.int .i64 k) (.int .i64 R) (.slice ma mn mc) := by simp [Box3, go_sem]
  replace hm := hm.below (belowAlloc w2 (.cells #[.int .i64 k, .int .i64 R, .slice ma mn mc] 24))
  have c3 := Below.step b1 b2a
  generalize hgm : w2.heap.size = gm at *
  obtain ⟨w3, hw3⟩ : ∃ W : World, w2.alloc (.cells #[.int .i64 k, .int .i64 R, .slice ma mn mc] 24) = W := ⟨_, rfl⟩
  rw [hw3] at b2a qm hm c3
  replace hw3 := Lib.hid hw3
  replace hgm := Lib.hid hgm
  replace hm := Lib.hid hm
  clear z0 z1 z2
  obtain ⟨⟨z0, z1, z2⟩, -, -, -⟩ := q.below c3
  have qm0 := qm
  obtain ⟨⟨m0, m1, m2⟩, -, -, -⟩ := qm0
  go_upto_region 4 with fail
  rw [hw3.out, hgm.out]
  go_wp2_with fail
  refine (pgraph_any r k R ma mn mc T w3 (hg.out.below c3) hm.out.at).mono ?_
  rintro e w4 ⟨gx, ex, rfl, b4, hgx, hex⟩
  have c4 := Below.step c3 b4
  obtain ⟨gxa, gxc, rfl⟩ := hgx.shape
  replace hgx := Lib.hid hgx
  replace hex := Lib.hid hex
  clear z0 z1 z2 m0 m1 m2
  obtain ⟨⟨z0, z1, z2⟩, -, -, -⟩ := q.below c4
  go_wp2_with fail
  refine (rgraph_any k R va vn vc T w4 (h.out.below c4)).mono ?_
  rintro e w5 ⟨gy, ey, rfl, b5, hgy, hey⟩
  obtain ⟨gya, gyc, rfl⟩ := hgy.shape
  obtain ⟨n7, s7a, s7n, s7c, j7a, j7n, j7c, rfl⟩ := eat_shape hey.at
  obtain ⟨be, q7⟩ := err_box8 w5 (.int .i64 n7) (.slice s7a s7n s7c) (.slice j7a j7n j7c)
  replace hey := hey.at.below be
  replace hgy := hgy.below be
  have b5a := Below.step b5 be
  generalize hg7 : w5.heap.size = g7 at *
  obtain ⟨w6, hw6⟩ : ∃ W : World, w5.alloc (.cells #[.int .i64 n7, .slice s7a s7n s7c, .slice j7a j7n j7c] 34) = W := ⟨_, rfl⟩
  rw [hw6] at be q7 hey hgy b5a
  have c6 := Below.step c4 b5a
  have d6 := Below.step b4 b5a
  replace hw6 := Lib.hid hw6
  replace hg7 := Lib.hid hg7
  replace hey := Lib.hid hey
  replace hgy := Lib.hid hgy
  clear z0 z1 z2 be
  obtain ⟨⟨m0, m1, m2⟩, -, -, -⟩ := qm.below d6
  go_upto_region 6 with fail
  rw [hw6.out, hg7.out]
  go_wp2_with fail
  refine (papart_any r k R ma mn mc T w6 (hg.out.below c6) (hm.out.below d6).at).mono ?_
  rintro e w7 ⟨ax, fx, rfl, b7, ⟨xs, hpx, hax⟩, hfx⟩
  obtain ⟨axa, axn, axc, rfl⟩ := hax.shape
  have c7 := Below.step c6 b7
  replace hax := Lib.hid hax
  replace hfx := Lib.hid hfx
  replace hpx := Lib.hid hpx
  clear m0 m1 m2
  obtain ⟨⟨z0, z1, z2⟩, -, -, -⟩ := q.below c7
  go_wp2_with fail
  refine (rapart_any k R va vn vc T w7 (h.out.below c7)).mono ?_
  rintro e w8 ⟨ay, fy, rfl, b8, ⟨ys, hpy, hay⟩, hfy⟩
  obtain rfl := hpx.out.unique hpy
  obtain ⟨aya, ayn, ayc, rfl⟩ := hay.shape
  obtain ⟨n8, s8a, s8n, s8c, j8a, j8n, j8c, rfl⟩ := eat_shape hfy.at
  obtain ⟨be, q8⟩ := err_box8 w8 (.int .i64 n8) (.slice s8a s8n s8c) (.slice j8a j8n j8c)
  replace hfy := hfy.at.below be
  replace hay := hay.below be
  have b8a := Below.step b8 be
  generalize hg8 : w8.heap.size = g8 at *
  obtain ⟨w9, hw9⟩ : ∃ W : World, w8.alloc (.cells #[.int .i64 n8, .slice s8a s8n s8c, .slice j8a j8n j8c] 34) = W := ⟨_, rfl⟩
  rw [hw9] at be q8 hfy hay b8a
  replace hw9 := Lib.hid hw9
  replace hg8 := Lib.hid hg8
  clear z0 z1 z2 be hpy
  obtain ⟨W, hW⟩ : ∃ W : World, w9 = W := ⟨_, rfl⟩
  have a8 : Below w9.heap.size w9 W := by rw [← hW]; exact Below.refl _ _
  have d8 : Below w7.heap.size w7 W := Below.step b8a a8
  have d7 : Below w6.heap.size w6 W := Below.step b7 d8
  have d4 : Below w4.heap.size w4 W := Below.step b5a d7
  have d3 : Below w3.heap.size w3 W := Below.step b4 d4
  have dw : Below (w.alloc (.cells #[.int .i64 k, .int .i64 R, .slice va vn vc] 24)).heap.size (w.alloc (.cells #[.int .i64 k, .int .i64 R, .slice va vn vc] 24)) W := Below.step c3 d3
  have boxes : ∀ W' : World, Below W.heap.size W W' → W'.cell? ⟨gm, 0, none⟩ = some (.int .i64 k) ∧ W'.cell? ⟨gm, 1, none⟩ = some (.int .i64 R) ∧ W'.cell? ⟨gm, 2, none⟩ = some (.slice ma mn mc) ∧ W'.cell? ⟨w.heap.size, 0, none⟩ = some (.int .i64 k) ∧ W'.cell? ⟨w.heap.size, 1, none⟩ = some (.int .i64 R) ∧ W'.cell? ⟨w.heap.size, 2, none⟩ = some (.slice va vn vc) ∧ W'.cell? ⟨g7, 0, none⟩ = some (.int .i64 n7) ∧ W'.cell? ⟨g7, 1, none⟩ = some (.slice s7a s7n s7c) ∧ W'.cell? ⟨g7, 2, none⟩ = some (.slice j7a j7n j7c) ∧ W'.cell? ⟨g8, 0, none⟩ = some (.int .i64 n8) ∧ W'.cell? ⟨g8, 1, none⟩ = some (.slice s8a s8n s8c) ∧ W'.cell? ⟨g8, 2, none⟩ = some (.slice j8a j8n j8c) := fun W' p => by
    obtain ⟨⟨m0, m1, m2⟩, -, -, -⟩ := qm.below (Below.step d3 p)
    obtain ⟨⟨z0, z1, z2⟩, -, -, -⟩ := q.below (Below.step dw p)
    obtain ⟨⟨x0, x1, x2⟩, -, -, -⟩ := q7.below (Below.step d7 p)
    obtain ⟨⟨y0, y1, y2⟩, -, -, -⟩ := q8.below (Below.step a8 p)
    exact ⟨m0, m1, m2, z0, z1, z2, x0, x1, x2, y0, y1, y2⟩
  replace boxes := Lib.hid boxes
  have hS := boxes.out W (Below.refl _ _)
  have hgxW := Lib.hid (hgx.out.below d4)
  have hexW := Lib.hid (hex.out.below d4)
  have hgyW := Lib.hid (hgy.out.below d7)
  have heyW := Lib.hid (hey.out.below d7)
  have haxW := Lib.hid (hax.out.below d8)
  have hfxW := Lib.hid (hfx.out.below d8)
  have hayW := Lib.hid (hay.below a8)
  have hfyW := Lib.hid (hfy.below a8)
  have hmW := Lib.hid (hm.out.below d3)
  replace hW := Lib.hid hW
  replace hfy := Lib.hid hfy
  replace hay := Lib.hid hay
  replace hm := Lib.hid hm
  go_upto_region 8 with fail
  rw [hw9.out, hg8.out, hW.out]
  obtain ⟨m0, m1, m2, z0, z1, z2, x0, x1, x2, y0, y1, y2⟩ := hS
  go_wp2_with fail
  refine (lists_eq _ _ _ W hgxW.out hgyW.out).mono ?_
  rintro e W1 h1
  obtain ⟨rfl, p1⟩ := h1.below
  clear h1
  have hS1 := boxes.out W1 p1
  clear m0 m1 m2 z0 z1 z2 x0 x1 x2 y0 y1 y2
  obtain ⟨m0, m1, m2, z0, z1, z2, x0, x1, x2, y0, y1, y2⟩ := hS1
  go_wp2_with fail
  refine (raw_is r (pgE k R T) _ _ W1 (hg.out.below (Below.step dw p1)) (hG.out.below (Below.step dw p1)) (hexW.out.below p1) (heyW.out.below p1) (pgE_fine _ _ _)).mono ?_
  rintro e W2 ⟨_, rfl, u2, rfl⟩
  have p2 := Below.step p1 u2
  have hS2 := boxes.out W2 p2
  clear m0 m1 m2 z0 z1 z2 x0 x1 x2 y0 y1 y2
  obtain ⟨m0, m1, m2, z0, z1, z2, x0, x1, x2, y0, y1, y2⟩ := hS2
  go_wp2_with fail
  refine (ints_any _ _ xs xs W2 (haxW.out.below p2) (hayW.out.below p2)).mono ?_
  rintro e W3 h3
  obtain ⟨rfl, u3⟩ := h3.below
  clear h3
  have p3 := Below.step p2 u3
  have hS3 := boxes.out W3 p3
  rw [show decide (xs = xs) = true from decide_eq_true rfl]
  clear m0 m1 m2 z0 z1 z2 x0 x1 x2 y0 y1 y2
  obtain ⟨m0, m1, m2, z0, z1, z2, x0, x1, x2, y0, y1, y2⟩ := hS3
  go_wp2_with fail
  refine (raw_is r (pgE k R T) _ _ W3 (hg.out.below (Below.step dw p3)) (hG.out.below (Below.step dw p3)) (hfxW.out.below p3) (hfyW.out.below p3) (pgE_fine _ _ _)).mono ?_
  rintro e W4 ⟨_, rfl, u4, rfl⟩
  have p4 := Below.step p3 u4
  have hS4 := boxes.out W4 p4
  clear m0 m1 m2 z0 z1 z2 x0 x1 x2 y0 y1 y2
  obtain ⟨m0, m1, m2, z0, z1, z2, x0, x1, x2, y0, y1, y2⟩ := hS4
  go_wp2_with fail
  refine (keptRule_any _ k R ma mn mc va vn vc T W4 (hmW.out.below p4) (h.out.below (Below.step dw p4)) (by omega)).mono ?_
  rintro e W5 ⟨_, rfl, u5, rfl⟩
  have p5 := Below.step p4 u5
  have bE := Below.step b0 (Below.step dw p5)
  go_wp2
  go_ret
  exact ⟨_, rfl, bE, rfl⟩
end Go.Proofs.YtmhiambkfdkkbaaGreatDoor

namespace Go.Proofs.YtmhiambkfdkkbaaGreatDoor
open Go.ChangeShapes Go.WideShapes Go.ChangeAt Go.RowKit Go.Joins
set_option maxRecDepth 100000

theorem own : ownKnob Tryz.prog.godebug = none := by kernel_rfl
theorem laidOut : laidOutB Tryz.prog = true := by kernel_rfl
theorem cellsInt : Tryz.prog.cellsOf 3 = 1 := by kernel_rfl
theorem uInt : Tryz.prog.underlying 3 = some (.int .i64) := by kernel_rfl
theorem bytesInt : Tryz.prog.bytesOf 3 = 8 := by kernel_rfl

theorem i64_of_wf {n : Int} (h : (Lit.int .i64 n).wf = true) : I64 n := by
  have := bounds_i64 h
  unfold I64
  omega

/-- A []int that came in. -/
theorem open_intsV {H : Type} {enc : TypeId × Value → H} {W : World} {held : Bool} {fuel : Nat} {v : Value} {y : DataW H × List MemPlace}
    (h : DataW.trod enc Tryz.prog W 0 (fun _ => true) held fuel 22 [v] = some y) (hw : ∀ n ∈ y.1.weights Tryz.prog 22, n ≤ reachBytes) :
    ∃ xs, IntsAt W v xs ∧ xs.length ≤ 17592186043904 ∧ ∀ x ∈ xs, I64 x := by
  rcases open_ints uInts uInt cellsInt h with ⟨hcs, _⟩ | ⟨a, len, cap, zs, hcs, _, hl, hm, hz, hx, hcell, hwz⟩
  · simp at hcs
    subst hcs
    exact ⟨[], (OwnI.nil 0 W).at, by simp, by simp⟩
  · simp at hcs
    subst hcs
    simp only [if_true] at hz
    have hzl : (zs.take len).length = len := by simp; omega
    refine ⟨zs.take len, ⟨some a, cap, by rw [hzl], by rw [hzl]; exact hl, hm, (fun e => by cases e), fun i hi => ?_⟩, ?_, fun x hx => i64_of_wf (hwz x (List.mem_of_mem_take hx))⟩
    · have hi' : i < zs.length := by rw [hzl] at hi; omega
      show W.cell? (a.add i) = _
      rw [hcell i hi']
      simp [List.getD, hi']
    · rw [hx] at hw
      have := hw ((lits (H := H) .i64 (zs.take len)).length * 8 + (lits (H := H) .i64 (zs.drop len)).length * 8) (by
        simp only [DataW.weights, uInts, bytesInt, List.mem_cons]
        left; omega)
      simp only [lits, List.length_map, reachBytes] at this
      omega

theorem open_intsT {H : Type} {enc : TypeId × Value → H} {W : World} {held : Bool} {v : Value} {d : DataW H} {p : List MemPlace} {b0 : Nat}
    (hv : Value.okWide Tryz.prog W .any b0 22 v) (h : DataW.Trod enc Tryz.prog W 0 (fun _ => true) held 22 v d p) (hw : ∀ n ∈ d.weights Tryz.prog 22, n ≤ reachBytes) :
    ∃ xs, IntsAt W v xs ∧ xs.length ≤ 17592186043904 ∧ ∀ x ∈ xs, I64 x := by
  obtain ⟨a, l, c, rfl⟩ := okWide_slice uInts hv
  obtain ⟨fuel, hf⟩ := h
  exact open_intsV (y := (d, p)) (by simpa [Value.cells] using hf) hw

theorem weights_each3 {H : Type} {t0 t1 t2 : TypeId} {y0 y1 y2 : DataW H} {n : Nat} (h : n ∈ y2.weights Tryz.prog t2) : n ∈ DataW.weightsEach Tryz.prog [t0, t1, t2] [y0, y1, y2] := by
  simp only [DataW.weightsEach, List.mem_append]
  exact .inr (.inr (.inl h))

/-- A rule that came in. -/
theorem open_ruleV {H : Type} {enc : TypeId × Value → H} {W : World} {held : Bool} {v : Value} {d : DataW H} {p : List MemPlace} {b0 : Nat}
    (hv : Value.okWide Tryz.prog W .any b0 24 v) (h : DataW.Trod enc Tryz.prog W 0 (fun _ => true) held 24 v d p) (hw : ∀ n ∈ d.weights Tryz.prog 24, n ≤ reachBytes) :
    ∃ (k R : Int) (u : Value) (xs : List Int), v = .agg #[.int .i64 k, .int .i64 R, u] ∧ IntsAt W u xs ∧ xs.length ≤ 17592186043904 ∧ (∀ x ∈ xs, I64 x) ∧ I64 k ∧ I64 R := by
  obtain ⟨v0, v1, v2, y0, y1, y2, n, rfl, rfl, rfl, h0, h1, h2⟩ := open_agg3 Tryz.underlying24 (by kernel_rfl) (by kernel_rfl) hv h
  obtain ⟨a, e0, _, wa⟩ := DataW.trod_int uInt h0
  obtain ⟨b, e1, _, wb⟩ := DataW.trod_int uInt h1
  simp at e0 e1
  subst e0 e1
  obtain ⟨xs, hx, hl, hb⟩ := open_intsV h2 fun n hn => hw n (by
    simp only [DataW.weights, Tryz.underlying24]
    exact weights_each3 (t0 := 3) (t1 := 3) (t2 := 22) hn)
  exact ⟨a, b, v2, xs, rfl, hx, hl, hb, i64_of_wf wa, i64_of_wf wb⟩

/-! The package-level errors. -/
theorem star : "*" ++ "errors.errorString" = "*errors.errorString" := by decide
theorem rowES (u : TypeId) (h : Tryz.prog.typeName? 3 u = some "*errors.errorString") : u = 240 :=
  typeName_ptr_named (nm := "errors.errorString") (by rw [star]; kernel_rfl) (by kernel_rfl) (by decide) u (by rw [star]; exact h)
theorem pES : Tryz.prog.underlying 240 = some (.pointer 261) := by kernel_rfl
theorem cES : Tryz.prog.cellsOf 261 = 1 := by kernel_rfl
theorem cStr : Tryz.prog.cellsOf 9 = 1 := by kernel_rfl

def laid12 : List (String × DataW Unit) := [("eden/api.BadRule", Rows.laid_eden_api_BadRule), ("eden/api.BadWord", Rows.laid_eden_api_BadWord), ("eden/api.BadArg", Rows.laid_eden_api_BadArg), ("eden/api.TooBig", Rows.laid_eden_api_TooBig), ("eden/api.NoBudget", Rows.laid_eden_api_NoBudget), ("eden/api.BadText", Rows.laid_eden_api_BadText), ("eden/api.BadPatch", Rows.laid_eden_api_BadPatch), ("eden/api.BadCert", Rows.laid_eden_api_BadCert), ("eden/api.NoInverse", Rows.laid_eden_api_NoInverse), ("eden/api.BadLine", Rows.laid_eden_api_BadLine), ("eden/api.BadState", Rows.laid_eden_api_BadState), ("eden/api.Unknown", Rows.laid_eden_api_Unknown)]

theorem sentinel {n : String} {text : List UInt8} {r : List (String × DataW Unit)} {W : World} {g : Nat}
    (h : laidMet Tryz.prog ((n, .iface "*errors.errorString" (.ptr (.agg [.lit (.string text)]))) :: r) W)
    (hg : Tryz.prog.globalNamed n = some g) (ht : (Tryz.prog.globals[g]?).map (·.type) = some 30) :
    (∃ a : Addr, W.cell? ⟨g, 0, none⟩ = some (.iface 240 (.pointer (some a))) ∧ ∃ s, W.cell? a = some (.string s) ∧ s.data.toList = text) ∧ laidMet Tryz.prog r W := by
  refine ⟨?_, h.tail⟩
  obtain ⟨a, s, hv, hc, hs, _⟩ := laid_sentinel h hg ht Tryz.underlying30 rowES pES Tryz.underlying261 rfl rfl Tryz.underlying9 cES cStr
  exact ⟨a, by simpa using World.var?_cell hg hv 0, s, hc, hs⟩

def txt : Nat → List UInt8
  | 1 => [98, 97, 100, 32, 114, 117, 108, 101]
  | 2 => [98, 97, 100, 32, 119, 111, 114, 100]
  | 3 => [98, 97, 100, 32, 97, 114, 103, 117, 109, 101, 110, 116]
  | 4 => [116, 111, 111, 32, 98, 105, 103]
  | 5 => [110, 111, 32, 98, 117, 100, 103, 101, 116]
  | 6 => [98, 97, 100, 32, 116, 101, 120, 116]
  | 7 => [98, 97, 100, 32, 112, 97, 116, 99, 104]
  | 8 => [98, 97, 100, 32, 99, 101, 114, 116, 105, 102, 105, 99, 97, 116, 101]
  | 9 => [110, 111, 32, 105, 110, 118, 101, 114, 115, 101]
  | 10 => [98, 97, 100, 32, 108, 105, 110, 101]
  | 11 => [98, 97, 100, 32, 115, 116, 97, 116, 101]
  | 99 => [117, 110, 107, 110, 111, 119, 110]
  | _ => []
theorem txt_apart : ∀ m n : Fin 12, 1 ≤ m.val → 1 ≤ n.val → txt m.val = txt n.val → m = n := by decide

theorem glob_of_laid {W : World} (h : laidMet Tryz.prog laid12 W) : ∃ r, Glob r W := by
  obtain ⟨⟨a1, c1, s1, e1, t1⟩, h⟩ := sentinel (text := txt 1) h (g := 0) (by kernel_rfl) (by kernel_rfl)
  obtain ⟨⟨a2, c2, s2, e2, t2⟩, h⟩ := sentinel (text := txt 2) h (g := 1) (by kernel_rfl) (by kernel_rfl)
  obtain ⟨⟨a3, c3, s3, e3, t3⟩, h⟩ := sentinel (text := txt 3) h (g := 2) (by kernel_rfl) (by kernel_rfl)
  obtain ⟨⟨a4, c4, s4, e4, t4⟩, h⟩ := sentinel (text := txt 4) h (g := 3) (by kernel_rfl) (by kernel_rfl)
  obtain ⟨⟨a5, c5, s5, e5, t5⟩, h⟩ := sentinel (text := txt 5) h (g := 4) (by kernel_rfl) (by kernel_rfl)
  obtain ⟨⟨a6, c6, s6, e6, t6⟩, h⟩ := sentinel (text := txt 6) h (g := 5) (by kernel_rfl) (by kernel_rfl)
  obtain ⟨⟨a7, c7, s7, e7, t7⟩, h⟩ := sentinel (text := txt 7) h (g := 6) (by kernel_rfl) (by kernel_rfl)
  obtain ⟨⟨a8, c8, s8, e8, t8⟩, h⟩ := sentinel (text := txt 8) h (g := 7) (by kernel_rfl) (by kernel_rfl)
  obtain ⟨⟨a9, c9, s9, e9, t9⟩, h⟩ := sentinel (text := txt 9) h (g := 8) (by kernel_rfl) (by kernel_rfl)
  obtain ⟨⟨a10, c10, s10, e10, t10⟩, h⟩ := sentinel (text := txt 10) h (g := 9) (by kernel_rfl) (by kernel_rfl)
  obtain ⟨⟨a11, c11, s11, e11, t11⟩, h⟩ := sentinel (text := txt 11) h (g := 10) (by kernel_rfl) (by kernel_rfl)
  obtain ⟨⟨a99, c99, s99, e99, t99⟩, h⟩ := sentinel (text := txt 99) h (g := 11) (by kernel_rfl) (by kernel_rfl)
  clear h
  have key : ∀ n : Nat, (1 ≤ n ∧ n ≤ 11) ∨ n = 99 → ∃ s, W.cell? ((fun n : Nat => match n with | 1 => a1 | 2 => a2 | 3 => a3 | 4 => a4 | 5 => a5 | 6 => a6 | 7 => a7 | 8 => a8 | 9 => a9 | 10 => a10 | 11 => a11 | _ => a99) n) = some (.string s) ∧ s.data.toList = txt n := by
    intro n hn
    have : n = 1 ∨ n = 2 ∨ n = 3 ∨ n = 4 ∨ n = 5 ∨ n = 6 ∨ n = 7 ∨ n = 8 ∨ n = 9 ∨ n = 10 ∨ n = 11 ∨ n = 99 := by omega
    rcases this with rfl | rfl | rfl | rfl | rfl | rfl | rfl | rfl | rfl | rfl | rfl | rfl
    · exact ⟨s1, e1, t1⟩
    · exact ⟨s2, e2, t2⟩
    · exact ⟨s3, e3, t3⟩
    · exact ⟨s4, e4, t4⟩
    · exact ⟨s5, e5, t5⟩
    · exact ⟨s6, e6, t6⟩
    · exact ⟨s7, e7, t7⟩
    · exact ⟨s8, e8, t8⟩
    · exact ⟨s9, e9, t9⟩
    · exact ⟨s10, e10, t10⟩
    · exact ⟨s11, e11, t11⟩
    · exact ⟨s99, e99, t99⟩
  refine ⟨(fun n : Nat => match n with | 1 => a1 | 2 => a2 | 3 => a3 | 4 => a4 | 5 => a5 | 6 => a6 | 7 => a7 | 8 => a8 | 9 => a9 | 10 => a10 | 11 => a11 | _ => a99), c1, c2, c3, c4, c5, c6, c7, c8, c9, c10, c11, c99, (fun n hn => ?_), fun m n hm1 hm2 hn1 hn2 he => ?_⟩
  · obtain ⟨s, hs, _⟩ := key n hn
    exact ⟨s, hs⟩
  · obtain ⟨s, hs, ts⟩ := key m.toNat (by omega)
    obtain ⟨s', hs', ts'⟩ := key n.toNat (by omega)
    have hss : s = s' := by
      have := hs.symm.trans ((congrArg W.cell? he).trans hs')
      simpa using this
    subst hss
    have := txt_apart ⟨m.toNat, by omega⟩ ⟨n.toNat, by omega⟩ (by simp; omega) (by simp; omega) (ts.symm.trans ts')
    have := congrArg Fin.val this
    simp at this
    omega
end Go.Proofs.YtmhiambkfdkkbaaGreatDoor

namespace Go.Proofs.YtmhiambkfdkkbaaGreatDoor
open Go.RowKit
set_option maxRecDepth 100000

def laid13 : List (String × DataW Unit) := ("errors.errorType", Rows.laid_errors_errorType) :: laid12
theorem rtypeNo : (Tryz.prog.cutTypes.find? (·.1 == "internal/reflectlite.rtype")).map (·.2) = some 171 := by kernel_rfl
theorem errorTypeNo : Tryz.prog.globalNamed "errors.errorType" = some 12 := by kernel_rfl
theorem typesNo : Tryz.prog.types.size = 373 - 100 := by kernel_rfl
theorem oneError : ((List.range (373 - 100)).filter fun t => Tryz.prog.rowNamed t [101, 114, 114, 111, 114]) = [30] := by kernel_rfl
theorem handleErr : typeHandle Tryz.prog 30 = .pointer (some ⟨13, 30, none⟩) := by kernel_rfl

theorem glob_of_laidH {W : World} (h : laidMetH Tryz.prog laid13 W) : ∃ r, Glob r W ∧ GlobE W := by
  have h' : laidMet Tryz.prog laid12 W ∧ handlesMet Tryz.prog [("errors.errorType", Rows.laid_errors_errorType)] W := h
  obtain ⟨r, hg⟩ := glob_of_laid h'.1
  refine ⟨r, hg, ?_⟩
  obtain ⟨name, u, ty, e1, e2, e3, e4, e5⟩ := h'.2 _ (List.mem_cons_self ..)
  have en : name = [101, 114, 114, 111, 114] := (Option.some.inj e1).symm
  subst en
  obtain rfl := Option.some.inj (rtypeNo.symm.trans e2)
  have hm : ty ∈ (List.range (373 - 100)).filter fun t => Tryz.prog.rowNamed t [101, 114, 114, 111, 114] := List.mem_filter.2 ⟨List.mem_range.2 (by rw [← typesNo]; exact e3), e4⟩
  rw [oneError] at hm
  obtain rfl := List.mem_singleton.1 hm
  rw [handleErr] at e5
  simpa [GlobE] using World.var?_cell errorTypeNo e5 0
end Go.Proofs.YtmhiambkfdkkbaaGreatDoor

namespace Go.Proofs.YtmhiambkfdkkbaaGreatDoor
open Go.ChangeShapes Go.WideShapes Go.ChangeAt Go.RowKit Go.Joins
namespace PairsGraphsP

set_option maxRecDepth 100000 in
theorem door_met (os : Os) (args : Array Value) : laidMetH Tryz.prog Rows.pairsGraphsRow.laid ((World.doorLaid Tryz.prog 400 os).forCall (fun _ _ => 0) ⟨#[], args, []⟩).memory :=
  laidMetH_of_parts3 (fuel := 8) (laidMet_of_run' 8 (by kernel_rfl) (by kernel_rfl)) (by kernel_rfl) (by kernel_rfl)

set_option maxRecDepth 100000 in
theorem lifted (os : Os) (started : os.Started) (H : Type) (enc : TypeId × Value → H) :
    ReturnsInHanded {} Tryz.checked os 5 .any (fun w args => (Rows.pairsGraphsSpec.pre enc Tryz.prog Tryz.f5 [] false w args ∧ laidMetH Tryz.prog Rows.pairsGraphsRow.laid w) ∧ sizedMet enc Tryz.prog Tryz.f5 (OpenSpec.ofChange Rows.pairsGraphsSpec) false w args)
      (Rows.pairsGraphsSpec.post enc Tryz.prog Tryz.f5 false true false false) := by
  refine returnsInHanded_of_change_and (C := Tryz.checked) (X := fun w _ => laidMetH Tryz.prog Rows.pairsGraphsRow.laid w) (fun _ _ _ hh h => h.of_heap hh) own started (by kernel_rfl) Tryz.func5
    (ChangeSpec.witness_shaped (enc := enc) (C := Tryz.checked) (os := os) (X := fun w _ => laidMetH Tryz.prog Rows.pairsGraphsRow.laid w) false (World.doorLaid Tryz.prog 400 os) #[.agg #[.int .i64 0, .int .i64 0, .slice none 0 0]] 8 rfl (World.shaped_of_RefB (by kernel_rfl) (by kernel_rfl)) (by kernel_rfl) (by kernel_rfl) (by kernel_rfl) (door_met os _)) ?_
  intro W base args ds gs before hval0 hW _ hsz hL _
  have hval : ∀ (j : Nat) t v, Tryz.f5.params[j]? = some t → args[j]? = some v → Value.okWide Tryz.prog W .any base t v := hval0
  have hW' := hW
  obtain ⟨p, q, hA0, hV, rfl, hfz, hnd⟩ := hW
  have hA : DataW.TrodAll enc Tryz.prog W 0 (fun _ => true) true Tryz.f5.params.toList args.toList ds p := hA0
  rw [Tryz.params5] at hA hval hsz
  obtain ⟨v0, vs0, d0, ds0, p0, q0, hargs, rfl, rfl, g0, t0⟩ := trodAll_cons hA
  obtain ⟨rfl, rfl, rfl⟩ := trodAll_nil t0
  obtain rfl : args = #[v0] := by cases args; simp_all
  obtain ⟨rfl, rfl⟩ := trodVars_none hV
  have kk0 := g0
  have lt0 : ∀ x ∈ p0, x.block < W.heap.size := by obtain ⟨m, hm⟩ := kk0; exact DataW.trod_lt m _ _ _ hm
  obtain ⟨kr0, rr0, u0, x0, rfl, h0, l0, b0, bk0, br0⟩ := open_ruleV (hval 0 24 v0 rfl rfl) g0 (fun n hn => by
    have := List.all_eq_true.1 hsz n (DataW.weights_mem_each (j := 0) (t := 24) rfl rfl n hn)
    simpa using this)
  obtain ⟨r, hg, hG⟩ := glob_of_laidH (W := W) (by
    exact hL)
  clear hA0 hval0
  refine (pairsGraphs_any r kr0 rr0 u0 x0 W hg hG h0 l0).mono fun e W' ⟨x, he, bel, hxx⟩ => ?_
  subst he; subst hxx
  exact ⟨_, rfl, _, _, _, [], _, [], hW', trodAll_mk1 (shut_bool Tryz.underlying4 _), (trodAll_cons_mk (Below.trod laidOut (by kernel_rfl) (of_decide_eq_true (by kernel_rfl)) kk0 bel lt0) trodAll_mk0), rfl, bel.frame _, fun h => by cases h⟩

theorem over : Rows.PairsGraphsSaid :=
  OpenClaim.holds_of_wide 5 Tryz.f5 rfl rfl rfl rfl rfl rfl rfl ⟨rfl, rfl, rfl, rfl, rfl⟩ rfl rfl rfl rfl rfl (by kernel_rfl) Tryz.func5 (by kernel_rfl)
    (of_decide_eq_true (by kernel_rfl)) (by unfold Func.isWrapper; first | (rw [if_pos (by decide +kernel)]; kernel_rfl) | (rw [if_neg (by decide +kernel)]; exact ⟨rfl, rfl⟩))
    (fun os started H enc _ => lifted os started H enc)

/-- The tied card. -/
theorem card_holds : Rows.PairsGraphsCardSaid :=
  Claim7.holds_tied_plain_at .later [] [.handle, .sentinel, .sentinel, .sentinel, .sentinel, .sentinel, .sentinel, .sentinel, .sentinel, .sentinel, .sentinel, .sentinel, .sentinel] true _ _
    over (fun _ h => by cases h) (by kernel_rfl) (fun _ h => by cases h) pairsGraphs_row_tie rfl ⟨rfl, rfl⟩ (by kernel_rfl) rfl
    (fun f fn hf hfn => by
      obtain rfl : f = 5 := Option.some.inj ((show Tryz.prog.funcNamed Rows.pairsGraphsRow.func = some 5 by kernel_rfl).symm.trans hf) |>.symm
      obtain rfl : fn = Tryz.f5 := (Option.some.inj (Tryz.func5.symm.trans hfn)).symm
      exact ⟨by kernel_rfl, fun j t ht => by
        rw [Tryz.params5] at ht
        have hm : t ∈ [24] := by simpa using Array.mem_of_getElem? ht
        have hall : ([24].all fun u => !Tryz.prog.wantsStandIn u) = true := by kernel_rfl
        exact (show Tryz.prog.wantsStandIn t = false by simpa using List.all_eq_true.1 hall t hm)⟩)
    (by kernel_rfl)
end PairsGraphsP
#print axioms PairsGraphsP.card_holds
end Go.Proofs.YtmhiambkfdkkbaaGreatDoor
