/-
  Proved: the law edenlaw20.InverseKeeps as its tied card: it returns true and never panics, for any rule. No conditions beyond the card's own.
  Walk: edenlaw20.InverseKeeps returns true.
  Opening what a call is handed: []int, api.Rule, the package-level errors.
  From a card's list of laid variables that holds the handle of the type error: the package errors and errors.errorType.
  From a card's list of laid variables that holds two tables of unicode/utf8 beside the package errors and the handle of the type error.
-/
import Derived.Test.YtmbdmkmomngkkaaGreatDoorMVk9
import Derived.Test.YtmbdmkmomngkkaaGreatDoorRows
import Derived.ProofKit
import Derived.OpenShut
import Derived.ShutString
import Derived.ChangeOld
import Derived.LaidMore
import Derived.Stop.Joined
import Derived.Stop.LaidErr
import Derived.Lib.SmallJoins
import Derived.LaidHandle
import Derived.Lay
import Derived.Test.YtmbdmkmomngkkaaGreatDoorCards
import Derived.Test.YtmbdmkmomngkkaaGreatDoorTie
import Derived.SevenTiedAt
namespace Go.Proofs.YtmbdmkmomngkkaaGreatDoor
open Go.RowKit
set_option maxRecDepth 100000

theorem find_len {K R : Nat} {T : List Int} {d : Nat} {S : List Int} (h : findP K R T = some (d, S)) : d ≤ 3 ∧ S.length = pw K (2 * d + 1) := by
  obtain ⟨_, h2, _, h4, _⟩ := find_some 4 0 h
  exact ⟨by omega, by rw [h4, tryF_len]⟩

set_option maxHeartbeats 2000000 in
theorem inverseKeeps_any (r : Nat → Addr) (k R : Int) (v : Value) (T : List Int) (w : World) (hg : Glob r w) (hG : GlobE w) (h : IntsAt w v T) :
    Calls Tryz.prog 5 #[.agg #[.int .i64 k, .int .i64 R, v]] w (Ret1 (fun x _ => x = .bool true) w) := by
  obtain ⟨va, vn, vc, rfl⟩ := h.shape
  have b0 := belowAlloc w (.cells #[.int .i64 k, .int .i64 R, .slice va vn vc] 24)
  have q : Box3 (w.alloc (.cells #[.int .i64 k, .int .i64 R, .slice va vn vc] 24)) w.heap.size (.int .i64 k) (.int .i64 R) (.slice va vn vc) := by simp [Box3, go_sem]
  replace hg := Lib.hid (hg.below b0)
  replace hG := Lib.hid (hG.below b0)
  replace h := Lib.hid (h.below b0)
  obtain ⟨tl, htl⟩ : ∃ tl, T.length = tl := ⟨_, rfl⟩
  replace htl := Lib.hid htl
  go_enter Tryz.func5, Tryz.ntmps5
  go_wp2_with fail
  refine (awake20 r _ hg.out hG.out).mono ?_
  rintro e w1 ⟨_, rfl, b1, rfl⟩
  have b01 := Below.step b0 b1
  have q1 := q.below b1
  obtain ⟨⟨z0, z1, z2⟩, -, -, -⟩ := q1
  go_wp2_with fail
  refine (heavy20 k R va vn vc T w1 (h.out.below b1)).mono ?_
  rintro e w2 ⟨_, rfl, b2, rfl⟩
  have b12 := Below.step b1 b2
  have b02 := Below.step b0 b12
  rw [htl.out]
  by_cases hh : 64 < tl
  · have dh : decide (64 < tl) = true := decide_eq_true hh
    go_wp2
    go_ret
    exact ⟨_, rfl, b02, rfl⟩
  · have dh : decide (64 < tl) = false := decide_eq_false hh
    clear z0 z1 z2
    obtain ⟨⟨z0, z1, z2⟩, -, -, -⟩ := q.below b12
    go_wp2_with fail
    refine (lentRule_any k R va vn vc T w2 (h.out.below b12) (by rw [htl.out]; omega)).mono ?_
    rintro e w3 ⟨_, rfl, b3, ma, mn, mc, rfl, hm⟩
    have ba3 := belowAlloc w3 (.cells #[.int .i64 k, .int .i64 R, .slice ma mn mc] 24)
    have qm : Box3 (w3.alloc (.cells #[.int .i64 k, .int .i64 R, .slice ma mn mc] 24)) w3.heap.size (.int .i64 k) (.int .i64 R) (.slice ma mn mc) := by simp [Box3, go_sem]
    have b13 := Below.step b12 (Below.step b3 ba3)
    have hm3 := hm.below ba3
    replace hm := Lib.hid hm
    replace hm3 := Lib.hid hm3
    clear z0 z1 z2
    obtain ⟨⟨z0, z1, z2⟩, -, -, -⟩ := id qm
    go_wp2_with fail
    refine (inv_rule r k R ma mn mc T _ (hg.out.below b13) hm3.out.at).mono ?_
    rintro e w4 ⟨x, y, rfl, b4, hy, hx⟩
    obtain ⟨k4, q4, a4, n4, c4, rfl⟩ := hx.shape
    have ba4 := belowAlloc w4 (.cells #[.int .i64 k4, .int .i64 q4, .slice a4 n4 c4] 24)
    have b34 := Below.step b4 ba4
    have b14 := Below.step b13 b34
    have qa : Box3 (w4.alloc (.cells #[.int .i64 k4, .int .i64 q4, .slice a4 n4 c4] 24)) w4.heap.size (.int .i64 k4) (.int .i64 q4) (.slice a4 n4 c4) := by simp [Box3, go_sem]
    clear z0 z1 z2
    obtain ⟨⟨z0, z1, z2⟩, -, -, -⟩ := qm.below b34
    replace hx := Lib.hid hx
    have hy' := Lib.hid hy
    go_wp2_with fail
    refine (inv_rule r k R ma mn mc T _ (hg.out.below b14) (hm3.out.at.below b34)).mono ?_
    rintro e w5 ⟨x5, y5, rfl, b5, hy5, hx5⟩
    obtain ⟨k5, q5, a5, n5, c5, rfl⟩ := hx5.shape
    have ba5 := belowAlloc w5 (.cells #[.int .i64 k5, .int .i64 q5, .slice a5 n5 c5] 24)
    have b45 := Below.step b5 ba5
    have b35 := Below.step b34 b45
    have b15 := Below.step b14 b45
    have b05 := Below.step b0 b15
    have qb : Box3 (w5.alloc (.cells #[.int .i64 k5, .int .i64 q5, .slice a5 n5 c5] 24)) w5.heap.size (.int .i64 k5) (.int .i64 q5) (.slice a5 n5 c5) := by simp [Box3, go_sem]
    clear z0 z1 z2
    obtain ⟨⟨z0, z1, z2⟩, -, -, -⟩ := qm.below b35
    obtain ⟨⟨x0, x1, x2⟩, -, -, -⟩ := q.below b15
    obtain ⟨⟨s0, s1, s2⟩, -, -, -⟩ := qa.below b45
    obtain ⟨⟨t0, t1, t2⟩, -, -, -⟩ := id qb
    have hkept := keptRule_any w2.heap.size k R ma mn mc va vn vc T _ (hm3.out.below b35) (h.out.below b15) (by rw [htl.out]; omega)
    cases hE : invE k R T with
    | some t =>
      rw [hE] at hy5
      replace hy := hy'.out
      rw [hE] at hy
      obtain ⟨T4, p4, rfl⟩ := hy.some_shape
      obtain ⟨T5, p5, rfl⟩ := hy5.some_shape
      replace hkept := Lib.hid hkept
      replace hE := Lib.hid hE
      replace hx5 := Lib.hid hx5
      clear hy hy5
      go_wp2_with fail
      refine hkept.out.mono ?_
      rintro e w6 ⟨_, rfl, b6, rfl⟩
      have bE := Below.step b05 b6
      go_wp2
      go_ret
      exact ⟨_, rfl, bE, rfl⟩
    | none =>
      rw [hE] at hy5
      replace hy := hy'.out
      rw [hE] at hy
      obtain rfl := hy.none_eq
      obtain rfl := hy5.none_eq
      obtain ⟨d, S, _, _, _, hf, e1, ho4⟩ := hx.out.1 hE
      obtain ⟨d', S', _, _, _, hf', e2, ho5⟩ := hx5.1 hE
      injection e1 with e1
      injection e2 with e2
      simp only [Array.mk.injEq, List.cons.injEq, Value.int.injEq, Value.slice.injEq, true_and, and_true] at e1 e2
      obtain ⟨u4, rfl, rfl, rfl, rfl⟩ := e1
      obtain ⟨u5, rfl, rfl, rfl, rfl⟩ := e2
      replace u4 := u4.symm
      replace u5 := u5.symm
      subst u4
      subst u5
      obtain ⟨rfl, rfl⟩ : d = d' ∧ S = S' := by
        rw [hf] at hf'; injection hf' with e; injection e with h1 h2; exact ⟨h1, h2⟩
      obtain ⟨hd3, hSl⟩ := find_len hf
      have hSb : S.length ≤ 1099511627776 := by
        have hsm : smallP k R T = none := by
          cases hs : smallP k R T with
          | none => rfl
          | some t => rw [invE_bad hs] at hE; cases hE
        obtain ⟨K, Q, rfl, rfl, hr, _⟩ := smallP_of hsm
        rw [hSl, Int.toNat_natCast]
        exact Nat.le_trans (pw_le hr.k1 hr.k4 (show 2 * d + 1 ≤ 7 by omega)) (by decide)
      have ho4' := (ho4.below ba4).below b45
      have ho5' := ho5.below ba5
      have hdis : (Value.slice a4 n4 c4).ownBlock = none ∨ (Value.slice a4 n4 c4).ownBlock ≠ (Value.slice a5 n5 c5).ownBlock := by
        cases hb : (Value.slice a4 n4 c4).ownBlock with
        | none => exact .inl rfl
        | some j =>
          right
          intro e
          have h1 := (ho4.lt j hb).2
          have h2 := (ho5.lt j e.symm).1
          have h3 := ba4.size
          omega
      have hlo4 : (w3.alloc (.cells #[.int .i64 k, .int .i64 R, .slice ma mn mc] 24)).heap.size ≤ (w4.alloc (.cells #[.int .i64 k, .int .i64 (d : Int), .slice a4 n4 c4] 24)).heap.size := b34.size
      have hrul := rules_any k (d : Int) k (d : Int) a4 n4 c4 a5 n5 c5 S S _ ho4'.at ho5'.at
      have hkk : (k == k && ((d : Int) == (d : Int) && decide (S = S))) = true := by simp
      rw [hkk] at hrul
      obtain ⟨w5', hw5⟩ : ∃ W : World, w5.alloc (.cells #[.int .i64 k, .int .i64 (d : Int), .slice a5 n5 c5] 24) = W := ⟨_, rfl⟩
      rw [hw5] at hrul ho4' ho5' hkept b45 b35 b15 b05 qb
      have hkin := Kin.pair ho4' (ho5'.mono hlo4) hdis
      replace hkin := Lib.hid hkin
      replace hrul := Lib.hid hrul
      replace hkept := Lib.hid hkept
      replace hE := Lib.hid hE
      replace hx5 := Lib.hid hx5
      replace hf := Lib.hid hf
      replace ho4 := Lib.hid ho4
      replace ho5 := Lib.hid ho5
      replace ho4' := Lib.hid ho4'
      replace ho5' := Lib.hid ho5'
      replace hdis := Lib.hid hdis
      replace hSl := Lib.hid hSl
      clear hy hy5 z0 z1 z2 x0 x1 x2 s0 s1 s2 t0 t1 t2 hf' hkk
      have qm5 := qm.below b35
      have q5 := q.below b15
      have qa5 := qa.below b45
      obtain ⟨⟨s0, s1, s2⟩, -, -, -⟩ := id qa5
      obtain ⟨⟨t0, t1, t2⟩, -, -, -⟩ := id qb
      go_wp2_with fail
      refine hrul.out.mono ?_
      rintro e w6 ⟨_, rfl, b6, rfl⟩
      clear s0 s1 s2 t0 t1 t2
      obtain ⟨⟨s0, s1, s2⟩, -, -, -⟩ := qa5.below b6
      obtain ⟨⟨t0, t1, t2⟩, -, -, -⟩ := qb.below b6
      have hap := apart_litQ _ _ _ w6 (hkin.out.of_kept fun t ht h0 => h0.below b6) (by have := b45.size; have := b6.size; omega) (by simp) (fun x hx => by simp at hx; rw [hx]; exact hSb) #[.slice a4 n4 c4, .slice a5 n5 c5] rfl 2 rfl
      have bl6 := belowAlloc w6 (.cells #[.slice a4 n4 c4, .slice a5 n5 c5] 22)
      replace hap := Lib.hid hap
      go_wp2_with fail
      refine hap.out.mono ?_
      rintro e w7 ⟨rfl, b7⟩
      have hlo := b34.size
      have b37 : Below (w3.alloc (.cells #[.int .i64 k, .int .i64 R, .slice ma mn mc] 24)).heap.size (w3.alloc (.cells #[.int .i64 k, .int .i64 R, .slice ma mn mc] 24)) w7 := by
        have c1 := Below.step b35 (Below.step b6 bl6)
        exact c1.trans b7
      have b17 := Below.step b13 b37
      have hkept7 := keptRule_any w2.heap.size k R ma mn mc va vn vc T w7 (hm3.out.below b37) (h.out.below b17) (by rw [htl.out]; omega)
      obtain ⟨⟨y0, y1, y2⟩, -, -, -⟩ := qm.below b37
      obtain ⟨⟨x0, x1, x2⟩, -, -, -⟩ := q.below b17
      have b07 := Below.step b0 b17
      replace hkept7 := Lib.hid hkept7
      clear s0 s1 s2 t0 t1 t2
      go_wp2_with fail
      refine hkept7.out.mono ?_
      rintro e w8 ⟨_, rfl, b8, rfl⟩
      have bE := Below.step b07 b8
      go_wp2
      go_ret
      exact ⟨_, rfl, bE, rfl⟩
end Go.Proofs.YtmbdmkmomngkkaaGreatDoor

namespace Go.Proofs.YtmbdmkmomngkkaaGreatDoor
open Go.ChangeShapes Go.WideShapes Go.ChangeAt Go.RowKit Go.Joins
set_option maxRecDepth 100000

theorem own : ownKnob Tryz.prog.godebug = none := by kernel_rfl
theorem laidOut : laidOutB Tryz.prog = true := by kernel_rfl
theorem cellsInt : Tryz.prog.cellsOf 3 = 1 := by kernel_rfl
theorem uInt : Tryz.prog.underlying 3 = some (.int .i64) := by kernel_rfl
theorem bytesInt : Tryz.prog.bytesOf 3 = 8 := by kernel_rfl

theorem i64_of_wf {n : Int} (h : (Lit.int .i64 n).wf = true) : I64 n := by
  have := bounds_i64 h
  unfold I64
  omega

/-- A []int that came in. -/
theorem open_intsV {H : Type} {enc : TypeId × Value → H} {W : World} {held : Bool} {fuel : Nat} {v : Value} {y : DataW H × List MemPlace}
    (h : DataW.trod enc Tryz.prog W 0 (fun _ => true) held fuel 22 [v] = some y) (hw : ∀ n ∈ y.1.weights Tryz.prog 22, n ≤ reachBytes) :
    ∃ xs, IntsAt W v xs ∧ xs.length ≤ 17592186043904 ∧ ∀ x ∈ xs, I64 x := by
  rcases open_ints uInts uInt cellsInt h with ⟨hcs, _⟩ | ⟨a, len, cap, zs, hcs, _, hl, hm, hz, hx, hcell, hwz⟩
  · simp at hcs
    subst hcs
    exact ⟨[], (OwnI.nil 0 W).at, by simp, by simp⟩
  · simp at hcs
    subst hcs
    simp only [if_true] at hz
    have hzl : (zs.take len).length = len := by simp; omega
    refine ⟨zs.take len, ⟨some a, cap, by rw [hzl], by rw [hzl]; exact hl, hm, (fun e => by cases e), fun i hi => ?_⟩, ?_, fun x hx => i64_of_wf (hwz x (List.mem_of_mem_take hx))⟩
    · have hi' : i < zs.length := by rw [hzl] at hi; omega
      show W.cell? (a.add i) = _
      rw [hcell i hi']
      simp [List.getD, hi']
    · rw [hx] at hw
      have := hw ((lits (H := H) .i64 (zs.take len)).length * 8 + (lits (H := H) .i64 (zs.drop len)).length * 8) (by
        simp only [DataW.weights, uInts, bytesInt, List.mem_cons]
        left; omega)
      simp only [lits, List.length_map, reachBytes] at this
      omega

theorem weights_each3 {H : Type} {t0 t1 t2 : TypeId} {y0 y1 y2 : DataW H} {n : Nat} (h : n ∈ y2.weights Tryz.prog t2) : n ∈ DataW.weightsEach Tryz.prog [t0, t1, t2] [y0, y1, y2] := by
  simp only [DataW.weightsEach, List.mem_append]
  exact .inr (.inr (.inl h))

/-- A rule that came in. -/
theorem open_ruleV {H : Type} {enc : TypeId × Value → H} {W : World} {held : Bool} {v : Value} {d : DataW H} {p : List MemPlace} {b0 : Nat}
    (hv : Value.okWide Tryz.prog W .any b0 24 v) (h : DataW.Trod enc Tryz.prog W 0 (fun _ => true) held 24 v d p) (hw : ∀ n ∈ d.weights Tryz.prog 24, n ≤ reachBytes) :
    ∃ (k R : Int) (u : Value) (xs : List Int), v = .agg #[.int .i64 k, .int .i64 R, u] ∧ IntsAt W u xs ∧ xs.length ≤ 17592186043904 ∧ (∀ x ∈ xs, I64 x) ∧ I64 k ∧ I64 R := by
  obtain ⟨v0, v1, v2, y0, y1, y2, n, rfl, rfl, rfl, h0, h1, h2⟩ := open_agg3 Tryz.underlying24 (by kernel_rfl) (by kernel_rfl) hv h
  obtain ⟨a, e0, _, wa⟩ := DataW.trod_int uInt h0
  obtain ⟨b, e1, _, wb⟩ := DataW.trod_int uInt h1
  simp at e0 e1
  subst e0 e1
  obtain ⟨xs, hx, hl, hb⟩ := open_intsV h2 fun n hn => hw n (by
    simp only [DataW.weights, Tryz.underlying24]
    exact weights_each3 (t0 := 3) (t1 := 3) (t2 := 22) hn)
  exact ⟨a, b, v2, xs, rfl, hx, hl, hb, i64_of_wf wa, i64_of_wf wb⟩

/-! The package-level errors. -/
theorem star : "*" ++ "errors.errorString" = "*errors.errorString" := by decide
theorem rowES (u : TypeId) (h : Tryz.prog.typeName? 3 u = some "*errors.errorString") : u = 352 :=
  typeName_ptr_named (nm := "errors.errorString") (by rw [star]; kernel_rfl) (by kernel_rfl) (by decide) u (by rw [star]; exact h)
theorem pES : Tryz.prog.underlying 352 = some (.pointer 372) := by kernel_rfl
theorem cES : Tryz.prog.cellsOf 372 = 1 := by kernel_rfl
theorem cStr : Tryz.prog.cellsOf 9 = 1 := by kernel_rfl

def laid12 : List (String × DataW Unit) := [("eden/api.BadRule", Rows.laid_eden_api_BadRule), ("eden/api.BadWord", Rows.laid_eden_api_BadWord), ("eden/api.BadArg", Rows.laid_eden_api_BadArg), ("eden/api.TooBig", Rows.laid_eden_api_TooBig), ("eden/api.NoBudget", Rows.laid_eden_api_NoBudget), ("eden/api.BadText", Rows.laid_eden_api_BadText), ("eden/api.BadPatch", Rows.laid_eden_api_BadPatch), ("eden/api.BadCert", Rows.laid_eden_api_BadCert), ("eden/api.NoInverse", Rows.laid_eden_api_NoInverse), ("eden/api.BadLine", Rows.laid_eden_api_BadLine), ("eden/api.BadState", Rows.laid_eden_api_BadState), ("eden/api.Unknown", Rows.laid_eden_api_Unknown)]

theorem sentinel {n : String} {text : List UInt8} {r : List (String × DataW Unit)} {W : World} {g : Nat}
    (h : laidMet Tryz.prog ((n, .iface "*errors.errorString" (.ptr (.agg [.lit (.string text)]))) :: r) W)
    (hg : Tryz.prog.globalNamed n = some g) (ht : (Tryz.prog.globals[g]?).map (·.type) = some 27) :
    (∃ a : Addr, W.cell? ⟨g, 0, none⟩ = some (.iface 352 (.pointer (some a))) ∧ ∃ s, W.cell? a = some (.string s) ∧ s.data.toList = text) ∧ laidMet Tryz.prog r W := by
  refine ⟨?_, h.tail⟩
  obtain ⟨a, s, hv, hc, hs, _⟩ := laid_sentinel h hg ht Tryz.underlying27 rowES pES Tryz.underlying372 rfl rfl Tryz.underlying9 cES cStr
  exact ⟨a, by simpa using World.var?_cell hg hv 0, s, hc, hs⟩

def txt : Nat → List UInt8
  | 1 => [98, 97, 100, 32, 114, 117, 108, 101]
  | 2 => [98, 97, 100, 32, 119, 111, 114, 100]
  | 3 => [98, 97, 100, 32, 97, 114, 103, 117, 109, 101, 110, 116]
  | 4 => [116, 111, 111, 32, 98, 105, 103]
  | 5 => [110, 111, 32, 98, 117, 100, 103, 101, 116]
  | 6 => [98, 97, 100, 32, 116, 101, 120, 116]
  | 7 => [98, 97, 100, 32, 112, 97, 116, 99, 104]
  | 8 => [98, 97, 100, 32, 99, 101, 114, 116, 105, 102, 105, 99, 97, 116, 101]
  | 9 => [110, 111, 32, 105, 110, 118, 101, 114, 115, 101]
  | 10 => [98, 97, 100, 32, 108, 105, 110, 101]
  | 11 => [98, 97, 100, 32, 115, 116, 97, 116, 101]
  | 99 => [117, 110, 107, 110, 111, 119, 110]
  | _ => []
theorem txt_apart : ∀ m n : Fin 12, 1 ≤ m.val → 1 ≤ n.val → txt m.val = txt n.val → m = n := by decide

theorem glob_of_laidR {W : World} {l : List (String × DataW Unit)} (h : laidMet Tryz.prog (laid12 ++ l) W) : ∃ r, Glob r W := by
  obtain ⟨⟨a1, c1, s1, e1, t1⟩, h⟩ := sentinel (text := txt 1) h (g := 0) (by kernel_rfl) (by kernel_rfl)
  obtain ⟨⟨a2, c2, s2, e2, t2⟩, h⟩ := sentinel (text := txt 2) h (g := 1) (by kernel_rfl) (by kernel_rfl)
  obtain ⟨⟨a3, c3, s3, e3, t3⟩, h⟩ := sentinel (text := txt 3) h (g := 2) (by kernel_rfl) (by kernel_rfl)
  obtain ⟨⟨a4, c4, s4, e4, t4⟩, h⟩ := sentinel (text := txt 4) h (g := 3) (by kernel_rfl) (by kernel_rfl)
  obtain ⟨⟨a5, c5, s5, e5, t5⟩, h⟩ := sentinel (text := txt 5) h (g := 4) (by kernel_rfl) (by kernel_rfl)
  obtain ⟨⟨a6, c6, s6, e6, t6⟩, h⟩ := sentinel (text := txt 6) h (g := 5) (by kernel_rfl) (by kernel_rfl)
  obtain ⟨⟨a7, c7, s7, e7, t7⟩, h⟩ := sentinel (text := txt 7) h (g := 6) (by kernel_rfl) (by kernel_rfl)
  obtain ⟨⟨a8, c8, s8, e8, t8⟩, h⟩ := sentinel (text := txt 8) h (g := 7) (by kernel_rfl) (by kernel_rfl)
  obtain ⟨⟨a9, c9, s9, e9, t9⟩, h⟩ := sentinel (text := txt 9) h (g := 8) (by kernel_rfl) (by kernel_rfl)
  obtain ⟨⟨a10, c10, s10, e10, t10⟩, h⟩ := sentinel (text := txt 10) h (g := 9) (by kernel_rfl) (by kernel_rfl)
  obtain ⟨⟨a11, c11, s11, e11, t11⟩, h⟩ := sentinel (text := txt 11) h (g := 10) (by kernel_rfl) (by kernel_rfl)
  obtain ⟨⟨a99, c99, s99, e99, t99⟩, h⟩ := sentinel (text := txt 99) h (g := 11) (by kernel_rfl) (by kernel_rfl)
  clear h
  have key : ∀ n : Nat, (1 ≤ n ∧ n ≤ 11) ∨ n = 99 → ∃ s, W.cell? ((fun n : Nat => match n with | 1 => a1 | 2 => a2 | 3 => a3 | 4 => a4 | 5 => a5 | 6 => a6 | 7 => a7 | 8 => a8 | 9 => a9 | 10 => a10 | 11 => a11 | _ => a99) n) = some (.string s) ∧ s.data.toList = txt n := by
    intro n hn
    have : n = 1 ∨ n = 2 ∨ n = 3 ∨ n = 4 ∨ n = 5 ∨ n = 6 ∨ n = 7 ∨ n = 8 ∨ n = 9 ∨ n = 10 ∨ n = 11 ∨ n = 99 := by omega
    rcases this with rfl | rfl | rfl | rfl | rfl | rfl | rfl | rfl | rfl | rfl | rfl | rfl
    · exact ⟨s1, e1, t1⟩
    · exact ⟨s2, e2, t2⟩
    · exact ⟨s3, e3, t3⟩
    · exact ⟨s4, e4, t4⟩
    · exact ⟨s5, e5, t5⟩
    · exact ⟨s6, e6, t6⟩
    · exact ⟨s7, e7, t7⟩
    · exact ⟨s8, e8, t8⟩
    · exact ⟨s9, e9, t9⟩
    · exact ⟨s10, e10, t10⟩
    · exact ⟨s11, e11, t11⟩
    · exact ⟨s99, e99, t99⟩
  refine ⟨(fun n : Nat => match n with | 1 => a1 | 2 => a2 | 3 => a3 | 4 => a4 | 5 => a5 | 6 => a6 | 7 => a7 | 8 => a8 | 9 => a9 | 10 => a10 | 11 => a11 | _ => a99), c1, c2, c3, c4, c5, c6, c7, c8, c9, c10, c11, c99, (fun n hn => ?_), fun m n hm1 hm2 hn1 hn2 he => ?_⟩
  · obtain ⟨s, hs, _⟩ := key n hn
    exact ⟨s, hs⟩
  · obtain ⟨s, hs, ts⟩ := key m.toNat (by omega)
    obtain ⟨s', hs', ts'⟩ := key n.toNat (by omega)
    have hss : s = s' := by
      have := hs.symm.trans ((congrArg W.cell? he).trans hs')
      simpa using this
    subst hss
    have := txt_apart ⟨m.toNat, by omega⟩ ⟨n.toNat, by omega⟩ (by simp; omega) (by simp; omega) (ts.symm.trans ts')
    have := congrArg Fin.val this
    simp at this
    omega
end Go.Proofs.YtmbdmkmomngkkaaGreatDoor

namespace Go.Proofs.YtmbdmkmomngkkaaGreatDoor
open Go.RowKit
set_option maxRecDepth 100000

theorem rtypeNo : (Tryz.prog.cutTypes.find? (·.1 == "internal/reflectlite.rtype")).map (·.2) = some 258 := by kernel_rfl
theorem errorTypeNo : Tryz.prog.globalNamed "errors.errorType" = some 12 := by kernel_rfl
theorem typesNo : Tryz.prog.types.size = 484 - 100 := by kernel_rfl
theorem oneError : ((List.range (484 - 100)).filter fun t => Tryz.prog.rowNamed t [101, 114, 114, 111, 114]) = [27] := by kernel_rfl
theorem handleErr : typeHandle Tryz.prog 27 = .pointer (some ⟨17, 27, none⟩) := by kernel_rfl

end Go.Proofs.YtmbdmkmomngkkaaGreatDoor

namespace Go.Proofs.YtmbdmkmomngkkaaGreatDoor
open Go.RowKit
set_option maxRecDepth 100000

def laid15 : List (String × DataW Unit) := ("unicode/utf8.acceptRanges", Rows.laid_unicode_utf8_acceptRanges) :: ("errors.errorType", Rows.laid_errors_errorType) :: (laid12 ++ [("unicode/utf8.first", Rows.laid_unicode_utf8_first)])
theorem glob_of_laidP {W : World} (h : laidMetH Tryz.prog laid15 W) : ∃ r, Glob r W ∧ GlobE W := by
  have h' : laidMet Tryz.prog (("unicode/utf8.acceptRanges", Rows.laid_unicode_utf8_acceptRanges) :: (laid12 ++ [("unicode/utf8.first", Rows.laid_unicode_utf8_first)])) W ∧ handlesMet Tryz.prog [("errors.errorType", Rows.laid_errors_errorType)] W := h
  obtain ⟨r, hg⟩ := glob_of_laidR h'.1.tail
  refine ⟨r, hg, ?_⟩
  obtain ⟨name, u, ty, e1, e2, e3, e4, e5⟩ := h'.2 _ (List.mem_cons_self ..)
  have en : name = [101, 114, 114, 111, 114] := (Option.some.inj e1).symm
  subst en
  obtain rfl := Option.some.inj (rtypeNo.symm.trans e2)
  have hm : ty ∈ (List.range (484 - 100)).filter fun t => Tryz.prog.rowNamed t [101, 114, 114, 111, 114] := List.mem_filter.2 ⟨List.mem_range.2 (by rw [← typesNo]; exact e3), e4⟩
  rw [oneError] at hm
  obtain rfl := List.mem_singleton.1 hm
  rw [handleErr] at e5
  simpa [GlobE] using World.var?_cell errorTypeNo e5 0
/-- The witness's world: the door's, and the table that no text lays. -/
noncomputable def doorP (os : Os) : World := (World.doorLaid Tryz.prog 400 os).layVars Tryz.prog [("unicode/utf8.first", Rows.laid_unicode_utf8_first)]
theorem doorP_os (os : Os) : (doorP os).os = os := World.layVars_os _ _ _
end Go.Proofs.YtmbdmkmomngkkaaGreatDoor

namespace Go.Proofs.YtmbdmkmomngkkaaGreatDoor
open Go.ChangeShapes Go.WideShapes Go.ChangeAt Go.RowKit Go.Joins
namespace InverseKeepsP

set_option maxRecDepth 100000 in
theorem door_met (os : Os) (args : Array Value) : laidMetH Tryz.prog Rows.inverseKeepsRow.laid ((doorP os).forCall (fun _ _ => 0) ⟨#[], args, []⟩).memory :=
  laidMetH_of_parts3 (fuel := 8) (laidMet_of_run' 8 (by kernel_rfl) (by kernel_rfl)) (by kernel_rfl) (by kernel_rfl)

set_option maxRecDepth 100000 in
theorem lifted (os : Os) (started : os.Started) (H : Type) (enc : TypeId × Value → H) :
    ReturnsInHanded {} Tryz.checked os 5 .any (fun w args => (Rows.inverseKeepsSpec.pre enc Tryz.prog Tryz.f5 [] false w args ∧ laidMetH Tryz.prog Rows.inverseKeepsRow.laid w) ∧ sizedMet enc Tryz.prog Tryz.f5 (OpenSpec.ofChange Rows.inverseKeepsSpec) false w args)
      (Rows.inverseKeepsSpec.post enc Tryz.prog Tryz.f5 false true false false) := by
  refine returnsInHanded_of_change_and (C := Tryz.checked) (X := fun w _ => laidMetH Tryz.prog Rows.inverseKeepsRow.laid w) (fun _ _ _ hh h => h.of_heap hh) own started (by kernel_rfl) Tryz.func5
    (ChangeSpec.witness_shaped (enc := enc) (C := Tryz.checked) (os := os) (X := fun w _ => laidMetH Tryz.prog Rows.inverseKeepsRow.laid w) false (doorP os) #[.agg #[.int .i64 0, .int .i64 0, .slice none 0 0]] 8 (doorP_os _) (World.shaped_of_RefB (by kernel_rfl) (by kernel_rfl)) (by kernel_rfl) (by kernel_rfl) (by kernel_rfl) (door_met os _)) ?_
  intro W base args ds gs before hval0 hW _ hsz hL _
  have hval : ∀ (j : Nat) t v, Tryz.f5.params[j]? = some t → args[j]? = some v → Value.okWide Tryz.prog W .any base t v := hval0
  have hW' := hW
  obtain ⟨p, q, hA0, hV, rfl, hfz, hnd⟩ := hW
  have hA : DataW.TrodAll enc Tryz.prog W 0 (fun _ => true) true Tryz.f5.params.toList args.toList ds p := hA0
  rw [Tryz.params5] at hA hval hsz
  obtain ⟨v0, vs0, d0, ds0, p0, q0, hargs, rfl, rfl, g0, t0⟩ := trodAll_cons hA
  obtain ⟨rfl, rfl, rfl⟩ := trodAll_nil t0
  obtain rfl : args = #[v0] := by cases args; simp_all
  obtain ⟨rfl, rfl⟩ := trodVars_none hV
  have kk0 := g0
  have lt0 : ∀ x ∈ p0, x.block < W.heap.size := by obtain ⟨m, hm⟩ := kk0; exact DataW.trod_lt m _ _ _ hm
  obtain ⟨kr0, rr0, u0, x0, rfl, h0, l0, b0, bk0, br0⟩ := open_ruleV (hval 0 24 v0 rfl rfl) g0 (fun n hn => by
    have := List.all_eq_true.1 hsz n (DataW.weights_mem_each (j := 0) (t := 24) rfl rfl n hn)
    simpa using this)
  obtain ⟨r, hg, hG⟩ := glob_of_laidP (W := W) (by
    exact hL)
  clear hA0 hval0
  refine (inverseKeeps_any r kr0 rr0 u0 x0 W hg hG h0).mono fun e W' ⟨x, he, bel, hxx⟩ => ?_
  subst he; subst hxx
  exact ⟨_, rfl, _, _, _, [], _, [], hW', trodAll_mk1 (shut_bool Tryz.underlying4 _), (trodAll_cons_mk (Below.trod laidOut (by kernel_rfl) (of_decide_eq_true (by kernel_rfl)) kk0 bel lt0) trodAll_mk0), rfl, bel.frame _, fun h => by cases h⟩

theorem and_t {a b : Bool} (h : a = true) (k : b = true) : (a && b) = true := by rw [h, k]; rfl
theorem jf_wf : Rows.inverseKeepsRow.wf (OpenSpec.ofChange Rows.inverseKeepsSpec) = true := by kernel_rfl
theorem jf_lo : laidOutB Tryz.prog = true := by kernel_rfl
theorem jf_mr : mapsRowed Tryz.prog = true := by kernel_rfl
theorem jf_nt : namedTie Tryz.prog Rows.inverseKeepsRow.named Rows.inverseKeepsSpec.vars = true := by kernel_rfl
theorem jf_ip : (Rows.inverseKeepsRow.inPlace == Tryz.prog.inPlace 5) = true := by kernel_rfl
theorem jf_uf : (Rows.inverseKeepsRow.unfollowed == Tryz.prog.unfollowed 5) = true := by kernel_rfl
theorem jf_rc : (Rows.inverseKeepsRow.recurses == Tryz.prog.recurses 5) = true := by kernel_rfl
theorem jf_nm : (Rows.inverseKeepsRow.named == Tryz.prog.varsNamed 5) = true := by kernel_rfl
theorem jf_pk : (Rows.inverseKeepsRow.plainKeys == Tryz.prog.plainKeys) = true := by kernel_rfl
theorem jf_sh : Tryz.prog.stopsHeard = true := by kernel_rfl
theorem jf_me : Tryz.prog.mayEnter = true := by kernel_rfl
theorem jf_lf : (Rows.inverseKeepsRow.lifted == Tryz.prog.liftsFinal) = true := by kernel_rfl
theorem jf_mk : (Tryz.prog.make == some Rows.inverseKeepsRow.make) = true := by kernel_rfl
theorem joined : joinedFacts Tryz.prog 5 Tryz.f5 Rows.inverseKeepsSpec Rows.inverseKeepsRow = true := and_t (and_t (and_t (and_t (and_t (and_t (and_t (and_t (and_t (and_t (and_t (and_t (and_t (and_t (and_t (and_t (and_t (and_t (and_t (and_t (and_t (and_t (and_t (and_t (and_t (and_t (and_t (and_t (and_t (and_t (and_t jf_wf jf_lo) jf_mr) (by kernel_rfl)) jf_nt) (by kernel_rfl)) (by kernel_rfl)) (by kernel_rfl)) (by kernel_rfl)) jf_ip) jf_uf) jf_rc) jf_nm) (by kernel_rfl)) (by kernel_rfl)) (by kernel_rfl)) (by kernel_rfl)) (by kernel_rfl)) (by kernel_rfl)) (by kernel_rfl)) (by kernel_rfl)) (by kernel_rfl)) jf_pk) (by kernel_rfl)) jf_sh) jf_me) jf_lf) jf_mk) (by kernel_rfl)) (by kernel_rfl)) (by kernel_rfl)) (by kernel_rfl)
theorem fnamed : Tryz.prog.funcNamed Rows.inverseKeepsRow.func = some 5 := by kernel_rfl
theorem inst : Tryz.f5.isInstance Tryz.prog Rows.inverseKeepsRow.origin Rows.inverseKeepsRow.targs := of_decide_eq_true (by kernel_rfl)
theorem wrapd : Tryz.f5.isWrapper Tryz.prog Rows.inverseKeepsRow.wrapper Rows.inverseKeepsRow.mainSum := by unfold Func.isWrapper; first | (rw [if_pos (by decide +kernel)]; kernel_rfl) | (rw [if_neg (by decide +kernel)]; exact ⟨rfl, rfl⟩)
theorem over : Rows.InverseKeepsSaid :=
  OpenClaim.holds_of_wide 5 Tryz.f5 rfl rfl rfl rfl rfl rfl rfl ⟨rfl, rfl, rfl, rfl, rfl⟩ rfl rfl rfl rfl rfl fnamed Tryz.func5 joined
    inst wrapd
    (fun os started H enc _ => lifted os started H enc)

theorem cw : Rows.inverseKeepsRow.wfByText (OpenSpec.ofChange Rows.inverseKeepsSpec) = true := by kernel_rfl
theorem cm : Tryz.prog.mainIs = some (Rows.inverseKeepsCard.stood.harness.1, Rows.inverseKeepsCard.stood.harness.2.toList) := by kernel_rfl
theorem cl : Rows.inverseKeepsCard.stood.looks = Tryz.prog.looks [] := by kernel_rfl
theorem cg : false = Rows.inverseKeepsRow.goesBy Tryz.prog := by kernel_rfl
theorem cs : ([24].all fun u => !Tryz.prog.wantsStandIn u) = true := by kernel_rfl
/-- The tied card. -/
theorem card_holds : Rows.InverseKeepsCardSaid :=
  Claim7.holds_tied_plain_at .later [] [.data, .handle, .sentinel, .sentinel, .sentinel, .sentinel, .sentinel, .sentinel, .sentinel, .sentinel, .sentinel, .sentinel, .sentinel, .sentinel, .pinned] true _ _
    over (fun _ h => by cases h) cw (fun _ h => by cases h) inverseKeeps_row_tie rfl ⟨rfl, rfl⟩ cm rfl
    (fun f fn hf hfn => by
      obtain rfl : f = 5 := Option.some.inj (fnamed.symm.trans hf) |>.symm
      obtain rfl : fn = Tryz.f5 := (Option.some.inj (Tryz.func5.symm.trans hfn)).symm
      exact ⟨cl, fun j t ht => by
        rw [Tryz.params5] at ht
        have hm : t ∈ [24] := by simpa using Array.mem_of_getElem? ht
        exact (show Tryz.prog.wantsStandIn t = false by simpa using List.all_eq_true.1 cs t hm)⟩)
    cg
end InverseKeepsP
#print axioms InverseKeepsP.card_holds
end Go.Proofs.YtmbdmkmomngkkaaGreatDoor
