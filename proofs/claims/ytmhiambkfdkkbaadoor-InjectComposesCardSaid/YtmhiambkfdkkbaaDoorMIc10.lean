/-
  Proved: the law edenlaw14.InjectComposes as its tied card: it returns true and never panics, for any two rules. No conditions beyond the card's own.
  Walk: edenlaw14.InjectComposes returns true.
  Opening what a call is handed: []int, api.Rule, the package-level errors.
-/
import Derived.Test.YtmhiambkfdkkbaaDoorMIc9
import Derived.Test.YtmhiambkfdkkbaaDoorRows
import Derived.ProofKit
import Derived.OpenShut
import Derived.ShutString
import Derived.ChangeOld
import Derived.LaidMore
import Derived.Stop.Joined
import Derived.Stop.LaidErr
import Derived.Lib.SmallJoins
import Derived.Test.YtmhiambkfdkkbaaDoorCards
import Derived.Test.YtmhiambkfdkkbaaDoorTie
import Derived.SevenTiedAt
namespace Go.Proofs.YtmhiambkfdkkbaaDoor
open Go.RowKit
set_option maxRecDepth 100000

theorem composeP_none {k R : Int} {T : List Int} {k' R' : Int} {T' : List Int} (h : composeP k R T k' R' T' = none) : ∃ K Q Q' : Nat, k = K ∧ R = Q ∧ k' = K ∧ R' = Q' ∧ RuleOk K Q T ∧ RuleOk K Q' T' ∧ Q + Q' ≤ 3 := by
  unfold composeP at h
  cases hc : checkP k R T with
  | some t => rw [hc] at h; cases h
  | none =>
    rw [hc] at h
    cases hc' : checkP k' R' T' with
    | some t => rw [hc'] at h; cases h
    | none =>
      rw [hc'] at h
      dsimp only at h
      by_cases hk : k ≠ k'
      · rw [if_pos hk] at h; cases h
      rw [if_neg hk] at h
      by_cases hR : 3 < R + R'
      · rw [if_pos hR] at h; cases h
      obtain ⟨K, Q, rfl, rfl, hr⟩ := checkP_none hc
      obtain ⟨K', Q', rfl, rfl, hr'⟩ := checkP_none hc'
      have hk2 : ((K : Nat) : Int) = K' := Classical.byContradiction hk
      obtain rfl : K = K' := by omega
      exact ⟨K, Q, Q', rfl, rfl, rfl, rfl, hr, hr', by omega⟩
theorem behind_len {K Q Q' : Nat} {T T' : List Int} : (behindT K Q T Q' T').length = pw K (2 * (Q + Q') + 1) := by simp [behindT]

set_option maxHeartbeats 1000000 in
theorem injectComposes_bad (r : Nat → Addr) (k R : Int) (va : Option Addr) (vn vc : Nat) (T : List Int) (k' R' : Int) (ua : Option Addr) (un uc : Nat) (T' : List Int) (t : Int × List (ByteArray × Int)) (w : World) (hg : Glob r w) (h : IntsAt w (.slice va vn vc) T) (h' : IntsAt w (.slice ua un uc) T') (hc : composeP k R T k' R' T' = some t) :
    Calls Tryd.prog 5 #[.agg #[.int .i64 k, .int .i64 R, .slice va vn vc], .agg #[.int .i64 k', .int .i64 R', .slice ua un uc]] w (Ret1 (fun x _ => x = .bool true) w) := by
  have b0 := Below.step (belowAlloc w (.cells #[.int .i64 k, .int .i64 R, .slice va vn vc] 24)) (belowAlloc _ (.cells #[.int .i64 k', .int .i64 R', .slice ua un uc] 24))
  have q : Box3 ((w.alloc (.cells #[.int .i64 k, .int .i64 R, .slice va vn vc] 24)).alloc (.cells #[.int .i64 k', .int .i64 R', .slice ua un uc] 24)) w.heap.size (.int .i64 k) (.int .i64 R) (.slice va vn vc) := by simp [Box3, go_sem]
  have q' : Box3 ((w.alloc (.cells #[.int .i64 k, .int .i64 R, .slice va vn vc] 24)).alloc (.cells #[.int .i64 k', .int .i64 R', .slice ua un uc] 24)) (w.heap.size + 1) (.int .i64 k') (.int .i64 R') (.slice ua un uc) := by simp [Box3, go_sem]
  replace hg := Lib.hid (hg.below b0)
  replace h := Lib.hid (h.below b0)
  replace h' := Lib.hid (h'.below b0)
  replace hc := Lib.hid hc
  go_enter Tryd.func5, Tryd.ntmps5
  go_wp2_with fail
  refine (awake14 r _ hg.out).mono ?_
  rintro e w1 ⟨_, rfl, b1, rfl⟩
  obtain ⟨⟨z0, z1, z2⟩, -, -, -⟩ := q.below b1
  obtain ⟨⟨y0, y1, y2⟩, -, -, -⟩ := q'.below b1
  go_wp2_with fail
  refine (compose_any r k R va vn vc T k' R' ua un uc T' _ (hg.out.below b1) (h.out.below b1) (h'.out.below b1)).mono ?_
  rintro e w2 ⟨x, y, rfl, b2, hy, hx, -⟩
  rw [hc.out] at hy
  obtain rfl := hx (by rw [hc.out]; simp)
  obtain ⟨T5, a5, rfl⟩ := ErrIs.some_shape hy
  have bb := Below.step b0 (Below.step b1 (Below.step b2 (belowAlloc w2 (.cells #[.int .i64 0, .int .i64 0, .slice none 0 0] 24))))
  clear hy hx z0 z1 z2 y0 y1 y2
  go_wp2
  go_ret
  exact ⟨_, rfl, bb, rfl⟩

set_option maxHeartbeats 2000000 in
theorem injectComposes_ok (r : Nat → Addr) (K Q Q' : Nat) (va : Option Addr) (vn vc : Nat) (T : List Int) (ua : Option Addr) (un uc : Nat) (T' : List Int) (w : World) (hg : Glob r w) (h : IntsAt w (.slice va vn vc) T) (h' : IntsAt w (.slice ua un uc) T') (hr : RuleOk K Q T) (hr' : RuleOk K Q' T') (hR : Q + Q' ≤ 3) :
    Calls Tryd.prog 5 #[.agg #[.int .i64 K, .int .i64 Q, .slice va vn vc], .agg #[.int .i64 K, .int .i64 Q', .slice ua un uc]] w (Ret1 (fun x _ => x = .bool true) w) := by
  have b0 := Below.step (belowAlloc w (.cells #[.int .i64 K, .int .i64 Q, .slice va vn vc] 24)) (belowAlloc _ (.cells #[.int .i64 K, .int .i64 Q', .slice ua un uc] 24))
  have q : Box3 ((w.alloc (.cells #[.int .i64 K, .int .i64 Q, .slice va vn vc] 24)).alloc (.cells #[.int .i64 K, .int .i64 Q', .slice ua un uc] 24)) w.heap.size (.int .i64 K) (.int .i64 Q) (.slice va vn vc) := by simp [Box3, go_sem]
  have q' : Box3 ((w.alloc (.cells #[.int .i64 K, .int .i64 Q, .slice va vn vc] 24)).alloc (.cells #[.int .i64 K, .int .i64 Q', .slice ua un uc] 24)) (w.heap.size + 1) (.int .i64 K) (.int .i64 Q') (.slice ua un uc) := by simp [Box3, go_sem]
  have hone := fun (R : Nat) (T : List Int) (hr : RuleOk K R T) (hl : T.length ≤ 256) (va : Option Addr) (vn vc : Nat) (w' : World) (hgl : Glob r w') (hT : IntsAt w' (.slice va vn vc) T) => one_ok r K R va vn vc T w' hgl hT hr hl
  have hcmp := fun (w' : World) (hgl : Glob r w') (hT : IntsAt w' (.slice va vn vc) T) (hT' : IntsAt w' (.slice ua un uc) T') => compose_ok r K Q Q' va vn vc T ua un uc T' w' hgl hT hT' hr hr' hR
  have hrc : RuleOk K (Q + Q') (behindT K Q T Q' T') := behindT_ok hr hR
  have hlen : (behindT K Q T Q' T').length = pw K (2 * (Q + Q') + 1) := behind_len
  have hp1 : T.length ≤ pw K (2 * (Q + Q') + 1) := by rw [hr.len]; exact pw_mono hr.k1 (by omega)
  have hp2 : T'.length ≤ pw K (2 * (Q + Q') + 1) := by rw [hr'.len]; exact pw_mono hr.k1 (by omega)
  have hnb := notOne_behind hr hr'
  generalize behindT K Q T Q' T' = TC at *
  rw [← hlen] at hp1 hp2
  replace hone := Lib.hid hone
  replace hcmp := Lib.hid hcmp
  replace hg := Lib.hid (hg.below b0)
  replace h := Lib.hid (h.below b0)
  replace h' := Lib.hid (h'.below b0)
  replace hr := Lib.hid hr
  replace hr' := Lib.hid hr'
  replace hrc := Lib.hid hrc
  replace hnb := Lib.hid hnb
  clear hlen hR
  go_enter Tryd.func5, Tryd.ntmps5
  go_wp2_with fail
  refine (awake14 r _ hg.out).mono ?_
  rintro e w1 ⟨_, rfl, b1, rfl⟩
  obtain ⟨⟨z0, z1, z2⟩, -, -, -⟩ := q.below b1
  obtain ⟨⟨y0, y1, y2⟩, -, -, -⟩ := q'.below b1
  go_wp2_with fail
  refine (hcmp.out _ (hg.out.below b1) (h.out.below b1) (h'.out.below b1)).mono ?_
  rintro e w2 ⟨_, _, rfl, b2, rfl, ca, cn, cc, rfl, hoc⟩
  have lC := hoc.at.len
  have b2a := Below.step b2 (belowAlloc w2 (.cells #[.int .i64 K, .int .i64 ((Q + Q' : Nat) : Int), .slice ca cn cc] 24))
  have qc : Box3 (w2.alloc (.cells #[.int .i64 K, .int .i64 ((Q + Q' : Nat) : Int), .slice ca cn cc] 24)) w2.heap.size (.int .i64 K) (.int .i64 ((Q + Q' : Nat) : Int)) (.slice ca cn cc) := by simp [Box3, go_sem]
  replace hoc := Lib.hid (hoc.alloc (.cells #[.int .i64 K, .int .i64 ((Q + Q' : Nat) : Int), .slice ca cn cc] 24))
  have b12 := Below.step b1 b2a
  clear z0 z1 z2 y0 y1 y2
  obtain ⟨⟨z0, z1, z2⟩, -, -, -⟩ := q.below b12
  obtain ⟨⟨y0, y1, y2⟩, -, -, -⟩ := q'.below b12
  obtain ⟨⟨x0, x1, x2⟩, -, -, -⟩ := qc
  have hqQ : Hid (((Q + Q' : Nat) : Int) = ((Q + Q' : Nat) : Int)) := Lib.hid rfl
  have s2 : w2.heap.size < (w2.alloc (.cells #[.int .i64 K, .int .i64 ((Q + Q' : Nat) : Int), .slice ca cn cc] 24)).heap.size := by simp
  generalize hq9 : ((Q + Q' : Nat) : Int) = QQ at *
  replace hq9 := Lib.hid hq9
  obtain ⟨w3, hw3⟩ : ∃ W : World, w2.alloc (.cells #[.int .i64 K, .int .i64 QQ, .slice ca cn cc] 24) = W := ⟨_, rfl⟩
  rw [hw3] at b2a hoc b12 z0 z1 z2 y0 y1 y2 x0 x1 x2 s2
  generalize hg2 : w2.heap.size = gC at *
  replace hg2 := Lib.hid hg2
  replace hw3 := Lib.hid hw3
  by_cases hbig : 243 < TC.length
  · have bE := Below.step b0 b12
    clear hqQ
    go_upto_region 4 with fail
    rw [hw3.out]
    try rw [hg2.out]
    go_wp2
    go_ret
    exact ⟨_, rfl, bE, rfl⟩
  · go_upto_region 4 with fail
    rw [hw3.out]
    try rw [hg2.out]
    go_wp2_with fail
    refine (hone.out Q T hr.out (by omega) va vn vc w3 (hg.out.below b12) (h.out.below b12)).mono ?_
    rintro e w4 ⟨y1, a, b, e1, rfl, b4, hp1⟩
    obtain ⟨rfl, Y, rfl, hY, a41, n41, c41, a42, n42, c42, a43, n43, c43, a44, n44, c44, a45, n45, c45, a46, n46, c46, rfl, rfl⟩ := hp1.ans
    have b14 := Below.step b12 (Below.step b4 (Below.step (belowAlloc w4 (.cells #[.int .i64 0, .slice a41 n41 c41, .slice a42 n42 c42, .slice a43 n43 c43] 26)) (belowAlloc _ (.cells #[.int .i64 0, .slice a44 n44 c44, .slice a45 n45 c45, .slice a46 n46 c46] 26))))
    have bx4 := Below.step b4 (Below.step (belowAlloc w4 (.cells #[.int .i64 0, .slice a41 n41 c41, .slice a42 n42 c42, .slice a43 n43 c43] 26)) (belowAlloc _ (.cells #[.int .i64 0, .slice a44 n44 c44, .slice a45 n45 c45, .slice a46 n46 c46] 26)))
    clear hp1
    clear z0 z1 z2 y0 y1 y2
    obtain ⟨⟨y0, y1, y2⟩, -, -, -⟩ := q'.below b14
    replace hY := Lib.hid hY
    go_wp2_with fail
    refine (hone.out Q' T' hr'.out (by omega) ua un uc _ (hg.out.below b14) (h'.out.below b14)).mono ?_
    rintro e w5 ⟨y1, a, b, e1, rfl, b5, hp1⟩
    obtain ⟨rfl, Y2, rfl, hY2, a51, n51, c51, a52, n52, c52, a53, n53, c53, a54, n54, c54, a55, n55, c55, a56, n56, c56, rfl, rfl⟩ := hp1.ans
    have b15 := Below.step b14 (Below.step b5 (Below.step (belowAlloc w5 (.cells #[.int .i64 0, .slice a51 n51 c51, .slice a52 n52 c52, .slice a53 n53 c53] 26)) (belowAlloc _ (.cells #[.int .i64 0, .slice a54 n54 c54, .slice a55 n55 c55, .slice a56 n56 c56] 26))))
    have bx5 := Below.step b5 (Below.step (belowAlloc w5 (.cells #[.int .i64 0, .slice a51 n51 c51, .slice a52 n52 c52, .slice a53 n53 c53] 26)) (belowAlloc _ (.cells #[.int .i64 0, .slice a54 n54 c54, .slice a55 n55 c55, .slice a56 n56 c56] 26)))
    clear hp1
    have bx45 := Below.step bx4 bx5
    clear y0 y1 y2
    replace hY2 := Lib.hid hY2
    replace x0 := (bx45.cell s2).trans x0
    replace x1 := (bx45.cell s2).trans x1
    replace x2 := (bx45.cell s2).trans x2
    have h3 := hone.out (Q + Q') TC hrc.out (by omega) ca cn cc _ (hg.out.below b15) (hoc.out.at.below bx45)
    rw [hq9.out] at h3
    replace h3 := Lib.hid h3
    go_wp2_with fail
    refine (h3.out).mono ?_
    rintro e w6 ⟨y1, a, b, e1, rfl, b6, hp1⟩
    obtain ⟨rfl, Y3, rfl, hY3, a61, n61, c61, a62, n62, c62, a63, n63, c63, a64, n64, c64, a65, n65, c65, a66, n66, c66, rfl, rfl⟩ := hp1.ans
    have b16 := Below.step b15 (Below.step b6 (Below.step (belowAlloc w6 (.cells #[.int .i64 0, .slice a61 n61 c61, .slice a62 n62 c62, .slice a63 n63 c63] 26)) (belowAlloc _ (.cells #[.int .i64 0, .slice a64 n64 c64, .slice a65 n65 c65, .slice a66 n66 c66] 26))))
    have bx6 := Below.step b6 (Below.step (belowAlloc w6 (.cells #[.int .i64 0, .slice a61 n61 c61, .slice a62 n62 c62, .slice a63 n63 c63] 26)) (belowAlloc _ (.cells #[.int .i64 0, .slice a64 n64 c64, .slice a65 n65 c65, .slice a66 n66 c66] 26)))
    clear hp1
    have hb : (Y3 == (Y && Y2)) = true := by
      have e1 := hY.out
      have e2 := hY2.out
      have e3 := hnb.out
      cases Y <;> cases Y2 <;> cases Y3 <;> simp_all
    have bE := Below.step b0 b16
    clear hY3 x0 x1 x2 h3
    cases Y
    · go_wp2
      go_ret
      exact ⟨_, rfl, bE, congrArg Value.bool (by simpa using hb)⟩
    · go_wp2
      go_ret
      exact ⟨_, rfl, bE, congrArg Value.bool (by simpa using hb)⟩

theorem injectComposes_any (r : Nat → Addr) (k R : Int) (v : Value) (T : List Int) (k' R' : Int) (v' : Value) (T' : List Int) (w : World) (hg : Glob r w) (h : IntsAt w v T) (h' : IntsAt w v' T') :
    Calls Tryd.prog 5 #[.agg #[.int .i64 k, .int .i64 R, v], .agg #[.int .i64 k', .int .i64 R', v']] w (Ret1 (fun x _ => x = .bool true) w) := by
  obtain ⟨va, vn, vc, rfl⟩ := h.shape
  obtain ⟨ua, un, uc, rfl⟩ := h'.shape
  cases hc : composeP k R T k' R' T' with
  | some t => exact injectComposes_bad r k R va vn vc T k' R' ua un uc T' t w hg h h' hc
  | none =>
    obtain ⟨K, Q, Q', rfl, rfl, rfl, rfl, hr, hr', hR⟩ := composeP_none hc
    exact injectComposes_ok r K Q Q' va vn vc T ua un uc T' w hg h h' hr hr' hR
end Go.Proofs.YtmhiambkfdkkbaaDoor

namespace Go.Proofs.YtmhiambkfdkkbaaDoor
open Go.ChangeShapes Go.WideShapes Go.ChangeAt Go.RowKit Go.Joins
set_option maxRecDepth 100000

theorem own : ownKnob Tryd.prog.godebug = none := by kernel_rfl
theorem laidOut : laidOutB Tryd.prog = true := by kernel_rfl
theorem cellsInt : Tryd.prog.cellsOf 3 = 1 := by kernel_rfl
theorem uInt : Tryd.prog.underlying 3 = some (.int .i64) := by kernel_rfl
theorem bytesInt : Tryd.prog.bytesOf 3 = 8 := by kernel_rfl

theorem i64_of_wf {n : Int} (h : (Lit.int .i64 n).wf = true) : I64 n := by
  have := bounds_i64 h
  unfold I64
  omega

/-- A []int that came in. -/
theorem open_intsV {H : Type} {enc : TypeId × Value → H} {W : World} {held : Bool} {fuel : Nat} {v : Value} {y : DataW H × List MemPlace}
    (h : DataW.trod enc Tryd.prog W 0 (fun _ => true) held fuel 22 [v] = some y) (hw : ∀ n ∈ y.1.weights Tryd.prog 22, n ≤ reachBytes) :
    ∃ xs, IntsAt W v xs ∧ xs.length ≤ 17592186043904 ∧ ∀ x ∈ xs, I64 x := by
  rcases open_ints uInts uInt cellsInt h with ⟨hcs, _⟩ | ⟨a, len, cap, zs, hcs, _, hl, hm, hz, hx, hcell, hwz⟩
  · simp at hcs
    subst hcs
    exact ⟨[], (OwnI.nil 0 W).at, by simp, by simp⟩
  · simp at hcs
    subst hcs
    simp only [if_true] at hz
    have hzl : (zs.take len).length = len := by simp; omega
    refine ⟨zs.take len, ⟨some a, cap, by rw [hzl], by rw [hzl]; exact hl, hm, (fun e => by cases e), fun i hi => ?_⟩, ?_, fun x hx => i64_of_wf (hwz x (List.mem_of_mem_take hx))⟩
    · have hi' : i < zs.length := by rw [hzl] at hi; omega
      show W.cell? (a.add i) = _
      rw [hcell i hi']
      simp [List.getD, hi']
    · rw [hx] at hw
      have := hw ((lits (H := H) .i64 (zs.take len)).length * 8 + (lits (H := H) .i64 (zs.drop len)).length * 8) (by
        simp only [DataW.weights, uInts, bytesInt, List.mem_cons]
        left; omega)
      simp only [lits, List.length_map, reachBytes] at this
      omega

theorem open_intsT {H : Type} {enc : TypeId × Value → H} {W : World} {held : Bool} {v : Value} {d : DataW H} {p : List MemPlace} {b0 : Nat}
    (hv : Value.okWide Tryd.prog W .any b0 22 v) (h : DataW.Trod enc Tryd.prog W 0 (fun _ => true) held 22 v d p) (hw : ∀ n ∈ d.weights Tryd.prog 22, n ≤ reachBytes) :
    ∃ xs, IntsAt W v xs ∧ xs.length ≤ 17592186043904 ∧ ∀ x ∈ xs, I64 x := by
  obtain ⟨a, l, c, rfl⟩ := okWide_slice uInts hv
  obtain ⟨fuel, hf⟩ := h
  exact open_intsV (y := (d, p)) (by simpa [Value.cells] using hf) hw

theorem weights_each3 {H : Type} {t0 t1 t2 : TypeId} {y0 y1 y2 : DataW H} {n : Nat} (h : n ∈ y2.weights Tryd.prog t2) : n ∈ DataW.weightsEach Tryd.prog [t0, t1, t2] [y0, y1, y2] := by
  simp only [DataW.weightsEach, List.mem_append]
  exact .inr (.inr (.inl h))

/-- A rule that came in. -/
theorem open_ruleV {H : Type} {enc : TypeId × Value → H} {W : World} {held : Bool} {v : Value} {d : DataW H} {p : List MemPlace} {b0 : Nat}
    (hv : Value.okWide Tryd.prog W .any b0 24 v) (h : DataW.Trod enc Tryd.prog W 0 (fun _ => true) held 24 v d p) (hw : ∀ n ∈ d.weights Tryd.prog 24, n ≤ reachBytes) :
    ∃ (k R : Int) (u : Value) (xs : List Int), v = .agg #[.int .i64 k, .int .i64 R, u] ∧ IntsAt W u xs ∧ xs.length ≤ 17592186043904 ∧ (∀ x ∈ xs, I64 x) ∧ I64 k ∧ I64 R := by
  obtain ⟨v0, v1, v2, y0, y1, y2, n, rfl, rfl, rfl, h0, h1, h2⟩ := open_agg3 Tryd.underlying24 (by kernel_rfl) (by kernel_rfl) hv h
  obtain ⟨a, e0, _, wa⟩ := DataW.trod_int uInt h0
  obtain ⟨b, e1, _, wb⟩ := DataW.trod_int uInt h1
  simp at e0 e1
  subst e0 e1
  obtain ⟨xs, hx, hl, hb⟩ := open_intsV h2 fun n hn => hw n (by
    simp only [DataW.weights, Tryd.underlying24]
    exact weights_each3 (t0 := 3) (t1 := 3) (t2 := 22) hn)
  exact ⟨a, b, v2, xs, rfl, hx, hl, hb, i64_of_wf wa, i64_of_wf wb⟩

/-! The package-level errors. -/
theorem star : "*" ++ "errors.errorString" = "*errors.errorString" := by decide
theorem rowES (u : TypeId) (h : Tryd.prog.typeName? 3 u = some "*errors.errorString") : u = 167 :=
  typeName_ptr_named (nm := "errors.errorString") (by rw [star]; kernel_rfl) (by kernel_rfl) (by decide) u (by rw [star]; exact h)
theorem pES : Tryd.prog.underlying 167 = some (.pointer 184) := by kernel_rfl
theorem cES : Tryd.prog.cellsOf 184 = 1 := by kernel_rfl
theorem cStr : Tryd.prog.cellsOf 9 = 1 := by kernel_rfl

def laid12 : List (String × DataW Unit) := [("eden/api.BadRule", Rows.laid_eden_api_BadRule), ("eden/api.BadWord", Rows.laid_eden_api_BadWord), ("eden/api.BadArg", Rows.laid_eden_api_BadArg), ("eden/api.TooBig", Rows.laid_eden_api_TooBig), ("eden/api.NoBudget", Rows.laid_eden_api_NoBudget), ("eden/api.BadText", Rows.laid_eden_api_BadText), ("eden/api.BadPatch", Rows.laid_eden_api_BadPatch), ("eden/api.BadCert", Rows.laid_eden_api_BadCert), ("eden/api.NoInverse", Rows.laid_eden_api_NoInverse), ("eden/api.BadLine", Rows.laid_eden_api_BadLine), ("eden/api.BadState", Rows.laid_eden_api_BadState), ("eden/api.Unknown", Rows.laid_eden_api_Unknown)]

theorem sentinel {n : String} {text : List UInt8} {r : List (String × DataW Unit)} {W : World} {g : Nat}
    (h : laidMet Tryd.prog ((n, .iface "*errors.errorString" (.ptr (.agg [.lit (.string text)]))) :: r) W)
    (hg : Tryd.prog.globalNamed n = some g) (ht : (Tryd.prog.globals[g]?).map (·.type) = some 29) :
    (∃ a : Addr, W.cell? ⟨g, 0, none⟩ = some (.iface 167 (.pointer (some a))) ∧ ∃ s, W.cell? a = some (.string s) ∧ s.data.toList = text) ∧ laidMet Tryd.prog r W := by
  refine ⟨?_, h.tail⟩
  obtain ⟨a, s, hv, hc, hs, _⟩ := laid_sentinel h hg ht Tryd.underlying29 rowES pES Tryd.underlying184 rfl rfl Tryd.underlying9 cES cStr
  exact ⟨a, by simpa using World.var?_cell hg hv 0, s, hc, hs⟩

def txt : Nat → List UInt8
  | 1 => [98, 97, 100, 32, 114, 117, 108, 101]
  | 2 => [98, 97, 100, 32, 119, 111, 114, 100]
  | 3 => [98, 97, 100, 32, 97, 114, 103, 117, 109, 101, 110, 116]
  | 4 => [116, 111, 111, 32, 98, 105, 103]
  | 5 => [110, 111, 32, 98, 117, 100, 103, 101, 116]
  | 6 => [98, 97, 100, 32, 116, 101, 120, 116]
  | 7 => [98, 97, 100, 32, 112, 97, 116, 99, 104]
  | 8 => [98, 97, 100, 32, 99, 101, 114, 116, 105, 102, 105, 99, 97, 116, 101]
  | 9 => [110, 111, 32, 105, 110, 118, 101, 114, 115, 101]
  | 10 => [98, 97, 100, 32, 108, 105, 110, 101]
  | 11 => [98, 97, 100, 32, 115, 116, 97, 116, 101]
  | 99 => [117, 110, 107, 110, 111, 119, 110]
  | _ => []
theorem txt_apart : ∀ m n : Fin 12, 1 ≤ m.val → 1 ≤ n.val → txt m.val = txt n.val → m = n := by decide

theorem glob_of_laid {W : World} (h : laidMet Tryd.prog laid12 W) : ∃ r, Glob r W := by
  obtain ⟨⟨a1, c1, s1, e1, t1⟩, h⟩ := sentinel (text := txt 1) h (g := 0) (by kernel_rfl) (by kernel_rfl)
  obtain ⟨⟨a2, c2, s2, e2, t2⟩, h⟩ := sentinel (text := txt 2) h (g := 1) (by kernel_rfl) (by kernel_rfl)
  obtain ⟨⟨a3, c3, s3, e3, t3⟩, h⟩ := sentinel (text := txt 3) h (g := 2) (by kernel_rfl) (by kernel_rfl)
  obtain ⟨⟨a4, c4, s4, e4, t4⟩, h⟩ := sentinel (text := txt 4) h (g := 3) (by kernel_rfl) (by kernel_rfl)
  obtain ⟨⟨a5, c5, s5, e5, t5⟩, h⟩ := sentinel (text := txt 5) h (g := 4) (by kernel_rfl) (by kernel_rfl)
  obtain ⟨⟨a6, c6, s6, e6, t6⟩, h⟩ := sentinel (text := txt 6) h (g := 5) (by kernel_rfl) (by kernel_rfl)
  obtain ⟨⟨a7, c7, s7, e7, t7⟩, h⟩ := sentinel (text := txt 7) h (g := 6) (by kernel_rfl) (by kernel_rfl)
  obtain ⟨⟨a8, c8, s8, e8, t8⟩, h⟩ := sentinel (text := txt 8) h (g := 7) (by kernel_rfl) (by kernel_rfl)
  obtain ⟨⟨a9, c9, s9, e9, t9⟩, h⟩ := sentinel (text := txt 9) h (g := 8) (by kernel_rfl) (by kernel_rfl)
  obtain ⟨⟨a10, c10, s10, e10, t10⟩, h⟩ := sentinel (text := txt 10) h (g := 9) (by kernel_rfl) (by kernel_rfl)
  obtain ⟨⟨a11, c11, s11, e11, t11⟩, h⟩ := sentinel (text := txt 11) h (g := 10) (by kernel_rfl) (by kernel_rfl)
  obtain ⟨⟨a99, c99, s99, e99, t99⟩, h⟩ := sentinel (text := txt 99) h (g := 11) (by kernel_rfl) (by kernel_rfl)
  clear h
  have key : ∀ n : Nat, (1 ≤ n ∧ n ≤ 11) ∨ n = 99 → ∃ s, W.cell? ((fun n : Nat => match n with | 1 => a1 | 2 => a2 | 3 => a3 | 4 => a4 | 5 => a5 | 6 => a6 | 7 => a7 | 8 => a8 | 9 => a9 | 10 => a10 | 11 => a11 | _ => a99) n) = some (.string s) ∧ s.data.toList = txt n := by
    intro n hn
    have : n = 1 ∨ n = 2 ∨ n = 3 ∨ n = 4 ∨ n = 5 ∨ n = 6 ∨ n = 7 ∨ n = 8 ∨ n = 9 ∨ n = 10 ∨ n = 11 ∨ n = 99 := by omega
    rcases this with rfl | rfl | rfl | rfl | rfl | rfl | rfl | rfl | rfl | rfl | rfl | rfl
    · exact ⟨s1, e1, t1⟩
    · exact ⟨s2, e2, t2⟩
    · exact ⟨s3, e3, t3⟩
    · exact ⟨s4, e4, t4⟩
    · exact ⟨s5, e5, t5⟩
    · exact ⟨s6, e6, t6⟩
    · exact ⟨s7, e7, t7⟩
    · exact ⟨s8, e8, t8⟩
    · exact ⟨s9, e9, t9⟩
    · exact ⟨s10, e10, t10⟩
    · exact ⟨s11, e11, t11⟩
    · exact ⟨s99, e99, t99⟩
  refine ⟨(fun n : Nat => match n with | 1 => a1 | 2 => a2 | 3 => a3 | 4 => a4 | 5 => a5 | 6 => a6 | 7 => a7 | 8 => a8 | 9 => a9 | 10 => a10 | 11 => a11 | _ => a99), c1, c2, c3, c4, c5, c6, c7, c8, c9, c10, c11, c99, (fun n hn => ?_), fun m n hm1 hm2 hn1 hn2 he => ?_⟩
  · obtain ⟨s, hs, _⟩ := key n hn
    exact ⟨s, hs⟩
  · obtain ⟨s, hs, ts⟩ := key m.toNat (by omega)
    obtain ⟨s', hs', ts'⟩ := key n.toNat (by omega)
    have hss : s = s' := by
      have := hs.symm.trans ((congrArg W.cell? he).trans hs')
      simpa using this
    subst hss
    have := txt_apart ⟨m.toNat, by omega⟩ ⟨n.toNat, by omega⟩ (by simp; omega) (by simp; omega) (ts.symm.trans ts')
    have := congrArg Fin.val this
    simp at this
    omega
end Go.Proofs.YtmhiambkfdkkbaaDoor

namespace Go.Proofs.YtmhiambkfdkkbaaDoor
open Go.ChangeShapes Go.WideShapes Go.ChangeAt Go.RowKit Go.Joins
namespace InjectComposesP

set_option maxRecDepth 100000 in
theorem door_met (os : Os) (args : Array Value) : laidMetH Tryd.prog Rows.injectComposesRow.laid ((World.doorLaid Tryd.prog 400 os).forCall (fun _ _ => 0) ⟨#[], args, []⟩).memory :=
  laidMetH_of_parts3 (fuel := 8) (laidMet_of_run' 8 (by kernel_rfl) (by kernel_rfl)) (by kernel_rfl) (by kernel_rfl)

set_option maxRecDepth 100000 in
theorem lifted (os : Os) (started : os.Started) (H : Type) (enc : TypeId × Value → H) :
    ReturnsInHanded {} Tryd.checked os 5 .any (fun w args => (Rows.injectComposesSpec.pre enc Tryd.prog Tryd.f5 [] false w args ∧ laidMetH Tryd.prog Rows.injectComposesRow.laid w) ∧ sizedMet enc Tryd.prog Tryd.f5 (OpenSpec.ofChange Rows.injectComposesSpec) false w args)
      (Rows.injectComposesSpec.post enc Tryd.prog Tryd.f5 false true false false) := by
  refine returnsInHanded_of_change_and (C := Tryd.checked) (X := fun w _ => laidMetH Tryd.prog Rows.injectComposesRow.laid w) (fun _ _ _ hh h => h.of_heap hh) own started (by kernel_rfl) Tryd.func5
    (ChangeSpec.witness_shaped (enc := enc) (C := Tryd.checked) (os := os) (X := fun w _ => laidMetH Tryd.prog Rows.injectComposesRow.laid w) false (World.doorLaid Tryd.prog 400 os) #[.agg #[.int .i64 0, .int .i64 0, .slice none 0 0], .agg #[.int .i64 0, .int .i64 0, .slice none 0 0]] 8 rfl (World.shaped_of_RefB (by kernel_rfl) (by kernel_rfl)) (by kernel_rfl) (by kernel_rfl) (by kernel_rfl) (door_met os _)) ?_
  intro W base args ds gs before hval0 hW _ hsz hL _
  have hval : ∀ (j : Nat) t v, Tryd.f5.params[j]? = some t → args[j]? = some v → Value.okWide Tryd.prog W .any base t v := hval0
  have hW' := hW
  obtain ⟨p, q, hA0, hV, rfl, hfz, hnd⟩ := hW
  have hA : DataW.TrodAll enc Tryd.prog W 0 (fun _ => true) true Tryd.f5.params.toList args.toList ds p := hA0
  rw [Tryd.params5] at hA hval hsz
  obtain ⟨v0, vs0, d0, ds0, p0, q0, hargs, rfl, rfl, g0, t0⟩ := trodAll_cons hA
  obtain ⟨v1, vs1, d1, ds1, p1, q1, rfl, rfl, rfl, g1, t1⟩ := trodAll_cons t0
  obtain ⟨rfl, rfl, rfl⟩ := trodAll_nil t1
  obtain rfl : args = #[v0, v1] := by cases args; simp_all
  obtain ⟨rfl, rfl⟩ := trodVars_none hV
  have kk0 := g0
  have lt0 : ∀ x ∈ p0, x.block < W.heap.size := by obtain ⟨m, hm⟩ := kk0; exact DataW.trod_lt m _ _ _ hm
  obtain ⟨kr0, rr0, u0, x0, rfl, h0, l0, b0, bk0, br0⟩ := open_ruleV (hval 0 24 v0 rfl rfl) g0 (fun n hn => by
    have := List.all_eq_true.1 hsz n (DataW.weights_mem_each (j := 0) (t := 24) rfl rfl n hn)
    simpa using this)
  have kk1 := g1
  have lt1 : ∀ x ∈ p1, x.block < W.heap.size := by obtain ⟨m, hm⟩ := kk1; exact DataW.trod_lt m _ _ _ hm
  obtain ⟨kr1, rr1, u1, x1, rfl, h1, l1, b1, bk1, br1⟩ := open_ruleV (hval 1 24 v1 rfl rfl) g1 (fun n hn => by
    have := List.all_eq_true.1 hsz n (DataW.weights_mem_each (j := 1) (t := 24) rfl rfl n hn)
    simpa using this)
  obtain ⟨r, hg⟩ := glob_of_laid (W := W) (by
    rw [MakeChecks.laidMetH_plain _ _ _ (by kernel_rfl)] at hL
    exact hL)
  clear hA0 hval0
  refine (injectComposes_any r kr0 rr0 u0 x0 kr1 rr1 u1 x1 W hg h0 h1).mono fun e W' ⟨x, he, bel, hxx⟩ => ?_
  subst he; subst hxx
  exact ⟨_, rfl, _, _, _, [], _, [], hW', trodAll_mk1 (shut_bool Tryd.underlying4 _), (trodAll_cons_mk (Below.trod laidOut (by kernel_rfl) (of_decide_eq_true (by kernel_rfl)) kk0 bel lt0) (trodAll_cons_mk (Below.trod laidOut (by kernel_rfl) (of_decide_eq_true (by kernel_rfl)) kk1 bel lt1) trodAll_mk0)), rfl, bel.frame _, fun h => by cases h⟩

theorem over : Rows.InjectComposesSaid :=
  OpenClaim.holds_of_wide 5 Tryd.f5 rfl rfl rfl rfl rfl rfl rfl ⟨rfl, rfl, rfl, rfl, rfl⟩ rfl rfl rfl rfl rfl (by kernel_rfl) Tryd.func5 (by kernel_rfl)
    (of_decide_eq_true (by kernel_rfl)) (by unfold Func.isWrapper; first | (rw [if_pos (by decide +kernel)]; kernel_rfl) | (rw [if_neg (by decide +kernel)]; exact ⟨rfl, rfl⟩))
    (fun os started H enc _ => lifted os started H enc)

/-- The tied card. -/
theorem card_holds : Rows.InjectComposesCardSaid :=
  Claim7.holds_tied_plain_at .later [] [.sentinel, .sentinel, .sentinel, .sentinel, .sentinel, .sentinel, .sentinel, .sentinel, .sentinel, .sentinel, .sentinel, .sentinel] true _ _
    over (fun _ h => by cases h) (by kernel_rfl) (fun _ h => by cases h) injectComposes_row_tie rfl ⟨rfl, rfl⟩ (by kernel_rfl) rfl
    (fun f fn hf hfn => by
      obtain rfl : f = 5 := Option.some.inj ((show Tryd.prog.funcNamed Rows.injectComposesRow.func = some 5 by kernel_rfl).symm.trans hf) |>.symm
      obtain rfl : fn = Tryd.f5 := (Option.some.inj (Tryd.func5.symm.trans hfn)).symm
      exact ⟨by kernel_rfl, fun j t ht => by
        rw [Tryd.params5] at ht
        have hm : t ∈ [24, 24] := by simpa using Array.mem_of_getElem? ht
        have hall : ([24, 24].all fun u => !Tryd.prog.wantsStandIn u) = true := by kernel_rfl
        exact (show Tryd.prog.wantsStandIn t = false by simpa using List.all_eq_true.1 hall t hm)⟩)
    (by kernel_rfl)
end InjectComposesP
#print axioms InjectComposesP.card_holds
end Go.Proofs.YtmhiambkfdkkbaaDoor
