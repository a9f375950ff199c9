/-
  Proved: the law edenlaw14.InjectTells as its tied card: it returns true and never panics, for any rule. No conditions beyond the card's own.
  Walk: edenlaw14.InjectTells returns true.
  Opening what a call is handed: []int, api.Rule, the package-level errors.
  From a card's list of laid variables that holds the handle of the type error: the package errors and errors.errorType.
-/
import Derived.Test.YtilpckngghffoaaGreatDoorMIt10
import Derived.Test.YtilpckngghffoaaGreatDoorRows
import Derived.ProofKit
import Derived.OpenShut
import Derived.ShutString
import Derived.ChangeOld
import Derived.LaidMore
import Derived.Stop.Joined
import Derived.Stop.LaidErr
import Derived.Lib.SmallJoins
import Derived.LaidHandle
import Derived.Test.YtilpckngghffoaaGreatDoorCards
import Derived.Test.YtilpckngghffoaaGreatDoorTie
import Derived.SevenTiedAt
namespace Go.Proofs.YtilpckngghffoaaGreatDoor
open Go.RowKit
set_option maxRecDepth 100000

theorem under14_fine {k R : Int} {T : List Int} {t : Int × List (ByteArray × Int)} (hc : smallP k R T = some t) : (under sInject 0 (under sPairs 0 (some t))).Fine := by
  obtain ⟨n, l⟩ := t
  have := smallP_num hc
  refine ⟨this.1, this.2.1, ?_⟩
  show ((sInject, (0 : Int)) :: (sPairs, (0 : Int)) :: l).length ≤ 1000
  simp only [List.length_cons]
  omega
theorem pgA_none {K R : Nat} {T xs : List Int} (hr : RuleOk K R T) (hsm : smallP K R T = none) (h : pgA K R T xs) : xs = [] ↔ ¬ NotOne K R T := by
  unfold pgA at h
  rw [hsm] at h
  obtain ⟨L, h1, rfl⟩ := h
  have h2 := odd_none hr h1
  unfold oddL at h2
  rw [← h2]
  simp [castI]

set_option maxHeartbeats 8000000 in
theorem it_bad (r : Nat → Addr) (k R : Int) (va : Option Addr) (vn vc : Nat) (T : List Int) (t : Int × List (ByteArray × Int)) (w : World) (hg : Glob r w) (hG : GlobE w) (h : IntsAt w (.slice va vn vc) T) (lT : T.length ≤ 17592186043904) (hc : smallP k R T = some t) :
    Calls Tryz.prog 6 #[.agg #[.int .i64 k, .int .i64 R, .slice va vn vc]] w (Ret1 (fun x _ => x = .bool true) w) := by
  have b0 := belowAlloc w (.cells #[.int .i64 k, .int .i64 R, .slice va vn vc] 24)
  have q : Box3 (w.alloc (.cells #[.int .i64 k, .int .i64 R, .slice va vn vc] 24)) w.heap.size (.int .i64 k) (.int .i64 R) (.slice va vn vc) := by simp [Box3, go_sem]
  obtain ⟨w0, hw0⟩ : ∃ W : World, w.alloc (.cells #[.int .i64 k, .int .i64 R, .slice va vn vc] 24) = W := ⟨_, rfl⟩
  rw [hw0] at b0 q
  replace hg := Lib.hid (hg.below b0)
  replace hG := Lib.hid (hG.below b0)
  replace h := Lib.hid (h.below b0)
  replace hw0 := Lib.hid hw0
  go_enter Tryz.func6, Tryz.ntmps6
  go_upto_region 1 with fail
  rw [hw0.out]
  go_wp2_with fail
  refine (awake14 r _ hg.out).mono ?_
  rintro e w1 ⟨_, rfl, b1, rfl⟩
  obtain ⟨⟨z0, z1, z2⟩, -, -, -⟩ := q.below b1
  go_wp2_with fail
  refine (lentRule_any k R va vn vc T w1 (h.out.below b1) (by omega)).mono ?_
  rintro e w2 ⟨_, rfl, b2, ma, mn, mc, rfl, hm⟩
  have b2a := Below.step b2 (belowAlloc w2 (.cells #[.int .i64 k, .int .i64 R, .slice ma mn mc] 24))
  have qm : Box3 (w2.alloc (.cells #[.int .i64 k, .int .i64 R, .slice ma mn mc] 24)) w2.heap.size (.int .i64 k) (.int .i64 R) (.slice ma mn mc) := by simp [Box3, go_sem]
  replace hm := hm.below (belowAlloc w2 (.cells #[.int .i64 k, .int .i64 R, .slice ma mn mc] 24))
  have c3 := Below.step b1 b2a
  generalize hgm : w2.heap.size = gm at *
  obtain ⟨w3, hw3⟩ : ∃ W : World, w2.alloc (.cells #[.int .i64 k, .int .i64 R, .slice ma mn mc] 24) = W := ⟨_, rfl⟩
  rw [hw3] at b2a qm hm c3
  replace hw3 := Lib.hid hw3
  replace hgm := Lib.hid hgm
  replace hm := Lib.hid hm
  clear z0 z1 z2
  have qm0 := qm
  obtain ⟨⟨m0, m1, m2⟩, -, -, -⟩ := qm0
  go_upto_region 4 with fail
  rw [hw3.out, hgm.out]
  go_wp2_with fail
  refine (one_bad r k R ma mn mc T t w3 (hg.out.below c3) hm.out.at hc).mono ?_
  rintro e w4 ⟨_, _, _, ex, rfl, b4, rfl, rfl, rfl, hex⟩
  obtain ⟨ET, ea, rfl⟩ := ErrIs.some_shape (t := (t.1, (sInject, 0) :: (sPairs, 0) :: t.2)) hex
  have hE : pgE k R T = some (t.1, (sPairs, 0) :: t.2) := by unfold pgE; rw [hc]; rfl
  replace hex := Lib.hid hex
  replace hE := Lib.hid hE
  have ba := belowAlloc w4 (.cells #[.int .i64 0, .slice none 0 0, .slice none 0 0, .slice none 0 0] 42)
  have bb := Below.step ba (belowAlloc _ (.cells #[.int .i64 0, .slice none 0 0, .slice none 0 0, .slice none 0 0] 42))
  have yA : Cells4 ((w4.alloc (.cells #[.int .i64 0, .slice none 0 0, .slice none 0 0, .slice none 0 0] 42)).alloc (.cells #[.int .i64 0, .slice none 0 0, .slice none 0 0, .slice none 0 0] 42)) w4.heap.size (.int .i64 0) (.slice none 0 0) (.slice none 0 0) (.slice none 0 0) := by
    refine ⟨?_, ?_, ?_, ?_⟩ <;> simp [go_sem]
  have yB : Cells4 ((w4.alloc (.cells #[.int .i64 0, .slice none 0 0, .slice none 0 0, .slice none 0 0] 42)).alloc (.cells #[.int .i64 0, .slice none 0 0, .slice none 0 0, .slice none 0 0] 42)) (w4.heap.size + 1) (.int .i64 0) (.slice none 0 0) (.slice none 0 0) (.slice none 0 0) := by
    refine ⟨?_, ?_, ?_, ?_⟩ <;> simp [go_sem]
  have b4a := Below.step b4 bb
  obtain ⟨w5, hw5⟩ : ∃ W : World, (w4.alloc (.cells #[.int .i64 0, .slice none 0 0, .slice none 0 0, .slice none 0 0] 42)).alloc (.cells #[.int .i64 0, .slice none 0 0, .slice none 0 0, .slice none 0 0] 42) = W := ⟨_, rfl⟩
  rw [hw5] at bb yA yB b4a
  obtain ⟨ga, hga⟩ : ∃ g, w4.heap.size = g := ⟨_, rfl⟩
  rw [hga] at yA yB
  have c5 := Below.step c3 b4a
  replace hw5 := Lib.hid hw5
  replace hga := Lib.hid hga
  clear m0 m1 m2 ba
  obtain ⟨⟨z0, z1, z2⟩, -, -, -⟩ := q.below c5
  go_upto_region 5 with fail
  rw [hw5.out, hga.out]
  go_wp2_with fail
  refine (ref14_one k R va vn vc T w5 (h.out.below c5)).mono ?_
  rintro e w6 ⟨xv, ey, rfl, b6, ho⟩
  unfold ROne at ho
  rw [hE.out] at ho
  obtain ⟨rfl, hey⟩ := ho
  replace hey := hey.at
  obtain ⟨n7, s7a, s7n, s7c, j7a, j7n, j7c, rfl⟩ := eat_shape hey
  obtain ⟨be, q7⟩ := err_box8 w6 (.int .i64 n7) (.slice s7a s7n s7c) (.slice j7a j7n j7c)
  replace hey := hey.below be
  have b6a := Below.step b6 be
  obtain ⟨w7, hw7⟩ : ∃ W : World, w6.alloc (.cells #[.int .i64 n7, .slice s7a s7n s7c, .slice j7a j7n j7c] 33) = W := ⟨_, rfl⟩
  obtain ⟨g7, hg7⟩ : ∃ g, w6.heap.size = g := ⟨_, rfl⟩
  rw [hw7] at be q7 hey b6a
  rw [hg7] at q7
  have c7 := Below.step c5 b6a
  have d7 := Below.step b4a b6a
  replace hw7 := Lib.hid hw7
  replace hg7 := Lib.hid hg7
  replace hey := Lib.hid hey
  clear z0 z1 z2 be
  obtain ⟨⟨m0, m1, m2⟩, -, -, -⟩ := qm.below d7
  obtain ⟨⟨z0, z1, z2⟩, -, -, -⟩ := q.below c7
  have q70 := q7
  obtain ⟨⟨x0, x1, x2⟩, -, -, -⟩ := q70
  have hex7 := Lib.hid (hex.out.below (Below.step bb b6a))
  go_upto_region 6 with fail
  rw [hw7.out, hg7.out]
  go_wp2_with fail
  refine (raw_is r (under sInject 0 (under sPairs 0 (some t))) (.iface ET (.pointer (some ea))) _ w7 (hg.out.below c7) (hG.out.below c7) hex7.out hey.out (under14_fine hc)).mono ?_
  rintro e w8 ⟨_, rfl, b8, rfl⟩
  have c8 := Below.step c7 b8
  have d8 := Below.step d7 b8
  clear m0 m1 m2 z0 z1 z2 x0 x1 x2
  obtain ⟨⟨m0, m1, m2⟩, -, -, -⟩ := qm.below d8
  obtain ⟨⟨z0, z1, z2⟩, -, -, -⟩ := q.below c8
  go_wp2_with fail
  refine (keptRule_any _ k R ma mn mc va vn vc T w8 (hm.out.below d8) (h.out.below c8) (by omega)).mono ?_
  rintro e w9 ⟨_, rfl, b9, rfl⟩
  have c9 := Below.step c8 b9
  have e9 : Below w5.heap.size w5 w9 := Below.step (Below.step b6a b8) b9
  clear m0 m1 m2 z0 z1 z2
  obtain ⟨y0, y1, y2, y3⟩ := yA.below e9
  go_wp2_with fail
  refine (law_none w9).mono ?_
  rintro e w10 ⟨_, rfl, b10, rfl⟩
  have e10 := Below.step e9 b10
  clear y0 y1 y2 y3
  obtain ⟨y0, y1, y2, y3⟩ := yB.below e10
  go_wp2_with fail
  refine (law_none w10).mono ?_
  rintro e w11 ⟨_, rfl, b11, rfl⟩
  have bE := Below.step b0 (Below.step (Below.step c9 b10) b11)
  go_wp2
  go_ret
  exact ⟨_, rfl, bE, rfl⟩

set_option maxHeartbeats 8000000 in
theorem it_ok (r : Nat → Addr) (K R : Nat) (va : Option Addr) (vn vc : Nat) (T : List Int) (w : World) (hg : Glob r w) (hG : GlobE w) (h : IntsAt w (.slice va vn vc) T) (lT : T.length ≤ 17592186043904) (hr : RuleOk K R T) (hl : T.length ≤ 256) :
    Calls Tryz.prog 6 #[.agg #[.int .i64 K, .int .i64 R, .slice va vn vc]] w (Ret1 (fun x _ => x = .bool true) w) := by
  have b0 := belowAlloc w (.cells #[.int .i64 K, .int .i64 R, .slice va vn vc] 24)
  have q : Box3 (w.alloc (.cells #[.int .i64 K, .int .i64 R, .slice va vn vc] 24)) w.heap.size (.int .i64 K) (.int .i64 R) (.slice va vn vc) := by simp [Box3, go_sem]
  obtain ⟨w0, hw0⟩ : ∃ W : World, w.alloc (.cells #[.int .i64 K, .int .i64 R, .slice va vn vc] 24) = W := ⟨_, rfl⟩
  rw [hw0] at b0 q
  replace hg := Lib.hid (hg.below b0)
  replace hG := Lib.hid (hG.below b0)
  replace h := Lib.hid (h.below b0)
  replace hw0 := Lib.hid hw0
  go_enter Tryz.func6, Tryz.ntmps6
  go_upto_region 1 with fail
  rw [hw0.out]
  go_wp2_with fail
  refine (awake14 r _ hg.out).mono ?_
  rintro e w1 ⟨_, rfl, b1, rfl⟩
  obtain ⟨⟨z0, z1, z2⟩, -, -, -⟩ := q.below b1
  go_wp2_with fail
  refine (lentRule_any K R va vn vc T w1 (h.out.below b1) (by omega)).mono ?_
  rintro e w2 ⟨_, rfl, b2, ma, mn, mc, rfl, hm⟩
  have b2a := Below.step b2 (belowAlloc w2 (.cells #[.int .i64 K, .int .i64 R, .slice ma mn mc] 24))
  have qm : Box3 (w2.alloc (.cells #[.int .i64 K, .int .i64 R, .slice ma mn mc] 24)) w2.heap.size (.int .i64 K) (.int .i64 R) (.slice ma mn mc) := by simp [Box3, go_sem]
  replace hm := hm.below (belowAlloc w2 (.cells #[.int .i64 K, .int .i64 R, .slice ma mn mc] 24))
  have c3 := Below.step b1 b2a
  generalize hgm : w2.heap.size = gm at *
  obtain ⟨w3, hw3⟩ : ∃ W : World, w2.alloc (.cells #[.int .i64 K, .int .i64 R, .slice ma mn mc] 24) = W := ⟨_, rfl⟩
  rw [hw3] at b2a qm hm c3
  replace hw3 := Lib.hid hw3
  replace hgm := Lib.hid hgm
  replace hm := Lib.hid hm
  clear z0 z1 z2
  have qm0 := qm
  obtain ⟨⟨m0, m1, m2⟩, -, -, -⟩ := qm0
  go_upto_region 4 with fail
  rw [hw3.out, hgm.out]
  go_wp2_with fail
  refine (one_ok r K R ma mn mc T w3 (hg.out.below c3) hm.out.at hr hl).mono ?_
  rintro e w4 ⟨yv, av, bv, ev, rfl, b4, rfl, hp⟩
  have hsm : smallP K R T = none := by rw [smallP_ok hr, if_neg (by omega)]
  have hE : pgE K R T = none := by unfold pgE; rw [hsm]
  have hAn := fun xs (hx : pgA K R T xs) => pgA_none hr hsm hx
  have hbi := fun (L C Q : List Nat) (hx : OneIs K R T L C Q) => oneIs_bi hr hl hx
  replace hr := Lib.hid hr
  replace hsm := Lib.hid hsm
  replace hE := Lib.hid hE
  replace hAn := Lib.hid hAn
  replace hbi := Lib.hid hbi
  rcases hp with ⟨rfl, rfl, rfl, hno⟩ | ⟨rfl, hno, L, C, Q, aL, aC, aQ, bL, bC, bQ, hone, rfl, rfl, f, hrows, n10, n11, n20, n21, n30, n31⟩
  · replace hno := Lib.hid hno
    have ba := belowAlloc w4 (.cells #[.int .i64 0, .slice none 0 0, .slice none 0 0, .slice none 0 0] 42)
    have bb := Below.step ba (belowAlloc _ (.cells #[.int .i64 0, .slice none 0 0, .slice none 0 0, .slice none 0 0] 42))
    have yA : Cells4 ((w4.alloc (.cells #[.int .i64 0, .slice none 0 0, .slice none 0 0, .slice none 0 0] 42)).alloc (.cells #[.int .i64 0, .slice none 0 0, .slice none 0 0, .slice none 0 0] 42)) w4.heap.size (.int .i64 0) (.slice none 0 0) (.slice none 0 0) (.slice none 0 0) := by
      refine ⟨?_, ?_, ?_, ?_⟩ <;> simp [go_sem]
    have yB : Cells4 ((w4.alloc (.cells #[.int .i64 0, .slice none 0 0, .slice none 0 0, .slice none 0 0] 42)).alloc (.cells #[.int .i64 0, .slice none 0 0, .slice none 0 0, .slice none 0 0] 42)) (w4.heap.size + 1) (.int .i64 0) (.slice none 0 0) (.slice none 0 0) (.slice none 0 0) := by
      refine ⟨?_, ?_, ?_, ?_⟩ <;> simp [go_sem]
    have b4a := Below.step b4 bb
    obtain ⟨w5, hw5⟩ : ∃ W : World, (w4.alloc (.cells #[.int .i64 0, .slice none 0 0, .slice none 0 0, .slice none 0 0] 42)).alloc (.cells #[.int .i64 0, .slice none 0 0, .slice none 0 0, .slice none 0 0] 42) = W := ⟨_, rfl⟩
    rw [hw5] at bb yA yB b4a
    obtain ⟨ga, hga⟩ : ∃ g, w4.heap.size = g := ⟨_, rfl⟩
    rw [hga] at yA yB
    have c5 := Below.step c3 b4a
    replace hw5 := Lib.hid hw5
    replace hga := Lib.hid hga
    clear m0 m1 m2 ba
    obtain ⟨⟨z0, z1, z2⟩, -, -, -⟩ := q.below c5
    go_upto_region 5 with fail
    rw [hw5.out, hga.out]
    go_wp2_with fail
    refine (ref14_one K R va vn vc T w5 (h.out.below c5)).mono ?_
    rintro e w6 ⟨xv, ey, rfl, b6, ho⟩
    unfold ROne at ho
    rw [hE.out] at ho
    obtain ⟨rfl, xs, hpa, rfl⟩ := ho
    have hey : EAt w6 none (.agg #[.int .i64 0, .slice none 0 0, .slice none 0 0]) := rfl
    rw [show decide (xs = []) = true from decide_eq_true ((hAn.out xs hpa).2 hno.out)]
    replace hpa := Lib.hid hpa
    obtain ⟨be, q7⟩ := err_box8 w6 (.int .i64 0) (.slice none 0 0) (.slice none 0 0)
    replace hey := hey.below be
    have b6a := Below.step b6 be
    obtain ⟨w7, hw7⟩ : ∃ W : World, w6.alloc (.cells #[.int .i64 0, .slice none 0 0, .slice none 0 0] 33) = W := ⟨_, rfl⟩
    obtain ⟨g7, hg7⟩ : ∃ g, w6.heap.size = g := ⟨_, rfl⟩
    rw [hw7] at be q7 hey b6a
    rw [hg7] at q7
    have c7 := Below.step c5 b6a
    have d7 := Below.step b4a b6a
    replace hw7 := Lib.hid hw7
    replace hg7 := Lib.hid hg7
    replace hey := Lib.hid hey
    clear z0 z1 z2 be
    obtain ⟨⟨m0, m1, m2⟩, -, -, -⟩ := qm.below d7
    obtain ⟨⟨z0, z1, z2⟩, -, -, -⟩ := q.below c7
    have q70 := q7
    obtain ⟨⟨x0, x1, x2⟩, -, -, -⟩ := q70
    have hex7 : ErrIs r w7 none .nilIface := rfl
    replace hex7 := Lib.hid hex7
    go_upto_region 6 with fail
    rw [hw7.out, hg7.out]
    go_wp2_with fail
    refine (raw_is r none .nilIface _ w7 (hg.out.below c7) (hG.out.below c7) hex7.out hey.out trivial).mono ?_
    rintro e w8 ⟨_, rfl, b8, rfl⟩
    have c8 := Below.step c7 b8
    have d8 := Below.step d7 b8
    clear m0 m1 m2 z0 z1 z2 x0 x1 x2
    obtain ⟨⟨m0, m1, m2⟩, -, -, -⟩ := qm.below d8
    obtain ⟨⟨z0, z1, z2⟩, -, -, -⟩ := q.below c8
    go_wp2_with fail
    refine (keptRule_any _ K R ma mn mc va vn vc T w8 (hm.out.below d8) (h.out.below c8) (by omega)).mono ?_
    rintro e w9 ⟨_, rfl, b9, rfl⟩
    have c9 := Below.step c8 b9
    have e9 : Below w5.heap.size w5 w9 := Below.step (Below.step b6a b8) b9
    clear m0 m1 m2 z0 z1 z2
    obtain ⟨y0, y1, y2, y3⟩ := yA.below e9
    go_wp2_with fail
    refine (law_none w9).mono ?_
    rintro e w10 ⟨_, rfl, b10, rfl⟩
    have e10 := Below.step e9 b10
    clear y0 y1 y2 y3
    obtain ⟨y0, y1, y2, y3⟩ := yB.below e10
    go_wp2_with fail
    refine (law_none w10).mono ?_
    rintro e w11 ⟨_, rfl, b11, rfl⟩
    have bE := Below.step b0 (Below.step (Below.step c9 b10) b11)
    go_wp2
    go_ret
    exact ⟨_, rfl, bE, rfl⟩
  · have oAL := (hrows.ownI n10).at
    have oBL := (hrows.ownI n11).at
    have oAC := (hrows.ownI n20).at
    have oBC := (hrows.ownI n21).at
    have oAQ := (hrows.ownI n30).at
    have oBQ := (hrows.ownI n31).at
    clear n10 n11 n20 n21 n30 n31 hrows
    obtain ⟨aL1, aL2, aL3, rfl⟩ := oAL.shape
    obtain ⟨aC1, aC2, aC3, rfl⟩ := oAC.shape
    obtain ⟨aQ1, aQ2, aQ3, rfl⟩ := oAQ.shape
    obtain ⟨bL1, bL2, bL3, rfl⟩ := oBL.shape
    obtain ⟨bC1, bC2, bC3, rfl⟩ := oBC.shape
    obtain ⟨bQ1, bQ2, bQ3, rfl⟩ := oBQ.shape
    rw [sideA_row] at oAL oAC oAQ
    rw [sideB_row] at oBL oBC oBQ
    replace oAL := Lib.hid oAL
    replace oAC := Lib.hid oAC
    replace oAQ := Lib.hid oAQ
    replace oBL := Lib.hid oBL
    replace oBC := Lib.hid oBC
    replace oBQ := Lib.hid oBQ
    replace hno := Lib.hid hno
    replace hone := Lib.hid hone
    have ba := belowAlloc w4 (.cells #[.int .i64 0, .slice aL1 aL2 aL3, .slice aC1 aC2 aC3, .slice aQ1 aQ2 aQ3] 42)
    have bb := Below.step ba (belowAlloc _ (.cells #[.int .i64 0, .slice bL1 bL2 bL3, .slice bC1 bC2 bC3, .slice bQ1 bQ2 bQ3] 42))
    have yA : Cells4 ((w4.alloc (.cells #[.int .i64 0, .slice aL1 aL2 aL3, .slice aC1 aC2 aC3, .slice aQ1 aQ2 aQ3] 42)).alloc (.cells #[.int .i64 0, .slice bL1 bL2 bL3, .slice bC1 bC2 bC3, .slice bQ1 bQ2 bQ3] 42)) w4.heap.size (.int .i64 0) (.slice aL1 aL2 aL3) (.slice aC1 aC2 aC3) (.slice aQ1 aQ2 aQ3) := by
      refine ⟨?_, ?_, ?_, ?_⟩ <;> simp [go_sem]
    have yB : Cells4 ((w4.alloc (.cells #[.int .i64 0, .slice aL1 aL2 aL3, .slice aC1 aC2 aC3, .slice aQ1 aQ2 aQ3] 42)).alloc (.cells #[.int .i64 0, .slice bL1 bL2 bL3, .slice bC1 bC2 bC3, .slice bQ1 bQ2 bQ3] 42)) (w4.heap.size + 1) (.int .i64 0) (.slice bL1 bL2 bL3) (.slice bC1 bC2 bC3) (.slice bQ1 bQ2 bQ3) := by
      refine ⟨?_, ?_, ?_, ?_⟩ <;> simp [go_sem]
    have b4a := Below.step b4 bb
    obtain ⟨w5, hw5⟩ : ∃ W : World, (w4.alloc (.cells #[.int .i64 0, .slice aL1 aL2 aL3, .slice aC1 aC2 aC3, .slice aQ1 aQ2 aQ3] 42)).alloc (.cells #[.int .i64 0, .slice bL1 bL2 bL3, .slice bC1 bC2 bC3, .slice bQ1 bQ2 bQ3] 42) = W := ⟨_, rfl⟩
    rw [hw5] at bb yA yB b4a
    obtain ⟨ga, hga⟩ : ∃ g, w4.heap.size = g := ⟨_, rfl⟩
    rw [hga] at yA yB
    have c5 := Below.step c3 b4a
    replace hw5 := Lib.hid hw5
    replace hga := Lib.hid hga
    clear m0 m1 m2 ba
    obtain ⟨⟨z0, z1, z2⟩, -, -, -⟩ := q.below c5
    go_upto_region 5 with fail
    rw [hw5.out, hga.out]
    go_wp2_with fail
    refine (ref14_one K R va vn vc T w5 (h.out.below c5)).mono ?_
    rintro e w6 ⟨xv, ey, rfl, b6, ho⟩
    unfold ROne at ho
    rw [hE.out] at ho
    obtain ⟨rfl, xs, hpa, rfl⟩ := ho
    have hey : EAt w6 none (.agg #[.int .i64 0, .slice none 0 0, .slice none 0 0]) := rfl
    rw [show decide (xs = []) = false from decide_eq_false (fun e => (hAn.out xs hpa).1 e hno.out)]
    replace hpa := Lib.hid hpa
    obtain ⟨be, q7⟩ := err_box8 w6 (.int .i64 0) (.slice none 0 0) (.slice none 0 0)
    replace hey := hey.below be
    have b6a := Below.step b6 be
    obtain ⟨w7, hw7⟩ : ∃ W : World, w6.alloc (.cells #[.int .i64 0, .slice none 0 0, .slice none 0 0] 33) = W := ⟨_, rfl⟩
    obtain ⟨g7, hg7⟩ : ∃ g, w6.heap.size = g := ⟨_, rfl⟩
    rw [hw7] at be q7 hey b6a
    rw [hg7] at q7
    have c7 := Below.step c5 b6a
    have d7 := Below.step b4a b6a
    replace hw7 := Lib.hid hw7
    replace hg7 := Lib.hid hg7
    replace hey := Lib.hid hey
    clear z0 z1 z2 be
    obtain ⟨⟨m0, m1, m2⟩, -, -, -⟩ := qm.below d7
    obtain ⟨⟨z0, z1, z2⟩, -, -, -⟩ := q.below c7
    have q70 := q7
    obtain ⟨⟨x0, x1, x2⟩, -, -, -⟩ := q70
    have hex7 : ErrIs r w7 none .nilIface := rfl
    replace hex7 := Lib.hid hex7
    go_upto_region 6 with fail
    rw [hw7.out, hg7.out]
    go_wp2_with fail
    refine (raw_is r none .nilIface _ w7 (hg.out.below c7) (hG.out.below c7) hex7.out hey.out trivial).mono ?_
    rintro e w8 ⟨_, rfl, b8, rfl⟩
    have c8 := Below.step c7 b8
    have d8 := Below.step d7 b8
    clear m0 m1 m2 z0 z1 z2 x0 x1 x2
    obtain ⟨⟨m0, m1, m2⟩, -, -, -⟩ := qm.below d8
    obtain ⟨⟨z0, z1, z2⟩, -, -, -⟩ := q.below c8
    go_wp2_with fail
    refine (keptRule_any _ K R ma mn mc va vn vc T w8 (hm.out.below d8) (h.out.below c8) (by omega)).mono ?_
    rintro e w9 ⟨_, rfl, b9, rfl⟩
    have c9 := Below.step c8 b9
    have e9 : Below w5.heap.size w5 w9 := Below.step (Below.step b6a b8) b9
    clear m0 m1 m2 z0 z1 z2
    have e49 := Below.step bb e9
    obtain ⟨y0, y1, y2, y3⟩ := yA.below e9
    obtain ⟨v0, v1, v2, v3⟩ := yB.below e9
    obtain ⟨⟨z0, z1, z2⟩, -, -, -⟩ := q.below c9
    obtain ⟨hB, lL, lC, lQ, s, hs, hd⟩ := hbi.out L C Q hone.out
    have hk1 := hr.out.k1
    have hk4 := hr.out.k4
    obtain ⟨j, j1, j2, j3⟩ := bi_ne hk1 (wk_pos R) hB hs hd
    have him := wit_img hr.out hB
    have eA : ∀ l : List Nat, (rowA K (pw K (2 * wkR R)) l).length = l.length := fun l => by simp [rowA]
    have eB : ∀ l : List Nat, (rowB' K (pw K (2 * wkR R)) l).length = l.length := fun l => by simp [rowB']
    have p1 := hB.l1
    have p2 := hB.q1
    have okA : RowOk K 0 (rowA K (pw K (2 * wkR R)) L) (rowA K (pw K (2 * wkR R)) C) (rowA K (pw K (2 * wkR R)) Q) := ⟨hk1, hk4, by decide, by decide, by rw [eA]; exact p1, by rw [eA]; exact lL, by rw [eA]; exact p2, by rw [eA]; exact lQ, by rw [eA]; exact lC, rowA_syms hk1 _ _, rowA_syms hk1 _ _, rowA_syms hk1 _ _⟩
    have okB : RowOk K 0 (rowB' K (pw K (2 * wkR R)) L) (rowB' K (pw K (2 * wkR R)) C) (rowB' K (pw K (2 * wkR R)) Q) := ⟨hk1, hk4, by decide, by decide, by rw [eB]; exact p1, by rw [eB]; exact lL, by rw [eB]; exact p2, by rw [eB]; exact lQ, by rw [eB]; exact lC, rowB_syms hk1 _ _, rowB_syms hk1 _ _, rowB_syms hk1 _ _⟩
    have hw := ref_witness 0 K R va vn vc T aL1 aL2 aL3 aC1 aC2 aC3 aQ1 aQ2 aQ3 (rowA K (pw K (2 * wkR R)) L) (rowA K (pw K (2 * wkR R)) C) (rowA K (pw K (2 * wkR R)) Q) bL1 bL2 bL3 bC1 bC2 bC3 bQ1 bQ2 bQ3 (rowB' K (pw K (2 * wkR R)) L) (rowB' K (pw K (2 * wkR R)) C) (rowB' K (pw K (2 * wkR R)) Q) w9 (h.out.below c9) hr.out (oAL.out.below e49) (oAC.out.below e49) (oAQ.out.below e49) (oBL.out.below e49) (oBC.out.below e49) (oBQ.out.below e49) (by rw [eA, eB]) (by rw [eA, eB]) (by rw [eA, eB]) okA okB ⟨j, by rw [eA]; omega, by rw [eA, eA]; omega, j3⟩ (fun f n => (him f n).symm)
    replace hw := Lib.hid hw
    clear hB him okA okB j1 j2 j3 eA eB hs hd lL lC lQ p1 p2
    go_wp2_with fail
    refine hw.out.mono ?_
    rintro e w10 ⟨_, rfl, b10, rfl⟩
    have bE := Below.step b0 (Below.step c9 b10)
    go_wp2
    go_ret
    exact ⟨_, rfl, bE, rfl⟩

theorem injectTells_any (r : Nat → Addr) (k R : Int) (tv : Value) (T : List Int) (w : World) (hg : Glob r w) (hG : GlobE w) (h : IntsAt w tv T) (lT : T.length ≤ 17592186043904) :
    Calls Tryz.prog 6 #[.agg #[.int .i64 k, .int .i64 R, tv]] w (Ret1 (fun x _ => x = .bool true) w) := by
  obtain ⟨va, vn, vc, rfl⟩ := h.shape
  cases hc : smallP k R T with
  | some t => exact it_bad r k R va vn vc T t w hg hG h lT hc
  | none =>
    obtain ⟨hck, hl⟩ := smallP_none hc
    obtain ⟨K, Q, rfl, rfl, hr⟩ := checkP_none hck
    exact it_ok r K Q va vn vc T w hg hG h lT hr hl
end Go.Proofs.YtilpckngghffoaaGreatDoor

namespace Go.Proofs.YtilpckngghffoaaGreatDoor
open Go.ChangeShapes Go.WideShapes Go.ChangeAt Go.RowKit Go.Joins
set_option maxRecDepth 100000

theorem own : ownKnob Tryz.prog.godebug = none := by kernel_rfl
theorem laidOut : laidOutB Tryz.prog = true := by kernel_rfl
theorem cellsInt : Tryz.prog.cellsOf 3 = 1 := by kernel_rfl
theorem uInt : Tryz.prog.underlying 3 = some (.int .i64) := by kernel_rfl
theorem bytesInt : Tryz.prog.bytesOf 3 = 8 := by kernel_rfl

theorem i64_of_wf {n : Int} (h : (Lit.int .i64 n).wf = true) : I64 n := by
  have := bounds_i64 h
  unfold I64
  omega

/-- A []int that came in. -/
theorem open_intsV {H : Type} {enc : TypeId × Value → H} {W : World} {held : Bool} {fuel : Nat} {v : Value} {y : DataW H × List MemPlace}
    (h : DataW.trod enc Tryz.prog W 0 (fun _ => true) held fuel 22 [v] = some y) (hw : ∀ n ∈ y.1.weights Tryz.prog 22, n ≤ reachBytes) :
    ∃ xs, IntsAt W v xs ∧ xs.length ≤ 17592186043904 ∧ ∀ x ∈ xs, I64 x := by
  rcases open_ints uInts uInt cellsInt h with ⟨hcs, _⟩ | ⟨a, len, cap, zs, hcs, _, hl, hm, hz, hx, hcell, hwz⟩
  · simp at hcs
    subst hcs
    exact ⟨[], (OwnI.nil 0 W).at, by simp, by simp⟩
  · simp at hcs
    subst hcs
    simp only [if_true] at hz
    have hzl : (zs.take len).length = len := by simp; omega
    refine ⟨zs.take len, ⟨some a, cap, by rw [hzl], by rw [hzl]; exact hl, hm, (fun e => by cases e), fun i hi => ?_⟩, ?_, fun x hx => i64_of_wf (hwz x (List.mem_of_mem_take hx))⟩
    · have hi' : i < zs.length := by rw [hzl] at hi; omega
      show W.cell? (a.add i) = _
      rw [hcell i hi']
      simp [List.getD, hi']
    · rw [hx] at hw
      have := hw ((lits (H := H) .i64 (zs.take len)).length * 8 + (lits (H := H) .i64 (zs.drop len)).length * 8) (by
        simp only [DataW.weights, uInts, bytesInt, List.mem_cons]
        left; omega)
      simp only [lits, List.length_map, reachBytes] at this
      omega

theorem weights_each3 {H : Type} {t0 t1 t2 : TypeId} {y0 y1 y2 : DataW H} {n : Nat} (h : n ∈ y2.weights Tryz.prog t2) : n ∈ DataW.weightsEach Tryz.prog [t0, t1, t2] [y0, y1, y2] := by
  simp only [DataW.weightsEach, List.mem_append]
  exact .inr (.inr (.inl h))

/-- A rule that came in. -/
theorem open_ruleV {H : Type} {enc : TypeId × Value → H} {W : World} {held : Bool} {v : Value} {d : DataW H} {p : List MemPlace} {b0 : Nat}
    (hv : Value.okWide Tryz.prog W .any b0 24 v) (h : DataW.Trod enc Tryz.prog W 0 (fun _ => true) held 24 v d p) (hw : ∀ n ∈ d.weights Tryz.prog 24, n ≤ reachBytes) :
    ∃ (k R : Int) (u : Value) (xs : List Int), v = .agg #[.int .i64 k, .int .i64 R, u] ∧ IntsAt W u xs ∧ xs.length ≤ 17592186043904 ∧ (∀ x ∈ xs, I64 x) ∧ I64 k ∧ I64 R := by
  obtain ⟨v0, v1, v2, y0, y1, y2, n, rfl, rfl, rfl, h0, h1, h2⟩ := open_agg3 Tryz.underlying24 (by kernel_rfl) (by kernel_rfl) hv h
  obtain ⟨a, e0, _, wa⟩ := DataW.trod_int uInt h0
  obtain ⟨b, e1, _, wb⟩ := DataW.trod_int uInt h1
  simp at e0 e1
  subst e0 e1
  obtain ⟨xs, hx, hl, hb⟩ := open_intsV h2 fun n hn => hw n (by
    simp only [DataW.weights, Tryz.underlying24]
    exact weights_each3 (t0 := 3) (t1 := 3) (t2 := 22) hn)
  exact ⟨a, b, v2, xs, rfl, hx, hl, hb, i64_of_wf wa, i64_of_wf wb⟩

/-! The package-level errors. -/
theorem star : "*" ++ "errors.errorString" = "*errors.errorString" := by decide
theorem rowES (u : TypeId) (h : Tryz.prog.typeName? 3 u = some "*errors.errorString") : u = 238 :=
  typeName_ptr_named (nm := "errors.errorString") (by rw [star]; kernel_rfl) (by kernel_rfl) (by decide) u (by rw [star]; exact h)
theorem pES : Tryz.prog.underlying 238 = some (.pointer 259) := by kernel_rfl
theorem cES : Tryz.prog.cellsOf 259 = 1 := by kernel_rfl
theorem cStr : Tryz.prog.cellsOf 9 = 1 := by kernel_rfl

def laid12 : List (String × DataW Unit) := [("eden/api.BadRule", Rows.laid_eden_api_BadRule), ("eden/api.BadWord", Rows.laid_eden_api_BadWord), ("eden/api.BadArg", Rows.laid_eden_api_BadArg), ("eden/api.TooBig", Rows.laid_eden_api_TooBig), ("eden/api.NoBudget", Rows.laid_eden_api_NoBudget), ("eden/api.BadText", Rows.laid_eden_api_BadText), ("eden/api.BadPatch", Rows.laid_eden_api_BadPatch), ("eden/api.BadCert", Rows.laid_eden_api_BadCert), ("eden/api.NoInverse", Rows.laid_eden_api_NoInverse), ("eden/api.BadLine", Rows.laid_eden_api_BadLine), ("eden/api.BadState", Rows.laid_eden_api_BadState), ("eden/api.Unknown", Rows.laid_eden_api_Unknown)]

theorem sentinel {n : String} {text : List UInt8} {r : List (String × DataW Unit)} {W : World} {g : Nat}
    (h : laidMet Tryz.prog ((n, .iface "*errors.errorString" (.ptr (.agg [.lit (.string text)]))) :: r) W)
    (hg : Tryz.prog.globalNamed n = some g) (ht : (Tryz.prog.globals[g]?).map (·.type) = some 28) :
    (∃ a : Addr, W.cell? ⟨g, 0, none⟩ = some (.iface 238 (.pointer (some a))) ∧ ∃ s, W.cell? a = some (.string s) ∧ s.data.toList = text) ∧ laidMet Tryz.prog r W := by
  refine ⟨?_, h.tail⟩
  obtain ⟨a, s, hv, hc, hs, _⟩ := laid_sentinel h hg ht Tryz.underlying28 rowES pES Tryz.underlying259 rfl rfl Tryz.underlying9 cES cStr
  exact ⟨a, by simpa using World.var?_cell hg hv 0, s, hc, hs⟩

def txt : Nat → List UInt8
  | 1 => [98, 97, 100, 32, 114, 117, 108, 101]
  | 2 => [98, 97, 100, 32, 119, 111, 114, 100]
  | 3 => [98, 97, 100, 32, 97, 114, 103, 117, 109, 101, 110, 116]
  | 4 => [116, 111, 111, 32, 98, 105, 103]
  | 5 => [110, 111, 32, 98, 117, 100, 103, 101, 116]
  | 6 => [98, 97, 100, 32, 116, 101, 120, 116]
  | 7 => [98, 97, 100, 32, 112, 97, 116, 99, 104]
  | 8 => [98, 97, 100, 32, 99, 101, 114, 116, 105, 102, 105, 99, 97, 116, 101]
  | 9 => [110, 111, 32, 105, 110, 118, 101, 114, 115, 101]
  | 10 => [98, 97, 100, 32, 108, 105, 110, 101]
  | 11 => [98, 97, 100, 32, 115, 116, 97, 116, 101]
  | 99 => [117, 110, 107, 110, 111, 119, 110]
  | _ => []
theorem txt_apart : ∀ m n : Fin 12, 1 ≤ m.val → 1 ≤ n.val → txt m.val = txt n.val → m = n := by decide

theorem glob_of_laid {W : World} (h : laidMet Tryz.prog laid12 W) : ∃ r, Glob r W := by
  obtain ⟨⟨a1, c1, s1, e1, t1⟩, h⟩ := sentinel (text := txt 1) h (g := 0) (by kernel_rfl) (by kernel_rfl)
  obtain ⟨⟨a2, c2, s2, e2, t2⟩, h⟩ := sentinel (text := txt 2) h (g := 1) (by kernel_rfl) (by kernel_rfl)
  obtain ⟨⟨a3, c3, s3, e3, t3⟩, h⟩ := sentinel (text := txt 3) h (g := 2) (by kernel_rfl) (by kernel_rfl)
  obtain ⟨⟨a4, c4, s4, e4, t4⟩, h⟩ := sentinel (text := txt 4) h (g := 3) (by kernel_rfl) (by kernel_rfl)
  obtain ⟨⟨a5, c5, s5, e5, t5⟩, h⟩ := sentinel (text := txt 5) h (g := 4) (by kernel_rfl) (by kernel_rfl)
  obtain ⟨⟨a6, c6, s6, e6, t6⟩, h⟩ := sentinel (text := txt 6) h (g := 5) (by kernel_rfl) (by kernel_rfl)
  obtain ⟨⟨a7, c7, s7, e7, t7⟩, h⟩ := sentinel (text := txt 7) h (g := 6) (by kernel_rfl) (by kernel_rfl)
  obtain ⟨⟨a8, c8, s8, e8, t8⟩, h⟩ := sentinel (text := txt 8) h (g := 7) (by kernel_rfl) (by kernel_rfl)
  obtain ⟨⟨a9, c9, s9, e9, t9⟩, h⟩ := sentinel (text := txt 9) h (g := 8) (by kernel_rfl) (by kernel_rfl)
  obtain ⟨⟨a10, c10, s10, e10, t10⟩, h⟩ := sentinel (text := txt 10) h (g := 9) (by kernel_rfl) (by kernel_rfl)
  obtain ⟨⟨a11, c11, s11, e11, t11⟩, h⟩ := sentinel (text := txt 11) h (g := 10) (by kernel_rfl) (by kernel_rfl)
  obtain ⟨⟨a99, c99, s99, e99, t99⟩, h⟩ := sentinel (text := txt 99) h (g := 11) (by kernel_rfl) (by kernel_rfl)
  clear h
  have key : ∀ n : Nat, (1 ≤ n ∧ n ≤ 11) ∨ n = 99 → ∃ s, W.cell? ((fun n : Nat => match n with | 1 => a1 | 2 => a2 | 3 => a3 | 4 => a4 | 5 => a5 | 6 => a6 | 7 => a7 | 8 => a8 | 9 => a9 | 10 => a10 | 11 => a11 | _ => a99) n) = some (.string s) ∧ s.data.toList = txt n := by
    intro n hn
    have : n = 1 ∨ n = 2 ∨ n = 3 ∨ n = 4 ∨ n = 5 ∨ n = 6 ∨ n = 7 ∨ n = 8 ∨ n = 9 ∨ n = 10 ∨ n = 11 ∨ n = 99 := by omega
    rcases this with rfl | rfl | rfl | rfl | rfl | rfl | rfl | rfl | rfl | rfl | rfl | rfl
    · exact ⟨s1, e1, t1⟩
    · exact ⟨s2, e2, t2⟩
    · exact ⟨s3, e3, t3⟩
    · exact ⟨s4, e4, t4⟩
    · exact ⟨s5, e5, t5⟩
    · exact ⟨s6, e6, t6⟩
    · exact ⟨s7, e7, t7⟩
    · exact ⟨s8, e8, t8⟩
    · exact ⟨s9, e9, t9⟩
    · exact ⟨s10, e10, t10⟩
    · exact ⟨s11, e11, t11⟩
    · exact ⟨s99, e99, t99⟩
  refine ⟨(fun n : Nat => match n with | 1 => a1 | 2 => a2 | 3 => a3 | 4 => a4 | 5 => a5 | 6 => a6 | 7 => a7 | 8 => a8 | 9 => a9 | 10 => a10 | 11 => a11 | _ => a99), c1, c2, c3, c4, c5, c6, c7, c8, c9, c10, c11, c99, (fun n hn => ?_), fun m n hm1 hm2 hn1 hn2 he => ?_⟩
  · obtain ⟨s, hs, _⟩ := key n hn
    exact ⟨s, hs⟩
  · obtain ⟨s, hs, ts⟩ := key m.toNat (by omega)
    obtain ⟨s', hs', ts'⟩ := key n.toNat (by omega)
    have hss : s = s' := by
      have := hs.symm.trans ((congrArg W.cell? he).trans hs')
      simpa using this
    subst hss
    have := txt_apart ⟨m.toNat, by omega⟩ ⟨n.toNat, by omega⟩ (by simp; omega) (by simp; omega) (ts.symm.trans ts')
    have := congrArg Fin.val this
    simp at this
    omega
end Go.Proofs.YtilpckngghffoaaGreatDoor

namespace Go.Proofs.YtilpckngghffoaaGreatDoor
open Go.RowKit
set_option maxRecDepth 100000

def laid13 : List (String × DataW Unit) := ("errors.errorType", Rows.laid_errors_errorType) :: laid12
theorem rtypeNo : (Tryz.prog.cutTypes.find? (·.1 == "internal/reflectlite.rtype")).map (·.2) = some 169 := by kernel_rfl
theorem errorTypeNo : Tryz.prog.globalNamed "errors.errorType" = some 12 := by kernel_rfl
theorem typesNo : Tryz.prog.types.size = 371 - 100 := by kernel_rfl
theorem oneError : ((List.range (371 - 100)).filter fun t => Tryz.prog.rowNamed t [101, 114, 114, 111, 114]) = [28] := by kernel_rfl
theorem handleErr : typeHandle Tryz.prog 28 = .pointer (some ⟨13, 28, none⟩) := by kernel_rfl

theorem glob_of_laidH {W : World} (h : laidMetH Tryz.prog laid13 W) : ∃ r, Glob r W ∧ GlobE W := by
  have h' : laidMet Tryz.prog laid12 W ∧ handlesMet Tryz.prog [("errors.errorType", Rows.laid_errors_errorType)] W := h
  obtain ⟨r, hg⟩ := glob_of_laid h'.1
  refine ⟨r, hg, ?_⟩
  obtain ⟨name, u, ty, e1, e2, e3, e4, e5⟩ := h'.2 _ (List.mem_cons_self ..)
  have en : name = [101, 114, 114, 111, 114] := (Option.some.inj e1).symm
  subst en
  obtain rfl := Option.some.inj (rtypeNo.symm.trans e2)
  have hm : ty ∈ (List.range (371 - 100)).filter fun t => Tryz.prog.rowNamed t [101, 114, 114, 111, 114] := List.mem_filter.2 ⟨List.mem_range.2 (by rw [← typesNo]; exact e3), e4⟩
  rw [oneError] at hm
  obtain rfl := List.mem_singleton.1 hm
  rw [handleErr] at e5
  simpa [GlobE] using World.var?_cell errorTypeNo e5 0
end Go.Proofs.YtilpckngghffoaaGreatDoor

namespace Go.Proofs.YtilpckngghffoaaGreatDoor
open Go.ChangeShapes Go.WideShapes Go.ChangeAt Go.RowKit Go.Joins
namespace InjectTellsP

set_option maxRecDepth 100000 in
theorem door_met (os : Os) (args : Array Value) : laidMetH Tryz.prog Rows.injectTellsRow.laid ((World.doorLaid Tryz.prog 400 os).forCall (fun _ _ => 0) ⟨#[], args, []⟩).memory :=
  laidMetH_of_parts3 (fuel := 8) (laidMet_of_run' 8 (by kernel_rfl) (by kernel_rfl)) (by kernel_rfl) (by kernel_rfl)

set_option maxRecDepth 100000 in
theorem lifted (os : Os) (started : os.Started) (H : Type) (enc : TypeId × Value → H) :
    ReturnsInHanded {} Tryz.checked os 6 .any (fun w args => (Rows.injectTellsSpec.pre enc Tryz.prog Tryz.f6 [] false w args ∧ laidMetH Tryz.prog Rows.injectTellsRow.laid w) ∧ sizedMet enc Tryz.prog Tryz.f6 (OpenSpec.ofChange Rows.injectTellsSpec) false w args)
      (Rows.injectTellsSpec.post enc Tryz.prog Tryz.f6 false true false false) := by
  refine returnsInHanded_of_change_and (C := Tryz.checked) (X := fun w _ => laidMetH Tryz.prog Rows.injectTellsRow.laid w) (fun _ _ _ hh h => h.of_heap hh) own started (by kernel_rfl) Tryz.func6
    (ChangeSpec.witness_shaped (enc := enc) (C := Tryz.checked) (os := os) (X := fun w _ => laidMetH Tryz.prog Rows.injectTellsRow.laid w) false (World.doorLaid Tryz.prog 400 os) #[.agg #[.int .i64 0, .int .i64 0, .slice none 0 0]] 8 rfl (World.shaped_of_RefB (by kernel_rfl) (by kernel_rfl)) (by kernel_rfl) (by kernel_rfl) (by kernel_rfl) (door_met os _)) ?_
  intro W base args ds gs before hval0 hW _ hsz hL _
  have hval : ∀ (j : Nat) t v, Tryz.f6.params[j]? = some t → args[j]? = some v → Value.okWide Tryz.prog W .any base t v := hval0
  have hW' := hW
  obtain ⟨p, q, hA0, hV, rfl, hfz, hnd⟩ := hW
  have hA : DataW.TrodAll enc Tryz.prog W 0 (fun _ => true) true Tryz.f6.params.toList args.toList ds p := hA0
  rw [Tryz.params6] at hA hval hsz
  obtain ⟨v0, vs0, d0, ds0, p0, q0, hargs, rfl, rfl, g0, t0⟩ := trodAll_cons hA
  obtain ⟨rfl, rfl, rfl⟩ := trodAll_nil t0
  obtain rfl : args = #[v0] := by cases args; simp_all
  obtain ⟨rfl, rfl⟩ := trodVars_none hV
  have kk0 := g0
  have lt0 : ∀ x ∈ p0, x.block < W.heap.size := by obtain ⟨m, hm⟩ := kk0; exact DataW.trod_lt m _ _ _ hm
  obtain ⟨kr0, rr0, u0, x0, rfl, h0, l0, b0, bk0, br0⟩ := open_ruleV (hval 0 24 v0 rfl rfl) g0 (fun n hn => by
    have := List.all_eq_true.1 hsz n (DataW.weights_mem_each (j := 0) (t := 24) rfl rfl n hn)
    simpa using this)
  obtain ⟨r, hg, hG⟩ := glob_of_laidH (W := W) (by
    exact hL)
  clear hA0 hval0
  refine (injectTells_any r kr0 rr0 u0 x0 W hg hG h0 l0).mono fun e W' ⟨x, he, bel, hxx⟩ => ?_
  subst he; subst hxx
  exact ⟨_, rfl, _, _, _, [], _, [], hW', trodAll_mk1 (shut_bool Tryz.underlying4 _), (trodAll_cons_mk (Below.trod laidOut (by kernel_rfl) (of_decide_eq_true (by kernel_rfl)) kk0 bel lt0) trodAll_mk0), rfl, bel.frame _, fun h => by cases h⟩

theorem over : Rows.InjectTellsSaid :=
  OpenClaim.holds_of_wide 6 Tryz.f6 rfl rfl rfl rfl rfl rfl rfl ⟨rfl, rfl, rfl, rfl, rfl⟩ rfl rfl rfl rfl rfl (by kernel_rfl) Tryz.func6 (by kernel_rfl)
    (of_decide_eq_true (by kernel_rfl)) (by unfold Func.isWrapper; first | (rw [if_pos (by decide +kernel)]; kernel_rfl) | (rw [if_neg (by decide +kernel)]; exact ⟨rfl, rfl⟩))
    (fun os started H enc _ => lifted os started H enc)

/-- The tied card. -/
theorem card_holds : Rows.InjectTellsCardSaid :=
  Claim7.holds_tied_plain_at .later [] [.handle, .sentinel, .sentinel, .sentinel, .sentinel, .sentinel, .sentinel, .sentinel, .sentinel, .sentinel, .sentinel, .sentinel, .sentinel] true _ _
    over (fun _ h => by cases h) (by kernel_rfl) (fun _ h => by cases h) injectTells_row_tie rfl ⟨rfl, rfl⟩ (by kernel_rfl) rfl
    (fun f fn hf hfn => by
      obtain rfl : f = 6 := Option.some.inj ((show Tryz.prog.funcNamed Rows.injectTellsRow.func = some 6 by kernel_rfl).symm.trans hf) |>.symm
      obtain rfl : fn = Tryz.f6 := (Option.some.inj (Tryz.func6.symm.trans hfn)).symm
      exact ⟨by kernel_rfl, fun j t ht => by
        rw [Tryz.params6] at ht
        have hm : t ∈ [24] := by simpa using Array.mem_of_getElem? ht
        have hall : ([24].all fun u => !Tryz.prog.wantsStandIn u) = true := by kernel_rfl
        exact (show Tryz.prog.wantsStandIn t = false by simpa using List.all_eq_true.1 hall t hm)⟩)
    (by kernel_rfl)
end InjectTellsP
#print axioms InjectTellsP.card_holds
end Go.Proofs.YtilpckngghffoaaGreatDoor
