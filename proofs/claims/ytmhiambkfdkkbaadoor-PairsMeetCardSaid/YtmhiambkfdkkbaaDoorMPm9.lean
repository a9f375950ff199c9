/-
  Proved: the law edenlaw13.PairsMeet as its tied card: it returns true and never panics, for any rule and any two lists. No conditions beyond the card's own.
  Walk: edenlaw13.PairsMeet returns true.
  Opening what a call is handed: []int, api.Rule, the package-level errors.
-/
import Derived.Test.YtmhiambkfdkkbaaDoorMPm8
import Derived.Test.YtmhiambkfdkkbaaDoorRows
import Derived.ProofKit
import Derived.OpenShut
import Derived.ShutString
import Derived.ChangeOld
import Derived.LaidMore
import Derived.Stop.Joined
import Derived.Stop.LaidErr
import Derived.Lib.SmallJoins
import Derived.Test.YtmhiambkfdkkbaaDoorCards
import Derived.Test.YtmhiambkfdkkbaaDoorTie
import Derived.SevenTiedAt
namespace Go.Proofs.YtmhiambkfdkkbaaDoor
open Go.RowKit
set_option maxRecDepth 100000

theorem ErrIs.or {r : Nat → Addr} {w : World} {t : PErr} {v : Value} (h : ErrIs r w t v) : v = .nilIface ∨ ∃ T a, v = .iface T (.pointer (some a)) := by
  cases t with
  | none => exact .inl h.none_eq
  | some t => exact .inr h.some_shape
theorem working13_ok (r : Nat → Addr) (K R : Nat) (va : Option Addr) (vn vc : Nat) (T : List Int) (w : World) (hg : Glob r w) (h : IntsAt w (.slice va vn vc) T) (hr : RuleOk K R T) :
    Calls Tryd.prog 15 #[.agg #[.int .i64 K, .int .i64 R, .slice va vn vc]] w (Ret1 (fun x w' => ∃ a n c, x = .agg #[.int .i64 K, .int .i64 ((wkR R : Nat) : Int), .slice a n c] ∧ IntsAt w' (.slice a n c) (wkT K R T)) w) := by
  refine (working13_any r K R va vn vc T w hg h).mono ?_
  rintro e w' ⟨v, rfl, b, R2, a, n, c, T2, rfl, hT, hk⟩
  obtain ⟨rfl, rfl⟩ := hk hr.check
  exact ⟨_, rfl, b, a, n, c, by simp, by simpa using hT⟩
theorem wayP_is {K R : Nat} {T x y : List Int} (hx : Syms K x) (hy : Syms K y) (hxl : x.length ≤ 4096) (hyl : y.length ≤ 4096) (hl : x.length = y.length) (hm : 2 * R ≤ x.length) : wayP K R T x y = if imgP K R T x = imgP K R T y then none else fresh sPairs 2 3 := by
  unfold wayP
  rw [lookP_ok _ _ hxl hx, lookP_ok _ _ hyl hy]
  simp only []
  rw [if_neg (by omega)]
theorem wayW_at {K m : Nat} {x y : List Int} {i L : Nat} (hL : (wayW K m x y).length = L) (h : i < L) : (wayW K m x y)[i]? = some (nodeAt K m x i * pw K m + nodeAt K m y i) := by
  subst hL
  rw [wayW_len] at h
  rw [← wayW_get (by omega), List.getD_eq_getElem?_getD, List.getElem?_eq_getElem (by rw [wayW_len]; exact h), Option.getD_some]

set_option maxHeartbeats 2000000 in
theorem pairsMeet_bad (r : Nat → Addr) (k R : Int) (va : Option Addr) (vn vc : Nat) (T : List Int) (ua : Option Addr) (un uc : Nat) (x : List Int) (ya : Option Addr) (yn yc : Nat) (y : List Int) (t : Int × List (ByteArray × Int)) (w : World) (hg : Glob r w) (h : IntsAt w (.slice va vn vc) T) (hu : IntsAt w (.slice ua un uc) x) (hv : IntsAt w (.slice ya yn yc) y) (hc : smallP k R T = some t) :
    Calls Tryd.prog 4 #[.agg #[.int .i64 k, .int .i64 R, .slice va vn vc], .slice ua un uc, .slice ya yn yc] w (Ret1 (fun x _ => x = .bool true) w) := by
  have b0 := belowAlloc w (.cells #[.int .i64 k, .int .i64 R, .slice va vn vc] 24)
  have q : Box3 (w.alloc (.cells #[.int .i64 k, .int .i64 R, .slice va vn vc] 24)) w.heap.size (.int .i64 k) (.int .i64 R) (.slice va vn vc) := by simp [Box3, go_sem]
  replace hg := Lib.hid (hg.below b0)
  replace h := Lib.hid (h.below b0)
  replace hu := Lib.hid (hu.below b0)
  replace hv := Lib.hid (hv.below b0)
  replace hc := Lib.hid hc
  go_enter Tryd.func4, Tryd.ntmps4
  go_wp2_with fail
  refine (awake13 r _ hg.out).mono ?_
  rintro e w1 ⟨_, rfl, b1, rfl⟩
  obtain ⟨⟨z0, z1, z2⟩, -, -, -⟩ := q.below b1
  go_wp2_with fail
  refine (working13_any r k R va vn vc T w1 (hg.out.below b1) (h.out.below b1)).mono ?_
  rintro e w2 ⟨_, rfl, b2, R2, wa, wn, wc, T2, rfl, hT2, -⟩
  have ba := belowAlloc w2 (.cells #[.int .i64 k, .int .i64 R2, .slice wa wn wc] 24)
  have qw : Box3 (w2.alloc (.cells #[.int .i64 k, .int .i64 R2, .slice wa wn wc] 24)) w2.heap.size (.int .i64 k) (.int .i64 R2) (.slice wa wn wc) := by simp [Box3, go_sem]
  have b12 := Below.step b1 (Below.step b2 ba)
  replace hT2 := Lib.hid (hT2.below ba)
  clear z0 z1 z2
  go_wp2_with fail
  refine (step_any r k R2 wa wn wc T2 (.slice ua un uc) x _ (hg.out.below b12) hT2.out (hu.out.below b12)).mono ?_
  rintro e w3 ⟨av, e1, rfl, b3, hE1, -, -⟩
  have b13 := Below.step b12 b3
  obtain ⟨⟨z0, z1, z2⟩, -, -, -⟩ := qw.below b3
  replace hE1 := Lib.hid hE1.or
  go_wp2_with fail
  refine (step_any r k R2 wa wn wc T2 (.slice ya yn yc) y _ (hg.out.below b13) (hT2.out.below b3) (hv.out.below b13)).mono ?_
  rintro e w4 ⟨bv, e2, rfl, b4, hE2, -, -⟩
  have b14 := Below.step b13 b4
  clear z0 z1 z2
  obtain ⟨⟨z0, z1, z2⟩, -, -, -⟩ := q.below b14
  replace hE2 := Lib.hid hE2.or
  go_wp2_with fail
  refine (pgraph_bad r k R va vn vc T t w4 (hg.out.below b14) (h.out.below b14) hc.out).mono ?_
  rintro e w5 ⟨gv, y, rfl, b5, rfl, hy⟩
  obtain ⟨T5, a5, rfl⟩ : ∃ T a, y = .iface T (.pointer (some a)) := by
    unfold under at hy
    exact ErrIs.some_shape hy
  have bE := Below.step b0 (Below.step b14 b5)
  clear z0 z1 z2 hy
  rcases hE1.out with rfl | ⟨T6, a6, rfl⟩
  · rcases hE2.out with rfl | ⟨T7, a7, rfl⟩
    · clear hE1 hE2
      go_wp2
      go_ret
      exact ⟨_, rfl, bE, rfl⟩
    · clear hE1 hE2
      go_wp2
      go_ret
      exact ⟨_, rfl, bE, rfl⟩
  · clear hE1 hE2
    go_wp2
    go_ret
    exact ⟨_, rfl, bE, rfl⟩

set_option maxHeartbeats 8000000 in
theorem pairsMeet_ok (r : Nat → Addr) (K R : Nat) (va : Option Addr) (vn vc : Nat) (T : List Int) (ua : Option Addr) (un uc : Nat) (x : List Int) (ya : Option Addr) (yn yc : Nat) (y : List Int) (w : World) (hg : Glob r w) (h : IntsAt w (.slice va vn vc) T) (hu : IntsAt w (.slice ua un uc) x) (hv : IntsAt w (.slice ya yn yc) y) (hr : RuleOk K R T) (hl : T.length ≤ 256) :
    Calls Tryd.prog 4 #[.agg #[.int .i64 K, .int .i64 R, .slice va vn vc], .slice ua un uc, .slice ya yn yc] w (Ret1 (fun x _ => x = .bool true) w) := by
  have b0 := belowAlloc w (.cells #[.int .i64 K, .int .i64 R, .slice va vn vc] 24)
  have q : Box3 (w.alloc (.cells #[.int .i64 K, .int .i64 R, .slice va vn vc] 24)) w.heap.size (.int .i64 K) (.int .i64 R) (.slice va vn vc) := by simp [Box3, go_sem]
  have hk1 := hr.k1
  have hk4 := hr.k4
  have hokW := wk_ok hr
  have hlW := wk_small hr hl
  have hRW1 := wk_pos R
  have hRW3 := hokW.r3
  have hN81 := nodes_le hokW hRW1 hlW
  have hN1 := pw_pos (K := K) (2 * wkR R) hk1
  have lx := hu.len
  have ly := hv.len
  have lxm := hu.len_le
  have lym := hv.len_le
  have hwork := fun (w' : World) (hgl : Glob r w') (hT : IntsAt w' (.slice va vn vc) T) => working13_ok r K R va vn vc T w' hgl hT hr
  have hgraph := fun (w' : World) (hgl : Glob r w') (hT : IntsAt w' (.slice va vn vc) T) => pgraph_ok r K R va vn vc T w' hgl hT hr hl
  have hway := fun (yv : Value) (y : List Int) (w' : World) (hgl : Glob r w') (hT : IntsAt w' (.slice va vn vc) T) (hu : IntsAt w' (.slice ua un uc) x) (hv : IntsAt w' yv y) => pway_ok r K R va vn vc T (.slice ua un uc) yv x y w' hgl hT hu hv hr hl
  have hwords := fun (v : Value) (ns : List Nat) (w' : World) (hgl : Glob r w') (hT : IntsAt w' (.slice va vn vc) T) => pwords_way r K R va vn vc T v ns w' hgl hT hr hl
  obtain ⟨RW, hRW⟩ : ∃ RW, wkR R = RW := ⟨_, rfl⟩
  obtain ⟨TW, hTW⟩ : ∃ TW, wkT K R T = TW := ⟨_, rfl⟩
  obtain ⟨N, hN⟩ : ∃ N, pw K (2 * RW) = N := ⟨_, rfl⟩
  obtain ⟨M, hM⟩ : ∃ M, N * N = M := ⟨_, rfl⟩
  rw [hRW, hTW] at hwork hgraph hway hwords hokW
  rw [hRW] at hRW1 hRW3 hN81 hN1
  rw [hN] at hgraph hwords hN81 hN1
  rw [hM] at hgraph hwords
  have hM6 : M ≤ 6561 := by rw [← hM]; exact Nat.mul_le_mul hN81 hN81
  have hM1 : 1 ≤ M := by rw [← hM]; exact Nat.mul_le_mul hN1 hN1
  replace hwork := Lib.hid hwork
  replace hgraph := Lib.hid hgraph
  replace hway := Lib.hid hway
  replace hwords := Lib.hid hwords
  replace hg := Lib.hid (hg.below b0)
  replace h := Lib.hid (h.below b0)
  replace hu := Lib.hid (hu.below b0)
  replace hv := Lib.hid (hv.below b0)
  replace hr := Lib.hid hr
  replace hokW := Lib.hid hokW
  replace hRW := Lib.hid hRW
  replace hTW := Lib.hid hTW
  replace hN := Lib.hid hN
  replace hM := Lib.hid hM
  obtain ⟨X, hX⟩ : ∃ X, x.length = X := ⟨_, rfl⟩
  obtain ⟨Y, hY⟩ : ∃ Y, y.length = Y := ⟨_, rfl⟩
  rw [hX] at lx lxm
  rw [hY] at ly lym
  replace hX := Lib.hid hX
  replace hY := Lib.hid hY
  clear hlW
  go_enter Tryd.func4, Tryd.ntmps4
  go_wp2_with fail
  refine (awake13 r _ hg.out).mono ?_
  rintro e w1 ⟨_, rfl, b1, rfl⟩
  obtain ⟨⟨z0, z1, z2⟩, -, -, -⟩ := q.below b1
  go_wp2_with fail
  refine (hwork.out w1 (hg.out.below b1) (h.out.below b1)).mono ?_
  rintro e w2 ⟨_, rfl, b2, wa, wn, wc, rfl, hT2⟩
  have ba := belowAlloc w2 (.cells #[.int .i64 K, .int .i64 RW, .slice wa wn wc] 24)
  have qw : Box3 (w2.alloc (.cells #[.int .i64 K, .int .i64 RW, .slice wa wn wc] 24)) w2.heap.size (.int .i64 K) (.int .i64 RW) (.slice wa wn wc) := by simp [Box3, go_sem]
  have b12 := Below.step b1 (Below.step b2 ba)
  replace hT2 := Lib.hid (hT2.below ba)
  clear z0 z1 z2
  go_wp2_with fail
  refine (step_any r K RW wa wn wc TW (.slice ua un uc) x _ (hg.out.below b12) hT2.out (hu.out.below b12)).mono ?_
  rintro e w3 ⟨av, e1, rfl, b3, hE1, ho1, -⟩
  have b13 := Below.step b12 b3
  obtain ⟨⟨z0, z1, z2⟩, -, -, -⟩ := qw.below b3
  replace hE1 := Lib.hid hE1
  replace ho1 := Lib.hid ho1
  go_wp2_with fail
  refine (step_any r K RW wa wn wc TW (.slice ya yn yc) y _ (hg.out.below b13) (hT2.out.below b3) (hv.out.below b13)).mono ?_
  rintro e w4 ⟨bv, e2, rfl, b4, hE2, ho2, -⟩
  have b14 := Below.step b13 b4
  clear z0 z1 z2
  obtain ⟨⟨z0, z1, z2⟩, -, -, -⟩ := q.below b14
  replace hE2 := Lib.hid hE2
  replace ho2 := Lib.hid ho2
  go_wp2_with fail
  refine (hgraph.out w4 (hg.out.below b14) (h.out.below b14)).mono ?_
  rintro e w5 ⟨gv, _, rfl, b5, rfl, f, vals, hrows, hwn⟩
  have b15 := Below.step b14 b5
  have bE := Below.step b0 b15
  have hL := hwn.lists hrows
  have lg := hL.len 3
  rw [rowsOf_len] at lg
  clear z0 z1 z2 hrows hwn
  replace hL := Lib.hid hL
  obtain ⟨⟨v0, v1, v2⟩, -, -, -⟩ := qw.below (Below.step b3 (Below.step b4 b5))
  cases hs1 : stepE K RW TW x with
  | some t =>
    rw [hs1] at hE1
    obtain ⟨T6, a6, rfl⟩ := ErrIs.some_shape hE1.out
    replace hs1 := Lib.hid hs1
    clear hE1 hE2 ho1 ho2
    go_wp2
    go_ret
    exact ⟨_, rfl, bE, rfl⟩
  | none =>
    rw [hs1] at hE1
    obtain rfl := hE1.out.none_eq
    have hoa := ho1.out hs1
    obtain ⟨K', Q', eK, eQ, -, hsx, hx4⟩ := stepE_none hs1
    obtain rfl : K = K' := by omega
    clear hE1 ho1 eQ eK
    replace hs1 := Lib.hid hs1
    rw [Int.toNat_natCast, Int.toNat_natCast] at hoa
    replace hoa := Lib.hid hoa
    replace hsx := Lib.hid hsx
    cases hs2 : stepE K RW TW y with
    | some t =>
      rw [hs2] at hE2
      obtain ⟨T6, a6, rfl⟩ := ErrIs.some_shape hE2.out
      replace hs2 := Lib.hid hs2
      clear hE2 ho2
      go_wp2
      go_ret
      exact ⟨_, rfl, bE, rfl⟩
    | none =>
      rw [hs2] at hE2
      obtain rfl := hE2.out.none_eq
      have hob := ho2.out hs2
      obtain ⟨K', Q', eK, eQ, -, hsy, hy4⟩ := stepE_none hs2
      obtain rfl : K = K' := by omega
      clear hE2 ho2 eQ eK
      replace hs2 := Lib.hid hs2
      rw [Int.toNat_natCast, Int.toNat_natCast] at hob
      replace hob := Lib.hid hob
      replace hsy := Lib.hid hsy
      rw [hX.out] at hx4
      rw [hY.out] at hy4
      by_cases hXY : X = Y
      case neg =>
        have d1 : ((X : Int) != (Y : Int)) = true := by rw [bne_iff_ne]; omega
        replace hXY := Lib.hid hXY
        go_wp2
        go_ret
        exact ⟨_, rfl, bE, rfl⟩
      subst hXY
      have d1 : ((X : Int) != (X : Int)) = false := by simp
      by_cases hlow : X < 2 * RW
      · have d2 : decide ((X : Int) < 2 * (RW : Int)) = true := decide_eq_true (by omega)
        go_wp2
        go_ret
        exact ⟨_, rfl, bE, rfl⟩
      have d2 : decide ((X : Int) < 2 * (RW : Int)) = false := decide_eq_false (by omega)
      by_cases h200 : 200 < X
      · have d3 : decide ((200 : Int) < (X : Int)) = true := decide_eq_true (by omega)
        go_wp2
        go_ret
        exact ⟨_, rfl, bE, rfl⟩
      have d3 : decide ((200 : Int) < (X : Int)) = false := decide_eq_false (by omega)
      have hX200 : X ≤ 200 := by omega
      have hpis := wayP_is (T := TW) (R := RW) hsx.out hsy.out (by rw [hX.out]; exact hx4) (by rw [hY.out]; exact hy4) (by rw [hX.out, hY.out]) (by rw [hX.out]; omega)
      have hpxx : wayP K RW TW x x = Option.none := by rw [wayP_is hsx.out hsx.out (by rw [hX.out]; exact hx4) (by rw [hX.out]; exact hx4) rfl (by rw [hX.out]; omega), if_pos rfl]
      obtain ⟨L, hLd⟩ : ∃ L, X - 2 * RW + 1 = L := ⟨_, rfl⟩
      have hWx : (wayW K (2 * RW) x x).length = L := by rw [wayW_len, hX.out]; exact hLd
      have hL1 : 1 ≤ L := by omega
      have hL2 : L ≤ 201 := by omega
      have d4 : ((L : Int) != (X : Int) - 2 * (RW : Int) + 1) = false := by rw [bne_eq_false_iff_eq]; omega
      have hLX : L + 2 * RW = X + 1 := by omega
      replace hLd := Lib.hid hLd
      replace hWx := Lib.hid hWx
      replace hpxx := Lib.hid hpxx
      obtain ⟨⟨z0, z1, z2⟩, -, -, -⟩ := q.below b15
      by_cases hI : imgP K RW TW x = imgP K RW TW y
      · go_wp2_with fail
        refine (hway.out (.slice ya yn yc) y w5 (hg.out.below b15) (h.out.below b15) (hu.out.below b15) (hv.out.below b15)).mono ?_
        rintro e w6 ⟨wv, ie, rfl, b6, hE6, hbad6, hok6⟩
        have b16 := Below.step b15 b6
        rw [if_pos hI] at hpis
        rw [hpis] at hE6
        obtain rfl := hE6.none_eq
        have how := hok6 hpis
        have lw := how.at.len
        have hWl : (wayW K (2 * RW) x y).length = L := by rw [wayW_len, hX.out]; exact hLd.out
        rw [castI_len, hWl] at lw
        obtain ⟨pa, pn, pc, rfl⟩ := how.at.shape
        replace how := Lib.hid how
        replace hWl := Lib.hid hWl
        replace hpis := Lib.hid hpis
        replace hI := Lib.hid hI
        clear z0 z1 z2 hE6 hbad6 hok6
        go_upto_region 10 with fail
        refine wp_region_plan (fun _ => True) 5 [(0, true), (1, true), (2, true), (3, true), (4, false)] (by kernel_rfl) (by kernel_rfl) ?_
        have hS : True := trivial
        refine headY (v := ?_) (some 86) rfl rfl (Or.inl ⟨by rfl, ?_⟩) hS ?_
        rotate_left
        · rintro W' _; go_simp; try with_reducible rfl
        simp only [Act.put, List.setIfInBounds_toArray, List.set_cons_zero, List.set_cons_succ]
        refine headY (v := ?_) (some 87) rfl rfl (Or.inl ⟨by rfl, ?_⟩) hS ?_
        rotate_left
        · rintro W' _; go_simp; try with_reducible rfl
        simp only [Act.put, List.setIfInBounds_toArray, List.set_cons_zero, List.set_cons_succ]
        refine headY (v := ?_) (some 88) rfl rfl (Or.inl ⟨by rfl, ?_⟩) hS ?_
        rotate_left
        · rintro W' _; go_simp; try with_reducible rfl
        simp only [Act.put, List.setIfInBounds_toArray, List.set_cons_zero, List.set_cons_succ]
        refine headY (v := ?_) (some 89) rfl rfl (Or.inl ⟨by rfl, ?_⟩) hS ?_
        rotate_left
        · rintro W' _; go_simp; try with_reducible rfl
        simp only [Act.put, List.setIfInBounds_toArray, List.set_cons_zero, List.set_cons_succ]
        refine headC rfl (fun KK hK => ?_)
        go_simp
        refine (ints_any av bv _ _ w6.drew ((hoa.out.at.below (Below.step b4 (Below.step b5 b6))).drew) ((hob.out.at.below (Below.step b5 b6)).drew)).mono ?_
        rintro e w7 h7
        obtain ⟨rfl, b7⟩ := h7.below
        clear h7
        rw [show decide (imgP K RW TW x = imgP K RW TW y) = true by simp [hI.out]]
        refine hK _ _ trivial ?_
        clear hK KK
        refine head0 ?_
        simp only [List.drop_succ_cons, List.drop_zero]
        have b67 : Below w6.heap.size w6 w7 := Below.step ((Below.refl _ _).drew) b7
        have b17 := Below.step b16 b67
        obtain ⟨⟨z0, z1, z2⟩, -, -, -⟩ := q.below b17
        clear hS
        go_wp2
        refine NoPanic.normal ?_
        go_wp2_with fail
        refine (hway.out (.slice ua un uc) x w7 (hg.out.below b17) (h.out.below b17) (hu.out.below b17) (hu.out.below b17)).mono ?_
        rintro e w8 ⟨sv, je, rfl, b8, hE8, -, hok8⟩
        rw [hpxx.out] at hE8
        obtain rfl := hE8.none_eq
        have hos := hok8 hpxx.out
        have ls := hos.at.len
        rw [castI_len, hWx.out] at ls
        obtain ⟨sa, sn, sc, rfl⟩ := hos.at.shape
        have b18 := Below.step b17 b8
        have bE8 := Below.step b0 b18
        replace hos := Lib.hid hos
        clear z0 z1 z2 hE8 hok8
        obtain ⟨⟨z0, z1, z2⟩, -, -, -⟩ := qw.below (Below.step b3 (Below.step b4 (Below.step b5 (Below.step b6 (Below.step b67 b8)))))
        clear v0 v1 v2
        go_wp2_with fail
        go_loop [18] (fun nv => ∃ k : Nat, k ≤ N ∧ nv = .int .i64 k) (fun nv => N - (intOf nv).toNat)
        case atStart => exact ⟨1, hN1, rfl⟩
        case round =>
          obtain ⟨k, hk, rfl⟩ := hrel
          obtain ⟨kk, hkk⟩ : ∃ z, k * k = z := ⟨_, rfl⟩
          have hkk2 : (k : Int) * (k : Int) = (kk : Int) := by rw [← hkk]; simp
          have hkkM : kk ≤ M := by rw [← hkk, ← hM.out]; exact Nat.mul_le_mul hk hk
          by_cases hlt : kk < M
          · have hkN : k < N := Nat.lt_of_le_of_ne hk (fun e => by have := hM.out; rw [e] at hkk; omega)
            replace hkk := Lib.hid hkk
            go_wp2
            go_round
            case measure => simp [intOf]; omega
            case rel => exact ⟨k + 1, by omega, by go_num⟩
          have hkN : k = N := sq_exit hk (by rw [hkk, hM.out]; exact hlt)
          subst hkN
          obtain rfl : kk = M := by omega
          replace hkk := Lib.hid hkk
          have hNz1 : ¬ (k : Int) = 0 := by omega
          have hNz2 : ((k : Int) == 0) = false := by rw [beq_eq_false_iff_ne]; omega
          have hNz3 : ¬ k = 0 := by omega
          go_wp2_with fail
          go_loopw [19] (fun iv wr => ∃ (i n : Nat), i ≤ L ∧ iv = .int .i64 i ∧ wr = w8.drewN n) (fun iv _ => L - (intOf iv).toNat)
          case atStart => exact ⟨0, 0, by omega, rfl, rfl⟩
          case round =>
            obtain ⟨i, n, hi, rfl, rfl⟩ := hrel
            by_cases hil : i < L
            · have hxi := wayW_at hWx.out hil
              have hu1 := node_lt (K := K) (m := 2 * RW) hsx.out (i := i) (by rw [hX.out]; omega)
              rw [hN.out] at hxi hu1
              obtain ⟨u, hu'⟩ : ∃ u, nodeAt K (2 * RW) x i = u := ⟨_, rfl⟩
              rw [hu'] at hxi hu1
              have iS := fun w' => hos.out.at.idx i (by rw [castI_len, hWx.out]; exact hil) w'
              have cS := hos.out.at.cellD i (by rw [castI_len, hWx.out]; exact hil)
              rw [castI_get hxi] at cS
              have ppl : u * k + u < kk := by rw [← hM.out]; exact pair_lt hu1 hu1
              have pd := pair_div (a := u) hu1
              have pm := pair_mod (a := u) hu1
              obtain ⟨pp, hpp⟩ : ∃ z, u * k + u = z := ⟨_, rfl⟩
              rw [hpp] at cS ppl pd pm
              obtain ⟨d1', d2', d3', d4', d5', d6'⟩ := dm pp k (by omega)
              rw [pd] at d1' d3' d5'
              rw [pm] at d2' d4' d6'
              have huu : ((u : Int) != (u : Int)) = false := by simp
              generalize valAt (.slice sa sn sc) i = ia at *
              have hil2 := Lib.hid hil
              replace hxi := Lib.hid hxi
              replace hu' := Lib.hid hu'
              replace hpp := Lib.hid hpp
              replace pd := Lib.hid pd
              replace pm := Lib.hid pm
              go_upto_region 21 with fail
              refine wp_region_plan (fun w' => w'.cell? ia = some (.int .i64 pp)) 12 [(0, true), (1, true), (2, true), (3, true), (4, true), (5, true), (6, true), (7, true), (8, true), (9, true), (10, true), (11, true)] (by kernel_rfl) (by kernel_rfl) ?_
              have hS : (w8.drewN n).drew.cell? ia = some (.int .i64 pp) := cS
              refine headY (v := ?_) (some 135) rfl rfl (Or.inl ⟨by rfl, ?_⟩) hS ?_
              rotate_left
              · rintro W' s0; go_simp; try with_reducible rfl
              simp only [Act.put, List.setIfInBounds_toArray, List.set_cons_zero, List.set_cons_succ]
              refine headY (v := ?_) (some 136) rfl rfl (Or.inl ⟨by rfl, ?_⟩) hS ?_
              rotate_left
              · rintro W' s0; go_simp; try with_reducible rfl
              simp only [Act.put, List.setIfInBounds_toArray, List.set_cons_zero, List.set_cons_succ]
              refine headY (v := ?_) (some 137) rfl rfl (Or.inl ⟨by rfl, ?_⟩) hS ?_
              rotate_left
              · rintro W' s0; go_simp; try with_reducible rfl
              simp only [Act.put, List.setIfInBounds_toArray, List.set_cons_zero, List.set_cons_succ]
              refine headY (v := ?_) (some 138) rfl rfl (Or.inl ⟨by rfl, ?_⟩) hS ?_
              rotate_left
              · rintro W' s0; go_simp; try with_reducible rfl
              simp only [Act.put, List.setIfInBounds_toArray, List.set_cons_zero, List.set_cons_succ]
              refine headY (v := ?_) (some 139) rfl rfl (Or.inl ⟨by rfl, ?_⟩) hS ?_
              rotate_left
              · rintro W' s0; go_simp; try with_reducible rfl
              simp only [Act.put, List.setIfInBounds_toArray, List.set_cons_zero, List.set_cons_succ]
              refine headY (v := ?_) (some 140) rfl rfl (Or.inl ⟨by rfl, ?_⟩) hS ?_
              rotate_left
              · rintro W' s0; go_simp; try with_reducible rfl
              simp only [Act.put, List.setIfInBounds_toArray, List.set_cons_zero, List.set_cons_succ]
              refine headY (v := ?_) (some 141) rfl rfl (Or.inl ⟨by rfl, ?_⟩) hS ?_
              rotate_left
              · rintro W' s0; go_simp; try with_reducible rfl
              simp only [Act.put, List.setIfInBounds_toArray, List.set_cons_zero, List.set_cons_succ]
              refine headY (v := ?_) (some 142) rfl rfl (Or.inl ⟨by rfl, ?_⟩) hS ?_
              rotate_left
              · rintro W' s0; go_simp; try with_reducible rfl
              simp only [Act.put, List.setIfInBounds_toArray, List.set_cons_zero, List.set_cons_succ]
              refine headY (v := ?_) (some 143) rfl rfl (Or.inl ⟨by rfl, ?_⟩) hS ?_
              rotate_left
              · rintro W' s0; go_simp; try with_reducible rfl
              simp only [Act.put, List.setIfInBounds_toArray, List.set_cons_zero, List.set_cons_succ]
              refine headY (v := ?_) (some 144) rfl rfl (Or.inl ⟨by rfl, ?_⟩) hS ?_
              rotate_left
              · rintro W' s0; go_simp; try with_reducible rfl
              simp only [Act.put, List.setIfInBounds_toArray, List.set_cons_zero, List.set_cons_succ]
              refine headY (v := ?_) (some 145) rfl rfl (Or.inl ⟨by rfl, ?_⟩) hS ?_
              rotate_left
              · rintro W' s0; go_simp; try with_reducible rfl
              simp only [Act.put, List.setIfInBounds_toArray, List.set_cons_zero, List.set_cons_succ]
              refine headY (v := ?_) (some 146) rfl rfl (Or.inl ⟨by rfl, ?_⟩) hS ?_
              rotate_left
              · rintro W' s0; go_simp; try with_reducible rfl
              simp only [Act.put, List.setIfInBounds_toArray, List.set_cons_zero, List.set_cons_succ]
              refine head0 ?_
              simp only [List.drop_succ_cons, List.drop_zero]
              clear hS
              go_wp2
              refine NoPanic.normal ?_
              go_wp2
              go_roundw
              case measure => have := hil2.out; simp [intOf]; omega
              case rel => exact ⟨i + 1, n + 1, by have := hil2.out; omega, by go_num, rfl⟩
            · obtain rfl : i = L := by omega
              obtain ⟨wo, hwo⟩ : ∃ wo : World, wo = w8.drewN n := ⟨_, rfl⟩
              have bo : Below w8.heap.size w8 wo := by rw [hwo]; exact below_drewN (Below.refl _ _) n
              rw [← hwo]
              replace hwo := Lib.hid hwo
              have hLo := Lib.hid (hL.out.below (Below.step b6 (Below.step b67 (Below.step b8 bo))))
              have hpo := Lib.hid (how.out.at.below (Below.step b67 (Below.step b8 bo)))
              have b1o := Below.step b18 bo
              clear z0 z1 z2
              obtain ⟨⟨z0, z1, z2⟩, -, -, -⟩ := q.below b1o
              have zz := Lib.hid (And.intro z0 (And.intro z1 z2))
              clear z0 z1 z2
              go_wp2_with fail
              go_loopw [20] (fun jv wr => ∃ (j n : Nat), 1 ≤ j ∧ j ≤ i ∧ jv = .int .i64 j ∧ wr = wo.drewN n) (fun jv _ => i - (intOf jv).toNat)
              case atStart => exact ⟨1, 0, by omega, hL1, rfl, rfl⟩
              case round =>
                obtain ⟨j, n2, hj1, hj, rfl, rfl⟩ := hrel
                by_cases hjl : j < i
                · obtain ⟨j1, hj2⟩ : ∃ j1, j = j1 + 1 := ⟨j - 1, by omega⟩
                  have hp := wayW_at hWl.out (show j1 < i by omega)
                  have hq := wayW_at hWl.out hjl
                  have hn1 := node_lt (K := K) (m := 2 * RW) hsx.out (i := j1) (by rw [hX.out]; omega)
                  have hn2 := node_lt (K := K) (m := 2 * RW) hsy.out (i := j1) (by rw [hY.out]; omega)
                  have harr := wayW_arr (K := K) (R := RW) (T := TW) hsx.out hsy.out (by rw [hX.out, hY.out]) hI.out (i := j1) (by rw [hX.out]; omega)
                  rw [← hj2] at harr
                  rw [hN.out] at hp hq hn1 hn2 harr
                  obtain ⟨p, hpe⟩ : ∃ p, nodeAt K (2 * RW) x j1 * k + nodeAt K (2 * RW) y j1 = p := ⟨_, rfl⟩
                  obtain ⟨s, hse⟩ : ∃ s, nodeAt K (2 * RW) x j * k + nodeAt K (2 * RW) y j = s := ⟨_, rfl⟩
                  have hpl : p < kk := by rw [← hpe, ← hM.out]; exact pair_lt hn1 hn2
                  have hmem : s ∈ pairL K k TW p := by
                    rw [mem_pairL (by omega), ← hpe, pair_div hn2, pair_mod hn2, ← hse]
                    exact harr
                  rw [hpe] at hp
                  rw [hse] at hq
                  have iP := fun w' => hpo.out.idx j (by rw [castI_len, hWl.out]; exact hjl) w'
                  have cP := hpo.out.cellD j (by rw [castI_len, hWl.out]; exact hjl)
                  rw [castI_get hq] at cP
                  have iT0 : ∀ w', (Instr.indexAt 22 (.slice pa pn pc) (.int .i64 ((j : Int) - 1))).run Tryd.prog w' = .ok (.pointer (some (valAt (.slice pa pn pc) j1))) w' := fun w' => by
                    have := hpo.out.idx j1 (by rw [castI_len, hWl.out]; omega) w'
                    rwa [show ((j : Int) - 1) = (j1 : Int) by omega]
                  have cT0 := hpo.out.cellD j1 (by rw [castI_len, hWl.out]; omega)
                  rw [castI_get hp] at cT0
                  obtain ⟨mv, iM, cM, hMP⟩ := hLo.out.row p (by rw [rowsOf_len]; exact hpl)
                  rw [rowsOf_get _ _ _ hpl] at hMP
                  have lM := hMP.len
                  obtain ⟨ll, hll⟩ : ∃ z, (pairL K k TW p).length = z := ⟨_, rfl⟩
                  rw [castI_len, hll] at lM
                  have hll16 : ll ≤ 16 := by
                    rw [← hll]
                    have := pairL_len K k TW p
                    have := Nat.mul_le_mul hk4 hk4
                    omega
                  have t1 : decide ((p : Int) < 0) = false := by simp
                  have t2 : decide ((kk : Int) ≤ (p : Int)) = false := by simp; omega
                  have t4 : ¬ kk ≤ p := by omega
                  have hwj : IntKind.i64.wrap ((j : Int) - 1) = (j : Int) - 1 := wrapK (by omega) (by omega)
                  generalize valAt (.slice pa pn pc) j = ja at *
                  generalize valAt (.slice pa pn pc) j1 = jb at *
                  generalize valAt gv p = pv at *
                  have hjl2 := Lib.hid hjl
                  replace hj2 := Lib.hid hj2
                  replace hp := Lib.hid hp
                  replace hq := Lib.hid hq
                  replace harr := Lib.hid harr
                  replace hpe := Lib.hid hpe
                  replace hse := Lib.hid hse
                  replace hmem := Lib.hid hmem
                  replace hMP := Lib.hid hMP
                  replace hll := Lib.hid hll
                  go_upto_region 28 with fail
                  refine wp_region_plan (fun w' => w'.cell? jb = some (.int .i64 p) ∧ w'.cell? ja = some (.int .i64 s)) 10 [(0, true), (1, true), (2, true), (3, true), (4, true), (5, true), (6, true), (7, true), (8, true), (9, true)] (by kernel_rfl) (by kernel_rfl) ?_
                  have hS : (wo.drewN n2).drew.cell? jb = some (.int .i64 p) ∧ (wo.drewN n2).drew.cell? ja = some (.int .i64 s) := ⟨cT0, cP⟩
                  refine headY (v := ?_) (some 159) rfl rfl (Or.inl ⟨by rfl, ?_⟩) hS ?_
                  rotate_left
                  · rintro W' ⟨s0, s1⟩; go_simp; try with_reducible rfl
                  simp only [Act.put, List.setIfInBounds_toArray, List.set_cons_zero, List.set_cons_succ]
                  refine headY (v := ?_) (some 160) rfl rfl (Or.inl ⟨by rfl, ?_⟩) hS ?_
                  rotate_left
                  · rintro W' ⟨s0, s1⟩; go_simp; try with_reducible rfl
                  simp only [Act.put, List.setIfInBounds_toArray, List.set_cons_zero, List.set_cons_succ]
                  refine headY (v := ?_) (some 161) rfl rfl (Or.inl ⟨by rfl, ?_⟩) hS ?_
                  rotate_left
                  · rintro W' ⟨s0, s1⟩; go_simp; try with_reducible rfl
                  simp only [Act.put, List.setIfInBounds_toArray, List.set_cons_zero, List.set_cons_succ]
                  refine headY (v := ?_) (some 162) rfl rfl (Or.inl ⟨by rfl, ?_⟩) hS ?_
                  rotate_left
                  · rintro W' ⟨s0, s1⟩; go_simp; try with_reducible rfl
                  simp only [Act.put, List.setIfInBounds_toArray, List.set_cons_zero, List.set_cons_succ]
                  refine headY (v := ?_) (some 163) rfl rfl (Or.inl ⟨by rfl, ?_⟩) hS ?_
                  rotate_left
                  · rintro W' ⟨s0, s1⟩; go_simp; try with_reducible rfl
                  simp only [Act.put, List.setIfInBounds_toArray, List.set_cons_zero, List.set_cons_succ]
                  refine headY (v := ?_) (some 164) rfl rfl (Or.inl ⟨by rfl, ?_⟩) hS ?_
                  rotate_left
                  · rintro W' ⟨s0, s1⟩; go_simp; try with_reducible rfl
                  simp only [Act.put, List.setIfInBounds_toArray, List.set_cons_zero, List.set_cons_succ]
                  refine headY (v := ?_) (some 165) rfl rfl (Or.inl ⟨by rfl, ?_⟩) hS ?_
                  rotate_left
                  · rintro W' ⟨s0, s1⟩; go_simp; try with_reducible rfl
                  simp only [Act.put, List.setIfInBounds_toArray, List.set_cons_zero, List.set_cons_succ]
                  refine headY (v := ?_) (some 166) rfl rfl (Or.inl ⟨by rfl, ?_⟩) hS ?_
                  rotate_left
                  · rintro W' ⟨s0, s1⟩; go_simp; try with_reducible rfl
                  simp only [Act.put, List.setIfInBounds_toArray, List.set_cons_zero, List.set_cons_succ]
                  refine headY (v := ?_) (some 167) rfl rfl (Or.inl ⟨by rfl, ?_⟩) hS ?_
                  rotate_left
                  · rintro W' ⟨s0, s1⟩; go_simp; try with_reducible rfl
                  simp only [Act.put, List.setIfInBounds_toArray, List.set_cons_zero, List.set_cons_succ]
                  refine headY (v := ?_) (some 21) rfl rfl (Or.inl ⟨by rfl, ?_⟩) hS ?_
                  rotate_left
                  · rintro W' ⟨s0, s1⟩; go_simp; try with_reducible rfl
                  simp only [Act.put, List.setIfInBounds_toArray, List.set_cons_zero, List.set_cons_succ]
                  refine head0 ?_
                  simp only [List.drop_succ_cons, List.drop_zero]
                  clear hS
                  go_wp2
                  refine NoPanic.normal ?_
                  go_wp2_with fail
                  go_loop [23, 24] (fun fv tv => ∃ t : Nat, t ≤ ll ∧ tv = .int .i64 t ∧ fv = .bool (decide (s ∈ (pairL K k TW p).take t))) (fun _ tv => ll - (intOf tv).toNat)
                  case atStart => exact ⟨0, by omega, rfl, by simp⟩
                  case round =>
                    obtain ⟨t, ht, rfl, rfl⟩ := hrel
                    by_cases htl : t < ll
                    · obtain ⟨z, hz⟩ : ∃ z, (pairL K k TW p)[t]? = some z := ⟨_, List.getElem?_eq_getElem (by rw [hll.out]; exact htl)⟩
                      have iZ := fun w' => hMP.out.idx t (by rw [castI_len, hll.out]; exact htl) w'
                      have cZ := hMP.out.cellD t (by rw [castI_len, hll.out]; exact htl)
                      rw [castI_get hz] at cZ
                      have hnext : decide (s ∈ (pairL K k TW p).take (t + 1)) = (decide (s ∈ (pairL K k TW p).take t) || decide (z = s)) := by
                        rw [List.take_add_one, hz]
                        simp [List.mem_append, eq_comm]
                      generalize valAt mv t = za at *
                      have htl2 := Lib.hid htl
                      obtain ⟨fd, hfd⟩ : ∃ fd, decide (s ∈ (pairL K k TW p).take t) = fd := ⟨_, rfl⟩
                      rw [hfd] at hnext ⊢
                      obtain ⟨eq, heq⟩ : ∃ eq, decide (z = s) = eq := ⟨_, rfl⟩
                      have hzs : ((z : Int) == (s : Int)) = eq := by
                        rw [← heq]
                        by_cases e : z = s
                        · subst e; simp
                        · rw [decide_eq_false e, beq_eq_false_iff_ne]; omega
                      rw [heq] at hnext
                      replace hfd := Lib.hid hfd
                      replace heq := Lib.hid heq
                      replace hz := Lib.hid hz
                      replace hnext := Lib.hid hnext
                      cases fd with
                      | true =>
                        go_wp2
                        go_round
                        case measure => have := htl2.out; simp [intOf]; omega
                        case rel => exact ⟨t + 1, by have := htl2.out; omega, by go_num, by rw [hnext.out]; rfl⟩
                      | false =>
                        go_wp2
                        go_round
                        case measure => have := htl2.out; simp [intOf]; omega
                        case rel => exact ⟨t + 1, by have := htl2.out; omega, by go_num, by rw [hnext.out]; rfl⟩
                    · obtain rfl : t = ll := by omega
                      rw [List.take_of_length_le (by rw [hll.out]; exact Nat.le_refl _), decide_eq_true hmem.out]
                      go_wp2
                      go_roundw
                      case measure => have := hjl2.out; simp [intOf]; omega
                      case rel => exact ⟨j + 1, n2 + 1, by omega, by have := hjl2.out; omega, by go_num, rfl⟩
                · obtain rfl : j = i := by omega
                  have bd : Below wo.heap.size wo (wo.drewN n2) := below_drewN (Below.refl _ _) n2
                  have b1d := Below.step b1o bd
                  have hbk := wayW_back (K := K) (R := RW) hk1 hRW1 hsx.out hsy.out (by rw [hX.out, hY.out]) (by rw [hX.out]; omega)
                  have hfit := wayW_fit (K := K) (R := RW) (T := TW) hk1 hRW1 hsx.out hsy.out (by rw [hX.out, hY.out]) (by rw [hX.out]; omega) hI.out
                  have hlo := wayW_low (K := K) (R := RW) hsx.out hsy.out (by rw [hX.out, hY.out]) (by rw [hX.out]; omega)
                  rw [hN.out] at hbk hfit hlo
                  rw [hM.out] at hlo
                  have hne : wayW K (2 * RW) x y ≠ [] := by intro e; have := hWl.out; rw [e] at this; simp at this; omega
                  obtain ⟨⟨z0, z1, z2⟩, -, -, -⟩ := q.below b1d
                  replace hbk := Lib.hid hbk
                  replace hfit := Lib.hid hfit
                  replace hlo := Lib.hid hlo
                  replace hne := Lib.hid hne
                  go_wp2_with fail
                  refine (hwords.out (.slice pa pn pc) (wayW K (2 * RW) x y) _ (hg.out.below b1d) (h.out.below b1d) (hpo.out.below bd) hne.out hlo.out (by rw [hWl.out]; omega)).mono ?_
                  rintro e w9 ⟨pv, qv, y', rfl, b9, hp⟩
                  unfold WordsPost at hp
                  rw [hN.out] at hp
                  rcases hp with ⟨-, rfl, hop, hoq, -⟩ | ⟨hno, -⟩
                  rotate_left
                  · exact absurd hfit.out hno
                  rw [hbk.out.1] at hop
                  rw [hbk.out.2] at hoq
                  have b19 := Below.step b1d b9
                  replace hop := Lib.hid hop.at
                  replace hoq := Lib.hid hoq.at
                  clear z0 z1 z2
                  go_wp2_with fail
                  refine (ints_any _ _ x x w9 hop.out (hu.out.below b19)).mono ?_
                  rintro e wA hA
                  obtain ⟨rfl, bA⟩ := hA.below
                  clear hA
                  rw [show decide (x = x) = true by simp]
                  have b1A := Below.step b19 bA
                  go_wp2_with fail
                  refine (ints_any _ _ y y wA (hoq.out.below bA) (hv.out.below b1A)).mono ?_
                  rintro e wB hB
                  obtain ⟨rfl, bB⟩ := hB.below
                  clear hB
                  rw [show decide (y = y) = true by simp]
                  have bF := Below.step b0 (Below.step b1A bB)
                  go_wp2
                  go_ret
                  exact ⟨_, rfl, bF, rfl⟩
      · go_wp2_with fail
        refine (hway.out (.slice ya yn yc) y w5 (hg.out.below b15) (h.out.below b15) (hu.out.below b15) (hv.out.below b15)).mono ?_
        rintro e w6 ⟨wv, ie, rfl, b6, hE6, hbad6, hok6⟩
        have b16 := Below.step b15 b6
        rw [if_neg hI] at hpis
        rw [hpis] at hE6
        obtain ⟨T6, a6, rfl⟩ := ErrIs.some_shape hE6
        obtain rfl := hbad6 (by rw [hpis]; simp [fresh])
        replace hpis := Lib.hid hpis
        replace hI := Lib.hid hI
        clear z0 z1 z2 hE6 hbad6 hok6
        go_upto_region 10 with fail
        refine wp_region_plan (fun _ => True) 5 [(0, true), (1, true), (2, true), (3, true), (4, false)] (by kernel_rfl) (by kernel_rfl) ?_
        have hS : True := trivial
        refine headY (v := ?_) (some 86) rfl rfl (Or.inl ⟨by rfl, ?_⟩) hS ?_
        rotate_left
        · rintro W' _; go_simp; try with_reducible rfl
        simp only [Act.put, List.setIfInBounds_toArray, List.set_cons_zero, List.set_cons_succ]
        refine headY (v := ?_) (some 87) rfl rfl (Or.inl ⟨by rfl, ?_⟩) hS ?_
        rotate_left
        · rintro W' _; go_simp; try with_reducible rfl
        simp only [Act.put, List.setIfInBounds_toArray, List.set_cons_zero, List.set_cons_succ]
        refine headY (v := ?_) (some 88) rfl rfl (Or.inl ⟨by rfl, ?_⟩) hS ?_
        rotate_left
        · rintro W' _; go_simp; try with_reducible rfl
        simp only [Act.put, List.setIfInBounds_toArray, List.set_cons_zero, List.set_cons_succ]
        refine headY (v := ?_) (some 89) rfl rfl (Or.inl ⟨by rfl, ?_⟩) hS ?_
        rotate_left
        · rintro W' _; go_simp; try with_reducible rfl
        simp only [Act.put, List.setIfInBounds_toArray, List.set_cons_zero, List.set_cons_succ]
        refine headC rfl (fun KK hK => ?_)
        go_simp
        refine (ints_any av bv _ _ w6.drew ((hoa.out.at.below (Below.step b4 (Below.step b5 b6))).drew) ((hob.out.at.below (Below.step b5 b6)).drew)).mono ?_
        rintro e w7 h7
        obtain ⟨rfl, b7⟩ := h7.below
        clear h7
        rw [show decide (imgP K RW TW x = imgP K RW TW y) = false by simp [hI.out]]
        refine hK _ _ trivial ?_
        clear hK KK
        refine head0 ?_
        simp only [List.drop_succ_cons, List.drop_zero]
        have b67 : Below w6.heap.size w6 w7 := Below.step ((Below.refl _ _).drew) b7
        have b17 := Below.step b16 b67
        obtain ⟨⟨z0, z1, z2⟩, -, -, -⟩ := q.below b17
        clear hS
        go_wp2
        refine NoPanic.normal ?_
        go_wp2_with fail
        refine (hway.out (.slice ua un uc) x w7 (hg.out.below b17) (h.out.below b17) (hu.out.below b17) (hu.out.below b17)).mono ?_
        rintro e w8 ⟨sv, je, rfl, b8, hE8, -, hok8⟩
        rw [hpxx.out] at hE8
        obtain rfl := hE8.none_eq
        have hos := hok8 hpxx.out
        have ls := hos.at.len
        rw [castI_len, hWx.out] at ls
        obtain ⟨sa, sn, sc, rfl⟩ := hos.at.shape
        have b18 := Below.step b17 b8
        have bE8 := Below.step b0 b18
        replace hos := Lib.hid hos
        clear z0 z1 z2 hE8 hok8
        obtain ⟨⟨z0, z1, z2⟩, -, -, -⟩ := qw.below (Below.step b3 (Below.step b4 (Below.step b5 (Below.step b6 (Below.step b67 b8)))))
        clear v0 v1 v2
        go_wp2_with fail
        go_loop [18] (fun nv => ∃ k : Nat, k ≤ N ∧ nv = .int .i64 k) (fun nv => N - (intOf nv).toNat)
        case atStart => exact ⟨1, hN1, rfl⟩
        case round =>
          obtain ⟨k, hk, rfl⟩ := hrel
          obtain ⟨kk, hkk⟩ : ∃ z, k * k = z := ⟨_, rfl⟩
          have hkk2 : (k : Int) * (k : Int) = (kk : Int) := by rw [← hkk]; simp
          have hkkM : kk ≤ M := by rw [← hkk, ← hM.out]; exact Nat.mul_le_mul hk hk
          by_cases hlt : kk < M
          · have hkN : k < N := Nat.lt_of_le_of_ne hk (fun e => by have := hM.out; rw [e] at hkk; omega)
            replace hkk := Lib.hid hkk
            go_wp2
            go_round
            case measure => simp [intOf]; omega
            case rel => exact ⟨k + 1, by omega, by go_num⟩
          have hkN : k = N := sq_exit hk (by rw [hkk, hM.out]; exact hlt)
          subst hkN
          obtain rfl : kk = M := by omega
          replace hkk := Lib.hid hkk
          have hNz1 : ¬ (k : Int) = 0 := by omega
          have hNz2 : ((k : Int) == 0) = false := by rw [beq_eq_false_iff_ne]; omega
          have hNz3 : ¬ k = 0 := by omega
          go_wp2_with fail
          go_loopw [19] (fun iv wr => ∃ (i n : Nat), i ≤ L ∧ iv = .int .i64 i ∧ wr = w8.drewN n) (fun iv _ => L - (intOf iv).toNat)
          case atStart => exact ⟨0, 0, by omega, rfl, rfl⟩
          case round =>
            obtain ⟨i, n, hi, rfl, rfl⟩ := hrel
            by_cases hil : i < L
            · have hxi := wayW_at hWx.out hil
              have hu1 := node_lt (K := K) (m := 2 * RW) hsx.out (i := i) (by rw [hX.out]; omega)
              rw [hN.out] at hxi hu1
              obtain ⟨u, hu'⟩ : ∃ u, nodeAt K (2 * RW) x i = u := ⟨_, rfl⟩
              rw [hu'] at hxi hu1
              have iS := fun w' => hos.out.at.idx i (by rw [castI_len, hWx.out]; exact hil) w'
              have cS := hos.out.at.cellD i (by rw [castI_len, hWx.out]; exact hil)
              rw [castI_get hxi] at cS
              have ppl : u * k + u < kk := by rw [← hM.out]; exact pair_lt hu1 hu1
              have pd := pair_div (a := u) hu1
              have pm := pair_mod (a := u) hu1
              obtain ⟨pp, hpp⟩ : ∃ z, u * k + u = z := ⟨_, rfl⟩
              rw [hpp] at cS ppl pd pm
              obtain ⟨d1', d2', d3', d4', d5', d6'⟩ := dm pp k (by omega)
              rw [pd] at d1' d3' d5'
              rw [pm] at d2' d4' d6'
              have huu : ((u : Int) != (u : Int)) = false := by simp
              generalize valAt (.slice sa sn sc) i = ia at *
              have hil2 := Lib.hid hil
              replace hxi := Lib.hid hxi
              replace hu' := Lib.hid hu'
              replace hpp := Lib.hid hpp
              replace pd := Lib.hid pd
              replace pm := Lib.hid pm
              go_upto_region 21 with fail
              refine wp_region_plan (fun w' => w'.cell? ia = some (.int .i64 pp)) 12 [(0, true), (1, true), (2, true), (3, true), (4, true), (5, true), (6, true), (7, true), (8, true), (9, true), (10, true), (11, true)] (by kernel_rfl) (by kernel_rfl) ?_
              have hS : (w8.drewN n).drew.cell? ia = some (.int .i64 pp) := cS
              refine headY (v := ?_) (some 135) rfl rfl (Or.inl ⟨by rfl, ?_⟩) hS ?_
              rotate_left
              · rintro W' s0; go_simp; try with_reducible rfl
              simp only [Act.put, List.setIfInBounds_toArray, List.set_cons_zero, List.set_cons_succ]
              refine headY (v := ?_) (some 136) rfl rfl (Or.inl ⟨by rfl, ?_⟩) hS ?_
              rotate_left
              · rintro W' s0; go_simp; try with_reducible rfl
              simp only [Act.put, List.setIfInBounds_toArray, List.set_cons_zero, List.set_cons_succ]
              refine headY (v := ?_) (some 137) rfl rfl (Or.inl ⟨by rfl, ?_⟩) hS ?_
              rotate_left
              · rintro W' s0; go_simp; try with_reducible rfl
              simp only [Act.put, List.setIfInBounds_toArray, List.set_cons_zero, List.set_cons_succ]
              refine headY (v := ?_) (some 138) rfl rfl (Or.inl ⟨by rfl, ?_⟩) hS ?_
              rotate_left
              · rintro W' s0; go_simp; try with_reducible rfl
              simp only [Act.put, List.setIfInBounds_toArray, List.set_cons_zero, List.set_cons_succ]
              refine headY (v := ?_) (some 139) rfl rfl (Or.inl ⟨by rfl, ?_⟩) hS ?_
              rotate_left
              · rintro W' s0; go_simp; try with_reducible rfl
              simp only [Act.put, List.setIfInBounds_toArray, List.set_cons_zero, List.set_cons_succ]
              refine headY (v := ?_) (some 140) rfl rfl (Or.inl ⟨by rfl, ?_⟩) hS ?_
              rotate_left
              · rintro W' s0; go_simp; try with_reducible rfl
              simp only [Act.put, List.setIfInBounds_toArray, List.set_cons_zero, List.set_cons_succ]
              refine headY (v := ?_) (some 141) rfl rfl (Or.inl ⟨by rfl, ?_⟩) hS ?_
              rotate_left
              · rintro W' s0; go_simp; try with_reducible rfl
              simp only [Act.put, List.setIfInBounds_toArray, List.set_cons_zero, List.set_cons_succ]
              refine headY (v := ?_) (some 142) rfl rfl (Or.inl ⟨by rfl, ?_⟩) hS ?_
              rotate_left
              · rintro W' s0; go_simp; try with_reducible rfl
              simp only [Act.put, List.setIfInBounds_toArray, List.set_cons_zero, List.set_cons_succ]
              refine headY (v := ?_) (some 143) rfl rfl (Or.inl ⟨by rfl, ?_⟩) hS ?_
              rotate_left
              · rintro W' s0; go_simp; try with_reducible rfl
              simp only [Act.put, List.setIfInBounds_toArray, List.set_cons_zero, List.set_cons_succ]
              refine headY (v := ?_) (some 144) rfl rfl (Or.inl ⟨by rfl, ?_⟩) hS ?_
              rotate_left
              · rintro W' s0; go_simp; try with_reducible rfl
              simp only [Act.put, List.setIfInBounds_toArray, List.set_cons_zero, List.set_cons_succ]
              refine headY (v := ?_) (some 145) rfl rfl (Or.inl ⟨by rfl, ?_⟩) hS ?_
              rotate_left
              · rintro W' s0; go_simp; try with_reducible rfl
              simp only [Act.put, List.setIfInBounds_toArray, List.set_cons_zero, List.set_cons_succ]
              refine headY (v := ?_) (some 146) rfl rfl (Or.inl ⟨by rfl, ?_⟩) hS ?_
              rotate_left
              · rintro W' s0; go_simp; try with_reducible rfl
              simp only [Act.put, List.setIfInBounds_toArray, List.set_cons_zero, List.set_cons_succ]
              refine head0 ?_
              simp only [List.drop_succ_cons, List.drop_zero]
              clear hS
              go_wp2
              refine NoPanic.normal ?_
              go_wp2
              go_roundw
              case measure => have := hil2.out; simp [intOf]; omega
              case rel => exact ⟨i + 1, n + 1, by have := hil2.out; omega, by go_num, rfl⟩
            · obtain rfl : i = L := by omega
              have bF : Below w.heap.size w (w8.drewN n) := below_drewN bE8 n
              go_wp2
              go_ret
              exact ⟨_, rfl, bF, rfl⟩

theorem pairsMeet_any (r : Nat → Addr) (k R : Int) (v : Value) (T : List Int) (u : Value) (x : List Int) (u2 : Value) (y : List Int) (w : World) (hg : Glob r w) (h : IntsAt w v T) (hu : IntsAt w u x) (hv : IntsAt w u2 y) :
    Calls Tryd.prog 4 #[.agg #[.int .i64 k, .int .i64 R, v], u, u2] w (Ret1 (fun x _ => x = .bool true) w) := by
  obtain ⟨va, vn, vc, rfl⟩ := h.shape
  obtain ⟨ua, un, uc, rfl⟩ := hu.shape
  obtain ⟨ya, yn, yc, rfl⟩ := hv.shape
  cases hc : smallP k R T with
  | some t => exact pairsMeet_bad r k R va vn vc T ua un uc x ya yn yc y t w hg h hu hv hc
  | none =>
    obtain ⟨hck, hl⟩ := smallP_none hc
    obtain ⟨K, Q, rfl, rfl, hr⟩ := checkP_none hck
    exact pairsMeet_ok r K Q va vn vc T ua un uc x ya yn yc y w hg h hu hv hr hl
end Go.Proofs.YtmhiambkfdkkbaaDoor

namespace Go.Proofs.YtmhiambkfdkkbaaDoor
open Go.ChangeShapes Go.WideShapes Go.ChangeAt Go.RowKit Go.Joins
set_option maxRecDepth 100000

theorem own : ownKnob Tryd.prog.godebug = none := by kernel_rfl
theorem laidOut : laidOutB Tryd.prog = true := by kernel_rfl
theorem cellsInt : Tryd.prog.cellsOf 3 = 1 := by kernel_rfl
theorem uInt : Tryd.prog.underlying 3 = some (.int .i64) := by kernel_rfl
theorem bytesInt : Tryd.prog.bytesOf 3 = 8 := by kernel_rfl

theorem i64_of_wf {n : Int} (h : (Lit.int .i64 n).wf = true) : I64 n := by
  have := bounds_i64 h
  unfold I64
  omega

/-- A []int that came in. -/
theorem open_intsV {H : Type} {enc : TypeId × Value → H} {W : World} {held : Bool} {fuel : Nat} {v : Value} {y : DataW H × List MemPlace}
    (h : DataW.trod enc Tryd.prog W 0 (fun _ => true) held fuel 22 [v] = some y) (hw : ∀ n ∈ y.1.weights Tryd.prog 22, n ≤ reachBytes) :
    ∃ xs, IntsAt W v xs ∧ xs.length ≤ 17592186043904 ∧ ∀ x ∈ xs, I64 x := by
  rcases open_ints uInts uInt cellsInt h with ⟨hcs, _⟩ | ⟨a, len, cap, zs, hcs, _, hl, hm, hz, hx, hcell, hwz⟩
  · simp at hcs
    subst hcs
    exact ⟨[], (OwnI.nil 0 W).at, by simp, by simp⟩
  · simp at hcs
    subst hcs
    simp only [if_true] at hz
    have hzl : (zs.take len).length = len := by simp; omega
    refine ⟨zs.take len, ⟨some a, cap, by rw [hzl], by rw [hzl]; exact hl, hm, (fun e => by cases e), fun i hi => ?_⟩, ?_, fun x hx => i64_of_wf (hwz x (List.mem_of_mem_take hx))⟩
    · have hi' : i < zs.length := by rw [hzl] at hi; omega
      show W.cell? (a.add i) = _
      rw [hcell i hi']
      simp [List.getD, hi']
    · rw [hx] at hw
      have := hw ((lits (H := H) .i64 (zs.take len)).length * 8 + (lits (H := H) .i64 (zs.drop len)).length * 8) (by
        simp only [DataW.weights, uInts, bytesInt, List.mem_cons]
        left; omega)
      simp only [lits, List.length_map, reachBytes] at this
      omega

theorem open_intsT {H : Type} {enc : TypeId × Value → H} {W : World} {held : Bool} {v : Value} {d : DataW H} {p : List MemPlace} {b0 : Nat}
    (hv : Value.okWide Tryd.prog W .any b0 22 v) (h : DataW.Trod enc Tryd.prog W 0 (fun _ => true) held 22 v d p) (hw : ∀ n ∈ d.weights Tryd.prog 22, n ≤ reachBytes) :
    ∃ xs, IntsAt W v xs ∧ xs.length ≤ 17592186043904 ∧ ∀ x ∈ xs, I64 x := by
  obtain ⟨a, l, c, rfl⟩ := okWide_slice uInts hv
  obtain ⟨fuel, hf⟩ := h
  exact open_intsV (y := (d, p)) (by simpa [Value.cells] using hf) hw

theorem weights_each3 {H : Type} {t0 t1 t2 : TypeId} {y0 y1 y2 : DataW H} {n : Nat} (h : n ∈ y2.weights Tryd.prog t2) : n ∈ DataW.weightsEach Tryd.prog [t0, t1, t2] [y0, y1, y2] := by
  simp only [DataW.weightsEach, List.mem_append]
  exact .inr (.inr (.inl h))

/-- A rule that came in. -/
theorem open_ruleV {H : Type} {enc : TypeId × Value → H} {W : World} {held : Bool} {v : Value} {d : DataW H} {p : List MemPlace} {b0 : Nat}
    (hv : Value.okWide Tryd.prog W .any b0 24 v) (h : DataW.Trod enc Tryd.prog W 0 (fun _ => true) held 24 v d p) (hw : ∀ n ∈ d.weights Tryd.prog 24, n ≤ reachBytes) :
    ∃ (k R : Int) (u : Value) (xs : List Int), v = .agg #[.int .i64 k, .int .i64 R, u] ∧ IntsAt W u xs ∧ xs.length ≤ 17592186043904 ∧ (∀ x ∈ xs, I64 x) ∧ I64 k ∧ I64 R := by
  obtain ⟨v0, v1, v2, y0, y1, y2, n, rfl, rfl, rfl, h0, h1, h2⟩ := open_agg3 Tryd.underlying24 (by kernel_rfl) (by kernel_rfl) hv h
  obtain ⟨a, e0, _, wa⟩ := DataW.trod_int uInt h0
  obtain ⟨b, e1, _, wb⟩ := DataW.trod_int uInt h1
  simp at e0 e1
  subst e0 e1
  obtain ⟨xs, hx, hl, hb⟩ := open_intsV h2 fun n hn => hw n (by
    simp only [DataW.weights, Tryd.underlying24]
    exact weights_each3 (t0 := 3) (t1 := 3) (t2 := 22) hn)
  exact ⟨a, b, v2, xs, rfl, hx, hl, hb, i64_of_wf wa, i64_of_wf wb⟩

/-! The package-level errors. -/
theorem star : "*" ++ "errors.errorString" = "*errors.errorString" := by decide
theorem rowES (u : TypeId) (h : Tryd.prog.typeName? 3 u = some "*errors.errorString") : u = 167 :=
  typeName_ptr_named (nm := "errors.errorString") (by rw [star]; kernel_rfl) (by kernel_rfl) (by decide) u (by rw [star]; exact h)
theorem pES : Tryd.prog.underlying 167 = some (.pointer 184) := by kernel_rfl
theorem cES : Tryd.prog.cellsOf 184 = 1 := by kernel_rfl
theorem cStr : Tryd.prog.cellsOf 9 = 1 := by kernel_rfl

def laid12 : List (String × DataW Unit) := [("eden/api.BadRule", Rows.laid_eden_api_BadRule), ("eden/api.BadWord", Rows.laid_eden_api_BadWord), ("eden/api.BadArg", Rows.laid_eden_api_BadArg), ("eden/api.TooBig", Rows.laid_eden_api_TooBig), ("eden/api.NoBudget", Rows.laid_eden_api_NoBudget), ("eden/api.BadText", Rows.laid_eden_api_BadText), ("eden/api.BadPatch", Rows.laid_eden_api_BadPatch), ("eden/api.BadCert", Rows.laid_eden_api_BadCert), ("eden/api.NoInverse", Rows.laid_eden_api_NoInverse), ("eden/api.BadLine", Rows.laid_eden_api_BadLine), ("eden/api.BadState", Rows.laid_eden_api_BadState), ("eden/api.Unknown", Rows.laid_eden_api_Unknown)]

theorem sentinel {n : String} {text : List UInt8} {r : List (String × DataW Unit)} {W : World} {g : Nat}
    (h : laidMet Tryd.prog ((n, .iface "*errors.errorString" (.ptr (.agg [.lit (.string text)]))) :: r) W)
    (hg : Tryd.prog.globalNamed n = some g) (ht : (Tryd.prog.globals[g]?).map (·.type) = some 29) :
    (∃ a : Addr, W.cell? ⟨g, 0, none⟩ = some (.iface 167 (.pointer (some a))) ∧ ∃ s, W.cell? a = some (.string s) ∧ s.data.toList = text) ∧ laidMet Tryd.prog r W := by
  refine ⟨?_, h.tail⟩
  obtain ⟨a, s, hv, hc, hs, _⟩ := laid_sentinel h hg ht Tryd.underlying29 rowES pES Tryd.underlying184 rfl rfl Tryd.underlying9 cES cStr
  exact ⟨a, by simpa using World.var?_cell hg hv 0, s, hc, hs⟩

def txt : Nat → List UInt8
  | 1 => [98, 97, 100, 32, 114, 117, 108, 101]
  | 2 => [98, 97, 100, 32, 119, 111, 114, 100]
  | 3 => [98, 97, 100, 32, 97, 114, 103, 117, 109, 101, 110, 116]
  | 4 => [116, 111, 111, 32, 98, 105, 103]
  | 5 => [110, 111, 32, 98, 117, 100, 103, 101, 116]
  | 6 => [98, 97, 100, 32, 116, 101, 120, 116]
  | 7 => [98, 97, 100, 32, 112, 97, 116, 99, 104]
  | 8 => [98, 97, 100, 32, 99, 101, 114, 116, 105, 102, 105, 99, 97, 116, 101]
  | 9 => [110, 111, 32, 105, 110, 118, 101, 114, 115, 101]
  | 10 => [98, 97, 100, 32, 108, 105, 110, 101]
  | 11 => [98, 97, 100, 32, 115, 116, 97, 116, 101]
  | 99 => [117, 110, 107, 110, 111, 119, 110]
  | _ => []
theorem txt_apart : ∀ m n : Fin 12, 1 ≤ m.val → 1 ≤ n.val → txt m.val = txt n.val → m = n := by decide

theorem glob_of_laid {W : World} (h : laidMet Tryd.prog laid12 W) : ∃ r, Glob r W := by
  obtain ⟨⟨a1, c1, s1, e1, t1⟩, h⟩ := sentinel (text := txt 1) h (g := 0) (by kernel_rfl) (by kernel_rfl)
  obtain ⟨⟨a2, c2, s2, e2, t2⟩, h⟩ := sentinel (text := txt 2) h (g := 1) (by kernel_rfl) (by kernel_rfl)
  obtain ⟨⟨a3, c3, s3, e3, t3⟩, h⟩ := sentinel (text := txt 3) h (g := 2) (by kernel_rfl) (by kernel_rfl)
  obtain ⟨⟨a4, c4, s4, e4, t4⟩, h⟩ := sentinel (text := txt 4) h (g := 3) (by kernel_rfl) (by kernel_rfl)
  obtain ⟨⟨a5, c5, s5, e5, t5⟩, h⟩ := sentinel (text := txt 5) h (g := 4) (by kernel_rfl) (by kernel_rfl)
  obtain ⟨⟨a6, c6, s6, e6, t6⟩, h⟩ := sentinel (text := txt 6) h (g := 5) (by kernel_rfl) (by kernel_rfl)
  obtain ⟨⟨a7, c7, s7, e7, t7⟩, h⟩ := sentinel (text := txt 7) h (g := 6) (by kernel_rfl) (by kernel_rfl)
  obtain ⟨⟨a8, c8, s8, e8, t8⟩, h⟩ := sentinel (text := txt 8) h (g := 7) (by kernel_rfl) (by kernel_rfl)
  obtain ⟨⟨a9, c9, s9, e9, t9⟩, h⟩ := sentinel (text := txt 9) h (g := 8) (by kernel_rfl) (by kernel_rfl)
  obtain ⟨⟨a10, c10, s10, e10, t10⟩, h⟩ := sentinel (text := txt 10) h (g := 9) (by kernel_rfl) (by kernel_rfl)
  obtain ⟨⟨a11, c11, s11, e11, t11⟩, h⟩ := sentinel (text := txt 11) h (g := 10) (by kernel_rfl) (by kernel_rfl)
  obtain ⟨⟨a99, c99, s99, e99, t99⟩, h⟩ := sentinel (text := txt 99) h (g := 11) (by kernel_rfl) (by kernel_rfl)
  clear h
  have key : ∀ n : Nat, (1 ≤ n ∧ n ≤ 11) ∨ n = 99 → ∃ s, W.cell? ((fun n : Nat => match n with | 1 => a1 | 2 => a2 | 3 => a3 | 4 => a4 | 5 => a5 | 6 => a6 | 7 => a7 | 8 => a8 | 9 => a9 | 10 => a10 | 11 => a11 | _ => a99) n) = some (.string s) ∧ s.data.toList = txt n := by
    intro n hn
    have : n = 1 ∨ n = 2 ∨ n = 3 ∨ n = 4 ∨ n = 5 ∨ n = 6 ∨ n = 7 ∨ n = 8 ∨ n = 9 ∨ n = 10 ∨ n = 11 ∨ n = 99 := by omega
    rcases this with rfl | rfl | rfl | rfl | rfl | rfl | rfl | rfl | rfl | rfl | rfl | rfl
    · exact ⟨s1, e1, t1⟩
    · exact ⟨s2, e2, t2⟩
    · exact ⟨s3, e3, t3⟩
    · exact ⟨s4, e4, t4⟩
    · exact ⟨s5, e5, t5⟩
    · exact ⟨s6, e6, t6⟩
    · exact ⟨s7, e7, t7⟩
    · exact ⟨s8, e8, t8⟩
    · exact ⟨s9, e9, t9⟩
    · exact ⟨s10, e10, t10⟩
    · exact ⟨s11, e11, t11⟩
    · exact ⟨s99, e99, t99⟩
  refine ⟨(fun n : Nat => match n with | 1 => a1 | 2 => a2 | 3 => a3 | 4 => a4 | 5 => a5 | 6 => a6 | 7 => a7 | 8 => a8 | 9 => a9 | 10 => a10 | 11 => a11 | _ => a99), c1, c2, c3, c4, c5, c6, c7, c8, c9, c10, c11, c99, (fun n hn => ?_), fun m n hm1 hm2 hn1 hn2 he => ?_⟩
  · obtain ⟨s, hs, _⟩ := key n hn
    exact ⟨s, hs⟩
  · obtain ⟨s, hs, ts⟩ := key m.toNat (by omega)
    obtain ⟨s', hs', ts'⟩ := key n.toNat (by omega)
    have hss : s = s' := by
      have := hs.symm.trans ((congrArg W.cell? he).trans hs')
      simpa using this
    subst hss
    have := txt_apart ⟨m.toNat, by omega⟩ ⟨n.toNat, by omega⟩ (by simp; omega) (by simp; omega) (ts.symm.trans ts')
    have := congrArg Fin.val this
    simp at this
    omega
end Go.Proofs.YtmhiambkfdkkbaaDoor

namespace Go.Proofs.YtmhiambkfdkkbaaDoor
open Go.ChangeShapes Go.WideShapes Go.ChangeAt Go.RowKit Go.Joins
namespace PairsMeetP

set_option maxRecDepth 100000 in
theorem door_met (os : Os) (args : Array Value) : laidMetH Tryd.prog Rows.pairsMeetRow.laid ((World.doorLaid Tryd.prog 400 os).forCall (fun _ _ => 0) ⟨#[], args, []⟩).memory :=
  laidMetH_of_parts3 (fuel := 8) (laidMet_of_run' 8 (by kernel_rfl) (by kernel_rfl)) (by kernel_rfl) (by kernel_rfl)

set_option maxRecDepth 100000 in
theorem lifted (os : Os) (started : os.Started) (H : Type) (enc : TypeId × Value → H) :
    ReturnsInHanded {} Tryd.checked os 4 .any (fun w args => (Rows.pairsMeetSpec.pre enc Tryd.prog Tryd.f4 [] false w args ∧ laidMetH Tryd.prog Rows.pairsMeetRow.laid w) ∧ sizedMet enc Tryd.prog Tryd.f4 (OpenSpec.ofChange Rows.pairsMeetSpec) false w args)
      (Rows.pairsMeetSpec.post enc Tryd.prog Tryd.f4 false true false false) := by
  refine returnsInHanded_of_change_and (C := Tryd.checked) (X := fun w _ => laidMetH Tryd.prog Rows.pairsMeetRow.laid w) (fun _ _ _ hh h => h.of_heap hh) own started (by kernel_rfl) Tryd.func4
    (ChangeSpec.witness_shaped (enc := enc) (C := Tryd.checked) (os := os) (X := fun w _ => laidMetH Tryd.prog Rows.pairsMeetRow.laid w) false (World.doorLaid Tryd.prog 400 os) #[.agg #[.int .i64 0, .int .i64 0, .slice none 0 0], .slice none 0 0, .slice none 0 0] 8 rfl (World.shaped_of_RefB (by kernel_rfl) (by kernel_rfl)) (by kernel_rfl) (by kernel_rfl) (by kernel_rfl) (door_met os _)) ?_
  intro W base args ds gs before hval0 hW _ hsz hL _
  have hval : ∀ (j : Nat) t v, Tryd.f4.params[j]? = some t → args[j]? = some v → Value.okWide Tryd.prog W .any base t v := hval0
  have hW' := hW
  obtain ⟨p, q, hA0, hV, rfl, hfz, hnd⟩ := hW
  have hA : DataW.TrodAll enc Tryd.prog W 0 (fun _ => true) true Tryd.f4.params.toList args.toList ds p := hA0
  rw [Tryd.params4] at hA hval hsz
  obtain ⟨v0, vs0, d0, ds0, p0, q0, hargs, rfl, rfl, g0, t0⟩ := trodAll_cons hA
  obtain ⟨v1, vs1, d1, ds1, p1, q1, rfl, rfl, rfl, g1, t1⟩ := trodAll_cons t0
  obtain ⟨v2, vs2, d2, ds2, p2, q2, rfl, rfl, rfl, g2, t2⟩ := trodAll_cons t1
  obtain ⟨rfl, rfl, rfl⟩ := trodAll_nil t2
  obtain rfl : args = #[v0, v1, v2] := by cases args; simp_all
  obtain ⟨rfl, rfl⟩ := trodVars_none hV
  have kk0 := g0
  have lt0 : ∀ x ∈ p0, x.block < W.heap.size := by obtain ⟨m, hm⟩ := kk0; exact DataW.trod_lt m _ _ _ hm
  obtain ⟨kr0, rr0, u0, x0, rfl, h0, l0, b0, bk0, br0⟩ := open_ruleV (hval 0 24 v0 rfl rfl) g0 (fun n hn => by
    have := List.all_eq_true.1 hsz n (DataW.weights_mem_each (j := 0) (t := 24) rfl rfl n hn)
    simpa using this)
  have kk1 := g1
  have lt1 : ∀ x ∈ p1, x.block < W.heap.size := by obtain ⟨m, hm⟩ := kk1; exact DataW.trod_lt m _ _ _ hm
  obtain ⟨x1, h1, l1, b1⟩ := open_intsT (hval 1 22 v1 rfl rfl) g1 (fun n hn => by
    have := List.all_eq_true.1 hsz n (DataW.weights_mem_each (j := 1) (t := 22) rfl rfl n hn)
    simpa using this)
  have kk2 := g2
  have lt2 : ∀ x ∈ p2, x.block < W.heap.size := by obtain ⟨m, hm⟩ := kk2; exact DataW.trod_lt m _ _ _ hm
  obtain ⟨x2, h2, l2, b2⟩ := open_intsT (hval 2 22 v2 rfl rfl) g2 (fun n hn => by
    have := List.all_eq_true.1 hsz n (DataW.weights_mem_each (j := 2) (t := 22) rfl rfl n hn)
    simpa using this)
  obtain ⟨r, hg⟩ := glob_of_laid (W := W) (by
    rw [MakeChecks.laidMetH_plain _ _ _ (by kernel_rfl)] at hL
    exact hL)
  clear hA0 hval0
  refine ((pairsMeet_any r kr0 rr0 u0 x0 v1 x1 v2 x2 W hg h0 h1 h2)).mono fun e W' ⟨x, he, bel, hxx⟩ => ?_
  subst he; subst hxx
  exact ⟨_, rfl, _, _, _, [], _, [], hW', trodAll_mk1 (shut_bool Tryd.underlying4 _), (trodAll_cons_mk (Below.trod laidOut (by kernel_rfl) (of_decide_eq_true (by kernel_rfl)) kk0 bel lt0) (trodAll_cons_mk (Below.trod laidOut (by kernel_rfl) (of_decide_eq_true (by kernel_rfl)) kk1 bel lt1) (trodAll_cons_mk (Below.trod laidOut (by kernel_rfl) (of_decide_eq_true (by kernel_rfl)) kk2 bel lt2) trodAll_mk0))), rfl, bel.frame _, fun h => by cases h⟩

theorem over : Rows.PairsMeetSaid :=
  OpenClaim.holds_of_wide 4 Tryd.f4 rfl rfl rfl rfl rfl rfl rfl ⟨rfl, rfl, rfl, rfl, rfl⟩ rfl rfl rfl rfl rfl (by kernel_rfl) Tryd.func4 (by kernel_rfl)
    (of_decide_eq_true (by kernel_rfl)) (by unfold Func.isWrapper; first | (rw [if_pos (by decide +kernel)]; kernel_rfl) | (rw [if_neg (by decide +kernel)]; exact ⟨rfl, rfl⟩))
    (fun os started H enc _ => lifted os started H enc)

/-- The tied card. -/
theorem card_holds : Rows.PairsMeetCardSaid :=
  Claim7.holds_tied_plain_at .later [] [.sentinel, .sentinel, .sentinel, .sentinel, .sentinel, .sentinel, .sentinel, .sentinel, .sentinel, .sentinel, .sentinel, .sentinel] true _ _
    over (fun _ h => by cases h) (by kernel_rfl) (fun _ h => by cases h) pairsMeet_row_tie rfl ⟨rfl, rfl⟩ (by kernel_rfl) rfl
    (fun f fn hf hfn => by
      obtain rfl : f = 4 := Option.some.inj ((show Tryd.prog.funcNamed Rows.pairsMeetRow.func = some 4 by kernel_rfl).symm.trans hf) |>.symm
      obtain rfl : fn = Tryd.f4 := (Option.some.inj (Tryd.func4.symm.trans hfn)).symm
      exact ⟨by kernel_rfl, fun j t ht => by
        rw [Tryd.params4] at ht
        have hm : t ∈ [24, 22, 22] := by simpa using Array.mem_of_getElem? ht
        have hall : ([24, 22, 22].all fun u => !Tryd.prog.wantsStandIn u) = true := by kernel_rfl
        exact (show Tryd.prog.wantsStandIn t = false by simpa using List.all_eq_true.1 hall t hm)⟩)
    (by kernel_rfl)
end PairsMeetP
#print axioms PairsMeetP.card_holds
end Go.Proofs.YtmhiambkfdkkbaaDoor
