/-
  Walk: edenlaw18.AddSums returns true.
-/
import Derived.Test.YtmddapkhipmlgaaDoorSumsMade
import Derived.Test.YtmddapkhipmlgaaDoorCompose
import Derived.Test.YtmddapkhipmlgaaDoorMul
import Derived.Test.YtmddapkhipmlgaaDoorLent
namespace Go.Proofs.YtmddapkhipmlgaaDoor
open Go.RowKit
set_option maxRecDepth 100000

def madeB (k R : Int) (n : Nat) : Bool := decide (1 ≤ k ∧ k ≤ 4 ∧ 0 ≤ R ∧ R ≤ 3 ∧ 2 * R + 1 ≤ (n : Int))

theorem made18_any (r : Nat → Addr) (k R : Int) (v : Value) (f : List Int) (w : World) (hg : Glob r w) (h : IntsAt w v f) :
    Calls Tryd.prog 24 #[.int .i64 k, .int .i64 R, v] w (Ret3 (fun x y z w' => ∃ k' R' a n c a2 n2 c2, x = .agg #[.int .i64 k', .int .i64 R', .slice a n c] ∧ y = .slice a2 n2 c2 ∧ z = .bool (madeB k R f.length) ∧
      (madeB k R f.length = true → k' = k ∧ R' = R ∧ OwnI w.heap.size w' y (modL k.toNat f (2 * R.toNat + 1)) ∧ OwnI w.heap.size w' (.slice a n c) (sumT k.toNat (modL k.toNat f (2 * R.toNat + 1))))) w) := by
  cases hm : madeB k R f.length with
  | false =>
    have hb : k < 1 ∨ 4 < k ∨ R < 0 ∨ 3 < R ∨ (f.length : Int) < 2 * R + 1 := by
      have := of_decide_eq_false hm
      omega
    refine (made18_bad k R v f w h hb).mono ?_
    rintro e w' ⟨x, y, z, he, hb, rfl, rfl, rfl⟩
    exact ⟨_, _, _, he, hb, 0, 0, none, 0, 0, none, 0, 0, rfl, rfl, rfl, (fun q => by cases q)⟩
  | true =>
    have hb := of_decide_eq_true hm
    obtain ⟨K, rfl⟩ := Int.eq_ofNat_of_zero_le (show 0 ≤ k by omega)
    obtain ⟨Q, rfl⟩ := Int.eq_ofNat_of_zero_le (show 0 ≤ R by omega)
    refine (made18_ok r K Q v f w hg h (by omega) (by omega) (by omega) (by omega)).mono ?_
    rintro e w' ⟨x, y, z, he, hb, rfl, hy, a, n, c, rfl, ho⟩
    obtain ⟨a2, n2, c2, rfl⟩ := hy.at.shape
    exact ⟨_, _, _, he, hb, _, _, a, n, c, a2, n2, c2, rfl, rfl, rfl, fun _ => ⟨rfl, rfl, by simpa using hy, by simpa using ho⟩⟩

theorem mulP_ok {K Q Q' : Nat} {a b : List Int} (h1 : 1 ≤ K) (h4 : K ≤ 4) (ha : a.length = 2 * Q + 1) (hb : b.length = 2 * Q' + 1) (hq : Q ≤ 3) (hq' : Q' ≤ 3) (hsa : Syms K a) (hsb : Syms K b) :
    mulP K a b = if Q + Q' ≤ 3 then none else fresh sAdditive 2 3 := by
  have f1 : factP K a = none := factP_of h1 h4 (by rw [ha]; exact oddP_mk hq) hsa
  have f2 : oddP b.length = true := by rw [hb]; exact oddP_mk hq'
  have e : oddP (a.length + b.length - 1) = decide (Q + Q' ≤ 3) := by
    rw [ha, hb]
    unfold oddP
    rw [decide_eq_true (show (2 * Q + 1 + (2 * Q' + 1) - 1) % 2 = 1 by omega), Bool.true_and]
    exact decide_eq_decide.2 (by omega)
  unfold mulP
  rw [f1, f2, hsb.num, e]
  simp only [Bool.true_eq_false, if_false, decide_eq_false_iff_not]
  by_cases h : Q + Q' ≤ 3
  · rw [if_neg (by omega), if_pos h]
  · rw [if_pos h, if_neg h]

theorem errTest' {r : Nat → Addr} {w : World} {t : PErr} {v : Value} (h : ErrIs r w t v) (hn : t ≠ none) : ∃ T a, v = .iface T (.pointer (some a)) := by
  cases t with
  | none => exact absurd rfl hn
  | some t => exact h.some_shape

set_option maxHeartbeats 800000 in
theorem addSums_any (r : Nat → Addr) (k R : Int) (v1 : Value) (xs : List Int) (R' : Int) (v2 : Value) (ys : List Int) (w : World) (hg : Glob r w) (h1 : IntsAt w v1 xs) (h2 : IntsAt w v2 ys) :
    Calls Tryd.prog 6 #[.int .i64 k, .int .i64 R, v1, .int .i64 R', v2] w (Ret1 (fun x _ => x = .bool true) w) := by
  replace hg := Lib.hid hg
  replace h1 := Lib.hid h1
  replace h2 := Lib.hid h2
  go_enter Tryd.func6, Tryd.ntmps6
  go_wp2_with fail
  refine (awake18 r _ hg.out).mono ?_
  rintro e w1 ⟨_, rfl, b1, rfl⟩
  go_wp2_with fail
  refine (made18_any r k R v1 xs _ (hg.out.below b1) (h1.out.below b1)).mono ?_
  rintro e w2 ⟨x, y, z, rfl, b2, k1, R1, a1, n1, c1, p1, m1, d1, rfl, rfl, rfl, hm1⟩
  have c2 := Below.step b1 b2
  have b2' := Below.step b2 (belowAlloc w2 (.cells #[.int .i64 k1, .int .i64 R1, .slice a1 n1 c1] 24))
  have c2' := Below.step b1 b2'
  go_wp2_with fail
  refine (made18_any r k R' v2 ys _ (hg.out.below c2') (h2.out.below c2')).mono ?_
  rintro e w3 ⟨x, y, z, rfl, b3, k2, R2, a2, n2, c2, p2, m2, d2, rfl, rfl, rfl, hm2⟩
  have c3 := Lib.hid (Below.step (Below.step c2' b3) (belowAlloc w3 (.cells #[.int .i64 k2, .int .i64 R2, .slice a2 n2 c2] 24)))
  cases e1 : madeB k R xs.length with
  | false =>
    cases e2 : madeB k R' ys.length <;> (clear hm1 hm2; go_wp2; go_ret; exact ⟨_, rfl, c3.out, rfl⟩)
  | true =>
  cases e2 : madeB k R' ys.length with
  | false => clear hm1 hm2; go_wp2; go_ret; exact ⟨_, rfl, c3.out, rfl⟩
  | true =>
  obtain ⟨rfl, rfl, hy1, ho1⟩ := hm1 e1
  obtain ⟨rfl, rfl, hy2, ho2⟩ := hm2 e2
  have g1 := of_decide_eq_true e1
  have g2 := of_decide_eq_true e2
  obtain ⟨K, rfl⟩ := Int.eq_ofNat_of_zero_le (show 0 ≤ k2 by omega)
  obtain ⟨Q, rfl⟩ := Int.eq_ofNat_of_zero_le (show 0 ≤ R1 by omega)
  obtain ⟨Q', rfl⟩ := Int.eq_ofNat_of_zero_le (show 0 ≤ R2 by omega)
  simp only [Int.toNat_natCast] at hy1 ho1 hy2 ho2
  have hk1 : 1 ≤ K := by omega
  have hk4 : K ≤ 4 := by omega
  have hq : Q ≤ 3 := by omega
  have hq' : Q' ≤ 3 := by omega
  have l1 : (modL K xs (2 * Q + 1)).length = 2 * Q + 1 := modL_length _ _ _ (by omega)
  have l2 : (modL K ys (2 * Q' + 1)).length = 2 * Q' + 1 := modL_length _ _ _ (by omega)
  have s1 := modL_syms hk1 xs (2 * Q + 1)
  have s2 := modL_syms hk1 ys (2 * Q' + 1)
  generalize modL K xs (2 * Q + 1) = A at *
  generalize modL K ys (2 * Q' + 1) = B at *
  clear hm1 hm2 e1 e2 g1 g2
  have hrA : RuleOk K Q (sumT K A) := sumT_ok hk1 hk4 hq l1
  have hrB : RuleOk K Q' (sumT K B) := sumT_ok hk1 hk4 hq' l2
  have hfac : Hid (facs K Q (sumT K A) = A) := facs_sumT1 hk1 l1 s1
  have hisS : Hid (isSum K Q (sumT K A) = true) := isSum_sumT1 hk1 l1 s1
  have m1P := mulP_ok hk1 hk4 l1 l2 hq hq' s1 s2
  have m2P := mulP_ok hk1 hk4 l2 l1 hq' hq s2 s1
  rw [Nat.add_comm Q' Q] at m2P
  have hcm : Hid (mulL K A B = mulL K B A) := mulL_comm K hk1 A B (by omega) (by omega)
  have hbs : Hid (behindT K Q (sumT K A) Q' (sumT K B) = sumT K (mulL K A B)) := behind_sum hk1 l1 l2
  have hml : Hid ((mulL K A B).length = 2 * (Q + Q') + 1) := by show _ = _; rw [mulL_length]; omega
  have hms := Lib.hid (mulAll_syms hk1 A B A.length)
  have b3' := Below.step b3 (belowAlloc w3 (.cells #[.int .i64 K, .int .i64 Q', .slice a2 n2 c2] 24))
  have b23 := Below.step (belowAlloc w2 (.cells #[.int .i64 K, .int .i64 Q, .slice a1 n1 c1] 24)) b3'
  obtain ⟨z0, z1, z2, -, -, -⟩ := cells3 b3'
  have zz := Lib.hid (And.intro z0 (And.intro z1 z2))
  have aA := hy1.at.below b23
  have tA := ho1.at.below b23
  have aB := hy2.at.below (belowAlloc w3 (.cells #[.int .i64 K, .int .i64 Q', .slice a2 n2 c2] 24))
  have tB := ho2.at.below (belowAlloc w3 (.cells #[.int .i64 K, .int .i64 Q', .slice a2 n2 c2] 24))
  replace l1 := Lib.hid l1
  replace l2 := Lib.hid l2
  replace m1P := Lib.hid m1P
  replace m2P := Lib.hid m2P
  clear hy1 ho1 hy2 ho2 s1 s2
  go_wp2_with fail
  refine (of_ok K Q _ (sumT K A) _ tA hrA).mono ?_
  rintro e w4 ⟨u, _, _, rfl, b4, rfl, rfl, hu, -⟩
  replace hu := hu hisS.out
  rw [hfac.out] at hu
  rw [hisS.out]
  have c4 := Below.step c3.out b4
  go_wp2_with fail
  refine (mul_any r K _ _ A B _ (hg.out.below c4) (aA.below b4) (aB.below b4) (by have := l1.out; omega) (by have := l2.out; omega)).mono ?_
  rintro e w5 ⟨c, i, rfl, b5, hi, hc, hcn⟩
  rw [Int.toNat_natCast] at hc
  rw [m1P.out] at hi hc hcn
  have b45 := Below.step b4 b5
  have c5 := Below.step c4 b5
  go_wp2_with fail
  refine (mul_any r K _ _ B A _ (hg.out.below c5) (aB.below b45) (aA.below b45) (by have := l2.out; omega) (by have := l1.out; omega)).mono ?_
  rintro e w6 ⟨d, j, rfl, b6, hj, hd, hdn⟩
  rw [Int.toNat_natCast] at hd
  rw [m2P.out] at hj hd hdn
  have b46 := Below.step b45 b6
  have c6 := Below.step c5 b6
  replace hi := hi.below b6
  go_wp2_with fail
  refine (ints_any u _ A A _ (hu.at.below (Below.step b5 b6)) (aA.below b46)).mono ?_
  rintro e w7 h7
  obtain ⟨rfl, b7⟩ := h7.below
  clear h7
  rw [show decide (A = A) = true by simp]
  have b47 := Below.step b46 b7
  have c7 := Below.step c6 b7
  obtain ⟨x0, x1, x2⟩ := keep3 b47 zz.out
  obtain ⟨y0, y1, y2⟩ := keep3 (n := w3.heap.size) (a := .int .i64 K) (b := .int .i64 Q') (c := .slice a2 n2 c2) b47 ⟨by simp, by simp, by simp⟩
  replace hi := hi.below b7
  replace hj := hj.below b7
  by_cases hR : Q + Q' ≤ 3
  case neg =>
    rw [if_neg hR] at hi hj hcn
    obtain ⟨T1, q1, rfl⟩ := ErrIs.some_shape hi
    obtain ⟨T2, q2, rfl⟩ := ErrIs.some_shape hj
    obtain rfl := hcn (by simp [fresh])
    have hRi : (3 : Int) < (Q : Int) + (Q' : Int) := by omega
    replace c7 := Lib.hid c7
    clear hi hj hc hd hcn hdn
    go_wp2
    go_ret
    exact ⟨_, rfl, c7.out, rfl⟩
  rw [if_pos hR] at hi hj hc hd hcn hdn
  obtain rfl := ErrIs.none_eq hi
  obtain rfl := ErrIs.none_eq hj
  replace hc := hc rfl
  replace hd := hd rfl
  rw [← hcm.out] at hd
  clear hi hj hcn hdn
  have hRi : (Q : Int) + (Q' : Int) ≤ 3 := by omega
  go_wp2_with fail
  refine (compose_ok r K Q Q' a1 n1 c1 (sumT K A) a2 n2 c2 (sumT K B) _ (hg.out.below c7) (tA.below b47) (tB.below b47) hrA hrB hR).mono ?_
  rintro e w8 ⟨x, y, rfl, b8, rfl, xa, xn, xc, rfl, hx⟩
  rw [hbs.out] at hx
  have c8 := Below.step c7 b8
  have b8' := Below.step b8 (belowAlloc w8 (.cells #[.int .i64 K, .int .i64 ((Q + Q' : Nat) : Int), .slice xa xn xc] 24))
  have c8' := Below.step c7 b8'
  have b68 := Below.step b7 b8'
  have b58 := Below.step b6 b68
  go_wp2_with fail
  have hq3 : ((Q : Int) + (Q' : Int)) = ((Q + Q' : Nat) : Int) := by simp
  rw [hq3]
  clear hq3
  refine (make_ok r K (Q + Q') c (mulL K A B) _ (hg.out.below c8') (hc.at.below b58) hk1 hk4 hR hml.out hms.out).mono ?_
  rintro e w9 ⟨y, z, rfl, b9, rfl, ya, yn, yc, rfl, hy⟩
  have c9 := Below.step c8' b9
  have b9' := Below.step b9 (belowAlloc w9 (.cells #[.int .i64 K, .int .i64 ((Q + Q' : Nat) : Int), .slice ya yn yc] 24))
  have b59 := Below.step b58 b9'
  have b69 := Below.step b68 b9'
  have c9' := Below.step c8' b9'
  clear x0 x1 x2 y0 y1 y2
  obtain ⟨x0, x1, x2⟩ := keep3 (n := w8.heap.size) (a := .int .i64 K) (b := .int .i64 ((Q + Q' : Nat) : Int)) (c := .slice xa xn xc) b9' ⟨by simp, by simp, by simp⟩
  go_wp2_with fail
  refine (ints_any c d (mulL K A B) (mulL K A B) _ (hc.at.below b59) (hd.at.below b69)).mono ?_
  rintro e w10 h10
  obtain ⟨rfl, b10⟩ := h10.below
  clear h10
  rw [show decide (mulL K A B = mulL K A B) = true by simp]
  obtain ⟨x0, x1, x2⟩ := keep3 b10 ⟨x0, x1, x2⟩
  obtain ⟨y0, y1, y2⟩ := keep3 (n := w9.heap.size) (a := .int .i64 K) (b := .int .i64 ((Q + Q' : Nat) : Int)) (c := .slice ya yn yc) b10 ⟨by simp, by simp, by simp⟩
  have c10 := Below.step c9' b10
  go_wp2_with fail
  refine (rules_any K _ K _ xa xn xc ya yn yc (sumT K (mulL K A B)) (sumT K (mulL K A B)) _ (((hx.at.below (belowAlloc _ _)).below b9').below b10) ((hy.at.below (belowAlloc _ _)).below b10)).mono ?_
  rintro e w11 ⟨_, rfl, b11, rfl⟩
  have c11 := Lib.hid (Below.step c10 b11)
  rw [show ((K : Int) == (K : Int) && (((Q : Int) + (Q' : Int)) == ((Q : Int) + (Q' : Int)) && decide (sumT K (mulL K A B) = sumT K (mulL K A B)))) = true by simp]
  go_wp2
  go_ret
  exact ⟨_, rfl, c11.out, rfl⟩
end Go.Proofs.YtmddapkhipmlgaaDoor
