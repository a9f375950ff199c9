/-
  Walk: edenlaw18.AddKeeps returns true.
-/
import Derived.Test.YtmddapkhipmlgaaDoorLaw18
import Derived.Test.YtmddapkhipmlgaaDoorMul
import Derived.Test.YtmddapkhipmlgaaDoorLent
import Derived.Test.YtmddapkhipmlgaaDoorFam
import Derived.Test.YtmddapkhipmlgaaDoorPureParts
namespace Go.Proofs.YtmddapkhipmlgaaDoor
open Go.RowKit
set_option maxRecDepth 100000

/-- additive.Make at all factors. -/
theorem make_any (r : Nat → Addr) (k R : Int) (v : Value) (f : List Int) (w : World) (hg : Glob r w) (h : IntsAt w v f) :
    Calls Tryd.prog 14 #[.int .i64 k, .int .i64 R, v] w (Ret2 (fun x y w' => ∃ k' R' a n c, x = .agg #[.int .i64 k', .int .i64 R', .slice a n c] ∧ ErrIs r w' (makeP k R f) y ∧
      (makeP k R f = none → k' = k ∧ R' = R ∧ OwnI w.heap.size w' (.slice a n c) (sumT k.toNat f)) ∧ (makeP k R f ≠ none → k' = 0 ∧ R' = 0 ∧ (.slice a n c : Value) = .slice none 0 0)) w) := by
  cases hm : makeP k R f with
  | none =>
    obtain ⟨K, Q, rfl, rfl, h1, h4, h3, hl, hs⟩ := makeP_none hm
    refine (make_ok r K Q v f w hg h h1 h4 h3 hl hs).mono ?_
    rintro e w' ⟨x, y, he, hb, rfl, a, n, c, rfl, ho⟩
    exact ⟨_, _, he, hb, _, _, a, n, c, rfl, rfl, fun _ => ⟨rfl, rfl, by rw [Int.toNat_natCast]; exact ho⟩, fun h => absurd rfl h⟩
  | some t =>
    have fin : ∀ {t' : PErr}, t' = some t → ∀ e w', (Ret2 (fun x y w' => x = zRule ∧ ErrIs r w' t' y) w) e w' → Ret2 (fun x y w' => ∃ k' R' a n c, x = .agg #[.int .i64 k', .int .i64 R', .slice a n c] ∧ ErrIs r w' (some t) y ∧
      (some t = none → k' = k ∧ R' = R ∧ OwnI w.heap.size w' (.slice a n c) (sumT k.toNat f)) ∧ (some t ≠ none → k' = 0 ∧ R' = 0 ∧ (.slice a n c : Value) = .slice none 0 0)) w e w' := by
      rintro t' rfl e w' ⟨x, y, he, hb, rfl, hy⟩
      exact ⟨_, _, he, hb, 0, 0, none, 0, 0, rfl, hy, (fun h => by cases h), fun _ => ⟨rfl, rfl, rfl⟩⟩
    unfold makeP at hm
    by_cases h1 : k < 1 ∨ 4 < k ∨ R < 0 ∨ 3 < R
    · rw [if_pos h1] at hm
      exact (make_bad0 r k R v w hg h1).mono (fin hm)
    rw [if_neg h1] at hm
    obtain ⟨K, rfl⟩ := Int.eq_ofNat_of_zero_le (show 0 ≤ k by omega)
    obtain ⟨Q, rfl⟩ := Int.eq_ofNat_of_zero_le (show 0 ≤ R by omega)
    by_cases h2 : (f.length : Int) ≠ 2 * Q + 1
    · rw [if_pos h2] at hm
      exact (make_bad1 r K Q v f w hg h (by omega) (by omega) (by omega) (by omega)).mono (fin hm)
    rw [if_neg h2] at hm
    exact (make_num r K Q v f t w hg h (by omega) (by omega) (by omega) (by omega) hm).mono (fin rfl)

theorem ErrIs.test {r : Nat → Addr} {w : World} {t : PErr} {v : Value} (h : ErrIs r w t v) : (t = none ∧ v = .nilIface) ∨ (t ≠ none ∧ ∃ T a, v = .iface T (.pointer (some a))) := by
  cases t with
  | none => exact .inl ⟨rfl, h⟩
  | some t => exact .inr ⟨by simp, h.some_shape⟩

set_option maxHeartbeats 4000000 in
theorem addKeeps_any (r : Nat → Addr) (k : Int) (va vb : Value) (xs ys : List Int) (w : World) (hg : Glob r w) (ha : IntsAt w va xs) (hb : IntsAt w vb ys) (hxl : xs.length ≤ 17592186043904) (hyl : ys.length ≤ 17592186043904) :
    Calls Tryd.prog 4 #[.int .i64 k, va, vb] w (Ret1 (fun x _ => x = .bool true) w) := by
  have hla := ha.len
  have hla2 : (0 : Int) ≤ (xs.length : Int) / 2 := by omega
  replace hg := Lib.hid hg
  replace ha := Lib.hid ha
  replace hb := Lib.hid hb
  go_enter Tryd.func4, Tryd.ntmps4
  go_wp2_with fail
  refine (awake18 r _ hg.out).mono ?_
  rintro e w1 ⟨_, rfl, b1, rfl⟩
  go_wp2_with fail
  refine (lent_any va xs _ (ha.out.below b1) (by omega)).mono ?_
  rintro e w2 ⟨x, rfl, b2, hx⟩
  have c2 := Below.step b1 b2
  go_wp2_with fail
  refine (lent_any vb ys _ (hb.out.below c2) (by omega)).mono ?_
  rintro e w3 ⟨y, rfl, b3, hy⟩
  have c3 := Below.step c2 b3
  replace hx := hx.below b3
  go_wp2_with fail
  refine (make_any r k _ x xs _ (hg.out.below c3) hx.at).mono ?_
  rintro e w4 ⟨_, e1, rfl, b4, k1, R1, a1, n1, d1, rfl, he1, hok1, _⟩
  go_wp2_with fail
  have b4' := Below.step b4 (belowAlloc w4 (.cells #[.int .i64 k1, .int .i64 R1, .slice a1 n1 d1] 24))
  refine (make_any r k _ x xs _ ((hg.out.below c3).below b4') (hx.below b4').at).mono ?_
  rintro e w5 ⟨_, e2, rfl, b5, k2, R2, a2, n2, d2, rfl, he2, hok2, _⟩
  go_wp2_with fail
  have b5' := Below.step b5 (belowAlloc w5 (.cells #[.int .i64 k2, .int .i64 R2, .slice a2 n2 d2] 24))
  have b45 := Below.step b4' b5'
  refine (mul_any r k x y xs ys _ ((hg.out.below c3).below b45) (hx.below b45).at (hy.below b45).at (by omega) (by omega)).mono ?_
  rintro e w6 ⟨m, e3, rfl, b6, he3, hok3, _⟩
  go_wp2_with fail
  have b6' := Below.step b6 (belowAlloc w6 (.cells #[.int .i64 1] 3))
  have b46 := Below.step b45 b6'
  refine (mul_any r k x _ xs [1] _ ((hg.out.below c3).below b46) (hx.below b46).at (OwnI.lit 0 w6 (Nat.zero_le _) [1] (by decide) #[.int .i64 1] rfl 1 rfl).at (by omega) (by decide)).mono ?_
  rintro e w7 ⟨o, e4, rfl, b7, he4, hok4, _⟩
  have b47 := Below.step b46 b7
  have c7 := Lib.hid (Below.step c3 b47)
  -- where some call refuses
  rcases he1.test with ⟨hm1, rfl⟩ | ⟨_, T1, p1, rfl⟩
  case inr => go_wp2; go_ret; exact ⟨_, rfl, c7.out, rfl⟩
  rcases he2.test with ⟨_, rfl⟩ | ⟨hm2, _⟩
  case inr => exact absurd hm1 hm2
  rcases he3.test with ⟨hm3, rfl⟩ | ⟨_, T3, p3, rfl⟩
  case inr => go_wp2; go_ret; exact ⟨_, rfl, c7.out, rfl⟩
  by_cases hk2 : k < 2
  · go_wp2; go_ret; exact ⟨_, rfl, c7.out, rfl⟩
  obtain ⟨K, Q, rfl, hQ, hk1, hk4, hQ3, hl, hs⟩ := makeP_none hm1
  obtain ⟨rfl, rfl, ho1⟩ := hok1 hm1
  obtain ⟨rfl, rfl, ho2⟩ := hok2 hm1
  replace hok3 := hok3 hm3
  have hm4 : mulP K xs [1] = none := mulP_one (by omega) hk4 (by rw [hl]; exact oddP_mk hQ3) hs
  rw [hm4] at he4
  obtain rfl := he4.none_eq
  replace hok4 := hok4 hm4
  rw [Int.toNat_natCast] at ho1 ho2 hok3 hok4
  rw [mulL_one hs] at hok4
  have hK : 1 < K := by omega
  have hrok : RuleOk K Q (sumT K xs) := sumT_ok hk1 hk4 hQ3 hl
  have hfac : facs K Q (sumT K xs) = xs := facs_sumT hK hl hs
  have hsum : isSum K Q (sumT K xs) = true := isSum_sumT hK hl hs
  rw [hQ]
  replace hrok := Lib.hid hrok
  replace hfac := Lib.hid hfac
  replace hsum := Lib.hid hsum
  have hxl7 : xs.length ≤ 7 := by omega
  have hyl7 : (mulL K xs ys).length ≤ 100 := by
    rw [mulL_length]
    have : mulP K xs ys = none := hm3
    unfold mulP at this
    cases hc : factP K xs with
    | some t => rw [hc] at this; cases this
    | none =>
      rw [hc] at this
      simp only at this
      cases hy : oddP ys.length with
      | false => rw [hy, if_pos rfl] at this; cases this
      | true => have := oddP_true hy; omega
  have hsl : (sumT K xs).length ≤ 16384 := by rw [sumT_length]; exact pw_le hk1 hk4 hxl7
  replace hs := Lib.hid hs
  replace hl := Lib.hid hl
  rw [hQ] at *
  clear hm1 hm3 hm4 hok1 hok2 he1 he2 he3 he4
  -- everything at world 7
  have g5 := Below.step b6' b7
  have g4 := Below.step (Below.step b5 (belowAlloc w5 (.cells #[.int .i64 (K : Int), .int .i64 (Q : Int), .slice a2 n2 d2] 24))) g5
  have t1 := ho1.at.below (Below.step (belowAlloc w4 (.cells #[.int .i64 (K : Int), .int .i64 (Q : Int), .slice a1 n1 d1] 24)) g4)
  have t2 := ho2.at.below (Below.step (belowAlloc w5 (.cells #[.int .i64 (K : Int), .int .i64 (Q : Int), .slice a2 n2 d2] 24)) g5)
  obtain ⟨z0, z1, z2, -, -, -⟩ := cells3 g4
  go_wp2_with fail
  refine (of_ok K Q _ (sumT K xs) _ t1 hrok.out).mono ?_
  rintro e w8 ⟨u, _, _, rfl, b8, rfl, rfl, hu, -⟩
  replace hu := hu hsum.out
  rw [hfac.out] at hu
  rw [hsum.out]
  replace g4 := Below.step g4 b8
  replace g5 := Below.step g5 b8
  replace t1 := t1.below b8
  replace t2 := t2.below b8
  clear z0 z1 z2
  obtain ⟨z0, z1, z2, -, -, -⟩ := cells3 g4
  go_wp2_with fail
  refine (of_ok K Q _ (sumT K xs) _ t1 hrok.out).mono ?_
  rintro e w9 ⟨v, _, _, rfl, b9, rfl, rfl, hv, -⟩
  replace hv := hv hsum.out
  rw [hfac.out] at hv
  rw [hsum.out]
  replace g4 := Below.step g4 b9
  replace g5 := Below.step g5 b9
  replace t1 := t1.below b9
  replace t2 := t2.below b9
  have hu9 := hu.at.below b9
  have ho9 := (hok4.at.below b8).below b9
  have c9 := Below.step (Below.step c7.out b8) b9
  clear z0 z1 z2
  obtain ⟨z0, z1, z2, -, -, -⟩ := cells3 g4
  obtain ⟨y0, y1, y2, -, -, -⟩ := cells3 g5
  go_wp2_with fail
  refine (rules_any K Q K Q a1 n1 d1 a2 n2 d2 _ _ _ t1 t2).mono ?_
  rintro e w10 ⟨_, rfl, b10, rfl⟩
  rw [show (((K : Int) == (K : Int)) && (((Q : Int) == (Q : Int)) && decide (sumT K xs = sumT K xs))) = true by simp]
  clear z0 z1 z2 y0 y1 y2
  go_wp2_with fail
  refine (ints_any o va xs xs _ (ho9.below b10) (ha.out.below (Below.step c9 b10))).mono ?_
  rintro e w11 h11
  obtain ⟨rfl, b11⟩ := h11.below
  clear h11
  rw [show decide (xs = xs) = true by simp]
  have b10' := Below.step b10 b11
  go_wp2_with fail
  refine (ints_any u va xs xs _ (hu9.below b10') (ha.out.below (Below.step c9 b10'))).mono ?_
  rintro e w12 h12
  obtain ⟨rfl, b12⟩ := h12.below
  clear h12
  rw [show decide (xs = xs) = true by simp]
  have b912 := Below.step b10' b12
  replace g4 := Below.step g4 b912
  replace g5 := Below.step g5 b912
  obtain ⟨z0, z1, z2, -, -, -⟩ := cells3 g4
  obtain ⟨y0, y1, y2, -, -, -⟩ := cells3 g5
  have s1 := Lib.hid (ho1.below (Below.step (belowAlloc w4 (.cells #[.int .i64 (K : Int), .int .i64 (Q : Int), .slice a1 n1 d1] 24)) g4))
  have s2 := Lib.hid (ho2.below (Below.step (belowAlloc w5 (.cells #[.int .i64 (K : Int), .int .i64 (Q : Int), .slice a2 n2 d2] 24)) g5))
  have b712 := Below.step (Below.step b8 b9) b912
  have s3 := Lib.hid (hok3.below (Below.step (belowAlloc w6 (.cells #[.int .i64 1] 3)) (Below.step b7 b712)))
  have s4 := Lib.hid (hok4.below b712)
  have s5 := Lib.hid (hu.below (Below.step b9 b912))
  have s6 := Lib.hid (hv.below b912)
  obtain ⟨ma, mn, mc, rfl⟩ := hok3.at.shape
  obtain ⟨oa, on, oc, rfl⟩ := hok4.at.shape
  obtain ⟨ua, un, uc, rfl⟩ := hu.at.shape
  obtain ⟨va', vn', vc', rfl⟩ := hv.at.shape
  have hOwns : Owns w12 w3.heap.size [.slice a1 n1 d1, .slice a2 n2 d2, .slice ma mn mc, .slice oa on oc, .slice ua un uc, .slice va' vn' vc'] [sumT K xs, sumT K xs, mulL K xs ys, xs, xs, xs] :=
    ⟨w4.heap.size, b4.size, s1.out, fun k hk => (ho1.lt k hk).2,
     w5.heap.size, (by have := b5.size; simp at this; omega), s2.out.mono (by simp), fun k hk => (ho2.lt k hk).2,
     w6.heap.size, (by have := b6.size; simp at this; omega), s3.out.mono (by simp), fun k hk => (hok3.lt k hk).2,
     w7.heap.size, (by have := b7.size; simp at this; omega), s4.out.mono (by simp), fun k hk => (hok4.lt k hk).2,
     w8.heap.size, b8.size, s5.out, fun k hk => (hu.lt k hk).2,
     w9.heap.size, b9.size, s6.out, fun k hk => (hv.lt k hk).2, b912.size⟩
  replace hOwns := Lib.hid hOwns
  have c312 : Below w3.heap.size w3 w12 := Below.step b4' (Below.step b5' (Below.step b6' (Below.step b7 b712)))
  clear hu hv hok3 hok4 t1 t2 hu9 ho9
  go_wp2_with fail
  refine (apart_lit _ _ _ _ hOwns.out (by simp) (by
    intro x hx
    simp at hx
    rcases hx with rfl | rfl | rfl <;> omega) _ rfl 6 rfl).mono ?_
  rintro e w13 ⟨rfl, b13⟩
  have c313 : Below w3.heap.size w3 w13 := (Below.step c312 (belowAlloc _ _)).trans b13
  have c13 := c3.trans (c313.mono c3.size)
  go_wp2_with fail
  refine (kept_any _ x va xs _ (hx.below c313) (ha.out.below c13) (by omega)).mono ?_
  rintro e w14 h14
  obtain ⟨rfl, b14⟩ := h14.below
  clear h14
  go_wp2_with fail
  refine (kept_any _ y vb ys _ (hy.below (Below.step c313 b14)) (hb.out.below (Below.step c13 b14)) (by omega)).mono ?_
  rintro e w15 h15
  obtain ⟨rfl, b15⟩ := h15.below
  clear h15
  have c15 := Lib.hid (Below.step (Below.step c13 b14) b15)
  go_wp2
  go_ret
  exact ⟨_, rfl, c15.out, rfl⟩
end Go.Proofs.YtmddapkhipmlgaaDoor
