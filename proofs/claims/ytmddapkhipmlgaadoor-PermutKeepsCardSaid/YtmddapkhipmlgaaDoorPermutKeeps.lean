/-
  Walk: edenlaw19.PermutKeeps returns true.
-/
import Derived.Test.YtmddapkhipmlgaaDoorLaw19
import Derived.Test.YtmddapkhipmlgaaDoorLent
import Derived.Test.YtmddapkhipmlgaaDoorKin
import Derived.Test.YtmddapkhipmlgaaDoorBack
namespace Go.Proofs.YtmddapkhipmlgaaDoor
open Go.RowKit
set_option maxRecDepth 100000

theorem errTest {r : Nat → Addr} {w : World} {t : PErr} {v : Value} (h : ErrIs r w t v) : (t = none ∧ v = .nilIface) ∨ (t ≠ none ∧ ∃ T a, v = .iface T (.pointer (some a))) := by
  cases t with
  | none => exact .inl ⟨rfl, h⟩
  | some t => exact .inr ⟨by simp, h.some_shape⟩

theorem permF_none {k R : Int} {T : List Int} {W : Nat} {ys zs : List Int} (h : permF k R T W ys zs = none) : ∃ K Q : Nat, k = K ∧ R = Q ∧ RuleOk K Q T ∧ unlikeP K T W = true ∧ checkM K Q ys zs = none := by
  unfold permF at h
  cases hc : checkP k R T with
  | some t => rw [hc] at h; cases h
  | none =>
    rw [hc] at h
    simp only at h
    obtain ⟨K, Q, rfl, rfl, hr⟩ := checkP_none hc
    simp only [Int.toNat_natCast] at h
    cases hu : unlikeP K T W with
    | false => rw [hu, if_pos rfl] at h; cases h
    | true => rw [hu, if_neg (by decide)] at h; exact ⟨K, Q, rfl, rfl, hr, hu, h⟩

theorem checkM_nil {K Q : Nat} {ys zs : List Int} (h : checkM K Q ys zs = none) : checkM K Q [] zs = none := by
  obtain ⟨_, h2, _, h4⟩ := checkM_none h
  unfold checkM
  rw [if_neg (by simp), if_neg (by simpa using h2), if_pos]
  simpa using h4.odd

theorem permF_nil {k R : Int} {T : List Int} {W : Nat} {ys zs : List Int} (h : permF k R T W ys zs = none) : permF k R T W [] zs = none := by
  obtain ⟨K, Q, rfl, rfl, hr, hu, hc⟩ := permF_none h
  simp [permF, hr.check, hu, checkM_nil hc]

set_option maxHeartbeats 800000 in
theorem permutKeeps_any (r : Nat → Addr) (k R : Int) (va : Option Addr) (vn vc : Nat) (T : List Int) (v1 v2 : Value) (ys zs : List Int) (w : World) (hg : Glob r w) (h : IntsAt w (.slice va vn vc) T) (h1 : IntsAt w v1 ys) (h2 : IntsAt w v2 zs) (hyl : ys.length ≤ 17592186043904) (hzl : zs.length ≤ 17592186043904) :
    Calls Tryd.prog 5 #[.agg #[.int .i64 k, .int .i64 R, .slice va vn vc], v1, v2] w (Ret1 (fun x _ => x = .bool true) w) := by
  have b0 := belowAlloc w (.cells #[.int .i64 k, .int .i64 R, .slice va vn vc] 24)
  have hly := h1.len
  replace hg := Lib.hid (hg.below b0)
  replace h := Lib.hid (h.below b0)
  replace h1 := Lib.hid (h1.below b0)
  replace h2 := Lib.hid (h2.below b0)
  go_enter Tryd.func5, Tryd.ntmps5
  go_wp2_with fail
  refine (awake19 r _ hg.out).mono ?_
  rintro e w1 ⟨_, rfl, b1, rfl⟩
  go_wp2_with fail
  refine (lent_any v1 ys _ (h1.out.below b1) (by omega)).mono ?_
  rintro e w2 ⟨x, rfl, b2, hx⟩
  have c2 := Below.step b1 b2
  go_wp2_with fail
  refine (lent_any v2 zs _ (h2.out.below c2) (by omega)).mono ?_
  rintro e w3 ⟨y, rfl, b3, hy⟩
  have c3 := Below.step c2 b3
  replace hx := hx.below b3
  obtain ⟨z0, z1, z2, -, -, -⟩ := cells3 c3
  have zz := Lib.hid (And.intro z0 (And.intro z1 z2))
  go_wp2_with fail
  refine (right_any r k R va vn vc T x y ys zs _ (hg.out.below c3) (h.out.below c3) hx.at hy.at).mono ?_
  rintro e w4 ⟨o1, e1, rfl, b4, he1, ok1, _⟩
  clear z0 z1 z2
  obtain ⟨z0, z1, z2⟩ := keep3 b4 zz.out
  have c4 := Below.step c3 b4
  go_wp2_with fail
  refine (right_any r k R va vn vc T x y ys zs _ (hg.out.below c4) (h.out.below c4) (hx.below b4).at (hy.below b4).at).mono ?_
  rintro e w5 ⟨o2, e2, rfl, b5, he2, ok2, _⟩
  clear z0 z1 z2
  have b45 := Below.step b4 b5
  obtain ⟨z0, z1, z2⟩ := keep3 b45 zz.out
  have c5 := Below.step c4 b5
  go_wp2_with fail
  refine (left_any r k R va vn vc T x y ys zs _ (hg.out.below c5) (h.out.below c5) (hx.below b45).at (hy.below b45).at).mono ?_
  rintro e w6 ⟨o3, e3, rfl, b6, he3, ok3, _⟩
  clear z0 z1 z2
  have b46 := Below.step b45 b6
  obtain ⟨z0, z1, z2⟩ := keep3 b46 zz.out
  have c6 := Lib.hid (Below.step c5 b6)
  have c06 := Lib.hid (Below.step b0 c6.out)
  rcases errTest he1 with ⟨hm1, rfl⟩ | ⟨_, T1, p1, rfl⟩
  case inr =>
    rcases errTest he2 with ⟨_, rfl⟩ | ⟨_, T2, p2, rfl⟩ <;>
    (go_wp2; go_ret; exact ⟨_, rfl, c06.out, rfl⟩)
  rcases errTest he2 with ⟨_, rfl⟩ | ⟨hm2, _⟩
  case inr => exact absurd hm1 hm2
  by_cases h100 : 100 < ys.length
  · go_wp2; go_ret; exact ⟨_, rfl, c06.out, rfl⟩
  have q1 := ok1 hm1
  have q2 := ok2 hm1
  have hmn := permF_nil hm1
  have hrl : (zs ++ rightP k.toNat T (numW k.toNat zs) ys).length ≤ 1000000 := by
    obtain ⟨K, Q, rfl, rfl, hr, hu, hc⟩ := permF_none hm1
    obtain ⟨_, h2, _, _⟩ := checkM_none hc
    have := hr.r3
    rw [List.length_append, rightP_length]
    omega
  have hzl7 : zs.length ≤ 7 := by
    obtain ⟨K, Q, rfl, rfl, hr, hu, hc⟩ := permF_none hm1
    obtain ⟨_, h2, _, _⟩ := checkM_none hc
    have := hr.r3
    omega
  generalize zs ++ rightP k.toNat T (numW k.toNat zs) ys = L at q1 q2 hrl
  replace hmn := Lib.hid hmn
  clear hm1 ok1 ok2 he1 he2
  have g56 := Below.step b5 b6
  go_wp2_with fail
  refine (ints_any o1 o2 L L _ (q1.at.below g56) (q2.at.below b6)).mono ?_
  rintro e w7 h7
  obtain ⟨rfl, b7⟩ := h7.below
  clear h7
  rw [show decide (L = L) = true by simp]
  have b47 := Below.step b46 b7
  have c7 := Below.step c6.out b7
  clear z0 z1 z2
  obtain ⟨z0, z1, z2⟩ := keep3 b47 zz.out
  go_wp2_with fail
  refine (right_any r k R va vn vc T _ y [] zs _ (hg.out.below c7) (h.out.below c7) (OwnI.nil 0 _).at (hy.below b47).at).mono ?_
  rintro e w8 ⟨o4, e4, rfl, b8, he4, ok4, _⟩
  have q4 := ok4 hmn.out
  rw [hmn.out] at he4
  obtain rfl := he4.none_eq
  rw [show zs ++ rightP k.toNat T (numW k.toNat zs) [] = zs by simp [rightP]] at q4
  clear he4 ok4 z0 z1 z2
  have c8 := Below.step c7 b8
  go_wp2_with fail
  refine (ints_any o4 v2 zs zs _ q4.at (h2.out.below c8)).mono ?_
  rintro e w9 h9
  obtain ⟨rfl, b9⟩ := h9.below
  clear h9
  rw [show decide (zs = zs) = true by simp]
  have b78 := Below.step b7 b8
  have b79 := Below.step b78 b9
  have c9 := Below.step c8 b9
  have d9 := Below.step (Below.step b47 b8) b9
  have s1 := q1.below (Below.step g56 b79)
  have s2 := q2.below (Below.step b6 b79)
  have s4 := q4.below b9
  obtain ⟨oa1, on1, oc1, rfl⟩ := q1.at.shape
  obtain ⟨oa2, on2, oc2, rfl⟩ := q2.at.shape
  obtain ⟨oa4, on4, oc4, rfl⟩ := q4.at.shape
  rcases errTest he3 with ⟨hm3, rfl⟩ | ⟨_, T3, p3, rfl⟩
  · have q3 := ok3 hm3
    have hl3 : ((leftS k.toNat T (numW k.toNat zs) ys).2 ++ zs).length ≤ 1000000 := by
      rw [List.length_append, leftS_length]; omega
    generalize (leftS k.toNat T (numW k.toNat zs) ys).2 ++ zs = L3 at q3 hl3
    have s3 := q3.below b79
    obtain ⟨oa3, on3, oc3, rfl⟩ := q3.at.shape
    have hOwns : Owns w9 w3.heap.size [.slice oa1 on1 oc1, .slice oa2 on2 oc2, .slice oa3 on3 oc3, .slice oa4 on4 oc4] [L, L, L3, zs] :=
      ⟨w4.heap.size, b4.size, s1, fun k hk => (q1.lt k hk).2,
       w5.heap.size, b5.size, s2, fun k hk => (q2.lt k hk).2,
       w6.heap.size, b6.size, s3, fun k hk => (q3.lt k hk).2,
       w8.heap.size, b78.size, s4.mono b7.size, fun k hk => (q4.lt k hk).2, b9.size⟩
    obtain ⟨v', w10, hrun, hval, hkin, b10, hd⟩ := app_kin w9 w3.heap.size [.slice oa1 on1 oc1, .slice oa2 on2 oc2, .slice oa4 on4 oc4] (.slice oa3 on3 oc3) _ hOwns.kin.swap (by simp) #[.slice oa1 on1 oc1, .slice oa2 on2 oc2, .slice oa4 on4 oc4] rfl 3 rfl rfl _ rfl
    replace hval := Lib.hid hval
    replace hkin := Lib.hid hkin
    replace hd := Lib.hid hd
    clear hOwns s1 s2 s3 s4 q1 q2 q3 q4 ok3 he3
    have d10 := Below.step d9 b10
    have e10 := Below.step c9 b10
    go_wp2_with (at_builtin; refine wpl_app_run rfl _ _ 41 rfl _ _ rfl rfl hrun ?_)
    refine (apart_kin _ _ _ _ _ hkin.out hval.out (by simp) (by
      intro x hx
      simp at hx
      rcases hx with rfl | rfl | rfl <;> omega) d10.size hd.out).mono ?_
    rintro e w11 ⟨rfl, b11⟩
    have cA := d10.trans b11
    have cB := e10.trans (b11.mono c3.size)
    go_wp2_with fail
    refine (kept_any _ x v1 ys _ (hx.below cA) (h1.out.below cB) (by omega)).mono ?_
    rintro e w12 h12
    obtain ⟨rfl, b12⟩ := h12.below
    clear h12
    have cA2 := Below.step cA b12
    have cB2 := Below.step cB b12
    go_wp2_with fail
    refine (kept_any _ y v2 zs _ (hy.below cA2) (h2.out.below cB2) (by omega)).mono ?_
    rintro e w13 h13
    obtain ⟨rfl, b13⟩ := h13.below
    clear h13
    have cB3 := Below.step cB2 b13
    go_wp2_with fail
    refine (back_any v1 ys _ (h1.out.below cB3) (by omega)).mono ?_
    rintro e w14 ⟨u1, rfl, b14, hu1⟩
    go_wp2_with fail
    refine (back_any u1 ys.reverse _ hu1.at (by simp; omega)).mono ?_
    rintro e w15 ⟨u2, rfl, b15, hu2⟩
    rw [List.reverse_reverse] at hu2
    have cB5 := Below.step (Below.step cB3 b14) b15
    go_wp2_with fail
    refine (ints_any u2 v1 ys ys _ hu2.at (h1.out.below cB5)).mono ?_
    rintro e w16 h16
    obtain ⟨rfl, b16⟩ := h16.below
    clear h16
    rw [show decide (ys = ys) = true by simp]
    have cF := Lib.hid (Below.step b0 (Below.step cB5 b16))
    go_wp2
    go_ret
    exact ⟨_, rfl, cF.out, rfl⟩
  · have hOwns : Owns w9 w3.heap.size [.slice oa1 on1 oc1, .slice oa2 on2 oc2, .slice oa4 on4 oc4] [L, L, zs] :=
      ⟨w4.heap.size, b4.size, s1, fun k hk => (q1.lt k hk).2,
       w5.heap.size, b5.size, s2, fun k hk => (q2.lt k hk).2,
       w8.heap.size, (by have := b6.size; have := b78.size; omega), s4.mono (by have := b6.size; have := b7.size; omega), fun k hk => (q4.lt k hk).2, b9.size⟩
    replace hOwns := Lib.hid hOwns
    clear s1 s2 s4 q1 q2 q4 ok3 he3
    have d10 := Below.step d9 (belowAlloc w9 (.cells #[.slice oa1 on1 oc1, .slice oa2 on2 oc2, .slice oa4 on4 oc4] 22))
    have e10 := Below.step c9 (belowAlloc w9 (.cells #[.slice oa1 on1 oc1, .slice oa2 on2 oc2, .slice oa4 on4 oc4] 22))
    go_wp2_with fail
    refine (apart_lit _ _ _ _ hOwns.out (by simp) (by
      intro x hx
      simp at hx
      rcases hx with rfl | rfl <;> omega) _ rfl 3 rfl).mono ?_
    rintro e w11 ⟨rfl, b11⟩
    have cA := d10.trans b11
    have cB := e10.trans (b11.mono c3.size)
    go_wp2_with fail
    refine (kept_any _ x v1 ys _ (hx.below cA) (h1.out.below cB) (by omega)).mono ?_
    rintro e w12 h12
    obtain ⟨rfl, b12⟩ := h12.below
    clear h12
    have cA2 := Below.step cA b12
    have cB2 := Below.step cB b12
    go_wp2_with fail
    refine (kept_any _ y v2 zs _ (hy.below cA2) (h2.out.below cB2) (by omega)).mono ?_
    rintro e w13 h13
    obtain ⟨rfl, b13⟩ := h13.below
    clear h13
    have cB3 := Below.step cB2 b13
    go_wp2_with fail
    refine (back_any v1 ys _ (h1.out.below cB3) (by omega)).mono ?_
    rintro e w14 ⟨u1, rfl, b14, hu1⟩
    go_wp2_with fail
    refine (back_any u1 ys.reverse _ hu1.at (by simp; omega)).mono ?_
    rintro e w15 ⟨u2, rfl, b15, hu2⟩
    rw [List.reverse_reverse] at hu2
    have cB5 := Below.step (Below.step cB3 b14) b15
    go_wp2_with fail
    refine (ints_any u2 v1 ys ys _ hu2.at (h1.out.below cB5)).mono ?_
    rintro e w16 h16
    obtain ⟨rfl, b16⟩ := h16.below
    clear h16
    rw [show decide (ys = ys) = true by simp]
    have cF := Lib.hid (Below.step b0 (Below.step cB5 b16))
    go_wp2
    go_ret
    exact ⟨_, rfl, cF.out, rfl⟩

theorem permutKeeps_u (r : Nat → Addr) (k R : Int) (u : Value) (T : List Int) (v1 v2 : Value) (ys zs : List Int) (w : World) (hg : Glob r w) (h : IntsAt w u T) (h1 : IntsAt w v1 ys) (h2 : IntsAt w v2 zs) (hyl : ys.length ≤ 17592186043904) (hzl : zs.length ≤ 17592186043904) :
    Calls Tryd.prog 5 #[.agg #[.int .i64 k, .int .i64 R, u], v1, v2] w (Ret1 (fun x _ => x = .bool true) w) := by
  obtain ⟨va, vn, vc, rfl⟩ := h.shape
  exact permutKeeps_any r k R va vn vc T v1 v2 ys zs w hg h h1 h2 hyl hzl
end Go.Proofs.YtmddapkhipmlgaaDoor
