/-
  Walk: edenlaw18.AddAll returns true.
-/
import Derived.Test.YtmddapkhipmlgaaDoorAddAllC
import Derived.Test.YtmddapkhipmlgaaDoorErrSet
namespace Go.Proofs.YtmddapkhipmlgaaDoor
open Go.RowKit
set_option maxRecDepth 100000

set_option maxHeartbeats 1000000 in
theorem addAll_any (r : Nat → Addr) (kr Rr : Int) (va : Option Addr) (vn vc : Nat) (T : List Int) (k R : Int) (v3 v4 : Value) (xs ys : List Int) (w : World) (hg : Glob r w) (hG : GlobE w) (hT : IntsAt w (.slice va vn vc) T) (h3 : IntsAt w v3 xs) (h4 : IntsAt w v4 ys)
    (hTl : T.length ≤ 17592186043904) (hxl : xs.length ≤ 17592186043904) (hyl : ys.length ≤ 17592186043904) :
    Calls Tryd.prog 8 #[.agg #[.int .i64 kr, .int .i64 Rr, .slice va vn vc], .int .i64 k, .int .i64 R, v3, v4] w (Ret1 (fun x _ => x = .bool true) w) := by
  have b0 := belowAlloc w (.cells #[.int .i64 kr, .int .i64 Rr, .slice va vn vc] 24)
  have q5 : Box3 (w.alloc (.cells #[.int .i64 kr, .int .i64 Rr, .slice va vn vc] 24)) w.heap.size (.int .i64 kr) (.int .i64 Rr) (.slice va vn vc) := by simp [Box3, go_sem]
  replace hg := Lib.hid (hg.below b0)
  replace hG := Lib.hid (hG.below b0)
  replace hT := Lib.hid (hT.below b0)
  replace h3 := Lib.hid (h3.below b0)
  replace h4 := Lib.hid (h4.below b0)
  go_enter Tryd.func8, Tryd.ntmps8
  go_wp2_with fail
  refine (awake18 r _ hg.out).mono ?_
  rintro e w1 ⟨_, rfl, b1, rfl⟩
  have q5' := q5.below b1
  obtain ⟨⟨z0, z1, z2⟩, -, -, -⟩ := q5'
  go_wp2_with fail
  refine (lentRule_any kr Rr va vn vc T _ (hT.out.below b1) (by omega)).mono ?_
  rintro e w2 ⟨x, rfl, b2, ma, mn, mc, rfl, hm⟩
  clear z0 z1 z2
  go_wp2_with fail
  have c2 := Below.step b2 (belowAlloc w2 (.cells #[.int .i64 kr, .int .i64 Rr, .slice ma mn mc] 24))
  have q11 : Box3 (w2.alloc (.cells #[.int .i64 kr, .int .i64 Rr, .slice ma mn mc] 24)) w2.heap.size (.int .i64 kr) (.int .i64 Rr) (.slice ma mn mc) := by simp [Box3, go_sem]
  have d2 := Below.step b1 c2
  refine (lent_any v3 xs _ (h3.out.below d2) (by omega)).mono ?_
  rintro e w3 ⟨x, rfl, b3, hx⟩
  have d3 := Below.step d2 b3
  go_wp2_with fail
  refine (lent_any v4 ys _ (h4.out.below d3) (by omega)).mono ?_
  rintro e w4 ⟨y, rfl, b4, hy⟩
  have d4 := Below.step d3 b4
  go_wp2_with fail
  refine (make_rd r k R x xs _ (hg.out.below d4) (hx.at.below b4)).mono ?_
  rintro e w5 ⟨s, e5, rfl, b5, sa, sn, sc, rfl, hs, he5⟩
  go_wp2_with fail
  have c5 := Below.step b5 (belowAlloc w5 (.cells #[.int .i64 (mkK k R xs), .int .i64 (mkR k R xs), .slice sa sn sc] 24))
  have q14 : Box3 (w5.alloc (.cells #[.int .i64 (mkK k R xs), .int .i64 (mkR k R xs), .slice sa sn sc] 24)) w5.heap.size (.int .i64 (mkK k R xs)) (.int .i64 (mkR k R xs)) (.slice sa sn sc) := by simp [Box3, go_sem]
  have d5 := Below.step d4 c5
  refine (m18_rd k R v3 xs _ (h3.out.below d5)).mono ?_
  rintro e w6 ⟨t, f, rfl, b6, ta, tn, tc, rfl, ht, hf⟩
  obtain ⟨fn, f1, f2, f3, f4, f5, f6, rfl⟩ := hf.shape
  have c6 := Below.step b6 (Below.step (belowAlloc w6 (.cells #[.int .i64 (mkK k R xs), .int .i64 (mkR k R xs), .slice ta tn tc] 24)) (belowAlloc _ (.cells #[.int .i64 fn, .slice f1 f2 f3, .slice f4 f5 f6] 55)))
  have q16 : Box3 ((w6.alloc (.cells #[.int .i64 (mkK k R xs), .int .i64 (mkR k R xs), .slice ta tn tc] 24)).alloc (.cells #[.int .i64 fn, .slice f1 f2 f3, .slice f4 f5 f6] 55)) w6.heap.size (.int .i64 (mkK k R xs)) (.int .i64 (mkR k R xs)) (.slice ta tn tc) := by simp [Box3, go_sem]
  have q17 : Box3 ((w6.alloc (.cells #[.int .i64 (mkK k R xs), .int .i64 (mkR k R xs), .slice ta tn tc] 24)).alloc (.cells #[.int .i64 fn, .slice f1 f2 f3, .slice f4 f5 f6] 55)) (w6.heap.size + 1) (.int .i64 fn) (.slice f1 f2 f3) (.slice f4 f5 f6) := by simp [Box3, go_sem]
  have d6 := Below.step d5 c6
  have g26 := Below.step b3 (Below.step b4 (Below.step c5 c6))
  have p11 := q11.below g26
  obtain ⟨⟨z0, z1, z2⟩, -, -, -⟩ := p11
  go_wp2_with fail
  refine (of_any r kr Rr ma mn mc T _ (hg.out.below d6) ((hm.at.below (belowAlloc _ _)).below g26)).mono ?_
  rintro e w7 ⟨u, _, g, rfl, b7, hu, rfl, hgg⟩
  clear z0 z1 z2
  have d7 := Below.step d6 b7
  have p5 := q5.below d7
  obtain ⟨⟨z0, z1, z2⟩, -, -, -⟩ := p5
  go_wp2_with fail
  refine (of18_any kr Rr va vn vc T _ (hT.out.below d7)).mono ?_
  rintro e w8 ⟨v, _, h, rfl, b8, hv, rfl, hh⟩
  obtain ⟨hn, i1, i2, i3, i4, i5, i6, rfl⟩ := hh.shape
  have c8 := Below.step b8 (belowAlloc w8 (.cells #[.int .i64 hn, .slice i1 i2 i3, .slice i4 i5 i6] 55))
  have q23 : Box3 (w8.alloc (.cells #[.int .i64 hn, .slice i1 i2 i3, .slice i4 i5 i6] 55)) w8.heap.size (.int .i64 hn) (.slice i1 i2 i3) (.slice i4 i5 i6) := by simp [Box3, go_sem]
  have d8 := Below.step d7 c8
  have g68 := Below.step b7 c8
  have p14 := (q14.below c6).below g68
  have p16 := q16.below g68
  have p17 := q17.below g68
  obtain ⟨⟨x0, x1, x2⟩, -, -, -⟩ := p14
  obtain ⟨⟨y0, y1, y2⟩, -, -, -⟩ := p16
  clear z0 z1 z2
  go_wp2_with fail
  refine (rules_any _ _ _ _ sa sn sc ta tn tc (mkL k R xs) (mkL k R xs) _ (((hs.below (belowAlloc _ _)).below c6).below g68) (((ht.below (belowAlloc _ _)).below (belowAlloc _ _)).below g68)).mono ?_
  rintro e w9 ⟨_, rfl, b9, rfl⟩
  rw [show ((mkK k R xs == mkK k R xs) && ((mkR k R xs == mkR k R xs) && decide (mkL k R xs = mkL k R xs))) = true by simp]
  clear x0 x1 x2 y0 y1 y2
  have d9 := Below.step d8 b9
  have g69 := Below.step g68 b9
  have p17 := q17.below g69
  obtain ⟨⟨x0, x1, x2⟩, -, -, -⟩ := p17
  go_wp2_with fail
  refine (raw_is r (makeP k R xs) e5 _ _ (hg.out.below d9) (hG.out.below d9) (((he5.below (belowAlloc _ _)).below c6).below g69) (((hf.below (belowAlloc _ _)).below (belowAlloc _ _)).below g69) (makeP_fine ..)).mono ?_
  rintro e w10 ⟨_, rfl, b10, rfl⟩
  clear x0 x1 x2
  have b8t := Below.step (belowAlloc w8 (.cells #[.int .i64 hn, .slice i1 i2 i3, .slice i4 i5 i6] 55)) (Below.step b9 b10)
  have d10 := Below.step d9 b10
  go_wp2_with fail
  refine (ints_any u v (ofL kr Rr T) (ofL kr Rr T) _ ((hu.below b8).below b8t) (hv.below b8t)).mono ?_
  rintro e w11 h11
  obtain ⟨rfl, b11⟩ := h11.below
  clear h11
  rw [show decide (ofL kr Rr T = ofL kr Rr T) = true by simp]
  have d11 := Below.step d10 b11
  have b8u := Below.step b8t b11
  have p23 := q23.below (Below.step b9 (Below.step b10 b11))
  obtain ⟨⟨x0, x1, x2⟩, -, -, -⟩ := p23
  have hbb : (ofB kr Rr T != ofB kr Rr T) = false := by simp
  go_wp2_with fail
  refine (raw_is r (ofP kr Rr T) g _ _ (hg.out.below d11) (hG.out.below d11) ((hgg.below b8).below b8u) (hh.below b8u) (ofP_fine ..)).mono ?_
  rintro e w12 ⟨_, rfl, b12, rfl⟩
  clear x0 x1 x2
  have d12 := Below.step d11 b12
  have g912 := Below.step b9 (Below.step b10 (Below.step b11 b12))
  have g6x := Below.step g68 g912
  have gx := Below.step b4 (Below.step c5 (Below.step c6 g6x))
  have gm := Below.step b3 gx
  clear he5 hf hgg hh hu hv hs ht q14 q16 p17 b8t b8u hbb
  go_wp2_with fail
  refine (add_onto r k x xs _ (hg.out.below d12) ((hx.at).below gx) (by omega)).mono ?_
  rintro e w13 ⟨_, e13, rfl, b13, rfl, he13⟩
  have d13 := Below.step d12 b13
  go_wp2_with fail
  refine (onto18_any k v3 xs _ (h3.out.below d13)).mono ?_
  rintro e w14 ⟨_, f14, rfl, b14, rfl, hf14⟩
  obtain ⟨fn', f1', f2', f3', f4', f5', f6', rfl⟩ := hf14.shape
  have b1314 := Below.step b13 b14
  have p17 := (q17.below g6x).below b1314
  have p17' := p17
  obtain ⟨⟨x0, x1, x2⟩, fx0, fx1, fx2⟩ := p17'
  have s0 := (Below.step d5 b6).size
  have s1 := (Below.step b3 (Below.step b4 (Below.step c5 b6))).size
  have s3 := (Below.step b4 (Below.step c5 b6)).size
  have s4 := (Below.step c5 b6).size
  have gy := Below.step c5 (Below.step c6 g6x)
  have s68 := g68.size
  have s614 := g6x.size
  have s8c := c8.size
  simp only [World.size_alloc] at s68 s614 s8c
  go_wp2_with fail
  obtain ⟨S, hS⟩ : ∃ S, S = st3 w14 (w6.heap.size + 1) (.int .i64 fn') (.slice f1' f2' f3') (.slice f4' f5' f6') := ⟨_, rfl⟩
  have D0 : Below _ _ S := hS ▸ below_st3 (Below.step d13 b14) (by omega) _ _ _
  have D1 : Below _ _ S := hS ▸ below_st3 (Below.step gm b1314) (by omega) _ _ _
  have D3 : Below _ _ S := hS ▸ below_st3 (Below.step gx b1314) (by omega) _ _ _
  have D4 : Below _ _ S := hS ▸ below_st3 (Below.step gy b1314) (by omega) _ _ _
  have P17 : Box3 S _ _ _ _ := hS ▸ p17.st3 (.int .i64 fn') (.slice f1' f2' f3') (.slice f4' f5' f6')
  have E13 : ErrIs r S (factP k xs) e13 := hS ▸ (he13.below b14).st3 p17 (by simp) _ _ _ (by simp)
  have F14 : EOwn w13.heap.size S (factP k xs) (.agg #[.int .i64 fn', .slice f1' f2' f3', .slice f4' f5' f6']) := by rw [hS]; exact hf14.set3 (b := w6.heap.size + 1) (by have := b13.size; omega) _ _ _
  have P23 : Box3 S w8.heap.size _ _ _ := hS ▸ ((q23.below g912).below b1314).st3_far (by have := b8.size; have := b7.size; simp only [World.size_alloc] at this; omega) _ _ _
  have sS : S.heap.size = w14.heap.size := hS ▸ st3_size ..
  rw [show (((w14.setCell ⟨w6.heap.size + 1, 0, none⟩ (.int .i64 fn')).setCell ⟨w6.heap.size + 1, 1, none⟩ (.slice f1' f2' f3')).setCell ⟨w6.heap.size + 1, 2, none⟩ (.slice f4' f5' f6')) = S from hS.symm]
  clear hS x0 x1 x2 fx0 fx1 fx2 he13 p17 hf14
  refine (add_one r k x xs _ (hg.out.below D0) (hx.at.below D3) (by omega)).mono ?_
  rintro e w15 ⟨_, g15, rfl, b15, rfl, hg15⟩
  go_wp2_with fail
  refine (one18_any k v3 xs _ (h3.out.below (Below.step D0 b15))).mono ?_
  rintro e w16 ⟨_, h16, rfl, b16, rfl, hh16⟩
  obtain ⟨hn', i1', i2', i3', i4', i5', i6', rfl⟩ := hh16.shape
  have g1516 := Below.step b15 b16
  have p23 := P23.below g1516
  have p23' := p23
  obtain ⟨⟨x0, x1, x2⟩, fx0, fx1, fx2⟩ := p23'
  have t0 := (Below.step d7 b8).size
  have t1 := (Below.step b3 (Below.step b4 (Below.step c5 (Below.step c6 (Below.step b7 b8))))).size
  have t3 := (Below.step b4 (Below.step c5 (Below.step c6 (Below.step b7 b8)))).size
  have t4 := (Below.step c5 (Below.step c6 (Below.step b7 b8))).size
  have t9 := (Below.step g912 b13).size
  have tS := (Below.step b14 (Below.refl _ _)).size
  simp only [World.size_alloc] at t9
  have u6 : w6.heap.size + 1 < w8.heap.size := by have := (Below.step b7 b8).size; simp only [World.size_alloc] at this; omega
  go_wp2_with fail
  obtain ⟨U, hU⟩ : ∃ U, U = st3 w16 w8.heap.size (.int .i64 hn') (.slice i1' i2' i3') (.slice i4' i5' i6') := ⟨_, rfl⟩
  have D0' : Below _ _ U := hU ▸ below_st3 (Below.step D0 g1516) (by omega) _ _ _
  have D1' : Below _ _ U := hU ▸ below_st3 (Below.step D1 g1516) (by omega) _ _ _
  have D3' : Below _ _ U := hU ▸ below_st3 (Below.step D3 g1516) (by omega) _ _ _
  have D4' : Below _ _ U := hU ▸ below_st3 (Below.step D4 g1516) (by omega) _ _ _
  have P23' : Box3 U _ _ _ _ := hU ▸ p23.st3 (.int .i64 hn') (.slice i1' i2' i3') (.slice i4' i5' i6')
  have E15 : ErrIs r U (factP k xs) g15 := hU ▸ (hg15.below b16).st3 p23 (by simp) _ _ _ (by simp)
  have E13' : ErrIs r U (factP k xs) e13 := hU ▸ (E13.below g1516).st3 p23 (by simp) _ _ _ (by simp)
  have F16 : EAt U (factP k xs) (.agg #[.int .i64 hn', .slice i1' i2' i3', .slice i4' i5' i6']) := by rw [hU]; exact (hh16.set3 (b := w8.heap.size) (by have := b15.size; omega) _ _ _).at
  have F14' : EAt U (factP k xs) (.agg #[.int .i64 fn', .slice f1' f2' f3', .slice f4' f5' f6']) := by rw [hU]; exact ((F14.below g1516).set3 (b := w8.heap.size) (by omega) _ _ _).at
  have P17' : Box3 U (w6.heap.size + 1) _ _ _ := hU ▸ (P17.below g1516).st3_far (by omega) _ _ _
  rw [show (((w16.setCell ⟨w8.heap.size, 0, none⟩ (.int .i64 hn')).setCell ⟨w8.heap.size, 1, none⟩ (.slice i1' i2' i3')).setCell ⟨w8.heap.size, 2, none⟩ (.slice i4' i5' i6')) = U from hU.symm]
  clear hU x0 x1 x2 fx0 fx1 fx2 p23 hg15 hh16 E13 F14 P17 P23 D0 D1 D3 D4
  refine (mul_rd r k x y xs ys _ (hg.out.below D0') (hx.at.below D3') (hy.at.below D4') (by omega) (by omega)).mono ?_
  rintro e w17 ⟨p17, i17, rfl, b17, hp17, hi17⟩
  go_wp2_with fail
  refine (mul18_rd k v3 v4 xs ys _ (h3.out.below (Below.step D0' b17)) (h4.out.below (Below.step D0' b17))).mono ?_
  rintro e w18 ⟨z18, j18, rfl, b18, hz18, hj18⟩
  obtain ⟨jn, j1, j2, j3, j4, j5, j6, rfl⟩ := hj18.shape
  have c18 := Below.step b18 (belowAlloc w18 (.cells #[.int .i64 jn, .slice j1 j2 j3, .slice j4 j5 j6] 55))
  have v18 : Box3 (w18.alloc (.cells #[.int .i64 jn, .slice j1 j2 j3, .slice j4 j5 j6] 55)) w18.heap.size (.int .i64 jn) (.slice j1 j2 j3) (.slice j4 j5 j6) := by simp [Box3, go_sem]
  have k18 := Below.step b17 c18
  have bO : (toldP mayOnto k xs != toldP mayOnto k xs) = false := by simp
  have bP : (toldP mayOne k xs != toldP mayOne k xs) = false := by simp
  have n17 := P17'.below k18
  obtain ⟨⟨x0, x1, x2⟩, -, -, -⟩ := n17
  go_wp2_with fail
  refine (raw_is r (factP k xs) e13 _ _ ((hg.out.below D0').below k18) ((hG.out.below D0').below k18) (E13'.below k18) (F14'.below k18) (factP_fine ..)).mono ?_
  rintro e w19 ⟨_, rfl, b19, rfl⟩
  clear x0 x1 x2
  have n23 := (P23'.below k18).below b19
  obtain ⟨⟨x0, x1, x2⟩, -, -, -⟩ := n23
  go_wp2_with fail
  have k19 := Below.step k18 b19
  refine (raw_is r (factP k xs) g15 _ _ ((hg.out.below D0').below k19) ((hG.out.below D0').below k19) (E15.below k19) (F16.below k19) (factP_fine ..)).mono ?_
  rintro e w20 ⟨_, rfl, b20, rfl⟩
  clear x0 x1 x2
  have k20 := Below.step k19 b20
  have c20 := Below.step (belowAlloc w18 (.cells #[.int .i64 jn, .slice j1 j2 j3, .slice j4 j5 j6] 55)) (Below.step b19 b20)
  go_wp2_with fail
  refine (ints_any p17 z18 (mlL k xs ys) (mlL k xs ys) _ (hp17.below (Below.step b18 c20)) (hz18.below c20)).mono ?_
  rintro e w21 h21
  obtain ⟨rfl, b21⟩ := h21.below
  clear h21
  rw [show decide (mlL k xs ys = mlL k xs ys) = true by simp]
  have k21 := Below.step k20 b21
  have c21 := Below.step c20 b21
  have n18 := v18.below (Below.step b19 (Below.step b20 b21))
  obtain ⟨⟨x0, x1, x2⟩, -, -, -⟩ := n18
  go_wp2_with fail
  refine (raw_is r (mulP k xs ys) i17 _ _ ((hg.out.below D0').below k21) ((hG.out.below D0').below k21) (hi17.below (Below.step b18 c21)) (hj18.below c21) (mulP_fine ..)).mono ?_
  rintro e w22 ⟨_, rfl, b22, rfl⟩
  clear x0 x1 x2
  have k22 := Below.step k21 b22
  have n11 := (q11.belowB D1' (by simp)).below k22
  obtain ⟨⟨x0, x1, x2⟩, -, -, -⟩ := n11
  have n5 := (q5.belowB D0' (by simp)).below k22
  obtain ⟨⟨y0, y1, y2⟩, -, -, -⟩ := n5
  go_wp2_with fail
  refine (keptRule_any _ kr Rr ma mn mc va vn vc T _ (((hm.below (belowAlloc _ _)).below D1').below k22) ((hT.out.below D0').below k22) (by omega)).mono ?_
  rintro e w23 ⟨_, rfl, b23, rfl⟩
  clear x0 x1 x2 y0 y1 y2
  have k23 := Below.step k22 b23
  go_wp2_with fail
  refine (kept_any _ x v3 xs _ ((hx.below D3').below k23) ((h3.out.below D0').below k23) (by omega)).mono ?_
  rintro e w24 h24
  obtain ⟨rfl, b24⟩ := h24.below
  clear h24
  have k24 := Below.step k23 b24
  go_wp2_with fail
  refine (kept_any _ y v4 ys _ ((hy.below D4').below k24) ((h4.out.below D0').below k24) (by omega)).mono ?_
  rintro e w25 h25
  obtain ⟨rfl, b25⟩ := h25.below
  clear h25
  go_wp2
  go_ret
  exact ⟨_, rfl, Below.step b0 (Below.step D0' (Below.step k24 b25)), rfl⟩

theorem addAll_v (r : Nat → Addr) (kr Rr : Int) (u : Value) (T : List Int) (k R : Int) (v3 v4 : Value) (xs ys : List Int) (w : World) (hg : Glob r w) (hG : GlobE w) (hT : IntsAt w u T) (h3 : IntsAt w v3 xs) (h4 : IntsAt w v4 ys)
    (hTl : T.length ≤ 17592186043904) (hxl : xs.length ≤ 17592186043904) (hyl : ys.length ≤ 17592186043904) :
    Calls Tryd.prog 8 #[.agg #[.int .i64 kr, .int .i64 Rr, u], .int .i64 k, .int .i64 R, v3, v4] w (Ret1 (fun x _ => x = .bool true) w) := by
  obtain ⟨a, n, c, rfl⟩ := hT.shape
  exact addAll_any r kr Rr a n c T k R v3 v4 xs ys w hg hG hT h3 h4 hTl hxl hyl
end Go.Proofs.YtmddapkhipmlgaaDoor
